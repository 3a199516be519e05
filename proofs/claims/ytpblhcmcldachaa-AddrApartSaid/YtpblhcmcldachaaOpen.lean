/- Arguments that are slices of structs: what their cells hold, as a kind (Kd) tells it, and how long their rows are. No condition. -/
import Derived.Test.YtpblhcmcldachaaWWords
import Derived.SizedLaws
import Derived.ChangeSlices
import Derived.ChangeArms
import Derived.Deep.Slices
namespace Go.Proofs.Ytpblhcmcldachaa.Opn
open Go.RowKit Go.Proofs.YtpblhcmcldachaaW.PrintWords Go.ChangeShapes Go.WideShapes
set_option linter.unusedVariables false
set_option linter.unusedSimpArgs false

theorem choose_list {α : Type} {p : Nat → α → Prop} : ∀ {n : Nat}, (∀ i, i < n → ∃ y, p i y) → ∃ ys : List α, ys.length = n ∧ ∀ i y, ys[i]? = some y → p i y
  | 0, _ => ⟨[], rfl, fun i y h => by simp at h⟩
  | n + 1, h => by
    obtain ⟨ys, hl, hp⟩ := choose_list (n := n) fun i hi => h i (by omega)
    obtain ⟨y, hy⟩ := h n (by omega)
    refine ⟨ys ++ [y], by simp [hl], fun i z hz => ?_⟩
    by_cases hi : i < ys.length
    · rw [List.getElem?_append_left hi] at hz
      exact hp i z hz
    · rw [List.getElem?_append_right (by omega)] at hz
      have hin : i - ys.length = 0 := by
        have := (List.getElem?_eq_some_iff.1 hz).1
        simp at this
        omega
      rw [hin] at hz
      simp at hz
      subst hz
      have : i = n := by omega
      subst this
      exact hy
theorem weightsAll_mem {H : Type} {P : Program} {e : TypeId} {d : DataW H} {n : Nat} : ∀ {ds : List (DataW H)}, d ∈ ds → n ∈ d.weights P e → n ∈ DataW.weightsAll P e ds
  | d0 :: ds, hd, hn => by
    simp only [DataW.weightsAll, List.mem_append]
    rcases List.mem_cons.1 hd with rfl | hd
    · exact .inl hn
    · exact .inr (weightsAll_mem hd hn)
theorem weightsEach_append {H : Type} {P : Program} : ∀ {ts ts' : List TypeId} {ds ds' : List (DataW H)}, ds.length = ts.length → DataW.weightsEach P (ts ++ ts') (ds ++ ds') = DataW.weightsEach P ts ds ++ DataW.weightsEach P ts' ds'
  | [], ts', [], ds', _ => by simp [DataW.weightsEach]
  | t :: ts, ts', d :: ds, ds', h => by
    simp only [List.cons_append, DataW.weightsEach]
    rw [weightsEach_append (by simpa using h), List.append_assoc]
/-- A type whose cells, read as an argument, hold a value of this kind; what is so of it. -/
def Opn (P : Program) {α : Type} (d : Kd α) (t : TypeId) (E : α → Prop) : Prop :=
  d.sz = P.cellsOf t ∧ ∀ {H : Type} {enc : TypeId × Value → H} {w : World} {base : Nat} {spare : Nat → Bool} {held : Bool} {fuel : Nat} {cs : List Value} {x : DataW H × List MemPlace},
    DataW.trod enc P w base spare held fuel t cs = some x → (∀ n ∈ x.1.weights P t, n ≤ reachBytes) → ∃ y, d.K w y cs ∧ E y
/-- .. of fields in line. -/
def OpnAt (P : Program) {α : Type} (d : Kd α) (ts : List TypeId) (E : α → Prop) : Prop :=
  d.sz = (ts.map P.cellsOf).sum ∧ ∀ {H : Type} {enc : TypeId × Value → H} {w : World} {base : Nat} {spare : Nat → Bool} {held : Bool} {fuel : Nat} {cs : List Value} {xs : List (DataW H × List MemPlace)},
    xs.length = ts.length → cs.length = (ts.map P.cellsOf).sum →
    (∀ i t, ts[i]? = some t → DataW.trod enc P w base spare held fuel t ((cs.drop ((ts.take i).map P.cellsOf).sum).take (P.cellsOf t)) = xs[i]?) →
    (∀ n ∈ DataW.weightsEach P ts (xs.map (·.1)), n ≤ reachBytes) → ∃ y, d.K w y cs ∧ E y
section
variable {P : Program} {α β : Type} {t e : TypeId}
theorem Opn.int {k : IntKind} (ht : P.underlying t = some (.int k)) (hc : P.cellsOf t = 1) : Opn P (Kd.int k) t (fun n => (Lit.int k n).wf = true) :=
  ⟨hc.symm, fun h _ => by
    obtain ⟨n, rfl, rfl, hw⟩ := DataW.trod_int ht h
    exact ⟨n, rfl, hw⟩⟩
theorem Opn.bool (ht : P.underlying t = some .bool) (hc : P.cellsOf t = 1) : Opn P Kd.bool t (fun _ => True) :=
  ⟨hc.symm, fun h _ => by
    obtain ⟨b, rfl, rfl⟩ := DataW.trod_bool ht h
    exact ⟨b, rfl, trivial⟩⟩
theorem Opn.string (ht : P.underlying t = some .string) (hc : P.cellsOf t = 1) : Opn P Kd.string t (fun s => s.size ≤ reachBytes) :=
  ⟨hc.symm, fun h hn => by
    obtain ⟨s, rfl, rfl, hs⟩ := DataW.trod_string ht h
    refine ⟨s, rfl, ?_⟩
    have := hn s.data.toList.length (by simp [DataW.weights])
    simpa using this⟩
theorem Opn.slice {d : Kd α} {E : α → Prop} (ht : P.underlying t = some (.slice e)) (hc : P.cellsOf t = 1) (h : Opn P d e E) : Opn P (Kd.slice e d) t (fun xs => xs.length * P.bytesOf e ≤ reachBytes ∧ ∀ x ∈ xs, E x) :=
  ⟨hc.symm, fun {H enc w base spare held fuel cs x} hx hn => by
    rcases DataW.trod_slice ht hx with ⟨rfl, rfl⟩ | ⟨a, len, cap, elems, rest, n, rfl, rfl, rfl, hb, hl, hm, hlen, hel, hsp, hns⟩
    · exact ⟨[], ⟨none, 0, rfl, Nat.le_refl _, rfl, by simp, fun h => absurd h (by simp)⟩, by simp, by simp⟩
    · have each : ∀ i, i < len → ∃ y, (∃ cs', w.cells? base (a.add (i * P.cellsOf e)) (P.cellsOf e) = some cs' ∧ d.K w y cs') ∧ E y := by
        intro i hi
        have key := hel i hi
        rw [List.getElem?_eq_getElem (by omega)] at key
        obtain ⟨cs', h1, h2⟩ := Option.bind_eq_some_iff.1 key
        obtain ⟨y, hy, hE⟩ := h.2 h2 (fun m hm => hn m (by
          simp only [DataW.weights, ht, List.mem_cons, List.mem_append]
          exact .inr (.inl (weightsAll_mem (List.mem_map.2 ⟨_, List.getElem_mem _, rfl⟩) hm))))
        exact ⟨y, ⟨cs', h1, hy⟩, hE⟩
      obtain ⟨ys, hyl, hys⟩ := choose_list each
      have hw : (elems.length + rest.length) * P.bytesOf e ≤ reachBytes := by
        have := hn ((elems.length + rest.length) * P.bytesOf e) (by simp [DataW.weights, ht])
        exact this
      refine ⟨ys, ⟨some a, cap, by rw [hyl], by omega, rfl, ?_, fun _ => ⟨a, rfl, fun j p hj => ?_⟩⟩, ?_, fun x hxm => ?_⟩
      · have : maxLen ≤ 9223372036854775807 := by decide
        omega
      · obtain ⟨⟨cs', h1, hK⟩, _⟩ := hys j p hj
        have hl1 := d.K_len hK
        refine ⟨cs', hl1, hK, fun i u hu => ?_⟩
        obtain ⟨_, hcl, hcell⟩ := World.cells?_some h1
        have hi : i < cs'.length := (List.getElem?_eq_some_iff.1 hu).1
        have := hcell i (by omega)
        rw [Go.Deep.add_add, ← h.1] at this
        rw [this, hu]
      · rw [hyl]
        exact Nat.le_trans (Nat.mul_le_mul_right _ (by omega)) hw
      · obtain ⟨i, hi, rfl⟩ := List.getElem_of_mem hxm
        exact (hys i _ (List.getElem?_eq_getElem hi)).2⟩
theorem OpnAt.one {d : Kd α} {E : α → Prop} (h : Opn P d t E) : OpnAt P d [t] E :=
  ⟨by rw [h.1]; simp, fun {H enc w base spare held fuel cs xs} hl hc ht hn => by
    have h0 := ht 0 t rfl
    obtain ⟨x, rfl⟩ : ∃ x, xs = [x] := by
      match xs, hl with
      | [x], _ => exact ⟨x, rfl⟩
    simp at h0
    rw [show List.take (P.cellsOf t) cs = cs from List.take_of_length_le (by simp at hc; omega)] at h0
    exact h.2 h0 (fun n hn' => hn n (by simp [DataW.weightsEach, hn']))⟩
theorem OpnAt.pair {a : Kd α} {b : Kd β} {ts ts' : List TypeId} {E : α → Prop} {E' : β → Prop} (h : OpnAt P a ts E) (h' : OpnAt P b ts' E') : OpnAt P (Kd.pair a b) (ts ++ ts') (fun y => E y.1 ∧ E' y.2) :=
  ⟨by show a.sz + b.sz = _; rw [h.1, h'.1]; simp, fun {H enc w base spare held fuel cs xs} hl hc ht hn => by
    have hl2 : (xs.take ts.length).length = ts.length := by rw [List.length_take]; simp at hl; omega
    have hcs : cs.length = (ts.map P.cellsOf).sum + (ts'.map P.cellsOf).sum := by rw [hc]; simp
    have hsplit : DataW.weightsEach P (ts ++ ts') (xs.map (·.1)) = DataW.weightsEach P ts ((xs.take ts.length).map (·.1)) ++ DataW.weightsEach P ts' ((xs.drop ts.length).map (·.1)) := by
      rw [← weightsEach_append (by rw [List.length_map, hl2]), ← List.map_append, List.take_append_drop]
    rw [hsplit] at hn
    obtain ⟨y, hy, hE⟩ := h.2 (cs := cs.take (ts.map P.cellsOf).sum) (xs := xs.take ts.length) hl2 (by rw [List.length_take]; omega) (fun i t hi => by
      have hil : i < ts.length := (List.getElem?_eq_some_iff.1 hi).1
      have h0 := ht i t (by rw [List.getElem?_append_left hil]; exact hi)
      rw [List.take_append_of_le_length (by omega)] at h0
      rw [List.getElem?_take_of_lt hil, ← h0]
      congr 1
      have hle : ((ts.take i).map P.cellsOf).sum + P.cellsOf t ≤ (ts.map P.cellsOf).sum := by
        have e : ts = ts.take i ++ (t :: ts.drop (i + 1)) := by
          rw [List.getElem?_eq_getElem hil] at hi
          cases hi
          rw [← List.drop_eq_getElem_cons hil, List.take_append_drop]
        conv => rhs; rw [e]
        simp
      rw [List.drop_take, List.take_take]
      congr 1
      omega) (fun n hn' => hn n (List.mem_append_left _ hn'))
    obtain ⟨y', hy', hE'⟩ := h'.2 (cs := cs.drop (ts.map P.cellsOf).sum) (xs := xs.drop ts.length) (by rw [List.length_drop]; simp at hl; omega) (by rw [List.length_drop]; omega) (fun i t hi => by
      have h0 := ht (ts.length + i) t (by rw [List.getElem?_append_right (by omega)]; simpa using hi)
      have e3 : (ts ++ ts').take (ts.length + i) = ts ++ ts'.take i := by rw [List.take_append, List.take_of_length_le (by omega)]; simp
      rw [e3, List.map_append, List.sum_append] at h0
      rw [List.getElem?_drop, ← h0, List.drop_drop]) (fun n hn' => hn n (List.mem_append_right _ hn'))
    exact ⟨(y, y'), ⟨_, _, (List.take_append_drop _ _).symm, hy, hy'⟩, hE, hE'⟩⟩
theorem Opn.struct {d : Kd α} {ts : List TypeId} {fs : Array Field} {E : α → Prop} (ht : P.underlying t = some (.struct fs)) (hts : fs.toList.map (·.type) = ts)
    (ho : fs.toList.map (·.offset) = (List.range ts.length).map fun i => ((ts.take i).map P.cellsOf).sum) (hc : P.cellsOf t = (ts.map P.cellsOf).sum) (h : OpnAt P d ts E) : Opn P d t E :=
  ⟨by rw [h.1, hc], fun {H enc w base spare held fuel cs x} hx hn => by
    obtain ⟨xs, n, rfl, rfl, hcl, hxl, hf⟩ := DataW.trod_struct ht hx
    have hsz : ts.length = fs.size := by rw [← hts]; simp
    refine h.2 (enc := enc) (base := base) (spare := spare) (held := held) (fuel := n) (xs := xs) (by omega) (by omega) (fun i t' hi => ?_) (fun m hm => hn m (by simp only [DataW.weights, ht]; rw [hts]; exact hm))
    have hil : i < ts.length := (List.getElem?_eq_some_iff.1 hi).1
    have hfi : fs[i]? = some (fs[i]'(by omega)) := Array.getElem?_eq_getElem (by omega)
    have h0 := hf i _ hfi
    have e1 : (fs[i]'(by omega)).type = t' := by
      have : (fs.toList.map (·.type))[i]? = some (fs[i]'(by omega)).type := by simp [List.getElem?_map, hfi]
      rw [hts, hi] at this
      exact (Option.some.inj this).symm
    have e2 : (fs[i]'(by omega)).offset = ((ts.take i).map P.cellsOf).sum := by
      have h1 : (fs.toList.map (·.offset))[i]? = some (fs[i]'(by omega)).offset := by simp [List.getElem?_map, hfi]
      have h2 : ((List.range ts.length).map fun i => ((ts.take i).map P.cellsOf).sum)[i]? = some ((ts.take i).map P.cellsOf).sum := by simp [List.getElem?_map, List.getElem?_range hil]
      rw [ho, h2] at h1
      exact (Option.some.inj h1).symm
    rw [e1, e2] at h0
    exact h0⟩
theorem Opn.iso {d : Kd α} {E : α → Prop} {f : β → α} (g : α → β) (hg : ∀ y, f (g y) = y) (h : Opn P d t E) : Opn P (Kd.iso d f) t (fun x => E (f x)) :=
  ⟨h.1, fun hx hn => by
    obtain ⟨y, hy, hE⟩ := h.2 hx hn
    exact ⟨g y, by show d.K _ (f (g y)) _; rw [hg]; exact hy, by show E (f (g y)); rw [hg]; exact hE⟩⟩
theorem Opn.imp {d : Kd α} {E E' : α → Prop} (h : Opn P d t E) (hE : ∀ x, E x → E' x) : Opn P d t E' :=
  ⟨h.1, fun hx hn => by
    obtain ⟨y, hy, h1⟩ := h.2 hx hn
    exact ⟨y, hy, hE _ h1⟩⟩
/-- An argument that is a slice. -/
theorem Opn.arg {d : Kd α} {E : α → Prop} (h : Opn P d e E) (ht : P.underlying t = some (.slice e)) (hc : P.cellsOf t = 1) {H : Type} {enc : TypeId × Value → H} {W : World} {base : Nat} {spare : Nat → Bool} {held : Bool} {a : Option Addr} {len cap : Nat} {dd : DataW H} {ps : List MemPlace} {ts : List TypeId} {ds : List (DataW H)} {j : Nat}
    (hsz : (DataW.weightsEach P ts ds).all (· ≤ reachBytes) = true) (hj : ts[j]? = some t) (hd : ds[j]? = some dd) (hx : DataW.Trod enc P W base spare held t (.slice a len cap) dd ps) :
    ∃ xs, xs.length = len ∧ len ≤ cap ∧ Kd.C d W a xs.length xs ∧ len * P.bytesOf e ≤ 140737488351232 ∧ ∀ x ∈ xs, E x := by
  obtain ⟨fuel, hf⟩ := hx
  obtain ⟨xs, ⟨A, c, hcs, hlc, hC⟩, hB, hE⟩ := (Opn.slice ht hc h).2 hf (fun n hn => by
    have := List.all_eq_true.1 hsz _ (DataW.weights_mem_each hj hd n hn)
    simpa using this)
  simp [Value.cells] at hcs
  obtain ⟨rfl, rfl, rfl⟩ := hcs
  exact ⟨xs, rfl, hlc, hC, hB, hE⟩
end
end Go.Proofs.Ytpblhcmcldachaa.Opn
