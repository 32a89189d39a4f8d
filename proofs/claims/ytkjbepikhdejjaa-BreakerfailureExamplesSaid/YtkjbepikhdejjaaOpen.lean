/- What an argument's reading says of its value's cells, kind by kind: integers, bools, strings, slices, structs, arrays; for whatever program. Conditions: none. -/
import Derived.SizedLaws
import Derived.Deep.Slices
import Derived.OpenShut
import Derived.DataReads
import Derived.Test.YtkjbepikhdejjaaWWords
namespace Go.Proofs.Ytkjbepikhdejjaa.Opened
open Go.RowKit Go.ChangeShapes Go.WideShapes Go.Proofs.YtkjbepikhdejjaaW.PrintWords

/-- Type t's cells, where they are read, are of kind d, and what they hold is good. -/
structure Opens {α : Type} (P : Program) (t : TypeId) (d : Kd α) (good : α → Prop) : Prop where
  sz : d.sz = P.cellsOf t
  get : ∀ {H : Type} (enc : TypeId × Value → H) (W : World) (base : Nat) (spare : Nat → Bool) (held : Bool) (fuel : Nat) (cs : List Value) (x : DataW H × List MemPlace),
    DataW.trod enc P W base spare held fuel t cs = some x → (∀ n ∈ x.1.weights P t, n ≤ reachBytes) → ∃ y, d.K W y cs ∧ good y

theorem opens_int {P : Program} {t : TypeId} {k : IntKind} (ht : P.underlying t = some (.int k)) (hc : P.cellsOf t = 1) : Opens P t (Kd.int k) (fun x => (Lit.int k x).wf = true) :=
  ⟨hc.symm, fun _ _ _ _ _ _ _ _ h _ => by
    obtain ⟨n, rfl, _, hw⟩ := DataW.trod_int ht h
    exact ⟨n, rfl, hw⟩⟩
theorem opens_bool {P : Program} {t : TypeId} (ht : P.underlying t = some .bool) (hc : P.cellsOf t = 1) : Opens P t Kd.bool (fun _ => True) :=
  ⟨hc.symm, fun _ _ _ _ _ _ _ _ h _ => by
    obtain ⟨n, rfl, _⟩ := DataW.trod_bool ht h
    exact ⟨n, rfl, trivial⟩⟩
theorem opens_string {P : Program} {t : TypeId} (ht : P.underlying t = some .string) (hc : P.cellsOf t = 1) : Opens P t Kd.string (fun s => s.size ≤ 140737488351232) :=
  ⟨hc.symm, fun _ _ _ _ _ _ _ _ h hz => by
    obtain ⟨s, rfl, rfl, _⟩ := DataW.trod_string ht h
    refine ⟨s, rfl, ?_⟩
    have := hz s.data.toList.length (by simp [DataW.weights])
    rw [data_length] at this
    exact this⟩

theorem opens_iso {α β : Type} {P : Program} {t : TypeId} {d : Kd α} {good : α → Prop} (f : β → α) (g : α → β) (hfg : ∀ a, f (g a) = a) (h : Opens P t d good) : Opens P t (Kd.iso d f) (fun b => good (f b)) :=
  ⟨h.sz, fun enc W base spare held fuel cs x hx hz => by
    obtain ⟨y, hy, hg⟩ := h.get enc W base spare held fuel cs x hx hz
    exact ⟨g y, by show d.K W (f (g y)) cs; rw [hfg]; exact hy, by show good (f (g y)); rw [hfg]; exact hg⟩⟩

/-- Fields in line, from cell 'start' on. -/
structure OpensF {α : Type} (P : Program) (fs : List Field) (start : Nat) (d : Kd α) (good : α → Prop) : Prop where
  get : ∀ {H : Type} (enc : TypeId × Value → H) (W : World) (base : Nat) (spare : Nat → Bool) (held : Bool) (n : Nat) (cs : List Value) (xs : List (DataW H × List MemPlace)),
    cs.length = start + d.sz → xs.length = fs.length → (∀ (i : Nat) (f : Field), fs[i]? = some f → DataW.trod enc P W base spare held n f.type ((cs.drop f.offset).take (P.cellsOf f.type)) = xs[i]?) →
    (∀ m ∈ DataW.weightsEach P (fs.map (·.type)) (xs.map (·.1)), m ≤ reachBytes) → ∃ y, d.K W y (cs.drop start) ∧ good y

theorem opensF_last {α : Type} {P : Program} {f : Field} {start : Nat} {d : Kd α} {good : α → Prop} (ho : f.offset = start) (h : Opens P f.type d good) : OpensF P [f] start d good :=
  ⟨fun enc W base spare held n cs xs hl hx hf hz => by
    match xs, hx with
    | [x], _ =>
      have h0 := hf 0 f rfl
      simp only [List.getElem?_cons_zero, ho] at h0
      have e : (cs.drop start).take (P.cellsOf f.type) = cs.drop start := List.take_of_length_le (by rw [List.length_drop, hl, h.sz]; omega)
      rw [e] at h0
      exact h.get enc W base spare held n _ x h0 (fun m hm => hz m (by simp [DataW.weightsEach, hm]))⟩
theorem opensF_cons {α β : Type} {P : Program} {f : Field} {fs : List Field} {start : Nat} {d : Kd α} {good : α → Prop} {d' : Kd β} {good' : β → Prop} (ho : f.offset = start) (h : Opens P f.type d good) (h' : OpensF P fs (start + d.sz) d' good') :
    OpensF P (f :: fs) start (Kd.pair d d') (fun x => good x.1 ∧ good' x.2) :=
  ⟨fun enc W base spare held n cs xs hl hx hf hz => by
    match xs, hx with
    | x :: xs, hx =>
      have h0 := hf 0 f rfl
      simp only [List.getElem?_cons_zero, ho] at h0
      obtain ⟨y, hy, hg⟩ := h.get enc W base spare held n _ x h0 (fun m hm => hz m (by simp [DataW.weightsEach, hm]))
      obtain ⟨y', hy', hg'⟩ := h'.get enc W base spare held n cs xs (by rw [hl]; show start + (d.sz + d'.sz) = _; omega) (by simpa using hx)
        (fun i g hi => by have := hf (i + 1) g hi; simpa using this) (fun m hm => hz m (by simp [DataW.weightsEach, hm]))
      refine ⟨(y, y'), ⟨_, _, ?_, hy, hy'⟩, hg, hg'⟩
      rw [← h.sz, ← List.drop_drop]
      exact (List.take_append_drop _ _).symm⟩
theorem opens_struct {α : Type} {P : Program} {t : TypeId} {fs : Array Field} {d : Kd α} {good : α → Prop} (ht : P.underlying t = some (.struct fs)) (hs : d.sz = P.cellsOf t) (h : OpensF P fs.toList 0 d good) : Opens P t d good :=
  ⟨hs, fun enc W base spare held fuel cs x hx hz => by
    obtain ⟨xs, n, _, rfl, hl, hxl, hf⟩ := DataW.trod_struct ht hx
    have := h.get enc W base spare held n cs xs (by rw [hl, hs]; omega) (by simpa using hxl) (fun i f hi => hf i f (by simpa using hi)) (fun m hm => hz m (by simpa [DataW.weights, ht] using hm))
    simpa using this⟩

theorem cells_each {W : World} {base : Nat} {a : Addr} {n : Nat} {cs : List Value} (h : W.cells? base a n = some cs) : cs.length = n ∧ ∀ i u, cs[i]? = some u → W.cell? (a.add i) = some u := by
  obtain ⟨_, h2, h3⟩ := World.cells?_some h
  refine ⟨h2, fun i u hu => ?_⟩
  have hi := (List.getElem?_eq_some_iff.1 hu).1
  exact (h3 i (by omega)).trans hu

theorem weightsAll_mem {H : Type} {P : Program} {e : TypeId} : ∀ {l : List (DataW H)} {d : DataW H}, d ∈ l → ∀ m ∈ d.weights P e, m ∈ DataW.weightsAll P e l
  | x :: l, d, hd, m, hm => by
    simp only [DataW.weightsAll, List.mem_append]
    rcases List.mem_cons.1 hd with rfl | hd
    · exact .inl hm
    · exact .inr (weightsAll_mem hd m hm)

theorem opens_slice {α : Type} {P : Program} {t e : TypeId} (e' : Nat) {d : Kd α} {good : α → Prop} (ht : P.underlying t = some (.slice e)) (hc : P.cellsOf t = 1) {B : Nat} (hB : P.bytesOf e = B) (h : Opens P e d good) :
    Opens P t (Kd.slice e' d) (fun l => l.length * B ≤ 140737488351232 ∧ l.length ≤ maxLen ∧ ∀ x ∈ l, good x) :=
  ⟨hc.symm, fun {H} enc W base spare held fuel cs x hx hz => by
    subst hB
    rcases Go.Deep.open_slice ht hx with ⟨rfl, rfl⟩ | ⟨a, len, cap, m, n, D, Pl, rfl, hb, hlc, hcm, hm, rfl, hel⟩
    · exact ⟨[], ⟨none, 0, rfl, Nat.le_refl _, Kd.C_nil d W⟩, by simp [maxLen]⟩
    · have hlm : len ≤ m := by rw [hm]; split <;> omega
      have hw1 : (len + (m - len)) * P.bytesOf e ≤ reachBytes := hz _ (by simp [DataW.weights, ht])
      have hall : ∀ i, i < len → ∃ y : α, good y ∧ ∃ c, c.length = d.sz ∧ d.K W y c ∧ ∀ j u, c[j]? = some u → W.cell? (a.add (i * d.sz + j)) = some u := by
        intro i hi
        obtain ⟨c, hcells, htr⟩ := hel i (by omega)
        obtain ⟨hcl, hce⟩ := cells_each hcells
        obtain ⟨y, hy, hg⟩ := h.get enc W base spare held n c _ htr (fun q hq => hz q (by
          simp only [DataW.weights, ht, List.mem_cons, List.mem_append]
          exact .inr (.inl (weightsAll_mem (List.mem_map.2 ⟨i, by simpa using hi, rfl⟩) q hq))))
        exact ⟨y, hg, c, by rw [hcl, h.sz], hy, fun j u hu => by rw [← Go.Deep.add_add, h.sz]; exact hce j u hu⟩
      have hex : ∃ l : List α, l.length = len ∧ ∀ i y, l[i]? = some y → good y ∧ ∃ c, c.length = d.sz ∧ d.K W y c ∧ ∀ j u, c[j]? = some u → W.cell? (a.add (i * d.sz + j)) = some u := by
        clear hlc hlm hw1 hz hel hm hx
        induction len with
        | zero => exact ⟨[], rfl, fun i y hi => by simp at hi⟩
        | succ len ih =>
          obtain ⟨l, hl, hp⟩ := ih (fun i hi => hall i (by omega))
          obtain ⟨y, hy⟩ := hall len (by omega)
          refine ⟨l ++ [y], by simp [hl], fun i z hi => ?_⟩
          rcases Nat.lt_or_ge i l.length with hlt | hge
          · rw [List.getElem?_append_left hlt] at hi
            exact hp i z hi
          · have e1 : i = l.length := by
              have := (List.getElem?_eq_some_iff.1 hi).1
              rw [List.length_append, List.length_singleton] at this
              omega
            subst e1
            have e2 : y = z := by simpa using hi
            subst e2
            rw [hl]; exact hy
      obtain ⟨l, rfl, hp⟩ := hex
      refine ⟨l, ⟨some a, cap, rfl, hlc, rfl, by unfold maxLen at hcm; omega, fun _ => ⟨a, rfl, fun j y hj => (hp j y hj).2⟩⟩, ?_, by omega, fun y hy => ?_⟩
      · exact Nat.le_trans (Nat.mul_le_mul_right _ (Nat.le_add_right _ _)) hw1
      · obtain ⟨i, hi, rfl⟩ := List.mem_iff_getElem.1 hy
        exact (hp i _ (List.getElem?_eq_getElem hi)).1⟩
end Go.Proofs.Ytkjbepikhdejjaa.Opened
