/- Whatever of a type reads as data: its cells say something of the type's kind. A lemma for each make of type; no condition. -/
import Derived.SizedLaws
import Derived.ChangeSlices
import Derived.ChangeArms
import Derived.OpenShut
import Derived.Deep.Slices
import Derived.Lib.SmallJoins
import Derived.Test.YtocolmpfpbclbaaGreatDoorWWords
set_option linter.unusedVariables false
set_option linter.unusedSimpArgs false
namespace Go.Proofs.YtocolmpfpbclbaaGreatDoorW.XOpen
open Go.RowKit Go.ChangeShapes Go.WideShapes Go.Proofs.YtocolmpfpbclbaaGreatDoorW.PrintWords

/-- Of type t: what reads as data is, by its cells, an x of kind d with the property ok. -/
def Opens (P : Program) (t : TypeId) {α : Type} (d : Kd α) (ok : α → Prop) : Prop :=
  ∀ (H : Type) (enc : TypeId × Value → H) (w : World) (base : Nat) (spare : Nat → Bool) (held : Bool) (fuel : Nat) (cs : List Value) (x : DataW H × List MemPlace),
    DataW.trod enc P w base spare held fuel t cs = some x → (∀ n ∈ x.1.weights P t, n ≤ reachBytes) → ∃ y : α, d.K w y cs ∧ ok y

theorem opens_int {P : Program} {t : TypeId} {k : IntKind} (ht : P.underlying t = some (.int k)) : Opens P t (Kd.int k) (fun y => (Lit.int k y).wf = true) := by
  intro H enc w base spare held fuel cs x h hw
  obtain ⟨n, rfl, rfl, hn⟩ := DataW.trod_int ht h
  exact ⟨n, rfl, hn⟩
theorem opens_bool {P : Program} {t : TypeId} (ht : P.underlying t = some .bool) : Opens P t Kd.bool (fun _ => True) := by
  intro H enc w base spare held fuel cs x h hw
  obtain ⟨b, rfl, rfl⟩ := DataW.trod_bool ht h
  exact ⟨b, rfl, trivial⟩
theorem opens_string {P : Program} {t : TypeId} (ht : P.underlying t = some .string) : Opens P t Kd.string (fun y => y.size ≤ 140737488351232) := by
  intro H enc w base spare held fuel cs x h hw
  obtain ⟨s, rfl, rfl, hs⟩ := DataW.trod_string ht h
  refine ⟨s, rfl, ?_⟩
  have h1 := hw s.data.toList.length (by simp [DataW.weights])
  rw [Array.length_toList] at h1
  exact h1
theorem mem_weightsAll {H : Type} {P : Program} {e : TypeId} {n : Nat} : ∀ {l : List (DataW H)} {i : Nat} {d : DataW H}, l[i]? = some d → n ∈ d.weights P e → n ∈ DataW.weightsAll P e l
  | [], i, d, h, hn => by simp at h
  | a :: l, 0, d, h, hn => by
    simp only [List.getElem?_cons_zero, Option.some.injEq] at h
    subst h
    simp only [DataW.weightsAll, List.mem_append]
    exact .inl hn
  | a :: l, i + 1, d, h, hn => by
    simp only [List.getElem?_cons_succ] at h
    simp only [DataW.weightsAll, List.mem_append]
    exact .inr (mem_weightsAll h hn)
theorem opens_slice {P : Program} {t e : TypeId} {α : Type} {d : Kd α} {ok : α → Prop} {B : Nat} (ht : P.underlying t = some (.slice e)) (hc : P.cellsOf e = d.sz) (hB : P.bytesOf e = B) (z : α) (ho : Opens P e d ok) :
    Opens P t (Kd.slice e d) (fun l => l.length * B ≤ 140737488351232 ∧ ∀ y ∈ l, ok y) := by
  intro H enc w base spare held fuel cs x h hw
  haveI : Inhabited α := ⟨z⟩
  rcases DataW.trod_slice ht h with ⟨rfl, rfl⟩ | ⟨a, len, cap, elems, rest, n, rfl, rfl, rfl, hb, hl, hm, hlen, hel, _, _⟩
  · exact ⟨[], ⟨none, 0, rfl, Nat.le_refl _, rfl, by simp, fun h0 => absurd h0 (by simp)⟩, by simp, by simp⟩
  · have hweight := hw ((elems.length + rest.length) * B) (by simp [DataW.weights, ht, hB])
    have one : ∀ i, i < len → ∃ y : α, (∃ c, c.length = d.sz ∧ d.K w y c ∧ ∀ j u, c[j]? = some u → w.cell? (a.add (i * d.sz + j)) = some u) ∧ ok y := by
      intro i hi
      have h1 := hel i hi
      rw [List.getElem?_eq_getElem (show i < elems.length by omega)] at h1
      obtain ⟨cs', h2, h3⟩ := Option.bind_eq_some_iff.1 h1
      obtain ⟨y, hK, hy⟩ := ho H enc w base spare held n cs' _ h3 (fun m hm' => hw m (by
        simp only [DataW.weights, ht]
        refine List.mem_cons_of_mem _ (List.mem_append_left _ (mem_weightsAll (i := i) (d := elems[i].1) ?_ hm'))
        simp [List.getElem?_eq_getElem (show i < elems.length by omega)]))
      refine ⟨y, ⟨cs', d.K_len hK, hK, fun j u hu => ?_⟩, hy⟩
      obtain ⟨_, hlen', hcell⟩ := World.cells?_some h2
      have hj : j < cs'.length := (List.getElem?_eq_some_iff.1 hu).1
      have := hcell j (by omega)
      rw [hc] at this
      rw [← Go.Deep.add_add, this, hu]
    obtain ⟨f, hf⟩ := Go.Deep.choose_lt (p := fun i y => (∃ c, c.length = d.sz ∧ d.K w y c ∧ ∀ j u, c[j]? = some u → w.cell? (a.add (i * d.sz + j)) = some u) ∧ ok y) one
    refine ⟨(List.range len).map f, ⟨some a, cap, by simp, by simpa using hl, by simp, by simp only [List.length_map, List.length_range]; simp only [maxLen] at hm; omega, fun h0 => ⟨a, rfl, fun j p hj => ?_⟩⟩, ?_, ?_⟩
    · have hjl : j < len := by simpa using (List.getElem?_eq_some_iff.1 hj).1
      have hp : f j = p := by simpa [hjl] using hj
      rw [← hp]
      exact (hf j hjl).1
    · simp only [List.length_map, List.length_range]
      simp only [reachBytes] at hweight
      exact Nat.le_trans (Nat.mul_le_mul_right _ (by omega)) hweight
    · intro y hy
      obtain ⟨i, hi, rfl⟩ := List.mem_map.1 hy
      exact (hf i (List.mem_range.1 hi)).2
theorem cut_one (cs : List Value) (o s m : Nat) (hm : m = o + s) : cs.drop o = (cs.drop o).take s ++ cs.drop m := by
  subst hm
  rw [← List.drop_drop, List.take_append_drop]
theorem cut_last (cs : List Value) (o s : Nat) (h : cs.length = o + s) : cs.drop o = (cs.drop o).take s := by
  rw [List.take_of_length_le]
  rw [List.length_drop]
  omega
/-- A struct's parts. -/
theorem parts_struct {P : Program} {t : TypeId} {fs : Array Field} {H : Type} {enc : TypeId × Value → H} {w : World} {base : Nat} {spare : Nat → Bool} {held : Bool} {fuel : Nat} {cs : List Value} {x : DataW H × List MemPlace}
    (ht : P.underlying t = some (.struct fs)) (h : DataW.trod enc P w base spare held fuel t cs = some x) (hw : ∀ n ∈ x.1.weights P t, n ≤ reachBytes) :
    cs.length = P.cellsOf t ∧ ∃ n, ∀ (i : Nat) (f : Field), fs[i]? = some f → ∃ y, DataW.trod enc P w base spare held n f.type ((cs.drop f.offset).take (P.cellsOf f.type)) = some y ∧ ∀ m ∈ y.1.weights P f.type, m ≤ reachBytes := by
  obtain ⟨xs, n, rfl, rfl, hl, hn, hf⟩ := DataW.trod_struct ht h
  refine ⟨hl, n, fun i f hi => ?_⟩
  have h1 := hf i f hi
  have hil : i < fs.size := (Array.getElem?_eq_some_iff.1 hi).1
  rw [List.getElem?_eq_getElem (show i < xs.length by omega)] at h1
  refine ⟨_, h1, fun m hm => hw m ?_⟩
  simp only [DataW.weights, ht]
  refine DataW.weights_mem_each (j := i) (t := f.type) (d := xs[i].1) ?_ ?_ m hm
  · rw [List.getElem?_map, Array.getElem?_toList, hi]; rfl
  · rw [List.getElem?_map, List.getElem?_eq_getElem (show i < xs.length by omega)]; rfl
/-- An array's parts. -/
theorem parts_array {P : Program} {t e : TypeId} {k : Nat} {H : Type} {enc : TypeId × Value → H} {w : World} {base : Nat} {spare : Nat → Bool} {held : Bool} {fuel : Nat} {cs : List Value} {x : DataW H × List MemPlace}
    (ht : P.underlying t = some (.array k e)) (h : DataW.trod enc P w base spare held fuel t cs = some x) (hw : ∀ n ∈ x.1.weights P t, n ≤ reachBytes) :
    cs.length = P.cellsOf t ∧ ∃ n, ∀ (i : Nat), i < k → ∃ y, DataW.trod enc P w base spare held n e ((cs.drop (i * P.cellsOf e)).take (P.cellsOf e)) = some y ∧ ∀ m ∈ y.1.weights P e, m ≤ reachBytes := by
  obtain ⟨xs, n, rfl, rfl, hl, hn, hf⟩ := DataW.trod_array ht h
  refine ⟨hl, n, fun i hi => ?_⟩
  have h1 := hf i hi
  rw [List.getElem?_eq_getElem (show i < xs.length by omega)] at h1
  refine ⟨_, h1, fun m hm => hw m ?_⟩
  simp only [DataW.weights, ht]
  refine mem_weightsAll (i := i) (d := xs[i].1) ?_ hm
  rw [List.getElem?_map, List.getElem?_eq_getElem (show i < xs.length by omega)]; rfl
/-- The weights of one argument. -/
theorem weight_of {H : Type} {P : Program} {ts : List TypeId} {ds : List (DataW H)} {j : Nat} {t : TypeId} {d : DataW H} (h : (DataW.weightsEach P ts ds).all (· ≤ reachBytes) = true) (ht : ts[j]? = some t) (hd : ds[j]? = some d) : ∀ n ∈ d.weights P t, n ≤ reachBytes := fun n hn => by
  have := List.all_eq_true.1 h _ (DataW.weights_mem_each ht hd n hn)
  simpa using this
theorem opens_trod {P : Program} {t : TypeId} {α : Type} {d : Kd α} {ok : α → Prop} (ho : Opens P t d ok) {H : Type} {enc : TypeId × Value → H} {w : World} {base : Nat} {spare : Nat → Bool} {held : Bool} {v : Value} {x : DataW H} {p : List MemPlace}
    (h : DataW.Trod enc P w base spare held t v x p) (hw : ∀ n ∈ x.weights P t, n ≤ reachBytes) : ∃ y : α, d.K w y v.cells.toList ∧ ok y := by
  obtain ⟨fuel, hf⟩ := h
  exact ho H enc w base spare held fuel _ _ hf hw
theorem agg_of {P : Program} {w : World} {r : Reach} {base : Nat} {t : TypeId} {v : Value} (hs : (∃ fs, P.underlying t = some (.struct fs)) ∨ ∃ n e, P.underlying t = some (.array n e)) (h : Value.okWide P w r base t v) : ∃ cs : Array Value, v = .agg cs := by
  unfold Value.okWide at h
  rcases hs with ⟨fs, hs⟩ | ⟨n, e, hs⟩
  · rw [hs] at h
    obtain ⟨cs, rfl, _⟩ := h
    exact ⟨cs, rfl⟩
  · rw [hs] at h
    obtain ⟨cs, rfl, _⟩ := h
    exact ⟨cs, rfl⟩
theorem fit {P : Program} {t s o : Nat} {H : Type} {enc : TypeId × Value → H} {w : World} {base : Nat} {spare : Nat → Bool} {held : Bool} {fuel : Nat} {cs : List Value} {y : DataW H × List MemPlace} (e : P.cellsOf t = s)
    (g : DataW.trod enc P w base spare held fuel t ((cs.drop o).take (P.cellsOf t)) = some y) : DataW.trod enc P w base spare held fuel t ((cs.drop o).take s) = some y := by rw [← e]; exact g
theorem fitA {P : Program} {t s i : Nat} {H : Type} {enc : TypeId × Value → H} {w : World} {base : Nat} {spare : Nat → Bool} {held : Bool} {fuel : Nat} {cs : List Value} {y : DataW H × List MemPlace} (e : P.cellsOf t = s)
    (g : DataW.trod enc P w base spare held fuel t ((cs.drop (i * P.cellsOf t)).take (P.cellsOf t)) = some y) : DataW.trod enc P w base spare held fuel t ((cs.drop (i * s)).take s) = some y := by rw [← e]; exact g
theorem toArray_of {cs : Array Value} {l : List Value} (h : cs.toList = l) : cs = l.toArray := by rw [← h]
end Go.Proofs.YtocolmpfpbclbaaGreatDoorW.XOpen
