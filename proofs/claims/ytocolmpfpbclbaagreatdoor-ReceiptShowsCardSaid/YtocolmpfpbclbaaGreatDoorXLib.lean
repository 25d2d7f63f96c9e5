/- Small lemmas on lists, numbers and rounds, for the pure statements. No condition. -/
import Derived.OpenShut
import Derived.Laws.BitsAllLaws
import Derived.Test.YtocolmpfpbclbaaGreatDoorWWords
set_option linter.unusedVariables false
set_option linter.unusedSimpArgs false
namespace Go.Proofs.YtocolmpfpbclbaaGreatDoorW.XLib
open Go.RowKit Go.Proofs.YtocolmpfpbclbaaGreatDoorW.PrintWords

theorem wr {a : Int} (h : -9223372036854775808 ≤ a ∧ a ≤ 9223372036854775807) : wrap64 a = a := IntWalk.wrap64_in _ h
theorem wn {i n : Nat} (h : i < n) (hn : n ≤ 1152921504606846976) : wrap64 ((i : Int) + 1) = ((i + 1 : Nat) : Int) := by rw [wr ⟨by omega, by omega⟩]; omega
theorem td {a : Int} (h : 0 ≤ a) (b : Int) : Int.tdiv a b = a / b := Int.tdiv_eq_ediv_of_nonneg h
theorem tm {a : Int} (h : 0 ≤ a) (b : Int) : Int.tmod a b = a % b := Int.tmod_eq_emod_of_nonneg h
theorem wf64 {a : Int} (h : (Lit.int .i64 a).wf = true) : -9223372036854775808 ≤ a ∧ a ≤ 9223372036854775807 := bounds_i64 h
theorem wfu32 {a : Int} (h : (Lit.int .u32 a).wf = true) : 0 ≤ a ∧ a ≤ 4294967295 := bounds_u32 h
theorem wfu64 {a : Int} (h : (Lit.int .u64 a).wf = true) : 0 ≤ a ∧ a ≤ 18446744073709551615 := bounds_u64 h
theorem wfi32 {a : Int} (h : (Lit.int .i32 a).wf = true) : -2147483648 ≤ a ∧ a ≤ 2147483647 := bounds_i32 h

theorem Ev.pos {α : Type} {c : Prop} [Decidable c] {f g : Nat → Option α} {r : α} (hc : c) (h : Ev f r) : Ev (fun k => if c then f k else g k) r := by simpa [hc] using h
theorem Ev.neg {α : Type} {c : Prop} [Decidable c] {f g : Nat → Option α} {r : α} (hc : ¬ c) (h : Ev g r) : Ev (fun k => if c then f k else g k) r := by simpa [hc] using h
theorem Ev.split {α : Type} {c : Prop} [Decidable c] {f g : Nat → Option α} {r : α} (h : c → Ev f r) (h' : ¬ c → Ev g r) : Ev (fun k => if c then f k else g k) r := by
  by_cases hc : c
  · exact Ev.pos hc (h hc)
  · exact Ev.neg hc (h' hc)
theorem Ev.iteR {α : Type} {c : Prop} [Decidable c] {f g : Nat → Option α} {a b : α} (h : c → Ev f a) (h' : ¬ c → Ev g b) : Ev (fun k => if c then f k else g k) (if c then a else b) := by
  by_cases hc : c
  · simpa [hc] using h hc
  · simpa [hc] using h' hc
theorem Ev.succ {α : Type} {g : Nat → Option α} {r : α} (h : Ev (fun k => g (k + 1)) r) : Ev g r := Ev.step (fun _ => rfl) h
theorem Ev.eq {α : Type} {f : Nat → Option α} {r r' : α} (e : r = r') (h : Ev f r) : Ev f r' := e ▸ h
theorem Ev.ret {α : Type} {r r' : α} (e : r = r') : Ev (fun _ => some r) r' := e ▸ Ev.now r
theorem Ev.some_ {α : Type} {o : Option α} {r : α} (e : o = some r) : Ev (fun _ => o) r := ⟨0, fun _ _ => e⟩
theorem Ev.letS {α β : Type} {a : α} {f : Nat → α → Option β} {r : β} (h : Ev (fun n => f n a) r) : Ev (fun n => (some a).bind (f n)) r := h
/-- Down from the last round to the first. -/
theorem down {P : Nat → Prop} {n : Nat} (he : P n) (hs : ∀ i, i < n → P (i + 1) → P i) : P 0 := by
  have key : ∀ d i, i + d = n → P i := by
    intro d
    induction d with
    | zero => intro i hi; have : i = n := by omega
              subst this; exact he
    | succ d ih => intro i hi; exact hs i (by omega) (ih (i + 1) (by omega))
  exact key n 0 (by omega)
theorem downFrom {P : Nat → Prop} {m n : Nat} (hmn : m ≤ n) (he : P n) (hs : ∀ i, m ≤ i → i < n → P (i + 1) → P i) : P m := by
  have key : ∀ d i, m ≤ i → i + d = n → P i := by
    intro d
    induction d with
    | zero => intro i hm hi; have : i = n := by omega
              subst this; exact he
    | succ d ih => intro i hm hi; exact hs i hm (by omega) (ih (i + 1) (by omega) (by omega))
  exact key (n - m) m (Nat.le_refl _) (by omega)
theorem rd_nat (l : List Int) (i : Nat) : rd l (i : Int) = l.getD i 0 := Eq.trans rfl rfl
theorem drop_getD {α : Type} (l : List α) (i : Nat) (z : α) (h : i < l.length) : l.drop i = l.getD i z :: l.drop (i + 1) := by
  rw [List.drop_eq_getElem_cons h, List.getD_eq_getElem?_getD, List.getElem?_eq_getElem h]; rfl
theorem getD_mem {α : Type} (l : List α) (i : Nat) (z : α) (h : i < l.length) : l.getD i z ∈ l := by
  rw [List.getD_eq_getElem?_getD, List.getElem?_eq_getElem h]; exact List.getElem_mem h
theorem take_getD {α : Type} (l : List α) (i : Nat) (z : α) (h : i < l.length) : l.take (i + 1) = l.take i ++ [l.getD i z] := by
  rw [List.take_succ_eq_append_getElem h, List.getD_eq_getElem?_getD, List.getElem?_eq_getElem h]; rfl
theorem nil_app {α : Type} (l : List α) : ([] : List α) ++ l = l := rfl
/-- 'the two lists are the same', of one list with itself. -/
theorem same_ev {l : Nat → Int → Option Bool} {n : Nat} (hn : n ≤ 1152921504606846976) (hs : ∀ (k i : Nat), i < n → l (k + 1) (i : Int) = l k (wrap64 ((i : Int) + 1))) (he : ∀ k : Nat, l (k + 1) (n : Int) = some true) : Ev (fun k => l k 0) true := by
  refine down (P := fun i => Ev (fun k => l k (i : Int)) true) (n := n) (Ev.step (f := fun _ => some true) he (Ev.now _)) (fun i hi h => ?_)
  refine Ev.step (fun k => hs k i hi) ?_
  rw [wn hi hn]
  exact h
end Go.Proofs.YtocolmpfpbclbaaGreatDoorW.XLib
