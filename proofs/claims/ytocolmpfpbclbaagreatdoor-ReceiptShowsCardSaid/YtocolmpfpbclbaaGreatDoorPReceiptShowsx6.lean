-- written by this session's program wip/xp/xprint.py (it drives the kit's print and adds to it)
import Derived.Test.YtocolmpfpbclbaaGreatDoorPReceiptShowsx0
import Derived.Test.YtocolmpfpbclbaaGreatDoorPReceiptShowsx4
import Derived.Test.YtocolmpfpbclbaaGreatDoorPReceiptShowsx5
namespace Go.Proofs.YtocolmpfpbclbaaGreatDoor.PReceiptShows
open Go.RowKit Go.Proofs.YtocolmpfpbclbaaGreatDoorW.PrintWords Go.Proofs.YtocolmpfpbclbaaGreatDoorW.PrintLast Go.Proofs.YtocolmpfpbclbaaGreatDoorW.PrintMore
attribute [local go_sem] max2_int min2_int max_two min_two max_three min_three max_four min_four
set_option linter.unusedVariables false
set_option linter.unusedSimpArgs false

set_option maxHeartbeats 2000000 in
set_option maxRecDepth 100000 in
theorem paper_check (w : World) (b : Nat) (l : List Value) (h : Lib.IsBuilderF 39 5 b b l w) :
  Calls Tryz.prog 62 #[.pointer (some ⟨b, 0, none⟩)] w fun e w' => e = .returned (.tuple #[]) ∧ Lib.BuilderAtF 39 5 b b (.pointer (some ⟨b, 0, none⟩)) l w' ∧ Below b w w' := by
 have hu34 := Tryz.underlying34
 have hu37 := Tryz.underlying37
 obtain ⟨j, hj, hjs⟩ := Option.map_eq_some_iff.1 (show (Tryz.prog.info? 37).map (·.size) = some 2 by kernel_rfl)
 rcases h with h | h
 ·
  have x0 := h.cell0
  have f0 := h.frozen0
  have hsh := h.shape
  go_enter Tryz.func62, Tryz.ntmps62
  go_wp2
  rw [Lib.run_to_unsafe w ⟨b, 0, none⟩ Tryz.underlying34 Tryz.underlying139 hj (by rw [hjs]; decide) hsh (Nat.zero_lt_succ 1)]
  simp only [Result.andThen]
  rw [Oper.upon_value]
  go_wp2
  rw [run_callFunc_extern Tryz.func96 (by kernel_rfl) (by kernel_rfl) (by kernel_rfl) (e := Extern.AbiNoEscape.same) (by kernel_rfl)]
  rw [Lib.run_noEscape]
  simp only [Result.andThen]
  rw [Oper.upon_value]
  go_wp2
  rw [Lib.run_from_unsafe w ⟨b, 0, none⟩ Tryz.underlying139 Tryz.underlying34 hj hsh (by kernel_rfl)]
  simp only [Result.andThen]
  rw [Oper.upon_value]
  go_wp2
  go_end0
  exact ⟨rfl, h.used _, (Below.refl b w).setCell (p := ⟨b, 0, none⟩) (Nat.le_refl b) _⟩
 ·
  have x0 := h.cell0
  go_enter Tryz.func62, Tryz.ntmps62
  go_wp2
  rw [Lib.run_neq_ptr_same w _ Tryz.underlying34 hj]
  go_wp2
  go_end0
  exact ⟨rfl, h, Below.refl b _⟩
theorem ownF_slice {w : World} {base : Nat} {e : TypeId} {v : Value} {n : Nat} {xs : List Value} (h : w.ownsRowF base e 1 v n xs) : ∃ ao n' cap, v = .slice ao n' cap := by
 rcases h.2 with ⟨hv, _⟩ | ⟨g, cap, cur, fz, hv, _⟩
 ·
  exact ⟨_, _, _, hv⟩
 ·
  exact ⟨_, _, _, hv⟩
theorem below_alloc' {b : Nat} {w w1 : World} (h : Below b w w1) (hl : b < w1.heap.size) (o : Obj) : Below b w (w1.alloc o) := below_then h (Nat.le_of_lt hl) (below_alloc (Below.refl _ _) o)
theorem paper_lt {T e b : Nat} {p : Value} {l : List Value} {w : World} (h : Lib.BuilderAtF T e b b p l w) : b < w.heap.size := h.lt
set_option maxHeartbeats 2000000 in
set_option maxRecDepth 100000 in
theorem paper_WriteString (w : World) (b : Nat) (l : List Value) (s : ByteArray) (h : Lib.IsBuilderF 39 5 b b l w) (hlen : l.length + s.size ≤ 140737488355328) :
  Calls Tryz.prog 33 #[.pointer (some ⟨b, 0, none⟩), .string s] w fun e w' => e = .returned (.tuple #[.int .i64 s.size, .nilIface]) ∧ Lib.BuilderAtF 39 5 b b (.pointer (some ⟨b, 0, none⟩)) (l ++ Lib.strCells s) w' ∧ Below b w w' := by
 have hu34 := Tryz.underlying34
 have hu37 := Tryz.underlying37
 obtain ⟨i0, hi, hz0, hz1, hz2⟩ : ∃ i, Tryz.prog.info? 5 = some i ∧ i.zero = some (.int .u8 0) ∧ i.size = 1 ∧ i.bytes = 1 := by
  obtain ⟨i, hi, hz⟩ := Option.map_eq_some_iff.1 (show (Tryz.prog.info? 5).map (fun i => (i.zero, i.size, i.bytes)) = some (some (.int .u8 0), 1, 1) by kernel_rfl)
  exact ⟨i, hi, congrArg Prod.fst hz, congrArg (·.2.1) hz, congrArg (·.2.2) hz⟩
 go_enter Tryz.func33, Tryz.ntmps33
 go_wp2_with (first | (go_at_call 62; refine (paper_check _ b l h).mono ?_; rintro e w1 ⟨rfl, h1, hb1⟩; obtain ⟨hB, v, hbk, hown, hne⟩ := h1; have c0 : w1.cell? ⟨b, 0, none⟩ = some (.pointer (some ⟨b, 0, none⟩)) := (by rw [Lib.cell_of_heap hbk]; rfl); have c1 : w1.cell? ⟨b, 1, none⟩ = some v := (by rw [Lib.cell_of_heap hbk]; rfl)) | ((with_reducible refine gate_builtin (b := .append) (xs := #[.tmp 12, .tmp 13]) rfl ?_); at_builtin; refine Lib.wpList_append_own_stringF _ rfl _ _ 35 9 rfl b 5 i0 Tryz.underlying35 Tryz.underlying9 hi hz0 hz1 hz2 _ _ _ rfl hown s rfl ?c3 ?c4 ?c5 ?_; (case c3 => (unfold maxLen; omega)); (case c4 => omega); (case c5 => exact Nat.le_of_lt (blk_lt hbk)); intro v' w2 hown' hgrow _; have hb2 : w2.heap[b]? = some (.cells #[.pointer (some ⟨b, 0, none⟩), v] 39 (0, 0)) := (hgrow.block b (blk_lt hbk) (fun e => hne e.symm)).trans hbk; have d0 : w2.cell? ⟨b, 0, none⟩ = some (.pointer (some ⟨b, 0, none⟩)) := (by rw [Lib.cell_of_heap hb2]; rfl); have d1 : w2.cell? ⟨b, 1, none⟩ = some v := (by rw [Lib.cell_of_heap hb2]; rfl); have f1 : w2.frozen? ⟨b, 1, none⟩ = false := Lib.frozen_of_heap hb2 1; obtain ⟨ao, n', cap, rfl⟩ := ownF_slice hown'; clear c0 c1))
 go_ret2
 refine ⟨rfl, ?_, ?_⟩
 ·
  exact Lib.BuilderAtF.put hB hb2 (bs' := l ++ Lib.strCells s) (by simpa [Lib.strCells_length] using hown') (by decide)
 ·
  exact (hb1.grown hgrow (by have := hb1.size; have := blk_lt hbk; omega) (fun k hk => (hown.lt k hk).1)).setCell (p := ⟨b, 1, none⟩) hB _
set_option maxHeartbeats 2000000 in
set_option maxRecDepth 100000 in
theorem paper_WriteByte (w : World) (b : Nat) (l : List Value) (c : Int) (h : Lib.IsBuilderF 39 5 b b l w) (hlen : l.length + 1 ≤ 140737488355328) :
  Calls Tryz.prog 34 #[.pointer (some ⟨b, 0, none⟩), .int .u8 c] w fun e w' => e = .returned .nilIface ∧ Lib.BuilderAtF 39 5 b b (.pointer (some ⟨b, 0, none⟩)) (l ++ [.int .u8 c]) w' ∧ Below b w w' := by
 have hu34 := Tryz.underlying34
 have hu37 := Tryz.underlying37
 obtain ⟨i0, hi, hz0, hz1, hz2⟩ : ∃ i, Tryz.prog.info? 5 = some i ∧ i.zero = some (.int .u8 0) ∧ i.size = 1 ∧ i.bytes = 1 := by
  obtain ⟨i, hi, hz⟩ := Option.map_eq_some_iff.1 (show (Tryz.prog.info? 5).map (fun i => (i.zero, i.size, i.bytes)) = some (some (.int .u8 0), 1, 1) by kernel_rfl)
  exact ⟨i, hi, congrArg Prod.fst hz, congrArg (·.2.1) hz, congrArg (·.2.2) hz⟩
 go_enter Tryz.func34, Tryz.ntmps34
 go_wp2_with (first | (go_at_call 62; refine (paper_check _ b l h).mono ?_; rintro e w1 ⟨rfl, h1, hb1⟩; obtain ⟨hB, v, hbk, hown, hne⟩ := h1; have c0 : w1.cell? ⟨b, 0, none⟩ = some (.pointer (some ⟨b, 0, none⟩)) := (by rw [Lib.cell_of_heap hbk]; rfl); have c1 : w1.cell? ⟨b, 1, none⟩ = some v := (by rw [Lib.cell_of_heap hbk]; rfl)) | ((with_reducible refine gate_builtin (b := .append) (xs := #[.tmp 11, .tmp 13]) rfl ?_); at_builtin; refine wpList_append_ownF _ rfl _ _ 35 rfl b 5 i0 (.int .u8 0) 1 1 Tryz.underlying35 hi hz0 hz1 hz2 rfl (by decide) _ _ _ rfl (hown.alloc _) ⟨w1.heap.size, 0, none⟩ 1 1 [.int .u8 c] rfl rfl ?c1 ?c2 ?c3 ?c4 ?c5 ?_; (case c1 => (intro j u hj; match j, hj with | 0, hj => (obtain rfl := Option.some.inj hj; exact (blk_cell (blk_new w1 (.cells #[.int .u8 c] 5)) 0).trans rfl) | j + 1, hj => simp at hj)); (case c2 => (intro u hu; simp at hu; subst hu; rfl)); (case c3 => (unfold maxLen; omega)); (case c4 => omega); (case c5 => (rw [World.size_alloc]; have := blk_lt hbk; omega)); intro v' w2 hown' hgrow _; have hb2 : w2.heap[b]? = some (.cells #[.pointer (some ⟨b, 0, none⟩), v] 39 (0, 0)) := (hgrow.block b (by rw [World.size_alloc]; have := blk_lt hbk; omega) (fun e => hne e.symm)).trans (blk_alloc hbk _); have d0 : w2.cell? ⟨b, 0, none⟩ = some (.pointer (some ⟨b, 0, none⟩)) := (by rw [Lib.cell_of_heap hb2]; rfl); have d1 : w2.cell? ⟨b, 1, none⟩ = some v := (by rw [Lib.cell_of_heap hb2]; rfl); have f1 : w2.frozen? ⟨b, 1, none⟩ = false := Lib.frozen_of_heap hb2 1; obtain ⟨ao, n', cap, rfl⟩ := ownF_slice hown'; clear c0 c1))
 go_ret
 refine ⟨rfl, ?_, ?_⟩
 ·
  exact Lib.BuilderAtF.put hB hb2 (bs' := l ++ [.int .u8 c]) (by simpa using hown') (by decide)
 ·
  exact ((below_alloc' hb1 (blk_lt hbk) _).grown hgrow (by rw [World.size_alloc]; have := blk_lt hbk; omega) (fun k hk => (hown.lt k hk).1)).setCell (p := ⟨b, 1, none⟩) hB _
set_option maxHeartbeats 2000000 in
set_option maxRecDepth 100000 in
theorem paper_String (w : World) (b : Nat) (l : List UInt8) (h0 : l ≠ []) (p : Value) (h : Lib.BuilderAtF 39 5 b b p (Lib.byteCells l) w) :
  Calls Tryz.prog 16 #[.pointer (some ⟨b, 0, none⟩)] w fun e w' => e = .returned (.string ⟨l.toArray⟩) ∧ Below b w w' := by
 obtain ⟨hB, v, hbk, hown, hne⟩ := h
 have hl0 : l.length ≠ 0 := by simpa using h0
 rw [Lib.byteCells_length] at hown
 obtain ⟨g, cap, cur, fz, rfl, hbg, hg, hfz, hnc, hcm, hcs, htake⟩ : ∃ g cap cur fz, v = .slice (some ⟨g, 0, none⟩) l.length cap ∧ b ≤ g ∧ w.heap[g]? = some (.cells cur 5 fz) ∧ fz.2 ≤ l.length ∧ l.length ≤ cap ∧ cap ≤ maxLen ∧ cur.size = cap * 1 ∧ True := by
  rcases hown.2 with ⟨_, hz⟩ | ⟨g, cap, cur, fz, hv, r⟩
  ·
   exact absurd hz hl0
  ·
   exact ⟨g, cap, cur, fz, hv, r.1, r.2.1, by have := r.2.2.1; omega, r.2.2.2.1, r.2.2.2.2.1, r.2.2.2.2.2.1, trivial⟩
 have c1 : w.drew.cell? ⟨b, 1, none⟩ = some (.slice (some ⟨g, 0, none⟩) l.length cap) := by rw [Lib.cell_of_heap (blk_drew hbk)]; rfl
 have hSD : (Builtin.unsafeSliceData_ #[35] 74 #[.slice (some ⟨g, 0, none⟩) l.length cap]).run Tryz.prog w.drew = .ok (.pointer (some ⟨g, 0, none⟩)) w.drew :=
  Lib.run_unsafeSliceData_row _ _ _ _ _ _ (by omega)
 have hUS : (Builtin.unsafeString_ #[74, 3] 9 #[.pointer (some ⟨g, 0, none⟩), .int .i64 l.length]).run Tryz.prog w.drew = .ok (.string ⟨l.toArray⟩) (w.drew.freeze ⟨g, 0, none⟩ l.length) := by
  have hg' : w.drew.heap[g]? = some (.cells cur 5 fz) := hg
  refine Lib.run_unsafeString_row w.drew 74 3 9 5 Tryz.underlying74 (by kernel_rfl) g cur.size (by simp [World.shape?, hg']) l h0 (by omega) (by unfold maxLen at hcm; omega) ?_
  intro j x hx
  exact hown.cells (g := g) rfl j (.int .u8 x.toNat) (by simp [Lib.byteCells, hx])
 have hu34 := Tryz.underlying34
 have hu37 := Tryz.underlying37
 have mixed : Tryz.prog.follows Departure.mixedOrders = true := by kernel_rfl
 go_enter Tryz.func16, Tryz.ntmps16
 go_wp2
 go_region_o
 all_goals (go_wp2; go_ret; exact ⟨rfl, Lib.below_freeze (below_drew1 (Below.refl b w)) (p := ⟨g, 0, none⟩) hbg _⟩)
def lineB (name text : ByteArray) : List UInt8 := name.data.toList ++ [32] ++ text.data.toList ++ [10]
set_option maxHeartbeats 4000000 in
set_option maxRecDepth 100000 in
theorem paper_line (w : World) (b : Nat) (l : List UInt8) (name text : ByteArray) (h : Lib.IsBuilderF 39 5 b b (Lib.byteCells l) w) (hlen : l.length + name.size + text.size + 2 ≤ 140737488355328) :
  Calls Tryz.prog 11 #[.pointer (some ⟨b, 0, none⟩), .string name, .string text] w fun e w' => e = .returned (.tuple #[]) ∧ Lib.IsBuilderF 39 5 b b (Lib.byteCells (l ++ lineB name text)) w' ∧ Below b w w' := by
 have hu39 := Tryz.underlying39
 have hu70 := Tryz.underlying70
 have e1 : Lib.byteCells l ++ Lib.strCells name = Lib.byteCells (l ++ name.data.toList) := by rw [Lib.byteCells_append]; rfl
 have e2 : Lib.byteCells (l ++ name.data.toList) ++ [.int .u8 32] = Lib.byteCells (l ++ name.data.toList ++ [32]) := by rw [Lib.byteCells_append _ [32]]; rfl
 have e3 : Lib.byteCells (l ++ name.data.toList ++ [32]) ++ Lib.strCells text = Lib.byteCells (l ++ name.data.toList ++ [32] ++ text.data.toList) := by rw [Lib.byteCells_append _ text.data.toList]; rfl
 have e4 : Lib.byteCells (l ++ name.data.toList ++ [32] ++ text.data.toList) ++ [.int .u8 10] = Lib.byteCells (l ++ lineB name text) := by rw [show [Value.int .u8 10] = Lib.byteCells [10] from rfl, ← Lib.byteCells_append]; unfold lineB; simp only [List.append_assoc]
 have n1 : name.data.toList.length = name.size := Array.length_toList
 have n2 : text.data.toList.length = text.size := Array.length_toList
 have E1 := am e1
 have E2 := am e2
 have E3 := am e3
 have E4 := am e4
 have N := am (And.intro n1 (And.intro n2 hlen))
 have HW := am h
 clear e1 e2 e3 e4 n1 n2 hlen h
 go_enter Tryz.func11, Tryz.ntmps11
 go_upto_region 1 with (go_at_call 33; refine (paper_WriteString _ b _ name HW.out (by have := N.out; rw [Lib.byteCells_length]; omega)).mono ?_; rintro e w1 ⟨rfl, h1, hb1⟩; rw [E1.out] at h1; have H1 := am h1; have HB1 := am hb1; clear h1 hb1)
 go_upto_region 2 with (go_at_call 34; refine (paper_WriteByte _ b _ 32 (.inr H1.out) (by have := N.out; rw [Lib.byteCells_length, List.length_append]; omega)).mono ?_; rintro e w2 ⟨rfl, h1, hb1⟩; rw [E2.out] at h1; have H2 := am h1; have HB2 := am (HB1.out.trans hb1); clear h1 hb1)
 go_upto_region 3 with (go_at_call 33; refine (paper_WriteString _ b _ text (.inr H2.out) (by have := N.out; rw [Lib.byteCells_length, List.length_append, List.length_append]; simp only [List.length_singleton]; omega)).mono ?_; rintro e w3 ⟨rfl, h1, hb1⟩; rw [E3.out] at h1; have H3 := am h1; have HB3 := am (HB2.out.trans hb1); clear h1 hb1)
 go_wp2_with (go_at_call 34; refine (paper_WriteByte _ b _ 10 (.inr H3.out) (by have := N.out; rw [Lib.byteCells_length, List.length_append, List.length_append, List.length_append]; simp only [List.length_singleton]; omega)).mono ?_; rintro e w4 ⟨rfl, h1, hb1⟩; rw [E4.out] at h1; have H4 := am h1; have HB4 := am (HB3.out.trans hb1); clear h1 hb1)
 go_end0
 exact ⟨rfl, .inr H4.out, HB4.out⟩
theorem paper_below {w w' : World} {b : Nat} {l : List Value} (h : Lib.IsBuilderF 39 5 b b l w) (hb : Below w.heap.size w w') : Lib.IsBuilderF 39 5 b b l w' := by
 have key : ∀ p, Lib.BuilderAtF 39 5 b b p l w → Lib.BuilderAtF 39 5 b b p l w' := by
  rintro p ⟨hB, v, hbk, ⟨hx, hown⟩, hne⟩
  refine ⟨hB, v, blk_below hbk hb, ⟨hx, ?_⟩, hne⟩
  rcases hown with hown | ⟨g, cap, cur, fz, h1, h2, h3, h4⟩
  ·
   exact .inl hown
  ·
   exact .inr ⟨g, cap, cur, fz, h1, h2, (hb.block g (by
    rcases Nat.lt_or_ge g w.heap.size with hg | hg
    ·
     exact hg
    ·
     rw [Array.getElem?_eq_none hg] at h3; cases h3)).trans h3, h4⟩
 rcases h with h | h
 ·
  exact .inl (key _ h)
 ·
  exact .inr (key _ h)
theorem paper_new (w : World) : Lib.IsBuilderF 39 5 w.heap.size w.heap.size (Lib.byteCells []) (w.alloc (.cells #[.pointer none, .slice none 0 0] 39)) :=
 .inl ⟨Nat.le_refl _, _, blk_new w _, ⟨rfl, .inl ⟨rfl, rfl⟩⟩, by simp [Value.ownBlock]⟩
theorem paper_block {w : World} {b : Nat} {l : List Value} (h : Lib.IsBuilderF 39 5 b b l w) : b < w.heap.size := by
 rcases h with h | h
 ·
  exact h.lt
 ·
  exact h.lt
set_option maxHeartbeats 4000000 in
set_option maxRecDepth 100000 in
theorem receipt_money (w : World) (b : Nat) (l : List UInt8) (name s : ByteArray) (x e1 : Int) (h : Lib.IsBuilderF 39 5 b b (Lib.byteCells l) w) (hlen : l.length + name.size + s.size + 2 ≤ 140737488355328) (HTAB : LaidW w) (hs : cents_Show.f x = some (s, e1)) :
  Calls Tryz.prog 13 #[.string name, .int .i64 x, .pointer (some ⟨b, 0, none⟩)] w fun e w' => e = .returned (.tuple #[]) ∧ Lib.IsBuilderF 39 5 b b (Lib.byteCells (l ++ lineB name s)) w' ∧ Below b w w' := by
 have HS := am hs
 have HW := am h
 have HL := am hlen
 have HT := am HTAB
 clear hs h hlen HTAB
 go_enter Tryz.func13, Tryz.ntmps13
 go_upto_region 1 with (go_at_call 14; refine (cents_Show.calls x s e1 _ HT.out HS.out).mono ?_; rintro e w1 ⟨rfl, hb⟩; have H1 := am (paper_below HW.out hb); have HB1 := am (hb.mono (Nat.le_of_lt (paper_block HW.out))); clear hb)
 go_wp2_with (go_at_call 11; refine (paper_line _ b l name s H1.out HL.out).mono ?_; rintro e w2 ⟨rfl, h2, hb⟩; have H2 := am h2; have HB2 := am (HB1.out.trans hb); clear h2 hb)
 go_end0
 exact ⟨rfl, H2.out, HB2.out⟩
theorem lineB_length (a b : ByteArray) : (lineB a b).length = a.size + b.size + 2 := by
 unfold lineB
 have h1 : a.data.toList.length = a.size := Array.length_toList
 have h2 : b.data.toList.length = b.size := Array.length_toList
 simp only [List.length_append, List.length_cons, List.length_nil, h1, h2]
 omega
def rcSmall (s : ByteArray) : Bool := decide (s.size ≤ 1000)
def rcLines (n i a c d f g u q : ByteArray) : List UInt8 := (((((((((([] : List UInt8) ++ lineB ⟨#[77, 69, 84, 69, 82]⟩ n) ++ lineB ⟨#[78, 85, 77, 66, 69, 82]⟩ i) ++ lineB ⟨#[84, 69, 78, 68, 69, 82]⟩ a) ++ lineB ⟨#[68, 69, 66, 84]⟩ c) ++ lineB ⟨#[70, 69, 69]⟩ d) ++ lineB ⟨#[80, 82, 73, 67, 69]⟩ f) ++ lineB ⟨#[67, 72, 65, 78, 71, 69]⟩ g) ++ lineB ⟨#[85, 78, 73, 84, 83]⟩ u) ++ lineB ⟨#[84, 79, 75, 69, 78]⟩ q)
def receipt_Show.g (k : Nat) (me id te de fe pr ch un : Int) (tok : ByteArray) : Option (ByteArray × Int) :=
 (receipt_Number.f k me).bind fun n => (strconv_Itoa_12.f id).bind fun i => (cents_Show.f te).bind fun a => (cents_Show.f de).bind fun c => (cents_Show.f fe).bind fun d => (cents_Show.f pr).bind fun f => (cents_Show.f ch).bind fun g => (strconv_Itoa_12.f un).bind fun u => (receipt_grouped.f k tok).bind fun q =>
  if (rcSmall n.1 && rcSmall i && rcSmall a.1 && rcSmall c.1 && rcSmall d.1 && rcSmall f.1 && rcSmall g.1 && rcSmall u && rcSmall q) = true then some (⟨(rcLines n.1 i a.1 c.1 d.1 f.1 g.1 u q).toArray⟩, 0) else none
theorem rcpc {W : World} {g : Nat} {a0 a1 a2 a3 a4 a5 a6 a7 a8 : Value} {t : TypeId} (H : W.heap[g]? = some (.cells #[a0, a1, a2, a3, a4, a5, a6, a7, a8] t (0, 0))) :
  W.cell? ⟨g, 0, none⟩ = some a0 ∧ W.cell? ⟨g, 1, none⟩ = some a1 ∧ W.cell? ⟨g, 2, none⟩ = some a2 ∧ W.cell? ⟨g, 3, none⟩ = some a3 ∧ W.cell? ⟨g, 4, none⟩ = some a4 ∧ W.cell? ⟨g, 5, none⟩ = some a5 ∧ W.cell? ⟨g, 6, none⟩ = some a6 ∧ W.cell? ⟨g, 7, none⟩ = some a7 ∧ W.cell? ⟨g, 8, none⟩ = some a8 :=
 ⟨(blk_cell H 0).trans rfl, (blk_cell H 1).trans rfl, (blk_cell H 2).trans rfl, (blk_cell H 3).trans rfl, (blk_cell H 4).trans rfl, (blk_cell H 5).trans rfl, (blk_cell H 6).trans rfl, (blk_cell H 7).trans rfl, (blk_cell H 8).trans rfl⟩
set_option maxHeartbeats 8000000 in
set_option maxRecDepth 100000 in
theorem receipt_Show.early (me id te de fe pr ch un e0 : Int) (tok : ByteArray) (w : World) (hc : receipt_Check.f me id te de fe pr ch un tok = some e0) (h0 : e0 ≠ 0) :
  Calls Tryz.prog 5 #[.agg #[.int .i64 me, .int .i64 id, .int .i64 te, .int .i64 de, .int .i64 fe, .int .i64 pr, .int .i64 ch, .int .i64 un, .string tok]] w fun e w' => e = .returned (.tuple #[.string ⟨#[]⟩, .int .i64 e0]) ∧ Below w.heap.size w w' := by
 have hu25 := Tryz.underlying25
 have hu23 := Tryz.underlying23
 have S1 := am (blk_new w (.cells #[.int .i64 me, .int .i64 id, .int .i64 te, .int .i64 de, .int .i64 fe, .int .i64 pr, .int .i64 ch, .int .i64 un, .string tok] 25))
 have SB := am (below_alloc (Below.refl w.heap.size w) (.cells #[.int .i64 me, .int .i64 id, .int .i64 te, .int .i64 de, .int .i64 fe, .int .i64 pr, .int .i64 ch, .int .i64 un, .string tok] 25))
 obtain ⟨x0, x1, x2, x3, x4, x5, x6, x7, x8⟩ := rcpc S1.out
 have HC := am hc
 have q0 : (e0 != 0) = true := bne_iff_ne.mpr h0
 clear hc h0
 go_enter Tryz.func5, Tryz.ntmps5
 go_wp2_with (go_at_call 9; refine (receipt_Check.calls me id te de fe pr ch un tok e0 _ HC.out).mono ?_; rintro e w1 ⟨rfl, hb⟩; have SB1 := am (below_then SB.out SB.out.size hb); clear hb x0 x1 x2 x3 x4 x5 x6 x7 x8)
 go_ret2
 exact ⟨rfl, SB1.out⟩
set_option maxHeartbeats 16000000 in
set_option maxRecDepth 100000 in
theorem receipt_Show.main (k : Nat) (me id te de fe pr ch un : Int) (tok : ByteArray) (n i a c d f g u q : ByteArray) (en ea ec ed ef eg : Int) (w : World) (HTAB : LaidW w) (hc : receipt_Check.f me id te de fe pr ch un tok = some 0)
  (hn : receipt_Number.f k me = some (n, en)) (hi : strconv_Itoa_12.f id = some i) (ha : cents_Show.f te = some (a, ea)) (hcc : cents_Show.f de = some (c, ec)) (hd : cents_Show.f fe = some (d, ed)) (hf : cents_Show.f pr = some (f, ef)) (hg : cents_Show.f ch = some (g, eg)) (hu : strconv_Itoa_12.f un = some u) (hq : receipt_grouped.f k tok = some q) (hs : n.size ≤ 1000 ∧ i.size ≤ 1000 ∧ a.size ≤ 1000 ∧ c.size ≤ 1000 ∧ d.size ≤ 1000 ∧ f.size ≤ 1000 ∧ g.size ≤ 1000 ∧ u.size ≤ 1000 ∧ q.size ≤ 1000) :
  Calls Tryz.prog 5 #[.agg #[.int .i64 me, .int .i64 id, .int .i64 te, .int .i64 de, .int .i64 fe, .int .i64 pr, .int .i64 ch, .int .i64 un, .string tok]] w fun e w' => e = .returned (.tuple #[.string ⟨(rcLines n i a c d f g u q).toArray⟩, .int .i64 0]) ∧ Below w.heap.size w w' := by
 have hu25 := Tryz.underlying25
 have hu23 := Tryz.underlying23
 have hu39 := Tryz.underlying39
 have S1 := am (blk_new w (.cells #[.int .i64 me, .int .i64 id, .int .i64 te, .int .i64 de, .int .i64 fe, .int .i64 pr, .int .i64 ch, .int .i64 un, .string tok] 25))
 have SB := am (below_alloc (Below.refl w.heap.size w) (.cells #[.int .i64 me, .int .i64 id, .int .i64 te, .int .i64 de, .int .i64 fe, .int .i64 pr, .int .i64 ch, .int .i64 un, .string tok] 25))
 obtain ⟨x0, x1, x2, x3, x4, x5, x6, x7, x8⟩ := rcpc S1.out
 obtain ⟨s0, s1, s2, s3, s4, s5, s6, s7, s8⟩ := hs
 have z0 : (⟨#[77, 69, 84, 69, 82]⟩ : ByteArray).size = 5 := rfl
 have z1 : (⟨#[78, 85, 77, 66, 69, 82]⟩ : ByteArray).size = 6 := rfl
 have z2 : (⟨#[84, 69, 78, 68, 69, 82]⟩ : ByteArray).size = 6 := rfl
 have z3 : (⟨#[68, 69, 66, 84]⟩ : ByteArray).size = 4 := rfl
 have z4 : (⟨#[70, 69, 69]⟩ : ByteArray).size = 3 := rfl
 have z5 : (⟨#[80, 82, 73, 67, 69]⟩ : ByteArray).size = 5 := rfl
 have z6 : (⟨#[67, 72, 65, 78, 71, 69]⟩ : ByteArray).size = 6 := rfl
 have z7 : (⟨#[85, 78, 73, 84, 83]⟩ : ByteArray).size = 5 := rfl
 have z8 : (⟨#[84, 79, 75, 69, 78]⟩ : ByteArray).size = 5 := rfl
 have L0 := am (show (([] : List UInt8)).length + (⟨#[77, 69, 84, 69, 82]⟩ : ByteArray).size + n.size + 2 ≤ 140737488355328 by simp only [List.length_append, lineB_length, List.length_nil]; omega)
 have L1 := am (show ((([] : List UInt8) ++ lineB ⟨#[77, 69, 84, 69, 82]⟩ n)).length + (⟨#[78, 85, 77, 66, 69, 82]⟩ : ByteArray).size + i.size + 2 ≤ 140737488355328 by simp only [List.length_append, lineB_length, List.length_nil]; omega)
 have L2 := am (show (((([] : List UInt8) ++ lineB ⟨#[77, 69, 84, 69, 82]⟩ n) ++ lineB ⟨#[78, 85, 77, 66, 69, 82]⟩ i)).length + (⟨#[84, 69, 78, 68, 69, 82]⟩ : ByteArray).size + a.size + 2 ≤ 140737488355328 by simp only [List.length_append, lineB_length, List.length_nil]; omega)
 have L3 := am (show ((((([] : List UInt8) ++ lineB ⟨#[77, 69, 84, 69, 82]⟩ n) ++ lineB ⟨#[78, 85, 77, 66, 69, 82]⟩ i) ++ lineB ⟨#[84, 69, 78, 68, 69, 82]⟩ a)).length + (⟨#[68, 69, 66, 84]⟩ : ByteArray).size + c.size + 2 ≤ 140737488355328 by simp only [List.length_append, lineB_length, List.length_nil]; omega)
 have L4 := am (show (((((([] : List UInt8) ++ lineB ⟨#[77, 69, 84, 69, 82]⟩ n) ++ lineB ⟨#[78, 85, 77, 66, 69, 82]⟩ i) ++ lineB ⟨#[84, 69, 78, 68, 69, 82]⟩ a) ++ lineB ⟨#[68, 69, 66, 84]⟩ c)).length + (⟨#[70, 69, 69]⟩ : ByteArray).size + d.size + 2 ≤ 140737488355328 by simp only [List.length_append, lineB_length, List.length_nil]; omega)
 have L5 := am (show ((((((([] : List UInt8) ++ lineB ⟨#[77, 69, 84, 69, 82]⟩ n) ++ lineB ⟨#[78, 85, 77, 66, 69, 82]⟩ i) ++ lineB ⟨#[84, 69, 78, 68, 69, 82]⟩ a) ++ lineB ⟨#[68, 69, 66, 84]⟩ c) ++ lineB ⟨#[70, 69, 69]⟩ d)).length + (⟨#[80, 82, 73, 67, 69]⟩ : ByteArray).size + f.size + 2 ≤ 140737488355328 by simp only [List.length_append, lineB_length, List.length_nil]; omega)
 have L6 := am (show (((((((([] : List UInt8) ++ lineB ⟨#[77, 69, 84, 69, 82]⟩ n) ++ lineB ⟨#[78, 85, 77, 66, 69, 82]⟩ i) ++ lineB ⟨#[84, 69, 78, 68, 69, 82]⟩ a) ++ lineB ⟨#[68, 69, 66, 84]⟩ c) ++ lineB ⟨#[70, 69, 69]⟩ d) ++ lineB ⟨#[80, 82, 73, 67, 69]⟩ f)).length + (⟨#[67, 72, 65, 78, 71, 69]⟩ : ByteArray).size + g.size + 2 ≤ 140737488355328 by simp only [List.length_append, lineB_length, List.length_nil]; omega)
 have L7 := am (show ((((((((([] : List UInt8) ++ lineB ⟨#[77, 69, 84, 69, 82]⟩ n) ++ lineB ⟨#[78, 85, 77, 66, 69, 82]⟩ i) ++ lineB ⟨#[84, 69, 78, 68, 69, 82]⟩ a) ++ lineB ⟨#[68, 69, 66, 84]⟩ c) ++ lineB ⟨#[70, 69, 69]⟩ d) ++ lineB ⟨#[80, 82, 73, 67, 69]⟩ f) ++ lineB ⟨#[67, 72, 65, 78, 71, 69]⟩ g)).length + (⟨#[85, 78, 73, 84, 83]⟩ : ByteArray).size + u.size + 2 ≤ 140737488355328 by simp only [List.length_append, lineB_length, List.length_nil]; omega)
 have L8 := am (show (((((((((([] : List UInt8) ++ lineB ⟨#[77, 69, 84, 69, 82]⟩ n) ++ lineB ⟨#[78, 85, 77, 66, 69, 82]⟩ i) ++ lineB ⟨#[84, 69, 78, 68, 69, 82]⟩ a) ++ lineB ⟨#[68, 69, 66, 84]⟩ c) ++ lineB ⟨#[70, 69, 69]⟩ d) ++ lineB ⟨#[80, 82, 73, 67, 69]⟩ f) ++ lineB ⟨#[67, 72, 65, 78, 71, 69]⟩ g) ++ lineB ⟨#[85, 78, 73, 84, 83]⟩ u)).length + (⟨#[84, 79, 75, 69, 78]⟩ : ByteArray).size + q.size + 2 ≤ 140737488355328 by simp only [List.length_append, lineB_length, List.length_nil]; omega)
 have HC := am hc
 have HN := am hn
 have HI := am hi
 have HA := am ha
 have HCC := am hcc
 have HD := am hd
 have HF := am hf
 have HG := am hg
 have HU := am hu
 have HQ := am hq
 have HT := am HTAB
 clear hc hn hi ha hcc hd hf hg hu hq s0 s1 s2 s3 s4 s5 s6 s7 s8 z0 z1 z2 z3 z4 z5 z6 z7 z8 HTAB
 go_enter Tryz.func5, Tryz.ntmps5
 go_upto_region 4 with (go_at_call 9; refine (receipt_Check.calls me id te de fe pr ch un tok 0 _ HC.out).mono ?_; rintro e w1 ⟨rfl, hb⟩; replace S1 := am (blk_below S1.out hb); replace SB := am (below_then SB.out SB.out.size hb); clear hb x0 x1 x2 x3 x4 x5 x6 x7 x8; obtain ⟨x0, x1, x2, x3, x4, x5, x6, x7, x8⟩ := rcpc S1.out)
 obtain ⟨b, hb⟩ : ∃ b, w1.heap.size = b := ⟨_, rfl⟩
 have PW := am (paper_new w1)
 have HBL := am (show w.heap.size < b by rw [← hb]; exact blk_lt S1.out)
 replace S1 := am (blk_alloc S1.out (.cells #[.pointer none, .slice none 0 0] 39))
 replace SB := am (below_alloc SB.out (.cells #[.pointer none, .slice none 0 0] 39))
 rw [hb] at PW
 clear x0 x1 x2 x3 x4 x5 x6 x7 x8
 obtain ⟨x0, x1, x2, x3, x4, x5, x6, x7, x8⟩ := rcpc S1.out
 go_upto_region 5 with (fail)
 try simp only [hb]
 clear hb
 go_upto_region 6 with (go_at_call 10; refine (receipt_Number.calls k me n en _ (LaidW.go HT.out SB.out) HN.out).mono ?_; rintro e wi ⟨rfl, hb⟩; replace S1 := am (blk_below S1.out hb); replace SB := am (below_then SB.out SB.out.size hb); replace PW := am (paper_below PW.out hb); clear hb x0 x1 x2 x3 x4 x5 x6 x7 x8; obtain ⟨x0, x1, x2, x3, x4, x5, x6, x7, x8⟩ := rcpc S1.out)
 go_upto_region 7 with (go_at_call 11; refine (paper_line _ b ([] : List UInt8) ⟨#[77, 69, 84, 69, 82]⟩ n PW.out L0.out).mono ?_; rintro e wl ⟨rfl, hp, hb⟩; replace S1 := am ((hb.block w.heap.size HBL.out).trans S1.out); replace SB := am (SB.out.trans (hb.mono (Nat.le_of_lt HBL.out))); replace PW := am hp; clear hp hb x0 x1 x2 x3 x4 x5 x6 x7 x8; obtain ⟨x0, x1, x2, x3, x4, x5, x6, x7, x8⟩ := rcpc S1.out)
 go_upto_region 8 with (first | (go_at_call 12; refine (strconv_Itoa_12.calls id i _ (LaidW.go HT.out SB.out) HI.out).mono ?_; rintro e wi ⟨rfl, hb⟩; replace S1 := am (blk_below S1.out hb); replace SB := am (below_then SB.out SB.out.size hb); replace PW := am (paper_below PW.out hb); clear hb x0 x1 x2 x3 x4 x5 x6 x7 x8; obtain ⟨x0, x1, x2, x3, x4, x5, x6, x7, x8⟩ := rcpc S1.out) | (go_at_call 11; refine (paper_line _ b (([] : List UInt8) ++ lineB ⟨#[77, 69, 84, 69, 82]⟩ n) ⟨#[78, 85, 77, 66, 69, 82]⟩ i PW.out L1.out).mono ?_; rintro e wl ⟨rfl, hp, hb⟩; replace S1 := am ((hb.block w.heap.size HBL.out).trans S1.out); replace SB := am (SB.out.trans (hb.mono (Nat.le_of_lt HBL.out))); replace PW := am hp; clear hp hb x0 x1 x2 x3 x4 x5 x6 x7 x8; obtain ⟨x0, x1, x2, x3, x4, x5, x6, x7, x8⟩ := rcpc S1.out))
 go_upto_region 9 with (fail)
 go_upto_region 10 with (go_at_call 13; refine (receipt_money _ b ((([] : List UInt8) ++ lineB ⟨#[77, 69, 84, 69, 82]⟩ n) ++ lineB ⟨#[78, 85, 77, 66, 69, 82]⟩ i) ⟨#[84, 69, 78, 68, 69, 82]⟩ a te ea PW.out L2.out (LaidW.go HT.out SB.out) HA.out).mono ?_; rintro e wl ⟨rfl, hp, hb⟩; replace S1 := am ((hb.block w.heap.size HBL.out).trans S1.out); replace SB := am (SB.out.trans (hb.mono (Nat.le_of_lt HBL.out))); replace PW := am hp; clear hp hb x0 x1 x2 x3 x4 x5 x6 x7 x8; obtain ⟨x0, x1, x2, x3, x4, x5, x6, x7, x8⟩ := rcpc S1.out)
 go_upto_region 11 with (go_at_call 13; refine (receipt_money _ b (((([] : List UInt8) ++ lineB ⟨#[77, 69, 84, 69, 82]⟩ n) ++ lineB ⟨#[78, 85, 77, 66, 69, 82]⟩ i) ++ lineB ⟨#[84, 69, 78, 68, 69, 82]⟩ a) ⟨#[68, 69, 66, 84]⟩ c de ec PW.out L3.out (LaidW.go HT.out SB.out) HCC.out).mono ?_; rintro e wl ⟨rfl, hp, hb⟩; replace S1 := am ((hb.block w.heap.size HBL.out).trans S1.out); replace SB := am (SB.out.trans (hb.mono (Nat.le_of_lt HBL.out))); replace PW := am hp; clear hp hb x0 x1 x2 x3 x4 x5 x6 x7 x8; obtain ⟨x0, x1, x2, x3, x4, x5, x6, x7, x8⟩ := rcpc S1.out)
 go_upto_region 12 with (go_at_call 13; refine (receipt_money _ b ((((([] : List UInt8) ++ lineB ⟨#[77, 69, 84, 69, 82]⟩ n) ++ lineB ⟨#[78, 85, 77, 66, 69, 82]⟩ i) ++ lineB ⟨#[84, 69, 78, 68, 69, 82]⟩ a) ++ lineB ⟨#[68, 69, 66, 84]⟩ c) ⟨#[70, 69, 69]⟩ d fe ed PW.out L4.out (LaidW.go HT.out SB.out) HD.out).mono ?_; rintro e wl ⟨rfl, hp, hb⟩; replace S1 := am ((hb.block w.heap.size HBL.out).trans S1.out); replace SB := am (SB.out.trans (hb.mono (Nat.le_of_lt HBL.out))); replace PW := am hp; clear hp hb x0 x1 x2 x3 x4 x5 x6 x7 x8; obtain ⟨x0, x1, x2, x3, x4, x5, x6, x7, x8⟩ := rcpc S1.out)
 go_upto_region 13 with (go_at_call 13; refine (receipt_money _ b (((((([] : List UInt8) ++ lineB ⟨#[77, 69, 84, 69, 82]⟩ n) ++ lineB ⟨#[78, 85, 77, 66, 69, 82]⟩ i) ++ lineB ⟨#[84, 69, 78, 68, 69, 82]⟩ a) ++ lineB ⟨#[68, 69, 66, 84]⟩ c) ++ lineB ⟨#[70, 69, 69]⟩ d) ⟨#[80, 82, 73, 67, 69]⟩ f pr ef PW.out L5.out (LaidW.go HT.out SB.out) HF.out).mono ?_; rintro e wl ⟨rfl, hp, hb⟩; replace S1 := am ((hb.block w.heap.size HBL.out).trans S1.out); replace SB := am (SB.out.trans (hb.mono (Nat.le_of_lt HBL.out))); replace PW := am hp; clear hp hb x0 x1 x2 x3 x4 x5 x6 x7 x8; obtain ⟨x0, x1, x2, x3, x4, x5, x6, x7, x8⟩ := rcpc S1.out)
 go_upto_region 14 with (go_at_call 13; refine (receipt_money _ b ((((((([] : List UInt8) ++ lineB ⟨#[77, 69, 84, 69, 82]⟩ n) ++ lineB ⟨#[78, 85, 77, 66, 69, 82]⟩ i) ++ lineB ⟨#[84, 69, 78, 68, 69, 82]⟩ a) ++ lineB ⟨#[68, 69, 66, 84]⟩ c) ++ lineB ⟨#[70, 69, 69]⟩ d) ++ lineB ⟨#[80, 82, 73, 67, 69]⟩ f) ⟨#[67, 72, 65, 78, 71, 69]⟩ g ch eg PW.out L6.out (LaidW.go HT.out SB.out) HG.out).mono ?_; rintro e wl ⟨rfl, hp, hb⟩; replace S1 := am ((hb.block w.heap.size HBL.out).trans S1.out); replace SB := am (SB.out.trans (hb.mono (Nat.le_of_lt HBL.out))); replace PW := am hp; clear hp hb x0 x1 x2 x3 x4 x5 x6 x7 x8; obtain ⟨x0, x1, x2, x3, x4, x5, x6, x7, x8⟩ := rcpc S1.out)
 go_upto_region 15 with (first | (go_at_call 12; refine (strconv_Itoa_12.calls un u _ (LaidW.go HT.out SB.out) HU.out).mono ?_; rintro e wi ⟨rfl, hb⟩; replace S1 := am (blk_below S1.out hb); replace SB := am (below_then SB.out SB.out.size hb); replace PW := am (paper_below PW.out hb); clear hb x0 x1 x2 x3 x4 x5 x6 x7 x8; obtain ⟨x0, x1, x2, x3, x4, x5, x6, x7, x8⟩ := rcpc S1.out) | (go_at_call 11; refine (paper_line _ b (((((((([] : List UInt8) ++ lineB ⟨#[77, 69, 84, 69, 82]⟩ n) ++ lineB ⟨#[78, 85, 77, 66, 69, 82]⟩ i) ++ lineB ⟨#[84, 69, 78, 68, 69, 82]⟩ a) ++ lineB ⟨#[68, 69, 66, 84]⟩ c) ++ lineB ⟨#[70, 69, 69]⟩ d) ++ lineB ⟨#[80, 82, 73, 67, 69]⟩ f) ++ lineB ⟨#[67, 72, 65, 78, 71, 69]⟩ g) ⟨#[85, 78, 73, 84, 83]⟩ u PW.out L7.out).mono ?_; rintro e wl ⟨rfl, hp, hb⟩; replace S1 := am ((hb.block w.heap.size HBL.out).trans S1.out); replace SB := am (SB.out.trans (hb.mono (Nat.le_of_lt HBL.out))); replace PW := am hp; clear hp hb x0 x1 x2 x3 x4 x5 x6 x7 x8; obtain ⟨x0, x1, x2, x3, x4, x5, x6, x7, x8⟩ := rcpc S1.out))
 go_upto_region 16 with (first | (go_at_call 15; refine (receipt_grouped.calls k tok q _ HQ.out).mono ?_; rintro e wi ⟨rfl, hb⟩; replace S1 := am (blk_below S1.out hb); replace SB := am (below_then SB.out SB.out.size hb); replace PW := am (paper_below PW.out hb); clear hb x0 x1 x2 x3 x4 x5 x6 x7 x8; obtain ⟨x0, x1, x2, x3, x4, x5, x6, x7, x8⟩ := rcpc S1.out) | (go_at_call 11; refine (paper_line _ b ((((((((([] : List UInt8) ++ lineB ⟨#[77, 69, 84, 69, 82]⟩ n) ++ lineB ⟨#[78, 85, 77, 66, 69, 82]⟩ i) ++ lineB ⟨#[84, 69, 78, 68, 69, 82]⟩ a) ++ lineB ⟨#[68, 69, 66, 84]⟩ c) ++ lineB ⟨#[70, 69, 69]⟩ d) ++ lineB ⟨#[80, 82, 73, 67, 69]⟩ f) ++ lineB ⟨#[67, 72, 65, 78, 71, 69]⟩ g) ++ lineB ⟨#[85, 78, 73, 84, 83]⟩ u) ⟨#[84, 79, 75, 69, 78]⟩ q PW.out L8.out).mono ?_; rintro e wl ⟨rfl, hp, hb⟩; replace S1 := am ((hb.block w.heap.size HBL.out).trans S1.out); replace SB := am (SB.out.trans (hb.mono (Nat.le_of_lt HBL.out))); replace PW := am hp; clear hp hb x0 x1 x2 x3 x4 x5 x6 x7 x8; obtain ⟨x0, x1, x2, x3, x4, x5, x6, x7, x8⟩ := rcpc S1.out))
 have HPW := PW.out
 have hne : rcLines n i a c d f g u q ≠ [] := by unfold rcLines lineB; simp
 obtain ⟨pv, hpv⟩ : ∃ pv, Lib.BuilderAtF 39 5 b b pv (Lib.byteCells (rcLines n i a c d f g u q)) _ := by
  rcases HPW with h | h
  ·
   exact ⟨_, h⟩
  ·
   exact ⟨_, h⟩
 have HP := am hpv
 have HNE := am hne
 clear HPW
 go_wp2_with (go_at_call 16; refine (paper_String _ b _ HNE.out pv HP.out).mono ?_; rintro e wz ⟨rfl, hb⟩; replace SB := am (SB.out.trans (hb.mono (Nat.le_of_lt HBL.out))); clear hb)
 go_ret2
 exact ⟨rfl, SB.out⟩
theorem receipt_Show.g_mono (k : Nat) (me id te de fe pr ch un : Int) (tok : ByteArray) : LeO (receipt_Show.g k me id te de fe pr ch un tok) (receipt_Show.g (k + 1) me id te de fe pr ch un tok) := by
 unfold receipt_Show.g
 exact LeO.bind (receipt_Number.mono _ _) (fun _ => LeO.bind (LeO.refl _) (fun _ => LeO.bind (LeO.refl _) (fun _ => LeO.bind (LeO.refl _) (fun _ => LeO.bind (LeO.refl _) (fun _ => LeO.bind (LeO.refl _) (fun _ => LeO.bind (LeO.refl _) (fun _ => LeO.bind (LeO.refl _) (fun _ => LeO.bind (receipt_grouped.mono _ _) (fun _ => LeO.refl _)))))))))
/-! ### receipt_Show: function 5 (by hand) -/
def receipt_Show.f (k : Nat) (me id te de fe pr ch un : Int) (tok : ByteArray) : Option (ByteArray × Int) := (receipt_Check.f me id te de fe pr ch un tok).bind fun e => if e = 0 then receipt_Show.g k me id te de fe pr ch un tok else some (⟨#[]⟩, e)
theorem receipt_Show.mono : ∀ a0 a1 a2 a3 a4 a5 a6 a7 a8 k, LeO (receipt_Show.f k a0 a1 a2 a3 a4 a5 a6 a7 a8) (receipt_Show.f (k + 1) a0 a1 a2 a3 a4 a5 a6 a7 a8) := fun a0 a1 a2 a3 a4 a5 a6 a7 a8 k => LeO.bind (LeO.refl _) (fun _ => LeO.ite (receipt_Show.g_mono k a0 a1 a2 a3 a4 a5 a6 a7 a8) (LeO.refl _))
theorem receipt_Show.calls (k : Nat) (me id te de fe pr ch un : Int) (tok : ByteArray) (r1 : ByteArray) (r2 : Int) (w : World) (HTAB : LaidW w) (h : receipt_Show.f k me id te de fe pr ch un tok = some (r1, r2)) :
  Calls Tryz.prog 5 #[.agg #[.int .i64 me, .int .i64 id, .int .i64 te, .int .i64 de, .int .i64 fe, .int .i64 pr, .int .i64 ch, .int .i64 un, .string tok]] w fun e w' => e = .returned (.tuple #[.string r1, .int .i64 r2]) ∧ Below w.heap.size w w' := by
 unfold receipt_Show.f at h
 obtain ⟨e0, hc, h⟩ := Option.bind_eq_some_iff.mp h
 by_cases h0 : e0 = 0
 ·
  rw [if_pos h0] at h
  subst h0
  unfold receipt_Show.g at h
  obtain ⟨⟨n, en⟩, hn, h⟩ := Option.bind_eq_some_iff.mp h
  obtain ⟨i, hi, h⟩ := Option.bind_eq_some_iff.mp h
  obtain ⟨⟨a, ea⟩, ha, h⟩ := Option.bind_eq_some_iff.mp h
  obtain ⟨⟨c, ec⟩, hcc, h⟩ := Option.bind_eq_some_iff.mp h
  obtain ⟨⟨d, ed⟩, hd, h⟩ := Option.bind_eq_some_iff.mp h
  obtain ⟨⟨f, ef⟩, hf, h⟩ := Option.bind_eq_some_iff.mp h
  obtain ⟨⟨g, eg⟩, hg, h⟩ := Option.bind_eq_some_iff.mp h
  obtain ⟨u, hu, h⟩ := Option.bind_eq_some_iff.mp h
  obtain ⟨q, hq, h⟩ := Option.bind_eq_some_iff.mp h
  by_cases hs : (rcSmall n && rcSmall i && rcSmall a && rcSmall c && rcSmall d && rcSmall f && rcSmall g && rcSmall u && rcSmall q) = true
  ·
   have h2 : some ((⟨(rcLines n i a c d f g u q).toArray⟩ : ByteArray), (0 : Int)) = some (r1, r2) := (if_pos hs).symm.trans h
   obtain ⟨rfl, rfl⟩ := Prod.mk.inj (Option.some.inj h2)
   simp only [Bool.and_eq_true, rcSmall, decide_eq_true_eq] at hs
   obtain ⟨⟨⟨⟨⟨⟨⟨⟨s0, s1⟩, s2⟩, s3⟩, s4⟩, s5⟩, s6⟩, s7⟩, s8⟩ := hs
   exact receipt_Show.main k me id te de fe pr ch un tok n i a c d f g u q en ea ec ed ef eg w HTAB hc hn hi ha hcc hd hf hg hu hq ⟨s0, s1, s2, s3, s4, s5, s6, s7, s8⟩
  ·
   exact absurd ((if_neg hs).symm.trans h) (by simp)
 ·
  rw [if_neg h0] at h
  obtain ⟨rfl, rfl⟩ := Prod.mk.inj (Option.some.inj h)
  exact receipt_Show.early me id te de fe pr ch un e0 tok w hc h0

/-! ### vendmeterref_In: function 38 -/
def vendmeterref_In.f (a0 : Int) (a1 : Int) (a2 : Int) : Option (Bool) := if a0 ≥ a1 then (some (decide (a0 ≤ a2))) else (some false)
set_option maxHeartbeats 8000000 in
set_option maxRecDepth 100000 in
theorem vendmeterref_In.calls (a0 : Int) (a1 : Int) (a2 : Int) (r : Bool) (w : World) (h : vendmeterref_In.f a0 a1 a2 = some r) :
  Calls Tryz.prog 38 #[.int .i64 a0, .int .i64 a1, .int .i64 a2] w fun e w' => e = .returned (.bool r) ∧ Drawn0 w w' := by
 have H : (if a0 ≥ a1 then (some (decide (a0 ≤ a2))) else (some false)) = some r := h
 clear h
 by_cases c4 : a0 ≥ a1
 ·
  rw [if_pos c4] at H
  have c4b0 : decide (a1 ≤ a0) = true := decide_eq_true c4
  clear c4
  obtain rfl := Option.some.inj H
  go_enter Tryz.func38, Tryz.ntmps38
  go_wp2
  go_ret
  exact ⟨by first | rfl | (simp; done) | (simp [*]; done), by repeat (first | exact Drawn0.refl _ | apply Drawn0.step)⟩
 ·
  rw [if_neg c4] at H
  have c4b0 : decide (a1 ≤ a0) = false := decide_eq_false c4
  clear c4
  obtain rfl := Option.some.inj H
  go_enter Tryz.func38, Tryz.ntmps38
  go_wp2
  go_ret
  exact ⟨by first | rfl | (simp; done) | (simp [*]; done), by repeat (first | exact Drawn0.refl _ | apply Drawn0.step)⟩

/-! ### vendmeterref_Digit: function 52 -/
def vendmeterref_Digit.f (a0 : Int) : Option (Bool) := if a0 ≥ 48 then (some (decide (a0 ≤ 57))) else (some false)
set_option maxHeartbeats 8000000 in
set_option maxRecDepth 100000 in
theorem vendmeterref_Digit.calls (a0 : Int) (r : Bool) (w : World) (h : vendmeterref_Digit.f a0 = some r) :
  Calls Tryz.prog 52 #[.int .u8 a0] w fun e w' => e = .returned (.bool r) ∧ Drawn0 w w' := by
 have H : (if a0 ≥ 48 then (some (decide (a0 ≤ 57))) else (some false)) = some r := h
 clear h
 by_cases c2 : a0 ≥ 48
 ·
  rw [if_pos c2] at H
  have c2b0 : decide (48 ≤ a0) = true := decide_eq_true c2
  clear c2
  obtain rfl := Option.some.inj H
  go_enter Tryz.func52, Tryz.ntmps52
  go_wp2
  go_ret
  exact ⟨by first | rfl | (simp; done) | (simp [*]; done), by repeat (first | exact Drawn0.refl _ | apply Drawn0.step)⟩
 ·
  rw [if_neg c2] at H
  have c2b0 : decide (48 ≤ a0) = false := decide_eq_false c2
  clear c2
  obtain rfl := Option.some.inj H
  go_enter Tryz.func52, Tryz.ntmps52
  go_wp2
  go_ret
  exact ⟨by first | rfl | (simp; done) | (simp [*]; done), by repeat (first | exact Drawn0.refl _ | apply Drawn0.step)⟩

-- NOT PRINTED: function 102 (vendmeterbig_Int_give)

/-! ### vendmeterbig_trim: function 135 -/
def vendmeterbig_trim.l0 : Nat → List Int → Int → Option (List Int)
 | 0, _, _ => none
 | k + 1, x0, x3 => if x3 > 0 then (if 0 ≤ (wrap64 (x3 - 1)) then (if (wrap64 (x3 - 1)) < (x0.length : Int) then (if (rd x0 (wrap64 (x3 - 1))) = 0 then (vendmeterbig_trim.l0 k x0 (wrap64 (x3 - 1))) else (if 0 ≤ x3 then (if x3 ≤ (x0.length : Int) then (some (x0.take (x3 : Int).toNat)) else (none)) else (none))) else (none)) else (none)) else (if 0 ≤ x3 then (if x3 ≤ (x0.length : Int) then (some (x0.take (x3 : Int).toNat)) else (none)) else (none))
def vendmeterbig_trim.f (k : Nat) (l0 : List Int) : Option (List Int) := vendmeterbig_trim.l0 k l0 (l0.length : Int)
theorem vendmeterbig_trim.mono_l : ∀ k, (∀ y0 y1, LeO (vendmeterbig_trim.l0 k y0 y1) (vendmeterbig_trim.l0 (k + 1) y0 y1))
 | 0 => fun _ _ r h => by simp [vendmeterbig_trim.l0] at h
 | k + 1 => by
  have ih0 := vendmeterbig_trim.mono_l k
  ·
   intro y0 y1
   unfold vendmeterbig_trim.l0
   repeat' first
   | (with_reducible exact ih0 _ _)
   | (with_reducible exact LeO.refl _)
   | (with_reducible exact LeO.none _)
   | (with_reducible refine LeO.ite ?_ ?_)
   | (with_reducible refine LeO.bind ?_ (fun _ => ?_))
theorem vendmeterbig_trim.mono : ∀ a0 k, LeO (vendmeterbig_trim.f k a0) (vendmeterbig_trim.f (k + 1) a0) := by
 intro a0 k
 have ih0 := vendmeterbig_trim.mono_l k
 unfold vendmeterbig_trim.f
 repeat' first
   | (with_reducible exact ih0 _ _)
   | (with_reducible exact LeO.refl _)
   | (with_reducible exact LeO.none _)
   | (with_reducible refine LeO.ite ?_ ?_)
   | (with_reducible refine LeO.bind ?_ (fun _ => ?_))
set_option maxHeartbeats 8000000 in
set_option maxRecDepth 100000 in
theorem vendmeterbig_trim.calls (k : Nat) (P0_ : Nat → Prop) (u9000_ : Value) (l0 : List Int) (r : List Int) (w0 w : World) (hB : Below w0.heap.size w0 w) (ho0 : Kd.R (Kd.int .u32) 84 w w0.heap.size P0_ u9000_ l0) (h : vendmeterbig_trim.f k l0 = some r) :
  Calls Tryz.prog 135 #[u9000_] w fun e w' => ∃ v0_ : Value, e = .returned (v0_) ∧ Kd.R (Kd.int .u32) 84 w' w0.heap.size (fun k_ => (P0_ k_ ∨ w.heap.size ≤ k_)) v0_ r ∧ Below w0.heap.size w0 w' ∧ Kept w w' (fun k_ => P0_ k_) := by
 have HO0 := am (show Kd.R (Kd.int .u32) 84 w w0.heap.size (fun k_ => (P0_ k_ ∨ w.heap.size ≤ k_)) u9000_ l0 from Kd.R_mono ho0 (fun k_ hk => (.inl hk)))
 have HK := am (Kept.refl w (fun k_ => P0_ k_))
 have HW0 := am hB.size
 have HB := am hB
 clear hB
 have H : (vendmeterbig_trim.l0 k l0 (l0.length : Int)) = some r := h
 clear h
 have H' := am H
 clear H
 obtain ⟨Ao2, co2, eo2⟩ := Kd.R_slice HO0.1
 subst eo2
 go_enter Tryz.func135, Tryz.ntmps135
 go_wp2
 go_loopg [3] k (fun kq v3 w' => ∃ (x3_1 : Int), v3 = .int .i64 x3_1 ∧ Aside0 (vendmeterbig_trim.l0 kq l0 x3_1 = some r) ∧ Aside0 (kq ≤ k) ∧ Aside0 (Kd.R (Kd.int .u32) 84 w' w0.heap.size (fun k_ => (P0_ k_ ∨ w.heap.size ≤ k_)) (.slice Ao2 l0.length co2) l0) ∧ Aside0 (Kept w w' (fun k_ => P0_ k_)) ∧ Aside0 (Below w0.heap.size w0 w'))
 case atStart => exact ⟨((l0.length : Int)), czr, H', ⟨Nat.le_refl _⟩, ⟨czR HO0⟩, ⟨by repeat (first | (with_reducible first | exact HK.out | apply Kept.alloc | apply Kept.drewN | apply Kept.drew) | exact HK.out)⟩, ⟨czbl HB⟩⟩
 case round =>
  clear H'
  try clear c1
  try clear p2
  obtain ⟨x3_1, rfl, HA, HK1, HO_0, HK, HB⟩ := hrel
  cases gk with
  | zero => exact absurd HA.out (by simp [vendmeterbig_trim.l0])
  | succ k1 =>
   have H := HA.out
   clear HA
   simp only [vendmeterbig_trim.l0] at H
   by_cases c3 : x3_1 > 0
   ·
    rw [if_pos c3] at H
    have c3b0 : decide (0 < x3_1) = true := decide_eq_true c3
    clear c3
    obtain ⟨ji4, hji4⟩ : ∃ j_ : Int, (wrap64 (x3_1 - 1)) = j_ := ⟨_, rfl⟩
    replace H : (if 0 ≤ (ji4) then (if (ji4) < (l0.length : Int) then (if (rd l0 (ji4)) = 0 then (vendmeterbig_trim.l0 k1 l0 ji4) else (if 0 ≤ x3_1 then (if x3_1 ≤ (l0.length : Int) then (some (l0.take (x3_1 : Int).toNat)) else (none)) else (none))) else (none)) else (none)) = some r := by first | (rw [hji4] at H; exact H) | (simp only [hji4] at H ⊢; exact H)
    have hji4w : (IntKind.i64.wrap (x3_1 - 1)) = ji4 := (i64_w _).trans hji4
    by_cases c5 : 0 ≤ (ji4)
    ·
     rw [if_pos c5] at H
     have c5b0 : decide (0 ≤ (ji4)) = true := decide_eq_true c5
     clear c5
     by_cases c6 : (ji4) < (l0.length : Int)
     ·
      rw [if_pos c6] at H
      have c6b0 : decide ((ji4) < (l0.length : Int)) = true := decide_eq_true c6
      clear c6
      revert H
      refine czei (fun c7b0 c7b1 H => ?_) (fun c7 c7b0 c7b1 H => ?_)
      ·
       have H' := am H
       clear H
       have p125 : 0 ≤ ((ji4) : Int) := czd
       have q125 : (ji4) < (l0.length : Int) := czd
       obtain ⟨ad125, e125, hx125_0⟩ := Kd.at_int (Kd.R_reads' HO_0.out).2.2 (ji4) p125 q125
       cases e125
       replace p125 := eq_true p125
       replace q125 := eq_true q125
       go_wp2
       go_roundg k1
       case measure => have := HK1.out; omega
       case rel => exact ⟨(ji4), (by first | rfl | (simp; done) | (simp only [← hji4] <;> (first | rfl | simp)) | (simp [*]; done)), H', ⟨by have := HK1.out; omega⟩, ⟨czR HO_0⟩, ⟨by repeat (first | (with_reducible first | exact HK.out | apply Kept.alloc | apply Kept.drewN | apply Kept.drew) | exact HK.out)⟩, ⟨czbl HB⟩⟩
      ·
       by_cases c8 : 0 ≤ x3_1
       ·
        rw [if_pos c8] at H
        have c8b0 := eq_true c8
        have c8b1 : decide (0 ≤ x3_1) = true := decide_eq_true c8
        clear c8
        by_cases c9 : x3_1 ≤ (l0.length : Int)
        ·
         rw [if_pos c9] at H
         have c9b0 := eq_true c9
         have c9b1 : decide (x3_1 ≤ (l0.length : Int)) = true := decide_eq_true c9
         clear c9
         obtain ⟨y126, hy126⟩ : ∃ y_ : List Int, y_ = (l0.take (x3_1 : Int).toNat) := ⟨_, rfl⟩
         replace H : (some y126) = some r := by first | (rw [hy126]; with_reducible exact H) | (have H2_ := (Option.bind_some _ _).symm.trans H; rw [hy126]; with_reducible exact H2_) | (have H2_ := (Option.bind_some _ _).symm.trans H; with_reducible exact H2_) | with_reducible exact H | (rw [hy126]; exact H) | exact H
         have Ny126 := am hy126
         clear hy126
         obtain rfl := Option.some.inj H
         have p125 : 0 ≤ ((ji4) : Int) := czd
         have q125 : (ji4) < (l0.length : Int) := czd
         obtain ⟨ad125, e125, hx125_0⟩ := Kd.at_int (Kd.R_reads' HO_0.out).2.2 (ji4) p125 q125
         cases e125
         replace p125 := eq_true p125
         replace q125 := eq_true q125
         have q10 : (x3_1 : Int) ≤ ((l0.length : Int) : Int) := czd
         obtain ⟨i010, hi010, _, hsz10, _⟩ := info_parts info84
         have hcut10 := cut_to (P := Tryz.prog) 102 84 .i64 Tryz.underlying102 hi010 (some ad125) l0.length co2 x3_1 (czd) q10 (Kd.R_reads' HO_0.out).2.1
         have hr10 := Kd.R_take (m := (x3_1 : Int).toNat) HO_0.out (by omega)
         have hy10 : y126.length = (x3_1 : Int).toNat := (by rw [Ny126.out, List.length_take]; omega)
         rw [← Ny126.out] at hr10
         rw [← hy10] at hr10 hcut10
         clear hy10 hi010 hsz10 HO_0
         have HO128 := am hr10
         clear hr10
         replace q10 := eq_true q10
         go_wp2
         go_ret
         exact ⟨_, by first | rfl | (simp [errW_none, errW_some] <;> rfl) | (simp only [← hji4]; first | rfl | (simp [errW_none, errW_some] <;> rfl)) | (simp [*, errW_none, errW_some] <;> rfl), czR HO128, czbl HB, by repeat (first | (with_reducible first | exact HK.out | apply Kept.alloc | apply Kept.drewN | apply Kept.drew) | exact HK.out)⟩
        ·
         rw [if_neg c9] at H
         exact absurd H (by simp)
       ·
        rw [if_neg c8] at H
        exact absurd H (by simp)
     ·
      rw [if_neg c6] at H
      exact absurd H (by simp)
    ·
     rw [if_neg c5] at H
     exact absurd H (by simp)
   ·
    rw [if_neg c3] at H
    have c3b0 : decide (0 < x3_1) = false := decide_eq_false c3
    clear c3
    by_cases c11 : 0 ≤ x3_1
    ·
     rw [if_pos c11] at H
     have c11b0 := eq_true c11
     have c11b1 : decide (0 ≤ x3_1) = true := decide_eq_true c11
     clear c11
     by_cases c12 : x3_1 ≤ (l0.length : Int)
     ·
      rw [if_pos c12] at H
      have c12b0 := eq_true c12
      have c12b1 : decide (x3_1 ≤ (l0.length : Int)) = true := decide_eq_true c12
      clear c12
      obtain ⟨y129, hy129⟩ : ∃ y_ : List Int, y_ = (l0.take (x3_1 : Int).toNat) := ⟨_, rfl⟩
      replace H : (some y129) = some r := by first | (rw [hy129]; with_reducible exact H) | (have H2_ := (Option.bind_some _ _).symm.trans H; rw [hy129]; with_reducible exact H2_) | (have H2_ := (Option.bind_some _ _).symm.trans H; with_reducible exact H2_) | with_reducible exact H | (rw [hy129]; exact H) | exact H
      have Ny129 := am hy129
      clear hy129
      obtain rfl := Option.some.inj H
      have q13 : (x3_1 : Int) ≤ ((l0.length : Int) : Int) := czd
      obtain ⟨i013, hi013, _, hsz13, _⟩ := info_parts info84
      have hcut13 := cut_to (P := Tryz.prog) 102 84 .i64 Tryz.underlying102 hi013 Ao2 l0.length co2 x3_1 (czd) q13 (Kd.R_reads' HO_0.out).2.1
      have hr13 := Kd.R_take (m := (x3_1 : Int).toNat) HO_0.out (by omega)
      have hy13 : y129.length = (x3_1 : Int).toNat := (by rw [Ny129.out, List.length_take]; omega)
      rw [← Ny129.out] at hr13
      rw [← hy13] at hr13 hcut13
      clear hy13 hi013 hsz13 HO_0
      have HO131 := am hr13
      clear hr13
      replace q13 := eq_true q13
      go_wp2
      go_ret
      exact ⟨_, czeq, czR HO131, czbl HB, by repeat (first | (with_reducible first | exact HK.out | apply Kept.alloc | apply Kept.drewN | apply Kept.drew) | exact HK.out)⟩
     ·
      rw [if_neg c12] at H
      exact absurd H (by simp)
    ·
     rw [if_neg c11] at H
     exact absurd H (by simp)

/-! ### vendmeterbig_mul stands in bw.A, bw.B -/

-- NOT PRINTED: function 65 (vendmeterbig_Int_Mul)

/-! ### vendmeterbig_words: function 136 -/
def vendmeterbig_words.f (k : Nat) (a0 : Int) : Option (List Int) := (vendmeterbig_trim.f k (([(a0) % 4294967296, (a0 / 4294967296) % 4294967296] : List Int))).bind fun t135 => (some t135)
theorem vendmeterbig_words.mono : ∀ a0 k, LeO (vendmeterbig_words.f k a0) (vendmeterbig_words.f (k + 1) a0) := by
 intro a0 k
 unfold vendmeterbig_words.f
 repeat' first
   | (with_reducible exact vendmeterbig_trim.mono _ _)
   | (with_reducible exact LeO.refl _)
   | (with_reducible exact LeO.none _)
   | (with_reducible refine LeO.ite ?_ ?_)
   | (with_reducible refine LeO.bind ?_ (fun _ => ?_))
set_option maxHeartbeats 8000000 in
set_option maxRecDepth 100000 in
theorem vendmeterbig_words.calls (k : Nat) (a0 : Int) (r : List Int) (w : World) (h : vendmeterbig_words.f k a0 = some r) :
  Calls Tryz.prog 136 #[.int .u64 a0] w fun e w' => ∃ v0_ : Value, e = .returned (v0_) ∧ Kd.R (Kd.int .u32) 84 w' w.heap.size (fun _ => True) v0_ r ∧ Below w.heap.size w w' := by
 have HB := am (Below.refl w.heap.size w)
 have H : ((vendmeterbig_trim.f k (([(a0) % 4294967296, (a0 / 4294967296) % 4294967296] : List Int))).bind fun t135 => (some t135)) = some r := h
 clear h
 obtain ⟨y132, hy132⟩ : ∃ y_ : List Int, y_ = (([(a0) % 4294967296, (a0 / 4294967296) % 4294967296] : List Int)) := ⟨_, rfl⟩
 replace H : ((vendmeterbig_trim.f k y132).bind fun t135 => (some t135)) = some r := by first | (rw [hy132]; with_reducible exact H) | (have H2_ := (Option.bind_some _ _).symm.trans H; rw [hy132]; with_reducible exact H2_) | (have H2_ := (Option.bind_some _ _).symm.trans H; with_reducible exact H2_) | with_reducible exact H | (rw [hy132]; exact H) | exact H
 have Ny132 := am hy132
 clear hy132
 replace H := Option.bind_eq_some_iff.mp H
 obtain ⟨t135, A20, H⟩ := H
 (try dsimp only at H)
 have A2 := am A20
 clear A20
 obtain rfl := Option.some.inj H
 go_enter Tryz.func136, Tryz.ntmps136
 go_wp2_with (first | ((with_reducible refine gate_dst (N := 8) rfl ?_); refine Kd.R_lit (Kd.int .u32) _ 84 ?hg (N := 8) ?hd (xs := ([(a0) % 4294967296, (a0 / 4294967296) % 4294967296] : List Int)) (inner := [.int .u32 ((a0) % 4294967296), .int .u32 ((a0 / 4294967296) % 4294967296)]) (ok := fun _ => True) (okp := fun _ => True) ?hr ?hp (fun _ hk => hk) trivial (Below.refl _ _) (Nat.le_refl _) (by simp) ?_; (case hd => rfl); (case hg => rfl); (case hr => first | (go_simp; done) | (go_simp; rfl)); (case hp => exact (Reps.one (show Kd.M (Kd.int .u32) _ _ _ ((a0) % 4294967296) [.int .u32 ((a0) % 4294967296)] from rfl) (Reps.one (show Kd.M (Kd.int .u32) _ _ _ ((a0 / 4294967296) % 4294967296) [.int .u32 ((a0 / 4294967296) % 4294967296)] from rfl) (Reps.none _ _)))); intro v133 w3 ho4 hb hg_ hnew_; clear hg_ hnew_; (first | rw [← Ny132.out] at ho4 | (simp only [Int.reduceToNat] at ho4; rw [← Ny132.out] at ho4)); have HO134 := am (Kd.R_lower ho4 (below_size (czbl HB))); replace HB := am (below_step (czbl HB) hb); clear hb ho4; obtain ⟨Ao5, co5, eo5⟩ := Kd.R_slice HO134.1; subst eo5) | ((with_reducible refine gate_callee (f := 135) rfl ?_); refine czgo (some 9) Tryz.func135 #[.slice Ao5 y132.length co5] ?_; (with_reducible refine (vendmeterbig_trim.calls k (fun k_ => some k_ = (.slice Ao5 y132.length co5 : Value).ownBlock) (.slice Ao5 y132.length co5) y132 t135 w _ ?side1 ?side2 A2.out).mono ?_); (case side1 => repeat (first | (with_reducible first | exact HB.1 | apply below_alloc | apply pw_below_drewN | apply below_drew1) | exact HB.1)); (case side2 => exact Kd.R_tight rfl HO134.1); rintro e w6 ⟨v136, rfl, ho0, hb, hkp⟩; refine ⟨_, rfl, ?_⟩; have HO137 := am (Kd.R_mono (ok' := fun k_ => True) ho0 (fun k_ hk_ => trivial)); replace HB := am (hb); clear HO134; (try clear hb hkp ho0)))
 go_ret
 exact ⟨_, czeq, czR HO137, czbl HB⟩

-- NOT PRINTED: function 104 (vendmeterbig_Int_SetInt64)

-- NOT PRINTED: function 66 (vendmeterbig_NewInt)

-- NOT PRINTED: function 137 (vendmeterbig_add)

/-! ### vendmeterbig_cmp: function 138 -/
def vendmeterbig_cmp.l0 : Nat → List Int → List Int → Int → Option (Int)
 | 0, _, _, _ => none
 | k + 1, x0, x1, x5 => if x5 ≥ 0 then (if 0 ≤ x5 then (if x5 < (x0.length : Int) then (if x5 < (x1.length : Int) then (if (rd x0 x5) = (rd x1 x5) then (vendmeterbig_cmp.l0 k x0 x1 (wrap64 (x5 - 1))) else (if (rd x0 x5) < (rd x1 x5) then (some (-1)) else (some 1))) else (none)) else (none)) else (none)) else (some 0)
def vendmeterbig_cmp.f (k : Nat) (l0 : List Int) (l1 : List Int) : Option (Int) := if (l0.length : Int) = (l1.length : Int) then (vendmeterbig_cmp.l0 k l0 l1 (wrap64 ((l0.length : Int) - 1))) else (if (l0.length : Int) < (l1.length : Int) then (some (-1)) else (some 1))
theorem vendmeterbig_cmp.mono_l : ∀ k, (∀ y0 y1 y2, LeO (vendmeterbig_cmp.l0 k y0 y1 y2) (vendmeterbig_cmp.l0 (k + 1) y0 y1 y2))
 | 0 => fun _ _ _ r h => by simp [vendmeterbig_cmp.l0] at h
 | k + 1 => by
  have ih0 := vendmeterbig_cmp.mono_l k
  ·
   intro y0 y1 y2
   unfold vendmeterbig_cmp.l0
   repeat' first
   | (with_reducible exact ih0 _ _ _)
   | (with_reducible exact LeO.refl _)
   | (with_reducible exact LeO.none _)
   | (with_reducible refine LeO.ite ?_ ?_)
   | (with_reducible refine LeO.bind ?_ (fun _ => ?_))
theorem vendmeterbig_cmp.mono : ∀ a0 a1 k, LeO (vendmeterbig_cmp.f k a0 a1) (vendmeterbig_cmp.f (k + 1) a0 a1) := by
 intro a0 a1 k
 have ih0 := vendmeterbig_cmp.mono_l k
 unfold vendmeterbig_cmp.f
 repeat' first
   | (with_reducible exact ih0 _ _ _)
   | (with_reducible exact LeO.refl _)
   | (with_reducible exact LeO.none _)
   | (with_reducible refine LeO.ite ?_ ?_)
   | (with_reducible refine LeO.bind ?_ (fun _ => ?_))
set_option maxHeartbeats 8000000 in
set_option maxRecDepth 100000 in
theorem vendmeterbig_cmp.calls (k : Nat) (A0 : Option Addr) (c0 : Nat) (l0 : List Int) (A1 : Option Addr) (c1 : Nat) (l1 : List Int) (r : Int) (w : World) (hr0 : Kd.C (Kd.int .u32) w A0 l0.length l0) (hc0 : l0.length ≤ c0) (hr1 : Kd.C (Kd.int .u32) w A1 l1.length l1) (hc1 : l1.length ≤ c1) (h : vendmeterbig_cmp.f k l0 l1 = some r) :
  Calls Tryz.prog 138 #[.slice A0 l0.length c0, .slice A1 l1.length c1] w fun e w' => e = .returned (.int .i64 r) ∧ Drawn0 w w' := by
 have HR0 := am hr0
 have HC0 := am hc0
 clear hr0 hc0
 have HR1 := am hr1
 have HC1 := am hc1
 clear hr1 hc1
 have H : (if (l0.length : Int) = (l1.length : Int) then (vendmeterbig_cmp.l0 k l0 l1 (wrap64 ((l0.length : Int) - 1))) else (if (l0.length : Int) < (l1.length : Int) then (some (-1)) else (some 1))) = some r := h
 clear h
 by_cases c3 : (l0.length : Int) = (l1.length : Int)
 ·
  rw [if_pos c3] at H
  have c3b0 : ((l0.length : Int) == (l1.length : Int)) = true := beq_iff_eq.mpr c3
  have c3b1 : ((l0.length : Int) != (l1.length : Int)) = false := bne_eq_false_iff_eq.mpr c3
  have c3b2 : (l0.length == l1.length) = true := by first | simpa using c3 | (simp at c3 ⊢; omega)
  clear c3
  have H' := am H
  clear H
  go_enter Tryz.func138, Tryz.ntmps138
  go_wp2
  repeat (go_quiet (fail); try go_wp2)
  go_loopg [5] k (fun kq v5 w' => ∃ (x5_1 : Int), v5 = .int .i64 x5_1 ∧ Aside0 (vendmeterbig_cmp.l0 kq l0 l1 x5_1 = some r) ∧ Aside0 (kq ≤ k) ∧ Drawn0 w w')
  case atStart => exact ⟨(wrap64 ((l0.length : Int) - 1)), czr, H', ⟨Nat.le_refl _⟩, by repeat (first | exact Drawn0.refl _ | apply Drawn0.step)⟩
  case round =>
   clear H'
   try clear c1
   try clear p2
   try clear c3
   try clear c3b0
   try clear c3b1
   try clear c3b2
   obtain ⟨x5_1, rfl, HA, HK1, ⟨m1, rfl⟩⟩ := hrel
   cases gk with
   | zero => exact absurd HA.out (by simp [vendmeterbig_cmp.l0])
   | succ k1 =>
    have H := HA.out
    clear HA
    simp only [vendmeterbig_cmp.l0] at H
    by_cases c4 : x5_1 ≥ 0
    ·
     rw [if_pos c4] at H
     have c4b0 : decide (0 ≤ x5_1) = true := decide_eq_true c4
     clear c4
     by_cases c5 : 0 ≤ x5_1
     ·
      rw [if_pos c5] at H
      have c5b0 : decide (0 ≤ x5_1) = true := decide_eq_true c5
      clear c5
      by_cases c6 : x5_1 < (l0.length : Int)
      ·
       rw [if_pos c6] at H
       have c6b0 : decide (x5_1 < (l0.length : Int)) = true := decide_eq_true c6
       clear c6
       by_cases c7 : x5_1 < (l1.length : Int)
       ·
        rw [if_pos c7] at H
        have c7b0 : decide (x5_1 < (l1.length : Int)) = true := decide_eq_true c7
        clear c7
        revert H
        refine czei (fun c8b0 c8b1 H => ?_) (fun c8 c8b0 c8b1 H => ?_)
        ·
         have H' := am H
         clear H
         have p139 : 0 ≤ (x5_1 : Int) := czd
         have q139 : x5_1 < (l0.length : Int) := czd
         obtain ⟨ad139, e139, hx139_0⟩ := Kd.at_int HR0.out x5_1 p139 q139
         cases e139
         replace p139 := eq_true p139
         replace q139 := eq_true q139
         have p140 : 0 ≤ (x5_1 : Int) := czd
         have q140 : x5_1 < (l1.length : Int) := czd
         obtain ⟨ad140, e140, hx140_0⟩ := Kd.at_int HR1.out x5_1 p140 q140
         cases e140
         replace p140 := eq_true p140
         replace q140 := eq_true q140
         go_wp2
         repeat (go_quiet (fail); try go_wp2)
         go_roundg k1
         case measure => have := HK1.out; omega
         case rel => exact ⟨(wrap64 (x5_1 - 1)), czr, H', ⟨by have := HK1.out; omega⟩, by repeat (first | exact Drawn0.refl _ | apply Drawn0.step)⟩
        ·
         revert H
         refine czif (fun c9b0 H => ?_) (fun c9b0 H => ?_)
         ·
          obtain rfl := Option.some.inj H
          have p139 : 0 ≤ (x5_1 : Int) := czd
          have q139 : x5_1 < (l0.length : Int) := czd
          obtain ⟨ad139, e139, hx139_0⟩ := Kd.at_int HR0.out x5_1 p139 q139
          cases e139
          replace p139 := eq_true p139
          replace q139 := eq_true q139
          have p140 : 0 ≤ (x5_1 : Int) := czd
          have q140 : x5_1 < (l1.length : Int) := czd
          obtain ⟨ad140, e140, hx140_0⟩ := Kd.at_int HR1.out x5_1 p140 q140
          cases e140
          replace p140 := eq_true p140
          replace q140 := eq_true q140
          have p141 : 0 ≤ (x5_1 : Int) := czd
          have q141 : x5_1 < (l0.length : Int) := czd
          obtain ⟨ad141, e141, hx141_0⟩ := Kd.at_int HR0.out x5_1 p141 q141
          obtain rfl : ad139 = ad141 := (by injection e141)
          replace p141 := eq_true p141
          replace q141 := eq_true q141
          have p142 : 0 ≤ (x5_1 : Int) := czd
          have q142 : x5_1 < (l1.length : Int) := czd
          obtain ⟨ad142, e142, hx142_0⟩ := Kd.at_int HR1.out x5_1 p142 q142
          obtain rfl : ad140 = ad142 := (by injection e142)
          replace p142 := eq_true p142
          replace q142 := eq_true q142
          go_wp2
          repeat (go_quiet (fail); try go_wp2)
          go_ret
          exact ⟨by first | rfl | (simp; done) | (simp [*]; done), by repeat (first | exact Drawn0.refl _ | apply Drawn0.step)⟩
         ·
          obtain rfl := Option.some.inj H
          have p139 : 0 ≤ (x5_1 : Int) := czd
          have q139 : x5_1 < (l0.length : Int) := czd
          obtain ⟨ad139, e139, hx139_0⟩ := Kd.at_int HR0.out x5_1 p139 q139
          cases e139
          replace p139 := eq_true p139
          replace q139 := eq_true q139
          have p140 : 0 ≤ (x5_1 : Int) := czd
          have q140 : x5_1 < (l1.length : Int) := czd
          obtain ⟨ad140, e140, hx140_0⟩ := Kd.at_int HR1.out x5_1 p140 q140
          cases e140
          replace p140 := eq_true p140
          replace q140 := eq_true q140
          have p141 : 0 ≤ (x5_1 : Int) := czd
          have q141 : x5_1 < (l0.length : Int) := czd
          obtain ⟨ad141, e141, hx141_0⟩ := Kd.at_int HR0.out x5_1 p141 q141
          obtain rfl : ad139 = ad141 := (by injection e141)
          replace p141 := eq_true p141
          replace q141 := eq_true q141
          have p142 : 0 ≤ (x5_1 : Int) := czd
          have q142 : x5_1 < (l1.length : Int) := czd
          obtain ⟨ad142, e142, hx142_0⟩ := Kd.at_int HR1.out x5_1 p142 q142
          obtain rfl : ad140 = ad142 := (by injection e142)
          replace p142 := eq_true p142
          replace q142 := eq_true q142
          go_wp2
          repeat (go_quiet (fail); try go_wp2)
          go_ret
          exact ⟨by first | rfl | (simp; done) | (simp [*]; done), by repeat (first | exact Drawn0.refl _ | apply Drawn0.step)⟩
       ·
        rw [if_neg c7] at H
        exact absurd H (by simp)
      ·
       rw [if_neg c6] at H
       exact absurd H (by simp)
     ·
      rw [if_neg c5] at H
      exact absurd H (by simp)
    ·
     rw [if_neg c4] at H
     have c4b0 : decide (0 ≤ x5_1) = false := decide_eq_false c4
     clear c4
     obtain rfl := Option.some.inj H
     go_wp2
     repeat (go_quiet (fail); try go_wp2)
     go_ret
     exact ⟨by first | rfl | (simp; done) | (simp [*]; done), by repeat (first | exact Drawn0.refl _ | apply Drawn0.step)⟩
 ·
  rw [if_neg c3] at H
  have c3b0 : ((l0.length : Int) == (l1.length : Int)) = false := beq_eq_false_iff_ne.mpr c3
  have c3b1 : ((l0.length : Int) != (l1.length : Int)) = true := bne_iff_ne.mpr c3
  have c3b2 : (l0.length == l1.length) = false := by first | simpa using c3 | (simp at c3 ⊢; omega)
  by_cases c10 : (l0.length : Int) < (l1.length : Int)
  ·
   rw [if_pos c10] at H
   have c10b0 : decide ((l0.length : Int) < (l1.length : Int)) = true := decide_eq_true c10
   have c10b1 : decide (l0.length < l1.length) = true := decide_eq_true (Int.ofNat_lt.mp c10)
   clear c10
   obtain rfl := Option.some.inj H
   go_enter Tryz.func138, Tryz.ntmps138
   go_wp2
   repeat (go_quiet (fail); try go_wp2)
   go_ret
   exact ⟨by first | rfl | (simp; done) | (simp [*]; done), by repeat (first | exact Drawn0.refl _ | apply Drawn0.step)⟩
  ·
   rw [if_neg c10] at H
   have c10b0 : decide ((l0.length : Int) < (l1.length : Int)) = false := decide_eq_false c10
   have c10b1 : decide (l0.length < l1.length) = false := decide_eq_false (fun h => c10 (Int.ofNat_lt.mpr h))
   clear c10
   obtain rfl := Option.some.inj H
   go_enter Tryz.func138, Tryz.ntmps138
   go_wp2
   repeat (go_quiet (fail); try go_wp2)
   go_ret
   exact ⟨by first | rfl | (simp; done) | (simp [*]; done), by repeat (first | exact Drawn0.refl _ | apply Drawn0.step)⟩

end Go.Proofs.YtocolmpfpbclbaaGreatDoor.PReceiptShows
