-- written by this session's program wip/xp/xprint.py (it drives the kit's print and adds to it)
import Derived.Test.YtdijplohafjbcaaDoorPOrderShowsx0
import Derived.Test.YtdijplohafjbcaaDoorPOrderShowsx1
namespace Go.Proofs.YtdijplohafjbcaaDoor.POrderShows
open Go.RowKit Go.Proofs.YtdijplohafjbcaaDoorW.PrintWords Go.Proofs.YtdijplohafjbcaaDoorW.PrintLast Go.Proofs.YtdijplohafjbcaaDoorW.PrintMore
attribute [local go_sem] max2_int min2_int max_two min_two max_three min_three max_four min_four   -- for this text's walks alone
set_option linter.unusedVariables false
set_option linter.unusedSimpArgs false

section
variable {P : Program} {ops : Array Oper} {o : Oper} {a : Act} {Q : Exit → Act → World → Prop} {W : World}
theorem seg.run {t : TypeId} {e : TypeId} {g : Nat} {cur new : Array Value} {u : Value} (i : Nat) (cs : List Value) (hu : u.cells.toList = cs) (ht : (P.info? t).map (·.size) = some cs.length) (h1 : ∀ q ∈ cs, q.oneCell' = true) (hh : W.heap[g]? = some (.cells cur e (0, 0))) (hsz : i + cs.length ≤ cur.size) (hnew : cur.toList.take i ++ cs ++ cur.toList.drop (i + cs.length) = new.toList) :
    (Instr.storeAt t (.pointer (some ⟨g, i, none⟩)) u).run P W = .ok () (W.setCells g i cs) ∧ (W.setCells g i cs).heap[g]? = some (.cells new e (0, 0)) ∧ W.grownBy (W.setCells g i cs) (some g) := by
  refine ⟨run_store_run t u cs hh hu ht hsz h1, ?_, ?_⟩
  · obtain ⟨cur', h2, h3, h4⟩ := setCells_row cs i W cur hh hsz
    rw [h2]
    have : cur' = new := Array.toList_inj.1 (h4.trans hnew)
    rw [this]
  · obtain ⟨q1, q2, q3, q4⟩ := setCells_same g cs i W
    exact ⟨q1, q2, q3, by rw [q4]; exact Nat.le_refl _, fun k _ hk => setCells_far _ _ k (fun h => hk (by rw [h]))⟩
theorem seg.list {rest : List Oper} (hN : o.dst = none) (hgd : o.guard = none) (t : TypeId) (p x : Operand) (ho : o.op = .store t p x) (e : TypeId) (g i : Nat) (cur new : Array Value) (cs : List Value) (haddr : a.eval p = .pointer (some ⟨g, i, none⟩)) (hu : (a.eval x).cells.toList = cs) (ht : (P.info? t).map (·.size) = some cs.length) (h1 : ∀ q ∈ cs, q.oneCell' = true) (hh : W.heap[g]? = some (.cells cur e (0, 0))) (hsz : i + cs.length ≤ cur.size) (hnew : cur.toList.take i ++ cs ++ cur.toList.drop (i + cs.length) = new.toList)
    (h : ∀ w1, w1.heap[g]? = some (.cells new e (0, 0)) → W.grownBy w1 (some g) → wpList P ops Q rest a w1) : wpList P ops Q (o :: rest) a W := by
  obtain ⟨hrun, hb, hg⟩ := seg.run (P := P) (t := t) i cs hu ht h1 hh hsz hnew
  refine wpList_plain hgd fun K hK => ?_
  unfold Oper.wp execOp
  simp only [ho, haddr, Sem.run_bind, Sem.run_pure, Result.andThen_ok, hrun]
  show K (a.put o.dst undef) _
  rw [hN]
  exact hK a _ (h _ hb hg)
theorem seg.step {Kc : Act → World → Prop} (hw : Region.wanted o (yielded ops a.tmps) = true) (hN : o.dst = none) (t : TypeId) (p x : Operand) (ho : o.op = .store t p x) (e : TypeId) (g i : Nat) (cur new : Array Value) (cs : List Value) (haddr : a.eval p = .pointer (some ⟨g, i, none⟩)) (hu : (a.eval x).cells.toList = cs) (ht : (P.info? t).map (·.size) = some cs.length) (h1 : ∀ q ∈ cs, q.oneCell' = true) (hh : W.heap[g]? = some (.cells cur e (0, 0))) (hsz : i + cs.length ≤ cur.size) (hnew : cur.toList.take i ++ cs ++ cur.toList.drop (i + cs.length) = new.toList)
    (h : ∀ w1, w1.heap[g]? = some (.cells new e (0, 0)) → W.grownBy w1 (some g) → Kc (a.put o.dst undef) w1) :
    if Region.wanted o (yielded ops a.tmps) = true then Oper.wp P o a W Kc Q else Kc (a.put o.dst undef) W := by
  obtain ⟨hrun, hb, hg⟩ := seg.run (P := P) (t := t) i cs hu ht h1 hh hsz hnew
  rw [if_pos hw]
  unfold Oper.wp execOp
  simp only [ho, haddr, Sem.run_bind, Sem.run_pure, Result.andThen_ok, hrun]
  exact h _ hb hg
end
theorem seg.below {w W w1 : World} {g : Nat} (h : Below w.heap.size w W) (hg : W.grownBy w1 (some g)) (hl : w.heap.size ≤ g) : Below w.heap.size w w1 := pw_below_grown h (some g) h.size hg (fun k hk => by cases hk; exact hl)
theorem seg.far {W w1 : World} {g h : Nat} {ob : Obj} (hb : W.heap[h]? = some ob) (hg : W.grownBy w1 (some g)) (hne : h ≠ g) : w1.heap[h]? = some ob := blk_grown hb hg (fun e => hne (Option.some.inj e))
theorem seg.R {α : Type} {d : Kd α} {e base : Nat} {ok : Nat → Prop} {W w1 : World} {v : Value} {xs : List α} {g : Nat} (h : d.R e W base ok v xs) (hg : W.grownBy w1 (some g)) (hok : ∀ k, ok k → k ≠ g) : d.R e w1 base ok v xs := Kd.R_grown h hg (fun k hk e => hok k hk (Option.some.inj e))

def kp (g : Nat) : Kd Nat := Kd.scalar (fun o => .pointer (some ⟨g, o, none⟩)) (fun _ => rfl)
theorem kp_mkM (g : Nat) (w : World) (base : Nat) (ok : Nat → Prop) (o : Nat) : (kp g).M w base ok o [.pointer (some ⟨g, o, none⟩)] := rfl
def placeP (a b c : Bool) (i : Int) : List Nat := [1] ++ (if 0 < i ∧ a = true then [2] else []) ++ (if 1 < i ∧ b = true then [3] else []) ++ (if 2 < i ∧ c = true then [4] else [])
def placeL (a b c : Bool) : List Nat := placeP a b c 3
theorem place1 (g : Nat) (w : World) (h : Nat) (hb : w.heap[h]? = some (.cells #[.pointer (some ⟨g, 1, none⟩)] 57 (0, 0))) (base : Nat) (hle : base ≤ h) (ok : Nat → Prop) (hok : ok h) : Kd.R (kp g) 57 w base ok (.slice (some ⟨h, 0, none⟩) 1 1) [1] := by
  refine ⟨fun k hk => (by cases hk; exact hok), [.pointer (some ⟨g, 1, none⟩)], ⟨rfl, .inr ⟨h, 1, _, rfl, hle, hb, Nat.le_refl _, by decide, rfl, rfl⟩⟩, ?_⟩
  exact Reps.one (kp_mkM _ _ _ _ _) (Reps.none _ _)
theorem place_ix (W : World) (a b c : Bool) : (Instr.index 78 (.agg #[.bool a, .bool b, .bool c]) (.int .i64 0)).run Tryd.prog W = .ok (.bool a) W ∧ (Instr.index 78 (.agg #[.bool a, .bool b, .bool c]) (.int .i64 1)).run Tryd.prog W = .ok (.bool b) W ∧ (Instr.index 78 (.agg #[.bool a, .bool b, .bool c]) (.int .i64 2)).run Tryd.prog W = .ok (.bool c) W := by
  have hu := Tryd.underlying78
  refine ⟨?_, ?_, ?_⟩ <;> simp [Instr.index, hu, go_sem]
set_option maxHeartbeats 8000000 in
set_option maxRecDepth 100000 in
theorem order_places.calls (w : World) (g : Nat) (kd : Int) (wd : ByteArray) (a b c : Bool) :
    Calls Tryd.prog 19 #[.agg #[.int .i64 kd, .string wd, .bool a, .bool b, .bool c], .pointer (some ⟨g, 0, none⟩)] w fun e w' => ∃ v, e = .returned v ∧ Kd.R (kp g) 57 w' w.heap.size (fun _ => True) v (placeL a b c) ∧ Below w.heap.size w w' := by
  have hu49 := Tryd.underlying49
  have hu31 := Tryd.underlying31
  have hu78 := Tryd.underlying78
  have hu54 := Tryd.underlying54
  obtain ⟨OF, hOF⟩ : ∃ OF, Obj.cells #[.int .i64 kd, .string wd, .bool a, .bool b, .bool c] 49 = OF := ⟨_, rfl⟩
  obtain ⟨OP, hOP⟩ : ∃ OP, Obj.cells #[.pointer (some ⟨g, 1, none⟩)] 57 = OP := ⟨_, rfl⟩
  obtain ⟨OQ, hOQ⟩ : ∃ OQ, Obj.cells #[.pointer (some ⟨g, 2, none⟩), .pointer (some ⟨g, 3, none⟩), .pointer (some ⟨g, 4, none⟩)] 57 = OQ := ⟨_, rfl⟩
  have B1 := blk_drew (blk_alloc (blk_alloc (blk_new w OF) OP) OQ)
  have B2 := blk_drew (blk_alloc (blk_new (w.alloc OF) OP) OQ)
  have B3 := blk_drew (blk_new ((w.alloc OF).alloc OP) OQ)
  have HB := Aside0.mk (below_drew1 (below_alloc (below_alloc (below_alloc (Below.refl w.heap.size w) OF) OP) OQ))
  rw [World.size_alloc] at B2
  rw [World.size_alloc, World.size_alloc] at B3
  rw [← hOF, ← hOP, ← hOQ] at B1 B2 B3 HB
  have R1 := Aside0.mk (place1 g _ (w.heap.size + 1) B2 w.heap.size (Nat.le_succ _) (fun k => k ≠ w.heap.size + 1 + 1) (by omega))
  have H1 := Aside0.mk B1
  have H3 := Aside0.mk B3
  clear B1 B2 B3 hOF hOP hOQ
  go_enter Tryd.func19, Tryd.ntmps19
  go_upto_region 2 with (fail)
  go_region
  go_wp2
  go_loopg [5, 23] 3 (fun kq v5 v23 w' => ∃ i : Int, v23 = .int .i64 i ∧ Aside0 (0 ≤ i ∧ i ≤ 3 ∧ kq = (3 - i).toNat) ∧ Aside0 (Kd.R (kp g) 57 w' w.heap.size (fun k => k ≠ w.heap.size + 1 + 1) v5 (placeP a b c i)) ∧ Aside0 (w'.heap[w.heap.size]? = some (.cells #[.int .i64 kd, .string wd, .bool a, .bool b, .bool c] 49)) ∧ Aside0 (w'.heap[w.heap.size + 1 + 1]? = some (.cells #[.pointer (some ⟨g, 2, none⟩), .pointer (some ⟨g, 3, none⟩), .pointer (some ⟨g, 4, none⟩)] 57)) ∧ Aside0 (Below w.heap.size w w'))
  case atStart => exact ⟨0, rfl, ⟨by decide, by decide, by decide⟩, ⟨by simpa [placeP] using R1.out⟩, H1, H3, HB⟩
  case round =>
    clear R1 H1 H3 HB
    obtain ⟨i, rfl, HI, HR, H1, H3, HB⟩ := hrel
    obtain ⟨i0, i3, hk⟩ := HI.out
    clear HI
    have x2 := blk_cell H1.out 2
    have x3 := blk_cell H1.out 3
    have x4 := blk_cell H1.out 4
    have y0 := blk_cell H3.out 0
    have y1 := blk_cell H3.out 1
    have y2 := blk_cell H3.out 2
    by_cases hlt : i < 3
    · obtain rfl | rfl | rfl : i = 0 ∨ i = 1 ∨ i = 2 := by omega
      · have hix := fun W => (place_ix W a b c).1
        cases a
        · go_wp2
          go_roundg 2
          case measure => omega
          case rel => exact ⟨1, rfl, ⟨by decide, by decide, by decide⟩, ⟨by simpa [placeP] using HR.out⟩, H1, H3, HB⟩
        · go_wp2_with ((with_reducible refine gate_builtin (b := .append) (xs := #[.tmp 37, .tmp 39]) rfl ?_); at_builtin; refine Kd.R_append (kp g) (w0 := w) w.heap.size rfl (.tmp 37) (.tmp 39) 54 57 (.pointer none) 8 rfl Tryd.underlying54 (by kernel_rfl) rfl Nat.one_pos (by omega) u5 (placeP true b c 0) 2 [.pointer (some ⟨g, 2, none⟩)] (fun k => k ≠ w.heap.size + 1 + 1) (fun _ => False) rfl rfl rfl (fun _ h => h.elim) (fun k hk => by have := blk_lt H3.out; omega) HR.out HB.out HB.out.size ?aL ?_; (case aL => (unfold placeP; split <;> split <;> split <;> simp)); intro v9 w9 ho hb hg hat; have N1 := Aside0.mk (blk_grown H1.out hg (Kd.R_ne HR.out H1.out (by decide))); have N3 := Aside0.mk (blk_grown H3.out hg (fun e => HR.out.1 _ e.symm rfl)); have NR := Aside0.mk ho; have NB := Aside0.mk hb; clear ho hb hg hat)
          go_roundg 2
          case measure => omega
          case rel => exact ⟨1, rfl, ⟨by decide, by decide, by decide⟩, ⟨by have hn := NR.out; simpa [placeP] using hn⟩, N1, N3, NB⟩
      · have hix := fun W => (place_ix W a b c).2.1
        cases b
        · go_wp2
          go_roundg 1
          case measure => omega
          case rel => exact ⟨2, rfl, ⟨by decide, by decide, by decide⟩, ⟨by simpa [placeP] using HR.out⟩, H1, H3, HB⟩
        · go_wp2_with ((with_reducible refine gate_builtin (b := .append) (xs := #[.tmp 37, .tmp 39]) rfl ?_); at_builtin; refine Kd.R_append (kp g) (w0 := w) w.heap.size rfl (.tmp 37) (.tmp 39) 54 57 (.pointer none) 8 rfl Tryd.underlying54 (by kernel_rfl) rfl Nat.one_pos (by omega) u5 (placeP a true c 1) 3 [.pointer (some ⟨g, 3, none⟩)] (fun k => k ≠ w.heap.size + 1 + 1) (fun _ => False) rfl rfl rfl (fun _ h => h.elim) (fun k hk => by have := blk_lt H3.out; omega) HR.out HB.out HB.out.size ?aL ?_; (case aL => (unfold placeP; split <;> split <;> split <;> simp)); intro v9 w9 ho hb hg hat; have N1 := Aside0.mk (blk_grown H1.out hg (Kd.R_ne HR.out H1.out (by decide))); have N3 := Aside0.mk (blk_grown H3.out hg (fun e => HR.out.1 _ e.symm rfl)); have NR := Aside0.mk ho; have NB := Aside0.mk hb; clear ho hb hg hat)
          go_roundg 1
          case measure => omega
          case rel => exact ⟨2, rfl, ⟨by decide, by decide, by decide⟩, ⟨by have hn := NR.out; simpa [placeP] using hn⟩, N1, N3, NB⟩
      · have hix := fun W => (place_ix W a b c).2.2
        cases c
        · go_wp2
          go_roundg 0
          case measure => omega
          case rel => exact ⟨3, rfl, ⟨by decide, by decide, by decide⟩, ⟨by simpa [placeP, placeL] using HR.out⟩, H1, H3, HB⟩
        · go_wp2_with ((with_reducible refine gate_builtin (b := .append) (xs := #[.tmp 37, .tmp 39]) rfl ?_); at_builtin; refine Kd.R_append (kp g) (w0 := w) w.heap.size rfl (.tmp 37) (.tmp 39) 54 57 (.pointer none) 8 rfl Tryd.underlying54 (by kernel_rfl) rfl Nat.one_pos (by omega) u5 (placeP a b true 2) 4 [.pointer (some ⟨g, 4, none⟩)] (fun k => k ≠ w.heap.size + 1 + 1) (fun _ => False) rfl rfl rfl (fun _ h => h.elim) (fun k hk => by have := blk_lt H3.out; omega) HR.out HB.out HB.out.size ?aL ?_; (case aL => (unfold placeP; split <;> split <;> split <;> simp)); intro v9 w9 ho hb hg hat; have N1 := Aside0.mk (blk_grown H1.out hg (Kd.R_ne HR.out H1.out (by decide))); have N3 := Aside0.mk (blk_grown H3.out hg (fun e => HR.out.1 _ e.symm rfl)); have NR := Aside0.mk ho; have NB := Aside0.mk hb; clear ho hb hg hat)
          go_roundg 0
          case measure => omega
          case rel => exact ⟨3, rfl, ⟨by decide, by decide, by decide⟩, ⟨by have hn := NR.out; simpa [placeP] using hn⟩, N1, N3, NB⟩
    · obtain rfl : i = 3 := by omega
      go_wp2
      go_ret
      exact ⟨_, rfl, Kd.R_mono HR.out (fun _ _ => trivial), HB.out⟩
theorem results_c1o {P : Program} {fn : Func} {p : Tmp} {ty : TypeId} (h : fn.results = #[.cell p ty]) (tmps : Array Value) (w : World) (g : Nat) (t : TypeId) (cs : Array Value) (fr : Nat × Nat) (d : TypeDesc)
    (hp : tmps.getD p undef = .pointer (some ⟨g, 0, none⟩)) (hg : w.heap[g]? = some (.cells cs t fr))
    (hu : P.underlying ty = some d) (hd : (match d with | .struct _ | .array _ _ => true | _ => false) = true) (hi : (P.info? ty).map (·.size) = some cs.size) :
    (results fn tmps).run P w = .ok (.agg cs) w := by
  have hp' : tmps[p]?.getD undef = .pointer (some ⟨g, 0, none⟩) := by simpa using hp
  simp [results, h, hp', asAddr, run_loadVar_row w g t ty cs fr d hg hu hd hi]
theorem at_kp {g : Nat} {w : World} {A : Option Addr} {n : Nat} {xs : List Nat} (h : Kd.C (kp g) w A n xs) (i : Int) (h0 : 0 ≤ i) (h1 : i < n) : ∃ ad, A = some ad ∧ w.cell? (ad.add i.toNat) = some (.pointer (some ⟨g, xs.getD i.toNat 0, none⟩)) := by
  obtain ⟨ad, c, e, _, hK, hc0⟩ := Kd.C_get h 0 i h0 h1
  obtain rfl : c = [.pointer (some ⟨g, xs.getD i.toNat 0, none⟩)] := hK
  have := hc0 0 _ rfl
  exact ⟨ad, e, by simpa [kp, Kd.scalar] using this⟩
theorem w64 {a : Int} (h : -9223372036854775808 ≤ a ∧ a ≤ 9223372036854775807) : wrap64 a = a := by
  unfold wrap64
  omega
def hit (l : List Nat) (o : Nat) (x : Int) : Int := if o ∈ l then 0 else x
theorem hit_snoc (l : List Nat) (o p : Nat) (x : Int) : hit (l ++ [p]) o x = if o = p then 0 else hit l o x := by
  unfold hit
  by_cases h : o = p <;> simp [h]
theorem place_mem (a b c : Bool) (i : Nat) (h : i < (placeL a b c).length) : (placeL a b c).getD i 0 = 1 ∨ (placeL a b c).getD i 0 = 2 ∨ (placeL a b c).getD i 0 = 3 ∨ (placeL a b c).getD i 0 = 4 := by
  have hm : (placeL a b c).getD i 0 ∈ placeL a b c := by rw [List.getD_eq_getElem?_getD, List.getElem?_eq_getElem h]; exact List.getElem_mem h
  revert hm
  generalize (placeL a b c).getD i 0 = o
  cases a <;> cases b <;> cases c <;> simp [placeL, placeP] <;> omega
theorem place_len (a b c : Bool) : 1 ≤ (placeL a b c).length ∧ (placeL a b c).length ≤ 4 := by cases a <;> cases b <;> cases c <;> decide
set_option maxHeartbeats 8000000 in
set_option maxRecDepth 100000 in
theorem order_bare.calls (w : World) (kd : Int) (wd : ByteArray) (a b c : Bool) (kn M A B C : Int) (tx : ByteArray) (ct : Int) :
    Calls Tryd.prog 20 #[.agg #[.int .i64 kd, .string wd, .bool a, .bool b, .bool c], .agg #[.int .i64 kn, .int .i64 M, .int .i64 A, .int .i64 B, .int .i64 C, .string tx, .int .i64 ct]] w fun e w' => e = .returned (.agg #[.int .i64 0, .int .i64 (hit (placeL a b c) 1 M), .int .i64 (hit (placeL a b c) 2 A), .int .i64 (hit (placeL a b c) 3 B), .int .i64 (hit (placeL a b c) 4 C), .string (if kd = 6 then ⟨#[]⟩ else tx), .int .i64 0]) ∧ Below w.heap.size w w' := by
  have hu49 := Tryd.underlying49
  have hu31 := Tryd.underlying31
  have hu54 := Tryd.underlying54
  obtain ⟨OF, hOF⟩ : ∃ OF, Obj.cells #[.int .i64 kd, .string wd, .bool a, .bool b, .bool c] 49 = OF := ⟨_, rfl⟩
  obtain ⟨OA, hOA⟩ : ∃ OA, Obj.cells #[.int .i64 kn, .int .i64 M, .int .i64 A, .int .i64 B, .int .i64 C, .string tx, .int .i64 ct] 31 = OA := ⟨_, rfl⟩
  obtain ⟨OZ, hOZ⟩ : ∃ OZ, Obj.cells #[.int .i64 0, .int .i64 0, .int .i64 0, .int .i64 0, .int .i64 0, .string ⟨#[]⟩, .int .i64 0] 31 = OZ := ⟨_, rfl⟩
  have B2 := blk_alloc (blk_alloc (blk_new w OF) OA) OZ
  have B3 := blk_alloc (blk_new (w.alloc OF) OA) OZ
  have B4 := blk_new ((w.alloc OF).alloc OA) OZ
  have HB := Aside0.mk (below_alloc (below_alloc (below_alloc (Below.refl w.heap.size w) OF) OA) OZ)
  rw [World.size_alloc] at B3
  rw [World.size_alloc, World.size_alloc] at B4
  rw [← hOF, ← hOA, ← hOZ] at B2 B3 B4 HB
  have x0 := blk_cell B2 0
  have x1 := blk_cell B2 1
  have x2 := blk_cell B2 2
  have x3 := blk_cell B2 3
  have x4 := blk_cell B2 4
  have H2 := Aside0.mk B2
  have H3 := Aside0.mk B3
  have H4 := Aside0.mk B4
  clear B2 B3 B4 hOF hOA hOZ
  obtain ⟨l, hl⟩ : ∃ l, placeL a b c = l := ⟨_, rfl⟩
  have HM := Aside0.mk (fun i => place_mem a b c i)
  have HL := Aside0.mk (place_len a b c)
  rw [hl] at HM HL
  go_enter Tryd.func20, Tryd.ntmps20
  go_wp2_with (go_at_call 19; refine (order_places.calls _ (w.heap.size + 1) kd wd a b c).mono ?_; rintro e w1 ⟨v, rfl, hR, hb⟩; obtain ⟨A8, c8, rfl⟩ := Kd.R_slice hR; rw [hl] at hR ⊢; have R1 := Aside0.mk (Kd.R_lower hR HB.out.size); have J2 := Aside0.mk (blk_below H2.out hb); have J3 := Aside0.mk (blk_below H3.out hb); have J4 := Aside0.mk (blk_below H4.out hb); have JB := Aside0.mk (below_then HB.out HB.out.size hb); clear hR hb)
  clear x0 x1 x2 x3 x4
  go_loopg [10] l.length (fun kq v10 w' => ∃ (i : Int) (M' A' B' C' : Int), v10 = .int .i64 i ∧ Aside0 (0 ≤ i ∧ i ≤ l.length ∧ kq = (l.length - i).toNat) ∧ Aside0 (M' = hit (l.take i.toNat) 1 M ∧ A' = hit (l.take i.toNat) 2 A ∧ B' = hit (l.take i.toNat) 3 B ∧ C' = hit (l.take i.toNat) 4 C) ∧ Aside0 (Kd.R (kp (w.heap.size + 1)) 57 w' w.heap.size (fun _ => True) (.slice A8 l.length c8) l) ∧ Aside0 (w'.heap[w.heap.size]? = some (.cells #[.int .i64 kd, .string wd, .bool a, .bool b, .bool c] 49)) ∧ Aside0 (w'.heap[w.heap.size + 1]? = some (.cells #[.int .i64 kn, .int .i64 M', .int .i64 A', .int .i64 B', .int .i64 C', .string tx, .int .i64 ct] 31)) ∧ Aside0 (w'.heap[w.heap.size + 1 + 1]? = some (.cells #[.int .i64 0, .int .i64 0, .int .i64 0, .int .i64 0, .int .i64 0, .string ⟨#[]⟩, .int .i64 0] 31)) ∧ Aside0 (Below w.heap.size w w'))
  case atStart => exact ⟨0, M, A, B, C, rfl, ⟨by decide, by omega, by simp⟩, ⟨by simp [hit], by simp [hit], by simp [hit], by simp [hit]⟩, R1, J2, J3, J4, JB⟩
  case round =>
    clear R1 J2 J3 J4 JB H2 H3 H4 HB
    obtain ⟨i, M', A', B', C', rfl, HI, HV, HR, H2, H3, H4, HB⟩ := hrel
    by_cases hlt : i < l.length
    · obtain ⟨i0, i3, hk⟩ := HI.out
      have hm := HM.out i.toNat (by omega)
      obtain ⟨ad, hA8, hc⟩ := at_kp (Kd.R_reads' HR.out).2.2 i i0 (by omega)
      subst hA8
      have hnx : l.take (i + 1).toNat = l.take i.toNat ++ [l.getD i.toNat 0] := by
        rw [show (i + 1).toNat = i.toNat + 1 by omega, List.take_add_one, List.getD_eq_getElem?_getD, List.getElem?_eq_getElem (by omega)]; rfl
      have t1 : decide (i < (l.length : Int)) = true := decide_eq_true hlt
      have t2 : decide (0 ≤ i) = true := decide_eq_true i0
      have t3 := eq_true i0
      have t4 := eq_true hlt
      have HI2 := Aside0.mk (And.intro i0 (And.intro hlt (And.intro hk (show wrap64 (i + 1) = i + 1 from w64 ⟨by omega, by have := HL.out; omega⟩))))
      have HN := Aside0.mk hnx
      generalize l.getD i.toNat 0 = o at hm hc HN
      clear hnx hk hlt i3 HI
      rcases hm with rfl | rfl | rfl | rfl
      · go_wp2_with ((with_reducible refine gate_store (t := 3) (p := 15) rfl ?_); refine seg.list rfl rfl 3 (.tmp 15) _ rfl 31 (w.heap.size + 1) 1 #[.int .i64 kn, .int .i64 M', .int .i64 A', .int .i64 B', .int .i64 C', .string tx, .int .i64 ct] #[.int .i64 kn, .int .i64 0, .int .i64 A', .int .i64 B', .int .i64 C', .string tx, .int .i64 ct] [.int .i64 0] rfl rfl (by kernel_rfl) (by simp [Value.oneCell']) H3.out (by simp) rfl ?_; intro w9 bx hgr)
        go_roundg (l.length - (i + 1)).toNat
        case measure => have := HI2.out; omega
        case rel =>
          refine ⟨i + 1, 0, A', B', C', by rw [HI2.out.2.2.2], ⟨by have := HI2.out; omega, by have := HI2.out; omega, rfl⟩, ⟨?_⟩, ⟨Kd.R_mono (seg.R (Kd.R_types HR.out H3.out (by simp [kp, Kd.scalar])) hgr (fun _ hk => hk.2)) (fun _ _ => trivial)⟩, ⟨seg.far H2.out hgr (by omega)⟩, ⟨bx⟩, ⟨seg.far H4.out hgr (by omega)⟩, ⟨seg.below HB.out hgr (by omega)⟩⟩
          obtain ⟨rfl, rfl, rfl, rfl⟩ := HV.out
          rw [HN.out]
          simp [hit_snoc]
      · go_wp2_with ((with_reducible refine gate_store (t := 3) (p := 15) rfl ?_); refine seg.list rfl rfl 3 (.tmp 15) _ rfl 31 (w.heap.size + 1) 2 #[.int .i64 kn, .int .i64 M', .int .i64 A', .int .i64 B', .int .i64 C', .string tx, .int .i64 ct] #[.int .i64 kn, .int .i64 M', .int .i64 0, .int .i64 B', .int .i64 C', .string tx, .int .i64 ct] [.int .i64 0] rfl rfl (by kernel_rfl) (by simp [Value.oneCell']) H3.out (by simp) rfl ?_; intro w9 bx hgr)
        go_roundg (l.length - (i + 1)).toNat
        case measure => have := HI2.out; omega
        case rel =>
          refine ⟨i + 1, M', 0, B', C', by rw [HI2.out.2.2.2], ⟨by have := HI2.out; omega, by have := HI2.out; omega, rfl⟩, ⟨?_⟩, ⟨Kd.R_mono (seg.R (Kd.R_types HR.out H3.out (by simp [kp, Kd.scalar])) hgr (fun _ hk => hk.2)) (fun _ _ => trivial)⟩, ⟨seg.far H2.out hgr (by omega)⟩, ⟨bx⟩, ⟨seg.far H4.out hgr (by omega)⟩, ⟨seg.below HB.out hgr (by omega)⟩⟩
          obtain ⟨rfl, rfl, rfl, rfl⟩ := HV.out
          rw [HN.out]
          simp [hit_snoc]
      · go_wp2_with ((with_reducible refine gate_store (t := 3) (p := 15) rfl ?_); refine seg.list rfl rfl 3 (.tmp 15) _ rfl 31 (w.heap.size + 1) 3 #[.int .i64 kn, .int .i64 M', .int .i64 A', .int .i64 B', .int .i64 C', .string tx, .int .i64 ct] #[.int .i64 kn, .int .i64 M', .int .i64 A', .int .i64 0, .int .i64 C', .string tx, .int .i64 ct] [.int .i64 0] rfl rfl (by kernel_rfl) (by simp [Value.oneCell']) H3.out (by simp) rfl ?_; intro w9 bx hgr)
        go_roundg (l.length - (i + 1)).toNat
        case measure => have := HI2.out; omega
        case rel =>
          refine ⟨i + 1, M', A', 0, C', by rw [HI2.out.2.2.2], ⟨by have := HI2.out; omega, by have := HI2.out; omega, rfl⟩, ⟨?_⟩, ⟨Kd.R_mono (seg.R (Kd.R_types HR.out H3.out (by simp [kp, Kd.scalar])) hgr (fun _ hk => hk.2)) (fun _ _ => trivial)⟩, ⟨seg.far H2.out hgr (by omega)⟩, ⟨bx⟩, ⟨seg.far H4.out hgr (by omega)⟩, ⟨seg.below HB.out hgr (by omega)⟩⟩
          obtain ⟨rfl, rfl, rfl, rfl⟩ := HV.out
          rw [HN.out]
          simp [hit_snoc]
      · go_wp2_with ((with_reducible refine gate_store (t := 3) (p := 15) rfl ?_); refine seg.list rfl rfl 3 (.tmp 15) _ rfl 31 (w.heap.size + 1) 4 #[.int .i64 kn, .int .i64 M', .int .i64 A', .int .i64 B', .int .i64 C', .string tx, .int .i64 ct] #[.int .i64 kn, .int .i64 M', .int .i64 A', .int .i64 B', .int .i64 0, .string tx, .int .i64 ct] [.int .i64 0] rfl rfl (by kernel_rfl) (by simp [Value.oneCell']) H3.out (by simp) rfl ?_; intro w9 bx hgr)
        go_roundg (l.length - (i + 1)).toNat
        case measure => have := HI2.out; omega
        case rel =>
          refine ⟨i + 1, M', A', B', 0, by rw [HI2.out.2.2.2], ⟨by have := HI2.out; omega, by have := HI2.out; omega, rfl⟩, ⟨?_⟩, ⟨Kd.R_mono (seg.R (Kd.R_types HR.out H3.out (by simp [kp, Kd.scalar])) hgr (fun _ hk => hk.2)) (fun _ _ => trivial)⟩, ⟨seg.far H2.out hgr (by omega)⟩, ⟨bx⟩, ⟨seg.far H4.out hgr (by omega)⟩, ⟨seg.below HB.out hgr (by omega)⟩⟩
          obtain ⟨rfl, rfl, rfl, rfl⟩ := HV.out
          rw [HN.out]
          simp [hit_snoc]
    · obtain ⟨i0, i3, hk⟩ := HI.out
      obtain rfl : i = l.length := by omega
      have t1 : decide ((l.length : Int) < (l.length : Int)) = false := by simp
      have V := HV.out
      rw [Int.toNat_natCast, List.take_length] at V
      obtain ⟨rfl, rfl, rfl, rfl⟩ := V
      clear HI HV i0 i3 hk hlt
      by_cases hk : kd = 6
      · subst hk
        have q6 : ((6 : Int) == 6) = true := rfl
        go_wp2_with (first | ((with_reducible refine gate_store (t := 3) (p := 17) rfl ?_); refine seg.list rfl rfl 3 (.tmp 17) _ rfl 31 (w.heap.size + 1) 0 #[.int .i64 kn, .int .i64 (hit l 1 M), .int .i64 (hit l 2 A), .int .i64 (hit l 3 B), .int .i64 (hit l 4 C), .string tx, .int .i64 ct] #[.int .i64 0, .int .i64 (hit l 1 M), .int .i64 (hit l 2 A), .int .i64 (hit l 3 B), .int .i64 (hit l 4 C), .string tx, .int .i64 ct] [.int .i64 0] rfl rfl (by kernel_rfl) (by simp [Value.oneCell']) H3.out (by simp) rfl ?_; intro wP bx hgr; have P2 := Aside0.mk (seg.far H2.out hgr (by omega)); have P3 := Aside0.mk bx; have P4 := Aside0.mk (seg.far H4.out hgr (by omega)); have PB := Aside0.mk (seg.below HB.out hgr (by omega)); clear bx hgr) | ((with_reducible refine gate_store (t := 3) (p := 18) rfl ?_); refine seg.list rfl rfl 3 (.tmp 18) _ rfl 31 (w.heap.size + 1) 6 #[.int .i64 0, .int .i64 (hit l 1 M), .int .i64 (hit l 2 A), .int .i64 (hit l 3 B), .int .i64 (hit l 4 C), .string tx, .int .i64 ct] #[.int .i64 0, .int .i64 (hit l 1 M), .int .i64 (hit l 2 A), .int .i64 (hit l 3 B), .int .i64 (hit l 4 C), .string tx, .int .i64 0] [.int .i64 0] rfl rfl (by kernel_rfl) (by simp [Value.oneCell']) P3.out (by simp) rfl ?_; intro wQ bx hgr; have Q2 := Aside0.mk (seg.far P2.out hgr (by omega)); have Q3 := Aside0.mk bx; have Q4 := Aside0.mk (seg.far P4.out hgr (by omega)); have QB := Aside0.mk (seg.below PB.out hgr (by omega)); clear bx hgr; have k0 := blk_cell Q2.out 0) | ((with_reducible refine gate_store (t := 9) (p := 22) rfl ?_); refine seg.list rfl rfl 9 (.tmp 22) _ rfl 31 (w.heap.size + 1) 5 #[.int .i64 0, .int .i64 (hit l 1 M), .int .i64 (hit l 2 A), .int .i64 (hit l 3 B), .int .i64 (hit l 4 C), .string tx, .int .i64 0] #[.int .i64 0, .int .i64 (hit l 1 M), .int .i64 (hit l 2 A), .int .i64 (hit l 3 B), .int .i64 (hit l 4 C), .string ⟨#[]⟩, .int .i64 0] [.string ⟨#[]⟩] rfl rfl (by kernel_rfl) (by simp [Value.oneCell']) Q3.out (by simp) rfl ?_; intro wT bx hgr; have T2 := Aside0.mk (seg.far Q2.out hgr (by omega)); have T3 := Aside0.mk bx; have T4 := Aside0.mk (seg.far Q4.out hgr (by omega)); have TB := Aside0.mk (seg.below QB.out hgr (by omega)); clear bx hgr; have Tx0 := blk_cell T3.out 0; have Tx1 := blk_cell T3.out 1; have Tx2 := blk_cell T3.out 2; have Tx3 := blk_cell T3.out 3; have Tx4 := blk_cell T3.out 4; have Tx5 := blk_cell T3.out 5; have Tx6 := blk_cell T3.out 6) | ((with_reducible refine gate_store (t := 31) (p := 4) rfl ?_); refine seg.list rfl rfl 31 (.tmp 4) _ rfl 31 (w.heap.size + 1 + 1) 0 #[.int .i64 0, .int .i64 0, .int .i64 0, .int .i64 0, .int .i64 0, .string ⟨#[]⟩, .int .i64 0] #[.int .i64 0, .int .i64 (hit l 1 M), .int .i64 (hit l 2 A), .int .i64 (hit l 3 B), .int .i64 (hit l 4 C), .string ⟨#[]⟩, .int .i64 0] [.int .i64 0, .int .i64 (hit l 1 M), .int .i64 (hit l 2 A), .int .i64 (hit l 3 B), .int .i64 (hit l 4 C), .string ⟨#[]⟩, .int .i64 0] rfl rfl (by kernel_rfl) (by simp [Value.oneCell']) T4.out (by simp) rfl ?_; intro wU bx hgr; have U2 := Aside0.mk (seg.far T2.out hgr (by omega)); have U3 := Aside0.mk (seg.far T3.out hgr (by omega)); have U4 := Aside0.mk bx; have UB := Aside0.mk (seg.below TB.out hgr (by omega)); clear bx hgr))
        refine bodyPost_ret (results_c1o (p := 4) rfl _ _ (w.heap.size + 1 + 1) 31 _ (0, 0) _ rfl U4.out Tryd.underlying31 rfl (by kernel_rfl)) rfl ?_
        exact ⟨by simp, UB.out⟩
      · have q6 : (kd == 6) = false := beq_eq_false_iff_ne.mpr hk
        go_wp2_with (first | ((with_reducible refine gate_store (t := 3) (p := 17) rfl ?_); refine seg.list rfl rfl 3 (.tmp 17) _ rfl 31 (w.heap.size + 1) 0 #[.int .i64 kn, .int .i64 (hit l 1 M), .int .i64 (hit l 2 A), .int .i64 (hit l 3 B), .int .i64 (hit l 4 C), .string tx, .int .i64 ct] #[.int .i64 0, .int .i64 (hit l 1 M), .int .i64 (hit l 2 A), .int .i64 (hit l 3 B), .int .i64 (hit l 4 C), .string tx, .int .i64 ct] [.int .i64 0] rfl rfl (by kernel_rfl) (by simp [Value.oneCell']) H3.out (by simp) rfl ?_; intro wP bx hgr; have P2 := Aside0.mk (seg.far H2.out hgr (by omega)); have P3 := Aside0.mk bx; have P4 := Aside0.mk (seg.far H4.out hgr (by omega)); have PB := Aside0.mk (seg.below HB.out hgr (by omega)); clear bx hgr) | ((with_reducible refine gate_store (t := 3) (p := 18) rfl ?_); refine seg.list rfl rfl 3 (.tmp 18) _ rfl 31 (w.heap.size + 1) 6 #[.int .i64 0, .int .i64 (hit l 1 M), .int .i64 (hit l 2 A), .int .i64 (hit l 3 B), .int .i64 (hit l 4 C), .string tx, .int .i64 ct] #[.int .i64 0, .int .i64 (hit l 1 M), .int .i64 (hit l 2 A), .int .i64 (hit l 3 B), .int .i64 (hit l 4 C), .string tx, .int .i64 0] [.int .i64 0] rfl rfl (by kernel_rfl) (by simp [Value.oneCell']) P3.out (by simp) rfl ?_; intro wQ bx hgr; have Q2 := Aside0.mk (seg.far P2.out hgr (by omega)); have Q3 := Aside0.mk bx; have Q4 := Aside0.mk (seg.far P4.out hgr (by omega)); have QB := Aside0.mk (seg.below PB.out hgr (by omega)); clear bx hgr; have k0 := blk_cell Q2.out 0; have Qx0 := blk_cell Q3.out 0; have Qx1 := blk_cell Q3.out 1; have Qx2 := blk_cell Q3.out 2; have Qx3 := blk_cell Q3.out 3; have Qx4 := blk_cell Q3.out 4; have Qx5 := blk_cell Q3.out 5; have Qx6 := blk_cell Q3.out 6) | ((with_reducible refine gate_store (t := 31) (p := 4) rfl ?_); refine seg.list rfl rfl 31 (.tmp 4) _ rfl 31 (w.heap.size + 1 + 1) 0 #[.int .i64 0, .int .i64 0, .int .i64 0, .int .i64 0, .int .i64 0, .string ⟨#[]⟩, .int .i64 0] #[.int .i64 0, .int .i64 (hit l 1 M), .int .i64 (hit l 2 A), .int .i64 (hit l 3 B), .int .i64 (hit l 4 C), .string tx, .int .i64 0] [.int .i64 0, .int .i64 (hit l 1 M), .int .i64 (hit l 2 A), .int .i64 (hit l 3 B), .int .i64 (hit l 4 C), .string tx, .int .i64 0] rfl rfl (by kernel_rfl) (by simp [Value.oneCell']) Q4.out (by simp) rfl ?_; intro wU bx hgr; have U2 := Aside0.mk (seg.far Q2.out hgr (by omega)); have U3 := Aside0.mk (seg.far Q3.out hgr (by omega)); have U4 := Aside0.mk bx; have UB := Aside0.mk (seg.below QB.out hgr (by omega)); clear bx hgr))
        refine bodyPost_ret (results_c1o (p := 4) rfl _ _ (w.heap.size + 1 + 1) 31 _ (0, 0) _ rfl U4.out Tryd.underlying31 rfl (by kernel_rfl)) rfl ?_
        exact ⟨by simp [hk], UB.out⟩
set_option maxHeartbeats 2000000 in
set_option maxRecDepth 100000 in
theorem order_is (g : Nat) (kd : Int) (wd : ByteArray) (a b c : Bool) (kn : Int) (r : Bool) (w : World) (hr : (kd == kn) = r) (hb : w.cell? ⟨g, 0, none⟩ = some (.int .i64 kn)) :
    Calls Tryd.prog 17 #[.agg #[.int .i64 kd, .string wd, .bool a, .bool b, .bool c], .pointer (some ⟨g, 0, none⟩)] w fun e w' => e = .returned (.bool r) ∧ Below w.heap.size w w' := by
  have hb2 := fun o => pw_cell_below (below_alloc (Below.refl w.heap.size w) o) hb
  subst hr
  clear hb
  have hu49 := Tryd.underlying49
  have hu31 := Tryd.underlying31
  go_enter Tryd.func17, Tryd.ntmps17
  go_wp2
  go_ret
  exact ⟨rfl, below_alloc (Below.refl _ _) _⟩
def formIx (kn : Int) : Int := if 1 ≤ kn ∧ kn ≤ 7 then kn - 1 else -1
set_option maxHeartbeats 4000000 in
set_option maxRecDepth 100000 in
theorem order_index (g : Nat) (kn : Int) (w : World) (hb : w.cell? ⟨g, 0, none⟩ = some (.int .i64 kn)) (hF : FormsW w) :
    Calls Tryd.prog 16 #[.slice (some ⟨0, 0, none⟩) 7 7, .func (.func 17) #[] #[.pointer (some ⟨g, 0, none⟩)]] w fun e w' => e = .returned (.int .i64 (formIx kn)) ∧ Below w.heap.size w w' := by
  have HF := Aside0.mk hF
  have HB0 := Aside0.mk hb
  clear hF hb
  have hu49 := Tryd.underlying49
  have hu31 := Tryd.underlying31
  have hu47 := Tryd.underlying47
  go_enter Tryd.func16, Tryd.ntmps16
  go_wp2
  go_loopg [8] 7 (fun kq v8 w' => ∃ i : Int, v8 = .int .i64 i ∧ Aside0 (0 ≤ i ∧ i ≤ 7 ∧ kq = (7 - i).toNat ∧ ¬ (1 ≤ kn ∧ kn ≤ i)) ∧ Aside0 (Below w.heap.size w w'))
  case atStart => exact ⟨0, rfl, ⟨by decide, by decide, by decide, by omega⟩, ⟨Below.refl _ _⟩⟩
  case round =>
    obtain ⟨i, rfl, HI, HBW⟩ := hrel
    obtain ⟨i0, i7, hk, hno⟩ := HI.out
    by_cases hlt : i < 7
    · have hf := FormsW.go HF.out HBW.out
      have HBR := Aside0.mk (pw_cell_below HBW.out HB0.out)
      have hc : i = 0 ∨ i = 1 ∨ i = 2 ∨ i = 3 ∨ i = 4 ∨ i = 5 ∨ i = 6 := by omega
      clear HI i0 i7 hlt
      rcases hc with rfl | rfl | rfl | rfl | rfl | rfl | rfl
      · obtain ⟨y0, y1, y2, y3, y4⟩ := hf 0 (by decide)
        simp only [Nat.reduceMul, Nat.reduceAdd, Nat.zero_mul, Nat.zero_add] at y0 y1 y2 y3 y4
        clear hf
        by_cases hm : kn = 1
        · subst hm
          go_wp2_with (go_at_call 17; refine (order_is g _ _ _ _ _ _ true _ rfl HBR.out).mono ?_; rintro e w1 ⟨rfl, hb1⟩; have HB1 := Aside0.mk (below_then HBW.out HBW.out.size hb1); clear hb1)
          go_ret
          exact ⟨rfl, HB1.out⟩
        · have hq : ((1 : Int) == kn) = false := beq_eq_false_iff_ne.mpr (fun h => hm h.symm)
          have HQ := Aside0.mk hq
          have HK := Aside0.mk (And.intro hk (And.intro hno hm))
          clear hm hq hk hno
          go_wp2_with (go_at_call 17; refine (order_is g _ _ _ _ _ _ false _ HQ.out HBR.out).mono ?_; rintro e w1 ⟨rfl, hb1⟩; have HB1 := Aside0.mk (below_then HBW.out HBW.out.size hb1); clear hb1)
          go_roundg 6
          case measure => have := HK.out.1; omega
          case rel => exact ⟨1, rfl, ⟨by decide, by decide, by decide, by have := HK.out; omega⟩, HB1⟩
      · obtain ⟨y0, y1, y2, y3, y4⟩ := hf 1 (by decide)
        simp only [Nat.reduceMul, Nat.reduceAdd, Nat.zero_mul, Nat.zero_add] at y0 y1 y2 y3 y4
        clear hf
        by_cases hm : kn = 2
        · subst hm
          go_wp2_with (go_at_call 17; refine (order_is g _ _ _ _ _ _ true _ rfl HBR.out).mono ?_; rintro e w1 ⟨rfl, hb1⟩; have HB1 := Aside0.mk (below_then HBW.out HBW.out.size hb1); clear hb1)
          go_ret
          exact ⟨rfl, HB1.out⟩
        · have hq : ((2 : Int) == kn) = false := beq_eq_false_iff_ne.mpr (fun h => hm h.symm)
          have HQ := Aside0.mk hq
          have HK := Aside0.mk (And.intro hk (And.intro hno hm))
          clear hm hq hk hno
          go_wp2_with (go_at_call 17; refine (order_is g _ _ _ _ _ _ false _ HQ.out HBR.out).mono ?_; rintro e w1 ⟨rfl, hb1⟩; have HB1 := Aside0.mk (below_then HBW.out HBW.out.size hb1); clear hb1)
          go_roundg 5
          case measure => have := HK.out.1; omega
          case rel => exact ⟨2, rfl, ⟨by decide, by decide, by decide, by have := HK.out; omega⟩, HB1⟩
      · obtain ⟨y0, y1, y2, y3, y4⟩ := hf 2 (by decide)
        simp only [Nat.reduceMul, Nat.reduceAdd, Nat.zero_mul, Nat.zero_add] at y0 y1 y2 y3 y4
        clear hf
        by_cases hm : kn = 3
        · subst hm
          go_wp2_with (go_at_call 17; refine (order_is g _ _ _ _ _ _ true _ rfl HBR.out).mono ?_; rintro e w1 ⟨rfl, hb1⟩; have HB1 := Aside0.mk (below_then HBW.out HBW.out.size hb1); clear hb1)
          go_ret
          exact ⟨rfl, HB1.out⟩
        · have hq : ((3 : Int) == kn) = false := beq_eq_false_iff_ne.mpr (fun h => hm h.symm)
          have HQ := Aside0.mk hq
          have HK := Aside0.mk (And.intro hk (And.intro hno hm))
          clear hm hq hk hno
          go_wp2_with (go_at_call 17; refine (order_is g _ _ _ _ _ _ false _ HQ.out HBR.out).mono ?_; rintro e w1 ⟨rfl, hb1⟩; have HB1 := Aside0.mk (below_then HBW.out HBW.out.size hb1); clear hb1)
          go_roundg 4
          case measure => have := HK.out.1; omega
          case rel => exact ⟨3, rfl, ⟨by decide, by decide, by decide, by have := HK.out; omega⟩, HB1⟩
      · obtain ⟨y0, y1, y2, y3, y4⟩ := hf 3 (by decide)
        simp only [Nat.reduceMul, Nat.reduceAdd, Nat.zero_mul, Nat.zero_add] at y0 y1 y2 y3 y4
        clear hf
        by_cases hm : kn = 4
        · subst hm
          go_wp2_with (go_at_call 17; refine (order_is g _ _ _ _ _ _ true _ rfl HBR.out).mono ?_; rintro e w1 ⟨rfl, hb1⟩; have HB1 := Aside0.mk (below_then HBW.out HBW.out.size hb1); clear hb1)
          go_ret
          exact ⟨rfl, HB1.out⟩
        · have hq : ((4 : Int) == kn) = false := beq_eq_false_iff_ne.mpr (fun h => hm h.symm)
          have HQ := Aside0.mk hq
          have HK := Aside0.mk (And.intro hk (And.intro hno hm))
          clear hm hq hk hno
          go_wp2_with (go_at_call 17; refine (order_is g _ _ _ _ _ _ false _ HQ.out HBR.out).mono ?_; rintro e w1 ⟨rfl, hb1⟩; have HB1 := Aside0.mk (below_then HBW.out HBW.out.size hb1); clear hb1)
          go_roundg 3
          case measure => have := HK.out.1; omega
          case rel => exact ⟨4, rfl, ⟨by decide, by decide, by decide, by have := HK.out; omega⟩, HB1⟩
      · obtain ⟨y0, y1, y2, y3, y4⟩ := hf 4 (by decide)
        simp only [Nat.reduceMul, Nat.reduceAdd, Nat.zero_mul, Nat.zero_add] at y0 y1 y2 y3 y4
        clear hf
        by_cases hm : kn = 5
        · subst hm
          go_wp2_with (go_at_call 17; refine (order_is g _ _ _ _ _ _ true _ rfl HBR.out).mono ?_; rintro e w1 ⟨rfl, hb1⟩; have HB1 := Aside0.mk (below_then HBW.out HBW.out.size hb1); clear hb1)
          go_ret
          exact ⟨rfl, HB1.out⟩
        · have hq : ((5 : Int) == kn) = false := beq_eq_false_iff_ne.mpr (fun h => hm h.symm)
          have HQ := Aside0.mk hq
          have HK := Aside0.mk (And.intro hk (And.intro hno hm))
          clear hm hq hk hno
          go_wp2_with (go_at_call 17; refine (order_is g _ _ _ _ _ _ false _ HQ.out HBR.out).mono ?_; rintro e w1 ⟨rfl, hb1⟩; have HB1 := Aside0.mk (below_then HBW.out HBW.out.size hb1); clear hb1)
          go_roundg 2
          case measure => have := HK.out.1; omega
          case rel => exact ⟨5, rfl, ⟨by decide, by decide, by decide, by have := HK.out; omega⟩, HB1⟩
      · obtain ⟨y0, y1, y2, y3, y4⟩ := hf 5 (by decide)
        simp only [Nat.reduceMul, Nat.reduceAdd, Nat.zero_mul, Nat.zero_add] at y0 y1 y2 y3 y4
        clear hf
        by_cases hm : kn = 6
        · subst hm
          go_wp2_with (go_at_call 17; refine (order_is g _ _ _ _ _ _ true _ rfl HBR.out).mono ?_; rintro e w1 ⟨rfl, hb1⟩; have HB1 := Aside0.mk (below_then HBW.out HBW.out.size hb1); clear hb1)
          go_ret
          exact ⟨rfl, HB1.out⟩
        · have hq : ((6 : Int) == kn) = false := beq_eq_false_iff_ne.mpr (fun h => hm h.symm)
          have HQ := Aside0.mk hq
          have HK := Aside0.mk (And.intro hk (And.intro hno hm))
          clear hm hq hk hno
          go_wp2_with (go_at_call 17; refine (order_is g _ _ _ _ _ _ false _ HQ.out HBR.out).mono ?_; rintro e w1 ⟨rfl, hb1⟩; have HB1 := Aside0.mk (below_then HBW.out HBW.out.size hb1); clear hb1)
          go_roundg 1
          case measure => have := HK.out.1; omega
          case rel => exact ⟨6, rfl, ⟨by decide, by decide, by decide, by have := HK.out; omega⟩, HB1⟩
      · obtain ⟨y0, y1, y2, y3, y4⟩ := hf 6 (by decide)
        simp only [Nat.reduceMul, Nat.reduceAdd, Nat.zero_mul, Nat.zero_add] at y0 y1 y2 y3 y4
        clear hf
        by_cases hm : kn = 7
        · subst hm
          go_wp2_with (go_at_call 17; refine (order_is g _ _ _ _ _ _ true _ rfl HBR.out).mono ?_; rintro e w1 ⟨rfl, hb1⟩; have HB1 := Aside0.mk (below_then HBW.out HBW.out.size hb1); clear hb1)
          go_ret
          exact ⟨rfl, HB1.out⟩
        · have hq : ((7 : Int) == kn) = false := beq_eq_false_iff_ne.mpr (fun h => hm h.symm)
          have HQ := Aside0.mk hq
          have HK := Aside0.mk (And.intro hk (And.intro hno hm))
          clear hm hq hk hno
          go_wp2_with (go_at_call 17; refine (order_is g _ _ _ _ _ _ false _ HQ.out HBR.out).mono ?_; rintro e w1 ⟨rfl, hb1⟩; have HB1 := Aside0.mk (below_then HBW.out HBW.out.size hb1); clear hb1)
          go_roundg 0
          case measure => have := HK.out.1; omega
          case rel => exact ⟨7, rfl, ⟨by decide, by decide, by decide, by have := HK.out; omega⟩, HB1⟩
    · obtain rfl : i = 7 := by omega
      have HE : Aside0 (formIx kn = -1) := ⟨by unfold formIx; rw [if_neg hno]⟩
      clear HI i0 i7 hlt hk hno
      go_wp2
      go_ret
      exact ⟨congrArg (fun z => Ending.returned (.int .i64 z)) HE.out.symm, HBW.out⟩
set_option maxHeartbeats 8000000 in
set_option maxRecDepth 100000 in
theorem order_Show.early (kn me A B C : Int) (tx : ByteArray) (ct : Int) (w : World) (hF : FormsW w) (h : formIx kn < 0 ∨ ct < -1 ∨ ct > 4096) :
    Calls Tryd.prog 9 #[.agg #[.int .i64 kn, .int .i64 me, .int .i64 A, .int .i64 B, .int .i64 C, .string tx, .int .i64 ct]] w fun e w' => e = .returned (.tuple #[.string ⟨#[]⟩, .int .i64 2]) ∧ Below w.heap.size w w' := by
  have hu31 := Tryd.underlying31
  have hu50 := Tryd.underlying50
  have hu47 := Tryd.underlying47
  have HB1' := below_alloc (Below.refl w.heap.size w) (.cells #[.int .i64 kn, .int .i64 me, .int .i64 A, .int .i64 B, .int .i64 C, .string tx, .int .i64 ct] 31)
  have B1 := blk_new w (.cells #[.int .i64 kn, .int .i64 me, .int .i64 A, .int .i64 B, .int .i64 C, .string tx, .int .i64 ct] 31)
  have HF1 := Aside0.mk (FormsW.go hF HB1')
  have HB := Aside0.mk HB1'
  have H1 := Aside0.mk B1
  obtain ⟨ix, hix⟩ : ∃ ix, formIx kn = ix := ⟨_, rfl⟩
  have HIX := Aside0.mk hix
  rw [hix] at h
  have hc : (decide (ix < 0) = true) ∨ (decide (ix < 0) = false ∧ decide (ct < -1) = true) ∨ (decide (ix < 0) = false ∧ decide (ct < -1) = false ∧ decide (ct > 4096) = true) := by
    by_cases a : ix < 0
    · exact .inl (decide_eq_true a)
    · by_cases b : ct < -1
      · exact .inr (.inl ⟨decide_eq_false a, decide_eq_true b⟩)
      · exact .inr (.inr ⟨decide_eq_false a, decide_eq_false b, decide_eq_true (by omega)⟩)
  clear hF HB1' B1 hix h
  rcases hc with q1 | ⟨q1, q2⟩ | ⟨q1, q2, q3⟩
  all_goals (
    go_enter Tryd.func9, Tryd.ntmps9
    go_wp2_with (go_at_call 16; refine (order_index w.heap.size kn _ (blk_cell H1.out 0) HF1.out).mono ?_; rintro e w1 ⟨rfl, hb1⟩; rw [HIX.out]; have J1 := Aside0.mk (blk_below H1.out hb1); have j6 := blk_cell J1.out 6; have JB := Aside0.mk (below_then HB.out HB.out.size hb1); clear hb1)
    go_ret2
    exact ⟨rfl, JB.out⟩)
def itoaB (n : Int) : ByteArray := ⟨(Lib.itoa n).toArray⟩
def preL (ct : Int) : List ByteArray := if 0 ≤ ct then [⟨#[99, 117, 116]⟩, itoaB ct] else []
theorem strs2 {W : World} {g : Nat} {a b : ByteArray} (h : W.heap[g]? = some (.cells #[.string a, .string b] 9 (0, 0))) : Kd.C Kd.string W (some ⟨g, 0, none⟩) 2 [a, b] := by
  refine ⟨rfl, by simp, fun _ => ⟨_, rfl, fun j p hj => ?_⟩⟩
  match j with
  | 0 =>
    obtain rfl := Option.some.inj hj
    refine ⟨[.string a], rfl, rfl, fun i u hu => ?_⟩
    match i with
    | 0 => obtain rfl := Option.some.inj hu; exact (blk_cell h 0).trans rfl
    | i + 1 => simp at hu
  | 1 =>
    obtain rfl := Option.some.inj hj
    refine ⟨[.string b], rfl, rfl, fun i u hu => ?_⟩
    match i with
    | 0 => obtain rfl := Option.some.inj hu; exact (blk_cell h 1).trans rfl
    | i + 1 => simp at hu
  | k + 2 => simp at hj
def actV (me A B C : Int) (o : Nat) : Int := if o = 1 then me else if o = 2 then A else if o = 3 then B else C
def okV (v : Int) : Prop := 0 ≤ v ∧ v ≤ 1000000000000
instance okV_dec (v : Int) : Decidable (okV v) := by unfold okV; infer_instance
def hasNl (tx : ByteArray) : Bool := decide (0 ≤ Lib.indexByte tx.data.toList 10)
def showEnd (l : List ByteArray) : Option (ByteArray × Int) := (strings_Join.f l ⟨#[32]⟩).bind fun s => if s.size > 120 then some (⟨#[]⟩, 1) else some (s, 0)
def order_Show.g (i : Nat) (me A B C : Int) (tx : ByteArray) (ct : Int) : Option (ByteArray × Int) :=
  if ∀ o ∈ placeL (fa i) (fb i) (fc i), okV (actV me A B C o) then
    (if (hit (placeL (fa i) (fb i) (fc i)) 1 me = 0 ∧ hit (placeL (fa i) (fb i) (fc i)) 2 A = 0 ∧ hit (placeL (fa i) (fb i) (fc i)) 3 B = 0 ∧ hit (placeL (fa i) (fb i) (fc i)) 4 C = 0 ∧ (i = 5 ∨ tx.size = 0)) ∧ hasNl tx = false then
      showEnd (preL ct ++ [fw i] ++ (placeL (fa i) (fb i) (fc i)).map (fun o => itoaB (actV me A B C o)) ++ (if i = 5 then [tx] else []))
    else some (⟨#[]⟩, 3)) else some (⟨#[]⟩, 2)
theorem show_bad {i : Nat} {me A B C : Int} {tx : ByteArray} {ct : Int} {o : Nat} (hm : o ∈ placeL (fa i) (fb i) (fc i)) (h : ¬ okV (actV me A B C o)) : order_Show.g i me A B C tx ct = some (⟨#[]⟩, 2) := by
  unfold order_Show.g
  rw [if_neg (fun g => h (g o hm))]
theorem act_eqA (d : Nat) (w : World) (x0 y0 x1 y1 x2 y2 x3 y3 x4 y4 : Int) (x5 y5 : ByteArray) (x6 y6 : Int) :
    (Op.equalIn (d + 2) 31 (.agg #[.int .i64 x0, .int .i64 x1, .int .i64 x2, .int .i64 x3, .int .i64 x4, .string x5, .int .i64 x6]) (.agg #[.int .i64 y0, .int .i64 y1, .int .i64 y2, .int .i64 y3, .int .i64 y4, .string y5, .int .i64 y6])).run Tryd.prog w = .ok (x0 == y0 && (x1 == y1 && (x2 == y2 && (x3 == y3 && (x4 == y4 && (x5.toList == y5.toList && (x6 == y6))))))) w := by
  refine eqA_of Tryd.underlying31 (by kernel_rfl) ?_
  refine eqf_cons (by rfl) (by go_simp; rfl) (by go_simp; rfl) (by go_simp) ?_
  refine eqf_cons (by rfl) (by go_simp; rfl) (by go_simp; rfl) (by go_simp) ?_
  refine eqf_cons (by rfl) (by go_simp; rfl) (by go_simp; rfl) (by go_simp) ?_
  refine eqf_cons (by rfl) (by go_simp; rfl) (by go_simp; rfl) (by go_simp) ?_
  refine eqf_cons (by rfl) (by go_simp; rfl) (by go_simp; rfl) (by go_simp) ?_
  refine eqf_cons (by rfl) (by go_simp; rfl) (by go_simp; rfl) (by go_simp) ?_
  exact eqf_last (by rfl) (by go_simp; rfl) (by go_simp; rfl) (by go_simp)
theorem act_is (d : Nat) (w : World) (m a b c : Int) (s : ByteArray) (q : Bool) (h : decide (m = 0 ∧ a = 0 ∧ b = 0 ∧ c = 0 ∧ s.size = 0) = q) :
    (Op.equalIn (d + 2) 31 (.agg #[.int .i64 0, .int .i64 m, .int .i64 a, .int .i64 b, .int .i64 c, .string s, .int .i64 0]) (.agg #[.int .i64 0, .int .i64 0, .int .i64 0, .int .i64 0, .int .i64 0, .string ⟨#[]⟩, .int .i64 0])).run Tryd.prog w = .ok q w := by
  rw [act_eqA, ← h]
  congr 1
  have hs : (s.toList == (⟨#[]⟩ : ByteArray).toList) = decide (s.size = 0) := by
    rw [ByteArray.toList_eq, ByteArray.toList_eq]
    by_cases hz : s.size = 0
    · rw [decide_eq_true hz]
      have : s.data = #[] := Array.eq_empty_of_size_eq_zero hz
      rw [this]; rfl
    · rw [decide_eq_false hz]
      have : s.data.toList ≠ [] := fun e => hz (by show s.data.size = 0; rw [← Array.length_toList, e]; rfl)
      exact beq_eq_false_iff_ne.mpr this
  rw [hs]
  by_cases h1 : m = 0 <;> by_cases h2 : a = 0 <;> by_cases h3 : b = 0 <;> by_cases h4 : c = 0 <;> by_cases h5 : s.size = 0 <;> simp [h1, h2, h3, h4, h5]
set_option maxHeartbeats 8000000 in
set_option maxRecDepth 100000 in
theorem order_Show.main (i : Nat) (hi : i < 7) (me A B C : Int) (tx : ByteArray) (ct : Int) (hct : -1 ≤ ct ∧ ct ≤ 4096) (w : World) (hT : LaidW w) (hF : FormsW w) (r : ByteArray) (e : Int) (h : order_Show.g i me A B C tx ct = some (r, e)) :
    Calls Tryd.prog 9 #[.agg #[.int .i64 ((i : Int) + 1), .int .i64 me, .int .i64 A, .int .i64 B, .int .i64 C, .string tx, .int .i64 ct]] w fun e' w' => e' = .returned (.tuple #[.string r, .int .i64 e]) ∧ Below w.heap.size w w' := by
  have HG := Aside0.mk h
  clear h
  have hu31 := Tryd.underlying31
  have hu49 := Tryd.underlying49
  have hu50 := Tryd.underlying50
  have hu47 := Tryd.underlying47
  obtain ⟨kn, hkn⟩ : ∃ kn : Int, (i : Int) + 1 = kn := ⟨_, rfl⟩
  rw [hkn]
  have HIX : Aside0 (formIx kn = (i : Int)) := ⟨by unfold formIx; rw [if_pos (by omega)]; omega⟩
  have HB1' := below_alloc (Below.refl w.heap.size w) (.cells #[.int .i64 kn, .int .i64 me, .int .i64 A, .int .i64 B, .int .i64 C, .string tx, .int .i64 ct] 31)
  have B1 := blk_new w (.cells #[.int .i64 kn, .int .i64 me, .int .i64 A, .int .i64 B, .int .i64 C, .string tx, .int .i64 ct] 31)
  have HF1 := Aside0.mk (FormsW.go hF HB1')
  have HT := Aside0.mk hT
  have HB := Aside0.mk HB1'
  have H1 := Aside0.mk B1
  have HI := Aside0.mk hi
  have HC := Aside0.mk hct
  have HK := Aside0.mk hkn
  have q1 : decide ((i : Int) < 0) = false := decide_eq_false (by omega)
  have q2 : decide (ct < -1) = false := decide_eq_false (by omega)
  have q3 : decide (ct > 4096) = false := decide_eq_false (by omega)
  have q4 := eq_true (show (i : Int) < 7 by omega)
  have q5 := eq_true (show 0 ≤ (i : Int) by omega)
  clear hF hT HB1' B1 hi hct hkn
  go_enter Tryd.func9, Tryd.ntmps9
  go_upto_region 6 with (go_at_call 16; refine (order_index w.heap.size kn _ (blk_cell H1.out 0) HF1.out).mono ?_; rintro e w1 ⟨rfl, hb1⟩; rw [HIX.out]; have J1 := Aside0.mk (blk_below H1.out hb1); have j6 := blk_cell J1.out 6; have JB := Aside0.mk (below_then HB.out HB.out.size hb1); obtain ⟨y0, y1, y2, y3, y4⟩ := FormsW.go HF1.out hb1 i HI.out; clear hb1)
  obtain ⟨g5, hg5⟩ : ∃ g5, w1.heap.size = g5 := ⟨_, rfl⟩
  have S1 := Aside0.mk (blk_alloc J1.out (.cells #[.int .i64 ((i : Int) + 1), .string (fw i), .bool (fa i), .bool (fb i), .bool (fc i)] 49))
  have S5' := blk_new w1 (.cells #[.int .i64 ((i : Int) + 1), .string (fw i), .bool (fa i), .bool (fb i), .bool (fc i)] 49)
  have SB := Aside0.mk (below_alloc JB.out (.cells #[.int .i64 ((i : Int) + 1), .string (fw i), .bool (fa i), .bool (fb i), .bool (fc i)] 49))
  have G5 := Aside0.mk (show w.heap.size + 1 ≤ g5 by rw [← hg5]; exact blk_lt J1.out)
  rw [hg5] at S5'
  simp only [hg5]
  generalize w1.alloc (.cells #[.int .i64 ((i : Int) + 1), .string (fw i), .bool (fa i), .bool (fb i), .bool (fc i)] 49) = w2 at S1 S5' SB ⊢
  have S5 := Aside0.mk S5'
  have x6 := blk_cell S1.out 6
  clear S5' y0 y1 y2 y3 y4 j6 J1 JB HF1 HB H1 hg5 q1 q2 q3 q4 q5
  obtain ⟨pre, hpre⟩ : ∃ pre, preL ct = pre := ⟨_, rfl⟩
  have HPRE := Aside0.mk hpre
  have HPL := Aside0.mk (show pre.length ≤ 2 by rw [← hpre]; unfold preL; split <;> simp)
  by_cases hc0 : 0 ≤ ct
  · have q6 : decide (ct ≥ 0) = true := decide_eq_true hc0
    have q6n : decide (0 ≤ ct) = true := decide_eq_true hc0
    have HIT : Aside0 (strconv_Itoa_18.f ct = some (itoaB ct)) := ⟨by unfold strconv_Itoa_18.f itoaB; rw [if_pos (by have := HC.out; omega)]⟩
    unfold preL at hpre
    rw [if_pos hc0] at hpre
    have HPR := Aside0.mk hpre
    clear hpre hc0
    go_upto_region 8 with (first | (go_at_call 18; refine (strconv_Itoa_18.calls ct _ _ (LaidW.go HT.out SB.out) HIT.out).mono ?_; rintro e wa ⟨rfl, hb1⟩; replace S1 := Aside0.mk (blk_below S1.out hb1); replace S5 := Aside0.mk (blk_below S5.out hb1); replace SB := Aside0.mk (below_then SB.out SB.out.size hb1); clear hb1 x6) | ((with_reducible refine gate_builtin (b := .append) (xs := #[.tmp 31, .tmp 35]) rfl ?_); at_builtin; refine Kd.R_append_rows Kd.string (w0 := w) w.heap.size rfl (.tmp 31) (.tmp 35) 52 9 (.string ⟨#[]⟩) 16 rfl Tryd.underlying52 (by kernel_rfl) rfl (by decide) (by omega) (.slice none 0 0) ([] : List ByteArray) [⟨#[99, 117, 116]⟩, itoaB ct] _ _ _ (fun _ => True) (fun _ => False) rfl rfl (Kd.R_nil _ _ _ _ _) (strs2 (blk_new wa (.cells #[.string ⟨#[99, 117, 116]⟩, .string (itoaB ct)] 9))) (fun _ _ h => h) (fun _ h => h.elim) (fun _ _ => trivial) (below_alloc SB.out _) (below_alloc SB.out _).size (by simp) ?_; intro v5 w5 ho hb hg hat; rw [List.nil_append, HPR.out] at ho; have RL := Aside0.mk ho; replace S1 := Aside0.mk (blk_grown (blk_alloc S1.out _) hg (by simp [Value.ownBlock])); replace S5 := Aside0.mk (blk_grown (blk_alloc S5.out _) hg (by simp [Value.ownBlock])); replace SB := Aside0.mk hb; have k1 := blk_cell S5.out 1; clear ho hb hg hat))
    go_wp2_with (first | ((with_reducible refine gate_builtin (b := .append) (xs := #[.tmp 37, .tmp 40]) rfl ?_); at_builtin; refine Kd.R_append Kd.string (w0 := w) w.heap.size rfl (.tmp 37) (.tmp 40) 52 9 (.string ⟨#[]⟩) 16 rfl Tryd.underlying52 (by kernel_rfl) rfl (by decide) (by omega) _ pre (fw i) [.string (fw i)] (fun _ => True) (fun _ => False) rfl rfl rfl (fun _ h => h.elim) (fun _ _ => trivial) RL.out SB.out SB.out.size ?aL ?_; (case aL => (have := HPL.out; omega)); intro vl wz ho hb hg hat; replace S1 := Aside0.mk (blk_grown S1.out hg (Kd.R_ne RL.out S1.out (by decide))); replace S5 := Aside0.mk (blk_grown S5.out hg (Kd.R_ne RL.out S5.out (by decide))); replace RL := Aside0.mk ho; replace SB := Aside0.mk hb; have k0 := blk_cell S5.out 0; have k1 := blk_cell S5.out 1; have k2 := blk_cell S5.out 2; have k3 := blk_cell S5.out 3; have k4 := blk_cell S5.out 4; clear ho hb hg hat) | (go_at_call 19; refine (order_places.calls _ w.heap.size _ _ _ _ _).mono ?_; rintro e wp ⟨vp, rfl, hR, hb⟩; obtain ⟨A8, c8, rfl⟩ := Kd.R_slice hR; have RP := Aside0.mk (Kd.R_lower hR SB.out.size); replace S1 := Aside0.mk (blk_below S1.out hb); replace S5 := Aside0.mk (blk_below S5.out hb); replace RL := Aside0.mk (Kd.R_below RL.out hb); replace SB := Aside0.mk (below_then SB.out SB.out.size hb); clear hR hb))
    obtain ⟨P, hP⟩ : ∃ P, placeL (fa i) (fb i) (fc i) = P := ⟨_, rfl⟩
    have HPM := Aside0.mk (fun j => place_mem (fa i) (fb i) (fc i) j)
    have HPN := Aside0.mk (place_len (fa i) (fb i) (fc i))
    have HPQ := Aside0.mk hP
    rw [hP] at RP HPM HPN
    simp only [hP]
    clear hP k0 k1 k2 k3 k4
    go_loopg [6, 45] P.length (fun kq v6 v45 w' => ∃ j : Int, v45 = .int .i64 j ∧ Aside0 (0 ≤ j ∧ j ≤ P.length ∧ kq = (P.length - j).toNat) ∧ Aside0 (∀ o ∈ P.take j.toNat, okV (actV me A B C o)) ∧ Aside0 (Kd.R Kd.string 9 w' w.heap.size (fun _ => True) v6 (pre ++ [fw i] ++ (P.take j.toNat).map (fun o => itoaB (actV me A B C o)))) ∧ Aside0 (Kd.R (kp w.heap.size) 57 w' w.heap.size (fun _ => True) (.slice A8 P.length c8) P) ∧ Aside0 (w'.heap[w.heap.size]? = some (.cells #[.int .i64 kn, .int .i64 me, .int .i64 A, .int .i64 B, .int .i64 C, .string tx, .int .i64 ct] 31)) ∧ Aside0 (w'.heap[g5]? = some (.cells #[.int .i64 ((i : Int) + 1), .string (fw i), .bool (fa i), .bool (fb i), .bool (fc i)] 49)) ∧ Aside0 (Below w.heap.size w w'))
    case atStart => exact ⟨0, rfl, ⟨by decide, by omega, by simp⟩, ⟨by simp⟩, ⟨by simpa using RL.out⟩, RP, S1, S5, SB⟩
    case round =>
      clear RL RP S1 S5 SB
      obtain ⟨j, rfl, HJ, HO, RL, RP, S1, S5, SB⟩ := hrel
      by_cases hlt : j < P.length
      · obtain ⟨j0, j3, hk⟩ := HJ.out
        have hm := HPM.out j.toNat (by omega)
        obtain ⟨ad, hA8, hc⟩ := at_kp (Kd.R_reads' RP.out).2.2 j j0 (by omega)
        subst hA8
        have hnx : P.take (j + 1).toNat = P.take j.toNat ++ [P.getD j.toNat 0] := by
          rw [show (j + 1).toNat = j.toNat + 1 by omega, List.take_add_one, List.getD_eq_getElem?_getD, List.getElem?_eq_getElem (by omega)]; rfl
        have hmem : P.getD j.toNat 0 ∈ P := by rw [List.getD_eq_getElem?_getD, List.getElem?_eq_getElem (by omega)]; exact List.getElem_mem _
        have t1 : decide (j < (P.length : Int)) = true := decide_eq_true hlt
        have t2 : decide (0 ≤ j) = true := decide_eq_true j0
        have t3 := eq_true j0
        have t4 := eq_true hlt
        have HJ2 := Aside0.mk (And.intro j0 (And.intro hlt (And.intro hk (show wrap64 (j + 1) = j + 1 from w64 ⟨by omega, by have := HPN.out; omega⟩))))
        have HNX := Aside0.mk hnx
        generalize P.getD j.toNat 0 = o at hm hc HNX hmem
        have HME := Aside0.mk hmem
        obtain ⟨val, hval⟩ : ∃ val, actV me A B C o = val := ⟨_, rfl⟩
        have hcv : wr.cell? ⟨w.heap.size, o, none⟩ = some (.int .i64 val) := by
          rw [← hval]
          rcases hm with rfl | rfl | rfl | rfl
          · exact blk_cell S1.out 1
          · exact blk_cell S1.out 2
          · exact blk_cell S1.out 3
          · exact blk_cell S1.out 4
        have HVL := Aside0.mk hval
        clear hnx hk hlt j3 HJ hmem hm hval
        by_cases hv : okV val
        · have q1 : decide (val < 0) = false := decide_eq_false (by unfold okV at hv; omega)
          have q2 : decide (val > 1000000000000) = false := decide_eq_false (by unfold okV at hv; omega)
          have HIT : Aside0 (strconv_Itoa_18.f val = some (itoaB val)) := ⟨by unfold strconv_Itoa_18.f itoaB; rw [if_pos (by unfold okV at hv; omega)]⟩
          have HV := Aside0.mk hv
          clear hv
          go_wp2_with (first | (go_at_call 18; refine (strconv_Itoa_18.calls val _ _ (LaidW.go HT.out SB.out) HIT.out).mono ?_; rintro e wa ⟨rfl, hb1⟩; replace S1 := Aside0.mk (blk_below S1.out hb1); replace S5 := Aside0.mk (blk_below S5.out hb1); replace RL := Aside0.mk (Kd.R_below RL.out hb1); replace RP := Aside0.mk (Kd.R_below RP.out hb1); replace SB := Aside0.mk (below_then SB.out SB.out.size hb1); clear hb1 hcv hc) | ((with_reducible refine gate_builtin (b := .append) (xs := #[.tmp 59, .tmp 64]) rfl ?_); at_builtin; refine Kd.R_append Kd.string (w0 := w) w.heap.size rfl (.tmp 59) (.tmp 64) 52 9 (.string ⟨#[]⟩) 16 rfl Tryd.underlying52 (by kernel_rfl) rfl (by decide) (by omega) _ (pre ++ [fw i] ++ (P.take j.toNat).map (fun o => itoaB (actV me A B C o))) (itoaB val) [.string (itoaB val)] (fun _ => True) (fun _ => False) rfl rfl rfl (fun _ h => h.elim) (fun _ _ => trivial) RL.out SB.out SB.out.size ?aL ?_; (case aL => (have h1 := HPL.out; have h2 := HPN.out; simp only [List.length_append, List.length_map, List.length_take, List.length_cons, List.length_nil]; omega)); intro vl2 wz2 ho hb hg hat; replace RP := Aside0.mk (Kd.R_over' RP.out (Kd.R_typed RL.out) (by simp [kp, Kd.scalar]) hg); replace S1 := Aside0.mk (blk_grown S1.out hg (Kd.R_ne RL.out S1.out (by decide))); replace S5 := Aside0.mk (blk_grown S5.out hg (Kd.R_ne RL.out S5.out (by decide))); replace RL := Aside0.mk ho; replace SB := Aside0.mk hb; clear ho hb hg hat))
          go_roundg (P.length - (j + 1)).toNat
          case measure => have := HJ2.out; omega
          case rel =>
            refine ⟨j + 1, by rw [HJ2.out.2.2.2], ⟨by have := HJ2.out; omega, by have := HJ2.out; omega, rfl⟩, ⟨?_⟩, ⟨?_⟩, RP, S1, S5, SB⟩
            · rw [HNX.out]
              intro p hp
              rcases List.mem_append.1 hp with hp | hp
              · exact HO.out p hp
              · obtain rfl : p = o := by simpa using hp
                rw [HVL.out]; exact HV.out
            · rw [HNX.out, List.map_append, ← List.append_assoc]
              simp only [List.map_cons, List.map_nil, HVL.out]
              exact RL.out
        · have HBAD := Aside0.mk (show (⟨#[]⟩ : ByteArray) = r ∧ (2 : Int) = e by
            have hg := HG.out
            rw [show order_Show.g i me A B C tx ct = some (⟨#[]⟩, 2) from show_bad (o := o) (by rw [HPQ.out]; exact HME.out) (by rw [HVL.out]; exact hv)] at hg
            simpa using hg)
          have hq : decide (val < 0) = true ∨ (decide (val < 0) = false ∧ decide (val > 1000000000000) = true) := by
            unfold okV at hv
            by_cases a : val < 0
            · exact .inl (decide_eq_true a)
            · exact .inr ⟨decide_eq_false a, decide_eq_true (by omega)⟩
          clear hv
          rcases hq with q1 | ⟨q1, q2⟩
          all_goals (
            go_wp2
            obtain ⟨rfl, rfl⟩ := HBAD.out
            go_ret2
            exact ⟨rfl, SB.out⟩)
      · obtain ⟨j0, j3, hk⟩ := HJ.out
        obtain rfl : j = P.length := by omega
        have HALL := HO.out
        have RL' := RL.out
        rw [Int.toNat_natCast, List.take_length] at HALL RL'
        replace RL := Aside0.mk RL'
        have HA := Aside0.mk HALL
        have t1 : decide ((P.length : Int) < (P.length : Int)) = false := by simp
        have k0 := blk_cell S5.out 0
        have x5 := blk_cell S1.out 5
        have HG2 : Aside0 ((if (hit P 1 me = 0 ∧ hit P 2 A = 0 ∧ hit P 3 B = 0 ∧ hit P 4 C = 0 ∧ (i = 5 ∨ tx.size = 0)) ∧ hasNl tx = false then showEnd (pre ++ [fw i] ++ P.map (fun o => itoaB (actV me A B C o)) ++ (if i = 5 then [tx] else [])) else some ((⟨#[]⟩ : ByteArray), (3 : Int))) = some (r, e)) := ⟨by
          have hg := HG.out
          unfold order_Show.g at hg
          rw [HPQ.out, if_pos HALL, HPRE.out] at hg
          exact hg⟩
        clear HALL RL' HJ HO j0 j3 hk hlt
        by_cases h5 : i = 5
        · have q16 : ((i : Int) + 1 == 6) = true := by rw [h5]; rfl
          have RTX : Aside0 ((if i = 5 then [tx] else []) = [tx]) := ⟨if_pos h5⟩
          rw [RTX.out] at HG2
          clear h5
          go_upto_region 18 with ((with_reducible refine gate_builtin (b := .append) (xs := #[.tmp 70, .tmp 73]) rfl ?_); at_builtin; refine Kd.R_append Kd.string (w0 := w) w.heap.size rfl (.tmp 70) (.tmp 73) 52 9 (.string ⟨#[]⟩) 16 rfl Tryd.underlying52 (by kernel_rfl) rfl (by decide) (by omega) _ (pre ++ [fw i] ++ P.map (fun o => itoaB (actV me A B C o))) tx [.string tx] (fun _ => True) (fun _ => False) rfl rfl rfl (fun _ h => h.elim) (fun _ _ => trivial) RL.out SB.out SB.out.size ?aL ?_; (case aL => (have h1 := HPL.out; have h2 := HPN.out; simp only [List.length_append, List.length_map, List.length_cons, List.length_nil]; omega)); intro vl3 wz3 ho hb hg hat; replace S1 := Aside0.mk (blk_grown S1.out hg (Kd.R_ne RL.out S1.out (by decide))); replace S5 := Aside0.mk (blk_grown S5.out hg (Kd.R_ne RL.out S5.out (by decide))); replace RL := Aside0.mk ho; replace SB := Aside0.mk hb; clear ho hb hg hat k0 x5)
          obtain ⟨LL, hLL⟩ : ∃ LL, pre ++ [fw i] ++ P.map (fun o => itoaB (actV me A B C o)) ++ [tx] = LL := ⟨_, rfl⟩
          rw [hLL] at RL HG2
          clear hLL
          obtain ⟨s, hs⟩ : ∃ s, (if (i : Int) + 1 = 6 then (⟨#[]⟩ : ByteArray) else tx) = s := ⟨_, rfl⟩
          have HS := Aside0.mk hs
          have hsz : s.size = 0 ↔ (i = 5 ∨ tx.size = 0) := by
            rw [← hs]
            by_cases h5 : i = 5
            · rw [if_pos (by omega)]; exact ⟨fun _ => .inl h5, fun _ => rfl⟩
            · rw [if_neg (by omega)]; exact ⟨fun g => .inr g, fun g => g.resolve_left h5⟩
          have k0 := blk_cell S5.out 0
          have k1 := blk_cell S5.out 1
          have k2 := blk_cell S5.out 2
          have k3 := blk_cell S5.out 3
          have k4 := blk_cell S5.out 4
          have x0 := blk_cell S1.out 0
          have x1 := blk_cell S1.out 1
          have x2 := blk_cell S1.out 2
          have x3 := blk_cell S1.out 3
          have x4 := blk_cell S1.out 4
          have x5 := blk_cell S1.out 5
          have x6 := blk_cell S1.out 6
          obtain ⟨A9, c9, hsl⟩ := Kd.R_slice RL.out
          subst hsl
          by_cases hz : hit P 1 me = 0 ∧ hit P 2 A = 0 ∧ hit P 3 B = 0 ∧ hit P 4 C = 0 ∧ (i = 5 ∨ tx.size = 0)
          · have heq := fun d W => act_is d W (hit P 1 me) (hit P 2 A) (hit P 3 B) (hit P 4 C) s true (decide_eq_true ⟨hz.1, hz.2.1, hz.2.2.1, hz.2.2.2.1, hsz.2 hz.2.2.2.2⟩)
            cases hn : hasNl tx with
            | true =>
              have HBAD := Aside0.mk (show (⟨#[]⟩ : ByteArray) = r ∧ (3 : Int) = e by
                have hg := HG2.out
                rw [if_neg (by rw [hn]; simp)] at hg
                simpa using hg)
              have HN := Aside0.mk (show decide (0 ≤ Lib.indexByte tx.data.toList 10) = true from hn)
              clear hn hz hsz hs
              go_wp2_with (first | (go_at_call 20; refine (order_bare.calls _ ((i : Int) + 1) (fw i) (fa i) (fb i) (fc i) kn me A B C tx ct).mono ?_; rintro e' wb ⟨rfl, hb1⟩; rw [HPQ.out, HS.out]; replace S1 := Aside0.mk (blk_below S1.out hb1); have x5 := blk_cell S1.out 5; replace RL := Aside0.mk (Kd.R_below RL.out hb1); replace SB := Aside0.mk (below_then SB.out SB.out.size hb1); clear hb1) | (go_at_call 21; refine (Tryd.strings_Contains_one tx 10 _).mono ?_; rintro e' wc ⟨rfl, rfl⟩; rw [HN.out]))
              obtain ⟨rfl, rfl⟩ := HBAD.out
              go_ret2
              exact ⟨rfl, SB.out⟩
            | false =>
              have hg := HG2.out
              rw [if_pos ⟨hz, hn⟩] at hg
              unfold showEnd at hg
              obtain ⟨sj, hj, hg⟩ := Option.bind_eq_some_iff.mp hg
              have HJN := Aside0.mk hj
              have HN := Aside0.mk (show decide (0 ≤ Lib.indexByte tx.data.toList 10) = false from hn)
              by_cases hl : sj.size > 120
              · rw [if_pos hl] at hg
                have HR := Aside0.mk (show (⟨#[]⟩ : ByteArray) = r ∧ (1 : Int) = e by simpa using hg)
                have q1 : decide ((sj.size : Int) > 120) = true := decide_eq_true (by omega)
                have q1n : decide (120 < sj.size) = true := decide_eq_true hl
                clear hn hz hsz hs hg hj hl
                go_wp2_with (first | (go_at_call 20; refine (order_bare.calls _ ((i : Int) + 1) (fw i) (fa i) (fb i) (fc i) kn me A B C tx ct).mono ?_; rintro e' wb ⟨rfl, hb1⟩; rw [HPQ.out, HS.out]; replace S1 := Aside0.mk (blk_below S1.out hb1); have x5 := blk_cell S1.out 5; replace RL := Aside0.mk (Kd.R_below RL.out hb1); replace SB := Aside0.mk (below_then SB.out SB.out.size hb1); clear hb1) | (go_at_call 21; refine (Tryd.strings_Contains_one tx 10 _).mono ?_; rintro e' wc ⟨rfl, rfl⟩; rw [HN.out]) | (go_at_call 22; refine (strings_Join.calls A9 c9 _ ⟨#[32]⟩ sj _ (Kd.R_reads' RL.out).2.2 (Kd.R_reads' RL.out).2.1 HJN.out).mono ?_; rintro e' wj ⟨rfl, hb1⟩; replace SB := Aside0.mk (below_then SB.out SB.out.size hb1); clear hb1))
                obtain ⟨rfl, rfl⟩ := HR.out
                go_ret2
                exact ⟨rfl, SB.out⟩
              · rw [if_neg hl] at hg
                have HR := Aside0.mk (show sj = r ∧ (0 : Int) = e by simpa using hg)
                have q1 : decide ((sj.size : Int) > 120) = false := decide_eq_false (by omega)
                have q1n : decide (120 < sj.size) = false := decide_eq_false hl
                clear hn hz hsz hs hg hj hl
                go_wp2_with (first | (go_at_call 20; refine (order_bare.calls _ ((i : Int) + 1) (fw i) (fa i) (fb i) (fc i) kn me A B C tx ct).mono ?_; rintro e' wb ⟨rfl, hb1⟩; rw [HPQ.out, HS.out]; replace S1 := Aside0.mk (blk_below S1.out hb1); have x5 := blk_cell S1.out 5; replace RL := Aside0.mk (Kd.R_below RL.out hb1); replace SB := Aside0.mk (below_then SB.out SB.out.size hb1); clear hb1) | (go_at_call 21; refine (Tryd.strings_Contains_one tx 10 _).mono ?_; rintro e' wc ⟨rfl, rfl⟩; rw [HN.out]) | (go_at_call 22; refine (strings_Join.calls A9 c9 _ ⟨#[32]⟩ sj _ (Kd.R_reads' RL.out).2.2 (Kd.R_reads' RL.out).2.1 HJN.out).mono ?_; rintro e' wj ⟨rfl, hb1⟩; replace SB := Aside0.mk (below_then SB.out SB.out.size hb1); clear hb1))
                obtain ⟨rfl, rfl⟩ := HR.out
                go_ret2
                exact ⟨rfl, SB.out⟩
          · have heq := fun d W => act_is d W (hit P 1 me) (hit P 2 A) (hit P 3 B) (hit P 4 C) s false (decide_eq_false (fun g => hz ⟨g.1, g.2.1, g.2.2.1, g.2.2.2.1, hsz.1 g.2.2.2.2⟩))
            have HBAD := Aside0.mk (show (⟨#[]⟩ : ByteArray) = r ∧ (3 : Int) = e by
              have hg := HG2.out
              rw [if_neg (fun g => hz g.1)] at hg
              simpa using hg)
            clear hz hsz hs
            go_wp2_with (first | (go_at_call 20; refine (order_bare.calls _ ((i : Int) + 1) (fw i) (fa i) (fb i) (fc i) kn me A B C tx ct).mono ?_; rintro e' wb ⟨rfl, hb1⟩; rw [HPQ.out, HS.out]; replace S1 := Aside0.mk (blk_below S1.out hb1); have x5 := blk_cell S1.out 5; replace RL := Aside0.mk (Kd.R_below RL.out hb1); replace SB := Aside0.mk (below_then SB.out SB.out.size hb1); clear hb1))
            obtain ⟨rfl, rfl⟩ := HBAD.out
            go_ret2
            exact ⟨rfl, SB.out⟩
        · have q16 : ((i : Int) + 1 == 6) = false := beq_eq_false_iff_ne.mpr (by omega)
          have RTX : Aside0 ((if i = 5 then [tx] else []) = ([] : List ByteArray)) := ⟨if_neg h5⟩
          rw [RTX.out] at HG2
          have RL2 := RL.out
          rw [← List.append_nil (pre ++ [fw i] ++ _)] at RL2
          replace RL := Aside0.mk RL2
          clear h5 RL2
          go_upto_region 18 with (fail)
          clear k0 x5
          obtain ⟨LL, hLL⟩ : ∃ LL, pre ++ [fw i] ++ P.map (fun o => itoaB (actV me A B C o)) ++ ([] : List ByteArray) = LL := ⟨_, rfl⟩
          rw [hLL] at RL HG2
          clear hLL
          obtain ⟨s, hs⟩ : ∃ s, (if (i : Int) + 1 = 6 then (⟨#[]⟩ : ByteArray) else tx) = s := ⟨_, rfl⟩
          have HS := Aside0.mk hs
          have hsz : s.size = 0 ↔ (i = 5 ∨ tx.size = 0) := by
            rw [← hs]
            by_cases h5 : i = 5
            · rw [if_pos (by omega)]; exact ⟨fun _ => .inl h5, fun _ => rfl⟩
            · rw [if_neg (by omega)]; exact ⟨fun g => .inr g, fun g => g.resolve_left h5⟩
          have k0 := blk_cell S5.out 0
          have k1 := blk_cell S5.out 1
          have k2 := blk_cell S5.out 2
          have k3 := blk_cell S5.out 3
          have k4 := blk_cell S5.out 4
          have x0 := blk_cell S1.out 0
          have x1 := blk_cell S1.out 1
          have x2 := blk_cell S1.out 2
          have x3 := blk_cell S1.out 3
          have x4 := blk_cell S1.out 4
          have x5 := blk_cell S1.out 5
          have x6 := blk_cell S1.out 6
          obtain ⟨A9, c9, hsl⟩ := Kd.R_slice RL.out
          subst hsl
          by_cases hz : hit P 1 me = 0 ∧ hit P 2 A = 0 ∧ hit P 3 B = 0 ∧ hit P 4 C = 0 ∧ (i = 5 ∨ tx.size = 0)
          · have heq := fun d W => act_is d W (hit P 1 me) (hit P 2 A) (hit P 3 B) (hit P 4 C) s true (decide_eq_true ⟨hz.1, hz.2.1, hz.2.2.1, hz.2.2.2.1, hsz.2 hz.2.2.2.2⟩)
            cases hn : hasNl tx with
            | true =>
              have HBAD := Aside0.mk (show (⟨#[]⟩ : ByteArray) = r ∧ (3 : Int) = e by
                have hg := HG2.out
                rw [if_neg (by rw [hn]; simp)] at hg
                simpa using hg)
              have HN := Aside0.mk (show decide (0 ≤ Lib.indexByte tx.data.toList 10) = true from hn)
              clear hn hz hsz hs
              go_wp2_with (first | (go_at_call 20; refine (order_bare.calls _ ((i : Int) + 1) (fw i) (fa i) (fb i) (fc i) kn me A B C tx ct).mono ?_; rintro e' wb ⟨rfl, hb1⟩; rw [HPQ.out, HS.out]; replace S1 := Aside0.mk (blk_below S1.out hb1); have x5 := blk_cell S1.out 5; replace RL := Aside0.mk (Kd.R_below RL.out hb1); replace SB := Aside0.mk (below_then SB.out SB.out.size hb1); clear hb1) | (go_at_call 21; refine (Tryd.strings_Contains_one tx 10 _).mono ?_; rintro e' wc ⟨rfl, rfl⟩; rw [HN.out]))
              obtain ⟨rfl, rfl⟩ := HBAD.out
              go_ret2
              exact ⟨rfl, SB.out⟩
            | false =>
              have hg := HG2.out
              rw [if_pos ⟨hz, hn⟩] at hg
              unfold showEnd at hg
              obtain ⟨sj, hj, hg⟩ := Option.bind_eq_some_iff.mp hg
              have HJN := Aside0.mk hj
              have HN := Aside0.mk (show decide (0 ≤ Lib.indexByte tx.data.toList 10) = false from hn)
              by_cases hl : sj.size > 120
              · rw [if_pos hl] at hg
                have HR := Aside0.mk (show (⟨#[]⟩ : ByteArray) = r ∧ (1 : Int) = e by simpa using hg)
                have q1 : decide ((sj.size : Int) > 120) = true := decide_eq_true (by omega)
                have q1n : decide (120 < sj.size) = true := decide_eq_true hl
                clear hn hz hsz hs hg hj hl
                go_wp2_with (first | (go_at_call 20; refine (order_bare.calls _ ((i : Int) + 1) (fw i) (fa i) (fb i) (fc i) kn me A B C tx ct).mono ?_; rintro e' wb ⟨rfl, hb1⟩; rw [HPQ.out, HS.out]; replace S1 := Aside0.mk (blk_below S1.out hb1); have x5 := blk_cell S1.out 5; replace RL := Aside0.mk (Kd.R_below RL.out hb1); replace SB := Aside0.mk (below_then SB.out SB.out.size hb1); clear hb1) | (go_at_call 21; refine (Tryd.strings_Contains_one tx 10 _).mono ?_; rintro e' wc ⟨rfl, rfl⟩; rw [HN.out]) | (go_at_call 22; refine (strings_Join.calls A9 c9 _ ⟨#[32]⟩ sj _ (Kd.R_reads' RL.out).2.2 (Kd.R_reads' RL.out).2.1 HJN.out).mono ?_; rintro e' wj ⟨rfl, hb1⟩; replace SB := Aside0.mk (below_then SB.out SB.out.size hb1); clear hb1))
                obtain ⟨rfl, rfl⟩ := HR.out
                go_ret2
                exact ⟨rfl, SB.out⟩
              · rw [if_neg hl] at hg
                have HR := Aside0.mk (show sj = r ∧ (0 : Int) = e by simpa using hg)
                have q1 : decide ((sj.size : Int) > 120) = false := decide_eq_false (by omega)
                have q1n : decide (120 < sj.size) = false := decide_eq_false hl
                clear hn hz hsz hs hg hj hl
                go_wp2_with (first | (go_at_call 20; refine (order_bare.calls _ ((i : Int) + 1) (fw i) (fa i) (fb i) (fc i) kn me A B C tx ct).mono ?_; rintro e' wb ⟨rfl, hb1⟩; rw [HPQ.out, HS.out]; replace S1 := Aside0.mk (blk_below S1.out hb1); have x5 := blk_cell S1.out 5; replace RL := Aside0.mk (Kd.R_below RL.out hb1); replace SB := Aside0.mk (below_then SB.out SB.out.size hb1); clear hb1) | (go_at_call 21; refine (Tryd.strings_Contains_one tx 10 _).mono ?_; rintro e' wc ⟨rfl, rfl⟩; rw [HN.out]) | (go_at_call 22; refine (strings_Join.calls A9 c9 _ ⟨#[32]⟩ sj _ (Kd.R_reads' RL.out).2.2 (Kd.R_reads' RL.out).2.1 HJN.out).mono ?_; rintro e' wj ⟨rfl, hb1⟩; replace SB := Aside0.mk (below_then SB.out SB.out.size hb1); clear hb1))
                obtain ⟨rfl, rfl⟩ := HR.out
                go_ret2
                exact ⟨rfl, SB.out⟩
          · have heq := fun d W => act_is d W (hit P 1 me) (hit P 2 A) (hit P 3 B) (hit P 4 C) s false (decide_eq_false (fun g => hz ⟨g.1, g.2.1, g.2.2.1, g.2.2.2.1, hsz.1 g.2.2.2.2⟩))
            have HBAD := Aside0.mk (show (⟨#[]⟩ : ByteArray) = r ∧ (3 : Int) = e by
              have hg := HG2.out
              rw [if_neg (fun g => hz g.1)] at hg
              simpa using hg)
            clear hz hsz hs
            go_wp2_with (first | (go_at_call 20; refine (order_bare.calls _ ((i : Int) + 1) (fw i) (fa i) (fb i) (fc i) kn me A B C tx ct).mono ?_; rintro e' wb ⟨rfl, hb1⟩; rw [HPQ.out, HS.out]; replace S1 := Aside0.mk (blk_below S1.out hb1); have x5 := blk_cell S1.out 5; replace RL := Aside0.mk (Kd.R_below RL.out hb1); replace SB := Aside0.mk (below_then SB.out SB.out.size hb1); clear hb1))
            obtain ⟨rfl, rfl⟩ := HBAD.out
            go_ret2
            exact ⟨rfl, SB.out⟩
  · have q6 : decide (ct ≥ 0) = false := decide_eq_false hc0
    have q6n : decide (0 ≤ ct) = false := decide_eq_false hc0
    unfold preL at hpre
    rw [if_neg hc0] at hpre
    have RL := Aside0.mk (show Kd.R Kd.string 9 w2 w.heap.size (fun _ => True) (.slice none 0 0) pre by rw [← hpre]; exact Kd.R_nil _ _ _ _ _)
    have k1 := blk_cell S5.out 1
    clear hpre hc0
    go_wp2_with (first | ((with_reducible refine gate_builtin (b := .append) (xs := #[.tmp 37, .tmp 40]) rfl ?_); at_builtin; refine Kd.R_append Kd.string (w0 := w) w.heap.size rfl (.tmp 37) (.tmp 40) 52 9 (.string ⟨#[]⟩) 16 rfl Tryd.underlying52 (by kernel_rfl) rfl (by decide) (by omega) _ pre (fw i) [.string (fw i)] (fun _ => True) (fun _ => False) rfl rfl rfl (fun _ h => h.elim) (fun _ _ => trivial) RL.out SB.out SB.out.size ?aL ?_; (case aL => (have := HPL.out; omega)); intro vl wz ho hb hg hat; replace S1 := Aside0.mk (blk_grown S1.out hg (Kd.R_ne RL.out S1.out (by decide))); replace S5 := Aside0.mk (blk_grown S5.out hg (Kd.R_ne RL.out S5.out (by decide))); replace RL := Aside0.mk ho; replace SB := Aside0.mk hb; have k0 := blk_cell S5.out 0; have k1 := blk_cell S5.out 1; have k2 := blk_cell S5.out 2; have k3 := blk_cell S5.out 3; have k4 := blk_cell S5.out 4; clear ho hb hg hat) | (go_at_call 19; refine (order_places.calls _ w.heap.size _ _ _ _ _).mono ?_; rintro e wp ⟨vp, rfl, hR, hb⟩; obtain ⟨A8, c8, rfl⟩ := Kd.R_slice hR; have RP := Aside0.mk (Kd.R_lower hR SB.out.size); replace S1 := Aside0.mk (blk_below S1.out hb); replace S5 := Aside0.mk (blk_below S5.out hb); replace RL := Aside0.mk (Kd.R_below RL.out hb); replace SB := Aside0.mk (below_then SB.out SB.out.size hb); clear hR hb))
    obtain ⟨P, hP⟩ : ∃ P, placeL (fa i) (fb i) (fc i) = P := ⟨_, rfl⟩
    have HPM := Aside0.mk (fun j => place_mem (fa i) (fb i) (fc i) j)
    have HPN := Aside0.mk (place_len (fa i) (fb i) (fc i))
    have HPQ := Aside0.mk hP
    rw [hP] at RP HPM HPN
    simp only [hP]
    clear hP k0 k1 k2 k3 k4
    go_loopg [6, 45] P.length (fun kq v6 v45 w' => ∃ j : Int, v45 = .int .i64 j ∧ Aside0 (0 ≤ j ∧ j ≤ P.length ∧ kq = (P.length - j).toNat) ∧ Aside0 (∀ o ∈ P.take j.toNat, okV (actV me A B C o)) ∧ Aside0 (Kd.R Kd.string 9 w' w.heap.size (fun _ => True) v6 (pre ++ [fw i] ++ (P.take j.toNat).map (fun o => itoaB (actV me A B C o)))) ∧ Aside0 (Kd.R (kp w.heap.size) 57 w' w.heap.size (fun _ => True) (.slice A8 P.length c8) P) ∧ Aside0 (w'.heap[w.heap.size]? = some (.cells #[.int .i64 kn, .int .i64 me, .int .i64 A, .int .i64 B, .int .i64 C, .string tx, .int .i64 ct] 31)) ∧ Aside0 (w'.heap[g5]? = some (.cells #[.int .i64 ((i : Int) + 1), .string (fw i), .bool (fa i), .bool (fb i), .bool (fc i)] 49)) ∧ Aside0 (Below w.heap.size w w'))
    case atStart => exact ⟨0, rfl, ⟨by decide, by omega, by simp⟩, ⟨by simp⟩, ⟨by simpa using RL.out⟩, RP, S1, S5, SB⟩
    case round =>
      clear RL RP S1 S5 SB
      obtain ⟨j, rfl, HJ, HO, RL, RP, S1, S5, SB⟩ := hrel
      by_cases hlt : j < P.length
      · obtain ⟨j0, j3, hk⟩ := HJ.out
        have hm := HPM.out j.toNat (by omega)
        obtain ⟨ad, hA8, hc⟩ := at_kp (Kd.R_reads' RP.out).2.2 j j0 (by omega)
        subst hA8
        have hnx : P.take (j + 1).toNat = P.take j.toNat ++ [P.getD j.toNat 0] := by
          rw [show (j + 1).toNat = j.toNat + 1 by omega, List.take_add_one, List.getD_eq_getElem?_getD, List.getElem?_eq_getElem (by omega)]; rfl
        have hmem : P.getD j.toNat 0 ∈ P := by rw [List.getD_eq_getElem?_getD, List.getElem?_eq_getElem (by omega)]; exact List.getElem_mem _
        have t1 : decide (j < (P.length : Int)) = true := decide_eq_true hlt
        have t2 : decide (0 ≤ j) = true := decide_eq_true j0
        have t3 := eq_true j0
        have t4 := eq_true hlt
        have HJ2 := Aside0.mk (And.intro j0 (And.intro hlt (And.intro hk (show wrap64 (j + 1) = j + 1 from w64 ⟨by omega, by have := HPN.out; omega⟩))))
        have HNX := Aside0.mk hnx
        generalize P.getD j.toNat 0 = o at hm hc HNX hmem
        have HME := Aside0.mk hmem
        obtain ⟨val, hval⟩ : ∃ val, actV me A B C o = val := ⟨_, rfl⟩
        have hcv : wr.cell? ⟨w.heap.size, o, none⟩ = some (.int .i64 val) := by
          rw [← hval]
          rcases hm with rfl | rfl | rfl | rfl
          · exact blk_cell S1.out 1
          · exact blk_cell S1.out 2
          · exact blk_cell S1.out 3
          · exact blk_cell S1.out 4
        have HVL := Aside0.mk hval
        clear hnx hk hlt j3 HJ hmem hm hval
        by_cases hv : okV val
        · have q1 : decide (val < 0) = false := decide_eq_false (by unfold okV at hv; omega)
          have q2 : decide (val > 1000000000000) = false := decide_eq_false (by unfold okV at hv; omega)
          have HIT : Aside0 (strconv_Itoa_18.f val = some (itoaB val)) := ⟨by unfold strconv_Itoa_18.f itoaB; rw [if_pos (by unfold okV at hv; omega)]⟩
          have HV := Aside0.mk hv
          clear hv
          go_wp2_with (first | (go_at_call 18; refine (strconv_Itoa_18.calls val _ _ (LaidW.go HT.out SB.out) HIT.out).mono ?_; rintro e wa ⟨rfl, hb1⟩; replace S1 := Aside0.mk (blk_below S1.out hb1); replace S5 := Aside0.mk (blk_below S5.out hb1); replace RL := Aside0.mk (Kd.R_below RL.out hb1); replace RP := Aside0.mk (Kd.R_below RP.out hb1); replace SB := Aside0.mk (below_then SB.out SB.out.size hb1); clear hb1 hcv hc) | ((with_reducible refine gate_builtin (b := .append) (xs := #[.tmp 59, .tmp 64]) rfl ?_); at_builtin; refine Kd.R_append Kd.string (w0 := w) w.heap.size rfl (.tmp 59) (.tmp 64) 52 9 (.string ⟨#[]⟩) 16 rfl Tryd.underlying52 (by kernel_rfl) rfl (by decide) (by omega) _ (pre ++ [fw i] ++ (P.take j.toNat).map (fun o => itoaB (actV me A B C o))) (itoaB val) [.string (itoaB val)] (fun _ => True) (fun _ => False) rfl rfl rfl (fun _ h => h.elim) (fun _ _ => trivial) RL.out SB.out SB.out.size ?aL ?_; (case aL => (have h1 := HPL.out; have h2 := HPN.out; simp only [List.length_append, List.length_map, List.length_take, List.length_cons, List.length_nil]; omega)); intro vl2 wz2 ho hb hg hat; replace RP := Aside0.mk (Kd.R_over' RP.out (Kd.R_typed RL.out) (by simp [kp, Kd.scalar]) hg); replace S1 := Aside0.mk (blk_grown S1.out hg (Kd.R_ne RL.out S1.out (by decide))); replace S5 := Aside0.mk (blk_grown S5.out hg (Kd.R_ne RL.out S5.out (by decide))); replace RL := Aside0.mk ho; replace SB := Aside0.mk hb; clear ho hb hg hat))
          go_roundg (P.length - (j + 1)).toNat
          case measure => have := HJ2.out; omega
          case rel =>
            refine ⟨j + 1, by rw [HJ2.out.2.2.2], ⟨by have := HJ2.out; omega, by have := HJ2.out; omega, rfl⟩, ⟨?_⟩, ⟨?_⟩, RP, S1, S5, SB⟩
            · rw [HNX.out]
              intro p hp
              rcases List.mem_append.1 hp with hp | hp
              · exact HO.out p hp
              · obtain rfl : p = o := by simpa using hp
                rw [HVL.out]; exact HV.out
            · rw [HNX.out, List.map_append, ← List.append_assoc]
              simp only [List.map_cons, List.map_nil, HVL.out]
              exact RL.out
        · have HBAD := Aside0.mk (show (⟨#[]⟩ : ByteArray) = r ∧ (2 : Int) = e by
            have hg := HG.out
            rw [show order_Show.g i me A B C tx ct = some (⟨#[]⟩, 2) from show_bad (o := o) (by rw [HPQ.out]; exact HME.out) (by rw [HVL.out]; exact hv)] at hg
            simpa using hg)
          have hq : decide (val < 0) = true ∨ (decide (val < 0) = false ∧ decide (val > 1000000000000) = true) := by
            unfold okV at hv
            by_cases a : val < 0
            · exact .inl (decide_eq_true a)
            · exact .inr ⟨decide_eq_false a, decide_eq_true (by omega)⟩
          clear hv
          rcases hq with q1 | ⟨q1, q2⟩
          all_goals (
            go_wp2
            obtain ⟨rfl, rfl⟩ := HBAD.out
            go_ret2
            exact ⟨rfl, SB.out⟩)
      · obtain ⟨j0, j3, hk⟩ := HJ.out
        obtain rfl : j = P.length := by omega
        have HALL := HO.out
        have RL' := RL.out
        rw [Int.toNat_natCast, List.take_length] at HALL RL'
        replace RL := Aside0.mk RL'
        have HA := Aside0.mk HALL
        have t1 : decide ((P.length : Int) < (P.length : Int)) = false := by simp
        have k0 := blk_cell S5.out 0
        have x5 := blk_cell S1.out 5
        have HG2 : Aside0 ((if (hit P 1 me = 0 ∧ hit P 2 A = 0 ∧ hit P 3 B = 0 ∧ hit P 4 C = 0 ∧ (i = 5 ∨ tx.size = 0)) ∧ hasNl tx = false then showEnd (pre ++ [fw i] ++ P.map (fun o => itoaB (actV me A B C o)) ++ (if i = 5 then [tx] else [])) else some ((⟨#[]⟩ : ByteArray), (3 : Int))) = some (r, e)) := ⟨by
          have hg := HG.out
          unfold order_Show.g at hg
          rw [HPQ.out, if_pos HALL, HPRE.out] at hg
          exact hg⟩
        clear HALL RL' HJ HO j0 j3 hk hlt
        by_cases h5 : i = 5
        · have q16 : ((i : Int) + 1 == 6) = true := by rw [h5]; rfl
          have RTX : Aside0 ((if i = 5 then [tx] else []) = [tx]) := ⟨if_pos h5⟩
          rw [RTX.out] at HG2
          clear h5
          go_upto_region 18 with ((with_reducible refine gate_builtin (b := .append) (xs := #[.tmp 70, .tmp 73]) rfl ?_); at_builtin; refine Kd.R_append Kd.string (w0 := w) w.heap.size rfl (.tmp 70) (.tmp 73) 52 9 (.string ⟨#[]⟩) 16 rfl Tryd.underlying52 (by kernel_rfl) rfl (by decide) (by omega) _ (pre ++ [fw i] ++ P.map (fun o => itoaB (actV me A B C o))) tx [.string tx] (fun _ => True) (fun _ => False) rfl rfl rfl (fun _ h => h.elim) (fun _ _ => trivial) RL.out SB.out SB.out.size ?aL ?_; (case aL => (have h1 := HPL.out; have h2 := HPN.out; simp only [List.length_append, List.length_map, List.length_cons, List.length_nil]; omega)); intro vl3 wz3 ho hb hg hat; replace S1 := Aside0.mk (blk_grown S1.out hg (Kd.R_ne RL.out S1.out (by decide))); replace S5 := Aside0.mk (blk_grown S5.out hg (Kd.R_ne RL.out S5.out (by decide))); replace RL := Aside0.mk ho; replace SB := Aside0.mk hb; clear ho hb hg hat k0 x5)
          obtain ⟨LL, hLL⟩ : ∃ LL, pre ++ [fw i] ++ P.map (fun o => itoaB (actV me A B C o)) ++ [tx] = LL := ⟨_, rfl⟩
          rw [hLL] at RL HG2
          clear hLL
          obtain ⟨s, hs⟩ : ∃ s, (if (i : Int) + 1 = 6 then (⟨#[]⟩ : ByteArray) else tx) = s := ⟨_, rfl⟩
          have HS := Aside0.mk hs
          have hsz : s.size = 0 ↔ (i = 5 ∨ tx.size = 0) := by
            rw [← hs]
            by_cases h5 : i = 5
            · rw [if_pos (by omega)]; exact ⟨fun _ => .inl h5, fun _ => rfl⟩
            · rw [if_neg (by omega)]; exact ⟨fun g => .inr g, fun g => g.resolve_left h5⟩
          have k0 := blk_cell S5.out 0
          have k1 := blk_cell S5.out 1
          have k2 := blk_cell S5.out 2
          have k3 := blk_cell S5.out 3
          have k4 := blk_cell S5.out 4
          have x0 := blk_cell S1.out 0
          have x1 := blk_cell S1.out 1
          have x2 := blk_cell S1.out 2
          have x3 := blk_cell S1.out 3
          have x4 := blk_cell S1.out 4
          have x5 := blk_cell S1.out 5
          have x6 := blk_cell S1.out 6
          obtain ⟨A9, c9, hsl⟩ := Kd.R_slice RL.out
          subst hsl
          by_cases hz : hit P 1 me = 0 ∧ hit P 2 A = 0 ∧ hit P 3 B = 0 ∧ hit P 4 C = 0 ∧ (i = 5 ∨ tx.size = 0)
          · have heq := fun d W => act_is d W (hit P 1 me) (hit P 2 A) (hit P 3 B) (hit P 4 C) s true (decide_eq_true ⟨hz.1, hz.2.1, hz.2.2.1, hz.2.2.2.1, hsz.2 hz.2.2.2.2⟩)
            cases hn : hasNl tx with
            | true =>
              have HBAD := Aside0.mk (show (⟨#[]⟩ : ByteArray) = r ∧ (3 : Int) = e by
                have hg := HG2.out
                rw [if_neg (by rw [hn]; simp)] at hg
                simpa using hg)
              have HN := Aside0.mk (show decide (0 ≤ Lib.indexByte tx.data.toList 10) = true from hn)
              clear hn hz hsz hs
              go_wp2_with (first | (go_at_call 20; refine (order_bare.calls _ ((i : Int) + 1) (fw i) (fa i) (fb i) (fc i) kn me A B C tx ct).mono ?_; rintro e' wb ⟨rfl, hb1⟩; rw [HPQ.out, HS.out]; replace S1 := Aside0.mk (blk_below S1.out hb1); have x5 := blk_cell S1.out 5; replace RL := Aside0.mk (Kd.R_below RL.out hb1); replace SB := Aside0.mk (below_then SB.out SB.out.size hb1); clear hb1) | (go_at_call 21; refine (Tryd.strings_Contains_one tx 10 _).mono ?_; rintro e' wc ⟨rfl, rfl⟩; rw [HN.out]))
              obtain ⟨rfl, rfl⟩ := HBAD.out
              go_ret2
              exact ⟨rfl, SB.out⟩
            | false =>
              have hg := HG2.out
              rw [if_pos ⟨hz, hn⟩] at hg
              unfold showEnd at hg
              obtain ⟨sj, hj, hg⟩ := Option.bind_eq_some_iff.mp hg
              have HJN := Aside0.mk hj
              have HN := Aside0.mk (show decide (0 ≤ Lib.indexByte tx.data.toList 10) = false from hn)
              by_cases hl : sj.size > 120
              · rw [if_pos hl] at hg
                have HR := Aside0.mk (show (⟨#[]⟩ : ByteArray) = r ∧ (1 : Int) = e by simpa using hg)
                have q1 : decide ((sj.size : Int) > 120) = true := decide_eq_true (by omega)
                have q1n : decide (120 < sj.size) = true := decide_eq_true hl
                clear hn hz hsz hs hg hj hl
                go_wp2_with (first | (go_at_call 20; refine (order_bare.calls _ ((i : Int) + 1) (fw i) (fa i) (fb i) (fc i) kn me A B C tx ct).mono ?_; rintro e' wb ⟨rfl, hb1⟩; rw [HPQ.out, HS.out]; replace S1 := Aside0.mk (blk_below S1.out hb1); have x5 := blk_cell S1.out 5; replace RL := Aside0.mk (Kd.R_below RL.out hb1); replace SB := Aside0.mk (below_then SB.out SB.out.size hb1); clear hb1) | (go_at_call 21; refine (Tryd.strings_Contains_one tx 10 _).mono ?_; rintro e' wc ⟨rfl, rfl⟩; rw [HN.out]) | (go_at_call 22; refine (strings_Join.calls A9 c9 _ ⟨#[32]⟩ sj _ (Kd.R_reads' RL.out).2.2 (Kd.R_reads' RL.out).2.1 HJN.out).mono ?_; rintro e' wj ⟨rfl, hb1⟩; replace SB := Aside0.mk (below_then SB.out SB.out.size hb1); clear hb1))
                obtain ⟨rfl, rfl⟩ := HR.out
                go_ret2
                exact ⟨rfl, SB.out⟩
              · rw [if_neg hl] at hg
                have HR := Aside0.mk (show sj = r ∧ (0 : Int) = e by simpa using hg)
                have q1 : decide ((sj.size : Int) > 120) = false := decide_eq_false (by omega)
                have q1n : decide (120 < sj.size) = false := decide_eq_false hl
                clear hn hz hsz hs hg hj hl
                go_wp2_with (first | (go_at_call 20; refine (order_bare.calls _ ((i : Int) + 1) (fw i) (fa i) (fb i) (fc i) kn me A B C tx ct).mono ?_; rintro e' wb ⟨rfl, hb1⟩; rw [HPQ.out, HS.out]; replace S1 := Aside0.mk (blk_below S1.out hb1); have x5 := blk_cell S1.out 5; replace RL := Aside0.mk (Kd.R_below RL.out hb1); replace SB := Aside0.mk (below_then SB.out SB.out.size hb1); clear hb1) | (go_at_call 21; refine (Tryd.strings_Contains_one tx 10 _).mono ?_; rintro e' wc ⟨rfl, rfl⟩; rw [HN.out]) | (go_at_call 22; refine (strings_Join.calls A9 c9 _ ⟨#[32]⟩ sj _ (Kd.R_reads' RL.out).2.2 (Kd.R_reads' RL.out).2.1 HJN.out).mono ?_; rintro e' wj ⟨rfl, hb1⟩; replace SB := Aside0.mk (below_then SB.out SB.out.size hb1); clear hb1))
                obtain ⟨rfl, rfl⟩ := HR.out
                go_ret2
                exact ⟨rfl, SB.out⟩
          · have heq := fun d W => act_is d W (hit P 1 me) (hit P 2 A) (hit P 3 B) (hit P 4 C) s false (decide_eq_false (fun g => hz ⟨g.1, g.2.1, g.2.2.1, g.2.2.2.1, hsz.1 g.2.2.2.2⟩))
            have HBAD := Aside0.mk (show (⟨#[]⟩ : ByteArray) = r ∧ (3 : Int) = e by
              have hg := HG2.out
              rw [if_neg (fun g => hz g.1)] at hg
              simpa using hg)
            clear hz hsz hs
            go_wp2_with (first | (go_at_call 20; refine (order_bare.calls _ ((i : Int) + 1) (fw i) (fa i) (fb i) (fc i) kn me A B C tx ct).mono ?_; rintro e' wb ⟨rfl, hb1⟩; rw [HPQ.out, HS.out]; replace S1 := Aside0.mk (blk_below S1.out hb1); have x5 := blk_cell S1.out 5; replace RL := Aside0.mk (Kd.R_below RL.out hb1); replace SB := Aside0.mk (below_then SB.out SB.out.size hb1); clear hb1))
            obtain ⟨rfl, rfl⟩ := HBAD.out
            go_ret2
            exact ⟨rfl, SB.out⟩
        · have q16 : ((i : Int) + 1 == 6) = false := beq_eq_false_iff_ne.mpr (by omega)
          have RTX : Aside0 ((if i = 5 then [tx] else []) = ([] : List ByteArray)) := ⟨if_neg h5⟩
          rw [RTX.out] at HG2
          have RL2 := RL.out
          rw [← List.append_nil (pre ++ [fw i] ++ _)] at RL2
          replace RL := Aside0.mk RL2
          clear h5 RL2
          go_upto_region 18 with (fail)
          clear k0 x5
          obtain ⟨LL, hLL⟩ : ∃ LL, pre ++ [fw i] ++ P.map (fun o => itoaB (actV me A B C o)) ++ ([] : List ByteArray) = LL := ⟨_, rfl⟩
          rw [hLL] at RL HG2
          clear hLL
          obtain ⟨s, hs⟩ : ∃ s, (if (i : Int) + 1 = 6 then (⟨#[]⟩ : ByteArray) else tx) = s := ⟨_, rfl⟩
          have HS := Aside0.mk hs
          have hsz : s.size = 0 ↔ (i = 5 ∨ tx.size = 0) := by
            rw [← hs]
            by_cases h5 : i = 5
            · rw [if_pos (by omega)]; exact ⟨fun _ => .inl h5, fun _ => rfl⟩
            · rw [if_neg (by omega)]; exact ⟨fun g => .inr g, fun g => g.resolve_left h5⟩
          have k0 := blk_cell S5.out 0
          have k1 := blk_cell S5.out 1
          have k2 := blk_cell S5.out 2
          have k3 := blk_cell S5.out 3
          have k4 := blk_cell S5.out 4
          have x0 := blk_cell S1.out 0
          have x1 := blk_cell S1.out 1
          have x2 := blk_cell S1.out 2
          have x3 := blk_cell S1.out 3
          have x4 := blk_cell S1.out 4
          have x5 := blk_cell S1.out 5
          have x6 := blk_cell S1.out 6
          obtain ⟨A9, c9, hsl⟩ := Kd.R_slice RL.out
          subst hsl
          by_cases hz : hit P 1 me = 0 ∧ hit P 2 A = 0 ∧ hit P 3 B = 0 ∧ hit P 4 C = 0 ∧ (i = 5 ∨ tx.size = 0)
          · have heq := fun d W => act_is d W (hit P 1 me) (hit P 2 A) (hit P 3 B) (hit P 4 C) s true (decide_eq_true ⟨hz.1, hz.2.1, hz.2.2.1, hz.2.2.2.1, hsz.2 hz.2.2.2.2⟩)
            cases hn : hasNl tx with
            | true =>
              have HBAD := Aside0.mk (show (⟨#[]⟩ : ByteArray) = r ∧ (3 : Int) = e by
                have hg := HG2.out
                rw [if_neg (by rw [hn]; simp)] at hg
                simpa using hg)
              have HN := Aside0.mk (show decide (0 ≤ Lib.indexByte tx.data.toList 10) = true from hn)
              clear hn hz hsz hs
              go_wp2_with (first | (go_at_call 20; refine (order_bare.calls _ ((i : Int) + 1) (fw i) (fa i) (fb i) (fc i) kn me A B C tx ct).mono ?_; rintro e' wb ⟨rfl, hb1⟩; rw [HPQ.out, HS.out]; replace S1 := Aside0.mk (blk_below S1.out hb1); have x5 := blk_cell S1.out 5; replace RL := Aside0.mk (Kd.R_below RL.out hb1); replace SB := Aside0.mk (below_then SB.out SB.out.size hb1); clear hb1) | (go_at_call 21; refine (Tryd.strings_Contains_one tx 10 _).mono ?_; rintro e' wc ⟨rfl, rfl⟩; rw [HN.out]))
              obtain ⟨rfl, rfl⟩ := HBAD.out
              go_ret2
              exact ⟨rfl, SB.out⟩
            | false =>
              have hg := HG2.out
              rw [if_pos ⟨hz, hn⟩] at hg
              unfold showEnd at hg
              obtain ⟨sj, hj, hg⟩ := Option.bind_eq_some_iff.mp hg
              have HJN := Aside0.mk hj
              have HN := Aside0.mk (show decide (0 ≤ Lib.indexByte tx.data.toList 10) = false from hn)
              by_cases hl : sj.size > 120
              · rw [if_pos hl] at hg
                have HR := Aside0.mk (show (⟨#[]⟩ : ByteArray) = r ∧ (1 : Int) = e by simpa using hg)
                have q1 : decide ((sj.size : Int) > 120) = true := decide_eq_true (by omega)
                have q1n : decide (120 < sj.size) = true := decide_eq_true hl
                clear hn hz hsz hs hg hj hl
                go_wp2_with (first | (go_at_call 20; refine (order_bare.calls _ ((i : Int) + 1) (fw i) (fa i) (fb i) (fc i) kn me A B C tx ct).mono ?_; rintro e' wb ⟨rfl, hb1⟩; rw [HPQ.out, HS.out]; replace S1 := Aside0.mk (blk_below S1.out hb1); have x5 := blk_cell S1.out 5; replace RL := Aside0.mk (Kd.R_below RL.out hb1); replace SB := Aside0.mk (below_then SB.out SB.out.size hb1); clear hb1) | (go_at_call 21; refine (Tryd.strings_Contains_one tx 10 _).mono ?_; rintro e' wc ⟨rfl, rfl⟩; rw [HN.out]) | (go_at_call 22; refine (strings_Join.calls A9 c9 _ ⟨#[32]⟩ sj _ (Kd.R_reads' RL.out).2.2 (Kd.R_reads' RL.out).2.1 HJN.out).mono ?_; rintro e' wj ⟨rfl, hb1⟩; replace SB := Aside0.mk (below_then SB.out SB.out.size hb1); clear hb1))
                obtain ⟨rfl, rfl⟩ := HR.out
                go_ret2
                exact ⟨rfl, SB.out⟩
              · rw [if_neg hl] at hg
                have HR := Aside0.mk (show sj = r ∧ (0 : Int) = e by simpa using hg)
                have q1 : decide ((sj.size : Int) > 120) = false := decide_eq_false (by omega)
                have q1n : decide (120 < sj.size) = false := decide_eq_false hl
                clear hn hz hsz hs hg hj hl
                go_wp2_with (first | (go_at_call 20; refine (order_bare.calls _ ((i : Int) + 1) (fw i) (fa i) (fb i) (fc i) kn me A B C tx ct).mono ?_; rintro e' wb ⟨rfl, hb1⟩; rw [HPQ.out, HS.out]; replace S1 := Aside0.mk (blk_below S1.out hb1); have x5 := blk_cell S1.out 5; replace RL := Aside0.mk (Kd.R_below RL.out hb1); replace SB := Aside0.mk (below_then SB.out SB.out.size hb1); clear hb1) | (go_at_call 21; refine (Tryd.strings_Contains_one tx 10 _).mono ?_; rintro e' wc ⟨rfl, rfl⟩; rw [HN.out]) | (go_at_call 22; refine (strings_Join.calls A9 c9 _ ⟨#[32]⟩ sj _ (Kd.R_reads' RL.out).2.2 (Kd.R_reads' RL.out).2.1 HJN.out).mono ?_; rintro e' wj ⟨rfl, hb1⟩; replace SB := Aside0.mk (below_then SB.out SB.out.size hb1); clear hb1))
                obtain ⟨rfl, rfl⟩ := HR.out
                go_ret2
                exact ⟨rfl, SB.out⟩
          · have heq := fun d W => act_is d W (hit P 1 me) (hit P 2 A) (hit P 3 B) (hit P 4 C) s false (decide_eq_false (fun g => hz ⟨g.1, g.2.1, g.2.2.1, g.2.2.2.1, hsz.1 g.2.2.2.2⟩))
            have HBAD := Aside0.mk (show (⟨#[]⟩ : ByteArray) = r ∧ (3 : Int) = e by
              have hg := HG2.out
              rw [if_neg (fun g => hz g.1)] at hg
              simpa using hg)
            clear hz hsz hs
            go_wp2_with (first | (go_at_call 20; refine (order_bare.calls _ ((i : Int) + 1) (fw i) (fa i) (fb i) (fc i) kn me A B C tx ct).mono ?_; rintro e' wb ⟨rfl, hb1⟩; rw [HPQ.out, HS.out]; replace S1 := Aside0.mk (blk_below S1.out hb1); have x5 := blk_cell S1.out 5; replace RL := Aside0.mk (Kd.R_below RL.out hb1); replace SB := Aside0.mk (below_then SB.out SB.out.size hb1); clear hb1))
            obtain ⟨rfl, rfl⟩ := HBAD.out
            go_ret2
            exact ⟨rfl, SB.out⟩
/-! ### order_Show: function 9 (by hand) -/
def order_Show.f (kn me A B C : Int) (tx : ByteArray) (ct : Int) : Option (ByteArray × Int) := if formIx kn < 0 ∨ ct < -1 ∨ ct > 4096 then some (⟨#[]⟩, 2) else order_Show.g (kn - 1).toNat me A B C tx ct
theorem order_Show.calls (kn me A B C : Int) (tx : ByteArray) (ct : Int) (r1 : ByteArray) (r2 : Int) (w : World) (HTAB : LaidW w) (h : order_Show.f kn me A B C tx ct = some (r1, r2)) :
    Calls Tryd.prog 9 #[.agg #[.int .i64 kn, .int .i64 me, .int .i64 A, .int .i64 B, .int .i64 C, .string tx, .int .i64 ct]] w fun e w' => e = .returned (.tuple #[.string r1, .int .i64 r2]) ∧ Below w.heap.size w w' := by
  unfold order_Show.f at h
  by_cases hc : formIx kn < 0 ∨ ct < -1 ∨ ct > 4096
  · rw [if_pos hc] at h
    obtain ⟨rfl, rfl⟩ := Prod.mk.inj (Option.some.inj h)
    exact order_Show.early kn me A B C tx ct w HTAB.forms hc
  · rw [if_neg hc] at h
    have hk : 1 ≤ kn ∧ kn ≤ 7 := by
      by_cases g : 1 ≤ kn ∧ kn ≤ 7
      · exact g
      · exact absurd (Or.inl (by unfold formIx; rw [if_neg g]; decide)) hc
    have := order_Show.main (kn - 1).toNat (by omega) me A B C tx ct (by omega) w HTAB HTAB.forms r1 r2 h
    rwa [show (((kn - 1).toNat : Nat) : Int) + 1 = kn by omega] at this

end Go.Proofs.YtdijplohafjbcaaDoor.POrderShows
