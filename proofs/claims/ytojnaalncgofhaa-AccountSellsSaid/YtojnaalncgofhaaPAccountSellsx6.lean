-- written by this session's program wip/xp/xprint.py (it drives the kit's print and adds to it)
import Derived.Test.YtojnaalncgofhaaPAccountSellsx0
import Derived.Test.YtojnaalncgofhaaPAccountSellsx3
import Derived.Test.YtojnaalncgofhaaPAccountSellsx4
import Derived.Test.YtojnaalncgofhaaPAccountSellsx5
namespace Go.Proofs.Ytojnaalncgofhaa.PAccountSells
open Go.RowKit Go.Proofs.YtojnaalncgofhaaW.PrintWords Go.Proofs.YtojnaalncgofhaaW.PrintLast Go.Proofs.YtojnaalncgofhaaW.PrintMore
attribute [local go_sem] max2_int min2_int max_two min_two max_three min_three max_four min_four   -- for this text's walks alone
set_option linter.unusedVariables false
set_option linter.unusedSimpArgs false

section
variable {P : Program} {ops : Array Oper} {o : Oper} {a : Act} {Q : Exit → Act → World → Prop} {W : World}
theorem seg.run {t : TypeId} {e : TypeId} {g : Nat} {cur new : Array Value} {u : Value} (i : Nat) (cs : List Value) (hu : u.cells.toList = cs) (ht : (P.info? t).map (·.size) = some cs.length) (h1 : ∀ q ∈ cs, q.oneCell' = true) (hh : W.heap[g]? = some (.cells cur e (0, 0))) (hsz : i + cs.length ≤ cur.size) (hnew : cur.toList.take i ++ cs ++ cur.toList.drop (i + cs.length) = new.toList) :
    (Instr.storeAt t (.pointer (some ⟨g, i, none⟩)) u).run P W = .ok () (W.setCells g i cs) ∧ (W.setCells g i cs).heap[g]? = some (.cells new e (0, 0)) ∧ W.grownBy (W.setCells g i cs) (some g) := by
  refine ⟨run_store_run t u cs hh hu ht hsz h1, ?_, ?_⟩
  · obtain ⟨cur', h2, h3, h4⟩ := setCells_row cs i W cur hh hsz
    rw [h2]
    have : cur' = new := Array.toList_inj.1 (h4.trans hnew)
    rw [this]
  · obtain ⟨q1, q2, q3, q4⟩ := setCells_same g cs i W
    exact ⟨q1, q2, q3, by rw [q4]; exact Nat.le_refl _, fun k _ hk => setCells_far _ _ k (fun h => hk (by rw [h]))⟩
theorem seg.list {rest : List Oper} (hN : o.dst = none) (hgd : o.guard = none) (t : TypeId) (p x : Operand) (ho : o.op = .store t p x) (e : TypeId) (g i : Nat) (cur new : Array Value) (cs : List Value) (haddr : a.eval p = .pointer (some ⟨g, i, none⟩)) (hu : (a.eval x).cells.toList = cs) (ht : (P.info? t).map (·.size) = some cs.length) (h1 : ∀ q ∈ cs, q.oneCell' = true) (hh : W.heap[g]? = some (.cells cur e (0, 0))) (hsz : i + cs.length ≤ cur.size) (hnew : cur.toList.take i ++ cs ++ cur.toList.drop (i + cs.length) = new.toList)
    (h : ∀ w1, w1.heap[g]? = some (.cells new e (0, 0)) → W.grownBy w1 (some g) → wpList P ops Q rest a w1) : wpList P ops Q (o :: rest) a W := by
  obtain ⟨hrun, hb, hg⟩ := seg.run (P := P) (t := t) i cs hu ht h1 hh hsz hnew
  refine wpList_plain hgd fun K hK => ?_
  unfold Oper.wp execOp
  simp only [ho, haddr, Sem.run_bind, Sem.run_pure, Result.andThen_ok, hrun]
  show K (a.put o.dst undef) _
  rw [hN]
  exact hK a _ (h _ hb hg)
theorem seg.step {Kc : Act → World → Prop} (hw : Region.wanted o (yielded ops a.tmps) = true) (hN : o.dst = none) (t : TypeId) (p x : Operand) (ho : o.op = .store t p x) (e : TypeId) (g i : Nat) (cur new : Array Value) (cs : List Value) (haddr : a.eval p = .pointer (some ⟨g, i, none⟩)) (hu : (a.eval x).cells.toList = cs) (ht : (P.info? t).map (·.size) = some cs.length) (h1 : ∀ q ∈ cs, q.oneCell' = true) (hh : W.heap[g]? = some (.cells cur e (0, 0))) (hsz : i + cs.length ≤ cur.size) (hnew : cur.toList.take i ++ cs ++ cur.toList.drop (i + cs.length) = new.toList)
    (h : ∀ w1, w1.heap[g]? = some (.cells new e (0, 0)) → W.grownBy w1 (some g) → Kc (a.put o.dst undef) w1) :
    if Region.wanted o (yielded ops a.tmps) = true then Oper.wp P o a W Kc Q else Kc (a.put o.dst undef) W := by
  obtain ⟨hrun, hb, hg⟩ := seg.run (P := P) (t := t) i cs hu ht h1 hh hsz hnew
  rw [if_pos hw]
  unfold Oper.wp execOp
  simp only [ho, haddr, Sem.run_bind, Sem.run_pure, Result.andThen_ok, hrun]
  exact h _ hb hg
end
theorem seg.below {w W w1 : World} {g : Nat} (h : Below w.heap.size w W) (hg : W.grownBy w1 (some g)) (hl : w.heap.size ≤ g) : Below w.heap.size w w1 := pw_below_grown h (some g) h.size hg (fun k hk => by cases hk; exact hl)
theorem seg.far {W w1 : World} {g h : Nat} {ob : Obj} (hb : W.heap[h]? = some ob) (hg : W.grownBy w1 (some g)) (hne : h ≠ g) : w1.heap[h]? = some ob := blk_grown hb hg (fun e => hne (Option.some.inj e))
theorem seg.R {α : Type} {d : Kd α} {e base : Nat} {ok : Nat → Prop} {W w1 : World} {v : Value} {xs : List α} {g : Nat} (h : d.R e W base ok v xs) (hg : W.grownBy w1 (some g)) (hok : ∀ k, ok k → k ≠ g) : d.R e w1 base ok v xs := Kd.R_grown h hg (fun k hk e => hok k hk (Option.some.inj e))

section
variable {P : Program} {ops : Array Oper} {Q : Exit → Act → World → Prop} {md : Region.Mode} {S : World → Prop} {ds : List Nat}
/-- One operation of a region that draws its order, taken first wherever it may come up: it yields in every world. -/
theorem pp {oi : Oper} {v : Value} {fuel : Nat} {l l' : Array Bool} {a a' : Act} {w : World} (i n : Nat) (h : wpAnyLast P md ops Q S ds fuel l' a' w) (hi : ops[i]? = some oi := by rfl) (hN : oi.dst = some n := by rfl) (hl : l.setIfInBounds i true = l' := by (conv => lhs; simp only [List.setIfInBounds_toArray, List.set_cons_zero, List.set_cons_succ])) (hc : anyB md ops l l' i = true := by kernel_rfl) (hQ : ∀ c a w, Q (.panic c) (a.put oi.dst v) w → Q (.panic c) a w := by exact fun _ _ _ h => h) (hw : Region.wanted oi (yielded ops a.tmps) = true := by rfl)
    (hy : ∀ w', (execOp a.eval oi).run P w' = .ok (.value v) w' := by intro w'; go_simp; with_reducible rfl) (ha : a.put (some n) v = a' := by (conv => lhs; simp only [Act.put, List.setIfInBounds_toArray, List.set_cons_zero, List.set_cons_succ, i64_w, i32_w])) : wpAnyLast P md ops Q S ds (fuel + 1) l a w :=
  pure_ l' hi hN hc hQ (.inl ⟨hw, hy⟩) ha h
/-- The same for a load that is held: it yields in every world that meets S. -/
theorem tk {oi : Oper} {v : Value} {fuel : Nat} {l l' : Array Bool} {a a' : Act} {w : World} (i n : Nat) (h : wpAnyLast P md ops Q S ds fuel l' a' w) (hS : S w := by assumption) (hi : ops[i]? = some oi := by rfl) (hN : oi.dst = some n := by rfl) (hl : l.setIfInBounds i true = l' := by (conv => lhs; simp only [List.setIfInBounds_toArray, List.set_cons_zero, List.set_cons_succ])) (hc : takeB md ops ds l l' i = true := by kernel_rfl) (hQ : ∀ c a w, Q (.panic c) (a.put oi.dst v) w → Q (.panic c) a w := by exact fun _ _ _ h => h) (hw : Region.wanted oi (yielded ops a.tmps) = true := by rfl)
    (hy : ∀ w', S w' → (execOp a.eval oi).run P w' = .ok (.value v) w' := by intro w' hS; (repeat obtain ⟨_, hS⟩ := hS); go_simp; with_reducible rfl) (ha : a.put (some n) v = a' := by (conv => lhs; simp only [Act.put, List.setIfInBounds_toArray, List.set_cons_zero, List.set_cons_succ, i64_w, i32_w])) : wpAnyLast P md ops Q S ds (fuel + 1) l a w :=
  take_ l' hi hN hc hQ (.inl ⟨hw, hy⟩) hS ha h
end
theorem below_drawn {w W : World} (h : Drawn0 w W) : Below w.heap.size w W := by
  obtain ⟨n, rfl⟩ := h
  exact pw_below_drewN (Below.refl _ _) n

/-! ### account_clerk -/
def clerk.cells (me rev nx mo bo fr : Int) (vd : Value) (At : Option Addr) (nt ct : Nat) (a b c d : Int) : Array Value := #[.int .i64 me, .int .i64 rev, .int .i64 nx, .int .i64 mo, .int .i64 bo, .int .i64 fr, vd, .slice At nt ct, .int .i64 a, .int .i64 b, .int .i64 c, .int .i64 d]
def account_open.f (k : Nat) (me rev nx mo bo fr : Int) (l : List S39) (t : List S99) (a b c d : Int) : Option Int :=
  (account_may.f k me rev nx mo bo fr l).bind fun m => if m = true then ((account_Check.f t a b c d).bind fun e => if e = 0 then (if l.length < 8796093022208 then some 0 else none) else some e) else some 5
theorem account_open.mono : ∀ me rev nx mo bo fr l t a b c d k, LeO (account_open.f k me rev nx mo bo fr l t a b c d) (account_open.f (k + 1) me rev nx mo bo fr l t a b c d) := by
  intro me rev nx mo bo fr l t a b c d k
  unfold account_open.f
  exact LeO.bind (account_may.mono _ _ _ _ _ _ _ _) (fun _ => LeO.refl _)
def account_roll.f (k : Nat) (mo bo : Int) (l : List S39) (month : Int) : Option (List S39 × Int × Int × Int) :=
  if 0 ≤ month ∧ month ≤ 2399 then (if month < mo then some (l, mo, bo, 23) else if month > mo then (debt_Age.f k l (wrap64 (month - mo))).bind fun p => some (p.1, month, 0, 0) else some (l, mo, bo, 0)) else some (l, mo, bo, 2)
theorem account_roll.mono : ∀ mo bo l month k, LeO (account_roll.f k mo bo l month) (account_roll.f (k + 1) mo bo l month) := by
  intro mo bo l month k
  unfold account_roll.f
  exact LeO.ite (LeO.ite (LeO.refl _) (LeO.ite (LeO.bind (debt_Age.mono _ _ _) (fun _ => LeO.refl _)) (LeO.refl _))) (LeO.refl _)
theorem account_roll.within (a b c : Int) (w : World) : Calls Try.prog 50 #[.int .i64 a, .int .i64 b, .int .i64 c] w fun e w' => e = .returned (.bool (decide (b ≤ a ∧ a ≤ c))) ∧ Below w.heap.size w w' :=
  (account_within.calls a b c (decide (b ≤ a ∧ a ≤ c)) w (by unfold account_within.f; by_cases h : b ≤ a <;> simp [h])).mono (by rintro e w' ⟨rfl, nd, rfl⟩; exact ⟨rfl, pw_below_drewN (Below.refl _ _) _⟩)
theorem clerk.get {w : World} {g : Nat} {me rev nx mo bo fr : Int} {vd : Value} {At : Option Addr} {nt ct : Nat} {a b c d : Int} (h : w.heap[g]? = some (.cells (clerk.cells me rev nx mo bo fr vd At nt ct a b c d) 66 (0, 0))) : w.cell? ⟨g, 0, none⟩ = some (.int .i64 me) ∧ w.cell? ⟨g, 1, none⟩ = some (.int .i64 rev) ∧ w.cell? ⟨g, 2, none⟩ = some (.int .i64 nx) ∧ w.cell? ⟨g, 3, none⟩ = some (.int .i64 mo) ∧ w.cell? ⟨g, 4, none⟩ = some (.int .i64 bo) ∧ w.cell? ⟨g, 5, none⟩ = some (.int .i64 fr) ∧ w.cell? ⟨g, 6, none⟩ = some vd ∧ w.cell? ⟨g, 7, none⟩ = some (.slice At nt ct) ∧ w.cell? ⟨g, 8, none⟩ = some (.int .i64 a) ∧ w.cell? ⟨g, 9, none⟩ = some (.int .i64 b) ∧ w.cell? ⟨g, 10, none⟩ = some (.int .i64 c) ∧ w.cell? ⟨g, 11, none⟩ = some (.int .i64 d) :=
  ⟨(blk_cell h 0).trans rfl, (blk_cell h 1).trans rfl, (blk_cell h 2).trans rfl, (blk_cell h 3).trans rfl, (blk_cell h 4).trans rfl, (blk_cell h 5).trans rfl, (blk_cell h 6).trans rfl, (blk_cell h 7).trans rfl, (blk_cell h 8).trans rfl, (blk_cell h 9).trans rfl, (blk_cell h 10).trans rfl, (blk_cell h 11).trans rfl⟩
set_option maxHeartbeats 4000000 in
set_option maxRecDepth 100000 in
theorem account_roll.calls (k g : Nat) (me rev nx mo bo fr : Int) (vd : Value) (l : List S39) (At : Option Addr) (nt ct : Nat) (a b c d : Int) (month : Int) (r1 : List S39) (r2 r3 r4 : Int) (w0 w : World) (hg : w0.heap.size ≤ g) (hb : Below w0.heap.size w0 w) (hbox : w.heap[g]? = some (.cells (clerk.cells me rev nx mo bo fr vd At nt ct a b c d) 66 (0, 0))) (hR : Kd.R k39 39 w w0.heap.size (fun k => k ≠ g) vd l) (h : account_roll.f k mo bo l month = some (r1, r2, r3, r4)) :
    Calls Try.prog 26 #[.pointer (some ⟨g, 0, none⟩), .int .i64 month] w fun e w' => e = .returned (.int .i64 r4) ∧ (∃ v1, w'.heap[g]? = some (.cells (clerk.cells me rev nx r2 r3 fr v1 At nt ct a b c d) 66 (0, 0)) ∧ Kd.R k39 39 w' w0.heap.size (fun k => k ≠ g) v1 r1) ∧ Kept w w' (fun k => k = g) ∧ Below w0.heap.size w0 w' := by
  obtain ⟨A6, c6, rfl⟩ := Kd.R_slice hR
  have HB := Aside0.mk hb
  have HX := Aside0.mk hbox
  have HR := Aside0.mk hR
  have hu60 := Try.underlying24
  have hu128 := Try.underlying66
  clear hb hbox hR
  unfold account_roll.f at h
  by_cases h1 : 0 ≤ month ∧ month ≤ 2399
  · rw [if_pos h1] at h
    have q1 : decide (0 ≤ month ∧ month ≤ 2399) = true := decide_eq_true h1
    by_cases h2 : month < mo
    · rw [if_pos h2] at h
      simp only [Option.some.injEq, Prod.mk.injEq] at h
      obtain ⟨rfl, rfl, rfl, rfl⟩ := h
      have q2 := decide_eq_true h2
      clear h1 h2
      go_enter Try.func26, Try.ntmps26
      go_wp2_with (go_at_call 50; refine (account_roll.within month 0 2399 _).mono ?_; rintro e w1 ⟨rfl, hb1⟩; rw [q1]; have HK1 := Aside0.mk (Kept.of_below hb1 (fun k => k = g)); have HX1 := Aside0.mk (blk_below HX.out hb1); have HR1 := Aside0.mk (Kd.R_below HR.out hb1); have HB1 := Aside0.mk (below_then HB.out HB.out.size hb1); obtain ⟨x0, x1, x2, x3, x4, x5, x6, x7, x8, x9, x10, x11⟩ := clerk.get HX1.out; clear hb1)
      go_ret
      exact ⟨rfl, ⟨_, HX1.out, HR1.out⟩, HK1.out, HB1.out⟩
    · rw [if_neg h2] at h
      have q2 := decide_eq_false h2
      by_cases h3 : month > mo
      · rw [if_pos h3] at h
        obtain ⟨⟨l1, e1⟩, ha, h⟩ := Option.bind_eq_some_iff.mp h
        simp only [Option.some.injEq, Prod.mk.injEq] at h
        obtain ⟨rfl, rfl, rfl, rfl⟩ := h
        have HA := Aside0.mk ha
        have q3 := decide_eq_true h3
        clear h1 h2 h3 ha
        go_enter Try.func26, Try.ntmps26
        go_wp2_with (go_at_call 50; refine (account_roll.within month 0 2399 _).mono ?_; rintro e w1 ⟨rfl, hb1⟩; rw [q1]; have HK1 := Aside0.mk (Kept.of_below hb1 (fun k => k = g)); have HX1 := Aside0.mk (blk_below HX.out hb1); have HR1 := Aside0.mk (Kd.R_below HR.out hb1); have HB1 := Aside0.mk (below_then HB.out HB.out.size hb1); obtain ⟨x0, x1, x2, x3, x4, x5, x6, x7, x8, x9, x10, x11⟩ := clerk.get HX1.out; clear hb1)
        refine start_ (n := 21) (S := fun w' => w'.cell? ⟨g, 6, none⟩ = some (.slice A6 l.length c6) ∧ w'.cell? ⟨g, 3, none⟩ = some (.int .i64 mo)) (ds := [20]) #[false, false, false, false, false, false, false, false, false, false, false, false, false, false, false, false, false, false, false, false, false] (by kernel_rfl) rfl rfl ⟨x6, x3⟩ (fun hHeld => ?_)
        refine pp 0 23 ?_
        refine pp 1 24 ?_
        refine pp 2 25 ?_
        refine pp 3 26 ?_
        refine pp 4 27 ?_
        refine pp 6 29 ?_
        refine pp 7 30 ?_
        refine pp 8 31 ?_
        refine pp 9 32 ?_
        refine pp 10 33 ?_
        refine tk 5 28 ?_
        refine tk 11 34 ?_
        refine pp 12 35 ?_
        refine one_ (i := 13) (N := some 36) #[true, true, true, true, true, true, true, true, true, true, true, true, true, true, false, false, false, false, false, false, false] rfl rfl (by kernel_rfl) (by decide) (fun K hK => ?_)
        refine goes_ Try.func51 (by kernel_rfl) rfl #[.slice A6 l.length c6, .int .i64 (wrap64 (month - mo))] (by rfl) rfl rfl (by (try simp only [List.map_toArray, List.map_cons, List.map_nil]); first | done | rfl) ?_
        with_reducible refine (debt_Age.calls k A6 c6 l (wrap64 (month - mo)) l1 e1 _ (Kd.R_reads' (Kd.R_drew HR1.out)).2.2 (Kd.R_reads' HR1.out).2.1 HA.out).mono ?_
        rintro e w2 ⟨v2, rfl, hr2, hb2⟩
        refine ⟨_, rfl, ?_⟩
        obtain ⟨A7, c7, rfl⟩ := Kd.R_slice hr2
        have bx := blk_below (blk_drew HX1.out) hb2
        have HX2 := Aside0.mk bx
        have HR2 := Aside0.mk (Kd.R_lower (Kd.R_mono (Kd.R_bound hr2) (fun k hk => (by have := blk_lt HX1.out; have h9 : w1.heap.size ≤ k := hk.2.1; omega : k ≠ g))) HB1.out.size)
        have HB2 := Aside0.mk (below_then (below_drew1 HB1.out) HB1.out.size hb2)
        have HK2 := Aside0.mk ((HK1.out.drew).below hb2)
        have f6 := blk_frozen bx 6
        have f3 := blk_frozen bx 3
        have f4 := blk_frozen bx 4
        clear x0 x1 x2 x3 x4 x5 x6 x7 x8 x9 x10 x11
        obtain ⟨x0, x1, x2, x3, x4, x5, x6, x7, x8, x9, x10, x11⟩ := clerk.get bx
        clear bx hr2 hb2
        refine hK.out _ _ ⟨x6, x3⟩ (fun hHeld => ?_)
        clear hK K
        refine norm_ (a' := ?_) ?_ ?_
        rotate_left
        · show Act.put _ (some 36) _ = _
          simp only [Act.put, List.setIfInBounds_toArray, List.set_cons_zero, List.set_cons_succ, i64_w, i32_w]
          rfl
        refine pp 14 22 ?_
        refine pp 15 37 ?_
        refine pp 16 38 ?_
        refine pp 17 39 ?_
        refine pp 18 40 ?_
        refine pp 19 41 ?_
        refine last_ (i := 20) (N := none) #[true, true, true, true, true, true, true, true, true, true, true, true, true, true, true, true, true, true, true, true, true] rfl rfl (by kernel_rfl) (by decide) (fun K hK => ?_)
        refine skip_ (w1 := ?_) (by rfl) rfl ?_ ?_
        rotate_left
        · go_simp
          rfl
        refine hK.out _ _ ?_
        clear hK K
        refine done_ (by kernel_rfl) ?_
        go_wp2
        go_ret
        exact ⟨rfl, ⟨_, (blk_put (blk_put (blk_put HX2.out 6 _ rfl) 3 _ rfl) 4 _ rfl), Kd.R_far (Kd.R_far (Kd.R_far HR2.out (fun _ h => h) _) (fun _ h => h) _) (fun _ h => h) _⟩, ((HK2.out.setCell (.inl rfl) _).setCell (.inl rfl) _).setCell (.inl rfl) _, ((HB2.out.setCell hg _).setCell hg _).setCell hg _⟩
      · rw [if_neg h3] at h
        simp only [Option.some.injEq, Prod.mk.injEq] at h
        obtain ⟨rfl, rfl, rfl, rfl⟩ := h
        have q3 := decide_eq_false h3
        clear h1 h2 h3
        go_enter Try.func26, Try.ntmps26
        go_wp2_with (go_at_call 50; refine (account_roll.within month 0 2399 _).mono ?_; rintro e w1 ⟨rfl, hb1⟩; rw [q1]; have HK1 := Aside0.mk (Kept.of_below hb1 (fun k => k = g)); have HX1 := Aside0.mk (blk_below HX.out hb1); have HR1 := Aside0.mk (Kd.R_below HR.out hb1); have HB1 := Aside0.mk (below_then HB.out HB.out.size hb1); obtain ⟨x0, x1, x2, x3, x4, x5, x6, x7, x8, x9, x10, x11⟩ := clerk.get HX1.out; clear hb1)
        go_ret
        exact ⟨rfl, ⟨_, HX1.out, HR1.out⟩, HK1.out, HB1.out⟩
  · rw [if_neg h1] at h
    simp only [Option.some.injEq, Prod.mk.injEq] at h
    obtain ⟨rfl, rfl, rfl, rfl⟩ := h
    have q1 : decide (0 ≤ month ∧ month ≤ 2399) = false := decide_eq_false h1
    clear h1
    go_enter Try.func26, Try.ntmps26
    go_wp2_with (go_at_call 50; refine (account_roll.within month 0 2399 _).mono ?_; rintro e w1 ⟨rfl, hb1⟩; rw [q1]; have HK1 := Aside0.mk (Kept.of_below hb1 (fun k => k = g)); have HX1 := Aside0.mk (blk_below HX.out hb1); have HR1 := Aside0.mk (Kd.R_below HR.out hb1); have HB1 := Aside0.mk (below_then HB.out HB.out.size hb1); clear hb1)
    go_ret
    exact ⟨rfl, ⟨_, HX1.out, HR1.out⟩, HK1.out, HB1.out⟩
set_option maxHeartbeats 8000000 in
set_option maxRecDepth 100000 in
theorem account_open.calls (k : Nat) (me rev nx mo bo fr : Int) (A6 : Option Addr) (c6 : Nat) (l : List S39) (At : Option Addr) (ct : Nat) (t : List S99) (a b c d : Int) (r : Int) (w : World) (hr0 : Kd.C k39 w A6 l.length l) (hc0 : l.length ≤ c6) (ht0 : Kd.C k99 w At t.length t) (hct : t.length ≤ ct) (h : account_open.f k me rev nx mo bo fr l t a b c d = some r) :
    Calls Try.prog 25 #[.agg #[.int .i64 me, .int .i64 rev, .int .i64 nx, .int .i64 mo, .int .i64 bo, .int .i64 fr, .slice A6 l.length c6], .agg #[.slice At t.length ct, .int .i64 a, .int .i64 b, .int .i64 c, .int .i64 d]] w fun e w' => ∃ v0, e = .returned (.tuple #[v0, .int .i64 r]) ∧ (r = 0 → ∃ g v1, v0 = .pointer (some ⟨g, 0, none⟩) ∧ w.heap.size ≤ g ∧ w'.heap[g]? = some (.cells (clerk.cells me rev nx mo bo fr v1 At t.length ct a b c d) 66 (0, 0)) ∧ Kd.R k39 39 w' w.heap.size (fun k => k ≠ g) v1 l) ∧ Below w.heap.size w w' := by
  have HR0 := Aside0.mk hr0
  have HC0 := Aside0.mk hc0
  have HT0 := Aside0.mk ht0
  have HCT := Aside0.mk hct
  have HB := Aside0.mk (Below.refl w.heap.size w)
  have hu60 := Try.underlying24
  have hu53 := Try.underlying27
  have hu128 := Try.underlying66
  clear hr0 hc0 ht0 hct
  unfold account_open.f at h
  obtain ⟨m, hm, h⟩ := Option.bind_eq_some_iff.mp h
  have HM := Aside0.mk hm
  clear hm
  by_cases h1 : m = true
  · rw [if_pos h1] at h
    subst h1
    obtain ⟨e0, he, h⟩ := Option.bind_eq_some_iff.mp h
    have HE := Aside0.mk he
    clear he
    by_cases h2 : e0 = 0
    · rw [if_pos h2] at h
      subst h2
      by_cases h3 : l.length < 8796093022208
      · rw [if_pos h3] at h
        obtain rfl := Option.some.inj h
        have HL := Aside0.mk h3
        clear h h3
        go_enter Try.func25, Try.ntmps25
        go_wp2_with (first | ((with_reducible refine gate_dst (N := 2) rfl ?_); refine box_event ?hg (N := 2) ?hd (cs := #[.int .i64 me, .int .i64 rev, .int .i64 nx, .int .i64 mo, .int .i64 bo, .int .i64 fr, .slice A6 l.length c6]) (t := 24) ?hr ?_; (case hd => rfl); (case hg => rfl); (case hr => first | (go_simp; done) | (go_simp; rfl)); intro g1 hgq w1 hbox hb; have HB_ := Aside0.mk (below_step HB.out hb); have G1 := Aside0.mk (by rw [hgq]; exact below_size HB.out : w.heap.size ≤ g1); have B1 := Aside0.mk hbox; clear HB ; have HB := HB_; clear HB_; clear hb hbox hgq) | ((with_reducible refine gate_dst (N := 3) rfl ?_); refine box_event ?hg (N := 3) ?hd (cs := #[.slice At t.length ct, .int .i64 a, .int .i64 b, .int .i64 c, .int .i64 d]) (t := 27) ?hr ?_; (case hd => rfl); (case hg => rfl); (case hr => first | (go_simp; done) | (go_simp; rfl)); intro g2 hgq w2 hbox hb; have B1_ := Aside0.mk (blk_below B1.out hb); have NB1g2 := Aside0.mk (by rw [hgq]; exact Nat.ne_of_lt (blk_lt B1.out) : g1 ≠ g2); have HB_ := Aside0.mk (below_step HB.out hb); have G2 := Aside0.mk (by rw [hgq]; exact below_size HB.out : w.heap.size ≤ g2); have B2 := Aside0.mk hbox; clear HB B1; have HB := HB_; clear HB_; have B1 := B1_; clear B1_; clear hb hbox hgq; have xg10 : w2.cell? ⟨g1, 0, none⟩ = some (.int .i64 me) := (blk_cell B1.out 0).trans rfl; have xg11 : w2.cell? ⟨g1, 1, none⟩ = some (.int .i64 rev) := (blk_cell B1.out 1).trans rfl; have xg12 : w2.cell? ⟨g1, 2, none⟩ = some (.int .i64 nx) := (blk_cell B1.out 2).trans rfl; have xg13 : w2.cell? ⟨g1, 3, none⟩ = some (.int .i64 mo) := (blk_cell B1.out 3).trans rfl; have xg14 : w2.cell? ⟨g1, 4, none⟩ = some (.int .i64 bo) := (blk_cell B1.out 4).trans rfl; have xg15 : w2.cell? ⟨g1, 5, none⟩ = some (.int .i64 fr) := (blk_cell B1.out 5).trans rfl; have xg16 : w2.cell? ⟨g1, 6, none⟩ = some (.slice A6 l.length c6) := (blk_cell B1.out 6).trans rfl; have xg20 : w2.cell? ⟨g2, 0, none⟩ = some (.slice At t.length ct) := (blk_cell B2.out 0).trans rfl; have xg21 : w2.cell? ⟨g2, 1, none⟩ = some (.int .i64 a) := (blk_cell B2.out 1).trans rfl; have xg22 : w2.cell? ⟨g2, 2, none⟩ = some (.int .i64 b) := (blk_cell B2.out 2).trans rfl; have xg23 : w2.cell? ⟨g2, 3, none⟩ = some (.int .i64 c) := (blk_cell B2.out 3).trans rfl; have xg24 : w2.cell? ⟨g2, 4, none⟩ = some (.int .i64 d) := (blk_cell B2.out 4).trans rfl; skip) | (go_at_call 48; refine (account_may.calls k me rev nx mo bo fr A6 c6 l true _ (Kd.C_below HR0.out HB.out) HC0.out HM.out).mono ?_; rintro e w3 ⟨rfl, hb1⟩; clear xg10 xg11 xg12 xg13 xg14 xg15 xg16; clear xg20 xg21 xg22 xg23 xg24; have B1_ := Aside0.mk (blk_below B1.out hb1); have B2_ := Aside0.mk (blk_below B2.out hb1); have HB_ := Aside0.mk (below_step HB.out hb1); clear HB B1 B2; have HB := HB_; clear HB_; have B1 := B1_; clear B1_; have B2 := B2_; clear B2_; have xg10 : w3.cell? ⟨g1, 0, none⟩ = some (.int .i64 me) := (blk_cell B1.out 0).trans rfl; have xg11 : w3.cell? ⟨g1, 1, none⟩ = some (.int .i64 rev) := (blk_cell B1.out 1).trans rfl; have xg12 : w3.cell? ⟨g1, 2, none⟩ = some (.int .i64 nx) := (blk_cell B1.out 2).trans rfl; have xg13 : w3.cell? ⟨g1, 3, none⟩ = some (.int .i64 mo) := (blk_cell B1.out 3).trans rfl; have xg14 : w3.cell? ⟨g1, 4, none⟩ = some (.int .i64 bo) := (blk_cell B1.out 4).trans rfl; have xg15 : w3.cell? ⟨g1, 5, none⟩ = some (.int .i64 fr) := (blk_cell B1.out 5).trans rfl; have xg16 : w3.cell? ⟨g1, 6, none⟩ = some (.slice A6 l.length c6) := (blk_cell B1.out 6).trans rfl; have xg20 : w3.cell? ⟨g2, 0, none⟩ = some (.slice At t.length ct) := (blk_cell B2.out 0).trans rfl; have xg21 : w3.cell? ⟨g2, 1, none⟩ = some (.int .i64 a) := (blk_cell B2.out 1).trans rfl; have xg22 : w3.cell? ⟨g2, 2, none⟩ = some (.int .i64 b) := (blk_cell B2.out 2).trans rfl; have xg23 : w3.cell? ⟨g2, 3, none⟩ = some (.int .i64 c) := (blk_cell B2.out 3).trans rfl; have xg24 : w3.cell? ⟨g2, 4, none⟩ = some (.int .i64 d) := (blk_cell B2.out 4).trans rfl; clear hb1) | (go_at_call 49; refine (account_Check.calls At ct t a b c d 0 _ (Kd.C_below HT0.out HB.out) HCT.out HE.out).mono ?_; rintro e w4 ⟨rfl, hb1⟩; have B1_ := Aside0.mk (blk_below B1.out hb1); have B2_ := Aside0.mk (blk_below B2.out hb1); have HB_ := Aside0.mk (below_step HB.out hb1); clear HB B1 B2; have HB := HB_; clear HB_; have B1 := B1_; clear B1_; have B2 := B2_; clear B2_; clear xg10 xg11 xg12 xg13 xg14 xg15 xg16; clear xg20 xg21 xg22 xg23 xg24; have xg10 : w4.cell? ⟨g1, 0, none⟩ = some (.int .i64 me) := (blk_cell B1.out 0).trans rfl; have xg11 : w4.cell? ⟨g1, 1, none⟩ = some (.int .i64 rev) := (blk_cell B1.out 1).trans rfl; have xg12 : w4.cell? ⟨g1, 2, none⟩ = some (.int .i64 nx) := (blk_cell B1.out 2).trans rfl; have xg13 : w4.cell? ⟨g1, 3, none⟩ = some (.int .i64 mo) := (blk_cell B1.out 3).trans rfl; have xg14 : w4.cell? ⟨g1, 4, none⟩ = some (.int .i64 bo) := (blk_cell B1.out 4).trans rfl; have xg15 : w4.cell? ⟨g1, 5, none⟩ = some (.int .i64 fr) := (blk_cell B1.out 5).trans rfl; have xg16 : w4.cell? ⟨g1, 6, none⟩ = some (.slice A6 l.length c6) := (blk_cell B1.out 6).trans rfl; have xg20 : w4.cell? ⟨g2, 0, none⟩ = some (.slice At t.length ct) := (blk_cell B2.out 0).trans rfl; have xg21 : w4.cell? ⟨g2, 1, none⟩ = some (.int .i64 a) := (blk_cell B2.out 1).trans rfl; have xg22 : w4.cell? ⟨g2, 2, none⟩ = some (.int .i64 b) := (blk_cell B2.out 2).trans rfl; have xg23 : w4.cell? ⟨g2, 3, none⟩ = some (.int .i64 c) := (blk_cell B2.out 3).trans rfl; have xg24 : w4.cell? ⟨g2, 4, none⟩ = some (.int .i64 d) := (blk_cell B2.out 4).trans rfl; have f6 := blk_frozen B1.out 6; clear hb1) | ((with_reducible refine gate_builtin (b := .append) (xs := #[.const (.slice none 0 0), .tmp 16]) rfl ?_); at_builtin; refine Kd.R_append_rows k39 (w0 := w) w.heap.size rfl (.const (.slice none 0 0)) (.tmp 16) 22 39 (.agg #[.int .i64 0, .int .i64 0]) 16 rfl Try.underlying22 info39 rfl (by decide) (by omega) (.slice none 0 0) ([] : List S39) l _ _ _ (fun _ => True) (fun _ => False) rfl rfl (Kd.R_nil _ _ _ _ _) (Kd.C_below HR0.out HB.out) (fun _ _ h => h) (fun _ h => h.elim) (fun _ _ => trivial) HB.out HB.out.size (by have := HL.out; simp; omega) ?_; intro v5 w5 ho hb hg5 hat; rw [List.nil_append] at ho; obtain ⟨A5, c5, he5⟩ := Kd.R_slice ho; subst he5; have HO5 := Aside0.mk ho; have B1_ := Aside0.mk (blk_grown B1.out hg5 (by simp [Value.ownBlock])); have B2_ := Aside0.mk (blk_grown B2.out hg5 (by simp [Value.ownBlock])); clear HB B1 B2; have HB := Aside0.mk hb; have B1 := B1_; have B2 := B2_; clear B1_ B2_; clear xg10 xg11 xg12 xg13 xg14 xg15 xg16; clear xg20 xg21 xg22 xg23 xg24; clear f6; have xg10 : w5.cell? ⟨g1, 0, none⟩ = some (.int .i64 me) := (blk_cell B1.out 0).trans rfl; have xg11 : w5.cell? ⟨g1, 1, none⟩ = some (.int .i64 rev) := (blk_cell B1.out 1).trans rfl; have xg12 : w5.cell? ⟨g1, 2, none⟩ = some (.int .i64 nx) := (blk_cell B1.out 2).trans rfl; have xg13 : w5.cell? ⟨g1, 3, none⟩ = some (.int .i64 mo) := (blk_cell B1.out 3).trans rfl; have xg14 : w5.cell? ⟨g1, 4, none⟩ = some (.int .i64 bo) := (blk_cell B1.out 4).trans rfl; have xg15 : w5.cell? ⟨g1, 5, none⟩ = some (.int .i64 fr) := (blk_cell B1.out 5).trans rfl; have xg16 : w5.cell? ⟨g1, 6, none⟩ = some (.slice A6 l.length c6) := (blk_cell B1.out 6).trans rfl; have xg20 : w5.cell? ⟨g2, 0, none⟩ = some (.slice At t.length ct) := (blk_cell B2.out 0).trans rfl; have xg21 : w5.cell? ⟨g2, 1, none⟩ = some (.int .i64 a) := (blk_cell B2.out 1).trans rfl; have xg22 : w5.cell? ⟨g2, 2, none⟩ = some (.int .i64 b) := (blk_cell B2.out 2).trans rfl; have xg23 : w5.cell? ⟨g2, 3, none⟩ = some (.int .i64 c) := (blk_cell B2.out 3).trans rfl; have xg24 : w5.cell? ⟨g2, 4, none⟩ = some (.int .i64 d) := (blk_cell B2.out 4).trans rfl;  have f6 := blk_frozen B1.out 6; have B1s := Aside0.mk (blk_put B1.out 6 (.slice A5 l.length c5) rfl); have B2s := Aside0.mk (blk_far B2.out (p := ⟨g1, 6, none⟩) (Ne.symm NB1g2.out) (.slice A5 l.length c5)); have yg10 : (w5.setCell ⟨g1, 6, none⟩ (.slice A5 l.length c5)).cell? ⟨g1, 0, none⟩ = some (.int .i64 me) := (blk_cell B1s.out 0).trans rfl; have yg11 : (w5.setCell ⟨g1, 6, none⟩ (.slice A5 l.length c5)).cell? ⟨g1, 1, none⟩ = some (.int .i64 rev) := (blk_cell B1s.out 1).trans rfl; have yg12 : (w5.setCell ⟨g1, 6, none⟩ (.slice A5 l.length c5)).cell? ⟨g1, 2, none⟩ = some (.int .i64 nx) := (blk_cell B1s.out 2).trans rfl; have yg13 : (w5.setCell ⟨g1, 6, none⟩ (.slice A5 l.length c5)).cell? ⟨g1, 3, none⟩ = some (.int .i64 mo) := (blk_cell B1s.out 3).trans rfl; have yg14 : (w5.setCell ⟨g1, 6, none⟩ (.slice A5 l.length c5)).cell? ⟨g1, 4, none⟩ = some (.int .i64 bo) := (blk_cell B1s.out 4).trans rfl; have yg15 : (w5.setCell ⟨g1, 6, none⟩ (.slice A5 l.length c5)).cell? ⟨g1, 5, none⟩ = some (.int .i64 fr) := (blk_cell B1s.out 5).trans rfl; have yg16 : (w5.setCell ⟨g1, 6, none⟩ (.slice A5 l.length c5)).cell? ⟨g1, 6, none⟩ = some (.slice A5 l.length c5) := (blk_cell B1s.out 6).trans rfl; have yg20 : (w5.setCell ⟨g1, 6, none⟩ (.slice A5 l.length c5)).cell? ⟨g2, 0, none⟩ = some (.slice At t.length ct) := (blk_cell B2s.out 0).trans rfl; have yg21 : (w5.setCell ⟨g1, 6, none⟩ (.slice A5 l.length c5)).cell? ⟨g2, 1, none⟩ = some (.int .i64 a) := (blk_cell B2s.out 1).trans rfl; have yg22 : (w5.setCell ⟨g1, 6, none⟩ (.slice A5 l.length c5)).cell? ⟨g2, 2, none⟩ = some (.int .i64 b) := (blk_cell B2s.out 2).trans rfl; have yg23 : (w5.setCell ⟨g1, 6, none⟩ (.slice A5 l.length c5)).cell? ⟨g2, 3, none⟩ = some (.int .i64 c) := (blk_cell B2s.out 3).trans rfl; have yg24 : (w5.setCell ⟨g1, 6, none⟩ (.slice A5 l.length c5)).cell? ⟨g2, 4, none⟩ = some (.int .i64 d) := (blk_cell B2s.out 4).trans rfl;  clear ho hb hg5 hat) | ((with_reducible refine gate_dst (N := 22) rfl ?_); refine box_event ?hg (N := 22) ?hd (cs := #[.int .i64 me, .int .i64 rev, .int .i64 nx, .int .i64 mo, .int .i64 bo, .int .i64 fr, .slice A5 l.length c5, .slice At t.length ct, .int .i64 a, .int .i64 b, .int .i64 c, .int .i64 d]) (t := 66) ?hr ?_; (case hd => rfl); (case hg => rfl); (case hr => first | (go_simp; done) | (go_simp; rfl)); intro g3 hgq w6 hbox hb; have G3 := Aside0.mk (by rw [hgq]; exact (below_set HB.out G1.out).size : w.heap.size ≤ g3); have B3 := Aside0.mk hbox; have HR5 := Aside0.mk (Kd.R_below (Kd.R_mono (Kd.R_bound (Kd.R_set HO5.out B1.out (by decide) 6 (.slice A5 l.length c5))) (fun k hk => (by have := hk.2.2.1; omega : k ≠ g3))) hb); have HB_ := Aside0.mk (below_step (below_set HB.out G1.out) hb); clear HB; have HB := HB_; clear HB_ hb hbox hgq))
        go_ret2
        exact ⟨_, rfl, fun _ => ⟨g3, _, rfl, G3.out, B3.out, HR5.out⟩, HB.out⟩
      · rw [if_neg h3] at h; cases h
    · rw [if_neg h2] at h
      obtain rfl := Option.some.inj h
      have q2 : (e0 != 0) = true := bne_iff_ne.mpr h2
      clear h
      go_enter Try.func25, Try.ntmps25
      go_wp2_with (first | ((with_reducible refine gate_dst (N := 2) rfl ?_); refine box_event ?hg (N := 2) ?hd (cs := #[.int .i64 me, .int .i64 rev, .int .i64 nx, .int .i64 mo, .int .i64 bo, .int .i64 fr, .slice A6 l.length c6]) (t := 24) ?hr ?_; (case hd => rfl); (case hg => rfl); (case hr => first | (go_simp; done) | (go_simp; rfl)); intro g1 hgq w1 hbox hb; have HB_ := Aside0.mk (below_step HB.out hb); have G1 := Aside0.mk (by rw [hgq]; exact below_size HB.out : w.heap.size ≤ g1); have B1 := Aside0.mk hbox; clear HB ; have HB := HB_; clear HB_; clear hb hbox hgq) | ((with_reducible refine gate_dst (N := 3) rfl ?_); refine box_event ?hg (N := 3) ?hd (cs := #[.slice At t.length ct, .int .i64 a, .int .i64 b, .int .i64 c, .int .i64 d]) (t := 27) ?hr ?_; (case hd => rfl); (case hg => rfl); (case hr => first | (go_simp; done) | (go_simp; rfl)); intro g2 hgq w2 hbox hb; have B1_ := Aside0.mk (blk_below B1.out hb); have NB1g2 := Aside0.mk (by rw [hgq]; exact Nat.ne_of_lt (blk_lt B1.out) : g1 ≠ g2); have HB_ := Aside0.mk (below_step HB.out hb); have G2 := Aside0.mk (by rw [hgq]; exact below_size HB.out : w.heap.size ≤ g2); have B2 := Aside0.mk hbox; clear HB B1; have HB := HB_; clear HB_; have B1 := B1_; clear B1_; clear hb hbox hgq; have xg10 : w2.cell? ⟨g1, 0, none⟩ = some (.int .i64 me) := (blk_cell B1.out 0).trans rfl; have xg11 : w2.cell? ⟨g1, 1, none⟩ = some (.int .i64 rev) := (blk_cell B1.out 1).trans rfl; have xg12 : w2.cell? ⟨g1, 2, none⟩ = some (.int .i64 nx) := (blk_cell B1.out 2).trans rfl; have xg13 : w2.cell? ⟨g1, 3, none⟩ = some (.int .i64 mo) := (blk_cell B1.out 3).trans rfl; have xg14 : w2.cell? ⟨g1, 4, none⟩ = some (.int .i64 bo) := (blk_cell B1.out 4).trans rfl; have xg15 : w2.cell? ⟨g1, 5, none⟩ = some (.int .i64 fr) := (blk_cell B1.out 5).trans rfl; have xg16 : w2.cell? ⟨g1, 6, none⟩ = some (.slice A6 l.length c6) := (blk_cell B1.out 6).trans rfl; have xg20 : w2.cell? ⟨g2, 0, none⟩ = some (.slice At t.length ct) := (blk_cell B2.out 0).trans rfl; have xg21 : w2.cell? ⟨g2, 1, none⟩ = some (.int .i64 a) := (blk_cell B2.out 1).trans rfl; have xg22 : w2.cell? ⟨g2, 2, none⟩ = some (.int .i64 b) := (blk_cell B2.out 2).trans rfl; have xg23 : w2.cell? ⟨g2, 3, none⟩ = some (.int .i64 c) := (blk_cell B2.out 3).trans rfl; have xg24 : w2.cell? ⟨g2, 4, none⟩ = some (.int .i64 d) := (blk_cell B2.out 4).trans rfl; skip) | (go_at_call 48; refine (account_may.calls k me rev nx mo bo fr A6 c6 l true _ (Kd.C_below HR0.out HB.out) HC0.out HM.out).mono ?_; rintro e w3 ⟨rfl, hb1⟩; clear xg10 xg11 xg12 xg13 xg14 xg15 xg16; clear xg20 xg21 xg22 xg23 xg24; have B1_ := Aside0.mk (blk_below B1.out hb1); have B2_ := Aside0.mk (blk_below B2.out hb1); have HB_ := Aside0.mk (below_step HB.out hb1); clear HB B1 B2; have HB := HB_; clear HB_; have B1 := B1_; clear B1_; have B2 := B2_; clear B2_; have xg10 : w3.cell? ⟨g1, 0, none⟩ = some (.int .i64 me) := (blk_cell B1.out 0).trans rfl; have xg11 : w3.cell? ⟨g1, 1, none⟩ = some (.int .i64 rev) := (blk_cell B1.out 1).trans rfl; have xg12 : w3.cell? ⟨g1, 2, none⟩ = some (.int .i64 nx) := (blk_cell B1.out 2).trans rfl; have xg13 : w3.cell? ⟨g1, 3, none⟩ = some (.int .i64 mo) := (blk_cell B1.out 3).trans rfl; have xg14 : w3.cell? ⟨g1, 4, none⟩ = some (.int .i64 bo) := (blk_cell B1.out 4).trans rfl; have xg15 : w3.cell? ⟨g1, 5, none⟩ = some (.int .i64 fr) := (blk_cell B1.out 5).trans rfl; have xg16 : w3.cell? ⟨g1, 6, none⟩ = some (.slice A6 l.length c6) := (blk_cell B1.out 6).trans rfl; have xg20 : w3.cell? ⟨g2, 0, none⟩ = some (.slice At t.length ct) := (blk_cell B2.out 0).trans rfl; have xg21 : w3.cell? ⟨g2, 1, none⟩ = some (.int .i64 a) := (blk_cell B2.out 1).trans rfl; have xg22 : w3.cell? ⟨g2, 2, none⟩ = some (.int .i64 b) := (blk_cell B2.out 2).trans rfl; have xg23 : w3.cell? ⟨g2, 3, none⟩ = some (.int .i64 c) := (blk_cell B2.out 3).trans rfl; have xg24 : w3.cell? ⟨g2, 4, none⟩ = some (.int .i64 d) := (blk_cell B2.out 4).trans rfl; clear hb1) | (go_at_call 49; refine (account_Check.calls At ct t a b c d e0 _ (Kd.C_below HT0.out HB.out) HCT.out HE.out).mono ?_; rintro e w4 ⟨rfl, hb1⟩; have B1_ := Aside0.mk (blk_below B1.out hb1); have B2_ := Aside0.mk (blk_below B2.out hb1); have HB_ := Aside0.mk (below_step HB.out hb1); clear HB B1 B2; have HB := HB_; clear HB_; have B1 := B1_; clear B1_; have B2 := B2_; clear B2_; clear xg10 xg11 xg12 xg13 xg14 xg15 xg16; clear xg20 xg21 xg22 xg23 xg24; have xg10 : w4.cell? ⟨g1, 0, none⟩ = some (.int .i64 me) := (blk_cell B1.out 0).trans rfl; have xg11 : w4.cell? ⟨g1, 1, none⟩ = some (.int .i64 rev) := (blk_cell B1.out 1).trans rfl; have xg12 : w4.cell? ⟨g1, 2, none⟩ = some (.int .i64 nx) := (blk_cell B1.out 2).trans rfl; have xg13 : w4.cell? ⟨g1, 3, none⟩ = some (.int .i64 mo) := (blk_cell B1.out 3).trans rfl; have xg14 : w4.cell? ⟨g1, 4, none⟩ = some (.int .i64 bo) := (blk_cell B1.out 4).trans rfl; have xg15 : w4.cell? ⟨g1, 5, none⟩ = some (.int .i64 fr) := (blk_cell B1.out 5).trans rfl; have xg16 : w4.cell? ⟨g1, 6, none⟩ = some (.slice A6 l.length c6) := (blk_cell B1.out 6).trans rfl; have xg20 : w4.cell? ⟨g2, 0, none⟩ = some (.slice At t.length ct) := (blk_cell B2.out 0).trans rfl; have xg21 : w4.cell? ⟨g2, 1, none⟩ = some (.int .i64 a) := (blk_cell B2.out 1).trans rfl; have xg22 : w4.cell? ⟨g2, 2, none⟩ = some (.int .i64 b) := (blk_cell B2.out 2).trans rfl; have xg23 : w4.cell? ⟨g2, 3, none⟩ = some (.int .i64 c) := (blk_cell B2.out 3).trans rfl; have xg24 : w4.cell? ⟨g2, 4, none⟩ = some (.int .i64 d) := (blk_cell B2.out 4).trans rfl; have f6 := blk_frozen B1.out 6; clear hb1))
      go_ret2
      exact ⟨_, rfl, fun h => absurd h h2, HB.out⟩
  · rw [if_neg h1] at h
    obtain rfl := Option.some.inj h
    replace h1 := Bool.eq_false_iff.mpr h1
    subst h1
    clear h
    go_enter Try.func25, Try.ntmps25
    go_wp2_with (first | ((with_reducible refine gate_dst (N := 2) rfl ?_); refine box_event ?hg (N := 2) ?hd (cs := #[.int .i64 me, .int .i64 rev, .int .i64 nx, .int .i64 mo, .int .i64 bo, .int .i64 fr, .slice A6 l.length c6]) (t := 24) ?hr ?_; (case hd => rfl); (case hg => rfl); (case hr => first | (go_simp; done) | (go_simp; rfl)); intro g1 hgq w1 hbox hb; have HB_ := Aside0.mk (below_step HB.out hb); have G1 := Aside0.mk (by rw [hgq]; exact below_size HB.out : w.heap.size ≤ g1); have B1 := Aside0.mk hbox; clear HB ; have HB := HB_; clear HB_; clear hb hbox hgq) | ((with_reducible refine gate_dst (N := 3) rfl ?_); refine box_event ?hg (N := 3) ?hd (cs := #[.slice At t.length ct, .int .i64 a, .int .i64 b, .int .i64 c, .int .i64 d]) (t := 27) ?hr ?_; (case hd => rfl); (case hg => rfl); (case hr => first | (go_simp; done) | (go_simp; rfl)); intro g2 hgq w2 hbox hb; have B1_ := Aside0.mk (blk_below B1.out hb); have NB1g2 := Aside0.mk (by rw [hgq]; exact Nat.ne_of_lt (blk_lt B1.out) : g1 ≠ g2); have HB_ := Aside0.mk (below_step HB.out hb); have G2 := Aside0.mk (by rw [hgq]; exact below_size HB.out : w.heap.size ≤ g2); have B2 := Aside0.mk hbox; clear HB B1; have HB := HB_; clear HB_; have B1 := B1_; clear B1_; clear hb hbox hgq; have xg10 : w2.cell? ⟨g1, 0, none⟩ = some (.int .i64 me) := (blk_cell B1.out 0).trans rfl; have xg11 : w2.cell? ⟨g1, 1, none⟩ = some (.int .i64 rev) := (blk_cell B1.out 1).trans rfl; have xg12 : w2.cell? ⟨g1, 2, none⟩ = some (.int .i64 nx) := (blk_cell B1.out 2).trans rfl; have xg13 : w2.cell? ⟨g1, 3, none⟩ = some (.int .i64 mo) := (blk_cell B1.out 3).trans rfl; have xg14 : w2.cell? ⟨g1, 4, none⟩ = some (.int .i64 bo) := (blk_cell B1.out 4).trans rfl; have xg15 : w2.cell? ⟨g1, 5, none⟩ = some (.int .i64 fr) := (blk_cell B1.out 5).trans rfl; have xg16 : w2.cell? ⟨g1, 6, none⟩ = some (.slice A6 l.length c6) := (blk_cell B1.out 6).trans rfl; have xg20 : w2.cell? ⟨g2, 0, none⟩ = some (.slice At t.length ct) := (blk_cell B2.out 0).trans rfl; have xg21 : w2.cell? ⟨g2, 1, none⟩ = some (.int .i64 a) := (blk_cell B2.out 1).trans rfl; have xg22 : w2.cell? ⟨g2, 2, none⟩ = some (.int .i64 b) := (blk_cell B2.out 2).trans rfl; have xg23 : w2.cell? ⟨g2, 3, none⟩ = some (.int .i64 c) := (blk_cell B2.out 3).trans rfl; have xg24 : w2.cell? ⟨g2, 4, none⟩ = some (.int .i64 d) := (blk_cell B2.out 4).trans rfl; skip) | (go_at_call 48; refine (account_may.calls k me rev nx mo bo fr A6 c6 l false _ (Kd.C_below HR0.out HB.out) HC0.out HM.out).mono ?_; rintro e w3 ⟨rfl, hb1⟩; clear xg10 xg11 xg12 xg13 xg14 xg15 xg16; clear xg20 xg21 xg22 xg23 xg24; have B1_ := Aside0.mk (blk_below B1.out hb1); have B2_ := Aside0.mk (blk_below B2.out hb1); have HB_ := Aside0.mk (below_step HB.out hb1); clear HB B1 B2; have HB := HB_; clear HB_; have B1 := B1_; clear B1_; have B2 := B2_; clear B2_; have xg10 : w3.cell? ⟨g1, 0, none⟩ = some (.int .i64 me) := (blk_cell B1.out 0).trans rfl; have xg11 : w3.cell? ⟨g1, 1, none⟩ = some (.int .i64 rev) := (blk_cell B1.out 1).trans rfl; have xg12 : w3.cell? ⟨g1, 2, none⟩ = some (.int .i64 nx) := (blk_cell B1.out 2).trans rfl; have xg13 : w3.cell? ⟨g1, 3, none⟩ = some (.int .i64 mo) := (blk_cell B1.out 3).trans rfl; have xg14 : w3.cell? ⟨g1, 4, none⟩ = some (.int .i64 bo) := (blk_cell B1.out 4).trans rfl; have xg15 : w3.cell? ⟨g1, 5, none⟩ = some (.int .i64 fr) := (blk_cell B1.out 5).trans rfl; have xg16 : w3.cell? ⟨g1, 6, none⟩ = some (.slice A6 l.length c6) := (blk_cell B1.out 6).trans rfl; have xg20 : w3.cell? ⟨g2, 0, none⟩ = some (.slice At t.length ct) := (blk_cell B2.out 0).trans rfl; have xg21 : w3.cell? ⟨g2, 1, none⟩ = some (.int .i64 a) := (blk_cell B2.out 1).trans rfl; have xg22 : w3.cell? ⟨g2, 2, none⟩ = some (.int .i64 b) := (blk_cell B2.out 2).trans rfl; have xg23 : w3.cell? ⟨g2, 3, none⟩ = some (.int .i64 c) := (blk_cell B2.out 3).trans rfl; have xg24 : w3.cell? ⟨g2, 4, none⟩ = some (.int .i64 d) := (blk_cell B2.out 4).trans rfl; clear hb1))
    go_ret2
    exact ⟨_, rfl, fun h => absurd h (by decide), HB.out⟩
theorem clerk.put7 {w : World} {g : Nat} {t : TypeId} {x0 x1 x2 x3 x4 x5 x6 v0 v1 v2 v3 v4 v5 v6 : Value} (h : w.heap[g]? = some (.cells #[x0, x1, x2, x3, x4, x5, x6] t (0, 0))) : (((((((w.setCell ⟨g, 0, none⟩ (v0)).setCell ⟨g, 1, none⟩ (v1)).setCell ⟨g, 2, none⟩ (v2)).setCell ⟨g, 3, none⟩ (v3)).setCell ⟨g, 4, none⟩ (v4)).setCell ⟨g, 5, none⟩ (v5)).setCell ⟨g, 6, none⟩ (v6)).heap[g]? = some (.cells #[v0, v1, v2, v3, v4, v5, v6] t (0, 0)) := by
  refine blk_put (cs := #[v0, v1, v2, v3, v4, v5, x6]) ?_ 6 _ rfl
  refine blk_put (cs := #[v0, v1, v2, v3, v4, x5, x6]) ?_ 5 _ rfl
  refine blk_put (cs := #[v0, v1, v2, v3, x4, x5, x6]) ?_ 4 _ rfl
  refine blk_put (cs := #[v0, v1, v2, x3, x4, x5, x6]) ?_ 3 _ rfl
  refine blk_put (cs := #[v0, v1, x2, x3, x4, x5, x6]) ?_ 2 _ rfl
  refine blk_put (cs := #[v0, x1, x2, x3, x4, x5, x6]) ?_ 1 _ rfl
  refine blk_put (cs := #[x0, x1, x2, x3, x4, x5, x6]) ?_ 0 _ rfl
  exact h
theorem clerk.far7 {w : World} {g h : Nat} {t : TypeId} {cs : Array Value} (v0 v1 v2 v3 v4 v5 v6 : Value) (hh : w.heap[h]? = some (.cells cs t (0, 0))) (hne : h ≠ g) : (((((((w.setCell ⟨g, 0, none⟩ (v0)).setCell ⟨g, 1, none⟩ (v1)).setCell ⟨g, 2, none⟩ (v2)).setCell ⟨g, 3, none⟩ (v3)).setCell ⟨g, 4, none⟩ (v4)).setCell ⟨g, 5, none⟩ (v5)).setCell ⟨g, 6, none⟩ (v6)).heap[h]? = some (.cells cs t (0, 0)) := (blk_far (blk_far (blk_far (blk_far (blk_far (blk_far (blk_far hh hne _) hne _) hne _) hne _) hne _) hne _) hne _)
theorem clerk.R7 {α : Type} {d : Kd α} {e base : Nat} {ok : Nat → Prop} {w : World} {v : Value} {xs : List α} {g : Nat} (v0 v1 v2 v3 v4 v5 v6 : Value) (h : d.R e w base ok v xs) (hok : ∀ k, ok k → k ≠ g) : d.R e (((((((w.setCell ⟨g, 0, none⟩ (v0)).setCell ⟨g, 1, none⟩ (v1)).setCell ⟨g, 2, none⟩ (v2)).setCell ⟨g, 3, none⟩ (v3)).setCell ⟨g, 4, none⟩ (v4)).setCell ⟨g, 5, none⟩ (v5)).setCell ⟨g, 6, none⟩ (v6)) base ok v xs := (Kd.R_far (Kd.R_far (Kd.R_far (Kd.R_far (Kd.R_far (Kd.R_far (Kd.R_far h hok _) hok _) hok _) hok _) hok _) hok _) hok _)
theorem clerk.below7 {w W : World} {g : Nat} (v0 v1 v2 v3 v4 v5 v6 : Value) (h : Below w.heap.size w W) (hg : w.heap.size ≤ g) : Below w.heap.size w (((((((W.setCell ⟨g, 0, none⟩ (v0)).setCell ⟨g, 1, none⟩ (v1)).setCell ⟨g, 2, none⟩ (v2)).setCell ⟨g, 3, none⟩ (v3)).setCell ⟨g, 4, none⟩ (v4)).setCell ⟨g, 5, none⟩ (v5)).setCell ⟨g, 6, none⟩ (v6)) := (below_set (below_set (below_set (below_set (below_set (below_set (below_set h hg) hg) hg) hg) hg) hg) hg)
theorem clerk.one {W : World} {g : Nat} {x y : Int} (h : W.heap[g]? = some (.cells #[.int .i64 x, .int .i64 y] 99 (0, 0))) : Kd.C k99 W (some ⟨g, 0, none⟩) [(⟨x, y⟩ : S99)].length [⟨x, y⟩] := by
  refine ⟨rfl, by simp, fun _ => ⟨_, rfl, fun j p hj => ?_⟩⟩
  match j with
  | 0 =>
    obtain rfl := Option.some.inj hj
    refine ⟨[.int .i64 x, .int .i64 y], rfl, k99_mk _ ⟨x, y⟩, fun i u hu => ?_⟩
    match i with
    | 0 => obtain rfl := Option.some.inj hu; exact (blk_cell h 0).trans rfl
    | 1 => obtain rfl := Option.some.inj hu; exact (blk_cell h 1).trans rfl
    | i + 2 => simp at hu
  | j + 1 => simp at hj

/-! ### account_csell: the clerk's sell -/
def account_csell.no (e : Int) : List S39 × Int × Int × Int × Int × Int × Int × Int × Int × Int × Int := ([], 0, 0, 0, 0, 0, 0, 0, 0, 0, e)
def account_csell.f (k : Nat) (nx bo : Int) (l : List S39) (t : List S99) (a b c tender : Int) : Option (List S39 × Int × Int × Int × Int × Int × Int × Int × Int × Int × Int) :=
  if 1 ≤ tender ∧ tender ≤ 100000000 then (debt_Recover.f k l tender c).bind fun p => (cents_Part.f tender b).bind fun q => if wrap64 (wrap64 (tender - p.2.1) - wrap64 (a + q.1)) ≥ 0 then (tariff_Most.f t bo (wrap64 (wrap64 (tender - p.2.1) - wrap64 (a + q.1)))).bind fun m => if m.1 = 0 then some (account_csell.no 19) else if nx > 1048575 then some (account_csell.no 20) else some (p.1, wrap64 (bo + m.1), wrap64 (nx + 1), nx, tender, p.2.1, wrap64 (a + q.1), m.2.1, wrap64 (wrap64 (wrap64 (tender - p.2.1) - wrap64 (a + q.1)) - m.2.1), m.1, 0) else some (account_csell.no 19) else some (account_csell.no 19)
theorem account_csell.mono : ∀ nx bo l t a b c tender k, LeO (account_csell.f k nx bo l t a b c tender) (account_csell.f (k + 1) nx bo l t a b c tender) := by
  intro nx bo l t a b c tender k
  unfold account_csell.f
  exact LeO.ite (LeO.bind (debt_Recover.mono _ _ _ _) (fun _ => LeO.refl _)) (LeO.refl _)
set_option maxHeartbeats 16000000 in
set_option maxRecDepth 100000 in
theorem account_csell.calls (k g : Nat) (me rev nx mo bo fr : Int) (vd : Value) (l : List S39) (At : Option Addr) (ct : Nat) (t : List S99) (a b c d tender : Int) (r1 : List S39) (r2 r3 r4 r5 r6 r7 r8 r9 r10 r11 : Int) (w wi : World) (hg : w.heap.size ≤ g) (hb : Below w.heap.size w wi) (hbox : wi.heap[g]? = some (.cells (clerk.cells me rev nx mo bo fr vd At t.length ct a b c d) 66 (0, 0))) (hR : Kd.R k39 39 wi w.heap.size (fun k => k ≠ g) vd l) (ht0 : Kd.C k99 w At t.length t) (hct : t.length ≤ ct) (h : account_csell.f k nx bo l t a b c tender = some (r1, r2, r3, r4, r5, r6, r7, r8, r9, r10, r11)) :
    Calls Try.prog 27 #[.pointer (some ⟨g, 0, none⟩), .int .i64 tender] wi fun e w' => e = .returned (.tuple #[.agg #[.int .i64 r4, .int .i64 r5, .int .i64 r6, .int .i64 r7, .int .i64 r8, .int .i64 r9, .int .i64 r10], .int .i64 r11]) ∧ (r11 = 0 → ∃ v1, w'.heap[g]? = some (.cells (clerk.cells me rev r3 mo r2 fr v1 At t.length ct a b c d) 66 (0, 0)) ∧ Kd.R k39 39 w' w.heap.size (fun k => k ≠ g) v1 r1) ∧ Kept wi w' (fun k => k = g) ∧ Below w.heap.size w w' := by
  obtain ⟨A6, c6, rfl⟩ := Kd.R_slice hR
  have HK := Aside0.mk (Kept.refl wi (fun k => k = g))
  have HB := Aside0.mk hb
  have Bg := Aside0.mk hbox
  have Gg := Aside0.mk hg
  have RD := Aside0.mk (Kd.R_mono (ok' := fun k => (True) ∧ k ≠ g) hR (fun _ h => ⟨trivial, h⟩))
  have HT0 := Aside0.mk ht0
  have HCT := Aside0.mk hct
  have hu24 := Try.underlying24
  have hu27 := Try.underlying27
  have hu31 := Try.underlying31
  have hu66 := Try.underlying66
  have xg2 := (blk_cell hbox 2).trans rfl
  clear hb hbox hR hg ht0 hct
  unfold account_csell.f at h
  by_cases h1 : 1 ≤ tender ∧ tender ≤ 100000000
  case neg =>
    rw [if_neg h1] at h
    simp only [account_csell.no, Option.some.injEq, Prod.mk.injEq] at h
    obtain ⟨rfl, rfl, rfl, rfl, rfl, rfl, rfl, rfl, rfl, rfl, rfl⟩ := h
    have q1 : decide (1 ≤ tender ∧ tender ≤ 100000000) = false := decide_eq_false h1
    clear h1 xg2
    go_enter Try.func27, Try.ntmps27
    go_wp2_with (first | ((with_reducible refine gate_dst (N := 4) rfl ?_); refine box_event ?hg (N := 4) ?hd (cs := #[.int .i64 0, .int .i64 0, .int .i64 0, .int .i64 0, .int .i64 0, .int .i64 0, .int .i64 0]) (t := 31) ?hr ?_; (case hd => rfl); (case hg => rfl); (case hr => first | (go_simp; done) | (go_simp; rfl)); intro gr hgq W1 hbox hb; have Nggr := Aside0.mk (by rw [hgq]; exact Nat.ne_of_lt (blk_lt Bg.out) : g ≠ gr); have Ggr := Aside0.mk (by rw [hgq]; exact below_size HB.out : w.heap.size ≤ gr); have Kgr := Aside0.mk (by rw [hgq]; exact HK.out.1 : wi.heap.size ≤ gr); replace RD := Aside0.mk (Kd.R_below (Kd.R_mono (Kd.R_bound (ok := fun k => (True) ∧ k ≠ g) RD.out) (fun k hk => (⟨hk.1, by have := hk.2.2.1; omega⟩ : ((True) ∧ k ≠ g) ∧ k ≠ gr))) hb); replace Bg := Aside0.mk (blk_below Bg.out hb); replace HK := Aside0.mk (HK.out.below hb); replace HB := Aside0.mk (below_step HB.out hb); have Bgr := Aside0.mk hbox; clear hb hbox hgq; have xg2 : W1.cell? ⟨g, 2, none⟩ = some (.int .i64 nx) := (blk_cell Bg.out 2).trans rfl; skip) | (go_at_call 50; refine (account_roll.within tender 1 100000000 _).mono ?_; rintro e wa ⟨rfl, hb1⟩; rw [q1]; clear xg2; replace RD := Aside0.mk (Kd.R_below RD.out hb1); replace Bg := Aside0.mk (blk_below Bg.out hb1); replace Bgr := Aside0.mk (blk_below Bgr.out hb1); replace HK := Aside0.mk (HK.out.below hb1); replace HB := Aside0.mk (below_step HB.out hb1); have xg2 : wa.cell? ⟨g, 2, none⟩ = some (.int .i64 nx) := (blk_cell Bg.out 2).trans rfl; clear hb1) | ((with_reducible refine gate_store (t := 31) (p := 4) rfl ?_); refine seg.list rfl rfl 31 (.tmp 4) _ rfl 31 gr 0 #[.int .i64 0, .int .i64 0, .int .i64 0, .int .i64 0, .int .i64 0, .int .i64 0, .int .i64 0] #[.int .i64 0, .int .i64 0, .int .i64 0, .int .i64 0, .int .i64 0, .int .i64 0, .int .i64 0] [.int .i64 0, .int .i64 0, .int .i64 0, .int .i64 0, .int .i64 0, .int .i64 0, .int .i64 0] rfl rfl (by kernel_rfl) (by simp [Value.oneCell']) Bgr.out (by simp) rfl ?_; intro W2 bx hgr; clear xg2; replace RD := Aside0.mk (seg.R (ok := fun k => ((True) ∧ k ≠ g) ∧ k ≠ gr) RD.out hgr (fun k hk => hk.2)); replace Bg := Aside0.mk (seg.far Bg.out hgr Nggr.out); replace HK := Aside0.mk (Kept.of_grown hgr HK.out (fun k e => .inr (Option.some.inj e ▸ Kgr.out))); replace HB := Aside0.mk (seg.below HB.out hgr Ggr.out); replace Bgr := Aside0.mk bx; clear bx hgr; skip))
    refine bodyPost_ret (results_list (rs := [.cell 4 31, .tmp 5]) rfl (by simp) (.cell gr 31 #[.int .i64 0, .int .i64 0, .int .i64 0, .int .i64 0, .int .i64 0, .int .i64 0, .int .i64 0] (0, 0) _ rfl Bgr.out Try.underlying31 rfl (by kernel_rfl) (.tmp .nil))) rfl ?_
    exact ⟨rfl, fun h0 => absurd h0 (by decide), HK.out, HB.out⟩
  case pos =>
    rw [if_pos h1] at h
    have q1 : decide (1 ≤ tender ∧ tender ≤ 100000000) = true := decide_eq_true h1
    obtain ⟨⟨l1, paid, e1⟩, hp, h⟩ := Option.bind_eq_some_iff.mp h
    obtain ⟨⟨sh, e2⟩, hq, h⟩ := Option.bind_eq_some_iff.mp h
    have HP := Aside0.mk hp
    have HQ := Aside0.mk hq
    have H' := Aside0.mk h
    clear h1 hp hq h
    go_enter Try.func27, Try.ntmps27
    go_upto_region 4 with (first | ((with_reducible refine gate_dst (N := 4) rfl ?_); refine box_event ?hg (N := 4) ?hd (cs := #[.int .i64 0, .int .i64 0, .int .i64 0, .int .i64 0, .int .i64 0, .int .i64 0, .int .i64 0]) (t := 31) ?hr ?_; (case hd => rfl); (case hg => rfl); (case hr => first | (go_simp; done) | (go_simp; rfl)); intro gr hgq W1 hbox hb; have Nggr := Aside0.mk (by rw [hgq]; exact Nat.ne_of_lt (blk_lt Bg.out) : g ≠ gr); have Ggr := Aside0.mk (by rw [hgq]; exact below_size HB.out : w.heap.size ≤ gr); have Kgr := Aside0.mk (by rw [hgq]; exact HK.out.1 : wi.heap.size ≤ gr); replace RD := Aside0.mk (Kd.R_below (Kd.R_mono (Kd.R_bound (ok := fun k => (True) ∧ k ≠ g) RD.out) (fun k hk => (⟨hk.1, by have := hk.2.2.1; omega⟩ : ((True) ∧ k ≠ g) ∧ k ≠ gr))) hb); replace Bg := Aside0.mk (blk_below Bg.out hb); replace HK := Aside0.mk (HK.out.below hb); replace HB := Aside0.mk (below_step HB.out hb); have Bgr := Aside0.mk hbox; clear hb hbox hgq; have xg2 : W1.cell? ⟨g, 2, none⟩ = some (.int .i64 nx) := (blk_cell Bg.out 2).trans rfl; skip) | (go_at_call 50; refine (account_roll.within tender 1 100000000 _).mono ?_; rintro e wa ⟨rfl, hb1⟩; rw [q1]; clear xg2; replace RD := Aside0.mk (Kd.R_below RD.out hb1); replace Bg := Aside0.mk (blk_below Bg.out hb1); replace Bgr := Aside0.mk (blk_below Bgr.out hb1); replace HK := Aside0.mk (HK.out.below hb1); replace HB := Aside0.mk (below_step HB.out hb1); have xg2 : wa.cell? ⟨g, 2, none⟩ = some (.int .i64 nx) := (blk_cell Bg.out 2).trans rfl; clear hb1) | ((with_reducible refine gate_dst (N := 6) rfl ?_); refine box_event ?hg (N := 6) ?hd (cs := #[.int .i64 0, .int .i64 0, .int .i64 0, .int .i64 0, .int .i64 0, .int .i64 0, .int .i64 0]) (t := 31) ?hr ?_; (case hd => rfl); (case hg => rfl); (case hr => first | (go_simp; done) | (go_simp; rfl)); intro gb hgq W2 hbox hb; clear xg2; have Nggb := Aside0.mk (by rw [hgq]; exact Nat.ne_of_lt (blk_lt Bg.out) : g ≠ gb); have Ngrgb := Aside0.mk (by rw [hgq]; exact Nat.ne_of_lt (blk_lt Bgr.out) : gr ≠ gb); have Ggb := Aside0.mk (by rw [hgq]; exact below_size HB.out : w.heap.size ≤ gb); have Kgb := Aside0.mk (by rw [hgq]; exact HK.out.1 : wi.heap.size ≤ gb); replace RD := Aside0.mk (Kd.R_below (Kd.R_mono (Kd.R_bound (ok := fun k => ((True) ∧ k ≠ g) ∧ k ≠ gr) RD.out) (fun k hk => (⟨hk.1, by have := hk.2.2.1; omega⟩ : (((True) ∧ k ≠ g) ∧ k ≠ gr) ∧ k ≠ gb))) hb); replace Bg := Aside0.mk (blk_below Bg.out hb); replace Bgr := Aside0.mk (blk_below Bgr.out hb); replace HK := Aside0.mk (HK.out.below hb); replace HB := Aside0.mk (below_step HB.out hb); have Bgb := Aside0.mk hbox; clear hb hbox hgq; have xg2 : W2.cell? ⟨g, 2, none⟩ = some (.int .i64 nx) := (blk_cell Bg.out 2).trans rfl; skip) | ((with_reducible refine gate_store (t := 31) (p := 6) rfl ?_); refine seg.list rfl rfl 31 (.tmp 6) _ rfl 31 gb 0 #[.int .i64 0, .int .i64 0, .int .i64 0, .int .i64 0, .int .i64 0, .int .i64 0, .int .i64 0] #[.int .i64 nx, .int .i64 tender, .int .i64 0, .int .i64 0, .int .i64 0, .int .i64 0, .int .i64 0] [.int .i64 nx, .int .i64 tender, .int .i64 0, .int .i64 0, .int .i64 0, .int .i64 0, .int .i64 0] rfl rfl (by kernel_rfl) (by simp [Value.oneCell']) Bgb.out (by simp) rfl ?_; intro W3 bx hgr; clear xg2; replace RD := Aside0.mk (seg.R (ok := fun k => (((True) ∧ k ≠ g) ∧ k ≠ gr) ∧ k ≠ gb) RD.out hgr (fun k hk => hk.2)); replace Bg := Aside0.mk (seg.far Bg.out hgr Nggb.out); replace Bgr := Aside0.mk (seg.far Bgr.out hgr Ngrgb.out); replace HK := Aside0.mk (Kept.of_grown hgr HK.out (fun k e => .inr (Option.some.inj e ▸ Kgb.out))); replace HB := Aside0.mk (seg.below HB.out hgr Ggb.out); replace Bgb := Aside0.mk bx; clear bx hgr; have xg6 : W3.cell? ⟨g, 6, none⟩ = some (.slice A6 l.length c6) := (blk_cell Bg.out 6).trans rfl; have xg10 : W3.cell? ⟨g, 10, none⟩ = some (.int .i64 c) := (blk_cell Bg.out 10).trans rfl; skip))
    refine start_ (n := 23) (S := fun w' => w'.cell? ⟨g, 6, none⟩ = some (.slice A6 l.length c6) ∧ w'.cell? ⟨g, 10, none⟩ = some (.int .i64 c)) (ds := [20, 22]) #[false, false, false, false, false, false, false, false, false, false, false, false, false, false, false, false, false, false, false, false, false, false, false] (by kernel_rfl) rfl rfl ⟨xg6, xg10⟩ (fun hHeld => ?_)
    refine pp 0 22 ?_
    refine pp 1 23 ?_
    refine pp 2 24 ?_
    refine pp 3 25 ?_
    refine pp 4 26 ?_
    refine pp 6 28 ?_
    refine pp 7 29 ?_
    refine pp 8 30 ?_
    refine pp 9 31 ?_
    refine pp 10 32 ?_
    refine tk 5 27 ?_
    refine tk 11 33 ?_
    refine one_ (i := 12) (N := some 34) #[true, true, true, true, true, true, true, true, true, true, true, true, true, false, false, false, false, false, false, false, false, false, false] rfl rfl (by kernel_rfl) (by decide) (fun K hK => ?_)
    refine goes_ Try.func52 (by kernel_rfl) rfl #[.slice A6 l.length c6, .int .i64 tender, .int .i64 c] (by rfl) rfl rfl (by (try simp only [List.map_toArray, List.map_cons, List.map_nil]); first | done | rfl) ?_
    with_reducible refine (debt_Recover.calls k A6 c6 l tender c l1 paid e1 _ (Kd.R_reads' (Kd.R_drew RD.out)).2.2 (Kd.R_reads' RD.out).2.1 HP.out).mono ?_
    rintro e wb ⟨v2, rfl, hr2, hb2⟩
    refine ⟨_, rfl, ?_⟩
    obtain ⟨A7, c7, rfl⟩ := Kd.R_slice hr2
    have RQ_ := Aside0.mk (Kd.R_lower hr2 (below_size (below_drew1 HB.out)))
    clear xg6 xg10
    replace Bg := Aside0.mk (blk_below (blk_drew Bg.out) hb2)
    replace Bgr := Aside0.mk (blk_below (blk_drew Bgr.out) hb2)
    replace Bgb := Aside0.mk (blk_below (blk_drew Bgb.out) hb2)
    replace HK := Aside0.mk ((HK.out.drew).below hb2)
    replace HB := Aside0.mk (below_step (below_drew1 HB.out) hb2)
    have xg6 : wb.cell? ⟨g, 6, none⟩ = some (.slice A6 l.length c6) := (blk_cell Bg.out 6).trans rfl
    have xg10 : wb.cell? ⟨g, 10, none⟩ = some (.int .i64 c) := (blk_cell Bg.out 10).trans rfl
    have RE := Aside0.mk (Kd.R_types (Kd.R_types (Kd.R_types RQ_.out Bg.out (by decide)) Bgr.out (by decide)) Bgb.out (by decide))
    clear RQ_ hr2 hb2
    refine hK.out _ _ ⟨xg6, xg10⟩ (fun hHeld => ?_)
    clear hK K
    refine norm_ (a' := ?_) ?_ ?_
    rotate_left
    · show Act.put _ (some 34) _ = _
      simp only [Act.put, List.setIfInBounds_toArray, List.set_cons_zero, List.set_cons_succ, i64_w, i32_w]
      rfl
    refine pp 13 21 ?_
    refine pp 14 35 ?_
    refine pp 15 36 ?_
    refine pp 16 37 ?_
    refine pp 17 38 ?_
    refine pp 18 39 ?_
    refine pp 19 40 ?_
    refine last_ (i := 20) (N := none) #[true, true, true, true, true, true, true, true, true, true, true, true, true, true, true, true, true, true, true, true, true, false, false] rfl rfl (by kernel_rfl) (by decide) (fun K hK => ?_)
    refine seg.step (by rfl) rfl 22 (.tmp 40) _ (by rfl) 66 g 6 #[.int .i64 me, .int .i64 rev, .int .i64 nx, .int .i64 mo, .int .i64 bo, .int .i64 fr, .slice A6 l.length c6, .slice At t.length ct, .int .i64 a, .int .i64 b, .int .i64 c, .int .i64 d] #[.int .i64 me, .int .i64 rev, .int .i64 nx, .int .i64 mo, .int .i64 bo, .int .i64 fr, .slice A7 l1.length c7, .slice At t.length ct, .int .i64 a, .int .i64 b, .int .i64 c, .int .i64 d] [.slice A7 l1.length c7] (by rfl) (by rfl) (by kernel_rfl) (by simp [Value.oneCell']) Bg.out (by simp) rfl ?_
    intro W4 bx hgr
    clear xg6 xg10
    replace RE := Aside0.mk (seg.R (ok := fun k => (((True) ∧ k ≠ g) ∧ k ≠ gr) ∧ k ≠ gb) RE.out hgr (fun k hk => hk.1.1.2))
    replace Bgr := Aside0.mk (seg.far Bgr.out hgr (Ne.symm Nggr.out))
    replace Bgb := Aside0.mk (seg.far Bgb.out hgr (Ne.symm Nggb.out))
    replace HK := Aside0.mk (Kept.of_grown hgr HK.out (fun k e => .inl (Option.some.inj e).symm))
    replace HB := Aside0.mk (seg.below HB.out hgr Gg.out)
    replace Bg := Aside0.mk bx
    clear bx hgr
    refine hK.out _ _ ?_
    clear hK K
    refine pp 21 41 ?_
    refine last_ (i := 22) (N := none) #[true, true, true, true, true, true, true, true, true, true, true, true, true, true, true, true, true, true, true, true, true, true, true] rfl rfl (by kernel_rfl) (by decide) (fun K hK => ?_)
    refine seg.step (by rfl) rfl 3 (.tmp 41) _ (by rfl) 31 gb 2 #[.int .i64 nx, .int .i64 tender, .int .i64 0, .int .i64 0, .int .i64 0, .int .i64 0, .int .i64 0] #[.int .i64 nx, .int .i64 tender, .int .i64 paid, .int .i64 0, .int .i64 0, .int .i64 0, .int .i64 0] [.int .i64 paid] (by rfl) (by rfl) (by kernel_rfl) (by simp [Value.oneCell']) Bgb.out (by simp) rfl ?_
    intro W5 bx hgr
    replace RE := Aside0.mk (seg.R (ok := fun k => (((True) ∧ k ≠ g) ∧ k ≠ gr) ∧ k ≠ gb) RE.out hgr (fun k hk => hk.2))
    replace Bg := Aside0.mk (seg.far Bg.out hgr Nggb.out)
    replace Bgr := Aside0.mk (seg.far Bgr.out hgr Ngrgb.out)
    replace HK := Aside0.mk (Kept.of_grown hgr HK.out (fun k e => .inr (Option.some.inj e ▸ Kgb.out)))
    replace HB := Aside0.mk (seg.below HB.out hgr Ggb.out)
    replace Bgb := Aside0.mk bx
    clear bx hgr
    have xg8 : W5.cell? ⟨g, 8, none⟩ = some (.int .i64 a) := (blk_cell Bg.out 8).trans rfl
    have xg9 : W5.cell? ⟨g, 9, none⟩ = some (.int .i64 b) := (blk_cell Bg.out 9).trans rfl
    have xgb2 : W5.cell? ⟨gb, 2, none⟩ = some (.int .i64 paid) := (blk_cell Bgb.out 2).trans rfl
    refine hK.out _ _ ?_
    clear hK K
    refine done_ (by kernel_rfl) ?_
    go_upto_region 8 with (first | (go_at_call 53; refine (cents_Part.calls tender b sh e2 _ HQ.out).mono ?_; rintro e wc ⟨rfl, hdr⟩; have hb1 := below_drawn hdr; clear xg8 xg9 xgb2; replace RE := Aside0.mk (Kd.R_below RE.out hb1); replace Bg := Aside0.mk (blk_below Bg.out hb1); replace Bgr := Aside0.mk (blk_below Bgr.out hb1); replace Bgb := Aside0.mk (blk_below Bgb.out hb1); replace HK := Aside0.mk (HK.out.below hb1); replace HB := Aside0.mk (below_step HB.out hb1); have xg8 : wc.cell? ⟨g, 8, none⟩ = some (.int .i64 a) := (blk_cell Bg.out 8).trans rfl; have xg9 : wc.cell? ⟨g, 9, none⟩ = some (.int .i64 b) := (blk_cell Bg.out 9).trans rfl; have xgb2 : wc.cell? ⟨gb, 2, none⟩ = some (.int .i64 paid) := (blk_cell Bgb.out 2).trans rfl; clear hb1 hdr) | ((with_reducible refine gate_store (t := 3) (p := 59) rfl ?_); refine seg.list rfl rfl 3 (.tmp 59) _ rfl 31 gb 3 #[.int .i64 nx, .int .i64 tender, .int .i64 paid, .int .i64 0, .int .i64 0, .int .i64 0, .int .i64 0] #[.int .i64 nx, .int .i64 tender, .int .i64 paid, .int .i64 (wrap64 (a + sh)), .int .i64 0, .int .i64 0, .int .i64 0] [.int .i64 (wrap64 (a + sh))] rfl rfl (by kernel_rfl) (by simp [Value.oneCell']) Bgb.out (by simp) rfl ?_; intro W6 bx hgr; clear xg8 xg9 xgb2; replace RE := Aside0.mk (seg.R (ok := fun k => (((True) ∧ k ≠ g) ∧ k ≠ gr) ∧ k ≠ gb) RE.out hgr (fun k hk => hk.2)); replace Bg := Aside0.mk (seg.far Bg.out hgr Nggb.out); replace Bgr := Aside0.mk (seg.far Bgr.out hgr Ngrgb.out); replace HK := Aside0.mk (Kept.of_grown hgr HK.out (fun k e => .inr (Option.some.inj e ▸ Kgb.out))); replace HB := Aside0.mk (seg.below HB.out hgr Ggb.out); replace Bgb := Aside0.mk bx; clear bx hgr; have xg4 : W6.cell? ⟨g, 4, none⟩ = some (.int .i64 bo) := (blk_cell Bg.out 4).trans rfl; have xg7 : W6.cell? ⟨g, 7, none⟩ = some (.slice At t.length ct) := (blk_cell Bg.out 7).trans rfl; have xgb2 : W6.cell? ⟨gb, 2, none⟩ = some (.int .i64 paid) := (blk_cell Bgb.out 2).trans rfl; have xgb3 : W6.cell? ⟨gb, 3, none⟩ = some (.int .i64 (wrap64 (a + sh))) := (blk_cell Bgb.out 3).trans rfl; skip))
    have h := H'.out
    clear H'
    by_cases h2 : wrap64 (wrap64 (tender - paid) - wrap64 (a + sh)) ≥ 0
    case neg =>
      rw [if_neg h2] at h
      simp only [account_csell.no, Option.some.injEq, Prod.mk.injEq] at h
      obtain ⟨rfl, rfl, rfl, rfl, rfl, rfl, rfl, rfl, rfl, rfl, rfl⟩ := h
      have q2 : decide (wrap64 (wrap64 (tender - paid) - wrap64 (a + sh)) ≥ 0) = false := decide_eq_false h2
      have q2b : decide (0 ≤ wrap64 (wrap64 (tender - paid) - wrap64 (a + sh))) = false := decide_eq_false h2
      clear h2
      clear xg4 xg7 xgb2 xgb3
      have xgb6 : W6.cell? ⟨gb, 6, none⟩ = some (.int .i64 0) := (blk_cell Bgb.out 6).trans rfl
      go_wp2_with (first | ((with_reducible refine gate_store (t := 31) (p := 4) rfl ?_); refine seg.list rfl rfl 31 (.tmp 4) _ rfl 31 gr 0 #[.int .i64 0, .int .i64 0, .int .i64 0, .int .i64 0, .int .i64 0, .int .i64 0, .int .i64 0] #[.int .i64 0, .int .i64 0, .int .i64 0, .int .i64 0, .int .i64 0, .int .i64 0, .int .i64 0] [.int .i64 0, .int .i64 0, .int .i64 0, .int .i64 0, .int .i64 0, .int .i64 0, .int .i64 0] rfl rfl (by kernel_rfl) (by simp [Value.oneCell']) Bgr.out (by simp) rfl ?_; intro W7 bx hgr; clear xgb6; replace RE := Aside0.mk (seg.R (ok := fun k => (((True) ∧ k ≠ g) ∧ k ≠ gr) ∧ k ≠ gb) RE.out hgr (fun k hk => hk.1.2)); replace Bg := Aside0.mk (seg.far Bg.out hgr Nggr.out); replace Bgb := Aside0.mk (seg.far Bgb.out hgr (Ne.symm Ngrgb.out)); replace HK := Aside0.mk (Kept.of_grown hgr HK.out (fun k e => .inr (Option.some.inj e ▸ Kgr.out))); replace HB := Aside0.mk (seg.below HB.out hgr Ggr.out); replace Bgr := Aside0.mk bx; clear bx hgr; skip))
      refine bodyPost_ret (results_list (rs := [.cell 4 31, .tmp 5]) rfl (by simp) (.cell gr 31 #[.int .i64 0, .int .i64 0, .int .i64 0, .int .i64 0, .int .i64 0, .int .i64 0, .int .i64 0] (0, 0) _ rfl Bgr.out Try.underlying31 rfl (by kernel_rfl) (.tmp .nil))) rfl ?_
      exact ⟨rfl, fun h0 => absurd h0 (by decide), HK.out, HB.out⟩
    case pos =>
      rw [if_pos h2] at h
      have q2 : decide (wrap64 (wrap64 (tender - paid) - wrap64 (a + sh)) ≥ 0) = true := decide_eq_true h2
      have q2b : decide (0 ≤ wrap64 (wrap64 (tender - paid) - wrap64 (a + sh))) = true := decide_eq_true h2
      obtain ⟨⟨units, price, e3⟩, hm, h⟩ := Option.bind_eq_some_iff.mp h
      have HM := Aside0.mk hm
      have H' := Aside0.mk h
      obtain ⟨left, hleft⟩ : ∃ left, wrap64 (wrap64 (tender - paid) - wrap64 (a + sh)) = left := ⟨_, rfl⟩
      rw [hleft] at q2 q2b HM H'
      simp only [hleft]
      clear h2 hm h hleft
      go_upto_region 9 with (fail)
      refine start_ (n := 20) (S := fun w' => w'.cell? ⟨g, 7, none⟩ = some (.slice At t.length ct) ∧ w'.cell? ⟨g, 4, none⟩ = some (.int .i64 bo)) (ds := [17, 19]) #[false, false, false, false, false, false, false, false, false, false, false, false, false, false, false, false, false, false, false, false] (by kernel_rfl) rfl rfl ⟨xg7, xg4⟩ (fun hHeld => ?_)
      refine pp 0 70 ?_
      refine pp 1 71 ?_
      refine pp 2 72 ?_
      refine pp 3 73 ?_
      refine pp 5 75 ?_
      refine pp 6 76 ?_
      refine pp 7 77 ?_
      refine pp 8 78 ?_
      refine pp 10 80 ?_
      refine tk 4 74 ?_
      refine tk 9 79 ?_
      refine one_ (i := 11) (N := some 81) #[true, true, true, true, true, true, true, true, true, true, true, true, false, false, false, false, false, false, false, false] rfl rfl (by kernel_rfl) (by decide) (fun K hK => ?_)
      refine goes_ Try.func54 (by kernel_rfl) rfl #[.slice At t.length ct, .int .i64 bo, .int .i64 left] (by rfl) rfl rfl (by (try simp only [List.map_toArray, List.map_cons, List.map_nil]); first | done | rfl) ?_
      with_reducible refine (tariff_Most.calls At ct t bo left units price e3 _ (Kd.C_below HT0.out (below_drew1 HB.out)) HCT.out HM.out).mono ?_
      rintro e wd ⟨rfl, hb2⟩
      refine ⟨_, rfl, ?_⟩
      clear xg4 xg7 xgb2 xgb3
      replace RE := Aside0.mk (Kd.R_below (Kd.R_drew RE.out) hb2)
      replace Bg := Aside0.mk (blk_below (blk_drew Bg.out) hb2)
      replace Bgr := Aside0.mk (blk_below (blk_drew Bgr.out) hb2)
      replace Bgb := Aside0.mk (blk_below (blk_drew Bgb.out) hb2)
      replace HK := Aside0.mk ((HK.out.drew).below hb2)
      replace HB := Aside0.mk (below_step (below_drew1 HB.out) hb2)
      have xg4 : wd.cell? ⟨g, 4, none⟩ = some (.int .i64 bo) := (blk_cell Bg.out 4).trans rfl
      have xg7 : wd.cell? ⟨g, 7, none⟩ = some (.slice At t.length ct) := (blk_cell Bg.out 7).trans rfl
      have xgb2 : wd.cell? ⟨gb, 2, none⟩ = some (.int .i64 paid) := (blk_cell Bgb.out 2).trans rfl
      have xgb3 : wd.cell? ⟨gb, 3, none⟩ = some (.int .i64 (wrap64 (a + sh))) := (blk_cell Bgb.out 3).trans rfl
      clear hb2
      refine hK.out _ _ ⟨xg7, xg4⟩ (fun hHeld => ?_)
      clear hK K
      refine norm_ (a' := ?_) ?_ ?_
      rotate_left
      · show Act.put _ (some 81) _ = _
        simp only [Act.put, List.setIfInBounds_toArray, List.set_cons_zero, List.set_cons_succ, i64_w, i32_w]
        rfl
      refine pp 12 69 ?_
      refine pp 13 82 ?_
      refine pp 14 83 ?_
      refine pp 15 84 ?_
      refine pp 16 85 ?_
      refine last_ (i := 17) (N := none) #[true, true, true, true, true, true, true, true, true, true, true, true, true, true, true, true, true, true, false, false] rfl rfl (by kernel_rfl) (by decide) (fun K hK => ?_)
      refine seg.step (by rfl) rfl 3 (.tmp 85) _ (by rfl) 31 gb 6 #[.int .i64 nx, .int .i64 tender, .int .i64 paid, .int .i64 (wrap64 (a + sh)), .int .i64 0, .int .i64 0, .int .i64 0] #[.int .i64 nx, .int .i64 tender, .int .i64 paid, .int .i64 (wrap64 (a + sh)), .int .i64 0, .int .i64 0, .int .i64 units] [.int .i64 units] (by rfl) (by rfl) (by kernel_rfl) (by simp [Value.oneCell']) Bgb.out (by simp) rfl ?_
      intro W7 bx hgr
      clear xg4 xg7 xgb2 xgb3
      replace RE := Aside0.mk (seg.R (ok := fun k => (((True) ∧ k ≠ g) ∧ k ≠ gr) ∧ k ≠ gb) RE.out hgr (fun k hk => hk.2))
      replace Bg := Aside0.mk (seg.far Bg.out hgr Nggb.out)
      replace Bgr := Aside0.mk (seg.far Bgr.out hgr Ngrgb.out)
      replace HK := Aside0.mk (Kept.of_grown hgr HK.out (fun k e => .inr (Option.some.inj e ▸ Kgb.out)))
      replace HB := Aside0.mk (seg.below HB.out hgr Ggb.out)
      replace Bgb := Aside0.mk bx
      clear bx hgr
      refine hK.out _ _ ?_
      clear hK K
      refine pp 18 86 ?_
      refine last_ (i := 19) (N := none) #[true, true, true, true, true, true, true, true, true, true, true, true, true, true, true, true, true, true, true, true] rfl rfl (by kernel_rfl) (by decide) (fun K hK => ?_)
      refine seg.step (by rfl) rfl 3 (.tmp 86) _ (by rfl) 31 gb 4 #[.int .i64 nx, .int .i64 tender, .int .i64 paid, .int .i64 (wrap64 (a + sh)), .int .i64 0, .int .i64 0, .int .i64 units] #[.int .i64 nx, .int .i64 tender, .int .i64 paid, .int .i64 (wrap64 (a + sh)), .int .i64 price, .int .i64 0, .int .i64 units] [.int .i64 price] (by rfl) (by rfl) (by kernel_rfl) (by simp [Value.oneCell']) Bgb.out (by simp) rfl ?_
      intro W8 bx hgr
      replace RE := Aside0.mk (seg.R (ok := fun k => (((True) ∧ k ≠ g) ∧ k ≠ gr) ∧ k ≠ gb) RE.out hgr (fun k hk => hk.2))
      replace Bg := Aside0.mk (seg.far Bg.out hgr Nggb.out)
      replace Bgr := Aside0.mk (seg.far Bgr.out hgr Ngrgb.out)
      replace HK := Aside0.mk (Kept.of_grown hgr HK.out (fun k e => .inr (Option.some.inj e ▸ Kgb.out)))
      replace HB := Aside0.mk (seg.below HB.out hgr Ggb.out)
      replace Bgb := Aside0.mk bx
      clear bx hgr
      have xg2 : W8.cell? ⟨g, 2, none⟩ = some (.int .i64 nx) := (blk_cell Bg.out 2).trans rfl
      have xg4 : W8.cell? ⟨g, 4, none⟩ = some (.int .i64 bo) := (blk_cell Bg.out 4).trans rfl
      have xgb4 : W8.cell? ⟨gb, 4, none⟩ = some (.int .i64 price) := (blk_cell Bgb.out 4).trans rfl
      have xgb6 : W8.cell? ⟨gb, 6, none⟩ = some (.int .i64 units) := (blk_cell Bgb.out 6).trans rfl
      refine hK.out _ _ ?_
      clear hK K
      refine done_ (by kernel_rfl) ?_
      have h := H'.out
      clear H'
      by_cases h3 : units = 0
      case pos =>
        rw [if_pos h3] at h
        simp only [account_csell.no, Option.some.injEq, Prod.mk.injEq] at h
        obtain ⟨rfl, rfl, rfl, rfl, rfl, rfl, rfl, rfl, rfl, rfl, rfl⟩ := h
        have q3 : (units == 0) = true := beq_iff_eq.mpr h3
        clear h3
        go_wp2_with (first | ((with_reducible refine gate_store (t := 31) (p := 4) rfl ?_); refine seg.list rfl rfl 31 (.tmp 4) _ rfl 31 gr 0 #[.int .i64 0, .int .i64 0, .int .i64 0, .int .i64 0, .int .i64 0, .int .i64 0, .int .i64 0] #[.int .i64 0, .int .i64 0, .int .i64 0, .int .i64 0, .int .i64 0, .int .i64 0, .int .i64 0] [.int .i64 0, .int .i64 0, .int .i64 0, .int .i64 0, .int .i64 0, .int .i64 0, .int .i64 0] rfl rfl (by kernel_rfl) (by simp [Value.oneCell']) Bgr.out (by simp) rfl ?_; intro W9 bx hgr; clear xg2 xg4 xgb4 xgb6; replace RE := Aside0.mk (seg.R (ok := fun k => (((True) ∧ k ≠ g) ∧ k ≠ gr) ∧ k ≠ gb) RE.out hgr (fun k hk => hk.1.2)); replace Bg := Aside0.mk (seg.far Bg.out hgr Nggr.out); replace Bgb := Aside0.mk (seg.far Bgb.out hgr (Ne.symm Ngrgb.out)); replace HK := Aside0.mk (Kept.of_grown hgr HK.out (fun k e => .inr (Option.some.inj e ▸ Kgr.out))); replace HB := Aside0.mk (seg.below HB.out hgr Ggr.out); replace Bgr := Aside0.mk bx; clear bx hgr; skip))
        refine bodyPost_ret (results_list (rs := [.cell 4 31, .tmp 5]) rfl (by simp) (.cell gr 31 #[.int .i64 0, .int .i64 0, .int .i64 0, .int .i64 0, .int .i64 0, .int .i64 0, .int .i64 0] (0, 0) _ rfl Bgr.out Try.underlying31 rfl (by kernel_rfl) (.tmp .nil))) rfl ?_
        exact ⟨rfl, fun h0 => absurd h0 (by decide), HK.out, HB.out⟩
      case neg =>
        rw [if_neg h3] at h
        have q3 : (units == 0) = false := beq_eq_false_iff_ne.mpr h3
        by_cases h4 : nx > 1048575
        case pos =>
          rw [if_pos h4] at h
          simp only [account_csell.no, Option.some.injEq, Prod.mk.injEq] at h
          obtain ⟨rfl, rfl, rfl, rfl, rfl, rfl, rfl, rfl, rfl, rfl, rfl⟩ := h
          have q4 : decide (nx > 1048575) = true := decide_eq_true h4
          clear h3 h4
          go_wp2_with (first | ((with_reducible refine gate_store (t := 31) (p := 4) rfl ?_); refine seg.list rfl rfl 31 (.tmp 4) _ rfl 31 gr 0 #[.int .i64 0, .int .i64 0, .int .i64 0, .int .i64 0, .int .i64 0, .int .i64 0, .int .i64 0] #[.int .i64 0, .int .i64 0, .int .i64 0, .int .i64 0, .int .i64 0, .int .i64 0, .int .i64 0] [.int .i64 0, .int .i64 0, .int .i64 0, .int .i64 0, .int .i64 0, .int .i64 0, .int .i64 0] rfl rfl (by kernel_rfl) (by simp [Value.oneCell']) Bgr.out (by simp) rfl ?_; intro W9 bx hgr; clear xg2 xg4 xgb4 xgb6; replace RE := Aside0.mk (seg.R (ok := fun k => (((True) ∧ k ≠ g) ∧ k ≠ gr) ∧ k ≠ gb) RE.out hgr (fun k hk => hk.1.2)); replace Bg := Aside0.mk (seg.far Bg.out hgr Nggr.out); replace Bgb := Aside0.mk (seg.far Bgb.out hgr (Ne.symm Ngrgb.out)); replace HK := Aside0.mk (Kept.of_grown hgr HK.out (fun k e => .inr (Option.some.inj e ▸ Kgr.out))); replace HB := Aside0.mk (seg.below HB.out hgr Ggr.out); replace Bgr := Aside0.mk bx; clear bx hgr; skip))
          refine bodyPost_ret (results_list (rs := [.cell 4 31, .tmp 5]) rfl (by simp) (.cell gr 31 #[.int .i64 0, .int .i64 0, .int .i64 0, .int .i64 0, .int .i64 0, .int .i64 0, .int .i64 0] (0, 0) _ rfl Bgr.out Try.underlying31 rfl (by kernel_rfl) (.tmp .nil))) rfl ?_
          exact ⟨rfl, fun h0 => absurd h0 (by decide), HK.out, HB.out⟩
        case neg =>
          rw [if_neg h4] at h
          simp only [account_csell.no, Option.some.injEq, Prod.mk.injEq] at h
          obtain ⟨rfl, rfl, rfl, rfl, rfl, rfl, rfl, rfl, rfl, rfl, rfl⟩ := h
          have q4 : decide (nx > 1048575) = false := decide_eq_false h4
          clear h3 h4
          go_upto_region 15 with (first | ((with_reducible refine gate_store (t := 3) (p := 102) rfl ?_); refine seg.list rfl rfl 3 (.tmp 102) _ rfl 31 gb 5 #[.int .i64 nx, .int .i64 tender, .int .i64 paid, .int .i64 (wrap64 (a + sh)), .int .i64 price, .int .i64 0, .int .i64 units] #[.int .i64 nx, .int .i64 tender, .int .i64 paid, .int .i64 (wrap64 (a + sh)), .int .i64 price, .int .i64 (wrap64 (left - price)), .int .i64 units] [.int .i64 (wrap64 (left - price))] rfl rfl (by kernel_rfl) (by simp [Value.oneCell']) Bgb.out (by simp) rfl ?_; intro W9 bx hgr; clear xg2 xg4 xgb4 xgb6; replace RE := Aside0.mk (seg.R (ok := fun k => (((True) ∧ k ≠ g) ∧ k ≠ gr) ∧ k ≠ gb) RE.out hgr (fun k hk => hk.2)); replace Bg := Aside0.mk (seg.far Bg.out hgr Nggb.out); replace Bgr := Aside0.mk (seg.far Bgr.out hgr Ngrgb.out); replace HK := Aside0.mk (Kept.of_grown hgr HK.out (fun k e => .inr (Option.some.inj e ▸ Kgb.out))); replace HB := Aside0.mk (seg.below HB.out hgr Ggb.out); replace Bgb := Aside0.mk bx; clear bx hgr; have xg4 : W9.cell? ⟨g, 4, none⟩ = some (.int .i64 bo) := (blk_cell Bg.out 4).trans rfl; have xgb6 : W9.cell? ⟨gb, 6, none⟩ = some (.int .i64 units) := (blk_cell Bgb.out 6).trans rfl; skip))
          refine start_ (n := 12) (S := fun w' => w'.cell? ⟨g, 4, none⟩ = some (.int .i64 bo) ∧ w'.cell? ⟨gb, 6, none⟩ = some (.int .i64 units)) (ds := [11]) #[false, false, false, false, false, false, false, false, false, false, false, false] (by kernel_rfl) rfl rfl ⟨xg4, xgb6⟩ (fun hHeld => ?_)
          refine pp 0 103 ?_
          refine pp 1 104 ?_
          refine pp 2 105 ?_
          refine pp 3 106 ?_
          refine pp 5 108 ?_
          refine tk 4 107 ?_
          refine tk 6 109 ?_
          refine pp 7 110 ?_
          refine pp 8 111 ?_
          refine pp 9 112 ?_
          refine pp 10 113 ?_
          refine last_ (i := 11) (N := none) #[true, true, true, true, true, true, true, true, true, true, true, true] rfl rfl (by kernel_rfl) (by decide) (fun K hK => ?_)
          refine seg.step (by rfl) rfl 3 (.tmp 113) _ (by rfl) 66 g 4 #[.int .i64 me, .int .i64 rev, .int .i64 nx, .int .i64 mo, .int .i64 bo, .int .i64 fr, .slice A7 l1.length c7, .slice At t.length ct, .int .i64 a, .int .i64 b, .int .i64 c, .int .i64 d] #[.int .i64 me, .int .i64 rev, .int .i64 nx, .int .i64 mo, .int .i64 (wrap64 (bo + units)), .int .i64 fr, .slice A7 l1.length c7, .slice At t.length ct, .int .i64 a, .int .i64 b, .int .i64 c, .int .i64 d] [.int .i64 (wrap64 (bo + units))] (by rfl) (by rfl) (by kernel_rfl) (by simp [Value.oneCell']) (blk_drew Bg.out) (by simp) rfl ?_
          intro W10 bx hgr
          clear xg4 xgb6
          replace RE := Aside0.mk (seg.R (ok := fun k => (((True) ∧ k ≠ g) ∧ k ≠ gr) ∧ k ≠ gb) (Kd.R_drew RE.out) hgr (fun k hk => hk.1.1.2))
          replace Bgr := Aside0.mk (seg.far (blk_drew Bgr.out) hgr (Ne.symm Nggr.out))
          replace Bgb := Aside0.mk (seg.far (blk_drew Bgb.out) hgr (Ne.symm Nggb.out))
          replace HK := Aside0.mk (Kept.of_grown hgr (HK.out.drew) (fun k e => .inl (Option.some.inj e).symm))
          replace HB := Aside0.mk (seg.below (below_drew1 HB.out) hgr Gg.out)
          replace Bg := Aside0.mk bx
          clear bx hgr
          have xg2 : W10.cell? ⟨g, 2, none⟩ = some (.int .i64 nx) := (blk_cell Bg.out 2).trans rfl
          have xgb0 : W10.cell? ⟨gb, 0, none⟩ = some (.int .i64 nx) := (blk_cell Bgb.out 0).trans rfl
          have xgb1 : W10.cell? ⟨gb, 1, none⟩ = some (.int .i64 tender) := (blk_cell Bgb.out 1).trans rfl
          have xgb2 : W10.cell? ⟨gb, 2, none⟩ = some (.int .i64 paid) := (blk_cell Bgb.out 2).trans rfl
          have xgb3 : W10.cell? ⟨gb, 3, none⟩ = some (.int .i64 (wrap64 (a + sh))) := (blk_cell Bgb.out 3).trans rfl
          have xgb4 : W10.cell? ⟨gb, 4, none⟩ = some (.int .i64 price) := (blk_cell Bgb.out 4).trans rfl
          have xgb5 : W10.cell? ⟨gb, 5, none⟩ = some (.int .i64 (wrap64 (left - price))) := (blk_cell Bgb.out 5).trans rfl
          have xgb6 : W10.cell? ⟨gb, 6, none⟩ = some (.int .i64 units) := (blk_cell Bgb.out 6).trans rfl
          refine hK.out _ _ ?_
          clear hK K
          refine done_ (by kernel_rfl) ?_
          go_wp2_with (first | ((with_reducible refine gate_store (t := 3) (p := 122) rfl ?_); refine seg.list rfl rfl 3 (.tmp 122) _ rfl 66 g 2 #[.int .i64 me, .int .i64 rev, .int .i64 nx, .int .i64 mo, .int .i64 (wrap64 (bo + units)), .int .i64 fr, .slice A7 l1.length c7, .slice At t.length ct, .int .i64 a, .int .i64 b, .int .i64 c, .int .i64 d] #[.int .i64 me, .int .i64 rev, .int .i64 (wrap64 (nx + 1)), .int .i64 mo, .int .i64 (wrap64 (bo + units)), .int .i64 fr, .slice A7 l1.length c7, .slice At t.length ct, .int .i64 a, .int .i64 b, .int .i64 c, .int .i64 d] [.int .i64 (wrap64 (nx + 1))] rfl rfl (by kernel_rfl) (by simp [Value.oneCell']) Bg.out (by simp) rfl ?_; intro W11 bx hgr; clear xg2 xgb0 xgb1 xgb2 xgb3 xgb4 xgb5 xgb6; replace RE := Aside0.mk (seg.R (ok := fun k => (((True) ∧ k ≠ g) ∧ k ≠ gr) ∧ k ≠ gb) RE.out hgr (fun k hk => hk.1.1.2)); replace Bgr := Aside0.mk (seg.far Bgr.out hgr (Ne.symm Nggr.out)); replace Bgb := Aside0.mk (seg.far Bgb.out hgr (Ne.symm Nggb.out)); replace HK := Aside0.mk (Kept.of_grown hgr HK.out (fun k e => .inl (Option.some.inj e).symm)); replace HB := Aside0.mk (seg.below HB.out hgr Gg.out); replace Bg := Aside0.mk bx; clear bx hgr; have xgb0 : W11.cell? ⟨gb, 0, none⟩ = some (.int .i64 nx) := (blk_cell Bgb.out 0).trans rfl; have xgb1 : W11.cell? ⟨gb, 1, none⟩ = some (.int .i64 tender) := (blk_cell Bgb.out 1).trans rfl; have xgb2 : W11.cell? ⟨gb, 2, none⟩ = some (.int .i64 paid) := (blk_cell Bgb.out 2).trans rfl; have xgb3 : W11.cell? ⟨gb, 3, none⟩ = some (.int .i64 (wrap64 (a + sh))) := (blk_cell Bgb.out 3).trans rfl; have xgb4 : W11.cell? ⟨gb, 4, none⟩ = some (.int .i64 price) := (blk_cell Bgb.out 4).trans rfl; have xgb5 : W11.cell? ⟨gb, 5, none⟩ = some (.int .i64 (wrap64 (left - price))) := (blk_cell Bgb.out 5).trans rfl; have xgb6 : W11.cell? ⟨gb, 6, none⟩ = some (.int .i64 units) := (blk_cell Bgb.out 6).trans rfl; skip) | ((with_reducible refine gate_store (t := 31) (p := 4) rfl ?_); refine seg.list rfl rfl 31 (.tmp 4) _ rfl 31 gr 0 #[.int .i64 0, .int .i64 0, .int .i64 0, .int .i64 0, .int .i64 0, .int .i64 0, .int .i64 0] #[.int .i64 nx, .int .i64 tender, .int .i64 paid, .int .i64 (wrap64 (a + sh)), .int .i64 price, .int .i64 (wrap64 (left - price)), .int .i64 units] [.int .i64 nx, .int .i64 tender, .int .i64 paid, .int .i64 (wrap64 (a + sh)), .int .i64 price, .int .i64 (wrap64 (left - price)), .int .i64 units] rfl rfl (by kernel_rfl) (by simp [Value.oneCell']) Bgr.out (by simp) rfl ?_; intro W12 bx hgr; clear xgb0 xgb1 xgb2 xgb3 xgb4 xgb5 xgb6; replace RE := Aside0.mk (seg.R (ok := fun k => (((True) ∧ k ≠ g) ∧ k ≠ gr) ∧ k ≠ gb) RE.out hgr (fun k hk => hk.1.2)); replace Bg := Aside0.mk (seg.far Bg.out hgr Nggr.out); replace Bgb := Aside0.mk (seg.far Bgb.out hgr (Ne.symm Ngrgb.out)); replace HK := Aside0.mk (Kept.of_grown hgr HK.out (fun k e => .inr (Option.some.inj e ▸ Kgr.out))); replace HB := Aside0.mk (seg.below HB.out hgr Ggr.out); replace Bgr := Aside0.mk bx; clear bx hgr; skip))
          refine bodyPost_ret (results_list (rs := [.cell 4 31, .tmp 5]) rfl (by simp) (.cell gr 31 #[.int .i64 nx, .int .i64 tender, .int .i64 paid, .int .i64 (wrap64 (a + sh)), .int .i64 price, .int .i64 (wrap64 (left - price)), .int .i64 units] (0, 0) _ rfl Bgr.out Try.underlying31 rfl (by kernel_rfl) (.tmp .nil))) rfl ?_
          exact ⟨rfl, ⟨_, Bg.out, Kd.R_mono RE.out (fun _ h => h.1.1.2)⟩, HK.out, HB.out⟩
/-! ### account_Sell: by hand -/
def account_Sell.no (e : Int) : Int × Int × Int × Int × Int × Int × List S39 × Int × Int × Int × Int × Int × Int × Int × Int := (0, 0, 0, 0, 0, 0, [], 0, 0, 0, 0, 0, 0, 0, e)
def account_Sell.f (k : Nat) (me rev nx mo bo fr : Int) (l : List S39) (t : List S99) (a b c d tender month : Int) : Option (Int × Int × Int × Int × Int × Int × List S39 × Int × Int × Int × Int × Int × Int × Int × Int) :=
  (account_open.f k me rev nx mo bo fr l t a b c d).bind fun e => if e = 0 then ((account_roll.f k mo bo l month).bind fun p => if p.2.2.2 = 0 then ((account_csell.f k nx p.2.2.1 p.1 t a b c tender).bind fun s => if s.2.2.2.2.2.2.2.2.2.2 = 0 then some (me, rev, s.2.2.1, p.2.1, s.2.1, fr, s.1, s.2.2.2.1, s.2.2.2.2.1, s.2.2.2.2.2.1, s.2.2.2.2.2.2.1, s.2.2.2.2.2.2.2.1, s.2.2.2.2.2.2.2.2.1, s.2.2.2.2.2.2.2.2.2.1, 0) else some (account_Sell.no s.2.2.2.2.2.2.2.2.2.2)) else some (account_Sell.no p.2.2.2)) else some (account_Sell.no e)
theorem account_Sell.mono : ∀ a0 a1 a2 a3 a4 a5 a6 a7 a8 a9 a10 a11 a12 a13 k, LeO (account_Sell.f k a0 a1 a2 a3 a4 a5 a6 a7 a8 a9 a10 a11 a12 a13) (account_Sell.f (k + 1) a0 a1 a2 a3 a4 a5 a6 a7 a8 a9 a10 a11 a12 a13) := by
  intro a0 a1 a2 a3 a4 a5 a6 a7 a8 a9 a10 a11 a12 a13 k
  unfold account_Sell.f
  exact LeO.bind (account_open.mono _ _ _ _ _ _ _ _ _ _ _ _ _) (fun _ => LeO.ite (LeO.bind (account_roll.mono _ _ _ _ _) (fun _ => LeO.ite (LeO.bind (account_csell.mono _ _ _ _ _ _ _ _ _) (fun _ => LeO.refl _)) (LeO.refl _))) (LeO.refl _))
set_option maxHeartbeats 16000000 in
set_option maxRecDepth 100000 in
theorem account_Sell.calls (k : Nat) (me rev nx mo bo fr : Int) (A6 : Option Addr) (c6 : Nat) (l : List S39) (At : Option Addr) (ct : Nat) (t : List S99) (a b c d tender month : Int) (r1 r2 r3 r4 r5 r6 : Int) (r7 : List S39) (r8 r9 r10 r11 r12 r13 r14 r15 : Int) (w : World) (hr0 : Kd.C k39 w A6 l.length l) (hc0 : l.length ≤ c6) (ht0 : Kd.C k99 w At t.length t) (hct : t.length ≤ ct) (h : account_Sell.f k me rev nx mo bo fr l t a b c d tender month = some (r1, r2, r3, r4, r5, r6, r7, r8, r9, r10, r11, r12, r13, r14, r15)) :
    Calls Try.prog 9 #[.agg #[.int .i64 me, .int .i64 rev, .int .i64 nx, .int .i64 mo, .int .i64 bo, .int .i64 fr, .slice A6 l.length c6], .agg #[.slice At t.length ct, .int .i64 a, .int .i64 b, .int .i64 c, .int .i64 d], .int .i64 tender, .int .i64 month] w fun e w' => ∃ v6_ : Value, e = .returned (.tuple #[.agg #[.int .i64 r1, .int .i64 r2, .int .i64 r3, .int .i64 r4, .int .i64 r5, .int .i64 r6, v6_], .agg #[.int .i64 r8, .int .i64 r9, .int .i64 r10, .int .i64 r11, .int .i64 r12, .int .i64 r13, .int .i64 r14], .int .i64 r15]) ∧ Kd.R k39 39 w' w.heap.size (fun _ => True) v6_ r7 ∧ Below w.heap.size w w' := by
  have HR0 := Aside0.mk hr0
  have HC0 := Aside0.mk hc0
  have HT0 := Aside0.mk ht0
  have HCT := Aside0.mk hct
  have HB := Aside0.mk (Below.refl w.heap.size w)
  have hu24 := Try.underlying24
  have hu27 := Try.underlying27
  have hu31 := Try.underlying31
  have hu66 := Try.underlying66
  clear hr0 hc0 ht0 hct
  unfold account_Sell.f at h
  obtain ⟨e0, ho, h⟩ := Option.bind_eq_some_iff.mp h
  have HO := Aside0.mk ho
  clear ho
  by_cases h1 : e0 = 0
  case neg =>
    rw [if_neg h1] at h
    simp only [account_Sell.no, Option.some.injEq, Prod.mk.injEq] at h
    obtain ⟨rfl, rfl, rfl, rfl, rfl, rfl, rfl, rfl, rfl, rfl, rfl, rfl, rfl, rfl, rfl⟩ := h
    have q1 : (e0 == 0) = false := beq_eq_false_iff_ne.mpr h1
    have q1b : (e0 != 0) = true := bne_iff_ne.mpr h1
    clear h1
    go_enter Try.func9, Try.ntmps9
    go_wp2_with (first | ((with_reducible refine gate_dst (N := 4) rfl ?_); refine box_event ?hg (N := 4) ?hd (cs := #[.int .i64 me, .int .i64 rev, .int .i64 nx, .int .i64 mo, .int .i64 bo, .int .i64 fr, .slice A6 l.length c6]) (t := 24) ?hr ?_; (case hd => rfl); (case hg => rfl); (case hr => first | (go_simp; done) | (go_simp; rfl)); intro g1 hgq W1 hbox hb; have Gg1 := Aside0.mk (by rw [hgq]; exact below_size HB.out : w.heap.size ≤ g1); replace HB := Aside0.mk (below_step HB.out hb); have Bg1 := Aside0.mk hbox; clear hb hbox hgq; skip) | ((with_reducible refine gate_dst (N := 5) rfl ?_); refine box_event ?hg (N := 5) ?hd (cs := #[.slice At t.length ct, .int .i64 a, .int .i64 b, .int .i64 c, .int .i64 d]) (t := 27) ?hr ?_; (case hd => rfl); (case hg => rfl); (case hr => first | (go_simp; done) | (go_simp; rfl)); intro g2 hgq W2 hbox hb; have Ng1g2 := Aside0.mk (by rw [hgq]; exact Nat.ne_of_lt (blk_lt Bg1.out) : g1 ≠ g2); have Gg2 := Aside0.mk (by rw [hgq]; exact below_size HB.out : w.heap.size ≤ g2); replace Bg1 := Aside0.mk (blk_below Bg1.out hb); replace HB := Aside0.mk (below_step HB.out hb); have Bg2 := Aside0.mk hbox; clear hb hbox hgq; skip) | ((with_reducible refine gate_dst (N := 8) rfl ?_); refine box_event ?hg (N := 8) ?hd (cs := #[.int .i64 0, .int .i64 0, .int .i64 0, .int .i64 0, .int .i64 0, .int .i64 0, .slice none 0 0]) (t := 24) ?hr ?_; (case hd => rfl); (case hg => rfl); (case hr => first | (go_simp; done) | (go_simp; rfl)); intro g3 hgq W3 hbox hb; have Ng1g3 := Aside0.mk (by rw [hgq]; exact Nat.ne_of_lt (blk_lt Bg1.out) : g1 ≠ g3); have Ng2g3 := Aside0.mk (by rw [hgq]; exact Nat.ne_of_lt (blk_lt Bg2.out) : g2 ≠ g3); have Gg3 := Aside0.mk (by rw [hgq]; exact below_size HB.out : w.heap.size ≤ g3); replace Bg1 := Aside0.mk (blk_below Bg1.out hb); replace Bg2 := Aside0.mk (blk_below Bg2.out hb); replace HB := Aside0.mk (below_step HB.out hb); have Bg3 := Aside0.mk hbox; clear hb hbox hgq; skip) | ((with_reducible refine gate_dst (N := 9) rfl ?_); refine box_event ?hg (N := 9) ?hd (cs := #[.int .i64 0, .int .i64 0, .int .i64 0, .int .i64 0, .int .i64 0, .int .i64 0, .int .i64 0]) (t := 31) ?hr ?_; (case hd => rfl); (case hg => rfl); (case hr => first | (go_simp; done) | (go_simp; rfl)); intro g4 hgq W4 hbox hb; have Ng1g4 := Aside0.mk (by rw [hgq]; exact Nat.ne_of_lt (blk_lt Bg1.out) : g1 ≠ g4); have Ng2g4 := Aside0.mk (by rw [hgq]; exact Nat.ne_of_lt (blk_lt Bg2.out) : g2 ≠ g4); have Ng3g4 := Aside0.mk (by rw [hgq]; exact Nat.ne_of_lt (blk_lt Bg3.out) : g3 ≠ g4); have Gg4 := Aside0.mk (by rw [hgq]; exact below_size HB.out : w.heap.size ≤ g4); replace Bg1 := Aside0.mk (blk_below Bg1.out hb); replace Bg2 := Aside0.mk (blk_below Bg2.out hb); replace Bg3 := Aside0.mk (blk_below Bg3.out hb); replace HB := Aside0.mk (below_step HB.out hb); have Bg4 := Aside0.mk hbox; clear hb hbox hgq; have xg10 : W4.cell? ⟨g1, 0, none⟩ = some (.int .i64 me) := (blk_cell Bg1.out 0).trans rfl; have xg11 : W4.cell? ⟨g1, 1, none⟩ = some (.int .i64 rev) := (blk_cell Bg1.out 1).trans rfl; have xg12 : W4.cell? ⟨g1, 2, none⟩ = some (.int .i64 nx) := (blk_cell Bg1.out 2).trans rfl; have xg13 : W4.cell? ⟨g1, 3, none⟩ = some (.int .i64 mo) := (blk_cell Bg1.out 3).trans rfl; have xg14 : W4.cell? ⟨g1, 4, none⟩ = some (.int .i64 bo) := (blk_cell Bg1.out 4).trans rfl; have xg15 : W4.cell? ⟨g1, 5, none⟩ = some (.int .i64 fr) := (blk_cell Bg1.out 5).trans rfl; have xg16 : W4.cell? ⟨g1, 6, none⟩ = some (.slice A6 l.length c6) := (blk_cell Bg1.out 6).trans rfl; have xg20 : W4.cell? ⟨g2, 0, none⟩ = some (.slice At t.length ct) := (blk_cell Bg2.out 0).trans rfl; have xg21 : W4.cell? ⟨g2, 1, none⟩ = some (.int .i64 a) := (blk_cell Bg2.out 1).trans rfl; have xg22 : W4.cell? ⟨g2, 2, none⟩ = some (.int .i64 b) := (blk_cell Bg2.out 2).trans rfl; have xg23 : W4.cell? ⟨g2, 3, none⟩ = some (.int .i64 c) := (blk_cell Bg2.out 3).trans rfl; have xg24 : W4.cell? ⟨g2, 4, none⟩ = some (.int .i64 d) := (blk_cell Bg2.out 4).trans rfl; skip) | (go_at_call 25; refine (account_open.calls k me rev nx mo bo fr A6 c6 l At ct t a b c d e0 _ (Kd.C_below HR0.out HB.out) HC0.out (Kd.C_below HT0.out HB.out) HCT.out HO.out).mono ?_; rintro e wo ⟨v0, rfl, hbx, hb1⟩; clear xg10 xg11 xg12 xg13 xg14 xg15 xg16 xg20 xg21 xg22 xg23 xg24; replace Bg1 := Aside0.mk (blk_below Bg1.out hb1); replace Bg2 := Aside0.mk (blk_below Bg2.out hb1); replace Bg3 := Aside0.mk (blk_below Bg3.out hb1); replace Bg4 := Aside0.mk (blk_below Bg4.out hb1); replace HB := Aside0.mk (below_step HB.out hb1); clear hb1 hbx) | ((with_reducible refine gate_store (t := 24) (p := 8) rfl ?_); refine seg.list rfl rfl 24 (.tmp 8) _ rfl 24 g3 0 #[.int .i64 0, .int .i64 0, .int .i64 0, .int .i64 0, .int .i64 0, .int .i64 0, .slice none 0 0] #[.int .i64 0, .int .i64 0, .int .i64 0, .int .i64 0, .int .i64 0, .int .i64 0, .slice none 0 0] [.int .i64 0, .int .i64 0, .int .i64 0, .int .i64 0, .int .i64 0, .int .i64 0, .slice none 0 0] rfl rfl (by kernel_rfl) (by simp [Value.oneCell']) Bg3.out (by simp) rfl ?_; intro W5 bx hgr; replace Bg1 := Aside0.mk (seg.far Bg1.out hgr Ng1g3.out); replace Bg2 := Aside0.mk (seg.far Bg2.out hgr Ng2g3.out); replace Bg4 := Aside0.mk (seg.far Bg4.out hgr (Ne.symm Ng3g4.out)); replace HB := Aside0.mk (seg.below HB.out hgr Gg3.out); replace Bg3 := Aside0.mk bx; clear bx hgr; skip) | ((with_reducible refine gate_store (t := 31) (p := 9) rfl ?_); refine seg.list rfl rfl 31 (.tmp 9) _ rfl 31 g4 0 #[.int .i64 0, .int .i64 0, .int .i64 0, .int .i64 0, .int .i64 0, .int .i64 0, .int .i64 0] #[.int .i64 0, .int .i64 0, .int .i64 0, .int .i64 0, .int .i64 0, .int .i64 0, .int .i64 0] [.int .i64 0, .int .i64 0, .int .i64 0, .int .i64 0, .int .i64 0, .int .i64 0, .int .i64 0] rfl rfl (by kernel_rfl) (by simp [Value.oneCell']) Bg4.out (by simp) rfl ?_; intro W6 bx hgr; replace Bg1 := Aside0.mk (seg.far Bg1.out hgr Ng1g4.out); replace Bg2 := Aside0.mk (seg.far Bg2.out hgr Ng2g4.out); replace Bg3 := Aside0.mk (seg.far Bg3.out hgr Ng3g4.out); replace HB := Aside0.mk (seg.below HB.out hgr Gg4.out); replace Bg4 := Aside0.mk bx; clear bx hgr; skip))
    refine bodyPost_ret (results_list (rs := [.cell 8 24, .cell 9 31, .tmp 10]) rfl (by simp) (.cell g3 24 #[.int .i64 0, .int .i64 0, .int .i64 0, .int .i64 0, .int .i64 0, .int .i64 0, .slice none 0 0] (0, 0) _ rfl Bg3.out Try.underlying24 rfl (by kernel_rfl) (.cell g4 31 #[.int .i64 0, .int .i64 0, .int .i64 0, .int .i64 0, .int .i64 0, .int .i64 0, .int .i64 0] (0, 0) _ rfl Bg4.out Try.underlying31 rfl (by kernel_rfl) (.tmp .nil)))) rfl ?_
    exact ⟨_, rfl, Kd.R_nil _ _ _ _ _, HB.out⟩
  case pos =>
    rw [if_pos h1] at h
    subst h1
    obtain ⟨⟨l1, mo1, bo1, e1⟩, hp, h⟩ := Option.bind_eq_some_iff.mp h
    have HP := Aside0.mk hp
    have H' := Aside0.mk h
    clear hp h
    go_enter Try.func9, Try.ntmps9
    go_upto_region 4 with (first | ((with_reducible refine gate_dst (N := 4) rfl ?_); refine box_event ?hg (N := 4) ?hd (cs := #[.int .i64 me, .int .i64 rev, .int .i64 nx, .int .i64 mo, .int .i64 bo, .int .i64 fr, .slice A6 l.length c6]) (t := 24) ?hr ?_; (case hd => rfl); (case hg => rfl); (case hr => first | (go_simp; done) | (go_simp; rfl)); intro g1 hgq W1 hbox hb; have Gg1 := Aside0.mk (by rw [hgq]; exact below_size HB.out : w.heap.size ≤ g1); replace HB := Aside0.mk (below_step HB.out hb); have Bg1 := Aside0.mk hbox; clear hb hbox hgq; skip) | ((with_reducible refine gate_dst (N := 5) rfl ?_); refine box_event ?hg (N := 5) ?hd (cs := #[.slice At t.length ct, .int .i64 a, .int .i64 b, .int .i64 c, .int .i64 d]) (t := 27) ?hr ?_; (case hd => rfl); (case hg => rfl); (case hr => first | (go_simp; done) | (go_simp; rfl)); intro g2 hgq W2 hbox hb; have Ng1g2 := Aside0.mk (by rw [hgq]; exact Nat.ne_of_lt (blk_lt Bg1.out) : g1 ≠ g2); have Gg2 := Aside0.mk (by rw [hgq]; exact below_size HB.out : w.heap.size ≤ g2); replace Bg1 := Aside0.mk (blk_below Bg1.out hb); replace HB := Aside0.mk (below_step HB.out hb); have Bg2 := Aside0.mk hbox; clear hb hbox hgq; skip) | ((with_reducible refine gate_dst (N := 8) rfl ?_); refine box_event ?hg (N := 8) ?hd (cs := #[.int .i64 0, .int .i64 0, .int .i64 0, .int .i64 0, .int .i64 0, .int .i64 0, .slice none 0 0]) (t := 24) ?hr ?_; (case hd => rfl); (case hg => rfl); (case hr => first | (go_simp; done) | (go_simp; rfl)); intro g3 hgq W3 hbox hb; have Ng1g3 := Aside0.mk (by rw [hgq]; exact Nat.ne_of_lt (blk_lt Bg1.out) : g1 ≠ g3); have Ng2g3 := Aside0.mk (by rw [hgq]; exact Nat.ne_of_lt (blk_lt Bg2.out) : g2 ≠ g3); have Gg3 := Aside0.mk (by rw [hgq]; exact below_size HB.out : w.heap.size ≤ g3); replace Bg1 := Aside0.mk (blk_below Bg1.out hb); replace Bg2 := Aside0.mk (blk_below Bg2.out hb); replace HB := Aside0.mk (below_step HB.out hb); have Bg3 := Aside0.mk hbox; clear hb hbox hgq; skip) | ((with_reducible refine gate_dst (N := 9) rfl ?_); refine box_event ?hg (N := 9) ?hd (cs := #[.int .i64 0, .int .i64 0, .int .i64 0, .int .i64 0, .int .i64 0, .int .i64 0, .int .i64 0]) (t := 31) ?hr ?_; (case hd => rfl); (case hg => rfl); (case hr => first | (go_simp; done) | (go_simp; rfl)); intro g4 hgq W4 hbox hb; have Ng1g4 := Aside0.mk (by rw [hgq]; exact Nat.ne_of_lt (blk_lt Bg1.out) : g1 ≠ g4); have Ng2g4 := Aside0.mk (by rw [hgq]; exact Nat.ne_of_lt (blk_lt Bg2.out) : g2 ≠ g4); have Ng3g4 := Aside0.mk (by rw [hgq]; exact Nat.ne_of_lt (blk_lt Bg3.out) : g3 ≠ g4); have Gg4 := Aside0.mk (by rw [hgq]; exact below_size HB.out : w.heap.size ≤ g4); replace Bg1 := Aside0.mk (blk_below Bg1.out hb); replace Bg2 := Aside0.mk (blk_below Bg2.out hb); replace Bg3 := Aside0.mk (blk_below Bg3.out hb); replace HB := Aside0.mk (below_step HB.out hb); have Bg4 := Aside0.mk hbox; clear hb hbox hgq; have xg10 : W4.cell? ⟨g1, 0, none⟩ = some (.int .i64 me) := (blk_cell Bg1.out 0).trans rfl; have xg11 : W4.cell? ⟨g1, 1, none⟩ = some (.int .i64 rev) := (blk_cell Bg1.out 1).trans rfl; have xg12 : W4.cell? ⟨g1, 2, none⟩ = some (.int .i64 nx) := (blk_cell Bg1.out 2).trans rfl; have xg13 : W4.cell? ⟨g1, 3, none⟩ = some (.int .i64 mo) := (blk_cell Bg1.out 3).trans rfl; have xg14 : W4.cell? ⟨g1, 4, none⟩ = some (.int .i64 bo) := (blk_cell Bg1.out 4).trans rfl; have xg15 : W4.cell? ⟨g1, 5, none⟩ = some (.int .i64 fr) := (blk_cell Bg1.out 5).trans rfl; have xg16 : W4.cell? ⟨g1, 6, none⟩ = some (.slice A6 l.length c6) := (blk_cell Bg1.out 6).trans rfl; have xg20 : W4.cell? ⟨g2, 0, none⟩ = some (.slice At t.length ct) := (blk_cell Bg2.out 0).trans rfl; have xg21 : W4.cell? ⟨g2, 1, none⟩ = some (.int .i64 a) := (blk_cell Bg2.out 1).trans rfl; have xg22 : W4.cell? ⟨g2, 2, none⟩ = some (.int .i64 b) := (blk_cell Bg2.out 2).trans rfl; have xg23 : W4.cell? ⟨g2, 3, none⟩ = some (.int .i64 c) := (blk_cell Bg2.out 3).trans rfl; have xg24 : W4.cell? ⟨g2, 4, none⟩ = some (.int .i64 d) := (blk_cell Bg2.out 4).trans rfl; skip) | (go_at_call 25; refine (account_open.calls k me rev nx mo bo fr A6 c6 l At ct t a b c d 0 _ (Kd.C_below HR0.out HB.out) HC0.out (Kd.C_below HT0.out HB.out) HCT.out HO.out).mono ?_; rintro e wo ⟨v0, rfl, hbx, hb1⟩; obtain ⟨g, v1, rfl, hg5, hbg, hRg⟩ := hbx rfl; have Gg := Aside0.mk (Nat.le_trans (below_size HB.out) hg5); have Ng1g := Aside0.mk (by have := blk_lt Bg1.out; omega : g1 ≠ g); have Ng2g := Aside0.mk (by have := blk_lt Bg2.out; omega : g2 ≠ g); have Ng3g := Aside0.mk (by have := blk_lt Bg3.out; omega : g3 ≠ g); have Ng4g := Aside0.mk (by have := blk_lt Bg4.out; omega : g4 ≠ g); have RD := Aside0.mk (Kd.R_lower hRg (below_size HB.out)); clear xg10 xg11 xg12 xg13 xg14 xg15 xg16 xg20 xg21 xg22 xg23 xg24; replace Bg1 := Aside0.mk (blk_below Bg1.out hb1); replace Bg2 := Aside0.mk (blk_below Bg2.out hb1); replace Bg3 := Aside0.mk (blk_below Bg3.out hb1); replace Bg4 := Aside0.mk (blk_below Bg4.out hb1); replace HB := Aside0.mk (below_step HB.out hb1); have Bg := Aside0.mk hbg; clear hb1 hbx hbg hRg hg5) | (go_at_call 26; refine (account_roll.calls k g me rev nx mo bo fr v1 l At t.length ct a b c d month l1 mo1 bo1 e1 w _ Gg.out HB.out Bg.out RD.out HP.out).mono ?_; rintro e wr ⟨rfl, ⟨v2, hbg, hRg⟩, hk, hb1⟩; replace Bg1 := Aside0.mk (blk_kept Bg1.out hk Ng1g.out); replace Bg2 := Aside0.mk (blk_kept Bg2.out hk Ng2g.out); replace Bg3 := Aside0.mk (blk_kept Bg3.out hk Ng3g.out); replace Bg4 := Aside0.mk (blk_kept Bg4.out hk Ng4g.out); replace HB := Aside0.mk hb1; replace Bg := Aside0.mk hbg; replace RD := Aside0.mk hRg; clear hk hb1 hbg hRg))
    have h := H'.out
    clear H'
    by_cases h2 : e1 = 0
    case neg =>
      rw [if_neg h2] at h
      simp only [account_Sell.no, Option.some.injEq, Prod.mk.injEq] at h
      obtain ⟨rfl, rfl, rfl, rfl, rfl, rfl, rfl, rfl, rfl, rfl, rfl, rfl, rfl, rfl, rfl⟩ := h
      have q2 : (e1 != 0) = true := bne_iff_ne.mpr h2
      clear h2
      go_wp2_with (first | ((with_reducible refine gate_store (t := 24) (p := 8) rfl ?_); refine seg.list rfl rfl 24 (.tmp 8) _ rfl 24 g3 0 #[.int .i64 0, .int .i64 0, .int .i64 0, .int .i64 0, .int .i64 0, .int .i64 0, .slice none 0 0] #[.int .i64 0, .int .i64 0, .int .i64 0, .int .i64 0, .int .i64 0, .int .i64 0, .slice none 0 0] [.int .i64 0, .int .i64 0, .int .i64 0, .int .i64 0, .int .i64 0, .int .i64 0, .slice none 0 0] rfl rfl (by kernel_rfl) (by simp [Value.oneCell']) Bg3.out (by simp) rfl ?_; intro W5 bx hgr; replace Bg1 := Aside0.mk (seg.far Bg1.out hgr Ng1g3.out); replace Bg2 := Aside0.mk (seg.far Bg2.out hgr Ng2g3.out); replace Bg4 := Aside0.mk (seg.far Bg4.out hgr (Ne.symm Ng3g4.out)); replace HB := Aside0.mk (seg.below HB.out hgr Gg3.out); replace Bg3 := Aside0.mk bx; clear bx hgr; skip) | ((with_reducible refine gate_store (t := 31) (p := 9) rfl ?_); refine seg.list rfl rfl 31 (.tmp 9) _ rfl 31 g4 0 #[.int .i64 0, .int .i64 0, .int .i64 0, .int .i64 0, .int .i64 0, .int .i64 0, .int .i64 0] #[.int .i64 0, .int .i64 0, .int .i64 0, .int .i64 0, .int .i64 0, .int .i64 0, .int .i64 0] [.int .i64 0, .int .i64 0, .int .i64 0, .int .i64 0, .int .i64 0, .int .i64 0, .int .i64 0] rfl rfl (by kernel_rfl) (by simp [Value.oneCell']) Bg4.out (by simp) rfl ?_; intro W6 bx hgr; replace Bg1 := Aside0.mk (seg.far Bg1.out hgr Ng1g4.out); replace Bg2 := Aside0.mk (seg.far Bg2.out hgr Ng2g4.out); replace Bg3 := Aside0.mk (seg.far Bg3.out hgr Ng3g4.out); replace HB := Aside0.mk (seg.below HB.out hgr Gg4.out); replace Bg4 := Aside0.mk bx; clear bx hgr; skip))
      refine bodyPost_ret (results_list (rs := [.cell 8 24, .cell 9 31, .tmp 10]) rfl (by simp) (.cell g3 24 #[.int .i64 0, .int .i64 0, .int .i64 0, .int .i64 0, .int .i64 0, .int .i64 0, .slice none 0 0] (0, 0) _ rfl Bg3.out Try.underlying24 rfl (by kernel_rfl) (.cell g4 31 #[.int .i64 0, .int .i64 0, .int .i64 0, .int .i64 0, .int .i64 0, .int .i64 0, .int .i64 0] (0, 0) _ rfl Bg4.out Try.underlying31 rfl (by kernel_rfl) (.tmp .nil)))) rfl ?_
      exact ⟨_, rfl, Kd.R_nil _ _ _ _ _, HB.out⟩
    case pos =>
      rw [if_pos h2] at h
      subst h2
      obtain ⟨⟨l2, bo2, nx2, i1, i2, i3, i4, i5, i6, i7, e2⟩, hs, h⟩ := Option.bind_eq_some_iff.mp h
      have HS := Aside0.mk hs
      have H' := Aside0.mk h
      clear hs h
      go_upto_region 7 with (first | (go_at_call 27; refine (account_csell.calls k g me rev nx mo1 bo1 fr v2 l1 At ct t a b c d tender l2 bo2 nx2 i1 i2 i3 i4 i5 i6 i7 e2 w _ Gg.out HB.out Bg.out RD.out HT0.out HCT.out HS.out).mono ?_; rintro e ws ⟨rfl, hbx, hk, hb1⟩; replace Bg1 := Aside0.mk (blk_kept Bg1.out hk Ng1g.out); replace Bg2 := Aside0.mk (blk_kept Bg2.out hk Ng2g.out); replace Bg3 := Aside0.mk (blk_kept Bg3.out hk Ng3g.out); replace Bg4 := Aside0.mk (blk_kept Bg4.out hk Ng4g.out); replace HB := Aside0.mk hb1; have HX := Aside0.mk hbx; clear hk hb1 hbx Bg RD) | ((with_reducible refine gate_dst (N := 13) rfl ?_); refine box_event ?hg (N := 13) ?hd (cs := #[.int .i64 0, .int .i64 0, .int .i64 0, .int .i64 0, .int .i64 0, .int .i64 0, .int .i64 0]) (t := 31) ?hr ?_; (case hd => rfl); (case hg => rfl); (case hr => first | (go_simp; done) | (go_simp; rfl)); intro g5 hgq W5 hbox hb; have Ng1g5 := Aside0.mk (by rw [hgq]; exact Nat.ne_of_lt (blk_lt Bg1.out) : g1 ≠ g5); have Ng2g5 := Aside0.mk (by rw [hgq]; exact Nat.ne_of_lt (blk_lt Bg2.out) : g2 ≠ g5); have Ng3g5 := Aside0.mk (by rw [hgq]; exact Nat.ne_of_lt (blk_lt Bg3.out) : g3 ≠ g5); have Ng4g5 := Aside0.mk (by rw [hgq]; exact Nat.ne_of_lt (blk_lt Bg4.out) : g4 ≠ g5); have Gg5 := Aside0.mk (by rw [hgq]; exact below_size HB.out : w.heap.size ≤ g5); replace Bg1 := Aside0.mk (blk_below Bg1.out hb); replace Bg2 := Aside0.mk (blk_below Bg2.out hb); replace Bg3 := Aside0.mk (blk_below Bg3.out hb); replace Bg4 := Aside0.mk (blk_below Bg4.out hb); replace HB := Aside0.mk (below_step HB.out hb); have Bg5 := Aside0.mk hbox; replace HX := Aside0.mk ((fun h0 => let ⟨v3, x, y⟩ := HX.out h0; ⟨v3, blk_below x hb, Kd.R_below y hb, by have := blk_lt x; rw [hgq]; omega⟩) : e2 = 0 → ∃ v3, W5.heap[g]? = some (.cells (clerk.cells me rev nx2 mo1 bo2 fr v3 At t.length ct a b c d) 66 (0, 0)) ∧ Kd.R k39 39 W5 w.heap.size (fun k => k ≠ g) v3 l2 ∧ g ≠ g5); clear hb hbox hgq; skip) | ((with_reducible refine gate_store (t := 31) (p := 13) rfl ?_); refine seg.list rfl rfl 31 (.tmp 13) _ rfl 31 g5 0 #[.int .i64 0, .int .i64 0, .int .i64 0, .int .i64 0, .int .i64 0, .int .i64 0, .int .i64 0] #[.int .i64 i1, .int .i64 i2, .int .i64 i3, .int .i64 i4, .int .i64 i5, .int .i64 i6, .int .i64 i7] [.int .i64 i1, .int .i64 i2, .int .i64 i3, .int .i64 i4, .int .i64 i5, .int .i64 i6, .int .i64 i7] rfl rfl (by kernel_rfl) (by simp [Value.oneCell']) Bg5.out (by simp) rfl ?_; intro W6 bx hgr; replace HX := Aside0.mk ((fun h0 => let ⟨v3, x, y, z⟩ := HX.out h0; ⟨v3, seg.far x hgr z, seg.R (ok := fun k => k ≠ g5) (Kd.R_mono (Kd.R_types y Bg5.out (by decide)) (fun _ h => h.2)) hgr (fun _ h => h), z⟩) : e2 = 0 → ∃ v3, W6.heap[g]? = some (.cells (clerk.cells me rev nx2 mo1 bo2 fr v3 At t.length ct a b c d) 66 (0, 0)) ∧ Kd.R k39 39 W6 w.heap.size (fun k => k ≠ g5) v3 l2 ∧ g ≠ g5); replace Bg1 := Aside0.mk (seg.far Bg1.out hgr Ng1g5.out); replace Bg2 := Aside0.mk (seg.far Bg2.out hgr Ng2g5.out); replace Bg3 := Aside0.mk (seg.far Bg3.out hgr Ng3g5.out); replace Bg4 := Aside0.mk (seg.far Bg4.out hgr Ng4g5.out); replace HB := Aside0.mk (seg.below HB.out hgr Gg5.out); replace Bg5 := Aside0.mk bx; clear bx hgr; have xg50 : W6.cell? ⟨g5, 0, none⟩ = some (.int .i64 i1) := (blk_cell Bg5.out 0).trans rfl; have xg51 : W6.cell? ⟨g5, 1, none⟩ = some (.int .i64 i2) := (blk_cell Bg5.out 1).trans rfl; have xg52 : W6.cell? ⟨g5, 2, none⟩ = some (.int .i64 i3) := (blk_cell Bg5.out 2).trans rfl; have xg53 : W6.cell? ⟨g5, 3, none⟩ = some (.int .i64 i4) := (blk_cell Bg5.out 3).trans rfl; have xg54 : W6.cell? ⟨g5, 4, none⟩ = some (.int .i64 i5) := (blk_cell Bg5.out 4).trans rfl; have xg55 : W6.cell? ⟨g5, 5, none⟩ = some (.int .i64 i6) := (blk_cell Bg5.out 5).trans rfl; have xg56 : W6.cell? ⟨g5, 6, none⟩ = some (.int .i64 i7) := (blk_cell Bg5.out 6).trans rfl; skip))
      have h := H'.out
      clear H'
      by_cases h3 : e2 = 0
      case neg =>
        rw [if_neg h3] at h
        simp only [account_Sell.no, Option.some.injEq, Prod.mk.injEq] at h
        obtain ⟨rfl, rfl, rfl, rfl, rfl, rfl, rfl, rfl, rfl, rfl, rfl, rfl, rfl, rfl, rfl⟩ := h
        have q3 : (e2 != 0) = true := bne_iff_ne.mpr h3
        clear h3
        go_wp2_with (first | ((with_reducible refine gate_store (t := 24) (p := 8) rfl ?_); refine seg.list rfl rfl 24 (.tmp 8) _ rfl 24 g3 0 #[.int .i64 0, .int .i64 0, .int .i64 0, .int .i64 0, .int .i64 0, .int .i64 0, .slice none 0 0] #[.int .i64 0, .int .i64 0, .int .i64 0, .int .i64 0, .int .i64 0, .int .i64 0, .slice none 0 0] [.int .i64 0, .int .i64 0, .int .i64 0, .int .i64 0, .int .i64 0, .int .i64 0, .slice none 0 0] rfl rfl (by kernel_rfl) (by simp [Value.oneCell']) Bg3.out (by simp) rfl ?_; intro W7 bx hgr; clear xg50 xg51 xg52 xg53 xg54 xg55 xg56; replace Bg1 := Aside0.mk (seg.far Bg1.out hgr Ng1g3.out); replace Bg2 := Aside0.mk (seg.far Bg2.out hgr Ng2g3.out); replace Bg4 := Aside0.mk (seg.far Bg4.out hgr (Ne.symm Ng3g4.out)); replace Bg5 := Aside0.mk (seg.far Bg5.out hgr (Ne.symm Ng3g5.out)); replace HB := Aside0.mk (seg.below HB.out hgr Gg3.out); replace Bg3 := Aside0.mk bx; clear bx hgr; skip) | ((with_reducible refine gate_store (t := 31) (p := 9) rfl ?_); refine seg.list rfl rfl 31 (.tmp 9) _ rfl 31 g4 0 #[.int .i64 0, .int .i64 0, .int .i64 0, .int .i64 0, .int .i64 0, .int .i64 0, .int .i64 0] #[.int .i64 0, .int .i64 0, .int .i64 0, .int .i64 0, .int .i64 0, .int .i64 0, .int .i64 0] [.int .i64 0, .int .i64 0, .int .i64 0, .int .i64 0, .int .i64 0, .int .i64 0, .int .i64 0] rfl rfl (by kernel_rfl) (by simp [Value.oneCell']) Bg4.out (by simp) rfl ?_; intro W8 bx hgr; replace Bg1 := Aside0.mk (seg.far Bg1.out hgr Ng1g4.out); replace Bg2 := Aside0.mk (seg.far Bg2.out hgr Ng2g4.out); replace Bg3 := Aside0.mk (seg.far Bg3.out hgr Ng3g4.out); replace Bg5 := Aside0.mk (seg.far Bg5.out hgr (Ne.symm Ng4g5.out)); replace HB := Aside0.mk (seg.below HB.out hgr Gg4.out); replace Bg4 := Aside0.mk bx; clear bx hgr; skip))
        refine bodyPost_ret (results_list (rs := [.cell 8 24, .cell 9 31, .tmp 10]) rfl (by simp) (.cell g3 24 #[.int .i64 0, .int .i64 0, .int .i64 0, .int .i64 0, .int .i64 0, .int .i64 0, .slice none 0 0] (0, 0) _ rfl Bg3.out Try.underlying24 rfl (by kernel_rfl) (.cell g4 31 #[.int .i64 0, .int .i64 0, .int .i64 0, .int .i64 0, .int .i64 0, .int .i64 0, .int .i64 0] (0, 0) _ rfl Bg4.out Try.underlying31 rfl (by kernel_rfl) (.tmp .nil)))) rfl ?_
        exact ⟨_, rfl, Kd.R_nil _ _ _ _ _, HB.out⟩
      case pos =>
        rw [if_pos h3] at h
        subst h3
        simp only [account_Sell.no, Option.some.injEq, Prod.mk.injEq] at h
        obtain ⟨rfl, rfl, rfl, rfl, rfl, rfl, rfl, rfl, rfl, rfl, rfl, rfl, rfl, rfl, rfl⟩ := h
        obtain ⟨v3, hbg, hRg, hne⟩ := HX.out rfl
        obtain ⟨A8, c8, rfl⟩ := Kd.R_slice hRg
        have Bg := Aside0.mk hbg
        have RD := Aside0.mk (Kd.R_types (Kd.R_types (Kd.R_mono (ok' := fun _ => True) hRg (fun _ _ => trivial)) Bg3.out (by decide)) Bg4.out (by decide))
        have Ng5g := Aside0.mk (fun h => hne h.symm : g5 ≠ g)
        obtain ⟨xg0, xg1, xg2, xg3, xg4, xg5, xg6, _, _, _, _, _⟩ := clerk.get hbg
        clear hbg hRg hne HX
        go_upto_region 9 with (fail)
        refine start_ (n := 8) (S := fun w' => w'.cell? ⟨g, 0, none⟩ = some (.int .i64 me) ∧ w'.cell? ⟨g, 1, none⟩ = some (.int .i64 rev) ∧ w'.cell? ⟨g, 2, none⟩ = some (.int .i64 nx2) ∧ w'.cell? ⟨g, 3, none⟩ = some (.int .i64 mo1) ∧ w'.cell? ⟨g, 4, none⟩ = some (.int .i64 bo2) ∧ w'.cell? ⟨g, 5, none⟩ = some (.int .i64 fr) ∧ w'.cell? ⟨g, 6, none⟩ = some (.slice A8 l2.length c8) ∧ w'.cell? ⟨g5, 0, none⟩ = some (.int .i64 i1) ∧ w'.cell? ⟨g5, 1, none⟩ = some (.int .i64 i2) ∧ w'.cell? ⟨g5, 2, none⟩ = some (.int .i64 i3) ∧ w'.cell? ⟨g5, 3, none⟩ = some (.int .i64 i4) ∧ w'.cell? ⟨g5, 4, none⟩ = some (.int .i64 i5) ∧ w'.cell? ⟨g5, 5, none⟩ = some (.int .i64 i6) ∧ w'.cell? ⟨g5, 6, none⟩ = some (.int .i64 i7)) (ds := [6]) #[false, false, false, false, false, false, false, false] (by kernel_rfl) rfl rfl ⟨xg0, xg1, xg2, xg3, xg4, xg5, xg6, xg50, xg51, xg52, xg53, xg54, xg55, xg56⟩ (fun hHeld => ?_)
        refine pp 0 41 ?_
        refine pp 1 42 ?_
        refine pp 2 43 ?_
        refine tk 3 44 ?_
        refine tk 4 45 ?_
        refine one_ (i := 5) (N := none) #[true, true, true, true, true, true, false, false] rfl rfl (by kernel_rfl) (by decide) (fun K hK => ?_)
        refine seg.step (by rfl) rfl 24 (.tmp 8) _ (by rfl) 24 g3 0 #[.int .i64 0, .int .i64 0, .int .i64 0, .int .i64 0, .int .i64 0, .int .i64 0, .slice none 0 0] #[.int .i64 me, .int .i64 rev, .int .i64 nx2, .int .i64 mo1, .int .i64 bo2, .int .i64 fr, .slice A8 l2.length c8] [.int .i64 me, .int .i64 rev, .int .i64 nx2, .int .i64 mo1, .int .i64 bo2, .int .i64 fr, .slice A8 l2.length c8] (by rfl) (by rfl) (by kernel_rfl) (by simp [Value.oneCell']) (blk_drew Bg3.out) (by simp) rfl ?_
        intro W7 bx hgr
        replace RD := Aside0.mk (seg.R (ok := fun k => ((True) ∧ k ≠ g3) ∧ k ≠ g4) (Kd.R_drew RD.out) hgr (fun k hk => hk.1.2))
        replace Bg1 := Aside0.mk (seg.far (blk_drew Bg1.out) hgr Ng1g3.out)
        replace Bg2 := Aside0.mk (seg.far (blk_drew Bg2.out) hgr Ng2g3.out)
        replace Bg4 := Aside0.mk (seg.far (blk_drew Bg4.out) hgr (Ne.symm Ng3g4.out))
        replace Bg5 := Aside0.mk (seg.far (blk_drew Bg5.out) hgr (Ne.symm Ng3g5.out))
        replace Bg := Aside0.mk (seg.far (blk_drew Bg.out) hgr (Ne.symm Ng3g.out))
        replace HB := Aside0.mk (seg.below (below_drew1 HB.out) hgr Gg3.out)
        replace Bg3 := Aside0.mk bx
        clear bx hgr
        have xg50 : W7.cell? ⟨g5, 0, none⟩ = some (.int .i64 i1) := (blk_cell Bg5.out 0).trans rfl
        have xg51 : W7.cell? ⟨g5, 1, none⟩ = some (.int .i64 i2) := (blk_cell Bg5.out 1).trans rfl
        have xg52 : W7.cell? ⟨g5, 2, none⟩ = some (.int .i64 i3) := (blk_cell Bg5.out 2).trans rfl
        have xg53 : W7.cell? ⟨g5, 3, none⟩ = some (.int .i64 i4) := (blk_cell Bg5.out 3).trans rfl
        have xg54 : W7.cell? ⟨g5, 4, none⟩ = some (.int .i64 i5) := (blk_cell Bg5.out 4).trans rfl
        have xg55 : W7.cell? ⟨g5, 5, none⟩ = some (.int .i64 i6) := (blk_cell Bg5.out 5).trans rfl
        have xg56 : W7.cell? ⟨g5, 6, none⟩ = some (.int .i64 i7) := (blk_cell Bg5.out 6).trans rfl
        have xg0 : W7.cell? ⟨g, 0, none⟩ = some (.int .i64 me) := (blk_cell Bg.out 0).trans rfl
        have xg1 : W7.cell? ⟨g, 1, none⟩ = some (.int .i64 rev) := (blk_cell Bg.out 1).trans rfl
        have xg2 : W7.cell? ⟨g, 2, none⟩ = some (.int .i64 nx2) := (blk_cell Bg.out 2).trans rfl
        have xg3 : W7.cell? ⟨g, 3, none⟩ = some (.int .i64 mo1) := (blk_cell Bg.out 3).trans rfl
        have xg4 : W7.cell? ⟨g, 4, none⟩ = some (.int .i64 bo2) := (blk_cell Bg.out 4).trans rfl
        have xg5 : W7.cell? ⟨g, 5, none⟩ = some (.int .i64 fr) := (blk_cell Bg.out 5).trans rfl
        have xg6 : W7.cell? ⟨g, 6, none⟩ = some (.slice A8 l2.length c8) := (blk_cell Bg.out 6).trans rfl
        refine hK.out _ _ ⟨xg0, xg1, xg2, xg3, xg4, xg5, xg6, xg50, xg51, xg52, xg53, xg54, xg55, xg56⟩ (fun hHeld => ?_)
        clear hK K
        refine last_ (i := 6) (N := none) #[true, true, true, true, true, true, true, false] rfl rfl (by kernel_rfl) (by decide) (fun K hK => ?_)
        refine seg.step (by rfl) rfl 31 (.tmp 9) _ (by rfl) 31 g4 0 #[.int .i64 0, .int .i64 0, .int .i64 0, .int .i64 0, .int .i64 0, .int .i64 0, .int .i64 0] #[.int .i64 i1, .int .i64 i2, .int .i64 i3, .int .i64 i4, .int .i64 i5, .int .i64 i6, .int .i64 i7] [.int .i64 i1, .int .i64 i2, .int .i64 i3, .int .i64 i4, .int .i64 i5, .int .i64 i6, .int .i64 i7] (by rfl) (by rfl) (by kernel_rfl) (by simp [Value.oneCell']) Bg4.out (by simp) rfl ?_
        intro W8 bx hgr
        clear xg50 xg51 xg52 xg53 xg54 xg55 xg56 xg0 xg1 xg2 xg3 xg4 xg5 xg6
        replace RD := Aside0.mk (seg.R (ok := fun k => ((True) ∧ k ≠ g3) ∧ k ≠ g4) RD.out hgr (fun k hk => hk.2))
        replace Bg1 := Aside0.mk (seg.far Bg1.out hgr Ng1g4.out)
        replace Bg2 := Aside0.mk (seg.far Bg2.out hgr Ng2g4.out)
        replace Bg3 := Aside0.mk (seg.far Bg3.out hgr Ng3g4.out)
        replace Bg5 := Aside0.mk (seg.far Bg5.out hgr (Ne.symm Ng4g5.out))
        replace Bg := Aside0.mk (seg.far Bg.out hgr (Ne.symm Ng4g.out))
        replace HB := Aside0.mk (seg.below HB.out hgr Gg4.out)
        replace Bg4 := Aside0.mk bx
        clear bx hgr
        refine hK.out _ _ ?_
        clear hK K
        refine pp 7 10 ?_
        refine done_ (by kernel_rfl) ?_
        go_wp2
        refine bodyPost_ret (results_list (rs := [.cell 8 24, .cell 9 31, .tmp 10]) rfl (by simp) (.cell g3 24 #[.int .i64 me, .int .i64 rev, .int .i64 nx2, .int .i64 mo1, .int .i64 bo2, .int .i64 fr, .slice A8 l2.length c8] (0, 0) _ rfl Bg3.out Try.underlying24 rfl (by kernel_rfl) (.cell g4 31 #[.int .i64 i1, .int .i64 i2, .int .i64 i3, .int .i64 i4, .int .i64 i5, .int .i64 i6, .int .i64 i7] (0, 0) _ rfl Bg4.out Try.underlying31 rfl (by kernel_rfl) (.tmp .nil)))) rfl ?_
        exact ⟨_, rfl, Kd.R_mono RD.out (fun _ _ => trivial), HB.out⟩

/-! ### vendmeterref_In: function 31 -/
def vendmeterref_In.f (a0 : Int) (a1 : Int) (a2 : Int) : Option (Bool) := if a0 ≥ a1 then (some (decide (a0 ≤ a2))) else (some false)
set_option maxHeartbeats 8000000 in
set_option maxRecDepth 100000 in
theorem vendmeterref_In.calls (a0 : Int) (a1 : Int) (a2 : Int) (r : Bool) (w : World) (h : vendmeterref_In.f a0 a1 a2 = some r) :
    Calls Try.prog 31 #[.int .i64 a0, .int .i64 a1, .int .i64 a2] w fun e w' => e = .returned (.bool r) ∧ Drawn0 w w' := by
  have H : (if a0 ≥ a1 then (some (decide (a0 ≤ a2))) else (some false)) = some r := h
  clear h
  by_cases c4 : a0 ≥ a1
  · rw [if_pos c4] at H
    have c4b0 : decide (a1 ≤ a0) = true := decide_eq_true c4
    clear c4
    obtain rfl := Option.some.inj H
    go_enter Try.func31, Try.ntmps31
    go_wp2
    go_ret
    exact ⟨by first | rfl | (simp; done) | (simp [*]; done), by repeat (first | exact Drawn0.refl _ | apply Drawn0.step)⟩
  · rw [if_neg c4] at H
    have c4b0 : decide (a1 ≤ a0) = false := decide_eq_false c4
    clear c4
    obtain rfl := Option.some.inj H
    go_enter Try.func31, Try.ntmps31
    go_wp2
    go_ret
    exact ⟨by first | rfl | (simp; done) | (simp [*]; done), by repeat (first | exact Drawn0.refl _ | apply Drawn0.step)⟩

/-! ### vendmeterref_DebtFault: function 55 -/
def vendmeterref_DebtFault.l0 : Nat → List (S39) → Int → Option (Int)
  | 0, _, _ => none
  | k + 1, x0, x3 => if x3 < (x0.length : Int) then (if 0 ≤ x3 then ((vendmeterref_In.f ((rd_T39 x0 x3).f0) 0 1000000000).bind fun t163 => (if t163 = true then ((vendmeterref_In.f ((rd_T39 x0 x3).f1) 0 10000).bind fun t165 => (if t165 = true then (vendmeterref_DebtFault.l0 k x0 (wrap64 (x3 + 1))) else (some 2))) else (some 2))) else (none)) else (some 0)
def vendmeterref_DebtFault.f (k : Nat) (l0 : List (S39)) : Option (Int) := if (l0.length : Int) > 8 then (some 1) else (vendmeterref_DebtFault.l0 k l0 0)
theorem vendmeterref_DebtFault.mono_l : ∀ k, (∀ y0 y1, LeO (vendmeterref_DebtFault.l0 k y0 y1) (vendmeterref_DebtFault.l0 (k + 1) y0 y1))
  | 0 => fun _ _ r h => by simp [vendmeterref_DebtFault.l0] at h
  | k + 1 => by
    have ih0 := vendmeterref_DebtFault.mono_l k
    · intro y0 y1
      unfold vendmeterref_DebtFault.l0
      repeat' first
      | (with_reducible exact ih0 _ _)
      | (with_reducible exact LeO.refl _)
      | (with_reducible exact LeO.none _)
      | (with_reducible refine LeO.ite ?_ ?_)
      | (with_reducible refine LeO.bind ?_ (fun _ => ?_))
      | exact ih0 _ _
      | exact LeO.none _
      | refine LeO.ite ?_ ?_
      | refine LeO.bind ?_ (fun _ => ?_)
theorem vendmeterref_DebtFault.mono : ∀ a0 k, LeO (vendmeterref_DebtFault.f k a0) (vendmeterref_DebtFault.f (k + 1) a0) := by
  intro a0 k
  have ih0 := vendmeterref_DebtFault.mono_l k
  unfold vendmeterref_DebtFault.f
  repeat' first
      | (with_reducible exact ih0 _ _)
      | (with_reducible exact LeO.refl _)
      | (with_reducible exact LeO.none _)
      | (with_reducible refine LeO.ite ?_ ?_)
      | (with_reducible refine LeO.bind ?_ (fun _ => ?_))
      | exact ih0 _ _
      | exact LeO.none _
      | refine LeO.ite ?_ ?_
      | refine LeO.bind ?_ (fun _ => ?_)
set_option maxHeartbeats 8000000 in
set_option maxRecDepth 100000 in
theorem vendmeterref_DebtFault.calls (k : Nat) (A0 : Option Addr) (c0 : Nat) (l0 : List (S39)) (r : Int) (w : World) (hr0 : Kd.C k39 w A0 l0.length l0) (hc0 : l0.length ≤ c0) (h : vendmeterref_DebtFault.f k l0 = some r) :
    Calls Try.prog 55 #[.slice A0 l0.length c0] w fun e w' => e = .returned (.int .i64 r) ∧ Drawn0 w w' := by
  have HR0 := Aside0.mk hr0
  have HC0 := Aside0.mk hc0
  clear hr0 hc0
  have H : (if (l0.length : Int) > 8 then (some 1) else (vendmeterref_DebtFault.l0 k l0 0)) = some r := h
  clear h
  by_cases c2 : (l0.length : Int) > 8
  · rw [if_pos c2] at H
    have c2b0 : decide (8 < (l0.length : Int)) = true := decide_eq_true c2
    have c2b1 : decide (8 < l0.length) = true := decide_eq_true (by omega)
    clear c2
    obtain rfl := Option.some.inj H
    go_enter Try.func55, Try.ntmps55
    go_wp2
    go_ret
    exact ⟨by first | rfl | (simp; done) | (simp [*]; done), by repeat (first | exact Drawn0.refl _ | apply Drawn0.step)⟩
  · rw [if_neg c2] at H
    have c2b0 : decide (8 < (l0.length : Int)) = false := decide_eq_false c2
    have c2b1 : decide (8 < l0.length) = false := decide_eq_false (by omega)
    clear c2
    have H' := Aside0.mk H
    clear H
    go_enter Try.func55, Try.ntmps55
    go_wp2
    go_loopg [3] k (fun kq v3 w' => ∃ (x3_1 : Int), v3 = .int .i64 x3_1 ∧ Aside0 (vendmeterref_DebtFault.l0 kq l0 x3_1 = some r) ∧ Aside0 (kq ≤ k) ∧ Drawn0 w w')
    case atStart => exact ⟨(0), (by first | rfl | (simp; done) | (simp [*]; done)), H', ⟨Nat.le_refl _⟩, by repeat (first | exact Drawn0.refl _ | apply Drawn0.step)⟩
    case round =>
      clear H'
      try clear c2
      try clear c2b0
      try clear c2b1
      try clear p2
      obtain ⟨x3_1, rfl, HA, HK1, ⟨m1, rfl⟩⟩ := hrel
      cases gk with
      | zero => exact absurd HA.out (by simp [vendmeterref_DebtFault.l0])
      | succ k1 =>
        have H := HA.out
        clear HA
        simp only [vendmeterref_DebtFault.l0] at H
        by_cases c3 : x3_1 < (l0.length : Int)
        · rw [if_pos c3] at H
          have c3b0 : decide (x3_1 < (l0.length : Int)) = true := decide_eq_true c3
          clear c3
          by_cases c4 : 0 ≤ x3_1
          · rw [if_pos c4] at H
            have c4b0 : decide (0 ≤ x3_1) = true := decide_eq_true c4
            clear c4
            replace H := Option.bind_eq_some_iff.mp H
            obtain ⟨t163, A50, H⟩ := H
            replace H : (if t163 = true then ((vendmeterref_In.f ((rd_T39 l0 x3_1).f1) 0 10000).bind fun t165 => (if t165 = true then (vendmeterref_DebtFault.l0 k1 l0 (wrap64 (x3_1 + 1))) else (some 2))) else (some 2)) = some r := H
            have A5 := Aside0.mk A50
            clear A50
            by_cases c6 : t163 = true
            · subst c6
              have H1 : ((vendmeterref_In.f ((rd_T39 l0 x3_1).f1) 0 10000).bind fun t165 => (if t165 = true then (vendmeterref_DebtFault.l0 k1 l0 (wrap64 (x3_1 + 1))) else (some 2))) = some r := by rw [if_pos rfl] at H; exact H
              clear H
              have H := H1
              clear H1
              replace H := Option.bind_eq_some_iff.mp H
              obtain ⟨t165, A70, H⟩ := H
              replace H : (if t165 = true then (vendmeterref_DebtFault.l0 k1 l0 (wrap64 (x3_1 + 1))) else (some 2)) = some r := H
              have A7 := Aside0.mk A70
              clear A70
              by_cases c8 : t165 = true
              · subst c8
                have H1 : (vendmeterref_DebtFault.l0 k1 l0 (wrap64 (x3_1 + 1))) = some r := by rw [if_pos rfl] at H; exact H
                clear H
                have H := H1
                clear H1
                have H' := Aside0.mk H
                clear H
                have p162 : 0 ≤ (x3_1 : Int) := of_decide_eq_true (by first | (with_reducible assumption) | assumption)
                have q162 : x3_1 < (l0.length : Int) := of_decide_eq_true (by first | (with_reducible assumption) | assumption)
                obtain ⟨ad162, e162, hx162_0, hx162_1⟩ := at_T39 HR0.out x3_1 p162 q162
                cases e162
                replace p162 := eq_true p162
                replace q162 := eq_true q162
                go_wp2_with (first | ((with_reducible refine gate_callee (f := 31) rfl ?_); refine goesL_ (some 18) rfl rfl Try.func31 (by kernel_rfl) rfl #[.int .i64 ((rd_T39 l0 x3_1).f0), .int .i64 0, .int .i64 1000000000] rfl (by (try simp only [List.map_toArray, List.map_cons, List.map_nil]); first | done | rfl | (simp only [List.length_drop, List.length_take]; rfl)) ?_; (with_reducible refine (vendmeterref_In.calls ((rd_T39 l0 x3_1).f0) 0 1000000000 true _ A5.out).mono ?_); rintro e w' ⟨rfl, ⟨nd, rfl⟩⟩; refine ⟨_, rfl, ?_⟩; have p164 : 0 ≤ (x3_1 : Int) := of_decide_eq_true (by first | (with_reducible assumption) | assumption); have q164 : x3_1 < (l0.length : Int) := of_decide_eq_true (by first | (with_reducible assumption) | assumption); obtain ⟨ad164, e164, hx164_0, hx164_1⟩ := at_T39 HR0.out x3_1 p164 q164; obtain rfl : ad162 = ad164 := (by injection e164); replace p164 := eq_true p164; replace q164 := eq_true q164) | (go_at_call 31; (with_reducible refine (vendmeterref_In.calls ((rd_T39 l0 x3_1).f1) 0 10000 true _ A7.out).mono ?_); rintro e w' ⟨rfl, ⟨nd, rfl⟩⟩))
                go_roundg k1
                case measure => have := HK1.out; omega
                case rel => exact ⟨(wrap64 (x3_1 + 1)), (by first | rfl | (simp; done) | (simp [*]; done)), H', ⟨by have := HK1.out; omega⟩, by repeat (first | exact Drawn0.refl _ | apply Drawn0.step)⟩
              · replace c8 := Bool.eq_false_iff.mpr c8
                subst c8
                have H1 : (some 2) = some r := by rw [if_neg (show ¬ (false = true) by decide)] at H; exact H
                clear H
                have H := H1
                clear H1
                obtain rfl := Option.some.inj H
                have p162 : 0 ≤ (x3_1 : Int) := of_decide_eq_true (by first | (with_reducible assumption) | assumption)
                have q162 : x3_1 < (l0.length : Int) := of_decide_eq_true (by first | (with_reducible assumption) | assumption)
                obtain ⟨ad162, e162, hx162_0, hx162_1⟩ := at_T39 HR0.out x3_1 p162 q162
                cases e162
                replace p162 := eq_true p162
                replace q162 := eq_true q162
                go_wp2_with (first | ((with_reducible refine gate_callee (f := 31) rfl ?_); refine goesL_ (some 18) rfl rfl Try.func31 (by kernel_rfl) rfl #[.int .i64 ((rd_T39 l0 x3_1).f0), .int .i64 0, .int .i64 1000000000] rfl (by (try simp only [List.map_toArray, List.map_cons, List.map_nil]); first | done | rfl | (simp only [List.length_drop, List.length_take]; rfl)) ?_; (with_reducible refine (vendmeterref_In.calls ((rd_T39 l0 x3_1).f0) 0 1000000000 true _ A5.out).mono ?_); rintro e w' ⟨rfl, ⟨nd, rfl⟩⟩; refine ⟨_, rfl, ?_⟩; have p164 : 0 ≤ (x3_1 : Int) := of_decide_eq_true (by first | (with_reducible assumption) | assumption); have q164 : x3_1 < (l0.length : Int) := of_decide_eq_true (by first | (with_reducible assumption) | assumption); obtain ⟨ad164, e164, hx164_0, hx164_1⟩ := at_T39 HR0.out x3_1 p164 q164; obtain rfl : ad162 = ad164 := (by injection e164); replace p164 := eq_true p164; replace q164 := eq_true q164) | (go_at_call 31; (with_reducible refine (vendmeterref_In.calls ((rd_T39 l0 x3_1).f1) 0 10000 false _ A7.out).mono ?_); rintro e w' ⟨rfl, ⟨nd, rfl⟩⟩))
                go_ret
                exact ⟨by first | rfl | (simp; done) | (simp [*]; done), by repeat (first | exact Drawn0.refl _ | apply Drawn0.step)⟩
            · replace c6 := Bool.eq_false_iff.mpr c6
              subst c6
              have H1 : (some 2) = some r := by rw [if_neg (show ¬ (false = true) by decide)] at H; exact H
              clear H
              have H := H1
              clear H1
              obtain rfl := Option.some.inj H
              have p162 : 0 ≤ (x3_1 : Int) := of_decide_eq_true (by first | (with_reducible assumption) | assumption)
              have q162 : x3_1 < (l0.length : Int) := of_decide_eq_true (by first | (with_reducible assumption) | assumption)
              obtain ⟨ad162, e162, hx162_0, hx162_1⟩ := at_T39 HR0.out x3_1 p162 q162
              cases e162
              replace p162 := eq_true p162
              replace q162 := eq_true q162
              go_wp2_with (first | ((with_reducible refine gate_callee (f := 31) rfl ?_); refine goesL_ (some 18) rfl rfl Try.func31 (by kernel_rfl) rfl #[.int .i64 ((rd_T39 l0 x3_1).f0), .int .i64 0, .int .i64 1000000000] rfl (by (try simp only [List.map_toArray, List.map_cons, List.map_nil]); first | done | rfl | (simp only [List.length_drop, List.length_take]; rfl)) ?_; (with_reducible refine (vendmeterref_In.calls ((rd_T39 l0 x3_1).f0) 0 1000000000 false _ A5.out).mono ?_); rintro e w' ⟨rfl, ⟨nd, rfl⟩⟩; refine ⟨_, rfl, ?_⟩))
              go_ret
              exact ⟨by first | rfl | (simp; done) | (simp [*]; done), by repeat (first | exact Drawn0.refl _ | apply Drawn0.step)⟩
          · rw [if_neg c4] at H
            exact absurd H (by simp)
        · rw [if_neg c3] at H
          have c3b0 : decide (x3_1 < (l0.length : Int)) = false := decide_eq_false c3
          clear c3
          obtain rfl := Option.some.inj H
          go_wp2
          go_ret
          exact ⟨by first | rfl | (simp; done) | (simp [*]; done), by repeat (first | exact Drawn0.refl _ | apply Drawn0.step)⟩

end Go.Proofs.Ytojnaalncgofhaa.PAccountSells
