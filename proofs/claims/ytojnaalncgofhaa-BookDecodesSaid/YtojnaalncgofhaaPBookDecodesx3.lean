-- written by this session's program wip/xp/xprint.py (it drives the kit's print and adds to it)
import Derived.Test.YtojnaalncgofhaaPBookDecodesx0
namespace Go.Proofs.Ytojnaalncgofhaa.PBookDecodes
open Go.RowKit Go.Proofs.YtojnaalncgofhaaW.PrintWords Go.Proofs.YtojnaalncgofhaaW.PrintLast Go.Proofs.YtojnaalncgofhaaW.PrintMore
attribute [local go_sem] max2_int min2_int max_two min_two max_three min_three max_four min_four   -- for this text's walks alone
set_option linter.unusedVariables false
set_option linter.unusedSimpArgs false

section
variable {P : Program} {ops : Array Oper} {o : Oper} {a : Act} {Q : Exit → Act → World → Prop} {W : World}
theorem seg.run {t : TypeId} {e : TypeId} {g : Nat} {cur new : Array Value} {u : Value} (i : Nat) (cs : List Value) (hu : u.cells.toList = cs) (ht : (P.info? t).map (·.size) = some cs.length) (h1 : ∀ q ∈ cs, q.oneCell' = true) (hh : W.heap[g]? = some (.cells cur e (0, 0))) (hsz : i + cs.length ≤ cur.size) (hnew : cur.toList.take i ++ cs ++ cur.toList.drop (i + cs.length) = new.toList) :
    (Instr.storeAt t (.pointer (some ⟨g, i, none⟩)) u).run P W = .ok () (W.setCells g i cs) ∧ (W.setCells g i cs).heap[g]? = some (.cells new e (0, 0)) ∧ W.grownBy (W.setCells g i cs) (some g) := by
  refine ⟨run_store_run t u cs hh hu ht hsz h1, ?_, ?_⟩
  · obtain ⟨cur', h2, h3, h4⟩ := setCells_row cs i W cur hh hsz
    rw [h2]
    have : cur' = new := Array.toList_inj.1 (h4.trans hnew)
    rw [this]
  · obtain ⟨q1, q2, q3, q4⟩ := setCells_same g cs i W
    exact ⟨q1, q2, q3, by rw [q4]; exact Nat.le_refl _, fun k _ hk => setCells_far _ _ k (fun h => hk (by rw [h]))⟩
theorem seg.list {rest : List Oper} (hN : o.dst = none) (hgd : o.guard = none) (t : TypeId) (p x : Operand) (ho : o.op = .store t p x) (e : TypeId) (g i : Nat) (cur new : Array Value) (cs : List Value) (haddr : a.eval p = .pointer (some ⟨g, i, none⟩)) (hu : (a.eval x).cells.toList = cs) (ht : (P.info? t).map (·.size) = some cs.length) (h1 : ∀ q ∈ cs, q.oneCell' = true) (hh : W.heap[g]? = some (.cells cur e (0, 0))) (hsz : i + cs.length ≤ cur.size) (hnew : cur.toList.take i ++ cs ++ cur.toList.drop (i + cs.length) = new.toList)
    (h : ∀ w1, w1.heap[g]? = some (.cells new e (0, 0)) → W.grownBy w1 (some g) → wpList P ops Q rest a w1) : wpList P ops Q (o :: rest) a W := by
  obtain ⟨hrun, hb, hg⟩ := seg.run (P := P) (t := t) i cs hu ht h1 hh hsz hnew
  refine wpList_plain hgd fun K hK => ?_
  unfold Oper.wp execOp
  simp only [ho, haddr, Sem.run_bind, Sem.run_pure, Result.andThen_ok, hrun]
  show K (a.put o.dst undef) _
  rw [hN]
  exact hK a _ (h _ hb hg)
theorem seg.step {Kc : Act → World → Prop} (hw : Region.wanted o (yielded ops a.tmps) = true) (hN : o.dst = none) (t : TypeId) (p x : Operand) (ho : o.op = .store t p x) (e : TypeId) (g i : Nat) (cur new : Array Value) (cs : List Value) (haddr : a.eval p = .pointer (some ⟨g, i, none⟩)) (hu : (a.eval x).cells.toList = cs) (ht : (P.info? t).map (·.size) = some cs.length) (h1 : ∀ q ∈ cs, q.oneCell' = true) (hh : W.heap[g]? = some (.cells cur e (0, 0))) (hsz : i + cs.length ≤ cur.size) (hnew : cur.toList.take i ++ cs ++ cur.toList.drop (i + cs.length) = new.toList)
    (h : ∀ w1, w1.heap[g]? = some (.cells new e (0, 0)) → W.grownBy w1 (some g) → Kc (a.put o.dst undef) w1) :
    if Region.wanted o (yielded ops a.tmps) = true then Oper.wp P o a W Kc Q else Kc (a.put o.dst undef) W := by
  obtain ⟨hrun, hb, hg⟩ := seg.run (P := P) (t := t) i cs hu ht h1 hh hsz hnew
  rw [if_pos hw]
  unfold Oper.wp execOp
  simp only [ho, haddr, Sem.run_bind, Sem.run_pure, Result.andThen_ok, hrun]
  exact h _ hb hg
end
theorem seg.below {w W w1 : World} {g : Nat} (h : Below w.heap.size w W) (hg : W.grownBy w1 (some g)) (hl : w.heap.size ≤ g) : Below w.heap.size w w1 := pw_below_grown h (some g) h.size hg (fun k hk => by cases hk; exact hl)
theorem seg.far {W w1 : World} {g h : Nat} {ob : Obj} (hb : W.heap[h]? = some ob) (hg : W.grownBy w1 (some g)) (hne : h ≠ g) : w1.heap[h]? = some ob := blk_grown hb hg (fun e => hne (Option.some.inj e))
theorem seg.R {α : Type} {d : Kd α} {e base : Nat} {ok : Nat → Prop} {W w1 : World} {v : Value} {xs : List α} {g : Nat} (h : d.R e W base ok v xs) (hg : W.grownBy w1 (some g)) (hok : ∀ k, ok k → k ≠ g) : d.R e w1 base ok v xs := Kd.R_grown h hg (fun k hk e => hok k hk (Option.some.inj e))

def evZ (id te de fe pr ch un : Int) : Prop := id = 0 ∧ te = 0 ∧ de = 0 ∧ fe = 0 ∧ pr = 0 ∧ ch = 0 ∧ un = 0
instance (id te de fe pr ch un : Int) : Decidable (evZ id te de fe pr ch un) := by unfold evZ; infer_instance
def evT (id tg : Int) : Prop := (1 ≤ id ∧ id ≤ 1048575) ∧ (0 ≤ tg ∧ tg ≤ 65535)
instance (id tg : Int) : Decidable (evT id tg) := by unfold evT; infer_instance
def evU (un mo : Int) : Prop := (1 ≤ un ∧ un ≤ 2097151) ∧ (0 ≤ mo ∧ mo ≤ 2399)
instance (un mo : Int) : Decidable (evU un mo) := by unfold evU; infer_instance
def evB (te de fe pr ch : Int) : Prop := 0 ≤ de ∧ 0 ≤ fe ∧ 0 ≤ pr ∧ 0 ≤ ch ∧ 1 ≤ te ∧ te ≤ 100000000 ∧ te = de + fe + pr + ch
instance (te de fe pr ch : Int) : Decidable (evB te de fe pr ch) := by unfold evB; infer_instance
def evM1 (k mo id te de fe pr ch un tg ow bp : Int) : Prop := k = 1 ∧ mo = 0 ∧ evZ id te de fe pr ch un ∧ tg = 0 ∧ ow = 0 ∧ bp = 0
instance (k mo id te de fe pr ch un tg ow bp : Int) : Decidable (evM1 k mo id te de fe pr ch un tg ow bp) := by unfold evM1; infer_instance
def evM2 (k mo id te de fe pr ch un tg ow bp : Int) : Prop := k = 2 ∧ evB te de fe pr ch ∧ evU un mo ∧ evT id tg ∧ ow = 0 ∧ bp = 0
instance (k mo id te de fe pr ch un tg ow bp : Int) : Decidable (evM2 k mo id te de fe pr ch un tg ow bp) := by unfold evM2; infer_instance
def evM3 (k mo id te de fe pr ch un tg ow bp : Int) : Prop := k = 3 ∧ evZ 0 te de fe pr ch 0 ∧ evU un mo ∧ evT id tg ∧ ow = 0 ∧ bp = 0
instance (k mo id te de fe pr ch un tg ow bp : Int) : Decidable (evM3 k mo id te de fe pr ch un tg ow bp) := by unfold evM3; infer_instance
def evM4 (k mo id te de fe pr ch un tg ow bp : Int) : Prop := k = 4 ∧ mo = 0 ∧ evZ 0 te de fe pr ch un ∧ evT id tg ∧ ow = 0 ∧ bp = 0
instance (k mo id te de fe pr ch un tg ow bp : Int) : Decidable (evM4 k mo id te de fe pr ch un tg ow bp) := by unfold evM4; infer_instance
def evM5 (k mo id te de fe pr ch un tg ow bp : Int) : Prop := k = 5 ∧ mo = 0 ∧ evZ id te de fe pr ch un ∧ tg = 0 ∧ (1 ≤ ow ∧ ow ≤ 1000000000) ∧ (0 ≤ bp ∧ bp ≤ 10000)
instance (k mo id te de fe pr ch un tg ow bp : Int) : Decidable (evM5 k mo id te de fe pr ch un tg ow bp) := by unfold evM5; infer_instance
def evMay (k me mo id te de fe pr ch un tg ow bp : Int) : Prop :=
  (0 ≤ me ∧ me ≤ 49) ∧ (evM1 k mo id te de fe pr ch un tg ow bp ∨ evM2 k mo id te de fe pr ch un tg ow bp ∨ evM3 k mo id te de fe pr ch un tg ow bp ∨ evM4 k mo id te de fe pr ch un tg ow bp ∨ evM5 k mo id te de fe pr ch un tg ow bp)
instance evMay_dec (k me mo id te de fe pr ch un tg ow bp : Int) : Decidable (evMay k me mo id te de fe pr ch un tg ow bp) := by unfold evMay; infer_instance
def evOk (k me mo id te de fe pr ch un tg ow bp : Int) : Bool := decide (evMay k me mo id te de fe pr ch un tg ow bp)

theorem evA_Bill (d : Nat) (w : World) (x0 y0 : Int) (x1 y1 : Int) (x2 y2 : Int) (x3 y3 : Int) (x4 y4 : Int) (x5 y5 : Int) (x6 y6 : Int) :
    (Op.equalIn (d + 2) 31 (.agg #[.int .i64 x0, .int .i64 x1, .int .i64 x2, .int .i64 x3, .int .i64 x4, .int .i64 x5, .int .i64 x6]) (.agg #[.int .i64 y0, .int .i64 y1, .int .i64 y2, .int .i64 y3, .int .i64 y4, .int .i64 y5, .int .i64 y6])).run Try.prog w = .ok (x0 == y0 && (x1 == y1 && (x2 == y2 && (x3 == y3 && (x4 == y4 && (x5 == y5 && (x6 == y6))))))) w := by
  refine eqA_of Try.underlying31 (by kernel_rfl) ?_
  refine eqf_cons (by rfl) (by go_simp; rfl) (by go_simp; rfl) (by go_simp) ?_
  refine eqf_cons (by rfl) (by go_simp; rfl) (by go_simp; rfl) (by go_simp) ?_
  refine eqf_cons (by rfl) (by go_simp; rfl) (by go_simp; rfl) (by go_simp) ?_
  refine eqf_cons (by rfl) (by go_simp; rfl) (by go_simp; rfl) (by go_simp) ?_
  refine eqf_cons (by rfl) (by go_simp; rfl) (by go_simp; rfl) (by go_simp) ?_
  refine eqf_cons (by rfl) (by go_simp; rfl) (by go_simp; rfl) (by go_simp) ?_
  exact eqf_last (by rfl) (by go_simp; rfl) (by go_simp; rfl) (by go_simp)
theorem evA_Debt (d : Nat) (w : World) (x0 y0 : Int) (x1 y1 : Int) :
    (Op.equalIn (d + 2) 39 (.agg #[.int .i64 x0, .int .i64 x1]) (.agg #[.int .i64 y0, .int .i64 y1])).run Try.prog w = .ok (x0 == y0 && (x1 == y1)) w := by
  refine eqA_of Try.underlying39 (by kernel_rfl) ?_
  refine eqf_cons (by rfl) (by go_simp; rfl) (by go_simp; rfl) (by go_simp) ?_
  exact eqf_last (by rfl) (by go_simp; rfl) (by go_simp; rfl) (by go_simp)
theorem evA_Event (d : Nat) (w : World) (x0 y0 : Int) (x1 y1 : Int) (x2 y2 : Int) (x3 y3 : Int) (x4 y4 : Int) (x5 y5 : Int) (x6 y6 : Int) (x7 y7 : Int) (x8 y8 : Int) (x9 y9 : Int) (x10 y10 : Int) (x11 y11 : Int) (x12 y12 : Int) :
    (Op.equalIn (d + 3) 41 (.agg #[.int .i64 x0, .int .i64 x1, .int .i64 x2, .int .i64 x3, .int .i64 x4, .int .i64 x5, .int .i64 x6, .int .i64 x7, .int .i64 x8, .int .i64 x9, .int .i64 x10, .int .i64 x11, .int .i64 x12]) (.agg #[.int .i64 y0, .int .i64 y1, .int .i64 y2, .int .i64 y3, .int .i64 y4, .int .i64 y5, .int .i64 y6, .int .i64 y7, .int .i64 y8, .int .i64 y9, .int .i64 y10, .int .i64 y11, .int .i64 y12])).run Try.prog w = .ok (x0 == y0 && (x1 == y1 && (x2 == y2 && ((x3 == y3 && (x4 == y4 && (x5 == y5 && (x6 == y6 && (x7 == y7 && (x8 == y8 && (x9 == y9))))))) && (x10 == y10 && ((x11 == y11 && (x12 == y12)))))))) w := by
  refine eqA_of Try.underlying41 (by kernel_rfl) ?_
  refine eqf_cons (by rfl) (by go_simp; rfl) (by go_simp; rfl) (by go_simp) ?_
  refine eqf_cons (by rfl) (by go_simp; rfl) (by go_simp; rfl) (by go_simp) ?_
  refine eqf_cons (by rfl) (by go_simp; rfl) (by go_simp; rfl) (by go_simp) ?_
  refine eqf_cons (by rfl) (by go_simp) (by go_simp) (evA_Bill (d + 0) w _ _ _ _ _ _ _ _ _ _ _ _ _ _) ?_
  refine eqf_cons (by rfl) (by go_simp; rfl) (by go_simp; rfl) (by go_simp) ?_
  exact eqf_last (by rfl) (by go_simp) (by go_simp) (evA_Debt (d + 0) w _ _ _ _)
attribute [local go_sem high] evA_Bill evA_Debt evA_Event

set_option maxHeartbeats 4000000 in
theorem book_want.yes (w : World) (c : Int) :
    Calls Try.prog 43 #[.bool true, .int .i64 c] w fun e w' => e = .returned (.tuple #[]) ∧ w' = w := by
  go_enter Try.func43, Try.ntmps43
  go_wp2
  go_end0
  exact ⟨rfl, rfl⟩


set_option maxHeartbeats 4000000 in
theorem book_want.no (w : World) (c : Int) :
    Calls Try.prog 43 #[.bool false, .int .i64 c] w fun e w' => e = .panicked [{ v := .iface 103 (.agg #[.int .i64 c]), recovered := false }] ∧ w' = w := by
  go_enter Try.func43, Try.ntmps43
  go_wp2
  first | exact ⟨rfl, rfl, rfl⟩ | exact ⟨rfl, ⟨rfl, rfl⟩⟩
set_option maxHeartbeats 4000000 in
theorem book_within.tt (w : World) (n lo hi : Int) (h1 : decide (lo ≤ n) = true) (h2 : decide (n ≤ hi) = true) :
    Calls Try.prog 62 #[.int .i64 n, .int .i64 lo, .int .i64 hi] w fun e w' => e = .returned (.bool true) ∧ w' = w := by
  go_enter Try.func62, Try.ntmps62
  go_wp2
  go_ret
  exact ⟨rfl, rfl⟩
set_option maxHeartbeats 4000000 in
theorem book_within.lo (w : World) (n lo hi : Int) (h1 : decide (lo ≤ n) = false) :
    Calls Try.prog 62 #[.int .i64 n, .int .i64 lo, .int .i64 hi] w fun e w' => e = .returned (.bool false) ∧ w' = w := by
  go_enter Try.func62, Try.ntmps62
  go_wp2
  go_ret
  exact ⟨rfl, rfl⟩
set_option maxHeartbeats 4000000 in
theorem book_within.hi (w : World) (n lo hi : Int) (h1 : decide (lo ≤ n) = true) (h2 : decide (n ≤ hi) = false) :
    Calls Try.prog 62 #[.int .i64 n, .int .i64 lo, .int .i64 hi] w fun e w' => e = .returned (.bool false) ∧ w' = w := by
  go_enter Try.func62, Try.ntmps62
  go_wp2
  go_ret
  exact ⟨rfl, rfl⟩
theorem book_want.any (w : World) (b : Bool) (c : Int) :
    Calls Try.prog 43 #[.bool b, .int .i64 c] w fun e w' => (e = if b = true then .returned (.tuple #[]) else .panicked [{ v := .iface 103 (.agg #[.int .i64 c]), recovered := false }]) ∧ w' = w := by
  cases b
  · exact book_want.no w c
  · exact book_want.yes w c
def evEnd (r : Bool) : Ending := if r = true then .returned (.tuple #[]) else .panicked [{ v := .iface 103 (.agg #[.int .i64 5]), recovered := false }]
set_option maxHeartbeats 400000000 in
set_option maxRecDepth 100000 in
theorem book_check.at_ (w : World) (k me mo id te de fe pr ch un tg ow bp : Int) (r : Bool) (hR : r = evOk k me mo id te de fe pr ch un tg ow bp) :
    Calls Try.prog 39 #[.agg #[.int .i64 k, .int .i64 me, .int .i64 mo, .int .i64 id, .int .i64 te, .int .i64 de, .int .i64 fe, .int .i64 pr, .int .i64 ch, .int .i64 un, .int .i64 tg, .int .i64 ow, .int .i64 bp]] w fun e w' => e = evEnd r ∧ Below w.heap.size w w' := by
  have hu41 := Try.underlying41
  have hu31 := Try.underlying31
  have hu39 := Try.underlying39
  have HR := Aside0.mk hR
  unfold evOk at HR
  have HB0 := Aside0.mk (below_alloc (Below.refl w.heap.size w) (.cells #[.int .i64 k, .int .i64 me, .int .i64 mo, .int .i64 id, .int .i64 te, .int .i64 de, .int .i64 fe, .int .i64 pr, .int .i64 ch, .int .i64 un, .int .i64 tg, .int .i64 ow, .int .i64 bp] 41))
  clear hR
  by_cases h1_ : 0 ≤ me
  rotate_left
  · have q1_0 : decide (0 ≤ me) = false := by exact decide_eq_false (by omega)
    have q1_1 : decide (me ≥ 0) = false := by exact decide_eq_false (by omega)
    go_enter Try.func39, Try.ntmps39
    have HRV := Aside0.mk (show r = false by rw [HR.out]; exact decide_eq_false (by unfold evMay evM1 evM2 evM3 evM4 evM5 evZ evT evU evB; omega))
    clear h1_
    go_wp2_with (first | (go_at_call 43; first | (refine (book_want.yes _ 5).mono ?_; rintro e_ w_ ⟨rfl, hw_⟩; subst w_) | (refine (book_want.no _ 5).mono ?_; rintro e_ w_ ⟨rfl, hw_⟩; subst w_)) | (go_at_call 62; first | (refine (book_within.tt _ _ _ _ (by assumption) (by assumption)).mono ?_; rintro e_ w_ ⟨rfl, hw_⟩; subst w_) | (refine (book_within.lo _ _ _ _ (by assumption)).mono ?_; rintro e_ w_ ⟨rfl, hw_⟩; subst w_) | (refine (book_within.hi _ _ _ _ (by assumption) (by assumption)).mono ?_; rintro e_ w_ ⟨rfl, hw_⟩; subst w_)))
    exact ⟨rfl, by rw [HRV.out]; rfl, HB0.out⟩
  have q1_0 : decide (0 ≤ me) = true := by exact decide_eq_true (by omega)
  have q1_1 : decide (me ≥ 0) = true := by exact decide_eq_true (by omega)
  by_cases h2_ : me ≤ 49
  rotate_left
  · have q2_0 : decide (me ≤ 49) = false := by exact decide_eq_false (by omega)
    have q2_1 : decide (49 ≥ me) = false := by exact decide_eq_false (by omega)
    go_enter Try.func39, Try.ntmps39
    have HRV := Aside0.mk (show r = false by rw [HR.out]; exact decide_eq_false (by unfold evMay evM1 evM2 evM3 evM4 evM5 evZ evT evU evB; omega))
    clear h1_ h2_
    go_wp2_with (first | (go_at_call 43; first | (refine (book_want.yes _ 5).mono ?_; rintro e_ w_ ⟨rfl, hw_⟩; subst w_) | (refine (book_want.no _ 5).mono ?_; rintro e_ w_ ⟨rfl, hw_⟩; subst w_)) | (go_at_call 62; first | (refine (book_within.tt _ _ _ _ (by assumption) (by assumption)).mono ?_; rintro e_ w_ ⟨rfl, hw_⟩; subst w_) | (refine (book_within.lo _ _ _ _ (by assumption)).mono ?_; rintro e_ w_ ⟨rfl, hw_⟩; subst w_) | (refine (book_within.hi _ _ _ _ (by assumption) (by assumption)).mono ?_; rintro e_ w_ ⟨rfl, hw_⟩; subst w_)))
    exact ⟨rfl, by rw [HRV.out]; rfl, HB0.out⟩
  have q2_0 : decide (me ≤ 49) = true := by exact decide_eq_true (by omega)
  have q2_1 : decide (49 ≥ me) = true := by exact decide_eq_true (by omega)
  go_enter Try.func39, Try.ntmps39
  go_upto_region 4 with (first | (go_at_call 43; first | (refine (book_want.yes _ 5).mono ?_; rintro e_ w_ ⟨rfl, hw_⟩; subst w_) | (refine (book_want.no _ 5).mono ?_; rintro e_ w_ ⟨rfl, hw_⟩; subst w_)) | (go_at_call 62; first | (refine (book_within.tt _ _ _ _ (by assumption) (by assumption)).mono ?_; rintro e_ w_ ⟨rfl, hw_⟩; subst w_) | (refine (book_within.lo _ _ _ _ (by assumption)).mono ?_; rintro e_ w_ ⟨rfl, hw_⟩; subst w_) | (refine (book_within.hi _ _ _ _ (by assumption) (by assumption)).mono ?_; rintro e_ w_ ⟨rfl, hw_⟩; subst w_)))
  obtain ⟨wx, hwx⟩ : ∃ W : World, W = (w.alloc (.cells #[.int .i64 k, .int .i64 me, .int .i64 mo, .int .i64 id, .int .i64 te, .int .i64 de, .int .i64 fe, .int .i64 pr, .int .i64 ch, .int .i64 un, .int .i64 tg, .int .i64 ow, .int .i64 bp] 41)).alloc (.cells #[.int .i64 0, .int .i64 0, .int .i64 mo, .int .i64 id, .int .i64 te, .int .i64 de, .int .i64 fe, .int .i64 pr, .int .i64 ch, .int .i64 un, .int .i64 tg, .int .i64 ow, .int .i64 bp] 41) := ⟨_, rfl⟩
  rw [← hwx]
  have B1 := Aside0.mk (show wx.heap[w.heap.size]? = some (.cells #[.int .i64 k, .int .i64 me, .int .i64 mo, .int .i64 id, .int .i64 te, .int .i64 de, .int .i64 fe, .int .i64 pr, .int .i64 ch, .int .i64 un, .int .i64 tg, .int .i64 ow, .int .i64 bp] 41 (0, 0)) from hwx ▸ blk_alloc (blk_new w _) _)
  have B2 := Aside0.mk (show wx.heap[w.heap.size + 1]? = some (.cells #[.int .i64 0, .int .i64 0, .int .i64 mo, .int .i64 id, .int .i64 te, .int .i64 de, .int .i64 fe, .int .i64 pr, .int .i64 ch, .int .i64 un, .int .i64 tg, .int .i64 ow, .int .i64 bp] 41 (0, 0)) from hwx ▸ by have h := blk_new (w.alloc (.cells #[.int .i64 k, .int .i64 me, .int .i64 mo, .int .i64 id, .int .i64 te, .int .i64 de, .int .i64 fe, .int .i64 pr, .int .i64 ch, .int .i64 un, .int .i64 tg, .int .i64 ow, .int .i64 bp] 41)) (.cells #[.int .i64 0, .int .i64 0, .int .i64 mo, .int .i64 id, .int .i64 te, .int .i64 de, .int .i64 fe, .int .i64 pr, .int .i64 ch, .int .i64 un, .int .i64 tg, .int .i64 ow, .int .i64 bp] 41); rw [World.size_alloc] at h; exact h)
  have HX := Aside0.mk (show Below w.heap.size w wx from hwx ▸ below_alloc (below_alloc (Below.refl w.heap.size w) _) _)
  clear hwx
  have x0 : wx.cell? ⟨w.heap.size, 0, none⟩ = some (.int .i64 k) := (blk_cell B1.out 0).trans rfl
  have x1 : wx.cell? ⟨w.heap.size, 1, none⟩ = some (.int .i64 me) := (blk_cell B1.out 1).trans rfl
  have x2 : wx.cell? ⟨w.heap.size, 2, none⟩ = some (.int .i64 mo) := (blk_cell B1.out 2).trans rfl
  have x3 : wx.cell? ⟨w.heap.size, 3, none⟩ = some (.int .i64 id) := (blk_cell B1.out 3).trans rfl
  have x4 : wx.cell? ⟨w.heap.size, 4, none⟩ = some (.int .i64 te) := (blk_cell B1.out 4).trans rfl
  have x5 : wx.cell? ⟨w.heap.size, 5, none⟩ = some (.int .i64 de) := (blk_cell B1.out 5).trans rfl
  have x6 : wx.cell? ⟨w.heap.size, 6, none⟩ = some (.int .i64 fe) := (blk_cell B1.out 6).trans rfl
  have x7 : wx.cell? ⟨w.heap.size, 7, none⟩ = some (.int .i64 pr) := (blk_cell B1.out 7).trans rfl
  have x8 : wx.cell? ⟨w.heap.size, 8, none⟩ = some (.int .i64 ch) := (blk_cell B1.out 8).trans rfl
  have x9 : wx.cell? ⟨w.heap.size, 9, none⟩ = some (.int .i64 un) := (blk_cell B1.out 9).trans rfl
  have x10 : wx.cell? ⟨w.heap.size, 10, none⟩ = some (.int .i64 tg) := (blk_cell B1.out 10).trans rfl
  have x11 : wx.cell? ⟨w.heap.size, 11, none⟩ = some (.int .i64 ow) := (blk_cell B1.out 11).trans rfl
  have x12 : wx.cell? ⟨w.heap.size, 12, none⟩ = some (.int .i64 bp) := (blk_cell B1.out 12).trans rfl
  by_cases k1 : k = 1
  · subst k1
    have HP := Aside0.mk (And.intro h1_ (h2_))
    clear h1_ h2_
    have z0 : wx.cell? ⟨w.heap.size + 1, 0, none⟩ = some (.int .i64 0) := (blk_cell B2.out 0).trans rfl
    have z1 : wx.cell? ⟨w.heap.size + 1, 1, none⟩ = some (.int .i64 0) := (blk_cell B2.out 1).trans rfl
    have z2 : wx.cell? ⟨w.heap.size + 1, 2, none⟩ = some (.int .i64 mo) := (blk_cell B2.out 2).trans rfl
    have z3 : wx.cell? ⟨w.heap.size + 1, 3, none⟩ = some (.int .i64 id) := (blk_cell B2.out 3).trans rfl
    have z4 : wx.cell? ⟨w.heap.size + 1, 4, none⟩ = some (.int .i64 te) := (blk_cell B2.out 4).trans rfl
    have z5 : wx.cell? ⟨w.heap.size + 1, 5, none⟩ = some (.int .i64 de) := (blk_cell B2.out 5).trans rfl
    have z6 : wx.cell? ⟨w.heap.size + 1, 6, none⟩ = some (.int .i64 fe) := (blk_cell B2.out 6).trans rfl
    have z7 : wx.cell? ⟨w.heap.size + 1, 7, none⟩ = some (.int .i64 pr) := (blk_cell B2.out 7).trans rfl
    have z8 : wx.cell? ⟨w.heap.size + 1, 8, none⟩ = some (.int .i64 ch) := (blk_cell B2.out 8).trans rfl
    have z9 : wx.cell? ⟨w.heap.size + 1, 9, none⟩ = some (.int .i64 un) := (blk_cell B2.out 9).trans rfl
    have z10 : wx.cell? ⟨w.heap.size + 1, 10, none⟩ = some (.int .i64 tg) := (blk_cell B2.out 10).trans rfl
    have z11 : wx.cell? ⟨w.heap.size + 1, 11, none⟩ = some (.int .i64 ow) := (blk_cell B2.out 11).trans rfl
    have z12 : wx.cell? ⟨w.heap.size + 1, 12, none⟩ = some (.int .i64 bp) := (blk_cell B2.out 12).trans rfl
    go_wp2_with (first | (go_at_call 43; first | (refine (book_want.yes _ 5).mono ?_; rintro e_ w_ ⟨rfl, hw_⟩; subst w_) | (refine (book_want.any _ _ 5).mono ?_; rintro e_ w_ ⟨he_, hw_⟩; subst w_; split at he_ <;> (rename_i hq_; subst he_; have HQ := Aside0.mk hq_; clear hq_))) | (go_at_call 62; refine (book_within.tt _ _ _ _ (by assumption) (by assumption)).mono ?_; rintro e_ w_ ⟨rfl, hw_⟩; subst w_))
    · have hrv : r = true := by
        have hq := HQ.out
        have hp := HP.out
        simp only [Bool.and_eq_true, beq_iff_eq] at hq
        rw [HR.out]
        exact decide_eq_true (by unfold evMay evM1 evM2 evM3 evM4 evM5 evZ evT evU evB; omega)
      go_end0
      exact ⟨by rw [hrv]; rfl, HX.out⟩
    · have hrv : r = false := by
        have hq := HQ.out
        have hp := HP.out
        simp only [Bool.and_eq_true, beq_iff_eq] at hq
        rw [HR.out]
        exact decide_eq_false (by unfold evMay evM1 evM2 evM3 evM4 evM5 evZ evT evU evB; omega)
      exact ⟨rfl, by rw [hrv]; rfl, HX.out⟩
  by_cases k5 : k = 5
  · subst k5
    clear k1
    by_cases h3_ : 1 ≤ ow
    rotate_left
    · have q3_0 : decide (1 ≤ ow) = false := by exact decide_eq_false (by omega)
      have q3_1 : decide (ow ≥ 1) = false := by exact decide_eq_false (by omega)
      have HRV := Aside0.mk (show r = false by rw [HR.out]; exact decide_eq_false (by unfold evMay evM1 evM2 evM3 evM4 evM5 evZ evT evU evB; omega))
      clear h1_ h2_ h3_
      go_wp2_with (first | (go_at_call 43; first | (refine (book_want.yes _ 5).mono ?_; rintro e_ w_ ⟨rfl, hw_⟩; subst w_) | (refine (book_want.no _ 5).mono ?_; rintro e_ w_ ⟨rfl, hw_⟩; subst w_)) | (go_at_call 62; first | (refine (book_within.tt _ _ _ _ (by assumption) (by assumption)).mono ?_; rintro e_ w_ ⟨rfl, hw_⟩; subst w_) | (refine (book_within.lo _ _ _ _ (by assumption)).mono ?_; rintro e_ w_ ⟨rfl, hw_⟩; subst w_) | (refine (book_within.hi _ _ _ _ (by assumption) (by assumption)).mono ?_; rintro e_ w_ ⟨rfl, hw_⟩; subst w_)))
      exact ⟨rfl, by rw [HRV.out]; rfl, HX.out⟩
    have q3_0 : decide (1 ≤ ow) = true := by exact decide_eq_true (by omega)
    have q3_1 : decide (ow ≥ 1) = true := by exact decide_eq_true (by omega)
    by_cases h4_ : ow ≤ 1000000000
    rotate_left
    · have q4_0 : decide (ow ≤ 1000000000) = false := by exact decide_eq_false (by omega)
      have q4_1 : decide (1000000000 ≥ ow) = false := by exact decide_eq_false (by omega)
      have HRV := Aside0.mk (show r = false by rw [HR.out]; exact decide_eq_false (by unfold evMay evM1 evM2 evM3 evM4 evM5 evZ evT evU evB; omega))
      clear h1_ h2_ h3_ h4_
      go_wp2_with (first | (go_at_call 43; first | (refine (book_want.yes _ 5).mono ?_; rintro e_ w_ ⟨rfl, hw_⟩; subst w_) | (refine (book_want.no _ 5).mono ?_; rintro e_ w_ ⟨rfl, hw_⟩; subst w_)) | (go_at_call 62; first | (refine (book_within.tt _ _ _ _ (by assumption) (by assumption)).mono ?_; rintro e_ w_ ⟨rfl, hw_⟩; subst w_) | (refine (book_within.lo _ _ _ _ (by assumption)).mono ?_; rintro e_ w_ ⟨rfl, hw_⟩; subst w_) | (refine (book_within.hi _ _ _ _ (by assumption) (by assumption)).mono ?_; rintro e_ w_ ⟨rfl, hw_⟩; subst w_)))
      exact ⟨rfl, by rw [HRV.out]; rfl, HX.out⟩
    have q4_0 : decide (ow ≤ 1000000000) = true := by exact decide_eq_true (by omega)
    have q4_1 : decide (1000000000 ≥ ow) = true := by exact decide_eq_true (by omega)
    by_cases h5_ : 0 ≤ bp
    rotate_left
    · have q5_0 : decide (0 ≤ bp) = false := by exact decide_eq_false (by omega)
      have q5_1 : decide (bp ≥ 0) = false := by exact decide_eq_false (by omega)
      have HRV := Aside0.mk (show r = false by rw [HR.out]; exact decide_eq_false (by unfold evMay evM1 evM2 evM3 evM4 evM5 evZ evT evU evB; omega))
      clear h1_ h2_ h3_ h4_ h5_
      go_wp2_with (first | (go_at_call 43; first | (refine (book_want.yes _ 5).mono ?_; rintro e_ w_ ⟨rfl, hw_⟩; subst w_) | (refine (book_want.no _ 5).mono ?_; rintro e_ w_ ⟨rfl, hw_⟩; subst w_)) | (go_at_call 62; first | (refine (book_within.tt _ _ _ _ (by assumption) (by assumption)).mono ?_; rintro e_ w_ ⟨rfl, hw_⟩; subst w_) | (refine (book_within.lo _ _ _ _ (by assumption)).mono ?_; rintro e_ w_ ⟨rfl, hw_⟩; subst w_) | (refine (book_within.hi _ _ _ _ (by assumption) (by assumption)).mono ?_; rintro e_ w_ ⟨rfl, hw_⟩; subst w_)))
      exact ⟨rfl, by rw [HRV.out]; rfl, HX.out⟩
    have q5_0 : decide (0 ≤ bp) = true := by exact decide_eq_true (by omega)
    have q5_1 : decide (bp ≥ 0) = true := by exact decide_eq_true (by omega)
    by_cases h6_ : bp ≤ 10000
    rotate_left
    · have q6_0 : decide (bp ≤ 10000) = false := by exact decide_eq_false (by omega)
      have q6_1 : decide (10000 ≥ bp) = false := by exact decide_eq_false (by omega)
      have HRV := Aside0.mk (show r = false by rw [HR.out]; exact decide_eq_false (by unfold evMay evM1 evM2 evM3 evM4 evM5 evZ evT evU evB; omega))
      clear h1_ h2_ h3_ h4_ h5_ h6_
      go_wp2_with (first | (go_at_call 43; first | (refine (book_want.yes _ 5).mono ?_; rintro e_ w_ ⟨rfl, hw_⟩; subst w_) | (refine (book_want.no _ 5).mono ?_; rintro e_ w_ ⟨rfl, hw_⟩; subst w_)) | (go_at_call 62; first | (refine (book_within.tt _ _ _ _ (by assumption) (by assumption)).mono ?_; rintro e_ w_ ⟨rfl, hw_⟩; subst w_) | (refine (book_within.lo _ _ _ _ (by assumption)).mono ?_; rintro e_ w_ ⟨rfl, hw_⟩; subst w_) | (refine (book_within.hi _ _ _ _ (by assumption) (by assumption)).mono ?_; rintro e_ w_ ⟨rfl, hw_⟩; subst w_)))
      exact ⟨rfl, by rw [HRV.out]; rfl, HX.out⟩
    have q6_0 : decide (bp ≤ 10000) = true := by exact decide_eq_true (by omega)
    have q6_1 : decide (10000 ≥ bp) = true := by exact decide_eq_true (by omega)
    go_upto_region 21 with (first | (first | (go_at_call 43; first | (refine (book_want.yes _ 5).mono ?_; rintro e_ w_ ⟨rfl, hw_⟩; subst w_) | (refine (book_want.no _ 5).mono ?_; rintro e_ w_ ⟨rfl, hw_⟩; subst w_)) | (go_at_call 62; first | (refine (book_within.tt _ _ _ _ (by assumption) (by assumption)).mono ?_; rintro e_ w_ ⟨rfl, hw_⟩; subst w_) | (refine (book_within.lo _ _ _ _ (by assumption)).mono ?_; rintro e_ w_ ⟨rfl, hw_⟩; subst w_) | (refine (book_within.hi _ _ _ _ (by assumption) (by assumption)).mono ?_; rintro e_ w_ ⟨rfl, hw_⟩; subst w_))) | ((with_reducible refine gate_store (t := 39) (p := 116) rfl ?_); refine seg.list rfl rfl 39 (.tmp 116) _ rfl 41 (w.heap.size + 1) 11 #[.int .i64 0, .int .i64 0, .int .i64 mo, .int .i64 id, .int .i64 te, .int .i64 de, .int .i64 fe, .int .i64 pr, .int .i64 ch, .int .i64 un, .int .i64 tg, .int .i64 ow, .int .i64 bp] #[.int .i64 0, .int .i64 0, .int .i64 mo, .int .i64 id, .int .i64 te, .int .i64 de, .int .i64 fe, .int .i64 pr, .int .i64 ch, .int .i64 un, .int .i64 tg, .int .i64 0, .int .i64 0] [.int .i64 0, .int .i64 0] rfl rfl (by kernel_rfl) (by simp [Value.oneCell']) B2.out (by simp) rfl ?_; intro wz bx hg; have B3 := Aside0.mk bx; have B1z := Aside0.mk (seg.far B1.out hg (by omega)); have HZ := Aside0.mk (seg.below HX.out hg (by omega)); clear bx hg))
    clear x0 x1 x2 x3 x4 x5 x6 x7 x8 x9 x10 x11 x12
    have x0 : wz.cell? ⟨w.heap.size, 0, none⟩ = some (.int .i64 5) := (blk_cell B1z.out 0).trans rfl
    have x1 : wz.cell? ⟨w.heap.size, 1, none⟩ = some (.int .i64 me) := (blk_cell B1z.out 1).trans rfl
    have x2 : wz.cell? ⟨w.heap.size, 2, none⟩ = some (.int .i64 mo) := (blk_cell B1z.out 2).trans rfl
    have x3 : wz.cell? ⟨w.heap.size, 3, none⟩ = some (.int .i64 id) := (blk_cell B1z.out 3).trans rfl
    have x4 : wz.cell? ⟨w.heap.size, 4, none⟩ = some (.int .i64 te) := (blk_cell B1z.out 4).trans rfl
    have x5 : wz.cell? ⟨w.heap.size, 5, none⟩ = some (.int .i64 de) := (blk_cell B1z.out 5).trans rfl
    have x6 : wz.cell? ⟨w.heap.size, 6, none⟩ = some (.int .i64 fe) := (blk_cell B1z.out 6).trans rfl
    have x7 : wz.cell? ⟨w.heap.size, 7, none⟩ = some (.int .i64 pr) := (blk_cell B1z.out 7).trans rfl
    have x8 : wz.cell? ⟨w.heap.size, 8, none⟩ = some (.int .i64 ch) := (blk_cell B1z.out 8).trans rfl
    have x9 : wz.cell? ⟨w.heap.size, 9, none⟩ = some (.int .i64 un) := (blk_cell B1z.out 9).trans rfl
    have x10 : wz.cell? ⟨w.heap.size, 10, none⟩ = some (.int .i64 tg) := (blk_cell B1z.out 10).trans rfl
    have x11 : wz.cell? ⟨w.heap.size, 11, none⟩ = some (.int .i64 ow) := (blk_cell B1z.out 11).trans rfl
    have x12 : wz.cell? ⟨w.heap.size, 12, none⟩ = some (.int .i64 bp) := (blk_cell B1z.out 12).trans rfl
    have HP := Aside0.mk (And.intro h1_ (And.intro h2_ (And.intro h3_ (And.intro h4_ (And.intro h5_ (h6_))))))
    clear h1_ h2_ h3_ h4_ h5_ h6_
    have z0 : wz.cell? ⟨w.heap.size + 1, 0, none⟩ = some (.int .i64 0) := (blk_cell B3.out 0).trans rfl
    have z1 : wz.cell? ⟨w.heap.size + 1, 1, none⟩ = some (.int .i64 0) := (blk_cell B3.out 1).trans rfl
    have z2 : wz.cell? ⟨w.heap.size + 1, 2, none⟩ = some (.int .i64 mo) := (blk_cell B3.out 2).trans rfl
    have z3 : wz.cell? ⟨w.heap.size + 1, 3, none⟩ = some (.int .i64 id) := (blk_cell B3.out 3).trans rfl
    have z4 : wz.cell? ⟨w.heap.size + 1, 4, none⟩ = some (.int .i64 te) := (blk_cell B3.out 4).trans rfl
    have z5 : wz.cell? ⟨w.heap.size + 1, 5, none⟩ = some (.int .i64 de) := (blk_cell B3.out 5).trans rfl
    have z6 : wz.cell? ⟨w.heap.size + 1, 6, none⟩ = some (.int .i64 fe) := (blk_cell B3.out 6).trans rfl
    have z7 : wz.cell? ⟨w.heap.size + 1, 7, none⟩ = some (.int .i64 pr) := (blk_cell B3.out 7).trans rfl
    have z8 : wz.cell? ⟨w.heap.size + 1, 8, none⟩ = some (.int .i64 ch) := (blk_cell B3.out 8).trans rfl
    have z9 : wz.cell? ⟨w.heap.size + 1, 9, none⟩ = some (.int .i64 un) := (blk_cell B3.out 9).trans rfl
    have z10 : wz.cell? ⟨w.heap.size + 1, 10, none⟩ = some (.int .i64 tg) := (blk_cell B3.out 10).trans rfl
    have z11 : wz.cell? ⟨w.heap.size + 1, 11, none⟩ = some (.int .i64 0) := (blk_cell B3.out 11).trans rfl
    have z12 : wz.cell? ⟨w.heap.size + 1, 12, none⟩ = some (.int .i64 0) := (blk_cell B3.out 12).trans rfl
    go_wp2_with (first | (go_at_call 43; first | (refine (book_want.yes _ 5).mono ?_; rintro e_ w_ ⟨rfl, hw_⟩; subst w_) | (refine (book_want.any _ _ 5).mono ?_; rintro e_ w_ ⟨he_, hw_⟩; subst w_; split at he_ <;> (rename_i hq_; subst he_; have HQ := Aside0.mk hq_; clear hq_))) | (go_at_call 62; refine (book_within.tt _ _ _ _ (by assumption) (by assumption)).mono ?_; rintro e_ w_ ⟨rfl, hw_⟩; subst w_))
    · have hrv : r = true := by
        have hq := HQ.out
        have hp := HP.out
        simp only [Bool.and_eq_true, beq_iff_eq] at hq
        rw [HR.out]
        exact decide_eq_true (by unfold evMay evM1 evM2 evM3 evM4 evM5 evZ evT evU evB; omega)
      go_end0
      exact ⟨by rw [hrv]; rfl, HZ.out⟩
    · have hrv : r = false := by
        have hq := HQ.out
        have hp := HP.out
        simp only [Bool.and_eq_true, beq_iff_eq] at hq
        rw [HR.out]
        exact decide_eq_false (by unfold evMay evM1 evM2 evM3 evM4 evM5 evZ evT evU evB; omega)
      exact ⟨rfl, by rw [hrv]; rfl, HZ.out⟩
  by_cases k4 : k = 4
  · subst k4
    clear k1 k5
    by_cases h7_ : 1 ≤ id
    rotate_left
    · have q7_0 : decide (1 ≤ id) = false := by exact decide_eq_false (by omega)
      have q7_1 : decide (id ≥ 1) = false := by exact decide_eq_false (by omega)
      have HRV := Aside0.mk (show r = false by rw [HR.out]; exact decide_eq_false (by unfold evMay evM1 evM2 evM3 evM4 evM5 evZ evT evU evB; omega))
      clear h1_ h2_ h7_
      go_wp2_with (first | (go_at_call 43; first | (refine (book_want.yes _ 5).mono ?_; rintro e_ w_ ⟨rfl, hw_⟩; subst w_) | (refine (book_want.no _ 5).mono ?_; rintro e_ w_ ⟨rfl, hw_⟩; subst w_)) | (go_at_call 62; first | (refine (book_within.tt _ _ _ _ (by assumption) (by assumption)).mono ?_; rintro e_ w_ ⟨rfl, hw_⟩; subst w_) | (refine (book_within.lo _ _ _ _ (by assumption)).mono ?_; rintro e_ w_ ⟨rfl, hw_⟩; subst w_) | (refine (book_within.hi _ _ _ _ (by assumption) (by assumption)).mono ?_; rintro e_ w_ ⟨rfl, hw_⟩; subst w_)))
      exact ⟨rfl, by rw [HRV.out]; rfl, HX.out⟩
    have q7_0 : decide (1 ≤ id) = true := by exact decide_eq_true (by omega)
    have q7_1 : decide (id ≥ 1) = true := by exact decide_eq_true (by omega)
    by_cases h8_ : id ≤ 1048575
    rotate_left
    · have q8_0 : decide (id ≤ 1048575) = false := by exact decide_eq_false (by omega)
      have q8_1 : decide (1048575 ≥ id) = false := by exact decide_eq_false (by omega)
      have HRV := Aside0.mk (show r = false by rw [HR.out]; exact decide_eq_false (by unfold evMay evM1 evM2 evM3 evM4 evM5 evZ evT evU evB; omega))
      clear h1_ h2_ h7_ h8_
      go_wp2_with (first | (go_at_call 43; first | (refine (book_want.yes _ 5).mono ?_; rintro e_ w_ ⟨rfl, hw_⟩; subst w_) | (refine (book_want.no _ 5).mono ?_; rintro e_ w_ ⟨rfl, hw_⟩; subst w_)) | (go_at_call 62; first | (refine (book_within.tt _ _ _ _ (by assumption) (by assumption)).mono ?_; rintro e_ w_ ⟨rfl, hw_⟩; subst w_) | (refine (book_within.lo _ _ _ _ (by assumption)).mono ?_; rintro e_ w_ ⟨rfl, hw_⟩; subst w_) | (refine (book_within.hi _ _ _ _ (by assumption) (by assumption)).mono ?_; rintro e_ w_ ⟨rfl, hw_⟩; subst w_)))
      exact ⟨rfl, by rw [HRV.out]; rfl, HX.out⟩
    have q8_0 : decide (id ≤ 1048575) = true := by exact decide_eq_true (by omega)
    have q8_1 : decide (1048575 ≥ id) = true := by exact decide_eq_true (by omega)
    by_cases h9_ : 0 ≤ tg
    rotate_left
    · have q9_0 : decide (0 ≤ tg) = false := by exact decide_eq_false (by omega)
      have q9_1 : decide (tg ≥ 0) = false := by exact decide_eq_false (by omega)
      have HRV := Aside0.mk (show r = false by rw [HR.out]; exact decide_eq_false (by unfold evMay evM1 evM2 evM3 evM4 evM5 evZ evT evU evB; omega))
      clear h1_ h2_ h7_ h8_ h9_
      go_wp2_with (first | (go_at_call 43; first | (refine (book_want.yes _ 5).mono ?_; rintro e_ w_ ⟨rfl, hw_⟩; subst w_) | (refine (book_want.no _ 5).mono ?_; rintro e_ w_ ⟨rfl, hw_⟩; subst w_)) | (go_at_call 62; first | (refine (book_within.tt _ _ _ _ (by assumption) (by assumption)).mono ?_; rintro e_ w_ ⟨rfl, hw_⟩; subst w_) | (refine (book_within.lo _ _ _ _ (by assumption)).mono ?_; rintro e_ w_ ⟨rfl, hw_⟩; subst w_) | (refine (book_within.hi _ _ _ _ (by assumption) (by assumption)).mono ?_; rintro e_ w_ ⟨rfl, hw_⟩; subst w_)))
      exact ⟨rfl, by rw [HRV.out]; rfl, HX.out⟩
    have q9_0 : decide (0 ≤ tg) = true := by exact decide_eq_true (by omega)
    have q9_1 : decide (tg ≥ 0) = true := by exact decide_eq_true (by omega)
    by_cases h10_ : tg ≤ 65535
    rotate_left
    · have q10_0 : decide (tg ≤ 65535) = false := by exact decide_eq_false (by omega)
      have q10_1 : decide (65535 ≥ tg) = false := by exact decide_eq_false (by omega)
      have HRV := Aside0.mk (show r = false by rw [HR.out]; exact decide_eq_false (by unfold evMay evM1 evM2 evM3 evM4 evM5 evZ evT evU evB; omega))
      clear h1_ h2_ h7_ h8_ h9_ h10_
      go_wp2_with (first | (go_at_call 43; first | (refine (book_want.yes _ 5).mono ?_; rintro e_ w_ ⟨rfl, hw_⟩; subst w_) | (refine (book_want.no _ 5).mono ?_; rintro e_ w_ ⟨rfl, hw_⟩; subst w_)) | (go_at_call 62; first | (refine (book_within.tt _ _ _ _ (by assumption) (by assumption)).mono ?_; rintro e_ w_ ⟨rfl, hw_⟩; subst w_) | (refine (book_within.lo _ _ _ _ (by assumption)).mono ?_; rintro e_ w_ ⟨rfl, hw_⟩; subst w_) | (refine (book_within.hi _ _ _ _ (by assumption) (by assumption)).mono ?_; rintro e_ w_ ⟨rfl, hw_⟩; subst w_)))
      exact ⟨rfl, by rw [HRV.out]; rfl, HX.out⟩
    have q10_0 : decide (tg ≤ 65535) = true := by exact decide_eq_true (by omega)
    have q10_1 : decide (65535 ≥ tg) = true := by exact decide_eq_true (by omega)
    have fz3 := blk_frozen B2.out 3
    have fz10 := blk_frozen (blk_set B2.out 3 (.int .i64 0)) 10
    have fy10 := blk_frozen B2.out 10
    have tc3 : wx.cell? ⟨w.heap.size + 1, 3, none⟩ = some (.int .i64 id) := (blk_cell B2.out 3).trans rfl
    have tc10 : wx.cell? ⟨w.heap.size + 1, 10, none⟩ = some (.int .i64 tg) := (blk_cell B2.out 10).trans rfl
    have BF := Aside0.mk (blk_set (blk_set B2.out 3 (.int .i64 0)) 10 (.int .i64 0))
    have HF := Aside0.mk (below_set (g := w.heap.size + 1) (j := 10) (v := .int .i64 0) (below_set (g := w.heap.size + 1) (j := 3) (v := .int .i64 0) HX.out (by omega)) (by omega))
    have HP := Aside0.mk (And.intro h1_ (And.intro h2_ (And.intro h7_ (And.intro h8_ (And.intro h9_ (h10_))))))
    clear h1_ h2_ h7_ h8_ h9_ h10_
    have z0 : ((wx.setCell ⟨w.heap.size + 1, 3, none⟩ (.int .i64 0)).setCell ⟨w.heap.size + 1, 10, none⟩ (.int .i64 0)).cell? ⟨w.heap.size + 1, 0, none⟩ = some (.int .i64 0) := (blk_cell BF.out 0).trans rfl
    have z1 : ((wx.setCell ⟨w.heap.size + 1, 3, none⟩ (.int .i64 0)).setCell ⟨w.heap.size + 1, 10, none⟩ (.int .i64 0)).cell? ⟨w.heap.size + 1, 1, none⟩ = some (.int .i64 0) := (blk_cell BF.out 1).trans rfl
    have z2 : ((wx.setCell ⟨w.heap.size + 1, 3, none⟩ (.int .i64 0)).setCell ⟨w.heap.size + 1, 10, none⟩ (.int .i64 0)).cell? ⟨w.heap.size + 1, 2, none⟩ = some (.int .i64 mo) := (blk_cell BF.out 2).trans rfl
    have z3 : ((wx.setCell ⟨w.heap.size + 1, 3, none⟩ (.int .i64 0)).setCell ⟨w.heap.size + 1, 10, none⟩ (.int .i64 0)).cell? ⟨w.heap.size + 1, 3, none⟩ = some (.int .i64 0) := (blk_cell BF.out 3).trans rfl
    have z4 : ((wx.setCell ⟨w.heap.size + 1, 3, none⟩ (.int .i64 0)).setCell ⟨w.heap.size + 1, 10, none⟩ (.int .i64 0)).cell? ⟨w.heap.size + 1, 4, none⟩ = some (.int .i64 te) := (blk_cell BF.out 4).trans rfl
    have z5 : ((wx.setCell ⟨w.heap.size + 1, 3, none⟩ (.int .i64 0)).setCell ⟨w.heap.size + 1, 10, none⟩ (.int .i64 0)).cell? ⟨w.heap.size + 1, 5, none⟩ = some (.int .i64 de) := (blk_cell BF.out 5).trans rfl
    have z6 : ((wx.setCell ⟨w.heap.size + 1, 3, none⟩ (.int .i64 0)).setCell ⟨w.heap.size + 1, 10, none⟩ (.int .i64 0)).cell? ⟨w.heap.size + 1, 6, none⟩ = some (.int .i64 fe) := (blk_cell BF.out 6).trans rfl
    have z7 : ((wx.setCell ⟨w.heap.size + 1, 3, none⟩ (.int .i64 0)).setCell ⟨w.heap.size + 1, 10, none⟩ (.int .i64 0)).cell? ⟨w.heap.size + 1, 7, none⟩ = some (.int .i64 pr) := (blk_cell BF.out 7).trans rfl
    have z8 : ((wx.setCell ⟨w.heap.size + 1, 3, none⟩ (.int .i64 0)).setCell ⟨w.heap.size + 1, 10, none⟩ (.int .i64 0)).cell? ⟨w.heap.size + 1, 8, none⟩ = some (.int .i64 ch) := (blk_cell BF.out 8).trans rfl
    have z9 : ((wx.setCell ⟨w.heap.size + 1, 3, none⟩ (.int .i64 0)).setCell ⟨w.heap.size + 1, 10, none⟩ (.int .i64 0)).cell? ⟨w.heap.size + 1, 9, none⟩ = some (.int .i64 un) := (blk_cell BF.out 9).trans rfl
    have z10 : ((wx.setCell ⟨w.heap.size + 1, 3, none⟩ (.int .i64 0)).setCell ⟨w.heap.size + 1, 10, none⟩ (.int .i64 0)).cell? ⟨w.heap.size + 1, 10, none⟩ = some (.int .i64 0) := (blk_cell BF.out 10).trans rfl
    have z11 : ((wx.setCell ⟨w.heap.size + 1, 3, none⟩ (.int .i64 0)).setCell ⟨w.heap.size + 1, 10, none⟩ (.int .i64 0)).cell? ⟨w.heap.size + 1, 11, none⟩ = some (.int .i64 ow) := (blk_cell BF.out 11).trans rfl
    have z12 : ((wx.setCell ⟨w.heap.size + 1, 3, none⟩ (.int .i64 0)).setCell ⟨w.heap.size + 1, 10, none⟩ (.int .i64 0)).cell? ⟨w.heap.size + 1, 12, none⟩ = some (.int .i64 bp) := (blk_cell BF.out 12).trans rfl
    go_wp2_with (first | (go_at_call 43; first | (refine (book_want.yes _ 5).mono ?_; rintro e_ w_ ⟨rfl, hw_⟩; subst w_) | (refine (book_want.any _ _ 5).mono ?_; rintro e_ w_ ⟨he_, hw_⟩; subst w_; split at he_ <;> (rename_i hq_; subst he_; have HQ := Aside0.mk hq_; clear hq_))) | (go_at_call 62; refine (book_within.tt _ _ _ _ (by assumption) (by assumption)).mono ?_; rintro e_ w_ ⟨rfl, hw_⟩; subst w_))
    · have hrv : r = true := by
        have hq := HQ.out
        have hp := HP.out
        simp only [Bool.and_eq_true, beq_iff_eq] at hq
        rw [HR.out]
        exact decide_eq_true (by unfold evMay evM1 evM2 evM3 evM4 evM5 evZ evT evU evB; omega)
      go_end0
      exact ⟨by rw [hrv]; rfl, HF.out⟩
    · have hrv : r = false := by
        have hq := HQ.out
        have hp := HP.out
        simp only [Bool.and_eq_true, beq_iff_eq] at hq
        rw [HR.out]
        exact decide_eq_false (by unfold evMay evM1 evM2 evM3 evM4 evM5 evZ evT evU evB; omega)
      exact ⟨rfl, by rw [hrv]; rfl, HF.out⟩
  by_cases k3 : k = 3
  · subst k3
    clear k1 k5 k4
    by_cases h11_ : 1 ≤ un
    rotate_left
    · have q11_0 : decide (1 ≤ un) = false := by exact decide_eq_false (by omega)
      have q11_1 : decide (un ≥ 1) = false := by exact decide_eq_false (by omega)
      have HRV := Aside0.mk (show r = false by rw [HR.out]; exact decide_eq_false (by unfold evMay evM1 evM2 evM3 evM4 evM5 evZ evT evU evB; omega))
      clear h1_ h2_ h11_
      go_wp2_with (first | (go_at_call 43; first | (refine (book_want.yes _ 5).mono ?_; rintro e_ w_ ⟨rfl, hw_⟩; subst w_) | (refine (book_want.no _ 5).mono ?_; rintro e_ w_ ⟨rfl, hw_⟩; subst w_)) | (go_at_call 62; first | (refine (book_within.tt _ _ _ _ (by assumption) (by assumption)).mono ?_; rintro e_ w_ ⟨rfl, hw_⟩; subst w_) | (refine (book_within.lo _ _ _ _ (by assumption)).mono ?_; rintro e_ w_ ⟨rfl, hw_⟩; subst w_) | (refine (book_within.hi _ _ _ _ (by assumption) (by assumption)).mono ?_; rintro e_ w_ ⟨rfl, hw_⟩; subst w_)))
      exact ⟨rfl, by rw [HRV.out]; rfl, HX.out⟩
    have q11_0 : decide (1 ≤ un) = true := by exact decide_eq_true (by omega)
    have q11_1 : decide (un ≥ 1) = true := by exact decide_eq_true (by omega)
    by_cases h12_ : un ≤ 2097151
    rotate_left
    · have q12_0 : decide (un ≤ 2097151) = false := by exact decide_eq_false (by omega)
      have q12_1 : decide (2097151 ≥ un) = false := by exact decide_eq_false (by omega)
      have HRV := Aside0.mk (show r = false by rw [HR.out]; exact decide_eq_false (by unfold evMay evM1 evM2 evM3 evM4 evM5 evZ evT evU evB; omega))
      clear h1_ h2_ h11_ h12_
      go_wp2_with (first | (go_at_call 43; first | (refine (book_want.yes _ 5).mono ?_; rintro e_ w_ ⟨rfl, hw_⟩; subst w_) | (refine (book_want.no _ 5).mono ?_; rintro e_ w_ ⟨rfl, hw_⟩; subst w_)) | (go_at_call 62; first | (refine (book_within.tt _ _ _ _ (by assumption) (by assumption)).mono ?_; rintro e_ w_ ⟨rfl, hw_⟩; subst w_) | (refine (book_within.lo _ _ _ _ (by assumption)).mono ?_; rintro e_ w_ ⟨rfl, hw_⟩; subst w_) | (refine (book_within.hi _ _ _ _ (by assumption) (by assumption)).mono ?_; rintro e_ w_ ⟨rfl, hw_⟩; subst w_)))
      exact ⟨rfl, by rw [HRV.out]; rfl, HX.out⟩
    have q12_0 : decide (un ≤ 2097151) = true := by exact decide_eq_true (by omega)
    have q12_1 : decide (2097151 ≥ un) = true := by exact decide_eq_true (by omega)
    by_cases h13_ : 0 ≤ mo
    rotate_left
    · have q13_0 : decide (0 ≤ mo) = false := by exact decide_eq_false (by omega)
      have q13_1 : decide (mo ≥ 0) = false := by exact decide_eq_false (by omega)
      have HRV := Aside0.mk (show r = false by rw [HR.out]; exact decide_eq_false (by unfold evMay evM1 evM2 evM3 evM4 evM5 evZ evT evU evB; omega))
      clear h1_ h2_ h11_ h12_ h13_
      go_wp2_with (first | (go_at_call 43; first | (refine (book_want.yes _ 5).mono ?_; rintro e_ w_ ⟨rfl, hw_⟩; subst w_) | (refine (book_want.no _ 5).mono ?_; rintro e_ w_ ⟨rfl, hw_⟩; subst w_)) | (go_at_call 62; first | (refine (book_within.tt _ _ _ _ (by assumption) (by assumption)).mono ?_; rintro e_ w_ ⟨rfl, hw_⟩; subst w_) | (refine (book_within.lo _ _ _ _ (by assumption)).mono ?_; rintro e_ w_ ⟨rfl, hw_⟩; subst w_) | (refine (book_within.hi _ _ _ _ (by assumption) (by assumption)).mono ?_; rintro e_ w_ ⟨rfl, hw_⟩; subst w_)))
      exact ⟨rfl, by rw [HRV.out]; rfl, HX.out⟩
    have q13_0 : decide (0 ≤ mo) = true := by exact decide_eq_true (by omega)
    have q13_1 : decide (mo ≥ 0) = true := by exact decide_eq_true (by omega)
    by_cases h14_ : mo ≤ 2399
    rotate_left
    · have q14_0 : decide (mo ≤ 2399) = false := by exact decide_eq_false (by omega)
      have q14_1 : decide (2399 ≥ mo) = false := by exact decide_eq_false (by omega)
      have HRV := Aside0.mk (show r = false by rw [HR.out]; exact decide_eq_false (by unfold evMay evM1 evM2 evM3 evM4 evM5 evZ evT evU evB; omega))
      clear h1_ h2_ h11_ h12_ h13_ h14_
      go_wp2_with (first | (go_at_call 43; first | (refine (book_want.yes _ 5).mono ?_; rintro e_ w_ ⟨rfl, hw_⟩; subst w_) | (refine (book_want.no _ 5).mono ?_; rintro e_ w_ ⟨rfl, hw_⟩; subst w_)) | (go_at_call 62; first | (refine (book_within.tt _ _ _ _ (by assumption) (by assumption)).mono ?_; rintro e_ w_ ⟨rfl, hw_⟩; subst w_) | (refine (book_within.lo _ _ _ _ (by assumption)).mono ?_; rintro e_ w_ ⟨rfl, hw_⟩; subst w_) | (refine (book_within.hi _ _ _ _ (by assumption) (by assumption)).mono ?_; rintro e_ w_ ⟨rfl, hw_⟩; subst w_)))
      exact ⟨rfl, by rw [HRV.out]; rfl, HX.out⟩
    have q14_0 : decide (mo ≤ 2399) = true := by exact decide_eq_true (by omega)
    have q14_1 : decide (2399 ≥ mo) = true := by exact decide_eq_true (by omega)
    have fz9 := blk_frozen B2.out 9
    have fz2 := blk_frozen B2.out 2
    have tc9 : wx.cell? ⟨w.heap.size + 1, 9, none⟩ = some (.int .i64 un) := (blk_cell B2.out 9).trans rfl
    have tc2 : wx.cell? ⟨w.heap.size + 1, 2, none⟩ = some (.int .i64 mo) := (blk_cell B2.out 2).trans rfl
    go_upto_region 22 with (first | (go_at_call 43; first | (refine (book_want.yes _ 5).mono ?_; rintro e_ w_ ⟨rfl, hw_⟩; subst w_) | (refine (book_want.no _ 5).mono ?_; rintro e_ w_ ⟨rfl, hw_⟩; subst w_)) | (go_at_call 62; first | (refine (book_within.tt _ _ _ _ (by assumption) (by assumption)).mono ?_; rintro e_ w_ ⟨rfl, hw_⟩; subst w_) | (refine (book_within.lo _ _ _ _ (by assumption)).mono ?_; rintro e_ w_ ⟨rfl, hw_⟩; subst w_) | (refine (book_within.hi _ _ _ _ (by assumption) (by assumption)).mono ?_; rintro e_ w_ ⟨rfl, hw_⟩; subst w_)))
    obtain ⟨wu, hwx⟩ : ∃ W : World, W = ((wx.setCell ⟨w.heap.size + 1, 9, none⟩ (.int .i64 0)).setCell ⟨w.heap.size + 1, 2, none⟩ (.int .i64 0)) := ⟨_, rfl⟩
    rw [← hwx]
    have BU := Aside0.mk (show wu.heap[w.heap.size + 1]? = some (.cells #[.int .i64 0, .int .i64 0, .int .i64 0, .int .i64 id, .int .i64 te, .int .i64 de, .int .i64 fe, .int .i64 pr, .int .i64 ch, .int .i64 0, .int .i64 tg, .int .i64 ow, .int .i64 bp] 41 (0, 0)) from hwx ▸ (blk_set (blk_set B2.out 9 _) 2 _))
    have B1u := Aside0.mk (show wu.heap[w.heap.size]? = some (.cells #[.int .i64 3, .int .i64 me, .int .i64 mo, .int .i64 id, .int .i64 te, .int .i64 de, .int .i64 fe, .int .i64 pr, .int .i64 ch, .int .i64 un, .int .i64 tg, .int .i64 ow, .int .i64 bp] 41 (0, 0)) from hwx ▸ (blk_far (p := ⟨w.heap.size + 1, 2, none⟩) (blk_far (p := ⟨w.heap.size + 1, 9, none⟩) B1.out (by show w.heap.size ≠ w.heap.size + 1; omega) _) (by show w.heap.size ≠ w.heap.size + 1; omega) _))
    have HU := Aside0.mk (show Below w.heap.size w wu from hwx ▸ (below_set (g := w.heap.size + 1) (j := 2) (below_set (g := w.heap.size + 1) (j := 9) HX.out (by omega)) (by omega)))
    clear hwx fz9 tc9 fz2 tc2
    clear x0 x1 x2 x3 x4 x5 x6 x7 x8 x9 x10 x11 x12
    have x0 : wu.cell? ⟨w.heap.size, 0, none⟩ = some (.int .i64 3) := (blk_cell B1u.out 0).trans rfl
    have x1 : wu.cell? ⟨w.heap.size, 1, none⟩ = some (.int .i64 me) := (blk_cell B1u.out 1).trans rfl
    have x2 : wu.cell? ⟨w.heap.size, 2, none⟩ = some (.int .i64 mo) := (blk_cell B1u.out 2).trans rfl
    have x3 : wu.cell? ⟨w.heap.size, 3, none⟩ = some (.int .i64 id) := (blk_cell B1u.out 3).trans rfl
    have x4 : wu.cell? ⟨w.heap.size, 4, none⟩ = some (.int .i64 te) := (blk_cell B1u.out 4).trans rfl
    have x5 : wu.cell? ⟨w.heap.size, 5, none⟩ = some (.int .i64 de) := (blk_cell B1u.out 5).trans rfl
    have x6 : wu.cell? ⟨w.heap.size, 6, none⟩ = some (.int .i64 fe) := (blk_cell B1u.out 6).trans rfl
    have x7 : wu.cell? ⟨w.heap.size, 7, none⟩ = some (.int .i64 pr) := (blk_cell B1u.out 7).trans rfl
    have x8 : wu.cell? ⟨w.heap.size, 8, none⟩ = some (.int .i64 ch) := (blk_cell B1u.out 8).trans rfl
    have x9 : wu.cell? ⟨w.heap.size, 9, none⟩ = some (.int .i64 un) := (blk_cell B1u.out 9).trans rfl
    have x10 : wu.cell? ⟨w.heap.size, 10, none⟩ = some (.int .i64 tg) := (blk_cell B1u.out 10).trans rfl
    have x11 : wu.cell? ⟨w.heap.size, 11, none⟩ = some (.int .i64 ow) := (blk_cell B1u.out 11).trans rfl
    have x12 : wu.cell? ⟨w.heap.size, 12, none⟩ = some (.int .i64 bp) := (blk_cell B1u.out 12).trans rfl
    by_cases h15_ : 1 ≤ id
    rotate_left
    · have q15_0 : decide (1 ≤ id) = false := by exact decide_eq_false (by omega)
      have q15_1 : decide (id ≥ 1) = false := by exact decide_eq_false (by omega)
      have HRV := Aside0.mk (show r = false by rw [HR.out]; exact decide_eq_false (by unfold evMay evM1 evM2 evM3 evM4 evM5 evZ evT evU evB; omega))
      clear h1_ h2_ h11_ h12_ h13_ h14_ h15_
      go_wp2_with (first | (go_at_call 43; first | (refine (book_want.yes _ 5).mono ?_; rintro e_ w_ ⟨rfl, hw_⟩; subst w_) | (refine (book_want.no _ 5).mono ?_; rintro e_ w_ ⟨rfl, hw_⟩; subst w_)) | (go_at_call 62; first | (refine (book_within.tt _ _ _ _ (by assumption) (by assumption)).mono ?_; rintro e_ w_ ⟨rfl, hw_⟩; subst w_) | (refine (book_within.lo _ _ _ _ (by assumption)).mono ?_; rintro e_ w_ ⟨rfl, hw_⟩; subst w_) | (refine (book_within.hi _ _ _ _ (by assumption) (by assumption)).mono ?_; rintro e_ w_ ⟨rfl, hw_⟩; subst w_)))
      exact ⟨rfl, by rw [HRV.out]; rfl, HU.out⟩
    have q15_0 : decide (1 ≤ id) = true := by exact decide_eq_true (by omega)
    have q15_1 : decide (id ≥ 1) = true := by exact decide_eq_true (by omega)
    by_cases h16_ : id ≤ 1048575
    rotate_left
    · have q16_0 : decide (id ≤ 1048575) = false := by exact decide_eq_false (by omega)
      have q16_1 : decide (1048575 ≥ id) = false := by exact decide_eq_false (by omega)
      have HRV := Aside0.mk (show r = false by rw [HR.out]; exact decide_eq_false (by unfold evMay evM1 evM2 evM3 evM4 evM5 evZ evT evU evB; omega))
      clear h1_ h2_ h11_ h12_ h13_ h14_ h15_ h16_
      go_wp2_with (first | (go_at_call 43; first | (refine (book_want.yes _ 5).mono ?_; rintro e_ w_ ⟨rfl, hw_⟩; subst w_) | (refine (book_want.no _ 5).mono ?_; rintro e_ w_ ⟨rfl, hw_⟩; subst w_)) | (go_at_call 62; first | (refine (book_within.tt _ _ _ _ (by assumption) (by assumption)).mono ?_; rintro e_ w_ ⟨rfl, hw_⟩; subst w_) | (refine (book_within.lo _ _ _ _ (by assumption)).mono ?_; rintro e_ w_ ⟨rfl, hw_⟩; subst w_) | (refine (book_within.hi _ _ _ _ (by assumption) (by assumption)).mono ?_; rintro e_ w_ ⟨rfl, hw_⟩; subst w_)))
      exact ⟨rfl, by rw [HRV.out]; rfl, HU.out⟩
    have q16_0 : decide (id ≤ 1048575) = true := by exact decide_eq_true (by omega)
    have q16_1 : decide (1048575 ≥ id) = true := by exact decide_eq_true (by omega)
    by_cases h17_ : 0 ≤ tg
    rotate_left
    · have q17_0 : decide (0 ≤ tg) = false := by exact decide_eq_false (by omega)
      have q17_1 : decide (tg ≥ 0) = false := by exact decide_eq_false (by omega)
      have HRV := Aside0.mk (show r = false by rw [HR.out]; exact decide_eq_false (by unfold evMay evM1 evM2 evM3 evM4 evM5 evZ evT evU evB; omega))
      clear h1_ h2_ h11_ h12_ h13_ h14_ h15_ h16_ h17_
      go_wp2_with (first | (go_at_call 43; first | (refine (book_want.yes _ 5).mono ?_; rintro e_ w_ ⟨rfl, hw_⟩; subst w_) | (refine (book_want.no _ 5).mono ?_; rintro e_ w_ ⟨rfl, hw_⟩; subst w_)) | (go_at_call 62; first | (refine (book_within.tt _ _ _ _ (by assumption) (by assumption)).mono ?_; rintro e_ w_ ⟨rfl, hw_⟩; subst w_) | (refine (book_within.lo _ _ _ _ (by assumption)).mono ?_; rintro e_ w_ ⟨rfl, hw_⟩; subst w_) | (refine (book_within.hi _ _ _ _ (by assumption) (by assumption)).mono ?_; rintro e_ w_ ⟨rfl, hw_⟩; subst w_)))
      exact ⟨rfl, by rw [HRV.out]; rfl, HU.out⟩
    have q17_0 : decide (0 ≤ tg) = true := by exact decide_eq_true (by omega)
    have q17_1 : decide (tg ≥ 0) = true := by exact decide_eq_true (by omega)
    by_cases h18_ : tg ≤ 65535
    rotate_left
    · have q18_0 : decide (tg ≤ 65535) = false := by exact decide_eq_false (by omega)
      have q18_1 : decide (65535 ≥ tg) = false := by exact decide_eq_false (by omega)
      have HRV := Aside0.mk (show r = false by rw [HR.out]; exact decide_eq_false (by unfold evMay evM1 evM2 evM3 evM4 evM5 evZ evT evU evB; omega))
      clear h1_ h2_ h11_ h12_ h13_ h14_ h15_ h16_ h17_ h18_
      go_wp2_with (first | (go_at_call 43; first | (refine (book_want.yes _ 5).mono ?_; rintro e_ w_ ⟨rfl, hw_⟩; subst w_) | (refine (book_want.no _ 5).mono ?_; rintro e_ w_ ⟨rfl, hw_⟩; subst w_)) | (go_at_call 62; first | (refine (book_within.tt _ _ _ _ (by assumption) (by assumption)).mono ?_; rintro e_ w_ ⟨rfl, hw_⟩; subst w_) | (refine (book_within.lo _ _ _ _ (by assumption)).mono ?_; rintro e_ w_ ⟨rfl, hw_⟩; subst w_) | (refine (book_within.hi _ _ _ _ (by assumption) (by assumption)).mono ?_; rintro e_ w_ ⟨rfl, hw_⟩; subst w_)))
      exact ⟨rfl, by rw [HRV.out]; rfl, HU.out⟩
    have q18_0 : decide (tg ≤ 65535) = true := by exact decide_eq_true (by omega)
    have q18_1 : decide (65535 ≥ tg) = true := by exact decide_eq_true (by omega)
    have fz3 := blk_frozen BU.out 3
    have fz10 := blk_frozen (blk_set BU.out 3 (.int .i64 0)) 10
    have fy10 := blk_frozen BU.out 10
    have tc3 : wu.cell? ⟨w.heap.size + 1, 3, none⟩ = some (.int .i64 id) := (blk_cell BU.out 3).trans rfl
    have tc10 : wu.cell? ⟨w.heap.size + 1, 10, none⟩ = some (.int .i64 tg) := (blk_cell BU.out 10).trans rfl
    have BF := Aside0.mk (blk_set (blk_set BU.out 3 (.int .i64 0)) 10 (.int .i64 0))
    have HF := Aside0.mk (below_set (g := w.heap.size + 1) (j := 10) (v := .int .i64 0) (below_set (g := w.heap.size + 1) (j := 3) (v := .int .i64 0) HU.out (by omega)) (by omega))
    have HP := Aside0.mk (And.intro h1_ (And.intro h2_ (And.intro h11_ (And.intro h12_ (And.intro h13_ (And.intro h14_ (And.intro h15_ (And.intro h16_ (And.intro h17_ (h18_))))))))))
    clear h1_ h2_ h11_ h12_ h13_ h14_ h15_ h16_ h17_ h18_
    have z0 : ((wu.setCell ⟨w.heap.size + 1, 3, none⟩ (.int .i64 0)).setCell ⟨w.heap.size + 1, 10, none⟩ (.int .i64 0)).cell? ⟨w.heap.size + 1, 0, none⟩ = some (.int .i64 0) := (blk_cell BF.out 0).trans rfl
    have z1 : ((wu.setCell ⟨w.heap.size + 1, 3, none⟩ (.int .i64 0)).setCell ⟨w.heap.size + 1, 10, none⟩ (.int .i64 0)).cell? ⟨w.heap.size + 1, 1, none⟩ = some (.int .i64 0) := (blk_cell BF.out 1).trans rfl
    have z2 : ((wu.setCell ⟨w.heap.size + 1, 3, none⟩ (.int .i64 0)).setCell ⟨w.heap.size + 1, 10, none⟩ (.int .i64 0)).cell? ⟨w.heap.size + 1, 2, none⟩ = some (.int .i64 0) := (blk_cell BF.out 2).trans rfl
    have z3 : ((wu.setCell ⟨w.heap.size + 1, 3, none⟩ (.int .i64 0)).setCell ⟨w.heap.size + 1, 10, none⟩ (.int .i64 0)).cell? ⟨w.heap.size + 1, 3, none⟩ = some (.int .i64 0) := (blk_cell BF.out 3).trans rfl
    have z4 : ((wu.setCell ⟨w.heap.size + 1, 3, none⟩ (.int .i64 0)).setCell ⟨w.heap.size + 1, 10, none⟩ (.int .i64 0)).cell? ⟨w.heap.size + 1, 4, none⟩ = some (.int .i64 te) := (blk_cell BF.out 4).trans rfl
    have z5 : ((wu.setCell ⟨w.heap.size + 1, 3, none⟩ (.int .i64 0)).setCell ⟨w.heap.size + 1, 10, none⟩ (.int .i64 0)).cell? ⟨w.heap.size + 1, 5, none⟩ = some (.int .i64 de) := (blk_cell BF.out 5).trans rfl
    have z6 : ((wu.setCell ⟨w.heap.size + 1, 3, none⟩ (.int .i64 0)).setCell ⟨w.heap.size + 1, 10, none⟩ (.int .i64 0)).cell? ⟨w.heap.size + 1, 6, none⟩ = some (.int .i64 fe) := (blk_cell BF.out 6).trans rfl
    have z7 : ((wu.setCell ⟨w.heap.size + 1, 3, none⟩ (.int .i64 0)).setCell ⟨w.heap.size + 1, 10, none⟩ (.int .i64 0)).cell? ⟨w.heap.size + 1, 7, none⟩ = some (.int .i64 pr) := (blk_cell BF.out 7).trans rfl
    have z8 : ((wu.setCell ⟨w.heap.size + 1, 3, none⟩ (.int .i64 0)).setCell ⟨w.heap.size + 1, 10, none⟩ (.int .i64 0)).cell? ⟨w.heap.size + 1, 8, none⟩ = some (.int .i64 ch) := (blk_cell BF.out 8).trans rfl
    have z9 : ((wu.setCell ⟨w.heap.size + 1, 3, none⟩ (.int .i64 0)).setCell ⟨w.heap.size + 1, 10, none⟩ (.int .i64 0)).cell? ⟨w.heap.size + 1, 9, none⟩ = some (.int .i64 0) := (blk_cell BF.out 9).trans rfl
    have z10 : ((wu.setCell ⟨w.heap.size + 1, 3, none⟩ (.int .i64 0)).setCell ⟨w.heap.size + 1, 10, none⟩ (.int .i64 0)).cell? ⟨w.heap.size + 1, 10, none⟩ = some (.int .i64 0) := (blk_cell BF.out 10).trans rfl
    have z11 : ((wu.setCell ⟨w.heap.size + 1, 3, none⟩ (.int .i64 0)).setCell ⟨w.heap.size + 1, 10, none⟩ (.int .i64 0)).cell? ⟨w.heap.size + 1, 11, none⟩ = some (.int .i64 ow) := (blk_cell BF.out 11).trans rfl
    have z12 : ((wu.setCell ⟨w.heap.size + 1, 3, none⟩ (.int .i64 0)).setCell ⟨w.heap.size + 1, 10, none⟩ (.int .i64 0)).cell? ⟨w.heap.size + 1, 12, none⟩ = some (.int .i64 bp) := (blk_cell BF.out 12).trans rfl
    go_wp2_with (first | (go_at_call 43; first | (refine (book_want.yes _ 5).mono ?_; rintro e_ w_ ⟨rfl, hw_⟩; subst w_) | (refine (book_want.any _ _ 5).mono ?_; rintro e_ w_ ⟨he_, hw_⟩; subst w_; split at he_ <;> (rename_i hq_; subst he_; have HQ := Aside0.mk hq_; clear hq_))) | (go_at_call 62; refine (book_within.tt _ _ _ _ (by assumption) (by assumption)).mono ?_; rintro e_ w_ ⟨rfl, hw_⟩; subst w_))
    · have hrv : r = true := by
        have hq := HQ.out
        have hp := HP.out
        simp only [Bool.and_eq_true, beq_iff_eq] at hq
        rw [HR.out]
        exact decide_eq_true (by unfold evMay evM1 evM2 evM3 evM4 evM5 evZ evT evU evB; omega)
      go_end0
      exact ⟨by rw [hrv]; rfl, HF.out⟩
    · have hrv : r = false := by
        have hq := HQ.out
        have hp := HP.out
        simp only [Bool.and_eq_true, beq_iff_eq] at hq
        rw [HR.out]
        exact decide_eq_false (by unfold evMay evM1 evM2 evM3 evM4 evM5 evZ evT evU evB; omega)
      exact ⟨rfl, by rw [hrv]; rfl, HF.out⟩
  by_cases k2 : k = 2
  · subst k2
    clear k1 k5 k4 k3
    go_upto_region 9 with (first | (go_at_call 43; first | (refine (book_want.yes _ 5).mono ?_; rintro e_ w_ ⟨rfl, hw_⟩; subst w_) | (refine (book_want.no _ 5).mono ?_; rintro e_ w_ ⟨rfl, hw_⟩; subst w_)) | (go_at_call 62; first | (refine (book_within.tt _ _ _ _ (by assumption) (by assumption)).mono ?_; rintro e_ w_ ⟨rfl, hw_⟩; subst w_) | (refine (book_within.lo _ _ _ _ (by assumption)).mono ?_; rintro e_ w_ ⟨rfl, hw_⟩; subst w_) | (refine (book_within.hi _ _ _ _ (by assumption) (by assumption)).mono ?_; rintro e_ w_ ⟨rfl, hw_⟩; subst w_)))
    obtain ⟨wy, hwx⟩ : ∃ W : World, W = wx.alloc (.cells #[.int .i64 id, .int .i64 te, .int .i64 de, .int .i64 fe, .int .i64 pr, .int .i64 ch, .int .i64 un] 31) := ⟨_, rfl⟩
    rw [← hwx]
    have B2y := Aside0.mk (show wy.heap[w.heap.size + 1]? = some (.cells #[.int .i64 0, .int .i64 0, .int .i64 mo, .int .i64 id, .int .i64 te, .int .i64 de, .int .i64 fe, .int .i64 pr, .int .i64 ch, .int .i64 un, .int .i64 tg, .int .i64 ow, .int .i64 bp] 41 (0, 0)) from hwx ▸ blk_alloc B2.out _)
    have B1y := Aside0.mk (show wy.heap[w.heap.size]? = some (.cells #[.int .i64 2, .int .i64 me, .int .i64 mo, .int .i64 id, .int .i64 te, .int .i64 de, .int .i64 fe, .int .i64 pr, .int .i64 ch, .int .i64 un, .int .i64 tg, .int .i64 ow, .int .i64 bp] 41 (0, 0)) from hwx ▸ blk_alloc B1.out _)
    have BT := Aside0.mk (show wy.heap[wx.heap.size]? = some (.cells #[.int .i64 id, .int .i64 te, .int .i64 de, .int .i64 fe, .int .i64 pr, .int .i64 ch, .int .i64 un] 31 (0, 0)) from hwx ▸ blk_new wx _)
    have HY := Aside0.mk (show Below w.heap.size w wy from hwx ▸ below_alloc HX.out _)
    clear hwx
    clear x0 x1 x2 x3 x4 x5 x6 x7 x8 x9 x10 x11 x12
    have x0 : wy.cell? ⟨w.heap.size, 0, none⟩ = some (.int .i64 2) := (blk_cell B1y.out 0).trans rfl
    have x1 : wy.cell? ⟨w.heap.size, 1, none⟩ = some (.int .i64 me) := (blk_cell B1y.out 1).trans rfl
    have x2 : wy.cell? ⟨w.heap.size, 2, none⟩ = some (.int .i64 mo) := (blk_cell B1y.out 2).trans rfl
    have x3 : wy.cell? ⟨w.heap.size, 3, none⟩ = some (.int .i64 id) := (blk_cell B1y.out 3).trans rfl
    have x4 : wy.cell? ⟨w.heap.size, 4, none⟩ = some (.int .i64 te) := (blk_cell B1y.out 4).trans rfl
    have x5 : wy.cell? ⟨w.heap.size, 5, none⟩ = some (.int .i64 de) := (blk_cell B1y.out 5).trans rfl
    have x6 : wy.cell? ⟨w.heap.size, 6, none⟩ = some (.int .i64 fe) := (blk_cell B1y.out 6).trans rfl
    have x7 : wy.cell? ⟨w.heap.size, 7, none⟩ = some (.int .i64 pr) := (blk_cell B1y.out 7).trans rfl
    have x8 : wy.cell? ⟨w.heap.size, 8, none⟩ = some (.int .i64 ch) := (blk_cell B1y.out 8).trans rfl
    have x9 : wy.cell? ⟨w.heap.size, 9, none⟩ = some (.int .i64 un) := (blk_cell B1y.out 9).trans rfl
    have x10 : wy.cell? ⟨w.heap.size, 10, none⟩ = some (.int .i64 tg) := (blk_cell B1y.out 10).trans rfl
    have x11 : wy.cell? ⟨w.heap.size, 11, none⟩ = some (.int .i64 ow) := (blk_cell B1y.out 11).trans rfl
    have x12 : wy.cell? ⟨w.heap.size, 12, none⟩ = some (.int .i64 bp) := (blk_cell B1y.out 12).trans rfl
    have y0 : wy.cell? ⟨wx.heap.size, 0, none⟩ = some (.int .i64 id) := (blk_cell BT.out 0).trans rfl
    have y1 : wy.cell? ⟨wx.heap.size, 1, none⟩ = some (.int .i64 te) := (blk_cell BT.out 1).trans rfl
    have y2 : wy.cell? ⟨wx.heap.size, 2, none⟩ = some (.int .i64 de) := (blk_cell BT.out 2).trans rfl
    have y3 : wy.cell? ⟨wx.heap.size, 3, none⟩ = some (.int .i64 fe) := (blk_cell BT.out 3).trans rfl
    have y4 : wy.cell? ⟨wx.heap.size, 4, none⟩ = some (.int .i64 pr) := (blk_cell BT.out 4).trans rfl
    have y5 : wy.cell? ⟨wx.heap.size, 5, none⟩ = some (.int .i64 ch) := (blk_cell BT.out 5).trans rfl
    have y6 : wy.cell? ⟨wx.heap.size, 6, none⟩ = some (.int .i64 un) := (blk_cell BT.out 6).trans rfl
    by_cases h19_ : 0 ≤ de
    rotate_left
    · have q19_0 : decide (0 ≤ de) = false := by exact decide_eq_false (by omega)
      have q19_1 : decide (de ≥ 0) = false := by exact decide_eq_false (by omega)
      have HRV := Aside0.mk (show r = false by rw [HR.out]; exact decide_eq_false (by unfold evMay evM1 evM2 evM3 evM4 evM5 evZ evT evU evB; omega))
      clear h1_ h2_ h19_
      go_wp2_with (first | (go_at_call 43; first | (refine (book_want.yes _ 5).mono ?_; rintro e_ w_ ⟨rfl, hw_⟩; subst w_) | (refine (book_want.no _ 5).mono ?_; rintro e_ w_ ⟨rfl, hw_⟩; subst w_)) | (go_at_call 62; first | (refine (book_within.tt _ _ _ _ (by assumption) (by assumption)).mono ?_; rintro e_ w_ ⟨rfl, hw_⟩; subst w_) | (refine (book_within.lo _ _ _ _ (by assumption)).mono ?_; rintro e_ w_ ⟨rfl, hw_⟩; subst w_) | (refine (book_within.hi _ _ _ _ (by assumption) (by assumption)).mono ?_; rintro e_ w_ ⟨rfl, hw_⟩; subst w_)))
      exact ⟨rfl, by rw [HRV.out]; rfl, HY.out⟩
    have q19_0 : decide (0 ≤ de) = true := by exact decide_eq_true (by omega)
    have q19_1 : decide (de ≥ 0) = true := by exact decide_eq_true (by omega)
    by_cases h20_ : 0 ≤ fe
    rotate_left
    · have q20_0 : decide (0 ≤ fe) = false := by exact decide_eq_false (by omega)
      have q20_1 : decide (fe ≥ 0) = false := by exact decide_eq_false (by omega)
      have HRV := Aside0.mk (show r = false by rw [HR.out]; exact decide_eq_false (by unfold evMay evM1 evM2 evM3 evM4 evM5 evZ evT evU evB; omega))
      clear h1_ h2_ h19_ h20_
      go_wp2_with (first | (go_at_call 43; first | (refine (book_want.yes _ 5).mono ?_; rintro e_ w_ ⟨rfl, hw_⟩; subst w_) | (refine (book_want.no _ 5).mono ?_; rintro e_ w_ ⟨rfl, hw_⟩; subst w_)) | (go_at_call 62; first | (refine (book_within.tt _ _ _ _ (by assumption) (by assumption)).mono ?_; rintro e_ w_ ⟨rfl, hw_⟩; subst w_) | (refine (book_within.lo _ _ _ _ (by assumption)).mono ?_; rintro e_ w_ ⟨rfl, hw_⟩; subst w_) | (refine (book_within.hi _ _ _ _ (by assumption) (by assumption)).mono ?_; rintro e_ w_ ⟨rfl, hw_⟩; subst w_)))
      exact ⟨rfl, by rw [HRV.out]; rfl, HY.out⟩
    have q20_0 : decide (0 ≤ fe) = true := by exact decide_eq_true (by omega)
    have q20_1 : decide (fe ≥ 0) = true := by exact decide_eq_true (by omega)
    by_cases h21_ : 0 ≤ pr
    rotate_left
    · have q21_0 : decide (0 ≤ pr) = false := by exact decide_eq_false (by omega)
      have q21_1 : decide (pr ≥ 0) = false := by exact decide_eq_false (by omega)
      have HRV := Aside0.mk (show r = false by rw [HR.out]; exact decide_eq_false (by unfold evMay evM1 evM2 evM3 evM4 evM5 evZ evT evU evB; omega))
      clear h1_ h2_ h19_ h20_ h21_
      go_wp2_with (first | (go_at_call 43; first | (refine (book_want.yes _ 5).mono ?_; rintro e_ w_ ⟨rfl, hw_⟩; subst w_) | (refine (book_want.no _ 5).mono ?_; rintro e_ w_ ⟨rfl, hw_⟩; subst w_)) | (go_at_call 62; first | (refine (book_within.tt _ _ _ _ (by assumption) (by assumption)).mono ?_; rintro e_ w_ ⟨rfl, hw_⟩; subst w_) | (refine (book_within.lo _ _ _ _ (by assumption)).mono ?_; rintro e_ w_ ⟨rfl, hw_⟩; subst w_) | (refine (book_within.hi _ _ _ _ (by assumption) (by assumption)).mono ?_; rintro e_ w_ ⟨rfl, hw_⟩; subst w_)))
      exact ⟨rfl, by rw [HRV.out]; rfl, HY.out⟩
    have q21_0 : decide (0 ≤ pr) = true := by exact decide_eq_true (by omega)
    have q21_1 : decide (pr ≥ 0) = true := by exact decide_eq_true (by omega)
    by_cases h22_ : 0 ≤ ch
    rotate_left
    · have q22_0 : decide (0 ≤ ch) = false := by exact decide_eq_false (by omega)
      have q22_1 : decide (ch ≥ 0) = false := by exact decide_eq_false (by omega)
      have HRV := Aside0.mk (show r = false by rw [HR.out]; exact decide_eq_false (by unfold evMay evM1 evM2 evM3 evM4 evM5 evZ evT evU evB; omega))
      clear h1_ h2_ h19_ h20_ h21_ h22_
      go_wp2_with (first | (go_at_call 43; first | (refine (book_want.yes _ 5).mono ?_; rintro e_ w_ ⟨rfl, hw_⟩; subst w_) | (refine (book_want.no _ 5).mono ?_; rintro e_ w_ ⟨rfl, hw_⟩; subst w_)) | (go_at_call 62; first | (refine (book_within.tt _ _ _ _ (by assumption) (by assumption)).mono ?_; rintro e_ w_ ⟨rfl, hw_⟩; subst w_) | (refine (book_within.lo _ _ _ _ (by assumption)).mono ?_; rintro e_ w_ ⟨rfl, hw_⟩; subst w_) | (refine (book_within.hi _ _ _ _ (by assumption) (by assumption)).mono ?_; rintro e_ w_ ⟨rfl, hw_⟩; subst w_)))
      exact ⟨rfl, by rw [HRV.out]; rfl, HY.out⟩
    have q22_0 : decide (0 ≤ ch) = true := by exact decide_eq_true (by omega)
    have q22_1 : decide (ch ≥ 0) = true := by exact decide_eq_true (by omega)
    by_cases h23_ : 1 ≤ te
    rotate_left
    · have q23_0 : decide (1 ≤ te) = false := by exact decide_eq_false (by omega)
      have q23_1 : decide (te ≥ 1) = false := by exact decide_eq_false (by omega)
      have HRV := Aside0.mk (show r = false by rw [HR.out]; exact decide_eq_false (by unfold evMay evM1 evM2 evM3 evM4 evM5 evZ evT evU evB; omega))
      clear h1_ h2_ h19_ h20_ h21_ h22_ h23_
      go_wp2_with (first | (go_at_call 43; first | (refine (book_want.yes _ 5).mono ?_; rintro e_ w_ ⟨rfl, hw_⟩; subst w_) | (refine (book_want.no _ 5).mono ?_; rintro e_ w_ ⟨rfl, hw_⟩; subst w_)) | (go_at_call 62; first | (refine (book_within.tt _ _ _ _ (by assumption) (by assumption)).mono ?_; rintro e_ w_ ⟨rfl, hw_⟩; subst w_) | (refine (book_within.lo _ _ _ _ (by assumption)).mono ?_; rintro e_ w_ ⟨rfl, hw_⟩; subst w_) | (refine (book_within.hi _ _ _ _ (by assumption) (by assumption)).mono ?_; rintro e_ w_ ⟨rfl, hw_⟩; subst w_)))
      exact ⟨rfl, by rw [HRV.out]; rfl, HY.out⟩
    have q23_0 : decide (1 ≤ te) = true := by exact decide_eq_true (by omega)
    have q23_1 : decide (te ≥ 1) = true := by exact decide_eq_true (by omega)
    by_cases h24_ : te ≤ 100000000
    rotate_left
    · have q24_0 : decide (te ≤ 100000000) = false := by exact decide_eq_false (by omega)
      have q24_1 : decide (100000000 ≥ te) = false := by exact decide_eq_false (by omega)
      have HRV := Aside0.mk (show r = false by rw [HR.out]; exact decide_eq_false (by unfold evMay evM1 evM2 evM3 evM4 evM5 evZ evT evU evB; omega))
      clear h1_ h2_ h19_ h20_ h21_ h22_ h23_ h24_
      go_wp2_with (first | (go_at_call 43; first | (refine (book_want.yes _ 5).mono ?_; rintro e_ w_ ⟨rfl, hw_⟩; subst w_) | (refine (book_want.no _ 5).mono ?_; rintro e_ w_ ⟨rfl, hw_⟩; subst w_)) | (go_at_call 62; first | (refine (book_within.tt _ _ _ _ (by assumption) (by assumption)).mono ?_; rintro e_ w_ ⟨rfl, hw_⟩; subst w_) | (refine (book_within.lo _ _ _ _ (by assumption)).mono ?_; rintro e_ w_ ⟨rfl, hw_⟩; subst w_) | (refine (book_within.hi _ _ _ _ (by assumption) (by assumption)).mono ?_; rintro e_ w_ ⟨rfl, hw_⟩; subst w_)))
      exact ⟨rfl, by rw [HRV.out]; rfl, HY.out⟩
    have q24_0 : decide (te ≤ 100000000) = true := by exact decide_eq_true (by omega)
    have q24_1 : decide (100000000 ≥ te) = true := by exact decide_eq_true (by omega)
    go_upto_region 10 with (first | (go_at_call 43; first | (refine (book_want.yes _ 5).mono ?_; rintro e_ w_ ⟨rfl, hw_⟩; subst w_) | (refine (book_want.no _ 5).mono ?_; rintro e_ w_ ⟨rfl, hw_⟩; subst w_)) | (go_at_call 62; first | (refine (book_within.tt _ _ _ _ (by assumption) (by assumption)).mono ?_; rintro e_ w_ ⟨rfl, hw_⟩; subst w_) | (refine (book_within.lo _ _ _ _ (by assumption)).mono ?_; rintro e_ w_ ⟨rfl, hw_⟩; subst w_) | (refine (book_within.hi _ _ _ _ (by assumption) (by assumption)).mono ?_; rintro e_ w_ ⟨rfl, hw_⟩; subst w_)))
    obtain ⟨m1, hm1⟩ : ∃ m, (if de < fe then fe else de) = m := ⟨_, rfl⟩
    obtain ⟨m2, hm2⟩ : ∃ m, (if m1 < pr then pr else m1) = m := ⟨_, rfl⟩
    obtain ⟨m3, hm3⟩ : ∃ m, (if m2 < ch then ch else m2) = m := ⟨_, rfl⟩
    have hmx : (m3 = de ∨ m3 = fe ∨ m3 = pr ∨ m3 = ch) ∧ de ≤ m3 ∧ fe ≤ m3 ∧ pr ≤ m3 ∧ ch ≤ m3 := by
      split at hm1 <;> split at hm2 <;> split at hm3 <;> omega
    by_cases h25_ : m3 ≤ 100000000
    rotate_left
    · have q25_0 : decide (m3 ≤ 100000000) = false := by exact decide_eq_false (by omega)
      have q25_1 : decide (100000000 ≥ m3) = false := by exact decide_eq_false (by omega)
      have HRV := Aside0.mk (show r = false by rw [HR.out]; exact decide_eq_false (by unfold evMay evM1 evM2 evM3 evM4 evM5 evZ evT evU evB; omega))
      clear h1_ h2_ h19_ h20_ h21_ h22_ h23_ h24_ hmx h25_
      go_wp2_with (first | (go_at_call 43; first | (refine (book_want.yes _ 5).mono ?_; rintro e_ w_ ⟨rfl, hw_⟩; subst w_) | (refine (book_want.no _ 5).mono ?_; rintro e_ w_ ⟨rfl, hw_⟩; subst w_)) | (go_at_call 62; first | (refine (book_within.tt _ _ _ _ (by assumption) (by assumption)).mono ?_; rintro e_ w_ ⟨rfl, hw_⟩; subst w_) | (refine (book_within.lo _ _ _ _ (by assumption)).mono ?_; rintro e_ w_ ⟨rfl, hw_⟩; subst w_) | (refine (book_within.hi _ _ _ _ (by assumption) (by assumption)).mono ?_; rintro e_ w_ ⟨rfl, hw_⟩; subst w_)))
      exact ⟨rfl, by rw [HRV.out]; rfl, HY.out⟩
    have q25_0 : decide (m3 ≤ 100000000) = true := by exact decide_eq_true (by omega)
    have q25_1 : decide (100000000 ≥ m3) = true := by exact decide_eq_true (by omega)
    have w1 : wrap64 (de + fe) = de + fe := IntWalk.wrap64_in _ ⟨by omega, by omega⟩
    have w2 : wrap64 (de + fe + pr) = de + fe + pr := IntWalk.wrap64_in _ ⟨by omega, by omega⟩
    have w3 : wrap64 (de + fe + pr + ch) = de + fe + pr + ch := IntWalk.wrap64_in _ ⟨by omega, by omega⟩
    by_cases h26_ : te = de + fe + pr + ch
    rotate_left
    · have q26_0 : (te == de + fe + pr + ch) = false := by exact beq_eq_false_iff_ne.mpr (by omega)
      have HRV := Aside0.mk (show r = false by rw [HR.out]; exact decide_eq_false (by unfold evMay evM1 evM2 evM3 evM4 evM5 evZ evT evU evB; omega))
      clear h1_ h2_ h19_ h20_ h21_ h22_ h23_ h24_ hmx h25_ h26_
      go_wp2_with (first | (go_at_call 43; first | (refine (book_want.yes _ 5).mono ?_; rintro e_ w_ ⟨rfl, hw_⟩; subst w_) | (refine (book_want.no _ 5).mono ?_; rintro e_ w_ ⟨rfl, hw_⟩; subst w_)) | (go_at_call 62; first | (refine (book_within.tt _ _ _ _ (by assumption) (by assumption)).mono ?_; rintro e_ w_ ⟨rfl, hw_⟩; subst w_) | (refine (book_within.lo _ _ _ _ (by assumption)).mono ?_; rintro e_ w_ ⟨rfl, hw_⟩; subst w_) | (refine (book_within.hi _ _ _ _ (by assumption) (by assumption)).mono ?_; rintro e_ w_ ⟨rfl, hw_⟩; subst w_)))
      exact ⟨rfl, by rw [HRV.out]; rfl, HY.out⟩
    have q26_0 : (te == de + fe + pr + ch) = true := by exact beq_iff_eq.mpr (by omega)
    by_cases h27_ : 1 ≤ un
    rotate_left
    · have q27_0 : decide (1 ≤ un) = false := by exact decide_eq_false (by omega)
      have q27_1 : decide (un ≥ 1) = false := by exact decide_eq_false (by omega)
      have HRV := Aside0.mk (show r = false by rw [HR.out]; exact decide_eq_false (by unfold evMay evM1 evM2 evM3 evM4 evM5 evZ evT evU evB; omega))
      clear h1_ h2_ h19_ h20_ h21_ h22_ h23_ h24_ hmx h25_ h26_ h27_
      go_wp2_with (first | (go_at_call 43; first | (refine (book_want.yes _ 5).mono ?_; rintro e_ w_ ⟨rfl, hw_⟩; subst w_) | (refine (book_want.no _ 5).mono ?_; rintro e_ w_ ⟨rfl, hw_⟩; subst w_)) | (go_at_call 62; first | (refine (book_within.tt _ _ _ _ (by assumption) (by assumption)).mono ?_; rintro e_ w_ ⟨rfl, hw_⟩; subst w_) | (refine (book_within.lo _ _ _ _ (by assumption)).mono ?_; rintro e_ w_ ⟨rfl, hw_⟩; subst w_) | (refine (book_within.hi _ _ _ _ (by assumption) (by assumption)).mono ?_; rintro e_ w_ ⟨rfl, hw_⟩; subst w_)))
      exact ⟨rfl, by rw [HRV.out]; rfl, HY.out⟩
    have q27_0 : decide (1 ≤ un) = true := by exact decide_eq_true (by omega)
    have q27_1 : decide (un ≥ 1) = true := by exact decide_eq_true (by omega)
    by_cases h28_ : un ≤ 2097151
    rotate_left
    · have q28_0 : decide (un ≤ 2097151) = false := by exact decide_eq_false (by omega)
      have q28_1 : decide (2097151 ≥ un) = false := by exact decide_eq_false (by omega)
      have HRV := Aside0.mk (show r = false by rw [HR.out]; exact decide_eq_false (by unfold evMay evM1 evM2 evM3 evM4 evM5 evZ evT evU evB; omega))
      clear h1_ h2_ h19_ h20_ h21_ h22_ h23_ h24_ hmx h25_ h26_ h27_ h28_
      go_wp2_with (first | (go_at_call 43; first | (refine (book_want.yes _ 5).mono ?_; rintro e_ w_ ⟨rfl, hw_⟩; subst w_) | (refine (book_want.no _ 5).mono ?_; rintro e_ w_ ⟨rfl, hw_⟩; subst w_)) | (go_at_call 62; first | (refine (book_within.tt _ _ _ _ (by assumption) (by assumption)).mono ?_; rintro e_ w_ ⟨rfl, hw_⟩; subst w_) | (refine (book_within.lo _ _ _ _ (by assumption)).mono ?_; rintro e_ w_ ⟨rfl, hw_⟩; subst w_) | (refine (book_within.hi _ _ _ _ (by assumption) (by assumption)).mono ?_; rintro e_ w_ ⟨rfl, hw_⟩; subst w_)))
      exact ⟨rfl, by rw [HRV.out]; rfl, HY.out⟩
    have q28_0 : decide (un ≤ 2097151) = true := by exact decide_eq_true (by omega)
    have q28_1 : decide (2097151 ≥ un) = true := by exact decide_eq_true (by omega)
    by_cases h29_ : 0 ≤ mo
    rotate_left
    · have q29_0 : decide (0 ≤ mo) = false := by exact decide_eq_false (by omega)
      have q29_1 : decide (mo ≥ 0) = false := by exact decide_eq_false (by omega)
      have HRV := Aside0.mk (show r = false by rw [HR.out]; exact decide_eq_false (by unfold evMay evM1 evM2 evM3 evM4 evM5 evZ evT evU evB; omega))
      clear h1_ h2_ h19_ h20_ h21_ h22_ h23_ h24_ hmx h25_ h26_ h27_ h28_ h29_
      go_wp2_with (first | (go_at_call 43; first | (refine (book_want.yes _ 5).mono ?_; rintro e_ w_ ⟨rfl, hw_⟩; subst w_) | (refine (book_want.no _ 5).mono ?_; rintro e_ w_ ⟨rfl, hw_⟩; subst w_)) | (go_at_call 62; first | (refine (book_within.tt _ _ _ _ (by assumption) (by assumption)).mono ?_; rintro e_ w_ ⟨rfl, hw_⟩; subst w_) | (refine (book_within.lo _ _ _ _ (by assumption)).mono ?_; rintro e_ w_ ⟨rfl, hw_⟩; subst w_) | (refine (book_within.hi _ _ _ _ (by assumption) (by assumption)).mono ?_; rintro e_ w_ ⟨rfl, hw_⟩; subst w_)))
      exact ⟨rfl, by rw [HRV.out]; rfl, HY.out⟩
    have q29_0 : decide (0 ≤ mo) = true := by exact decide_eq_true (by omega)
    have q29_1 : decide (mo ≥ 0) = true := by exact decide_eq_true (by omega)
    by_cases h30_ : mo ≤ 2399
    rotate_left
    · have q30_0 : decide (mo ≤ 2399) = false := by exact decide_eq_false (by omega)
      have q30_1 : decide (2399 ≥ mo) = false := by exact decide_eq_false (by omega)
      have HRV := Aside0.mk (show r = false by rw [HR.out]; exact decide_eq_false (by unfold evMay evM1 evM2 evM3 evM4 evM5 evZ evT evU evB; omega))
      clear h1_ h2_ h19_ h20_ h21_ h22_ h23_ h24_ hmx h25_ h26_ h27_ h28_ h29_ h30_
      go_wp2_with (first | (go_at_call 43; first | (refine (book_want.yes _ 5).mono ?_; rintro e_ w_ ⟨rfl, hw_⟩; subst w_) | (refine (book_want.no _ 5).mono ?_; rintro e_ w_ ⟨rfl, hw_⟩; subst w_)) | (go_at_call 62; first | (refine (book_within.tt _ _ _ _ (by assumption) (by assumption)).mono ?_; rintro e_ w_ ⟨rfl, hw_⟩; subst w_) | (refine (book_within.lo _ _ _ _ (by assumption)).mono ?_; rintro e_ w_ ⟨rfl, hw_⟩; subst w_) | (refine (book_within.hi _ _ _ _ (by assumption) (by assumption)).mono ?_; rintro e_ w_ ⟨rfl, hw_⟩; subst w_)))
      exact ⟨rfl, by rw [HRV.out]; rfl, HY.out⟩
    have q30_0 : decide (mo ≤ 2399) = true := by exact decide_eq_true (by omega)
    have q30_1 : decide (2399 ≥ mo) = true := by exact decide_eq_true (by omega)
    have HPP := Aside0.mk (And.intro h1_ (And.intro h2_ (And.intro h19_ (And.intro h20_ (And.intro h21_ (And.intro h22_ (And.intro h23_ (And.intro h24_ (And.intro hmx (And.intro h25_ (And.intro h26_ (And.intro h27_ (And.intro h28_ (And.intro h29_ (h30_)))))))))))))))
    clear h1_ h2_ h19_ h20_ h21_ h22_ h23_ h24_ hmx h25_ h26_ h27_ h28_ h29_ h30_
    go_upto_region 13 with (first | (first | (go_at_call 43; first | (refine (book_want.yes _ 5).mono ?_; rintro e_ w_ ⟨rfl, hw_⟩; subst w_) | (refine (book_want.no _ 5).mono ?_; rintro e_ w_ ⟨rfl, hw_⟩; subst w_)) | (go_at_call 62; first | (refine (book_within.tt _ _ _ _ (by assumption) (by assumption)).mono ?_; rintro e_ w_ ⟨rfl, hw_⟩; subst w_) | (refine (book_within.lo _ _ _ _ (by assumption)).mono ?_; rintro e_ w_ ⟨rfl, hw_⟩; subst w_) | (refine (book_within.hi _ _ _ _ (by assumption) (by assumption)).mono ?_; rintro e_ w_ ⟨rfl, hw_⟩; subst w_))) | ((with_reducible refine gate_store (t := 31) (p := 83) rfl ?_); refine seg.list rfl rfl 31 (.tmp 83) _ rfl 41 (w.heap.size + 1) 3 #[.int .i64 0, .int .i64 0, .int .i64 mo, .int .i64 id, .int .i64 te, .int .i64 de, .int .i64 fe, .int .i64 pr, .int .i64 ch, .int .i64 un, .int .i64 tg, .int .i64 ow, .int .i64 bp] #[.int .i64 0, .int .i64 0, .int .i64 mo, .int .i64 id, .int .i64 0, .int .i64 0, .int .i64 0, .int .i64 0, .int .i64 0, .int .i64 0, .int .i64 tg, .int .i64 ow, .int .i64 bp] [.int .i64 id, .int .i64 0, .int .i64 0, .int .i64 0, .int .i64 0, .int .i64 0, .int .i64 0] rfl rfl (by kernel_rfl) (by simp [Value.oneCell']) B2y.out (by simp) rfl ?_; intro wb bx hg; have B3 := Aside0.mk bx; have B1b := Aside0.mk (seg.far B1y.out hg (by omega)); have HB3 := Aside0.mk (seg.below HY.out hg (by omega)); clear bx hg))
    clear w1 w2 w3 hm1 hm2 hm3
    clear x0 x1 x2 x3 x4 x5 x6 x7 x8 x9 x10 x11 x12
    have x0 : wb.cell? ⟨w.heap.size, 0, none⟩ = some (.int .i64 2) := (blk_cell B1b.out 0).trans rfl
    have x1 : wb.cell? ⟨w.heap.size, 1, none⟩ = some (.int .i64 me) := (blk_cell B1b.out 1).trans rfl
    have x2 : wb.cell? ⟨w.heap.size, 2, none⟩ = some (.int .i64 mo) := (blk_cell B1b.out 2).trans rfl
    have x3 : wb.cell? ⟨w.heap.size, 3, none⟩ = some (.int .i64 id) := (blk_cell B1b.out 3).trans rfl
    have x4 : wb.cell? ⟨w.heap.size, 4, none⟩ = some (.int .i64 te) := (blk_cell B1b.out 4).trans rfl
    have x5 : wb.cell? ⟨w.heap.size, 5, none⟩ = some (.int .i64 de) := (blk_cell B1b.out 5).trans rfl
    have x6 : wb.cell? ⟨w.heap.size, 6, none⟩ = some (.int .i64 fe) := (blk_cell B1b.out 6).trans rfl
    have x7 : wb.cell? ⟨w.heap.size, 7, none⟩ = some (.int .i64 pr) := (blk_cell B1b.out 7).trans rfl
    have x8 : wb.cell? ⟨w.heap.size, 8, none⟩ = some (.int .i64 ch) := (blk_cell B1b.out 8).trans rfl
    have x9 : wb.cell? ⟨w.heap.size, 9, none⟩ = some (.int .i64 un) := (blk_cell B1b.out 9).trans rfl
    have x10 : wb.cell? ⟨w.heap.size, 10, none⟩ = some (.int .i64 tg) := (blk_cell B1b.out 10).trans rfl
    have x11 : wb.cell? ⟨w.heap.size, 11, none⟩ = some (.int .i64 ow) := (blk_cell B1b.out 11).trans rfl
    have x12 : wb.cell? ⟨w.heap.size, 12, none⟩ = some (.int .i64 bp) := (blk_cell B1b.out 12).trans rfl
    have fz2 := blk_frozen B3.out 2
    have tc2 : wb.cell? ⟨w.heap.size + 1, 2, none⟩ = some (.int .i64 mo) := (blk_cell B3.out 2).trans rfl
    go_upto_region 21 with (first | (go_at_call 43; first | (refine (book_want.yes _ 5).mono ?_; rintro e_ w_ ⟨rfl, hw_⟩; subst w_) | (refine (book_want.no _ 5).mono ?_; rintro e_ w_ ⟨rfl, hw_⟩; subst w_)) | (go_at_call 62; first | (refine (book_within.tt _ _ _ _ (by assumption) (by assumption)).mono ?_; rintro e_ w_ ⟨rfl, hw_⟩; subst w_) | (refine (book_within.lo _ _ _ _ (by assumption)).mono ?_; rintro e_ w_ ⟨rfl, hw_⟩; subst w_) | (refine (book_within.hi _ _ _ _ (by assumption) (by assumption)).mono ?_; rintro e_ w_ ⟨rfl, hw_⟩; subst w_)))
    obtain ⟨wc, hwx⟩ : ∃ W : World, W = (wb.setCell ⟨w.heap.size + 1, 2, none⟩ (.int .i64 0)) := ⟨_, rfl⟩
    rw [← hwx]
    have BC := Aside0.mk (show wc.heap[w.heap.size + 1]? = some (.cells #[.int .i64 0, .int .i64 0, .int .i64 0, .int .i64 id, .int .i64 0, .int .i64 0, .int .i64 0, .int .i64 0, .int .i64 0, .int .i64 0, .int .i64 tg, .int .i64 ow, .int .i64 bp] 41 (0, 0)) from hwx ▸ (blk_set B3.out 2 _))
    have B1c := Aside0.mk (show wc.heap[w.heap.size]? = some (.cells #[.int .i64 2, .int .i64 me, .int .i64 mo, .int .i64 id, .int .i64 te, .int .i64 de, .int .i64 fe, .int .i64 pr, .int .i64 ch, .int .i64 un, .int .i64 tg, .int .i64 ow, .int .i64 bp] 41 (0, 0)) from hwx ▸ (blk_far (p := ⟨w.heap.size + 1, 2, none⟩) B1b.out (by show w.heap.size ≠ w.heap.size + 1; omega) _))
    have HC := Aside0.mk (show Below w.heap.size w wc from hwx ▸ (below_set (g := w.heap.size + 1) (j := 2) HB3.out (by omega)))
    clear hwx fz2 tc2
    clear x0 x1 x2 x3 x4 x5 x6 x7 x8 x9 x10 x11 x12
    have x0 : wc.cell? ⟨w.heap.size, 0, none⟩ = some (.int .i64 2) := (blk_cell B1c.out 0).trans rfl
    have x1 : wc.cell? ⟨w.heap.size, 1, none⟩ = some (.int .i64 me) := (blk_cell B1c.out 1).trans rfl
    have x2 : wc.cell? ⟨w.heap.size, 2, none⟩ = some (.int .i64 mo) := (blk_cell B1c.out 2).trans rfl
    have x3 : wc.cell? ⟨w.heap.size, 3, none⟩ = some (.int .i64 id) := (blk_cell B1c.out 3).trans rfl
    have x4 : wc.cell? ⟨w.heap.size, 4, none⟩ = some (.int .i64 te) := (blk_cell B1c.out 4).trans rfl
    have x5 : wc.cell? ⟨w.heap.size, 5, none⟩ = some (.int .i64 de) := (blk_cell B1c.out 5).trans rfl
    have x6 : wc.cell? ⟨w.heap.size, 6, none⟩ = some (.int .i64 fe) := (blk_cell B1c.out 6).trans rfl
    have x7 : wc.cell? ⟨w.heap.size, 7, none⟩ = some (.int .i64 pr) := (blk_cell B1c.out 7).trans rfl
    have x8 : wc.cell? ⟨w.heap.size, 8, none⟩ = some (.int .i64 ch) := (blk_cell B1c.out 8).trans rfl
    have x9 : wc.cell? ⟨w.heap.size, 9, none⟩ = some (.int .i64 un) := (blk_cell B1c.out 9).trans rfl
    have x10 : wc.cell? ⟨w.heap.size, 10, none⟩ = some (.int .i64 tg) := (blk_cell B1c.out 10).trans rfl
    have x11 : wc.cell? ⟨w.heap.size, 11, none⟩ = some (.int .i64 ow) := (blk_cell B1c.out 11).trans rfl
    have x12 : wc.cell? ⟨w.heap.size, 12, none⟩ = some (.int .i64 bp) := (blk_cell B1c.out 12).trans rfl
    have hpp := HPP.out
    by_cases h31_ : 1 ≤ id
    rotate_left
    · have q31_0 : decide (1 ≤ id) = false := by exact decide_eq_false (by omega)
      have q31_1 : decide (id ≥ 1) = false := by exact decide_eq_false (by omega)
      have HRV := Aside0.mk (show r = false by rw [HR.out]; exact decide_eq_false (by unfold evMay evM1 evM2 evM3 evM4 evM5 evZ evT evU evB; omega))
      clear hpp h31_
      go_wp2_with (first | (go_at_call 43; first | (refine (book_want.yes _ 5).mono ?_; rintro e_ w_ ⟨rfl, hw_⟩; subst w_) | (refine (book_want.no _ 5).mono ?_; rintro e_ w_ ⟨rfl, hw_⟩; subst w_)) | (go_at_call 62; first | (refine (book_within.tt _ _ _ _ (by assumption) (by assumption)).mono ?_; rintro e_ w_ ⟨rfl, hw_⟩; subst w_) | (refine (book_within.lo _ _ _ _ (by assumption)).mono ?_; rintro e_ w_ ⟨rfl, hw_⟩; subst w_) | (refine (book_within.hi _ _ _ _ (by assumption) (by assumption)).mono ?_; rintro e_ w_ ⟨rfl, hw_⟩; subst w_)))
      exact ⟨rfl, by rw [HRV.out]; rfl, HC.out⟩
    have q31_0 : decide (1 ≤ id) = true := by exact decide_eq_true (by omega)
    have q31_1 : decide (id ≥ 1) = true := by exact decide_eq_true (by omega)
    by_cases h32_ : id ≤ 1048575
    rotate_left
    · have q32_0 : decide (id ≤ 1048575) = false := by exact decide_eq_false (by omega)
      have q32_1 : decide (1048575 ≥ id) = false := by exact decide_eq_false (by omega)
      have HRV := Aside0.mk (show r = false by rw [HR.out]; exact decide_eq_false (by unfold evMay evM1 evM2 evM3 evM4 evM5 evZ evT evU evB; omega))
      clear hpp h31_ h32_
      go_wp2_with (first | (go_at_call 43; first | (refine (book_want.yes _ 5).mono ?_; rintro e_ w_ ⟨rfl, hw_⟩; subst w_) | (refine (book_want.no _ 5).mono ?_; rintro e_ w_ ⟨rfl, hw_⟩; subst w_)) | (go_at_call 62; first | (refine (book_within.tt _ _ _ _ (by assumption) (by assumption)).mono ?_; rintro e_ w_ ⟨rfl, hw_⟩; subst w_) | (refine (book_within.lo _ _ _ _ (by assumption)).mono ?_; rintro e_ w_ ⟨rfl, hw_⟩; subst w_) | (refine (book_within.hi _ _ _ _ (by assumption) (by assumption)).mono ?_; rintro e_ w_ ⟨rfl, hw_⟩; subst w_)))
      exact ⟨rfl, by rw [HRV.out]; rfl, HC.out⟩
    have q32_0 : decide (id ≤ 1048575) = true := by exact decide_eq_true (by omega)
    have q32_1 : decide (1048575 ≥ id) = true := by exact decide_eq_true (by omega)
    by_cases h33_ : 0 ≤ tg
    rotate_left
    · have q33_0 : decide (0 ≤ tg) = false := by exact decide_eq_false (by omega)
      have q33_1 : decide (tg ≥ 0) = false := by exact decide_eq_false (by omega)
      have HRV := Aside0.mk (show r = false by rw [HR.out]; exact decide_eq_false (by unfold evMay evM1 evM2 evM3 evM4 evM5 evZ evT evU evB; omega))
      clear hpp h31_ h32_ h33_
      go_wp2_with (first | (go_at_call 43; first | (refine (book_want.yes _ 5).mono ?_; rintro e_ w_ ⟨rfl, hw_⟩; subst w_) | (refine (book_want.no _ 5).mono ?_; rintro e_ w_ ⟨rfl, hw_⟩; subst w_)) | (go_at_call 62; first | (refine (book_within.tt _ _ _ _ (by assumption) (by assumption)).mono ?_; rintro e_ w_ ⟨rfl, hw_⟩; subst w_) | (refine (book_within.lo _ _ _ _ (by assumption)).mono ?_; rintro e_ w_ ⟨rfl, hw_⟩; subst w_) | (refine (book_within.hi _ _ _ _ (by assumption) (by assumption)).mono ?_; rintro e_ w_ ⟨rfl, hw_⟩; subst w_)))
      exact ⟨rfl, by rw [HRV.out]; rfl, HC.out⟩
    have q33_0 : decide (0 ≤ tg) = true := by exact decide_eq_true (by omega)
    have q33_1 : decide (tg ≥ 0) = true := by exact decide_eq_true (by omega)
    by_cases h34_ : tg ≤ 65535
    rotate_left
    · have q34_0 : decide (tg ≤ 65535) = false := by exact decide_eq_false (by omega)
      have q34_1 : decide (65535 ≥ tg) = false := by exact decide_eq_false (by omega)
      have HRV := Aside0.mk (show r = false by rw [HR.out]; exact decide_eq_false (by unfold evMay evM1 evM2 evM3 evM4 evM5 evZ evT evU evB; omega))
      clear hpp h31_ h32_ h33_ h34_
      go_wp2_with (first | (go_at_call 43; first | (refine (book_want.yes _ 5).mono ?_; rintro e_ w_ ⟨rfl, hw_⟩; subst w_) | (refine (book_want.no _ 5).mono ?_; rintro e_ w_ ⟨rfl, hw_⟩; subst w_)) | (go_at_call 62; first | (refine (book_within.tt _ _ _ _ (by assumption) (by assumption)).mono ?_; rintro e_ w_ ⟨rfl, hw_⟩; subst w_) | (refine (book_within.lo _ _ _ _ (by assumption)).mono ?_; rintro e_ w_ ⟨rfl, hw_⟩; subst w_) | (refine (book_within.hi _ _ _ _ (by assumption) (by assumption)).mono ?_; rintro e_ w_ ⟨rfl, hw_⟩; subst w_)))
      exact ⟨rfl, by rw [HRV.out]; rfl, HC.out⟩
    have q34_0 : decide (tg ≤ 65535) = true := by exact decide_eq_true (by omega)
    have q34_1 : decide (65535 ≥ tg) = true := by exact decide_eq_true (by omega)
    have fz3 := blk_frozen BC.out 3
    have fz10 := blk_frozen (blk_set BC.out 3 (.int .i64 0)) 10
    have fy10 := blk_frozen BC.out 10
    have tc3 : wc.cell? ⟨w.heap.size + 1, 3, none⟩ = some (.int .i64 id) := (blk_cell BC.out 3).trans rfl
    have tc10 : wc.cell? ⟨w.heap.size + 1, 10, none⟩ = some (.int .i64 tg) := (blk_cell BC.out 10).trans rfl
    have BF := Aside0.mk (blk_set (blk_set BC.out 3 (.int .i64 0)) 10 (.int .i64 0))
    have HF := Aside0.mk (below_set (g := w.heap.size + 1) (j := 10) (v := .int .i64 0) (below_set (g := w.heap.size + 1) (j := 3) (v := .int .i64 0) HC.out (by omega)) (by omega))
    have HP := Aside0.mk (And.intro hpp (And.intro h31_ (And.intro h32_ (And.intro h33_ (h34_)))))
    clear hpp h31_ h32_ h33_ h34_
    have z0 : ((wc.setCell ⟨w.heap.size + 1, 3, none⟩ (.int .i64 0)).setCell ⟨w.heap.size + 1, 10, none⟩ (.int .i64 0)).cell? ⟨w.heap.size + 1, 0, none⟩ = some (.int .i64 0) := (blk_cell BF.out 0).trans rfl
    have z1 : ((wc.setCell ⟨w.heap.size + 1, 3, none⟩ (.int .i64 0)).setCell ⟨w.heap.size + 1, 10, none⟩ (.int .i64 0)).cell? ⟨w.heap.size + 1, 1, none⟩ = some (.int .i64 0) := (blk_cell BF.out 1).trans rfl
    have z2 : ((wc.setCell ⟨w.heap.size + 1, 3, none⟩ (.int .i64 0)).setCell ⟨w.heap.size + 1, 10, none⟩ (.int .i64 0)).cell? ⟨w.heap.size + 1, 2, none⟩ = some (.int .i64 0) := (blk_cell BF.out 2).trans rfl
    have z3 : ((wc.setCell ⟨w.heap.size + 1, 3, none⟩ (.int .i64 0)).setCell ⟨w.heap.size + 1, 10, none⟩ (.int .i64 0)).cell? ⟨w.heap.size + 1, 3, none⟩ = some (.int .i64 0) := (blk_cell BF.out 3).trans rfl
    have z4 : ((wc.setCell ⟨w.heap.size + 1, 3, none⟩ (.int .i64 0)).setCell ⟨w.heap.size + 1, 10, none⟩ (.int .i64 0)).cell? ⟨w.heap.size + 1, 4, none⟩ = some (.int .i64 0) := (blk_cell BF.out 4).trans rfl
    have z5 : ((wc.setCell ⟨w.heap.size + 1, 3, none⟩ (.int .i64 0)).setCell ⟨w.heap.size + 1, 10, none⟩ (.int .i64 0)).cell? ⟨w.heap.size + 1, 5, none⟩ = some (.int .i64 0) := (blk_cell BF.out 5).trans rfl
    have z6 : ((wc.setCell ⟨w.heap.size + 1, 3, none⟩ (.int .i64 0)).setCell ⟨w.heap.size + 1, 10, none⟩ (.int .i64 0)).cell? ⟨w.heap.size + 1, 6, none⟩ = some (.int .i64 0) := (blk_cell BF.out 6).trans rfl
    have z7 : ((wc.setCell ⟨w.heap.size + 1, 3, none⟩ (.int .i64 0)).setCell ⟨w.heap.size + 1, 10, none⟩ (.int .i64 0)).cell? ⟨w.heap.size + 1, 7, none⟩ = some (.int .i64 0) := (blk_cell BF.out 7).trans rfl
    have z8 : ((wc.setCell ⟨w.heap.size + 1, 3, none⟩ (.int .i64 0)).setCell ⟨w.heap.size + 1, 10, none⟩ (.int .i64 0)).cell? ⟨w.heap.size + 1, 8, none⟩ = some (.int .i64 0) := (blk_cell BF.out 8).trans rfl
    have z9 : ((wc.setCell ⟨w.heap.size + 1, 3, none⟩ (.int .i64 0)).setCell ⟨w.heap.size + 1, 10, none⟩ (.int .i64 0)).cell? ⟨w.heap.size + 1, 9, none⟩ = some (.int .i64 0) := (blk_cell BF.out 9).trans rfl
    have z10 : ((wc.setCell ⟨w.heap.size + 1, 3, none⟩ (.int .i64 0)).setCell ⟨w.heap.size + 1, 10, none⟩ (.int .i64 0)).cell? ⟨w.heap.size + 1, 10, none⟩ = some (.int .i64 0) := (blk_cell BF.out 10).trans rfl
    have z11 : ((wc.setCell ⟨w.heap.size + 1, 3, none⟩ (.int .i64 0)).setCell ⟨w.heap.size + 1, 10, none⟩ (.int .i64 0)).cell? ⟨w.heap.size + 1, 11, none⟩ = some (.int .i64 ow) := (blk_cell BF.out 11).trans rfl
    have z12 : ((wc.setCell ⟨w.heap.size + 1, 3, none⟩ (.int .i64 0)).setCell ⟨w.heap.size + 1, 10, none⟩ (.int .i64 0)).cell? ⟨w.heap.size + 1, 12, none⟩ = some (.int .i64 bp) := (blk_cell BF.out 12).trans rfl
    go_wp2_with (first | (go_at_call 43; first | (refine (book_want.yes _ 5).mono ?_; rintro e_ w_ ⟨rfl, hw_⟩; subst w_) | (refine (book_want.any _ _ 5).mono ?_; rintro e_ w_ ⟨he_, hw_⟩; subst w_; split at he_ <;> (rename_i hq_; subst he_; have HQ := Aside0.mk hq_; clear hq_))) | (go_at_call 62; refine (book_within.tt _ _ _ _ (by assumption) (by assumption)).mono ?_; rintro e_ w_ ⟨rfl, hw_⟩; subst w_))
    · have hrv : r = true := by
        have hq := HQ.out
        have hp := HP.out
        simp only [Bool.and_eq_true, beq_iff_eq] at hq
        rw [HR.out]
        exact decide_eq_true (by unfold evMay evM1 evM2 evM3 evM4 evM5 evZ evT evU evB; omega)
      go_end0
      exact ⟨by rw [hrv]; rfl, HF.out⟩
    · have hrv : r = false := by
        have hq := HQ.out
        have hp := HP.out
        simp only [Bool.and_eq_true, beq_iff_eq] at hq
        rw [HR.out]
        exact decide_eq_false (by unfold evMay evM1 evM2 evM3 evM4 evM5 evZ evT evU evB; omega)
      exact ⟨rfl, by rw [hrv]; rfl, HF.out⟩
  have n1 : (k == 1) = false := beq_eq_false_iff_ne.mpr k1
  have n2 : (k == 2) = false := beq_eq_false_iff_ne.mpr k2
  have n3 : (k == 3) = false := beq_eq_false_iff_ne.mpr k3
  have n4 : (k == 4) = false := beq_eq_false_iff_ne.mpr k4
  have n5 : (k == 5) = false := beq_eq_false_iff_ne.mpr k5
  have HRV := Aside0.mk (show r = false by rw [HR.out]; exact decide_eq_false (by unfold evMay evM1 evM2 evM3 evM4 evM5 evZ evT evU evB; omega))
  clear h1_ h2_ k1 k2 k3 k4 k5
  go_wp2_with (first | (go_at_call 43; first | (refine (book_want.yes _ 5).mono ?_; rintro e_ w_ ⟨rfl, hw_⟩; subst w_) | (refine (book_want.no _ 5).mono ?_; rintro e_ w_ ⟨rfl, hw_⟩; subst w_)) | (go_at_call 62; first | (refine (book_within.tt _ _ _ _ (by assumption) (by assumption)).mono ?_; rintro e_ w_ ⟨rfl, hw_⟩; subst w_) | (refine (book_within.lo _ _ _ _ (by assumption)).mono ?_; rintro e_ w_ ⟨rfl, hw_⟩; subst w_) | (refine (book_within.hi _ _ _ _ (by assumption) (by assumption)).mono ?_; rintro e_ w_ ⟨rfl, hw_⟩; subst w_)))
  exact ⟨rfl, by rw [HRV.out]; rfl, HX.out⟩

structure Only (z : Nat) (w w' : World) : Prop where
  os : w'.os = w.os
  tape : w'.tape = w.tape
  output : w'.output = w.output
  size : w.heap.size ≤ w'.heap.size
  block : ∀ k, k < w.heap.size → k ≠ z → w'.heap[k]? = w.heap[k]?
theorem Only.refl (z : Nat) (w : World) : Only z w w := ⟨rfl, rfl, rfl, Nat.le_refl _, fun _ _ _ => rfl⟩
theorem Only.trans {z : Nat} {a b c : World} (h : Only z a b) (k : Only z b c) : Only z a c :=
  ⟨k.os.trans h.os, k.tape.trans h.tape, k.output.trans h.output, Nat.le_trans h.size k.size, fun i hi hne => (k.block i (Nat.lt_of_lt_of_le hi h.size) hne).trans (h.block i hi hne)⟩
theorem Only.of_below {z : Nat} {a b : World} (h : Below a.heap.size a b) : Only z a b := ⟨h.os, h.tape, h.output, h.size, fun k hk _ => h.block k hk⟩
theorem Only.below {z : Nat} {a b c : World} (h : Below a.heap.size a b) (k : Only z b c) (hz : a.heap.size ≤ z) : Below a.heap.size a c :=
  ⟨k.os.trans h.os, k.tape.trans h.tape, k.output.trans h.output, Nat.le_trans h.size k.size, fun i hi => (k.block i (Nat.lt_of_lt_of_le hi h.size) (by omega)).trans (h.block i hi)⟩
theorem Only.set {z : Nat} {a b : World} (h : Only z a b) (i : Nat) (u : Value) : Only z a (b.setCell ⟨z, i, none⟩ u) :=
  ⟨h.os, h.tape, h.output, by simpa [World.setCell] using h.size, fun k hk hne => (Below.heap_setCell b ⟨z, i, none⟩ u k hne).trans (h.block k hk hne)⟩
theorem Only.drew {z : Nat} {a b : World} (h : Only z a b) (n : Nat) : Only z a (b.drewN n) := ⟨h.os, h.tape, h.output, h.size, h.block⟩
/-- A second's writes behind the first's: where the second's block is the first's, or new. -/
theorem Only.then_ {z z' : Nat} {a b c : World} (h : Only z a b) (k : Only z' b c) (hz : z' = z ∨ a.heap.size ≤ z') : Only z a c :=
  ⟨k.os.trans h.os, k.tape.trans h.tape, k.output.trans h.output, Nat.le_trans h.size k.size, fun i hi hne => (k.block i (Nat.lt_of_lt_of_le hi h.size) (by rcases hz with rfl | hz <;> omega)).trans (h.block i hi hne)⟩

theorem wpS_region_draw {P : Program} {Q : Exit → Act → List Frame → World → Prop} {a : Act} {cs : List Frame} {w : World} {id : Nat} {ops : Array Oper} (h : ∀ t, wpOpsS P ops Q (Region.schedule (P.follows .mixedOrders) ops t) a cs { w with drawn := w.drawn + 1 }) : (Code.region id ops true).wpS P Q a cs w :=
  fun b k hb hr => let ⟨e, a', cs', w', q, r⟩ := wp_opsS _ a cs _ (h (w.tape w.drawn (.order b.fn id))) b k hb hr; ⟨e, a', cs', w', q, .of_steps (.one step_region_draw) r⟩
set_option maxHeartbeats 4000000 in
set_option maxRecDepth 100000 in
theorem book_caught.none (w : World) (c : Int) :
    Calls Try.prog 38 #[.nilIface, .int .i64 c] w fun e w' => e = .returned (.int .i64 c) ∧ w' = w := by
  go_enter Try.func38, Try.ntmps38
  go_wp2
  go_ret
  exact ⟨rfl, rfl⟩
set_option maxHeartbeats 4000000 in
set_option maxRecDepth 100000 in
theorem book_caught.some (w : World) (c d : Int) :
    Calls Try.prog 38 #[.iface 103 (.agg #[.int .i64 d]), .int .i64 c] w fun e w' => e = .returned (.int .i64 d) ∧ Below w.heap.size w w' := by
  have ht1 : ∀ W : World, (Instr.typeAssert (.iface 103 (.agg #[.int .i64 d])) 20 101 false).run Try.prog W = .ok (.iface 103 (.agg #[.int .i64 d])) W := fun W => by kernel_rfl
  have ht2 : ∀ W : World, (Instr.typeAssert (.iface 103 (.agg #[.int .i64 d])) 101 103 true).run Try.prog W = .ok (.tuple #[.agg #[.int .i64 d], .bool true]) W := fun W => by kernel_rfl
  go_enter Try.func38, Try.ntmps38
  go_wp2
  go_ret
  exact ⟨rfl, below_alloc (Below.refl w.heap.size w) _⟩
def rsOf (ops : Array Oper) (listed : Array Bool) : List Nat := (List.range ops.size).filter fun i => !listed.getD i true && ((ops[i]?).map (·.after.all fun e => !Region.binds .any e || listed.getD e.on false)).getD false
theorem lin_one (ops : Array Oper) (fuel t : Nat) (listed : Array Bool) (acc : List Nat) (i : Nat) (h : rsOf ops listed = [i]) : Region.linearise.go .any ops (fuel + 1) t listed acc = Region.linearise.go .any ops fuel t (listed.setIfInBounds i true) (i :: acc) := by
  show (match (rsOf ops listed)[t % (rsOf ops listed).length]? with
    | some i => Region.linearise.go .any ops fuel (t / (rsOf ops listed).length) (listed.setIfInBounds i true) (i :: acc)
    | none => acc.reverse) = _
  rw [h]
  simp [Nat.mod_one]
theorem lin_two (ops : Array Oper) (fuel t : Nat) (listed : Array Bool) (acc : List Nat) (i j : Nat) (h : rsOf ops listed = [i, j]) : Region.linearise.go .any ops (fuel + 1) t listed acc = Region.linearise.go .any ops fuel (t / 2) (listed.setIfInBounds i true) (i :: acc) ∨ Region.linearise.go .any ops (fuel + 1) t listed acc = Region.linearise.go .any ops fuel (t / 2) (listed.setIfInBounds j true) (j :: acc) := by
  have e : Region.linearise.go .any ops (fuel + 1) t listed acc = (match (rsOf ops listed)[t % (rsOf ops listed).length]? with
    | some i => Region.linearise.go .any ops fuel (t / (rsOf ops listed).length) (listed.setIfInBounds i true) (i :: acc)
    | none => acc.reverse) := rfl
  rw [e, h]
  rcases Nat.mod_two_eq_zero_or_one t with g | g
  · left; simp [g]
  · right; simp [g]
theorem enc1_sched (ops : Array Oper) (hr : rsOf ops #[false, false, false, false] = [0, 1]) (hr0 : rsOf ops #[true, false, false, false] = [1]) (hr1 : rsOf ops #[false, true, false, false] = [0]) (hr2 : rsOf ops #[true, true, false, false] = [2]) (hr3 : rsOf ops #[true, true, true, false] = [3]) (hz : ops.size = 4) (t : Nat) : Region.schedule (Try.prog.follows .mixedOrders) ops t = [0, 1, 2, 3] ∨ Region.schedule (Try.prog.follows .mixedOrders) ops t = [1, 0, 2, 3] := by
  have e : Region.schedule (Try.prog.follows .mixedOrders) ops t = Region.linearise.go .any ops 4 t #[false, false, false, false] [] := by
    unfold Region.schedule
    rw [show Try.prog.follows .mixedOrders = true by kernel_rfl]
    simp only [Bool.true_or, if_true]
    unfold Region.linearise
    rw [hz]
    rfl
  rw [e]
  rcases lin_two ops 3 t #[false, false, false, false] [] 0 1 hr with h | h
  · left
    exact h.trans ((lin_one ops 2 _ #[true, false, false, false] _ 1 hr0).trans ((lin_one ops 1 _ #[true, true, false, false] _ 2 hr2).trans ((lin_one ops 0 _ #[true, true, true, false] _ 3 hr3).trans rfl)))
  · right
    exact h.trans ((lin_one ops 2 _ #[false, true, false, false] _ 0 hr1).trans ((lin_one ops 1 _ #[true, true, false, false] _ 2 hr2).trans ((lin_one ops 0 _ #[true, true, true, false] _ 3 hr3).trans rfl)))
theorem wpOpsS_two {P : Program} {ops : Array Oper} {Q : Exit → Act → List Frame → World → Prop} {a : Act} {cs : List Frame} {w : World} {b : Bool} {t : Nat} {l1 l2 : List Nat} (hs : Region.schedule b ops t = l1 ∨ Region.schedule b ops t = l2) (h1 : wpOpsS P ops Q l1 a cs w) (h2 : wpOpsS P ops Q l2 a cs w) : wpOpsS P ops Q (Region.schedule b ops t) a cs w := by
  rcases hs with h | h
  · rw [h]; exact h1
  · rw [h]; exact h2
set_option maxHeartbeats 4000000 in
set_option maxRecDepth 100000 in
theorem enc1.idle (w : World) (g : Nat) (c : Int) (hg : w.heap[g]? = some (.cells #[.int .i64 c] 32 (0, 0))) :
    CallsD Try.prog 37 #[.pointer (some ⟨g, 0, none⟩)] .returning w fun e u' w' => e = .returned (.tuple #[]) ∧ u' = .returning ∧ w'.heap[g]? = some (.cells #[.int .i64 c] 32 (0, 0)) ∧ Only g w w' := by
  have G1 := Aside0.mk (show (w.drewN 1).heap[g]? = some (.cells #[.int .i64 c] 32 (0, 0)) from blk_drewN hg 1)
  have hc : (w.drewN 1).cell? ⟨g, 0, none⟩ = some (.int .i64 c) := (blk_cell G1.out 0).trans rfl
  have hz := blk_frozen G1.out 0
  refine callsD_of_wpS Try.func37 rfl fun c₀ cs hu => ?_
  apply wpS_region_draw
  intro t
  refine wpOpsS_two (enc1_sched _ (by kernel_rfl) (by kernel_rfl) (by kernel_rfl) (by kernel_rfl) (by kernel_rfl) (by kernel_rfl) t) ?_ ?_
  all_goals (
    show wpOpsS _ _ _ _ _ _ (w.drewN 1)
    simp [wpOpsS, go_sem, recoverD, hu, Try.ntmps37, Exit.thenS, hc, hz]
    refine (book_caught.none _ _).mono ?_
    rintro e w1 ⟨rfl, hw1⟩
    subst w1
    simp [go_sem, hc, hz, bodyPostS, results, Try.results37]
    exact ⟨.returning, by cases c₀; simp_all, rfl, blk_set G1.out 0 _, Only.set (Only.drew (Only.refl g w) 1) 0 _⟩)
set_option maxHeartbeats 4000000 in
set_option maxRecDepth 100000 in
theorem enc1.caught (w : World) (g : Nat) (c d : Int) (hg : w.heap[g]? = some (.cells #[.int .i64 c] 32 (0, 0))) (older : List PanicEntry) :
    CallsD Try.prog 37 #[.pointer (some ⟨g, 0, none⟩)] (.panicking ({ v := .iface 103 (.agg #[.int .i64 d]), recovered := false } :: older)) w fun e u' w' => e = .returned (.tuple #[]) ∧ u' = .panicking ({ v := .iface 103 (.agg #[.int .i64 d]), recovered := true } :: older) ∧ w'.heap[g]? = some (.cells #[.int .i64 d] 32 (0, 0)) ∧ Only g w w' := by
  have G1 := Aside0.mk (show (w.drewN 1).heap[g]? = some (.cells #[.int .i64 c] 32 (0, 0)) from blk_drewN hg 1)
  have hc : (w.drewN 1).cell? ⟨g, 0, none⟩ = some (.int .i64 c) := (blk_cell G1.out 0).trans rfl
  have hz := blk_frozen G1.out 0
  refine callsD_of_wpS Try.func37 rfl fun c₀ cs hu => ?_
  apply wpS_region_draw
  intro t
  refine wpOpsS_two (enc1_sched _ (by kernel_rfl) (by kernel_rfl) (by kernel_rfl) (by kernel_rfl) (by kernel_rfl) (by kernel_rfl) t) ?_ ?_
  all_goals (
    show wpOpsS _ _ _ _ _ _ (w.drewN 1)
    simp [wpOpsS, go_sem, recoverD, hu, Try.ntmps37, Exit.thenS, hc, hz]
    refine (book_caught.some _ _ _).mono ?_
    rintro e w1 ⟨rfl, hb⟩
    have G2 := blk_below G1.out hb
    have hc2 : w1.cell? ⟨g, 0, none⟩ = some (.int .i64 c) := (blk_cell G2 0).trans rfl
    have hz2 := blk_frozen G2 0
    simp [go_sem, hc2, hz2, bodyPostS, results, Try.results37]
    exact ⟨blk_set G2 0 _, Only.set (Only.trans (Only.drew (Only.refl g w) 1) (Only.of_below hb)) 0 _⟩)
theorem results_c1 {P : Program} {fn : Func} {p : Tmp} {ty : TypeId} (h : fn.results = #[.cell p ty]) (tmps : Array Value) (w : World) (g : Nat) (t : TypeId) (cs : Array Value) (fr : Nat × Nat) (d : TypeDesc)
    (hp : tmps.getD p undef = .pointer (some ⟨g, 0, none⟩)) (hg : w.heap[g]? = some (.cells cs t fr))
    (hu : P.underlying ty = some d) (hd : (match d with | .struct _ | .array _ _ => true | _ => false) = true) (hi : (P.info? ty).map (·.size) = some cs.size) :
    (results fn tmps).run P w = .ok (.agg cs) w := by
  have hp' : tmps[p]?.getD undef = .pointer (some ⟨g, 0, none⟩) := by simpa using hp
  simp [results, h, hp', asAddr, run_loadVar_row w g t ty cs fr d hg hu hd hi]
set_option maxHeartbeats 8000000 in
set_option maxRecDepth 100000 in
set_option maxHeartbeats 16000000 in
set_option maxRecDepth 100000 in
theorem book_fields.at_ (w : World) (b : Nat) :
    Calls Try.prog 40 #[.pointer (some ⟨b, 0, none⟩)] w fun e w' => e = .returned (.agg #[.pointer (some ⟨b, 0, none⟩), .pointer (some ⟨b, 1, none⟩), .pointer (some ⟨b, 2, none⟩), .pointer (some ⟨b, 3, none⟩), .pointer (some ⟨b, 4, none⟩), .pointer (some ⟨b, 5, none⟩), .pointer (some ⟨b, 6, none⟩), .pointer (some ⟨b, 7, none⟩), .pointer (some ⟨b, 8, none⟩), .pointer (some ⟨b, 9, none⟩), .pointer (some ⟨b, 10, none⟩), .pointer (some ⟨b, 11, none⟩), .pointer (some ⟨b, 12, none⟩)]) ∧ Below w.heap.size w w' := by
  have hu41 := Try.underlying41
  have hu31 := Try.underlying31
  have hu39 := Try.underlying39
  have hu83 := Try.underlying83
  have B2 := Aside0.mk (blk_new w (.cells #[.pointer none, .pointer none, .pointer none, .pointer none, .pointer none, .pointer none, .pointer none, .pointer none, .pointer none, .pointer none, .pointer none, .pointer none, .pointer none] 83))
  have HB := Aside0.mk (below_alloc (Below.refl w.heap.size w) (.cells #[.pointer none, .pointer none, .pointer none, .pointer none, .pointer none, .pointer none, .pointer none, .pointer none, .pointer none, .pointer none, .pointer none, .pointer none, .pointer none] 83))
  go_enter Try.func40, Try.ntmps40
  go_wp2
  refine start_ (n := 43) (S := fun w' => True) (ds := []) #[false, false, false, false, false, false, false, false, false, false, false, false, false, false, false, false, false, false, false, false, false, false, false, false, false, false, false, false, false, false, false, false, false, false, false, false, false, false, false, false, false, false, false] (by kernel_rfl) rfl rfl trivial (fun hHeld => ?_)
  refine pure_ (i := 0) (N := some 7) (v := ?_) (a' := ?_) #[true, false, false, false, false, false, false, false, false, false, false, false, false, false, false, false, false, false, false, false, false, false, false, false, false, false, false, false, false, false, false, false, false, false, false, false, false, false, false, false, false, false, false] rfl rfl (by kernel_rfl) (fun _ _ _ h => h) (Or.inl ⟨by rfl, ?_⟩) ?_ ?_
  rotate_left
  · intro w'
    go_simp
    with_reducible rfl
  rotate_left
  · simp only [Act.put, List.setIfInBounds_toArray, List.set_cons_zero, List.set_cons_succ, i64_w, i32_w]
    rfl
  refine pure_ (i := 1) (N := some 8) (v := ?_) (a' := ?_) #[true, true, false, false, false, false, false, false, false, false, false, false, false, false, false, false, false, false, false, false, false, false, false, false, false, false, false, false, false, false, false, false, false, false, false, false, false, false, false, false, false, false, false] rfl rfl (by kernel_rfl) (fun _ _ _ h => h) (Or.inl ⟨by rfl, ?_⟩) ?_ ?_
  rotate_left
  · intro w'
    go_simp
    with_reducible rfl
  rotate_left
  · simp only [Act.put, List.setIfInBounds_toArray, List.set_cons_zero, List.set_cons_succ, i64_w, i32_w]
    rfl
  refine pure_ (i := 2) (N := some 9) (v := ?_) (a' := ?_) #[true, true, true, false, false, false, false, false, false, false, false, false, false, false, false, false, false, false, false, false, false, false, false, false, false, false, false, false, false, false, false, false, false, false, false, false, false, false, false, false, false, false, false] rfl rfl (by kernel_rfl) (fun _ _ _ h => h) (Or.inl ⟨by rfl, ?_⟩) ?_ ?_
  rotate_left
  · intro w'
    go_simp
    with_reducible rfl
  rotate_left
  · simp only [Act.put, List.setIfInBounds_toArray, List.set_cons_zero, List.set_cons_succ, i64_w, i32_w]
    rfl
  refine pure_ (i := 3) (N := some 10) (v := ?_) (a' := ?_) #[true, true, true, true, false, false, false, false, false, false, false, false, false, false, false, false, false, false, false, false, false, false, false, false, false, false, false, false, false, false, false, false, false, false, false, false, false, false, false, false, false, false, false] rfl rfl (by kernel_rfl) (fun _ _ _ h => h) (Or.inl ⟨by rfl, ?_⟩) ?_ ?_
  rotate_left
  · intro w'
    go_simp
    with_reducible rfl
  rotate_left
  · simp only [Act.put, List.setIfInBounds_toArray, List.set_cons_zero, List.set_cons_succ, i64_w, i32_w]
    rfl
  refine pure_ (i := 4) (N := some 11) (v := ?_) (a' := ?_) #[true, true, true, true, true, false, false, false, false, false, false, false, false, false, false, false, false, false, false, false, false, false, false, false, false, false, false, false, false, false, false, false, false, false, false, false, false, false, false, false, false, false, false] rfl rfl (by kernel_rfl) (fun _ _ _ h => h) (Or.inl ⟨by rfl, ?_⟩) ?_ ?_
  rotate_left
  · intro w'
    go_simp
    with_reducible rfl
  rotate_left
  · simp only [Act.put, List.setIfInBounds_toArray, List.set_cons_zero, List.set_cons_succ, i64_w, i32_w]
    rfl
  refine pure_ (i := 5) (N := some 12) (v := ?_) (a' := ?_) #[true, true, true, true, true, true, false, false, false, false, false, false, false, false, false, false, false, false, false, false, false, false, false, false, false, false, false, false, false, false, false, false, false, false, false, false, false, false, false, false, false, false, false] rfl rfl (by kernel_rfl) (fun _ _ _ h => h) (Or.inl ⟨by rfl, ?_⟩) ?_ ?_
  rotate_left
  · intro w'
    go_simp
    with_reducible rfl
  rotate_left
  · simp only [Act.put, List.setIfInBounds_toArray, List.set_cons_zero, List.set_cons_succ, i64_w, i32_w]
    rfl
  refine pure_ (i := 6) (N := some 13) (v := ?_) (a' := ?_) #[true, true, true, true, true, true, true, false, false, false, false, false, false, false, false, false, false, false, false, false, false, false, false, false, false, false, false, false, false, false, false, false, false, false, false, false, false, false, false, false, false, false, false] rfl rfl (by kernel_rfl) (fun _ _ _ h => h) (Or.inl ⟨by rfl, ?_⟩) ?_ ?_
  rotate_left
  · intro w'
    go_simp
    with_reducible rfl
  rotate_left
  · simp only [Act.put, List.setIfInBounds_toArray, List.set_cons_zero, List.set_cons_succ, i64_w, i32_w]
    rfl
  refine pure_ (i := 7) (N := some 14) (v := ?_) (a' := ?_) #[true, true, true, true, true, true, true, true, false, false, false, false, false, false, false, false, false, false, false, false, false, false, false, false, false, false, false, false, false, false, false, false, false, false, false, false, false, false, false, false, false, false, false] rfl rfl (by kernel_rfl) (fun _ _ _ h => h) (Or.inl ⟨by rfl, ?_⟩) ?_ ?_
  rotate_left
  · intro w'
    go_simp
    with_reducible rfl
  rotate_left
  · simp only [Act.put, List.setIfInBounds_toArray, List.set_cons_zero, List.set_cons_succ, i64_w, i32_w]
    rfl
  refine pure_ (i := 8) (N := some 15) (v := ?_) (a' := ?_) #[true, true, true, true, true, true, true, true, true, false, false, false, false, false, false, false, false, false, false, false, false, false, false, false, false, false, false, false, false, false, false, false, false, false, false, false, false, false, false, false, false, false, false] rfl rfl (by kernel_rfl) (fun _ _ _ h => h) (Or.inl ⟨by rfl, ?_⟩) ?_ ?_
  rotate_left
  · intro w'
    go_simp
    with_reducible rfl
  rotate_left
  · simp only [Act.put, List.setIfInBounds_toArray, List.set_cons_zero, List.set_cons_succ, i64_w, i32_w]
    rfl
  refine pure_ (i := 9) (N := some 16) (v := ?_) (a' := ?_) #[true, true, true, true, true, true, true, true, true, true, false, false, false, false, false, false, false, false, false, false, false, false, false, false, false, false, false, false, false, false, false, false, false, false, false, false, false, false, false, false, false, false, false] rfl rfl (by kernel_rfl) (fun _ _ _ h => h) (Or.inl ⟨by rfl, ?_⟩) ?_ ?_
  rotate_left
  · intro w'
    go_simp
    with_reducible rfl
  rotate_left
  · simp only [Act.put, List.setIfInBounds_toArray, List.set_cons_zero, List.set_cons_succ, i64_w, i32_w]
    rfl
  refine pure_ (i := 10) (N := some 17) (v := ?_) (a' := ?_) #[true, true, true, true, true, true, true, true, true, true, true, false, false, false, false, false, false, false, false, false, false, false, false, false, false, false, false, false, false, false, false, false, false, false, false, false, false, false, false, false, false, false, false] rfl rfl (by kernel_rfl) (fun _ _ _ h => h) (Or.inl ⟨by rfl, ?_⟩) ?_ ?_
  rotate_left
  · intro w'
    go_simp
    with_reducible rfl
  rotate_left
  · simp only [Act.put, List.setIfInBounds_toArray, List.set_cons_zero, List.set_cons_succ, i64_w, i32_w]
    rfl
  refine pure_ (i := 11) (N := some 18) (v := ?_) (a' := ?_) #[true, true, true, true, true, true, true, true, true, true, true, true, false, false, false, false, false, false, false, false, false, false, false, false, false, false, false, false, false, false, false, false, false, false, false, false, false, false, false, false, false, false, false] rfl rfl (by kernel_rfl) (fun _ _ _ h => h) (Or.inl ⟨by rfl, ?_⟩) ?_ ?_
  rotate_left
  · intro w'
    go_simp
    with_reducible rfl
  rotate_left
  · simp only [Act.put, List.setIfInBounds_toArray, List.set_cons_zero, List.set_cons_succ, i64_w, i32_w]
    rfl
  refine pure_ (i := 12) (N := some 19) (v := ?_) (a' := ?_) #[true, true, true, true, true, true, true, true, true, true, true, true, true, false, false, false, false, false, false, false, false, false, false, false, false, false, false, false, false, false, false, false, false, false, false, false, false, false, false, false, false, false, false] rfl rfl (by kernel_rfl) (fun _ _ _ h => h) (Or.inl ⟨by rfl, ?_⟩) ?_ ?_
  rotate_left
  · intro w'
    go_simp
    with_reducible rfl
  rotate_left
  · simp only [Act.put, List.setIfInBounds_toArray, List.set_cons_zero, List.set_cons_succ, i64_w, i32_w]
    rfl
  refine pure_ (i := 13) (N := some 20) (v := ?_) (a' := ?_) #[true, true, true, true, true, true, true, true, true, true, true, true, true, true, false, false, false, false, false, false, false, false, false, false, false, false, false, false, false, false, false, false, false, false, false, false, false, false, false, false, false, false, false] rfl rfl (by kernel_rfl) (fun _ _ _ h => h) (Or.inl ⟨by rfl, ?_⟩) ?_ ?_
  rotate_left
  · intro w'
    go_simp
    with_reducible rfl
  rotate_left
  · simp only [Act.put, List.setIfInBounds_toArray, List.set_cons_zero, List.set_cons_succ, i64_w, i32_w]
    rfl
  refine pure_ (i := 14) (N := some 21) (v := ?_) (a' := ?_) #[true, true, true, true, true, true, true, true, true, true, true, true, true, true, true, false, false, false, false, false, false, false, false, false, false, false, false, false, false, false, false, false, false, false, false, false, false, false, false, false, false, false, false] rfl rfl (by kernel_rfl) (fun _ _ _ h => h) (Or.inl ⟨by rfl, ?_⟩) ?_ ?_
  rotate_left
  · intro w'
    go_simp
    with_reducible rfl
  rotate_left
  · simp only [Act.put, List.setIfInBounds_toArray, List.set_cons_zero, List.set_cons_succ, i64_w, i32_w]
    rfl
  refine pure_ (i := 15) (N := some 22) (v := ?_) (a' := ?_) #[true, true, true, true, true, true, true, true, true, true, true, true, true, true, true, true, false, false, false, false, false, false, false, false, false, false, false, false, false, false, false, false, false, false, false, false, false, false, false, false, false, false, false] rfl rfl (by kernel_rfl) (fun _ _ _ h => h) (Or.inl ⟨by rfl, ?_⟩) ?_ ?_
  rotate_left
  · intro w'
    go_simp
    with_reducible rfl
  rotate_left
  · simp only [Act.put, List.setIfInBounds_toArray, List.set_cons_zero, List.set_cons_succ, i64_w, i32_w]
    rfl
  refine pure_ (i := 16) (N := some 23) (v := ?_) (a' := ?_) #[true, true, true, true, true, true, true, true, true, true, true, true, true, true, true, true, true, false, false, false, false, false, false, false, false, false, false, false, false, false, false, false, false, false, false, false, false, false, false, false, false, false, false] rfl rfl (by kernel_rfl) (fun _ _ _ h => h) (Or.inl ⟨by rfl, ?_⟩) ?_ ?_
  rotate_left
  · intro w'
    go_simp
    with_reducible rfl
  rotate_left
  · simp only [Act.put, List.setIfInBounds_toArray, List.set_cons_zero, List.set_cons_succ, i64_w, i32_w]
    rfl
  refine pure_ (i := 17) (N := some 24) (v := ?_) (a' := ?_) #[true, true, true, true, true, true, true, true, true, true, true, true, true, true, true, true, true, true, false, false, false, false, false, false, false, false, false, false, false, false, false, false, false, false, false, false, false, false, false, false, false, false, false] rfl rfl (by kernel_rfl) (fun _ _ _ h => h) (Or.inl ⟨by rfl, ?_⟩) ?_ ?_
  rotate_left
  · intro w'
    go_simp
    with_reducible rfl
  rotate_left
  · simp only [Act.put, List.setIfInBounds_toArray, List.set_cons_zero, List.set_cons_succ, i64_w, i32_w]
    rfl
  refine pure_ (i := 18) (N := some 25) (v := ?_) (a' := ?_) #[true, true, true, true, true, true, true, true, true, true, true, true, true, true, true, true, true, true, true, false, false, false, false, false, false, false, false, false, false, false, false, false, false, false, false, false, false, false, false, false, false, false, false] rfl rfl (by kernel_rfl) (fun _ _ _ h => h) (Or.inl ⟨by rfl, ?_⟩) ?_ ?_
  rotate_left
  · intro w'
    go_simp
    with_reducible rfl
  rotate_left
  · simp only [Act.put, List.setIfInBounds_toArray, List.set_cons_zero, List.set_cons_succ, i64_w, i32_w]
    rfl
  refine pure_ (i := 19) (N := some 26) (v := ?_) (a' := ?_) #[true, true, true, true, true, true, true, true, true, true, true, true, true, true, true, true, true, true, true, true, false, false, false, false, false, false, false, false, false, false, false, false, false, false, false, false, false, false, false, false, false, false, false] rfl rfl (by kernel_rfl) (fun _ _ _ h => h) (Or.inl ⟨by rfl, ?_⟩) ?_ ?_
  rotate_left
  · intro w'
    go_simp
    with_reducible rfl
  rotate_left
  · simp only [Act.put, List.setIfInBounds_toArray, List.set_cons_zero, List.set_cons_succ, i64_w, i32_w]
    rfl
  refine pure_ (i := 20) (N := some 27) (v := ?_) (a' := ?_) #[true, true, true, true, true, true, true, true, true, true, true, true, true, true, true, true, true, true, true, true, true, false, false, false, false, false, false, false, false, false, false, false, false, false, false, false, false, false, false, false, false, false, false] rfl rfl (by kernel_rfl) (fun _ _ _ h => h) (Or.inl ⟨by rfl, ?_⟩) ?_ ?_
  rotate_left
  · intro w'
    go_simp
    with_reducible rfl
  rotate_left
  · simp only [Act.put, List.setIfInBounds_toArray, List.set_cons_zero, List.set_cons_succ, i64_w, i32_w]
    rfl
  refine pure_ (i := 21) (N := some 28) (v := ?_) (a' := ?_) #[true, true, true, true, true, true, true, true, true, true, true, true, true, true, true, true, true, true, true, true, true, true, false, false, false, false, false, false, false, false, false, false, false, false, false, false, false, false, false, false, false, false, false] rfl rfl (by kernel_rfl) (fun _ _ _ h => h) (Or.inl ⟨by rfl, ?_⟩) ?_ ?_
  rotate_left
  · intro w'
    go_simp
    with_reducible rfl
  rotate_left
  · simp only [Act.put, List.setIfInBounds_toArray, List.set_cons_zero, List.set_cons_succ, i64_w, i32_w]
    rfl
  refine pure_ (i := 22) (N := some 29) (v := ?_) (a' := ?_) #[true, true, true, true, true, true, true, true, true, true, true, true, true, true, true, true, true, true, true, true, true, true, true, false, false, false, false, false, false, false, false, false, false, false, false, false, false, false, false, false, false, false, false] rfl rfl (by kernel_rfl) (fun _ _ _ h => h) (Or.inl ⟨by rfl, ?_⟩) ?_ ?_
  rotate_left
  · intro w'
    go_simp
    with_reducible rfl
  rotate_left
  · simp only [Act.put, List.setIfInBounds_toArray, List.set_cons_zero, List.set_cons_succ, i64_w, i32_w]
    rfl
  refine pure_ (i := 23) (N := some 30) (v := ?_) (a' := ?_) #[true, true, true, true, true, true, true, true, true, true, true, true, true, true, true, true, true, true, true, true, true, true, true, true, false, false, false, false, false, false, false, false, false, false, false, false, false, false, false, false, false, false, false] rfl rfl (by kernel_rfl) (fun _ _ _ h => h) (Or.inl ⟨by rfl, ?_⟩) ?_ ?_
  rotate_left
  · intro w'
    go_simp
    with_reducible rfl
  rotate_left
  · simp only [Act.put, List.setIfInBounds_toArray, List.set_cons_zero, List.set_cons_succ, i64_w, i32_w]
    rfl
  refine pure_ (i := 24) (N := some 31) (v := ?_) (a' := ?_) #[true, true, true, true, true, true, true, true, true, true, true, true, true, true, true, true, true, true, true, true, true, true, true, true, true, false, false, false, false, false, false, false, false, false, false, false, false, false, false, false, false, false, false] rfl rfl (by kernel_rfl) (fun _ _ _ h => h) (Or.inl ⟨by rfl, ?_⟩) ?_ ?_
  rotate_left
  · intro w'
    go_simp
    with_reducible rfl
  rotate_left
  · simp only [Act.put, List.setIfInBounds_toArray, List.set_cons_zero, List.set_cons_succ, i64_w, i32_w]
    rfl
  refine pure_ (i := 25) (N := some 32) (v := ?_) (a' := ?_) #[true, true, true, true, true, true, true, true, true, true, true, true, true, true, true, true, true, true, true, true, true, true, true, true, true, true, false, false, false, false, false, false, false, false, false, false, false, false, false, false, false, false, false] rfl rfl (by kernel_rfl) (fun _ _ _ h => h) (Or.inl ⟨by rfl, ?_⟩) ?_ ?_
  rotate_left
  · intro w'
    go_simp
    with_reducible rfl
  rotate_left
  · simp only [Act.put, List.setIfInBounds_toArray, List.set_cons_zero, List.set_cons_succ, i64_w, i32_w]
    rfl
  refine pure_ (i := 26) (N := some 33) (v := ?_) (a' := ?_) #[true, true, true, true, true, true, true, true, true, true, true, true, true, true, true, true, true, true, true, true, true, true, true, true, true, true, true, false, false, false, false, false, false, false, false, false, false, false, false, false, false, false, false] rfl rfl (by kernel_rfl) (fun _ _ _ h => h) (Or.inl ⟨by rfl, ?_⟩) ?_ ?_
  rotate_left
  · intro w'
    go_simp
    with_reducible rfl
  rotate_left
  · simp only [Act.put, List.setIfInBounds_toArray, List.set_cons_zero, List.set_cons_succ, i64_w, i32_w]
    rfl
  refine pure_ (i := 27) (N := some 34) (v := ?_) (a' := ?_) #[true, true, true, true, true, true, true, true, true, true, true, true, true, true, true, true, true, true, true, true, true, true, true, true, true, true, true, true, false, false, false, false, false, false, false, false, false, false, false, false, false, false, false] rfl rfl (by kernel_rfl) (fun _ _ _ h => h) (Or.inl ⟨by rfl, ?_⟩) ?_ ?_
  rotate_left
  · intro w'
    go_simp
    with_reducible rfl
  rotate_left
  · simp only [Act.put, List.setIfInBounds_toArray, List.set_cons_zero, List.set_cons_succ, i64_w, i32_w]
    rfl
  refine pure_ (i := 28) (N := some 35) (v := ?_) (a' := ?_) #[true, true, true, true, true, true, true, true, true, true, true, true, true, true, true, true, true, true, true, true, true, true, true, true, true, true, true, true, true, false, false, false, false, false, false, false, false, false, false, false, false, false, false] rfl rfl (by kernel_rfl) (fun _ _ _ h => h) (Or.inl ⟨by rfl, ?_⟩) ?_ ?_
  rotate_left
  · intro w'
    go_simp
    with_reducible rfl
  rotate_left
  · simp only [Act.put, List.setIfInBounds_toArray, List.set_cons_zero, List.set_cons_succ, i64_w, i32_w]
    rfl
  refine pure_ (i := 29) (N := some 36) (v := ?_) (a' := ?_) #[true, true, true, true, true, true, true, true, true, true, true, true, true, true, true, true, true, true, true, true, true, true, true, true, true, true, true, true, true, true, false, false, false, false, false, false, false, false, false, false, false, false, false] rfl rfl (by kernel_rfl) (fun _ _ _ h => h) (Or.inl ⟨by rfl, ?_⟩) ?_ ?_
  rotate_left
  · intro w'
    go_simp
    with_reducible rfl
  rotate_left
  · simp only [Act.put, List.setIfInBounds_toArray, List.set_cons_zero, List.set_cons_succ, i64_w, i32_w]
    rfl
  refine pure_ (i := 30) (N := some 37) (v := ?_) (a' := ?_) #[true, true, true, true, true, true, true, true, true, true, true, true, true, true, true, true, true, true, true, true, true, true, true, true, true, true, true, true, true, true, true, false, false, false, false, false, false, false, false, false, false, false, false] rfl rfl (by kernel_rfl) (fun _ _ _ h => h) (Or.inl ⟨by rfl, ?_⟩) ?_ ?_
  rotate_left
  · intro w'
    go_simp
    with_reducible rfl
  rotate_left
  · simp only [Act.put, List.setIfInBounds_toArray, List.set_cons_zero, List.set_cons_succ, i64_w, i32_w]
    rfl
  refine pure_ (i := 31) (N := some 38) (v := ?_) (a' := ?_) #[true, true, true, true, true, true, true, true, true, true, true, true, true, true, true, true, true, true, true, true, true, true, true, true, true, true, true, true, true, true, true, true, false, false, false, false, false, false, false, false, false, false, false] rfl rfl (by kernel_rfl) (fun _ _ _ h => h) (Or.inl ⟨by rfl, ?_⟩) ?_ ?_
  rotate_left
  · intro w'
    go_simp
    with_reducible rfl
  rotate_left
  · simp only [Act.put, List.setIfInBounds_toArray, List.set_cons_zero, List.set_cons_succ, i64_w, i32_w]
    rfl
  refine pure_ (i := 32) (N := some 39) (v := ?_) (a' := ?_) #[true, true, true, true, true, true, true, true, true, true, true, true, true, true, true, true, true, true, true, true, true, true, true, true, true, true, true, true, true, true, true, true, true, false, false, false, false, false, false, false, false, false, false] rfl rfl (by kernel_rfl) (fun _ _ _ h => h) (Or.inl ⟨by rfl, ?_⟩) ?_ ?_
  rotate_left
  · intro w'
    go_simp
    with_reducible rfl
  rotate_left
  · simp only [Act.put, List.setIfInBounds_toArray, List.set_cons_zero, List.set_cons_succ, i64_w, i32_w]
    rfl
  refine pure_ (i := 33) (N := some 40) (v := ?_) (a' := ?_) #[true, true, true, true, true, true, true, true, true, true, true, true, true, true, true, true, true, true, true, true, true, true, true, true, true, true, true, true, true, true, true, true, true, true, false, false, false, false, false, false, false, false, false] rfl rfl (by kernel_rfl) (fun _ _ _ h => h) (Or.inl ⟨by rfl, ?_⟩) ?_ ?_
  rotate_left
  · intro w'
    go_simp
    with_reducible rfl
  rotate_left
  · simp only [Act.put, List.setIfInBounds_toArray, List.set_cons_zero, List.set_cons_succ, i64_w, i32_w]
    rfl
  refine pure_ (i := 34) (N := some 41) (v := ?_) (a' := ?_) #[true, true, true, true, true, true, true, true, true, true, true, true, true, true, true, true, true, true, true, true, true, true, true, true, true, true, true, true, true, true, true, true, true, true, true, false, false, false, false, false, false, false, false] rfl rfl (by kernel_rfl) (fun _ _ _ h => h) (Or.inl ⟨by rfl, ?_⟩) ?_ ?_
  rotate_left
  · intro w'
    go_simp
    with_reducible rfl
  rotate_left
  · simp only [Act.put, List.setIfInBounds_toArray, List.set_cons_zero, List.set_cons_succ, i64_w, i32_w]
    rfl
  refine pure_ (i := 35) (N := some 42) (v := ?_) (a' := ?_) #[true, true, true, true, true, true, true, true, true, true, true, true, true, true, true, true, true, true, true, true, true, true, true, true, true, true, true, true, true, true, true, true, true, true, true, true, false, false, false, false, false, false, false] rfl rfl (by kernel_rfl) (fun _ _ _ h => h) (Or.inl ⟨by rfl, ?_⟩) ?_ ?_
  rotate_left
  · intro w'
    go_simp
    with_reducible rfl
  rotate_left
  · simp only [Act.put, List.setIfInBounds_toArray, List.set_cons_zero, List.set_cons_succ, i64_w, i32_w]
    rfl
  refine pure_ (i := 36) (N := some 43) (v := ?_) (a' := ?_) #[true, true, true, true, true, true, true, true, true, true, true, true, true, true, true, true, true, true, true, true, true, true, true, true, true, true, true, true, true, true, true, true, true, true, true, true, true, false, false, false, false, false, false] rfl rfl (by kernel_rfl) (fun _ _ _ h => h) (Or.inl ⟨by rfl, ?_⟩) ?_ ?_
  rotate_left
  · intro w'
    go_simp
    with_reducible rfl
  rotate_left
  · simp only [Act.put, List.setIfInBounds_toArray, List.set_cons_zero, List.set_cons_succ, i64_w, i32_w]
    rfl
  refine pure_ (i := 37) (N := some 44) (v := ?_) (a' := ?_) #[true, true, true, true, true, true, true, true, true, true, true, true, true, true, true, true, true, true, true, true, true, true, true, true, true, true, true, true, true, true, true, true, true, true, true, true, true, true, false, false, false, false, false] rfl rfl (by kernel_rfl) (fun _ _ _ h => h) (Or.inl ⟨by rfl, ?_⟩) ?_ ?_
  rotate_left
  · intro w'
    go_simp
    with_reducible rfl
  rotate_left
  · simp only [Act.put, List.setIfInBounds_toArray, List.set_cons_zero, List.set_cons_succ, i64_w, i32_w]
    rfl
  refine pure_ (i := 38) (N := some 45) (v := ?_) (a' := ?_) #[true, true, true, true, true, true, true, true, true, true, true, true, true, true, true, true, true, true, true, true, true, true, true, true, true, true, true, true, true, true, true, true, true, true, true, true, true, true, true, false, false, false, false] rfl rfl (by kernel_rfl) (fun _ _ _ h => h) (Or.inl ⟨by rfl, ?_⟩) ?_ ?_
  rotate_left
  · intro w'
    go_simp
    with_reducible rfl
  rotate_left
  · simp only [Act.put, List.setIfInBounds_toArray, List.set_cons_zero, List.set_cons_succ, i64_w, i32_w]
    rfl
  refine pure_ (i := 39) (N := some 46) (v := ?_) (a' := ?_) #[true, true, true, true, true, true, true, true, true, true, true, true, true, true, true, true, true, true, true, true, true, true, true, true, true, true, true, true, true, true, true, true, true, true, true, true, true, true, true, true, false, false, false] rfl rfl (by kernel_rfl) (fun _ _ _ h => h) (Or.inl ⟨by rfl, ?_⟩) ?_ ?_
  rotate_left
  · intro w'
    go_simp
    with_reducible rfl
  rotate_left
  · simp only [Act.put, List.setIfInBounds_toArray, List.set_cons_zero, List.set_cons_succ, i64_w, i32_w]
    rfl
  refine pure_ (i := 40) (N := some 47) (v := ?_) (a' := ?_) #[true, true, true, true, true, true, true, true, true, true, true, true, true, true, true, true, true, true, true, true, true, true, true, true, true, true, true, true, true, true, true, true, true, true, true, true, true, true, true, true, true, false, false] rfl rfl (by kernel_rfl) (fun _ _ _ h => h) (Or.inl ⟨by rfl, ?_⟩) ?_ ?_
  rotate_left
  · intro w'
    go_simp
    with_reducible rfl
  rotate_left
  · simp only [Act.put, List.setIfInBounds_toArray, List.set_cons_zero, List.set_cons_succ, i64_w, i32_w]
    rfl
  refine pure_ (i := 41) (N := some 48) (v := ?_) (a' := ?_) #[true, true, true, true, true, true, true, true, true, true, true, true, true, true, true, true, true, true, true, true, true, true, true, true, true, true, true, true, true, true, true, true, true, true, true, true, true, true, true, true, true, true, false] rfl rfl (by kernel_rfl) (fun _ _ _ h => h) (Or.inl ⟨by rfl, ?_⟩) ?_ ?_
  rotate_left
  · intro w'
    go_simp
    with_reducible rfl
  rotate_left
  · simp only [Act.put, List.setIfInBounds_toArray, List.set_cons_zero, List.set_cons_succ, i64_w, i32_w]
    rfl
  refine one_ (i := 42) (N := none) #[true, true, true, true, true, true, true, true, true, true, true, true, true, true, true, true, true, true, true, true, true, true, true, true, true, true, true, true, true, true, true, true, true, true, true, true, true, true, true, true, true, true, true] rfl rfl (by kernel_rfl) (by decide) (fun K hK => ?_)
  refine seg.step (by rfl) rfl 83 (.tmp 2) _ (by rfl) 83 w.heap.size 0 #[.pointer none, .pointer none, .pointer none, .pointer none, .pointer none, .pointer none, .pointer none, .pointer none, .pointer none, .pointer none, .pointer none, .pointer none, .pointer none] #[.pointer (some ⟨b, 0, none⟩), .pointer (some ⟨b, 1, none⟩), .pointer (some ⟨b, 2, none⟩), .pointer (some ⟨b, 3, none⟩), .pointer (some ⟨b, 4, none⟩), .pointer (some ⟨b, 5, none⟩), .pointer (some ⟨b, 6, none⟩), .pointer (some ⟨b, 7, none⟩), .pointer (some ⟨b, 8, none⟩), .pointer (some ⟨b, 9, none⟩), .pointer (some ⟨b, 10, none⟩), .pointer (some ⟨b, 11, none⟩), .pointer (some ⟨b, 12, none⟩)] [.pointer (some ⟨b, 0, none⟩), .pointer (some ⟨b, 1, none⟩), .pointer (some ⟨b, 2, none⟩), .pointer (some ⟨b, 3, none⟩), .pointer (some ⟨b, 4, none⟩), .pointer (some ⟨b, 5, none⟩), .pointer (some ⟨b, 6, none⟩), .pointer (some ⟨b, 7, none⟩), .pointer (some ⟨b, 8, none⟩), .pointer (some ⟨b, 9, none⟩), .pointer (some ⟨b, 10, none⟩), .pointer (some ⟨b, 11, none⟩), .pointer (some ⟨b, 12, none⟩)] (by rfl) (by rfl) (by kernel_rfl) (by simp [Value.oneCell']) (blk_drew B2.out) (by simp) rfl ?_
  intro w9 bx hgr
  refine hK.out _ _ trivial (fun hHeld => ?_)
  clear hK K
  refine done_ (by kernel_rfl) ?_
  go_wp2
  refine bodyPost_ret (results_c1 (p := 2) rfl _ w9 w.heap.size 83 _ (0, 0) _ rfl bx Try.underlying83 rfl (by kernel_rfl)) rfl ?_
  exact ⟨rfl, seg.below (below_drew1 HB.out) hgr (Nat.le_refl _)⟩

def evAt (k me mo id te de fe pr ch un tg ow bp : Int) : Nat → Int
  | 0 => k
  | 1 => me
  | 2 => mo
  | 3 => id
  | 4 => te
  | 5 => de
  | 6 => fe
  | 7 => pr
  | 8 => ch
  | 9 => un
  | 10 => tg
  | 11 => ow
  | _ => bp
def evL (k me mo id te de fe pr ch un tg ow bp : Int) : List Int := [k % 4294967296, me % 4294967296, mo % 4294967296, id % 4294967296, te % 4294967296, de % 4294967296, fe % 4294967296, pr % 4294967296, ch % 4294967296, un % 4294967296, tg % 4294967296, ow % 4294967296, bp % 4294967296]
theorem evL_len (k me mo id te de fe pr ch un tg ow bp : Int) : (evL k me mo id te de fe pr ch un tg ow bp).length = 13 := rfl
theorem evL_take (k me mo id te de fe pr ch un tg ow bp : Int) (i : Nat) (h : i < 13) : (evL k me mo id te de fe pr ch un tg ow bp).take (i + 1) = (evL k me mo id te de fe pr ch un tg ow bp).take i ++ [evAt k me mo id te de fe pr ch un tg ow bp i % 4294967296] := by
  rcases (show i = 0 ∨ i = 1 ∨ i = 2 ∨ i = 3 ∨ i = 4 ∨ i = 5 ∨ i = 6 ∨ i = 7 ∨ i = 8 ∨ i = 9 ∨ i = 10 ∨ i = 11 ∨ i = 12 by omega) with rfl | rfl | rfl | rfl | rfl | rfl | rfl | rfl | rfl | rfl | rfl | rfl | rfl <;> rfl
theorem ev_ix (W : World) (b i : Nat) (h : i < 13) : (Instr.index 83 (.agg #[.pointer (some ⟨b, 0, none⟩), .pointer (some ⟨b, 1, none⟩), .pointer (some ⟨b, 2, none⟩), .pointer (some ⟨b, 3, none⟩), .pointer (some ⟨b, 4, none⟩), .pointer (some ⟨b, 5, none⟩), .pointer (some ⟨b, 6, none⟩), .pointer (some ⟨b, 7, none⟩), .pointer (some ⟨b, 8, none⟩), .pointer (some ⟨b, 9, none⟩), .pointer (some ⟨b, 10, none⟩), .pointer (some ⟨b, 11, none⟩), .pointer (some ⟨b, 12, none⟩)]) (.int .i64 (i : Int))).run Try.prog W = .ok (.pointer (some ⟨b, i, none⟩)) W := by
  rcases (show i = 0 ∨ i = 1 ∨ i = 2 ∨ i = 3 ∨ i = 4 ∨ i = 5 ∨ i = 6 ∨ i = 7 ∨ i = 8 ∨ i = 9 ∨ i = 10 ∨ i = 11 ∨ i = 12 by omega) with rfl | rfl | rfl | rfl | rfl | rfl | rfl | rfl | rfl | rfl | rfl | rfl | rfl <;> simp [Instr.index, run_underlying Try.underlying83, asIntOf, go_sem]
theorem ev_cell {W : World} {b : Nat} (k me mo id te de fe pr ch un tg ow bp : Int) (h : W.heap[b]? = some (.cells #[.int .i64 k, .int .i64 me, .int .i64 mo, .int .i64 id, .int .i64 te, .int .i64 de, .int .i64 fe, .int .i64 pr, .int .i64 ch, .int .i64 un, .int .i64 tg, .int .i64 ow, .int .i64 bp] 41 (0, 0))) (i : Nat) (hi : i < 13) : W.cell? ⟨b, i, none⟩ = some (.int .i64 (evAt k me mo id te de fe pr ch un tg ow bp i)) := by
  rcases (show i = 0 ∨ i = 1 ∨ i = 2 ∨ i = 3 ∨ i = 4 ∨ i = 5 ∨ i = 6 ∨ i = 7 ∨ i = 8 ∨ i = 9 ∨ i = 10 ∨ i = 11 ∨ i = 12 by omega) with rfl | rfl | rfl | rfl | rfl | rfl | rfl | rfl | rfl | rfl | rfl | rfl | rfl
  all_goals exact (blk_cell h _).trans rfl
theorem evinfo : (Try.prog.info? 86).map (fun i => (i.zero, i.size, i.bytes)) = some (some (.int .u32 0), 1, 4) := by kernel_rfl
theorem R_only {w W : World} {g t base : Nat} {cells : Array Value} {v : Value} {xs : List Int} (h : Kd.R (Kd.int .u32) 86 w base (fun _ => True) v xs) (hb : w.heap[g]? = some (.cells cells t (0, 0))) (ht : 86 ≠ t) (hO : ∀ k, k < w.heap.size → k ≠ g → W.heap[k]? = w.heap[k]?) : Kd.R (Kd.int .u32) 86 W base (fun _ => True) v xs := by
  have hne := Kd.R_ne h hb ht
  have h1 : Kd.R (Kd.int .u32) 86 w base (fun k => k ≠ g) v xs := Kd.R_of_own (Kd.own_of_R h) (fun k hk e => hne (by rw [hk, e]))
  have h2 := Kd.R_step h1 (w1 := W) (fun k ho hk => hO k hk ho)
  exact Kd.R_of_own (Kd.own_of_R h2) (fun _ _ => trivial)

def decA (l : List Int) : Nat → Array Value
  | 0 => #[.int .i64 0, .int .i64 0, .int .i64 0, .int .i64 0, .int .i64 0, .int .i64 0, .int .i64 0, .int .i64 0, .int .i64 0, .int .i64 0, .int .i64 0, .int .i64 0, .int .i64 0]
  | i + 1 => (decA l i).setIfInBounds i (.int .i64 (wrap64 (l.getD i 0)))
theorem decA_size (l : List Int) : ∀ i, (decA l i).size = 13
  | 0 => rfl
  | i + 1 => by simp only [decA, Array.size_setIfInBounds]; exact decA_size l i
theorem decA_get (l : List Int) (i : Nat) (h : i < 13) : (decA l i)[i]? = some (.int .i64 0) := by
  have key : ∀ (n j : Nat), n ≤ j → j < 13 → (decA l n)[j]? = some (.int .i64 0) := by
    intro n
    induction n with
    | zero =>
      intro j _ hj
      rcases (show j = 0 ∨ j = 1 ∨ j = 2 ∨ j = 3 ∨ j = 4 ∨ j = 5 ∨ j = 6 ∨ j = 7 ∨ j = 8 ∨ j = 9 ∨ j = 10 ∨ j = 11 ∨ j = 12 by omega) with rfl | rfl | rfl | rfl | rfl | rfl | rfl | rfl | rfl | rfl | rfl | rfl | rfl <;> rfl
    | succ n ih =>
      intro j hn hj
      simp only [decA]
      rw [Array.getElem?_setIfInBounds_ne (by omega)]
      exact ih j (by omega) hj
  exact key i i (Nat.le_refl _) h
theorem decA_all (l : List Int) : decA l 13 = #[.int .i64 (wrap64 (l.getD 0 0)), .int .i64 (wrap64 (l.getD 1 0)), .int .i64 (wrap64 (l.getD 2 0)), .int .i64 (wrap64 (l.getD 3 0)), .int .i64 (wrap64 (l.getD 4 0)), .int .i64 (wrap64 (l.getD 5 0)), .int .i64 (wrap64 (l.getD 6 0)), .int .i64 (wrap64 (l.getD 7 0)), .int .i64 (wrap64 (l.getD 8 0)), .int .i64 (wrap64 (l.getD 9 0)), .int .i64 (wrap64 (l.getD 10 0)), .int .i64 (wrap64 (l.getD 11 0)), .int .i64 (wrap64 (l.getD 12 0))] := by
  simp [decA]
theorem dec_word {w : World} {A : Option Addr} {n : Nat} {xs : List Int} (h : Kd.C (Kd.int .u32) w A n xs) (i : Nat) (h1 : i < n) : ∃ ad, A = some ad ∧ w.cell? (ad.add i) = some (.int .u32 (xs.getD i 0)) := by
  obtain ⟨ad, e, hc⟩ := Kd.at_int h (i : Int) (by omega) (by omega)
  rw [Int.toNat_natCast] at hc
  exact ⟨ad, e, hc⟩
theorem wpS_then {P : Program} {Q : Exit → Act → List Frame → World → Prop} {x y : Code} {a : Act} {cs : List Frame} {w : World} (h : x.wpS P (Exit.thenS (fun a' cs' w' => y.wp P (fun e a2 w2 => Q e a2 cs' w2) a' w') Q) a cs w) : (Code.seq x y).wpS P Q a cs w := by
  refine wpS_seq ?_
  intro b k hb hr
  obtain ⟨e, a1, cs1, w1, hq, harr⟩ := h b k hb hr
  refine ⟨e, a1, cs1, w1, ?_, harr⟩
  cases e with
  | normal => exact wpS_of_wp hq
  | _ => exact hq

set_option maxHeartbeats 16000000 in
set_option maxRecDepth 100000 in
theorem dec1.idle (w : World) (g gv : Nat) (cv : Array Value) (hne : gv ≠ g) (hg : w.heap[g]? = some (.cells #[.int .i64 0] 32 (0, 0))) (hv : w.heap[gv]? = some (.cells cv 41 (0, 0))) (hcv : cv.size = 13)  :
    CallsD Try.prog 42 #[.pointer (some ⟨g, 0, none⟩), .pointer (some ⟨gv, 0, none⟩)] .returning w fun e u' w' => e = .returned (.tuple #[]) ∧ u' = .returning ∧ w'.heap[g]? = some (.cells #[.int .i64 0] 32 (0, 0)) ∧ w'.heap[gv]? = some (.cells cv 41 (0, 0)) ∧ (∀ B, B ≤ g → B ≤ gv → ∀ w0 : World, w0.heap.size = B → Below w0.heap.size w0 w → Below w0.heap.size w0 w') := by
  have hu41 := Try.underlying41
  have G1 := Aside0.mk (show (w.drewN 1).heap[g]? = some (.cells #[.int .i64 0] 32 (0, 0)) from blk_drewN hg 1)
  have V1 := Aside0.mk (show (w.drewN 1).heap[gv]? = some (.cells cv 41 (0, 0)) from blk_drewN hv 1)
  have hc : (w.drewN 1).cell? ⟨g, 0, none⟩ = some (.int .i64 0) := (blk_cell G1.out 0).trans rfl
  have hz := blk_frozen G1.out 0
  refine callsD_of_wpS Try.func42 rfl fun c₀ cs hu => ?_
  apply wpS_then
  apply wpS_region_draw
  intro t
  refine wpOpsS_two (enc1_sched _ (by kernel_rfl) (by kernel_rfl) (by kernel_rfl) (by kernel_rfl) (by kernel_rfl) (by kernel_rfl) t) ?_ ?_
  all_goals (
    show wpOpsS _ _ _ _ _ _ (w.drewN 1)
    simp [wpOpsS, go_sem, recoverD, hu, Try.ntmps42, Exit.thenS, hc, hz]
    refine (book_caught.none _ _).mono ?_
    rintro e w1 ⟨rfl, hw1⟩
    subst w1
    simp [go_sem, hc, hz]
    have G3 := blk_set G1.out 0 (.int .i64 0)
    have V3 := blk_far (p := ⟨g, 0, none⟩) V1.out hne (.int .i64 0)
    have hc3 : ((w.drewN 1).setCell ⟨g, 0, none⟩ (.int .i64 0)).cell? ⟨g, 0, none⟩ = some (.int .i64 0) := (blk_cell G3 0).trans rfl
    simp only [List.size_toArray, List.length_cons, List.length_nil, Nat.reduceAdd, Nat.reduceSub, Array.replicate_succ, Array.replicate_zero, List.push_toArray, List.append_toArray, List.nil_append, List.cons_append, List.setIfInBounds_toArray, List.set_cons_zero, List.set_cons_succ]
    go_wp2
    simp [bodyPostS, results, Try.results42]
    exact ⟨.returning, by cases c₀; simp_all, rfl, G3, V3, fun B h1 h2 w0 h3 h4 => (pw_below_drewN h4 1).setCell (by rw [h3]; exact h1) _⟩)
set_option maxHeartbeats 16000000 in
set_option maxRecDepth 100000 in
theorem dec1.caught (w : World) (g gv : Nat) (c d : Int) (cv : Array Value) (hne : gv ≠ g) (hg : w.heap[g]? = some (.cells #[.int .i64 c] 32 (0, 0))) (hv : w.heap[gv]? = some (.cells cv 41 (0, 0))) (hcv : cv.size = 13) (hd : d ≠ 0) (older : List PanicEntry) :
    CallsD Try.prog 42 #[.pointer (some ⟨g, 0, none⟩), .pointer (some ⟨gv, 0, none⟩)] (.panicking ({ v := .iface 103 (.agg #[.int .i64 d]), recovered := false } :: older)) w fun e u' w' => e = .returned (.tuple #[]) ∧ u' = .panicking ({ v := .iface 103 (.agg #[.int .i64 d]), recovered := true } :: older) ∧ w'.heap[g]? = some (.cells #[.int .i64 d] 32 (0, 0)) ∧ w'.heap[gv]? = some (.cells #[.int .i64 0, .int .i64 0, .int .i64 0, .int .i64 0, .int .i64 0, .int .i64 0, .int .i64 0, .int .i64 0, .int .i64 0, .int .i64 0, .int .i64 0, .int .i64 0, .int .i64 0] 41 (0, 0)) ∧ (∀ B, B ≤ g → B ≤ gv → ∀ w0 : World, w0.heap.size = B → Below w0.heap.size w0 w → Below w0.heap.size w0 w') := by
  have hu41 := Try.underlying41
  have G1 := Aside0.mk (show (w.drewN 1).heap[g]? = some (.cells #[.int .i64 c] 32 (0, 0)) from blk_drewN hg 1)
  have V1 := Aside0.mk (show (w.drewN 1).heap[gv]? = some (.cells cv 41 (0, 0)) from blk_drewN hv 1)
  have hc : (w.drewN 1).cell? ⟨g, 0, none⟩ = some (.int .i64 c) := (blk_cell G1.out 0).trans rfl
  have hz := blk_frozen G1.out 0
  refine callsD_of_wpS Try.func42 rfl fun c₀ cs hu => ?_
  apply wpS_then
  apply wpS_region_draw
  intro t
  refine wpOpsS_two (enc1_sched _ (by kernel_rfl) (by kernel_rfl) (by kernel_rfl) (by kernel_rfl) (by kernel_rfl) (by kernel_rfl) t) ?_ ?_
  all_goals (
    show wpOpsS _ _ _ _ _ _ (w.drewN 1)
    simp [wpOpsS, go_sem, recoverD, hu, Try.ntmps42, Exit.thenS, hc, hz]
    refine (book_caught.some _ _ _).mono ?_
    rintro e w1 ⟨rfl, hb⟩
    have G2 := blk_below G1.out hb
    have V2 := blk_below V1.out hb
    have hc2 : w1.cell? ⟨g, 0, none⟩ = some (.int .i64 c) := (blk_cell G2 0).trans rfl
    have hz2 := blk_frozen G2 0
    simp [go_sem, hc2, hz2]
    have G3 := blk_set G2 0 (.int .i64 d)
    have V3 := blk_far (p := ⟨g, 0, none⟩) V2 hne (.int .i64 d)
    have hc3 : (w1.setCell ⟨g, 0, none⟩ (.int .i64 d)).cell? ⟨g, 0, none⟩ = some (.int .i64 d) := (blk_cell G3 0).trans rfl
    have d1 : (d == 0) = false := beq_eq_false_iff_ne.mpr hd
    have d2 : (d != 0) = true := bne_iff_ne.mpr hd
    simp only [List.size_toArray, List.length_cons, List.length_nil, Nat.reduceAdd, Nat.reduceSub, Array.replicate_succ, Array.replicate_zero, List.push_toArray, List.append_toArray, List.nil_append, List.cons_append, List.setIfInBounds_toArray, List.set_cons_zero, List.set_cons_succ]
    go_wp2_with ((with_reducible refine gate_store (t := 41) (p := 1) rfl ?_); (refine seg.list rfl rfl 41 (.tmp 1) _ rfl 41 gv 0 cv #[.int .i64 0, .int .i64 0, .int .i64 0, .int .i64 0, .int .i64 0, .int .i64 0, .int .i64 0, .int .i64 0, .int .i64 0, .int .i64 0, .int .i64 0, .int .i64 0, .int .i64 0] [.int .i64 0, .int .i64 0, .int .i64 0, .int .i64 0, .int .i64 0, .int .i64 0, .int .i64 0, .int .i64 0, .int .i64 0, .int .i64 0, .int .i64 0, .int .i64 0, .int .i64 0] rfl rfl (by kernel_rfl) (by simp [Value.oneCell']) V3 (by simp [hcv]) (by have e1 : cv.toList.length = 13 := (by simpa using hcv); simp [List.drop_eq_nil_of_le, e1]) ?_; intro w9 bx hgr))
    have G9 := seg.far G3 hgr (Ne.symm hne)
    have HBB : ∀ B, B ≤ g → B ≤ gv → ∀ w0 : World, w0.heap.size = B → Below w0.heap.size w0 w → Below w0.heap.size w0 w9 := fun B h1 h2 w0 h3 h4 => seg.below (Below.setCell (below_then (pw_below_drewN h4 1) (pw_below_drewN h4 1).size hb) (p := ⟨g, 0, none⟩) (by rw [h3]; exact h1) (.int .i64 d)) hgr (by rw [h3]; exact h2)
    simp [bodyPostS, results, Try.results42]
    exact ⟨G9, bx, HBB⟩)
set_option maxHeartbeats 16000000 in
set_option maxRecDepth 100000 in
theorem book_Decode.size (w : World) (A : Option Addr) (c : Nat) (l : List Int) (hl : l.length ≠ 13) :
    Calls Try.prog 17 #[.slice A l.length c] w fun e w' => e = .returned (.tuple #[.agg #[.int .i64 0, .int .i64 0, .int .i64 0, .int .i64 0, .int .i64 0, .int .i64 0, .int .i64 0, .int .i64 0, .int .i64 0, .int .i64 0, .int .i64 0, .int .i64 0, .int .i64 0], .int .i64 1]) ∧ Below w.heap.size w w' := by
  have hmf : ∀ (fn : Fn) (first cap : Array Value) (w : World), (Instr.makeFunc fn first cap).run Try.prog w = .ok (.func fn first cap) w := fun _ _ _ _ => rfl
  have hu41 := Try.underlying41
  have B1 := blk_alloc (blk_new w (.cells #[.int .i64 0, .int .i64 0, .int .i64 0, .int .i64 0, .int .i64 0, .int .i64 0, .int .i64 0, .int .i64 0, .int .i64 0, .int .i64 0, .int .i64 0, .int .i64 0, .int .i64 0] 41 )) (.cells #[.int .i64 0] 32 )
  have B2 := blk_new (w.alloc (.cells #[.int .i64 0, .int .i64 0, .int .i64 0, .int .i64 0, .int .i64 0, .int .i64 0, .int .i64 0, .int .i64 0, .int .i64 0, .int .i64 0, .int .i64 0, .int .i64 0, .int .i64 0] 41 )) (.cells #[.int .i64 0] 32 )
  rw [World.size_alloc] at B2
  have J1 := Aside0.mk B1
  have J2 := Aside0.mk B2
  have HB := Aside0.mk (below_alloc (below_alloc (Below.refl w.heap.size w) (.cells #[.int .i64 0, .int .i64 0, .int .i64 0, .int .i64 0, .int .i64 0, .int .i64 0, .int .i64 0, .int .i64 0, .int .i64 0, .int .i64 0, .int .i64 0, .int .i64 0, .int .i64 0] 41 )) (.cells #[.int .i64 0] 32 ))
  have c1 : ((l.length : Int) == 13) = false := beq_eq_false_iff_ne.mpr (by omega)
  have c2 : (l.length == 13) = false := beq_eq_false_iff_ne.mpr hl
  clear B1 B2 hl
  go_enter_defers Try.func17, Try.ntmps17
  go_wp2_with (go_at_call 43; refine (book_want.no _ 1).mono ?_; rintro e wa ⟨rfl, hw_⟩; subst wa)
  refine leaves_cons (f := 42) (args := #[.pointer (some ⟨w.heap.size + 1, 0, none⟩), .pointer (some ⟨w.heap.size, 0, none⟩)]) (by simp) (by simp [go_sem]) ?_
  refine (dec1.caught _ (w.heap.size + 1) w.heap.size 0 1 _ (Nat.ne_of_lt (Nat.lt_succ_self _)) J2.out J1.out rfl (by decide) []).mono ?_
  rintro e u' w2 ⟨rfl, rfl, hg, hv, hB⟩
  have hc : w2.cell? ⟨w.heap.size + 1, 0, none⟩ = some (.int .i64 1) := (blk_cell hg 0).trans rfl
  have v0_ : w2.cell? ⟨w.heap.size, 0, none⟩ = some (.int .i64 0) := (blk_cell hv 0).trans rfl
  have v1_ : w2.cell? ⟨w.heap.size, 1, none⟩ = some (.int .i64 0) := (blk_cell hv 1).trans rfl
  have v2_ : w2.cell? ⟨w.heap.size, 2, none⟩ = some (.int .i64 0) := (blk_cell hv 2).trans rfl
  have v3_ : w2.cell? ⟨w.heap.size, 3, none⟩ = some (.int .i64 0) := (blk_cell hv 3).trans rfl
  have v4_ : w2.cell? ⟨w.heap.size, 4, none⟩ = some (.int .i64 0) := (blk_cell hv 4).trans rfl
  have v5_ : w2.cell? ⟨w.heap.size, 5, none⟩ = some (.int .i64 0) := (blk_cell hv 5).trans rfl
  have v6_ : w2.cell? ⟨w.heap.size, 6, none⟩ = some (.int .i64 0) := (blk_cell hv 6).trans rfl
  have v7_ : w2.cell? ⟨w.heap.size, 7, none⟩ = some (.int .i64 0) := (blk_cell hv 7).trans rfl
  have v8_ : w2.cell? ⟨w.heap.size, 8, none⟩ = some (.int .i64 0) := (blk_cell hv 8).trans rfl
  have v9_ : w2.cell? ⟨w.heap.size, 9, none⟩ = some (.int .i64 0) := (blk_cell hv 9).trans rfl
  have v10_ : w2.cell? ⟨w.heap.size, 10, none⟩ = some (.int .i64 0) := (blk_cell hv 10).trans rfl
  have v11_ : w2.cell? ⟨w.heap.size, 11, none⟩ = some (.int .i64 0) := (blk_cell hv 11).trans rfl
  have v12_ : w2.cell? ⟨w.heap.size, 12, none⟩ = some (.int .i64 0) := (blk_cell hv 12).trans rfl
  have hbb := hB w.heap.size (Nat.le_succ _) (Nat.le_refl _) w rfl HB.out
  simp [Leaves, settle, results, Try.results17, go_sem, hc, hu41, v0_, v1_, v2_, v3_, v4_, v5_, v6_, v7_, v8_, v9_, v10_, v11_, v12_]
  exact hbb
set_option maxHeartbeats 16000000 in
set_option maxRecDepth 100000 in
theorem book_Decode.no (w : World) (A : Option Addr) (c : Nat) (l : List Int) (hl : l.length = 13) (hr0 : Kd.C (Kd.int .u32) w A l.length l) (hR : evOk (wrap64 (l.getD 0 0)) (wrap64 (l.getD 1 0)) (wrap64 (l.getD 2 0)) (wrap64 (l.getD 3 0)) (wrap64 (l.getD 4 0)) (wrap64 (l.getD 5 0)) (wrap64 (l.getD 6 0)) (wrap64 (l.getD 7 0)) (wrap64 (l.getD 8 0)) (wrap64 (l.getD 9 0)) (wrap64 (l.getD 10 0)) (wrap64 (l.getD 11 0)) (wrap64 (l.getD 12 0)) = false) :
    Calls Try.prog 17 #[.slice A l.length c] w fun e w' => e = .returned (.tuple #[.agg #[.int .i64 0, .int .i64 0, .int .i64 0, .int .i64 0, .int .i64 0, .int .i64 0, .int .i64 0, .int .i64 0, .int .i64 0, .int .i64 0, .int .i64 0, .int .i64 0, .int .i64 0], .int .i64 5]) ∧ Below w.heap.size w w' := by
  have hmf : ∀ (fn : Fn) (first cap : Array Value) (w : World), (Instr.makeFunc fn first cap).run Try.prog w = .ok (.func fn first cap) w := fun _ _ _ _ => rfl
  have hu41 := Try.underlying41
  have B1 := blk_alloc (blk_new w (.cells #[.int .i64 0, .int .i64 0, .int .i64 0, .int .i64 0, .int .i64 0, .int .i64 0, .int .i64 0, .int .i64 0, .int .i64 0, .int .i64 0, .int .i64 0, .int .i64 0, .int .i64 0] 41 )) (.cells #[.int .i64 0] 32 )
  have B2 := blk_new (w.alloc (.cells #[.int .i64 0, .int .i64 0, .int .i64 0, .int .i64 0, .int .i64 0, .int .i64 0, .int .i64 0, .int .i64 0, .int .i64 0, .int .i64 0, .int .i64 0, .int .i64 0, .int .i64 0] 41 )) (.cells #[.int .i64 0] 32 )
  rw [World.size_alloc] at B2
  have J1 := Aside0.mk B1
  have J2 := Aside0.mk B2
  have HB := Aside0.mk (below_alloc (below_alloc (Below.refl w.heap.size w) (.cells #[.int .i64 0, .int .i64 0, .int .i64 0, .int .i64 0, .int .i64 0, .int .i64 0, .int .i64 0, .int .i64 0, .int .i64 0, .int .i64 0, .int .i64 0, .int .i64 0, .int .i64 0] 41 )) (.cells #[.int .i64 0] 32 ))
  have c1 : ((l.length : Int) == 13) = true := by rw [hl]; rfl
  have c2 : (l.length == 13) = true := by rw [hl]; rfl
  have hu83 := Try.underlying83
  have HL := Aside0.mk hl
  have HO0 := Aside0.mk hr0
  have HC := Aside0.mk (fun W : World => book_check.at_ W (wrap64 (l.getD 0 0)) (wrap64 (l.getD 1 0)) (wrap64 (l.getD 2 0)) (wrap64 (l.getD 3 0)) (wrap64 (l.getD 4 0)) (wrap64 (l.getD 5 0)) (wrap64 (l.getD 6 0)) (wrap64 (l.getD 7 0)) (wrap64 (l.getD 8 0)) (wrap64 (l.getD 9 0)) (wrap64 (l.getD 10 0)) (wrap64 (l.getD 11 0)) (wrap64 (l.getD 12 0)) false hR.symm)
  clear B1 B2 hl hr0 hR
  go_enter_defers Try.func17, Try.ntmps17
  go_wp2_with (first | (go_at_call 43; refine (book_want.yes _ 1).mono ?_; rintro e wa ⟨rfl, hw_⟩; subst wa) | (go_at_call 40; refine (book_fields.at_ _ w.heap.size).mono ?_; rintro e wb ⟨rfl, hb⟩; have L1 := Aside0.mk (show wb.heap[w.heap.size]? = some (.cells (decA l 0) 41 (0, 0)) from blk_below J1.out hb); have L2 := Aside0.mk (blk_below J2.out hb); have LB := Aside0.mk (below_then HB.out HB.out.size hb); clear hb))
  go_loopg [4, 5, 12] 13 (fun kq v4 v5 v12 w' => ∃ i : Nat, v12 = .int .i64 (i : Int) ∧ Aside0 (i ≤ 13 ∧ kq = 13 - i) ∧ Aside0 (w'.heap[w.heap.size]? = some (.cells (decA l i) 41 (0, 0))) ∧ Aside0 (w'.heap[w.heap.size + 1]? = some (.cells #[.int .i64 0] 32 (0, 0))) ∧ Aside0 (Below w.heap.size w w'))
  case atStart => exact ⟨0, rfl, ⟨Nat.zero_le _, by omega⟩, L1, L2, LB⟩
  case round =>
    clear L1 L2 LB
    obtain ⟨i, rfl, HI, L1, L2, LB⟩ := hrel
    by_cases h13 : i < 13
    · have s1 : decide ((i : Int) < 13) = true := decide_eq_true (by omega)
      have s1n : decide (i < 13) = true := decide_eq_true h13
      have hix : ∀ W, (Instr.index 83 (.agg #[.pointer (some ⟨w.heap.size, 0, none⟩), .pointer (some ⟨w.heap.size, 1, none⟩), .pointer (some ⟨w.heap.size, 2, none⟩), .pointer (some ⟨w.heap.size, 3, none⟩), .pointer (some ⟨w.heap.size, 4, none⟩), .pointer (some ⟨w.heap.size, 5, none⟩), .pointer (some ⟨w.heap.size, 6, none⟩), .pointer (some ⟨w.heap.size, 7, none⟩), .pointer (some ⟨w.heap.size, 8, none⟩), .pointer (some ⟨w.heap.size, 9, none⟩), .pointer (some ⟨w.heap.size, 10, none⟩), .pointer (some ⟨w.heap.size, 11, none⟩), .pointer (some ⟨w.heap.size, 12, none⟩)]) (.int .i64 (i : Int))).run Try.prog W = .ok (.pointer (some ⟨w.heap.size, i, none⟩)) W := fun W => ev_ix W w.heap.size i h13
      have e2 : wrap64 ((i : Int) + 1) = ((i + 1 : Nat) : Int) := by rw [IntWalk.wrap64_in _ ⟨by omega, by omega⟩]; rfl
      have hil : i < l.length := by rw [HL.out]; exact h13
      have p7 : (0 ≤ (i : Int)) = True := eq_true (by omega)
      have q7 : ((i : Int) < (l.length : Int)) = True := eq_true (by omega)
      obtain ⟨ad, rfl, y0⟩ := dec_word (Kd.C_below HO0.out LB.out) i hil
      have x0 : wr.cell? ⟨w.heap.size, i, none⟩ = some (.int .i64 0) := (blk_cell L1.out i).trans (decA_get l i h13)
      have f0 := blk_frozen L1.out i
      have N1 := Aside0.mk (show (wr.setCell ⟨w.heap.size, i, none⟩ (.int .i64 (wrap64 (l.getD i 0)))).heap[w.heap.size]? = some (.cells (decA l (i + 1)) 41 (0, 0)) from blk_set L1.out i _)
      have N2 := Aside0.mk (blk_far (p := ⟨w.heap.size, i, none⟩) L2.out (by show w.heap.size + 1 ≠ w.heap.size; omega) (.int .i64 (wrap64 (l.getD i 0))))
      have NB := Aside0.mk (below_set (g := w.heap.size) (j := i) (v := .int .i64 (wrap64 (l.getD i 0))) LB.out (Nat.le_refl _))
      obtain ⟨z, hz⟩ : ∃ z, l.getD i 0 = z := ⟨_, rfl⟩
      rw [hz] at y0 N1 N2 NB
      have HJ := Aside0.mk (show i + 1 ≤ 13 ∧ i < 13 from ⟨h13, h13⟩)
      clear hz h13 hil
      go_wp2
      go_roundg (13 - (i + 1))
      case measure => have := HJ.out; have := HI.out; omega
      case rel => exact ⟨i + 1, by first | rfl | rw [e2], ⟨HJ.out.1, rfl⟩, N1, N2, NB⟩
    · obtain rfl : i = 13 := by have := HI.out.1; omega
      have M1 := L1.out
      rw [decA_all] at M1
      obtain ⟨d0, hd0⟩ : ∃ x, wrap64 (l.getD 0 0) = x := ⟨_, rfl⟩
      obtain ⟨d1, hd1⟩ : ∃ x, wrap64 (l.getD 1 0) = x := ⟨_, rfl⟩
      obtain ⟨d2, hd2⟩ : ∃ x, wrap64 (l.getD 2 0) = x := ⟨_, rfl⟩
      obtain ⟨d3, hd3⟩ : ∃ x, wrap64 (l.getD 3 0) = x := ⟨_, rfl⟩
      obtain ⟨d4, hd4⟩ : ∃ x, wrap64 (l.getD 4 0) = x := ⟨_, rfl⟩
      obtain ⟨d5, hd5⟩ : ∃ x, wrap64 (l.getD 5 0) = x := ⟨_, rfl⟩
      obtain ⟨d6, hd6⟩ : ∃ x, wrap64 (l.getD 6 0) = x := ⟨_, rfl⟩
      obtain ⟨d7, hd7⟩ : ∃ x, wrap64 (l.getD 7 0) = x := ⟨_, rfl⟩
      obtain ⟨d8, hd8⟩ : ∃ x, wrap64 (l.getD 8 0) = x := ⟨_, rfl⟩
      obtain ⟨d9, hd9⟩ : ∃ x, wrap64 (l.getD 9 0) = x := ⟨_, rfl⟩
      obtain ⟨d10, hd10⟩ : ∃ x, wrap64 (l.getD 10 0) = x := ⟨_, rfl⟩
      obtain ⟨d11, hd11⟩ : ∃ x, wrap64 (l.getD 11 0) = x := ⟨_, rfl⟩
      obtain ⟨d12, hd12⟩ : ∃ x, wrap64 (l.getD 12 0) = x := ⟨_, rfl⟩
      rw [hd0, hd1, hd2, hd3, hd4, hd5, hd6, hd7, hd8, hd9, hd10, hd11, hd12] at M1 HC
      have E0 := Aside0.mk hd0
      have E1 := Aside0.mk hd1
      have E2 := Aside0.mk hd2
      have E3 := Aside0.mk hd3
      have E4 := Aside0.mk hd4
      have E5 := Aside0.mk hd5
      have E6 := Aside0.mk hd6
      have E7 := Aside0.mk hd7
      have E8 := Aside0.mk hd8
      have E9 := Aside0.mk hd9
      have E10 := Aside0.mk hd10
      have E11 := Aside0.mk hd11
      have E12 := Aside0.mk hd12
      have K1 := Aside0.mk M1
      have x0 : wr.cell? ⟨w.heap.size, 0, none⟩ = some (.int .i64 d0) := (blk_cell K1.out 0).trans rfl
      have x1 : wr.cell? ⟨w.heap.size, 1, none⟩ = some (.int .i64 d1) := (blk_cell K1.out 1).trans rfl
      have x2 : wr.cell? ⟨w.heap.size, 2, none⟩ = some (.int .i64 d2) := (blk_cell K1.out 2).trans rfl
      have x3 : wr.cell? ⟨w.heap.size, 3, none⟩ = some (.int .i64 d3) := (blk_cell K1.out 3).trans rfl
      have x4 : wr.cell? ⟨w.heap.size, 4, none⟩ = some (.int .i64 d4) := (blk_cell K1.out 4).trans rfl
      have x5 : wr.cell? ⟨w.heap.size, 5, none⟩ = some (.int .i64 d5) := (blk_cell K1.out 5).trans rfl
      have x6 : wr.cell? ⟨w.heap.size, 6, none⟩ = some (.int .i64 d6) := (blk_cell K1.out 6).trans rfl
      have x7 : wr.cell? ⟨w.heap.size, 7, none⟩ = some (.int .i64 d7) := (blk_cell K1.out 7).trans rfl
      have x8 : wr.cell? ⟨w.heap.size, 8, none⟩ = some (.int .i64 d8) := (blk_cell K1.out 8).trans rfl
      have x9 : wr.cell? ⟨w.heap.size, 9, none⟩ = some (.int .i64 d9) := (blk_cell K1.out 9).trans rfl
      have x10 : wr.cell? ⟨w.heap.size, 10, none⟩ = some (.int .i64 d10) := (blk_cell K1.out 10).trans rfl
      have x11 : wr.cell? ⟨w.heap.size, 11, none⟩ = some (.int .i64 d11) := (blk_cell K1.out 11).trans rfl
      have x12 : wr.cell? ⟨w.heap.size, 12, none⟩ = some (.int .i64 d12) := (blk_cell K1.out 12).trans rfl
      have hc0 : wr.cell? ⟨w.heap.size + 1, 0, none⟩ = some (.int .i64 0) := (blk_cell L2.out 0).trans rfl
      clear h13 M1 hd0 hd1 hd2 hd3 hd4 hd5 hd6 hd7 hd8 hd9 hd10 hd11 hd12
      go_wp2_with (go_at_call 39; refine (HC.out _).mono ?_; rintro e wc ⟨he, hb⟩; have R1 := Aside0.mk (blk_below K1.out hb); have R2 := Aside0.mk (blk_below L2.out hb); have RB := Aside0.mk (below_then LB.out LB.out.size hb); clear hb; simp only [evEnd] at he; subst he)
      refine leaves_cons (f := 42) (args := #[.pointer (some ⟨w.heap.size + 1, 0, none⟩), .pointer (some ⟨w.heap.size, 0, none⟩)]) (by simp) (by simp [go_sem]) ?_
      refine (dec1.caught _ (w.heap.size + 1) w.heap.size 0 5 _ (Nat.ne_of_lt (Nat.lt_succ_self _)) R2.out R1.out rfl (by decide) []).mono ?_
      rintro e u' w2 ⟨rfl, rfl, hg, hv, hB⟩
      have hc : w2.cell? ⟨w.heap.size + 1, 0, none⟩ = some (.int .i64 5) := (blk_cell hg 0).trans rfl
      have v0_ : w2.cell? ⟨w.heap.size, 0, none⟩ = some (.int .i64 0) := (blk_cell hv 0).trans rfl
      have v1_ : w2.cell? ⟨w.heap.size, 1, none⟩ = some (.int .i64 0) := (blk_cell hv 1).trans rfl
      have v2_ : w2.cell? ⟨w.heap.size, 2, none⟩ = some (.int .i64 0) := (blk_cell hv 2).trans rfl
      have v3_ : w2.cell? ⟨w.heap.size, 3, none⟩ = some (.int .i64 0) := (blk_cell hv 3).trans rfl
      have v4_ : w2.cell? ⟨w.heap.size, 4, none⟩ = some (.int .i64 0) := (blk_cell hv 4).trans rfl
      have v5_ : w2.cell? ⟨w.heap.size, 5, none⟩ = some (.int .i64 0) := (blk_cell hv 5).trans rfl
      have v6_ : w2.cell? ⟨w.heap.size, 6, none⟩ = some (.int .i64 0) := (blk_cell hv 6).trans rfl
      have v7_ : w2.cell? ⟨w.heap.size, 7, none⟩ = some (.int .i64 0) := (blk_cell hv 7).trans rfl
      have v8_ : w2.cell? ⟨w.heap.size, 8, none⟩ = some (.int .i64 0) := (blk_cell hv 8).trans rfl
      have v9_ : w2.cell? ⟨w.heap.size, 9, none⟩ = some (.int .i64 0) := (blk_cell hv 9).trans rfl
      have v10_ : w2.cell? ⟨w.heap.size, 10, none⟩ = some (.int .i64 0) := (blk_cell hv 10).trans rfl
      have v11_ : w2.cell? ⟨w.heap.size, 11, none⟩ = some (.int .i64 0) := (blk_cell hv 11).trans rfl
      have v12_ : w2.cell? ⟨w.heap.size, 12, none⟩ = some (.int .i64 0) := (blk_cell hv 12).trans rfl
      have hbb := hB w.heap.size (Nat.le_succ _) (Nat.le_refl _) w rfl RB.out
      simp [Leaves, settle, results, Try.results17, go_sem, hc, hu41, v0_, v1_, v2_, v3_, v4_, v5_, v6_, v7_, v8_, v9_, v10_, v11_, v12_]
      exact hbb
set_option maxHeartbeats 16000000 in
set_option maxRecDepth 100000 in
theorem book_Decode.yes (w : World) (A : Option Addr) (c : Nat) (l : List Int) (hl : l.length = 13) (hr0 : Kd.C (Kd.int .u32) w A l.length l) (hR : evOk (wrap64 (l.getD 0 0)) (wrap64 (l.getD 1 0)) (wrap64 (l.getD 2 0)) (wrap64 (l.getD 3 0)) (wrap64 (l.getD 4 0)) (wrap64 (l.getD 5 0)) (wrap64 (l.getD 6 0)) (wrap64 (l.getD 7 0)) (wrap64 (l.getD 8 0)) (wrap64 (l.getD 9 0)) (wrap64 (l.getD 10 0)) (wrap64 (l.getD 11 0)) (wrap64 (l.getD 12 0)) = true) :
    Calls Try.prog 17 #[.slice A l.length c] w fun e w' => e = .returned (.tuple #[.agg #[.int .i64 (wrap64 (l.getD 0 0)), .int .i64 (wrap64 (l.getD 1 0)), .int .i64 (wrap64 (l.getD 2 0)), .int .i64 (wrap64 (l.getD 3 0)), .int .i64 (wrap64 (l.getD 4 0)), .int .i64 (wrap64 (l.getD 5 0)), .int .i64 (wrap64 (l.getD 6 0)), .int .i64 (wrap64 (l.getD 7 0)), .int .i64 (wrap64 (l.getD 8 0)), .int .i64 (wrap64 (l.getD 9 0)), .int .i64 (wrap64 (l.getD 10 0)), .int .i64 (wrap64 (l.getD 11 0)), .int .i64 (wrap64 (l.getD 12 0))], .int .i64 0]) ∧ Below w.heap.size w w' := by
  have hmf : ∀ (fn : Fn) (first cap : Array Value) (w : World), (Instr.makeFunc fn first cap).run Try.prog w = .ok (.func fn first cap) w := fun _ _ _ _ => rfl
  have hu41 := Try.underlying41
  have B1 := blk_alloc (blk_new w (.cells #[.int .i64 0, .int .i64 0, .int .i64 0, .int .i64 0, .int .i64 0, .int .i64 0, .int .i64 0, .int .i64 0, .int .i64 0, .int .i64 0, .int .i64 0, .int .i64 0, .int .i64 0] 41 )) (.cells #[.int .i64 0] 32 )
  have B2 := blk_new (w.alloc (.cells #[.int .i64 0, .int .i64 0, .int .i64 0, .int .i64 0, .int .i64 0, .int .i64 0, .int .i64 0, .int .i64 0, .int .i64 0, .int .i64 0, .int .i64 0, .int .i64 0, .int .i64 0] 41 )) (.cells #[.int .i64 0] 32 )
  rw [World.size_alloc] at B2
  have J1 := Aside0.mk B1
  have J2 := Aside0.mk B2
  have HB := Aside0.mk (below_alloc (below_alloc (Below.refl w.heap.size w) (.cells #[.int .i64 0, .int .i64 0, .int .i64 0, .int .i64 0, .int .i64 0, .int .i64 0, .int .i64 0, .int .i64 0, .int .i64 0, .int .i64 0, .int .i64 0, .int .i64 0, .int .i64 0] 41 )) (.cells #[.int .i64 0] 32 ))
  have c1 : ((l.length : Int) == 13) = true := by rw [hl]; rfl
  have c2 : (l.length == 13) = true := by rw [hl]; rfl
  have hu83 := Try.underlying83
  have HL := Aside0.mk hl
  have HO0 := Aside0.mk hr0
  have HC := Aside0.mk (fun W : World => book_check.at_ W (wrap64 (l.getD 0 0)) (wrap64 (l.getD 1 0)) (wrap64 (l.getD 2 0)) (wrap64 (l.getD 3 0)) (wrap64 (l.getD 4 0)) (wrap64 (l.getD 5 0)) (wrap64 (l.getD 6 0)) (wrap64 (l.getD 7 0)) (wrap64 (l.getD 8 0)) (wrap64 (l.getD 9 0)) (wrap64 (l.getD 10 0)) (wrap64 (l.getD 11 0)) (wrap64 (l.getD 12 0)) true hR.symm)
  clear B1 B2 hl hr0 hR
  go_enter_defers Try.func17, Try.ntmps17
  go_wp2_with (first | (go_at_call 43; refine (book_want.yes _ 1).mono ?_; rintro e wa ⟨rfl, hw_⟩; subst wa) | (go_at_call 40; refine (book_fields.at_ _ w.heap.size).mono ?_; rintro e wb ⟨rfl, hb⟩; have L1 := Aside0.mk (show wb.heap[w.heap.size]? = some (.cells (decA l 0) 41 (0, 0)) from blk_below J1.out hb); have L2 := Aside0.mk (blk_below J2.out hb); have LB := Aside0.mk (below_then HB.out HB.out.size hb); clear hb))
  go_loopg [4, 5, 12] 13 (fun kq v4 v5 v12 w' => ∃ i : Nat, v12 = .int .i64 (i : Int) ∧ Aside0 (i ≤ 13 ∧ kq = 13 - i) ∧ Aside0 (w'.heap[w.heap.size]? = some (.cells (decA l i) 41 (0, 0))) ∧ Aside0 (w'.heap[w.heap.size + 1]? = some (.cells #[.int .i64 0] 32 (0, 0))) ∧ Aside0 (Below w.heap.size w w'))
  case atStart => exact ⟨0, rfl, ⟨Nat.zero_le _, by omega⟩, L1, L2, LB⟩
  case round =>
    clear L1 L2 LB
    obtain ⟨i, rfl, HI, L1, L2, LB⟩ := hrel
    by_cases h13 : i < 13
    · have s1 : decide ((i : Int) < 13) = true := decide_eq_true (by omega)
      have s1n : decide (i < 13) = true := decide_eq_true h13
      have hix : ∀ W, (Instr.index 83 (.agg #[.pointer (some ⟨w.heap.size, 0, none⟩), .pointer (some ⟨w.heap.size, 1, none⟩), .pointer (some ⟨w.heap.size, 2, none⟩), .pointer (some ⟨w.heap.size, 3, none⟩), .pointer (some ⟨w.heap.size, 4, none⟩), .pointer (some ⟨w.heap.size, 5, none⟩), .pointer (some ⟨w.heap.size, 6, none⟩), .pointer (some ⟨w.heap.size, 7, none⟩), .pointer (some ⟨w.heap.size, 8, none⟩), .pointer (some ⟨w.heap.size, 9, none⟩), .pointer (some ⟨w.heap.size, 10, none⟩), .pointer (some ⟨w.heap.size, 11, none⟩), .pointer (some ⟨w.heap.size, 12, none⟩)]) (.int .i64 (i : Int))).run Try.prog W = .ok (.pointer (some ⟨w.heap.size, i, none⟩)) W := fun W => ev_ix W w.heap.size i h13
      have e2 : wrap64 ((i : Int) + 1) = ((i + 1 : Nat) : Int) := by rw [IntWalk.wrap64_in _ ⟨by omega, by omega⟩]; rfl
      have hil : i < l.length := by rw [HL.out]; exact h13
      have p7 : (0 ≤ (i : Int)) = True := eq_true (by omega)
      have q7 : ((i : Int) < (l.length : Int)) = True := eq_true (by omega)
      obtain ⟨ad, rfl, y0⟩ := dec_word (Kd.C_below HO0.out LB.out) i hil
      have x0 : wr.cell? ⟨w.heap.size, i, none⟩ = some (.int .i64 0) := (blk_cell L1.out i).trans (decA_get l i h13)
      have f0 := blk_frozen L1.out i
      have N1 := Aside0.mk (show (wr.setCell ⟨w.heap.size, i, none⟩ (.int .i64 (wrap64 (l.getD i 0)))).heap[w.heap.size]? = some (.cells (decA l (i + 1)) 41 (0, 0)) from blk_set L1.out i _)
      have N2 := Aside0.mk (blk_far (p := ⟨w.heap.size, i, none⟩) L2.out (by show w.heap.size + 1 ≠ w.heap.size; omega) (.int .i64 (wrap64 (l.getD i 0))))
      have NB := Aside0.mk (below_set (g := w.heap.size) (j := i) (v := .int .i64 (wrap64 (l.getD i 0))) LB.out (Nat.le_refl _))
      obtain ⟨z, hz⟩ : ∃ z, l.getD i 0 = z := ⟨_, rfl⟩
      rw [hz] at y0 N1 N2 NB
      have HJ := Aside0.mk (show i + 1 ≤ 13 ∧ i < 13 from ⟨h13, h13⟩)
      clear hz h13 hil
      go_wp2
      go_roundg (13 - (i + 1))
      case measure => have := HJ.out; have := HI.out; omega
      case rel => exact ⟨i + 1, by first | rfl | rw [e2], ⟨HJ.out.1, rfl⟩, N1, N2, NB⟩
    · obtain rfl : i = 13 := by have := HI.out.1; omega
      have M1 := L1.out
      rw [decA_all] at M1
      obtain ⟨d0, hd0⟩ : ∃ x, wrap64 (l.getD 0 0) = x := ⟨_, rfl⟩
      obtain ⟨d1, hd1⟩ : ∃ x, wrap64 (l.getD 1 0) = x := ⟨_, rfl⟩
      obtain ⟨d2, hd2⟩ : ∃ x, wrap64 (l.getD 2 0) = x := ⟨_, rfl⟩
      obtain ⟨d3, hd3⟩ : ∃ x, wrap64 (l.getD 3 0) = x := ⟨_, rfl⟩
      obtain ⟨d4, hd4⟩ : ∃ x, wrap64 (l.getD 4 0) = x := ⟨_, rfl⟩
      obtain ⟨d5, hd5⟩ : ∃ x, wrap64 (l.getD 5 0) = x := ⟨_, rfl⟩
      obtain ⟨d6, hd6⟩ : ∃ x, wrap64 (l.getD 6 0) = x := ⟨_, rfl⟩
      obtain ⟨d7, hd7⟩ : ∃ x, wrap64 (l.getD 7 0) = x := ⟨_, rfl⟩
      obtain ⟨d8, hd8⟩ : ∃ x, wrap64 (l.getD 8 0) = x := ⟨_, rfl⟩
      obtain ⟨d9, hd9⟩ : ∃ x, wrap64 (l.getD 9 0) = x := ⟨_, rfl⟩
      obtain ⟨d10, hd10⟩ : ∃ x, wrap64 (l.getD 10 0) = x := ⟨_, rfl⟩
      obtain ⟨d11, hd11⟩ : ∃ x, wrap64 (l.getD 11 0) = x := ⟨_, rfl⟩
      obtain ⟨d12, hd12⟩ : ∃ x, wrap64 (l.getD 12 0) = x := ⟨_, rfl⟩
      rw [hd0, hd1, hd2, hd3, hd4, hd5, hd6, hd7, hd8, hd9, hd10, hd11, hd12] at M1 HC
      have E0 := Aside0.mk hd0
      have E1 := Aside0.mk hd1
      have E2 := Aside0.mk hd2
      have E3 := Aside0.mk hd3
      have E4 := Aside0.mk hd4
      have E5 := Aside0.mk hd5
      have E6 := Aside0.mk hd6
      have E7 := Aside0.mk hd7
      have E8 := Aside0.mk hd8
      have E9 := Aside0.mk hd9
      have E10 := Aside0.mk hd10
      have E11 := Aside0.mk hd11
      have E12 := Aside0.mk hd12
      have K1 := Aside0.mk M1
      have x0 : wr.cell? ⟨w.heap.size, 0, none⟩ = some (.int .i64 d0) := (blk_cell K1.out 0).trans rfl
      have x1 : wr.cell? ⟨w.heap.size, 1, none⟩ = some (.int .i64 d1) := (blk_cell K1.out 1).trans rfl
      have x2 : wr.cell? ⟨w.heap.size, 2, none⟩ = some (.int .i64 d2) := (blk_cell K1.out 2).trans rfl
      have x3 : wr.cell? ⟨w.heap.size, 3, none⟩ = some (.int .i64 d3) := (blk_cell K1.out 3).trans rfl
      have x4 : wr.cell? ⟨w.heap.size, 4, none⟩ = some (.int .i64 d4) := (blk_cell K1.out 4).trans rfl
      have x5 : wr.cell? ⟨w.heap.size, 5, none⟩ = some (.int .i64 d5) := (blk_cell K1.out 5).trans rfl
      have x6 : wr.cell? ⟨w.heap.size, 6, none⟩ = some (.int .i64 d6) := (blk_cell K1.out 6).trans rfl
      have x7 : wr.cell? ⟨w.heap.size, 7, none⟩ = some (.int .i64 d7) := (blk_cell K1.out 7).trans rfl
      have x8 : wr.cell? ⟨w.heap.size, 8, none⟩ = some (.int .i64 d8) := (blk_cell K1.out 8).trans rfl
      have x9 : wr.cell? ⟨w.heap.size, 9, none⟩ = some (.int .i64 d9) := (blk_cell K1.out 9).trans rfl
      have x10 : wr.cell? ⟨w.heap.size, 10, none⟩ = some (.int .i64 d10) := (blk_cell K1.out 10).trans rfl
      have x11 : wr.cell? ⟨w.heap.size, 11, none⟩ = some (.int .i64 d11) := (blk_cell K1.out 11).trans rfl
      have x12 : wr.cell? ⟨w.heap.size, 12, none⟩ = some (.int .i64 d12) := (blk_cell K1.out 12).trans rfl
      have hc0 : wr.cell? ⟨w.heap.size + 1, 0, none⟩ = some (.int .i64 0) := (blk_cell L2.out 0).trans rfl
      clear h13 M1 hd0 hd1 hd2 hd3 hd4 hd5 hd6 hd7 hd8 hd9 hd10 hd11 hd12
      go_upto_region 9 with (go_at_call 39; refine (HC.out _).mono ?_; rintro e wc ⟨he, hb⟩; have R1 := Aside0.mk (blk_below K1.out hb); have R2 := Aside0.mk (blk_below L2.out hb); have RB := Aside0.mk (below_then LB.out LB.out.size hb); clear hb; simp only [evEnd] at he; subst he)
      clear hc0 x0 x1 x2 x3 x4 x5 x6 x7 x8 x9 x10 x11 x12
      have x0 : wc.cell? ⟨w.heap.size, 0, none⟩ = some (.int .i64 d0) := (blk_cell R1.out 0).trans rfl
      have x1 : wc.cell? ⟨w.heap.size, 1, none⟩ = some (.int .i64 d1) := (blk_cell R1.out 1).trans rfl
      have x2 : wc.cell? ⟨w.heap.size, 2, none⟩ = some (.int .i64 d2) := (blk_cell R1.out 2).trans rfl
      have x3 : wc.cell? ⟨w.heap.size, 3, none⟩ = some (.int .i64 d3) := (blk_cell R1.out 3).trans rfl
      have x4 : wc.cell? ⟨w.heap.size, 4, none⟩ = some (.int .i64 d4) := (blk_cell R1.out 4).trans rfl
      have x5 : wc.cell? ⟨w.heap.size, 5, none⟩ = some (.int .i64 d5) := (blk_cell R1.out 5).trans rfl
      have x6 : wc.cell? ⟨w.heap.size, 6, none⟩ = some (.int .i64 d6) := (blk_cell R1.out 6).trans rfl
      have x7 : wc.cell? ⟨w.heap.size, 7, none⟩ = some (.int .i64 d7) := (blk_cell R1.out 7).trans rfl
      have x8 : wc.cell? ⟨w.heap.size, 8, none⟩ = some (.int .i64 d8) := (blk_cell R1.out 8).trans rfl
      have x9 : wc.cell? ⟨w.heap.size, 9, none⟩ = some (.int .i64 d9) := (blk_cell R1.out 9).trans rfl
      have x10 : wc.cell? ⟨w.heap.size, 10, none⟩ = some (.int .i64 d10) := (blk_cell R1.out 10).trans rfl
      have x11 : wc.cell? ⟨w.heap.size, 11, none⟩ = some (.int .i64 d11) := (blk_cell R1.out 11).trans rfl
      have x12 : wc.cell? ⟨w.heap.size, 12, none⟩ = some (.int .i64 d12) := (blk_cell R1.out 12).trans rfl
      have fz : ∀ j, wc.frozen? ⟨w.heap.size, j, none⟩ = false := fun j => blk_frozen R1.out j
      go_wp2_with ((with_reducible refine gate_store (t := 41 ) (p := 2) rfl ?_); refine seg.list rfl rfl 41 (.tmp 2) _ rfl 41 w.heap.size 0 #[.int .i64 d0, .int .i64 d1, .int .i64 d2, .int .i64 d3, .int .i64 d4, .int .i64 d5, .int .i64 d6, .int .i64 d7, .int .i64 d8, .int .i64 d9, .int .i64 d10, .int .i64 d11, .int .i64 d12] #[.int .i64 d0, .int .i64 d1, .int .i64 d2, .int .i64 d3, .int .i64 d4, .int .i64 d5, .int .i64 d6, .int .i64 d7, .int .i64 d8, .int .i64 d9, .int .i64 d10, .int .i64 d11, .int .i64 d12] [.int .i64 d0, .int .i64 d1, .int .i64 d2, .int .i64 d3, .int .i64 d4, .int .i64 d5, .int .i64 d6, .int .i64 d7, .int .i64 d8, .int .i64 d9, .int .i64 d10, .int .i64 d11, .int .i64 d12] rfl rfl (by kernel_rfl) (by simp [Value.oneCell']) R1.out (by simp) rfl ?_; intro w9 bx hgr; have S1 := Aside0.mk bx; have S2 := Aside0.mk (seg.far R2.out hgr (by omega)); have SB := Aside0.mk (seg.below RB.out hgr (Nat.le_refl _)); have hc9 : w9.cell? ⟨w.heap.size + 1, 0, none⟩ = some (.int .i64 0) := (blk_cell S2.out 0).trans rfl; have hf9 := blk_frozen S2.out 0; clear bx hgr)
      have T2 := Aside0.mk (show (w9.setCell ⟨w.heap.size + 1, 0, none⟩ (.int .i64 0)).heap[w.heap.size + 1]? = some (.cells #[.int .i64 0] 32 (0, 0)) from blk_set S2.out 0 _)
      have T1 := Aside0.mk (blk_far (p := ⟨w.heap.size + 1, 0, none⟩) S1.out (by show w.heap.size ≠ w.heap.size + 1; omega) (.int .i64 0))
      have TB := Aside0.mk (below_set (g := w.heap.size + 1) (j := 0) (v := .int .i64 0) SB.out (Nat.le_succ _))
      refine leaves_cons (f := 42) (args := #[.pointer (some ⟨w.heap.size + 1, 0, none⟩), .pointer (some ⟨w.heap.size, 0, none⟩)]) (by simp) (by simp [go_sem]) ?_
      refine (dec1.idle _ (w.heap.size + 1) w.heap.size _ (Nat.ne_of_lt (Nat.lt_succ_self _)) T2.out T1.out rfl).mono ?_
      rintro e u' w2 ⟨rfl, rfl, hg, hv, hB⟩
      have hc : w2.cell? ⟨w.heap.size + 1, 0, none⟩ = some (.int .i64 0) := (blk_cell hg 0).trans rfl
      have v0_ : w2.cell? ⟨w.heap.size, 0, none⟩ = some (.int .i64 d0) := (blk_cell hv 0).trans rfl
      have v1_ : w2.cell? ⟨w.heap.size, 1, none⟩ = some (.int .i64 d1) := (blk_cell hv 1).trans rfl
      have v2_ : w2.cell? ⟨w.heap.size, 2, none⟩ = some (.int .i64 d2) := (blk_cell hv 2).trans rfl
      have v3_ : w2.cell? ⟨w.heap.size, 3, none⟩ = some (.int .i64 d3) := (blk_cell hv 3).trans rfl
      have v4_ : w2.cell? ⟨w.heap.size, 4, none⟩ = some (.int .i64 d4) := (blk_cell hv 4).trans rfl
      have v5_ : w2.cell? ⟨w.heap.size, 5, none⟩ = some (.int .i64 d5) := (blk_cell hv 5).trans rfl
      have v6_ : w2.cell? ⟨w.heap.size, 6, none⟩ = some (.int .i64 d6) := (blk_cell hv 6).trans rfl
      have v7_ : w2.cell? ⟨w.heap.size, 7, none⟩ = some (.int .i64 d7) := (blk_cell hv 7).trans rfl
      have v8_ : w2.cell? ⟨w.heap.size, 8, none⟩ = some (.int .i64 d8) := (blk_cell hv 8).trans rfl
      have v9_ : w2.cell? ⟨w.heap.size, 9, none⟩ = some (.int .i64 d9) := (blk_cell hv 9).trans rfl
      have v10_ : w2.cell? ⟨w.heap.size, 10, none⟩ = some (.int .i64 d10) := (blk_cell hv 10).trans rfl
      have v11_ : w2.cell? ⟨w.heap.size, 11, none⟩ = some (.int .i64 d11) := (blk_cell hv 11).trans rfl
      have v12_ : w2.cell? ⟨w.heap.size, 12, none⟩ = some (.int .i64 d12) := (blk_cell hv 12).trans rfl
      have hbb := hB w.heap.size (Nat.le_succ _) (Nat.le_refl _) w rfl TB.out
      simp [Leaves, settle, results, Try.results17, go_sem, hc, hu41, v0_, v1_, v2_, v3_, v4_, v5_, v6_, v7_, v8_, v9_, v10_, v11_, v12_, -List.getD_eq_getElem?_getD, E0.out, E1.out, E2.out, E3.out, E4.out, E5.out, E6.out, E7.out, E8.out, E9.out, E10.out, E11.out, E12.out]
      exact hbb
/-! ### book_Decode: function 17 (by hand) -/
def book_Decode.f (l0 : List Int) : Option (Int × Int × Int × Int × Int × Int × Int × Int × Int × Int × Int × Int × Int × Int) := some (if l0.length = 13 then (if evOk (wrap64 (l0.getD 0 0)) (wrap64 (l0.getD 1 0)) (wrap64 (l0.getD 2 0)) (wrap64 (l0.getD 3 0)) (wrap64 (l0.getD 4 0)) (wrap64 (l0.getD 5 0)) (wrap64 (l0.getD 6 0)) (wrap64 (l0.getD 7 0)) (wrap64 (l0.getD 8 0)) (wrap64 (l0.getD 9 0)) (wrap64 (l0.getD 10 0)) (wrap64 (l0.getD 11 0)) (wrap64 (l0.getD 12 0)) = true then ((wrap64 (l0.getD 0 0)), (wrap64 (l0.getD 1 0)), (wrap64 (l0.getD 2 0)), (wrap64 (l0.getD 3 0)), (wrap64 (l0.getD 4 0)), (wrap64 (l0.getD 5 0)), (wrap64 (l0.getD 6 0)), (wrap64 (l0.getD 7 0)), (wrap64 (l0.getD 8 0)), (wrap64 (l0.getD 9 0)), (wrap64 (l0.getD 10 0)), (wrap64 (l0.getD 11 0)), (wrap64 (l0.getD 12 0)), 0) else (0, 0, 0, 0, 0, 0, 0, 0, 0, 0, 0, 0, 0, 5)) else (0, 0, 0, 0, 0, 0, 0, 0, 0, 0, 0, 0, 0, 1))
theorem book_Decode.calls (A0 : Option Addr) (c0 : Nat) (l0 : List Int) (r1 : Int) (r2 : Int) (r3 : Int) (r4 : Int) (r5 : Int) (r6 : Int) (r7 : Int) (r8 : Int) (r9 : Int) (r10 : Int) (r11 : Int) (r12 : Int) (r13 : Int) (r14 : Int) (w : World) (hr0 : Kd.C (Kd.int .u32) w A0 l0.length l0) (hc0 : l0.length ≤ c0) (h : book_Decode.f l0 = some (r1, r2, r3, r4, r5, r6, r7, r8, r9, r10, r11, r12, r13, r14)) :
    Calls Try.prog 17 #[.slice A0 l0.length c0] w fun e w' => e = .returned (.tuple #[.agg #[.int .i64 r1, .int .i64 r2, .int .i64 r3, .int .i64 r4, .int .i64 r5, .int .i64 r6, .int .i64 r7, .int .i64 r8, .int .i64 r9, .int .i64 r10, .int .i64 r11, .int .i64 r12, .int .i64 r13], .int .i64 r14]) ∧ Below w.heap.size w w' := by
  unfold book_Decode.f at h
  have h := Option.some.inj h
  split at h
  · rename_i hl
    split at h
    · rename_i ho
      simp only [Prod.mk.injEq] at h
      obtain ⟨rfl, rfl, rfl, rfl, rfl, rfl, rfl, rfl, rfl, rfl, rfl, rfl, rfl, rfl⟩ := h
      exact book_Decode.yes w A0 c0 l0 hl hr0 ho
    · rename_i ho
      simp only [Prod.mk.injEq] at h
      obtain ⟨rfl, rfl, rfl, rfl, rfl, rfl, rfl, rfl, rfl, rfl, rfl, rfl, rfl, rfl⟩ := h
      exact book_Decode.no w A0 c0 l0 hl hr0 (by simpa using ho)
  · rename_i hl
    simp only [Prod.mk.injEq] at h
    obtain ⟨rfl, rfl, rfl, rfl, rfl, rfl, rfl, rfl, rfl, rfl, rfl, rfl, rfl, rfl⟩ := h
    exact book_Decode.size w A0 c0 l0 hl

end Go.Proofs.Ytojnaalncgofhaa.PBookDecodes
