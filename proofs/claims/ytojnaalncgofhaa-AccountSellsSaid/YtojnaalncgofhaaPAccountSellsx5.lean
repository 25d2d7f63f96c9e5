-- written by this session's program wip/xp/xprint.py (it drives the kit's print and adds to it)
import Derived.Test.YtojnaalncgofhaaPAccountSellsx0
import Derived.Test.YtojnaalncgofhaaPAccountSellsx3
import Derived.Test.YtojnaalncgofhaaPAccountSellsx4
namespace Go.Proofs.Ytojnaalncgofhaa.PAccountSells
open Go.RowKit Go.Proofs.YtojnaalncgofhaaW.PrintWords Go.Proofs.YtojnaalncgofhaaW.PrintLast Go.Proofs.YtojnaalncgofhaaW.PrintMore
attribute [local go_sem] max2_int min2_int max_two min_two max_three min_three max_four min_four   -- for this text's walks alone
set_option linter.unusedVariables false
set_option linter.unusedSimpArgs false

/-! ### tariff_pieces -/
/-- What the iterator itself does to the world: block f (its captured variable, or a new one) alone. -/
structure tariff_pieces.Turn (f : Nat) (W W' : World) : Prop where
  os : W'.os = W.os
  tape : W'.tape = W.tape
  output : W'.output = W.output
  size : W.heap.size ≤ W'.heap.size
  block : ∀ k, k < W.heap.size → k ≠ f → W'.heap[k]? = W.heap[k]?
theorem tariff_pieces.Turn.refl (f : Nat) (W : World) : tariff_pieces.Turn f W W := ⟨rfl, rfl, rfl, Nat.le_refl _, fun _ _ _ => rfl⟩
theorem tariff_pieces.Turn.trans {f : Nat} {a b c : World} (h : tariff_pieces.Turn f a b) (k : tariff_pieces.Turn f b c) : tariff_pieces.Turn f a c :=
  ⟨k.os.trans h.os, k.tape.trans h.tape, k.output.trans h.output, Nat.le_trans h.size k.size, fun i hi hf => (k.block i (Nat.lt_of_lt_of_le hi h.size) hf).trans (h.block i hi hf)⟩
theorem tariff_pieces.Turn.below {f : Nat} {a b : World} (h : Below a.heap.size a b) : tariff_pieces.Turn f a b := ⟨h.os, h.tape, h.output, h.size, fun k hk _ => h.block k hk⟩
theorem tariff_pieces.Turn.set (f j : Nat) (W : World) (u : Value) : tariff_pieces.Turn f W (W.setCell ⟨f, j, none⟩ u) := ⟨rfl, rfl, rfl, by simp [World.setCell], fun k _ hf => Below.heap_setCell W ⟨f, j, none⟩ u k hf⟩
def tariff_pieces.iter {σ : Type} (body : σ → Int → Int → Option (Bool × σ)) (t : List S99) : Nat → Nat → Int → σ → Option σ
  | 0, _, _, s => some s
  | d + 1, i, fr, s => if (rd_T99 t (i : Int)).f0 ≤ fr then tariff_pieces.iter body t d (i + 1) fr s else
    (body s (wrap64 ((rd_T99 t (i : Int)).f0 - fr)) (rd_T99 t (i : Int)).f1).bind fun b => if b.1 = true then tariff_pieces.iter body t d (i + 1) (rd_T99 t (i : Int)).f0 b.2 else some b.2
attribute [local go_sem] Oper.semAt_some
set_option maxHeartbeats 4000000 in
set_option maxRecDepth 100000 in
theorem tariff_pieces.walk {σ : Type} (n : Nat) (hn : 1 ≤ n) (body : σ → Int → Int → Option (Bool × σ)) (t : List S99) (r s0 : σ) (J Jx : σ → World → Prop) (l tb fb : Nat) (A : Option Addr) (c : Nat) (fr0 : Int) (hlen : t.length ≤ 1152921504606846976) (W : World)
    (hJ : ∀ s W W', J s W → tariff_pieces.Turn fb W W' → J s W')
    (hJ0 : ∀ s W, J s W → Kd.C k99 W A t.length t ∧ W.heap[tb]? = some (.cells #[.slice A t.length c] 25 (0, 0)))
    (hY : ∀ s x y b W, J s W → body s x y = some b → YieldAt Fence.wide (n - 1) Try.prog l #[.int .i64 x, .int .i64 y] W fun e W' => e = .returned (.bool b.1) ∧ ((b.1 = true ∧ J b.2 W' ∧ W'.heap[fb]? = W.heap[fb]? ∧ (∀ (k : Nat) (cs : Array Value), W.heap[k]? = some (Obj.cells cs 99 (0, 0)) → W'.heap[k]? = W.heap[k]?)) ∨ (b.1 = false ∧ Jx b.2 W')))
    (h0 : J s0 W) (hF : W.heap[fb]? = some (.cells #[.int .i64 fr0] 3 (0, 0))) (hr : tariff_pieces.iter body t t.length 0 fr0 s0 = some r) :
    CallsIn Fence.wide n Try.prog 76 #[.func (.yield l) #[] #[], .pointer (some ⟨tb, 0, none⟩), .pointer (some ⟨fb, 0, none⟩)] W fun e W' => (∃ v, e = .returned v) ∧ (J r W' ∨ Jx r W') := by
  have hu125 := Try.underlying99
  refine callsIn_of_wp Try.func76 rfl trivial ?_ rfl
  simp only [Try.ntmps76, List.size_toArray, List.length_cons, List.length_nil, Nat.reduceAdd, Nat.reduceSub, Array.replicate_succ, Array.replicate_zero, List.push_toArray, List.append_toArray, List.nil_append, List.cons_append]
  have HT := (hJ0 _ _ h0).2
  have ct : W.cell? ⟨tb, 0, none⟩ = some (.slice A t.length c) := (blk_cell HT 0).trans rfl
  have HT := Aside0.mk HT
  gi_wp2
  gi_loopw [8] (fun p wr => ∃ (i d : Nat) (fr : Int) (s : σ), p = .int .i64 (i : Int) ∧ i + d = t.length ∧ J s wr ∧ wr.heap[fb]? = some (.cells #[.int .i64 fr] 3 (0, 0)) ∧ tariff_pieces.iter body t d i fr s = some r)
    (fun p wr => t.length - (intOf p).toNat)
  case atStart =>
    exact ⟨0, t.length, fr0, s0, rfl, by omega, h0, hF, hr⟩
  case round =>
    obtain ⟨i, d, fr, s, rfl, hi, hj, hf, hrun⟩ := hrel
    cases d with
    | zero =>
      simp only [tariff_pieces.iter] at hrun
      obtain rfl := Option.some.inj hrun
      have HJ := Aside0.mk hj
      have hlt : ¬ ((i : Int) < (t.length : Int)) := by omega
      clear hf hj h0 hr hF hJ hJ0 hY
      gi_wp2
      go_end0
      exact ⟨⟨_, rfl⟩, Or.inl HJ.out⟩
    | succ d =>
      have hlt : (i : Int) < (t.length : Int) := by omega
      obtain ⟨hC, htb⟩ := hJ0 s wr hj
      obtain ⟨ad, rfl, e1, e2⟩ := at_T99 hC (i : Int) (by omega) hlt
      have ef : wr.cell? ⟨fb, 0, none⟩ = some (.int .i64 fr) := (blk_cell hf 0).trans rfl
      have ef2 : ∀ o, (wr.alloc o).cell? ⟨fb, 0, none⟩ = some (.int .i64 fr) := fun o => (blk_cell (blk_alloc hf o) 0).trans rfl
      simp only [Int.toNat_natCast] at e1 e2
      simp only [tariff_pieces.iter] at hrun
      have HJ2 := hJ s wr (wr.alloc (.cells #[.int .i64 (rd_T99 t (i : Int)).f0, .int .i64 (rd_T99 t (i : Int)).f1] 99)) hj (tariff_pieces.Turn.below ((Below.refl _ wr).alloc (Nat.le_refl _) _))
      have HF := Aside0.mk (blk_alloc hf (.cells #[.int .i64 (rd_T99 t (i : Int)).f0, .int .i64 (rd_T99 t (i : Int)).f1] 99))
      have HN := World.alloc_heap_new wr (.cells #[.int .i64 (rd_T99 t (i : Int)).f0, .int .i64 (rd_T99 t (i : Int)).f1] 99)
      have hfl := blk_lt hf
      have HL := Aside0.mk hfl
      by_cases hle : (rd_T99 t (i : Int)).f0 ≤ fr
      · rw [if_pos hle] at hrun
        have HR := Aside0.mk hrun
        have HJ := Aside0.mk HJ2
        clear hC hf hj h0 hr hF htb hrun hY hJ hJ0 HJ2 HN hfl
        gi_wp2
        go_roundw
        case rel => exact ⟨i + 1, d, fr, s, by first | rfl | (simp; done) | (rw [IntWalk.wrap64_in _ ⟨by omega, by omega⟩]; rfl), by omega, HJ.out, HF.out, HR.out⟩
        case measure => simp [intOf, IntWalk.wrap64_in _ (show -9223372036854775808 ≤ (i : Int) + 1 ∧ (i : Int) + 1 ≤ 9223372036854775807 by omega)]; omega
      · rw [if_neg hle] at hrun
        obtain ⟨⟨b, s'⟩, hb, hrun⟩ := Option.bind_eq_some_iff.mp hrun
        obtain ⟨fn, tmps, assign, bdy, hy, hR⟩ := hY s _ _ _ _ HJ2 hb
        have HR := Aside0.mk hrun
        have HJJ := Aside0.mk hJ
        have HN := Aside0.mk HN
        clear hC hf hj h0 hr hF htb hrun hY hJ hJ0 HJ2 hfl
        gi_wp2
        refine hR.mono ?_
        clear hR hy
        rintro e W' ⟨rfl, (⟨hb1, hj', hf', hk'⟩ | ⟨hb1, hx'⟩)⟩
        · subst hb1
          have k1 := (hk' _ _ HN.out).trans HN.out
          have k2 := hf'.trans HF.out
          have q1 : W'.cell? ⟨wr.heap.size, 0, none⟩ = some (.int .i64 (rd_T99 t (i : Int)).f0) := (blk_cell k1 0).trans rfl
          have q2 : W'.cell? ⟨wr.heap.size, 1, none⟩ = some (.int .i64 (rd_T99 t (i : Int)).f1) := (blk_cell k1 1).trans rfl
          have q3 : W'.cell? ⟨fb, 0, none⟩ = some (.int .i64 fr) := (blk_cell k2 0).trans rfl
          have q4 : W'.frozen? ⟨fb, 0, none⟩ = false := blk_frozen k2 0
          have HJ' := Aside0.mk (HJJ.out s' W' (W'.setCell ⟨fb, 0, none⟩ (.int .i64 (rd_T99 t (i : Int)).f0)) hj' (tariff_pieces.Turn.set fb 0 W' _))
          have HF' := Aside0.mk (blk_set k2 0 (.int .i64 (rd_T99 t (i : Int)).f0))
          clear hj' hf' hk' k1 k2
          gi_wp2
          go_roundw
          case rel => exact ⟨i + 1, d, (rd_T99 t (i : Int)).f0, s', by first | rfl | (simp; done) | (rw [IntWalk.wrap64_in _ ⟨by omega, by omega⟩]; rfl), by omega, HJ'.out, HF'.out.trans (by simp), HR.out⟩
          case measure => simp [intOf, IntWalk.wrap64_in _ (show -9223372036854775808 ≤ (i : Int) + 1 ∧ (i : Int) + 1 ≤ 9223372036854775807 by omega)]; omega
        · subst hb1
          have HX := Aside0.mk hx'
          have e := Option.some.inj HR.out
          clear hx'
          gi_wp2
          refine bodyPost_ret (results_none rfl _ _ _) rfl ?_
          exact ⟨⟨_, rfl⟩, Or.inr (e ▸ HX.out)⟩
def tariff_pieces.post {σ : Type} (fb : Nat) (I : σ → World → Prop) (b : Bool × σ) (W : World) : Exit → Act → World → Prop
  | .normal, _, W' => b.1 = true ∧ I b.2 W' ∧ KeepsOthers W W' ∧ W'.heap[fb]? = W.heap[fb]? ∧ ∀ (k : Nat) (cs : Array Value), W.heap[k]? = some (Obj.cells cs 99 (0, 0)) → W'.heap[k]? = W.heap[k]?
  | .exit id, _, W' => id = 0 ∧ b.1 = false ∧ I b.2 W' ∧ KeepsOthers W W'
  | _, _, _ => False
theorem tariff_pieces.turned (W : World) (f : Nat) (o : Obj) : tariff_pieces.Turn f W (W.putObj f o) :=
  ⟨rfl, rfl, rfl, by simp, fun k _ hf => World.putObj_heap_other hf⟩
set_option maxHeartbeats 4000000 in
set_option maxRecDepth 100000 in
theorem tariff_pieces.range {σ : Type} (body : σ → Int → Int → Option (Bool × σ)) (t : List S99) (r s0 : σ) (I : σ → World → Prop) (tb fb : Nat) (A : Option Addr) (c : Nat) (fr0 : Int) (hlen : t.length ≤ 1152921504606846976) {g : Operand} {ps : Array Tmp} {assign code : Code} {Q : Exit → Act → World → Prop} {a : Act} {w : World} (a1 : Int → Int → Act)
    (hg : a.eval g = .func (.func 76) #[] #[.pointer (some ⟨tb, 0, none⟩), .pointer (some ⟨fb, 0, none⟩)]) (hps : ps.size = 2)
    (hI0 : ∀ s W, I s W → Kd.C k99 W A t.length t ∧ W.heap[tb]? = some (.cells #[.slice A t.length c] 25 (0, 0)))
    (hIT : ∀ s f W W', (f = fb ∨ f = w.heap.size ∨ f = w.heap.size + 1) → I s W → tariff_pieces.Turn f W W' → I s W')
    (h0 : I s0 w) (hF : w.heap[fb]? = some (.cells #[.int .i64 fr0] 3 (0, 0))) (hr : tariff_pieces.iter body t t.length 0 fr0 s0 = some r)
    (hassign : ∀ (l : Nat) (x y : Int) (W : World) (K : Act → World → Prop), K (a1 x y) W → assign.wpIn (Fence.wide.inRound l) 1 Try.prog (Exit.then K (fun _ _ _ => False)) { tmps := (ps.zip #[.int .i64 x, .int .i64 y]).foldl (fun t (p, v) => t.setIfInBounds p v) a.tmps, defers := [] } W)
    (hbody : ∀ (l : Nat) (s : σ) (x y : Int) (b : Bool × σ) (W : World), I s W → body s x y = some b → w.heap.size + 2 ≤ W.heap.size → code.wpIn (Fence.wide.inRound l) 1 Try.prog (tariff_pieces.post fb I b W) (a1 x y) W)
    (hend : ∀ W, I r W → W.heap[w.heap.size]? = some (.deferred (some [])) → w.heap.size + 2 ≤ W.heap.size → Q .normal { a with defers := { target := .collected w.heap.size, args := #[] } :: a.defers } W)
    (hstop : ∀ W, I r W → W.heap[w.heap.size]? = some (.deferred (some [])) → w.heap.size + 2 ≤ W.heap.size → (Code.exit 0).wpIn Fence.wide 3 Try.prog Q { a with defers := { target := .collected w.heap.size, args := #[] } :: a.defers } W) :
    (Code.rangeFunc g ps assign code).wpIn Fence.wide 3 Try.prog Q a w := by
  refine wpIn_rangeFunc ?_
  intro fn _
  obtain ⟨rec, hrec⟩ : ∃ rec : LoopState → Option Code → Loop, rec = fun st pe => { state := st, pending := pe, fn, tmps := a.tmps, params := ps, assign, body := code, defers := w.heap.size } := ⟨_, rfl⟩
  obtain ⟨W1, hW1⟩ : ∃ W1, (w.alloc (.deferred (some []))).alloc (.loop (rec .ready none)) = W1 := ⟨_, rfl⟩
  have hsz : W1.heap.size = w.heap.size + 2 := by rw [← hW1]; simp
  have hL1 : W1.heap[w.heap.size + 1]? = some (.loop (rec .ready none)) := by
    rw [← hW1]; have := World.alloc_heap_new (w.alloc (.deferred (some []))) (.loop (rec .ready none)); rwa [World.size_alloc] at this
  have hD1 : W1.heap[w.heap.size]? = some (.deferred (some [])) := by
    rw [← hW1]; exact (Below.heap_alloc _ _ _ (by simp)).trans (World.alloc_heap_new w _)
  have hB1 : Below w.heap.size w W1 := by
    rw [← hW1]; exact ((Below.refl _ w).alloc (Nat.le_refl _) _).alloc (by simp) _
  have hfb : fb < w.heap.size := blk_lt hF
  have hI1 : I s0 W1 := hIT s0 fb w W1 (Or.inl rfl) h0 (tariff_pieces.Turn.below hB1)
  refine ⟨w.heap.size + 1, [{ target := .collected w.heap.size, args := #[] }], W1, { target := .fn (.func 76) #[.pointer (some ⟨tb, 0, none⟩), .pointer (some ⟨fb, 0, none⟩)], args := #[.func (.yield (w.heap.size + 1)) #[] #[]] }, W1, 76,
    #[.func (.yield (w.heap.size + 1)) #[] #[], .pointer (some ⟨tb, 0, none⟩), .pointer (some ⟨fb, 0, none⟩)], W1, ?_, ?_, fun _ _ => trivial, ?_, fun _ => by decide, ?_⟩
  · rw [← hW1, hrec]; exact run_enterLoop_outer _ _ _ _ _
  · simp only [resolve, hg]
    simp [go_sem]
  · simp [invoke, go_sem, enters_of Try.func76 (by kernel_rfl) rfl]
  · refine (tariff_pieces.walk 2 (by decide) body t r s0
      (fun s W => I s W ∧ W.heap[w.heap.size + 1]? = some (.loop (rec .ready none)) ∧ W.heap[w.heap.size]? = some (.deferred (some [])))
      (fun s W => I s W ∧ W.heap[w.heap.size + 1]? = some (.loop (rec .done (some (.exit 0)))) ∧ W.heap[w.heap.size]? = some (.deferred (some [])))
      (w.heap.size + 1) tb fb A c fr0 hlen W1 ?_ (fun s W h => hI0 s W h.1) ?_ ⟨hI1, hL1, hD1⟩ ((hB1.block fb hfb).trans hF) hr).mono ?_
    · rintro s X Y ⟨h1, h2, h3⟩ ht
      exact ⟨hIT s fb X Y (Or.inl rfl) h1 ht, (ht.block _ (blk_lt h2) (by omega)).trans h2, (ht.block _ (blk_lt h3) (by omega)).trans h3⟩
    · rintro s x y b W ⟨h1, h2, h3⟩ hb
      have hlt := blk_lt h2
      have hy := run_yield (P := Try.prog) (args := #[.int .i64 x, .int .i64 y]) h2 (by rw [hrec]; simp [hps])
      rw [hrec] at hy
      refine ⟨fn, _, assign, code, hy, roundIn_of_wpIn trivial (hassign _ x y W _ ⟨_, run_beginRound h2 (by rw [hrec]), ?_⟩)⟩
      obtain ⟨W2, hW2⟩ : ∃ W2, W.putObj (w.heap.size + 1) (.loop { rec .ready none with state := .busy }) = W2 := ⟨_, rfl⟩
      have h4 : W2.heap[w.heap.size + 1]? = some (.loop { rec .ready none with state := .busy }) := by rw [← hW2]; exact World.putObj_heap_same hlt
      have h5 : ∀ k, k ≠ w.heap.size + 1 → W2.heap[k]? = W.heap[k]? := by intro k hk; rw [← hW2]; exact World.putObj_heap_other hk
      have h6 : I s W2 := by rw [← hW2]; exact hIT s _ W _ (Or.inr (Or.inr rfl)) h1 (tariff_pieces.turned W _ _)
      rw [hW2]
      refine wpIn_mono (hbody _ s x y b W2 h6 hb (by rw [← hW2]; simp; omega)) ?_
      have fin : ∀ (jump : Option Code) (W3 : World), KeepsOthers W2 W3 →
          (Instr.endRound (w.heap.size + 1) jump).run Try.prog W3 = .ok (.bool jump.isNone) (W3.putObj (w.heap.size + 1) (.loop (rec (if jump.isNone then .ready else .done) jump))) ∧ w.heap.size + 1 < W3.heap.size ∧ W3.heap[w.heap.size]? = some (.deferred (some [])) := by
        intro jump W3 hk3
        have hl3 := hk3.same _ _ h4 rfl
        have := run_endRound (P := Try.prog) jump hl3
        rw [hrec] at this ⊢
        exact ⟨this, blk_lt hl3, (hk3.same _ _ ((h5 _ (by omega)).trans h3) rfl)⟩
      rintro e a3 W3 hp
      cases e with
      | normal =>
        obtain ⟨p1, p2, p3, p4, p5⟩ := hp
        obtain ⟨q1, q2, q3⟩ := fin none W3 p3
        refine ⟨_, _, q1, by rw [p1]; rfl, Or.inl ⟨p1, ⟨hIT _ _ _ _ (Or.inr (Or.inr rfl)) p2 (tariff_pieces.turned W3 _ _), World.putObj_heap_same q2, (World.putObj_heap_other (by omega)).trans q3⟩, ?_, ?_⟩⟩
        · exact (World.putObj_heap_other (by omega)).trans (p4.trans (h5 _ (by omega)))
        · intro k cs hk
          have hne : k ≠ w.heap.size + 1 := by rintro rfl; rw [h2] at hk; cases hk
          exact (World.putObj_heap_other hne).trans ((p5 k cs ((h5 k hne).trans hk)).trans (h5 k hne))
      | exit id =>
        obtain ⟨rfl, p1, p2, p3⟩ := hp
        obtain ⟨q1, q2, q3⟩ := fin (some (.exit 0)) W3 p3
        exact ⟨_, _, q1, by rw [p1]; rfl, Or.inr ⟨p1, hIT _ _ _ _ (Or.inr (Or.inr rfl)) p2 (tariff_pieces.turned W3 _ _), World.putObj_heap_same q2, (World.putObj_heap_other (by omega)).trans q3⟩⟩
      | ret => exact hp.elim
      | goto t => exact hp.elim
      | panic ch => exact hp.elim
      | outgrown => exact hp.elim
    · rintro e W2 ⟨⟨v, rfl⟩, (⟨h1, h2, h3⟩ | ⟨h1, h2, h3⟩)⟩
      · have hl := blk_lt h2
        exact ⟨none, _, by have := run_endLoop (P := Try.prog) h2 (by rw [hrec]; simp); rw [hrec] at this; exact this, hend _ (hIT _ _ _ _ (Or.inr (Or.inr rfl)) h1 (tariff_pieces.turned W2 _ _)) ((World.putObj_heap_other (by omega)).trans h3) (by simp; omega)⟩
      · have hl := blk_lt h2
        exact ⟨some (.exit 0), _, by have := run_endLoop (P := Try.prog) h2 (by rw [hrec]; simp); rw [hrec] at this; exact this, hstop _ (hIT _ _ _ _ (Or.inr (Or.inr rfl)) h1 (tariff_pieces.turned W2 _ _)) ((World.putObj_heap_other (by omega)).trans h3) (by simp; omega)⟩
theorem tariff_pieces.R_append_in {F : Fence} {n : Nat} {P : Program} {ops : Array Oper} {rest : List Oper} {o : Oper} {a : Act} {Q : Exit → Act → World → Prop} {α : Type} (d : Kd α) {w0 W : World} (base : Nat) (hgd : o.guard = none) (s x : Operand) (t e : TypeId) (z : Value) (bytes : Nat)
    (ho : o.op = .call { callee := .builtin .append, args := #[s, x], argTypes := #[t, t] })
    (ht : P.underlying t = some (.slice e)) (hinfo : (P.info? e).map (fun i => (i.zero, i.size, i.bytes)) = some (some z, d.sz, bytes)) (hz : z.cells.size = d.sz) (hs0 : 0 < d.sz) (hb0 : 0 < bytes)
    (v : Value) (xs : List α) (p : α) (cs : List Value) (ok : Nat → Prop) (hs : a.eval s = v) (hx : a.eval x = .slice (some ⟨W.heap.size, 0, none⟩) 1 1) (hp : d.M W base (fun _ => False) p cs) (hfresh : ∀ k, W.heap.size ≤ k → ok k)
    (HO : d.R e W base ok v xs) (HB : Below base w0 W) (hbase : base ≤ W.heap.size) (hl : (xs.length + 1) * bytes ≤ 140737488355328)
    (h : ∀ v1 w1, d.R e w1 base ok v1 (xs ++ [p]) → Below base w0 w1 → W.grownBy w1 v.ownBlock → wpListIn F n P ops Q rest (a.put o.dst v1) w1) :
    wpListIn F n P ops Q (o :: rest) a (W.alloc (.cells cs.toArray e)) := by
  obtain ⟨h0, inner, hown, hr⟩ := HO
  obtain ⟨i0, hi, hzz⟩ := Option.map_eq_some_iff.1 hinfo
  simp only [Prod.mk.injEq] at hzz
  obtain ⟨hz0, hz1, hz2⟩ := hzz
  have hys := d.K_len (d.K_of_M hp)
  have hlen : xs.length + 1 ≤ 140737488355328 := Nat.le_trans (Nat.le_mul_of_pos_right _ hb0) hl
  refine wpListIn_append_own_at _ hgd s x t ho base e i0 z d.sz bytes ht hi hz0 hz1 hz2 hz hs0 v xs.length inner hs (hown.alloc _) ⟨W.heap.size, 0, none⟩ 1 1 cs hx (by rw [hys]; simp) (by simpa using World.news_of_block (cs := cs.toArray) (t := e) (fr := (0, 0)) (heap_alloc_new W (.cells cs.toArray e))) (d.K_one (d.K_of_M hp)) (by simp only [maxLen]; omega) hl (by simp; omega) ?_
  intro v1 w1 hown1 hg _ hat
  have hg1 := World.grownBy.trans (World.grownBy_alloc W _ _) hg
  refine h v1 w1 (Kd.R_appended h0 hr hp (fun _ hk => hk.elim) hfresh hown1 hg1 ?_) ((HB.alloc hbase _).grown hg (by simp; omega) (own_base hown)) hg1
  rcases hat with hat | hat
  · exact .inl hat
  · exact .inr ⟨_, hat, by simp⟩
theorem tariff_pieces.made (t : Nat) (A : Option Addr) (c : Nat) (fr : Int) (w : World) :
    Calls Try.prog 68 #[.slice A t c, .int .i64 fr] w fun e w' => e = .returned (.func (.func 76) #[] #[.pointer (some ⟨w.heap.size, 0, none⟩), .pointer (some ⟨w.heap.size + 1, 0, none⟩)]) ∧ w' = (w.alloc (.cells #[.slice A t c] 25)).alloc (.cells #[.int .i64 fr] 3) := by
  go_enter Try.func68, Try.ntmps68
  go_wp2
  go_ret
  exact ⟨rfl, rfl⟩
section
variable {F : Fence} {n : Nat} {P : Program} {ops : Array Oper} {md : Region.Mode} {C : World → Prop}
def tariff_pieces.noDefer (o : Oper) : Bool := match o.op with | .defer _ => false | _ => true
theorem tariff_pieces.noDefer_spec {o : Oper} (h : tariff_pieces.noDefer o = true) : ∀ c, o.op ≠ .defer c := by
  intro c e
  unfold tariff_pieces.noDefer at h
  rw [e] at h
  cases h
/-- An operation that reads, in a round of a range over a function: as outside. -/
theorem tariff_pieces.rq_oper {o : Oper} {a : Act} {K : Act → Prop} {K' : Act → World → Prop} {Q' : Exit → Act → World → Prop} {w : World} (hd : ∀ c, o.op ≠ .defer c) (hw : C w) (h : ∀ a w', C w' → K a → K' a w')
    (ha : o.askedIn F P a C) (hh : o.quietIn F n P a C K) : o.wpIn F n P a w K' Q' := by
  obtain ⟨v, hv, hk⟩ := hh
  have hat := hv w hw
  unfold Oper.quietAtIn at hat
  unfold Oper.wpIn
  refine ⟨ha w hw, ?_⟩
  rw [Oper.semAt_plain F _ _ hd]
  generalize (execOp a.eval o).run P w = res at *
  match res with
  | .ok (.value u) w' => obtain ⟨rfl, rfl⟩ := hat; exact h _ _ hw hk
  | .ok .skip w' => obtain ⟨rfl, rfl⟩ := hat; exact h _ _ hw hk
  | .ok (.enter f args) w' =>
    obtain ⟨rfl, hn, hc⟩ := hat
    refine ⟨hn, hc.mono ?_⟩
    rintro e w'' ⟨rfl, hw''⟩
    exact h _ _ hw'' hk
  | .ok (.defer d) w' => exact absurd hat (by simp [Oper.quietUponIn])
  | .ok (.row r args) w' => exact absurd hat (by simp [Oper.quietUponIn])
  | .ok (.round l f t s b) w' => exact absurd hat (by simp [Oper.quietUponIn])
  | .halt x w' => exact absurd hat (by simp [Oper.quietUponIn])
theorem tariff_pieces.rq_op {i : Nat} {a : Act} {K : Act → Prop} {K' : Act → World → Prop} {Q' : Exit → Act → World → Prop} {w : World} (hD : ∀ o ∈ ops.toList, tariff_pieces.noDefer o = true) (hC : C w) (h : ∀ a w', C w' → K a → K' a w')
    (hh : qOpIn F n P ops C i K a) : wpOpIn F n P ops Q' i K' a w := by
  unfold qOpIn at hh
  unfold wpOpIn
  cases ho : ops[i]? with
  | none => simp only [ho] at hh; exact h _ _ hC hh
  | some o =>
    simp only [ho] at hh
    obtain ⟨ha, hh⟩ := hh
    have hm : o ∈ ops.toList := by have := Array.mem_of_getElem? ho; exact Array.mem_toList_iff.2 this
    by_cases hw : Region.wanted o (yielded ops a.tmps) = true
    · simp only [hw, if_true] at hh ⊢
      exact tariff_pieces.rq_oper (tariff_pieces.noDefer_spec (hD o hm)) hC h ha hh
    · simp only [hw] at hh ⊢
      exact ⟨ha w hC, h _ _ hC hh⟩
theorem tariff_pieces.rq_any {Q : Act → Prop} {Q' : Exit → Act → World → Prop} (hD : ∀ o ∈ ops.toList, tariff_pieces.noDefer o = true) (hQ : ∀ a w, C w → Q a → Q' .normal a w) : ∀ (fuel : Nat) (listed : Array Bool) (a : Act) (w : World), C w →
    wpAnyQIn F n P md ops C Q fuel listed a → wpAnyIn F n P md ops Q' fuel listed a w
  | 0, _, _, _, hw, h => ⟨h.1, hQ _ _ hw h.2⟩
  | fuel + 1, _, _, _, hw, h => ⟨fun e => hQ _ _ hw (h.1 e), fun i hi => tariff_pieces.rq_op hD hw (fun a' w' hw' => tariff_pieces.rq_any hD hQ fuel _ a' w' hw') (h.2 i hi)⟩
theorem tariff_pieces.rq_region {id : Nat} {Q : Exit → Act → World → Prop} {a : Act} {w : World} {l : List Oper} (hd : l.all tariff_pieces.noDefer = true) (hm : P.follows .mixedOrders = true) (hB : Region.lexB .any l.toArray = true)
    (h : wpQuietIn F n P l.toArray (fun w' => ∃ n, w' = w.drewN n) (fun a' => ∀ w', (∃ n, w' = w.drewN n) → Q .normal a' w') l a) : (Code.region id l.toArray true).wpIn F n P Q a w := by
  simp only [Region.lexB, Bool.and_eq_true] at hB
  refine wpIn_region_any hm (tariff_pieces.rq_any (C := fun w' => ∃ n, w' = w.drewN n) (Q := fun a' => ∀ w', (∃ n, w' = w.drewN n) → Q .normal a' w') (fun o ho => List.all_eq_true.1 hd o (by simpa using ho)) (fun _ w' hw' h => h w' hw') _ _ _ _ ⟨1, rfl⟩ ?_)
  have := wpAnyQIn_lex (F := F) (n := n) (C := fun w' => ∃ n, w' = w.drewN n) (md := .any) hB.1 l 0 (Array.replicate l.toArray.size false) a (by simp) (by simpa using hB.2) h
  simpa using this
end

/-! ### tariff_Most -/
attribute [local go_sem] Oper.semAt_some
def tariff_Most.body (money : Int) (s : Int × Int) (x y : Int) : Option (Bool × (Int × Int)) := if y = 0 then none else
  some (!decide (mn (mn x (wrap64 (Int.tdiv (wrap64 (money - s.2)) y))) (wrap64 (2097151 - s.1)) < x), (wrap64 (s.1 + mn (mn x (wrap64 (Int.tdiv (wrap64 (money - s.2)) y))) (wrap64 (2097151 - s.1))), wrap64 (s.2 + wrap64 (mn (mn x (wrap64 (Int.tdiv (wrap64 (money - s.2)) y))) (wrap64 (2097151 - s.1)) * y))))
def tariff_Most.I (w : World) (T : Nat) (A0 : Option Addr) (c0 n : Nat) (money : Int) (s : Int × Int) (W : World) : Prop := W.heap[w.heap.size]? = some (.cells #[.int .i64 money] 3 (0, 0)) ∧ W.heap[w.heap.size + 1]? = some (.cells #[.int .i64 s.1] 3 (0, 0)) ∧ W.heap[w.heap.size + 2]? = some (.cells #[.int .i64 s.2] 3 (0, 0)) ∧ W.heap[T]? = some (.cells #[.slice A0 n c0] 25 (0, 0)) ∧ Below w.heap.size w W
def tariff_Most.f (l0 : List S99) (a1 a2 : Int) : Option (Int × Int × Int) := (tariff_asked.f l0 a1 0).bind fun e => if e = 0 then (if a2 < 0 then some (0, 0, 2) else if a2 > 1000000000000 then some (0, 0, 2) else (tariff_pieces.iter (tariff_Most.body a2) l0 l0.length 0 a1 (0, 0)).bind fun s => some (s.1, s.2, 0)) else some (0, 0, e)
theorem tariff_Most.two (W : World) (g h : Nat) (x y u v : Value) (hne : g ≠ h) (h1 : W.heap[g]? = some (.cells #[x] 3 (0, 0))) (h2 : W.heap[h]? = some (.cells #[y] 3 (0, 0))) : ((W.setCell ⟨g, 0, none⟩ u).setCell ⟨h, 0, none⟩ v).cell? ⟨g, 0, none⟩ = some u ∧ ((W.setCell ⟨g, 0, none⟩ u).setCell ⟨h, 0, none⟩ v).cell? ⟨h, 0, none⟩ = some v :=
  ⟨(blk_cell (blk_far (blk_set h1 0 u) (p := ⟨h, 0, none⟩) hne v) 0).trans (by simp), (blk_cell (blk_set (blk_far h2 (p := ⟨g, 0, none⟩) hne.symm u) 0 v) 0).trans (by simp)⟩
set_option maxHeartbeats 4000000 in
set_option maxRecDepth 100000 in
theorem tariff_Most.calls (A0 : Option Addr) (c0 : Nat) (l0 : List S99) (a1 a2 : Int) (r1 r2 r3 : Int) (w : World) (hr0 : Kd.C k99 w A0 l0.length l0) (hc0 : l0.length ≤ c0) (h : tariff_Most.f l0 a1 a2 = some (r1, r2, r3)) :
    Calls Try.prog 54 #[.slice A0 l0.length c0, .int .i64 a1, .int .i64 a2] w fun e w' => e = .returned (.tuple #[.int .i64 r1, .int .i64 r2, .int .i64 r3]) ∧ Below w.heap.size w w' := by
  have HR0 := Aside0.mk hr0
  have HC0 := Aside0.mk hc0
  unfold tariff_Most.f at h
  replace h := Option.bind_eq_some_iff.mp h
  obtain ⟨q, hq, h⟩ := h
  have HQ := Aside0.mk hq
  clear hr0 hc0 hq
  refine (callsIn_wide (n := 3)).1 (callsIn_of_wp_marks Try.func54 rfl trivial (wpIn_wide.2 ?_) rfl)
  simp only [Try.ntmps54, List.size_toArray, List.length_cons, List.length_nil, Nat.reduceAdd, Nat.reduceSub, Array.replicate_succ, Array.replicate_zero, List.push_toArray, List.append_toArray, List.nil_append, List.cons_append]
  have b5 := blk_alloc (blk_alloc (World.alloc_heap_new w (.cells #[.int .i64 a2] 3)) (.cells #[.int .i64 0] 3)) (.cells #[.int .i64 0] 3)
  have b6 := blk_alloc (World.alloc_heap_new (w.alloc (.cells #[.int .i64 a2] 3)) (.cells #[.int .i64 0] 3)) (.cells #[.int .i64 0] 3)
  have b7 := World.alloc_heap_new ((w.alloc (.cells #[.int .i64 a2] 3)).alloc (.cells #[.int .i64 0] 3)) (.cells #[.int .i64 0] 3)
  rw [World.size_alloc] at b6
  rw [World.size_alloc, World.size_alloc] at b7
  have B5 := Aside0.mk b5
  have B6 := Aside0.mk b6
  have B7 := Aside0.mk b7
  have HB0 := Aside0.mk ((((Below.refl w.heap.size w).alloc (Nat.le_refl _) (.cells #[.int .i64 a2] 3)).alloc (by simp) (.cells #[.int .i64 0] 3)).alloc (by simp; omega) (.cells #[.int .i64 0] 3))
  clear b5 b6 b7
  by_cases c1 : q = 0
  case neg =>
    rw [if_neg c1] at h
    replace h := Prod.mk.inj (Option.some.inj h)
    obtain ⟨rfl, h⟩ := h
    replace h := Prod.mk.inj h
    obtain ⟨rfl, rfl⟩ := h
    have t1 : (q != 0) = true := bne_iff_ne.mpr c1
    go_wp2_with (first | (go_at_call 67; refine (tariff_asked.calls A0 c0 l0 a1 0 q _ (Kd.C_below HR0.1 ((((Below.refl w.heap.size w).alloc (Nat.le_refl _) _).alloc (by simp) _).alloc (by simp; omega) _)) HC0.1 HQ.1).mono ?_; rintro e w1 ⟨rfl, hb1⟩; have b5 := (hb1.block _ (blk_lt B5.1)).trans B5.1; have b6 := (hb1.block _ (blk_lt B6.1)).trans B6.1; have b7 := (hb1.block _ (blk_lt B7.1)).trans B7.1; have e5 : w1.cell? ⟨w.heap.size, 0, none⟩ = some (.int .i64 a2) := (blk_cell b5 0).trans rfl; have e6 : w1.cell? ⟨w.heap.size + 1, 0, none⟩ = some (.int .i64 0) := (blk_cell b6 0).trans rfl; have e7 : w1.cell? ⟨w.heap.size + 1 + 1, 0, none⟩ = some (.int .i64 0) := (blk_cell b7 0).trans rfl; have f6 := blk_frozen b6 0; have f7 := blk_frozen b7 0; have e67 : ∀ u, (w1.setCell ⟨w.heap.size + 1, 0, none⟩ u).cell? ⟨w.heap.size + 1 + 1, 0, none⟩ = some (.int .i64 0) := fun u => (blk_cell (blk_far b7 (p := ⟨w.heap.size + 1, 0, none⟩) (by simp) u) 0).trans rfl; have f67 : ∀ u, (w1.setCell ⟨w.heap.size + 1, 0, none⟩ u).frozen? ⟨w.heap.size + 1 + 1, 0, none⟩ = false := fun u => blk_frozen (blk_far b7 (p := ⟨w.heap.size + 1, 0, none⟩) (by simp) u) 0; have e76 : ∀ u, (w1.setCell ⟨w.heap.size + 1 + 1, 0, none⟩ u).cell? ⟨w.heap.size + 1, 0, none⟩ = some (.int .i64 0) := fun u => (blk_cell (blk_far b6 (p := ⟨w.heap.size + 1 + 1, 0, none⟩) (by simp) u) 0).trans rfl; have f76 : ∀ u, (w1.setCell ⟨w.heap.size + 1 + 1, 0, none⟩ u).frozen? ⟨w.heap.size + 1, 0, none⟩ = false := fun u => blk_frozen (blk_far b6 (p := ⟨w.heap.size + 1 + 1, 0, none⟩) (by simp) u) 0; have HB1 := Aside0.mk (HB0.1.trans (hb1.mono (Nat.le_trans HB0.1.size (Nat.le_refl _)))); replace B5 := Aside0.mk b5; replace B6 := Aside0.mk b6; replace B7 := Aside0.mk b7; clear hb1 b5 b6 b7))
    obtain ⟨z1, z2⟩ := tariff_Most.two w1 (w.heap.size + 1) (w.heap.size + 1 + 1) _ _ (.int .i64 0) (.int .i64 0) (by omega) B6.1 B7.1
    exact ⟨.tuple #[.int .i64 0, .int .i64 0, .int .i64 q], by simp [results, Try.f54, go_sem, z1, z2], rfl, (HB1.1.setCell (p := ⟨w.heap.size + 1, 0, none⟩) (by simp) _).setCell (p := ⟨w.heap.size + 1 + 1, 0, none⟩) (by simp; omega) _⟩
  subst c1
  rw [if_pos rfl] at h
  by_cases c2 : a2 < 0
  · rw [if_pos c2] at h
    replace h := Prod.mk.inj (Option.some.inj h)
    obtain ⟨rfl, h⟩ := h
    replace h := Prod.mk.inj h
    obtain ⟨rfl, rfl⟩ := h
    go_wp2_with (first | (go_at_call 67; refine (tariff_asked.calls A0 c0 l0 a1 0 0 _ (Kd.C_below HR0.1 ((((Below.refl w.heap.size w).alloc (Nat.le_refl _) _).alloc (by simp) _).alloc (by simp; omega) _)) HC0.1 HQ.1).mono ?_; rintro e w1 ⟨rfl, hb1⟩; have b5 := (hb1.block _ (blk_lt B5.1)).trans B5.1; have b6 := (hb1.block _ (blk_lt B6.1)).trans B6.1; have b7 := (hb1.block _ (blk_lt B7.1)).trans B7.1; have e5 : w1.cell? ⟨w.heap.size, 0, none⟩ = some (.int .i64 a2) := (blk_cell b5 0).trans rfl; have e6 : w1.cell? ⟨w.heap.size + 1, 0, none⟩ = some (.int .i64 0) := (blk_cell b6 0).trans rfl; have e7 : w1.cell? ⟨w.heap.size + 1 + 1, 0, none⟩ = some (.int .i64 0) := (blk_cell b7 0).trans rfl; have f6 := blk_frozen b6 0; have f7 := blk_frozen b7 0; have e67 : ∀ u, (w1.setCell ⟨w.heap.size + 1, 0, none⟩ u).cell? ⟨w.heap.size + 1 + 1, 0, none⟩ = some (.int .i64 0) := fun u => (blk_cell (blk_far b7 (p := ⟨w.heap.size + 1, 0, none⟩) (by simp) u) 0).trans rfl; have f67 : ∀ u, (w1.setCell ⟨w.heap.size + 1, 0, none⟩ u).frozen? ⟨w.heap.size + 1 + 1, 0, none⟩ = false := fun u => blk_frozen (blk_far b7 (p := ⟨w.heap.size + 1, 0, none⟩) (by simp) u) 0; have e76 : ∀ u, (w1.setCell ⟨w.heap.size + 1 + 1, 0, none⟩ u).cell? ⟨w.heap.size + 1, 0, none⟩ = some (.int .i64 0) := fun u => (blk_cell (blk_far b6 (p := ⟨w.heap.size + 1 + 1, 0, none⟩) (by simp) u) 0).trans rfl; have f76 : ∀ u, (w1.setCell ⟨w.heap.size + 1 + 1, 0, none⟩ u).frozen? ⟨w.heap.size + 1, 0, none⟩ = false := fun u => blk_frozen (blk_far b6 (p := ⟨w.heap.size + 1 + 1, 0, none⟩) (by simp) u) 0; have HB1 := Aside0.mk (HB0.1.trans (hb1.mono (Nat.le_trans HB0.1.size (Nat.le_refl _)))); replace B5 := Aside0.mk b5; replace B6 := Aside0.mk b6; replace B7 := Aside0.mk b7; clear hb1 b5 b6 b7))
    obtain ⟨z1, z2⟩ := tariff_Most.two w1 (w.heap.size + 1) (w.heap.size + 1 + 1) _ _ (.int .i64 0) (.int .i64 0) (by omega) B6.1 B7.1
    exact ⟨.tuple #[.int .i64 0, .int .i64 0, .int .i64 2], by simp [results, Try.f54, go_sem, z1, z2], rfl, (HB1.1.setCell (p := ⟨w.heap.size + 1, 0, none⟩) (by simp) _).setCell (p := ⟨w.heap.size + 1 + 1, 0, none⟩) (by simp; omega) _⟩
  rw [if_neg c2] at h
  by_cases c3 : a2 > 1000000000000
  · rw [if_pos c3] at h
    replace h := Prod.mk.inj (Option.some.inj h)
    obtain ⟨rfl, h⟩ := h
    replace h := Prod.mk.inj h
    obtain ⟨rfl, rfl⟩ := h
    have c3d : decide (1000000000000 < a2) = true := decide_eq_true c3
    go_wp2_with (first | (go_at_call 67; refine (tariff_asked.calls A0 c0 l0 a1 0 0 _ (Kd.C_below HR0.1 ((((Below.refl w.heap.size w).alloc (Nat.le_refl _) _).alloc (by simp) _).alloc (by simp; omega) _)) HC0.1 HQ.1).mono ?_; rintro e w1 ⟨rfl, hb1⟩; have b5 := (hb1.block _ (blk_lt B5.1)).trans B5.1; have b6 := (hb1.block _ (blk_lt B6.1)).trans B6.1; have b7 := (hb1.block _ (blk_lt B7.1)).trans B7.1; have e5 : w1.cell? ⟨w.heap.size, 0, none⟩ = some (.int .i64 a2) := (blk_cell b5 0).trans rfl; have e6 : w1.cell? ⟨w.heap.size + 1, 0, none⟩ = some (.int .i64 0) := (blk_cell b6 0).trans rfl; have e7 : w1.cell? ⟨w.heap.size + 1 + 1, 0, none⟩ = some (.int .i64 0) := (blk_cell b7 0).trans rfl; have f6 := blk_frozen b6 0; have f7 := blk_frozen b7 0; have e67 : ∀ u, (w1.setCell ⟨w.heap.size + 1, 0, none⟩ u).cell? ⟨w.heap.size + 1 + 1, 0, none⟩ = some (.int .i64 0) := fun u => (blk_cell (blk_far b7 (p := ⟨w.heap.size + 1, 0, none⟩) (by simp) u) 0).trans rfl; have f67 : ∀ u, (w1.setCell ⟨w.heap.size + 1, 0, none⟩ u).frozen? ⟨w.heap.size + 1 + 1, 0, none⟩ = false := fun u => blk_frozen (blk_far b7 (p := ⟨w.heap.size + 1, 0, none⟩) (by simp) u) 0; have e76 : ∀ u, (w1.setCell ⟨w.heap.size + 1 + 1, 0, none⟩ u).cell? ⟨w.heap.size + 1, 0, none⟩ = some (.int .i64 0) := fun u => (blk_cell (blk_far b6 (p := ⟨w.heap.size + 1 + 1, 0, none⟩) (by simp) u) 0).trans rfl; have f76 : ∀ u, (w1.setCell ⟨w.heap.size + 1 + 1, 0, none⟩ u).frozen? ⟨w.heap.size + 1, 0, none⟩ = false := fun u => blk_frozen (blk_far b6 (p := ⟨w.heap.size + 1 + 1, 0, none⟩) (by simp) u) 0; have HB1 := Aside0.mk (HB0.1.trans (hb1.mono (Nat.le_trans HB0.1.size (Nat.le_refl _)))); replace B5 := Aside0.mk b5; replace B6 := Aside0.mk b6; replace B7 := Aside0.mk b7; clear hb1 b5 b6 b7))
    obtain ⟨z1, z2⟩ := tariff_Most.two w1 (w.heap.size + 1) (w.heap.size + 1 + 1) _ _ (.int .i64 0) (.int .i64 0) (by omega) B6.1 B7.1
    exact ⟨.tuple #[.int .i64 0, .int .i64 0, .int .i64 2], by simp [results, Try.f54, go_sem, z1, z2], rfl, (HB1.1.setCell (p := ⟨w.heap.size + 1, 0, none⟩) (by simp) _).setCell (p := ⟨w.heap.size + 1 + 1, 0, none⟩) (by simp; omega) _⟩
  rw [if_neg c3] at h
  replace h := Option.bind_eq_some_iff.mp h
  obtain ⟨s, hs, h⟩ := h
  replace h := Prod.mk.inj (Option.some.inj h)
  obtain ⟨rfl, h⟩ := h
  replace h := Prod.mk.inj h
  obtain ⟨rfl, rfl⟩ := h
  have HS := Aside0.mk hs
  have c2d : decide (a2 < 0) = false := decide_eq_false c2
  have c3d : decide (1000000000000 < a2) = false := decide_eq_false c3
  clear hs
  go_wp2_with (first | (go_at_call 67; refine (tariff_asked.calls A0 c0 l0 a1 0 0 _ (Kd.C_below HR0.1 ((((Below.refl w.heap.size w).alloc (Nat.le_refl _) _).alloc (by simp) _).alloc (by simp; omega) _)) HC0.1 HQ.1).mono ?_; rintro e w1 ⟨rfl, hb1⟩; have b5 := (hb1.block _ (blk_lt B5.1)).trans B5.1; have b6 := (hb1.block _ (blk_lt B6.1)).trans B6.1; have b7 := (hb1.block _ (blk_lt B7.1)).trans B7.1; have e5 : w1.cell? ⟨w.heap.size, 0, none⟩ = some (.int .i64 a2) := (blk_cell b5 0).trans rfl; have e6 : w1.cell? ⟨w.heap.size + 1, 0, none⟩ = some (.int .i64 0) := (blk_cell b6 0).trans rfl; have e7 : w1.cell? ⟨w.heap.size + 1 + 1, 0, none⟩ = some (.int .i64 0) := (blk_cell b7 0).trans rfl; have f6 := blk_frozen b6 0; have f7 := blk_frozen b7 0; have e67 : ∀ u, (w1.setCell ⟨w.heap.size + 1, 0, none⟩ u).cell? ⟨w.heap.size + 1 + 1, 0, none⟩ = some (.int .i64 0) := fun u => (blk_cell (blk_far b7 (p := ⟨w.heap.size + 1, 0, none⟩) (by simp) u) 0).trans rfl; have f67 : ∀ u, (w1.setCell ⟨w.heap.size + 1, 0, none⟩ u).frozen? ⟨w.heap.size + 1 + 1, 0, none⟩ = false := fun u => blk_frozen (blk_far b7 (p := ⟨w.heap.size + 1, 0, none⟩) (by simp) u) 0; have e76 : ∀ u, (w1.setCell ⟨w.heap.size + 1 + 1, 0, none⟩ u).cell? ⟨w.heap.size + 1, 0, none⟩ = some (.int .i64 0) := fun u => (blk_cell (blk_far b6 (p := ⟨w.heap.size + 1 + 1, 0, none⟩) (by simp) u) 0).trans rfl; have f76 : ∀ u, (w1.setCell ⟨w.heap.size + 1 + 1, 0, none⟩ u).frozen? ⟨w.heap.size + 1, 0, none⟩ = false := fun u => blk_frozen (blk_far b6 (p := ⟨w.heap.size + 1 + 1, 0, none⟩) (by simp) u) 0; have HB1 := Aside0.mk (HB0.1.trans (hb1.mono (Nat.le_trans HB0.1.size (Nat.le_refl _)))); replace B5 := Aside0.mk b5; replace B6 := Aside0.mk b6; replace B7 := Aside0.mk b7; clear hb1 b5 b6 b7) | (go_at_call 68; refine (tariff_pieces.made _ _ _ _ _).mono ?_; rintro e w2 ⟨rfl, rfl⟩))
  have GU := B7.1
  have hu := blk_lt GU
  have hlen : l0.length ≤ 1152921504606846976 := by
    have hq := HQ.1
    unfold tariff_asked.f tariff_Check.f at hq
    rcases Nat.lt_or_ge 8 l0.length with hc | hc
    · rw [if_neg (by omega), if_pos (by omega)] at hq
      simp at hq
    · omega
  have HLEN := Aside0.mk hlen
  clear hlen
  have G0 : ((w1.alloc (.cells #[.slice A0 l0.length c0] 25)).alloc (.cells #[.int .i64 a1] 3)).heap.size = w1.heap.size + 2 := by simp
  have GB := (HB1.1.alloc HB1.1.size (.cells #[.slice A0 l0.length c0] 25)).alloc (Nat.le_trans HB1.1.size (by simp)) (.cells #[.int .i64 a1] 3)
  have G5 := blk_alloc (blk_alloc B5.1 (.cells #[.slice A0 l0.length c0] 25)) (.cells #[.int .i64 a1] 3)
  have G6 := blk_alloc (blk_alloc B6.1 (.cells #[.slice A0 l0.length c0] 25)) (.cells #[.int .i64 a1] 3)
  have G7 := blk_alloc (blk_alloc B7.1 (.cells #[.slice A0 l0.length c0] 25)) (.cells #[.int .i64 a1] 3)
  have GT := blk_alloc (World.alloc_heap_new w1 (.cells #[.slice A0 l0.length c0] 25)) (.cells #[.int .i64 a1] 3)
  have GF := World.alloc_heap_new (w1.alloc (.cells #[.slice A0 l0.length c0] 25)) (.cells #[.int .i64 a1] 3)
  rw [World.size_alloc] at GF
  obtain ⟨W0, hW0⟩ : ∃ W0, (w1.alloc (.cells #[.slice A0 l0.length c0] 25)).alloc (.cells #[.int .i64 a1] 3) = W0 := ⟨_, rfl⟩
  rw [hW0] at G0 GB G5 G6 G7 GT GF ⊢
  refine wpIn_wide.1 (tariff_pieces.range (tariff_Most.body a2) l0 s (0, 0) (tariff_Most.I w w1.heap.size A0 c0 l0.length a2)
    w1.heap.size (w1.heap.size + 1) A0 c0 a1 HLEN.1 (fun x y => { tmps := #[.slice A0 l0.length c0, .int .i64 a1, .int .i64 a2, undef, undef, .pointer (some ⟨w.heap.size, 0, none⟩), .pointer (some ⟨w.heap.size + 1, 0, none⟩), .pointer (some ⟨w.heap.size + 1 + 1, 0, none⟩), .int .i64 0, .int .i64 0, .int .i64 x, .int .i64 y, undef, .slice A0 l0.length c0, .int .i64 a1, .int .i64 0, .int .i64 0, .bool false, undef, .int .i64 a2, .bool false, .bool false, .int .i64 a2, .bool false, .bool false, .slice A0 l0.length c0, .int .i64 a1, .func (.func 76) #[] #[.pointer (some ⟨w1.heap.size, 0, none⟩), .pointer (some ⟨w1.heap.size + 1, 0, none⟩)], .int .i64 x, .int .i64 y, undef, undef, undef, undef, undef, undef, undef, undef, undef, undef, undef, undef, undef, undef, undef, undef, undef, undef, undef, undef, undef, undef], defers := [] }) rfl rfl ?tb ?turn ?start GF HS.1 ?assign ?body ?done ?stop)
  case tb =>
    rintro s W ⟨h1, h2, h3, h4, h5⟩
    exact ⟨Kd.C_below HR0.1 h5, h4⟩
  case turn =>
    rintro s f X Y hf ⟨h1, h2, h3, h4, h5⟩ ht
    have hne : ∀ k, k ≤ w1.heap.size → k ≠ f := by omega
    refine ⟨(ht.block _ (blk_lt h1) (hne _ (by omega))).trans h1, (ht.block _ (blk_lt h2) (hne _ (by omega))).trans h2, (ht.block _ (blk_lt h3) (hne _ (by omega))).trans h3, (ht.block _ (blk_lt h4) (hne _ (by omega))).trans h4, ht.os.trans h5.os, ht.tape.trans h5.tape, ht.output.trans h5.output, Nat.le_trans h5.size ht.size, fun k hk => (ht.block k (Nat.lt_of_lt_of_le hk h5.size) (hne _ (by omega))).trans (h5.block k hk)⟩
  case start => exact ⟨G5, G6, G7, GT, GB⟩
  case assign =>
    intro l x y W K hK
    gi_wp2
    exact hK
  case body =>
    rintro l ⟨un, pc⟩ x y b W ⟨h1, h2, h3, h4, h5⟩ hb hsz
    have e5 : W.cell? ⟨w.heap.size, 0, none⟩ = some (.int .i64 a2) := (blk_cell h1 0).trans rfl
    have e6 : W.cell? ⟨w.heap.size + 1, 0, none⟩ = some (.int .i64 un) := (blk_cell h2 0).trans rfl
    have e7 : W.cell? ⟨w.heap.size + 1 + 1, 0, none⟩ = some (.int .i64 pc) := (blk_cell h3 0).trans rfl
    simp only [tariff_Most.body] at hb
    by_cases c4 : y = 0
    · rw [if_pos c4] at hb; cases hb
    rw [if_neg c4] at hb
    obtain ⟨m, hm⟩ : ∃ m, mn (mn x (wrap64 (Int.tdiv (wrap64 (a2 - pc)) y))) (wrap64 (2097151 - un)) = m := ⟨_, rfl⟩
    rw [hm] at hb
    have hb := Option.some.inj hb
    subst hb
    have H1 := Aside0.mk h1
    have H2 := Aside0.mk h2
    have H3 := Aside0.mk h3
    have H4 := Aside0.mk h4
    have H5 := Aside0.mk h5
    have HSZ := Aside0.mk hsz
    clear h1 h2 h3 h4 h5 hsz GU G5 G6 G7 GT GF GB hW0
    have hmm : (if wrap64 (2097151 - un) < (if wrap64 (Int.tdiv (wrap64 (a2 - pc)) y) < x then wrap64 (Int.tdiv (wrap64 (a2 - pc)) y) else x) then wrap64 (2097151 - un) else (if wrap64 (Int.tdiv (wrap64 (a2 - pc)) y) < x then wrap64 (Int.tdiv (wrap64 (a2 - pc)) y) else x)) = m := by rw [← hm]; rfl
    clear hm
    gi_wp2
    refine tariff_pieces.rq_region (by kernel_rfl) (by kernel_rfl) (by kernel_rfl) ?_
    repeat (gi_big_quiet_step (fail))
    refine wpQuietIn_nil ?_
    intro _ hw'
    obtain ⟨nq, hw''⟩ := hw'
    subst hw''
    obtain ⟨V, hV⟩ : ∃ V, W.drewN nq = V := ⟨_, rfl⟩
    have K1 := blk_drewN H1.1 nq
    have K2 := blk_drewN H2.1 nq
    have K3 := blk_drewN H3.1 nq
    have K4 := blk_drewN H4.1 nq
    have K5 : Below w.heap.size w V := by rw [← hV]; exact ⟨H5.1.os, H5.1.tape, H5.1.output, H5.1.size, H5.1.block⟩
    have KH : V.heap = W.heap := by rw [← hV]; rfl
    rw [hV] at K1 K2 K3 K4 ⊢
    clear hV
    clear e5 e6 e7
    have e6 : V.cell? ⟨w.heap.size + 1, 0, none⟩ = some (.int .i64 un) := (blk_cell K2 0).trans rfl
    have f6 := blk_frozen K2 0
    have e7 : ∀ u, (V.setCell ⟨w.heap.size + 1, 0, none⟩ u).cell? ⟨w.heap.size + 1 + 1, 0, none⟩ = some (.int .i64 pc) := fun u => (blk_cell (blk_far K3 (p := ⟨w.heap.size + 1, 0, none⟩) (by simp) u) 0).trans rfl
    have f7 : ∀ u, (V.setCell ⟨w.heap.size + 1, 0, none⟩ u).frozen? ⟨w.heap.size + 1 + 1, 0, none⟩ = false := fun u => blk_frozen (blk_far K3 (p := ⟨w.heap.size + 1, 0, none⟩) (by simp) u) 0
    have HK := Aside0.mk (And.intro K1 (And.intro K2 (And.intro K3 (And.intro K4 (And.intro K5 KH)))))
    clear K1 K2 K3 K4 K5 KH
    have fin : tariff_Most.I w w1.heap.size A0 c0 l0.length a2 (wrap64 (un + m), wrap64 (pc + wrap64 (m * y))) ((V.setCell ⟨w.heap.size + 1, 0, none⟩ (.int .i64 (wrap64 (un + m)))).setCell ⟨w.heap.size + 1 + 1, 0, none⟩ (.int .i64 (wrap64 (pc + wrap64 (m * y))))) ∧ KeepsOthers W ((V.setCell ⟨w.heap.size + 1, 0, none⟩ (.int .i64 (wrap64 (un + m)))).setCell ⟨w.heap.size + 1 + 1, 0, none⟩ (.int .i64 (wrap64 (pc + wrap64 (m * y))))) ∧ ∀ k, k ≠ w.heap.size + 1 → k ≠ w.heap.size + 1 + 1 → ((V.setCell ⟨w.heap.size + 1, 0, none⟩ (.int .i64 (wrap64 (un + m)))).setCell ⟨w.heap.size + 1 + 1, 0, none⟩ (.int .i64 (wrap64 (pc + wrap64 (m * y))))).heap[k]? = W.heap[k]? := by
      obtain ⟨K1, K2, K3, K4, K5, KH⟩ := HK.1
      have far : ∀ k, k ≠ w.heap.size + 1 → k ≠ w.heap.size + 1 + 1 → ((V.setCell ⟨w.heap.size + 1, 0, none⟩ (.int .i64 (wrap64 (un + m)))).setCell ⟨w.heap.size + 1 + 1, 0, none⟩ (.int .i64 (wrap64 (pc + wrap64 (m * y))))).heap[k]? = V.heap[k]? := fun k n1 n2 => (Below.heap_setCell _ ⟨w.heap.size + 1 + 1, 0, none⟩ _ k n2).trans (Below.heap_setCell _ ⟨w.heap.size + 1, 0, none⟩ _ k n1)
      refine ⟨⟨(far _ (by omega) (by omega)).trans K1, ?_, ?_, (far _ (by omega) (by omega)).trans K4, (K5.setCell (p := ⟨w.heap.size + 1, 0, none⟩) (by simp) _).setCell (p := ⟨w.heap.size + 1 + 1, 0, none⟩) (by simp; omega) _⟩, ?_, fun k n1 n2 => (far k n1 n2).trans (by rw [KH])⟩
      · exact blk_far ((blk_set K2 0 _).trans (by simp)) (p := ⟨w.heap.size + 1 + 1, 0, none⟩) (by simp) _
      · exact (blk_set (blk_far K3 (p := ⟨w.heap.size + 1, 0, none⟩) (by simp) _) 0 _).trans (by simp)
      · have k0 : KeepsOthers W V := ⟨by rw [KH]; exact Nat.le_refl _, fun k o hk _ => by rw [KH]; exact hk⟩
        exact (k0.trans (KeepsOthers.setCell _ _ _)).trans (KeepsOthers.setCell _ _ _)
    have FIN := Aside0.mk fin
    clear fin
    by_cases c5 : m < x
    · have c5d : decide (m < x) = true := decide_eq_true c5
      gi_wp2
      exact ⟨rfl, by simp [c5], FIN.1.1, FIN.1.2.1⟩
    · have c5d : decide (m < x) = false := decide_eq_false c5
      gi_wp2
      refine ⟨by simp [c5], FIN.1.1, FIN.1.2.1, FIN.1.2.2 _ (by omega) (by omega), fun k cs hk => FIN.1.2.2 k ?_ ?_⟩
      · rintro rfl
        rw [H2.1] at hk
        cases hk
      · rintro rfl
        rw [H3.1] at hk
        cases hk
  case done =>
    clear e5 e6 e7 f6 f7 e67 f67 e76 f76
    rintro W ⟨h1, h2, h3, h4, h5⟩ hD hsz
    have e6 : W.cell? ⟨w.heap.size + 1, 0, none⟩ = some (.int .i64 s.1) := (blk_cell h2 0).trans rfl
    have e7 : W.cell? ⟨w.heap.size + 1 + 1, 0, none⟩ = some (.int .i64 s.2) := (blk_cell h3 0).trans rfl
    have f6 := blk_frozen h2 0
    have f7 := blk_frozen h3 0
    have e67 : ∀ u, (W.setCell ⟨w.heap.size + 1, 0, none⟩ u).cell? ⟨w.heap.size + 1 + 1, 0, none⟩ = some (.int .i64 s.2) := fun u => (blk_cell (blk_far h3 (p := ⟨w.heap.size + 1, 0, none⟩) (by simp) u) 0).trans rfl
    have f67 : ∀ u, (W.setCell ⟨w.heap.size + 1, 0, none⟩ u).frozen? ⟨w.heap.size + 1 + 1, 0, none⟩ = false := fun u => blk_frozen (blk_far h3 (p := ⟨w.heap.size + 1, 0, none⟩) (by simp) u) 0
    have H2 := Aside0.mk h2
    have H3 := Aside0.mk h3
    have H5 := Aside0.mk h5
    have HD := Aside0.mk hD
    have HSZ := Aside0.mk hsz
    clear h1 h2 h3 h4 h5 hD hsz GU G5 G6 G7 GT GF GB hW0
    go_wp2
    go_region
    go_wp2
    have d0 : (((W.setCell ⟨w.heap.size + 1, 0, none⟩ (.int .i64 s.1)).setCell ⟨w.heap.size + 1 + 1, 0, none⟩ (.int .i64 s.2)).drew).heap[W0.heap.size]? = some (.deferred (some [])) := (Below.heap_setCell _ ⟨w.heap.size + 1 + 1, 0, none⟩ _ _ (by simp; omega)).trans ((Below.heap_setCell _ ⟨w.heap.size + 1, 0, none⟩ _ _ (by simp; omega)).trans HD.1)
    have s6 : (W.setCell ⟨w.heap.size + 1, 0, none⟩ (.int .i64 s.1)).heap[w.heap.size + 1]? = some (.cells #[.int .i64 s.1] 3 (0, 0)) := (blk_set H2.1 0 _).trans (by simp)
    have s7 : ((W.setCell ⟨w.heap.size + 1, 0, none⟩ (.int .i64 s.1)).setCell ⟨w.heap.size + 1 + 1, 0, none⟩ (.int .i64 s.2)).heap[w.heap.size + 1 + 1]? = some (.cells #[.int .i64 s.2] 3 (0, 0)) := (blk_set (blk_far H3.1 (p := ⟨w.heap.size + 1, 0, none⟩) (by simp) (.int .i64 s.1)) 0 (.int .i64 s.2)).trans (by simp)
    have q6 : ((((W.setCell ⟨w.heap.size + 1, 0, none⟩ (.int .i64 s.1)).setCell ⟨w.heap.size + 1 + 1, 0, none⟩ (.int .i64 s.2)).drew).putObj W0.heap.size (.deferred none)).cell? ⟨w.heap.size + 1, 0, none⟩ = some (.int .i64 s.1) := (blk_cell ((World.putObj_heap_other (by omega)).trans (blk_far s6 (p := ⟨w.heap.size + 1 + 1, 0, none⟩) (by simp) (.int .i64 s.2))) 0).trans rfl
    have q7 : ((((W.setCell ⟨w.heap.size + 1, 0, none⟩ (.int .i64 s.1)).setCell ⟨w.heap.size + 1 + 1, 0, none⟩ (.int .i64 s.2)).drew).putObj W0.heap.size (.deferred none)).cell? ⟨w.heap.size + 1 + 1, 0, none⟩ = some (.int .i64 s.2) := (blk_cell ((World.putObj_heap_other (by omega)).trans s7) 0).trans rfl
    refine ⟨by simp, .inl ⟨_, _, rfl, run_takeDeferred d0, ?_⟩⟩
    exact ⟨.tuple #[.int .i64 s.1, .int .i64 s.2, .int .i64 0], by simp [results, Try.f54, go_sem, q6, q7], rfl, ((H5.1.setCell (p := ⟨w.heap.size + 1, 0, none⟩) (by simp) _).setCell (p := ⟨w.heap.size + 1 + 1, 0, none⟩) (by simp; omega) _).drew.trans (belowK_b (w := w) (Nat.le_refl _) _ _ _ _ (by omega) d0 rfl rfl)⟩
  case stop =>
    clear e5 e6 e7 f6 f7 e67 f67 e76 f76
    rintro W ⟨h1, h2, h3, h4, h5⟩ hD hsz
    have e6 : W.cell? ⟨w.heap.size + 1, 0, none⟩ = some (.int .i64 s.1) := (blk_cell h2 0).trans rfl
    have e7 : W.cell? ⟨w.heap.size + 1 + 1, 0, none⟩ = some (.int .i64 s.2) := (blk_cell h3 0).trans rfl
    have f6 := blk_frozen h2 0
    have f7 := blk_frozen h3 0
    have e67 : ∀ u, (W.setCell ⟨w.heap.size + 1, 0, none⟩ u).cell? ⟨w.heap.size + 1 + 1, 0, none⟩ = some (.int .i64 s.2) := fun u => (blk_cell (blk_far h3 (p := ⟨w.heap.size + 1, 0, none⟩) (by simp) u) 0).trans rfl
    have f67 : ∀ u, (W.setCell ⟨w.heap.size + 1, 0, none⟩ u).frozen? ⟨w.heap.size + 1 + 1, 0, none⟩ = false := fun u => blk_frozen (blk_far h3 (p := ⟨w.heap.size + 1, 0, none⟩) (by simp) u) 0
    have H2 := Aside0.mk h2
    have H3 := Aside0.mk h3
    have H5 := Aside0.mk h5
    have HD := Aside0.mk hD
    have HSZ := Aside0.mk hsz
    clear h1 h2 h3 h4 h5 hD hsz GU G5 G6 G7 GT GF GB hW0
    gi_wp2
    go_wp2
    go_region
    go_wp2
    have d0 : (((W.setCell ⟨w.heap.size + 1, 0, none⟩ (.int .i64 s.1)).setCell ⟨w.heap.size + 1 + 1, 0, none⟩ (.int .i64 s.2)).drew).heap[W0.heap.size]? = some (.deferred (some [])) := (Below.heap_setCell _ ⟨w.heap.size + 1 + 1, 0, none⟩ _ _ (by simp; omega)).trans ((Below.heap_setCell _ ⟨w.heap.size + 1, 0, none⟩ _ _ (by simp; omega)).trans HD.1)
    have s6 : (W.setCell ⟨w.heap.size + 1, 0, none⟩ (.int .i64 s.1)).heap[w.heap.size + 1]? = some (.cells #[.int .i64 s.1] 3 (0, 0)) := (blk_set H2.1 0 _).trans (by simp)
    have s7 : ((W.setCell ⟨w.heap.size + 1, 0, none⟩ (.int .i64 s.1)).setCell ⟨w.heap.size + 1 + 1, 0, none⟩ (.int .i64 s.2)).heap[w.heap.size + 1 + 1]? = some (.cells #[.int .i64 s.2] 3 (0, 0)) := (blk_set (blk_far H3.1 (p := ⟨w.heap.size + 1, 0, none⟩) (by simp) (.int .i64 s.1)) 0 (.int .i64 s.2)).trans (by simp)
    have q6 : ((((W.setCell ⟨w.heap.size + 1, 0, none⟩ (.int .i64 s.1)).setCell ⟨w.heap.size + 1 + 1, 0, none⟩ (.int .i64 s.2)).drew).putObj W0.heap.size (.deferred none)).cell? ⟨w.heap.size + 1, 0, none⟩ = some (.int .i64 s.1) := (blk_cell ((World.putObj_heap_other (by omega)).trans (blk_far s6 (p := ⟨w.heap.size + 1 + 1, 0, none⟩) (by simp) (.int .i64 s.2))) 0).trans rfl
    have q7 : ((((W.setCell ⟨w.heap.size + 1, 0, none⟩ (.int .i64 s.1)).setCell ⟨w.heap.size + 1 + 1, 0, none⟩ (.int .i64 s.2)).drew).putObj W0.heap.size (.deferred none)).cell? ⟨w.heap.size + 1 + 1, 0, none⟩ = some (.int .i64 s.2) := (blk_cell ((World.putObj_heap_other (by omega)).trans s7) 0).trans rfl
    refine ⟨by simp, .inl ⟨_, _, rfl, run_takeDeferred d0, ?_⟩⟩
    exact ⟨.tuple #[.int .i64 s.1, .int .i64 s.2, .int .i64 0], by simp [results, Try.f54, go_sem, q6, q7], rfl, ((H5.1.setCell (p := ⟨w.heap.size + 1, 0, none⟩) (by simp) _).setCell (p := ⟨w.heap.size + 1 + 1, 0, none⟩) (by simp; omega) _).drew.trans (belowK_b (w := w) (Nat.le_refl _) _ _ _ _ (by omega) d0 rfl rfl)⟩

-- NOT PRINTED: function 27 (account_clerk_sell)

end Go.Proofs.Ytojnaalncgofhaa.PAccountSells
