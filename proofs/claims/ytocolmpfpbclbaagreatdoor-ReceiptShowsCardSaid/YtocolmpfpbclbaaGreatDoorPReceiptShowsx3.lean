-- written by this session's program wip/xp/xprint.py (it drives the kit's print and adds to it)
import Derived.Test.YtocolmpfpbclbaaGreatDoorPReceiptShowsx0
import Derived.Test.YtocolmpfpbclbaaGreatDoorPReceiptShowsx1
import Derived.Test.YtocolmpfpbclbaaGreatDoorPReceiptShowsx2
namespace Go.Proofs.YtocolmpfpbclbaaGreatDoor.PReceiptShows
open Go.RowKit Go.Proofs.YtocolmpfpbclbaaGreatDoorW.PrintWords Go.Proofs.YtocolmpfpbclbaaGreatDoorW.PrintLast Go.Proofs.YtocolmpfpbclbaaGreatDoorW.PrintMore
attribute [local go_sem] max2_int min2_int max_two min_two max_three min_three max_four min_four
set_option linter.unusedVariables false
set_option linter.unusedSimpArgs false
set_option maxHeartbeats 8000000
set_option maxRecDepth 100000

def rdOk (s : ByteArray) (p : Nat) : Prop := 48 ≤ bt s (p : Int) ∧ bt s (p : Int) ≤ 57
theorem btr_nat (s : ByteArray) (p : Nat) (h : p < s.size) : bt s (p : Int) = ((s[p]'h).toNat : Int) := by
  unfold bt
  rw [dif_pos (show (p : Int).toNat < s.size by simpa using h)]
  simp
theorem rd_ok (s : ByteArray) (p : Nat) (h : p < s.size) (hk : rdOk s p) : Utf8.decode s p = ((bt s (p : Int)).toNat, 1) := by
  unfold rdOk at hk
  rw [btr_nat s p h] at hk
  rw [decode_ascii s p h (by omega), btr_nat s p h]
  simp
theorem rd_no (s : ByteArray) (p : Nat) (h : p < s.size) (hk : ¬ rdOk s p) : ((Utf8.decode s p).1 : Int) < 48 ∨ ((Utf8.decode s p).1 : Int) > 57 := by
  unfold rdOk at hk
  rw [btr_nat s p h] at hk
  by_cases h8 : (s[p]'h).toNat < 128
  · rw [decode_ascii s p h h8]
    dsimp only
    omega
  · have := (decode_high s p h (by omega)).1
    omega
theorem rd_empty (s : ByteArray) : s.toList.isEmpty = decide (s.size = 0) := by
  rw [ByteArray.toList_eq]
  cases h : s.data.toList with
  | nil => have : s.size = 0 := by show s.data.size = 0; rw [← Array.length_toList, h]; rfl
           simp [this]
  | cons a l => have : ¬ s.size = 0 := by intro e; have e2 : s.data.size = 0 := e; rw [← Array.length_toList, h] at e2; simp at e2
                simp [this]

def rdV (s : ByteArray) : Nat → Int
  | 0 => 0
  | i + 1 => rdV s i * 10 + (bt s (i : Int) - 48)
theorem rdV_pos {s : ByteArray} : ∀ {m : Nat}, (∀ j, j < m → rdOk s j) → 0 ≤ rdV s m
  | 0, _ => Int.le_refl _
  | m + 1, h => by
    have h1 := rdV_pos (m := m) (fun j hj => h j (by omega))
    have h2 := h m (by omega)
    unfold rdOk at h2
    simp only [rdV]
    omega
theorem rdV_lt {s : ByteArray} : ∀ {m : Nat}, (∀ j, j < m → rdOk s j) → rdV s m < 10 ^ m
  | 0, _ => by simp [rdV]
  | m + 1, h => by
    have h1 := rdV_lt (m := m) (fun j hj => h j (by omega))
    have h2 := h m (by omega)
    unfold rdOk at h2
    simp only [rdV]
    rw [Int.pow_succ]
    generalize (10 : Int) ^ m = P at *
    omega
theorem rdV_bd {s : ByteArray} {m : Nat} (hm : m ≤ 40) (h : ∀ j, j < m → rdOk s j) : rdV s m < W32 10 := by
  have h1 := rdV_lt h
  have h2 := Nat.pow_le_pow_right (n := 10) (by decide) hm
  have h3 := Int.ofNat_le.2 h2
  rw [Int.natCast_pow, Int.natCast_pow] at h3
  have h4 : (10 : Int) ^ m ≤ 10 ^ 40 := h3
  exact Int.lt_of_lt_of_le h1 (Int.le_trans h4 (by decide))
theorem rd_div2 {x B : Int} (hB : 0 < B) (h : x / B % 4294967296 ≠ 0) (h0 : 0 ≤ x) : B ≤ x := by
  rcases Int.lt_or_le x B with g | g
  · rw [Int.ediv_eq_zero_of_lt h0 g] at h; exact absurd rfl h
  · exact g
theorem rd_div3 {x B : Int} (hB : B = 79228162514264337593543950336) (h0 : B ≤ x) (h1 : x < 1000 * B) : x / B % 4294967296 ≠ 0 := by
  have hp : 0 < B := by omega
  have a : 1 ≤ x / B := (Int.le_ediv_iff_mul_le hp).2 (by omega)
  have b : x / B < 1000 := (Int.ediv_lt_iff_lt_mul hp).2 h1
  omega
theorem rd_overB {U V c B : Int} (hB : B = 79228162514264337593543950336) {ov : Bool} (hV : 0 ≤ V) (hc : 0 ≤ c ∧ c ≤ 9) (hov : ov = decide (B ≤ V)) (hU : ov = false → U = V) (hb : 0 ≤ U ∧ U < B) :
    (ov = true ∨ U * 10 / B % 4294967296 ≠ 0 ∨ (U * 10 % B + c) / B % 4294967296 ≠ 0) = (B ≤ V * 10 + c) := by
  have hp : 0 < B := by omega
  have hm := Int.emod_nonneg (U * 10) (show B ≠ 0 by omega)
  have hm2 := Int.emod_lt_of_pos (U * 10) hp
  refine propext ⟨fun h => ?_, fun h => ?_⟩
  · cases ov with
    | true => have := of_decide_eq_true hov.symm; omega
    | false =>
      have := hU rfl
      subst this
      rcases h with h | h | h
      · cases h
      · have := rd_div2 hp h (by omega); omega
      · have h2 := rd_div2 hp h (by omega)
        rcases Int.lt_or_le (U * 10) B with g | g
        · rw [Int.emod_eq_of_lt (by omega) g] at h2; omega
        · omega
  · cases ov with
    | true => exact .inl rfl
    | false =>
      have := hU rfl
      subst this
      rcases Int.lt_or_le (U * 10) B with g | g
      · rw [Int.emod_eq_of_lt (by omega) g]
        exact .inr (.inr (rd_div3 hB h (by omega)))
      · exact .inr (.inl (rd_div3 hB g (by omega)))
theorem rd_over {U V c : Int} {ov : Bool} (hV : 0 ≤ V) (hc : 0 ≤ c ∧ c ≤ 9) (hov : ov = decide (79228162514264337593543950336 ≤ V)) (hU : ov = false → U = V) (hb : 0 ≤ U ∧ U < 79228162514264337593543950336) :
    (ov = true ∨ U * 10 / 79228162514264337593543950336 % 4294967296 ≠ 0 ∨ (U * 10 % 79228162514264337593543950336 + c) / 79228162514264337593543950336 % 4294967296 ≠ 0) = (79228162514264337593543950336 ≤ V * 10 + c) := rd_overB rfl hV hc hov hU hb
theorem rd_val {v : Int} (h : 0 ≤ v) : wval [v % 4294967296, v / 4294967296 % 4294967296, v / 18446744073709551616 % 4294967296] = v % 79228162514264337593543950336 := by
  simp only [wval]
  omega

def RdEnd (s : ByteArray) (m : Nat) (d0 d1 d2 er : Int) : Prop := (m < s.size → d0 = 0 ∧ d1 = 0 ∧ d2 = 0 ∧ er = 3) ∧ (m = s.size → 79228162514264337593543950336 ≤ rdV s m → d0 = 0 ∧ d1 = 0 ∧ d2 = 0 ∧ er = 2) ∧ (m = s.size → rdV s m < 79228162514264337593543950336 → d0 = rdV s m % 4294967296 ∧ d1 = rdV s m / 4294967296 % 4294967296 ∧ d2 = rdV s m / 18446744073709551616 % 4294967296 ∧ er = 0)

theorem words_Read.loop (w : World) (s : ByteArray) (h : s.size ≤ 40) (hp : 0 < s.size) (h0 : ¬ (1 < s.size ∧ bt s 0 = 48)) (m : Nat) (hm : m ≤ s.size) (hok : ∀ j, j < m → rdOk s j) (hend : m = s.size ∨ (m < s.size ∧ ¬ rdOk s m)) (d0 d1 d2 er : Int) (hd : RdEnd s m d0 d1 d2 er) :
    Calls Tryz.prog 54 #[.string s] w fun e w' => e = .returned (.tuple #[.agg #[.int .u32 d0, .int .u32 d1, .int .u32 d2], .int .i64 er]) ∧ Below w.heap.size w w' := by
  have hu63 := Tryz.underlying86
  have c2b : decide ((s.size : Int) > 40) = false := decide_eq_false (by omega)
  have c2c : decide (s.size > 40) = false := decide_eq_false (by omega)
  have c2d : decide (40 < s.size) = false := decide_eq_false (by omega)
  have ce : s.toList.isEmpty = false := by rw [rd_empty]; exact decide_eq_false (by omega)
  have ce2 : ((s.size : Int) == 0) = false := beq_eq_false_iff_ne.mpr (by omega)
  have ce3 : (s.size == 0) = false := beq_eq_false_iff_ne.mpr (by omega)
  have p0 : (0 ≤ (0 : Int)) = True := eq_true (Int.le_refl _)
  have q0 : ((0 : Int) < (s.size : Int)) = True := eq_true (by omega)
  have q1 : (0 < s.size) = True := eq_true (by omega)
  have hs0 : 0 < s.size := by omega
  have hx0 : ((s[0]'hs0).toNat : Int) = bt s 0 := bt_at s 0 hs0
  have c1 : ((bt s 0 == 48) = false) ∨ ((bt s 0 == 48) = true ∧ decide ((s.size : Int) > 1) = false ∧ decide (1 < s.size) = false) := by
    cases hb : (bt s 0 == 48)
    · exact .inl rfl
    · have : bt s 0 = 48 := by simpa using hb
      have : ¬ 1 < s.size := fun g => h0 ⟨g, this⟩
      exact .inr ⟨rfl, decide_eq_false (by omega), decide_eq_false this⟩
  have HB := am (below_alloc (below_alloc (Below.refl w.heap.size w) (.cells #[.int .u32 0, .int .u32 0, .int .u32 0] 86)) (.cells #[.int .u32 0, .int .u32 0, .int .u32 0] 86))
  have B2 := blk_alloc (blk_new w (.cells #[.int .u32 0, .int .u32 0, .int .u32 0] 86)) (.cells #[.int .u32 0, .int .u32 0, .int .u32 0] 86)
  have B4 := blk_new (w.alloc (.cells #[.int .u32 0, .int .u32 0, .int .u32 0] 86)) (.cells #[.int .u32 0, .int .u32 0, .int .u32 0] 86)
  rw [World.size_alloc] at B4
  have HMM := am (And.intro hp (And.intro h (And.intro hm (And.intro hok (And.intro hend hd)))))
  have HB1 := am ((HB.out).alloc (HB.out.size) (.stringIter s 0))
  have J2 := am (blk_alloc B2 (.stringIter s 0))
  have J4 := am (blk_alloc B4 (.stringIter s 0))
  have hit := World.iter_heap ((w.alloc (.cells #[.int .u32 0, .int .u32 0, .int .u32 0] 86)).alloc (.cells #[.int .u32 0, .int .u32 0, .int .u32 0] 86)) s 0
  rw [World.size_alloc, World.size_alloc] at hit
  have HIT := am hit
  clear h hp h0 hm hok hend hd B2 B4 hit
  go_enter Tryz.func54, Tryz.ntmps54
  rcases c1 with c1 | ⟨c1, c1y, c1z⟩
  all_goals (
    go_wp2
    go_loopg [5, 7, 8, 9, 10] m (fun kq v5 v7 v8 v9 v10 w' => ∃ (p : Nat) (x0 x1 x2 : Int) (ov : Bool), v5 = .bool ov ∧ Aside0 (p ≤ m ∧ kq = m - p) ∧ Aside0 ((0 ≤ x0 ∧ x0 < 4294967296) ∧ (0 ≤ x1 ∧ x1 < 4294967296) ∧ (0 ≤ x2 ∧ x2 < 4294967296)) ∧ Aside0 (ov = decide (79228162514264337593543950336 ≤ rdV s p) ∧ (ov = false → wval [x0, x1, x2] = rdV s p)) ∧ w'.heap[w.heap.size + 1 + 1]? = some (.stringIter s p) ∧ Aside0 (w'.heap[w.heap.size + 1]? = some (.cells #[.int .u32 x0, .int .u32 x1, .int .u32 x2] 86 (0, 0))) ∧ Aside0 (w'.heap[w.heap.size]? = some (.cells #[.int .u32 0, .int .u32 0, .int .u32 0] 86 (0, 0))) ∧ Aside0 (Below w.heap.size w w'))
    case atStart => exact ⟨0, 0, 0, 0, false, rfl, ⟨Nat.zero_le _, by omega⟩, ⟨by omega, by omega, by omega⟩, ⟨rfl, fun _ => rfl⟩, HIT.out, J4, J2, HB1⟩
    case round =>
      clear HIT J4 J2 HB1
      obtain ⟨p, x0, x1, x2, ov, rfl, HP, HX, HV, hit, J4, J2, HB⟩ := hrel
      by_cases hpm : p < m
      · have hps : p < s.size := by have := HMM.out.2.2.1; omega
        have hk : rdOk s p := HMM.out.2.2.2.1 p hpm
        have hdc := rd_ok s p hps hk
        have hcc : ((bt s (p : Int)).toNat : Int) = bt s (p : Int) := Int.toNat_of_nonneg (bt_range s p).1
        have hnx : ∀ ty, (Instr.next (.pointer (some ⟨w.heap.size + 1 + 1, 0, none⟩)) true ty).run Tryz.prog wr = _ := fun ty => Lib.run_next_any_at wr (w.heap.size + 1 + 1) s p ty hit hps
        have hit2 := Lib.iterAt_heap wr (w.heap.size + 1 + 1) s p (p + (Utf8.decode s p).2) hit
        have NB' := Lib.below_iterAt HB.out (k := w.heap.size + 1 + 1) (by omega) s (p + (Utf8.decode s p).2)
        have N4' := (Lib.iterAt_other wr (w.heap.size + 1 + 1) (w.heap.size + 1) s (p + (Utf8.decode s p).2) (by omega)).trans J4.out
        have N2' := (Lib.iterAt_other wr (w.heap.size + 1 + 1) w.heap.size s (p + (Utf8.decode s p).2) (by omega)).trans J2.out
        rw [hdc] at hnx hit2 NB' N4' N2'
        simp only at hnx hit2 NB' N4' N2'
        obtain ⟨W1, hW1⟩ : ∃ W1, W1 = wr.iterAt (w.heap.size + 1 + 1) s (p + 1) := ⟨_, rfl⟩
        rw [← hW1] at hnx hit2 NB' N4' N2'
        obtain ⟨c, hc⟩ : ∃ c, (bt s (p : Int)).toNat = c := ⟨_, rfl⟩
        rw [hc] at hnx hcc
        have hcb : 48 ≤ c ∧ c ≤ 57 := by have := hk.1; have := hk.2; omega
        have t1 : decide ((c : Int) < 48) = false := decide_eq_false (by omega)
        have t2 : decide ((c : Int) > 57) = false := decide_eq_false (by omega)
        have t1n : decide (c < 48) = false := decide_eq_false (by omega)
        have t2n : decide (57 < c) = false := decide_eq_false (by omega)
        have N4 := am N4'
        have N2 := am N2'
        have NB := am NB'
        have HCB := am (And.intro hcb hcc)
        have x0_ : W1.cell? ⟨w.heap.size + 1, 0, none⟩ = some (.int .u32 x0) := (blk_cell N4.out 0).trans rfl
        have x1_ : W1.cell? ⟨w.heap.size + 1, 1, none⟩ = some (.int .u32 x1) := (blk_cell N4.out 1).trans rfl
        have x2_ : W1.cell? ⟨w.heap.size + 1, 2, none⟩ = some (.int .u32 x2) := (blk_cell N4.out 2).trans rfl
        have hU : 0 ≤ wval [x0, x1, x2] ∧ wval [x0, x1, x2] < 79228162514264337593543950336 := by have := HX.out; simp only [wval]; omega
        have hV0 : 0 ≤ rdV s p := rdV_pos (fun j hj => HMM.out.2.2.2.1 j (by have := HP.out.1; omega))
        have hov := rd_over (c := (c : Int) - 48) hV0 (by omega) HV.out.1 HV.out.2 hU
        have hvs : rdV s (p + 1) = rdV s p * 10 + ((c : Int) - 48) := by simp only [rdV]; rw [hcc]
        rw [← hvs] at hov
        have hU0 : 0 ≤ wval [x0, x1, x2] * 10 := by have := hU.1; omega
        obtain ⟨U, hUe⟩ : ∃ U, wval [x0, x1, x2] = U := ⟨_, rfl⟩
        rw [hUe] at hov hU0 hU
        have hvy := rd_val hU0
        obtain ⟨y0, hy0⟩ : ∃ y0, U * 10 % 4294967296 = y0 := ⟨_, rfl⟩
        obtain ⟨y1, hy1⟩ : ∃ y1, U * 10 / 4294967296 % 4294967296 = y1 := ⟨_, rfl⟩
        obtain ⟨y2, hy2⟩ : ∃ y2, U * 10 / 18446744073709551616 % 4294967296 = y2 := ⟨_, rfl⟩
        obtain ⟨k1, hk1⟩ : ∃ k1, U * 10 / 79228162514264337593543950336 % 4294967296 = k1 := ⟨_, rfl⟩
        rw [hy0, hy1, hy2] at hvy
        rw [hk1] at hov
        have HYB := am (show (0 ≤ y0 ∧ y0 < 4294967296) ∧ (0 ≤ y1 ∧ y1 < 4294967296) ∧ (0 ≤ y2 ∧ y2 < 4294967296) by omega)
        have HY := am (And.intro hy0 (And.intro hy1 (And.intro hy2 hk1)))
        obtain ⟨dg, hdg⟩ : ∃ dg : Int, (c : Int) - 48 = dg := ⟨_, rfl⟩
        have hdw : IntKind.i32.wrap ((c : Int) - 48) = dg := by rw [← hdg, IntKind.wrap_i32]; omega
        have hdw2 : wrap32 ((c : Int) - 48) = dg := by rw [← hdg]; exact IntWalk.wrap32_in _ ⟨by omega, by omega⟩
        have hdb : 0 ≤ dg ∧ dg ≤ 9 := by omega
        have hdw3 : IntKind.u32.wrap dg = dg := by rw [IntKind.wrap_u32']; exact Int.emod_eq_of_lt (by omega) (by omega)
        have hdw4 : dg % 4294967296 = dg := Int.emod_eq_of_lt (by omega) (by omega)
        have HDG := am (show 0 ≤ dg ∧ dg < 4294967296 by omega)
        rw [hdg] at hov hvs
        have hz0 := rd_val (v := wval [y0, y1, y2] + dg) (by rw [hvy]; have := Int.emod_nonneg (U * 10) (show (79228162514264337593543950336 : Int) ≠ 0 by decide); omega)
        obtain ⟨Y, hYe⟩ : ∃ Y, wval [y0, y1, y2] = Y := ⟨_, rfl⟩
        rw [hYe] at hz0 hvy
        have hov2 := hov
        rw [← hvy] at hov2
        obtain ⟨z0, hzz0⟩ : ∃ z0, (Y + dg) % 4294967296 = z0 := ⟨_, rfl⟩
        obtain ⟨z1, hzz1⟩ : ∃ z1, (Y + dg) / 4294967296 % 4294967296 = z1 := ⟨_, rfl⟩
        obtain ⟨z2, hzz2⟩ : ∃ z2, (Y + dg) / 18446744073709551616 % 4294967296 = z2 := ⟨_, rfl⟩
        obtain ⟨k2, hk2⟩ : ∃ k2, (Y + dg) / 79228162514264337593543950336 % 4294967296 = k2 := ⟨_, rfl⟩
        rw [hzz0, hzz1, hzz2] at hz0
        rw [hk2] at hov2
        have HZB := am (show (0 ≤ z0 ∧ z0 < 4294967296) ∧ (0 ≤ z1 ∧ z1 < 4294967296) ∧ (0 ≤ z2 ∧ z2 < 4294967296) by omega)
        have HZ := am (And.intro hzz0 (And.intro hzz1 (And.intro hzz2 hk2)))
        have HYE := am hYe
        have HUE := am hUe
        -- where nothing ran over, the words are the number
        have HVAL := am (show ¬ (79228162514264337593543950336 ≤ rdV s (p + 1)) → wval [z0, z1, z2] = rdV s (p + 1) by
          intro hn
          have hf : ov = false := by
            cases ov with
            | true => exact absurd ((congrArg id hov).mp (.inl rfl)) hn
            | false => rfl
          have hUV : U = rdV s p := by rw [← hUe]; exact HV.out.2 hf
          rw [hz0, hvy, hUV, hvs]
          rw [hvs] at hn
          rw [hUV] at hU0
          omega)
        have HPM := am (show p < m ∧ p + 1 ≤ m from ⟨hpm, hpm⟩)
        have HOV := am hov2
        have HKP := am (And.intro HP.out HV.out)
        clear hU hV0 hov hvs hU0 hvy hy0 hy1 hy2 hk1 hz0 hov2 hzz0 hzz1 hzz2 hk2 hYe hUe hdb hdg
        clear hW1 hit hps hk hdc hcc hcb hc NB' N4' N2' J4 J2 HB hpm
        rcases hob : ov with _ | _
        · rcases hkb : (k1 == 0) with _ | _
          · have hkb2 : (k1 != 0) = true := by rw [bne, hkb]; rfl
            subst hob
            have HK1 := am hkb
            go_upto_region 13 with (first | (go_at_call 89; refine (words_Times.at_ _ x0 x1 x2 10 HX.out.1 HX.out.2.1 HX.out.2.2 ⟨by decide, by decide⟩).mono ?_; rw [HUE.out, HY.out.1, HY.out.2.1, HY.out.2.2.1, HY.out.2.2.2]; rintro e wa ⟨rfl, hb⟩; have P2 := am (blk_below N2.out hb); have P4 := am (blk_below N4.out hb); have PI := am (blk_below hit2 hb); have PB := am (below_then NB.out NB.out.size hb); have PL2 := am (blk_lt (blk_below N2.out hb)); have PL4 := am (blk_lt (blk_below N4.out hb)); have PLI := am (blk_lt (blk_below hit2 hb)); clear hb) | ((with_reducible refine gate_store (t := 86) (p := 8) rfl ?_); refine seg.list rfl rfl 86 (.tmp 8) _ rfl 86 wa.heap.size 0 #[.int .u32 0, .int .u32 0, .int .u32 0] #[.int .u32 y0, .int .u32 y1, .int .u32 y2] [.int .u32 y0, .int .u32 y1, .int .u32 y2] rfl rfl (by kernel_rfl) (by simp [Value.oneCell']) (blk_new wa _) (by simp) rfl ?_; intro wb b8 hg; have Q8 := am b8; have Q2 := am (seg.far (blk_alloc P2.out _) hg (Nat.ne_of_lt PL2.out)); have Q4 := am (seg.far (blk_alloc P4.out _) hg (Nat.ne_of_lt PL4.out)); have QI := am (seg.far (blk_alloc PI.out _) hg (Nat.ne_of_lt PLI.out)); have QB := am (seg.below (below_alloc PB.out _) hg PB.out.size); clear b8 hg))
            clear x0_ x1_ x2_
            have y0_ : wb.cell? ⟨wa.heap.size, 0, none⟩ = some (.int .u32 y0) := (blk_cell Q8.out 0).trans rfl
            have y1_ : wb.cell? ⟨wa.heap.size, 1, none⟩ = some (.int .u32 y1) := (blk_cell Q8.out 1).trans rfl
            have y2_ : wb.cell? ⟨wa.heap.size, 2, none⟩ = some (.int .u32 y2) := (blk_cell Q8.out 2).trans rfl
            go_upto_region 14 with (first | (go_at_call 90; refine (words_Plus.at_ _ y0 y1 y2 dg HYB.out.1 HYB.out.2.1 HYB.out.2.2 HDG.out).mono ?_; rw [HYE.out, HZ.out.1, HZ.out.2.1, HZ.out.2.2.1, HZ.out.2.2.2]; rintro e wc ⟨rfl, hb⟩; have R2 := am (blk_below Q2.out hb); have R4 := am (blk_below Q4.out hb); have RI := am (blk_below QI.out hb); have R8 := am (blk_below Q8.out hb); have RB := am (below_then QB.out QB.out.size hb); clear hb) | ((with_reducible refine gate_store (t := 86) (p := 8) rfl ?_); refine seg.list rfl rfl 86 (.tmp 8) _ rfl 86 wa.heap.size 0 #[.int .u32 y0, .int .u32 y1, .int .u32 y2] #[.int .u32 z0, .int .u32 z1, .int .u32 z2] [.int .u32 z0, .int .u32 z1, .int .u32 z2] rfl rfl (by kernel_rfl) (by simp [Value.oneCell']) R8.out (by simp) rfl ?_; intro wd b8 hg; have S8 := am b8; have S2 := am (seg.far R2.out hg (Nat.ne_of_lt PL2.out)); have S4 := am (seg.far R4.out hg (Nat.ne_of_lt PL4.out)); have SI := am (seg.far RI.out hg (Nat.ne_of_lt PLI.out)); have SB := am (seg.below RB.out hg PB.out.size); clear b8 hg))
            clear y0_ y1_ y2_
            have z0_ : wd.cell? ⟨wa.heap.size, 0, none⟩ = some (.int .u32 z0) := (blk_cell S8.out 0).trans rfl
            have z1_ : wd.cell? ⟨wa.heap.size, 1, none⟩ = some (.int .u32 z1) := (blk_cell S8.out 1).trans rfl
            have z2_ : wd.cell? ⟨wa.heap.size, 2, none⟩ = some (.int .u32 z2) := (blk_cell S8.out 2).trans rfl
            go_wp2_with ((with_reducible refine gate_store (t := 86) (p := 4) rfl ?_); refine seg.list rfl rfl 86 (.tmp 4) _ rfl 86 (w.heap.size + 1) 0 #[.int .u32 x0, .int .u32 x1, .int .u32 x2] #[.int .u32 z0, .int .u32 z1, .int .u32 z2] [.int .u32 z0, .int .u32 z1, .int .u32 z2] rfl rfl (by kernel_rfl) (by simp [Value.oneCell']) S4.out (by simp) rfl ?_; intro we b4 hg; have T4 := am b4; have T2 := am (seg.far S2.out hg (by omega)); have TI := am (seg.far SI.out hg (by omega)); have TB := am (seg.below SB.out hg (by omega)); clear b4 hg)
            clear z0_ z1_ z2_
            go_roundg (m - (p + 1))
            case measure => have := HPM.out; have := HKP.out.1; omega
            case rel =>
              exact ⟨p + 1, z0, z1, z2, true, by first | rfl | simp [hkb2], ⟨HPM.out.2, rfl⟩, HZB, ⟨(decide_eq_true (show 79228162514264337593543950336 ≤ rdV s (p + 1) by rw [← HOV.out]; exact .inr (.inl (by have := HK1.out; simpa using this)))).symm, fun h => by cases h⟩, TI.out, T4, T2, TB⟩
          · have hkb2 : (k1 != 0) = false := by rw [bne, hkb]; rfl
            obtain ⟨b2, hb2⟩ : ∃ b2, (k2 != 0) = b2 := ⟨_, rfl⟩
            subst hob
            have RVP := am (show b2 = decide (79228162514264337593543950336 ≤ rdV s (p + 1)) ∧ (b2 = false → wval [z0, z1, z2] = rdV s (p + 1)) by
              have e : b2 = decide (79228162514264337593543950336 ≤ rdV s (p + 1)) := by
                have h1 : k1 = 0 := by simpa using hkb
                rw [← hb2]
                by_cases h2 : k2 = 0
                · have h3 : ¬ (79228162514264337593543950336 ≤ rdV s (p + 1)) := by
                    rw [← HOV.out]
                    rintro (h | h | h)
                    · cases h
                    · exact h h1
                    · exact h h2
                  rw [decide_eq_false h3]
                  simp [h2]
                · have h3 : 79228162514264337593543950336 ≤ rdV s (p + 1) := by rw [← HOV.out]; exact .inr (.inr h2)
                  rw [decide_eq_true h3]
                  simp [h2]
              exact ⟨e, fun h => HVAL.out (of_decide_eq_false (e.symm.trans h))⟩)
            go_upto_region 13 with (first | (go_at_call 89; refine (words_Times.at_ _ x0 x1 x2 10 HX.out.1 HX.out.2.1 HX.out.2.2 ⟨by decide, by decide⟩).mono ?_; rw [HUE.out, HY.out.1, HY.out.2.1, HY.out.2.2.1, HY.out.2.2.2]; rintro e wa ⟨rfl, hb⟩; have P2 := am (blk_below N2.out hb); have P4 := am (blk_below N4.out hb); have PI := am (blk_below hit2 hb); have PB := am (below_then NB.out NB.out.size hb); have PL2 := am (blk_lt (blk_below N2.out hb)); have PL4 := am (blk_lt (blk_below N4.out hb)); have PLI := am (blk_lt (blk_below hit2 hb)); clear hb) | ((with_reducible refine gate_store (t := 86) (p := 8) rfl ?_); refine seg.list rfl rfl 86 (.tmp 8) _ rfl 86 wa.heap.size 0 #[.int .u32 0, .int .u32 0, .int .u32 0] #[.int .u32 y0, .int .u32 y1, .int .u32 y2] [.int .u32 y0, .int .u32 y1, .int .u32 y2] rfl rfl (by kernel_rfl) (by simp [Value.oneCell']) (blk_new wa _) (by simp) rfl ?_; intro wb b8 hg; have Q8 := am b8; have Q2 := am (seg.far (blk_alloc P2.out _) hg (Nat.ne_of_lt PL2.out)); have Q4 := am (seg.far (blk_alloc P4.out _) hg (Nat.ne_of_lt PL4.out)); have QI := am (seg.far (blk_alloc PI.out _) hg (Nat.ne_of_lt PLI.out)); have QB := am (seg.below (below_alloc PB.out _) hg PB.out.size); clear b8 hg))
            clear x0_ x1_ x2_
            have y0_ : wb.cell? ⟨wa.heap.size, 0, none⟩ = some (.int .u32 y0) := (blk_cell Q8.out 0).trans rfl
            have y1_ : wb.cell? ⟨wa.heap.size, 1, none⟩ = some (.int .u32 y1) := (blk_cell Q8.out 1).trans rfl
            have y2_ : wb.cell? ⟨wa.heap.size, 2, none⟩ = some (.int .u32 y2) := (blk_cell Q8.out 2).trans rfl
            go_upto_region 14 with (first | (go_at_call 90; refine (words_Plus.at_ _ y0 y1 y2 dg HYB.out.1 HYB.out.2.1 HYB.out.2.2 HDG.out).mono ?_; rw [HYE.out, HZ.out.1, HZ.out.2.1, HZ.out.2.2.1, HZ.out.2.2.2]; rintro e wc ⟨rfl, hb⟩; have R2 := am (blk_below Q2.out hb); have R4 := am (blk_below Q4.out hb); have RI := am (blk_below QI.out hb); have R8 := am (blk_below Q8.out hb); have RB := am (below_then QB.out QB.out.size hb); clear hb) | ((with_reducible refine gate_store (t := 86) (p := 8) rfl ?_); refine seg.list rfl rfl 86 (.tmp 8) _ rfl 86 wa.heap.size 0 #[.int .u32 y0, .int .u32 y1, .int .u32 y2] #[.int .u32 z0, .int .u32 z1, .int .u32 z2] [.int .u32 z0, .int .u32 z1, .int .u32 z2] rfl rfl (by kernel_rfl) (by simp [Value.oneCell']) R8.out (by simp) rfl ?_; intro wd b8 hg; have S8 := am b8; have S2 := am (seg.far R2.out hg (Nat.ne_of_lt PL2.out)); have S4 := am (seg.far R4.out hg (Nat.ne_of_lt PL4.out)); have SI := am (seg.far RI.out hg (Nat.ne_of_lt PLI.out)); have SB := am (seg.below RB.out hg PB.out.size); clear b8 hg))
            clear y0_ y1_ y2_
            have z0_ : wd.cell? ⟨wa.heap.size, 0, none⟩ = some (.int .u32 z0) := (blk_cell S8.out 0).trans rfl
            have z1_ : wd.cell? ⟨wa.heap.size, 1, none⟩ = some (.int .u32 z1) := (blk_cell S8.out 1).trans rfl
            have z2_ : wd.cell? ⟨wa.heap.size, 2, none⟩ = some (.int .u32 z2) := (blk_cell S8.out 2).trans rfl
            go_wp2_with ((with_reducible refine gate_store (t := 86) (p := 4) rfl ?_); refine seg.list rfl rfl 86 (.tmp 4) _ rfl 86 (w.heap.size + 1) 0 #[.int .u32 x0, .int .u32 x1, .int .u32 x2] #[.int .u32 z0, .int .u32 z1, .int .u32 z2] [.int .u32 z0, .int .u32 z1, .int .u32 z2] rfl rfl (by kernel_rfl) (by simp [Value.oneCell']) S4.out (by simp) rfl ?_; intro we b4 hg; have T4 := am b4; have T2 := am (seg.far S2.out hg (by omega)); have TI := am (seg.far SI.out hg (by omega)); have TB := am (seg.below SB.out hg (by omega)); clear b4 hg)
            clear z0_ z1_ z2_
            go_roundg (m - (p + 1))
            case measure => have := HPM.out; have := HKP.out.1; omega
            case rel =>
              exact ⟨p + 1, z0, z1, z2, b2, by first | rfl | simp [hb2], ⟨HPM.out.2, rfl⟩, HZB, ⟨RVP.out.1, RVP.out.2⟩, TI.out, T4, T2, TB⟩
        · subst hob
          go_upto_region 13 with (first | (go_at_call 89; refine (words_Times.at_ _ x0 x1 x2 10 HX.out.1 HX.out.2.1 HX.out.2.2 ⟨by decide, by decide⟩).mono ?_; rw [HUE.out, HY.out.1, HY.out.2.1, HY.out.2.2.1, HY.out.2.2.2]; rintro e wa ⟨rfl, hb⟩; have P2 := am (blk_below N2.out hb); have P4 := am (blk_below N4.out hb); have PI := am (blk_below hit2 hb); have PB := am (below_then NB.out NB.out.size hb); have PL2 := am (blk_lt (blk_below N2.out hb)); have PL4 := am (blk_lt (blk_below N4.out hb)); have PLI := am (blk_lt (blk_below hit2 hb)); clear hb) | ((with_reducible refine gate_store (t := 86) (p := 8) rfl ?_); refine seg.list rfl rfl 86 (.tmp 8) _ rfl 86 wa.heap.size 0 #[.int .u32 0, .int .u32 0, .int .u32 0] #[.int .u32 y0, .int .u32 y1, .int .u32 y2] [.int .u32 y0, .int .u32 y1, .int .u32 y2] rfl rfl (by kernel_rfl) (by simp [Value.oneCell']) (blk_new wa _) (by simp) rfl ?_; intro wb b8 hg; have Q8 := am b8; have Q2 := am (seg.far (blk_alloc P2.out _) hg (Nat.ne_of_lt PL2.out)); have Q4 := am (seg.far (blk_alloc P4.out _) hg (Nat.ne_of_lt PL4.out)); have QI := am (seg.far (blk_alloc PI.out _) hg (Nat.ne_of_lt PLI.out)); have QB := am (seg.below (below_alloc PB.out _) hg PB.out.size); clear b8 hg))
          clear x0_ x1_ x2_
          have y0_ : wb.cell? ⟨wa.heap.size, 0, none⟩ = some (.int .u32 y0) := (blk_cell Q8.out 0).trans rfl
          have y1_ : wb.cell? ⟨wa.heap.size, 1, none⟩ = some (.int .u32 y1) := (blk_cell Q8.out 1).trans rfl
          have y2_ : wb.cell? ⟨wa.heap.size, 2, none⟩ = some (.int .u32 y2) := (blk_cell Q8.out 2).trans rfl
          go_upto_region 14 with (first | (go_at_call 90; refine (words_Plus.at_ _ y0 y1 y2 dg HYB.out.1 HYB.out.2.1 HYB.out.2.2 HDG.out).mono ?_; rw [HYE.out, HZ.out.1, HZ.out.2.1, HZ.out.2.2.1, HZ.out.2.2.2]; rintro e wc ⟨rfl, hb⟩; have R2 := am (blk_below Q2.out hb); have R4 := am (blk_below Q4.out hb); have RI := am (blk_below QI.out hb); have R8 := am (blk_below Q8.out hb); have RB := am (below_then QB.out QB.out.size hb); clear hb) | ((with_reducible refine gate_store (t := 86) (p := 8) rfl ?_); refine seg.list rfl rfl 86 (.tmp 8) _ rfl 86 wa.heap.size 0 #[.int .u32 y0, .int .u32 y1, .int .u32 y2] #[.int .u32 z0, .int .u32 z1, .int .u32 z2] [.int .u32 z0, .int .u32 z1, .int .u32 z2] rfl rfl (by kernel_rfl) (by simp [Value.oneCell']) R8.out (by simp) rfl ?_; intro wd b8 hg; have S8 := am b8; have S2 := am (seg.far R2.out hg (Nat.ne_of_lt PL2.out)); have S4 := am (seg.far R4.out hg (Nat.ne_of_lt PL4.out)); have SI := am (seg.far RI.out hg (Nat.ne_of_lt PLI.out)); have SB := am (seg.below RB.out hg PB.out.size); clear b8 hg))
          clear y0_ y1_ y2_
          have z0_ : wd.cell? ⟨wa.heap.size, 0, none⟩ = some (.int .u32 z0) := (blk_cell S8.out 0).trans rfl
          have z1_ : wd.cell? ⟨wa.heap.size, 1, none⟩ = some (.int .u32 z1) := (blk_cell S8.out 1).trans rfl
          have z2_ : wd.cell? ⟨wa.heap.size, 2, none⟩ = some (.int .u32 z2) := (blk_cell S8.out 2).trans rfl
          go_wp2_with ((with_reducible refine gate_store (t := 86) (p := 4) rfl ?_); refine seg.list rfl rfl 86 (.tmp 4) _ rfl 86 (w.heap.size + 1) 0 #[.int .u32 x0, .int .u32 x1, .int .u32 x2] #[.int .u32 z0, .int .u32 z1, .int .u32 z2] [.int .u32 z0, .int .u32 z1, .int .u32 z2] rfl rfl (by kernel_rfl) (by simp [Value.oneCell']) S4.out (by simp) rfl ?_; intro we b4 hg; have T4 := am b4; have T2 := am (seg.far S2.out hg (by omega)); have TI := am (seg.far SI.out hg (by omega)); have TB := am (seg.below SB.out hg (by omega)); clear b4 hg)
          clear z0_ z1_ z2_
          go_roundg (m - (p + 1))
          case measure => have := HPM.out; have := HKP.out.1; omega
          case rel =>
            exact ⟨p + 1, z0, z1, z2, true, by first | rfl | simp [], ⟨HPM.out.2, rfl⟩, HZB, ⟨(decide_eq_true (show 79228162514264337593543950336 ≤ rdV s (p + 1) by rw [← HOV.out]; first | exact .inl rfl | exact .inl trivial)).symm, fun h => by cases h⟩, TI.out, T4, T2, TB⟩
      · obtain rfl : p = m := by have := HP.out.1; omega
        rcases HMM.out.2.2.2.2.1 with he | ⟨hlt, hbad⟩
        · have hnx : ∀ ty, (Instr.next (.pointer (some ⟨w.heap.size + 1 + 1, 0, none⟩)) true ty).run Tryz.prog wr = _ := fun ty => Lib.run_next_end_at wr (w.heap.size + 1 + 1) s p ty hit (by omega)
          obtain ⟨hd1, hd2, hd3⟩ := HMM.out.2.2.2.2.2
          rcases hob : ov with _ | _
          · have hlt : rdV s p < 79228162514264337593543950336 := by
              have h1 := HV.out.1
              rw [hob] at h1
              have := of_decide_eq_false h1.symm
              omega
            have hv := HV.out.2 hob
            have hx := HX.out
            obtain ⟨a0, a1, a2, a3⟩ := hd3 he hlt
            have e0 : d0 = x0 := by rw [a0, ← hv]; simp only [wval]; omega
            have e1 : d1 = x1 := by rw [a1, ← hv]; simp only [wval]; omega
            have e2 : d2 = x2 := by rw [a2, ← hv]; simp only [wval]; omega
            have hx0_ : wr.cell? ⟨w.heap.size + 1, 0, none⟩ = some (.int .u32 x0) := (blk_cell J4.out 0).trans rfl
            have hx1_ : wr.cell? ⟨w.heap.size + 1, 1, none⟩ = some (.int .u32 x1) := (blk_cell J4.out 1).trans rfl
            have hx2_ : wr.cell? ⟨w.heap.size + 1, 2, none⟩ = some (.int .u32 x2) := (blk_cell J4.out 2).trans rfl
            have HE := am (And.intro e0 (And.intro e1 (And.intro e2 a3)))
            subst hob
            clear e0 e1 e2 a0 a1 a2 a3 hx hv hlt hd1 hd2 hd3 he hit hpm
            go_wp2_with ((with_reducible refine gate_store (t := 86) (p := 2) rfl ?_); refine seg.list rfl rfl 86 (.tmp 2) _ rfl 86 w.heap.size 0 #[.int .u32 0, .int .u32 0, .int .u32 0] #[.int .u32 x0, .int .u32 x1, .int .u32 x2] [.int .u32 x0, .int .u32 x1, .int .u32 x2] rfl rfl (by kernel_rfl) (by simp [Value.oneCell']) J2.out (by simp) rfl ?_; intro w9 bx hgr)
            refine bodyPost_ret (results_ct (p := 2) (u := 3) rfl _ w9 w.heap.size 86 _ (0, 0) _ rfl bx Tryz.underlying86 rfl (by kernel_rfl)) rfl ?_
            exact ⟨by rw [HE.out.1, HE.out.2.1, HE.out.2.2.1, HE.out.2.2.2]; rfl, seg.below HB.out hgr (Nat.le_refl _)⟩
          · have hge : 79228162514264337593543950336 ≤ rdV s p := by
              have h1 := HV.out.1
              rw [hob] at h1
              exact of_decide_eq_true h1.symm
            have HE := am (hd2 he hge)
            subst hob
            clear hge hd1 hd2 hd3 he hit hpm
            go_wp2_with ((with_reducible refine gate_store (t := 86) (p := 2) rfl ?_); refine seg.list rfl rfl 86 (.tmp 2) _ rfl 86 w.heap.size 0 #[.int .u32 0, .int .u32 0, .int .u32 0] #[.int .u32 0, .int .u32 0, .int .u32 0] [.int .u32 0, .int .u32 0, .int .u32 0] rfl rfl (by kernel_rfl) (by simp [Value.oneCell']) J2.out (by simp) rfl ?_; intro w9 bx hgr)
            refine bodyPost_ret (results_ct (p := 2) (u := 3) rfl _ w9 w.heap.size 86 _ (0, 0) _ rfl bx Tryz.underlying86 rfl (by kernel_rfl)) rfl ?_
            exact ⟨by rw [HE.out.1, HE.out.2.1, HE.out.2.2.1, HE.out.2.2.2]; rfl, seg.below HB.out hgr (Nat.le_refl _)⟩
        · have hnx : ∀ ty, (Instr.next (.pointer (some ⟨w.heap.size + 1 + 1, 0, none⟩)) true ty).run Tryz.prog wr = _ := fun ty => Lib.run_next_any_at wr (w.heap.size + 1 + 1) s p ty hit hlt
          have hit2 := Lib.iterAt_heap wr (w.heap.size + 1 + 1) s p (p + (Utf8.decode s p).2) hit
          have NB' := Lib.below_iterAt HB.out (k := w.heap.size + 1 + 1) (by omega) s (p + (Utf8.decode s p).2)
          have N4' := (Lib.iterAt_other wr (w.heap.size + 1 + 1) (w.heap.size + 1) s (p + (Utf8.decode s p).2) (by omega)).trans J4.out
          have N2' := (Lib.iterAt_other wr (w.heap.size + 1 + 1) w.heap.size s (p + (Utf8.decode s p).2) (by omega)).trans J2.out
          have hrn := rd_no s p hlt hbad
          have HE := am (HMM.out.2.2.2.2.2.1 hlt)
          obtain ⟨W1, hW1⟩ : ∃ W1, W1 = wr.iterAt (w.heap.size + 1 + 1) s (p + (Utf8.decode s p).2) := ⟨_, rfl⟩
          rw [← hW1] at hnx hit2 NB' N4' N2'
          obtain ⟨c, hc⟩ : ∃ c, (Utf8.decode s p).1 = c := ⟨_, rfl⟩
          rw [hc] at hnx hrn
          have N2 := am N2'
          have NB := am NB'
          rcases hrn with hr | hr
          · have t1 : decide ((c : Int) < 48) = true := decide_eq_true hr
            have t1n : decide (c < 48) = true := decide_eq_true (by omega)
            clear hr hc hW1 hit hlt hbad NB' N4' N2' hpm
            go_wp2_with ((with_reducible refine gate_store (t := 86) (p := 2) rfl ?_); refine seg.list rfl rfl 86 (.tmp 2) _ rfl 86 w.heap.size 0 #[.int .u32 0, .int .u32 0, .int .u32 0] #[.int .u32 0, .int .u32 0, .int .u32 0] [.int .u32 0, .int .u32 0, .int .u32 0] rfl rfl (by kernel_rfl) (by simp [Value.oneCell']) N2.out (by simp) rfl ?_; intro w9 bx hgr)
            refine bodyPost_ret (results_ct (p := 2) (u := 3) rfl _ w9 w.heap.size 86 _ (0, 0) _ rfl bx Tryz.underlying86 rfl (by kernel_rfl)) rfl ?_
            exact ⟨by rw [HE.out.1, HE.out.2.1, HE.out.2.2.1, HE.out.2.2.2]; rfl, seg.below NB.out hgr (Nat.le_refl _)⟩
          · have t1 : decide ((c : Int) < 48) = false := decide_eq_false (by omega)
            have t1n : decide (c < 48) = false := decide_eq_false (by omega)
            have t2 : decide ((c : Int) > 57) = true := decide_eq_true hr
            have t2n : decide (57 < c) = true := decide_eq_true (by omega)
            clear hr hc hW1 hit hlt hbad NB' N4' N2' hpm
            go_wp2_with ((with_reducible refine gate_store (t := 86) (p := 2) rfl ?_); refine seg.list rfl rfl 86 (.tmp 2) _ rfl 86 w.heap.size 0 #[.int .u32 0, .int .u32 0, .int .u32 0] #[.int .u32 0, .int .u32 0, .int .u32 0] [.int .u32 0, .int .u32 0, .int .u32 0] rfl rfl (by kernel_rfl) (by simp [Value.oneCell']) N2.out (by simp) rfl ?_; intro w9 bx hgr)
            refine bodyPost_ret (results_ct (p := 2) (u := 3) rfl _ w9 w.heap.size 86 _ (0, 0) _ rfl bx Tryz.underlying86 rfl (by kernel_rfl)) rfl ?_
            exact ⟨by rw [HE.out.1, HE.out.2.1, HE.out.2.2.1, HE.out.2.2.2]; rfl, seg.below NB.out hgr (Nat.le_refl _)⟩
    )

structure Only (z : Nat) (w w' : World) : Prop where
  os : w'.os = w.os
  tape : w'.tape = w.tape
  output : w'.output = w.output
  size : w.heap.size ≤ w'.heap.size
  block : ∀ k, k < w.heap.size → k ≠ z → w'.heap[k]? = w.heap[k]?
theorem Only.refl (z : Nat) (w : World) : Only z w w := ⟨rfl, rfl, rfl, Nat.le_refl _, fun _ _ _ => rfl⟩
theorem Only.trans {z : Nat} {a b c : World} (h : Only z a b) (k : Only z b c) : Only z a c :=
  ⟨k.os.trans h.os, k.tape.trans h.tape, k.output.trans h.output, Nat.le_trans h.size k.size, fun i hi hne => (k.block i (Nat.lt_of_lt_of_le hi h.size) hne).trans (h.block i hi hne)⟩
theorem Only.of_below {z : Nat} {a b : World} (h : Below a.heap.size a b) : Only z a b := ⟨h.os, h.tape, h.output, h.size, fun k hk _ => h.block k hk⟩
theorem Only.below {z : Nat} {a b c : World} (h : Below a.heap.size a b) (k : Only z b c) (hz : a.heap.size ≤ z) : Below a.heap.size a c :=
  ⟨k.os.trans h.os, k.tape.trans h.tape, k.output.trans h.output, Nat.le_trans h.size k.size, fun i hi => (k.block i (Nat.lt_of_lt_of_le hi h.size) (by omega)).trans (h.block i hi)⟩
theorem Only.set {z : Nat} {a b : World} (h : Only z a b) (i : Nat) (u : Value) : Only z a (b.setCell ⟨z, i, none⟩ u) :=
  ⟨h.os, h.tape, h.output, by simpa [World.setCell] using h.size, fun k hk hne => (Below.heap_setCell b ⟨z, i, none⟩ u k hne).trans (h.block k hk hne)⟩
theorem Only.drew {z : Nat} {a b : World} (h : Only z a b) (n : Nat) : Only z a (b.drewN n) := ⟨h.os, h.tape, h.output, h.size, h.block⟩
/-- A second's writes behind the first's: where the second's block is the first's, or new. -/
theorem Only.then_ {z z' : Nat} {a b c : World} (h : Only z a b) (k : Only z' b c) (hz : z' = z ∨ a.heap.size ≤ z') : Only z a c :=
  ⟨k.os.trans h.os, k.tape.trans h.tape, k.output.trans h.output, Nat.le_trans h.size k.size, fun i hi hne => (k.block i (Nat.lt_of_lt_of_le hi h.size) (by rcases hz with rfl | hz <;> omega)).trans (h.block i hi hne)⟩

theorem tp_dw (p : UInt8 → Bool) : ∀ l : List UInt8, ∃ k, k ≤ l.length ∧ l.dropWhile p = l.drop k ∧ (∀ j, j < k → ∃ x, l[j]? = some x ∧ p x = true) ∧ (k = l.length ∨ ∃ x, l[k]? = some x ∧ p x = false)
  | [] => ⟨0, Nat.le_refl _, rfl, fun j hj => absurd hj (Nat.not_lt_zero _), .inl rfl⟩
  | a :: l => by
    cases h : p a
    · exact ⟨0, Nat.zero_le _, by simp [List.dropWhile, h], fun j hj => absurd hj (Nat.not_lt_zero _), .inr ⟨a, rfl, h⟩⟩
    · obtain ⟨k, h1, h2, h3, h4⟩ := tp_dw p l
      refine ⟨k + 1, by simp; omega, by simp [List.dropWhile, h, h2], fun j hj => ?_, ?_⟩
      · cases j with
        | zero => exact ⟨a, rfl, h⟩
        | succ j => simpa using h3 j (by omega)
      · rcases h4 with h4 | ⟨x, h4, h5⟩
        · exact .inl (by simp [h4])
        · exact .inr ⟨x, by simpa using h4, h5⟩
def rdAll (s : ByteArray) : Nat → Bool
  | 0 => true
  | n + 1 => rdAll s n && decide (48 ≤ bt s (n : Int) ∧ bt s (n : Int) ≤ 57)
theorem rdAll_ok {s : ByteArray} : ∀ {n : Nat}, rdAll s n = true → ∀ j, j < n → rdOk s j
  | n + 1, h, j, hj => by
    simp only [rdAll, Bool.and_eq_true, decide_eq_true_eq] at h
    rcases Nat.lt_or_eq_of_le (Nat.le_of_lt_succ hj) with g | g
    · exact rdAll_ok h.1 j g
    · subst g; exact h.2
theorem rdAll_no {s : ByteArray} : ∀ {n : Nat}, rdAll s n = false → ∃ m, m < n ∧ (∀ j, j < m → rdOk s j) ∧ ¬ rdOk s m
  | n + 1, h => by
    cases h1 : rdAll s n
    · obtain ⟨m, a, b, c⟩ := rdAll_no h1
      exact ⟨m, by omega, b, c⟩
    · simp only [rdAll, h1, Bool.true_and, decide_eq_false_iff_not] at h
      exact ⟨n, Nat.lt_succ_self _, rdAll_ok h1, h⟩
theorem bt_ext (s : ByteArray) (k n i : Nat) (hn : n ≤ s.size) (hi : k + i < n) : bt (s.extract k n) (i : Int) = bt s ((k + i : Nat) : Int) := by
  have h1 : i < (s.extract k n).size := by simp; omega
  rw [btr_nat _ i h1, btr_nat s (k + i) (by omega)]
  rw [ByteArray.getElem_extract]
theorem rdV_zero {s : ByteArray} : ∀ {k : Nat}, (∀ j, j < k → bt s (j : Int) = 48) → rdV s k = 0
  | 0, _ => rfl
  | k + 1, h => by
    simp only [rdV]
    rw [rdV_zero (fun j hj => h j (by omega)), h k (Nat.lt_succ_self _)]
    rfl
theorem rdV_ext {s : ByteArray} {k n : Nat} (hn : n ≤ s.size) (hz : ∀ j, j < k → bt s (j : Int) = 48) : ∀ m, k + m ≤ n → rdV (s.extract k n) m = rdV s (k + m)
  | 0, _ => by rw [Nat.add_zero, rdV_zero hz]; rfl
  | m + 1, h => by
    simp only [rdV]
    rw [rdV_ext hn hz m (by omega), bt_ext s k n m hn (by omega)]
    rfl
theorem tp_bare {s : ByteArray} (hs : s.size = 20) (hok : ∀ j, j < 20 → rdOk s j) : ∃ k, k ≤ 19 ∧ (⟨(Lib.trimLeftB (s.extract 0 19).data.toList 48).toArray⟩ : ByteArray) ++ s.extract 19 20 = s.extract k 20 ∧ (∀ j, j < k → bt s (j : Int) = 48) ∧ (k = 19 ∨ bt s (k : Int) ≠ 48) := by
  have hl : (s.extract 0 19).data.toList.length = 19 := by simp; omega
  obtain ⟨k, h1, h2, h3, h4⟩ := tp_dw (· == 48) (s.extract 0 19).data.toList
  have hat : ∀ j : Nat, j < 19 → ∃ x : UInt8, (s.extract 0 19).data.toList[j]? = some x ∧ bt s ((j : Nat) : Int) = (x.toNat : Int) := by
    intro j hj
    have h5 : j < (s.extract 0 19).size := by simp; omega
    refine ⟨(s.extract 0 19)[j], ?_, ?_⟩
    · rw [List.getElem?_eq_getElem (by omega)]; simp [ByteArray.getElem_eq_getElem_data]
    · have e1 := bt_ext s 0 19 j (by omega) (by omega)
      rw [Nat.zero_add] at e1
      rw [← e1, btr_nat _ j h5]
  refine ⟨k, by omega, ?_, fun j hj => ?_, ?_⟩
  · unfold Lib.trimLeftB
    rw [h2]
    apply ByteArray.ext; apply Array.ext'
    have hd : s.data.toList.length = 20 := by simpa using hs
    simp
    generalize s.data.toList = L at hd
    rw [List.take_of_length_le (l := L.drop 19) (by simp; omega), List.take_of_length_le (l := L.drop k) (by simp; omega)]
    conv => rhs; rw [← List.take_append_drop 19 L, List.drop_append]
    rw [List.length_take, show k - min 19 L.length = 0 by omega, List.drop_zero]
  · obtain ⟨x, hx, hp⟩ := h3 j hj
    obtain ⟨y, hy, hb⟩ := hat j (by omega)
    rw [hx] at hy
    obtain rfl := Option.some.inj hy
    have : x = 48 := by simpa using hp
    rw [hb, this]; rfl
  · rcases h4 with h4 | ⟨x, hx, hp⟩
    · exact .inl (by omega)
    · by_cases hk : k < 19
      · obtain ⟨y, hy, hb⟩ := hat k hk
        rw [hx] at hy
        obtain rfl := Option.some.inj hy
        refine .inr (fun h => ?_)
        have : x ≠ 48 := by simpa using hp
        rw [hb] at h
        exact this (by apply UInt8.toNat_inj.1; have : (48 : UInt8).toNat = 48 := rfl; omega)
      · exact .inl (by omega)
theorem tp_V {s : ByteArray} (hok : ∀ j, j < 20 → rdOk s j) : 0 ≤ rdV s 20 ∧ rdV s 20 < 100000000000000000000 := by
  have h1 := rdV_lt hok
  have h2 : ((10 : Int) ^ 20) = 100000000000000000000 := by decide
  rw [h2] at h1
  exact ⟨rdV_pos hok, h1⟩
def TpEnd (ft : Int → Int → Int → Int → Option Int) (V r1 r2 r3 r4 er : Int) : Prop :=
  (73786976294838206464 ≤ V → r1 = 0 ∧ r2 = 0 ∧ r3 = 0 ∧ r4 = 0 ∧ er = 2) ∧
  (V < 73786976294838206464 → V % 97 ≠ 0 → r1 = 0 ∧ r2 = 0 ∧ r3 = 0 ∧ r4 = 0 ∧ er = 8) ∧
  (V < 73786976294838206464 → V % 97 = 0 → 576460752303423488 ≤ V / 97 → r1 = 0 ∧ r2 = 0 ∧ r3 = 0 ∧ r4 = 0 ∧ er = 2) ∧
  (V < 73786976294838206464 → V % 97 = 0 → V / 97 < 576460752303423488 → ∃ fe, ft (V / 97 / 144115188075855872) (V / 97 / 137438953472 % 1048576) (V / 97 / 65536 % 2097152) (V / 97 % 65536) = some fe ∧
    (fe ≠ 0 → r1 = 0 ∧ r2 = 0 ∧ r3 = 0 ∧ r4 = 0 ∧ er = 2) ∧ (fe = 0 → r1 = V / 97 / 144115188075855872 ∧ r2 = V / 97 / 137438953472 % 1048576 ∧ r3 = V / 97 / 65536 % 2097152 ∧ r4 = V / 97 % 65536 ∧ er = 0))

theorem tp_read {s : ByteArray} (hs : s.size = 20) (hok : ∀ j, j < 20 → rdOk s j) : ∃ b : ByteArray, (⟨(Lib.trimLeftB (s.extract 0 19).data.toList 48).toArray⟩ : ByteArray) ++ s.extract 19 20 = b ∧ b.size ≤ 20 ∧ ∀ W : World, Calls Tryz.prog 54 #[.string b] W fun e w' => e = .returned (.tuple #[.agg #[.int .u32 (rdV s 20 % 4294967296), .int .u32 (rdV s 20 / 4294967296 % 4294967296), .int .u32 (rdV s 20 / 18446744073709551616 % 4294967296)], .int .i64 0]) ∧ Below W.heap.size W w' := by
  obtain ⟨k, hk, hb, hz, hn⟩ := tp_bare hs hok
  have hsz : (s.extract k 20).size = 20 - k := by rw [ByteArray.size_extract]; omega
  have hv := rdV_ext (s := s) (k := k) (n := 20) (by omega) hz (20 - k) (by omega)
  rw [show k + (20 - k) = 20 by omega] at hv
  have hV := tp_V hok
  refine ⟨_, hb, by omega, fun W => words_Read.loop W (s.extract k 20) (by omega) (by omega) ?_ (s.extract k 20).size (Nat.le_refl _) ?_ (.inl rfl) _ _ _ _ ⟨fun h => absurd h (Nat.lt_irrefl _), fun _ h => ?_, fun _ _ => ?_⟩⟩
  · rintro ⟨h1, h2⟩
    have e := bt_ext s k 20 0 (by omega) (by omega)
    have h2' : bt (s.extract k 20) ((0 : Nat) : Int) = 48 := h2
    rw [e, Nat.add_zero] at h2'
    rcases hn with hn | hn
    · omega
    · exact hn h2'
  · intro j hj
    have := hok (k + j) (by omega)
    unfold rdOk at this ⊢
    rw [bt_ext s k 20 j (by omega) (by omega)]
    exact this
  · rw [hsz, hv] at h; omega
  · rw [hsz, hv]; exact ⟨rfl, rfl, rfl, rfl⟩
theorem tp_x2 {V : Int} (h : 0 ≤ V ∧ V < 100000000000000000000) : (4 ≤ V / 18446744073709551616 % 4294967296) = (73786976294838206464 ≤ V) := by
  have h1 : V / 18446744073709551616 < 4294967296 := by omega
  have h0 : 0 ≤ V / 18446744073709551616 := by omega
  rw [Int.emod_eq_of_lt h0 h1]
  exact propext ⟨fun g => by omega, fun g => by omega⟩
theorem tp_wv {V : Int} (h : 0 ≤ V ∧ V < 100000000000000000000) : wval [V % 4294967296, V / 4294967296 % 4294967296, V / 18446744073709551616 % 4294967296] = V := by
  rw [rd_val h.1]
  exact Int.emod_eq_of_lt h.1 (by omega)
set_option maxHeartbeats 4000000 in
set_option maxRecDepth 100000 in
theorem token_field.at_ (w : World) (w0 w1 w2 : Int) (h0 : 0 ≤ w0 ∧ w0 < 4294967296) (h1 : 0 ≤ w1 ∧ w1 < 4294967296) (h2 : 0 ≤ w2 ∧ w2 < 4294967296) (g : Nat) (T : TypeId) (lo n : Nat) (hg : w.heap[g]? = some (.cells #[.int .i64 (lo : Int)] T (0, 0))) (hn : 1 ≤ n) (hn2 : n ≤ 32) (hl : lo + n ≤ 96) :
    Calls Tryz.prog 56 #[.agg #[.int .u32 w0, .int .u32 w1, .int .u32 w2], .pointer (some ⟨g, 0, none⟩), .int .i64 (n : Int)] w fun e w' => e = .returned (.int .i64 (wval [w0, w1, w2] / 2 ^ lo % 2 ^ n)) ∧ w'.heap[g]? = some (.cells #[.int .i64 ((lo + n : Nat) : Int)] T (0, 0)) ∧ Only g w w' := by
  have hgl := blk_lt hg
  have HV : Aside0 (0 ≤ wval [w0, w1, w2] / 2 ^ lo % 2 ^ n ∧ wval [w0, w1, w2] / 2 ^ lo % 2 ^ n < 4294967296) := ⟨by
    have a := Int.emod_nonneg (wval [w0, w1, w2] / 2 ^ lo) (show (2 : Int) ^ n ≠ 0 from Int.ne_of_gt (Int.pow_pos (by decide)))
    have b := Int.emod_lt_of_pos (wval [w0, w1, w2] / 2 ^ lo) (show (0 : Int) < 2 ^ n from Int.pow_pos (by decide))
    have c := Nat.pow_le_pow_right (n := 2) (by decide) hn2
    have d := Int.ofNat_le.2 c
    rw [Int.natCast_pow, Int.natCast_pow] at d
    have e : (2 : Int) ^ n ≤ 4294967296 := d
    exact ⟨a, Int.lt_of_lt_of_le b e⟩⟩
  have HB := am (fun W : World => words_Bits.at_ W w0 w1 w2 h0 h1 h2 lo n hn (by omega) hl)
  obtain ⟨v, hv⟩ : ∃ v, wval [w0, w1, w2] / 2 ^ lo % 2 ^ n = v := ⟨_, rfl⟩
  rw [hv] at HV HB ⊢
  have hv2 : wrap64 v = v := by have := HV.out; unfold wrap64; omega
  have hv3 : IntKind.i64.wrap v = v := by rw [Go.IntKind.wrap_i64]; have := HV.out; omega
  have hlw : wrap64 ((lo : Int) + (n : Int)) = ((lo + n : Nat) : Int) := by unfold wrap64; omega
  have HLW := am hlw
  have G1 := am (blk_alloc hg (.cells #[.int .u32 w0, .int .u32 w1, .int .u32 w2] 86))
  have K1 := am (blk_new w (.cells #[.int .u32 w0, .int .u32 w1, .int .u32 w2] 86))
  have y0 : (w.alloc (.cells #[.int .u32 w0, .int .u32 w1, .int .u32 w2] 86)).cell? ⟨g, 0, none⟩ = some (.int .i64 (lo : Int)) := (blk_cell G1.out 0).trans rfl
  have HO := am (Only.of_below (z := g) (below_alloc (Below.refl w.heap.size w) (.cells #[.int .u32 w0, .int .u32 w1, .int .u32 w2] 86)))
  clear hv h0 h1 h2 hg hlw
  go_enter Tryz.func56, Tryz.ntmps56
  go_wp2
  refine start_ (n := 11) (S := fun w' => w'.cell? ⟨w.heap.size, 0, none⟩ = some (Value.int .u32 w0) ∧ w'.cell? ⟨w.heap.size, 1, none⟩ = some (Value.int .u32 w1) ∧ w'.cell? ⟨w.heap.size, 2, none⟩ = some (Value.int .u32 w2) ∧ w'.cell? ⟨g, 0, none⟩ = some (Value.int .i64 (lo : Int))) (ds := []) #[false, false, false, false, false, false, false, false, false, false, false] (by kernel_rfl) rfl rfl ⟨(blk_cell (blk_drew K1.out) 0).trans rfl, (blk_cell (blk_drew K1.out) 1).trans rfl, (blk_cell (blk_drew K1.out) 2).trans rfl, (blk_cell (blk_drew G1.out) 0).trans rfl⟩ (fun hHeld => ?_)
  refine czpp 1 11 ?_
  refine czpp 2 12 ?_
  refine czpp 4 14 ?_
  refine cztk 0 10 ?_
  refine cztk 3 13 ?_
  refine one_ (i := 5) (N := some 15) #[true, true, true, true, true, true, false, false, false, false, false] rfl rfl (by kernel_rfl) (by decide) (fun K hK => ?_)
  refine goes_ Tryz.func57 (by kernel_rfl) rfl #[.agg #[.int .u32 w0, .int .u32 w1, .int .u32 w2], .int .i64 (lo : Int), .int .i64 (n : Int)] (by rfl) rfl rfl (by (try simp only [List.map_toArray, List.map_cons, List.map_nil]); first | done | rfl) ?_
  with_reducible refine (HB.out _).mono ?_
  rintro e wa ⟨rfl, hb⟩
  refine ⟨_, rfl, ?_⟩
  have G2 := am (blk_below (blk_drew G1.out) hb)
  have K2 := am (blk_below (blk_drew K1.out) hb)
  have HO2 := am (Only.trans (Only.drew HO.out 1) (Only.of_below (z := g) hb))
  clear hb
  refine hK.out _ _ ⟨(blk_cell K2.out 0).trans rfl, (blk_cell K2.out 1).trans rfl, (blk_cell K2.out 2).trans rfl, (blk_cell G2.out 0).trans rfl⟩ (fun hHeld => ?_)
  clear hK K
  refine norm_ (a' := ?_) ?_ ?_
  rotate_left
  · show Act.put _ (some 15) _ = _
    simp only [Act.put, List.setIfInBounds_toArray, List.set_cons_zero, List.set_cons_succ, i64_w, i32_w]
    rfl
  refine czpp 6 9 ?_
  refine czpp 7 16 ?_
  refine czpp 8 17 ?_
  refine czpp 9 7 ?_
  refine czpp 10 8 ?_
  refine done_ (by kernel_rfl) ?_
  have z0 : wa.cell? ⟨g, 0, none⟩ = some (.int .i64 (lo : Int)) := (blk_cell G2.out 0).trans rfl
  have f0 := blk_frozen G2.out 0
  go_wp2
  go_ret
  exact ⟨rfl, by rw [show ((lo : Int) + (n : Int)) = ((lo + n : Nat) : Int) by omega]; exact blk_set G2.out 0 _, Only.set HO2.out 0 _⟩
theorem token_Parse.len (w : World) (s : ByteArray) (h : s.size ≠ 20) :
    Calls Tryz.prog 31 #[.string s] w fun e w' => e = .returned (.tuple #[.agg #[.int .i64 0, .int .i64 0, .int .i64 0, .int .i64 0], .int .i64 6]) ∧ Below w.heap.size w w' := by
  have c1 : ((s.size : Int) == 20) = false := beq_eq_false_iff_ne.mpr (by omega)
  have c2 : ((s.size : Int) != 20) = true := by rw [bne, c1]; rfl
  have c3 : (s.size == 20) = false := beq_eq_false_iff_ne.mpr h
  have HB := am (below_alloc (Below.refl w.heap.size w) (.cells #[.int .i64 0, .int .i64 0, .int .i64 0, .int .i64 0] 67))
  have B2 := am (blk_new w (.cells #[.int .i64 0, .int .i64 0, .int .i64 0, .int .i64 0] 67))
  clear h
  go_enter Tryz.func31, Tryz.ntmps31
  go_wp2_with ((with_reducible refine gate_store (t := 67) (p := 2) rfl ?_); refine seg.list rfl rfl 67 (.tmp 2) _ rfl 67 w.heap.size 0 #[.int .i64 0, .int .i64 0, .int .i64 0, .int .i64 0] #[.int .i64 0, .int .i64 0, .int .i64 0, .int .i64 0] [.int .i64 0, .int .i64 0, .int .i64 0, .int .i64 0] rfl rfl (by kernel_rfl) (by simp [Value.oneCell']) B2.out (by simp) rfl ?_; intro w9 bx hgr)
  refine bodyPost_ret (results_ct (p := 2) (u := 3) rfl _ w9 w.heap.size 67 _ (0, 0) _ rfl bx Tryz.underlying67 rfl (by kernel_rfl)) rfl ?_
  exact ⟨rfl, seg.below HB.out hgr (Nat.le_refl _)⟩
theorem token_Parse.bad (w : World) (s : ByteArray) (hs : s.size = 20) (m : Nat) (hm : m < 20) (hok : ∀ j, j < m → rdOk s j) (hbad : ¬ rdOk s m) :
    Calls Tryz.prog 31 #[.string s] w fun e w' => e = .returned (.tuple #[.agg #[.int .i64 0, .int .i64 0, .int .i64 0, .int .i64 0], .int .i64 7]) ∧ Below w.heap.size w w' := by
  have hu54 := Tryz.underlying86
  have c1 : ((s.size : Int) == 20) = true := by rw [hs]; rfl
  have c2 : ((s.size : Int) != 20) = false := by rw [bne, c1]; rfl
  have c3 : (s.size == 20) = true := by rw [hs]; rfl
  have HB0 := am (below_alloc (Below.refl w.heap.size w) (.cells #[.int .i64 0, .int .i64 0, .int .i64 0, .int .i64 0] 67))
  have B2 := blk_new w (.cells #[.int .i64 0, .int .i64 0, .int .i64 0, .int .i64 0] 67)
  have HB1 := am (HB0.out.alloc HB0.out.size (.stringIter s 0))
  have J2 := am (blk_alloc B2 (.stringIter s 0))
  have hit := World.iter_heap (w.alloc (.cells #[.int .i64 0, .int .i64 0, .int .i64 0, .int .i64 0] 67)) s 0
  rw [World.size_alloc] at hit
  have HIT := am hit
  have HMM := am (And.intro (show m ≤ 20 from Nat.le_of_lt hm) (And.intro hs hok))
  have HBAD := am (And.intro (show m < s.size by omega) hbad)
  clear hs hm hok hbad
  clear hit B2 HB0
  go_enter Tryz.func31, Tryz.ntmps31
  go_wp2
  go_loopg [5] m (fun kq v5 w' => ∃ p : Nat, Aside0 (p ≤ m ∧ kq = m - p) ∧ w'.heap[w.heap.size + 1]? = some (.stringIter s p) ∧ Aside0 (w'.heap[w.heap.size]? = some (.cells #[.int .i64 0, .int .i64 0, .int .i64 0, .int .i64 0] 67 (0, 0))) ∧ Aside0 (Below w.heap.size w w'))
  case atStart => exact ⟨0, ⟨Nat.zero_le _, by omega⟩, HIT.out, J2, HB1⟩
  case round =>
    clear HIT J2 HB1
    obtain ⟨p, HP, hit, J2, HB⟩ := hrel
    by_cases hpm : p < m
    · have hps : p < s.size := by have := HMM.out.1; have := HMM.out.2.1; omega
      have hk : rdOk s p := HMM.out.2.2 p hpm
      have hdc := rd_ok s p hps hk
      have hcc : ((bt s (p : Int)).toNat : Int) = bt s (p : Int) := Int.toNat_of_nonneg (bt_range s p).1
      have hnx : ∀ ty, (Instr.next (.pointer (some ⟨w.heap.size + 1, 0, none⟩)) true ty).run Tryz.prog wr = _ := fun ty => Lib.run_next_any_at wr (w.heap.size + 1) s p ty hit hps
      have hit2 := Lib.iterAt_heap wr (w.heap.size + 1) s p (p + (Utf8.decode s p).2) hit
      have NB' := Lib.below_iterAt HB.out (k := w.heap.size + 1) (by omega) s (p + (Utf8.decode s p).2)
      have N2' := (Lib.iterAt_other wr (w.heap.size + 1) w.heap.size s (p + (Utf8.decode s p).2) (by omega)).trans J2.out
      rw [hdc] at hnx hit2 NB' N2'
      simp only at hnx hit2 NB' N2'
      obtain ⟨W1, hW1⟩ : ∃ W1, W1 = wr.iterAt (w.heap.size + 1) s (p + 1) := ⟨_, rfl⟩
      rw [← hW1] at hnx hit2 NB' N2'
      obtain ⟨c, hc⟩ : ∃ c, (bt s (p : Int)).toNat = c := ⟨_, rfl⟩
      rw [hc] at hnx hcc
      have hcb : 48 ≤ c ∧ c ≤ 57 := by have := hk.1; have := hk.2; omega
      have t1 : decide ((c : Int) < 48) = false := decide_eq_false (by omega)
      have t2 : decide ((c : Int) > 57) = false := decide_eq_false (by omega)
      have t1n : decide (c < 48) = false := decide_eq_false (by omega)
      have t2n : decide (57 < c) = false := decide_eq_false (by omega)
      have N2 := am N2'
      have NB := am NB'
      have HPM := am (show p < m ∧ p + 1 ≤ m from ⟨hpm, hpm⟩)
      clear hW1 hit hps hk hdc hcc hcb hc NB' N2' J2 HB hpm
      go_wp2
      go_roundg (m - (p + 1))
      case measure => have := HPM.out; have := HP.out; omega
      case rel => exact ⟨p + 1, ⟨HPM.out.2, rfl⟩, hit2, N2, NB⟩
    · obtain rfl : p = m := by have := HP.out.1; omega
      have hnx : ∀ ty, (Instr.next (.pointer (some ⟨w.heap.size + 1, 0, none⟩)) true ty).run Tryz.prog wr = _ := fun ty => Lib.run_next_any_at wr (w.heap.size + 1) s p ty hit HBAD.out.1
      have NB' := Lib.below_iterAt HB.out (k := w.heap.size + 1) (by omega) s (p + (Utf8.decode s p).2)
      have N2' := (Lib.iterAt_other wr (w.heap.size + 1) w.heap.size s (p + (Utf8.decode s p).2) (by omega)).trans J2.out
      have hit2 := Lib.iterAt_heap wr (w.heap.size + 1) s p (p + (Utf8.decode s p).2) hit
      have hrn := rd_no s p HBAD.out.1 HBAD.out.2
      obtain ⟨W1, hW1⟩ : ∃ W1, W1 = wr.iterAt (w.heap.size + 1) s (p + (Utf8.decode s p).2) := ⟨_, rfl⟩
      rw [← hW1] at hnx hit2 NB' N2'
      obtain ⟨c, hc⟩ : ∃ c, (Utf8.decode s p).1 = c := ⟨_, rfl⟩
      rw [hc] at hnx hrn
      have N2 := am N2'
      have NB := am NB'
      rcases hrn with hr | hr
      · have t1 : decide ((c : Int) < 48) = true := decide_eq_true hr
        have t1n : decide (c < 48) = true := decide_eq_true (by omega)
        clear hr hc hW1 hit NB' N2' hpm
        go_wp2_with ((with_reducible refine gate_store (t := 67) (p := 2) rfl ?_); refine seg.list rfl rfl 67 (.tmp 2) _ rfl 67 w.heap.size 0 #[.int .i64 0, .int .i64 0, .int .i64 0, .int .i64 0] #[.int .i64 0, .int .i64 0, .int .i64 0, .int .i64 0] [.int .i64 0, .int .i64 0, .int .i64 0, .int .i64 0] rfl rfl (by kernel_rfl) (by simp [Value.oneCell']) N2.out (by simp) rfl ?_; intro w9 bx hgr)
        refine bodyPost_ret (results_ct (p := 2) (u := 3) rfl _ w9 w.heap.size 67 _ (0, 0) _ rfl bx Tryz.underlying67 rfl (by kernel_rfl)) rfl ?_
        exact ⟨rfl, seg.below NB.out hgr (Nat.le_refl _)⟩
      · have t1 : decide ((c : Int) < 48) = false := decide_eq_false (by omega)
        have t1n : decide (c < 48) = false := decide_eq_false (by omega)
        have t2 : decide ((c : Int) > 57) = true := decide_eq_true hr
        have t2n : decide (57 < c) = true := decide_eq_true (by omega)
        clear hr hc hW1 hit NB' N2' hpm
        go_wp2_with ((with_reducible refine gate_store (t := 67) (p := 2) rfl ?_); refine seg.list rfl rfl 67 (.tmp 2) _ rfl 67 w.heap.size 0 #[.int .i64 0, .int .i64 0, .int .i64 0, .int .i64 0] #[.int .i64 0, .int .i64 0, .int .i64 0, .int .i64 0] [.int .i64 0, .int .i64 0, .int .i64 0, .int .i64 0] rfl rfl (by kernel_rfl) (by simp [Value.oneCell']) N2.out (by simp) rfl ?_; intro w9 bx hgr)
        refine bodyPost_ret (results_ct (p := 2) (u := 3) rfl _ w9 w.heap.size 67 _ (0, 0) _ rfl bx Tryz.underlying67 rfl (by kernel_rfl)) rfl ?_
        exact ⟨rfl, seg.below NB.out hgr (Nat.le_refl _)⟩
theorem token_Parse.good (w : World) (s : ByteArray) (hs : s.size = 20) (r1 r2 r3 r4 er : Int) (hok : ∀ j, j < 20 → rdOk s j) (hd : TpEnd token_fault.f (rdV s 20) r1 r2 r3 r4 er) :
    Calls Tryz.prog 31 #[.string s] w fun e w' => e = .returned (.tuple #[.agg #[.int .i64 r1, .int .i64 r2, .int .i64 r3, .int .i64 r4], .int .i64 er]) ∧ Below w.heap.size w w' := by
  have hu54 := Tryz.underlying86
  have c1 : ((s.size : Int) == 20) = true := by rw [hs]; rfl
  have c2 : ((s.size : Int) != 20) = false := by rw [bne, c1]; rfl
  have c3 : (s.size == 20) = true := by rw [hs]; rfl
  have HB0 := am (below_alloc (Below.refl w.heap.size w) (.cells #[.int .i64 0, .int .i64 0, .int .i64 0, .int .i64 0] 67))
  have B2 := blk_new w (.cells #[.int .i64 0, .int .i64 0, .int .i64 0, .int .i64 0] 67)
  have HB1 := am (HB0.out.alloc HB0.out.size (.stringIter s 0))
  have J2 := am (blk_alloc B2 (.stringIter s 0))
  have hit := World.iter_heap (w.alloc (.cells #[.int .i64 0, .int .i64 0, .int .i64 0, .int .i64 0] 67)) s 0
  rw [World.size_alloc] at hit
  have HIT := am hit
  have HMM := am (And.intro (Nat.le_refl 20) (And.intro hs hok))
  have HD := am hd
  have hV := tp_V hok
  obtain ⟨b, hb, hbs, hR⟩ := tp_read hs hok
  obtain ⟨T, hT⟩ : ∃ T, (⟨(Lib.trimLeftB (s.extract 0 19).data.toList 48).toArray⟩ : ByteArray) = T := ⟨_, rfl⟩
  have HTL : Aside0 (∀ W : World, Calls Tryz.prog 53 #[.string (s.extract 0 19), .string ⟨#[48]⟩] W fun e w' => e = .returned (.string T) ∧ Below W.heap.size W w') := ⟨fun W => hT ▸ (Tryz.strings_TrimLeft_one (s.extract 0 19) 48 (by decide) W).mono (fun e w' h => ⟨h.1, h.2 ▸ Below.refl _ _⟩)⟩
  rw [hT] at hb
  have hTs : T.size + 1 ≤ 20 := by rw [← hb, ByteArray.size_append, ByteArray.size_extract] at hbs; omega
  have cT : (9223372036854775807 < T.size + 1) = False := eq_false (by omega)
  clear hTs hT
  obtain ⟨V, hVe⟩ : ∃ V, rdV s 20 = V := ⟨_, rfl⟩
  rw [hVe] at hV hR HD
  obtain ⟨x0, hx0⟩ : ∃ x, V % 4294967296 = x := ⟨_, rfl⟩
  obtain ⟨x1, hx1⟩ : ∃ x, V / 4294967296 % 4294967296 = x := ⟨_, rfl⟩
  obtain ⟨x2, hx2⟩ : ∃ x, V / 18446744073709551616 % 4294967296 = x := ⟨_, rfl⟩
  have hwv : wval [x0, x1, x2] = V := by rw [← hx0, ← hx1, ← hx2]; exact tp_wv hV
  rw [hx0, hx1, hx2] at hR
  have HR := am hR
  obtain ⟨Q, hQ⟩ : ∃ x, V / 97 = x := ⟨_, rfl⟩
  obtain ⟨q0, hq0⟩ : ∃ x, Q % 4294967296 = x := ⟨_, rfl⟩
  obtain ⟨q1, hq1⟩ : ∃ x, Q / 4294967296 % 4294967296 = x := ⟨_, rfl⟩
  obtain ⟨q2, hq2⟩ : ∃ x, Q / 18446744073709551616 % 4294967296 = x := ⟨_, rfl⟩
  obtain ⟨lf, hlf⟩ : ∃ x, V % 97 = x := ⟨_, rfl⟩
  have HOV : Aside0 (∀ W : World, Calls Tryz.prog 55 #[.agg #[.int .u32 x0, .int .u32 x1, .int .u32 x2], .int .u32 97] W fun e w' => e = .returned (.tuple #[.agg #[.int .u32 q0, .int .u32 q1, .int .u32 q2], .int .u32 lf, .int .i64 0]) ∧ Below W.heap.size W w') := ⟨fun W => by
    have h := words_Over.at_ W x0 x1 x2 97 (by omega) (by omega) (by omega) (by decide) (by decide)
    rw [hwv, hQ, hq0, hq1, hq2, hlf] at h
    exact h⟩
  have hqv : wval [q0, q1, q2] = Q := by rw [← hq0, ← hq1, ← hq2]; exact tp_wv (by omega)
  have hqb : (0 ≤ q0 ∧ q0 < 4294967296) ∧ (0 ≤ q1 ∧ q1 < 4294967296) ∧ (0 ≤ q2 ∧ q2 < 4294967296) := by omega
  have hx4 : (4 ≤ x2) = (73786976294838206464 ≤ V) := by rw [← hx2]; exact tp_x2 hV
  obtain ⟨f0, hf0⟩ : ∃ x, Q / 1 % 65536 = x := ⟨_, rfl⟩
  have HF0 : Aside0 (∀ (W : World) (g : Nat), W.heap[g]? = some (.cells #[.int .i64 0] 3 (0, 0)) → Calls Tryz.prog 56 #[.agg #[.int .u32 q0, .int .u32 q1, .int .u32 q2], .pointer (some ⟨g, 0, none⟩), .int .i64 16] W fun e w' => e = .returned (.int .i64 f0) ∧ w'.heap[g]? = some (.cells #[.int .i64 16] 3 (0, 0)) ∧ Only g W w') := ⟨fun W g hg => by
    have h := token_field.at_ W q0 q1 q2 hqb.1 hqb.2.1 hqb.2.2 g 3 0 16 hg (by decide) (by decide) (by decide)
    rw [hqv, show (2 : Int) ^ 0 = 1 by decide, show (2 : Int) ^ 16 = 65536 by decide, hf0] at h
    exact h⟩
  obtain ⟨f1, hf1⟩ : ∃ x, Q / 65536 % 2097152 = x := ⟨_, rfl⟩
  have HF1 : Aside0 (∀ (W : World) (g : Nat), W.heap[g]? = some (.cells #[.int .i64 16] 3 (0, 0)) → Calls Tryz.prog 56 #[.agg #[.int .u32 q0, .int .u32 q1, .int .u32 q2], .pointer (some ⟨g, 0, none⟩), .int .i64 21] W fun e w' => e = .returned (.int .i64 f1) ∧ w'.heap[g]? = some (.cells #[.int .i64 37] 3 (0, 0)) ∧ Only g W w') := ⟨fun W g hg => by
    have h := token_field.at_ W q0 q1 q2 hqb.1 hqb.2.1 hqb.2.2 g 3 16 21 hg (by decide) (by decide) (by decide)
    rw [hqv, show (2 : Int) ^ 16 = 65536 by decide, show (2 : Int) ^ 21 = 2097152 by decide, hf1] at h
    exact h⟩
  obtain ⟨f2, hf2⟩ : ∃ x, Q / 137438953472 % 1048576 = x := ⟨_, rfl⟩
  have HF2 : Aside0 (∀ (W : World) (g : Nat), W.heap[g]? = some (.cells #[.int .i64 37] 3 (0, 0)) → Calls Tryz.prog 56 #[.agg #[.int .u32 q0, .int .u32 q1, .int .u32 q2], .pointer (some ⟨g, 0, none⟩), .int .i64 20] W fun e w' => e = .returned (.int .i64 f2) ∧ w'.heap[g]? = some (.cells #[.int .i64 57] 3 (0, 0)) ∧ Only g W w') := ⟨fun W g hg => by
    have h := token_field.at_ W q0 q1 q2 hqb.1 hqb.2.1 hqb.2.2 g 3 37 20 hg (by decide) (by decide) (by decide)
    rw [hqv, show (2 : Int) ^ 37 = 137438953472 by decide, show (2 : Int) ^ 20 = 1048576 by decide, hf2] at h
    exact h⟩
  obtain ⟨f3, hf3⟩ : ∃ x, Q / 144115188075855872 % 4 = x := ⟨_, rfl⟩
  have HF3 : Aside0 (∀ (W : World) (g : Nat), W.heap[g]? = some (.cells #[.int .i64 57] 3 (0, 0)) → Calls Tryz.prog 56 #[.agg #[.int .u32 q0, .int .u32 q1, .int .u32 q2], .pointer (some ⟨g, 0, none⟩), .int .i64 2] W fun e w' => e = .returned (.int .i64 f3) ∧ w'.heap[g]? = some (.cells #[.int .i64 59] 3 (0, 0)) ∧ Only g W w') := ⟨fun W g hg => by
    have h := token_field.at_ W q0 q1 q2 hqb.1 hqb.2.1 hqb.2.2 g 3 57 2 hg (by decide) (by decide) (by decide)
    rw [hqv, show (2 : Int) ^ 57 = 144115188075855872 by decide, show (2 : Int) ^ 2 = 4 by decide, hf3] at h
    exact h⟩
  obtain ⟨ab, hab⟩ : ∃ x, Q / 576460752303423488 % 4294967296 = x := ⟨_, rfl⟩
  have HBI : Aside0 (∀ W : World, Calls Tryz.prog 57 #[.agg #[.int .u32 q0, .int .u32 q1, .int .u32 q2], .int .i64 59, .int .i64 32] W fun e w' => e = .returned (.tuple #[.int .u64 ab, .int .i64 0]) ∧ Below W.heap.size W w') := ⟨fun W => by
    have h := words_Bits.at_ W q0 q1 q2 hqb.1 hqb.2.1 hqb.2.2 59 32 (by decide) (by decide) (by decide)
    rw [hqv, show (2 : Int) ^ 59 = 576460752303423488 by decide, show (2 : Int) ^ 32 = 4294967296 by decide, hab] at h
    exact h⟩
  have HVQ := am (And.intro hx4 (And.intro hlf (And.intro hQ (And.intro hf0 (And.intro hf1 (And.intro hf2 (And.intro hf3 hab)))))))
  have HV := am hV
  have HBE := am hb
  clear hs hok hd hV hb hbs hR hVe hx0 hx1 hx2 hwv hQ hq0 hq1 hq2 hlf hqv hqb hx4 hf0 hf1 hf2 hf3 hab
  clear hit B2 HB0
  go_enter Tryz.func31, Tryz.ntmps31
  go_wp2
  go_loopg [5] 20 (fun kq v5 w' => ∃ p : Nat, Aside0 (p ≤ 20 ∧ kq = 20 - p) ∧ w'.heap[w.heap.size + 1]? = some (.stringIter s p) ∧ Aside0 (w'.heap[w.heap.size]? = some (.cells #[.int .i64 0, .int .i64 0, .int .i64 0, .int .i64 0] 67 (0, 0))) ∧ Aside0 (Below w.heap.size w w'))
  case atStart => exact ⟨0, ⟨Nat.zero_le _, by omega⟩, HIT.out, J2, HB1⟩
  case round =>
    clear HIT J2 HB1
    obtain ⟨p, HP, hit, J2, HB⟩ := hrel
    by_cases hpm : p < 20
    · have hps : p < s.size := by have := HMM.out.1; have := HMM.out.2.1; omega
      have hk : rdOk s p := HMM.out.2.2 p hpm
      have hdc := rd_ok s p hps hk
      have hcc : ((bt s (p : Int)).toNat : Int) = bt s (p : Int) := Int.toNat_of_nonneg (bt_range s p).1
      have hnx : ∀ ty, (Instr.next (.pointer (some ⟨w.heap.size + 1, 0, none⟩)) true ty).run Tryz.prog wr = _ := fun ty => Lib.run_next_any_at wr (w.heap.size + 1) s p ty hit hps
      have hit2 := Lib.iterAt_heap wr (w.heap.size + 1) s p (p + (Utf8.decode s p).2) hit
      have NB' := Lib.below_iterAt HB.out (k := w.heap.size + 1) (by omega) s (p + (Utf8.decode s p).2)
      have N2' := (Lib.iterAt_other wr (w.heap.size + 1) w.heap.size s (p + (Utf8.decode s p).2) (by omega)).trans J2.out
      rw [hdc] at hnx hit2 NB' N2'
      simp only at hnx hit2 NB' N2'
      obtain ⟨W1, hW1⟩ : ∃ W1, W1 = wr.iterAt (w.heap.size + 1) s (p + 1) := ⟨_, rfl⟩
      rw [← hW1] at hnx hit2 NB' N2'
      obtain ⟨c, hc⟩ : ∃ c, (bt s (p : Int)).toNat = c := ⟨_, rfl⟩
      rw [hc] at hnx hcc
      have hcb : 48 ≤ c ∧ c ≤ 57 := by have := hk.1; have := hk.2; omega
      have t1 : decide ((c : Int) < 48) = false := decide_eq_false (by omega)
      have t2 : decide ((c : Int) > 57) = false := decide_eq_false (by omega)
      have t1n : decide (c < 48) = false := decide_eq_false (by omega)
      have t2n : decide (57 < c) = false := decide_eq_false (by omega)
      have N2 := am N2'
      have NB := am NB'
      have HPM := am (show p < 20 ∧ p + 1 ≤ 20 from ⟨hpm, hpm⟩)
      clear hW1 hit hps hk hdc hcc hcb hc NB' N2' J2 HB hpm
      go_wp2
      go_roundg (20 - (p + 1))
      case measure => have := HPM.out; have := HP.out; omega
      case rel => exact ⟨p + 1, ⟨HPM.out.2, rfl⟩, hit2, N2, NB⟩
    · obtain rfl : p = 20 := by have := HP.out.1; omega
      have hsz := HMM.out.2.1
      have hnx : ∀ ty, (Instr.next (.pointer (some ⟨w.heap.size + 1, 0, none⟩)) true ty).run Tryz.prog wr = _ := fun ty => Lib.run_next_end_at wr (w.heap.size + 1) s 20 ty hit (by omega)
      have z1 : (0 ≤ (19 : Int) ∧ (19 : Int) ≤ (s.size : Int)) := by omega
      have z2 : ((19 : Int) ≤ (s.size : Int)) = True := eq_true (by omega)
      have z3 : (19 ≤ s.size) = True := eq_true (by omega)
      clear hpm hit
      go_wp2
      refine start_ (n := 7) (S := fun w' => True) (ds := []) #[false, false, false, false, false, false, false] (by kernel_rfl) rfl rfl trivial (fun hHeld => ?_)
      refine czpp 0 32 ?_
      refine czpp 1 33 ?_
      refine czpp 3 35 ?_
      refine czpp 4 36 ?_
      refine one_ (i := 2) (N := some 34) #[true, true, true, true, true, false, false] rfl rfl (by kernel_rfl) (by decide) (fun K hK => ?_)
      refine goes_ Tryz.func53 (by kernel_rfl) rfl #[.string (s.extract 0 19), .string ⟨#[48]⟩] (by rfl) rfl rfl (by (try simp only [List.map_toArray, List.map_cons, List.map_nil]); first | done | rfl) ?_
      with_reducible refine (HTL.out _).mono ?_
      rintro e wa ⟨rfl, hb⟩
      refine ⟨_, rfl, ?_⟩
      have J3 := am (blk_below (blk_drew J2.out) hb)
      have HB3 := am (below_then (below_drew1 HB.out) HB.out.size hb)
      clear hb
      refine hK.out _ _ trivial (fun hHeld => ?_)
      clear hK K
      refine norm_ (a' := ?_) ?_ ?_
      rotate_left
      · show Act.put _ (some 34) _ = _
        simp only [Act.put, List.setIfInBounds_toArray, List.set_cons_zero, List.set_cons_succ, i64_w, i32_w]
        rfl
      refine czpp 5 37 ?_
      refine czpp 6 6 ?_
      refine done_ (by kernel_rfl) ?_
      rw [HBE.out]
      have JL := am (blk_lt J3.out)
      go_upto_region 10 with (first | (go_at_call 54; refine (HR.out _).mono ?_; rintro e wb ⟨rfl, hb⟩; have J4 := am (blk_below J3.out hb); have HB4 := am (below_then HB3.out HB3.out.size hb); clear hb) | ((with_reducible refine gate_store (t := 86) (p := 7) rfl ?_); refine seg.list rfl rfl 86 (.tmp 7) _ rfl 86 wb.heap.size 0 #[.int .u32 0, .int .u32 0, .int .u32 0] #[.int .u32 x0, .int .u32 x1, .int .u32 x2] [.int .u32 x0, .int .u32 x1, .int .u32 x2] rfl rfl (by kernel_rfl) (by simp [Value.oneCell']) (blk_new wb _) (by simp) rfl ?_; intro wc bx hg; have H7 := am bx; have J5 := am (seg.far (blk_alloc J4.out _) hg (Nat.ne_of_lt (blk_lt J4.out))); have HB5 := am (seg.below (below_alloc HB4.out _) hg HB4.out.size); clear bx hg))
      have y0 : wc.cell? ⟨wb.heap.size, 0, none⟩ = some (.int .u32 x0) := (blk_cell H7.out 0).trans rfl
      have y1 : wc.cell? ⟨wb.heap.size, 1, none⟩ = some (.int .u32 x1) := (blk_cell H7.out 1).trans rfl
      have y2 : wc.cell? ⟨wb.heap.size, 2, none⟩ = some (.int .u32 x2) := (blk_cell H7.out 2).trans rfl
      by_cases h66 : 73786976294838206464 ≤ V
      · have g1 : (4 ≤ x2) := by rw [HVQ.out.1]; exact h66
        have g2 : decide (x2 ≥ 4) = true := decide_eq_true g1
        have g3 : decide (4 ≤ x2) = true := decide_eq_true g1
        clear g1
        go_wp2_with ((with_reducible refine gate_store (t := 67) (p := 2) rfl ?_); refine seg.list rfl rfl 67 (.tmp 2) _ rfl 67 w.heap.size 0 #[.int .i64 0, .int .i64 0, .int .i64 0, .int .i64 0] #[.int .i64 0, .int .i64 0, .int .i64 0, .int .i64 0] [.int .i64 0, .int .i64 0, .int .i64 0, .int .i64 0] rfl rfl (by kernel_rfl) (by simp [Value.oneCell']) J5.out (by simp) rfl ?_; intro w9 bx hgr)
        refine bodyPost_ret (results_ct (p := 2) (u := 3) rfl _ w9 w.heap.size 67 _ (0, 0) _ rfl bx Tryz.underlying67 rfl (by kernel_rfl)) rfl ?_
        have he := HD.out.1 h66
        exact ⟨by rw [he.1, he.2.1, he.2.2.1, he.2.2.2.1, he.2.2.2.2]; rfl, seg.below HB5.out hgr (Nat.le_refl _)⟩
      · have g1 : ¬ (4 ≤ x2) := by rw [HVQ.out.1]; exact h66
        have g2 : decide (x2 ≥ 4) = false := decide_eq_false g1
        have g3 : decide (4 ≤ x2) = false := decide_eq_false g1
        have H66 := am (show V < 73786976294838206464 by omega)
        clear g1 h66
        go_upto_region 13 with (first | (go_at_call 55; refine (HOV.out _).mono ?_; rintro e wd ⟨rfl, hb⟩; have J6 := am (blk_below J5.out hb); have HB6 := am (below_then HB5.out HB5.out.size hb); clear hb) | ((with_reducible refine gate_store (t := 86) (p := 9) rfl ?_); refine seg.list rfl rfl 86 (.tmp 9) _ rfl 86 wd.heap.size 0 #[.int .u32 0, .int .u32 0, .int .u32 0] #[.int .u32 q0, .int .u32 q1, .int .u32 q2] [.int .u32 q0, .int .u32 q1, .int .u32 q2] rfl rfl (by kernel_rfl) (by simp [Value.oneCell']) (blk_new wd _) (by simp) rfl ?_; intro wo bx hg; have H9 := am bx; have J7 := am (seg.far (blk_alloc J6.out _) hg (Nat.ne_of_lt (blk_lt J6.out))); have HB7 := am (seg.below (below_alloc HB6.out _) hg HB6.out.size); clear bx hg))
        clear y0 y1 y2
        by_cases h97 : lf = 0
        · have g4 : (lf == 0) = true := by rw [h97]; rfl
          have g5 : (lf != 0) = false := by rw [bne, g4]; rfl
          have H97 := am h97
          clear h97
          go_upto_region 17 with (fail)
          obtain ⟨wp, hwp⟩ : ∃ W : World, W = (wo.alloc (.cells #[.int .i64 0, .int .i64 0, .int .i64 0, .int .i64 0] 67)).alloc (.cells #[.int .i64 0] 3) := ⟨_, rfl⟩
          rw [← hwp]
          have KQ0 := am (show wp.heap[wd.heap.size]? = some (.cells #[.int .u32 q0, .int .u32 q1, .int .u32 q2] 86 (0, 0)) from hwp ▸ blk_alloc (blk_alloc H9.out _) _)
          have KZ0 := am (show wp.heap[w.heap.size]? = some (.cells #[.int .i64 0, .int .i64 0, .int .i64 0, .int .i64 0] 67 (0, 0)) from hwp ▸ blk_alloc (blk_alloc J7.out _) _)
          have KT0 := am (show wp.heap[wo.heap.size]? = some (.cells #[.int .i64 0, .int .i64 0, .int .i64 0, .int .i64 0] 67 (0, 0)) from hwp ▸ blk_alloc (blk_new wo _) _)
          have KP0 := am (show wp.heap[wo.heap.size + 1]? = some (.cells #[.int .i64 0] 3 (0, 0)) from hwp ▸ by have h := blk_new (wo.alloc (.cells #[.int .i64 0, .int .i64 0, .int .i64 0, .int .i64 0] 67)) (.cells #[.int .i64 0] 3); rw [World.size_alloc] at h; exact h)
          have KB0 := am (show Below w.heap.size w wp from hwp ▸ below_alloc (below_alloc HB7.out _) _)
          have NE := am (show w.heap.size < wd.heap.size ∧ wd.heap.size < wo.heap.size by have h1 := blk_lt H9.out; have h2 := blk_lt J6.out; exact ⟨h2, h1⟩)
          clear hwp
          have y00 : wp.cell? ⟨wd.heap.size, 0, none⟩ = some (.int .u32 q0) := (blk_cell KQ0.out 0).trans rfl
          have y01 : wp.cell? ⟨wd.heap.size, 1, none⟩ = some (.int .u32 q1) := (blk_cell KQ0.out 1).trans rfl
          have y02 : wp.cell? ⟨wd.heap.size, 2, none⟩ = some (.int .u32 q2) := (blk_cell KQ0.out 2).trans rfl
          go_upto_region 18 with (go_at_call 56; refine (HF0.out _ _ KP0.out).mono ?_; rintro e w0_ ⟨rfl, hP, hO⟩; have LP0 := am hP; have LQ0 := am ((hO.block _ (blk_lt KQ0.out) (by have := NE.out; omega)).trans KQ0.out); have LZ0 := am ((hO.block _ (blk_lt KZ0.out) (by have := NE.out; omega)).trans KZ0.out); have LT0 := am ((hO.block _ (blk_lt KT0.out) (by have := NE.out; omega)).trans KT0.out); have LB0 := am (Only.below KB0.out hO (by have := NE.out; omega)); have ft0 := blk_frozen LT0.out 3; have ct0 := blk_cell LT0.out 3; clear hP hO)
          obtain ⟨v0_, hv0_⟩ : ∃ W : World, W = w0_.setCell ⟨wo.heap.size, 3, none⟩ (.int .i64 f0) := ⟨_, rfl⟩
          rw [← hv0_]
          have KQ1 := am (show v0_.heap[wd.heap.size]? = some (.cells #[.int .u32 q0, .int .u32 q1, .int .u32 q2] 86 (0, 0)) from hv0_ ▸ blk_far (p := ⟨wo.heap.size, 3, none⟩) LQ0.out (by have := NE.out; show wd.heap.size ≠ wo.heap.size; omega) _)
          have KZ1 := am (show v0_.heap[w.heap.size]? = some (.cells #[.int .i64 0, .int .i64 0, .int .i64 0, .int .i64 0] 67 (0, 0)) from hv0_ ▸ blk_far (p := ⟨wo.heap.size, 3, none⟩) LZ0.out (by have := NE.out; show w.heap.size ≠ wo.heap.size; omega) _)
          have KT1 := am (show v0_.heap[wo.heap.size]? = some (.cells #[.int .i64 0, .int .i64 0, .int .i64 0, .int .i64 f0] 67 (0, 0)) from hv0_ ▸ blk_set LT0.out 3 _)
          have KP1 := am (show v0_.heap[wo.heap.size + 1]? = some (.cells #[.int .i64 16] 3 (0, 0)) from hv0_ ▸ blk_far (p := ⟨wo.heap.size, 3, none⟩) LP0.out (by show wo.heap.size + 1 ≠ wo.heap.size; omega) _)
          have KB1 := am (show Below w.heap.size w v0_ from hv0_ ▸ below_set (g := wo.heap.size) (j := 3) LB0.out (by have := NE.out; omega))
          clear hv0_ y00 y01 y02 ft0 ct0
          have y10 : v0_.cell? ⟨wd.heap.size, 0, none⟩ = some (.int .u32 q0) := (blk_cell KQ1.out 0).trans rfl
          have y11 : v0_.cell? ⟨wd.heap.size, 1, none⟩ = some (.int .u32 q1) := (blk_cell KQ1.out 1).trans rfl
          have y12 : v0_.cell? ⟨wd.heap.size, 2, none⟩ = some (.int .u32 q2) := (blk_cell KQ1.out 2).trans rfl
          go_upto_region 19 with (go_at_call 56; refine (HF1.out _ _ KP1.out).mono ?_; rintro e w1_ ⟨rfl, hP, hO⟩; have LP1 := am hP; have LQ1 := am ((hO.block _ (blk_lt KQ1.out) (by have := NE.out; omega)).trans KQ1.out); have LZ1 := am ((hO.block _ (blk_lt KZ1.out) (by have := NE.out; omega)).trans KZ1.out); have LT1 := am ((hO.block _ (blk_lt KT1.out) (by have := NE.out; omega)).trans KT1.out); have LB1 := am (Only.below KB1.out hO (by have := NE.out; omega)); have ft1 := blk_frozen LT1.out 2; have ct1 := blk_cell LT1.out 2; clear hP hO)
          obtain ⟨v1_, hv1_⟩ : ∃ W : World, W = w1_.setCell ⟨wo.heap.size, 2, none⟩ (.int .i64 f1) := ⟨_, rfl⟩
          rw [← hv1_]
          have KQ2 := am (show v1_.heap[wd.heap.size]? = some (.cells #[.int .u32 q0, .int .u32 q1, .int .u32 q2] 86 (0, 0)) from hv1_ ▸ blk_far (p := ⟨wo.heap.size, 2, none⟩) LQ1.out (by have := NE.out; show wd.heap.size ≠ wo.heap.size; omega) _)
          have KZ2 := am (show v1_.heap[w.heap.size]? = some (.cells #[.int .i64 0, .int .i64 0, .int .i64 0, .int .i64 0] 67 (0, 0)) from hv1_ ▸ blk_far (p := ⟨wo.heap.size, 2, none⟩) LZ1.out (by have := NE.out; show w.heap.size ≠ wo.heap.size; omega) _)
          have KT2 := am (show v1_.heap[wo.heap.size]? = some (.cells #[.int .i64 0, .int .i64 0, .int .i64 f1, .int .i64 f0] 67 (0, 0)) from hv1_ ▸ blk_set LT1.out 2 _)
          have KP2 := am (show v1_.heap[wo.heap.size + 1]? = some (.cells #[.int .i64 37] 3 (0, 0)) from hv1_ ▸ blk_far (p := ⟨wo.heap.size, 2, none⟩) LP1.out (by show wo.heap.size + 1 ≠ wo.heap.size; omega) _)
          have KB2 := am (show Below w.heap.size w v1_ from hv1_ ▸ below_set (g := wo.heap.size) (j := 2) LB1.out (by have := NE.out; omega))
          clear hv1_ y10 y11 y12 ft1 ct1
          have y20 : v1_.cell? ⟨wd.heap.size, 0, none⟩ = some (.int .u32 q0) := (blk_cell KQ2.out 0).trans rfl
          have y21 : v1_.cell? ⟨wd.heap.size, 1, none⟩ = some (.int .u32 q1) := (blk_cell KQ2.out 1).trans rfl
          have y22 : v1_.cell? ⟨wd.heap.size, 2, none⟩ = some (.int .u32 q2) := (blk_cell KQ2.out 2).trans rfl
          go_upto_region 20 with (go_at_call 56; refine (HF2.out _ _ KP2.out).mono ?_; rintro e w2_ ⟨rfl, hP, hO⟩; have LP2 := am hP; have LQ2 := am ((hO.block _ (blk_lt KQ2.out) (by have := NE.out; omega)).trans KQ2.out); have LZ2 := am ((hO.block _ (blk_lt KZ2.out) (by have := NE.out; omega)).trans KZ2.out); have LT2 := am ((hO.block _ (blk_lt KT2.out) (by have := NE.out; omega)).trans KT2.out); have LB2 := am (Only.below KB2.out hO (by have := NE.out; omega)); have ft2 := blk_frozen LT2.out 1; have ct2 := blk_cell LT2.out 1; clear hP hO)
          obtain ⟨v2_, hv2_⟩ : ∃ W : World, W = w2_.setCell ⟨wo.heap.size, 1, none⟩ (.int .i64 f2) := ⟨_, rfl⟩
          rw [← hv2_]
          have KQ3 := am (show v2_.heap[wd.heap.size]? = some (.cells #[.int .u32 q0, .int .u32 q1, .int .u32 q2] 86 (0, 0)) from hv2_ ▸ blk_far (p := ⟨wo.heap.size, 1, none⟩) LQ2.out (by have := NE.out; show wd.heap.size ≠ wo.heap.size; omega) _)
          have KZ3 := am (show v2_.heap[w.heap.size]? = some (.cells #[.int .i64 0, .int .i64 0, .int .i64 0, .int .i64 0] 67 (0, 0)) from hv2_ ▸ blk_far (p := ⟨wo.heap.size, 1, none⟩) LZ2.out (by have := NE.out; show w.heap.size ≠ wo.heap.size; omega) _)
          have KT3 := am (show v2_.heap[wo.heap.size]? = some (.cells #[.int .i64 0, .int .i64 f2, .int .i64 f1, .int .i64 f0] 67 (0, 0)) from hv2_ ▸ blk_set LT2.out 1 _)
          have KP3 := am (show v2_.heap[wo.heap.size + 1]? = some (.cells #[.int .i64 57] 3 (0, 0)) from hv2_ ▸ blk_far (p := ⟨wo.heap.size, 1, none⟩) LP2.out (by show wo.heap.size + 1 ≠ wo.heap.size; omega) _)
          have KB3 := am (show Below w.heap.size w v2_ from hv2_ ▸ below_set (g := wo.heap.size) (j := 1) LB2.out (by have := NE.out; omega))
          clear hv2_ y20 y21 y22 ft2 ct2
          have y30 : v2_.cell? ⟨wd.heap.size, 0, none⟩ = some (.int .u32 q0) := (blk_cell KQ3.out 0).trans rfl
          have y31 : v2_.cell? ⟨wd.heap.size, 1, none⟩ = some (.int .u32 q1) := (blk_cell KQ3.out 1).trans rfl
          have y32 : v2_.cell? ⟨wd.heap.size, 2, none⟩ = some (.int .u32 q2) := (blk_cell KQ3.out 2).trans rfl
          go_upto_region 21 with (go_at_call 56; refine (HF3.out _ _ KP3.out).mono ?_; rintro e w3_ ⟨rfl, hP, hO⟩; have LP3 := am hP; have LQ3 := am ((hO.block _ (blk_lt KQ3.out) (by have := NE.out; omega)).trans KQ3.out); have LZ3 := am ((hO.block _ (blk_lt KZ3.out) (by have := NE.out; omega)).trans KZ3.out); have LT3 := am ((hO.block _ (blk_lt KT3.out) (by have := NE.out; omega)).trans KT3.out); have LB3 := am (Only.below KB3.out hO (by have := NE.out; omega)); have ft3 := blk_frozen LT3.out 0; have ct3 := blk_cell LT3.out 0; clear hP hO)
          obtain ⟨v3_, hv3_⟩ : ∃ W : World, W = w3_.setCell ⟨wo.heap.size, 0, none⟩ (.int .i64 f3) := ⟨_, rfl⟩
          rw [← hv3_]
          have KQ4 := am (show v3_.heap[wd.heap.size]? = some (.cells #[.int .u32 q0, .int .u32 q1, .int .u32 q2] 86 (0, 0)) from hv3_ ▸ blk_far (p := ⟨wo.heap.size, 0, none⟩) LQ3.out (by have := NE.out; show wd.heap.size ≠ wo.heap.size; omega) _)
          have KZ4 := am (show v3_.heap[w.heap.size]? = some (.cells #[.int .i64 0, .int .i64 0, .int .i64 0, .int .i64 0] 67 (0, 0)) from hv3_ ▸ blk_far (p := ⟨wo.heap.size, 0, none⟩) LZ3.out (by have := NE.out; show w.heap.size ≠ wo.heap.size; omega) _)
          have KT4 := am (show v3_.heap[wo.heap.size]? = some (.cells #[.int .i64 f3, .int .i64 f2, .int .i64 f1, .int .i64 f0] 67 (0, 0)) from hv3_ ▸ blk_set LT3.out 0 _)
          have KP4 := am (show v3_.heap[wo.heap.size + 1]? = some (.cells #[.int .i64 59] 3 (0, 0)) from hv3_ ▸ blk_far (p := ⟨wo.heap.size, 0, none⟩) LP3.out (by show wo.heap.size + 1 ≠ wo.heap.size; omega) _)
          have KB4 := am (show Below w.heap.size w v3_ from hv3_ ▸ below_set (g := wo.heap.size) (j := 0) LB3.out (by have := NE.out; omega))
          clear hv3_ y30 y31 y32 ft3 ct3
          have y40 : v3_.cell? ⟨wd.heap.size, 0, none⟩ = some (.int .u32 q0) := (blk_cell KQ4.out 0).trans rfl
          have y41 : v3_.cell? ⟨wd.heap.size, 1, none⟩ = some (.int .u32 q1) := (blk_cell KQ4.out 1).trans rfl
          have y42 : v3_.cell? ⟨wd.heap.size, 2, none⟩ = some (.int .u32 q2) := (blk_cell KQ4.out 2).trans rfl
          have y43 : v3_.cell? ⟨wo.heap.size + 1, 0, none⟩ = some (.int .i64 59) := (blk_cell KP4.out 0).trans rfl
          go_upto_region 22 with (go_at_call 57; refine (HBI.out _).mono ?_; rintro e wz ⟨rfl, hb⟩; have MZ := am (blk_below KZ4.out hb); have MT := am (blk_below KT4.out hb); have MB := am (below_then KB4.out KB4.out.size hb); clear hb)
          clear y40 y41 y42 y43
          by_cases h59 : 576460752303423488 ≤ Q
          · have hab : ab ≠ 0 := by have h := HVQ.out; have h1 := HV.out; omega
            have u1 : (ab == 0) = false := beq_eq_false_iff_ne.mpr hab
            have u2 : (ab != 0) = true := bne_iff_ne.mpr hab
            have HE := am (HD.out.2.2.1 H66.out (by rw [HVQ.out.2.1]; exact H97.out) (by rw [HVQ.out.2.2.1]; exact h59))
            clear hab h59
            go_wp2_with ((with_reducible refine gate_store (t := 67) (p := 2) rfl ?_); refine seg.list rfl rfl 67 (.tmp 2) _ rfl 67 w.heap.size 0 #[.int .i64 0, .int .i64 0, .int .i64 0, .int .i64 0] #[.int .i64 0, .int .i64 0, .int .i64 0, .int .i64 0] [.int .i64 0, .int .i64 0, .int .i64 0, .int .i64 0] rfl rfl (by kernel_rfl) (by simp [Value.oneCell']) MZ.out (by simp) rfl ?_; intro w9 bx hgr)
            refine bodyPost_ret (results_ct (p := 2) (u := 3) rfl _ w9 w.heap.size 67 _ (0, 0) _ rfl bx Tryz.underlying67 rfl (by kernel_rfl)) rfl ?_
            have he := HE.out
            exact ⟨by rw [he.1, he.2.1, he.2.2.1, he.2.2.2.1, he.2.2.2.2]; rfl, seg.below MB.out hgr (Nat.le_refl _)⟩
          · have hab : ab = 0 := by have h := HVQ.out; have h1 := HV.out; omega
            have u1 : (ab == 0) = true := by rw [hab]; rfl
            have u2 : (ab != 0) = false := by rw [bne, u1]; rfl
            obtain ⟨fe, hfe, hE1, hE2⟩ := HD.out.2.2.2 H66.out (by rw [HVQ.out.2.1]; exact H97.out) (by rw [HVQ.out.2.2.1]; omega)
            rw [HVQ.out.2.2.1] at hfe hE2
            have hc3 : Q / 144115188075855872 = f3 := by have h := HVQ.out; have h1 := HV.out; omega
            have hc0 : Q % 65536 = f0 := by have h := HVQ.out.2.2.2.1; rwa [Int.ediv_one] at h
            rw [hc3, HVQ.out.2.2.2.2.2.1, HVQ.out.2.2.2.2.1, hc0] at hfe hE2
            have HFE := am hfe
            have HE := am (And.intro hE1 hE2)
            have m0 : wz.cell? ⟨wo.heap.size, 0, none⟩ = some (.int .i64 f3) := (blk_cell MT.out 0).trans rfl
            have m1 : wz.cell? ⟨wo.heap.size, 1, none⟩ = some (.int .i64 f2) := (blk_cell MT.out 1).trans rfl
            have m2 : wz.cell? ⟨wo.heap.size, 2, none⟩ = some (.int .i64 f1) := (blk_cell MT.out 2).trans rfl
            have m3 : wz.cell? ⟨wo.heap.size, 3, none⟩ = some (.int .i64 f0) := (blk_cell MT.out 3).trans rfl
            have hu23 := Tryz.underlying67
            clear hab h59 hc3 hc0 hfe hE1 hE2
            by_cases hf : fe = 0
            · have u3 : (fe == 0) = true := by rw [hf]; rfl
              have u4 : (fe != 0) = false := by rw [bne, u3]; rfl
              have HE2 := am (HE.out.2 hf)
              clear hf
              go_upto_region 24 with (go_at_call 58; refine (token_fault.calls _ _ _ _ _ _ HFE.out).mono ?_; rintro e wq ⟨rfl, hb⟩; have NZ := am (blk_below MZ.out hb); have NT := am (blk_below MT.out hb); have NB := am (below_then MB.out MB.out.size hb); clear hb)
              clear m0 m1 m2 m3
              have m0 : wq.cell? ⟨wo.heap.size, 0, none⟩ = some (.int .i64 f3) := (blk_cell NT.out 0).trans rfl
              have m1 : wq.cell? ⟨wo.heap.size, 1, none⟩ = some (.int .i64 f2) := (blk_cell NT.out 1).trans rfl
              have m2 : wq.cell? ⟨wo.heap.size, 2, none⟩ = some (.int .i64 f1) := (blk_cell NT.out 2).trans rfl
              have m3 : wq.cell? ⟨wo.heap.size, 3, none⟩ = some (.int .i64 f0) := (blk_cell NT.out 3).trans rfl
              go_wp2_with ((with_reducible refine gate_store (t := 67) (p := 2) rfl ?_); refine seg.list rfl rfl 67 (.tmp 2) _ rfl 67 w.heap.size 0 #[.int .i64 0, .int .i64 0, .int .i64 0, .int .i64 0] #[.int .i64 f3, .int .i64 f2, .int .i64 f1, .int .i64 f0] [.int .i64 f3, .int .i64 f2, .int .i64 f1, .int .i64 f0] rfl rfl (by kernel_rfl) (by simp [Value.oneCell']) NZ.out (by simp) rfl ?_; intro w9 bx hgr)
              refine bodyPost_ret (results_ct (p := 2) (u := 3) rfl _ w9 w.heap.size 67 _ (0, 0) _ rfl bx Tryz.underlying67 rfl (by kernel_rfl)) rfl ?_
              exact ⟨by rw [HE2.out.1, HE2.out.2.1, HE2.out.2.2.1, HE2.out.2.2.2.1, HE2.out.2.2.2.2]; rfl, seg.below NB.out hgr (Nat.le_refl _)⟩
            · have u3 : (fe == 0) = false := beq_eq_false_iff_ne.mpr hf
              have u4 : (fe != 0) = true := bne_iff_ne.mpr hf
              have HE2 := am (HE.out.1 hf)
              clear hf
              go_upto_region 23 with (go_at_call 58; refine (token_fault.calls _ _ _ _ _ _ HFE.out).mono ?_; rintro e wq ⟨rfl, hb⟩; have NZ := am (blk_below MZ.out hb); have NB := am (below_then MB.out MB.out.size hb); clear hb)
              go_wp2_with ((with_reducible refine gate_store (t := 67) (p := 2) rfl ?_); refine seg.list rfl rfl 67 (.tmp 2) _ rfl 67 w.heap.size 0 #[.int .i64 0, .int .i64 0, .int .i64 0, .int .i64 0] #[.int .i64 0, .int .i64 0, .int .i64 0, .int .i64 0] [.int .i64 0, .int .i64 0, .int .i64 0, .int .i64 0] rfl rfl (by kernel_rfl) (by simp [Value.oneCell']) NZ.out (by simp) rfl ?_; intro w9 bx hgr)
              refine bodyPost_ret (results_ct (p := 2) (u := 3) rfl _ w9 w.heap.size 67 _ (0, 0) _ rfl bx Tryz.underlying67 rfl (by kernel_rfl)) rfl ?_
              have he := HE2.out
              exact ⟨by rw [he.1, he.2.1, he.2.2.1, he.2.2.2.1, he.2.2.2.2]; rfl, seg.below NB.out hgr (Nat.le_refl _)⟩
        · have g4 : (lf == 0) = false := beq_eq_false_iff_ne.mpr h97
          have g5 : (lf != 0) = true := by rw [bne, g4]; rfl
          have H97 := am h97
          clear h97
          go_wp2_with ((with_reducible refine gate_store (t := 67) (p := 2) rfl ?_); refine seg.list rfl rfl 67 (.tmp 2) _ rfl 67 w.heap.size 0 #[.int .i64 0, .int .i64 0, .int .i64 0, .int .i64 0] #[.int .i64 0, .int .i64 0, .int .i64 0, .int .i64 0] [.int .i64 0, .int .i64 0, .int .i64 0, .int .i64 0] rfl rfl (by kernel_rfl) (by simp [Value.oneCell']) J7.out (by simp) rfl ?_; intro w9 bx hgr)
          refine bodyPost_ret (results_ct (p := 2) (u := 3) rfl _ w9 w.heap.size 67 _ (0, 0) _ rfl bx Tryz.underlying67 rfl (by kernel_rfl)) rfl ?_
          have he := HD.out.2.1 H66.out (by rw [HVQ.out.2.1]; exact H97.out)
          exact ⟨by rw [he.1, he.2.1, he.2.2.1, he.2.2.2.1, he.2.2.2.2]; rfl, seg.below HB7.out hgr (Nat.le_refl _)⟩
/-! ### token_Parse: function 31 (by hand) -/
def token_Parse.f (a0 : ByteArray) : Option (Int × Int × Int × Int × Int) :=
  if a0.size = 20 then (if rdAll a0 20 = true then (if 73786976294838206464 ≤ rdV a0 20 then some (0, 0, 0, 0, 2) else if rdV a0 20 % 97 = 0 then (if 576460752303423488 ≤ rdV a0 20 / 97 then some (0, 0, 0, 0, 2) else
    (token_fault.f (rdV a0 20 / 97 / 144115188075855872) (rdV a0 20 / 97 / 137438953472 % 1048576) (rdV a0 20 / 97 / 65536 % 2097152) (rdV a0 20 / 97 % 65536)).bind fun fe => if fe = 0 then some (rdV a0 20 / 97 / 144115188075855872, rdV a0 20 / 97 / 137438953472 % 1048576, rdV a0 20 / 97 / 65536 % 2097152, rdV a0 20 / 97 % 65536, 0) else some (0, 0, 0, 0, 2))
    else some (0, 0, 0, 0, 8)) else some (0, 0, 0, 0, 7)) else some (0, 0, 0, 0, 6)
theorem token_Parse.calls (a0 : ByteArray) (r1 : Int) (r2 : Int) (r3 : Int) (r4 : Int) (r5 : Int) (w : World) (h : token_Parse.f a0 = some (r1, r2, r3, r4, r5)) :
    Calls Tryz.prog 31 #[.string a0] w fun e w' => e = .returned (.tuple #[.agg #[.int .i64 r1, .int .i64 r2, .int .i64 r3, .int .i64 r4], .int .i64 r5]) ∧ Below w.heap.size w w' := by
  unfold token_Parse.f at h
  split at h
  · rename_i hs
    split at h
    · rename_i hok
      have hV := tp_V (rdAll_ok hok)
      refine token_Parse.good w a0 hs r1 r2 r3 r4 r5 (rdAll_ok hok) ⟨fun h1 => ?_, fun h1 h2 => ?_, fun h1 h2 h3 => ?_, fun h1 h2 h3 => ?_⟩
      · rw [if_pos h1] at h
        simp only [Option.some.injEq, Prod.mk.injEq] at h
        obtain ⟨rfl, rfl, rfl, rfl, rfl⟩ := h
        exact ⟨rfl, rfl, rfl, rfl, rfl⟩
      · rw [if_neg (by omega), if_neg h2] at h
        simp only [Option.some.injEq, Prod.mk.injEq] at h
        obtain ⟨rfl, rfl, rfl, rfl, rfl⟩ := h
        exact ⟨rfl, rfl, rfl, rfl, rfl⟩
      · rw [if_neg (by omega), if_pos h2, if_pos h3] at h
        simp only [Option.some.injEq, Prod.mk.injEq] at h
        obtain ⟨rfl, rfl, rfl, rfl, rfl⟩ := h
        exact ⟨rfl, rfl, rfl, rfl, rfl⟩
      · rw [if_neg (by omega), if_pos h2, if_neg (by omega)] at h
        obtain ⟨fe, hf, h⟩ := Option.bind_eq_some_iff.mp h
        refine ⟨fe, hf, fun hz => ?_, fun hz => ?_⟩
        · rw [if_neg hz] at h
          simp only [Option.some.injEq, Prod.mk.injEq] at h
          obtain ⟨rfl, rfl, rfl, rfl, rfl⟩ := h
          exact ⟨rfl, rfl, rfl, rfl, rfl⟩
        · rw [if_pos hz] at h
          simp only [Option.some.injEq, Prod.mk.injEq] at h
          obtain ⟨rfl, rfl, rfl, rfl, rfl⟩ := h
          exact ⟨rfl, rfl, rfl, rfl, rfl⟩
    · rename_i hok
      simp only [Option.some.injEq, Prod.mk.injEq] at h
      obtain ⟨rfl, rfl, rfl, rfl, rfl⟩ := h
      obtain ⟨m, h1, h2, h3⟩ := rdAll_no (s := a0) (n := 20) (by simpa using hok)
      exact token_Parse.bad w a0 hs m h1 h2 h3
  · rename_i hs
    simp only [Option.some.injEq, Prod.mk.injEq] at h
    obtain ⟨rfl, rfl, rfl, rfl, rfl⟩ := h
    exact token_Parse.len w a0 hs

end Go.Proofs.YtocolmpfpbclbaaGreatDoor.PReceiptShows
