/- Proved: the law BungChecks of the program potbank answers true for every input, and leaves its arguments as they were. Conditions: none. (Part 1 of the texts, put together by wip/assemble.py of this repository.) -/
import Derived.Test.YtbiakjgjedhjhaaCk0
set_option linter.unusedVariables false
set_option linter.unusedSimpArgs false
namespace Go.Proofs.Ytbiakjgjedhjhaa.P
open Go.RowKit Go.Proofs.YtbiakjgjedhjhaaW.PrintWords Go.Proofs.YtbiakjgjedhjhaaW.PrintLast Go.Proofs.YtbiakjgjedhjhaaW.PrintMore
attribute [local go_sem] max2_int min2_int max_two min_two max_three min_three max_four min_four
attribute [local go_sem] Oper.semAt_some
set_option maxHeartbeats 4000000 in
set_option maxRecDepth 100000 in
theorem down_stops (A : Option Addr) (c : Nat) (l : List S52) (w : World) (kp : Nat → Prop) (Bs : Nat) (hl : okSome l = true) (hBs : kp Bs) (hw : Bs < w.heap.size) (hbox : w.heap[Bs]? = some (.cells #[.slice A l.length c] 24 (0, 0))) (n₀ : Nat) (hn₀ : ∀ k, k < n₀ → kp k) (hkw : ∀ k, kp k → k < w.heap.size)
  (w0 : World) (hw0 : w0.heap.size = n₀) (hC : Kd.C k52 w0 A l.length l) (hb0 : Below n₀ w0 w) :
  Rng.SeqN 1 kp Try.prog 145 #[.pointer (some ⟨Bs, 0, none⟩)] encDown (downs l l.length) w := by
 intro lp J Jx W hW hJ hJx hY h0
 simp only [okSome, Bool.and_eq_true, decide_eq_true_eq] at hl
 have HL := pA hl
 have HC := pA hC
 have HJ := pA hJ
 have HY := pA hY
 have H0 := pA h0
 have HBs := pA hBs
 have HN := pA hn₀
 have HB0 := pA (show Below n₀ w0 W from hb0.trans (hW.mono (by rw [← hw0]; exact hb0.size)))
 have HX := pA ((hW.block Bs hw).trans hbox)
 have HWS := pA (Nat.lt_of_lt_of_le hw hW.size)
 have HW0 := pA hw0
 have HKW := pA (fun k hk => Nat.lt_of_lt_of_le (hkw k hk) hW.size : ∀ k, kp k → k < W.heap.size)
 clear hl hC hJ hJx hY h0 hBs hn₀ hb0 hbox hw hW hw0
 refine callsIn_of_wp Try.func145 rfl trivial ?_ rfl
 simp only [Try.ntmps145, List.size_toArray, List.length_cons, List.length_nil, Nat.reduceAdd, Nat.reduceSub, Array.replicate_succ, Array.replicate_zero, List.push_toArray, List.append_toArray, List.nil_append, List.cons_append]
 have hc0 : ∀ o, (W.alloc o).cell? ⟨Bs, 0, none⟩ = some (.slice A l.length c) := fun o => (((Below.refl W.heap.size W).alloc (Nat.le_refl _) o).cell (p := ⟨Bs, 0, none⟩) HWS.out).trans ((blk_cell HX.out 0).trans rfl)
 gi_wp2
 clear hc0
 gi_loopw [4] (fun v4 wr => ∃ (x : Int) (k : Nat), v4 = .int .i64 x ∧ Aside0 (x = (l.length : Int) - 1 - k ∧ k ≤ l.length) ∧ Aside0 (J (downs l k) wr) ∧ Aside0 (wr.heap[W.heap.size]? = some (.cells #[.int .i64 (sumW (l.drop (l.length - k))).f0, .int .i64 (sumW (l.drop (l.length - k))).f1] 23 (0, 0))) ∧ Aside0 (Rng.Keep kp W wr) ∧ Aside0 (W.heap.size + 1 ≤ wr.heap.size)) (fun v4 _ => (intOf v4 + 1).toNat)
 case atStart =>
  refine ⟨_, 0, rfl, ⟨⟨?_, Nat.zero_le _⟩⟩, ⟨HJ.out _ _ _ none H0.out (World.grownBy_alloc W _ none) (fun r e => by cases e)⟩, ⟨?_⟩, ⟨Rng.Keep.of_below ((Below.refl W.heap.size W).alloc (Nat.le_refl _) _) HKW.out⟩, ⟨by simp⟩⟩
  ·have := HL.out.1
   unfold wrap64
   omega
  ·simpa [sumW] using heap_alloc_new W _
 case round =>
  obtain ⟨x, k, rfl, HK, HJk, HLd, HKp, HS⟩ := hrel
  have hcL0 : wr.cell? ⟨W.heap.size, 0, none⟩ = some (.int .i64 (sumW (l.drop (l.length - k))).f0) := (blk_cell HLd.out 0).trans rfl
  have hcL1 : wr.cell? ⟨W.heap.size, 1, none⟩ = some (.int .i64 (sumW (l.drop (l.length - k))).f1) := (blk_cell HLd.out 1).trans rfl
  by_cases hx : 0 ≤ x
  ·have hxb : decide (0 ≤ x) = true := decide_eq_true hx
   have hkn : k < l.length := by have := HK.out; omega
   obtain ⟨fn, tmps, assign, body, hy, hR⟩ := HY.out (downs l k) (x, sumW (l.drop (l.length - k))) wr HJk.out (by rw [show x = (l.length : Int) - (k + 1) from by have := HK.out; omega]; exact downs_prefix l (k + 1) l.length (by omega)) HS.out
   dsimp only [encDown] at hy
   gi_wp2
   refine hR.mono ?_
   rintro e W3 (⟨rfl, hJ3, hk3, hn3⟩ | ⟨rfl, hJx3⟩)
   ·have HJ3 := pA hJ3
    have HK3 := pA (HKp.out.trans hk3)
    have HL3 := pA ((hn3 W.heap.size (Nat.le_refl _) (by omega)).trans HLd.out)
    have HX3 := pA ((HK3.out.block Bs HBs.out).trans HX.out)
    have HS3 := pA (Nat.le_trans HS.out hk3.size)
    have HC3 := pA (Kd.C_below HC.out (show Below w0.heap.size w0 W3 by rw [HW0.out]; exact HB0.out.trans (HK3.out.below HN.out)))
    clear hJ3 hk3 hn3 hy hR hcL0 hcL1
    obtain ⟨ad, e, x0, x1, x2, x3, x4, x5, x6, x7⟩ := at_T52 HC3.out x hx (by have := HK.out; omega)
    cases e
    have hd0 : W3.cell? ⟨W.heap.size, 0, none⟩ = some (.int .i64 (sumW (l.drop (l.length - k))).f0) := (blk_cell HL3.out 0).trans rfl
    have hd1 : W3.cell? ⟨W.heap.size, 1, none⟩ = some (.int .i64 (sumW (l.drop (l.length - k))).f1) := (blk_cell HL3.out 1).trans rfl
    have hd2 : W3.cell? ⟨Bs, 0, none⟩ = some (.slice (some ad) l.length c) := (blk_cell HX3.out 0).trans rfl
    have p1 : (0 ≤ x) = True := eq_true hx
    have p2 : (x < (l.length : Int)) = True := eq_true (by have := HK.out; omega)
    gi_wp2
    refine wpIn_wide.2 ?_
    go_still_tail 6, (by kernel_rfl)
    go_wp2_with fail
    have hs2 := sum_two (sumW (l.drop (l.length - k))) (rd_T52 l x).f1 (by have := sumW_bd (l.drop (l.length - k)) (all_drop HL.out.2 _); have h2 := List.length_drop (l := l) (i := l.length - k); have h3 := HL.out.1; omega) (by have := all_at HL.out.2 (i := x) hx (by have := HK.out; omega); simp only [vSag, decide_eq_true_eq] at this; omega)
    refine (bung_sum.calls 3 _ _ [sumW (l.drop (l.length - k)), (rd_T52 l x).f1] _ _ _ (Kd.C_drew (C_two _ _ _)) (Nat.le_refl _) hs2).mono ?_
    rintro e w4 ⟨rfl, hb4⟩
    have hb5 : Below W3.heap.size W3 w4 := below_step (below_drew (below_alloc (Below.refl _ _) _)) hb4
    have HL4 := pA (blk_below (blk_drew (blk_alloc HL3.out _)) hb4)
    have HJ4 := pA (HJ.out _ _ w4 none HJ3.out (grown_of_below hb5 none) (fun r e => by cases e))
    have HK4 := pA (HK3.out.trans (Rng.Keep.of_below hb5 (fun k hk => Nat.lt_of_lt_of_le (HKW.out k hk) (by have := HS3.out; omega))))
    have HS4 := pA (Nat.le_trans HS3.out hb5.size)
    have y0 := blk_cell HL4.out 0
    have y1 := blk_cell HL4.out 1
    have y2 := blk_frozen HL4.out 0
    have y3 := blk_frozen HL4.out 1
    clear hb4 hb5 hs2 x0 x1 x2 x3 x4 x5 x6 x7 hd0 hd1 hd2
    go_wp2
    gi_wp2
    have hm : ∀ y : Int, y = x - 1 → (y + 1).toNat < (x + 1).toNat := fun y hy => by omega
    have hw1 : wrap64 (x - 1) = x - 1 := by have := HK.out; have := HL.out.1; unfold wrap64; omega
    go_roundw
    case measure => simp [intOf]; omega
    case rel =>
     refine ⟨x - 1, k + 1, by first | rfl | rw [hw1], ⟨by have := HK.out; omega⟩, ⟨?_⟩, ⟨?_⟩, ⟨?_⟩, ⟨by simpa using HS4.out⟩⟩
     ·have hj : J (downs l (k + 1)) w4 := by
       have := HJ4.out
       rw [show (x, sumW (l.drop (l.length - k))) = (((l.length : Int) - (k + 1)), sumW (l.drop (l.length - k))) from by rw [show x = (l.length : Int) - (k + 1) from by have := HK.out; omega]] at this
       exact this
      refine HJ.out _ _ _ (some W.heap.size) (HJ.out _ _ _ (some W.heap.size) hj (grownBy_set _ _ _ _) ?_) (grownBy_set _ _ _ _) ?_ <;> exact fun r e => by cases e; omega
     ·have e1 : sumW (l.drop (l.length - (k + 1))) = ⟨(sumW (l.drop (l.length - k))).f0 + (rd_T52 l x).f1.f0, (sumW (l.drop (l.length - k))).f1 + (rd_T52 l x).f1.f1⟩ := by
       have := sumW_drop l (l.length - (k + 1)) (by omega)
       rw [show l.length - (k + 1) + 1 = l.length - k from by omega, show ((l.length - (k + 1) : Nat) : Int) = x from by have := HK.out; omega] at this
       exact this
      rw [e1]
      exact blk_put (blk_put HL4.out 0 _ rfl) 1 _ rfl
     ·exact HK4.out.trans ((Rng.Keep.grown (grownBy_set _ _ _ _) (fun k hk => Nat.lt_of_lt_of_le (HKW.out k hk) (by have := HS4.out; omega)) (fun k hk e => by cases e; exact Nat.lt_irrefl _ (HKW.out _ hk))).trans (Rng.Keep.grown (grownBy_set _ _ _ _) (fun k hk => by simpa using Nat.lt_of_lt_of_le (HKW.out k hk) (by have := HS4.out; omega)) (fun k hk e => by cases e; exact Nat.lt_irrefl _ (HKW.out _ hk))))
   ·gi_wp2
    refine bodyPost_ret (results_none rfl _ _ _) rfl ?_
    exact ⟨⟨_, rfl⟩, .inr ⟨_, by rw [show x = (l.length : Int) - (k + 1) from by have := HK.out; omega]; exact downs_prefix l (k + 1) l.length (by omega), hJx3⟩⟩
  ·have hxb : decide (0 ≤ x) = false := decide_eq_false hx
   gi_wp2
   go_end0
   exact ⟨⟨_, rfl⟩, .inl (by rw [show l.length = k from by have := HK.out; omega]; exact HJk.out)⟩
/-- The cells of ranges. -/
def flatR (xs : List S23) : List Value := xs.flatMap fun x => [.int .i64 x.f0, .int .i64 x.f1]
theorem flatR_length (xs : List S23) : (flatR xs).length = 2 * xs.length := by
 induction xs with
 | nil => rfl
 | cons x t ih => simp [flatR] at ih ⊢; omega
theorem flatR_get (xs : List S23) (i : Nat) (x : S23) (h : xs[i]? = some x) : (flatR xs)[2 * i]? = some (.int .i64 x.f0) ∧ (flatR xs)[2 * i + 1]? = some (.int .i64 x.f1) := by
 induction xs generalizing i with
 | nil => simp at h
 | cons y t ih =>
  cases i with
  | zero =>
   obtain rfl : y = x := by simpa using h
   simp [flatR]
  | succ i =>
   have := ih i (by simpa using h)
   simp only [flatR, List.flatMap_cons, List.cons_append, List.nil_append] at this ⊢
   rw [show 2 * (i + 1) = (2 * i) + 1 + 1 from by omega]
   simpa using this
theorem flatR_set (xs : List S23) (i : Nat) (x : S23) (h : i < xs.length) : flatR (xs.set i x) = ((flatR xs).set (2 * i) (.int .i64 x.f0)).set (2 * i + 1) (.int .i64 x.f1) := by
 induction xs generalizing i with
 | nil => simp at h
 | cons y t ih =>
  cases i with
  | zero => simp [flatR]
  | succ i =>
   have := ih i (by simpa using h)
   simp only [flatR, List.set_cons_succ, List.flatMap_cons, List.cons_append, List.nil_append] at this ⊢
   rw [show 2 * (i + 1) = (2 * i) + 1 + 1 from by omega, this]
   simp
theorem flatR_reps (xs : List S23) (W : World) (base : Nat) (ok : Nat → Prop) : Reps (k23.M W base ok) 2 xs (flatR xs) := by
 refine ⟨by rw [flatR_length]; omega, fun j p hj => ?_⟩
 have hl := (List.getElem?_eq_some_iff.1 hj).1
 obtain ⟨h1, h2⟩ := flatR_get xs j p hj
 have e : ((flatR xs).drop (j * 2)).take 2 = [.int .i64 p.f0, .int .i64 p.f1] := by
  apply List.ext_getElem?
  intro i
  rcases i with _ | _ | i
  ·simp [List.getElem?_take, List.getElem?_drop, Nat.mul_comm j 2, h1]
  ·simp [List.getElem?_take, List.getElem?_drop, Nat.mul_comm j 2, h2]
  ·simp [List.getElem?_take]
   omega
 rw [e]
 exact k23_mkM _ _ _ _
theorem R_of_block {W : World} {base g : Nat} {xs : List S23} (hg : base ≤ g) (hm : xs.length ≤ 9223372036854775807) (h : W.heap[g]? = some (.cells (flatR xs).toArray 23 (0, 0))) :
  Kd.R k23 23 W base (fun _ => True) (.slice (some ⟨g, 0, none⟩) xs.length xs.length) xs := by
 refine ⟨fun _ _ => trivial, flatR xs, ⟨?_, .inr ⟨g, xs.length, (flatR xs).toArray, rfl, hg, h, Nat.le_refl _, by simpa [maxLen] using hm, ?_, ?_⟩⟩, ?_⟩
 ·rw [flatR_length, Nat.mul_comm]
  rfl
 ·rw [List.size_toArray, flatR_length, Nat.mul_comm]
  rfl
 ·rw [List.take_of_length_le]
  show (flatR xs).length ≤ xs.length * 2
  rw [flatR_length]
  omega
 ·exact flatR_reps xs W base _
/-- The loads that are known behind k courses, from the top: the others are 0. -/
def outAt (l : List S52) (k : Nat) : List S23 := List.replicate (l.length - k) ⟨0, 0⟩ ++ (loadsOf l).drop (l.length - k)
theorem outAt_length (l : List S52) (k : Nat) : (outAt l k).length = l.length := by
  simp [outAt, loadsOf_length]
theorem outAt_zero (l : List S52) : outAt l 0 = List.replicate l.length ⟨0, 0⟩ := by
  simp [outAt, ← loadsOf_length l]
theorem outAt_all (l : List S52) : outAt l l.length = loadsOf l := by simp [outAt]
theorem outAt_step (l : List S52) (k : Nat) (h : k < l.length) : (outAt l k).set (l.length - (k + 1)) (sumW (l.drop (l.length - k))) = outAt l (k + 1) := by
 have e1 : l.length - k = (l.length - (k + 1)) + 1 := by omega
 have e2 := loadsOf_get l (l.length - (k + 1)) (by omega)
 rw [← e1] at e2
 have hl := loadsOf_length l
 generalize sumW (l.drop (l.length - k)) = s at *
 have e3 : (loadsOf l).drop (l.length - (k + 1)) = s :: (loadsOf l).drop (l.length - k) := by
  have h4 : l.length - (k + 1) < (loadsOf l).length := by omega
  rw [List.drop_eq_getElem_cons h4]
  rw [List.getElem?_eq_getElem h4] at e2
  rw [Option.some.inj e2, ← e1]
 unfold outAt
 rw [e3, List.set_append, if_pos (by simp; omega)]
 have e5 : (List.replicate (l.length - k) (⟨0, 0⟩ : S23)).set (l.length - (k + 1)) s = List.replicate (l.length - (k + 1)) ⟨0, 0⟩ ++ [s] := by
  rw [e1, List.replicate_succ', List.set_append, if_neg (by simp)]
  simp
 rw [e5]
 simp
theorem downs_length (l : List S52) (k : Nat) : (downs l k).length = k := by
 induction k with
 | zero => rfl
 | succ k ih => simp [downs, ih]
theorem downs_of_prefix (l : List S52) {pre : List (Int × S23)} (h : pre <+: downs l l.length) : pre = downs l pre.length := by
  have h2 := downs_prefix l pre.length l.length (by have := h.length_le; rw [downs_length] at this; exact this)
  exact (List.prefix_of_prefix_length_le h h2 (by rw [downs_length]; exact Nat.le_refl _)).eq_of_length (by rw [downs_length])
theorem downs_snoc (l : List S52) {pre : List (Int × S23)} {x : Int × S23} (h : (pre ++ [x]) <+: downs l l.length) :
  pre.length < l.length ∧ x = (((l.length : Int) - (pre.length + 1)), sumW (l.drop (l.length - pre.length))) := by
 have hp : pre = downs l pre.length := downs_of_prefix l ((List.prefix_append _ _).trans h)
 have hx : pre ++ [x] = downs l (pre.length + 1) := by
  have := downs_of_prefix l h
  simpa using this
 have hle := h.length_le
 rw [downs_length] at hle
 simp at hle
 refine ⟨by omega, ?_⟩
 rw [downs] at hx
 have := List.append_inj_right hx (by rw [downs_length])
 simpa using this
theorem made_flat (n : Nat) : madeCells (Value.agg #[.int .i64 0, .int .i64 0]).cells (n * 2) = (flatR (List.replicate n ⟨0, 0⟩)).toArray := by
 have e : flatR (List.replicate n ⟨0, 0⟩) = List.replicate (n * 2) (.int .i64 0) := by
  induction n with
  | zero => rfl
  | succ n ih =>
   rw [List.replicate_succ]
   show [_, _] ++ flatR (List.replicate n ⟨0, 0⟩) = _
   rw [ih, show (n + 1) * 2 = n * 2 + 1 + 1 from by omega, List.replicate_succ, List.replicate_succ]
   rfl
 rw [e]
 apply Array.ext
 ·simp [size_madeCells]
 ·intro i h1 h2
  have : i % 2 = 0 ∨ i % 2 = 1 := by omega
  rcases this with h | h <;> simp [madeCells, Value.cells, h]
set_option maxHeartbeats 4000000 in
set_option maxRecDepth 100000 in
theorem bung_loads.calls (A0 : Option Addr) (c0 : Nat) (l0 : List S52) (r : List S23) (w : World) (hr0 : Kd.C k52 w A0 l0.length l0) (hc0 : l0.length ≤ c0) (h : bung_loads.f l0 = some r) :
  Calls Try.prog 88 #[.slice A0 l0.length c0] w fun e w' => ∃ v0_ : Value, e = .returned v0_ ∧ Kd.R k23 23 w' w.heap.size (fun _ => True) v0_ r ∧ Below w.heap.size w w' := by
 have hl : okSome l0 = true := by
  unfold bung_loads.f at h
  split at h
  ·assumption
  ·cases h
 obtain rfl : loadsOf l0 = r := by
  unfold bung_loads.f at h
  rw [if_pos hl] at h
  exact Option.some.inj h
 clear h
 have HL := pA hl
 have HR0 := pA hr0
 have hle : l0.length ≤ 30 := by simp only [okSome, Bool.and_eq_true, decide_eq_true_eq] at hl; exact hl.1
 clear hl hr0
 refine (callsIn_wide (n := 10)).1 ?_
 refine callsIn_of_wp_marks Try.func88 rfl trivial ?_ rfl
 simp only [Try.ntmps88, List.size_toArray, List.length_cons, List.length_nil, Nat.reduceAdd, Nat.reduceSub, Array.replicate_succ, Array.replicate_zero, List.push_toArray, List.append_toArray, List.nil_append, List.cons_append]
 have hmk : ∀ W : World, (Instr.makeSlice 57 (.int .i64 (l0.length : Int)) (.int .i64 (l0.length : Int))).run Try.prog W = .ok (.slice (some ⟨W.heap.size, 0, none⟩) l0.length l0.length) (W.alloc (.cells (flatR (outAt l0 0)).toArray 23)) := by
  intro W
  obtain ⟨i0, hi, hz0, hz1, hz2⟩ := info_parts info23
  have := run_make (P := Try.prog) W 57 23 i0 _ Try.underlying57 hi hz0 .i64 .i64 (l0.length : Int) (l0.length : Int) (by omega) (by omega) (by rw [hz2]; omega) (by omega)
  rw [this, hz1, outAt_zero, made_flat]
  rfl
 gi_wp2_with fail
 refine ⟨trivial, (callsIn_wide.2 (down_calls _ _ _ _)).mono ?_⟩
 rintro e w1 ⟨rfl, hw1⟩
 have HW1 := pA hw1
 have hg1 : w1.heap[w.heap.size]? = some (.cells (flatR (outAt l0 0)).toArray 23 (0, 0)) := by rw [← hw1]; exact blk_alloc (blk_alloc (heap_alloc_new w _) _) _
 have hg2 : w1.heap[w.heap.size + 1]? = some (.cells #[.slice (some ⟨w.heap.size, 0, none⟩) l0.length l0.length] 57 (0, 0)) := by
  rw [← hw1]
  have := heap_alloc_new (w.alloc (.cells (flatR (outAt l0 0)).toArray 23)) (.cells #[.slice (some ⟨w.heap.size, 0, none⟩) l0.length l0.length] 57)
  rw [World.size_alloc] at this
  exact blk_alloc this _
 have hg3 : w1.heap[w.heap.size + 2]? = some (.cells #[.slice A0 l0.length c0] 24 (0, 0)) := by
  rw [← hw1]
  have := heap_alloc_new ((w.alloc (.cells (flatR (outAt l0 0)).toArray 23)).alloc (.cells #[.slice (some ⟨w.heap.size, 0, none⟩) l0.length l0.length] 57)) (.cells #[.slice A0 l0.length c0] 24)
  rw [World.size_alloc, World.size_alloc] at this
  exact this
 have hs1 : w1.heap.size = w.heap.size + 3 := by rw [← hw1]; simp
 have HB1 : Aside0 (Below w.heap.size w w1) := ⟨by rw [← hw1]; exact below_alloc (below_alloc (below_alloc (Below.refl _ _) _) _) _⟩
 have HS1 := pA hs1
 have HG1 := pA hg1
 have HG2 := pA hg2
 have HG3 := pA hg3
 clear hw1 HW1 hg1 hg2 hg3 hs1 hmk
 gi_wp2
 refine Rng.wpIn_rangeFunc_N (m := 1) (gf := 145) (lb := #[.pointer (some ⟨w.heap.size + 2, 0, none⟩)]) rfl (enters_of Try.func145 (by kernel_rfl) rfl)
  (down_stops A0 c0 l0 w1 (fun k => k < w.heap.size ∨ k = w.heap.size + 2) (w.heap.size + 2) HL.out (.inr rfl) (by have := HS1.out; omega) HG3.out w.heap.size (fun k h => .inl h) (fun k h => by have := HS1.out; omega) w rfl HR0.out HB1.out)
  (fun k h => by have := HS1.out; omega) (Below.refl _ _) (fun _ => rfl)
  (fun pre W => W.heap[w.heap.size]? = some (.cells (flatR (outAt l0 pre.length)).toArray 23 (0, 0)) ∧ W.heap[w.heap.size + 1]? = some (.cells #[.slice (some ⟨w.heap.size, 0, none⟩) l0.length l0.length] 57 (0, 0)) ∧ Below w.heap.size w W)
  (fun _ _ _ => False)
  (fun s A C row hs hg hr => ⟨blk_grown hs.1 hg (fun e => by have := hr _ e.symm; have := HS1.out; omega), blk_grown hs.2.1 hg (fun e => by have := hr _ e.symm; have := HS1.out; omega), pw_below_grown hs.2.2 _ hs.2.2.size hg (fun k e => by have := hr _ e; have := HS1.out; omega)⟩)
  (fun _ _ _ _ _ h _ _ => h)
  ⟨HG1.out, HG2.out, HB1.out⟩
  (fun x W a1 => ∃ Bx, w.heap.size + 6 ≤ Bx ∧ W.heap[Bx]? = some (.cells #[.int .i64 x.2.f0, .int .i64 x.2.f1] 23 (0, 0)) ∧
   a1 = { tmps := #[.slice A0 l0.length c0, undef, .slice none 0 0, .pointer (some ⟨w.heap.size + 1, 0, none⟩), .int .i64 x.1, .pointer (some ⟨Bx, 0, none⟩), .slice A0 l0.length c0, .int .i64 (l0.length : Int), .slice (some ⟨w.heap.size, 0, none⟩) l0.length l0.length, .slice A0 l0.length c0, .func (.func 145) #[] #[.pointer (some ⟨w.heap.size + 2, 0, none⟩)], .int .i64 x.1, .agg #[.int .i64 x.2.f0, .int .i64 x.2.f1], undef, undef, undef, undef, undef], defers := [] })
  (fun x a1 A C row hs hg hr => by
   obtain ⟨Bx, h1, h2, h3⟩ := hs
   exact ⟨Bx, h1, blk_grown h2 hg (fun e => by have := hr _ e.symm; have := HS1.out; omega), h3⟩)
  ?assign ?body ?done ?stop
 case assign =>
  rintro l pre x W K ⟨h1, h2, h3⟩ hpre hsz hK
  have HK := pA hK
  clear hK
  have HH1 := pA h1
  have HH2 := pA h2
  have HH3 := pA h3
  clear h1 h2 h3
  simp only [encDown]
  gi_wp2
  refine HK.out _ _ ⟨W.heap.size, by have := HS1.out; omega, heap_alloc_new W _, rfl⟩ ⟨blk_alloc HH1.out _, blk_alloc HH2.out _, below_alloc HH3.out _⟩ (Rng.Keep.of_below (below_alloc (Below.refl _ _) _) (fun k hk => by have := HS1.out; omega)) (fun k h1 h2 => ?_) (by simp)
  exact Below.heap_alloc W _ k (by have := HS1.out; omega)
 case body =>
  rintro l pre x a1 W ⟨h1, h2, h3⟩ ⟨Bx, hBx, hb, rfl⟩ hpre hsz
  have HH1 := pA h1
  have HH2 := pA h2
  have HH3 := pA h3
  obtain ⟨hpl, rfl⟩ := downs_snoc l0 hpre
  dsimp only at hb ⊢
  have e3 : ((l0.length : Int) - (pre.length + 1)).toNat = l0.length - (pre.length + 1) := by omega
  have hlen : (outAt l0 pre.length).length = l0.length := outAt_length _ _
  have y0 := blk_cell h2 0
  have y1 := blk_cell hb 0
  have y2 := blk_cell hb 1
  obtain ⟨v0, z0⟩ : ∃ v, W.cell? ⟨w.heap.size, ((l0.length : Int) - (pre.length + 1)).toNat * 2, none⟩ = some v := by
   rw [blk_cell h1, List.getElem?_toArray]
   exact ⟨_, List.getElem?_eq_getElem (by rw [flatR_length, hlen]; omega)⟩
  obtain ⟨v1, z1⟩ : ∃ v, W.cell? ⟨w.heap.size, ((l0.length : Int) - (pre.length + 1)).toNat * 2 + 1, none⟩ = some v := by
   rw [blk_cell h1, List.getElem?_toArray]
   exact ⟨_, List.getElem?_eq_getElem (by rw [flatR_length, hlen]; omega)⟩
  have z2 := blk_frozen h1 (((l0.length : Int) - (pre.length + 1)).toNat * 2)
  have z3 := blk_frozen h1 (((l0.length : Int) - (pre.length + 1)).toNat * 2 + 1)
  obtain ⟨X, hX⟩ : ∃ X : Int, X = (l0.length : Int) - (pre.length + 1) := ⟨_, rfl⟩
  rw [← hX] at z0 z1 z2 z3 e3 ⊢
  have p1 : (0 ≤ X) = True := eq_true (by omega)
  have p2 : (X < (l0.length : Int)) = True := eq_true (by omega)
  have HE3 := pA e3
  have HXX := pA hX
  have HPL := pA hpl
  have HHB := pA hb
  clear h1 h2 h3 hb e3 hX hlen hpl
  gi_wp2
  have hst : ∀ k, some k ≠ some w.heap.size → ((W.setCell ⟨w.heap.size, X.toNat * 2, none⟩ (.int .i64 (sumW (l0.drop (l0.length - pre.length))).f0)).setCell ⟨w.heap.size, X.toNat * 2 + 1, none⟩ (.int .i64 (sumW (l0.drop (l0.length - pre.length))).f1)).heap[k]? = W.heap[k]? := fun k hk => by
   rw [Below.heap_setCell _ _ _ k (fun e => hk (by rw [e])), Below.heap_setCell _ _ _ k (fun e => hk (by rw [e]))]
  refine ⟨fun k h1 h2 => hst k (by intro e; cases e; have := HS1.out; omega), ⟨rfl, rfl, rfl, by simp, fun k hk => hst k (by intro e; cases e; omega)⟩, ?_, (hst _ (by simp)).trans HH2.out, ⟨HH3.out.os, HH3.out.tape, HH3.out.output, by simpa using HH3.out.size, fun k hk => (hst k (by intro e; cases e; omega)).trans (HH3.out.block k hk)⟩⟩
  have e5 := outAt_step l0 pre.length HPL.out
  rw [← HE3.out] at e5
  rw [List.length_append, List.length_singleton, ← e5, flatR_set _ _ _ (by rw [outAt_length, HE3.out]; have := HPL.out; omega), Nat.mul_comm 2]
  exact blk_put (blk_put HH1.out _ _ rfl) _ _ (by simp)
 case done =>
  rintro W ⟨h1, h2, h3⟩ hK
  have y0 := blk_cell h2 0
  have HH1 := pA h1
  have HH3 := pA h3
  clear h1 h2 h3
  gi_wp2
  refine ⟨by simp, .inl ⟨_, _, rfl, run_takeDeferred hK, ?_⟩⟩
  have e6 := HH1.out
  rw [downs_length, outAt_all] at e6
  have e7 := R_of_block (W := W.putObj w1.heap.size (.deferred none)) (base := w.heap.size) (g := w.heap.size) (xs := loadsOf l0) (Nat.le_refl _) (by rw [loadsOf_length]; omega) ((World.putObj_heap_other (by have := HS1.out; omega)).trans e6)
  rw [loadsOf_length] at e7
  refine ⟨_, results_tmp rfl _ _ _, ?_⟩
  exact ⟨_, rfl, e7, ⟨HH3.out.os, HH3.out.tape, HH3.out.output, by simpa using HH3.out.size, fun k hk => (World.putObj_heap_other (by have := HS1.out; omega)).trans (HH3.out.block k hk)⟩⟩
 case stop =>
  intro c pre W _ h _
  exact h.elim
end Go.Proofs.Ytbiakjgjedhjhaa.P
namespace Go.Proofs.Ytbiakjgjedhjhaa.P
open Go.RowKit Go.Proofs.YtbiakjgjedhjhaaW.PrintWords Go.Proofs.YtbiakjgjedhjhaaW.PrintLast Go.Proofs.YtbiakjgjedhjhaaW.PrintMore
attribute [local go_sem] max2_int min2_int max_two min_two max_three min_three max_four min_four
def slices_Clone_int_int.f (l0 : List Int) : Option (List Int) := if l0.length < 17592186044416 then some l0 else none
theorem R_empty {α : Type} (d : Kd α) (e : Nat) (W : World) (ok : Nat → Prop) (hok : ∀ k, ok k) : Kd.R d e (W.alloc (.cells #[] e)) W.heap.size ok (.slice (some ⟨W.heap.size, 0, none⟩) 0 0) [] :=
  ⟨fun k _ => hok k, [], ⟨by simp, .inr ⟨W.heap.size, 0, #[], rfl, Nat.le_refl _, heap_alloc_new W _, Nat.le_refl _, by simp [maxLen], by simp, by simp⟩⟩, ⟨by simp, fun j p hj => by simp at hj⟩⟩
set_option maxHeartbeats 4000000 in
set_option maxRecDepth 100000 in
theorem slices_Clone_int_int.calls (A0 : Option Addr) (c0 : Nat) (l0 : List Int) (r : List Int) (w : World) (hr0 : Kd.C (Kd.int .i64) w A0 l0.length l0) (hc0 : l0.length ≤ c0) (h : slices_Clone_int_int.f l0 = some r) :
  Calls Try.prog 125 #[.slice A0 l0.length c0] w fun e w' => ∃ v0_ : Value, e = .returned v0_ ∧ Kd.R (Kd.int .i64) 3 w' w.heap.size (fun _ => True) v0_ r ∧ Below w.heap.size w w' := by
 unfold slices_Clone_int_int.f at h
 split at h
 case isFalse => cases h
 rename_i hlt
 obtain rfl := Option.some.inj h
 clear h
 have HR0 := pA hr0
 have HLT := pA hlt
 clear hr0 hlt
 rcases A0 with _ | ad
 ·obtain rfl : l0 = [] := by
   rcases Nat.eq_zero_or_pos l0.length with h0 | h0
   ·exact List.eq_nil_of_length_eq_zero h0
   ·obtain ⟨ad, h, _⟩ := HR0.out.2.2 h0
    cases h
  have hnil := fun W => Go.Lib.run_eql_slice_nil (P := Try.prog) W 38 3 none 0 c0 0 0 Try.underlying38
  go_enter Try.func125, Try.ntmps125
  go_wp2
  go_ret
  exact ⟨_, rfl, Kd.R_nil _ _ _ _ _, Below.refl _ _⟩
 ·have hnil := fun W => Go.Lib.run_eql_slice_nil (P := Try.prog) W 38 3 (some ad) l0.length c0 0 0 Try.underlying38
  go_enter Try.func125, Try.ntmps125
  go_wp2_with (at_builtin; refine Kd.R_append_rows (Kd.int .i64) (w0 := w) w.heap.size rfl (.tmp 5) (.tmp 6) 38 3 (.int .i64 0) 8 rfl Try.underlying38 info3 rfl (by decide) (by omega) (.slice (some ⟨w.heap.size, 0, none⟩) 0 0) [] l0 (some ad) l0.length c0 (fun _ => True) (fun _ => False) rfl rfl ?aO ?aR (fun _ _ h => h) (fun _ h => h.elim) (fun _ _ => trivial) ?aB ?aS ?aL ?_; (case aO => exact R_empty _ _ _ _ (fun _ => trivial)); (case aR => exact Kd.C_alloc HR0.out _); (case aB => exact below_alloc (Below.refl _ _) _); (case aS => simp); (case aL => have := HLT.out; simp; omega); intro v1 w1 ho hb hg hat; have HO := pA ho; have HB := pA hb; clear ho hb hg hat)
  go_ret
  exact ⟨_, rfl, HO.out, HB.out⟩
def cmp_Or_int.l0 : Nat → Int → List Int → Int → Int → Option (Int)
  | 0, _, _, _, _ => none
  | k + 1, x3, x6, x7, x8 => if x8 < x7 then (if 0 ≤ x8 then (if x8 < (x6.length : Int) then (if (rd x6 x8) = x3 then (cmp_Or_int.l0 k x3 x6 x7 (wrap64 (x8 + 1))) else (some (rd x6 x8))) else (none)) else (none)) else (some x3)
def cmp_Or_int.f (k : Nat) (l0 : List Int) : Option (Int) := cmp_Or_int.l0 k 0 l0 (l0.length : Int) 0
theorem cmp_Or_int.mono_l : ∀ k, (∀ y0 y1 y2 y3, LeO (cmp_Or_int.l0 k y0 y1 y2 y3) (cmp_Or_int.l0 (k + 1) y0 y1 y2 y3))
 | 0 => fun _ _ _ _ r h => by simp [cmp_Or_int.l0] at h
 | k + 1 => by
  have ih0 := cmp_Or_int.mono_l k
  ·intro y0 y1 y2 y3
   unfold cmp_Or_int.l0
   repeat' first
   | (with_reducible exact ih0 _ _ _ _)
   | (with_reducible exact LeO.refl _)
   | (with_reducible exact LeO.none _)
   | (with_reducible refine LeO.ite ?_ ?_)
   | (with_reducible refine LeO.bind ?_ (fun _ => ?_))
   | exact ih0 _ _ _ _
   | exact LeO.none _
   | refine LeO.ite ?_ ?_
   | refine LeO.bind ?_ (fun _ => ?_)
theorem cmp_Or_int.mono : ∀ a0 k, LeO (cmp_Or_int.f k a0) (cmp_Or_int.f (k + 1) a0) := by
 intro a0 k
 have ih0 := cmp_Or_int.mono_l k
 unfold cmp_Or_int.f
 repeat' first
   | (with_reducible exact ih0 _ _ _ _)
   | (with_reducible exact LeO.refl _)
   | (with_reducible exact LeO.none _)
   | (with_reducible refine LeO.ite ?_ ?_)
   | (with_reducible refine LeO.bind ?_ (fun _ => ?_))
   | exact ih0 _ _ _ _
   | exact LeO.none _
   | refine LeO.ite ?_ ?_
   | refine LeO.bind ?_ (fun _ => ?_)
set_option maxHeartbeats 8000000 in
set_option maxRecDepth 100000 in
theorem cmp_Or_int.calls (k : Nat) (A0 : Option Addr) (c0 : Nat) (l0 : List Int) (r : Int) (w : World) (hr0 : Kd.C (Kd.int .i64) w A0 l0.length l0) (hc0 : l0.length ≤ c0) (h : cmp_Or_int.f k l0 = some r) :
  Calls Try.prog 135 #[.slice A0 l0.length c0] w fun e w' => e = .returned (.int .i64 r) ∧ Drawn0 w w' := by
 have HR0 := pA hr0
 have HC0 := pA hc0
 clear hr0 hc0
 have H : (cmp_Or_int.l0 k 0 l0 (l0.length : Int) 0) = some r := h
 clear h
 have H' := pA H
 clear H
 go_enter Try.func135, Try.ntmps135
 go_wp2
 go_loopg [8] k (fun kq v8 w' => ∃ (x8_1 : Int), v8 = .int .i64 x8_1 ∧ Aside0 (cmp_Or_int.l0 kq 0 l0 (l0.length : Int) x8_1 = some r) ∧ Aside0 (kq ≤ k) ∧ Drawn0 w w')
 case atStart => exact ⟨(0), (by first | rfl | (simp; done) | (simp [*]; done)), H', ⟨Nat.le_refl _⟩, by repeat (first | exact Drawn0.refl _ | apply Drawn0.step)⟩
 case round =>
  clear H'
  try clear c1
  obtain ⟨x8_1, rfl, HA, HK1, ⟨m1, rfl⟩⟩ := hrel
  cases gk with
  | zero => exact absurd HA.out (by simp [cmp_Or_int.l0])
  | succ k1 =>
   have H := HA.out
   clear HA
   simp only [cmp_Or_int.l0] at H
   by_cases c2 : x8_1 < (l0.length : Int)
   ·rw [if_pos c2] at H
    have c2b0 : decide (x8_1 < (l0.length : Int)) = true := decide_eq_true c2
    clear c2
    by_cases c3 : 0 ≤ x8_1
    ·rw [if_pos c3] at H
     have c3b0 : decide (0 ≤ x8_1) = true := decide_eq_true c3
     clear c3
     by_cases c4 : x8_1 < (l0.length : Int)
     ·rw [if_pos c4] at H
      have c4b0 : decide (x8_1 < (l0.length : Int)) = true := decide_eq_true c4
      clear c4
      by_cases c5 : (rd l0 x8_1) = 0
      ·rw [if_pos c5] at H
       have c5b0 : ((rd l0 x8_1) == 0) = true := beq_iff_eq.mpr c5
       have c5b1 : ((rd l0 x8_1) != 0) = false := bne_eq_false_iff_eq.mpr c5
       clear c5
       have H' := pA H
       clear H
       have p112 : 0 ≤ (x8_1 : Int) := of_decide_eq_true (by first | (with_reducible assumption) | assumption)
       have q112 : x8_1 < (l0.length : Int) := of_decide_eq_true (by first | (with_reducible assumption) | assumption)
       obtain ⟨ad112, e112, hx112_0⟩ := Kd.at_int HR0.out x8_1 p112 q112
       cases e112
       replace p112 := eq_true p112
       replace q112 := eq_true q112
       go_wp2
       go_roundg k1
       case measure => have := HK1.out; omega
       case rel => exact ⟨(wrap64 (x8_1 + 1)), (by first | rfl | (simp; done) | (simp [*]; done)), H', ⟨by have := HK1.out; omega⟩, by repeat (first | exact Drawn0.refl _ | apply Drawn0.step)⟩
      ·rw [if_neg c5] at H
       have c5b0 : ((rd l0 x8_1) == 0) = false := beq_eq_false_iff_ne.mpr c5
       have c5b1 : ((rd l0 x8_1) != 0) = true := bne_iff_ne.mpr c5
       obtain rfl := Option.some.inj H
       have p112 : 0 ≤ (x8_1 : Int) := of_decide_eq_true (by first | (with_reducible assumption) | assumption)
       have q112 : x8_1 < (l0.length : Int) := of_decide_eq_true (by first | (with_reducible assumption) | assumption)
       obtain ⟨ad112, e112, hx112_0⟩ := Kd.at_int HR0.out x8_1 p112 q112
       cases e112
       replace p112 := eq_true p112
       replace q112 := eq_true q112
       go_wp2
       go_ret
       exact ⟨by first | rfl | (simp; done) | (simp [*]; done), by repeat (first | exact Drawn0.refl _ | apply Drawn0.step)⟩
     ·rw [if_neg c4] at H
      exact absurd H (by simp)
    ·rw [if_neg c3] at H
     exact absurd H (by simp)
   ·rw [if_neg c2] at H
    have c2b0 : decide (x8_1 < (l0.length : Int)) = false := decide_eq_false c2
    clear c2
    obtain rfl := Option.some.inj H
    go_wp2
    go_ret
    exact ⟨by first | rfl | (simp; done) | (simp [*]; done), by repeat (first | exact Drawn0.refl _ | apply Drawn0.step)⟩
def cmp_isNaN_int.f (a0 : Int) : Option (Bool) := some (a0 != a0)
set_option maxHeartbeats 8000000 in
set_option maxRecDepth 100000 in
theorem cmp_isNaN_int.calls (a0 : Int) (r : Bool) (w : World) (h : cmp_isNaN_int.f a0 = some r) :
  Calls Try.prog 149 #[.int .i64 a0] w fun e w' => e = .returned (.bool r) ∧ Drawn0 w w' := by
 have H : (some (a0 != a0)) = some r := h
 clear h
 obtain rfl := Option.some.inj H
 go_enter Try.func149, Try.ntmps149
 go_wp2
 go_ret
 exact ⟨by first | rfl | (simp; done) | (simp [*]; done), by repeat (first | exact Drawn0.refl _ | apply Drawn0.step)⟩
def cmp_Compare_int.f (a0 : Int) (a1 : Int) : Option (Int) := (cmp_isNaN_int.f a0).bind fun t113 => ((cmp_isNaN_int.f a1).bind fun t114 => (if t113 = true then (if t114 = true then (some 0) else (some (-1))) else (if t114 = true then (some 1) else (if a0 < a1 then (some (-1)) else (if a0 > a1 then (some 1) else (some 0))))))
set_option maxHeartbeats 8000000 in
set_option maxRecDepth 100000 in
theorem cmp_Compare_int.calls (a0 : Int) (a1 : Int) (r : Int) (w : World) (h : cmp_Compare_int.f a0 a1 = some r) :
  Calls Try.prog 136 #[.int .i64 a0, .int .i64 a1] w fun e w' => e = .returned (.int .i64 r) ∧ Drawn0 w w' := by
 have H : ((cmp_isNaN_int.f a0).bind fun t113 => ((cmp_isNaN_int.f a1).bind fun t114 => (if t113 = true then (if t114 = true then (some 0) else (some (-1))) else (if t114 = true then (some 1) else (if a0 < a1 then (some (-1)) else (if a0 > a1 then (some 1) else (some 0))))))) = some r := h
 clear h
 replace H := Option.bind_eq_some_iff.mp H
 obtain ⟨t113, A30, H⟩ := H
 replace H : ((cmp_isNaN_int.f a1).bind fun t114 => (if t113 = true then (if t114 = true then (some 0) else (some (-1))) else (if t114 = true then (some 1) else (if a0 < a1 then (some (-1)) else (if a0 > a1 then (some 1) else (some 0)))))) = some r := H
 have A3 := pA A30
 clear A30
 replace H := Option.bind_eq_some_iff.mp H
 obtain ⟨t114, A40, H⟩ := H
 replace H : (if t113 = true then (if t114 = true then (some 0) else (some (-1))) else (if t114 = true then (some 1) else (if a0 < a1 then (some (-1)) else (if a0 > a1 then (some 1) else (some 0))))) = some r := H
 have A4 := pA A40
 clear A40
 by_cases c5 : t113 = true
 ·subst c5
  have H1 : (if t114 = true then (some 0) else (some (-1))) = some r := by rw [if_pos rfl] at H; exact H
  clear H
  have H := H1
  clear H1
  by_cases c6 : t114 = true
  ·subst c6
   have H1 : (some 0) = some r := by rw [if_pos rfl] at H; exact H
   clear H
   have H := H1
   clear H1
   obtain rfl := Option.some.inj H
   go_enter Try.func136, Try.ntmps136
   go_wp2_with (first | ((with_reducible refine gate_callee (f := 149) rfl ?_); refine goesL_ (some 8) rfl rfl Try.func149 (by kernel_rfl) rfl #[.int .i64 a0] rfl (by (try simp only [List.map_toArray, List.map_cons, List.map_nil]); first | done | rfl | (simp only [List.length_drop, List.length_take]; rfl)) ?_; (with_reducible refine (cmp_isNaN_int.calls a0 true _ A3.out).mono ?_); rintro e w' ⟨rfl, ⟨nd, rfl⟩⟩; refine ⟨_, rfl, ?_⟩) | ((with_reducible refine gate_callee (f := 149) rfl ?_); refine goesL_ (some 10) rfl rfl Try.func149 (by kernel_rfl) rfl #[.int .i64 a1] rfl (by (try simp only [List.map_toArray, List.map_cons, List.map_nil]); first | done | rfl | (simp only [List.length_drop, List.length_take]; rfl)) ?_; (with_reducible refine (cmp_isNaN_int.calls a1 true _ A4.out).mono ?_); rintro e w' ⟨rfl, ⟨nd, rfl⟩⟩; refine ⟨_, rfl, ?_⟩))
   go_ret
   exact ⟨by first | rfl | (simp; done) | (simp [*]; done), by repeat (first | exact Drawn0.refl _ | apply Drawn0.step)⟩
  ·replace c6 := Bool.eq_false_iff.mpr c6
   subst c6
   have H1 : (some (-1)) = some r := by rw [if_neg (show ¬ (false = true) by decide)] at H; exact H
   clear H
   have H := H1
   clear H1
   obtain rfl := Option.some.inj H
   go_enter Try.func136, Try.ntmps136
   go_wp2_with (first | ((with_reducible refine gate_callee (f := 149) rfl ?_); refine goesL_ (some 8) rfl rfl Try.func149 (by kernel_rfl) rfl #[.int .i64 a0] rfl (by (try simp only [List.map_toArray, List.map_cons, List.map_nil]); first | done | rfl | (simp only [List.length_drop, List.length_take]; rfl)) ?_; (with_reducible refine (cmp_isNaN_int.calls a0 true _ A3.out).mono ?_); rintro e w' ⟨rfl, ⟨nd, rfl⟩⟩; refine ⟨_, rfl, ?_⟩) | ((with_reducible refine gate_callee (f := 149) rfl ?_); refine goesL_ (some 10) rfl rfl Try.func149 (by kernel_rfl) rfl #[.int .i64 a1] rfl (by (try simp only [List.map_toArray, List.map_cons, List.map_nil]); first | done | rfl | (simp only [List.length_drop, List.length_take]; rfl)) ?_; (with_reducible refine (cmp_isNaN_int.calls a1 false _ A4.out).mono ?_); rintro e w' ⟨rfl, ⟨nd, rfl⟩⟩; refine ⟨_, rfl, ?_⟩))
   go_ret
   exact ⟨by first | rfl | (simp; done) | (simp [*]; done), by repeat (first | exact Drawn0.refl _ | apply Drawn0.step)⟩
 ·replace c5 := Bool.eq_false_iff.mpr c5
  subst c5
  have H1 : (if t114 = true then (some 1) else (if a0 < a1 then (some (-1)) else (if a0 > a1 then (some 1) else (some 0)))) = some r := by rw [if_neg (show ¬ (false = true) by decide)] at H; exact H
  clear H
  have H := H1
  clear H1
  by_cases c7 : t114 = true
  ·subst c7
   have H1 : (some 1) = some r := by rw [if_pos rfl] at H; exact H
   clear H
   have H := H1
   clear H1
   obtain rfl := Option.some.inj H
   go_enter Try.func136, Try.ntmps136
   go_wp2_with (first | ((with_reducible refine gate_callee (f := 149) rfl ?_); refine goesL_ (some 8) rfl rfl Try.func149 (by kernel_rfl) rfl #[.int .i64 a0] rfl (by (try simp only [List.map_toArray, List.map_cons, List.map_nil]); first | done | rfl | (simp only [List.length_drop, List.length_take]; rfl)) ?_; (with_reducible refine (cmp_isNaN_int.calls a0 false _ A3.out).mono ?_); rintro e w' ⟨rfl, ⟨nd, rfl⟩⟩; refine ⟨_, rfl, ?_⟩) | ((with_reducible refine gate_callee (f := 149) rfl ?_); refine goesL_ (some 10) rfl rfl Try.func149 (by kernel_rfl) rfl #[.int .i64 a1] rfl (by (try simp only [List.map_toArray, List.map_cons, List.map_nil]); first | done | rfl | (simp only [List.length_drop, List.length_take]; rfl)) ?_; (with_reducible refine (cmp_isNaN_int.calls a1 true _ A4.out).mono ?_); rintro e w' ⟨rfl, ⟨nd, rfl⟩⟩; refine ⟨_, rfl, ?_⟩))
   go_ret
   exact ⟨by first | rfl | (simp; done) | (simp [*]; done), by repeat (first | exact Drawn0.refl _ | apply Drawn0.step)⟩
  ·replace c7 := Bool.eq_false_iff.mpr c7
   subst c7
   have H1 : (if a0 < a1 then (some (-1)) else (if a0 > a1 then (some 1) else (some 0))) = some r := by rw [if_neg (show ¬ (false = true) by decide)] at H; exact H
   clear H
   have H := H1
   clear H1
   by_cases c8 : a0 < a1
   ·rw [if_pos c8] at H
    have c8b0 : decide (a0 < a1) = true := decide_eq_true c8
    clear c8
    obtain rfl := Option.some.inj H
    go_enter Try.func136, Try.ntmps136
    go_wp2_with (first | ((with_reducible refine gate_callee (f := 149) rfl ?_); refine goesL_ (some 8) rfl rfl Try.func149 (by kernel_rfl) rfl #[.int .i64 a0] rfl (by (try simp only [List.map_toArray, List.map_cons, List.map_nil]); first | done | rfl | (simp only [List.length_drop, List.length_take]; rfl)) ?_; (with_reducible refine (cmp_isNaN_int.calls a0 false _ A3.out).mono ?_); rintro e w' ⟨rfl, ⟨nd, rfl⟩⟩; refine ⟨_, rfl, ?_⟩) | ((with_reducible refine gate_callee (f := 149) rfl ?_); refine goesL_ (some 10) rfl rfl Try.func149 (by kernel_rfl) rfl #[.int .i64 a1] rfl (by (try simp only [List.map_toArray, List.map_cons, List.map_nil]); first | done | rfl | (simp only [List.length_drop, List.length_take]; rfl)) ?_; (with_reducible refine (cmp_isNaN_int.calls a1 false _ A4.out).mono ?_); rintro e w' ⟨rfl, ⟨nd, rfl⟩⟩; refine ⟨_, rfl, ?_⟩))
    go_ret
    exact ⟨by first | rfl | (simp; done) | (simp [*]; done), by repeat (first | exact Drawn0.refl _ | apply Drawn0.step)⟩
   ·rw [if_neg c8] at H
    have c8b0 : decide (a0 < a1) = false := decide_eq_false c8
    clear c8
    by_cases c9 : a0 > a1
    ·rw [if_pos c9] at H
     have c9b0 : decide (a1 < a0) = true := decide_eq_true c9
     clear c9
     obtain rfl := Option.some.inj H
     go_enter Try.func136, Try.ntmps136
     go_wp2_with (first | ((with_reducible refine gate_callee (f := 149) rfl ?_); refine goesL_ (some 8) rfl rfl Try.func149 (by kernel_rfl) rfl #[.int .i64 a0] rfl (by (try simp only [List.map_toArray, List.map_cons, List.map_nil]); first | done | rfl | (simp only [List.length_drop, List.length_take]; rfl)) ?_; (with_reducible refine (cmp_isNaN_int.calls a0 false _ A3.out).mono ?_); rintro e w' ⟨rfl, ⟨nd, rfl⟩⟩; refine ⟨_, rfl, ?_⟩) | ((with_reducible refine gate_callee (f := 149) rfl ?_); refine goesL_ (some 10) rfl rfl Try.func149 (by kernel_rfl) rfl #[.int .i64 a1] rfl (by (try simp only [List.map_toArray, List.map_cons, List.map_nil]); first | done | rfl | (simp only [List.length_drop, List.length_take]; rfl)) ?_; (with_reducible refine (cmp_isNaN_int.calls a1 false _ A4.out).mono ?_); rintro e w' ⟨rfl, ⟨nd, rfl⟩⟩; refine ⟨_, rfl, ?_⟩))
     go_ret
     exact ⟨by first | rfl | (simp; done) | (simp [*]; done), by repeat (first | exact Drawn0.refl _ | apply Drawn0.step)⟩
    ·rw [if_neg c9] at H
     have c9b0 : decide (a1 < a0) = false := decide_eq_false c9
     clear c9
     obtain rfl := Option.some.inj H
     go_enter Try.func136, Try.ntmps136
     go_wp2_with (first | ((with_reducible refine gate_callee (f := 149) rfl ?_); refine goesL_ (some 8) rfl rfl Try.func149 (by kernel_rfl) rfl #[.int .i64 a0] rfl (by (try simp only [List.map_toArray, List.map_cons, List.map_nil]); first | done | rfl | (simp only [List.length_drop, List.length_take]; rfl)) ?_; (with_reducible refine (cmp_isNaN_int.calls a0 false _ A3.out).mono ?_); rintro e w' ⟨rfl, ⟨nd, rfl⟩⟩; refine ⟨_, rfl, ?_⟩) | ((with_reducible refine gate_callee (f := 149) rfl ?_); refine goesL_ (some 10) rfl rfl Try.func149 (by kernel_rfl) rfl #[.int .i64 a1] rfl (by (try simp only [List.map_toArray, List.map_cons, List.map_nil]); first | done | rfl | (simp only [List.length_drop, List.length_take]; rfl)) ?_; (with_reducible refine (cmp_isNaN_int.calls a1 false _ A4.out).mono ?_); rintro e w' ⟨rfl, ⟨nd, rfl⟩⟩; refine ⟨_, rfl, ?_⟩))
     go_ret
     exact ⟨by first | rfl | (simp; done) | (simp [*]; done), by repeat (first | exact Drawn0.refl _ | apply Drawn0.step)⟩
end Go.Proofs.Ytbiakjgjedhjhaa.P
namespace Go.Proofs.Ytbiakjgjedhjhaa.P
open Go.RowKit Go.Proofs.YtbiakjgjedhjhaaW.PrintWords Go.Proofs.YtbiakjgjedhjhaaW.PrintLast Go.Proofs.YtbiakjgjedhjhaaW.PrintMore
attribute [local go_sem] max2_int min2_int max_two min_two max_three min_three max_four min_four
open Go.Sort (grow grow_empty grow_grow mapBlock onCells putCells putRow Holds SWO)
/-- How a saggar counts in the setter's rule. -/
def strong (s : S52) : Int := s.f1.f1 + s.f2.f0
/-- Blocks were added, and orders drawn, no more. -/
def Grew (w w' : World) : Prop := ∃ q os, w' = grow (w.drewN q) os
theorem Grew.refl (w : World) : Grew w w := ⟨0, #[], by rw [grow_empty]; rfl⟩
theorem Grew.trans {a b c : World} (h : Grew a b) (k : Grew b c) : Grew a c := by
 obtain ⟨q, os, rfl⟩ := h
 obtain ⟨q', os', rfl⟩ := k
 refine ⟨q + q', os ++ os', ?_⟩
 show grow ((grow (a.drewN q) os).drewN q') os' = _
 rw [← grow_grow]
 simp [grow, World.drewN, Nat.add_assoc]
theorem Grew.drew (w : World) (q : Nat) : Grew w (w.drewN q) := ⟨q, #[], by rw [grow_empty]⟩
theorem Grew.alloc (w : World) (o : Obj) : Grew w (w.alloc o) := ⟨0, #[o], by
  unfold World.alloc grow World.drewN
  simp only [Nat.add_zero, Array.push_eq_append]⟩
theorem Grew.of_drawn {w w' : World} (h : Drawn0 w w') : Grew w w' := by
  obtain ⟨n, rfl⟩ := h
  exact Grew.drew w n
theorem Grew.below {w w' : World} (h : Grew w w') : Below w.heap.size w w' := by
 obtain ⟨q, os, rfl⟩ := h
 refine ⟨rfl, rfl, rfl, by simp [grow, World.drewN], fun k hk => ?_⟩
 simp only [grow, World.drewN]
 rw [Array.getElem?_append_left hk]
set_option maxHeartbeats 4000000 in
set_option maxRecDepth 100000 in
theorem strong_calls (A : Option Addr) (c : Nat) (l : List S52) (W : World) (Bs : Nat) (hbox : W.cell? ⟨Bs, 0, none⟩ = some (.slice A l.length c)) (hC : Kd.C k52 W A l.length l) (i : Int) (h0 : 0 ≤ i) (h1 : i < l.length) (hv : l.all vSag = true) :
  Calls Try.prog 132 #[.int .i64 i, .pointer (some ⟨Bs, 0, none⟩)] W fun e w' => e = .returned (.int .i64 (strong (rd_T52 l i))) ∧ Grew W w' := by
 obtain ⟨ad, e, x0, x1, x2, x3, x4, x5, x6, x7⟩ := at_T52 hC i h0 h1
 cases e
 have hw := all_at hv h0 h1
 simp only [vSag, decide_eq_true_eq] at hw
 have HWr := pA (show wrap64 ((rd_T52 l i).f1.f1 + (rd_T52 l i).f2.f0) = strong (rd_T52 l i) by unfold wrap64 strong; omega)
 clear hw hC hv x0 x1 x4 x5 x6 x7
 have p1 : (0 ≤ i) = True := eq_true h0
 have p2 : (i < (l.length : Int)) = True := eq_true h1
 go_enter Try.func132, Try.ntmps132
 go_wp2
 go_quiet (fail)
 go_wp2
 go_ret
 exact ⟨by rw [← HWr.out]; rfl, Grew.drew _ _⟩
/-- What cmp.Compare tells of whole numbers, and cmp.Or of two. -/
def cmp3 (a b : Int) : Int := if a < b then -1 else if b < a then 1 else 0
def or2 (a b : Int) : Int := if a = 0 then b else a
/-- What the rule's comparison tells. -/
def cfR (l : List S52) (i k : Int) : Int := or2 (cmp3 (strong (rd_T52 l k)) (strong (rd_T52 l i))) (cmp3 (rd_T52 l i).f0 (rd_T52 l k).f0)
theorem compare_f (a b : Int) : cmp_Compare_int.f a b = some (cmp3 a b) := by
  unfold cmp3 cmp_Compare_int.f cmp_isNaN_int.f
  by_cases h1 : a < b <;> by_cases h2 : b < a <;> simp [h1, h2]
theorem or_f (a b : Int) : cmp_Or_int.f 3 [a, b] = some (or2 a b) := by
  unfold or2
  by_cases h : a = 0 <;> by_cases h2 : b = 0 <;> simp [cmp_Or_int.f, cmp_Or_int.l0, rd, wrap64, h, h2]
theorem keep_cell' {w1 w2 : World} {p : Addr} {v : Value} (h : w1.cell? p = some v) (g : Grew w1 w2) : w2.cell? p = some v := pw_cell_below g.below h
theorem pk_keep5 {W w1 w2 : World} {p1 p2 p3 p4 : Addr} {v1 v2 v3 v4 : Value} (h : w1.cell? p1 = some v1 ∧ w1.cell? p2 = some v2 ∧ w1.cell? p3 = some v3 ∧ w1.cell? p4 = some v4 ∧ Grew W w1) (g : Grew w1 w2) :
    w2.cell? p1 = some v1 ∧ w2.cell? p2 = some v2 ∧ w2.cell? p3 = some v3 ∧ w2.cell? p4 = some v4 ∧ Grew W w2 := ⟨keep_cell' h.1 g, keep_cell' h.2.1 g, keep_cell' h.2.2.1 g, keep_cell' h.2.2.2.1 g, h.2.2.2.2.trans g⟩
theorem pk_fifth {A B C D E : Prop} (h : A ∧ B ∧ C ∧ D ∧ E) : E := h.2.2.2.2
theorem C_ints (a b : Int) (W : World) : Kd.C (Kd.int .i64) (W.alloc (.cells #[.int .i64 a, .int .i64 b] 3)) (some ⟨W.heap.size, 0, none⟩) 2 [a, b] := by
 refine ⟨rfl, by decide, fun _ => ⟨_, rfl, fun j p hj => ?_⟩⟩
 have hc : ∀ i : Nat, (W.alloc (.cells #[.int .i64 a, .int .i64 b] 3)).cell? ⟨W.heap.size, i, none⟩ = #[Value.int .i64 a, .int .i64 b][i]? := fun i => blk_cell (by simpa using heap_alloc_new W _) i
 rcases j with _ | _ | j
 ·obtain rfl : a = p := by simpa using hj
  refine ⟨[.int .i64 a], rfl, rfl, fun i u hi => ?_⟩
  rw [add_plain]
  rcases i with _ | i
  ·exact (hc _).trans hi
  ·simp at hi
 ·obtain rfl : b = p := by simpa using hj
  refine ⟨[.int .i64 b], rfl, rfl, fun i u hi => ?_⟩
  rw [add_plain]
  rcases i with _ | i
  ·exact (hc _).trans hi
  ·simp at hi
 ·simp at hj
set_option maxHeartbeats 4000000 in
set_option maxRecDepth 100000 in
theorem before_calls (A : Option Addr) (c : Nat) (l : List S52) (W : World) (Bs Bf : Nat) (hbox : W.cell? ⟨Bs, 0, none⟩ = some (.slice A l.length c)) (hfn : W.cell? ⟨Bf, 0, none⟩ = some (.func (.func 132) #[] #[.pointer (some ⟨Bs, 0, none⟩)])) (hC : Kd.C k52 W A l.length l) (i k : Int) (h0 : 0 ≤ i) (h1 : i < l.length) (h2 : 0 ≤ k) (h3 : k < l.length) (hv : l.all vSag = true) :
  Calls Try.prog 134 #[.int .i64 i, .int .i64 k, .pointer (some ⟨Bf, 0, none⟩), .pointer (some ⟨Bs, 0, none⟩)] W fun e w' => e = .returned (.int .i64 (cfR l i k)) ∧ Grew W w' := by
 obtain ⟨ad, e, x0, -⟩ := at_T52 hC i h0 h1
 cases e
 obtain ⟨ad', e, y0, -⟩ := at_T52 hC k h2 h3
 cases e
 have HC := pA hC
 have HV := pA hv
 have H0 := pA h0
 have H1 := pA h1
 have H2 := pA h2
 have H3 := pA h3
 clear hC hv
 have p1 : (0 ≤ i) = True := eq_true h0
 have p2 : (i < (l.length : Int)) = True := eq_true h1
 have p3 : (0 ≤ k) = True := eq_true h2
 have p4 : (k < (l.length : Int)) = True := eq_true h3
 clear h0 h1 h2 h3
 go_enter Try.func134, Try.ntmps134
 go_wp2
 go_region_held3 (fun w' => w'.cell? ⟨Bs, 0, none⟩ = some (.slice (some ad) l.length c) ∧ w'.cell? ⟨Bf, 0, none⟩ = some (.func (.func 132) #[] #[.pointer (some ⟨Bs, 0, none⟩)]) ∧ w'.cell? (ad.add (i.toNat * 8)) = some (.int .i64 (rd_T52 l i).f0) ∧ w'.cell? (ad.add (k.toNat * 8)) = some (.int .i64 (rd_T52 l k).f0) ∧ Grew W w')
  (first
   | exact ⟨hbox, hfn, x0, y0, Grew.drew W 1⟩
   | exact pk_keep5 (by assumption) (Grew.alloc _ _)
   | exact pk_keep5 (by assumption) (by assumption)
   | go_keep)
  (first
   | (go_at_call 132; refine (strong_calls (some ad) c l _ Bs (And.left (by assumption)) (Kd.C_below HC.out (Grew.below (pk_fifth (by assumption)))) _ (by first | exact H0.out | exact H2.out) (by first | exact H1.out | exact H3.out) HV.out).mono ?_; rintro e w1 ⟨rfl, hg⟩)
   | (go_at_call 136; refine (cmp_Compare_int.calls _ _ _ _ (compare_f _ _)).mono ?_; rintro e w1 ⟨rfl, hd⟩; have hg := Grew.of_drawn hd; clear hd)
   | (go_at_call 135; refine (cmp_Or_int.calls 3 _ _ [_, _] _ _ (C_ints _ _ _) (Nat.le_refl _) (or_f _ _)).mono ?_; rintro e w1 ⟨rfl, hd⟩; have hg := Grew.of_drawn hd; clear hd))
 have hend : ∀ x y : Int, x = y → Ending.returned (.int .i64 x) = .returned (.int .i64 y) := fun x y h => by rw [h]
 go_wp2
 go_ret
 exact ⟨rfl, pk_fifth (by assumption)⟩
/-- The indices of a list. -/
abbrev Ix (n : Nat) := { i : Int // 0 ≤ i ∧ i < (n : Int) }
def encIx {n : Nat} (x : Ix n) : Value := .int .i64 x.1
def ltR (l : List S52) (i k : Int) : Bool := decide (cfR l i k < 0)
theorem ltR_iff (l : List S52) (i k : Int) : ltR l i k = true ↔ (strong (rd_T52 l k) < strong (rd_T52 l i) ∨ (strong (rd_T52 l k) = strong (rd_T52 l i) ∧ (rd_T52 l i).f0 < (rd_T52 l k).f0)) := by
 unfold ltR cfR or2 cmp3
 generalize strong (rd_T52 l k) = a
 generalize strong (rd_T52 l i) = b
 generalize (rd_T52 l i).f0 = c
 generalize (rd_T52 l k).f0 = d
 by_cases h1 : a < b
 ·simp [h1]
 ·by_cases h2 : b < a
  ·have : ¬ a = b := by omega
   simp [h1, h2, this]
  ·have h3 : a = b := by omega
   subst h3
   by_cases h4 : c < d
   ·simp [h4]
   ·by_cases h5 : d < c <;> simp [h4, h5]
/-- Indices by the setter's rule. -/
def sortR (l : List S52) (xs : List Int) : List Int := xs.mergeSort fun x y => !(ltR l y x)
def inIx (n : Nat) (xs : List Int) : Bool := xs.all fun i => decide (0 ≤ i ∧ i < (n : Int))
def bung_rule.f (l0 : List S52) (l1 : List Int) : Option (List Int) := if (okList l0 && (inIx l0.length l1 && decide (l1.length ≤ 30))) = true then some (sortR l0 l1) else none
theorem ltR_not (l : List S52) (i k : Int) (h : ltR l i k = false) : ¬ (strong (rd_T52 l k) < strong (rd_T52 l i) ∨ (strong (rd_T52 l k) = strong (rd_T52 l i) ∧ (rd_T52 l i).f0 < (rd_T52 l k).f0)) := by
  rw [← ltR_iff, h]
  simp
theorem ix_swo (l : List S52) : SWO (ltOf fun x y : Ix l.length => cfR l x.1 y.1) where
 irrefl x := by
  have h := ltR_iff l x.1 x.1
  show ltR l x.1 x.1 = false
  rw [Bool.eq_false_iff]
  intro e
  have := h.1 e
  omega
 trans x y z h1 h2 := by
  have h1 := (ltR_iff l x.1 y.1).1 h1
  have h2 := (ltR_iff l y.1 z.1).1 h2
  exact (ltR_iff l x.1 z.1).2 (by omega)
 ntrans x y z h1 h2 := by
  show ltR l x.1 z.1 = false
  have h1 : ltR l x.1 y.1 = false := h1
  have h2 : ltR l y.1 z.1 = false := h2
  rw [Bool.eq_false_iff]
  intro e
  have h3 := (ltR_iff l x.1 z.1).1 e
  have h1 := ltR_not l _ _ h1
  have h2 := ltR_not l _ _ h2
  omega
theorem ix_total (l : List S52) (hl : okList l = true) (x y : Ix l.length) (h1 : (ltOf fun x y : Ix l.length => cfR l x.1 y.1) x y = false) (h2 : (ltOf fun x y : Ix l.length => cfR l x.1 y.1) y x = false) : x = y := by
 have h1 : ltR l x.1 y.1 = false := h1
 have h2 : ltR l y.1 x.1 = false := h2
 have h1 := ltR_not l _ _ h1
 have h2 := ltR_not l _ _ h2
 have e : (rd_T52 l x.1).f0 = (rd_T52 l y.1).f0 := by omega
 have hx : x.1.toNat < l.length := by have := x.2; omega
 have hy : y.1.toNat < l.length := by have := y.2; omega
 have ex : rd_T52 l x.1 = l[x.1.toNat] := by simp [rd_T52, List.getD_eq_getElem?_getD, hx]
 have ey : rd_T52 l y.1 = l[y.1.toNat] := by simp [rd_T52, List.getD_eq_getElem?_getD, hy]
 rw [ex, ey] at e
 simp only [okList, Bool.and_eq_true, decide_eq_true_eq] at hl
 have hn := hl.2.2
 have hn2 := List.pairwise_iff_getElem.1 hn
 apply Subtype.ext
 by_cases hlt : x.1.toNat < y.1.toNat
 ·exact absurd (by rw [List.getElem_map, List.getElem_map]; exact e) (hn2 x.1.toNat y.1.toNat (by simpa using hx) (by simpa using hy) hlt)
 ·by_cases hgt : y.1.toNat < x.1.toNat
  ·exact absurd (by rw [List.getElem_map, List.getElem_map]; exact e.symm) (hn2 y.1.toNat x.1.toNat (by simpa using hy) (by simpa using hx) hgt)
  ·have := x.2
   have := y.2
   omega
theorem sortWorld_below {α : Type} [Inhabited α] (enc : α → Value) (W : World) (g m : Nat) (d : Array α) (os : Array Obj) : W.grownBy (sortWorld enc W g 0 m d os) (some g) := by
 refine ⟨rfl, rfl, rfl, ?_, fun k hk hne => ?_⟩
 ·simp [sortWorld, grow, putRow, mapBlock, Sort.ahead]
 ·unfold sortWorld grow putRow mapBlock
  show (W.heap.modify g (onCells (putCells enc 0 d)) ++ os)[k]? = _
  rw [Array.getElem?_append_left (by simpa using hk), Array.getElem?_modify, if_neg (fun e => hne (by rw [e]))]
theorem sz1 : (Kd.int .i64).sz = 1 := rfl
/-- A row of whole numbers of the call's own, as its block. -/
theorem R_block {W : World} {base : Nat} {ok : Nat → Prop} {v : Value} {xs : List Int} (h : Kd.R (Kd.int .i64) 3 W base ok v xs) (hne : 0 < xs.length) :
  ∃ g cap cells, v = .slice (some ⟨g, 0, none⟩) xs.length cap ∧ base ≤ g ∧ W.heap[g]? = some (.cells cells 3 (0, 0)) ∧ xs.length ≤ cap ∧ cap ≤ maxLen ∧ cells.size = cap * 1 ∧ ∀ (j : Nat) (x : Int), xs[j]? = some x → cells[j]? = some (.int .i64 x) := by
 obtain ⟨_, inner, hown, hr⟩ := h
 obtain ⟨h1, h2⟩ := hown
 rcases h2 with ⟨rfl, h0⟩ | ⟨g, cap, cur, rfl, hb, hh, hnc, hcm, hcs, ht⟩
 ·omega
 ·refine ⟨g, cap, cur, rfl, hb, hh, hnc, hcm, hcs, fun j x hj => ?_⟩
  have h3 := hr.2 j x hj
  have h3 : (inner.drop (j * 1)).take 1 = [.int .i64 x] := h3
  have h4 : inner[j]? = some (.int .i64 x) := by
   have := congrArg (·[0]?) h3
   simpa [List.getElem?_take, List.getElem?_drop] using this
  have hjl : j < xs.length := (List.getElem?_eq_some_iff.1 hj).1
  have h1' : inner.length = xs.length := by simpa [sz1] using h1
  rw [← ht, List.getElem?_take] at h4
  split at h4
  ·simpa using h4
  ·cases h4
theorem R_sorted {W : World} {base g cap m n : Nat} {cells : Array Value} (d : Array (Ix n)) [Inhabited (Ix n)] (os : Array Obj) (hb : base ≤ g) (hh : W.heap[g]? = some (.cells cells 3 (0, 0))) (hc : d.size ≤ cap) (hm : cap ≤ maxLen) (hs : cells.size = cap * 1) :
  Kd.R (Kd.int .i64) 3 (sortWorld encIx W g 0 m d os) base (fun _ => True) (.slice (some ⟨g, 0, none⟩) d.size cap) (d.toList.map (·.1)) := by
 have hg : (sortWorld encIx W g 0 m d os).heap[g]? = some (.cells (putCells encIx 0 d cells) 3 (0, 0)) := by
  show (W.heap.modify g (onCells (putCells encIx 0 d)) ++ os)[g]? = _
  have hlt : g < W.heap.size := blk_lt hh
  rw [Array.getElem?_append_left (by simpa using hlt), Array.getElem?_modify, if_pos rfl, hh]
  rfl
 have hlen : (d.toList.map (·.1)).length = d.size := by simp
 have hcell : ∀ j, j < d.size → (putCells encIx 0 d cells)[j]? = some (.int .i64 d[j]!.1) := fun j hj => by
  have hj2 : j < cells.size := by omega
  simp only [putCells, Array.getElem?_mapIdx]
  rw [Array.getElem?_eq_getElem hj2]
  simp [hj, encIx]
 refine ⟨fun _ _ => trivial, d.toList.map encIx, ⟨by simp [sz1], .inr ⟨g, cap, putCells encIx 0 d cells, by rw [hlen], hb, hg, by rw [hlen]; exact hc, hm, by simpa [putCells, sz1] using hs, ?_⟩⟩, ⟨by simp [sz1], fun j p hj => ?_⟩⟩
 ·rw [hlen, sz1, Nat.mul_one]
  apply List.ext_getElem?
  intro j
  rw [List.getElem?_take]
  split
  ·rename_i hj
   have hj : j < d.size := by simpa using hj
   have := hcell j hj
   rw [← Array.getElem?_toList] at this
   rw [this]
   simp [hj, encIx]
  ·rename_i hj
   have hj : ¬ j < d.size := by simpa using hj
   exact (List.getElem?_eq_none (by simp; omega)).symm
 ·show ((d.toList.map encIx).drop (j * 1)).take 1 = [.int .i64 p]
  have hjl := (List.getElem?_eq_some_iff.1 hj).1
  rw [hlen] at hjl
  have hp : d[j].1 = p := by simpa [hjl] using hj
  rw [Nat.mul_one, List.drop_eq_getElem_cons (by simpa using hjl)]
  simp [encIx, hp]
theorem sortR_map (l : List S52) (xs : List (Ix l.length)) : ((xs.toArray.toList.mergeSort fun x y => !(ltOf fun x y : Ix l.length => cfR l x.1 y.1) y x).map (·.1)) = sortR l (xs.map (·.1)) := by
 unfold sortR
 rw [List.map_mergeSort (r := fun x y => !(ltOf fun x y : Ix l.length => cfR l x.1 y.1) y x) (s := fun x y => !(ltR l y x))]
 intro a _ b _
 rfl
theorem ix_of {n : Nat} {xs : List Int} (h : inIx n xs = true) : ∃ ys : List (Ix n), ys.map (·.1) = xs := by
 induction xs with
 | nil => exact ⟨[], rfl⟩
 | cons x t ih =>
  simp only [inIx, List.all_cons, Bool.and_eq_true, decide_eq_true_eq] at h
  obtain ⟨ys, hy⟩ := ih h.2
  exact ⟨⟨x, h.1⟩ :: ys, by simp [hy]⟩
set_option maxHeartbeats 4000000 in
set_option maxRecDepth 100000 in
theorem bung_rule.calls (A0 : Option Addr) (c0 : Nat) (l0 : List S52) (A1 : Option Addr) (c1 : Nat) (l1 : List Int) (r : List Int) (w : World) (hr0 : Kd.C k52 w A0 l0.length l0) (hc0 : l0.length ≤ c0) (hr1 : Kd.C (Kd.int .i64) w A1 l1.length l1) (hc1 : l1.length ≤ c1) (h : bung_rule.f l0 l1 = some r) :
  Calls Try.prog 95 #[.slice A0 l0.length c0, .slice A1 l1.length c1] w fun e w' => ∃ v0_ : Value, e = .returned v0_ ∧ Kd.R (Kd.int .i64) 3 w' w.heap.size (fun _ => True) v0_ r ∧ Below w.heap.size w w' := by
 unfold bung_rule.f at h
 split at h
 case isFalse => cases h
 rename_i hg
 obtain rfl := Option.some.inj h
 clear h
 simp only [Bool.and_eq_true, decide_eq_true_eq] at hg
 obtain ⟨hok, hix, hlen⟩ := hg
 have HR0 := pA hr0
 have HR1 := pA hr1
 have HOK := pA hok
 have HIX := pA hix
 have HLE := pA hlen
 have HAV := pA (show l0.all vSag = true by simp only [okList, Bool.and_eq_true] at hok; exact hok.2.1)
 clear hr0 hr1 hok hix hlen
 go_enter Try.func95, Try.ntmps95
 go_wp2_with fail
 refine (slices_Clone_int_int.calls _ _ l1 l1 _ (Kd.C_alloc (Kd.C_alloc HR1.out _) _) hc1 (by unfold slices_Clone_int_int.f; rw [if_pos (by have := HLE.out; omega)])).mono ?_
 rintro e w1 ⟨v1, rfl, ho1, hb1⟩
 have HB1 := pA (below_step (below_alloc (below_alloc (Below.refl _ _) _) _) hb1)
 have hx0 : w1.heap[w.heap.size]? = some (.cells #[.slice A0 l0.length c0] 24 (0, 0)) := blk_below (blk_alloc (heap_alloc_new w _) _) hb1
 have hx1 : w1.heap[w.heap.size + 1]? = some (.cells #[.func (.func 132) #[] #[.pointer (some ⟨w.heap.size, 0, none⟩)]] 161 (0, 0)) := by
  have := heap_alloc_new (w.alloc (.cells #[.slice A0 l0.length c0] 24)) (.cells #[.func (.func 132) #[] #[.pointer (some ⟨w.heap.size, 0, none⟩)]] 161)
  rw [World.size_alloc] at this
  exact blk_below this hb1
 have HX0 := pA hx0
 have HX1 := pA hx1
 have hsz : ((w.alloc (.cells #[.slice A0 l0.length c0] 24)).alloc (.cells #[.func (.func 132) #[] #[.pointer (some ⟨w.heap.size, 0, none⟩)]] 161)).heap.size = w.heap.size + 2 := by simp
 rw [hsz] at ho1
 have HO1 := pA ho1
 clear ho1 hb1 hx0 hx1 hsz
 have heg : ∀ args w, (callFunc 134 args).run Try.prog w = .ok (.enter 134 args) w := enters_of Try.func134 (by kernel_rfl) rfl
 have HEG := pA heg
 clear heg
 rcases Nat.eq_zero_or_pos l1.length with h0 | h0
 ·obtain rfl : l1 = [] := List.eq_nil_of_length_eq_zero h0
  obtain ⟨A, c, e⟩ := Kd.R_slice HO1.out
  cases e
  go_wp2_with fail
  have hS := AnyF.slices_SortFunc_none (P := Try.prog) (ρ := sortIntL_ren) { sortIntL with } A c (.func (.func 134) #[] #[.pointer (some ⟨w.heap.size + 1, 0, none⟩), .pointer (some ⟨w.heap.size, 0, none⟩)]) w1
  change Calls Try.prog 133 _ _ _ at hS
  refine hS.mono ?_
  rintro e w2 ⟨rfl, rfl⟩
  go_wp2
  go_ret
  have e0 : sortR l0 [] = [] := by simp [sortR]
  rw [e0]
  exact ⟨_, rfl, Kd.R_lower HO1.out (show w.heap.size ≤ w.heap.size + 2 by omega), HB1.out⟩
 ·obtain ⟨g, cap, cells, e, hg, hh, hc, hm, hs, hcl⟩ := R_block HO1.out h0
  cases e
  obtain ⟨ys, hys⟩ := ix_of HIX.out
  have hn : 0 < l0.length := by
   cases ys with
   | nil => simp [← hys] at h0
   | cons y t => have := y.2; omega
  haveI : Inhabited (Ix l0.length) := ⟨⟨0, by omega⟩⟩
  have hyl : ys.toArray.size = l1.length := by rw [← hys]; simp
  have hH : Holds encIx w1 g 0 ys.toArray := fun j hj => by
   have hj' : j < ys.length := by simpa using hj
   have e1 := hcl j ys[j].1 (by rw [← hys]; simp [hj'])
   rw [Nat.zero_add]
   refine ⟨(blk_cell hh j).trans (e1.trans ?_), blk_frozen hh j⟩
   simp [encIx, hj']
  have hcmp : CmpLays1 Try.prog 134 #[.pointer (some ⟨w.heap.size + 1, 0, none⟩), .pointer (some ⟨w.heap.size, 0, none⟩)] encIx (fun x y : Ix l0.length => cfR l0 x.1 y.1) g 0 ys.toArray.size w1 := by
   intro m os dk hdk x y
   have hgr := sortWorld_below encIx w1 g m dk os
   refine (before_calls A0 c0 l0 _ w.heap.size (w.heap.size + 1) ((blk_cell (blk_grown HX0.out hgr (by simp; omega)) 0).trans rfl) ((blk_cell (blk_grown HX1.out hgr (by simp; omega)) 0).trans rfl) (Kd.C_below HR0.out (pw_below_grown HB1.out _ HB1.out.size hgr (fun k e => by cases e; omega))) x.1 y.1 x.2.1 x.2.2 y.2.1 y.2.2 HAV.out).mono ?_
   rintro e w2 ⟨rfl, q, os', rfl⟩
   exact ⟨rfl, q, os', rfl⟩
  have hS := Any.slices_SortFunc_total (P := Try.prog) sortIntL encIx (fun _ => rfl) (fun x y : Ix l0.length => cfR l0 x.1 y.1) (ix_swo l0) 134 #[.pointer (some ⟨w.heap.size + 1, 0, none⟩), .pointer (some ⟨w.heap.size, 0, none⟩)] g 0 cap ys.toArray w1 HEG.out hcmp hH (blk_lt hh) (by rw [hyl]; have := HLE.out; omega) (ix_total l0 HOK.out)
  change Calls Try.prog 133 _ _ _ at hS
  rw [hyl] at hS
  have HS := pA hS
  have HHH := pA (show cells.size = cap * 1 ∧ l1.length ≤ cap ∧ cap ≤ maxLen ∧ w.heap.size + 2 ≤ g from ⟨hs, hc, hm, hg⟩)
  have HH := pA hh
  have HYL := pA hyl
  have HYS := pA hys
  clear hS hcmp hH hs hc hm hg hh hcl hyl hys h0 hn
  go_wp2_with fail
  refine HS.out.mono ?_
  rintro e w2 ⟨rfl, n, os, rfl⟩
  have hr := R_sorted (base := w.heap.size) (m := n) (cap := cap) (n := l0.length) ((ys.toArray.toList.mergeSort fun x y => !(ltOf fun x y : Ix l0.length => cfR l0 x.1 y.1) y x).toArray) os (by have := HHH.out.2.2.2; omega) HH.out (by have := HHH.out.2.1; have := HYL.out; simp at this ⊢; omega) HHH.out.2.2.1 HHH.out.1
  rw [List.toList_toArray, sortR_map, HYS.out] at hr
  have hz : ((ys.toArray.toList.mergeSort fun x y => !(ltOf fun x y : Ix l0.length => cfR l0 x.1 y.1) y x).toArray).size = l1.length := by have := HYL.out; simp at this ⊢; omega
  rw [hz] at hr
  have HRR := pA hr
  have HBB := pA (pw_below_grown HB1.out _ HB1.out.size (sortWorld_below encIx w1 g n ((ys.toArray.toList.mergeSort fun x y => !(ltOf fun x y : Ix l0.length => cfR l0 x.1 y.1) y x).toArray) os) (fun k e => by cases e; have := HHH.out.2.2.2; omega))
  clear hr hz
  go_wp2
  go_ret
  exact ⟨_, rfl, HRR.out, HBB.out⟩
end Go.Proofs.Ytbiakjgjedhjhaa.P
namespace Go.Proofs.Ytbiakjgjedhjhaa.P
open Go.RowKit Go.Proofs.YtbiakjgjedhjhaaW.PrintWords Go.Proofs.YtbiakjgjedhjhaaW.PrintLast Go.Proofs.YtbiakjgjedhjhaaW.PrintMore
attribute [local go_sem] max2_int min2_int max_two min_two max_three min_three max_four min_four
def bung_stacked.l0 : Nat → List (S52) → List (S52) → List Int → Int → Int → Option ((List (S52)))
  | 0, _, _, _, _, _ => none
  | k + 1, x0, x5, x8, x9, x10 => if x10 < x9 then (if 0 ≤ x10 then (if x10 < (x8.length : Int) then (if 0 ≤ (rd x8 x10) then (if (rd x8 x10) < (x0.length : Int) then (if x5.length < 2199023255552 then (bung_stacked.l0 k x0 (x5 ++ [(⟨(rd_T52 x0 (rd x8 x10)).f0, (⟨(rd_T52 x0 (rd x8 x10)).f1.f0, (rd_T52 x0 (rd x8 x10)).f1.f1⟩ : S23), (⟨(rd_T52 x0 (rd x8 x10)).f2.f0, (rd_T52 x0 (rd x8 x10)).f2.f1⟩ : S23), (⟨(rd_T52 x0 (rd x8 x10)).f3.f0, (rd_T52 x0 (rd x8 x10)).f3.f1⟩ : S23), (rd_T52 x0 (rd x8 x10)).f4⟩ : S52)]) x8 x9 (wrap64 (x10 + 1))) else (none)) else (none)) else (none)) else (none)) else (none)) else (some x5)
def bung_stacked.f (k : Nat) (l0 : List (S52)) (l1 : List Int) : Option ((List (S52))) := bung_stacked.l0 k l0 ([] : List (S52)) l1 (l1.length : Int) 0
theorem bung_stacked.mono_l : ∀ k, (∀ y0 y1 y2 y3 y4, LeO (bung_stacked.l0 k y0 y1 y2 y3 y4) (bung_stacked.l0 (k + 1) y0 y1 y2 y3 y4))
 | 0 => fun _ _ _ _ _ r h => by simp [bung_stacked.l0] at h
 | k + 1 => by
  have ih0 := bung_stacked.mono_l k
  ·intro y0 y1 y2 y3 y4
   unfold bung_stacked.l0
   repeat' first
   | (with_reducible exact ih0 _ _ _ _ _)
   | (with_reducible exact LeO.refl _)
   | (with_reducible exact LeO.none _)
   | (with_reducible refine LeO.ite ?_ ?_)
   | (with_reducible refine LeO.bind ?_ (fun _ => ?_))
   | exact ih0 _ _ _ _ _
   | exact LeO.none _
   | refine LeO.ite ?_ ?_
   | refine LeO.bind ?_ (fun _ => ?_)
theorem bung_stacked.mono : ∀ a0 a1 k, LeO (bung_stacked.f k a0 a1) (bung_stacked.f (k + 1) a0 a1) := by
 intro a0 a1 k
 have ih0 := bung_stacked.mono_l k
 unfold bung_stacked.f
 repeat' first
   | (with_reducible exact ih0 _ _ _ _ _)
   | (with_reducible exact LeO.refl _)
   | (with_reducible exact LeO.none _)
   | (with_reducible refine LeO.ite ?_ ?_)
   | (with_reducible refine LeO.bind ?_ (fun _ => ?_))
   | exact ih0 _ _ _ _ _
   | exact LeO.none _
   | refine LeO.ite ?_ ?_
   | refine LeO.bind ?_ (fun _ => ?_)
set_option maxHeartbeats 8000000 in
set_option maxRecDepth 100000 in
theorem bung_stacked.calls (k : Nat) (A0 : Option Addr) (c0 : Nat) (l0 : List (S52)) (A1 : Option Addr) (c1 : Nat) (l1 : List Int) (r : List (S52)) (w : World) (hr0 : Kd.C k52 w A0 l0.length l0) (hc0 : l0.length ≤ c0) (hr1 : Kd.C (Kd.int .i64) w A1 l1.length l1) (hc1 : l1.length ≤ c1) (h : bung_stacked.f k l0 l1 = some r) :
  Calls Try.prog 112 #[.slice A0 l0.length c0, .slice A1 l1.length c1] w fun e w' => ∃ v0_ : Value, e = .returned (v0_) ∧ Kd.R k52 52 w' w.heap.size (fun _ => True) v0_ r ∧ Below w.heap.size w w' := by
 have hu52 := Try.underlying52
 have HR0 := pA hr0
 have HC0 := pA hc0
 clear hr0 hc0
 have HR1 := pA hr1
 have HC1 := pA hc1
 clear hr1 hc1
 have HB := pA (Below.refl w.heap.size w)
 have H : (bung_stacked.l0 k l0 ([] : List (S52)) l1 (l1.length : Int) 0) = some r := h
 clear h
 have H' := pA H
 clear H
 go_enter Try.func112, Try.ntmps112
 go_wp2
 go_loopg [5, 10] k (fun kq v5 v10 w' => ∃ (x5_1 : List (S52)) (x10_1 : Int), v10 = .int .i64 x10_1 ∧ Aside0 (bung_stacked.l0 kq l0 x5_1 l1 (l1.length : Int) x10_1 = some r) ∧ Aside0 (kq ≤ k) ∧ Aside0 (Kd.R k52 52 w' w.heap.size (fun _ => True) v5 x5_1) ∧ Aside0 (Below w.heap.size w w'))
 case atStart => exact ⟨(([] : List (S52))), (0), (by first | rfl | (simp; done) | (simp [*]; done)), H', ⟨Nat.le_refl _⟩, ⟨by first | exact Kd.R_nil _ _ _ _ _ | exact Kd.N_nil _ _ _ _ _ | exact Kd.V_nil _ _ _ _ _ | exact Kd.Q_nil _ _ _ _ _ | exact Kd.S_nil _ _ _ _ _⟩, ⟨by repeat (first | (with_reducible first | exact HB.out | apply below_alloc | apply pw_below_drewN | apply below_drew1) | exact HB.out)⟩⟩
 case round =>
  clear H'
  try clear c1
  try clear p2
  obtain ⟨x5_1, x10_1, rfl, HA, HK1, HO_5, HB⟩ := hrel
  cases gk with
  | zero => exact absurd HA.out (by simp [bung_stacked.l0])
  | succ k1 =>
   have H := HA.out
   clear HA
   simp only [bung_stacked.l0] at H
   by_cases c3 : x10_1 < (l1.length : Int)
   ·rw [if_pos c3] at H
    have c3b0 : decide (x10_1 < (l1.length : Int)) = true := decide_eq_true c3
    clear c3
    by_cases c4 : 0 ≤ x10_1
    ·rw [if_pos c4] at H
     have c4b0 : decide (0 ≤ x10_1) = true := decide_eq_true c4
     clear c4
     by_cases c5 : x10_1 < (l1.length : Int)
     ·rw [if_pos c5] at H
      have c5b0 : decide (x10_1 < (l1.length : Int)) = true := decide_eq_true c5
      clear c5
      by_cases c6 : 0 ≤ (rd l1 x10_1)
      ·rw [if_pos c6] at H
       have c6b0 : decide (0 ≤ (rd l1 x10_1)) = true := decide_eq_true c6
       clear c6
       by_cases c7 : (rd l1 x10_1) < (l0.length : Int)
       ·rw [if_pos c7] at H
        have c7b0 : decide ((rd l1 x10_1) < (l0.length : Int)) = true := decide_eq_true c7
        clear c7
        by_cases c8 : x5_1.length < 2199023255552
        ·rw [if_pos c8] at H
         have LMc8 := pA c8
         clear c8
         obtain ⟨y119, hy119⟩ : ∃ y_ : List (S52), y_ = (x5_1 ++ [(⟨(rd_T52 l0 (rd l1 x10_1)).f0, (⟨(rd_T52 l0 (rd l1 x10_1)).f1.f0, (rd_T52 l0 (rd l1 x10_1)).f1.f1⟩ : S23), (⟨(rd_T52 l0 (rd l1 x10_1)).f2.f0, (rd_T52 l0 (rd l1 x10_1)).f2.f1⟩ : S23), (⟨(rd_T52 l0 (rd l1 x10_1)).f3.f0, (rd_T52 l0 (rd l1 x10_1)).f3.f1⟩ : S23), (rd_T52 l0 (rd l1 x10_1)).f4⟩ : S52)]) := ⟨_, rfl⟩
         replace H : (bung_stacked.l0 k1 l0 y119 l1 (l1.length : Int) (wrap64 (x10_1 + 1))) = some r := by first | (rw [hy119]; with_reducible exact H) | (have H2_ := (Option.bind_some _ _).symm.trans H; rw [hy119]; with_reducible exact H2_) | (have H2_ := (Option.bind_some _ _).symm.trans H; with_reducible exact H2_) | with_reducible exact H | (rw [hy119]; exact H) | exact H
         have Ny119 := pA hy119
         clear hy119
         have H' := pA H
         clear H
         have p117 : 0 ≤ (x10_1 : Int) := of_decide_eq_true (by first | (with_reducible assumption) | assumption)
         have q117 : x10_1 < (l1.length : Int) := of_decide_eq_true (by first | (with_reducible assumption) | assumption)
         obtain ⟨ad117, e117, hx117_0⟩ := Kd.at_int HR1.out x10_1 p117 q117
         cases e117
         replace hx117_0 := vC HB hx117_0
         replace p117 := eq_true p117
         replace q117 := eq_true q117
         have p118 : 0 ≤ ((rd l1 x10_1) : Int) := of_decide_eq_true (by first | (with_reducible assumption) | assumption)
         have q118 : (rd l1 x10_1) < (l0.length : Int) := of_decide_eq_true (by first | (with_reducible assumption) | assumption)
         obtain ⟨ad118, e118, hx118_0, hx118_1, hx118_2, hx118_3, hx118_4, hx118_5, hx118_6, hx118_7⟩ := at_T52 HR0.out (rd l1 x10_1) p118 q118
         cases e118
         replace hx118_0 := vC HB hx118_0
         replace hx118_1 := vC HB hx118_1
         replace hx118_2 := vC HB hx118_2
         replace hx118_3 := vC HB hx118_3
         replace hx118_4 := vC HB hx118_4
         replace hx118_5 := vC HB hx118_5
         replace hx118_6 := vC HB hx118_6
         replace hx118_7 := vC HB hx118_7
         replace p118 := eq_true p118
         replace q118 := eq_true q118
         go_wp2_with (first | ((with_reducible refine gate_builtin (b := .append) (xs := #[.tmp 14, .tmp 19]) rfl ?_); at_builtin; refine Kd.R_append k52 (w0 := w) w.heap.size rfl (.tmp 14) (.tmp 19) 24 52 (.agg #[(.int .i64 0), (.int .i64 0), (.int .i64 0), (.int .i64 0), (.int .i64 0), (.int .i64 0), (.int .i64 0), (.int .i64 0)]) 64 rfl Try.underlying24 info52 rfl (by decide) (by omega) u5 x5_1 (⟨(rd_T52 l0 (rd l1 x10_1)).f0, (⟨(rd_T52 l0 (rd l1 x10_1)).f1.f0, (rd_T52 l0 (rd l1 x10_1)).f1.f1⟩ : S23), (⟨(rd_T52 l0 (rd l1 x10_1)).f2.f0, (rd_T52 l0 (rd l1 x10_1)).f2.f1⟩ : S23), (⟨(rd_T52 l0 (rd l1 x10_1)).f3.f0, (rd_T52 l0 (rd l1 x10_1)).f3.f1⟩ : S23), (rd_T52 l0 (rd l1 x10_1)).f4⟩ : S52) [.int .i64 ((rd_T52 l0 (rd l1 x10_1)).f0), .int .i64 ((rd_T52 l0 (rd l1 x10_1)).f1.f0), .int .i64 ((rd_T52 l0 (rd l1 x10_1)).f1.f1), .int .i64 ((rd_T52 l0 (rd l1 x10_1)).f2.f0), .int .i64 ((rd_T52 l0 (rd l1 x10_1)).f2.f1), .int .i64 ((rd_T52 l0 (rd l1 x10_1)).f3.f0), .int .i64 ((rd_T52 l0 (rd l1 x10_1)).f3.f1), .int .i64 ((rd_T52 l0 (rd l1 x10_1)).f4)] (fun _ => True) (fun _ => False) rfl rfl ?aP (fun _ hk => hk.elim) ?aF ?aO ?aB ?aS ?aL ?_; (case aP => exact k52_mkM _ _ _ (⟨(rd_T52 l0 (rd l1 x10_1)).f0, (⟨(rd_T52 l0 (rd l1 x10_1)).f1.f0, (rd_T52 l0 (rd l1 x10_1)).f1.f1⟩ : S23), (⟨(rd_T52 l0 (rd l1 x10_1)).f2.f0, (rd_T52 l0 (rd l1 x10_1)).f2.f1⟩ : S23), (⟨(rd_T52 l0 (rd l1 x10_1)).f3.f0, (rd_T52 l0 (rd l1 x10_1)).f3.f1⟩ : S23), (rd_T52 l0 (rd l1 x10_1)).f4⟩ : S52)); (case aB => exact (vB HB)); (case aF => exact (fun _ _ => trivial)); (case aO => exact (vR HO_5)); (case aS => exact (below_size (vB HB))); (case aL => have := LMc8.out; omega); intro v120 w9 ho hb hg hat; rw [← Ny119.out] at ho; have n0_ := pA (hb); have n1_ := pA (ho); clear HB; clear HO_5; have HB := n0_; have HO121 := n1_; clear n0_ n1_; clear ho hb hg hat))
         go_roundg k1
         case measure => have := HK1.out; omega
         case rel => exact ⟨(y119), (wrap64 (x10_1 + 1)), (by first | rfl | (simp; done) | (simp [*]; done)), H', ⟨by have := HK1.out; omega⟩, ⟨by (with_reducible repeat (first | apply Kd.R_alloc | apply Kd.R_drewN | apply Kd.R_drew)); exact HO121.out⟩, ⟨by repeat (first | (with_reducible first | exact HB.out | apply below_alloc | apply pw_below_drewN | apply below_drew1) | exact HB.out)⟩⟩
        ·rw [if_neg c8] at H
         exact absurd H (by simp)
       ·rw [if_neg c7] at H
        exact absurd H (by simp)
      ·rw [if_neg c6] at H
       exact absurd H (by simp)
     ·rw [if_neg c5] at H
      exact absurd H (by simp)
    ·rw [if_neg c4] at H
     exact absurd H (by simp)
   ·rw [if_neg c3] at H
    have c3b0 : decide (x10_1 < (l1.length : Int)) = false := decide_eq_false c3
    clear c3
    obtain rfl := Option.some.inj H
    go_wp2
    go_ret
    exact ⟨_, by first | rfl | (simp [errW_none, errW_some] <;> rfl) | (simp [*, errW_none, errW_some] <;> rfl), by (with_reducible repeat (first | apply Kd.R_alloc | apply Kd.R_drewN | apply Kd.R_drew)); exact HO_5.out, by repeat (first | (with_reducible first | exact HB.out | apply below_alloc | apply pw_below_drewN | apply below_drew1) | exact HB.out)⟩
def vWad (lo hi : Int) : Bool := decide (0 ≤ lo ∧ lo ≤ hi ∧ hi ≤ 200)
theorem isWad_eq (lo hi : Int) : bung_isWad.f lo hi = some (vWad lo hi) := by
  unfold bung_isWad.f bung_isRange.f vWad
  by_cases h1 : (0 : Int) ≤ lo <;> by_cases h2 : lo ≤ hi <;> by_cases h3 : hi ≤ 200 <;> simp [h1, h2, h3]
/-- The saggars with some indices. -/
def pick (l : List S52) (xs : List Int) : List S52 := xs.map (rd_T52 l)
theorem stacked_l0 (l : List S52) (xs : List Int) (hx : inIx l.length xs = true) (hl : xs.length ≤ 1000000) : ∀ (d i : Nat) (acc : List S52) (k : Nat), i ≤ xs.length → xs.length - i = d → d < k → acc.length ≤ i →
  bung_stacked.l0 k l acc xs (xs.length : Int) i = some (acc ++ pick l (xs.drop i)) := by
 intro d
 induction d with
 | zero =>
  intro i acc k hi hd hk ha
  obtain ⟨k, rfl⟩ : ∃ m, k = m + 1 := ⟨k - 1, by omega⟩
  simp only [bung_stacked.l0]
  rw [if_neg (by omega), List.drop_eq_nil_of_le (by omega)]
  simp [pick]
 | succ d ih =>
  intro i acc k hi hd hk ha
  obtain ⟨k, rfl⟩ : ∃ m, k = m + 1 := ⟨k - 1, by omega⟩
  have hlt : i < xs.length := by omega
  have hr : rd xs i = xs[i] := by simp [rd, List.getD_eq_getElem?_getD, hlt]
  have hin : 0 ≤ xs[i] ∧ xs[i] < (l.length : Int) := by
   simp only [inIx, List.all_eq_true, decide_eq_true_eq] at hx
   exact hx _ (List.getElem_mem hlt)
  simp only [bung_stacked.l0]
  rw [if_pos (by omega), if_pos (by omega), if_pos (by omega), if_pos (by rw [hr]; exact hin.1), if_pos (by rw [hr]; exact hin.2), if_pos (by omega)]
  rw [show wrap64 ((i : Int) + 1) = ((i + 1 : Nat) : Int) from by unfold wrap64; omega]
  have e : xs.drop i = xs[i] :: xs.drop (i + 1) := List.drop_eq_getElem_cons hlt
  rw [ih (i + 1) _ k (by omega) (by omega) (by omega) (by simp; omega), e, hr]
  rw [List.append_assoc]
  rfl
theorem stacked_eq (l : List S52) (xs : List Int) (hx : inIx l.length xs = true) (hl : xs.length ≤ 1000000) : bung_stacked.f (xs.length + 1) l xs = some (pick l xs) := by
 unfold bung_stacked.f
 have := stacked_l0 l xs hx hl xs.length 0 [] (xs.length + 1) (by omega) (by omega) (by omega) (by simp)
 simpa using this
theorem blk_new2 (w : World) (a b : Obj) : ((w.alloc a).alloc b).heap[w.heap.size + 1]? = some b := by
  have := heap_alloc_new (w.alloc a) b
  rwa [World.size_alloc] at this
/-- Is it an order of some of n? -/
def okOrder (n : Nat) (xs : List Int) : Bool := inIx n xs && decide xs.Nodup
def bung_Set.f (a0 a1 : Int) (l1 : List S52) (l2 : List Int) : Option (Int × Int × List S52 × Int) :=
  some (if vWad a0 a1 = false then (0, 0, [], 32) else if okList l1 = false then (0, 0, [], 30) else if l2.length = 0 then (0, 0, [], 1) else if okOrder l1.length l2 = true then (a0, a1, pick l1 l2, 0) else (0, 0, [], 1))
theorem within_f (a b c : Int) : bung_within.f a b c = some (decide (b ≤ a ∧ a ≤ c)) := by
  unfold bung_within.f
  by_cases h1 : b ≤ a <;> simp [h1]
/-- What holds behind k indices. -/
def OInv (n : Nat) (xs : List Int) (k : Nat) (f : Lit → Option Bool) : Prop :=
  inIx n (xs.take k) = true ∧ (xs.take k).Nodup ∧ ∀ i : Int, (f (.int .i64 i)).getD false = decide (i ∈ xs.take k)
theorem OInv.zero (n : Nat) (xs : List Int) : OInv n xs 0 (fun _ => none) := ⟨by simp [inIx], by simp, fun i => by simp⟩
theorem rd_int (xs : List Int) (i : Int) (h0 : 0 ≤ i) (h1 : i < xs.length) : rd xs i = xs[i.toNat]'(by omega) := by
  have : i.toNat < xs.length := by omega
  simp [rd, List.getD_eq_getElem?_getD, this]
theorem OInv.step {n : Nat} {xs : List Int} {k : Nat} {f f' : Lit → Option Bool} (h : OInv n xs k f) (hk : k < xs.length) (hv : 0 ≤ xs[k] ∧ xs[k] < (n : Int)) (hn : (f (.int .i64 xs[k])).getD false = false)
  (h1 : f' (.int .i64 xs[k]) = some true) (h2 : ∀ z, z ≠ .int .i64 xs[k] → f' z = f z) : OInv n xs (k + 1) f' := by
 have e : xs.take (k + 1) = xs.take k ++ [xs[k]] := List.take_succ_eq_append_getElem hk
 obtain ⟨a, b, c⟩ := h
 have hc := c xs[k]
 rw [hn] at hc
 have hc' : xs[k] ∉ xs.take k := by simpa using hc.symm
 unfold OInv
 rw [e]
 refine ⟨by simp only [inIx, List.all_append, Bool.and_eq_true] at a ⊢; exact ⟨a, by simp [hv]⟩, ?_, fun i => ?_⟩
 ·rw [List.nodup_append]
  refine ⟨b, by simp, fun x hx y hy => ?_⟩
  simp at hy
  subst hy
  intro e
  subst e
  exact hc' hx
 ·by_cases hi : i = xs[k]
  ·subst hi
   rw [h1]
   exact (decide_eq_true (List.mem_append_right _ List.mem_cons_self)).symm
  ·rw [h2 _ (by simpa using hi), c i]
   refine decide_eq_decide.2 ⟨fun h => List.mem_append_left _ h, fun h => ?_⟩
   rcases List.mem_append.1 h with h | h
   ·exact h
   ·exact absurd (List.mem_singleton.1 h) hi
theorem OInv.all {n : Nat} {xs : List Int} {f : Lit → Option Bool} (h : OInv n xs xs.length f) : okOrder n xs = true := by
 obtain ⟨a, b, _⟩ := h
 rw [List.take_length] at a b
 simp [okOrder, a, b]
theorem OInv.bad {n : Nat} {xs : List Int} {k : Nat} (hk : k < xs.length) (hv : ¬ (0 ≤ xs[k] ∧ xs[k] < (n : Int))) : okOrder n xs = false := by
 have : inIx n xs = false := by
  unfold inIx
  rw [List.all_eq_false]
  exact ⟨xs[k], List.getElem_mem hk, by simpa using hv⟩
 simp [okOrder, this]
theorem OInv.twice {n : Nat} {xs : List Int} {k : Nat} {f : Lit → Option Bool} (h : OInv n xs k f) (hk : k < xs.length) (hn : (f (.int .i64 xs[k])).getD false = true) : okOrder n xs = false := by
 have hc := h.2.2 xs[k]
 rw [hn] at hc
 have hc' : xs[k] ∈ xs.take k := by simpa using hc.symm
 have : ¬ xs.Nodup := by
  intro hd
  have e2 : xs = xs.take k ++ xs.drop k := (List.take_append_drop k xs).symm
  rw [e2, List.nodup_append] at hd
  exact hd.2.2 _ hc' _ (by rw [List.drop_eq_getElem_cons hk]; exact List.mem_cons_self) rfl
 simp [okOrder, this]
theorem nodup_le {n : Nat} {xs : List Int} (h : xs.Nodup) (hi : inIx n xs = true) : xs.length ≤ n := by
 have h2 : (xs.map Int.toNat).Nodup := by
  rw [List.nodup_iff_pairwise_ne, List.pairwise_map]
  refine List.Pairwise.imp_of_mem ?_ (List.nodup_iff_pairwise_ne.1 h)
  intro a b ha hb hne e
  simp only [inIx, List.all_eq_true, decide_eq_true_eq] at hi
  have := hi a ha
  have := hi b hb
  omega
 have h3 : (xs.map Int.toNat) ⊆ List.range n := fun x hx => by
  obtain ⟨y, hy, rfl⟩ := List.mem_map.1 hx
  simp only [inIx, List.all_eq_true, decide_eq_true_eq] at hi
  have := hi y hy
  simp
  omega
 have := List.Nodup.length_le_of_subset h2 h3
 simpa using this
set_option maxHeartbeats 4000000 in
set_option maxRecDepth 100000 in
theorem bung_Set.calls (a0_0 : Int) (a0_1 : Int) (A1 : Option Addr) (c1 : Nat) (l1 : List S52) (A2 : Option Addr) (c2 : Nat) (l2 : List Int) (r1 : Int) (r2 : Int) (r3 : List S52) (r4 : Int) (w : World) (hr1 : Kd.C k52 w A1 l1.length l1) (hc1 : l1.length ≤ c1) (hr2 : Kd.C (Kd.int .i64) w A2 l2.length l2) (hc2 : l2.length ≤ c2) (h : bung_Set.f a0_0 a0_1 l1 l2 = some (r1, r2, r3, r4)) :
  Calls Try.prog 59 #[.agg #[.int .i64 a0_0, .int .i64 a0_1], .slice A1 l1.length c1, .slice A2 l2.length c2] w fun e w' => ∃ v2_ : Value, e = .returned (.tuple #[.agg #[.int .i64 r1, .int .i64 r2, v2_], .int .i64 r4]) ∧ Kd.R k52 52 w' w.heap.size (fun _ => True) v2_ r3 ∧ Below w.heap.size w w' := by
 have hu43 := Try.underlying43
 have hu23 := Try.underlying23
 have HR1 := pA hr1
 have HR2 := pA hr2
 clear hr1 hr2
 have H := Option.some.inj h
 clear h
 cases hw : vWad a0_0 a0_1 with
 | false =>
  rw [if_pos hw] at H
  simp only [Prod.mk.injEq] at H
  obtain ⟨rfl, rfl, rfl, rfl⟩ := H
  have HW := pA ((isWad_eq a0_0 a0_1).trans (by rw [hw]))
  clear hw
  go_enter Try.func59, Try.ntmps59
  go_wp2_with (go_at_call 110; refine (bung_isWad.calls _ _ false _ HW.out).mono ?_; rintro e w1 ⟨rfl, hb⟩; have hx := blk_below (blk_new2 _ _ _) hb; have hx3 := blk_below (blk_alloc (heap_alloc_new w _) _) hb; have HB1 := pA (below_step (below_alloc (below_alloc (Below.refl _ _) _) _) hb); have HX := pA hx; have HX3 := pA hx3; clear hb hx hx3; have y0 := blk_cell HX.out 0; have z0 := blk_frozen HX.out 0; have y1 := blk_cell HX.out 1; have z1 := blk_frozen HX.out 1; have y2 := blk_cell HX.out 2; have z2 := blk_frozen HX.out 2)
  refine bodyPost_ret (results_ct rfl _ _ (w.heap.size + 1) 43 #[.int .i64 0, .int .i64 0, .slice none 0 0] (0, 0) _ rfl (blk_put (blk_put (blk_put HX.out 0 _ rfl) 1 _ rfl) 2 _ rfl) Try.underlying43 rfl (by kernel_rfl)) rfl ?_
  exact ⟨_, rfl, Kd.R_nil _ _ _ _ _, below_set (below_set (below_set HB1.out (by simp)) (by simp)) (by simp)⟩
 | true =>
  rw [if_neg (by rw [hw]; decide)] at H
  have HW := pA ((isWad_eq a0_0 a0_1).trans (by rw [hw]))
  clear hw
  cases hl : okList l1 with
  | false =>
   rw [if_pos hl] at H
   simp only [Prod.mk.injEq] at H
   obtain ⟨rfl, rfl, rfl, rfl⟩ := H
   have HL := pA (show bung_isList.f l1 = some false by unfold bung_isList.f; rw [hl])
   clear hl
   go_enter Try.func59, Try.ntmps59
   go_wp2_with (first | (go_at_call 110; refine (bung_isWad.calls _ _ true _ HW.out).mono ?_; rintro e w1 ⟨rfl, hb⟩; have hx := blk_below (blk_new2 _ _ _) hb; have hx3 := blk_below (blk_alloc (heap_alloc_new w _) _) hb; have HB1 := pA (below_step (below_alloc (below_alloc (Below.refl _ _) _) _) hb); have HX := pA hx; have HX3 := pA hx3; clear hb hx hx3) | (go_at_call 94; refine (bung_isList.calls _ _ l1 false _ (Kd.C_below HR1.out HB1.out) hc1 HL.out).mono ?_; rintro e w2 ⟨rfl, hb⟩; have HB2 := pA (below_step HB1.out hb); have HX2 := pA (blk_below HX.out hb); have HX4 := pA (blk_below HX3.out hb); clear hb; have y0 := blk_cell HX2.out 0; have z0 := blk_frozen HX2.out 0; have y1 := blk_cell HX2.out 1; have z1 := blk_frozen HX2.out 1; have y2 := blk_cell HX2.out 2; have z2 := blk_frozen HX2.out 2))
   refine bodyPost_ret (results_ct rfl _ _ (w.heap.size + 1) 43 #[.int .i64 0, .int .i64 0, .slice none 0 0] (0, 0) _ rfl (blk_put (blk_put (blk_put HX2.out 0 _ rfl) 1 _ rfl) 2 _ rfl) Try.underlying43 rfl (by kernel_rfl)) rfl ?_
   exact ⟨_, rfl, Kd.R_nil _ _ _ _ _, below_set (below_set (below_set HB2.out (by simp)) (by simp)) (by simp)⟩
  | true =>
   rw [if_neg (by rw [hl]; decide)] at H
   have HOK := pA hl
   have HL := pA (show bung_isList.f l1 = some true by unfold bung_isList.f; rw [hl])
   clear hl
   by_cases h0 : l2.length = 0
   ·rw [if_pos h0] at H
    simp only [Prod.mk.injEq] at H
    obtain ⟨rfl, rfl, rfl, rfl⟩ := H
    have c0 : ((l2.length : Int) == 0) = true := by rw [h0]; rfl
    have HZ := pA h0
    clear h0
    go_enter Try.func59, Try.ntmps59
    go_wp2_with (first | (go_at_call 110; refine (bung_isWad.calls _ _ true _ HW.out).mono ?_; rintro e w1 ⟨rfl, hb⟩; have hx := blk_below (blk_new2 _ _ _) hb; have hx3 := blk_below (blk_alloc (heap_alloc_new w _) _) hb; have HB1 := pA (below_step (below_alloc (below_alloc (Below.refl _ _) _) _) hb); have HX := pA hx; have HX3 := pA hx3; clear hb hx hx3) | (go_at_call 94; refine (bung_isList.calls _ _ l1 true _ (Kd.C_below HR1.out HB1.out) hc1 HL.out).mono ?_; rintro e w2 ⟨rfl, hb⟩; have HB2 := pA (below_step HB1.out hb); have HX2 := pA (blk_below HX.out hb); have HX4 := pA (blk_below HX3.out hb); clear hb; have y0 := blk_cell HX2.out 0; have z0 := blk_frozen HX2.out 0; have y1 := blk_cell HX2.out 1; have z1 := blk_frozen HX2.out 1; have y2 := blk_cell HX2.out 2; have z2 := blk_frozen HX2.out 2))
    refine bodyPost_ret (results_ct rfl _ _ (w.heap.size + 1) 43 #[.int .i64 0, .int .i64 0, .slice none 0 0] (0, 0) _ rfl (blk_put (blk_put (blk_put HX2.out 0 _ rfl) 1 _ rfl) 2 _ rfl) Try.underlying43 rfl (by kernel_rfl)) rfl ?_
    exact ⟨_, rfl, Kd.R_nil _ _ _ _ _, below_set (below_set (below_set HB2.out (by simp)) (by simp)) (by simp)⟩
   ·rw [if_neg h0] at H
    have c0 : ((l2.length : Int) == 0) = false := by rw [beq_eq_false_iff_ne]; omega
    have HNZ := pA h0
    clear h0
    have HH := pA H
    clear H
    have hmm := @run_makeMap Try.prog
    go_enter Try.func59, Try.ntmps59
    go_wp2_with (first | (go_at_call 110; refine (bung_isWad.calls _ _ true _ HW.out).mono ?_; rintro e w1 ⟨rfl, hb⟩; have hx := blk_below (blk_new2 _ _ _) hb; have hx3 := blk_below (blk_alloc (heap_alloc_new w _) _) hb; have HB1 := pA (below_step (below_alloc (below_alloc (Below.refl _ _) _) _) hb); have HX := pA hx; have HX3 := pA hx3; clear hb hx hx3) | (go_at_call 94; refine (bung_isList.calls _ _ l1 true _ (Kd.C_below HR1.out HB1.out) hc1 HL.out).mono ?_; rintro e w2 ⟨rfl, hb⟩; have HB2 := pA (below_step HB1.out hb); have HX2 := pA (blk_below HX.out hb); have HX4 := pA (blk_below HX3.out hb); clear hb))
    have HW2S := pA (Nat.lt_of_lt_of_le (blk_lt HX2.out) (Nat.le_refl _))
    have HNL := pA (show ∀ x : Int, 0 ≤ x → x.toNat < l2.length → x.toNat < maxLen from fun x h0 h1 => by have := HR2.out.2.1; unfold maxLen; omega)
    go_loopw [29] (fun v29 w' => ∃ (x : Int) (f : Lit → Option Bool) (s : Nat), v29 = .int .i64 x ∧ Aside0 (0 ≤ x ∧ x ≤ l2.length) ∧ Aside0 (OInv l1.length l2 x.toNat f) ∧ Aside0 (BoolMaps.IsB Try.prog 3 4 w' w2.heap.size x.toNat s f) ∧ Aside0 (w'.heap[w.heap.size + 1]? = some (.cells #[.int .i64 0, .int .i64 0, .slice none 0 0] 43 (0, 0))) ∧ Aside0 (w'.heap[w.heap.size]? = some (.cells #[.int .i64 a0_0, .int .i64 a0_1] 23 (0, 0))) ∧ Aside0 (Below w.heap.size w w')) (fun v29 _ => l2.length - (intOf v29).toNat)
    case atStart => exact ⟨0, fun _ => none, 0, rfl, ⟨by omega⟩, ⟨OInv.zero _ _⟩, ⟨BoolMaps.IsB.made _ _ _ _⟩, ⟨blk_alloc HX2.out _⟩, ⟨blk_alloc HX4.out _⟩, ⟨below_alloc HB2.out _⟩⟩
    case round =>
     obtain ⟨x, f, s, rfl, HK, HI, HM, HX5, HX6, HB⟩ := hrel
     have HWL := pA (show wrap64 ((l1.length : Int) - 1) = (l1.length : Int) - 1 by have := HOK.out; simp only [okList, Bool.and_eq_true, decide_eq_true_eq] at this; unfold wrap64; omega)
     by_cases hk : x < (l2.length : Int)
     ·have hkb : decide (x < (l2.length : Int)) = true := decide_eq_true hk
      have p1 : 0 ≤ x := HK.out.1
      obtain ⟨ad, e, x0⟩ := Kd.at_int HR2.out x p1 hk
      cases e
      have hkn : x.toNat < l2.length := by omega
      have HKL := pA hkn
      have hrd : rd l2 x = l2[x.toNat]'HKL.out := rd_int l2 x p1 hk
      have HRD := pA hrd
      replace p1 := eq_true p1
      replace hk := eq_true hk
      replace x0 := vC HB x0
      clear hrd hkn
      by_cases hin : 0 ≤ rd l2 x ∧ rd l2 x < (l1.length : Int)
      ·have HWI := pA (show ∀ c : Int, c = (l1.length : Int) - 1 → bung_within.f (rd l2 x) 0 c = some true from fun c hc => by rw [within_f, decide_eq_true (by omega)])
       have HIN := pA hin
       clear hin
       have hwf : (Lit.int .i64 (rd l2 x)).wf = true := WalkArith.wf_i64 (by have := HIN.out; have := HOK.out; simp only [okList, Bool.and_eq_true, decide_eq_true_eq] at this; omega)
       cases hg : (f (.int .i64 (rd l2 x))).getD false with
       | true =>
        have hno : okOrder l1.length l2 = false := HI.out.twice HKL.out (by rw [← HRD.out]; exact hg)
        have H := HH.out
        rw [if_neg (by rw [hno]; decide)] at H
        simp only [Prod.mk.injEq] at H
        obtain ⟨rfl, rfl, rfl, rfl⟩ := H
        clear HH
        have hg' := hg
        clear hg hno
        have HG := pA hg'
        clear hg'
        go_wp2_with (go_at_call 111; refine (bung_within.calls _ _ _ true _ (HWI.out _ (by first | rfl | exact HWL.out))).mono ?_; rintro e w3 ⟨rfl, hb⟩; have hlook := (HM.out.below (Drawn0.below hb)).look isList_keyed Try.underlying142 Try.underlying4 (isList_zero w3) (Maps.keyOf_int_mk Try.underlying3 hwf); rw [HG.out] at hlook; have HB3 := pA (below_step HB.out (Drawn0.below hb)); have HX7 := pA (blk_below HX5.out (Drawn0.below hb)); clear hb; have y0 := blk_cell HX7.out 0; have z0 := blk_frozen HX7.out 0; have y1 := blk_cell HX7.out 1; have z1 := blk_frozen HX7.out 1; have y2 := blk_cell HX7.out 2; have z2 := blk_frozen HX7.out 2)
        refine bodyPost_ret (results_ct rfl _ _ (w.heap.size + 1) 43 #[.int .i64 0, .int .i64 0, .slice none 0 0] (0, 0) _ rfl (blk_put (blk_put (blk_put HX7.out 0 _ rfl) 1 _ rfl) 2 _ rfl) Try.underlying43 rfl (by kernel_rfl)) rfl ?_
        exact ⟨_, rfl, Kd.R_nil _ _ _ _ _, below_set (below_set (below_set HB3.out (by simp)) (by simp)) (by simp)⟩
       | false =>
        have HG := pA hg
        clear hg
        go_wp2_with (go_at_call 111; refine (bung_within.calls _ _ _ true _ (HWI.out _ (by first | rfl | exact HWL.out))).mono ?_; rintro e w3 ⟨rfl, hb⟩; have HB3 := pA (below_step HB.out (Drawn0.below hb)); have HX7 := pA (blk_below HX5.out (Drawn0.below hb)); have HX8 := pA (blk_below HX6.out (Drawn0.below hb)); have HM1 := pA (HM.out.below (Drawn0.below hb)); clear hb; have hlook := HM1.out.look isList_keyed Try.underlying142 Try.underlying4 (isList_zero w3) (Maps.keyOf_int_mk Try.underlying3 hwf); rw [HG.out] at hlook; obtain ⟨w4, f2, hst, hM2, h1, h2, hg2⟩ := HM1.out.store isList_keyed Try.underlying142 Try.underlying4 (HNL.out x HK.out.1 HKL.out) (Maps.keyOf_int_mk Try.underlying3 hwf) trivial true; have HM2 := pA hM2; have HI2 := pA (HI.out.step HKL.out (by rw [← HRD.out]; exact HIN.out) (by rw [← HRD.out]; exact HG.out) (by rw [← HRD.out]; exact h1) (by rw [← HRD.out]; exact h2)); have HB4 := pA (pw_below_grown HB3.out _ HB3.out.size hg2 (fun k e => by cases e; exact HB2.out.size)); have HX9 := pA (blk_grown HX7.out hg2 (by have := HW2S.out; simp; omega)); have HX10 := pA (blk_grown HX8.out hg2 (by have := HW2S.out; simp; omega)); clear hM2 h1 h2 hg2)
        have hnx : wrap64 (x + 1) = x + 1 := by have := HR2.out.2.1; have := HKL.out; have := HK.out; unfold wrap64; omega
        go_roundw
        case measure => have := HKL.out; have := HK.out; simp [intOf, hnx]; omega
        case rel => exact ⟨x + 1, f2, _, by rw [hnx], ⟨by have := HKL.out; have := HK.out; omega⟩, ⟨by rw [show (x + 1).toNat = x.toNat + 1 from by have := HK.out; omega]; exact HI2.out⟩, ⟨by rw [show (x + 1).toNat = x.toNat + 1 from by have := HK.out; omega]; exact HM2.out⟩, HX9, HX10, HB4⟩
      ·have HWI := pA (show ∀ c : Int, c = (l1.length : Int) - 1 → bung_within.f (rd l2 x) 0 c = some false from fun c hc => by rw [within_f, decide_eq_false (by omega)])
       have hno : okOrder l1.length l2 = false := OInv.bad HKL.out (by rw [← HRD.out]; exact hin)
       have H := HH.out
       rw [if_neg (by rw [hno]; decide)] at H
       simp only [Prod.mk.injEq] at H
       obtain ⟨rfl, rfl, rfl, rfl⟩ := H
       clear HH hin hno
       go_wp2_with (go_at_call 111; refine (bung_within.calls _ _ _ false _ (HWI.out _ (by first | rfl | exact HWL.out))).mono ?_; rintro e w3 ⟨rfl, hb⟩; have HB3 := pA (below_step HB.out (Drawn0.below hb)); have HX7 := pA (blk_below HX5.out (Drawn0.below hb)); clear hb; have y0 := blk_cell HX7.out 0; have z0 := blk_frozen HX7.out 0; have y1 := blk_cell HX7.out 1; have z1 := blk_frozen HX7.out 1; have y2 := blk_cell HX7.out 2; have z2 := blk_frozen HX7.out 2)
       refine bodyPost_ret (results_ct rfl _ _ (w.heap.size + 1) 43 #[.int .i64 0, .int .i64 0, .slice none 0 0] (0, 0) _ rfl (blk_put (blk_put (blk_put HX7.out 0 _ rfl) 1 _ rfl) 2 _ rfl) Try.underlying43 rfl (by kernel_rfl)) rfl ?_
       exact ⟨_, rfl, Kd.R_nil _ _ _ _ _, below_set (below_set (below_set HB3.out (by simp)) (by simp)) (by simp)⟩
     ·have hkb : decide (x < (l2.length : Int)) = false := decide_eq_false hk
      have e : x.toNat = l2.length := by have := HK.out; omega
      have hyes : okOrder l1.length l2 = true := by have := HI.out; rw [e] at this; exact this.all
      have H := HH.out
      rw [if_pos hyes] at H
      simp only [Prod.mk.injEq] at H
      obtain ⟨rfl, rfl, rfl, rfl⟩ := H
      have hin : inIx l1.length l2 = true := by simp only [okOrder, Bool.and_eq_true] at hyes; exact hyes.1
      have hle2 : l2.length ≤ 1000000 := by
       simp only [okOrder, Bool.and_eq_true, decide_eq_true_eq] at hyes
       have := nodup_le hyes.2 hin
       have h3 := HOK.out
       simp only [okList, Bool.and_eq_true, decide_eq_true_eq] at h3
       omega
      have HST := pA (stacked_eq l1 l2 hin hle2)
      have y3 := blk_cell HX6.out 0
      have y4 := blk_cell HX6.out 1
      clear HH hyes hin hle2 e hk
      go_wp2
      go_region_held3 (fun w' => w'.cell? ⟨w.heap.size, 0, none⟩ = some (.int .i64 a0_0) ∧ w'.cell? ⟨w.heap.size, 1, none⟩ = some (.int .i64 a0_1))
       (first
        | exact ⟨y3, y4⟩
        | exact ⟨hq0, hq1⟩
        | exact ⟨set_far (by assumption), set_far (by assumption)⟩
        | go_keep)
       (first
        | (go_at_call 112; refine (bung_stacked.calls _ _ _ l1 _ _ l2 _ _ (Kd.C_below HR1.out (below_drew HB.out)) hc1 (Kd.C_below HR2.out (below_drew HB.out)) hc2 HST.out).mono ?_; rintro e w3 ⟨v3, rfl, ho, hb⟩; obtain ⟨A3, c3, rfl⟩ := Kd.R_slice ho; have hq0 : w3.cell? ⟨w.heap.size, 0, none⟩ = some (.int .i64 a0_0) := (blk_cell (blk_below (blk_drew HX6.out) hb) 0).trans rfl; have hq1 : w3.cell? ⟨w.heap.size, 1, none⟩ = some (.int .i64 a0_1) := (blk_cell (blk_below (blk_drew HX6.out) hb) 1).trans rfl; have HX7 := pA (blk_below (blk_drew HX5.out) hb); have HB3 := pA (below_step (below_drew HB.out) hb); have HO3 := pA (Kd.R_lower (Kd.R_mono (ok' := fun k => k ≠ w.heap.size + 1) (Kd.R_bound ho) (fun k hk e => by have h1 := hk.2.1; have h2 := blk_lt HX5.out; rw [e] at h1; exact Nat.lt_irrefl _ (Nat.lt_of_lt_of_le h2 h1))) (below_drew HB.out).size); clear ho hb; have q0 := blk_cell HX7.out 0; have q1 := blk_cell HX7.out 1; have q2 := blk_cell HX7.out 2; have z0 := blk_frozen HX7.out 0; have z1 := blk_frozen HX7.out 1; have z2 := blk_frozen HX7.out 2))
      go_wp2
      refine bodyPost_ret (results_ct rfl _ _ (w.heap.size + 1) 43 #[.int .i64 a0_0, .int .i64 a0_1, .slice A3 (pick l1 l2).length c3] (0, 0) _ rfl (blk_put (blk_put (blk_put HX7.out 0 _ rfl) 1 _ rfl) 2 _ rfl) Try.underlying43 rfl (by kernel_rfl)) rfl ?_
      exact ⟨_, rfl, Kd.R_mono (Kd.R_far (Kd.R_far (Kd.R_far HO3.out (fun k hk => hk) _) (fun k hk => hk) _) (fun k hk => hk) _) (fun _ _ => trivial), below_set (below_set (below_set HB3.out (by simp)) (by simp)) (by simp)⟩
def slices_Index_int_int.l0 : Nat → List Int → Int → Int → Int → Option (Int)
  | 0, _, _, _, _ => none
  | k + 1, x0, x1, x7, x8 => if x8 < x7 then (if 0 ≤ x8 then (if x8 < (x0.length : Int) then (if x1 = (rd x0 x8) then (some x8) else (slices_Index_int_int.l0 k x0 x1 x7 (wrap64 (x8 + 1)))) else (none)) else (none)) else (some (-1))
def slices_Index_int_int.f (k : Nat) (l0 : List Int) (a1 : Int) : Option (Int) := slices_Index_int_int.l0 k l0 a1 (l0.length : Int) 0
theorem slices_Index_int_int.mono_l : ∀ k, (∀ y0 y1 y2 y3, LeO (slices_Index_int_int.l0 k y0 y1 y2 y3) (slices_Index_int_int.l0 (k + 1) y0 y1 y2 y3))
 | 0 => fun _ _ _ _ r h => by simp [slices_Index_int_int.l0] at h
 | k + 1 => by
  have ih0 := slices_Index_int_int.mono_l k
  ·intro y0 y1 y2 y3
   unfold slices_Index_int_int.l0
   repeat' first
   | (with_reducible exact ih0 _ _ _ _)
   | (with_reducible exact LeO.refl _)
   | (with_reducible exact LeO.none _)
   | (with_reducible refine LeO.ite ?_ ?_)
   | (with_reducible refine LeO.bind ?_ (fun _ => ?_))
   | exact ih0 _ _ _ _
   | exact LeO.none _
   | refine LeO.ite ?_ ?_
   | refine LeO.bind ?_ (fun _ => ?_)
theorem slices_Index_int_int.mono : ∀ a0 a1 k, LeO (slices_Index_int_int.f k a0 a1) (slices_Index_int_int.f (k + 1) a0 a1) := by
 intro a0 a1 k
 have ih0 := slices_Index_int_int.mono_l k
 unfold slices_Index_int_int.f
 repeat' first
   | (with_reducible exact ih0 _ _ _ _)
   | (with_reducible exact LeO.refl _)
   | (with_reducible exact LeO.none _)
   | (with_reducible refine LeO.ite ?_ ?_)
   | (with_reducible refine LeO.bind ?_ (fun _ => ?_))
   | exact ih0 _ _ _ _
   | exact LeO.none _
   | refine LeO.ite ?_ ?_
   | refine LeO.bind ?_ (fun _ => ?_)
set_option maxHeartbeats 8000000 in
set_option maxRecDepth 100000 in
theorem slices_Index_int_int.calls (k : Nat) (A0 : Option Addr) (c0 : Nat) (l0 : List Int) (a1 : Int) (r : Int) (w : World) (hr0 : Kd.C (Kd.int .i64) w A0 l0.length l0) (hc0 : l0.length ≤ c0) (h : slices_Index_int_int.f k l0 a1 = some r) :
  Calls Try.prog 144 #[.slice A0 l0.length c0, .int .i64 a1] w fun e w' => e = .returned (.int .i64 r) ∧ Drawn0 w w' := by
 have HR0 := pA hr0
 have HC0 := pA hc0
 clear hr0 hc0
 have H : (slices_Index_int_int.l0 k l0 a1 (l0.length : Int) 0) = some r := h
 clear h
 have H' := pA H
 clear H
 go_enter Try.func144, Try.ntmps144
 go_wp2
 go_loopg [8] k (fun kq v8 w' => ∃ (x8_1 : Int), v8 = .int .i64 x8_1 ∧ Aside0 (slices_Index_int_int.l0 kq l0 a1 (l0.length : Int) x8_1 = some r) ∧ Aside0 (kq ≤ k) ∧ Drawn0 w w')
 case atStart => exact ⟨(0), (by first | rfl | (simp; done) | (simp [*]; done)), H', ⟨Nat.le_refl _⟩, by repeat (first | exact Drawn0.refl _ | apply Drawn0.step)⟩
 case round =>
  clear H'
  try clear c1
  try clear p2
  obtain ⟨x8_1, rfl, HA, HK1, ⟨m1, rfl⟩⟩ := hrel
  cases gk with
  | zero => exact absurd HA.out (by simp [slices_Index_int_int.l0])
  | succ k1 =>
   have H := HA.out
   clear HA
   simp only [slices_Index_int_int.l0] at H
   by_cases c3 : x8_1 < (l0.length : Int)
   ·rw [if_pos c3] at H
    have c3b0 : decide (x8_1 < (l0.length : Int)) = true := decide_eq_true c3
    clear c3
    by_cases c4 : 0 ≤ x8_1
    ·rw [if_pos c4] at H
     have c4b0 : decide (0 ≤ x8_1) = true := decide_eq_true c4
     clear c4
     by_cases c5 : x8_1 < (l0.length : Int)
     ·rw [if_pos c5] at H
      have c5b0 : decide (x8_1 < (l0.length : Int)) = true := decide_eq_true c5
      clear c5
      by_cases c6 : a1 = (rd l0 x8_1)
      ·rw [if_pos c6] at H
       have c6b0 : (a1 == (rd l0 x8_1)) = true := beq_iff_eq.mpr c6
       have c6b1 : (a1 != (rd l0 x8_1)) = false := bne_eq_false_iff_eq.mpr c6
       clear c6
       obtain rfl := Option.some.inj H
       have p122 : 0 ≤ (x8_1 : Int) := of_decide_eq_true (by first | (with_reducible assumption) | assumption)
       have q122 : x8_1 < (l0.length : Int) := of_decide_eq_true (by first | (with_reducible assumption) | assumption)
       obtain ⟨ad122, e122, hx122_0⟩ := Kd.at_int HR0.out x8_1 p122 q122
       cases e122
       replace p122 := eq_true p122
       replace q122 := eq_true q122
       go_wp2
       go_ret
       exact ⟨by first | rfl | (simp; done) | (simp [*]; done), by repeat (first | exact Drawn0.refl _ | apply Drawn0.step)⟩
      ·rw [if_neg c6] at H
       have c6b0 : (a1 == (rd l0 x8_1)) = false := beq_eq_false_iff_ne.mpr c6
       have c6b1 : (a1 != (rd l0 x8_1)) = true := bne_iff_ne.mpr c6
       have H' := pA H
       clear H
       have p122 : 0 ≤ (x8_1 : Int) := of_decide_eq_true (by first | (with_reducible assumption) | assumption)
       have q122 : x8_1 < (l0.length : Int) := of_decide_eq_true (by first | (with_reducible assumption) | assumption)
       obtain ⟨ad122, e122, hx122_0⟩ := Kd.at_int HR0.out x8_1 p122 q122
       cases e122
       replace p122 := eq_true p122
       replace q122 := eq_true q122
       go_wp2
       go_roundg k1
       case measure => have := HK1.out; omega
       case rel => exact ⟨(wrap64 (x8_1 + 1)), (by first | rfl | (simp; done) | (simp [*]; done)), H', ⟨by have := HK1.out; omega⟩, by repeat (first | exact Drawn0.refl _ | apply Drawn0.step)⟩
     ·rw [if_neg c5] at H
      exact absurd H (by simp)
    ·rw [if_neg c4] at H
     exact absurd H (by simp)
   ·rw [if_neg c3] at H
    have c3b0 : decide (x8_1 < (l0.length : Int)) = false := decide_eq_false c3
    clear c3
    obtain rfl := Option.some.inj H
    go_wp2
    go_ret
    exact ⟨by first | rfl | (simp; done) | (simp [*]; done), by repeat (first | exact Drawn0.refl _ | apply Drawn0.step)⟩
def slices_Contains_int_int.f (k : Nat) (l0 : List Int) (a1 : Int) : Option (Bool) := (slices_Index_int_int.f k l0 a1).bind fun t123 => (some (decide (t123 ≥ 0)))
theorem slices_Contains_int_int.mono : ∀ a0 a1 k, LeO (slices_Contains_int_int.f k a0 a1) (slices_Contains_int_int.f (k + 1) a0 a1) := by
 intro a0 a1 k
 unfold slices_Contains_int_int.f
 repeat' first
   | (with_reducible exact slices_Index_int_int.mono _ _ _)
   | (with_reducible exact LeO.refl _)
   | (with_reducible exact LeO.none _)
   | (with_reducible refine LeO.ite ?_ ?_)
   | (with_reducible refine LeO.bind ?_ (fun _ => ?_))
   | exact slices_Index_int_int.mono _ _ _
   | exact LeO.none _
   | refine LeO.ite ?_ ?_
   | refine LeO.bind ?_ (fun _ => ?_)
set_option maxHeartbeats 8000000 in
set_option maxRecDepth 100000 in
theorem slices_Contains_int_int.calls (k : Nat) (A0 : Option Addr) (c0 : Nat) (l0 : List Int) (a1 : Int) (r : Bool) (w : World) (hr0 : Kd.C (Kd.int .i64) w A0 l0.length l0) (hc0 : l0.length ≤ c0) (h : slices_Contains_int_int.f k l0 a1 = some r) :
  Calls Try.prog 127 #[.slice A0 l0.length c0, .int .i64 a1] w fun e w' => e = .returned (.bool r) ∧ Drawn0 w w' := by
 have HR0 := pA hr0
 have HC0 := pA hc0
 clear hr0 hc0
 have H : ((slices_Index_int_int.f k l0 a1).bind fun t123 => (some (decide (t123 ≥ 0)))) = some r := h
 clear h
 replace H := Option.bind_eq_some_iff.mp H
 obtain ⟨t123, A30, H⟩ := H
 replace H : (some (decide (t123 ≥ 0))) = some r := H
 have A3 := pA A30
 clear A30
 obtain rfl := Option.some.inj H
 go_enter Try.func127, Try.ntmps127
 go_wp2_with (first | ((with_reducible refine gate_callee (f := 144) rfl ?_); refine goesL_ (some 7) rfl rfl Try.func144 (by kernel_rfl) rfl #[.slice A0 l0.length c0, .int .i64 a1] rfl (by (try simp only [List.map_toArray, List.map_cons, List.map_nil]); first | done | rfl | (simp only [List.length_drop, List.length_take]; rfl)) ?_; (with_reducible refine (slices_Index_int_int.calls k _ _ l0 a1 t123 _ ?side1 ?side2 A3.out).mono ?_); (case side1 => repeat (first | exact HR0.out | (with_reducible refine Kd.C_alloc ?_ _) | (with_reducible refine Kd.C_drewN ?_ _) | (with_reducible refine Kd.C_drew ?_))); (case side2 => exact HC0.out); rintro e w' ⟨rfl, ⟨nd, rfl⟩⟩; refine ⟨_, rfl, ?_⟩))
 go_ret
 exact ⟨by first | rfl | (simp; done) | (simp [*]; done), by repeat (first | exact Drawn0.refl _ | apply Drawn0.step)⟩
def bung_all.f (k : Nat) (l0 : List Int) : Option (Int) := (slices_Contains_int_int.f k l0 0).bind fun t124 => (if t124 = true then (some 0) else ((slices_Contains_int_int.f k l0 2).bind fun t125 => (if t125 = true then (some 2) else (some 1))))
theorem bung_all.mono : ∀ a0 k, LeO (bung_all.f k a0) (bung_all.f (k + 1) a0) := by
 intro a0 k
 unfold bung_all.f
 repeat' first
   | (with_reducible exact slices_Contains_int_int.mono _ _ _)
   | (with_reducible exact LeO.refl _)
   | (with_reducible exact LeO.none _)
   | (with_reducible refine LeO.ite ?_ ?_)
   | (with_reducible refine LeO.bind ?_ (fun _ => ?_))
   | exact slices_Contains_int_int.mono _ _ _
   | exact LeO.none _
   | refine LeO.ite ?_ ?_
   | refine LeO.bind ?_ (fun _ => ?_)
set_option maxHeartbeats 8000000 in
set_option maxRecDepth 100000 in
theorem bung_all.calls (k : Nat) (A0 : Option Addr) (c0 : Nat) (l0 : List Int) (r : Int) (w : World) (hr0 : Kd.C (Kd.int .i64) w A0 l0.length l0) (hc0 : l0.length ≤ c0) (h : bung_all.f k l0 = some r) :
  Calls Try.prog 81 #[.slice A0 l0.length c0] w fun e w' => e = .returned (.int .i64 r) ∧ Drawn0 w w' := by
 have HR0 := pA hr0
 have HC0 := pA hc0
 clear hr0 hc0
 have H : ((slices_Contains_int_int.f k l0 0).bind fun t124 => (if t124 = true then (some 0) else ((slices_Contains_int_int.f k l0 2).bind fun t125 => (if t125 = true then (some 2) else (some 1))))) = some r := h
 clear h
 replace H := Option.bind_eq_some_iff.mp H
 obtain ⟨t124, A20, H⟩ := H
 replace H : (if t124 = true then (some 0) else ((slices_Contains_int_int.f k l0 2).bind fun t125 => (if t125 = true then (some 2) else (some 1)))) = some r := H
 have A2 := pA A20
 clear A20
 by_cases c3 : t124 = true
 ·subst c3
  have H1 : (some 0) = some r := by rw [if_pos rfl] at H; exact H
  clear H
  have H := H1
  clear H1
  obtain rfl := Option.some.inj H
  go_enter Try.func81, Try.ntmps81
  go_wp2_with (first | ((with_reducible refine gate_callee (f := 127) rfl ?_); refine goesL_ (some 5) rfl rfl Try.func127 (by kernel_rfl) rfl #[.slice A0 l0.length c0, .int .i64 0] rfl (by (try simp only [List.map_toArray, List.map_cons, List.map_nil]); first | done | rfl | (simp only [List.length_drop, List.length_take]; rfl)) ?_; (with_reducible refine (slices_Contains_int_int.calls k _ _ l0 0 true _ ?side1 ?side2 A2.out).mono ?_); (case side1 => repeat (first | exact HR0.out | (with_reducible refine Kd.C_alloc ?_ _) | (with_reducible refine Kd.C_drewN ?_ _) | (with_reducible refine Kd.C_drew ?_))); (case side2 => exact HC0.out); rintro e w' ⟨rfl, ⟨nd, rfl⟩⟩; refine ⟨_, rfl, ?_⟩))
  go_ret
  exact ⟨by first | rfl | (simp; done) | (simp [*]; done), by repeat (first | exact Drawn0.refl _ | apply Drawn0.step)⟩
 ·replace c3 := Bool.eq_false_iff.mpr c3
  subst c3
  have H1 : ((slices_Contains_int_int.f k l0 2).bind fun t125 => (if t125 = true then (some 2) else (some 1))) = some r := by rw [if_neg (show ¬ (false = true) by decide)] at H; exact H
  clear H
  have H := H1
  clear H1
  replace H := Option.bind_eq_some_iff.mp H
  obtain ⟨t125, A40, H⟩ := H
  replace H : (if t125 = true then (some 2) else (some 1)) = some r := H
  have A4 := pA A40
  clear A40
  by_cases c5 : t125 = true
  ·subst c5
   have H1 : (some 2) = some r := by rw [if_pos rfl] at H; exact H
   clear H
   have H := H1
   clear H1
   obtain rfl := Option.some.inj H
   go_enter Try.func81, Try.ntmps81
   go_wp2_with (first | ((with_reducible refine gate_callee (f := 127) rfl ?_); refine goesL_ (some 5) rfl rfl Try.func127 (by kernel_rfl) rfl #[.slice A0 l0.length c0, .int .i64 0] rfl (by (try simp only [List.map_toArray, List.map_cons, List.map_nil]); first | done | rfl | (simp only [List.length_drop, List.length_take]; rfl)) ?_; (with_reducible refine (slices_Contains_int_int.calls k _ _ l0 0 false _ ?side1 ?side2 A2.out).mono ?_); (case side1 => repeat (first | exact HR0.out | (with_reducible refine Kd.C_alloc ?_ _) | (with_reducible refine Kd.C_drewN ?_ _) | (with_reducible refine Kd.C_drew ?_))); (case side2 => exact HC0.out); rintro e w' ⟨rfl, ⟨nd, rfl⟩⟩; refine ⟨_, rfl, ?_⟩) | ((with_reducible refine gate_callee (f := 127) rfl ?_); refine goesL_ (some 8) rfl rfl Try.func127 (by kernel_rfl) rfl #[.slice A0 l0.length c0, .int .i64 2] rfl (by (try simp only [List.map_toArray, List.map_cons, List.map_nil]); first | done | rfl | (simp only [List.length_drop, List.length_take]; rfl)) ?_; (with_reducible refine (slices_Contains_int_int.calls k _ _ l0 2 true _ ?side1 ?side2 A4.out).mono ?_); (case side1 => repeat (first | exact HR0.out | (with_reducible refine Kd.C_alloc ?_ _) | (with_reducible refine Kd.C_drewN ?_ _) | (with_reducible refine Kd.C_drew ?_))); (case side2 => exact HC0.out); rintro e w' ⟨rfl, ⟨nd, rfl⟩⟩; refine ⟨_, rfl, ?_⟩))
   go_ret
   exact ⟨by first | rfl | (simp; done) | (simp [*]; done), by repeat (first | exact Drawn0.refl _ | apply Drawn0.step)⟩
  ·replace c5 := Bool.eq_false_iff.mpr c5
   subst c5
   have H1 : (some 1) = some r := by rw [if_neg (show ¬ (false = true) by decide)] at H; exact H
   clear H
   have H := H1
   clear H1
   obtain rfl := Option.some.inj H
   go_enter Try.func81, Try.ntmps81
   go_wp2_with (first | ((with_reducible refine gate_callee (f := 127) rfl ?_); refine goesL_ (some 5) rfl rfl Try.func127 (by kernel_rfl) rfl #[.slice A0 l0.length c0, .int .i64 0] rfl (by (try simp only [List.map_toArray, List.map_cons, List.map_nil]); first | done | rfl | (simp only [List.length_drop, List.length_take]; rfl)) ?_; (with_reducible refine (slices_Contains_int_int.calls k _ _ l0 0 false _ ?side1 ?side2 A2.out).mono ?_); (case side1 => repeat (first | exact HR0.out | (with_reducible refine Kd.C_alloc ?_ _) | (with_reducible refine Kd.C_drewN ?_ _) | (with_reducible refine Kd.C_drew ?_))); (case side2 => exact HC0.out); rintro e w' ⟨rfl, ⟨nd, rfl⟩⟩; refine ⟨_, rfl, ?_⟩) | ((with_reducible refine gate_callee (f := 127) rfl ?_); refine goesL_ (some 8) rfl rfl Try.func127 (by kernel_rfl) rfl #[.slice A0 l0.length c0, .int .i64 2] rfl (by (try simp only [List.map_toArray, List.map_cons, List.map_nil]); first | done | rfl | (simp only [List.length_drop, List.length_take]; rfl)) ?_; (with_reducible refine (slices_Contains_int_int.calls k _ _ l0 2 false _ ?side1 ?side2 A4.out).mono ?_); (case side1 => repeat (first | exact HR0.out | (with_reducible refine Kd.C_alloc ?_ _) | (with_reducible refine Kd.C_drewN ?_ _) | (with_reducible refine Kd.C_drew ?_))); (case side2 => exact HC0.out); rintro e w' ⟨rfl, ⟨nd, rfl⟩⟩; refine ⟨_, rfl, ?_⟩))
   go_ret
   exact ⟨by first | rfl | (simp; done) | (simp [*]; done), by repeat (first | exact Drawn0.refl _ | apply Drawn0.step)⟩
def bung_answer.f (a0_0 : Int) (a0_1 : Int) (a1_0 : Int) (a1_1 : Int) : Option (Int) := if a0_1 ≤ a1_0 then (some 1) else (if a0_0 > a1_1 then (some 0) else (some 2))
set_option maxHeartbeats 8000000 in
set_option maxRecDepth 100000 in
theorem bung_answer.calls (a0_0 : Int) (a0_1 : Int) (a1_0 : Int) (a1_1 : Int) (r : Int) (w : World) (h : bung_answer.f a0_0 a0_1 a1_0 a1_1 = some r) :
  Calls Try.prog 128 #[.agg #[.int .i64 a0_0, .int .i64 a0_1], .agg #[.int .i64 a1_0, .int .i64 a1_1]] w fun e w' => e = .returned (.int .i64 r) ∧ Below w.heap.size w w' := by
 have hu23 := Try.underlying23
 have HB := pA (Below.refl w.heap.size w)
 have H : (if a0_1 ≤ a1_0 then (some 1) else (if a0_0 > a1_1 then (some 0) else (some 2))) = some r := h
 clear h
 by_cases c3 : a0_1 ≤ a1_0
 ·rw [if_pos c3] at H
  have c3b0 : decide (a0_1 ≤ a1_0) = true := decide_eq_true c3
  clear c3
  obtain rfl := Option.some.inj H
  go_enter Try.func128, Try.ntmps128
  go_wp2_with (first | ((with_reducible refine gate_dst (N := 2) rfl ?_); refine box_event ?hg (N := 2) ?hd (cs := #[.int .i64 a0_0, .int .i64 a0_1]) (t := 23) ?hr ?_; (case hd => rfl); (case hg => rfl); (case hr => first | (go_simp; done) | (go_simp; rfl)); intro gb126 hg w4 hbox hb; have n0_ := pA (below_step (vB HB) hb); have n1_ := pA (hbox); have n2_ := pA ((by rw [hg]; exact (below_size (vB HB)) : w.heap.size ≤ gb126)); have n3_ := pA ((by rw [hg]; exact (below_size (vB HB)) : w.heap.size ≤ gb126)); clear HB; have HB := n0_; have BK126 := n1_; have GW126 := n2_; have GE126 := n3_; clear n0_ n1_ n2_ n3_; clear hb hbox hg) | ((with_reducible refine gate_dst (N := 3) rfl ?_); refine box_event ?hg (N := 3) ?hd (cs := #[.int .i64 a1_0, .int .i64 a1_1]) (t := 23) ?hr ?_; (case hd => rfl); (case hg => rfl); (case hr => first | (go_simp; done) | (go_simp; rfl)); intro gb127 hg w5 hbox hb; have n0_ := pA (blk_below (g := gb126) (o := .cells #[.int .i64 a0_0, .int .i64 a0_1] 23 (0, 0)) (vK BK126) hb); have n1_ := pA (below_step (by repeat (first | (with_reducible first | exact HB.out | apply below_alloc | apply pw_below_drewN | apply below_drew1 | refine below_set ?_ GE126.out) | exact HB.out)) hb); have n2_ := pA (hbox); have n3_ := pA ((by rw [hg]; exact (below_size (by repeat (first | (with_reducible first | exact HB.out | apply below_alloc | apply pw_below_drewN | apply below_drew1 | refine below_set ?_ GE126.out) | exact HB.out))) : w.heap.size ≤ gb127)); have n4_ := pA ((by rw [hg]; exact (below_size (by repeat (first | (with_reducible first | exact HB.out | apply below_alloc | apply pw_below_drewN | apply below_drew1 | refine below_set ?_ GE126.out) | exact HB.out))) : w.heap.size ≤ gb127)); have n5_ := pA ((by rw [hg]; exact Nat.ne_of_lt (blk_lt (g := gb126) (o := .cells #[.int .i64 a0_0, .int .i64 a0_1] 23 (0, 0)) (vK BK126)) : gb126 ≠ gb127)); have n6_ := pA ((by rw [hg]; exact Nat.ne_of_gt (blk_lt (g := gb126) (o := .cells #[.int .i64 a0_0, .int .i64 a0_1] 23 (0, 0)) (vK BK126)) : gb127 ≠ gb126)); clear BK126; clear HB; have BK126 := n0_; have HB := n1_; have BK127 := n2_; have GW127 := n3_; have GE127 := n4_; have NB126_127 := n5_; have NB127_126 := n6_; clear n0_ n1_ n2_ n3_ n4_ n5_ n6_; clear hb hbox hg; have hnb6 := NB126_127.out; have hnc6 := NB127_126.out; have hcz7_0 : w5.cell? ⟨gb126, 0, none⟩ = some (.int .i64 a0_0) := (blk_cell BK126.out 0).trans rfl; have hcz7_1 : w5.cell? ⟨gb126, 1, none⟩ = some (.int .i64 a0_1) := (blk_cell BK126.out 1).trans rfl; have hfz7_0 := blk_frozen BK126.out 0; have hfz7_1 := blk_frozen BK126.out 1; have hcz8_0 : w5.cell? ⟨gb127, 0, none⟩ = some (.int .i64 a1_0) := (blk_cell BK127.out 0).trans rfl; have hcz8_1 : w5.cell? ⟨gb127, 1, none⟩ = some (.int .i64 a1_1) := (blk_cell BK127.out 1).trans rfl; have hfz8_0 := blk_frozen BK127.out 0; have hfz8_1 := blk_frozen BK127.out 1))
  go_ret
  exact ⟨by first | rfl | (simp [errW_none, errW_some] <;> rfl) | (simp [*, errW_none, errW_some] <;> rfl), by repeat (first | (with_reducible first | exact HB.out | apply below_alloc | apply pw_below_drewN | apply below_drew1 | refine below_set ?_ GE126.out | refine below_set ?_ GE127.out) | exact HB.out)⟩
 ·rw [if_neg c3] at H
  have c3b0 : decide (a0_1 ≤ a1_0) = false := decide_eq_false c3
  clear c3
  by_cases c9 : a0_0 > a1_1
  ·rw [if_pos c9] at H
   have c9b0 : decide (a1_1 < a0_0) = true := decide_eq_true c9
   clear c9
   obtain rfl := Option.some.inj H
   go_enter Try.func128, Try.ntmps128
   go_wp2_with (first | ((with_reducible refine gate_dst (N := 2) rfl ?_); refine box_event ?hg (N := 2) ?hd (cs := #[.int .i64 a0_0, .int .i64 a0_1]) (t := 23) ?hr ?_; (case hd => rfl); (case hg => rfl); (case hr => first | (go_simp; done) | (go_simp; rfl)); intro gb126 hg w10 hbox hb; have n0_ := pA (below_step (vB HB) hb); have n1_ := pA (hbox); have n2_ := pA ((by rw [hg]; exact (below_size (vB HB)) : w.heap.size ≤ gb126)); have n3_ := pA ((by rw [hg]; exact (below_size (vB HB)) : w.heap.size ≤ gb126)); clear HB; have HB := n0_; have BK126 := n1_; have GW126 := n2_; have GE126 := n3_; clear n0_ n1_ n2_ n3_; clear hb hbox hg) | ((with_reducible refine gate_dst (N := 3) rfl ?_); refine box_event ?hg (N := 3) ?hd (cs := #[.int .i64 a1_0, .int .i64 a1_1]) (t := 23) ?hr ?_; (case hd => rfl); (case hg => rfl); (case hr => first | (go_simp; done) | (go_simp; rfl)); intro gb127 hg w11 hbox hb; have n0_ := pA (blk_below (g := gb126) (o := .cells #[.int .i64 a0_0, .int .i64 a0_1] 23 (0, 0)) (vK BK126) hb); have n1_ := pA (below_step (by repeat (first | (with_reducible first | exact HB.out | apply below_alloc | apply pw_below_drewN | apply below_drew1 | refine below_set ?_ GE126.out) | exact HB.out)) hb); have n2_ := pA (hbox); have n3_ := pA ((by rw [hg]; exact (below_size (by repeat (first | (with_reducible first | exact HB.out | apply below_alloc | apply pw_below_drewN | apply below_drew1 | refine below_set ?_ GE126.out) | exact HB.out))) : w.heap.size ≤ gb127)); have n4_ := pA ((by rw [hg]; exact (below_size (by repeat (first | (with_reducible first | exact HB.out | apply below_alloc | apply pw_below_drewN | apply below_drew1 | refine below_set ?_ GE126.out) | exact HB.out))) : w.heap.size ≤ gb127)); have n5_ := pA ((by rw [hg]; exact Nat.ne_of_lt (blk_lt (g := gb126) (o := .cells #[.int .i64 a0_0, .int .i64 a0_1] 23 (0, 0)) (vK BK126)) : gb126 ≠ gb127)); have n6_ := pA ((by rw [hg]; exact Nat.ne_of_gt (blk_lt (g := gb126) (o := .cells #[.int .i64 a0_0, .int .i64 a0_1] 23 (0, 0)) (vK BK126)) : gb127 ≠ gb126)); clear BK126; clear HB; have BK126 := n0_; have HB := n1_; have BK127 := n2_; have GW127 := n3_; have GE127 := n4_; have NB126_127 := n5_; have NB127_126 := n6_; clear n0_ n1_ n2_ n3_ n4_ n5_ n6_; clear hb hbox hg; have hnb12 := NB126_127.out; have hnc12 := NB127_126.out; have hcz13_0 : w11.cell? ⟨gb126, 0, none⟩ = some (.int .i64 a0_0) := (blk_cell BK126.out 0).trans rfl; have hcz13_1 : w11.cell? ⟨gb126, 1, none⟩ = some (.int .i64 a0_1) := (blk_cell BK126.out 1).trans rfl; have hfz13_0 := blk_frozen BK126.out 0; have hfz13_1 := blk_frozen BK126.out 1; have hcz14_0 : w11.cell? ⟨gb127, 0, none⟩ = some (.int .i64 a1_0) := (blk_cell BK127.out 0).trans rfl; have hcz14_1 : w11.cell? ⟨gb127, 1, none⟩ = some (.int .i64 a1_1) := (blk_cell BK127.out 1).trans rfl; have hfz14_0 := blk_frozen BK127.out 0; have hfz14_1 := blk_frozen BK127.out 1))
   go_ret
   exact ⟨by first | rfl | (simp [errW_none, errW_some] <;> rfl) | (simp [*, errW_none, errW_some] <;> rfl), by repeat (first | (with_reducible first | exact HB.out | apply below_alloc | apply pw_below_drewN | apply below_drew1 | refine below_set ?_ GE126.out | refine below_set ?_ GE127.out) | exact HB.out)⟩
  ·rw [if_neg c9] at H
   have c9b0 : decide (a1_1 < a0_0) = false := decide_eq_false c9
   clear c9
   obtain rfl := Option.some.inj H
   go_enter Try.func128, Try.ntmps128
   go_wp2_with (first | ((with_reducible refine gate_dst (N := 2) rfl ?_); refine box_event ?hg (N := 2) ?hd (cs := #[.int .i64 a0_0, .int .i64 a0_1]) (t := 23) ?hr ?_; (case hd => rfl); (case hg => rfl); (case hr => first | (go_simp; done) | (go_simp; rfl)); intro gb126 hg w15 hbox hb; have n0_ := pA (below_step (vB HB) hb); have n1_ := pA (hbox); have n2_ := pA ((by rw [hg]; exact (below_size (vB HB)) : w.heap.size ≤ gb126)); have n3_ := pA ((by rw [hg]; exact (below_size (vB HB)) : w.heap.size ≤ gb126)); clear HB; have HB := n0_; have BK126 := n1_; have GW126 := n2_; have GE126 := n3_; clear n0_ n1_ n2_ n3_; clear hb hbox hg) | ((with_reducible refine gate_dst (N := 3) rfl ?_); refine box_event ?hg (N := 3) ?hd (cs := #[.int .i64 a1_0, .int .i64 a1_1]) (t := 23) ?hr ?_; (case hd => rfl); (case hg => rfl); (case hr => first | (go_simp; done) | (go_simp; rfl)); intro gb127 hg w16 hbox hb; have n0_ := pA (blk_below (g := gb126) (o := .cells #[.int .i64 a0_0, .int .i64 a0_1] 23 (0, 0)) (vK BK126) hb); have n1_ := pA (below_step (by repeat (first | (with_reducible first | exact HB.out | apply below_alloc | apply pw_below_drewN | apply below_drew1 | refine below_set ?_ GE126.out) | exact HB.out)) hb); have n2_ := pA (hbox); have n3_ := pA ((by rw [hg]; exact (below_size (by repeat (first | (with_reducible first | exact HB.out | apply below_alloc | apply pw_below_drewN | apply below_drew1 | refine below_set ?_ GE126.out) | exact HB.out))) : w.heap.size ≤ gb127)); have n4_ := pA ((by rw [hg]; exact (below_size (by repeat (first | (with_reducible first | exact HB.out | apply below_alloc | apply pw_below_drewN | apply below_drew1 | refine below_set ?_ GE126.out) | exact HB.out))) : w.heap.size ≤ gb127)); have n5_ := pA ((by rw [hg]; exact Nat.ne_of_lt (blk_lt (g := gb126) (o := .cells #[.int .i64 a0_0, .int .i64 a0_1] 23 (0, 0)) (vK BK126)) : gb126 ≠ gb127)); have n6_ := pA ((by rw [hg]; exact Nat.ne_of_gt (blk_lt (g := gb126) (o := .cells #[.int .i64 a0_0, .int .i64 a0_1] 23 (0, 0)) (vK BK126)) : gb127 ≠ gb126)); clear BK126; clear HB; have BK126 := n0_; have HB := n1_; have BK127 := n2_; have GW127 := n3_; have GE127 := n4_; have NB126_127 := n5_; have NB127_126 := n6_; clear n0_ n1_ n2_ n3_ n4_ n5_ n6_; clear hb hbox hg; have hnb17 := NB126_127.out; have hnc17 := NB127_126.out; have hcz18_0 : w16.cell? ⟨gb126, 0, none⟩ = some (.int .i64 a0_0) := (blk_cell BK126.out 0).trans rfl; have hcz18_1 : w16.cell? ⟨gb126, 1, none⟩ = some (.int .i64 a0_1) := (blk_cell BK126.out 1).trans rfl; have hfz18_0 := blk_frozen BK126.out 0; have hfz18_1 := blk_frozen BK126.out 1; have hcz19_0 : w16.cell? ⟨gb127, 0, none⟩ = some (.int .i64 a1_0) := (blk_cell BK127.out 0).trans rfl; have hcz19_1 : w16.cell? ⟨gb127, 1, none⟩ = some (.int .i64 a1_1) := (blk_cell BK127.out 1).trans rfl; have hfz19_0 := blk_frozen BK127.out 0; have hfz19_1 := blk_frozen BK127.out 1))
   go_ret
   exact ⟨by first | rfl | (simp [errW_none, errW_some] <;> rfl) | (simp [*, errW_none, errW_some] <;> rfl), by repeat (first | (with_reducible first | exact HB.out | apply below_alloc | apply pw_below_drewN | apply below_drew1 | refine below_set ?_ GE126.out | refine below_set ?_ GE127.out) | exact HB.out)⟩
def bung_courses.l0 : Nat → List (S52) → List Int → List (S23) → Int → Int → Option (List Int)
  | 0, _, _, _, _, _ => none
  | k + 1, x0, x3, x7, x8, x9 => if x9 < x8 then (if 0 ≤ x9 then (if x9 < (x7.length : Int) then (if x9 < (x0.length : Int) then ((bung_answer.f ((rd_T23 x7 x9).f0) ((rd_T23 x7 x9).f1) ((rd_T52 x0 x9).f2.f0) ((rd_T52 x0 x9).f2.f1)).bind fun t134 => (if x3.length < 17592186044416 then (bung_courses.l0 k x0 (x3 ++ [t134]) x7 x8 (wrap64 (x9 + 1))) else (none))) else (none)) else (none)) else (none)) else (some x3)
def bung_courses.f (k : Nat) (l0 : List (S52)) : Option (List Int) := (bung_loads.f l0).bind fun t128 => (bung_courses.l0 k l0 ([] : List Int) t128 (t128.length : Int) 0)
theorem bung_courses.mono_l : ∀ k, (∀ y0 y1 y2 y3 y4, LeO (bung_courses.l0 k y0 y1 y2 y3 y4) (bung_courses.l0 (k + 1) y0 y1 y2 y3 y4))
 | 0 => fun _ _ _ _ _ r h => by simp [bung_courses.l0] at h
 | k + 1 => by
  have ih0 := bung_courses.mono_l k
  ·intro y0 y1 y2 y3 y4
   unfold bung_courses.l0
   repeat' first
   | (with_reducible exact ih0 _ _ _ _ _)
   | (with_reducible exact LeO.refl _)
   | (with_reducible exact LeO.none _)
   | (with_reducible refine LeO.ite ?_ ?_)
   | (with_reducible refine LeO.bind ?_ (fun _ => ?_))
   | exact ih0 _ _ _ _ _
   | exact LeO.none _
   | refine LeO.ite ?_ ?_
   | refine LeO.bind ?_ (fun _ => ?_)
theorem bung_courses.mono : ∀ a0 k, LeO (bung_courses.f k a0) (bung_courses.f (k + 1) a0) := by
 intro a0 k
 have ih0 := bung_courses.mono_l k
 unfold bung_courses.f
 repeat' first
   | (with_reducible exact ih0 _ _ _ _ _)
   | (with_reducible exact LeO.refl _)
   | (with_reducible exact LeO.none _)
   | (with_reducible refine LeO.ite ?_ ?_)
   | (with_reducible refine LeO.bind ?_ (fun _ => ?_))
   | exact ih0 _ _ _ _ _
   | exact LeO.none _
   | refine LeO.ite ?_ ?_
   | refine LeO.bind ?_ (fun _ => ?_)
def bung_courses.T5 : Bool × List (List Nat × List Nat) := (true, [([], []), ([], []), ([], []), ([], []), ([2, 3], [2, 3]), ([4], [4]), ([5], [5]), ([1, 6], [1, 6]), ([7], [7]), ([0, 8, 7], [0, 8]), ([9, 9, 0, 1, 2, 3, 4, 5, 6, 7, 8, 9], [0, 9])])
def bung_courses.B5 : List Nat := [0, 0, 0, 0, 12, 28, 60, 126, 254, 511, 1023]
theorem bung_courses.tab5 : rtab .any (opsOf Try.f82 5) = bung_courses.T5 := by kernel_rfl
theorem bung_courses.bits5 : waitsOk bung_courses.T5.2 bung_courses.B5 = true := by kernel_rfl
set_option maxHeartbeats 8000000 in
set_option maxRecDepth 100000 in
theorem bung_courses.calls (k : Nat) (A0 : Option Addr) (c0 : Nat) (l0 : List (S52)) (r : List Int) (w : World) (hr0 : Kd.C k52 w A0 l0.length l0) (hc0 : l0.length ≤ c0) (h : bung_courses.f k l0 = some r) :
  Calls Try.prog 82 #[.slice A0 l0.length c0] w fun e w' => ∃ v0_ : Value, e = .returned (v0_) ∧ Kd.R (Kd.int .i64) 3 w' w.heap.size (fun _ => True) v0_ r ∧ Below w.heap.size w w' := by
 have hu23 := Try.underlying23
 have HR0 := pA hr0
 have HC0 := pA hc0
 clear hr0 hc0
 have HB := pA (Below.refl w.heap.size w)
 have H : ((bung_loads.f l0).bind fun t128 => (bung_courses.l0 k l0 ([] : List Int) t128 (t128.length : Int) 0)) = some r := h
 clear h
 replace H := Option.bind_eq_some_iff.mp H
 obtain ⟨t128, A20, H⟩ := H
 replace H : (bung_courses.l0 k l0 ([] : List Int) t128 (t128.length : Int) 0) = some r := H
 have A2 := pA A20
 clear A20
 have H' := pA H
 clear H
 go_enter Try.func82, Try.ntmps82
 go_wp2_with (first | ((with_reducible refine gate_callee (f := 88) rfl ?_); refine goesL_ (some 7) rfl rfl Try.func88 (by kernel_rfl) rfl #[.slice A0 l0.length c0] rfl (by (try simp only [List.map_toArray, List.map_cons, List.map_nil]); first | done | rfl | (simp only [List.length_drop, List.length_take]; rfl)) ?_; (with_reducible refine (bung_loads.calls _ _ l0 t128 _ ?side1 ?side2 A2.out).mono ?_); (case side1 => repeat (first | exact HR0.out | (with_reducible refine Kd.C_alloc ?_ _) | (with_reducible refine Kd.C_drewN ?_ _) | (with_reducible refine Kd.C_drew ?_))); (case side2 => exact HC0.out); rintro e w3 ⟨v129, rfl, ho0, hb⟩; refine ⟨_, rfl, ?_⟩; have n0_ := pA (Kd.R_lower ho0 (below_size (vB HB))); have n1_ := pA (below_step (vB HB) hb); clear HB; have HO130 := n0_; have HB := n1_; clear n0_ n1_; (try clear hb); (try clear hb2); (try clear hk); (try clear hi); (try clear ho0); obtain ⟨Ao4, co4, eo4⟩ := Kd.R_slice HO130.out; subst eo4))
 go_loopg [3, 9] k (fun kq v3 v9 w' => ∃ (x3_1 : List Int) (x9_1 : Int), v9 = .int .i64 x9_1 ∧ Aside0 (bung_courses.l0 kq l0 x3_1 t128 (t128.length : Int) x9_1 = some r) ∧ Aside0 (kq ≤ k) ∧ Aside0 (Kd.R (Kd.int .i64) 3 w' w.heap.size (fun _ => True) v3 x3_1) ∧ Aside0 (Kd.R k23 23 w' w.heap.size (fun _ => True) (.slice Ao4 t128.length co4) t128) ∧ Aside0 (Below w.heap.size w w'))
 case atStart => exact ⟨(([] : List Int)), (0), (by first | rfl | (simp; done) | (simp [*]; done)), H', ⟨Nat.le_refl _⟩, ⟨by first | exact Kd.R_nil _ _ _ _ _ | exact Kd.N_nil _ _ _ _ _ | exact Kd.V_nil _ _ _ _ _ | exact Kd.Q_nil _ _ _ _ _ | exact Kd.S_nil _ _ _ _ _⟩, ⟨by (with_reducible repeat (first | apply Kd.R_alloc | apply Kd.R_drewN | apply Kd.R_drew)); exact HO130.out⟩, ⟨by repeat (first | (with_reducible first | exact HB.out | apply below_alloc | apply pw_below_drewN | apply below_drew1) | exact HB.out)⟩⟩
 case round =>
  clear H'
  try clear p2
  obtain ⟨x3_1, x9_1, rfl, HA, HK1, HO_3, HO_7, HB⟩ := hrel
  cases gk with
  | zero => exact absurd HA.out (by simp [bung_courses.l0])
  | succ k1 =>
   have H := HA.out
   clear HA
   simp only [bung_courses.l0] at H
   by_cases c5 : x9_1 < (t128.length : Int)
   ·rw [if_pos c5] at H
    have c5b0 : decide (x9_1 < (t128.length : Int)) = true := decide_eq_true c5
    clear c5
    by_cases c6 : 0 ≤ x9_1
    ·rw [if_pos c6] at H
     have c6b0 : decide (0 ≤ x9_1) = true := decide_eq_true c6
     clear c6
     by_cases c7 : x9_1 < (t128.length : Int)
     ·rw [if_pos c7] at H
      have c7b0 : decide (x9_1 < (t128.length : Int)) = true := decide_eq_true c7
      clear c7
      by_cases c8 : x9_1 < (l0.length : Int)
      ·rw [if_pos c8] at H
       have c8b0 : decide (x9_1 < (l0.length : Int)) = true := decide_eq_true c8
       clear c8
       replace H := Option.bind_eq_some_iff.mp H
       obtain ⟨t134, A90, H⟩ := H
       replace H : (if x3_1.length < 17592186044416 then (bung_courses.l0 k1 l0 (x3_1 ++ [t134]) t128 (t128.length : Int) (wrap64 (x9_1 + 1))) else (none)) = some r := H
       have A9 := pA A90
       clear A90
       by_cases c10 : x3_1.length < 17592186044416
       ·rw [if_pos c10] at H
        have LMc10 := pA c10
        clear c10
        obtain ⟨y135, hy135⟩ : ∃ y_ : List Int, y_ = (x3_1 ++ [t134]) := ⟨_, rfl⟩
        replace H : (bung_courses.l0 k1 l0 y135 t128 (t128.length : Int) (wrap64 (x9_1 + 1))) = some r := by first | (rw [hy135]; with_reducible exact H) | (have H2_ := (Option.bind_some _ _).symm.trans H; rw [hy135]; with_reducible exact H2_) | (have H2_ := (Option.bind_some _ _).symm.trans H; with_reducible exact H2_) | with_reducible exact H | (rw [hy135]; exact H) | exact H
        have Ny135 := pA hy135
        clear hy135
        have H' := pA H
        clear H
        have p131 : 0 ≤ (x9_1 : Int) := of_decide_eq_true (by first | (with_reducible assumption) | assumption)
        have q131 : x9_1 < (t128.length : Int) := of_decide_eq_true (by first | (with_reducible assumption) | assumption)
        obtain ⟨ad131, e131, hx131_0, hx131_1⟩ := at_T23 (Kd.R_reads' HO_7.out).2.2 x9_1 p131 q131
        cases e131
        replace p131 := eq_true p131
        replace q131 := eq_true q131
        try go_wp2_with (first | ((with_reducible refine gate_dst (N := 5) rfl ?_); refine box_event ?hg (N := 5) ?hd (cs := #[.int .i64 0, .int .i64 0]) (t := 23) ?hr ?_; (case hd => rfl); (case hg => rfl); (case hr => first | (go_simp; done) | (go_simp; rfl)); intro gb132 hg w11 hbox hb; have n0_ := pA (Kd.R_below (vR HO_3) hb); have n1_ := pA (Kd.R_below (Kd.R_elderB (vR HO_7) gb132 (Nat.le_of_eq hg.symm)) hb); have n2_ := pA (below_step (vB HB) hb); have n3_ := pA (hbox); have n4_ := pA ((by rw [hg]; exact (below_size (vB HB)) : w.heap.size ≤ gb132)); have n5_ := pA ((by rw [hg]; exact (below_size (vB HB)) : w.heap.size ≤ gb132)); clear HO_3; clear HO_7; clear HB; have HO_3 := n0_; have HO_7 := n1_; have HB := n2_; have BK132 := n3_; have GW132 := n4_; have GE132 := n5_; clear n0_ n1_ n2_ n3_ n4_ n5_; clear hb hbox hg; have hcz12_0 : w11.cell? ⟨gb132, 0, none⟩ = some (.int .i64 0) := (blk_cell BK132.out 0).trans rfl; have hcz12_1 : w11.cell? ⟨gb132, 1, none⟩ = some (.int .i64 0) := (blk_cell BK132.out 1).trans rfl; have hfz12_0 := blk_frozen BK132.out 0; have hfz12_1 := blk_frozen BK132.out 1))
        have n0_ : Aside0 (Kd.R (Kd.int .i64) 3 ((w11.setCell ⟨gb132, 0, none⟩ (.int .i64 ((rd_T23 t128 x9_1).f0))).setCell ⟨gb132, 1, none⟩ (.int .i64 ((rd_T23 t128 x9_1).f1))) w.heap.size (fun _ => True) u3 x3_1) := ⟨by (with_reducible repeat (first | apply Kd.R_alloc | apply Kd.R_drewN | apply Kd.R_drew)); exact Kd.R_mono (Kd.R_far (p := ⟨gb132, 1, none⟩) (Kd.R_far (p := ⟨gb132, 0, none⟩) (Kd.R_types HO_3.out BK132.out (by decide)) (fun _ hk => hk.2) (.int .i64 ((rd_T23 t128 x9_1).f0))) (fun _ hk => hk.2) (.int .i64 ((rd_T23 t128 x9_1).f1))) (fun _ hk => trivial)⟩
        have n1_ : Aside0 (Kd.R k23 23 ((w11.setCell ⟨gb132, 0, none⟩ (.int .i64 ((rd_T23 t128 x9_1).f0))).setCell ⟨gb132, 1, none⟩ (.int .i64 ((rd_T23 t128 x9_1).f1))) w.heap.size (fun k_ => k_ ≠ gb132) (.slice (some ad131) t128.length co4) t128) := ⟨by (with_reducible repeat (first | apply Kd.R_alloc | apply Kd.R_drewN | apply Kd.R_drew)); exact Kd.R_mono (Kd.R_far (p := ⟨gb132, 1, none⟩) (Kd.R_far (p := ⟨gb132, 0, none⟩) (Kd.R_mono HO_7.out (fun k_ hk => (⟨hk, hk.2⟩ : _ ∧ k_ ≠ gb132))) (fun _ hk => hk.2) (.int .i64 ((rd_T23 t128 x9_1).f0))) (fun _ hk => hk.2) (.int .i64 ((rd_T23 t128 x9_1).f1))) (fun _ hk => hk.1.2)⟩
        have n2_ : Aside0 (((w11.setCell ⟨gb132, 0, none⟩ (.int .i64 ((rd_T23 t128 x9_1).f0))).setCell ⟨gb132, 1, none⟩ (.int .i64 ((rd_T23 t128 x9_1).f1))).heap[gb132]? = some (.cells #[.int .i64 ((rd_T23 t128 x9_1).f0), .int .i64 ((rd_T23 t128 x9_1).f1)] 23 (0, 0))) := ⟨by (with_reducible repeat (first | refine blk_drewN ?_ _ | refine blk_drew ?_ | refine blk_alloc ?_ _)); refine blk_put (cs := #[.int .i64 ((rd_T23 t128 x9_1).f0), .int .i64 0]) ?_ 1 _ rfl; (with_reducible repeat (first | refine blk_drewN ?_ _ | refine blk_drew ?_ | refine blk_alloc ?_ _)); refine blk_put (cs := #[.int .i64 0, .int .i64 0]) ?_ 0 _ rfl; (with_reducible repeat (first | refine blk_drewN ?_ _ | refine blk_drew ?_ | refine blk_alloc ?_ _)); exact BK132.out⟩
        have n3_ : Aside0 (Below w.heap.size w ((w11.setCell ⟨gb132, 0, none⟩ (.int .i64 ((rd_T23 t128 x9_1).f0))).setCell ⟨gb132, 1, none⟩ (.int .i64 ((rd_T23 t128 x9_1).f1)))) := ⟨by repeat (first | (with_reducible first | exact HB.out | apply below_alloc | apply pw_below_drewN | apply below_drew1 | refine below_set ?_ GE132.out) | exact HB.out)⟩
        (try clear HO_3)
        (try clear HO_7)
        (try clear BK132)
        (try clear HB)
        generalize ((w11.setCell ⟨gb132, 0, none⟩ (.int .i64 ((rd_T23 t128 x9_1).f0))).setCell ⟨gb132, 1, none⟩ (.int .i64 ((rd_T23 t128 x9_1).f1))) = w13 at n0_ n1_ n2_ n3_ ⊢
        have HO_3 := n0_
        have HO_7 := n1_
        have BK132 := n2_
        have HB := n3_
        clear n0_ n1_ n2_ n3_
        have n0_ := pA (Kd.R_drew HO_3.out)
        have n1_ := pA (Kd.R_drew HO_7.out)
        have n2_ := pA (blk_drew BK132.out)
        have n3_ := pA (below_drew1 HB.out)
        clear HO_3
        clear HO_7
        clear BK132
        clear HB
        have HO_3 := n0_
        have HO_7 := n1_
        have BK132 := n2_
        have HB := n3_
        clear n0_ n1_ n2_ n3_
        have p133 : 0 ≤ (x9_1 : Int) := of_decide_eq_true (by first | (with_reducible assumption) | assumption)
        have q133 : x9_1 < (l0.length : Int) := of_decide_eq_true (by first | (with_reducible assumption) | assumption)
        obtain ⟨ad133, e133, hx133_0, hx133_1, hx133_2, hx133_3, hx133_4, hx133_5, hx133_6, hx133_7⟩ := at_T52 HR0.out x9_1 p133 q133
        have hw133_7 := hx133_7
        have hw133_6 := hx133_6
        have hw133_5 := hx133_5
        have hw133_4 := hx133_4
        have hw133_3 := hx133_3
        have hw133_2 := hx133_2
        have hw133_1 := hx133_1
        have hw133_0 := hx133_0
        cases e133
        replace hx133_0 := vC HB hx133_0
        replace hx133_1 := vC HB hx133_1
        replace hx133_2 := vC HB hx133_2
        replace hx133_3 := vC HB hx133_3
        replace hx133_4 := vC HB hx133_4
        replace hx133_5 := vC HB hx133_5
        replace hx133_6 := vC HB hx133_6
        replace hx133_7 := vC HB hx133_7
        replace p133 := eq_true p133
        replace q133 := eq_true q133
        refine start_ (n := 11) (S := fun w' => w'.cell? ⟨gb132, 0, none⟩ = some (.int .i64 ((rd_T23 t128 x9_1).f0)) ∧ w'.cell? ⟨gb132, 1, none⟩ = some (.int .i64 ((rd_T23 t128 x9_1).f1)) ∧ w'.cell? (ad133.add ((x9_1).toNat * 8)) = some (.int .i64 ((rd_T52 l0 x9_1).f0)) ∧ w'.cell? ⟨(ad133.add ((x9_1).toNat * 8)).block, (ad133.add ((x9_1).toNat * 8)).off + 1, none⟩ = some (.int .i64 ((rd_T52 l0 x9_1).f1.f0)) ∧ w'.cell? ⟨(ad133.add ((x9_1).toNat * 8)).block, (ad133.add ((x9_1).toNat * 8)).off + 2, none⟩ = some (.int .i64 ((rd_T52 l0 x9_1).f1.f1)) ∧ w'.cell? ⟨(ad133.add ((x9_1).toNat * 8)).block, (ad133.add ((x9_1).toNat * 8)).off + 3, none⟩ = some (.int .i64 ((rd_T52 l0 x9_1).f2.f0)) ∧ w'.cell? ⟨(ad133.add ((x9_1).toNat * 8)).block, (ad133.add ((x9_1).toNat * 8)).off + 4, none⟩ = some (.int .i64 ((rd_T52 l0 x9_1).f2.f1)) ∧ w'.cell? ⟨(ad133.add ((x9_1).toNat * 8)).block, (ad133.add ((x9_1).toNat * 8)).off + 5, none⟩ = some (.int .i64 ((rd_T52 l0 x9_1).f3.f0)) ∧ w'.cell? ⟨(ad133.add ((x9_1).toNat * 8)).block, (ad133.add ((x9_1).toNat * 8)).off + 6, none⟩ = some (.int .i64 ((rd_T52 l0 x9_1).f3.f1)) ∧ w'.cell? ⟨(ad133.add ((x9_1).toNat * 8)).block, (ad133.add ((x9_1).toNat * 8)).off + 7, none⟩ = some (.int .i64 ((rd_T52 l0 x9_1).f4))) (ds := []) #[false, false, false, false, false, false, false, false, false, false, false] (by kernel_rfl) rfl rfl ⟨(blk_cell BK132.out 0).trans rfl, (blk_cell BK132.out 1).trans rfl, (vD HB hw133_0), (vD HB hw133_1), (vD HB hw133_2), (vD HB hw133_3), (vD HB hw133_4), (vD HB hw133_5), (vD HB hw133_6), (vD HB hw133_7)⟩ (fun hHeld => ?_); refine with_tabW bung_courses.tab5 bung_courses.bits5 (fun HT_ HW_ => ?_)
        generalize w13.drew = w14 at HO_3 HO_7 BK132 HB hx133_0 hx133_1 hx133_2 hx133_3 hx133_4 hx133_5 hx133_6 hx133_7 hHeld ⊢
        refine pure_ (i := 0) (N := some 14) (v := ?_) (a' := ?_) #[true, false, false, false, false, false, false, false, false, false, false] rfl rfl (any_of HT_.out (by kernel_rfl)) (fun _ _ _ h => h) (Or.inl ⟨by rfl, ?_⟩) ?_ ?_
        rotate_left
        ·intro w'
         go_simp
         with_reducible rfl
        rotate_left
        ·simp only [Act.put, pB, pC, pD, i64_w, i32_w]
         rfl
        refine pure_ (i := 2) (N := some 16) (v := ?_) (a' := ?_) #[true, false, true, false, false, false, false, false, false, false, false] rfl rfl (any_of HT_.out (by kernel_rfl)) (fun _ _ _ h => h) (Or.inl ⟨by rfl, ?_⟩) ?_ ?_
        rotate_left
        ·intro w'
         go_simp
         with_reducible rfl
        rotate_left
        ·simp only [Act.put, pB, pC, pD, i64_w, i32_w]
         rfl
        refine pure_ (i := 3) (N := some 17) (v := ?_) (a' := ?_) #[true, false, true, true, false, false, false, false, false, false, false] rfl rfl (any_of HT_.out (by kernel_rfl)) (fun _ _ _ h => h) (Or.inl ⟨by rfl, ?_⟩) ?_ ?_
        rotate_left
        ·intro w'
         go_simp
         with_reducible rfl
        rotate_left
        ·simp only [Act.put, pB, pC, pD, i64_w, i32_w]
         rfl
        refine pure_ (i := 4) (N := some 18) (v := ?_) (a' := ?_) #[true, false, true, true, true, false, false, false, false, false, false] rfl rfl (any_of HT_.out (by kernel_rfl)) (fun _ _ _ h => h) (Or.inl ⟨by rfl, ?_⟩) ?_ ?_
        rotate_left
        ·intro w'
         go_simp
         with_reducible rfl
        rotate_left
        ·simp only [Act.put, pB, pC, pD, i64_w, i32_w]
         rfl
        refine pure_ (i := 5) (N := some 19) (v := ?_) (a' := ?_) #[true, false, true, true, true, true, false, false, false, false, false] rfl rfl (any_of HT_.out (by kernel_rfl)) (fun _ _ _ h => h) (Or.inl ⟨by rfl, ?_⟩) ?_ ?_
        rotate_left
        ·intro w'
         go_simp
         with_reducible rfl
        rotate_left
        ·simp only [Act.put, pB, pC, pD, i64_w, i32_w]
         rfl
        refine take_ (i := 1) (N := some 15) (v := ?_) (a' := ?_) #[true, true, true, true, true, true, false, false, false, false, false] rfl rfl (take_ofW HT_.out HW_.out (by kernel_rfl)) (fun _ _ _ h => h) (Or.inl ⟨by rfl, ?_⟩) hHeld ?_ ?_
        rotate_left
        ·rintro w' ⟨s0, s1, s2, s3, s4, s5, s6, s7, s8, s9⟩
         go_simp
         with_reducible rfl
        rotate_left
        ·simp only [Act.put, pB, pC, pD, i64_w, i32_w]
         rfl
        refine take_ (i := 6) (N := some 20) (v := ?_) (a' := ?_) #[true, true, true, true, true, true, true, false, false, false, false] rfl rfl (take_ofW HT_.out HW_.out (by kernel_rfl)) (fun _ _ _ h => h) (Or.inl ⟨by rfl, ?_⟩) hHeld ?_ ?_
        rotate_left
        ·rintro w' ⟨s0, s1, s2, s3, s4, s5, s6, s7, s8, s9⟩
         go_simp
         with_reducible rfl
        rotate_left
        ·simp only [Act.put, pB, pC, pD, i64_w, i32_w]
         rfl
        refine one_ (i := 7) (N := some 21) #[true, true, true, true, true, true, true, true, false, false, false] rfl rfl (one_of HT_.out (by kernel_rfl)) (by decide) (fun K hK => ?_)
        refine goes_ Try.func128 (by kernel_rfl) rfl #[.agg #[.int .i64 ((rd_T23 t128 x9_1).f0), .int .i64 ((rd_T23 t128 x9_1).f1)], .agg #[.int .i64 ((rd_T52 l0 x9_1).f2.f0), .int .i64 ((rd_T52 l0 x9_1).f2.f1)]] (by rfl) rfl rfl (by (try simp only [List.map_toArray, List.map_cons, List.map_nil]); first | done | rfl | (simp only [List.length_drop, List.length_take]; rfl)) ?_
        with_reducible refine (bung_answer.calls ((rd_T23 t128 x9_1).f0) ((rd_T23 t128 x9_1).f1) ((rd_T52 l0 x9_1).f2.f0) ((rd_T52 l0 x9_1).f2.f1) t134 _ A9.out).mono ?_
        rintro e w15 ⟨rfl, hb⟩
        refine ⟨_, rfl, ?_⟩
        have n0_ := pA (Kd.R_below (vR HO_3) hb)
        have n1_ := pA (Kd.R_below (vR HO_7) hb)
        have n2_ := pA (blk_below (g := gb132) (o := .cells #[.int .i64 ((rd_T23 t128 x9_1).f0), .int .i64 ((rd_T23 t128 x9_1).f1)] 23 (0, 0)) (vK BK132) hb)
        have n3_ := pA (below_step (by repeat (first | (with_reducible first | exact HB.out | apply below_alloc | apply pw_below_drewN | apply below_drew1 | refine below_set ?_ GE132.out) | exact HB.out)) hb)
        clear HO_3
        clear HO_7
        clear BK132
        clear HB
        have HO_3 := n0_
        have HO_7 := n1_
        have BK132 := n2_
        have HB := n3_
        clear n0_ n1_ n2_ n3_
        (try clear hb)
        (try clear hb2)
        (try clear hk)
        (try clear hi)
        refine hK.out _ _ ⟨(blk_cell BK132.out 0).trans rfl, (blk_cell BK132.out 1).trans rfl, (vD HB hw133_0), (vD HB hw133_1), (vD HB hw133_2), (vD HB hw133_3), (vD HB hw133_4), (vD HB hw133_5), (vD HB hw133_6), (vD HB hw133_7)⟩ (fun hHeld => ?_)
        clear hK K
        refine norm_ (a' := ?_) ?_ ?_
        rotate_left
        ·show Act.put _ (some 21) _ = _
         simp only [Act.put, pB, pC, pD, i64_w, i32_w]
         rfl
        refine one_ (i := 8) (N := some 22) #[true, true, true, true, true, true, true, true, true, false, false] rfl rfl (one_of HT_.out (by kernel_rfl)) (by decide) (fun K hK => ?_)
        refine value_ (w1 := ?_) (v := ?_) (by rfl) rfl ?_ ?_
        rotate_left 2
        ·go_simp
         constructor
         ·rfl
         ·rfl
        refine hK.out _ _ ⟨(blk_cell (blk_alloc BK132.out _) 0).trans rfl, (blk_cell (blk_alloc BK132.out _) 1).trans rfl, (World.cell?_alloc_lt _ _ _ (World.block_lt_of_cell? _ _ ((vD HB hw133_0)))).trans ((vD HB hw133_0)), (World.cell?_alloc_lt _ _ _ (World.block_lt_of_cell? _ _ ((vD HB hw133_1)))).trans ((vD HB hw133_1)), (World.cell?_alloc_lt _ _ _ (World.block_lt_of_cell? _ _ ((vD HB hw133_2)))).trans ((vD HB hw133_2)), (World.cell?_alloc_lt _ _ _ (World.block_lt_of_cell? _ _ ((vD HB hw133_3)))).trans ((vD HB hw133_3)), (World.cell?_alloc_lt _ _ _ (World.block_lt_of_cell? _ _ ((vD HB hw133_4)))).trans ((vD HB hw133_4)), (World.cell?_alloc_lt _ _ _ (World.block_lt_of_cell? _ _ ((vD HB hw133_5)))).trans ((vD HB hw133_5)), (World.cell?_alloc_lt _ _ _ (World.block_lt_of_cell? _ _ ((vD HB hw133_6)))).trans ((vD HB hw133_6)), (World.cell?_alloc_lt _ _ _ (World.block_lt_of_cell? _ _ ((vD HB hw133_7)))).trans ((vD HB hw133_7))⟩ (fun hHeld => ?_)
        clear hK K
        refine norm_ (a' := ?_) ?_ ?_
        rotate_left
        ·show Act.put _ (some 22) _ = _
         simp only [Act.put, pB, pC, pD, i64_w, i32_w]
         rfl
        refine one_ (i := 9) (N := some 23) #[true, true, true, true, true, true, true, true, true, true, false] rfl rfl (one_of HT_.out (by kernel_rfl)) (by decide) (fun K hK => ?_)
        refine Kd.R_append_step (Kd.int .i64) (w0 := w) w.heap.size (by rfl) (.tmp 14) (.tmp 22) 38 3 (.int .i64 0) 8 rfl Try.underlying38 info3 rfl (by decide) (by omega) u3 x3_1 t134 [.int .i64 t134] (fun _ => True) (fun _ => False) rfl rfl ?aP (fun _ hk => hk.elim) ?aF ?aO ?aB ?aS ?aL ?_
        (case aP => exact rfl)
        (case aB => exact (by repeat (first | (with_reducible first | exact HB.out | apply below_alloc | apply pw_below_drewN | apply below_drew1 | refine below_set ?_ GE132.out) | exact HB.out)))
        (case aF => exact (fun _ _ => trivial))
        (case aO => exact (vR HO_3))
        (case aS => exact (below_size (by repeat (first | (with_reducible first | exact HB.out | apply below_alloc | apply pw_below_drewN | apply below_drew1 | refine below_set ?_ GE132.out) | exact HB.out))))
        (case aL => have := LMc10.out; omega)
        intro v136 w16 ho hb hg hat
        rw [← Ny135.out] at ho
        have n0_ := pA (Kd.R_over' (vR HO_7) (Kd.R_typed (vR HO_3)) (by decide) hg)
        have n1_ := pA (blk_grown (g := gb132) (o := .cells #[.int .i64 ((rd_T23 t128 x9_1).f0), .int .i64 ((rd_T23 t128 x9_1).f1)] 23 (0, 0)) (vK BK132) hg (Kd.R_ne HO_3.out BK132.out (by decide)))
        have n2_ := pA (hb)
        have n3_ := pA (ho)
        clear HO_7
        clear BK132
        clear HB
        clear HO_3
        have HO_7 := n0_
        have BK132 := n1_
        have HB := n2_
        have HO137 := n3_
        clear n0_ n1_ n2_ n3_
        clear ho hb hg hat
        refine hK.out _ _ ⟨(blk_cell BK132.out 0).trans rfl, (blk_cell BK132.out 1).trans rfl, (vD HB hw133_0), (vD HB hw133_1), (vD HB hw133_2), (vD HB hw133_3), (vD HB hw133_4), (vD HB hw133_5), (vD HB hw133_6), (vD HB hw133_7)⟩ (fun hHeld => ?_)
        clear hK K
        refine norm_ (a' := ?_) ?_ ?_
        rotate_left
        ·show Act.put _ (some 23) _ = _
         simp only [Act.put, pB, pC, pD, i64_w, i32_w]
         rfl
        refine pure_ (i := 10) (N := some 3) (v := ?_) (a' := ?_) #[true, true, true, true, true, true, true, true, true, true, true] rfl rfl (any_of HT_.out (by kernel_rfl)) (fun _ _ _ h => h) (Or.inl ⟨by rfl, ?_⟩) ?_ ?_
        rotate_left
        ·intro w'
         go_simp
         with_reducible rfl
        rotate_left
        ·simp only [Act.put, pB, pC, pD, i64_w, i32_w]
         rfl
        refine done_ (done_of HT_.out (by kernel_rfl)) ?_
        try go_wp2
        go_roundg k1
        case measure => have := HK1.out; omega
        case rel => exact ⟨(y135), (wrap64 (x9_1 + 1)), (by first | rfl | (simp; done) | (simp [*]; done)), H', ⟨by have := HK1.out; omega⟩, ⟨by (with_reducible repeat (first | apply Kd.R_alloc | apply Kd.R_drewN | apply Kd.R_drew)); exact HO137.out⟩, ⟨by (with_reducible repeat (first | apply Kd.R_alloc | apply Kd.R_drewN | apply Kd.R_drew)); exact Kd.R_mono HO_7.out (fun _ hk => trivial)⟩, ⟨by repeat (first | (with_reducible first | exact HB.out | apply below_alloc | apply pw_below_drewN | apply below_drew1 | refine below_set ?_ GE132.out) | exact HB.out)⟩⟩
       ·rw [if_neg c10] at H
        exact absurd H (by simp)
      ·rw [if_neg c8] at H
       exact absurd H (by simp)
     ·rw [if_neg c7] at H
      exact absurd H (by simp)
    ·rw [if_neg c6] at H
     exact absurd H (by simp)
   ·rw [if_neg c5] at H
    have c5b0 : decide (x9_1 < (t128.length : Int)) = false := decide_eq_false c5
    clear c5
    obtain rfl := Option.some.inj H
    go_wp2
    go_ret
    exact ⟨_, by first | rfl | (simp [errW_none, errW_some] <;> rfl) | (simp [*, errW_none, errW_some] <;> rfl), by (with_reducible repeat (first | apply Kd.R_alloc | apply Kd.R_drewN | apply Kd.R_drew)); exact HO_3.out, by repeat (first | (with_reducible first | exact HB.out | apply below_alloc | apply pw_below_drewN | apply below_drew1) | exact HB.out)⟩
def bung_height.l0 : Nat → List (S23) → List (S52) → Int → Int → Int → Int → List (S52) → Option (Int × Int)
  | 0, _, _, _, _, _, _, _ => none
  | k + 1, x3, x7, x8, x9, x139000, x139001, x139002 => if x9 < x8 then (if 0 ≤ x9 then (if x9 < (x7.length : Int) then (if x9 > 0 then (if x3.length < 8796093022208 then ((some (x3 ++ [(⟨x139000, x139001⟩ : S23)] : List (S23))).bind fun y142 => (if y142.length < 8796093022208 then (bung_height.l0 k (y142 ++ [(⟨(rd_T52 x7 x9).f3.f0, (rd_T52 x7 x9).f3.f1⟩ : S23)]) x7 x8 (wrap64 (x9 + 1)) x139000 x139001 x139002) else (none))) else (none)) else (if x3.length < 8796093022208 then (bung_height.l0 k (x3 ++ [(⟨(rd_T52 x7 x9).f3.f0, (rd_T52 x7 x9).f3.f1⟩ : S23)]) x7 x8 (wrap64 (x9 + 1)) x139000 x139001 x139002) else (none))) else (none)) else (none)) else ((bung_sum.f k x3).bind fun bt151 => (some (bt151.1, bt151.2)))
def bung_height.f (k : Nat) (a0_0 : Int) (a0_1 : Int) (l0_2 : List (S52)) : Option (Int × Int) := bung_height.l0 k ([] : List (S23)) l0_2 (l0_2.length : Int) 0 a0_0 a0_1 l0_2
theorem bung_height.mono_l : ∀ k, (∀ y0 y1 y2 y3 y4 y5 y6, LeO (bung_height.l0 k y0 y1 y2 y3 y4 y5 y6) (bung_height.l0 (k + 1) y0 y1 y2 y3 y4 y5 y6))
 | 0 => fun _ _ _ _ _ _ _ r h => by simp [bung_height.l0] at h
 | k + 1 => by
  have ih0 := bung_height.mono_l k
  ·intro y0 y1 y2 y3 y4 y5 y6
   unfold bung_height.l0
   repeat' first
   | (with_reducible exact ih0 _ _ _ _ _ _ _)
   | (with_reducible exact bung_sum.mono _ _)
   | (with_reducible exact LeO.refl _)
   | (with_reducible exact LeO.none _)
   | (with_reducible refine LeO.ite ?_ ?_)
   | (with_reducible refine LeO.bind ?_ (fun _ => ?_))
   | exact ih0 _ _ _ _ _ _ _
   | exact bung_sum.mono _ _
   | exact LeO.none _
   | refine LeO.ite ?_ ?_
   | refine LeO.bind ?_ (fun _ => ?_)
theorem bung_height.mono : ∀ a0 a1 a2 k, LeO (bung_height.f k a0 a1 a2) (bung_height.f (k + 1) a0 a1 a2) := by
 intro a0 a1 a2 k
 have ih0 := bung_height.mono_l k
 unfold bung_height.f
 repeat' first
   | (with_reducible exact ih0 _ _ _ _ _ _ _)
   | (with_reducible exact bung_sum.mono _ _)
   | (with_reducible exact LeO.refl _)
   | (with_reducible exact LeO.none _)
   | (with_reducible refine LeO.ite ?_ ?_)
   | (with_reducible refine LeO.bind ?_ (fun _ => ?_))
   | exact ih0 _ _ _ _ _ _ _
   | exact bung_sum.mono _ _
   | exact LeO.none _
   | refine LeO.ite ?_ ?_
   | refine LeO.bind ?_ (fun _ => ?_)
set_option maxHeartbeats 8000000 in
set_option maxRecDepth 100000 in
theorem bung_height.calls (k : Nat) (a0_0 : Int) (a0_1 : Int) (A0_2 : Option Addr) (c0_2 : Nat) (l0_2 : List (S52)) (r1 : Int) (r2 : Int) (w : World) (hr0_2 : Kd.C k52 w A0_2 l0_2.length l0_2) (hc0_2 : l0_2.length ≤ c0_2) (h : bung_height.f k a0_0 a0_1 l0_2 = some (r1, r2)) :
  Calls Try.prog 83 #[.agg #[.int .i64 a0_0, .int .i64 a0_1, .slice A0_2 l0_2.length c0_2]] w fun e w' => e = .returned (.agg #[.int .i64 r1, .int .i64 r2]) ∧ Below w.heap.size w w' := by
 have hu43 := Try.underlying43
 have hu23 := Try.underlying23
 have hu52 := Try.underlying52
 have HR0_2 := pA hr0_2
 have HC0_2 := pA hc0_2
 clear hr0_2 hc0_2
 have HB := pA (Below.refl w.heap.size w)
 have H : (bung_height.l0 k ([] : List (S23)) l0_2 (l0_2.length : Int) 0 a0_0 a0_1 l0_2) = some (r1, r2) := h
 clear h
 have H' := pA H
 clear H
 go_enter Try.func83, Try.ntmps83
 go_wp2_with (first | ((with_reducible refine gate_dst (N := 1) rfl ?_); refine box_event ?hg (N := 1) ?hd (cs := #[.int .i64 a0_0, .int .i64 a0_1, .slice A0_2 l0_2.length c0_2]) (t := 43) ?hr ?_; (case hd => rfl); (case hg => rfl); (case hr => first | (go_simp; done) | (go_simp; rfl)); intro gb138 hg w2 hbox hb; have n0_ := pA (below_step (vB HB) hb); have n1_ := pA (hbox); have n2_ := pA ((by rw [hg]; exact (below_size (vB HB)) : w.heap.size ≤ gb138)); have n3_ := pA ((by rw [hg]; exact (below_size (vB HB)) : w.heap.size ≤ gb138)); clear HB; have HB := n0_; have BK138 := n1_; have GW138 := n2_; have GE138 := n3_; clear n0_ n1_ n2_ n3_; clear hb hbox hg) | ((with_reducible refine gate_dst (N := 2) rfl ?_); refine box_event ?hg (N := 2) ?hd (cs := #[.int .i64 0, .int .i64 0]) (t := 23) ?hr ?_; (case hd => rfl); (case hg => rfl); (case hr => first | (go_simp; done) | (go_simp; rfl)); intro gb139 hg w3 hbox hb; have n0_ := pA (blk_below (g := gb138) (o := .cells #[.int .i64 a0_0, .int .i64 a0_1, .slice A0_2 l0_2.length c0_2] 43 (0, 0)) (vK BK138) hb); have n1_ := pA (below_step (by repeat (first | (with_reducible first | exact HB.out | apply below_alloc | apply pw_below_drewN | apply below_drew1 | refine below_set ?_ GE138.out) | exact HB.out)) hb); have n2_ := pA (hbox); have n3_ := pA ((by rw [hg]; exact (below_size (by repeat (first | (with_reducible first | exact HB.out | apply below_alloc | apply pw_below_drewN | apply below_drew1 | refine below_set ?_ GE138.out) | exact HB.out))) : w.heap.size ≤ gb139)); have n4_ := pA ((by rw [hg]; exact (below_size (by repeat (first | (with_reducible first | exact HB.out | apply below_alloc | apply pw_below_drewN | apply below_drew1 | refine below_set ?_ GE138.out) | exact HB.out))) : w.heap.size ≤ gb139)); have n5_ := pA ((by rw [hg]; exact Nat.ne_of_lt (blk_lt (g := gb138) (o := .cells #[.int .i64 a0_0, .int .i64 a0_1, .slice A0_2 l0_2.length c0_2] 43 (0, 0)) (vK BK138)) : gb138 ≠ gb139)); have n6_ := pA ((by rw [hg]; exact Nat.ne_of_gt (blk_lt (g := gb138) (o := .cells #[.int .i64 a0_0, .int .i64 a0_1, .slice A0_2 l0_2.length c0_2] 43 (0, 0)) (vK BK138)) : gb139 ≠ gb138)); clear BK138; clear HB; have BK138 := n0_; have HB := n1_; have BK139 := n2_; have GW139 := n3_; have GE139 := n4_; have NB138_139 := n5_; have NB139_138 := n6_; clear n0_ n1_ n2_ n3_ n4_ n5_ n6_; clear hb hbox hg; have hnb4 := NB138_139.out; have hnc4 := NB139_138.out; have hcz5_0 : w3.cell? ⟨gb138, 0, none⟩ = some (.int .i64 a0_0) := (blk_cell BK138.out 0).trans rfl; have hcz5_1 : w3.cell? ⟨gb138, 1, none⟩ = some (.int .i64 a0_1) := (blk_cell BK138.out 1).trans rfl; have hcz5_2 : w3.cell? ⟨gb138, 2, none⟩ = some (.slice A0_2 l0_2.length c0_2) := (blk_cell BK138.out 2).trans rfl; have hfz5_0 := blk_frozen BK138.out 0; have hfz5_1 := blk_frozen BK138.out 1; have hfz5_2 := blk_frozen BK138.out 2))
 go_loopg [3, 9] k (fun kq v3 v9 w' => ∃ (x3_1 : List (S23)) (x9_1 : Int), v9 = .int .i64 x9_1 ∧ Aside0 (bung_height.l0 kq x3_1 l0_2 (l0_2.length : Int) x9_1 a0_0 a0_1 l0_2 = some (r1, r2)) ∧ Aside0 (kq ≤ k) ∧ Aside0 (Kd.R k23 23 w' w.heap.size (fun k_ => k_ ≠ gb139) v3 x3_1) ∧ Aside0 (w'.heap[gb138]? = some (.cells #[.int .i64 a0_0, .int .i64 a0_1, (.slice A0_2 l0_2.length c0_2)] 43 (0, 0))) ∧ Aside0 (w'.heap[gb139]? = some (.cells #[.int .i64 0, .int .i64 0] 23 (0, 0))) ∧ Aside0 (Below w.heap.size w w'))
 case atStart => exact ⟨(([] : List (S23))), (0), (by first | rfl | (simp; done) | (simp [*]; done)), H', ⟨Nat.le_refl _⟩, ⟨by first | exact Kd.R_nil _ _ _ _ _ | exact Kd.N_nil _ _ _ _ _ | exact Kd.V_nil _ _ _ _ _ | exact Kd.Q_nil _ _ _ _ _ | exact Kd.S_nil _ _ _ _ _⟩, ⟨by (with_reducible repeat (first | refine blk_drewN ?_ _ | refine blk_drew ?_ | refine blk_alloc ?_ _)); exact BK138.out⟩, ⟨by (with_reducible repeat (first | refine blk_drewN ?_ _ | refine blk_drew ?_ | refine blk_alloc ?_ _)); exact BK139.out⟩, ⟨by repeat (first | (with_reducible first | exact HB.out | apply below_alloc | apply pw_below_drewN | apply below_drew1 | refine below_set ?_ GE138.out | refine below_set ?_ GE139.out) | exact HB.out)⟩⟩
 case round =>
  clear H'
  try clear p2
  try clear c4
  try clear hcz5_0
  try clear hcz5_1
  try clear hcz5_2
  try clear hfz5_0
  try clear hfz5_1
  try clear hfz5_2
  obtain ⟨x3_1, x9_1, rfl, HA, HK1, HO_3, BK138, BK139, HB⟩ := hrel
  cases gk with
  | zero => exact absurd HA.out (by simp [bung_height.l0])
  | succ k1 =>
   have H := HA.out
   clear HA
   simp only [bung_height.l0] at H
   by_cases c6 : x9_1 < (l0_2.length : Int)
   ·rw [if_pos c6] at H
    have c6b0 : decide (x9_1 < (l0_2.length : Int)) = true := decide_eq_true c6
    clear c6
    by_cases c7 : 0 ≤ x9_1
    ·rw [if_pos c7] at H
     have c7b0 : decide (0 ≤ x9_1) = true := decide_eq_true c7
     clear c7
     by_cases c8 : x9_1 < (l0_2.length : Int)
     ·rw [if_pos c8] at H
      have c8b0 : decide (x9_1 < (l0_2.length : Int)) = true := decide_eq_true c8
      clear c8
      by_cases c9 : x9_1 > 0
      ·rw [if_pos c9] at H
       have c9b0 : decide (0 < x9_1) = true := decide_eq_true c9
       clear c9
       by_cases c10 : x3_1.length < 8796093022208
       ·rw [if_pos c10] at H
        have LMc10 := pA c10
        clear c10
        obtain ⟨y142, hy142⟩ : ∃ y_ : List (S23), y_ = (x3_1 ++ [(⟨a0_0, a0_1⟩ : S23)]) := ⟨_, rfl⟩
        replace H : (if y142.length < 8796093022208 then (bung_height.l0 k1 (y142 ++ [(⟨(rd_T52 l0_2 x9_1).f3.f0, (rd_T52 l0_2 x9_1).f3.f1⟩ : S23)]) l0_2 (l0_2.length : Int) (wrap64 (x9_1 + 1)) a0_0 a0_1 l0_2) else (none)) = some (r1, r2) := by first | (rw [hy142]; with_reducible exact H) | (have H2_ := (Option.bind_some _ _).symm.trans H; rw [hy142]; with_reducible exact H2_) | (have H2_ := (Option.bind_some _ _).symm.trans H; with_reducible exact H2_) | with_reducible exact H | (rw [hy142]; exact H) | exact H
        have Ny142 := pA hy142
        clear hy142
        by_cases c11 : y142.length < 8796093022208
        ·rw [if_pos c11] at H
         have LMc11 := pA c11
         clear c11
         obtain ⟨y145, hy145⟩ : ∃ y_ : List (S23), y_ = (y142 ++ [(⟨(rd_T52 l0_2 x9_1).f3.f0, (rd_T52 l0_2 x9_1).f3.f1⟩ : S23)]) := ⟨_, rfl⟩
         replace H : (bung_height.l0 k1 y145 l0_2 (l0_2.length : Int) (wrap64 (x9_1 + 1)) a0_0 a0_1 l0_2) = some (r1, r2) := by first | (rw [hy145]; with_reducible exact H) | (have H2_ := (Option.bind_some _ _).symm.trans H; rw [hy145]; with_reducible exact H2_) | (have H2_ := (Option.bind_some _ _).symm.trans H; with_reducible exact H2_) | with_reducible exact H | (rw [hy145]; exact H) | exact H
         have Ny145 := pA hy145
         clear hy145
         have H' := pA H
         clear H
         have p140 : 0 ≤ (x9_1 : Int) := of_decide_eq_true (by first | (with_reducible assumption) | assumption)
         have q140 : x9_1 < (l0_2.length : Int) := of_decide_eq_true (by first | (with_reducible assumption) | assumption)
         obtain ⟨ad140, e140, hx140_0, hx140_1, hx140_2, hx140_3, hx140_4, hx140_5, hx140_6, hx140_7⟩ := at_T52 HR0_2.out x9_1 p140 q140
         cases e140
         replace hx140_0 := vC HB hx140_0
         replace hx140_1 := vC HB hx140_1
         replace hx140_2 := vC HB hx140_2
         replace hx140_3 := vC HB hx140_3
         replace hx140_4 := vC HB hx140_4
         replace hx140_5 := vC HB hx140_5
         replace hx140_6 := vC HB hx140_6
         replace hx140_7 := vC HB hx140_7
         replace p140 := eq_true p140
         replace q140 := eq_true q140
         go_wp2_with (first | ((with_reducible refine gate_dst (N := 5) rfl ?_); refine box_event ?hg (N := 5) ?hd (cs := #[.int .i64 0, .int .i64 0, .int .i64 0, .int .i64 0, .int .i64 0, .int .i64 0, .int .i64 0, .int .i64 0]) (t := 52) ?hr ?_; (case hd => rfl); (case hg => rfl); (case hr => first | (go_simp; done) | (go_simp; rfl)); intro gb141 hg w12 hbox hb; have n0_ := pA (Kd.R_below (vR HO_3) hb); have n1_ := pA (blk_below (g := gb138) (o := .cells #[.int .i64 a0_0, .int .i64 a0_1, .slice (some ad140) l0_2.length c0_2] 43 (0, 0)) (vK BK138) hb); have n2_ := pA (blk_below (g := gb139) (o := .cells #[.int .i64 0, .int .i64 0] 23 (0, 0)) (vK BK139) hb); have n3_ := pA (below_step (by repeat (first | (with_reducible first | exact HB.out | apply below_alloc | apply pw_below_drewN | apply below_drew1 | refine below_set ?_ GE138.out | refine below_set ?_ GE139.out) | exact HB.out)) hb); have n4_ := pA (hbox); have n5_ := pA ((by rw [hg]; exact (below_size (by repeat (first | (with_reducible first | exact HB.out | apply below_alloc | apply pw_below_drewN | apply below_drew1 | refine below_set ?_ GE138.out | refine below_set ?_ GE139.out) | exact HB.out))) : w.heap.size ≤ gb141)); have n6_ := pA ((by rw [hg]; exact (below_size (by repeat (first | (with_reducible first | exact HB.out | apply below_alloc | apply pw_below_drewN | apply below_drew1 | refine below_set ?_ GE138.out | refine below_set ?_ GE139.out) | exact HB.out))) : w.heap.size ≤ gb141)); have n7_ := pA ((by rw [hg]; exact Nat.ne_of_lt (blk_lt (g := gb138) (o := .cells #[.int .i64 a0_0, .int .i64 a0_1, .slice (some ad140) l0_2.length c0_2] 43 (0, 0)) (vK BK138)) : gb138 ≠ gb141)); have n8_ := pA ((by rw [hg]; exact Nat.ne_of_gt (blk_lt (g := gb138) (o := .cells #[.int .i64 a0_0, .int .i64 a0_1, .slice (some ad140) l0_2.length c0_2] 43 (0, 0)) (vK BK138)) : gb141 ≠ gb138)); have n9_ := pA ((by rw [hg]; exact Nat.ne_of_lt (blk_lt (g := gb139) (o := .cells #[.int .i64 0, .int .i64 0] 23 (0, 0)) (vK BK139)) : gb139 ≠ gb141)); have n10_ := pA ((by rw [hg]; exact Nat.ne_of_gt (blk_lt (g := gb139) (o := .cells #[.int .i64 0, .int .i64 0] 23 (0, 0)) (vK BK139)) : gb141 ≠ gb139)); clear HO_3; clear BK138; clear BK139; clear HB; have HO_3 := n0_; have BK138 := n1_; have BK139 := n2_; have HB := n3_; have BK141 := n4_; have GW141 := n5_; have GE141 := n6_; have NB138_141 := n7_; have NB141_138 := n8_; have NB139_141 := n9_; have NB141_139 := n10_; clear n0_ n1_ n2_ n3_ n4_ n5_ n6_ n7_ n8_ n9_ n10_; clear hb hbox hg; have hnb13 := NB141_138.out; have hnc13 := NB138_141.out; have hnb14 := NB141_139.out; have hnc14 := NB139_141.out; have hcz15_0 : w12.cell? ⟨gb141, 0, none⟩ = some (.int .i64 0) := (blk_cell BK141.out 0).trans rfl; have hcz15_1 : w12.cell? ⟨gb141, 1, none⟩ = some (.int .i64 0) := (blk_cell BK141.out 1).trans rfl; have hcz15_2 : w12.cell? ⟨gb141, 2, none⟩ = some (.int .i64 0) := (blk_cell BK141.out 2).trans rfl; have hcz15_3 : w12.cell? ⟨gb141, 3, none⟩ = some (.int .i64 0) := (blk_cell BK141.out 3).trans rfl; have hcz15_4 : w12.cell? ⟨gb141, 4, none⟩ = some (.int .i64 0) := (blk_cell BK141.out 4).trans rfl; have hcz15_5 : w12.cell? ⟨gb141, 5, none⟩ = some (.int .i64 0) := (blk_cell BK141.out 5).trans rfl; have hcz15_6 : w12.cell? ⟨gb141, 6, none⟩ = some (.int .i64 0) := (blk_cell BK141.out 6).trans rfl; have hcz15_7 : w12.cell? ⟨gb141, 7, none⟩ = some (.int .i64 0) := (blk_cell BK141.out 7).trans rfl; have hfz15_0 := blk_frozen BK141.out 0; have hfz15_1 := blk_frozen BK141.out 1; have hfz15_2 := blk_frozen BK141.out 2; have hfz15_3 := blk_frozen BK141.out 3; have hfz15_4 := blk_frozen BK141.out 4; have hfz15_5 := blk_frozen BK141.out 5; have hfz15_6 := blk_frozen BK141.out 6; have hfz15_7 := blk_frozen BK141.out 7; have hnb16 := NB138_139.out; have hnc16 := NB139_138.out; have hcz17_0 : w12.cell? ⟨gb138, 0, none⟩ = some (.int .i64 a0_0) := (blk_cell BK138.out 0).trans rfl; have hcz17_1 : w12.cell? ⟨gb138, 1, none⟩ = some (.int .i64 a0_1) := (blk_cell BK138.out 1).trans rfl; have hcz17_2 : w12.cell? ⟨gb138, 2, none⟩ = some (.slice (some ad140) l0_2.length c0_2) := (blk_cell BK138.out 2).trans rfl; have hfz17_0 := blk_frozen BK138.out 0; have hfz17_1 := blk_frozen BK138.out 1; have hfz17_2 := blk_frozen BK138.out 2) | ((with_reducible refine gate_builtin (b := .append) (xs := #[.tmp 16, .tmp 19]) rfl ?_); at_builtin; refine Kd.R_append k23 (w0 := w) w.heap.size rfl (.tmp 16) (.tmp 19) 57 23 (.agg #[(.int .i64 0), (.int .i64 0)]) 16 rfl Try.underlying57 info23 rfl (by decide) (by omega) u3 x3_1 (⟨a0_0, a0_1⟩ : S23) [.int .i64 a0_0, .int .i64 a0_1] (fun k_ => k_ ≠ gb139) (fun _ => False) rfl (by first | (go_simp; done) | (go_simp; rfl)) ?aP (fun _ hk => hk.elim) ?aF ?aO ?aB ?aS ?aL ?_; (case aP => exact k23_mkM _ _ _ (⟨a0_0, a0_1⟩ : S23)); (case aB => exact (by repeat (first | (with_reducible first | exact HB.out | apply below_alloc | apply pw_below_drewN | apply below_drew1 | refine below_set ?_ GE138.out | refine below_set ?_ GE139.out | refine below_set ?_ GE141.out) | exact HB.out))); (case aF => exact (fun k_ hk => Kd.freshB (g := gb139) (o := .cells #[.int .i64 0, .int .i64 0] 23 (0, 0)) (by (with_reducible repeat (first | refine blk_drewN ?_ _ | refine blk_drew ?_ | refine blk_alloc ?_ _)); refine blk_far ?_ NB139_141.out _; (with_reducible repeat (first | refine blk_drewN ?_ _ | refine blk_drew ?_ | refine blk_alloc ?_ _)); refine blk_far ?_ NB139_141.out _; (with_reducible repeat (first | refine blk_drewN ?_ _ | refine blk_drew ?_ | refine blk_alloc ?_ _)); refine blk_far ?_ NB139_141.out _; (with_reducible repeat (first | refine blk_drewN ?_ _ | refine blk_drew ?_ | refine blk_alloc ?_ _)); refine blk_far ?_ NB139_141.out _; (with_reducible repeat (first | refine blk_drewN ?_ _ | refine blk_drew ?_ | refine blk_alloc ?_ _)); refine blk_far ?_ NB139_141.out _; (with_reducible repeat (first | refine blk_drewN ?_ _ | refine blk_drew ?_ | refine blk_alloc ?_ _)); refine blk_far ?_ NB139_141.out _; (with_reducible repeat (first | refine blk_drewN ?_ _ | refine blk_drew ?_ | refine blk_alloc ?_ _)); refine blk_far ?_ NB139_141.out _; (with_reducible repeat (first | refine blk_drewN ?_ _ | refine blk_drew ?_ | refine blk_alloc ?_ _)); refine blk_far ?_ NB139_141.out _; (with_reducible repeat (first | refine blk_drewN ?_ _ | refine blk_drew ?_ | refine blk_alloc ?_ _)); exact BK139.out) k_ hk)); (case aO => exact (by (with_reducible repeat (first | apply Kd.R_alloc | apply Kd.R_drewN | apply Kd.R_drew)); exact Kd.R_mono (Kd.R_far (p := ⟨gb141, 7, none⟩) (Kd.R_far (p := ⟨gb141, 6, none⟩) (Kd.R_far (p := ⟨gb141, 5, none⟩) (Kd.R_far (p := ⟨gb141, 4, none⟩) (Kd.R_far (p := ⟨gb141, 3, none⟩) (Kd.R_far (p := ⟨gb141, 2, none⟩) (Kd.R_far (p := ⟨gb141, 1, none⟩) (Kd.R_far (p := ⟨gb141, 0, none⟩) (Kd.R_types HO_3.out BK141.out (by decide)) (fun _ hk => hk.2) (.int .i64 ((rd_T52 l0_2 x9_1).f0))) (fun _ hk => hk.2) (.int .i64 ((rd_T52 l0_2 x9_1).f1.f0))) (fun _ hk => hk.2) (.int .i64 ((rd_T52 l0_2 x9_1).f1.f1))) (fun _ hk => hk.2) (.int .i64 ((rd_T52 l0_2 x9_1).f2.f0))) (fun _ hk => hk.2) (.int .i64 ((rd_T52 l0_2 x9_1).f2.f1))) (fun _ hk => hk.2) (.int .i64 ((rd_T52 l0_2 x9_1).f3.f0))) (fun _ hk => hk.2) (.int .i64 ((rd_T52 l0_2 x9_1).f3.f1))) (fun _ hk => hk.2) (.int .i64 ((rd_T52 l0_2 x9_1).f4))) (fun _ hk => hk.1))); (case aS => exact (below_size (by repeat (first | (with_reducible first | exact HB.out | apply below_alloc | apply pw_below_drewN | apply below_drew1 | refine below_set ?_ GE138.out | refine below_set ?_ GE139.out | refine below_set ?_ GE141.out) | exact HB.out)))); (case aL => have := LMc10.out; omega); intro v143 w18 ho hb hg hat; rw [← Ny142.out] at ho; have n0_ := pA (blk_grown (g := gb138) (o := .cells #[.int .i64 a0_0, .int .i64 a0_1, .slice (some ad140) l0_2.length c0_2] 43 (0, 0)) (by (with_reducible repeat (first | refine blk_drewN ?_ _ | refine blk_drew ?_ | refine blk_alloc ?_ _)); refine blk_far ?_ NB138_141.out _; (with_reducible repeat (first | refine blk_drewN ?_ _ | refine blk_drew ?_ | refine blk_alloc ?_ _)); refine blk_far ?_ NB138_141.out _; (with_reducible repeat (first | refine blk_drewN ?_ _ | refine blk_drew ?_ | refine blk_alloc ?_ _)); refine blk_far ?_ NB138_141.out _; (with_reducible repeat (first | refine blk_drewN ?_ _ | refine blk_drew ?_ | refine blk_alloc ?_ _)); refine blk_far ?_ NB138_141.out _; (with_reducible repeat (first | refine blk_drewN ?_ _ | refine blk_drew ?_ | refine blk_alloc ?_ _)); refine blk_far ?_ NB138_141.out _; (with_reducible repeat (first | refine blk_drewN ?_ _ | refine blk_drew ?_ | refine blk_alloc ?_ _)); refine blk_far ?_ NB138_141.out _; (with_reducible repeat (first | refine blk_drewN ?_ _ | refine blk_drew ?_ | refine blk_alloc ?_ _)); refine blk_far ?_ NB138_141.out _; (with_reducible repeat (first | refine blk_drewN ?_ _ | refine blk_drew ?_ | refine blk_alloc ?_ _)); refine blk_far ?_ NB138_141.out _; (with_reducible repeat (first | refine blk_drewN ?_ _ | refine blk_drew ?_ | refine blk_alloc ?_ _)); exact BK138.out) hg (Kd.R_ne HO_3.out BK138.out (by decide))); have n1_ := pA (blk_grown (g := gb139) (o := .cells #[.int .i64 0, .int .i64 0] 23 (0, 0)) (by (with_reducible repeat (first | refine blk_drewN ?_ _ | refine blk_drew ?_ | refine blk_alloc ?_ _)); refine blk_far ?_ NB139_141.out _; (with_reducible repeat (first | refine blk_drewN ?_ _ | refine blk_drew ?_ | refine blk_alloc ?_ _)); refine blk_far ?_ NB139_141.out _; (with_reducible repeat (first | refine blk_drewN ?_ _ | refine blk_drew ?_ | refine blk_alloc ?_ _)); refine blk_far ?_ NB139_141.out _; (with_reducible repeat (first | refine blk_drewN ?_ _ | refine blk_drew ?_ | refine blk_alloc ?_ _)); refine blk_far ?_ NB139_141.out _; (with_reducible repeat (first | refine blk_drewN ?_ _ | refine blk_drew ?_ | refine blk_alloc ?_ _)); refine blk_far ?_ NB139_141.out _; (with_reducible repeat (first | refine blk_drewN ?_ _ | refine blk_drew ?_ | refine blk_alloc ?_ _)); refine blk_far ?_ NB139_141.out _; (with_reducible repeat (first | refine blk_drewN ?_ _ | refine blk_drew ?_ | refine blk_alloc ?_ _)); refine blk_far ?_ NB139_141.out _; (with_reducible repeat (first | refine blk_drewN ?_ _ | refine blk_drew ?_ | refine blk_alloc ?_ _)); refine blk_far ?_ NB139_141.out _; (with_reducible repeat (first | refine blk_drewN ?_ _ | refine blk_drew ?_ | refine blk_alloc ?_ _)); exact BK139.out) hg (Kd.R_away HO_3.out (fun _ hk => hk))); have n2_ := pA (blk_grown (g := gb141) (o := .cells #[.int .i64 ((rd_T52 l0_2 x9_1).f0), .int .i64 ((rd_T52 l0_2 x9_1).f1.f0), .int .i64 ((rd_T52 l0_2 x9_1).f1.f1), .int .i64 ((rd_T52 l0_2 x9_1).f2.f0), .int .i64 ((rd_T52 l0_2 x9_1).f2.f1), .int .i64 ((rd_T52 l0_2 x9_1).f3.f0), .int .i64 ((rd_T52 l0_2 x9_1).f3.f1), .int .i64 ((rd_T52 l0_2 x9_1).f4)] 52 (0, 0)) (by (with_reducible repeat (first | refine blk_drewN ?_ _ | refine blk_drew ?_ | refine blk_alloc ?_ _)); refine blk_put (cs := #[.int .i64 ((rd_T52 l0_2 x9_1).f0), .int .i64 ((rd_T52 l0_2 x9_1).f1.f0), .int .i64 ((rd_T52 l0_2 x9_1).f1.f1), .int .i64 ((rd_T52 l0_2 x9_1).f2.f0), .int .i64 ((rd_T52 l0_2 x9_1).f2.f1), .int .i64 ((rd_T52 l0_2 x9_1).f3.f0), .int .i64 ((rd_T52 l0_2 x9_1).f3.f1), .int .i64 0]) ?_ 7 _ rfl; (with_reducible repeat (first | refine blk_drewN ?_ _ | refine blk_drew ?_ | refine blk_alloc ?_ _)); refine blk_put (cs := #[.int .i64 ((rd_T52 l0_2 x9_1).f0), .int .i64 ((rd_T52 l0_2 x9_1).f1.f0), .int .i64 ((rd_T52 l0_2 x9_1).f1.f1), .int .i64 ((rd_T52 l0_2 x9_1).f2.f0), .int .i64 ((rd_T52 l0_2 x9_1).f2.f1), .int .i64 ((rd_T52 l0_2 x9_1).f3.f0), .int .i64 0, .int .i64 0]) ?_ 6 _ rfl; (with_reducible repeat (first | refine blk_drewN ?_ _ | refine blk_drew ?_ | refine blk_alloc ?_ _)); refine blk_put (cs := #[.int .i64 ((rd_T52 l0_2 x9_1).f0), .int .i64 ((rd_T52 l0_2 x9_1).f1.f0), .int .i64 ((rd_T52 l0_2 x9_1).f1.f1), .int .i64 ((rd_T52 l0_2 x9_1).f2.f0), .int .i64 ((rd_T52 l0_2 x9_1).f2.f1), .int .i64 0, .int .i64 0, .int .i64 0]) ?_ 5 _ rfl; (with_reducible repeat (first | refine blk_drewN ?_ _ | refine blk_drew ?_ | refine blk_alloc ?_ _)); refine blk_put (cs := #[.int .i64 ((rd_T52 l0_2 x9_1).f0), .int .i64 ((rd_T52 l0_2 x9_1).f1.f0), .int .i64 ((rd_T52 l0_2 x9_1).f1.f1), .int .i64 ((rd_T52 l0_2 x9_1).f2.f0), .int .i64 0, .int .i64 0, .int .i64 0, .int .i64 0]) ?_ 4 _ rfl; (with_reducible repeat (first | refine blk_drewN ?_ _ | refine blk_drew ?_ | refine blk_alloc ?_ _)); refine blk_put (cs := #[.int .i64 ((rd_T52 l0_2 x9_1).f0), .int .i64 ((rd_T52 l0_2 x9_1).f1.f0), .int .i64 ((rd_T52 l0_2 x9_1).f1.f1), .int .i64 0, .int .i64 0, .int .i64 0, .int .i64 0, .int .i64 0]) ?_ 3 _ rfl; (with_reducible repeat (first | refine blk_drewN ?_ _ | refine blk_drew ?_ | refine blk_alloc ?_ _)); refine blk_put (cs := #[.int .i64 ((rd_T52 l0_2 x9_1).f0), .int .i64 ((rd_T52 l0_2 x9_1).f1.f0), .int .i64 0, .int .i64 0, .int .i64 0, .int .i64 0, .int .i64 0, .int .i64 0]) ?_ 2 _ rfl; (with_reducible repeat (first | refine blk_drewN ?_ _ | refine blk_drew ?_ | refine blk_alloc ?_ _)); refine blk_put (cs := #[.int .i64 ((rd_T52 l0_2 x9_1).f0), .int .i64 0, .int .i64 0, .int .i64 0, .int .i64 0, .int .i64 0, .int .i64 0, .int .i64 0]) ?_ 1 _ rfl; (with_reducible repeat (first | refine blk_drewN ?_ _ | refine blk_drew ?_ | refine blk_alloc ?_ _)); refine blk_put (cs := #[.int .i64 0, .int .i64 0, .int .i64 0, .int .i64 0, .int .i64 0, .int .i64 0, .int .i64 0, .int .i64 0]) ?_ 0 _ rfl; (with_reducible repeat (first | refine blk_drewN ?_ _ | refine blk_drew ?_ | refine blk_alloc ?_ _)); exact BK141.out) hg (Kd.R_ne HO_3.out BK141.out (by decide))); have n3_ := pA (hb); have n4_ := pA (ho); clear BK138; clear BK139; clear BK141; clear HB; clear HO_3; have BK138 := n0_; have BK139 := n1_; have BK141 := n2_; have HB := n3_; have HO144 := n4_; clear n0_ n1_ n2_ n3_ n4_; clear ho hb hg hat; have hcz19_0 : w18.cell? ⟨gb141, 0, none⟩ = some (.int .i64 ((rd_T52 l0_2 x9_1).f0)) := (blk_cell BK141.out 0).trans rfl; have hcz19_1 : w18.cell? ⟨gb141, 1, none⟩ = some (.int .i64 ((rd_T52 l0_2 x9_1).f1.f0)) := (blk_cell BK141.out 1).trans rfl; have hcz19_2 : w18.cell? ⟨gb141, 2, none⟩ = some (.int .i64 ((rd_T52 l0_2 x9_1).f1.f1)) := (blk_cell BK141.out 2).trans rfl; have hcz19_3 : w18.cell? ⟨gb141, 3, none⟩ = some (.int .i64 ((rd_T52 l0_2 x9_1).f2.f0)) := (blk_cell BK141.out 3).trans rfl; have hcz19_4 : w18.cell? ⟨gb141, 4, none⟩ = some (.int .i64 ((rd_T52 l0_2 x9_1).f2.f1)) := (blk_cell BK141.out 4).trans rfl; have hcz19_5 : w18.cell? ⟨gb141, 5, none⟩ = some (.int .i64 ((rd_T52 l0_2 x9_1).f3.f0)) := (blk_cell BK141.out 5).trans rfl; have hcz19_6 : w18.cell? ⟨gb141, 6, none⟩ = some (.int .i64 ((rd_T52 l0_2 x9_1).f3.f1)) := (blk_cell BK141.out 6).trans rfl; have hcz19_7 : w18.cell? ⟨gb141, 7, none⟩ = some (.int .i64 ((rd_T52 l0_2 x9_1).f4)) := (blk_cell BK141.out 7).trans rfl; have hfz19_0 := blk_frozen BK141.out 0; have hfz19_1 := blk_frozen BK141.out 1; have hfz19_2 := blk_frozen BK141.out 2; have hfz19_3 := blk_frozen BK141.out 3; have hfz19_4 := blk_frozen BK141.out 4; have hfz19_5 := blk_frozen BK141.out 5; have hfz19_6 := blk_frozen BK141.out 6; have hfz19_7 := blk_frozen BK141.out 7) | ((with_reducible refine gate_builtin (b := .append) (xs := #[.tmp 21, .tmp 24]) rfl ?_); at_builtin; refine Kd.R_append k23 (w0 := w) w.heap.size rfl (.tmp 21) (.tmp 24) 57 23 (.agg #[(.int .i64 0), (.int .i64 0)]) 16 rfl Try.underlying57 info23 rfl (by decide) (by omega) v143 y142 (⟨(rd_T52 l0_2 x9_1).f3.f0, (rd_T52 l0_2 x9_1).f3.f1⟩ : S23) [.int .i64 ((rd_T52 l0_2 x9_1).f3.f0), .int .i64 ((rd_T52 l0_2 x9_1).f3.f1)] (fun k_ => k_ ≠ gb139) (fun _ => False) rfl rfl ?aP (fun _ hk => hk.elim) ?aF ?aO ?aB ?aS ?aL ?_; (case aP => exact k23_mkM _ _ _ (⟨(rd_T52 l0_2 x9_1).f3.f0, (rd_T52 l0_2 x9_1).f3.f1⟩ : S23)); (case aB => exact (by repeat (first | (with_reducible first | exact HB.out | apply below_alloc | apply pw_below_drewN | apply below_drew1 | refine below_set ?_ GE138.out | refine below_set ?_ GE139.out | refine below_set ?_ GE141.out) | exact HB.out))); (case aF => exact (fun k_ hk => Kd.freshB (g := gb139) (o := .cells #[.int .i64 0, .int .i64 0] 23 (0, 0)) (vK BK139) k_ hk)); (case aO => exact (vR HO144)); (case aS => exact (below_size (by repeat (first | (with_reducible first | exact HB.out | apply below_alloc | apply pw_below_drewN | apply below_drew1 | refine below_set ?_ GE138.out | refine below_set ?_ GE139.out | refine below_set ?_ GE141.out) | exact HB.out)))); (case aL => have := LMc11.out; omega); intro v146 w20 ho hb hg hat; rw [← Ny145.out] at ho; have n0_ := pA (blk_grown (g := gb138) (o := .cells #[.int .i64 a0_0, .int .i64 a0_1, .slice (some ad140) l0_2.length c0_2] 43 (0, 0)) (vK BK138) hg (Kd.R_ne HO144.out BK138.out (by decide))); have n1_ := pA (blk_grown (g := gb139) (o := .cells #[.int .i64 0, .int .i64 0] 23 (0, 0)) (vK BK139) hg (Kd.R_away HO144.out (fun _ hk => hk))); have n2_ := pA (blk_grown (g := gb141) (o := .cells #[.int .i64 ((rd_T52 l0_2 x9_1).f0), .int .i64 ((rd_T52 l0_2 x9_1).f1.f0), .int .i64 ((rd_T52 l0_2 x9_1).f1.f1), .int .i64 ((rd_T52 l0_2 x9_1).f2.f0), .int .i64 ((rd_T52 l0_2 x9_1).f2.f1), .int .i64 ((rd_T52 l0_2 x9_1).f3.f0), .int .i64 ((rd_T52 l0_2 x9_1).f3.f1), .int .i64 ((rd_T52 l0_2 x9_1).f4)] 52 (0, 0)) (vK BK141) hg (Kd.R_ne HO144.out BK141.out (by decide))); have n3_ := pA (hb); have n4_ := pA (ho); clear BK138; clear BK139; clear BK141; clear HB; clear HO144; have BK138 := n0_; have BK139 := n1_; have BK141 := n2_; have HB := n3_; have HO147 := n4_; clear n0_ n1_ n2_ n3_ n4_; clear ho hb hg hat))
         go_roundg k1
         case measure => have := HK1.out; omega
         case rel => exact ⟨(y145), (wrap64 (x9_1 + 1)), (by first | rfl | (simp; done) | (simp [*]; done)), H', ⟨by have := HK1.out; omega⟩, ⟨by (with_reducible repeat (first | apply Kd.R_alloc | apply Kd.R_drewN | apply Kd.R_drew)); exact HO147.out⟩, ⟨by (with_reducible repeat (first | refine blk_drewN ?_ _ | refine blk_drew ?_ | refine blk_alloc ?_ _)); exact BK138.out⟩, ⟨by (with_reducible repeat (first | refine blk_drewN ?_ _ | refine blk_drew ?_ | refine blk_alloc ?_ _)); exact BK139.out⟩, ⟨by repeat (first | (with_reducible first | exact HB.out | apply below_alloc | apply pw_below_drewN | apply below_drew1 | refine below_set ?_ GE138.out | refine below_set ?_ GE139.out | refine below_set ?_ GE141.out) | exact HB.out)⟩⟩
        ·rw [if_neg c11] at H
         exact absurd H (by simp)
       ·rw [if_neg c10] at H
        exact absurd H (by simp)
      ·rw [if_neg c9] at H
       have c9b0 : decide (0 < x9_1) = false := decide_eq_false c9
       clear c9
       by_cases c21 : x3_1.length < 8796093022208
       ·rw [if_pos c21] at H
        have LMc21 := pA c21
        clear c21
        obtain ⟨y148, hy148⟩ : ∃ y_ : List (S23), y_ = (x3_1 ++ [(⟨(rd_T52 l0_2 x9_1).f3.f0, (rd_T52 l0_2 x9_1).f3.f1⟩ : S23)]) := ⟨_, rfl⟩
        replace H : (bung_height.l0 k1 y148 l0_2 (l0_2.length : Int) (wrap64 (x9_1 + 1)) a0_0 a0_1 l0_2) = some (r1, r2) := by first | (rw [hy148]; with_reducible exact H) | (have H2_ := (Option.bind_some _ _).symm.trans H; rw [hy148]; with_reducible exact H2_) | (have H2_ := (Option.bind_some _ _).symm.trans H; with_reducible exact H2_) | with_reducible exact H | (rw [hy148]; exact H) | exact H
        have Ny148 := pA hy148
        clear hy148
        have H' := pA H
        clear H
        have p140 : 0 ≤ (x9_1 : Int) := of_decide_eq_true (by first | (with_reducible assumption) | assumption)
        have q140 : x9_1 < (l0_2.length : Int) := of_decide_eq_true (by first | (with_reducible assumption) | assumption)
        obtain ⟨ad140, e140, hx140_0, hx140_1, hx140_2, hx140_3, hx140_4, hx140_5, hx140_6, hx140_7⟩ := at_T52 HR0_2.out x9_1 p140 q140
        cases e140
        replace hx140_0 := vC HB hx140_0
        replace hx140_1 := vC HB hx140_1
        replace hx140_2 := vC HB hx140_2
        replace hx140_3 := vC HB hx140_3
        replace hx140_4 := vC HB hx140_4
        replace hx140_5 := vC HB hx140_5
        replace hx140_6 := vC HB hx140_6
        replace hx140_7 := vC HB hx140_7
        replace p140 := eq_true p140
        replace q140 := eq_true q140
        go_wp2_with (first | ((with_reducible refine gate_dst (N := 5) rfl ?_); refine box_event ?hg (N := 5) ?hd (cs := #[.int .i64 0, .int .i64 0, .int .i64 0, .int .i64 0, .int .i64 0, .int .i64 0, .int .i64 0, .int .i64 0]) (t := 52) ?hr ?_; (case hd => rfl); (case hg => rfl); (case hr => first | (go_simp; done) | (go_simp; rfl)); intro gb141 hg w22 hbox hb; have n0_ := pA (Kd.R_below (vR HO_3) hb); have n1_ := pA (blk_below (g := gb138) (o := .cells #[.int .i64 a0_0, .int .i64 a0_1, .slice (some ad140) l0_2.length c0_2] 43 (0, 0)) (vK BK138) hb); have n2_ := pA (blk_below (g := gb139) (o := .cells #[.int .i64 0, .int .i64 0] 23 (0, 0)) (vK BK139) hb); have n3_ := pA (below_step (by repeat (first | (with_reducible first | exact HB.out | apply below_alloc | apply pw_below_drewN | apply below_drew1 | refine below_set ?_ GE138.out | refine below_set ?_ GE139.out) | exact HB.out)) hb); have n4_ := pA (hbox); have n5_ := pA ((by rw [hg]; exact (below_size (by repeat (first | (with_reducible first | exact HB.out | apply below_alloc | apply pw_below_drewN | apply below_drew1 | refine below_set ?_ GE138.out | refine below_set ?_ GE139.out) | exact HB.out))) : w.heap.size ≤ gb141)); have n6_ := pA ((by rw [hg]; exact (below_size (by repeat (first | (with_reducible first | exact HB.out | apply below_alloc | apply pw_below_drewN | apply below_drew1 | refine below_set ?_ GE138.out | refine below_set ?_ GE139.out) | exact HB.out))) : w.heap.size ≤ gb141)); have n7_ := pA ((by rw [hg]; exact Nat.ne_of_lt (blk_lt (g := gb138) (o := .cells #[.int .i64 a0_0, .int .i64 a0_1, .slice (some ad140) l0_2.length c0_2] 43 (0, 0)) (vK BK138)) : gb138 ≠ gb141)); have n8_ := pA ((by rw [hg]; exact Nat.ne_of_gt (blk_lt (g := gb138) (o := .cells #[.int .i64 a0_0, .int .i64 a0_1, .slice (some ad140) l0_2.length c0_2] 43 (0, 0)) (vK BK138)) : gb141 ≠ gb138)); have n9_ := pA ((by rw [hg]; exact Nat.ne_of_lt (blk_lt (g := gb139) (o := .cells #[.int .i64 0, .int .i64 0] 23 (0, 0)) (vK BK139)) : gb139 ≠ gb141)); have n10_ := pA ((by rw [hg]; exact Nat.ne_of_gt (blk_lt (g := gb139) (o := .cells #[.int .i64 0, .int .i64 0] 23 (0, 0)) (vK BK139)) : gb141 ≠ gb139)); clear HO_3; clear BK138; clear BK139; clear HB; have HO_3 := n0_; have BK138 := n1_; have BK139 := n2_; have HB := n3_; have BK141 := n4_; have GW141 := n5_; have GE141 := n6_; have NB138_141 := n7_; have NB141_138 := n8_; have NB139_141 := n9_; have NB141_139 := n10_; clear n0_ n1_ n2_ n3_ n4_ n5_ n6_ n7_ n8_ n9_ n10_; clear hb hbox hg; have hnb23 := NB141_138.out; have hnc23 := NB138_141.out; have hnb24 := NB141_139.out; have hnc24 := NB139_141.out; have hcz25_0 : w22.cell? ⟨gb141, 0, none⟩ = some (.int .i64 0) := (blk_cell BK141.out 0).trans rfl; have hcz25_1 : w22.cell? ⟨gb141, 1, none⟩ = some (.int .i64 0) := (blk_cell BK141.out 1).trans rfl; have hcz25_2 : w22.cell? ⟨gb141, 2, none⟩ = some (.int .i64 0) := (blk_cell BK141.out 2).trans rfl; have hcz25_3 : w22.cell? ⟨gb141, 3, none⟩ = some (.int .i64 0) := (blk_cell BK141.out 3).trans rfl; have hcz25_4 : w22.cell? ⟨gb141, 4, none⟩ = some (.int .i64 0) := (blk_cell BK141.out 4).trans rfl; have hcz25_5 : w22.cell? ⟨gb141, 5, none⟩ = some (.int .i64 0) := (blk_cell BK141.out 5).trans rfl; have hcz25_6 : w22.cell? ⟨gb141, 6, none⟩ = some (.int .i64 0) := (blk_cell BK141.out 6).trans rfl; have hcz25_7 : w22.cell? ⟨gb141, 7, none⟩ = some (.int .i64 0) := (blk_cell BK141.out 7).trans rfl; have hfz25_0 := blk_frozen BK141.out 0; have hfz25_1 := blk_frozen BK141.out 1; have hfz25_2 := blk_frozen BK141.out 2; have hfz25_3 := blk_frozen BK141.out 3; have hfz25_4 := blk_frozen BK141.out 4; have hfz25_5 := blk_frozen BK141.out 5; have hfz25_6 := blk_frozen BK141.out 6; have hfz25_7 := blk_frozen BK141.out 7) | ((with_reducible refine gate_builtin (b := .append) (xs := #[.tmp 21, .tmp 24]) rfl ?_); at_builtin; refine Kd.R_append k23 (w0 := w) w.heap.size rfl (.tmp 21) (.tmp 24) 57 23 (.agg #[(.int .i64 0), (.int .i64 0)]) 16 rfl Try.underlying57 info23 rfl (by decide) (by omega) u3 x3_1 (⟨(rd_T52 l0_2 x9_1).f3.f0, (rd_T52 l0_2 x9_1).f3.f1⟩ : S23) [.int .i64 ((rd_T52 l0_2 x9_1).f3.f0), .int .i64 ((rd_T52 l0_2 x9_1).f3.f1)] (fun k_ => k_ ≠ gb139) (fun _ => False) rfl (by first | (go_simp; done) | (go_simp; rfl)) ?aP (fun _ hk => hk.elim) ?aF ?aO ?aB ?aS ?aL ?_; (case aP => exact k23_mkM _ _ _ (⟨(rd_T52 l0_2 x9_1).f3.f0, (rd_T52 l0_2 x9_1).f3.f1⟩ : S23)); (case aB => exact (by repeat (first | (with_reducible first | exact HB.out | apply below_alloc | apply pw_below_drewN | apply below_drew1 | refine below_set ?_ GE138.out | refine below_set ?_ GE139.out | refine below_set ?_ GE141.out) | exact HB.out))); (case aF => exact (fun k_ hk => Kd.freshB (g := gb139) (o := .cells #[.int .i64 0, .int .i64 0] 23 (0, 0)) (by (with_reducible repeat (first | refine blk_drewN ?_ _ | refine blk_drew ?_ | refine blk_alloc ?_ _)); refine blk_far ?_ NB139_141.out _; (with_reducible repeat (first | refine blk_drewN ?_ _ | refine blk_drew ?_ | refine blk_alloc ?_ _)); refine blk_far ?_ NB139_141.out _; (with_reducible repeat (first | refine blk_drewN ?_ _ | refine blk_drew ?_ | refine blk_alloc ?_ _)); refine blk_far ?_ NB139_141.out _; (with_reducible repeat (first | refine blk_drewN ?_ _ | refine blk_drew ?_ | refine blk_alloc ?_ _)); refine blk_far ?_ NB139_141.out _; (with_reducible repeat (first | refine blk_drewN ?_ _ | refine blk_drew ?_ | refine blk_alloc ?_ _)); refine blk_far ?_ NB139_141.out _; (with_reducible repeat (first | refine blk_drewN ?_ _ | refine blk_drew ?_ | refine blk_alloc ?_ _)); refine blk_far ?_ NB139_141.out _; (with_reducible repeat (first | refine blk_drewN ?_ _ | refine blk_drew ?_ | refine blk_alloc ?_ _)); refine blk_far ?_ NB139_141.out _; (with_reducible repeat (first | refine blk_drewN ?_ _ | refine blk_drew ?_ | refine blk_alloc ?_ _)); refine blk_far ?_ NB139_141.out _; (with_reducible repeat (first | refine blk_drewN ?_ _ | refine blk_drew ?_ | refine blk_alloc ?_ _)); exact BK139.out) k_ hk)); (case aO => exact (by (with_reducible repeat (first | apply Kd.R_alloc | apply Kd.R_drewN | apply Kd.R_drew)); exact Kd.R_mono (Kd.R_far (p := ⟨gb141, 7, none⟩) (Kd.R_far (p := ⟨gb141, 6, none⟩) (Kd.R_far (p := ⟨gb141, 5, none⟩) (Kd.R_far (p := ⟨gb141, 4, none⟩) (Kd.R_far (p := ⟨gb141, 3, none⟩) (Kd.R_far (p := ⟨gb141, 2, none⟩) (Kd.R_far (p := ⟨gb141, 1, none⟩) (Kd.R_far (p := ⟨gb141, 0, none⟩) (Kd.R_types HO_3.out BK141.out (by decide)) (fun _ hk => hk.2) (.int .i64 ((rd_T52 l0_2 x9_1).f0))) (fun _ hk => hk.2) (.int .i64 ((rd_T52 l0_2 x9_1).f1.f0))) (fun _ hk => hk.2) (.int .i64 ((rd_T52 l0_2 x9_1).f1.f1))) (fun _ hk => hk.2) (.int .i64 ((rd_T52 l0_2 x9_1).f2.f0))) (fun _ hk => hk.2) (.int .i64 ((rd_T52 l0_2 x9_1).f2.f1))) (fun _ hk => hk.2) (.int .i64 ((rd_T52 l0_2 x9_1).f3.f0))) (fun _ hk => hk.2) (.int .i64 ((rd_T52 l0_2 x9_1).f3.f1))) (fun _ hk => hk.2) (.int .i64 ((rd_T52 l0_2 x9_1).f4))) (fun _ hk => hk.1))); (case aS => exact (below_size (by repeat (first | (with_reducible first | exact HB.out | apply below_alloc | apply pw_below_drewN | apply below_drew1 | refine below_set ?_ GE138.out | refine below_set ?_ GE139.out | refine below_set ?_ GE141.out) | exact HB.out)))); (case aL => have := LMc21.out; omega); intro v149 w26 ho hb hg hat; rw [← Ny148.out] at ho; have n0_ := pA (blk_grown (g := gb138) (o := .cells #[.int .i64 a0_0, .int .i64 a0_1, .slice (some ad140) l0_2.length c0_2] 43 (0, 0)) (by (with_reducible repeat (first | refine blk_drewN ?_ _ | refine blk_drew ?_ | refine blk_alloc ?_ _)); refine blk_far ?_ NB138_141.out _; (with_reducible repeat (first | refine blk_drewN ?_ _ | refine blk_drew ?_ | refine blk_alloc ?_ _)); refine blk_far ?_ NB138_141.out _; (with_reducible repeat (first | refine blk_drewN ?_ _ | refine blk_drew ?_ | refine blk_alloc ?_ _)); refine blk_far ?_ NB138_141.out _; (with_reducible repeat (first | refine blk_drewN ?_ _ | refine blk_drew ?_ | refine blk_alloc ?_ _)); refine blk_far ?_ NB138_141.out _; (with_reducible repeat (first | refine blk_drewN ?_ _ | refine blk_drew ?_ | refine blk_alloc ?_ _)); refine blk_far ?_ NB138_141.out _; (with_reducible repeat (first | refine blk_drewN ?_ _ | refine blk_drew ?_ | refine blk_alloc ?_ _)); refine blk_far ?_ NB138_141.out _; (with_reducible repeat (first | refine blk_drewN ?_ _ | refine blk_drew ?_ | refine blk_alloc ?_ _)); refine blk_far ?_ NB138_141.out _; (with_reducible repeat (first | refine blk_drewN ?_ _ | refine blk_drew ?_ | refine blk_alloc ?_ _)); refine blk_far ?_ NB138_141.out _; (with_reducible repeat (first | refine blk_drewN ?_ _ | refine blk_drew ?_ | refine blk_alloc ?_ _)); exact BK138.out) hg (Kd.R_ne HO_3.out BK138.out (by decide))); have n1_ := pA (blk_grown (g := gb139) (o := .cells #[.int .i64 0, .int .i64 0] 23 (0, 0)) (by (with_reducible repeat (first | refine blk_drewN ?_ _ | refine blk_drew ?_ | refine blk_alloc ?_ _)); refine blk_far ?_ NB139_141.out _; (with_reducible repeat (first | refine blk_drewN ?_ _ | refine blk_drew ?_ | refine blk_alloc ?_ _)); refine blk_far ?_ NB139_141.out _; (with_reducible repeat (first | refine blk_drewN ?_ _ | refine blk_drew ?_ | refine blk_alloc ?_ _)); refine blk_far ?_ NB139_141.out _; (with_reducible repeat (first | refine blk_drewN ?_ _ | refine blk_drew ?_ | refine blk_alloc ?_ _)); refine blk_far ?_ NB139_141.out _; (with_reducible repeat (first | refine blk_drewN ?_ _ | refine blk_drew ?_ | refine blk_alloc ?_ _)); refine blk_far ?_ NB139_141.out _; (with_reducible repeat (first | refine blk_drewN ?_ _ | refine blk_drew ?_ | refine blk_alloc ?_ _)); refine blk_far ?_ NB139_141.out _; (with_reducible repeat (first | refine blk_drewN ?_ _ | refine blk_drew ?_ | refine blk_alloc ?_ _)); refine blk_far ?_ NB139_141.out _; (with_reducible repeat (first | refine blk_drewN ?_ _ | refine blk_drew ?_ | refine blk_alloc ?_ _)); refine blk_far ?_ NB139_141.out _; (with_reducible repeat (first | refine blk_drewN ?_ _ | refine blk_drew ?_ | refine blk_alloc ?_ _)); exact BK139.out) hg (Kd.R_away HO_3.out (fun _ hk => hk))); have n2_ := pA (blk_grown (g := gb141) (o := .cells #[.int .i64 ((rd_T52 l0_2 x9_1).f0), .int .i64 ((rd_T52 l0_2 x9_1).f1.f0), .int .i64 ((rd_T52 l0_2 x9_1).f1.f1), .int .i64 ((rd_T52 l0_2 x9_1).f2.f0), .int .i64 ((rd_T52 l0_2 x9_1).f2.f1), .int .i64 ((rd_T52 l0_2 x9_1).f3.f0), .int .i64 ((rd_T52 l0_2 x9_1).f3.f1), .int .i64 ((rd_T52 l0_2 x9_1).f4)] 52 (0, 0)) (by (with_reducible repeat (first | refine blk_drewN ?_ _ | refine blk_drew ?_ | refine blk_alloc ?_ _)); refine blk_put (cs := #[.int .i64 ((rd_T52 l0_2 x9_1).f0), .int .i64 ((rd_T52 l0_2 x9_1).f1.f0), .int .i64 ((rd_T52 l0_2 x9_1).f1.f1), .int .i64 ((rd_T52 l0_2 x9_1).f2.f0), .int .i64 ((rd_T52 l0_2 x9_1).f2.f1), .int .i64 ((rd_T52 l0_2 x9_1).f3.f0), .int .i64 ((rd_T52 l0_2 x9_1).f3.f1), .int .i64 0]) ?_ 7 _ rfl; (with_reducible repeat (first | refine blk_drewN ?_ _ | refine blk_drew ?_ | refine blk_alloc ?_ _)); refine blk_put (cs := #[.int .i64 ((rd_T52 l0_2 x9_1).f0), .int .i64 ((rd_T52 l0_2 x9_1).f1.f0), .int .i64 ((rd_T52 l0_2 x9_1).f1.f1), .int .i64 ((rd_T52 l0_2 x9_1).f2.f0), .int .i64 ((rd_T52 l0_2 x9_1).f2.f1), .int .i64 ((rd_T52 l0_2 x9_1).f3.f0), .int .i64 0, .int .i64 0]) ?_ 6 _ rfl; (with_reducible repeat (first | refine blk_drewN ?_ _ | refine blk_drew ?_ | refine blk_alloc ?_ _)); refine blk_put (cs := #[.int .i64 ((rd_T52 l0_2 x9_1).f0), .int .i64 ((rd_T52 l0_2 x9_1).f1.f0), .int .i64 ((rd_T52 l0_2 x9_1).f1.f1), .int .i64 ((rd_T52 l0_2 x9_1).f2.f0), .int .i64 ((rd_T52 l0_2 x9_1).f2.f1), .int .i64 0, .int .i64 0, .int .i64 0]) ?_ 5 _ rfl; (with_reducible repeat (first | refine blk_drewN ?_ _ | refine blk_drew ?_ | refine blk_alloc ?_ _)); refine blk_put (cs := #[.int .i64 ((rd_T52 l0_2 x9_1).f0), .int .i64 ((rd_T52 l0_2 x9_1).f1.f0), .int .i64 ((rd_T52 l0_2 x9_1).f1.f1), .int .i64 ((rd_T52 l0_2 x9_1).f2.f0), .int .i64 0, .int .i64 0, .int .i64 0, .int .i64 0]) ?_ 4 _ rfl; (with_reducible repeat (first | refine blk_drewN ?_ _ | refine blk_drew ?_ | refine blk_alloc ?_ _)); refine blk_put (cs := #[.int .i64 ((rd_T52 l0_2 x9_1).f0), .int .i64 ((rd_T52 l0_2 x9_1).f1.f0), .int .i64 ((rd_T52 l0_2 x9_1).f1.f1), .int .i64 0, .int .i64 0, .int .i64 0, .int .i64 0, .int .i64 0]) ?_ 3 _ rfl; (with_reducible repeat (first | refine blk_drewN ?_ _ | refine blk_drew ?_ | refine blk_alloc ?_ _)); refine blk_put (cs := #[.int .i64 ((rd_T52 l0_2 x9_1).f0), .int .i64 ((rd_T52 l0_2 x9_1).f1.f0), .int .i64 0, .int .i64 0, .int .i64 0, .int .i64 0, .int .i64 0, .int .i64 0]) ?_ 2 _ rfl; (with_reducible repeat (first | refine blk_drewN ?_ _ | refine blk_drew ?_ | refine blk_alloc ?_ _)); refine blk_put (cs := #[.int .i64 ((rd_T52 l0_2 x9_1).f0), .int .i64 0, .int .i64 0, .int .i64 0, .int .i64 0, .int .i64 0, .int .i64 0, .int .i64 0]) ?_ 1 _ rfl; (with_reducible repeat (first | refine blk_drewN ?_ _ | refine blk_drew ?_ | refine blk_alloc ?_ _)); refine blk_put (cs := #[.int .i64 0, .int .i64 0, .int .i64 0, .int .i64 0, .int .i64 0, .int .i64 0, .int .i64 0, .int .i64 0]) ?_ 0 _ rfl; (with_reducible repeat (first | refine blk_drewN ?_ _ | refine blk_drew ?_ | refine blk_alloc ?_ _)); exact BK141.out) hg (Kd.R_ne HO_3.out BK141.out (by decide))); have n3_ := pA (hb); have n4_ := pA (ho); clear BK138; clear BK139; clear BK141; clear HB; clear HO_3; have BK138 := n0_; have BK139 := n1_; have BK141 := n2_; have HB := n3_; have HO150 := n4_; clear n0_ n1_ n2_ n3_ n4_; clear ho hb hg hat))
        go_roundg k1
        case measure => have := HK1.out; omega
        case rel => exact ⟨(y148), (wrap64 (x9_1 + 1)), (by first | rfl | (simp; done) | (simp [*]; done)), H', ⟨by have := HK1.out; omega⟩, ⟨by (with_reducible repeat (first | apply Kd.R_alloc | apply Kd.R_drewN | apply Kd.R_drew)); exact HO150.out⟩, ⟨by (with_reducible repeat (first | refine blk_drewN ?_ _ | refine blk_drew ?_ | refine blk_alloc ?_ _)); exact BK138.out⟩, ⟨by (with_reducible repeat (first | refine blk_drewN ?_ _ | refine blk_drew ?_ | refine blk_alloc ?_ _)); exact BK139.out⟩, ⟨by repeat (first | (with_reducible first | exact HB.out | apply below_alloc | apply pw_below_drewN | apply below_drew1 | refine below_set ?_ GE138.out | refine below_set ?_ GE139.out | refine below_set ?_ GE141.out) | exact HB.out)⟩⟩
       ·rw [if_neg c21] at H
        exact absurd H (by simp)
     ·rw [if_neg c8] at H
      exact absurd H (by simp)
    ·rw [if_neg c7] at H
     exact absurd H (by simp)
   ·rw [if_neg c6] at H
    have c6b0 : decide (x9_1 < (l0_2.length : Int)) = false := decide_eq_false c6
    clear c6
    replace H := Option.bind_eq_some_iff.mp H
    obtain ⟨⟨t151, t152⟩, A270, H⟩ := H
    replace H : (some (t151, t152)) = some (r1, r2) := H
    have A27 := pA A270
    clear A270
    simp only [Option.some.injEq, Prod.mk.injEq] at H
    obtain ⟨rfl, rfl⟩ := H
    obtain ⟨Ao28, co28, eo28⟩ := Kd.R_slice HO_3.out
    subst eo28
    go_wp2_with (first | ((with_reducible refine gate_callee (f := 129) rfl ?_); refine goesL_ (some 28) rfl rfl Try.func129 (by kernel_rfl) rfl #[.slice Ao28 x3_1.length co28] rfl (by (try simp only [List.map_toArray, List.map_cons, List.map_nil]); first | done | rfl | (simp only [List.length_drop, List.length_take]; rfl)) ?_; (with_reducible refine (bung_sum.calls k1 _ _ x3_1 t151 t152 _ ?side1 ?side2 A27.out).mono ?_); (case side1 => repeat (first | exact (Kd.R_reads' HO_3.out).2.2 | (with_reducible refine Kd.C_alloc ?_ _) | (with_reducible refine Kd.C_drewN ?_ _) | (with_reducible refine Kd.C_drew ?_))); (case side2 => exact (Kd.R_reads' HO_3.out).2.1); rintro e w29 ⟨rfl, hb⟩; refine ⟨_, rfl, ?_⟩; have n0_ := pA (Kd.R_below (vR HO_3) hb); have n1_ := pA (blk_below (g := gb138) (o := .cells #[.int .i64 a0_0, .int .i64 a0_1, .slice A0_2 l0_2.length c0_2] 43 (0, 0)) (vK BK138) hb); have n2_ := pA (blk_below (g := gb139) (o := .cells #[.int .i64 0, .int .i64 0] 23 (0, 0)) (vK BK139) hb); have n3_ := pA (below_step (by repeat (first | (with_reducible first | exact HB.out | apply below_alloc | apply pw_below_drewN | apply below_drew1 | refine below_set ?_ GE138.out | refine below_set ?_ GE139.out) | exact HB.out)) hb); clear HO_3; clear BK138; clear BK139; clear HB; have HO_3 := n0_; have BK138 := n1_; have BK139 := n2_; have HB := n3_; clear n0_ n1_ n2_ n3_; (try clear hb); (try clear hb2); (try clear hk); (try clear hi); have hnb30 := NB139_138.out; have hnc30 := NB138_139.out; have hcz31_0 : w29.cell? ⟨gb139, 0, none⟩ = some (.int .i64 0) := (blk_cell BK139.out 0).trans rfl; have hcz31_1 : w29.cell? ⟨gb139, 1, none⟩ = some (.int .i64 0) := (blk_cell BK139.out 1).trans rfl; have hfz31_0 := blk_frozen BK139.out 0; have hfz31_1 := blk_frozen BK139.out 1))
    refine bodyPost_ret (results_cell_row rfl _ _ gb139 23 #[.int .i64 t151, .int .i64 t152] (0, 0) _ rfl (by (with_reducible repeat (first | refine blk_drewN ?_ _ | refine blk_drew ?_ | refine blk_alloc ?_ _)); refine blk_put (cs := #[.int .i64 t151, .int .i64 0]) ?_ 1 _ rfl; (with_reducible repeat (first | refine blk_drewN ?_ _ | refine blk_drew ?_ | refine blk_alloc ?_ _)); refine blk_put (cs := #[.int .i64 0, .int .i64 0]) ?_ 0 _ rfl; (with_reducible repeat (first | refine blk_drewN ?_ _ | refine blk_drew ?_ | refine blk_alloc ?_ _)); exact BK139.out) Try.underlying23 rfl (by kernel_rfl)) rfl ?_
    exact ⟨by first | rfl | (simp [errW_none, errW_some] <;> rfl) | (simp [*, errW_none, errW_some] <;> rfl), by repeat (first | (with_reducible first | exact HB.out | apply below_alloc | apply pw_below_drewN | apply below_drew1 | refine below_set ?_ GE138.out | refine below_set ?_ GE139.out) | exact HB.out)⟩
def bung_lean.l0 : Nat → Int → Int → Int → Int → Int → List (S52) → Option (Int)
  | 0, _, _, _, _, _, _ => none
  | k + 1, x3, x4, x5, x154000, x154001, x154002 => if x5 > 0 then (if 0 ≤ x5 then (if x5 < (x154002.length : Int) then (bung_lean.l0 k (wrap64 (x3 + (wrap64 (((rd_T52 x154002 x5).f4) * (wrap64 (x4 + ((rd_T52 x154002 x5).f3.f1))))))) (wrap64 ((wrap64 (x4 + ((rd_T52 x154002 x5).f3.f1))) + x154001)) (wrap64 (x5 - 1)) x154000 x154001 x154002) else (none)) else (none)) else (some (wrap64 (Int.tdiv (wrap64 (x3 + 999)) 1000)))
def bung_lean.f (k : Nat) (a0_0 : Int) (a0_1 : Int) (l0_2 : List (S52)) : Option (Int) := bung_lean.l0 k 0 0 (wrap64 ((l0_2.length : Int) - 1)) a0_0 a0_1 l0_2
theorem bung_lean.mono_l : ∀ k, (∀ y0 y1 y2 y3 y4 y5, LeO (bung_lean.l0 k y0 y1 y2 y3 y4 y5) (bung_lean.l0 (k + 1) y0 y1 y2 y3 y4 y5))
 | 0 => fun _ _ _ _ _ _ r h => by simp [bung_lean.l0] at h
 | k + 1 => by
  have ih0 := bung_lean.mono_l k
  ·intro y0 y1 y2 y3 y4 y5
   unfold bung_lean.l0
   repeat' first
   | (with_reducible exact ih0 _ _ _ _ _ _)
   | (with_reducible exact LeO.refl _)
   | (with_reducible exact LeO.none _)
   | (with_reducible refine LeO.ite ?_ ?_)
   | (with_reducible refine LeO.bind ?_ (fun _ => ?_))
   | exact ih0 _ _ _ _ _ _
   | exact LeO.none _
   | refine LeO.ite ?_ ?_
   | refine LeO.bind ?_ (fun _ => ?_)
theorem bung_lean.mono : ∀ a0 a1 a2 k, LeO (bung_lean.f k a0 a1 a2) (bung_lean.f (k + 1) a0 a1 a2) := by
 intro a0 a1 a2 k
 have ih0 := bung_lean.mono_l k
 unfold bung_lean.f
 repeat' first
   | (with_reducible exact ih0 _ _ _ _ _ _)
   | (with_reducible exact LeO.refl _)
   | (with_reducible exact LeO.none _)
   | (with_reducible refine LeO.ite ?_ ?_)
   | (with_reducible refine LeO.bind ?_ (fun _ => ?_))
   | exact ih0 _ _ _ _ _ _
   | exact LeO.none _
   | refine LeO.ite ?_ ?_
   | refine LeO.bind ?_ (fun _ => ?_)
set_option maxHeartbeats 8000000 in
set_option maxRecDepth 100000 in
theorem bung_lean.calls (k : Nat) (a0_0 : Int) (a0_1 : Int) (A0_2 : Option Addr) (c0_2 : Nat) (l0_2 : List (S52)) (r : Int) (w : World) (hr0_2 : Kd.C k52 w A0_2 l0_2.length l0_2) (hc0_2 : l0_2.length ≤ c0_2) (h : bung_lean.f k a0_0 a0_1 l0_2 = some r) :
  Calls Try.prog 84 #[.agg #[.int .i64 a0_0, .int .i64 a0_1, .slice A0_2 l0_2.length c0_2]] w fun e w' => e = .returned (.int .i64 r) ∧ Below w.heap.size w w' := by
 have hu43 := Try.underlying43
 have HR0_2 := pA hr0_2
 have HC0_2 := pA hc0_2
 clear hr0_2 hc0_2
 have HB := pA (Below.refl w.heap.size w)
 have H : (bung_lean.l0 k 0 0 (wrap64 ((l0_2.length : Int) - 1)) a0_0 a0_1 l0_2) = some r := h
 clear h
 have H' := pA H
 clear H
 go_enter Try.func84, Try.ntmps84
 go_wp2_with (first | ((with_reducible refine gate_dst (N := 1) rfl ?_); refine box_event ?hg (N := 1) ?hd (cs := #[.int .i64 a0_0, .int .i64 a0_1, .slice A0_2 l0_2.length c0_2]) (t := 43) ?hr ?_; (case hd => rfl); (case hg => rfl); (case hr => first | (go_simp; done) | (go_simp; rfl)); intro gb153 hg w2 hbox hb; have n0_ := pA (below_step (vB HB) hb); have n1_ := pA (hbox); have n2_ := pA ((by rw [hg]; exact (below_size (vB HB)) : w.heap.size ≤ gb153)); have n3_ := pA ((by rw [hg]; exact (below_size (vB HB)) : w.heap.size ≤ gb153)); clear HB; have HB := n0_; have BK153 := n1_; have GW153 := n2_; have GE153 := n3_; clear n0_ n1_ n2_ n3_; clear hb hbox hg; have hcz3_0 : w2.cell? ⟨gb153, 0, none⟩ = some (.int .i64 a0_0) := (blk_cell BK153.out 0).trans rfl; have hcz3_1 : w2.cell? ⟨gb153, 1, none⟩ = some (.int .i64 a0_1) := (blk_cell BK153.out 1).trans rfl; have hcz3_2 : w2.cell? ⟨gb153, 2, none⟩ = some (.slice A0_2 l0_2.length c0_2) := (blk_cell BK153.out 2).trans rfl; have hfz3_0 := blk_frozen BK153.out 0; have hfz3_1 := blk_frozen BK153.out 1; have hfz3_2 := blk_frozen BK153.out 2))
 go_loopg [3, 4, 5] k (fun kq v3 v4 v5 w' => ∃ (x3_1 : Int) (x4_1 : Int) (x5_1 : Int), v3 = .int .i64 x3_1 ∧ v4 = .int .i64 x4_1 ∧ v5 = .int .i64 x5_1 ∧ Aside0 (bung_lean.l0 kq x3_1 x4_1 x5_1 a0_0 a0_1 l0_2 = some r) ∧ Aside0 (kq ≤ k) ∧ Aside0 (w'.heap[gb153]? = some (.cells #[.int .i64 a0_0, .int .i64 a0_1, (.slice A0_2 l0_2.length c0_2)] 43 (0, 0))) ∧ Aside0 (Below w.heap.size w w'))
 case atStart => exact ⟨(0), (0), (wrap64 ((l0_2.length : Int) - 1)), (by first | rfl | (simp; done) | (simp [*]; done)), (by first | rfl | (simp; done) | (simp [*]; done)), (by first | rfl | (simp; done) | (simp [*]; done)), H', ⟨Nat.le_refl _⟩, ⟨by (with_reducible repeat (first | refine blk_drewN ?_ _ | refine blk_drew ?_ | refine blk_alloc ?_ _)); exact BK153.out⟩, ⟨by repeat (first | (with_reducible first | exact HB.out | apply below_alloc | apply pw_below_drewN | apply below_drew1 | refine below_set ?_ GE153.out) | exact HB.out)⟩⟩
 case round =>
  clear H'
  try clear p2
  try clear hcz3_0
  try clear hcz3_1
  try clear hcz3_2
  try clear hfz3_0
  try clear hfz3_1
  try clear hfz3_2
  obtain ⟨x3_1, x4_1, x5_1, rfl, rfl, rfl, HA, HK1, BK153, HB⟩ := hrel
  cases gk with
  | zero => exact absurd HA.out (by simp [bung_lean.l0])
  | succ k1 =>
   have H := HA.out
   clear HA
   simp only [bung_lean.l0] at H
   by_cases c4 : x5_1 > 0
   ·rw [if_pos c4] at H
    have c4b0 : decide (0 < x5_1) = true := decide_eq_true c4
    clear c4
    by_cases c5 : 0 ≤ x5_1
    ·rw [if_pos c5] at H
     have c5b0 : decide (0 ≤ x5_1) = true := decide_eq_true c5
     clear c5
     by_cases c6 : x5_1 < (l0_2.length : Int)
     ·rw [if_pos c6] at H
      have c6b0 : decide (x5_1 < (l0_2.length : Int)) = true := decide_eq_true c6
      clear c6
      have H' := pA H
      clear H
      have hcz7_0 : wr.cell? ⟨gb153, 0, none⟩ = some (.int .i64 a0_0) := (blk_cell BK153.out 0).trans rfl
      have hcz7_1 : wr.cell? ⟨gb153, 1, none⟩ = some (.int .i64 a0_1) := (blk_cell BK153.out 1).trans rfl
      have hcz7_2 : wr.cell? ⟨gb153, 2, none⟩ = some (.slice A0_2 l0_2.length c0_2) := (blk_cell BK153.out 2).trans rfl
      have hfz7_0 := blk_frozen BK153.out 0
      have hfz7_1 := blk_frozen BK153.out 1
      have hfz7_2 := blk_frozen BK153.out 2
      have p154 : 0 ≤ (x5_1 : Int) := of_decide_eq_true (by first | (with_reducible assumption) | assumption)
      have q154 : x5_1 < (l0_2.length : Int) := of_decide_eq_true (by first | (with_reducible assumption) | assumption)
      obtain ⟨ad154, e154, hx154_0, hx154_1, hx154_2, hx154_3, hx154_4, hx154_5, hx154_6, hx154_7⟩ := at_T52 HR0_2.out x5_1 p154 q154
      cases e154
      replace hx154_0 := vC HB hx154_0
      replace hx154_1 := vC HB hx154_1
      replace hx154_2 := vC HB hx154_2
      replace hx154_3 := vC HB hx154_3
      replace hx154_4 := vC HB hx154_4
      replace hx154_5 := vC HB hx154_5
      replace hx154_6 := vC HB hx154_6
      replace hx154_7 := vC HB hx154_7
      replace p154 := eq_true p154
      replace q154 := eq_true q154
      have p155 : 0 ≤ (x5_1 : Int) := of_decide_eq_true (by first | (with_reducible assumption) | assumption)
      have q155 : x5_1 < (l0_2.length : Int) := of_decide_eq_true (by first | (with_reducible assumption) | assumption)
      obtain ⟨ad155, e155, hx155_0, hx155_1, hx155_2, hx155_3, hx155_4, hx155_5, hx155_6, hx155_7⟩ := at_T52 HR0_2.out x5_1 p155 q155
      obtain rfl : ad154 = ad155 := (by injection e155)
      replace hx155_0 := vC HB hx155_0
      replace hx155_1 := vC HB hx155_1
      replace hx155_2 := vC HB hx155_2
      replace hx155_3 := vC HB hx155_3
      replace hx155_4 := vC HB hx155_4
      replace hx155_5 := vC HB hx155_5
      replace hx155_6 := vC HB hx155_6
      replace hx155_7 := vC HB hx155_7
      replace p155 := eq_true p155
      replace q155 := eq_true q155
      go_wp2
      go_roundg k1
      case measure => have := HK1.out; omega
      case rel => exact ⟨(wrap64 (x3_1 + (wrap64 (((rd_T52 l0_2 x5_1).f4) * (wrap64 (x4_1 + ((rd_T52 l0_2 x5_1).f3.f1))))))), (wrap64 ((wrap64 (x4_1 + ((rd_T52 l0_2 x5_1).f3.f1))) + a0_1)), (wrap64 (x5_1 - 1)), (by first | rfl | (simp; done) | (simp [*]; done)), (by first | rfl | (simp; done) | (simp [*]; done)), (by first | rfl | (simp; done) | (simp [*]; done)), H', ⟨by have := HK1.out; omega⟩, ⟨by (with_reducible repeat (first | refine blk_drewN ?_ _ | refine blk_drew ?_ | refine blk_alloc ?_ _)); exact BK153.out⟩, ⟨by repeat (first | (with_reducible first | exact HB.out | apply below_alloc | apply pw_below_drewN | apply below_drew1 | refine below_set ?_ GE153.out) | exact HB.out)⟩⟩
     ·rw [if_neg c6] at H
      exact absurd H (by simp)
    ·rw [if_neg c5] at H
     exact absurd H (by simp)
   ·rw [if_neg c4] at H
    have c4b0 : decide (0 < x5_1) = false := decide_eq_false c4
    clear c4
    obtain rfl := Option.some.inj H
    go_wp2
    go_ret
    exact ⟨by first | rfl | (simp [errW_none, errW_some] <;> rfl) | (simp [*, errW_none, errW_some] <;> rfl), by repeat (first | (with_reducible first | exact HB.out | apply below_alloc | apply pw_below_drewN | apply below_drew1 | refine below_set ?_ GE153.out) | exact HB.out)⟩
def bung_fits.j0 : Nat → Int → Bool → Int → Int → List (S52) → Int → Int → Int → Int → Option (Int)
  | 0, _, _, _, _, _, _, _, _, _ => none
  | k + 1, x6, x13, x160000, x160001, x160002, x161000, x161001, x168000, x168001 => if x13 = true then (some 0) else (if x168001 ≤ x161000 then ((bung_lean.f k x160000 x160001 x160002).bind fun t168 => (if t168 ≤ x161001 then (if x6 = 1 then (some 1) else (some 2)) else (some 2))) else (some 2))
def bung_fits.f (k : Nat) (a0_0 : Int) (a0_1 : Int) (l0_2 : List (S52)) (a1_0 : Int) (a1_1 : Int) : Option (Int) := (bung_height.f k a0_0 a0_1 l0_2).bind fun bt161 => ((bung_courses.f k l0_2).bind fun t163 => ((bung_all.f k t163).bind fun t166 => (if bt161.1 > a1_0 then (bung_fits.j0 k t166 true a0_0 a0_1 l0_2 a1_0 a1_1 bt161.1 bt161.2) else (bung_fits.j0 k t166 (t166 == 0) a0_0 a0_1 l0_2 a1_0 a1_1 bt161.1 bt161.2))))
theorem bung_fits.mono_l : ∀ k, (∀ y0 y1 y2 y3 y4 y5 y6 y7 y8, LeO (bung_fits.j0 k y0 y1 y2 y3 y4 y5 y6 y7 y8) (bung_fits.j0 (k + 1) y0 y1 y2 y3 y4 y5 y6 y7 y8))
 | 0 => fun _ _ _ _ _ _ _ _ _ r h => by simp [bung_fits.j0] at h
 | k + 1 => by
  have ih0 := bung_fits.mono_l k
  ·intro y0 y1 y2 y3 y4 y5 y6 y7 y8
   unfold bung_fits.j0
   repeat' first
   | (with_reducible exact ih0 _ _ _ _ _ _ _ _ _)
   | (with_reducible exact bung_all.mono _ _)
   | (with_reducible exact bung_courses.mono _ _)
   | (with_reducible exact bung_height.mono _ _ _ _)
   | (with_reducible exact bung_lean.mono _ _ _ _)
   | (with_reducible exact LeO.refl _)
   | (with_reducible exact LeO.none _)
   | (with_reducible refine LeO.ite ?_ ?_)
   | (with_reducible refine LeO.bind ?_ (fun _ => ?_))
   | exact ih0 _ _ _ _ _ _ _ _ _
   | exact bung_all.mono _ _
   | exact bung_courses.mono _ _
   | exact bung_height.mono _ _ _ _
   | exact bung_lean.mono _ _ _ _
   | exact LeO.none _
   | refine LeO.ite ?_ ?_
   | refine LeO.bind ?_ (fun _ => ?_)
theorem bung_fits.mono : ∀ a0 a1 a2 a3 a4 k, LeO (bung_fits.f k a0 a1 a2 a3 a4) (bung_fits.f (k + 1) a0 a1 a2 a3 a4) := by
 intro a0 a1 a2 a3 a4 k
 have ih0 := bung_fits.mono_l k
 unfold bung_fits.f
 repeat' first
   | (with_reducible exact ih0 _ _ _ _ _ _ _ _ _)
   | (with_reducible exact bung_all.mono _ _)
   | (with_reducible exact bung_courses.mono _ _)
   | (with_reducible exact bung_height.mono _ _ _ _)
   | (with_reducible exact bung_lean.mono _ _ _ _)
   | (with_reducible exact LeO.refl _)
   | (with_reducible exact LeO.none _)
   | (with_reducible refine LeO.ite ?_ ?_)
   | (with_reducible refine LeO.bind ?_ (fun _ => ?_))
   | exact ih0 _ _ _ _ _ _ _ _ _
   | exact bung_all.mono _ _
   | exact bung_courses.mono _ _
   | exact bung_height.mono _ _ _ _
   | exact bung_lean.mono _ _ _ _
   | exact LeO.none _
   | refine LeO.ite ?_ ?_
   | refine LeO.bind ?_ (fun _ => ?_)
def bung_fits.T1 : Bool × List (List Nat × List Nat) := (true, [([], []), ([0], [0]), ([], []), ([2], [2]), ([3, 1], [3]), ([4, 4], [4]), ([], []), ([6, 1, 5, 0, 1, 6], [1, 6]), ([5, 7, 0, 1, 2, 3, 4, 5, 6, 7], [5])])
def bung_fits.B1 : List Nat := [0, 1, 0, 4, 15, 31, 0, 127, 255]
theorem bung_fits.tab1 : rtab .any (opsOf Try.f86 1) = bung_fits.T1 := by kernel_rfl
theorem bung_fits.bits1 : waitsOk bung_fits.T1.2 bung_fits.B1 = true := by kernel_rfl
def bung_fits.T4 : Bool × List (List Nat × List Nat) := (true, [([], []), ([0], [0]), ([], []), ([2], [2]), ([1, 3], [1, 3]), ([4], [4]), ([5], [5]), ([6, 5, 5], [5, 6]), ([5], [5]), ([8, 5], [5, 8]), ([7, 9, 5], [5, 7, 9]), ([5, 10], [5, 10]), ([11, 7], [11]), ([12], [12]), ([13, 12], [12, 13]), ([12, 14], [12, 14]), ([15, 12], [15])])
def bung_fits.B4 : List Nat := [0, 1, 0, 4, 15, 31, 63, 127, 63, 319, 1023, 2047, 4095, 8191, 16383, 32767, 65535]
theorem bung_fits.tab4 : rtab .any (opsOf Try.f86 4) = bung_fits.T4 := by kernel_rfl
theorem bung_fits.bits4 : waitsOk bung_fits.T4.2 bung_fits.B4 = true := by kernel_rfl
end Go.Proofs.Ytbiakjgjedhjhaa.P
