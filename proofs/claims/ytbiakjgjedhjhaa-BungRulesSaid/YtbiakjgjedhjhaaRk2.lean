/- Proved: the law BungRules of the program potbank answers true for every input, and leaves its arguments as they were. Conditions: none. (Part 2 of the texts, put together by wip/assemble.py of this repository.) -/
import Derived.Test.YtbiakjgjedhjhaaRk1
set_option linter.unusedVariables false
set_option linter.unusedSimpArgs false
namespace Go.Proofs.Ytbiakjgjedhjhaa.P
open Go.RowKit Go.Proofs.YtbiakjgjedhjhaaW.PrintWords Go.Proofs.YtbiakjgjedhjhaaW.PrintLast
attribute [local go_sem] Oper.semAt_some
set_option maxHeartbeats 4000000 in
set_option maxRecDepth 100000 in
theorem bung_loads.calls (A0 : Option Addr) (c0 : Nat) (l0 : List S52) (r : List S23) (w : World) (hr0 : Kd.C k52 w A0 l0.length l0) (hc0 : l0.length ≤ c0) (h : bung_loads.f l0 = some r) :
  Calls Try.prog 88 #[.slice A0 l0.length c0] w fun e w' => ∃ v0_ : Value, e = .returned v0_ ∧ Kd.R k23 23 w' w.heap.size (fun _ => True) v0_ r ∧ Below w.heap.size w w' := by
 have hl : okSome l0 = true := by
  unfold bung_loads.f at h
  split at h
  ·assumption
  ·cases h
 obtain rfl : loadsOf l0 = r := by
  unfold bung_loads.f at h
  rw [if_pos hl] at h
  exact Option.some.inj h
 clear h
 have HL := pA hl
 have HR0 := pA hr0
 have hle : l0.length ≤ 30 := by simp only [okSome, Bool.and_eq_true, decide_eq_true_eq] at hl; exact hl.1
 clear hl hr0
 refine (callsIn_wide (n := 10)).1 ?_
 refine callsIn_of_wp_marks Try.func88 rfl trivial ?_ rfl
 simp only [Try.ntmps88, List.size_toArray, List.length_cons, List.length_nil, Nat.reduceAdd, Nat.reduceSub, Array.replicate_succ, Array.replicate_zero, List.push_toArray, List.append_toArray, List.nil_append, List.cons_append]
 have hmk : ∀ W : World, (Instr.makeSlice 57 (.int .i64 (l0.length : Int)) (.int .i64 (l0.length : Int))).run Try.prog W = .ok (.slice (some ⟨W.heap.size, 0, none⟩) l0.length l0.length) (W.alloc (.cells (flatR (outAt l0 0)).toArray 23)) := by
  intro W
  obtain ⟨i0, hi, hz0, hz1, hz2⟩ := info_parts info23
  have := run_make (P := Try.prog) W 57 23 i0 _ Try.underlying57 hi hz0 .i64 .i64 (l0.length : Int) (l0.length : Int) (by omega) (by omega) (by rw [hz2]; omega) (by omega)
  rw [this, hz1, outAt_zero, made_flat]
  rfl
 gi_wp2_with fail
 refine ⟨trivial, (callsIn_wide.2 (down_calls _ _ _ _)).mono ?_⟩
 rintro e w1 ⟨rfl, hw1⟩
 have HW1 := pA hw1
 have hg1 : w1.heap[w.heap.size]? = some (.cells (flatR (outAt l0 0)).toArray 23 (0, 0)) := by rw [← hw1]; exact blk_alloc (blk_alloc (heap_alloc_new w _) _) _
 have hg2 : w1.heap[w.heap.size + 1]? = some (.cells #[.slice (some ⟨w.heap.size, 0, none⟩) l0.length l0.length] 57 (0, 0)) := by
  rw [← hw1]
  have := heap_alloc_new (w.alloc (.cells (flatR (outAt l0 0)).toArray 23)) (.cells #[.slice (some ⟨w.heap.size, 0, none⟩) l0.length l0.length] 57)
  rw [World.size_alloc] at this
  exact blk_alloc this _
 have hg3 : w1.heap[w.heap.size + 2]? = some (.cells #[.slice A0 l0.length c0] 24 (0, 0)) := by
  rw [← hw1]
  have := heap_alloc_new ((w.alloc (.cells (flatR (outAt l0 0)).toArray 23)).alloc (.cells #[.slice (some ⟨w.heap.size, 0, none⟩) l0.length l0.length] 57)) (.cells #[.slice A0 l0.length c0] 24)
  rw [World.size_alloc, World.size_alloc] at this
  exact this
 have hs1 : w1.heap.size = w.heap.size + 3 := by rw [← hw1]; simp
 have HB1 : Aside0 (Below w.heap.size w w1) := ⟨by rw [← hw1]; exact below_alloc (below_alloc (below_alloc (Below.refl _ _) _) _) _⟩
 have HS1 := pA hs1
 have HG1 := pA hg1
 have HG2 := pA hg2
 have HG3 := pA hg3
 clear hw1 HW1 hg1 hg2 hg3 hs1 hmk
 gi_wp2
 refine Rng.wpIn_rangeFunc_N (m := 1) (gf := 145) (lb := #[.pointer (some ⟨w.heap.size + 2, 0, none⟩)]) rfl (enters_of Try.func145 (by kernel_rfl) rfl)
  (down_stops A0 c0 l0 w1 (fun k => k < w.heap.size ∨ k = w.heap.size + 2) (w.heap.size + 2) HL.out (.inr rfl) (by have := HS1.out; omega) HG3.out w.heap.size (fun k h => .inl h) (fun k h => by have := HS1.out; omega) w rfl HR0.out HB1.out)
  (fun k h => by have := HS1.out; omega) (Below.refl _ _) (fun _ => rfl)
  (fun pre W => W.heap[w.heap.size]? = some (.cells (flatR (outAt l0 pre.length)).toArray 23 (0, 0)) ∧ W.heap[w.heap.size + 1]? = some (.cells #[.slice (some ⟨w.heap.size, 0, none⟩) l0.length l0.length] 57 (0, 0)) ∧ Below w.heap.size w W)
  (fun _ _ _ => False)
  (fun s A C row hs hg hr => ⟨blk_grown hs.1 hg (fun e => by have := hr _ e.symm; have := HS1.out; omega), blk_grown hs.2.1 hg (fun e => by have := hr _ e.symm; have := HS1.out; omega), pw_below_grown hs.2.2 _ hs.2.2.size hg (fun k e => by have := hr _ e; have := HS1.out; omega)⟩)
  (fun _ _ _ _ _ h _ _ => h)
  ⟨HG1.out, HG2.out, HB1.out⟩
  (fun x W a1 => ∃ Bx, w.heap.size + 6 ≤ Bx ∧ W.heap[Bx]? = some (.cells #[.int .i64 x.2.f0, .int .i64 x.2.f1] 23 (0, 0)) ∧
   a1 = { tmps := #[.slice A0 l0.length c0, undef, .slice none 0 0, .pointer (some ⟨w.heap.size + 1, 0, none⟩), .int .i64 x.1, .pointer (some ⟨Bx, 0, none⟩), .slice A0 l0.length c0, .int .i64 (l0.length : Int), .slice (some ⟨w.heap.size, 0, none⟩) l0.length l0.length, .slice A0 l0.length c0, .func (.func 145) #[] #[.pointer (some ⟨w.heap.size + 2, 0, none⟩)], .int .i64 x.1, .agg #[.int .i64 x.2.f0, .int .i64 x.2.f1], undef, undef, undef, undef, undef], defers := [] })
  (fun x a1 A C row hs hg hr => by
   obtain ⟨Bx, h1, h2, h3⟩ := hs
   exact ⟨Bx, h1, blk_grown h2 hg (fun e => by have := hr _ e.symm; have := HS1.out; omega), h3⟩)
  ?assign ?body ?done ?stop
 case assign =>
  rintro l pre x W K ⟨h1, h2, h3⟩ hpre hsz hK
  have HK := pA hK
  clear hK
  have HH1 := pA h1
  have HH2 := pA h2
  have HH3 := pA h3
  clear h1 h2 h3
  simp only [encDown]
  gi_wp2
  refine HK.out _ _ ⟨W.heap.size, by have := HS1.out; omega, heap_alloc_new W _, rfl⟩ ⟨blk_alloc HH1.out _, blk_alloc HH2.out _, below_alloc HH3.out _⟩ (Rng.Keep.of_below (below_alloc (Below.refl _ _) _) (fun k hk => by have := HS1.out; omega)) (fun k h1 h2 => ?_) (by simp)
  exact Below.heap_alloc W _ k (by have := HS1.out; omega)
 case body =>
  rintro l pre x a1 W ⟨h1, h2, h3⟩ ⟨Bx, hBx, hb, rfl⟩ hpre hsz
  have HH1 := pA h1
  have HH2 := pA h2
  have HH3 := pA h3
  obtain ⟨hpl, rfl⟩ := downs_snoc l0 hpre
  dsimp only at hb ⊢
  have e3 : ((l0.length : Int) - (pre.length + 1)).toNat = l0.length - (pre.length + 1) := by omega
  have hlen : (outAt l0 pre.length).length = l0.length := outAt_length _ _
  have y0 := blk_cell h2 0
  have y1 := blk_cell hb 0
  have y2 := blk_cell hb 1
  obtain ⟨v0, z0⟩ : ∃ v, W.cell? ⟨w.heap.size, ((l0.length : Int) - (pre.length + 1)).toNat * 2, none⟩ = some v := by
   rw [blk_cell h1, List.getElem?_toArray]
   exact ⟨_, List.getElem?_eq_getElem (by rw [flatR_length, hlen]; omega)⟩
  obtain ⟨v1, z1⟩ : ∃ v, W.cell? ⟨w.heap.size, ((l0.length : Int) - (pre.length + 1)).toNat * 2 + 1, none⟩ = some v := by
   rw [blk_cell h1, List.getElem?_toArray]
   exact ⟨_, List.getElem?_eq_getElem (by rw [flatR_length, hlen]; omega)⟩
  have z2 := blk_frozen h1 (((l0.length : Int) - (pre.length + 1)).toNat * 2)
  have z3 := blk_frozen h1 (((l0.length : Int) - (pre.length + 1)).toNat * 2 + 1)
  obtain ⟨X, hX⟩ : ∃ X : Int, X = (l0.length : Int) - (pre.length + 1) := ⟨_, rfl⟩
  rw [← hX] at z0 z1 z2 z3 e3 ⊢
  have p1 : (0 ≤ X) = True := eq_true (by omega)
  have p2 : (X < (l0.length : Int)) = True := eq_true (by omega)
  have HE3 := pA e3
  have HXX := pA hX
  have HPL := pA hpl
  have HHB := pA hb
  clear h1 h2 h3 hb e3 hX hlen hpl
  gi_wp2
  have hst : ∀ k, some k ≠ some w.heap.size → ((W.setCell ⟨w.heap.size, X.toNat * 2, none⟩ (.int .i64 (sumW (l0.drop (l0.length - pre.length))).f0)).setCell ⟨w.heap.size, X.toNat * 2 + 1, none⟩ (.int .i64 (sumW (l0.drop (l0.length - pre.length))).f1)).heap[k]? = W.heap[k]? := fun k hk => by
   rw [Below.heap_setCell _ _ _ k (fun e => hk (by rw [e])), Below.heap_setCell _ _ _ k (fun e => hk (by rw [e]))]
  refine ⟨fun k h1 h2 => hst k (by intro e; cases e; have := HS1.out; omega), ⟨rfl, rfl, rfl, by simp, fun k hk => hst k (by intro e; cases e; omega)⟩, ?_, (hst _ (by simp)).trans HH2.out, ⟨HH3.out.os, HH3.out.tape, HH3.out.output, by simpa using HH3.out.size, fun k hk => (hst k (by intro e; cases e; omega)).trans (HH3.out.block k hk)⟩⟩
  have e5 := outAt_step l0 pre.length HPL.out
  rw [← HE3.out] at e5
  rw [List.length_append, List.length_singleton, ← e5, flatR_set _ _ _ (by rw [outAt_length, HE3.out]; have := HPL.out; omega), Nat.mul_comm 2]
  exact blk_put (blk_put HH1.out _ _ rfl) _ _ (by simp)
 case done =>
  rintro W ⟨h1, h2, h3⟩ hK
  have y0 := blk_cell h2 0
  have HH1 := pA h1
  have HH3 := pA h3
  clear h1 h2 h3
  gi_wp2
  refine ⟨by simp, .inl ⟨_, _, rfl, run_takeDeferred hK, ?_⟩⟩
  have e6 := HH1.out
  rw [downs_length, outAt_all] at e6
  have e7 := R_of_block (W := W.putObj w1.heap.size (.deferred none)) (base := w.heap.size) (g := w.heap.size) (xs := loadsOf l0) (Nat.le_refl _) (by rw [loadsOf_length]; omega) ((World.putObj_heap_other (by have := HS1.out; omega)).trans e6)
  rw [loadsOf_length] at e7
  refine ⟨_, results_tmp rfl _ _ _, ?_⟩
  exact ⟨_, rfl, e7, ⟨HH3.out.os, HH3.out.tape, HH3.out.output, by simpa using HH3.out.size, fun k hk => (World.putObj_heap_other (by have := HS1.out; omega)).trans (HH3.out.block k hk)⟩⟩
 case stop =>
  intro c pre W _ h _
  exact h.elim
end Go.Proofs.Ytbiakjgjedhjhaa.P
namespace Go.Proofs.Ytbiakjgjedhjhaa.P
open Go.RowKit Go.Proofs.YtbiakjgjedhjhaaW.PrintWords Go.Proofs.YtbiakjgjedhjhaaW.PrintLast
def slices_Clone_int_int.f (l0 : List Int) : Option (List Int) := if l0.length < 17592186044416 then some l0 else none
theorem R_empty {α : Type} (d : Kd α) (e : Nat) (W : World) (ok : Nat → Prop) (hok : ∀ k, ok k) : Kd.R d e (W.alloc (.cells #[] e)) W.heap.size ok (.slice (some ⟨W.heap.size, 0, none⟩) 0 0) [] :=
  ⟨fun k _ => hok k, [], ⟨by simp, .inr ⟨W.heap.size, 0, #[], rfl, Nat.le_refl _, heap_alloc_new W _, Nat.le_refl _, by simp [maxLen], by simp, by simp⟩⟩, ⟨by simp, fun j p hj => by simp at hj⟩⟩
set_option maxHeartbeats 4000000 in
set_option maxRecDepth 100000 in
theorem slices_Clone_int_int.calls (A0 : Option Addr) (c0 : Nat) (l0 : List Int) (r : List Int) (w : World) (hr0 : Kd.C (Kd.int .i64) w A0 l0.length l0) (hc0 : l0.length ≤ c0) (h : slices_Clone_int_int.f l0 = some r) :
  Calls Try.prog 125 #[.slice A0 l0.length c0] w fun e w' => ∃ v0_ : Value, e = .returned v0_ ∧ Kd.R (Kd.int .i64) 3 w' w.heap.size (fun _ => True) v0_ r ∧ Below w.heap.size w w' := by
 unfold slices_Clone_int_int.f at h
 split at h
 case isFalse => cases h
 rename_i hlt
 obtain rfl := Option.some.inj h
 clear h
 have HR0 := pA hr0
 have HLT := pA hlt
 clear hr0 hlt
 rcases A0 with _ | ad
 ·obtain rfl : l0 = [] := by
   rcases Nat.eq_zero_or_pos l0.length with h0 | h0
   ·exact List.eq_nil_of_length_eq_zero h0
   ·obtain ⟨ad, h, _⟩ := HR0.out.2.2 h0
    cases h
  have hnil := fun W => Go.Lib.run_eql_slice_nil (P := Try.prog) W 38 3 none 0 c0 0 0 Try.underlying38
  go_enter Try.func125, Try.ntmps125
  go_wp2
  go_ret
  exact ⟨_, rfl, Kd.R_nil _ _ _ _ _, Below.refl _ _⟩
 ·have hnil := fun W => Go.Lib.run_eql_slice_nil (P := Try.prog) W 38 3 (some ad) l0.length c0 0 0 Try.underlying38
  go_enter Try.func125, Try.ntmps125
  go_wp2_with (at_builtin; refine Kd.R_append_rows (Kd.int .i64) (w0 := w) w.heap.size rfl (.tmp 5) (.tmp 6) 38 3 (.int .i64 0) 8 rfl Try.underlying38 info3 rfl (by decide) (by omega) (.slice (some ⟨w.heap.size, 0, none⟩) 0 0) [] l0 (some ad) l0.length c0 (fun _ => True) (fun _ => False) rfl rfl ?aO ?aR (fun _ _ h => h) (fun _ h => h.elim) (fun _ _ => trivial) ?aB ?aS ?aL ?_; (case aO => exact R_empty _ _ _ _ (fun _ => trivial)); (case aR => exact Kd.C_alloc HR0.out _); (case aB => exact below_alloc (Below.refl _ _) _); (case aS => simp); (case aL => have := HLT.out; simp; omega); intro v1 w1 ho hb hg hat; have HO := pA ho; have HB := pA hb; clear ho hb hg hat)
  go_ret
  exact ⟨_, rfl, HO.out, HB.out⟩
abbrev slices_Clone_int_int_125.f (l0 : List Int) : Option (List Int) := slices_Clone_int_int.f l0
theorem slices_Clone_int_int_125.calls (A0 : Option Addr) (c0 : Nat) (l0 : List Int) (r : List Int) (w : World) (hr0 : Kd.C (Kd.int .i64) w A0 l0.length l0) (hc0 : l0.length ≤ c0) (h : slices_Clone_int_int_125.f l0 = some r) :
    Calls Try.prog 125 #[.slice A0 l0.length c0] w fun e w' => ∃ v0_ : Value, e = .returned v0_ ∧ Kd.R (Kd.int .i64) 3 w' w.heap.size (fun _ => True) v0_ r ∧ Below w.heap.size w w' := slices_Clone_int_int.calls A0 c0 l0 r w hr0 hc0 h
def cmp_Or_int.l0 : Nat → Int → List Int → Int → Int → Option (Int)
  | 0, _, _, _, _ => none
  | k + 1, x3, x6, x7, x8 => if x8 < x7 then (if 0 ≤ x8 then (if x8 < (x6.length : Int) then (if (rd x6 x8) = x3 then (cmp_Or_int.l0 k x3 x6 x7 (wrap64 (x8 + 1))) else (some (rd x6 x8))) else (none)) else (none)) else (some x3)
def cmp_Or_int.f (k : Nat) (l0 : List Int) : Option (Int) := cmp_Or_int.l0 k 0 l0 (l0.length : Int) 0
theorem cmp_Or_int.mono_l : ∀ k, (∀ y0 y1 y2 y3, LeO (cmp_Or_int.l0 k y0 y1 y2 y3) (cmp_Or_int.l0 (k + 1) y0 y1 y2 y3))
 | 0 => fun _ _ _ _ r h => by simp [cmp_Or_int.l0] at h
 | k + 1 => by
  have ih0 := cmp_Or_int.mono_l k
  ·intro y0 y1 y2 y3
   unfold cmp_Or_int.l0
   repeat' first
   | (with_reducible exact ih0 _ _ _ _)
   | (with_reducible exact LeO.refl _)
   | (with_reducible exact LeO.none _)
   | (with_reducible refine LeO.ite ?_ ?_)
   | (with_reducible refine LeO.bind ?_ (fun _ => ?_))
   | exact ih0 _ _ _ _
   | exact LeO.none _
   | refine LeO.ite ?_ ?_
   | refine LeO.bind ?_ (fun _ => ?_)
theorem cmp_Or_int.mono : ∀ a0 k, LeO (cmp_Or_int.f k a0) (cmp_Or_int.f (k + 1) a0) := by
 intro a0 k
 have ih0 := cmp_Or_int.mono_l k
 unfold cmp_Or_int.f
 repeat' first
   | (with_reducible exact ih0 _ _ _ _)
   | (with_reducible exact LeO.refl _)
   | (with_reducible exact LeO.none _)
   | (with_reducible refine LeO.ite ?_ ?_)
   | (with_reducible refine LeO.bind ?_ (fun _ => ?_))
   | exact ih0 _ _ _ _
   | exact LeO.none _
   | refine LeO.ite ?_ ?_
   | refine LeO.bind ?_ (fun _ => ?_)
set_option maxHeartbeats 8000000 in
set_option maxRecDepth 100000 in
theorem cmp_Or_int.calls (k : Nat) (A0 : Option Addr) (c0 : Nat) (l0 : List Int) (r : Int) (w : World) (hr0 : Kd.C (Kd.int .i64) w A0 l0.length l0) (hc0 : l0.length ≤ c0) (h : cmp_Or_int.f k l0 = some r) :
  Calls Try.prog 135 #[.slice A0 l0.length c0] w fun e w' => e = .returned (.int .i64 r) ∧ Drawn0 w w' := by
 have HR0 := pA hr0
 have HC0 := pA hc0
 clear hr0 hc0
 have H : (cmp_Or_int.l0 k 0 l0 (l0.length : Int) 0) = some r := h
 clear h
 have H' := pA H
 clear H
 go_enter Try.func135, Try.ntmps135
 go_wp2
 go_loopg [8] k (fun kq v8 w' => ∃ (x8_1 : Int), v8 = .int .i64 x8_1 ∧ Aside0 (cmp_Or_int.l0 kq 0 l0 (l0.length : Int) x8_1 = some r) ∧ Aside0 (kq ≤ k) ∧ Drawn0 w w')
 case atStart => exact ⟨(0), (by first | rfl | (simp; done) | (simp [*]; done)), H', ⟨Nat.le_refl _⟩, by repeat (first | exact Drawn0.refl _ | apply Drawn0.step)⟩
 case round =>
  clear H'
  try clear c1
  obtain ⟨x8_1, rfl, HA, HK1, ⟨m1, rfl⟩⟩ := hrel
  cases gk with
  | zero => exact absurd HA.out (by simp [cmp_Or_int.l0])
  | succ k1 =>
   have H := HA.out
   clear HA
   simp only [cmp_Or_int.l0] at H
   by_cases c2 : x8_1 < (l0.length : Int)
   ·rw [if_pos c2] at H
    have c2b0 : decide (x8_1 < (l0.length : Int)) = true := decide_eq_true c2
    clear c2
    by_cases c3 : 0 ≤ x8_1
    ·rw [if_pos c3] at H
     have c3b0 : decide (0 ≤ x8_1) = true := decide_eq_true c3
     clear c3
     by_cases c4 : x8_1 < (l0.length : Int)
     ·rw [if_pos c4] at H
      have c4b0 : decide (x8_1 < (l0.length : Int)) = true := decide_eq_true c4
      clear c4
      by_cases c5 : (rd l0 x8_1) = 0
      ·rw [if_pos c5] at H
       have c5b0 : ((rd l0 x8_1) == 0) = true := beq_iff_eq.mpr c5
       have c5b1 : ((rd l0 x8_1) != 0) = false := bne_eq_false_iff_eq.mpr c5
       clear c5
       have H' := pA H
       clear H
       have p106 : 0 ≤ (x8_1 : Int) := of_decide_eq_true (by first | (with_reducible assumption) | assumption)
       have q106 : x8_1 < (l0.length : Int) := of_decide_eq_true (by first | (with_reducible assumption) | assumption)
       obtain ⟨ad106, e106, hx106_0⟩ := Kd.at_int HR0.out x8_1 p106 q106
       cases e106
       replace p106 := eq_true p106
       replace q106 := eq_true q106
       go_wp2
       go_roundg k1
       case measure => have := HK1.out; omega
       case rel => exact ⟨(wrap64 (x8_1 + 1)), (by first | rfl | (simp; done) | (simp [*]; done)), H', ⟨by have := HK1.out; omega⟩, by repeat (first | exact Drawn0.refl _ | apply Drawn0.step)⟩
      ·rw [if_neg c5] at H
       have c5b0 : ((rd l0 x8_1) == 0) = false := beq_eq_false_iff_ne.mpr c5
       have c5b1 : ((rd l0 x8_1) != 0) = true := bne_iff_ne.mpr c5
       obtain rfl := Option.some.inj H
       have p106 : 0 ≤ (x8_1 : Int) := of_decide_eq_true (by first | (with_reducible assumption) | assumption)
       have q106 : x8_1 < (l0.length : Int) := of_decide_eq_true (by first | (with_reducible assumption) | assumption)
       obtain ⟨ad106, e106, hx106_0⟩ := Kd.at_int HR0.out x8_1 p106 q106
       cases e106
       replace p106 := eq_true p106
       replace q106 := eq_true q106
       go_wp2
       go_ret
       exact ⟨by first | rfl | (simp; done) | (simp [*]; done), by repeat (first | exact Drawn0.refl _ | apply Drawn0.step)⟩
     ·rw [if_neg c4] at H
      exact absurd H (by simp)
    ·rw [if_neg c3] at H
     exact absurd H (by simp)
   ·rw [if_neg c2] at H
    have c2b0 : decide (x8_1 < (l0.length : Int)) = false := decide_eq_false c2
    clear c2
    obtain rfl := Option.some.inj H
    go_wp2
    go_ret
    exact ⟨by first | rfl | (simp; done) | (simp [*]; done), by repeat (first | exact Drawn0.refl _ | apply Drawn0.step)⟩
def cmp_isNaN_int.f (a0 : Int) : Option (Bool) := some (a0 != a0)
set_option maxHeartbeats 8000000 in
set_option maxRecDepth 100000 in
theorem cmp_isNaN_int.calls (a0 : Int) (r : Bool) (w : World) (h : cmp_isNaN_int.f a0 = some r) :
  Calls Try.prog 149 #[.int .i64 a0] w fun e w' => e = .returned (.bool r) ∧ Drawn0 w w' := by
 have H : (some (a0 != a0)) = some r := h
 clear h
 obtain rfl := Option.some.inj H
 go_enter Try.func149, Try.ntmps149
 go_wp2
 go_ret
 exact ⟨by first | rfl | (simp; done) | (simp [*]; done), by repeat (first | exact Drawn0.refl _ | apply Drawn0.step)⟩
def cmp_Compare_int.f (a0 : Int) (a1 : Int) : Option (Int) := (cmp_isNaN_int.f a0).bind fun t107 => ((cmp_isNaN_int.f a1).bind fun t108 => (if t107 = true then (if t108 = true then (some 0) else (some (-1))) else (if t108 = true then (some 1) else (if a0 < a1 then (some (-1)) else (if a0 > a1 then (some 1) else (some 0))))))
set_option maxHeartbeats 8000000 in
set_option maxRecDepth 100000 in
theorem cmp_Compare_int.calls (a0 : Int) (a1 : Int) (r : Int) (w : World) (h : cmp_Compare_int.f a0 a1 = some r) :
  Calls Try.prog 136 #[.int .i64 a0, .int .i64 a1] w fun e w' => e = .returned (.int .i64 r) ∧ Drawn0 w w' := by
 have H : ((cmp_isNaN_int.f a0).bind fun t107 => ((cmp_isNaN_int.f a1).bind fun t108 => (if t107 = true then (if t108 = true then (some 0) else (some (-1))) else (if t108 = true then (some 1) else (if a0 < a1 then (some (-1)) else (if a0 > a1 then (some 1) else (some 0))))))) = some r := h
 clear h
 replace H := Option.bind_eq_some_iff.mp H
 obtain ⟨t107, A30, H⟩ := H
 replace H : ((cmp_isNaN_int.f a1).bind fun t108 => (if t107 = true then (if t108 = true then (some 0) else (some (-1))) else (if t108 = true then (some 1) else (if a0 < a1 then (some (-1)) else (if a0 > a1 then (some 1) else (some 0)))))) = some r := H
 have A3 := pA A30
 clear A30
 replace H := Option.bind_eq_some_iff.mp H
 obtain ⟨t108, A40, H⟩ := H
 replace H : (if t107 = true then (if t108 = true then (some 0) else (some (-1))) else (if t108 = true then (some 1) else (if a0 < a1 then (some (-1)) else (if a0 > a1 then (some 1) else (some 0))))) = some r := H
 have A4 := pA A40
 clear A40
 by_cases c5 : t107 = true
 ·subst c5
  have H1 : (if t108 = true then (some 0) else (some (-1))) = some r := by rw [if_pos rfl] at H; exact H
  clear H
  have H := H1
  clear H1
  by_cases c6 : t108 = true
  ·subst c6
   have H1 : (some 0) = some r := by rw [if_pos rfl] at H; exact H
   clear H
   have H := H1
   clear H1
   obtain rfl := Option.some.inj H
   go_enter Try.func136, Try.ntmps136
   go_wp2_with (first | ((with_reducible refine aF (f := 149) rfl ?_); refine goesL_ (some 8) rfl rfl Try.func149 (by kernel_rfl) rfl #[.int .i64 a0] rfl (by (try simp only [pE, pF, pG]); first | done | rfl | (simp only [pH, pI]; rfl)) ?_; (with_reducible refine (cmp_isNaN_int.calls a0 true _ A3.out).mono ?_); rintro e w' ⟨rfl, ⟨nd, rfl⟩⟩; refine ⟨_, rfl, ?_⟩) | ((with_reducible refine aF (f := 149) rfl ?_); refine goesL_ (some 10) rfl rfl Try.func149 (by kernel_rfl) rfl #[.int .i64 a1] rfl (by (try simp only [pE, pF, pG]); first | done | rfl | (simp only [pH, pI]; rfl)) ?_; (with_reducible refine (cmp_isNaN_int.calls a1 true _ A4.out).mono ?_); rintro e w' ⟨rfl, ⟨nd, rfl⟩⟩; refine ⟨_, rfl, ?_⟩))
   go_ret
   exact ⟨by first | rfl | (simp; done) | (simp [*]; done), by repeat (first | exact Drawn0.refl _ | apply Drawn0.step)⟩
  ·replace c6 := Bool.eq_false_iff.mpr c6
   subst c6
   have H1 : (some (-1)) = some r := by rw [if_neg (show ¬ (false = true) by decide)] at H; exact H
   clear H
   have H := H1
   clear H1
   obtain rfl := Option.some.inj H
   go_enter Try.func136, Try.ntmps136
   go_wp2_with (first | ((with_reducible refine aF (f := 149) rfl ?_); refine goesL_ (some 8) rfl rfl Try.func149 (by kernel_rfl) rfl #[.int .i64 a0] rfl (by (try simp only [pE, pF, pG]); first | done | rfl | (simp only [pH, pI]; rfl)) ?_; (with_reducible refine (cmp_isNaN_int.calls a0 true _ A3.out).mono ?_); rintro e w' ⟨rfl, ⟨nd, rfl⟩⟩; refine ⟨_, rfl, ?_⟩) | ((with_reducible refine aF (f := 149) rfl ?_); refine goesL_ (some 10) rfl rfl Try.func149 (by kernel_rfl) rfl #[.int .i64 a1] rfl (by (try simp only [pE, pF, pG]); first | done | rfl | (simp only [pH, pI]; rfl)) ?_; (with_reducible refine (cmp_isNaN_int.calls a1 false _ A4.out).mono ?_); rintro e w' ⟨rfl, ⟨nd, rfl⟩⟩; refine ⟨_, rfl, ?_⟩))
   go_ret
   exact ⟨by first | rfl | (simp; done) | (simp [*]; done), by repeat (first | exact Drawn0.refl _ | apply Drawn0.step)⟩
 ·replace c5 := Bool.eq_false_iff.mpr c5
  subst c5
  have H1 : (if t108 = true then (some 1) else (if a0 < a1 then (some (-1)) else (if a0 > a1 then (some 1) else (some 0)))) = some r := by rw [if_neg (show ¬ (false = true) by decide)] at H; exact H
  clear H
  have H := H1
  clear H1
  by_cases c7 : t108 = true
  ·subst c7
   have H1 : (some 1) = some r := by rw [if_pos rfl] at H; exact H
   clear H
   have H := H1
   clear H1
   obtain rfl := Option.some.inj H
   go_enter Try.func136, Try.ntmps136
   go_wp2_with (first | ((with_reducible refine aF (f := 149) rfl ?_); refine goesL_ (some 8) rfl rfl Try.func149 (by kernel_rfl) rfl #[.int .i64 a0] rfl (by (try simp only [pE, pF, pG]); first | done | rfl | (simp only [pH, pI]; rfl)) ?_; (with_reducible refine (cmp_isNaN_int.calls a0 false _ A3.out).mono ?_); rintro e w' ⟨rfl, ⟨nd, rfl⟩⟩; refine ⟨_, rfl, ?_⟩) | ((with_reducible refine aF (f := 149) rfl ?_); refine goesL_ (some 10) rfl rfl Try.func149 (by kernel_rfl) rfl #[.int .i64 a1] rfl (by (try simp only [pE, pF, pG]); first | done | rfl | (simp only [pH, pI]; rfl)) ?_; (with_reducible refine (cmp_isNaN_int.calls a1 true _ A4.out).mono ?_); rintro e w' ⟨rfl, ⟨nd, rfl⟩⟩; refine ⟨_, rfl, ?_⟩))
   go_ret
   exact ⟨by first | rfl | (simp; done) | (simp [*]; done), by repeat (first | exact Drawn0.refl _ | apply Drawn0.step)⟩
  ·replace c7 := Bool.eq_false_iff.mpr c7
   subst c7
   have H1 : (if a0 < a1 then (some (-1)) else (if a0 > a1 then (some 1) else (some 0))) = some r := by rw [if_neg (show ¬ (false = true) by decide)] at H; exact H
   clear H
   have H := H1
   clear H1
   by_cases c8 : a0 < a1
   ·rw [if_pos c8] at H
    have c8b0 : decide (a0 < a1) = true := decide_eq_true c8
    clear c8
    obtain rfl := Option.some.inj H
    go_enter Try.func136, Try.ntmps136
    go_wp2_with (first | ((with_reducible refine aF (f := 149) rfl ?_); refine goesL_ (some 8) rfl rfl Try.func149 (by kernel_rfl) rfl #[.int .i64 a0] rfl (by (try simp only [pE, pF, pG]); first | done | rfl | (simp only [pH, pI]; rfl)) ?_; (with_reducible refine (cmp_isNaN_int.calls a0 false _ A3.out).mono ?_); rintro e w' ⟨rfl, ⟨nd, rfl⟩⟩; refine ⟨_, rfl, ?_⟩) | ((with_reducible refine aF (f := 149) rfl ?_); refine goesL_ (some 10) rfl rfl Try.func149 (by kernel_rfl) rfl #[.int .i64 a1] rfl (by (try simp only [pE, pF, pG]); first | done | rfl | (simp only [pH, pI]; rfl)) ?_; (with_reducible refine (cmp_isNaN_int.calls a1 false _ A4.out).mono ?_); rintro e w' ⟨rfl, ⟨nd, rfl⟩⟩; refine ⟨_, rfl, ?_⟩))
    go_ret
    exact ⟨by first | rfl | (simp; done) | (simp [*]; done), by repeat (first | exact Drawn0.refl _ | apply Drawn0.step)⟩
   ·rw [if_neg c8] at H
    have c8b0 : decide (a0 < a1) = false := decide_eq_false c8
    clear c8
    by_cases c9 : a0 > a1
    ·rw [if_pos c9] at H
     have c9b0 : decide (a1 < a0) = true := decide_eq_true c9
     clear c9
     obtain rfl := Option.some.inj H
     go_enter Try.func136, Try.ntmps136
     go_wp2_with (first | ((with_reducible refine aF (f := 149) rfl ?_); refine goesL_ (some 8) rfl rfl Try.func149 (by kernel_rfl) rfl #[.int .i64 a0] rfl (by (try simp only [pE, pF, pG]); first | done | rfl | (simp only [pH, pI]; rfl)) ?_; (with_reducible refine (cmp_isNaN_int.calls a0 false _ A3.out).mono ?_); rintro e w' ⟨rfl, ⟨nd, rfl⟩⟩; refine ⟨_, rfl, ?_⟩) | ((with_reducible refine aF (f := 149) rfl ?_); refine goesL_ (some 10) rfl rfl Try.func149 (by kernel_rfl) rfl #[.int .i64 a1] rfl (by (try simp only [pE, pF, pG]); first | done | rfl | (simp only [pH, pI]; rfl)) ?_; (with_reducible refine (cmp_isNaN_int.calls a1 false _ A4.out).mono ?_); rintro e w' ⟨rfl, ⟨nd, rfl⟩⟩; refine ⟨_, rfl, ?_⟩))
     go_ret
     exact ⟨by first | rfl | (simp; done) | (simp [*]; done), by repeat (first | exact Drawn0.refl _ | apply Drawn0.step)⟩
    ·rw [if_neg c9] at H
     have c9b0 : decide (a1 < a0) = false := decide_eq_false c9
     clear c9
     obtain rfl := Option.some.inj H
     go_enter Try.func136, Try.ntmps136
     go_wp2_with (first | ((with_reducible refine aF (f := 149) rfl ?_); refine goesL_ (some 8) rfl rfl Try.func149 (by kernel_rfl) rfl #[.int .i64 a0] rfl (by (try simp only [pE, pF, pG]); first | done | rfl | (simp only [pH, pI]; rfl)) ?_; (with_reducible refine (cmp_isNaN_int.calls a0 false _ A3.out).mono ?_); rintro e w' ⟨rfl, ⟨nd, rfl⟩⟩; refine ⟨_, rfl, ?_⟩) | ((with_reducible refine aF (f := 149) rfl ?_); refine goesL_ (some 10) rfl rfl Try.func149 (by kernel_rfl) rfl #[.int .i64 a1] rfl (by (try simp only [pE, pF, pG]); first | done | rfl | (simp only [pH, pI]; rfl)) ?_; (with_reducible refine (cmp_isNaN_int.calls a1 false _ A4.out).mono ?_); rintro e w' ⟨rfl, ⟨nd, rfl⟩⟩; refine ⟨_, rfl, ?_⟩))
     go_ret
     exact ⟨by first | rfl | (simp; done) | (simp [*]; done), by repeat (first | exact Drawn0.refl _ | apply Drawn0.step)⟩
end Go.Proofs.Ytbiakjgjedhjhaa.P
namespace Go.Proofs.Ytbiakjgjedhjhaa.P
open Go.RowKit Go.Proofs.YtbiakjgjedhjhaaW.PrintWords Go.Proofs.YtbiakjgjedhjhaaW.PrintLast
open Go.Sort (grow grow_empty grow_grow mapBlock onCells putCells putRow Holds SWO)
/-- How a saggar counts in the setter's rule. -/
def strong (s : S52) : Int := s.f1.f1 + s.f2.f0
/-- Blocks were added, and orders drawn, no more. -/
def Grew (w w' : World) : Prop := ∃ q os, w' = grow (w.drewN q) os
theorem Grew.refl (w : World) : Grew w w := ⟨0, #[], by rw [grow_empty]; rfl⟩
theorem Grew.trans {a b c : World} (h : Grew a b) (k : Grew b c) : Grew a c := by
 obtain ⟨q, os, rfl⟩ := h
 obtain ⟨q', os', rfl⟩ := k
 refine ⟨q + q', os ++ os', ?_⟩
 show grow ((grow (a.drewN q) os).drewN q') os' = _
 rw [← grow_grow]
 simp [grow, World.drewN, Nat.add_assoc]
theorem Grew.drew (w : World) (q : Nat) : Grew w (w.drewN q) := ⟨q, #[], by rw [grow_empty]⟩
theorem Grew.alloc (w : World) (o : Obj) : Grew w (w.alloc o) := ⟨0, #[o], by
  unfold World.alloc grow World.drewN
  simp only [Nat.add_zero, Array.push_eq_append]⟩
theorem Grew.of_drawn {w w' : World} (h : Drawn0 w w') : Grew w w' := by
  obtain ⟨n, rfl⟩ := h
  exact Grew.drew w n
theorem Grew.below {w w' : World} (h : Grew w w') : Below w.heap.size w w' := by
 obtain ⟨q, os, rfl⟩ := h
 refine ⟨rfl, rfl, rfl, by simp [grow, World.drewN], fun k hk => ?_⟩
 simp only [grow, World.drewN]
 rw [Array.getElem?_append_left hk]
set_option maxHeartbeats 4000000 in
set_option maxRecDepth 100000 in
theorem strong_calls (A : Option Addr) (c : Nat) (l : List S52) (W : World) (Bs : Nat) (hbox : W.cell? ⟨Bs, 0, none⟩ = some (.slice A l.length c)) (hC : Kd.C k52 W A l.length l) (i : Int) (h0 : 0 ≤ i) (h1 : i < l.length) (hv : l.all vSag = true) :
  Calls Try.prog 132 #[.int .i64 i, .pointer (some ⟨Bs, 0, none⟩)] W fun e w' => e = .returned (.int .i64 (strong (rd_T52 l i))) ∧ Grew W w' := by
 obtain ⟨ad, e, x0, x1, x2, x3, x4, x5, x6, x7⟩ := at_T52 hC i h0 h1
 cases e
 have hw := all_at hv h0 h1
 simp only [vSag, decide_eq_true_eq] at hw
 have HWr := pA (show wrap64 ((rd_T52 l i).f1.f1 + (rd_T52 l i).f2.f0) = strong (rd_T52 l i) by unfold wrap64 strong; omega)
 clear hw hC hv x0 x1 x4 x5 x6 x7
 have p1 : (0 ≤ i) = True := eq_true h0
 have p2 : (i < (l.length : Int)) = True := eq_true h1
 go_enter Try.func132, Try.ntmps132
 go_wp2
 go_quiet (fail)
 go_wp2
 go_ret
 exact ⟨by rw [← HWr.out]; rfl, Grew.drew _ _⟩
/-- What cmp.Compare tells of whole numbers, and cmp.Or of two. -/
def cmp3 (a b : Int) : Int := if a < b then -1 else if b < a then 1 else 0
def or2 (a b : Int) : Int := if a = 0 then b else a
/-- What the rule's comparison tells. -/
def cfR (l : List S52) (i k : Int) : Int := or2 (cmp3 (strong (rd_T52 l k)) (strong (rd_T52 l i))) (cmp3 (rd_T52 l i).f0 (rd_T52 l k).f0)
theorem rd_at (xs : List S52) (i : Nat) (h : i < xs.length) : rd_T52 xs i = xs[i] := by simp [rd_T52, List.getD_eq_getElem?_getD, h]
theorem compare_f (a b : Int) : cmp_Compare_int.f a b = some (cmp3 a b) := by
  unfold cmp3 cmp_Compare_int.f cmp_isNaN_int.f
  by_cases h1 : a < b <;> by_cases h2 : b < a <;> simp [h1, h2]
theorem or_f (a b : Int) : cmp_Or_int.f 3 [a, b] = some (or2 a b) := by
  unfold or2
  by_cases h : a = 0 <;> by_cases h2 : b = 0 <;> simp [cmp_Or_int.f, cmp_Or_int.l0, rd, wrap64, h, h2]
theorem keep_cell' {w1 w2 : World} {p : Addr} {v : Value} (h : w1.cell? p = some v) (g : Grew w1 w2) : w2.cell? p = some v := pw_cell_below g.below h
theorem pk_keep5 {W w1 w2 : World} {p1 p2 p3 p4 : Addr} {v1 v2 v3 v4 : Value} (h : w1.cell? p1 = some v1 ∧ w1.cell? p2 = some v2 ∧ w1.cell? p3 = some v3 ∧ w1.cell? p4 = some v4 ∧ Grew W w1) (g : Grew w1 w2) :
    w2.cell? p1 = some v1 ∧ w2.cell? p2 = some v2 ∧ w2.cell? p3 = some v3 ∧ w2.cell? p4 = some v4 ∧ Grew W w2 := ⟨keep_cell' h.1 g, keep_cell' h.2.1 g, keep_cell' h.2.2.1 g, keep_cell' h.2.2.2.1 g, h.2.2.2.2.trans g⟩
theorem pk_fifth {A B C D E : Prop} (h : A ∧ B ∧ C ∧ D ∧ E) : E := h.2.2.2.2
theorem C_ints (a b : Int) (W : World) : Kd.C (Kd.int .i64) (W.alloc (.cells #[.int .i64 a, .int .i64 b] 3)) (some ⟨W.heap.size, 0, none⟩) 2 [a, b] := by
 refine ⟨rfl, by decide, fun _ => ⟨_, rfl, fun j p hj => ?_⟩⟩
 have hc : ∀ i : Nat, (W.alloc (.cells #[.int .i64 a, .int .i64 b] 3)).cell? ⟨W.heap.size, i, none⟩ = #[Value.int .i64 a, .int .i64 b][i]? := fun i => blk_cell (by simpa using heap_alloc_new W _) i
 rcases j with _ | _ | j
 ·obtain rfl : a = p := by simpa using hj
  refine ⟨[.int .i64 a], rfl, rfl, fun i u hi => ?_⟩
  rw [add_plain]
  rcases i with _ | i
  ·exact (hc _).trans hi
  ·simp at hi
 ·obtain rfl : b = p := by simpa using hj
  refine ⟨[.int .i64 b], rfl, rfl, fun i u hi => ?_⟩
  rw [add_plain]
  rcases i with _ | i
  ·exact (hc _).trans hi
  ·simp at hi
 ·simp at hj
set_option maxHeartbeats 4000000 in
set_option maxRecDepth 100000 in
theorem before_calls (A : Option Addr) (c : Nat) (l : List S52) (W : World) (Bs Bf : Nat) (hbox : W.cell? ⟨Bs, 0, none⟩ = some (.slice A l.length c)) (hfn : W.cell? ⟨Bf, 0, none⟩ = some (.func (.func 132) #[] #[.pointer (some ⟨Bs, 0, none⟩)])) (hC : Kd.C k52 W A l.length l) (i k : Int) (h0 : 0 ≤ i) (h1 : i < l.length) (h2 : 0 ≤ k) (h3 : k < l.length) (hv : l.all vSag = true) :
  Calls Try.prog 134 #[.int .i64 i, .int .i64 k, .pointer (some ⟨Bf, 0, none⟩), .pointer (some ⟨Bs, 0, none⟩)] W fun e w' => e = .returned (.int .i64 (cfR l i k)) ∧ Grew W w' := by
 obtain ⟨ad, e, x0, -⟩ := at_T52 hC i h0 h1
 cases e
 obtain ⟨ad', e, y0, -⟩ := at_T52 hC k h2 h3
 cases e
 have HC := pA hC
 have HV := pA hv
 have H0 := pA h0
 have H1 := pA h1
 have H2 := pA h2
 have H3 := pA h3
 clear hC hv
 have p1 : (0 ≤ i) = True := eq_true h0
 have p2 : (i < (l.length : Int)) = True := eq_true h1
 have p3 : (0 ≤ k) = True := eq_true h2
 have p4 : (k < (l.length : Int)) = True := eq_true h3
 clear h0 h1 h2 h3
 go_enter Try.func134, Try.ntmps134
 go_wp2
 go_region_held3 (fun w' => w'.cell? ⟨Bs, 0, none⟩ = some (.slice (some ad) l.length c) ∧ w'.cell? ⟨Bf, 0, none⟩ = some (.func (.func 132) #[] #[.pointer (some ⟨Bs, 0, none⟩)]) ∧ w'.cell? (ad.add (i.toNat * 8)) = some (.int .i64 (rd_T52 l i).f0) ∧ w'.cell? (ad.add (k.toNat * 8)) = some (.int .i64 (rd_T52 l k).f0) ∧ Grew W w')
  (first
   | exact ⟨hbox, hfn, x0, y0, Grew.drew W 1⟩
   | exact pk_keep5 (by assumption) (Grew.alloc _ _)
   | exact pk_keep5 (by assumption) (by assumption)
   | go_keep)
  (first
   | (go_at_call 132; refine (strong_calls (some ad) c l _ Bs (And.left (by assumption)) (Kd.C_below HC.out (Grew.below (pk_fifth (by assumption)))) _ (by first | exact H0.out | exact H2.out) (by first | exact H1.out | exact H3.out) HV.out).mono ?_; rintro e w1 ⟨rfl, hg⟩)
   | (go_at_call 136; refine (cmp_Compare_int.calls _ _ _ _ (compare_f _ _)).mono ?_; rintro e w1 ⟨rfl, hd⟩; have hg := Grew.of_drawn hd; clear hd)
   | (go_at_call 135; refine (cmp_Or_int.calls 3 _ _ [_, _] _ _ (C_ints _ _ _) (Nat.le_refl _) (or_f _ _)).mono ?_; rintro e w1 ⟨rfl, hd⟩; have hg := Grew.of_drawn hd; clear hd))
 have hend : ∀ x y : Int, x = y → Ending.returned (.int .i64 x) = .returned (.int .i64 y) := fun x y h => by rw [h]
 go_wp2
 go_ret
 exact ⟨rfl, pk_fifth (by assumption)⟩
/-- The indices of a list. -/
abbrev Ix (n : Nat) := { i : Int // 0 ≤ i ∧ i < (n : Int) }
def encIx {n : Nat} (x : Ix n) : Value := .int .i64 x.1
def ltR (l : List S52) (i k : Int) : Bool := decide (cfR l i k < 0)
theorem ltR_iff (l : List S52) (i k : Int) : ltR l i k = true ↔ (strong (rd_T52 l k) < strong (rd_T52 l i) ∨ (strong (rd_T52 l k) = strong (rd_T52 l i) ∧ (rd_T52 l i).f0 < (rd_T52 l k).f0)) := by
 unfold ltR cfR or2 cmp3
 generalize strong (rd_T52 l k) = a
 generalize strong (rd_T52 l i) = b
 generalize (rd_T52 l i).f0 = c
 generalize (rd_T52 l k).f0 = d
 by_cases h1 : a < b
 ·simp [h1]
 ·by_cases h2 : b < a
  ·have : ¬ a = b := by omega
   simp [h1, h2, this]
  ·have h3 : a = b := by omega
   subst h3
   by_cases h4 : c < d
   ·simp [h4]
   ·by_cases h5 : d < c <;> simp [h4, h5]
/-- Indices by the setter's rule. -/
def sortR (l : List S52) (xs : List Int) : List Int := xs.mergeSort fun x y => !(ltR l y x)
def inIx (n : Nat) (xs : List Int) : Bool := xs.all fun i => decide (0 ≤ i ∧ i < (n : Int))
def bung_rule.f (l0 : List S52) (l1 : List Int) : Option (List Int) := if (okList l0 && (inIx l0.length l1 && decide (l1.length ≤ 30))) = true then some (sortR l0 l1) else none
theorem ltR_not (l : List S52) (i k : Int) (h : ltR l i k = false) : ¬ (strong (rd_T52 l k) < strong (rd_T52 l i) ∨ (strong (rd_T52 l k) = strong (rd_T52 l i) ∧ (rd_T52 l i).f0 < (rd_T52 l k).f0)) := by
  rw [← ltR_iff, h]
  simp
theorem ix_swo (l : List S52) : SWO (ltOf fun x y : Ix l.length => cfR l x.1 y.1) where
 irrefl x := by
  have h := ltR_iff l x.1 x.1
  show ltR l x.1 x.1 = false
  rw [Bool.eq_false_iff]
  intro e
  have := h.1 e
  omega
 trans x y z h1 h2 := by
  have h1 := (ltR_iff l x.1 y.1).1 h1
  have h2 := (ltR_iff l y.1 z.1).1 h2
  exact (ltR_iff l x.1 z.1).2 (by omega)
 ntrans x y z h1 h2 := by
  show ltR l x.1 z.1 = false
  have h1 : ltR l x.1 y.1 = false := h1
  have h2 : ltR l y.1 z.1 = false := h2
  rw [Bool.eq_false_iff]
  intro e
  have h3 := (ltR_iff l x.1 z.1).1 e
  have h1 := ltR_not l _ _ h1
  have h2 := ltR_not l _ _ h2
  omega
theorem ix_total (l : List S52) (hl : okList l = true) (x y : Ix l.length) (h1 : (ltOf fun x y : Ix l.length => cfR l x.1 y.1) x y = false) (h2 : (ltOf fun x y : Ix l.length => cfR l x.1 y.1) y x = false) : x = y := by
 have h1 : ltR l x.1 y.1 = false := h1
 have h2 : ltR l y.1 x.1 = false := h2
 have h1 := ltR_not l _ _ h1
 have h2 := ltR_not l _ _ h2
 have e : (rd_T52 l x.1).f0 = (rd_T52 l y.1).f0 := by omega
 have hx : x.1.toNat < l.length := by have := x.2; omega
 have hy : y.1.toNat < l.length := by have := y.2; omega
 have ex : rd_T52 l x.1 = l[x.1.toNat] := by simp [rd_T52, List.getD_eq_getElem?_getD, hx]
 have ey : rd_T52 l y.1 = l[y.1.toNat] := by simp [rd_T52, List.getD_eq_getElem?_getD, hy]
 rw [ex, ey] at e
 simp only [okList, Bool.and_eq_true, decide_eq_true_eq] at hl
 have hn := hl.2.2
 have hn2 := List.pairwise_iff_getElem.1 hn
 apply Subtype.ext
 by_cases hlt : x.1.toNat < y.1.toNat
 ·exact absurd (by rw [List.getElem_map, List.getElem_map]; exact e) (hn2 x.1.toNat y.1.toNat (by simpa using hx) (by simpa using hy) hlt)
 ·by_cases hgt : y.1.toNat < x.1.toNat
  ·exact absurd (by rw [List.getElem_map, List.getElem_map]; exact e.symm) (hn2 y.1.toNat x.1.toNat (by simpa using hy) (by simpa using hx) hgt)
  ·have := x.2
   have := y.2
   omega
theorem sortWorld_below {α : Type} [Inhabited α] (enc : α → Value) (W : World) (g m : Nat) (d : Array α) (os : Array Obj) : W.grownBy (sortWorld enc W g 0 m d os) (some g) := by
 refine ⟨rfl, rfl, rfl, ?_, fun k hk hne => ?_⟩
 ·simp [sortWorld, grow, putRow, mapBlock, Sort.ahead]
 ·unfold sortWorld grow putRow mapBlock
  show (W.heap.modify g (onCells (putCells enc 0 d)) ++ os)[k]? = _
  rw [Array.getElem?_append_left (by simpa using hk), Array.getElem?_modify, if_neg (fun e => hne (by rw [e]))]
theorem sz1 : (Kd.int .i64).sz = 1 := rfl
/-- A row of whole numbers of the call's own, as its block. -/
theorem R_block {W : World} {base : Nat} {ok : Nat → Prop} {v : Value} {xs : List Int} (h : Kd.R (Kd.int .i64) 3 W base ok v xs) (hne : 0 < xs.length) :
  ∃ g cap cells, v = .slice (some ⟨g, 0, none⟩) xs.length cap ∧ base ≤ g ∧ W.heap[g]? = some (.cells cells 3 (0, 0)) ∧ xs.length ≤ cap ∧ cap ≤ maxLen ∧ cells.size = cap * 1 ∧ ∀ (j : Nat) (x : Int), xs[j]? = some x → cells[j]? = some (.int .i64 x) := by
 obtain ⟨_, inner, hown, hr⟩ := h
 obtain ⟨h1, h2⟩ := hown
 rcases h2 with ⟨rfl, h0⟩ | ⟨g, cap, cur, rfl, hb, hh, hnc, hcm, hcs, ht⟩
 ·omega
 ·refine ⟨g, cap, cur, rfl, hb, hh, hnc, hcm, hcs, fun j x hj => ?_⟩
  have h3 := hr.2 j x hj
  have h3 : (inner.drop (j * 1)).take 1 = [.int .i64 x] := h3
  have h4 : inner[j]? = some (.int .i64 x) := by
   have := congrArg (·[0]?) h3
   simpa [List.getElem?_take, List.getElem?_drop] using this
  have hjl : j < xs.length := (List.getElem?_eq_some_iff.1 hj).1
  have h1' : inner.length = xs.length := by simpa [sz1] using h1
  rw [← ht, List.getElem?_take] at h4
  split at h4
  ·simpa using h4
  ·cases h4
theorem R_sorted {W : World} {base g cap m n : Nat} {cells : Array Value} (d : Array (Ix n)) [Inhabited (Ix n)] (os : Array Obj) (hb : base ≤ g) (hh : W.heap[g]? = some (.cells cells 3 (0, 0))) (hc : d.size ≤ cap) (hm : cap ≤ maxLen) (hs : cells.size = cap * 1) :
  Kd.R (Kd.int .i64) 3 (sortWorld encIx W g 0 m d os) base (fun _ => True) (.slice (some ⟨g, 0, none⟩) d.size cap) (d.toList.map (·.1)) := by
 have hg : (sortWorld encIx W g 0 m d os).heap[g]? = some (.cells (putCells encIx 0 d cells) 3 (0, 0)) := by
  show (W.heap.modify g (onCells (putCells encIx 0 d)) ++ os)[g]? = _
  have hlt : g < W.heap.size := blk_lt hh
  rw [Array.getElem?_append_left (by simpa using hlt), Array.getElem?_modify, if_pos rfl, hh]
  rfl
 have hlen : (d.toList.map (·.1)).length = d.size := by simp
 have hcell : ∀ j, j < d.size → (putCells encIx 0 d cells)[j]? = some (.int .i64 d[j]!.1) := fun j hj => by
  have hj2 : j < cells.size := by omega
  simp only [putCells, Array.getElem?_mapIdx]
  rw [Array.getElem?_eq_getElem hj2]
  simp [hj, encIx]
 refine ⟨fun _ _ => trivial, d.toList.map encIx, ⟨by simp [sz1], .inr ⟨g, cap, putCells encIx 0 d cells, by rw [hlen], hb, hg, by rw [hlen]; exact hc, hm, by simpa [putCells, sz1] using hs, ?_⟩⟩, ⟨by simp [sz1], fun j p hj => ?_⟩⟩
 ·rw [hlen, sz1, Nat.mul_one]
  apply List.ext_getElem?
  intro j
  rw [List.getElem?_take]
  split
  ·rename_i hj
   have hj : j < d.size := by simpa using hj
   have := hcell j hj
   rw [← Array.getElem?_toList] at this
   rw [this]
   simp [hj, encIx]
  ·rename_i hj
   have hj : ¬ j < d.size := by simpa using hj
   exact (List.getElem?_eq_none (by simp; omega)).symm
 ·show ((d.toList.map encIx).drop (j * 1)).take 1 = [.int .i64 p]
  have hjl := (List.getElem?_eq_some_iff.1 hj).1
  rw [hlen] at hjl
  have hp : d[j].1 = p := by simpa [hjl] using hj
  rw [Nat.mul_one, List.drop_eq_getElem_cons (by simpa using hjl)]
  simp [encIx, hp]
theorem sortR_map (l : List S52) (xs : List (Ix l.length)) : ((xs.toArray.toList.mergeSort fun x y => !(ltOf fun x y : Ix l.length => cfR l x.1 y.1) y x).map (·.1)) = sortR l (xs.map (·.1)) := by
 unfold sortR
 rw [List.map_mergeSort (r := fun x y => !(ltOf fun x y : Ix l.length => cfR l x.1 y.1) y x) (s := fun x y => !(ltR l y x))]
 intro a _ b _
 rfl
theorem ix_of {n : Nat} {xs : List Int} (h : inIx n xs = true) : ∃ ys : List (Ix n), ys.map (·.1) = xs := by
 induction xs with
 | nil => exact ⟨[], rfl⟩
 | cons x t ih =>
  simp only [inIx, List.all_cons, Bool.and_eq_true, decide_eq_true_eq] at h
  obtain ⟨ys, hy⟩ := ih h.2
  exact ⟨⟨x, h.1⟩ :: ys, by simp [hy]⟩
set_option maxHeartbeats 4000000 in
set_option maxRecDepth 100000 in
theorem bung_rule.calls (A0 : Option Addr) (c0 : Nat) (l0 : List S52) (A1 : Option Addr) (c1 : Nat) (l1 : List Int) (r : List Int) (w : World) (hr0 : Kd.C k52 w A0 l0.length l0) (hc0 : l0.length ≤ c0) (hr1 : Kd.C (Kd.int .i64) w A1 l1.length l1) (hc1 : l1.length ≤ c1) (h : bung_rule.f l0 l1 = some r) :
  Calls Try.prog 95 #[.slice A0 l0.length c0, .slice A1 l1.length c1] w fun e w' => ∃ v0_ : Value, e = .returned v0_ ∧ Kd.R (Kd.int .i64) 3 w' w.heap.size (fun _ => True) v0_ r ∧ Below w.heap.size w w' := by
 unfold bung_rule.f at h
 split at h
 case isFalse => cases h
 rename_i hg
 obtain rfl := Option.some.inj h
 clear h
 simp only [Bool.and_eq_true, decide_eq_true_eq] at hg
 obtain ⟨hok, hix, hlen⟩ := hg
 have HR0 := pA hr0
 have HR1 := pA hr1
 have HOK := pA hok
 have HIX := pA hix
 have HLE := pA hlen
 have HAV := pA (show l0.all vSag = true by simp only [okList, Bool.and_eq_true] at hok; exact hok.2.1)
 clear hr0 hr1 hok hix hlen
 go_enter Try.func95, Try.ntmps95
 go_wp2_with fail
 refine (slices_Clone_int_int.calls _ _ l1 l1 _ (Kd.C_alloc (Kd.C_alloc HR1.out _) _) hc1 (by unfold slices_Clone_int_int.f; rw [if_pos (by have := HLE.out; omega)])).mono ?_
 rintro e w1 ⟨v1, rfl, ho1, hb1⟩
 have HB1 := pA (below_step (below_alloc (below_alloc (Below.refl _ _) _) _) hb1)
 have hx0 : w1.heap[w.heap.size]? = some (.cells #[.slice A0 l0.length c0] 24 (0, 0)) := blk_below (blk_alloc (heap_alloc_new w _) _) hb1
 have hx1 : w1.heap[w.heap.size + 1]? = some (.cells #[.func (.func 132) #[] #[.pointer (some ⟨w.heap.size, 0, none⟩)]] 161 (0, 0)) := by
  have := heap_alloc_new (w.alloc (.cells #[.slice A0 l0.length c0] 24)) (.cells #[.func (.func 132) #[] #[.pointer (some ⟨w.heap.size, 0, none⟩)]] 161)
  rw [World.size_alloc] at this
  exact blk_below this hb1
 have HX0 := pA hx0
 have HX1 := pA hx1
 have hsz : ((w.alloc (.cells #[.slice A0 l0.length c0] 24)).alloc (.cells #[.func (.func 132) #[] #[.pointer (some ⟨w.heap.size, 0, none⟩)]] 161)).heap.size = w.heap.size + 2 := by simp
 rw [hsz] at ho1
 have HO1 := pA ho1
 clear ho1 hb1 hx0 hx1 hsz
 have heg : ∀ args w, (callFunc 134 args).run Try.prog w = .ok (.enter 134 args) w := enters_of Try.func134 (by kernel_rfl) rfl
 have HEG := pA heg
 clear heg
 rcases Nat.eq_zero_or_pos l1.length with h0 | h0
 ·obtain rfl : l1 = [] := List.eq_nil_of_length_eq_zero h0
  obtain ⟨A, c, e⟩ := Kd.R_slice HO1.out
  cases e
  go_wp2_with fail
  have hS := AnyF.slices_SortFunc_none (P := Try.prog) (ρ := sortIntL_ren) { sortIntL with } A c (.func (.func 134) #[] #[.pointer (some ⟨w.heap.size + 1, 0, none⟩), .pointer (some ⟨w.heap.size, 0, none⟩)]) w1
  change Calls Try.prog 133 _ _ _ at hS
  refine hS.mono ?_
  rintro e w2 ⟨rfl, rfl⟩
  go_wp2
  go_ret
  have e0 : sortR l0 [] = [] := by simp [sortR]
  rw [e0]
  exact ⟨_, rfl, Kd.R_lower HO1.out (show w.heap.size ≤ w.heap.size + 2 by omega), HB1.out⟩
 ·obtain ⟨g, cap, cells, e, hg, hh, hc, hm, hs, hcl⟩ := R_block HO1.out h0
  cases e
  obtain ⟨ys, hys⟩ := ix_of HIX.out
  have hn : 0 < l0.length := by
   cases ys with
   | nil => simp [← hys] at h0
   | cons y t => have := y.2; omega
  haveI : Inhabited (Ix l0.length) := ⟨⟨0, by omega⟩⟩
  have hyl : ys.toArray.size = l1.length := by rw [← hys]; simp
  have hH : Holds encIx w1 g 0 ys.toArray := fun j hj => by
   have hj' : j < ys.length := by simpa using hj
   have e1 := hcl j ys[j].1 (by rw [← hys]; simp [hj'])
   rw [Nat.zero_add]
   refine ⟨(blk_cell hh j).trans (e1.trans ?_), blk_frozen hh j⟩
   simp [encIx, hj']
  have hcmp : CmpLays1 Try.prog 134 #[.pointer (some ⟨w.heap.size + 1, 0, none⟩), .pointer (some ⟨w.heap.size, 0, none⟩)] encIx (fun x y : Ix l0.length => cfR l0 x.1 y.1) g 0 ys.toArray.size w1 := by
   intro m os dk hdk x y
   have hgr := sortWorld_below encIx w1 g m dk os
   refine (before_calls A0 c0 l0 _ w.heap.size (w.heap.size + 1) ((blk_cell (blk_grown HX0.out hgr (by simp; omega)) 0).trans rfl) ((blk_cell (blk_grown HX1.out hgr (by simp; omega)) 0).trans rfl) (Kd.C_below HR0.out (pw_below_grown HB1.out _ HB1.out.size hgr (fun k e => by cases e; omega))) x.1 y.1 x.2.1 x.2.2 y.2.1 y.2.2 HAV.out).mono ?_
   rintro e w2 ⟨rfl, q, os', rfl⟩
   exact ⟨rfl, q, os', rfl⟩
  have hS := Any.slices_SortFunc_total (P := Try.prog) sortIntL encIx (fun _ => rfl) (fun x y : Ix l0.length => cfR l0 x.1 y.1) (ix_swo l0) 134 #[.pointer (some ⟨w.heap.size + 1, 0, none⟩), .pointer (some ⟨w.heap.size, 0, none⟩)] g 0 cap ys.toArray w1 HEG.out hcmp hH (blk_lt hh) (by rw [hyl]; have := HLE.out; omega) (ix_total l0 HOK.out)
  change Calls Try.prog 133 _ _ _ at hS
  rw [hyl] at hS
  have HS := pA hS
  have HHH := pA (show cells.size = cap * 1 ∧ l1.length ≤ cap ∧ cap ≤ maxLen ∧ w.heap.size + 2 ≤ g from ⟨hs, hc, hm, hg⟩)
  have HH := pA hh
  have HYL := pA hyl
  have HYS := pA hys
  clear hS hcmp hH hs hc hm hg hh hcl hyl hys h0 hn
  go_wp2_with fail
  refine HS.out.mono ?_
  rintro e w2 ⟨rfl, n, os, rfl⟩
  have hr := R_sorted (base := w.heap.size) (m := n) (cap := cap) (n := l0.length) ((ys.toArray.toList.mergeSort fun x y => !(ltOf fun x y : Ix l0.length => cfR l0 x.1 y.1) y x).toArray) os (by have := HHH.out.2.2.2; omega) HH.out (by have := HHH.out.2.1; have := HYL.out; simp at this ⊢; omega) HHH.out.2.2.1 HHH.out.1
  rw [List.toList_toArray, sortR_map, HYS.out] at hr
  have hz : ((ys.toArray.toList.mergeSort fun x y => !(ltOf fun x y : Ix l0.length => cfR l0 x.1 y.1) y x).toArray).size = l1.length := by have := HYL.out; simp at this ⊢; omega
  rw [hz] at hr
  have HRR := pA hr
  have HBB := pA (pw_below_grown HB1.out _ HB1.out.size (sortWorld_below encIx w1 g n ((ys.toArray.toList.mergeSort fun x y => !(ltOf fun x y : Ix l0.length => cfR l0 x.1 y.1) y x).toArray) os) (fun k e => by cases e; have := HHH.out.2.2.2; omega))
  clear hr hz
  go_wp2
  go_ret
  exact ⟨_, rfl, HRR.out, HBB.out⟩
end Go.Proofs.Ytbiakjgjedhjhaa.P
namespace Go.Proofs.Ytbiakjgjedhjhaa.P
open Go.RowKit Go.Proofs.YtbiakjgjedhjhaaW.PrintWords Go.Proofs.YtbiakjgjedhjhaaW.PrintLast
def bung_stacked.l0 : Nat → List (S52) → List (S52) → List Int → Int → Int → Option ((List (S52)))
  | 0, _, _, _, _, _ => none
  | k + 1, x0, x5, x8, x9, x10 => if x10 < x9 then (if 0 ≤ x10 then (if x10 < (x8.length : Int) then (if 0 ≤ (rd x8 x10) then (if (rd x8 x10) < (x0.length : Int) then (if x5.length < 2199023255552 then (bung_stacked.l0 k x0 (x5 ++ [(⟨(rd_T52 x0 (rd x8 x10)).f0, (⟨(rd_T52 x0 (rd x8 x10)).f1.f0, (rd_T52 x0 (rd x8 x10)).f1.f1⟩ : S23), (⟨(rd_T52 x0 (rd x8 x10)).f2.f0, (rd_T52 x0 (rd x8 x10)).f2.f1⟩ : S23), (⟨(rd_T52 x0 (rd x8 x10)).f3.f0, (rd_T52 x0 (rd x8 x10)).f3.f1⟩ : S23), (rd_T52 x0 (rd x8 x10)).f4⟩ : S52)]) x8 x9 (wrap64 (x10 + 1))) else (none)) else (none)) else (none)) else (none)) else (none)) else (some x5)
def bung_stacked.f (k : Nat) (l0 : List (S52)) (l1 : List Int) : Option ((List (S52))) := bung_stacked.l0 k l0 ([] : List (S52)) l1 (l1.length : Int) 0
theorem bung_stacked.mono_l : ∀ k, (∀ y0 y1 y2 y3 y4, LeO (bung_stacked.l0 k y0 y1 y2 y3 y4) (bung_stacked.l0 (k + 1) y0 y1 y2 y3 y4))
 | 0 => fun _ _ _ _ _ r h => by simp [bung_stacked.l0] at h
 | k + 1 => by
  have ih0 := bung_stacked.mono_l k
  ·intro y0 y1 y2 y3 y4
   unfold bung_stacked.l0
   repeat' first
   | (with_reducible exact ih0 _ _ _ _ _)
   | (with_reducible exact LeO.refl _)
   | (with_reducible exact LeO.none _)
   | (with_reducible refine LeO.ite ?_ ?_)
   | (with_reducible refine LeO.bind ?_ (fun _ => ?_))
   | exact ih0 _ _ _ _ _
   | exact LeO.none _
   | refine LeO.ite ?_ ?_
   | refine LeO.bind ?_ (fun _ => ?_)
theorem bung_stacked.mono : ∀ a0 a1 k, LeO (bung_stacked.f k a0 a1) (bung_stacked.f (k + 1) a0 a1) := by
 intro a0 a1 k
 have ih0 := bung_stacked.mono_l k
 unfold bung_stacked.f
 repeat' first
   | (with_reducible exact ih0 _ _ _ _ _)
   | (with_reducible exact LeO.refl _)
   | (with_reducible exact LeO.none _)
   | (with_reducible refine LeO.ite ?_ ?_)
   | (with_reducible refine LeO.bind ?_ (fun _ => ?_))
   | exact ih0 _ _ _ _ _
   | exact LeO.none _
   | refine LeO.ite ?_ ?_
   | refine LeO.bind ?_ (fun _ => ?_)
set_option maxHeartbeats 8000000 in
set_option maxRecDepth 100000 in
theorem bung_stacked.calls (k : Nat) (A0 : Option Addr) (c0 : Nat) (l0 : List (S52)) (A1 : Option Addr) (c1 : Nat) (l1 : List Int) (r : List (S52)) (w : World) (hr0 : Kd.C k52 w A0 l0.length l0) (hc0 : l0.length ≤ c0) (hr1 : Kd.C (Kd.int .i64) w A1 l1.length l1) (hc1 : l1.length ≤ c1) (h : bung_stacked.f k l0 l1 = some r) :
  Calls Try.prog 112 #[.slice A0 l0.length c0, .slice A1 l1.length c1] w fun e w' => ∃ v0_ : Value, e = .returned (v0_) ∧ Kd.R k52 52 w' w.heap.size (fun _ => True) v0_ r ∧ Below w.heap.size w w' := by
 have hu52 := Try.underlying52
 have HR0 := pA hr0
 have HC0 := pA hc0
 clear hr0 hc0
 have HR1 := pA hr1
 have HC1 := pA hc1
 clear hr1 hc1
 have HB := pA (Below.refl w.heap.size w)
 have H : (bung_stacked.l0 k l0 ([] : List (S52)) l1 (l1.length : Int) 0) = some r := h
 clear h
 have H' := pA H
 clear H
 go_enter Try.func112, Try.ntmps112
 go_wp2
 go_loopg [5, 10] k (fun kq v5 v10 w' => ∃ (x5_1 : List (S52)) (x10_1 : Int), v10 = .int .i64 x10_1 ∧ Aside0 (bung_stacked.l0 kq l0 x5_1 l1 (l1.length : Int) x10_1 = some r) ∧ Aside0 (kq ≤ k) ∧ Aside0 (Kd.R k52 52 w' w.heap.size (fun _ => True) v5 x5_1) ∧ Aside0 (Below w.heap.size w w'))
 case atStart => exact ⟨(([] : List (S52))), (0), (by first | rfl | (simp; done) | (simp [*]; done)), H', ⟨Nat.le_refl _⟩, ⟨by first | exact Kd.R_nil _ _ _ _ _ | exact Kd.N_nil _ _ _ _ _ | exact Kd.V_nil _ _ _ _ _ | exact Kd.Q_nil _ _ _ _ _ | exact Kd.S_nil _ _ _ _ _⟩, ⟨by repeat (first | (with_reducible first | exact HB.out | apply below_alloc | apply pw_below_drewN | apply below_drew1) | exact HB.out)⟩⟩
 case round =>
  clear H'
  try clear c1
  try clear p2
  obtain ⟨x5_1, x10_1, rfl, HA, HK1, HO_5, HB⟩ := hrel
  cases gk with
  | zero => exact absurd HA.out (by simp [bung_stacked.l0])
  | succ k1 =>
   have H := HA.out
   clear HA
   simp only [bung_stacked.l0] at H
   by_cases c3 : x10_1 < (l1.length : Int)
   ·rw [if_pos c3] at H
    have c3b0 : decide (x10_1 < (l1.length : Int)) = true := decide_eq_true c3
    clear c3
    by_cases c4 : 0 ≤ x10_1
    ·rw [if_pos c4] at H
     have c4b0 : decide (0 ≤ x10_1) = true := decide_eq_true c4
     clear c4
     by_cases c5 : x10_1 < (l1.length : Int)
     ·rw [if_pos c5] at H
      have c5b0 : decide (x10_1 < (l1.length : Int)) = true := decide_eq_true c5
      clear c5
      by_cases c6 : 0 ≤ (rd l1 x10_1)
      ·rw [if_pos c6] at H
       have c6b0 : decide (0 ≤ (rd l1 x10_1)) = true := decide_eq_true c6
       clear c6
       by_cases c7 : (rd l1 x10_1) < (l0.length : Int)
       ·rw [if_pos c7] at H
        have c7b0 : decide ((rd l1 x10_1) < (l0.length : Int)) = true := decide_eq_true c7
        clear c7
        by_cases c8 : x5_1.length < 2199023255552
        ·rw [if_pos c8] at H
         have LMc8 := pA c8
         clear c8
         obtain ⟨y113, hy113⟩ : ∃ y_ : List (S52), y_ = (x5_1 ++ [(⟨(rd_T52 l0 (rd l1 x10_1)).f0, (⟨(rd_T52 l0 (rd l1 x10_1)).f1.f0, (rd_T52 l0 (rd l1 x10_1)).f1.f1⟩ : S23), (⟨(rd_T52 l0 (rd l1 x10_1)).f2.f0, (rd_T52 l0 (rd l1 x10_1)).f2.f1⟩ : S23), (⟨(rd_T52 l0 (rd l1 x10_1)).f3.f0, (rd_T52 l0 (rd l1 x10_1)).f3.f1⟩ : S23), (rd_T52 l0 (rd l1 x10_1)).f4⟩ : S52)]) := ⟨_, rfl⟩
         replace H : (bung_stacked.l0 k1 l0 y113 l1 (l1.length : Int) (wrap64 (x10_1 + 1))) = some r := by first | (rw [hy113]; with_reducible exact H) | (have H2_ := (Option.bind_some _ _).symm.trans H; rw [hy113]; with_reducible exact H2_) | (have H2_ := (Option.bind_some _ _).symm.trans H; with_reducible exact H2_) | with_reducible exact H | (rw [hy113]; exact H) | exact H
         have Ny113 := pA hy113
         clear hy113
         have H' := pA H
         clear H
         have p111 : 0 ≤ (x10_1 : Int) := of_decide_eq_true (by first | (with_reducible assumption) | assumption)
         have q111 : x10_1 < (l1.length : Int) := of_decide_eq_true (by first | (with_reducible assumption) | assumption)
         obtain ⟨ad111, e111, hx111_0⟩ := Kd.at_int HR1.out x10_1 p111 q111
         cases e111
         replace hx111_0 := vC HB hx111_0
         replace p111 := eq_true p111
         replace q111 := eq_true q111
         have p112 : 0 ≤ ((rd l1 x10_1) : Int) := of_decide_eq_true (by first | (with_reducible assumption) | assumption)
         have q112 : (rd l1 x10_1) < (l0.length : Int) := of_decide_eq_true (by first | (with_reducible assumption) | assumption)
         obtain ⟨ad112, e112, hx112_0, hx112_1, hx112_2, hx112_3, hx112_4, hx112_5, hx112_6, hx112_7⟩ := at_T52 HR0.out (rd l1 x10_1) p112 q112
         cases e112
         replace hx112_0 := vC HB hx112_0
         replace hx112_1 := vC HB hx112_1
         replace hx112_2 := vC HB hx112_2
         replace hx112_3 := vC HB hx112_3
         replace hx112_4 := vC HB hx112_4
         replace hx112_5 := vC HB hx112_5
         replace hx112_6 := vC HB hx112_6
         replace hx112_7 := vC HB hx112_7
         replace p112 := eq_true p112
         replace q112 := eq_true q112
         go_wp2_with (first | ((with_reducible refine aG (b := .append) (xs := #[.tmp 14, .tmp 19]) rfl ?_); at_builtin; refine Kd.R_append k52 (w0 := w) w.heap.size rfl (.tmp 14) (.tmp 19) 24 52 (.agg #[(.int .i64 0), (.int .i64 0), (.int .i64 0), (.int .i64 0), (.int .i64 0), (.int .i64 0), (.int .i64 0), (.int .i64 0)]) 64 rfl Try.underlying24 info52 rfl (by decide) (by omega) u5 x5_1 (⟨(rd_T52 l0 (rd l1 x10_1)).f0, (⟨(rd_T52 l0 (rd l1 x10_1)).f1.f0, (rd_T52 l0 (rd l1 x10_1)).f1.f1⟩ : S23), (⟨(rd_T52 l0 (rd l1 x10_1)).f2.f0, (rd_T52 l0 (rd l1 x10_1)).f2.f1⟩ : S23), (⟨(rd_T52 l0 (rd l1 x10_1)).f3.f0, (rd_T52 l0 (rd l1 x10_1)).f3.f1⟩ : S23), (rd_T52 l0 (rd l1 x10_1)).f4⟩ : S52) [.int .i64 ((rd_T52 l0 (rd l1 x10_1)).f0), .int .i64 ((rd_T52 l0 (rd l1 x10_1)).f1.f0), .int .i64 ((rd_T52 l0 (rd l1 x10_1)).f1.f1), .int .i64 ((rd_T52 l0 (rd l1 x10_1)).f2.f0), .int .i64 ((rd_T52 l0 (rd l1 x10_1)).f2.f1), .int .i64 ((rd_T52 l0 (rd l1 x10_1)).f3.f0), .int .i64 ((rd_T52 l0 (rd l1 x10_1)).f3.f1), .int .i64 ((rd_T52 l0 (rd l1 x10_1)).f4)] (fun _ => True) (fun _ => False) rfl rfl ?aP (fun _ hk => hk.elim) ?aF ?aO ?aB ?aS ?aL ?_; (case aP => exact k52_mkM _ _ _ (⟨(rd_T52 l0 (rd l1 x10_1)).f0, (⟨(rd_T52 l0 (rd l1 x10_1)).f1.f0, (rd_T52 l0 (rd l1 x10_1)).f1.f1⟩ : S23), (⟨(rd_T52 l0 (rd l1 x10_1)).f2.f0, (rd_T52 l0 (rd l1 x10_1)).f2.f1⟩ : S23), (⟨(rd_T52 l0 (rd l1 x10_1)).f3.f0, (rd_T52 l0 (rd l1 x10_1)).f3.f1⟩ : S23), (rd_T52 l0 (rd l1 x10_1)).f4⟩ : S52)); (case aB => exact (vB HB)); (case aF => exact (fun _ _ => trivial)); (case aO => exact (vR HO_5)); (case aS => exact (below_size (vB HB))); (case aL => have := LMc8.out; omega); intro v114 w9 ho hb hg hat; rw [← Ny113.out] at ho; have n0_ := pA (hb); have n1_ := pA (ho); clear HB; clear HO_5; have HB := n0_; have HO115 := n1_; clear n0_ n1_; clear ho hb hg hat))
         go_roundg k1
         case measure => have := HK1.out; omega
         case rel => exact ⟨(y113), (wrap64 (x10_1 + 1)), (by first | rfl | (simp; done) | (simp [*]; done)), H', ⟨by have := HK1.out; omega⟩, ⟨by (with_reducible repeat (first | apply Kd.R_alloc | apply Kd.R_drewN | apply Kd.R_drew)); exact HO115.out⟩, ⟨by repeat (first | (with_reducible first | exact HB.out | apply below_alloc | apply pw_below_drewN | apply below_drew1) | exact HB.out)⟩⟩
        ·rw [if_neg c8] at H
         exact absurd H (by simp)
       ·rw [if_neg c7] at H
        exact absurd H (by simp)
      ·rw [if_neg c6] at H
       exact absurd H (by simp)
     ·rw [if_neg c5] at H
      exact absurd H (by simp)
    ·rw [if_neg c4] at H
     exact absurd H (by simp)
   ·rw [if_neg c3] at H
    have c3b0 : decide (x10_1 < (l1.length : Int)) = false := decide_eq_false c3
    clear c3
    obtain rfl := Option.some.inj H
    go_wp2
    go_ret
    exact ⟨_, by first | rfl | (simp [errW_none, errW_some] <;> rfl) | (simp [*, errW_none, errW_some] <;> rfl), by (with_reducible repeat (first | apply Kd.R_alloc | apply Kd.R_drewN | apply Kd.R_drew)); exact HO_5.out, by repeat (first | (with_reducible first | exact HB.out | apply below_alloc | apply pw_below_drewN | apply below_drew1) | exact HB.out)⟩
def vWad (lo hi : Int) : Bool := decide (0 ≤ lo ∧ lo ≤ hi ∧ hi ≤ 200)
theorem isWad_eq (lo hi : Int) : bung_isWad.f lo hi = some (vWad lo hi) := by
  unfold bung_isWad.f bung_isRange.f vWad
  by_cases h1 : (0 : Int) ≤ lo <;> by_cases h2 : lo ≤ hi <;> by_cases h3 : hi ≤ 200 <;> simp [h1, h2, h3]
/-- The saggars with some indices. -/
def pick (l : List S52) (xs : List Int) : List S52 := xs.map (rd_T52 l)
theorem stacked_l0 (l : List S52) (xs : List Int) (hx : inIx l.length xs = true) (hl : xs.length ≤ 1000000) : ∀ (d i : Nat) (acc : List S52) (k : Nat), i ≤ xs.length → xs.length - i = d → d < k → acc.length ≤ i →
  bung_stacked.l0 k l acc xs (xs.length : Int) i = some (acc ++ pick l (xs.drop i)) := by
 intro d
 induction d with
 | zero =>
  intro i acc k hi hd hk ha
  obtain ⟨k, rfl⟩ : ∃ m, k = m + 1 := ⟨k - 1, by omega⟩
  simp only [bung_stacked.l0]
  rw [if_neg (by omega), List.drop_eq_nil_of_le (by omega)]
  simp [pick]
 | succ d ih =>
  intro i acc k hi hd hk ha
  obtain ⟨k, rfl⟩ : ∃ m, k = m + 1 := ⟨k - 1, by omega⟩
  have hlt : i < xs.length := by omega
  have hr : rd xs i = xs[i] := by simp [rd, List.getD_eq_getElem?_getD, hlt]
  have hin : 0 ≤ xs[i] ∧ xs[i] < (l.length : Int) := by
   simp only [inIx, List.all_eq_true, decide_eq_true_eq] at hx
   exact hx _ (List.getElem_mem hlt)
  simp only [bung_stacked.l0]
  rw [if_pos (by omega), if_pos (by omega), if_pos (by omega), if_pos (by rw [hr]; exact hin.1), if_pos (by rw [hr]; exact hin.2), if_pos (by omega)]
  rw [show wrap64 ((i : Int) + 1) = ((i + 1 : Nat) : Int) from by unfold wrap64; omega]
  have e : xs.drop i = xs[i] :: xs.drop (i + 1) := List.drop_eq_getElem_cons hlt
  rw [ih (i + 1) _ k (by omega) (by omega) (by omega) (by simp; omega), e, hr]
  rw [List.append_assoc]
  rfl
theorem stacked_eq (l : List S52) (xs : List Int) (hx : inIx l.length xs = true) (hl : xs.length ≤ 1000000) : bung_stacked.f (xs.length + 1) l xs = some (pick l xs) := by
 unfold bung_stacked.f
 have := stacked_l0 l xs hx hl xs.length 0 [] (xs.length + 1) (by omega) (by omega) (by omega) (by simp)
 simpa using this
theorem blk_new2 (w : World) (a b : Obj) : ((w.alloc a).alloc b).heap[w.heap.size + 1]? = some b := by
  have := heap_alloc_new (w.alloc a) b
  rwa [World.size_alloc] at this
/-- Is it an order of some of n? -/
def okOrder (n : Nat) (xs : List Int) : Bool := inIx n xs && decide xs.Nodup
def bung_Set.f (a0 a1 : Int) (l1 : List S52) (l2 : List Int) : Option (Int × Int × List S52 × Int) :=
  some (if vWad a0 a1 = false then (0, 0, [], 32) else if okList l1 = false then (0, 0, [], 30) else if l2.length = 0 then (0, 0, [], 1) else if okOrder l1.length l2 = true then (a0, a1, pick l1 l2, 0) else (0, 0, [], 1))
theorem within_f (a b c : Int) : bung_within.f a b c = some (decide (b ≤ a ∧ a ≤ c)) := by
  unfold bung_within.f
  by_cases h1 : b ≤ a <;> simp [h1]
/-- What holds behind k indices. -/
def OInv (n : Nat) (xs : List Int) (k : Nat) (f : Lit → Option Bool) : Prop :=
  inIx n (xs.take k) = true ∧ (xs.take k).Nodup ∧ ∀ i : Int, (f (.int .i64 i)).getD false = decide (i ∈ xs.take k)
theorem OInv.zero (n : Nat) (xs : List Int) : OInv n xs 0 (fun _ => none) := ⟨by simp [inIx], by simp, fun i => by simp⟩
theorem rd_int (xs : List Int) (i : Int) (h0 : 0 ≤ i) (h1 : i < xs.length) : rd xs i = xs[i.toNat]'(by omega) := by
  have : i.toNat < xs.length := by omega
  simp [rd, List.getD_eq_getElem?_getD, this]
theorem OInv.step {n : Nat} {xs : List Int} {k : Nat} {f f' : Lit → Option Bool} (h : OInv n xs k f) (hk : k < xs.length) (hv : 0 ≤ xs[k] ∧ xs[k] < (n : Int)) (hn : (f (.int .i64 xs[k])).getD false = false)
  (h1 : f' (.int .i64 xs[k]) = some true) (h2 : ∀ z, z ≠ .int .i64 xs[k] → f' z = f z) : OInv n xs (k + 1) f' := by
 have e : xs.take (k + 1) = xs.take k ++ [xs[k]] := List.take_succ_eq_append_getElem hk
 obtain ⟨a, b, c⟩ := h
 have hc := c xs[k]
 rw [hn] at hc
 have hc' : xs[k] ∉ xs.take k := by simpa using hc.symm
 unfold OInv
 rw [e]
 refine ⟨by simp only [inIx, List.all_append, Bool.and_eq_true] at a ⊢; exact ⟨a, by simp [hv]⟩, ?_, fun i => ?_⟩
 ·rw [List.nodup_append]
  refine ⟨b, by simp, fun x hx y hy => ?_⟩
  simp at hy
  subst hy
  intro e
  subst e
  exact hc' hx
 ·by_cases hi : i = xs[k]
  ·subst hi
   rw [h1]
   exact (decide_eq_true (List.mem_append_right _ List.mem_cons_self)).symm
  ·rw [h2 _ (by simpa using hi), c i]
   refine decide_eq_decide.2 ⟨fun h => List.mem_append_left _ h, fun h => ?_⟩
   rcases List.mem_append.1 h with h | h
   ·exact h
   ·exact absurd (List.mem_singleton.1 h) hi
theorem OInv.all {n : Nat} {xs : List Int} {f : Lit → Option Bool} (h : OInv n xs xs.length f) : okOrder n xs = true := by
 obtain ⟨a, b, _⟩ := h
 rw [List.take_length] at a b
 simp [okOrder, a, b]
theorem OInv.bad {n : Nat} {xs : List Int} {k : Nat} (hk : k < xs.length) (hv : ¬ (0 ≤ xs[k] ∧ xs[k] < (n : Int))) : okOrder n xs = false := by
 have : inIx n xs = false := by
  unfold inIx
  rw [List.all_eq_false]
  exact ⟨xs[k], List.getElem_mem hk, by simpa using hv⟩
 simp [okOrder, this]
theorem OInv.twice {n : Nat} {xs : List Int} {k : Nat} {f : Lit → Option Bool} (h : OInv n xs k f) (hk : k < xs.length) (hn : (f (.int .i64 xs[k])).getD false = true) : okOrder n xs = false := by
 have hc := h.2.2 xs[k]
 rw [hn] at hc
 have hc' : xs[k] ∈ xs.take k := by simpa using hc.symm
 have : ¬ xs.Nodup := by
  intro hd
  have e2 : xs = xs.take k ++ xs.drop k := (List.take_append_drop k xs).symm
  rw [e2, List.nodup_append] at hd
  exact hd.2.2 _ hc' _ (by rw [List.drop_eq_getElem_cons hk]; exact List.mem_cons_self) rfl
 simp [okOrder, this]
theorem nodup_le {n : Nat} {xs : List Int} (h : xs.Nodup) (hi : inIx n xs = true) : xs.length ≤ n := by
 have h2 : (xs.map Int.toNat).Nodup := by
  rw [List.nodup_iff_pairwise_ne, List.pairwise_map]
  refine List.Pairwise.imp_of_mem ?_ (List.nodup_iff_pairwise_ne.1 h)
  intro a b ha hb hne e
  simp only [inIx, List.all_eq_true, decide_eq_true_eq] at hi
  have := hi a ha
  have := hi b hb
  omega
 have h3 : (xs.map Int.toNat) ⊆ List.range n := fun x hx => by
  obtain ⟨y, hy, rfl⟩ := List.mem_map.1 hx
  simp only [inIx, List.all_eq_true, decide_eq_true_eq] at hi
  have := hi y hy
  simp
  omega
 have := List.Nodup.length_le_of_subset h2 h3
 simpa using this
set_option maxHeartbeats 4000000 in
set_option maxRecDepth 100000 in
theorem bung_Set.calls (a0_0 : Int) (a0_1 : Int) (A1 : Option Addr) (c1 : Nat) (l1 : List S52) (A2 : Option Addr) (c2 : Nat) (l2 : List Int) (r1 : Int) (r2 : Int) (r3 : List S52) (r4 : Int) (w : World) (hr1 : Kd.C k52 w A1 l1.length l1) (hc1 : l1.length ≤ c1) (hr2 : Kd.C (Kd.int .i64) w A2 l2.length l2) (hc2 : l2.length ≤ c2) (h : bung_Set.f a0_0 a0_1 l1 l2 = some (r1, r2, r3, r4)) :
  Calls Try.prog 59 #[.agg #[.int .i64 a0_0, .int .i64 a0_1], .slice A1 l1.length c1, .slice A2 l2.length c2] w fun e w' => ∃ v2_ : Value, e = .returned (.tuple #[.agg #[.int .i64 r1, .int .i64 r2, v2_], .int .i64 r4]) ∧ Kd.R k52 52 w' w.heap.size (fun _ => True) v2_ r3 ∧ Below w.heap.size w w' := by
 have hu43 := Try.underlying43
 have hu23 := Try.underlying23
 have HR1 := pA hr1
 have HR2 := pA hr2
 clear hr1 hr2
 have H := Option.some.inj h
 clear h
 cases hw : vWad a0_0 a0_1 with
 | false =>
  rw [if_pos hw] at H
  simp only [Prod.mk.injEq] at H
  obtain ⟨rfl, rfl, rfl, rfl⟩ := H
  have HW := pA ((isWad_eq a0_0 a0_1).trans (by rw [hw]))
  clear hw
  go_enter Try.func59, Try.ntmps59
  go_wp2_with (go_at_call 110; refine (bung_isWad.calls _ _ false _ HW.out).mono ?_; rintro e w1 ⟨rfl, hb⟩; have hx := blk_below (blk_new2 _ _ _) hb; have hx3 := blk_below (blk_alloc (heap_alloc_new w _) _) hb; have HB1 := pA (below_step (below_alloc (below_alloc (Below.refl _ _) _) _) hb); have HX := pA hx; have HX3 := pA hx3; clear hb hx hx3; have y0 := blk_cell HX.out 0; have z0 := blk_frozen HX.out 0; have y1 := blk_cell HX.out 1; have z1 := blk_frozen HX.out 1; have y2 := blk_cell HX.out 2; have z2 := blk_frozen HX.out 2)
  refine bodyPost_ret (results_ct rfl _ _ (w.heap.size + 1) 43 #[.int .i64 0, .int .i64 0, .slice none 0 0] (0, 0) _ rfl (blk_put (blk_put (blk_put HX.out 0 _ rfl) 1 _ rfl) 2 _ rfl) Try.underlying43 rfl (by kernel_rfl)) rfl ?_
  exact ⟨_, rfl, Kd.R_nil _ _ _ _ _, below_set (below_set (below_set HB1.out (by simp)) (by simp)) (by simp)⟩
 | true =>
  rw [if_neg (by rw [hw]; decide)] at H
  have HW := pA ((isWad_eq a0_0 a0_1).trans (by rw [hw]))
  clear hw
  cases hl : okList l1 with
  | false =>
   rw [if_pos hl] at H
   simp only [Prod.mk.injEq] at H
   obtain ⟨rfl, rfl, rfl, rfl⟩ := H
   have HL := pA (show bung_isList.f l1 = some false by unfold bung_isList.f; rw [hl])
   clear hl
   go_enter Try.func59, Try.ntmps59
   go_wp2_with (first | (go_at_call 110; refine (bung_isWad.calls _ _ true _ HW.out).mono ?_; rintro e w1 ⟨rfl, hb⟩; have hx := blk_below (blk_new2 _ _ _) hb; have hx3 := blk_below (blk_alloc (heap_alloc_new w _) _) hb; have HB1 := pA (below_step (below_alloc (below_alloc (Below.refl _ _) _) _) hb); have HX := pA hx; have HX3 := pA hx3; clear hb hx hx3) | (go_at_call 94; refine (bung_isList.calls _ _ l1 false _ (Kd.C_below HR1.out HB1.out) hc1 HL.out).mono ?_; rintro e w2 ⟨rfl, hb⟩; have HB2 := pA (below_step HB1.out hb); have HX2 := pA (blk_below HX.out hb); have HX4 := pA (blk_below HX3.out hb); clear hb; have y0 := blk_cell HX2.out 0; have z0 := blk_frozen HX2.out 0; have y1 := blk_cell HX2.out 1; have z1 := blk_frozen HX2.out 1; have y2 := blk_cell HX2.out 2; have z2 := blk_frozen HX2.out 2))
   refine bodyPost_ret (results_ct rfl _ _ (w.heap.size + 1) 43 #[.int .i64 0, .int .i64 0, .slice none 0 0] (0, 0) _ rfl (blk_put (blk_put (blk_put HX2.out 0 _ rfl) 1 _ rfl) 2 _ rfl) Try.underlying43 rfl (by kernel_rfl)) rfl ?_
   exact ⟨_, rfl, Kd.R_nil _ _ _ _ _, below_set (below_set (below_set HB2.out (by simp)) (by simp)) (by simp)⟩
  | true =>
   rw [if_neg (by rw [hl]; decide)] at H
   have HOK := pA hl
   have HL := pA (show bung_isList.f l1 = some true by unfold bung_isList.f; rw [hl])
   clear hl
   by_cases h0 : l2.length = 0
   ·rw [if_pos h0] at H
    simp only [Prod.mk.injEq] at H
    obtain ⟨rfl, rfl, rfl, rfl⟩ := H
    have c0 : ((l2.length : Int) == 0) = true := by rw [h0]; rfl
    have HZ := pA h0
    clear h0
    go_enter Try.func59, Try.ntmps59
    go_wp2_with (first | (go_at_call 110; refine (bung_isWad.calls _ _ true _ HW.out).mono ?_; rintro e w1 ⟨rfl, hb⟩; have hx := blk_below (blk_new2 _ _ _) hb; have hx3 := blk_below (blk_alloc (heap_alloc_new w _) _) hb; have HB1 := pA (below_step (below_alloc (below_alloc (Below.refl _ _) _) _) hb); have HX := pA hx; have HX3 := pA hx3; clear hb hx hx3) | (go_at_call 94; refine (bung_isList.calls _ _ l1 true _ (Kd.C_below HR1.out HB1.out) hc1 HL.out).mono ?_; rintro e w2 ⟨rfl, hb⟩; have HB2 := pA (below_step HB1.out hb); have HX2 := pA (blk_below HX.out hb); have HX4 := pA (blk_below HX3.out hb); clear hb; have y0 := blk_cell HX2.out 0; have z0 := blk_frozen HX2.out 0; have y1 := blk_cell HX2.out 1; have z1 := blk_frozen HX2.out 1; have y2 := blk_cell HX2.out 2; have z2 := blk_frozen HX2.out 2))
    refine bodyPost_ret (results_ct rfl _ _ (w.heap.size + 1) 43 #[.int .i64 0, .int .i64 0, .slice none 0 0] (0, 0) _ rfl (blk_put (blk_put (blk_put HX2.out 0 _ rfl) 1 _ rfl) 2 _ rfl) Try.underlying43 rfl (by kernel_rfl)) rfl ?_
    exact ⟨_, rfl, Kd.R_nil _ _ _ _ _, below_set (below_set (below_set HB2.out (by simp)) (by simp)) (by simp)⟩
   ·rw [if_neg h0] at H
    have c0 : ((l2.length : Int) == 0) = false := by rw [beq_eq_false_iff_ne]; omega
    have HNZ := pA h0
    clear h0
    have HH := pA H
    clear H
    have hmm := @run_makeMap Try.prog
    go_enter Try.func59, Try.ntmps59
    go_wp2_with (first | (go_at_call 110; refine (bung_isWad.calls _ _ true _ HW.out).mono ?_; rintro e w1 ⟨rfl, hb⟩; have hx := blk_below (blk_new2 _ _ _) hb; have hx3 := blk_below (blk_alloc (heap_alloc_new w _) _) hb; have HB1 := pA (below_step (below_alloc (below_alloc (Below.refl _ _) _) _) hb); have HX := pA hx; have HX3 := pA hx3; clear hb hx hx3) | (go_at_call 94; refine (bung_isList.calls _ _ l1 true _ (Kd.C_below HR1.out HB1.out) hc1 HL.out).mono ?_; rintro e w2 ⟨rfl, hb⟩; have HB2 := pA (below_step HB1.out hb); have HX2 := pA (blk_below HX.out hb); have HX4 := pA (blk_below HX3.out hb); clear hb))
    have HW2S := pA (Nat.lt_of_lt_of_le (blk_lt HX2.out) (Nat.le_refl _))
    have HNL := pA (show ∀ x : Int, 0 ≤ x → x.toNat < l2.length → x.toNat < maxLen from fun x h0 h1 => by have := HR2.out.2.1; unfold maxLen; omega)
    go_loopw [29] (fun v29 w' => ∃ (x : Int) (f : Lit → Option Bool) (s : Nat), v29 = .int .i64 x ∧ Aside0 (0 ≤ x ∧ x ≤ l2.length) ∧ Aside0 (OInv l1.length l2 x.toNat f) ∧ Aside0 (BoolMaps.IsB Try.prog 3 4 w' w2.heap.size x.toNat s f) ∧ Aside0 (w'.heap[w.heap.size + 1]? = some (.cells #[.int .i64 0, .int .i64 0, .slice none 0 0] 43 (0, 0))) ∧ Aside0 (w'.heap[w.heap.size]? = some (.cells #[.int .i64 a0_0, .int .i64 a0_1] 23 (0, 0))) ∧ Aside0 (Below w.heap.size w w')) (fun v29 _ => l2.length - (intOf v29).toNat)
    case atStart => exact ⟨0, fun _ => none, 0, rfl, ⟨by omega⟩, ⟨OInv.zero _ _⟩, ⟨BoolMaps.IsB.made _ _ _ _⟩, ⟨blk_alloc HX2.out _⟩, ⟨blk_alloc HX4.out _⟩, ⟨below_alloc HB2.out _⟩⟩
    case round =>
     obtain ⟨x, f, s, rfl, HK, HI, HM, HX5, HX6, HB⟩ := hrel
     have HWL := pA (show wrap64 ((l1.length : Int) - 1) = (l1.length : Int) - 1 by have := HOK.out; simp only [okList, Bool.and_eq_true, decide_eq_true_eq] at this; unfold wrap64; omega)
     by_cases hk : x < (l2.length : Int)
     ·have hkb : decide (x < (l2.length : Int)) = true := decide_eq_true hk
      have p1 : 0 ≤ x := HK.out.1
      obtain ⟨ad, e, x0⟩ := Kd.at_int HR2.out x p1 hk
      cases e
      have hkn : x.toNat < l2.length := by omega
      have HKL := pA hkn
      have hrd : rd l2 x = l2[x.toNat]'HKL.out := rd_int l2 x p1 hk
      have HRD := pA hrd
      replace p1 := eq_true p1
      replace hk := eq_true hk
      replace x0 := vC HB x0
      clear hrd hkn
      by_cases hin : 0 ≤ rd l2 x ∧ rd l2 x < (l1.length : Int)
      ·have HWI := pA (show ∀ c : Int, c = (l1.length : Int) - 1 → bung_within.f (rd l2 x) 0 c = some true from fun c hc => by rw [within_f, decide_eq_true (by omega)])
       have HIN := pA hin
       clear hin
       have hwf : (Lit.int .i64 (rd l2 x)).wf = true := WalkArith.wf_i64 (by have := HIN.out; have := HOK.out; simp only [okList, Bool.and_eq_true, decide_eq_true_eq] at this; omega)
       cases hg : (f (.int .i64 (rd l2 x))).getD false with
       | true =>
        have hno : okOrder l1.length l2 = false := HI.out.twice HKL.out (by rw [← HRD.out]; exact hg)
        have H := HH.out
        rw [if_neg (by rw [hno]; decide)] at H
        simp only [Prod.mk.injEq] at H
        obtain ⟨rfl, rfl, rfl, rfl⟩ := H
        clear HH
        have hg' := hg
        clear hg hno
        have HG := pA hg'
        clear hg'
        go_wp2_with (go_at_call 111; refine (bung_within.calls _ _ _ true _ (HWI.out _ (by first | rfl | exact HWL.out))).mono ?_; rintro e w3 ⟨rfl, hb⟩; have hlook := (HM.out.below (Drawn0.below hb)).look isList_keyed Try.underlying142 Try.underlying4 (isList_zero w3) (Maps.keyOf_int_mk Try.underlying3 hwf); rw [HG.out] at hlook; have HB3 := pA (below_step HB.out (Drawn0.below hb)); have HX7 := pA (blk_below HX5.out (Drawn0.below hb)); clear hb; have y0 := blk_cell HX7.out 0; have z0 := blk_frozen HX7.out 0; have y1 := blk_cell HX7.out 1; have z1 := blk_frozen HX7.out 1; have y2 := blk_cell HX7.out 2; have z2 := blk_frozen HX7.out 2)
        refine bodyPost_ret (results_ct rfl _ _ (w.heap.size + 1) 43 #[.int .i64 0, .int .i64 0, .slice none 0 0] (0, 0) _ rfl (blk_put (blk_put (blk_put HX7.out 0 _ rfl) 1 _ rfl) 2 _ rfl) Try.underlying43 rfl (by kernel_rfl)) rfl ?_
        exact ⟨_, rfl, Kd.R_nil _ _ _ _ _, below_set (below_set (below_set HB3.out (by simp)) (by simp)) (by simp)⟩
       | false =>
        have HG := pA hg
        clear hg
        go_wp2_with (go_at_call 111; refine (bung_within.calls _ _ _ true _ (HWI.out _ (by first | rfl | exact HWL.out))).mono ?_; rintro e w3 ⟨rfl, hb⟩; have HB3 := pA (below_step HB.out (Drawn0.below hb)); have HX7 := pA (blk_below HX5.out (Drawn0.below hb)); have HX8 := pA (blk_below HX6.out (Drawn0.below hb)); have HM1 := pA (HM.out.below (Drawn0.below hb)); clear hb; have hlook := HM1.out.look isList_keyed Try.underlying142 Try.underlying4 (isList_zero w3) (Maps.keyOf_int_mk Try.underlying3 hwf); rw [HG.out] at hlook; obtain ⟨w4, f2, hst, hM2, h1, h2, hg2⟩ := HM1.out.store isList_keyed Try.underlying142 Try.underlying4 (HNL.out x HK.out.1 HKL.out) (Maps.keyOf_int_mk Try.underlying3 hwf) trivial true; have HM2 := pA hM2; have HI2 := pA (HI.out.step HKL.out (by rw [← HRD.out]; exact HIN.out) (by rw [← HRD.out]; exact HG.out) (by rw [← HRD.out]; exact h1) (by rw [← HRD.out]; exact h2)); have HB4 := pA (pw_below_grown HB3.out _ HB3.out.size hg2 (fun k e => by cases e; exact HB2.out.size)); have HX9 := pA (blk_grown HX7.out hg2 (by have := HW2S.out; simp; omega)); have HX10 := pA (blk_grown HX8.out hg2 (by have := HW2S.out; simp; omega)); clear hM2 h1 h2 hg2)
        have hnx : wrap64 (x + 1) = x + 1 := by have := HR2.out.2.1; have := HKL.out; have := HK.out; unfold wrap64; omega
        go_roundw
        case measure => have := HKL.out; have := HK.out; simp [intOf, hnx]; omega
        case rel => exact ⟨x + 1, f2, _, by rw [hnx], ⟨by have := HKL.out; have := HK.out; omega⟩, ⟨by rw [show (x + 1).toNat = x.toNat + 1 from by have := HK.out; omega]; exact HI2.out⟩, ⟨by rw [show (x + 1).toNat = x.toNat + 1 from by have := HK.out; omega]; exact HM2.out⟩, HX9, HX10, HB4⟩
      ·have HWI := pA (show ∀ c : Int, c = (l1.length : Int) - 1 → bung_within.f (rd l2 x) 0 c = some false from fun c hc => by rw [within_f, decide_eq_false (by omega)])
       have hno : okOrder l1.length l2 = false := OInv.bad HKL.out (by rw [← HRD.out]; exact hin)
       have H := HH.out
       rw [if_neg (by rw [hno]; decide)] at H
       simp only [Prod.mk.injEq] at H
       obtain ⟨rfl, rfl, rfl, rfl⟩ := H
       clear HH hin hno
       go_wp2_with (go_at_call 111; refine (bung_within.calls _ _ _ false _ (HWI.out _ (by first | rfl | exact HWL.out))).mono ?_; rintro e w3 ⟨rfl, hb⟩; have HB3 := pA (below_step HB.out (Drawn0.below hb)); have HX7 := pA (blk_below HX5.out (Drawn0.below hb)); clear hb; have y0 := blk_cell HX7.out 0; have z0 := blk_frozen HX7.out 0; have y1 := blk_cell HX7.out 1; have z1 := blk_frozen HX7.out 1; have y2 := blk_cell HX7.out 2; have z2 := blk_frozen HX7.out 2)
       refine bodyPost_ret (results_ct rfl _ _ (w.heap.size + 1) 43 #[.int .i64 0, .int .i64 0, .slice none 0 0] (0, 0) _ rfl (blk_put (blk_put (blk_put HX7.out 0 _ rfl) 1 _ rfl) 2 _ rfl) Try.underlying43 rfl (by kernel_rfl)) rfl ?_
       exact ⟨_, rfl, Kd.R_nil _ _ _ _ _, below_set (below_set (below_set HB3.out (by simp)) (by simp)) (by simp)⟩
     ·have hkb : decide (x < (l2.length : Int)) = false := decide_eq_false hk
      have e : x.toNat = l2.length := by have := HK.out; omega
      have hyes : okOrder l1.length l2 = true := by have := HI.out; rw [e] at this; exact this.all
      have H := HH.out
      rw [if_pos hyes] at H
      simp only [Prod.mk.injEq] at H
      obtain ⟨rfl, rfl, rfl, rfl⟩ := H
      have hin : inIx l1.length l2 = true := by simp only [okOrder, Bool.and_eq_true] at hyes; exact hyes.1
      have hle2 : l2.length ≤ 1000000 := by
       simp only [okOrder, Bool.and_eq_true, decide_eq_true_eq] at hyes
       have := nodup_le hyes.2 hin
       have h3 := HOK.out
       simp only [okList, Bool.and_eq_true, decide_eq_true_eq] at h3
       omega
      have HST := pA (stacked_eq l1 l2 hin hle2)
      have y3 := blk_cell HX6.out 0
      have y4 := blk_cell HX6.out 1
      clear HH hyes hin hle2 e hk
      go_wp2
      go_region_held3 (fun w' => w'.cell? ⟨w.heap.size, 0, none⟩ = some (.int .i64 a0_0) ∧ w'.cell? ⟨w.heap.size, 1, none⟩ = some (.int .i64 a0_1))
       (first
        | exact ⟨y3, y4⟩
        | exact ⟨hq0, hq1⟩
        | exact ⟨set_far (by assumption), set_far (by assumption)⟩
        | go_keep)
       (first
        | (go_at_call 112; refine (bung_stacked.calls _ _ _ l1 _ _ l2 _ _ (Kd.C_below HR1.out (below_drew HB.out)) hc1 (Kd.C_below HR2.out (below_drew HB.out)) hc2 HST.out).mono ?_; rintro e w3 ⟨v3, rfl, ho, hb⟩; obtain ⟨A3, c3, rfl⟩ := Kd.R_slice ho; have hq0 : w3.cell? ⟨w.heap.size, 0, none⟩ = some (.int .i64 a0_0) := (blk_cell (blk_below (blk_drew HX6.out) hb) 0).trans rfl; have hq1 : w3.cell? ⟨w.heap.size, 1, none⟩ = some (.int .i64 a0_1) := (blk_cell (blk_below (blk_drew HX6.out) hb) 1).trans rfl; have HX7 := pA (blk_below (blk_drew HX5.out) hb); have HB3 := pA (below_step (below_drew HB.out) hb); have HO3 := pA (Kd.R_lower (Kd.R_mono (ok' := fun k => k ≠ w.heap.size + 1) (Kd.R_bound ho) (fun k hk e => by have h1 := hk.2.1; have h2 := blk_lt HX5.out; rw [e] at h1; exact Nat.lt_irrefl _ (Nat.lt_of_lt_of_le h2 h1))) (below_drew HB.out).size); clear ho hb; have q0 := blk_cell HX7.out 0; have q1 := blk_cell HX7.out 1; have q2 := blk_cell HX7.out 2; have z0 := blk_frozen HX7.out 0; have z1 := blk_frozen HX7.out 1; have z2 := blk_frozen HX7.out 2))
      go_wp2
      refine bodyPost_ret (results_ct rfl _ _ (w.heap.size + 1) 43 #[.int .i64 a0_0, .int .i64 a0_1, .slice A3 (pick l1 l2).length c3] (0, 0) _ rfl (blk_put (blk_put (blk_put HX7.out 0 _ rfl) 1 _ rfl) 2 _ rfl) Try.underlying43 rfl (by kernel_rfl)) rfl ?_
      exact ⟨_, rfl, Kd.R_mono (Kd.R_far (Kd.R_far (Kd.R_far HO3.out (fun k hk => hk) _) (fun k hk => hk) _) (fun k hk => hk) _) (fun _ _ => trivial), below_set (below_set (below_set HB3.out (by simp)) (by simp)) (by simp)⟩
def slices_Index_int_int.l0 : Nat → List Int → Int → Int → Int → Option (Int)
  | 0, _, _, _, _ => none
  | k + 1, x0, x1, x7, x8 => if x8 < x7 then (if 0 ≤ x8 then (if x8 < (x0.length : Int) then (if x1 = (rd x0 x8) then (some x8) else (slices_Index_int_int.l0 k x0 x1 x7 (wrap64 (x8 + 1)))) else (none)) else (none)) else (some (-1))
def slices_Index_int_int.f (k : Nat) (l0 : List Int) (a1 : Int) : Option (Int) := slices_Index_int_int.l0 k l0 a1 (l0.length : Int) 0
theorem slices_Index_int_int.mono_l : ∀ k, (∀ y0 y1 y2 y3, LeO (slices_Index_int_int.l0 k y0 y1 y2 y3) (slices_Index_int_int.l0 (k + 1) y0 y1 y2 y3))
 | 0 => fun _ _ _ _ r h => by simp [slices_Index_int_int.l0] at h
 | k + 1 => by
  have ih0 := slices_Index_int_int.mono_l k
  ·intro y0 y1 y2 y3
   unfold slices_Index_int_int.l0
   repeat' first
   | (with_reducible exact ih0 _ _ _ _)
   | (with_reducible exact LeO.refl _)
   | (with_reducible exact LeO.none _)
   | (with_reducible refine LeO.ite ?_ ?_)
   | (with_reducible refine LeO.bind ?_ (fun _ => ?_))
   | exact ih0 _ _ _ _
   | exact LeO.none _
   | refine LeO.ite ?_ ?_
   | refine LeO.bind ?_ (fun _ => ?_)
theorem slices_Index_int_int.mono : ∀ a0 a1 k, LeO (slices_Index_int_int.f k a0 a1) (slices_Index_int_int.f (k + 1) a0 a1) := by
 intro a0 a1 k
 have ih0 := slices_Index_int_int.mono_l k
 unfold slices_Index_int_int.f
 repeat' first
   | (with_reducible exact ih0 _ _ _ _)
   | (with_reducible exact LeO.refl _)
   | (with_reducible exact LeO.none _)
   | (with_reducible refine LeO.ite ?_ ?_)
   | (with_reducible refine LeO.bind ?_ (fun _ => ?_))
   | exact ih0 _ _ _ _
   | exact LeO.none _
   | refine LeO.ite ?_ ?_
   | refine LeO.bind ?_ (fun _ => ?_)
set_option maxHeartbeats 8000000 in
set_option maxRecDepth 100000 in
theorem slices_Index_int_int.calls (k : Nat) (A0 : Option Addr) (c0 : Nat) (l0 : List Int) (a1 : Int) (r : Int) (w : World) (hr0 : Kd.C (Kd.int .i64) w A0 l0.length l0) (hc0 : l0.length ≤ c0) (h : slices_Index_int_int.f k l0 a1 = some r) :
  Calls Try.prog 144 #[.slice A0 l0.length c0, .int .i64 a1] w fun e w' => e = .returned (.int .i64 r) ∧ Drawn0 w w' := by
 have HR0 := pA hr0
 have HC0 := pA hc0
 clear hr0 hc0
 have H : (slices_Index_int_int.l0 k l0 a1 (l0.length : Int) 0) = some r := h
 clear h
 have H' := pA H
 clear H
 go_enter Try.func144, Try.ntmps144
 go_wp2
 go_loopg [8] k (fun kq v8 w' => ∃ (x8_1 : Int), v8 = .int .i64 x8_1 ∧ Aside0 (slices_Index_int_int.l0 kq l0 a1 (l0.length : Int) x8_1 = some r) ∧ Aside0 (kq ≤ k) ∧ Drawn0 w w')
 case atStart => exact ⟨(0), (by first | rfl | (simp; done) | (simp [*]; done)), H', ⟨Nat.le_refl _⟩, by repeat (first | exact Drawn0.refl _ | apply Drawn0.step)⟩
 case round =>
  clear H'
  try clear c1
  try clear p2
  obtain ⟨x8_1, rfl, HA, HK1, ⟨m1, rfl⟩⟩ := hrel
  cases gk with
  | zero => exact absurd HA.out (by simp [slices_Index_int_int.l0])
  | succ k1 =>
   have H := HA.out
   clear HA
   simp only [slices_Index_int_int.l0] at H
   by_cases c3 : x8_1 < (l0.length : Int)
   ·rw [if_pos c3] at H
    have c3b0 : decide (x8_1 < (l0.length : Int)) = true := decide_eq_true c3
    clear c3
    by_cases c4 : 0 ≤ x8_1
    ·rw [if_pos c4] at H
     have c4b0 : decide (0 ≤ x8_1) = true := decide_eq_true c4
     clear c4
     by_cases c5 : x8_1 < (l0.length : Int)
     ·rw [if_pos c5] at H
      have c5b0 : decide (x8_1 < (l0.length : Int)) = true := decide_eq_true c5
      clear c5
      by_cases c6 : a1 = (rd l0 x8_1)
      ·rw [if_pos c6] at H
       have c6b0 : (a1 == (rd l0 x8_1)) = true := beq_iff_eq.mpr c6
       have c6b1 : (a1 != (rd l0 x8_1)) = false := bne_eq_false_iff_eq.mpr c6
       clear c6
       obtain rfl := Option.some.inj H
       have p116 : 0 ≤ (x8_1 : Int) := of_decide_eq_true (by first | (with_reducible assumption) | assumption)
       have q116 : x8_1 < (l0.length : Int) := of_decide_eq_true (by first | (with_reducible assumption) | assumption)
       obtain ⟨ad116, e116, hx116_0⟩ := Kd.at_int HR0.out x8_1 p116 q116
       cases e116
       replace p116 := eq_true p116
       replace q116 := eq_true q116
       go_wp2
       go_ret
       exact ⟨by first | rfl | (simp; done) | (simp [*]; done), by repeat (first | exact Drawn0.refl _ | apply Drawn0.step)⟩
      ·rw [if_neg c6] at H
       have c6b0 : (a1 == (rd l0 x8_1)) = false := beq_eq_false_iff_ne.mpr c6
       have c6b1 : (a1 != (rd l0 x8_1)) = true := bne_iff_ne.mpr c6
       have H' := pA H
       clear H
       have p116 : 0 ≤ (x8_1 : Int) := of_decide_eq_true (by first | (with_reducible assumption) | assumption)
       have q116 : x8_1 < (l0.length : Int) := of_decide_eq_true (by first | (with_reducible assumption) | assumption)
       obtain ⟨ad116, e116, hx116_0⟩ := Kd.at_int HR0.out x8_1 p116 q116
       cases e116
       replace p116 := eq_true p116
       replace q116 := eq_true q116
       go_wp2
       go_roundg k1
       case measure => have := HK1.out; omega
       case rel => exact ⟨(wrap64 (x8_1 + 1)), (by first | rfl | (simp; done) | (simp [*]; done)), H', ⟨by have := HK1.out; omega⟩, by repeat (first | exact Drawn0.refl _ | apply Drawn0.step)⟩
     ·rw [if_neg c5] at H
      exact absurd H (by simp)
    ·rw [if_neg c4] at H
     exact absurd H (by simp)
   ·rw [if_neg c3] at H
    have c3b0 : decide (x8_1 < (l0.length : Int)) = false := decide_eq_false c3
    clear c3
    obtain rfl := Option.some.inj H
    go_wp2
    go_ret
    exact ⟨by first | rfl | (simp; done) | (simp [*]; done), by repeat (first | exact Drawn0.refl _ | apply Drawn0.step)⟩
def slices_Contains_int_int.f (k : Nat) (l0 : List Int) (a1 : Int) : Option (Bool) := (slices_Index_int_int.f k l0 a1).bind fun t117 => (some (decide (t117 ≥ 0)))
theorem slices_Contains_int_int.mono : ∀ a0 a1 k, LeO (slices_Contains_int_int.f k a0 a1) (slices_Contains_int_int.f (k + 1) a0 a1) := by
 intro a0 a1 k
 unfold slices_Contains_int_int.f
 repeat' first
   | (with_reducible exact slices_Index_int_int.mono _ _ _)
   | (with_reducible exact LeO.refl _)
   | (with_reducible exact LeO.none _)
   | (with_reducible refine LeO.ite ?_ ?_)
   | (with_reducible refine LeO.bind ?_ (fun _ => ?_))
   | exact slices_Index_int_int.mono _ _ _
   | exact LeO.none _
   | refine LeO.ite ?_ ?_
   | refine LeO.bind ?_ (fun _ => ?_)
set_option maxHeartbeats 8000000 in
set_option maxRecDepth 100000 in
theorem slices_Contains_int_int.calls (k : Nat) (A0 : Option Addr) (c0 : Nat) (l0 : List Int) (a1 : Int) (r : Bool) (w : World) (hr0 : Kd.C (Kd.int .i64) w A0 l0.length l0) (hc0 : l0.length ≤ c0) (h : slices_Contains_int_int.f k l0 a1 = some r) :
  Calls Try.prog 127 #[.slice A0 l0.length c0, .int .i64 a1] w fun e w' => e = .returned (.bool r) ∧ Drawn0 w w' := by
 have HR0 := pA hr0
 have HC0 := pA hc0
 clear hr0 hc0
 have H : ((slices_Index_int_int.f k l0 a1).bind fun t117 => (some (decide (t117 ≥ 0)))) = some r := h
 clear h
 replace H := Option.bind_eq_some_iff.mp H
 obtain ⟨t117, A30, H⟩ := H
 replace H : (some (decide (t117 ≥ 0))) = some r := H
 have A3 := pA A30
 clear A30
 obtain rfl := Option.some.inj H
 go_enter Try.func127, Try.ntmps127
 go_wp2_with (first | ((with_reducible refine aF (f := 144) rfl ?_); refine goesL_ (some 7) rfl rfl Try.func144 (by kernel_rfl) rfl #[.slice A0 l0.length c0, .int .i64 a1] rfl (by (try simp only [pE, pF, pG]); first | done | rfl | (simp only [pH, pI]; rfl)) ?_; (with_reducible refine (slices_Index_int_int.calls k _ _ l0 a1 t117 _ ?side1 ?side2 A3.out).mono ?_); (case side1 => repeat (first | exact HR0.out | (with_reducible refine Kd.C_alloc ?_ _) | (with_reducible refine Kd.C_drewN ?_ _) | (with_reducible refine Kd.C_drew ?_))); (case side2 => exact HC0.out); rintro e w' ⟨rfl, ⟨nd, rfl⟩⟩; refine ⟨_, rfl, ?_⟩))
 go_ret
 exact ⟨by first | rfl | (simp; done) | (simp [*]; done), by repeat (first | exact Drawn0.refl _ | apply Drawn0.step)⟩
def bung_all.f (k : Nat) (l0 : List Int) : Option (Int) := (slices_Contains_int_int.f k l0 0).bind fun t118 => (if t118 = true then (some 0) else ((slices_Contains_int_int.f k l0 2).bind fun t119 => (if t119 = true then (some 2) else (some 1))))
theorem bung_all.mono : ∀ a0 k, LeO (bung_all.f k a0) (bung_all.f (k + 1) a0) := by
 intro a0 k
 unfold bung_all.f
 repeat' first
   | (with_reducible exact slices_Contains_int_int.mono _ _ _)
   | (with_reducible exact LeO.refl _)
   | (with_reducible exact LeO.none _)
   | (with_reducible refine LeO.ite ?_ ?_)
   | (with_reducible refine LeO.bind ?_ (fun _ => ?_))
   | exact slices_Contains_int_int.mono _ _ _
   | exact LeO.none _
   | refine LeO.ite ?_ ?_
   | refine LeO.bind ?_ (fun _ => ?_)
set_option maxHeartbeats 8000000 in
set_option maxRecDepth 100000 in
theorem bung_all.calls (k : Nat) (A0 : Option Addr) (c0 : Nat) (l0 : List Int) (r : Int) (w : World) (hr0 : Kd.C (Kd.int .i64) w A0 l0.length l0) (hc0 : l0.length ≤ c0) (h : bung_all.f k l0 = some r) :
  Calls Try.prog 81 #[.slice A0 l0.length c0] w fun e w' => e = .returned (.int .i64 r) ∧ Drawn0 w w' := by
 have HR0 := pA hr0
 have HC0 := pA hc0
 clear hr0 hc0
 have H : ((slices_Contains_int_int.f k l0 0).bind fun t118 => (if t118 = true then (some 0) else ((slices_Contains_int_int.f k l0 2).bind fun t119 => (if t119 = true then (some 2) else (some 1))))) = some r := h
 clear h
 replace H := Option.bind_eq_some_iff.mp H
 obtain ⟨t118, A20, H⟩ := H
 replace H : (if t118 = true then (some 0) else ((slices_Contains_int_int.f k l0 2).bind fun t119 => (if t119 = true then (some 2) else (some 1)))) = some r := H
 have A2 := pA A20
 clear A20
 by_cases c3 : t118 = true
 ·subst c3
  have H1 : (some 0) = some r := by rw [if_pos rfl] at H; exact H
  clear H
  have H := H1
  clear H1
  obtain rfl := Option.some.inj H
  go_enter Try.func81, Try.ntmps81
  go_wp2_with (first | ((with_reducible refine aF (f := 127) rfl ?_); refine goesL_ (some 5) rfl rfl Try.func127 (by kernel_rfl) rfl #[.slice A0 l0.length c0, .int .i64 0] rfl (by (try simp only [pE, pF, pG]); first | done | rfl | (simp only [pH, pI]; rfl)) ?_; (with_reducible refine (slices_Contains_int_int.calls k _ _ l0 0 true _ ?side1 ?side2 A2.out).mono ?_); (case side1 => repeat (first | exact HR0.out | (with_reducible refine Kd.C_alloc ?_ _) | (with_reducible refine Kd.C_drewN ?_ _) | (with_reducible refine Kd.C_drew ?_))); (case side2 => exact HC0.out); rintro e w' ⟨rfl, ⟨nd, rfl⟩⟩; refine ⟨_, rfl, ?_⟩))
  go_ret
  exact ⟨by first | rfl | (simp; done) | (simp [*]; done), by repeat (first | exact Drawn0.refl _ | apply Drawn0.step)⟩
 ·replace c3 := Bool.eq_false_iff.mpr c3
  subst c3
  have H1 : ((slices_Contains_int_int.f k l0 2).bind fun t119 => (if t119 = true then (some 2) else (some 1))) = some r := by rw [if_neg (show ¬ (false = true) by decide)] at H; exact H
  clear H
  have H := H1
  clear H1
  replace H := Option.bind_eq_some_iff.mp H
  obtain ⟨t119, A40, H⟩ := H
  replace H : (if t119 = true then (some 2) else (some 1)) = some r := H
  have A4 := pA A40
  clear A40
  by_cases c5 : t119 = true
  ·subst c5
   have H1 : (some 2) = some r := by rw [if_pos rfl] at H; exact H
   clear H
   have H := H1
   clear H1
   obtain rfl := Option.some.inj H
   go_enter Try.func81, Try.ntmps81
   go_wp2_with (first | ((with_reducible refine aF (f := 127) rfl ?_); refine goesL_ (some 5) rfl rfl Try.func127 (by kernel_rfl) rfl #[.slice A0 l0.length c0, .int .i64 0] rfl (by (try simp only [pE, pF, pG]); first | done | rfl | (simp only [pH, pI]; rfl)) ?_; (with_reducible refine (slices_Contains_int_int.calls k _ _ l0 0 false _ ?side1 ?side2 A2.out).mono ?_); (case side1 => repeat (first | exact HR0.out | (with_reducible refine Kd.C_alloc ?_ _) | (with_reducible refine Kd.C_drewN ?_ _) | (with_reducible refine Kd.C_drew ?_))); (case side2 => exact HC0.out); rintro e w' ⟨rfl, ⟨nd, rfl⟩⟩; refine ⟨_, rfl, ?_⟩) | ((with_reducible refine aF (f := 127) rfl ?_); refine goesL_ (some 8) rfl rfl Try.func127 (by kernel_rfl) rfl #[.slice A0 l0.length c0, .int .i64 2] rfl (by (try simp only [pE, pF, pG]); first | done | rfl | (simp only [pH, pI]; rfl)) ?_; (with_reducible refine (slices_Contains_int_int.calls k _ _ l0 2 true _ ?side1 ?side2 A4.out).mono ?_); (case side1 => repeat (first | exact HR0.out | (with_reducible refine Kd.C_alloc ?_ _) | (with_reducible refine Kd.C_drewN ?_ _) | (with_reducible refine Kd.C_drew ?_))); (case side2 => exact HC0.out); rintro e w' ⟨rfl, ⟨nd, rfl⟩⟩; refine ⟨_, rfl, ?_⟩))
   go_ret
   exact ⟨by first | rfl | (simp; done) | (simp [*]; done), by repeat (first | exact Drawn0.refl _ | apply Drawn0.step)⟩
  ·replace c5 := Bool.eq_false_iff.mpr c5
   subst c5
   have H1 : (some 1) = some r := by rw [if_neg (show ¬ (false = true) by decide)] at H; exact H
   clear H
   have H := H1
   clear H1
   obtain rfl := Option.some.inj H
   go_enter Try.func81, Try.ntmps81
   go_wp2_with (first | ((with_reducible refine aF (f := 127) rfl ?_); refine goesL_ (some 5) rfl rfl Try.func127 (by kernel_rfl) rfl #[.slice A0 l0.length c0, .int .i64 0] rfl (by (try simp only [pE, pF, pG]); first | done | rfl | (simp only [pH, pI]; rfl)) ?_; (with_reducible refine (slices_Contains_int_int.calls k _ _ l0 0 false _ ?side1 ?side2 A2.out).mono ?_); (case side1 => repeat (first | exact HR0.out | (with_reducible refine Kd.C_alloc ?_ _) | (with_reducible refine Kd.C_drewN ?_ _) | (with_reducible refine Kd.C_drew ?_))); (case side2 => exact HC0.out); rintro e w' ⟨rfl, ⟨nd, rfl⟩⟩; refine ⟨_, rfl, ?_⟩) | ((with_reducible refine aF (f := 127) rfl ?_); refine goesL_ (some 8) rfl rfl Try.func127 (by kernel_rfl) rfl #[.slice A0 l0.length c0, .int .i64 2] rfl (by (try simp only [pE, pF, pG]); first | done | rfl | (simp only [pH, pI]; rfl)) ?_; (with_reducible refine (slices_Contains_int_int.calls k _ _ l0 2 false _ ?side1 ?side2 A4.out).mono ?_); (case side1 => repeat (first | exact HR0.out | (with_reducible refine Kd.C_alloc ?_ _) | (with_reducible refine Kd.C_drewN ?_ _) | (with_reducible refine Kd.C_drew ?_))); (case side2 => exact HC0.out); rintro e w' ⟨rfl, ⟨nd, rfl⟩⟩; refine ⟨_, rfl, ?_⟩))
   go_ret
   exact ⟨by first | rfl | (simp; done) | (simp [*]; done), by repeat (first | exact Drawn0.refl _ | apply Drawn0.step)⟩
def bung_answer.f (a0_0 : Int) (a0_1 : Int) (a1_0 : Int) (a1_1 : Int) : Option (Int) := if a0_1 ≤ a1_0 then (some 1) else (if a0_0 > a1_1 then (some 0) else (some 2))
set_option maxHeartbeats 8000000 in
set_option maxRecDepth 100000 in
theorem bung_answer.calls (a0_0 : Int) (a0_1 : Int) (a1_0 : Int) (a1_1 : Int) (r : Int) (w : World) (h : bung_answer.f a0_0 a0_1 a1_0 a1_1 = some r) :
  Calls Try.prog 128 #[.agg #[.int .i64 a0_0, .int .i64 a0_1], .agg #[.int .i64 a1_0, .int .i64 a1_1]] w fun e w' => e = .returned (.int .i64 r) ∧ Below w.heap.size w w' := by
 have hu23 := Try.underlying23
 have HB := pA (Below.refl w.heap.size w)
 have H : (if a0_1 ≤ a1_0 then (some 1) else (if a0_0 > a1_1 then (some 0) else (some 2))) = some r := h
 clear h
 by_cases c3 : a0_1 ≤ a1_0
 ·rw [if_pos c3] at H
  have c3b0 : decide (a0_1 ≤ a1_0) = true := decide_eq_true c3
  clear c3
  obtain rfl := Option.some.inj H
  go_enter Try.func128, Try.ntmps128
  go_wp2_with (first | ((with_reducible refine gate_dst (N := 2) rfl ?_); refine box_event ?hg (N := 2) ?hd (cs := #[.int .i64 a0_0, .int .i64 a0_1]) (t := 23) ?hr ?_; (case hd => rfl); (case hg => rfl); (case hr => first | (go_simp; done) | (go_simp; rfl)); intro gb120 hg w4 hbox hb; have n0_ := pA (below_step (vB HB) hb); have n1_ := pA (hbox); have n2_ := pA ((by rw [hg]; exact (below_size (vB HB)) : w.heap.size ≤ gb120)); have n3_ := pA ((by rw [hg]; exact (below_size (vB HB)) : w.heap.size ≤ gb120)); clear HB; have HB := n0_; have BK120 := n1_; have GW120 := n2_; have GE120 := n3_; clear n0_ n1_ n2_ n3_; clear hb hbox hg) | ((with_reducible refine gate_dst (N := 3) rfl ?_); refine box_event ?hg (N := 3) ?hd (cs := #[.int .i64 a1_0, .int .i64 a1_1]) (t := 23) ?hr ?_; (case hd => rfl); (case hg => rfl); (case hr => first | (go_simp; done) | (go_simp; rfl)); intro gb121 hg w5 hbox hb; have n0_ := pA (blk_below (g := gb120) (o := .cells #[.int .i64 a0_0, .int .i64 a0_1] 23 (0, 0)) (vK BK120) hb); have n1_ := pA (below_step (by repeat (first | (with_reducible first | exact HB.out | apply below_alloc | apply pw_below_drewN | apply below_drew1 | refine below_set ?_ GE120.out) | exact HB.out)) hb); have n2_ := pA (hbox); have n3_ := pA ((by rw [hg]; exact (below_size (by repeat (first | (with_reducible first | exact HB.out | apply below_alloc | apply pw_below_drewN | apply below_drew1 | refine below_set ?_ GE120.out) | exact HB.out))) : w.heap.size ≤ gb121)); have n4_ := pA ((by rw [hg]; exact (below_size (by repeat (first | (with_reducible first | exact HB.out | apply below_alloc | apply pw_below_drewN | apply below_drew1 | refine below_set ?_ GE120.out) | exact HB.out))) : w.heap.size ≤ gb121)); have n5_ := pA ((by rw [hg]; exact Nat.ne_of_lt (blk_lt (g := gb120) (o := .cells #[.int .i64 a0_0, .int .i64 a0_1] 23 (0, 0)) (vK BK120)) : gb120 ≠ gb121)); have n6_ := pA ((by rw [hg]; exact Nat.ne_of_gt (blk_lt (g := gb120) (o := .cells #[.int .i64 a0_0, .int .i64 a0_1] 23 (0, 0)) (vK BK120)) : gb121 ≠ gb120)); clear BK120; clear HB; have BK120 := n0_; have HB := n1_; have BK121 := n2_; have GW121 := n3_; have GE121 := n4_; have NB120_121 := n5_; have NB121_120 := n6_; clear n0_ n1_ n2_ n3_ n4_ n5_ n6_; clear hb hbox hg; have hnb6 := NB120_121.out; have hnc6 := NB121_120.out; have hcz7_0 : w5.cell? ⟨gb120, 0, none⟩ = some (.int .i64 a0_0) := (blk_cell BK120.out 0).trans rfl; have hcz7_1 : w5.cell? ⟨gb120, 1, none⟩ = some (.int .i64 a0_1) := (blk_cell BK120.out 1).trans rfl; have hfz7_0 := blk_frozen BK120.out 0; have hfz7_1 := blk_frozen BK120.out 1; have hcz8_0 : w5.cell? ⟨gb121, 0, none⟩ = some (.int .i64 a1_0) := (blk_cell BK121.out 0).trans rfl; have hcz8_1 : w5.cell? ⟨gb121, 1, none⟩ = some (.int .i64 a1_1) := (blk_cell BK121.out 1).trans rfl; have hfz8_0 := blk_frozen BK121.out 0; have hfz8_1 := blk_frozen BK121.out 1))
  go_ret
  exact ⟨by first | rfl | (simp [errW_none, errW_some] <;> rfl) | (simp [*, errW_none, errW_some] <;> rfl), by repeat (first | (with_reducible first | exact HB.out | apply below_alloc | apply pw_below_drewN | apply below_drew1 | refine below_set ?_ GE120.out | refine below_set ?_ GE121.out) | exact HB.out)⟩
 ·rw [if_neg c3] at H
  have c3b0 : decide (a0_1 ≤ a1_0) = false := decide_eq_false c3
  clear c3
  by_cases c9 : a0_0 > a1_1
  ·rw [if_pos c9] at H
   have c9b0 : decide (a1_1 < a0_0) = true := decide_eq_true c9
   clear c9
   obtain rfl := Option.some.inj H
   go_enter Try.func128, Try.ntmps128
   go_wp2_with (first | ((with_reducible refine gate_dst (N := 2) rfl ?_); refine box_event ?hg (N := 2) ?hd (cs := #[.int .i64 a0_0, .int .i64 a0_1]) (t := 23) ?hr ?_; (case hd => rfl); (case hg => rfl); (case hr => first | (go_simp; done) | (go_simp; rfl)); intro gb120 hg w10 hbox hb; have n0_ := pA (below_step (vB HB) hb); have n1_ := pA (hbox); have n2_ := pA ((by rw [hg]; exact (below_size (vB HB)) : w.heap.size ≤ gb120)); have n3_ := pA ((by rw [hg]; exact (below_size (vB HB)) : w.heap.size ≤ gb120)); clear HB; have HB := n0_; have BK120 := n1_; have GW120 := n2_; have GE120 := n3_; clear n0_ n1_ n2_ n3_; clear hb hbox hg) | ((with_reducible refine gate_dst (N := 3) rfl ?_); refine box_event ?hg (N := 3) ?hd (cs := #[.int .i64 a1_0, .int .i64 a1_1]) (t := 23) ?hr ?_; (case hd => rfl); (case hg => rfl); (case hr => first | (go_simp; done) | (go_simp; rfl)); intro gb121 hg w11 hbox hb; have n0_ := pA (blk_below (g := gb120) (o := .cells #[.int .i64 a0_0, .int .i64 a0_1] 23 (0, 0)) (vK BK120) hb); have n1_ := pA (below_step (by repeat (first | (with_reducible first | exact HB.out | apply below_alloc | apply pw_below_drewN | apply below_drew1 | refine below_set ?_ GE120.out) | exact HB.out)) hb); have n2_ := pA (hbox); have n3_ := pA ((by rw [hg]; exact (below_size (by repeat (first | (with_reducible first | exact HB.out | apply below_alloc | apply pw_below_drewN | apply below_drew1 | refine below_set ?_ GE120.out) | exact HB.out))) : w.heap.size ≤ gb121)); have n4_ := pA ((by rw [hg]; exact (below_size (by repeat (first | (with_reducible first | exact HB.out | apply below_alloc | apply pw_below_drewN | apply below_drew1 | refine below_set ?_ GE120.out) | exact HB.out))) : w.heap.size ≤ gb121)); have n5_ := pA ((by rw [hg]; exact Nat.ne_of_lt (blk_lt (g := gb120) (o := .cells #[.int .i64 a0_0, .int .i64 a0_1] 23 (0, 0)) (vK BK120)) : gb120 ≠ gb121)); have n6_ := pA ((by rw [hg]; exact Nat.ne_of_gt (blk_lt (g := gb120) (o := .cells #[.int .i64 a0_0, .int .i64 a0_1] 23 (0, 0)) (vK BK120)) : gb121 ≠ gb120)); clear BK120; clear HB; have BK120 := n0_; have HB := n1_; have BK121 := n2_; have GW121 := n3_; have GE121 := n4_; have NB120_121 := n5_; have NB121_120 := n6_; clear n0_ n1_ n2_ n3_ n4_ n5_ n6_; clear hb hbox hg; have hnb12 := NB120_121.out; have hnc12 := NB121_120.out; have hcz13_0 : w11.cell? ⟨gb120, 0, none⟩ = some (.int .i64 a0_0) := (blk_cell BK120.out 0).trans rfl; have hcz13_1 : w11.cell? ⟨gb120, 1, none⟩ = some (.int .i64 a0_1) := (blk_cell BK120.out 1).trans rfl; have hfz13_0 := blk_frozen BK120.out 0; have hfz13_1 := blk_frozen BK120.out 1; have hcz14_0 : w11.cell? ⟨gb121, 0, none⟩ = some (.int .i64 a1_0) := (blk_cell BK121.out 0).trans rfl; have hcz14_1 : w11.cell? ⟨gb121, 1, none⟩ = some (.int .i64 a1_1) := (blk_cell BK121.out 1).trans rfl; have hfz14_0 := blk_frozen BK121.out 0; have hfz14_1 := blk_frozen BK121.out 1))
   go_ret
   exact ⟨by first | rfl | (simp [errW_none, errW_some] <;> rfl) | (simp [*, errW_none, errW_some] <;> rfl), by repeat (first | (with_reducible first | exact HB.out | apply below_alloc | apply pw_below_drewN | apply below_drew1 | refine below_set ?_ GE120.out | refine below_set ?_ GE121.out) | exact HB.out)⟩
  ·rw [if_neg c9] at H
   have c9b0 : decide (a1_1 < a0_0) = false := decide_eq_false c9
   clear c9
   obtain rfl := Option.some.inj H
   go_enter Try.func128, Try.ntmps128
   go_wp2_with (first | ((with_reducible refine gate_dst (N := 2) rfl ?_); refine box_event ?hg (N := 2) ?hd (cs := #[.int .i64 a0_0, .int .i64 a0_1]) (t := 23) ?hr ?_; (case hd => rfl); (case hg => rfl); (case hr => first | (go_simp; done) | (go_simp; rfl)); intro gb120 hg w15 hbox hb; have n0_ := pA (below_step (vB HB) hb); have n1_ := pA (hbox); have n2_ := pA ((by rw [hg]; exact (below_size (vB HB)) : w.heap.size ≤ gb120)); have n3_ := pA ((by rw [hg]; exact (below_size (vB HB)) : w.heap.size ≤ gb120)); clear HB; have HB := n0_; have BK120 := n1_; have GW120 := n2_; have GE120 := n3_; clear n0_ n1_ n2_ n3_; clear hb hbox hg) | ((with_reducible refine gate_dst (N := 3) rfl ?_); refine box_event ?hg (N := 3) ?hd (cs := #[.int .i64 a1_0, .int .i64 a1_1]) (t := 23) ?hr ?_; (case hd => rfl); (case hg => rfl); (case hr => first | (go_simp; done) | (go_simp; rfl)); intro gb121 hg w16 hbox hb; have n0_ := pA (blk_below (g := gb120) (o := .cells #[.int .i64 a0_0, .int .i64 a0_1] 23 (0, 0)) (vK BK120) hb); have n1_ := pA (below_step (by repeat (first | (with_reducible first | exact HB.out | apply below_alloc | apply pw_below_drewN | apply below_drew1 | refine below_set ?_ GE120.out) | exact HB.out)) hb); have n2_ := pA (hbox); have n3_ := pA ((by rw [hg]; exact (below_size (by repeat (first | (with_reducible first | exact HB.out | apply below_alloc | apply pw_below_drewN | apply below_drew1 | refine below_set ?_ GE120.out) | exact HB.out))) : w.heap.size ≤ gb121)); have n4_ := pA ((by rw [hg]; exact (below_size (by repeat (first | (with_reducible first | exact HB.out | apply below_alloc | apply pw_below_drewN | apply below_drew1 | refine below_set ?_ GE120.out) | exact HB.out))) : w.heap.size ≤ gb121)); have n5_ := pA ((by rw [hg]; exact Nat.ne_of_lt (blk_lt (g := gb120) (o := .cells #[.int .i64 a0_0, .int .i64 a0_1] 23 (0, 0)) (vK BK120)) : gb120 ≠ gb121)); have n6_ := pA ((by rw [hg]; exact Nat.ne_of_gt (blk_lt (g := gb120) (o := .cells #[.int .i64 a0_0, .int .i64 a0_1] 23 (0, 0)) (vK BK120)) : gb121 ≠ gb120)); clear BK120; clear HB; have BK120 := n0_; have HB := n1_; have BK121 := n2_; have GW121 := n3_; have GE121 := n4_; have NB120_121 := n5_; have NB121_120 := n6_; clear n0_ n1_ n2_ n3_ n4_ n5_ n6_; clear hb hbox hg; have hnb17 := NB120_121.out; have hnc17 := NB121_120.out; have hcz18_0 : w16.cell? ⟨gb120, 0, none⟩ = some (.int .i64 a0_0) := (blk_cell BK120.out 0).trans rfl; have hcz18_1 : w16.cell? ⟨gb120, 1, none⟩ = some (.int .i64 a0_1) := (blk_cell BK120.out 1).trans rfl; have hfz18_0 := blk_frozen BK120.out 0; have hfz18_1 := blk_frozen BK120.out 1; have hcz19_0 : w16.cell? ⟨gb121, 0, none⟩ = some (.int .i64 a1_0) := (blk_cell BK121.out 0).trans rfl; have hcz19_1 : w16.cell? ⟨gb121, 1, none⟩ = some (.int .i64 a1_1) := (blk_cell BK121.out 1).trans rfl; have hfz19_0 := blk_frozen BK121.out 0; have hfz19_1 := blk_frozen BK121.out 1))
   go_ret
   exact ⟨by first | rfl | (simp [errW_none, errW_some] <;> rfl) | (simp [*, errW_none, errW_some] <;> rfl), by repeat (first | (with_reducible first | exact HB.out | apply below_alloc | apply pw_below_drewN | apply below_drew1 | refine below_set ?_ GE120.out | refine below_set ?_ GE121.out) | exact HB.out)⟩
def bung_courses.l0 : Nat → List (S52) → List Int → List (S23) → Int → Int → Option (List Int)
  | 0, _, _, _, _, _ => none
  | k + 1, x0, x3, x7, x8, x9 => if x9 < x8 then (if 0 ≤ x9 then (if x9 < (x7.length : Int) then (if x9 < (x0.length : Int) then ((bung_answer.f ((rd_T23 x7 x9).f0) ((rd_T23 x7 x9).f1) ((rd_T52 x0 x9).f2.f0) ((rd_T52 x0 x9).f2.f1)).bind fun t128 => (if x3.length < 17592186044416 then (bung_courses.l0 k x0 (x3 ++ [t128]) x7 x8 (wrap64 (x9 + 1))) else (none))) else (none)) else (none)) else (none)) else (some x3)
def bung_courses.f (k : Nat) (l0 : List (S52)) : Option (List Int) := (bung_loads.f l0).bind fun t122 => (bung_courses.l0 k l0 ([] : List Int) t122 (t122.length : Int) 0)
theorem bung_courses.mono_l : ∀ k, (∀ y0 y1 y2 y3 y4, LeO (bung_courses.l0 k y0 y1 y2 y3 y4) (bung_courses.l0 (k + 1) y0 y1 y2 y3 y4))
 | 0 => fun _ _ _ _ _ r h => by simp [bung_courses.l0] at h
 | k + 1 => by
  have ih0 := bung_courses.mono_l k
  ·intro y0 y1 y2 y3 y4
   unfold bung_courses.l0
   repeat' first
   | (with_reducible exact ih0 _ _ _ _ _)
   | (with_reducible exact LeO.refl _)
   | (with_reducible exact LeO.none _)
   | (with_reducible refine LeO.ite ?_ ?_)
   | (with_reducible refine LeO.bind ?_ (fun _ => ?_))
   | exact ih0 _ _ _ _ _
   | exact LeO.none _
   | refine LeO.ite ?_ ?_
   | refine LeO.bind ?_ (fun _ => ?_)
theorem bung_courses.mono : ∀ a0 k, LeO (bung_courses.f k a0) (bung_courses.f (k + 1) a0) := by
 intro a0 k
 have ih0 := bung_courses.mono_l k
 unfold bung_courses.f
 repeat' first
   | (with_reducible exact ih0 _ _ _ _ _)
   | (with_reducible exact LeO.refl _)
   | (with_reducible exact LeO.none _)
   | (with_reducible refine LeO.ite ?_ ?_)
   | (with_reducible refine LeO.bind ?_ (fun _ => ?_))
   | exact ih0 _ _ _ _ _
   | exact LeO.none _
   | refine LeO.ite ?_ ?_
   | refine LeO.bind ?_ (fun _ => ?_)
def bung_courses.T5 : Bool × List (List Nat × List Nat) := (true, [([], []), ([], []), ([], []), ([], []), ([2, 3], [2, 3]), ([4], [4]), ([5], [5]), ([1, 6], [1, 6]), ([7], [7]), ([0, 8, 7], [0, 8]), ([9, 9, 0, 1, 2, 3, 4, 5, 6, 7, 8, 9], [0, 9])])
def bung_courses.B5 : List Nat := [0, 0, 0, 0, 12, 28, 60, 126, 254, 511, 1023]
theorem bung_courses.tab5 : rtab .any (opsOf Try.f82 5) = bung_courses.T5 := by kernel_rfl
theorem bung_courses.bits5 : waitsOk bung_courses.T5.2 bung_courses.B5 = true := by kernel_rfl
end Go.Proofs.Ytbiakjgjedhjhaa.P
