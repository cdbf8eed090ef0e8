/- Proved: the law BungRules of the program potbank answers true for every input, and leaves its arguments as they were. Conditions: none. (Part 7 of the texts, put together by wip/assemble.py of this repository.) -/
import Derived.Test.YtbiakjgjedhjhaaRk6
set_option linter.unusedVariables false
set_option linter.unusedSimpArgs false
namespace Go.Proofs.Ytbiakjgjedhjhaa.P
open Go.RowKit Go.Proofs.YtbiakjgjedhjhaaW.PrintWords Go.Proofs.YtbiakjgjedhjhaaW.PrintLast
def potbankref03_Rule.f (k : Nat) (l0 : List (S52)) : Option (List Int × Int) := (potbankref03_CheckList.f k l0).bind fun t492 => (if t492 = 0 then ((potbankref03_rule.f k l0).bind fun t493 => (some (t493, 0))) else (some (([] : List Int), 30)))
theorem potbankref03_Rule.mono : ∀ a0 k, LeO (potbankref03_Rule.f k a0) (potbankref03_Rule.f (k + 1) a0) := by
 intro a0 k
 unfold potbankref03_Rule.f
 repeat' first
   | (with_reducible exact potbankref03_CheckList.mono _ _)
   | (with_reducible exact potbankref03_rule.mono _ _)
   | (with_reducible exact LeO.refl _)
   | (with_reducible exact LeO.none _)
   | (with_reducible refine LeO.ite ?_ ?_)
   | (with_reducible refine LeO.bind ?_ (fun _ => ?_))
   | exact potbankref03_CheckList.mono _ _
   | exact potbankref03_rule.mono _ _
   | exact LeO.none _
   | refine LeO.ite ?_ ?_
   | refine LeO.bind ?_ (fun _ => ?_)
set_option maxHeartbeats 8000000 in
set_option maxRecDepth 100000 in
theorem potbankref03_Rule.calls (k : Nat) (A0 : Option Addr) (c0 : Nat) (l0 : List (S52)) (r1 : List Int) (r2 : Int) (w : World) (hr0 : Kd.C k52 w A0 l0.length l0) (hc0 : l0.length ≤ c0) (h : potbankref03_Rule.f k l0 = some (r1, r2)) :
  Calls Try.prog 42 #[.slice A0 l0.length c0] w fun e w' => ∃ v0_ : Value, e = .returned (.tuple #[v0_, .int .i64 r2]) ∧ Kd.R (Kd.int .i64) 3 w' w.heap.size (fun _ => True) v0_ r1 ∧ Below w.heap.size w w' := by
 have HR0 := pA hr0
 have HC0 := pA hc0
 clear hr0 hc0
 have HB := pA (Below.refl w.heap.size w)
 have H : ((potbankref03_CheckList.f k l0).bind fun t492 => (if t492 = 0 then ((potbankref03_rule.f k l0).bind fun t493 => (some (t493, 0))) else (some (([] : List Int), 30)))) = some (r1, r2) := h
 clear h
 replace H := Option.bind_eq_some_iff.mp H
 obtain ⟨t492, A20, H⟩ := H
 replace H : (if t492 = 0 then ((potbankref03_rule.f k l0).bind fun t493 => (some (t493, 0))) else (some (([] : List Int), 30))) = some (r1, r2) := H
 have A2 := pA A20
 clear A20
 by_cases c3 : t492 = 0
 ·rw [if_pos c3] at H
  have c3b0 : (t492 == 0) = true := beq_iff_eq.mpr c3
  have c3b1 : (t492 != 0) = false := bne_eq_false_iff_eq.mpr c3
  clear c3
  replace H := Option.bind_eq_some_iff.mp H
  obtain ⟨t493, A40, H⟩ := H
  replace H : (some (t493, 0)) = some (r1, r2) := H
  have A4 := pA A40
  clear A40
  simp only [Option.some.injEq, Prod.mk.injEq] at H
  obtain ⟨rfl, rfl⟩ := H
  go_enter Try.func42, Try.ntmps42
  go_wp2_with (first | ((with_reducible refine aF (f := 50) rfl ?_); refine goesL_ (some 5) rfl rfl Try.func50 (by kernel_rfl) rfl #[.slice A0 l0.length c0] rfl (by (try simp only [pE, pF, pG]); first | done | rfl | (simp only [pH, pI]; rfl)) ?_; (with_reducible refine (potbankref03_CheckList.calls k _ _ l0 t492 _ ?side1 ?side2 A2.out).mono ?_); (case side1 => repeat (first | exact HR0.out | (with_reducible refine Kd.C_alloc ?_ _) | (with_reducible refine Kd.C_drewN ?_ _) | (with_reducible refine Kd.C_drew ?_))); (case side2 => exact HC0.out); rintro e w5 ⟨rfl, hb⟩; refine ⟨_, rfl, ?_⟩; have n0_ := pA (below_step (vB HB) hb); clear HB; have HB := n0_; clear n0_; (try clear hb); (try clear hb2); (try clear hk); (try clear hi)) | ((with_reducible refine aF (f := 97) rfl ?_); refine goesL_ (some 8) rfl rfl Try.func97 (by kernel_rfl) rfl #[.slice A0 l0.length c0] rfl (by (try simp only [pE, pF, pG]); first | done | rfl | (simp only [pH, pI]; rfl)) ?_; (with_reducible refine (potbankref03_rule.calls k _ _ l0 t493 _ ?side1 ?side2 A4.out).mono ?_); (case side1 => repeat (first | exact (Kd.C_below HR0.out HB.out) | (with_reducible refine Kd.C_alloc ?_ _) | (with_reducible refine Kd.C_drewN ?_ _) | (with_reducible refine Kd.C_drew ?_))); (case side2 => exact HC0.out); rintro e w6 ⟨v494, rfl, ho0, hb⟩; refine ⟨_, rfl, ?_⟩; have n0_ := pA (Kd.R_lower ho0 (below_size (vB HB))); have n1_ := pA (below_step (vB HB) hb); clear HB; have HO495 := n0_; have HB := n1_; clear n0_ n1_; (try clear hb); (try clear hb2); (try clear hk); (try clear hi); (try clear ho0)))
  go_ret2
  exact ⟨_, by first | rfl | (simp [errW_none, errW_some] <;> rfl) | (simp [*, errW_none, errW_some] <;> rfl), by (with_reducible repeat (first | apply Kd.R_alloc | apply Kd.R_drewN | apply Kd.R_drew)); exact HO495.out, by repeat (first | (with_reducible first | exact HB.out | apply below_alloc | apply pw_below_drewN | apply below_drew1) | exact HB.out)⟩
 ·rw [if_neg c3] at H
  have c3b0 : (t492 == 0) = false := beq_eq_false_iff_ne.mpr c3
  have c3b1 : (t492 != 0) = true := bne_iff_ne.mpr c3
  simp only [Option.some.injEq, Prod.mk.injEq] at H
  obtain ⟨rfl, rfl⟩ := H
  go_enter Try.func42, Try.ntmps42
  go_wp2_with (first | ((with_reducible refine aF (f := 50) rfl ?_); refine goesL_ (some 5) rfl rfl Try.func50 (by kernel_rfl) rfl #[.slice A0 l0.length c0] rfl (by (try simp only [pE, pF, pG]); first | done | rfl | (simp only [pH, pI]; rfl)) ?_; (with_reducible refine (potbankref03_CheckList.calls k _ _ l0 t492 _ ?side1 ?side2 A2.out).mono ?_); (case side1 => repeat (first | exact HR0.out | (with_reducible refine Kd.C_alloc ?_ _) | (with_reducible refine Kd.C_drewN ?_ _) | (with_reducible refine Kd.C_drew ?_))); (case side2 => exact HC0.out); rintro e w7 ⟨rfl, hb⟩; refine ⟨_, rfl, ?_⟩; have n0_ := pA (below_step (vB HB) hb); clear HB; have HB := n0_; clear n0_; (try clear hb); (try clear hb2); (try clear hk); (try clear hi)))
  go_ret2
  exact ⟨_, by first | rfl | (simp [errW_none, errW_some] <;> rfl) | (simp [*, errW_none, errW_some] <;> rfl), by first | exact Kd.R_nil _ _ _ _ _ | exact Kd.N_nil _ _ _ _ _ | exact Kd.V_nil _ _ _ _ _ | exact Kd.Q_nil _ _ _ _ _ | exact Kd.S_nil _ _ _ _ _, by repeat (first | (with_reducible first | exact HB.out | apply below_alloc | apply pw_below_drewN | apply below_drew1) | exact HB.out)⟩
def bung_CanStand.f (k : Nat) (l0 : List (S52)) : Option (Bool × Int) := (bung_isList.f l0).bind fun t496 => (if t496 = true then ((bung_indices.f k l0).bind fun t497 => ((bung_can.f k l0 t497).bind fun t500 => (some (t500, 0)))) else (some (false, 30)))
theorem bung_CanStand.mono : ∀ a0 k, LeO (bung_CanStand.f k a0) (bung_CanStand.f (k + 1) a0) := by
 intro a0 k
 unfold bung_CanStand.f
 repeat' first
   | (with_reducible exact bung_can.mono _ _ _)
   | (with_reducible exact bung_indices.mono _ _)
   | (with_reducible exact LeO.refl _)
   | (with_reducible exact LeO.none _)
   | (with_reducible refine LeO.ite ?_ ?_)
   | (with_reducible refine LeO.bind ?_ (fun _ => ?_))
   | exact bung_can.mono _ _ _
   | exact bung_indices.mono _ _
   | exact LeO.none _
   | refine LeO.ite ?_ ?_
   | refine LeO.bind ?_ (fun _ => ?_)
set_option maxHeartbeats 8000000 in
set_option maxRecDepth 100000 in
theorem bung_CanStand.calls (k : Nat) (A0 : Option Addr) (c0 : Nat) (l0 : List (S52)) (r1 : Bool) (r2 : Int) (w : World) (hr0 : Kd.C k52 w A0 l0.length l0) (hc0 : l0.length ≤ c0) (h : bung_CanStand.f k l0 = some (r1, r2)) :
  Calls Try.prog 43 #[.slice A0 l0.length c0] w fun e w' => e = .returned (.tuple #[.bool r1, .int .i64 r2]) ∧ Below w.heap.size w w' := by
 have HR0 := pA hr0
 have HC0 := pA hc0
 clear hr0 hc0
 have HB := pA (Below.refl w.heap.size w)
 have H : ((bung_isList.f l0).bind fun t496 => (if t496 = true then ((bung_indices.f k l0).bind fun t497 => ((bung_can.f k l0 t497).bind fun t500 => (some (t500, 0)))) else (some (false, 30)))) = some (r1, r2) := h
 clear h
 replace H := Option.bind_eq_some_iff.mp H
 obtain ⟨t496, A20, H⟩ := H
 replace H : (if t496 = true then ((bung_indices.f k l0).bind fun t497 => ((bung_can.f k l0 t497).bind fun t500 => (some (t500, 0)))) else (some (false, 30))) = some (r1, r2) := H
 have A2 := pA A20
 clear A20
 by_cases c3 : t496 = true
 ·subst c3
  have H1 : ((bung_indices.f k l0).bind fun t497 => ((bung_can.f k l0 t497).bind fun t500 => (some (t500, 0)))) = some (r1, r2) := by rw [if_pos rfl] at H; exact H
  clear H
  have H := H1
  clear H1
  replace H := Option.bind_eq_some_iff.mp H
  obtain ⟨t497, A40, H⟩ := H
  replace H : ((bung_can.f k l0 t497).bind fun t500 => (some (t500, 0))) = some (r1, r2) := H
  have A4 := pA A40
  clear A40
  replace H := Option.bind_eq_some_iff.mp H
  obtain ⟨t500, A50, H⟩ := H
  replace H : (some (t500, 0)) = some (r1, r2) := H
  have A5 := pA A50
  clear A50
  simp only [Option.some.injEq, Prod.mk.injEq] at H
  obtain ⟨rfl, rfl⟩ := H
  go_enter Try.func43, Try.ntmps43
  go_wp2_with (first | ((with_reducible refine aF (f := 94) rfl ?_); refine goesL_ (some 5) rfl rfl Try.func94 (by kernel_rfl) rfl #[.slice A0 l0.length c0] rfl (by (try simp only [pE, pF, pG]); first | done | rfl | (simp only [pH, pI]; rfl)) ?_; (with_reducible refine (bung_isList.calls _ _ l0 true _ ?side1 ?side2 A2.out).mono ?_); (case side1 => repeat (first | exact HR0.out | (with_reducible refine Kd.C_alloc ?_ _) | (with_reducible refine Kd.C_drewN ?_ _) | (with_reducible refine Kd.C_drew ?_))); (case side2 => exact HC0.out); rintro e w6 ⟨rfl, hb⟩; refine ⟨_, rfl, ?_⟩; have n0_ := pA (below_step (vB HB) hb); clear HB; have HB := n0_; clear n0_; (try clear hb); (try clear hb2); (try clear hk); (try clear hi)) | ((with_reducible refine aF (f := 96) rfl ?_); refine goesL_ (some 9) rfl rfl Try.func96 (by kernel_rfl) rfl #[.slice A0 l0.length c0] rfl (by (try simp only [pE, pF, pG]); first | done | rfl | (simp only [pH, pI]; rfl)) ?_; (with_reducible refine (bung_indices.calls k _ _ l0 t497 _ ?side1 ?side2 A4.out).mono ?_); (case side1 => repeat (first | exact (Kd.C_below HR0.out HB.out) | (with_reducible refine Kd.C_alloc ?_ _) | (with_reducible refine Kd.C_drewN ?_ _) | (with_reducible refine Kd.C_drew ?_))); (case side2 => exact HC0.out); rintro e w7 ⟨v498, rfl, ho0, hb⟩; refine ⟨_, rfl, ?_⟩; have n0_ := pA (Kd.R_lower ho0 (below_size (vB HB))); have n1_ := pA (below_step (vB HB) hb); clear HB; have HO499 := n0_; have HB := n1_; clear n0_ n1_; (try clear hb); (try clear hb2); (try clear hk); (try clear hi); (try clear ho0); obtain ⟨Ao8, co8, eo8⟩ := Kd.R_slice HO499.out; subst eo8) | ((with_reducible refine aF (f := 98) rfl ?_); refine goesL_ (some 10) rfl rfl Try.func98 (by kernel_rfl) rfl #[.slice A0 l0.length c0, .slice Ao8 t497.length co8] rfl (by (try simp only [pE, pF, pG]); first | done | rfl | (simp only [pH, pI]; rfl)) ?_; (with_reducible refine (bung_can.calls k _ _ l0 _ _ t497 t500 _ ?side1 ?side2 ?side3 ?side4 A5.out).mono ?_); (case side1 => repeat (first | exact (Kd.C_below HR0.out HB.out) | (with_reducible refine Kd.C_alloc ?_ _) | (with_reducible refine Kd.C_drewN ?_ _) | (with_reducible refine Kd.C_drew ?_))); (case side2 => exact HC0.out); (case side3 => repeat (first | exact (Kd.R_reads' HO499.out).2.2 | (with_reducible refine Kd.C_alloc ?_ _) | (with_reducible refine Kd.C_drewN ?_ _) | (with_reducible refine Kd.C_drew ?_))); (case side4 => exact (Kd.R_reads' HO499.out).2.1); rintro e w9 ⟨rfl, hb⟩; refine ⟨_, rfl, ?_⟩; have n0_ := pA (Kd.R_below (vR HO499) hb); have n1_ := pA (below_step (vB HB) hb); clear HO499; clear HB; have HO499 := n0_; have HB := n1_; clear n0_ n1_; (try clear hb); (try clear hb2); (try clear hk); (try clear hi)))
  go_ret2
  exact ⟨by first | rfl | (simp [errW_none, errW_some] <;> rfl) | (simp [*, errW_none, errW_some] <;> rfl), by repeat (first | (with_reducible first | exact HB.out | apply below_alloc | apply pw_below_drewN | apply below_drew1) | exact HB.out)⟩
 ·replace c3 := Bool.eq_false_iff.mpr c3
  subst c3
  have H1 : (some (false, 30)) = some (r1, r2) := by rw [if_neg (show ¬ (false = true) by decide)] at H; exact H
  clear H
  have H := H1
  clear H1
  simp only [Option.some.injEq, Prod.mk.injEq] at H
  obtain ⟨rfl, rfl⟩ := H
  go_enter Try.func43, Try.ntmps43
  go_wp2_with (first | ((with_reducible refine aF (f := 94) rfl ?_); refine goesL_ (some 5) rfl rfl Try.func94 (by kernel_rfl) rfl #[.slice A0 l0.length c0] rfl (by (try simp only [pE, pF, pG]); first | done | rfl | (simp only [pH, pI]; rfl)) ?_; (with_reducible refine (bung_isList.calls _ _ l0 false _ ?side1 ?side2 A2.out).mono ?_); (case side1 => repeat (first | exact HR0.out | (with_reducible refine Kd.C_alloc ?_ _) | (with_reducible refine Kd.C_drewN ?_ _) | (with_reducible refine Kd.C_drew ?_))); (case side2 => exact HC0.out); rintro e w10 ⟨rfl, hb⟩; refine ⟨_, rfl, ?_⟩; have n0_ := pA (below_step (vB HB) hb); clear HB; have HB := n0_; clear n0_; (try clear hb); (try clear hb2); (try clear hk); (try clear hi)))
  go_ret2
  exact ⟨by first | rfl | (simp [errW_none, errW_some] <;> rfl) | (simp [*, errW_none, errW_some] <;> rfl), by repeat (first | (with_reducible first | exact HB.out | apply below_alloc | apply pw_below_drewN | apply below_drew1) | exact HB.out)⟩
def potbankref03_load.f (l0 : List S52) (a1 : Int) : Option (Int × Int) := if okSome l0 = true ∧ 0 ≤ a1 ∧ a1 < l0.length then some ((sumW (l0.drop (a1.toNat + 1))).f0, (sumW (l0.drop (a1.toNat + 1))).f1) else none
theorem load_next {l : List S52} (h : okSome l = true) {x lo hi : Int} {t : S23} (h0 : 0 ≤ x) (h1 : x < l.length) (ht : 0 ≤ t.f0 ∧ t.f0 ≤ 300000000 ∧ 0 ≤ t.f1 ∧ t.f1 ≤ 300000000) (e0 : lo + (sumW (l.drop x.toNat)).f0 = t.f0) (e1 : hi + (sumW (l.drop x.toNat)).f1 = t.f1) :
  IntKind.i64.wrap (lo + (rd_T52 l x).f1.f0) = lo + (rd_T52 l x).f1.f0 ∧ IntKind.i64.wrap (hi + (rd_T52 l x).f1.f1) = hi + (rd_T52 l x).f1.f1 ∧ lo + (rd_T52 l x).f1.f0 + (sumW (l.drop (x + 1).toNat)).f0 = t.f0 ∧ hi + (rd_T52 l x).f1.f1 + (sumW (l.drop (x + 1).toNat)).f1 = t.f1 := by
 have hl := okSome_len h
 have hv := all_at (okSome_all h) h0 h1
 simp only [vSag, decide_eq_true_eq] at hv
 have hb := sumW_bd (l.drop (x + 1).toNat) (all_drop (okSome_all h) _)
 have hd := List.length_drop (l := l) (i := (x + 1).toNat)
 have hs := sumW_drop l x.toNat (by omega)
 rw [show ((x.toNat : Nat) : Int) = x by omega, show x.toNat + 1 = (x + 1).toNat by omega] at hs
 rw [hs] at e0 e1
 dsimp only at e0 e1
 refine ⟨IntWalk.i64_in _ (by omega), IntWalk.i64_in _ (by omega), by omega, by omega⟩
set_option maxHeartbeats 4000000 in
set_option maxRecDepth 100000 in
theorem potbankref03_load.calls (A0 : Option Addr) (c0 : Nat) (l0 : List S52) (a1 : Int) (r1 r2 : Int) (w : World) (hr0 : Kd.C k52 w A0 l0.length l0) (hc0 : l0.length ≤ c0) (h : potbankref03_load.f l0 a1 = some (r1, r2)) :
  Calls Try.prog 89 #[.slice A0 l0.length c0, .int .i64 a1] w fun e w' => e = .returned (.agg #[.int .i64 r1, .int .i64 r2]) ∧ Below w.heap.size w w' := by
 unfold potbankref03_load.f at h
 split at h
 case isFalse => cases h
 rename_i hok
 simp only [Option.some.injEq, Prod.mk.injEq] at h
 obtain ⟨rfl, rfl⟩ := h
 have HOK := pA hok
 have HR0 := pA hr0
 have hl := okSome_len hok.1
 have HL := pA hl
 obtain ⟨t, ht⟩ : ∃ t, t = sumW (l0.drop (a1.toNat + 1)) := ⟨_, rfl⟩
 have HT := pA (show 0 ≤ t.f0 ∧ t.f0 ≤ 300000000 ∧ 0 ≤ t.f1 ∧ t.f1 ≤ 300000000 by
  have := sumW_bd (l0.drop (a1.toNat + 1)) (all_drop (okSome_all hok.1) _)
  have h2 := List.length_drop (l := l0) (i := a1.toNat + 1)
  rw [ht]
  omega)
 have HS0 := pA (show (0 : Int) + (sumW (l0.drop (a1 + 1).toNat)).f0 = t.f0 ∧ (0 : Int) + (sumW (l0.drop (a1 + 1).toNat)).f1 = t.f1 by rw [ht, show (a1 + 1).toNat = a1.toNat + 1 by omega]; omega)
 rw [← ht]
 have hw1 : wrap64 (a1 + 1) = a1 + 1 := by unfold wrap64; omega
 clear hok hr0 hl ht
 go_enter Try.func89, Try.ntmps89
 go_wp2
 go_loopw [6] (fun v6 W => ∃ x lo hi : Int, v6 = .int .i64 x ∧ Aside0 (0 ≤ x ∧ x ≤ l0.length) ∧ Aside0 (lo + (sumW (l0.drop x.toNat)).f0 = t.f0 ∧ hi + (sumW (l0.drop x.toNat)).f1 = t.f1) ∧ Aside0 (W.heap[w.heap.size]? = some (.cells #[.int .i64 0, .int .i64 0] 23 (0, 0))) ∧ Aside0 (W.heap[w.heap.size + 1]? = some (.cells #[.int .i64 lo, .int .i64 hi] 23 (0, 0))) ∧ Aside0 (Below w.heap.size w W)) (fun v6 _ => l0.length - (intOf v6).toNat)
 case atStart => exact ⟨a1 + 1, 0, 0, by first | rfl | rw [hw1], ⟨by have := HOK.out; omega⟩, HS0, ⟨blk_alloc (heap_alloc_new w _) _⟩, ⟨blk_new2 w _ _⟩, ⟨below_alloc (below_alloc (Below.refl _ _) _) _⟩⟩
 case round =>
  clear HS0 hw1
  obtain ⟨x, lo, hi, rfl, HK, HS, HX0, HX, HB⟩ := hrel
  by_cases hk : x < (l0.length : Int)
  ·have hkb : decide (x < (l0.length : Int)) = true := decide_eq_true hk
   have HN := pA (load_next HOK.out.1 HK.out.1 hk HT.out HS.out.1 HS.out.2)
   have p1 : (0 ≤ x) = True := eq_true HK.out.1
   obtain ⟨ad, e, -, x1, x2, -⟩ := at_T52 (Kd.C_below HR0.out HB.out) x HK.out.1 hk
   cases e
   have HKL := pA hk
   replace hk := eq_true hk
   have y0 := blk_cell HX.out 0
   have y1 := blk_cell HX.out 1
   have z0 := blk_frozen HX.out 0
   have w0 := HN.out.1
   go_wp2
   go_still_tail 10, (by kernel_rfl)
   go_wp2_with fail
   have HX1 := pA (blk_drew (blk_put HX.out 0 (.int .i64 (lo + (rd_T52 l0 x).f1.f0)) rfl))
   have HX2 := pA (blk_drew ((Below.heap_setCell wr ⟨w.heap.size + 1, 0, none⟩ (.int .i64 (lo + (rd_T52 l0 x).f1.f0)) w.heap.size (by simp)).trans HX0.out))
   have HB1 := pA (below_drew (below_set (g := w.heap.size + 1) (j := 0) (v := .int .i64 (lo + (rd_T52 l0 x).f1.f0)) HB.out (Nat.le_succ _)))
   clear x1 x2 y0 y1 z0 w0
   generalize (wr.setCell ⟨w.heap.size + 1, 0, none⟩ (.int .i64 (lo + (rd_T52 l0 x).f1.f0))).drew = W1 at HX1 HX2 HB1 ⊢
   obtain ⟨ad', e, -, -, x2, -⟩ := at_T52 (Kd.C_below HR0.out HB1.out) x HK.out.1 HKL.out
   cases e
   have y1 := blk_cell HX1.out 1
   have z1 := blk_frozen HX1.out 1
   have w1 := HN.out.2.1
   go_still_tail 10, (by kernel_rfl)
   go_wp2
   have HX3 := pA (blk_put HX1.out 1 (.int .i64 (hi + (rd_T52 l0 x).f1.f1)) rfl)
   have HX4 := pA ((Below.heap_setCell W1 ⟨w.heap.size + 1, 1, none⟩ (.int .i64 (hi + (rd_T52 l0 x).f1.f1)) w.heap.size (by simp)).trans HX2.out)
   have HB3 := pA (below_set (g := w.heap.size + 1) (j := 1) (v := .int .i64 (hi + (rd_T52 l0 x).f1.f1)) HB1.out (Nat.le_succ _))
   clear x2 y1 z1 w1
   have hnx : wrap64 (x + 1) = x + 1 := by have := HK.out; have := HL.out; have := HKL.out; unfold wrap64; omega
   go_roundw
   case measure => have := HKL.out; have := HK.out; simp [intOf, hnx]; omega
   case rel => exact ⟨x + 1, _, _, by rw [hnx], ⟨by have := HKL.out; have := HK.out; omega⟩, ⟨HN.out.2.2⟩, ⟨blk_drew HX4.out⟩, ⟨blk_drew HX3.out⟩, ⟨below_drew HB3.out⟩⟩
  ·have hkb : decide (x < (l0.length : Int)) = false := decide_eq_false hk
   have he : lo = t.f0 ∧ hi = t.f1 := by
    have := HS.out
    rw [List.drop_eq_nil_of_le (by have := HK.out; omega)] at this
    simpa [sumW] using this
   obtain ⟨rfl, rfl⟩ := he
   have y0 := blk_cell HX.out 0
   have y1 := blk_cell HX.out 1
   have z0 := blk_cell HX0.out 0
   have z1 := blk_cell HX0.out 1
   have z2 := blk_frozen HX0.out 0
   have z3 := blk_frozen HX0.out 1
   clear hk
   go_wp2
   refine bodyPost_ret (results_cell_row rfl _ _ w.heap.size 23 #[.int .i64 t.f0, .int .i64 t.f1] (0, 0) _ rfl (blk_put (blk_put HX0.out 0 _ rfl) 1 _ rfl) Try.underlying23 rfl (by kernel_rfl)) rfl ?_
   exact ⟨rfl, below_set (below_set HB.out (Nat.le_refl _)) (Nat.le_refl _)⟩
def potbankref03_answer.f (l0 : List S52) (a1 : Int) : Option Int := if okSome l0 = true ∧ 0 ≤ a1 ∧ a1 < l0.length then some (ansOf (sumW (l0.drop (a1.toNat + 1))) (rd_T52 l0 a1).f2) else none
theorem load_some {l : List S52} {a : Int} (h : okSome l = true ∧ 0 ≤ a ∧ a < l.length) : potbankref03_load.f l a = some ((sumW (l.drop (a.toNat + 1))).f0, (sumW (l.drop (a.toNat + 1))).f1) := by
  unfold potbankref03_load.f
  rw [if_pos h]
set_option maxHeartbeats 4000000 in
set_option maxRecDepth 100000 in
theorem potbankref03_answer.calls (A0 : Option Addr) (c0 : Nat) (l0 : List S52) (a1 : Int) (r : Int) (w : World) (hr0 : Kd.C k52 w A0 l0.length l0) (hc0 : l0.length ≤ c0) (h : potbankref03_answer.f l0 a1 = some r) :
  Calls Try.prog 90 #[.slice A0 l0.length c0, .int .i64 a1] w fun e w' => e = .returned (.int .i64 r) ∧ Below w.heap.size w w' := by
 unfold potbankref03_answer.f at h
 split at h
 case isFalse => cases h
 rename_i hok
 obtain rfl := Option.some.inj h
 have HLD := pA (load_some hok)
 have HR0 := pA hr0
 have HOK := pA hok
 obtain ⟨t, ht⟩ : ∃ t, t = sumW (l0.drop (a1.toNat + 1)) := ⟨_, rfl⟩
 rw [← ht] at HLD
 rw [← ht]
 have hlt : a1 < (l0.length : Int) := hok.2.2
 have hge : 0 ≤ a1 := hok.2.1
 obtain ⟨ad, e, -, -, -, x3, x4, -⟩ := at_T52 hr0 a1 hge hlt
 cases e
 have p1 : (0 ≤ a1) = True := eq_true hge
 have p2 : (a1 < (l0.length : Int)) = True := eq_true hlt
 have HX3 := pA x3
 have HX4 := pA x4
 clear h hok ht hlt hge x3 x4 hr0
 go_enter Try.func90, Try.ntmps90
 go_wp2_with fail
 refine (potbankref03_load.calls (some ad) c0 l0 a1 t.f0 t.f1 _ HR0.out hc0 HLD.out).mono ?_
 rintro e w1 ⟨rfl, hb⟩
 have HB := pA hb
 have x3 := pw_cell_below (below_alloc (Below.refl _ _) (.cells #[.int .i64 t.f0, .int .i64 t.f1] 23 (0, 0))) (pw_cell_below hb HX3.out)
 have x4 := pw_cell_below (below_alloc (Below.refl _ _) (.cells #[.int .i64 t.f0, .int .i64 t.f1] 23 (0, 0))) (pw_cell_below hb HX4.out)
 clear hb
 by_cases c1 : t.f1 ≤ (rd_T52 l0 a1).f2.f0
 ·have d1 : decide (t.f1 ≤ (rd_T52 l0 a1).f2.f0) = true := decide_eq_true c1
  have HE := pA (show ansOf t (rd_T52 l0 a1).f2 = 1 by unfold ansOf; rw [if_pos c1])
  clear c1
  go_wp2
  go_quiet (fail)
  go_wp2
  go_ret
  exact ⟨congrArg (fun z => Ending.returned (.int .i64 z)) HE.out.symm, pw_below_drewN (below_alloc HB.out _) _⟩
 ·have d1 : decide (t.f1 ≤ (rd_T52 l0 a1).f2.f0) = false := decide_eq_false c1
  by_cases c2 : t.f0 > (rd_T52 l0 a1).f2.f1
  ·have d2 : decide ((rd_T52 l0 a1).f2.f1 < t.f0) = true := decide_eq_true c2
   have HE := pA (show ansOf t (rd_T52 l0 a1).f2 = 0 by unfold ansOf; rw [if_neg c1, if_pos c2])
   clear c1 c2
   go_wp2
   go_quiet (fail)
   go_wp2
   go_quiet (fail)
   go_wp2
   go_ret
   exact ⟨congrArg (fun z => Ending.returned (.int .i64 z)) HE.out.symm, pw_below_drewN (pw_below_drewN (below_alloc HB.out _) _) _⟩
  ·have d2 : decide ((rd_T52 l0 a1).f2.f1 < t.f0) = false := decide_eq_false c2
   have HE := pA (show ansOf t (rd_T52 l0 a1).f2 = 2 by unfold ansOf; rw [if_neg c1, if_neg c2])
   clear c1 c2
   go_wp2
   go_quiet (fail)
   go_wp2
   go_quiet (fail)
   go_wp2
   go_ret
   exact ⟨congrArg (fun z => Ending.returned (.int .i64 z)) HE.out.symm, pw_below_drewN (pw_below_drewN (below_alloc HB.out _) _) _⟩
def potbankref03_stands.f (l0 : List S52) : Option Int := if okSome l0 = true then some (standsOf l0) else none
theorem ans_cases (a b : S23) : ansOf a b = 0 ∨ ansOf a b = 1 ∨ ansOf a b = 2 := by
 unfold ansOf
 split
 ·exact .inr (.inl rfl)
 ·split
  ·exact .inl rfl
  ·exact .inr (.inr rfl)
theorem answer_some {l : List S52} (h : okSome l = true) {x : Int} (h0 : 0 ≤ x) (h1 : x < l.length) : potbankref03_answer.f l x = some (ansOf (sumW (l.drop (x.toNat + 1))) (rd_T52 l x).f2) := by
  unfold potbankref03_answer.f
  rw [if_pos ⟨h, h0, h1⟩]
theorem courses_next (l : List S52) {x : Int} (h0 : 0 ≤ x) (h1 : x < l.length) : (coursesOf l).take (x + 1).toNat = (coursesOf l).take x.toNat ++ [ansOf (sumW (l.drop (x.toNat + 1))) (rd_T52 l x).f2] := by
  have := coursesOf_take l x.toNat (by omega)
  rw [show (x + 1).toNat = x.toNat + 1 by omega, this, ← rd_at l x.toNat (by omega), show ((x.toNat : Nat) : Int) = x by omega]
set_option maxHeartbeats 4000000 in
set_option maxRecDepth 100000 in
theorem potbankref03_stands.calls (A0 : Option Addr) (c0 : Nat) (l0 : List S52) (r : Int) (w : World) (hr0 : Kd.C k52 w A0 l0.length l0) (hc0 : l0.length ≤ c0) (h : potbankref03_stands.f l0 = some r) :
  Calls Try.prog 91 #[.slice A0 l0.length c0] w fun e w' => e = .returned (.int .i64 r) ∧ Below w.heap.size w w' := by
 unfold potbankref03_stands.f at h
 split at h
 case isFalse => cases h
 rename_i hok
 obtain rfl := Option.some.inj h
 have HR0 := pA hr0
 have HOK := pA hok
 have HL := pA (okSome_len hok)
 clear h hok hr0
 go_enter Try.func91, Try.ntmps91
 go_wp2
 go_loopw [3, 4] (fun v3 v4 W => ∃ x o : Int, v3 = .int .i64 o ∧ v4 = .int .i64 x ∧ Aside0 (0 ≤ x ∧ x ≤ l0.length) ∧ Aside0 ((0 : Int) ∉ (coursesOf l0).take x.toNat ∧ o = if (2 : Int) ∈ (coursesOf l0).take x.toNat then 2 else 1) ∧ Aside0 (Below w.heap.size w W)) (fun _ v4 _ => l0.length - (intOf v4).toNat)
 case atStart => exact ⟨0, 1, rfl, rfl, ⟨by omega⟩, ⟨by simp⟩, ⟨Below.refl _ _⟩⟩
 case round =>
  obtain ⟨x, o, rfl, rfl, HK, HI, HB⟩ := hrel
  by_cases hk : x < (l0.length : Int)
  ·have hkb : decide (x < (l0.length : Int)) = true := decide_eq_true hk
   have HN := pA (courses_next l0 HK.out.1 hk)
   have HA := pA (answer_some HOK.out HK.out.1 hk)
   have HKL := pA hk
   have hnx : wrap64 (x + 1) = x + 1 := by have := HK.out; have := HL.out; unfold wrap64; omega
   obtain ⟨q, hq⟩ : ∃ q, q = ansOf (sumW (l0.drop (x.toNat + 1))) (rd_T52 l0 x).f2 := ⟨_, rfl⟩
   rw [← hq] at HN HA
   have hcs := ans_cases (sumW (l0.drop (x.toNat + 1))) (rd_T52 l0 x).f2
   rw [← hq] at hcs
   have HNX := pA hnx
   clear hk hq hnx
   rcases hcs with rfl | rfl | rfl
   ·have HE := pA (show standsOf l0 = 0 by
     have : (0 : Int) ∈ coursesOf l0 := List.mem_of_mem_take (by rw [HN.out]; simp)
     unfold standsOf allOf
     rw [if_pos this])
    go_wp2_with (go_at_call 90; refine (potbankref03_answer.calls A0 c0 l0 x 0 _ (Kd.C_below HR0.out HB.out) hc0 HA.out).mono ?_; rintro e w1 ⟨rfl, hb⟩; have HB1 := pA (below_step HB.out hb); clear hb)
    go_ret
    exact ⟨congrArg (fun z => Ending.returned (.int .i64 z)) HE.out.symm, HB1.out⟩
   ·go_wp2_with (go_at_call 90; refine (potbankref03_answer.calls A0 c0 l0 x 1 _ (Kd.C_below HR0.out HB.out) hc0 HA.out).mono ?_; rintro e w1 ⟨rfl, hb⟩; have HB1 := pA (below_step HB.out hb); clear hb)
    go_roundw
    case measure => have := HKL.out; have := HK.out; simp [intOf, HNX.out]; omega
    case rel => exact ⟨x + 1, o, rfl, by rw [HNX.out], ⟨by have := HKL.out; have := HK.out; omega⟩, ⟨by rw [HN.out]; have := HI.out; simp only [List.mem_append, List.mem_singleton]; exact ⟨by simp [this.1], by rw [this.2]; simp⟩⟩, HB1⟩
   ·go_wp2_with (go_at_call 90; refine (potbankref03_answer.calls A0 c0 l0 x 2 _ (Kd.C_below HR0.out HB.out) hc0 HA.out).mono ?_; rintro e w1 ⟨rfl, hb⟩; have HB1 := pA (below_step HB.out hb); clear hb)
    go_roundw
    case measure => have := HKL.out; have := HK.out; simp [intOf, HNX.out]; omega
    case rel => exact ⟨x + 1, 2, rfl, by rw [HNX.out], ⟨by have := HKL.out; have := HK.out; omega⟩, ⟨by rw [HN.out]; have := HI.out; simp only [List.mem_append, List.mem_singleton]; exact ⟨by simp [this.1], by simp⟩⟩, HB1⟩
  ·have hkb : decide (x < (l0.length : Int)) = false := decide_eq_false hk
   have HE := pA (show standsOf l0 = o by
    have := HI.out
    rw [List.take_of_length_le (by rw [coursesOf_length]; have := HK.out; omega)] at this
    unfold standsOf allOf
    rw [if_neg this.1, this.2])
   clear hk
   go_wp2
   go_ret
   exact ⟨congrArg (fun z => Ending.returned (.int .i64 z)) HE.out.symm, HB.out⟩
def potbankref03_some.l0 : Nat → List (S52) → List Int → List (S52) → Int → Option ((List (S52)))
  | 0, _, _, _, _ => none
  | k + 1, x0, x1, x5, x6 => if x6 < (x1.length : Int) then (if 0 ≤ x6 then (if 0 ≤ (rd x1 x6) then (if (rd x1 x6) < (x0.length : Int) then (if x5.length < 2199023255552 then (potbankref03_some.l0 k x0 x1 (x5 ++ [(⟨(rd_T52 x0 (rd x1 x6)).f0, (⟨(rd_T52 x0 (rd x1 x6)).f1.f0, (rd_T52 x0 (rd x1 x6)).f1.f1⟩ : S23), (⟨(rd_T52 x0 (rd x1 x6)).f2.f0, (rd_T52 x0 (rd x1 x6)).f2.f1⟩ : S23), (⟨(rd_T52 x0 (rd x1 x6)).f3.f0, (rd_T52 x0 (rd x1 x6)).f3.f1⟩ : S23), (rd_T52 x0 (rd x1 x6)).f4⟩ : S52)]) (wrap64 (x6 + 1))) else (none)) else (none)) else (none)) else (none)) else (some x5)
def potbankref03_some.f (k : Nat) (l0 : List (S52)) (l1 : List Int) : Option ((List (S52))) := potbankref03_some.l0 k l0 l1 ([] : List (S52)) 0
theorem potbankref03_some.mono_l : ∀ k, (∀ y0 y1 y2 y3, LeO (potbankref03_some.l0 k y0 y1 y2 y3) (potbankref03_some.l0 (k + 1) y0 y1 y2 y3))
 | 0 => fun _ _ _ _ r h => by simp [potbankref03_some.l0] at h
 | k + 1 => by
  have ih0 := potbankref03_some.mono_l k
  ·intro y0 y1 y2 y3
   unfold potbankref03_some.l0
   repeat' first
   | (with_reducible exact ih0 _ _ _ _)
   | (with_reducible exact LeO.refl _)
   | (with_reducible exact LeO.none _)
   | (with_reducible refine LeO.ite ?_ ?_)
   | (with_reducible refine LeO.bind ?_ (fun _ => ?_))
   | exact ih0 _ _ _ _
   | exact LeO.none _
   | refine LeO.ite ?_ ?_
   | refine LeO.bind ?_ (fun _ => ?_)
theorem potbankref03_some.mono : ∀ a0 a1 k, LeO (potbankref03_some.f k a0 a1) (potbankref03_some.f (k + 1) a0 a1) := by
 intro a0 a1 k
 have ih0 := potbankref03_some.mono_l k
 unfold potbankref03_some.f
 repeat' first
   | (with_reducible exact ih0 _ _ _ _)
   | (with_reducible exact LeO.refl _)
   | (with_reducible exact LeO.none _)
   | (with_reducible refine LeO.ite ?_ ?_)
   | (with_reducible refine LeO.bind ?_ (fun _ => ?_))
   | exact ih0 _ _ _ _
   | exact LeO.none _
   | refine LeO.ite ?_ ?_
   | refine LeO.bind ?_ (fun _ => ?_)
set_option maxHeartbeats 8000000 in
set_option maxRecDepth 100000 in
theorem potbankref03_some.calls (k : Nat) (A0 : Option Addr) (c0 : Nat) (l0 : List (S52)) (A1 : Option Addr) (c1 : Nat) (l1 : List Int) (r : List (S52)) (w : World) (hr0 : Kd.C k52 w A0 l0.length l0) (hc0 : l0.length ≤ c0) (hr1 : Kd.C (Kd.int .i64) w A1 l1.length l1) (hc1 : l1.length ≤ c1) (h : potbankref03_some.f k l0 l1 = some r) :
  Calls Try.prog 115 #[.slice A0 l0.length c0, .slice A1 l1.length c1] w fun e w' => ∃ v0_ : Value, e = .returned (v0_) ∧ Kd.R k52 52 w' w.heap.size (fun _ => True) v0_ r ∧ Below w.heap.size w w' := by
 have hu52 := Try.underlying52
 have HR0 := pA hr0
 have HC0 := pA hc0
 clear hr0 hc0
 have HR1 := pA hr1
 have HC1 := pA hc1
 clear hr1 hc1
 have HB := pA (Below.refl w.heap.size w)
 have H : (potbankref03_some.l0 k l0 l1 ([] : List (S52)) 0) = some r := h
 clear h
 have H' := pA H
 clear H
 go_enter Try.func115, Try.ntmps115
 go_wp2
 go_loopg [5, 6] k (fun kq v5 v6 w' => ∃ (x5_1 : List (S52)) (x6_1 : Int), v6 = .int .i64 x6_1 ∧ Aside0 (potbankref03_some.l0 kq l0 l1 x5_1 x6_1 = some r) ∧ Aside0 (kq ≤ k) ∧ Aside0 (Kd.R k52 52 w' w.heap.size (fun _ => True) v5 x5_1) ∧ Aside0 (Below w.heap.size w w'))
 case atStart => exact ⟨(([] : List (S52))), (0), (by first | rfl | (simp; done) | (simp [*]; done)), H', ⟨Nat.le_refl _⟩, ⟨by first | exact Kd.R_nil _ _ _ _ _ | exact Kd.N_nil _ _ _ _ _ | exact Kd.V_nil _ _ _ _ _ | exact Kd.Q_nil _ _ _ _ _ | exact Kd.S_nil _ _ _ _ _⟩, ⟨by repeat (first | (with_reducible first | exact HB.out | apply below_alloc | apply pw_below_drewN | apply below_drew1) | exact HB.out)⟩⟩
 case round =>
  clear H'
  try clear c1
  try clear p2
  obtain ⟨x5_1, x6_1, rfl, HA, HK1, HO_5, HB⟩ := hrel
  cases gk with
  | zero => exact absurd HA.out (by simp [potbankref03_some.l0])
  | succ k1 =>
   have H := HA.out
   clear HA
   simp only [potbankref03_some.l0] at H
   by_cases c3 : x6_1 < (l1.length : Int)
   ·rw [if_pos c3] at H
    have c3b0 : decide (x6_1 < (l1.length : Int)) = true := decide_eq_true c3
    clear c3
    by_cases c4 : 0 ≤ x6_1
    ·rw [if_pos c4] at H
     have c4b0 : decide (0 ≤ x6_1) = true := decide_eq_true c4
     clear c4
     by_cases c5 : 0 ≤ (rd l1 x6_1)
     ·rw [if_pos c5] at H
      have c5b0 : decide (0 ≤ (rd l1 x6_1)) = true := decide_eq_true c5
      clear c5
      by_cases c6 : (rd l1 x6_1) < (l0.length : Int)
      ·rw [if_pos c6] at H
       have c6b0 : decide ((rd l1 x6_1) < (l0.length : Int)) = true := decide_eq_true c6
       clear c6
       by_cases c7 : x5_1.length < 2199023255552
       ·rw [if_pos c7] at H
        have LMc7 := pA c7
        clear c7
        obtain ⟨y255, hy255⟩ : ∃ y_ : List (S52), y_ = (x5_1 ++ [(⟨(rd_T52 l0 (rd l1 x6_1)).f0, (⟨(rd_T52 l0 (rd l1 x6_1)).f1.f0, (rd_T52 l0 (rd l1 x6_1)).f1.f1⟩ : S23), (⟨(rd_T52 l0 (rd l1 x6_1)).f2.f0, (rd_T52 l0 (rd l1 x6_1)).f2.f1⟩ : S23), (⟨(rd_T52 l0 (rd l1 x6_1)).f3.f0, (rd_T52 l0 (rd l1 x6_1)).f3.f1⟩ : S23), (rd_T52 l0 (rd l1 x6_1)).f4⟩ : S52)]) := ⟨_, rfl⟩
        replace H : (potbankref03_some.l0 k1 l0 l1 y255 (wrap64 (x6_1 + 1))) = some r := by first | (rw [hy255]; with_reducible exact H) | (have H2_ := (Option.bind_some _ _).symm.trans H; rw [hy255]; with_reducible exact H2_) | (have H2_ := (Option.bind_some _ _).symm.trans H; with_reducible exact H2_) | with_reducible exact H | (rw [hy255]; exact H) | exact H
        have Ny255 := pA hy255
        clear hy255
        have H' := pA H
        clear H
        have p253 : 0 ≤ (x6_1 : Int) := of_decide_eq_true (by first | (with_reducible assumption) | assumption)
        have q253 : x6_1 < (l1.length : Int) := of_decide_eq_true (by first | (with_reducible assumption) | assumption)
        obtain ⟨ad253, e253, hx253_0⟩ := Kd.at_int HR1.out x6_1 p253 q253
        cases e253
        replace hx253_0 := vC HB hx253_0
        replace p253 := eq_true p253
        replace q253 := eq_true q253
        have p254 : 0 ≤ ((rd l1 x6_1) : Int) := of_decide_eq_true (by first | (with_reducible assumption) | assumption)
        have q254 : (rd l1 x6_1) < (l0.length : Int) := of_decide_eq_true (by first | (with_reducible assumption) | assumption)
        obtain ⟨ad254, e254, hx254_0, hx254_1, hx254_2, hx254_3, hx254_4, hx254_5, hx254_6, hx254_7⟩ := at_T52 HR0.out (rd l1 x6_1) p254 q254
        cases e254
        replace hx254_0 := vC HB hx254_0
        replace hx254_1 := vC HB hx254_1
        replace hx254_2 := vC HB hx254_2
        replace hx254_3 := vC HB hx254_3
        replace hx254_4 := vC HB hx254_4
        replace hx254_5 := vC HB hx254_5
        replace hx254_6 := vC HB hx254_6
        replace hx254_7 := vC HB hx254_7
        replace p254 := eq_true p254
        replace q254 := eq_true q254
        go_wp2_with (first | ((with_reducible refine aG (b := .append) (xs := #[.tmp 13, .tmp 21]) rfl ?_); at_builtin; refine Kd.R_append k52 (w0 := w) w.heap.size rfl (.tmp 13) (.tmp 21) 24 52 (.agg #[(.int .i64 0), (.int .i64 0), (.int .i64 0), (.int .i64 0), (.int .i64 0), (.int .i64 0), (.int .i64 0), (.int .i64 0)]) 64 rfl Try.underlying24 info52 rfl (by decide) (by omega) u5 x5_1 (⟨(rd_T52 l0 (rd l1 x6_1)).f0, (⟨(rd_T52 l0 (rd l1 x6_1)).f1.f0, (rd_T52 l0 (rd l1 x6_1)).f1.f1⟩ : S23), (⟨(rd_T52 l0 (rd l1 x6_1)).f2.f0, (rd_T52 l0 (rd l1 x6_1)).f2.f1⟩ : S23), (⟨(rd_T52 l0 (rd l1 x6_1)).f3.f0, (rd_T52 l0 (rd l1 x6_1)).f3.f1⟩ : S23), (rd_T52 l0 (rd l1 x6_1)).f4⟩ : S52) [.int .i64 ((rd_T52 l0 (rd l1 x6_1)).f0), .int .i64 ((rd_T52 l0 (rd l1 x6_1)).f1.f0), .int .i64 ((rd_T52 l0 (rd l1 x6_1)).f1.f1), .int .i64 ((rd_T52 l0 (rd l1 x6_1)).f2.f0), .int .i64 ((rd_T52 l0 (rd l1 x6_1)).f2.f1), .int .i64 ((rd_T52 l0 (rd l1 x6_1)).f3.f0), .int .i64 ((rd_T52 l0 (rd l1 x6_1)).f3.f1), .int .i64 ((rd_T52 l0 (rd l1 x6_1)).f4)] (fun _ => True) (fun _ => False) rfl rfl ?aP (fun _ hk => hk.elim) ?aF ?aO ?aB ?aS ?aL ?_; (case aP => exact k52_mkM _ _ _ (⟨(rd_T52 l0 (rd l1 x6_1)).f0, (⟨(rd_T52 l0 (rd l1 x6_1)).f1.f0, (rd_T52 l0 (rd l1 x6_1)).f1.f1⟩ : S23), (⟨(rd_T52 l0 (rd l1 x6_1)).f2.f0, (rd_T52 l0 (rd l1 x6_1)).f2.f1⟩ : S23), (⟨(rd_T52 l0 (rd l1 x6_1)).f3.f0, (rd_T52 l0 (rd l1 x6_1)).f3.f1⟩ : S23), (rd_T52 l0 (rd l1 x6_1)).f4⟩ : S52)); (case aB => exact (vB HB)); (case aF => exact (fun _ _ => trivial)); (case aO => exact (vR HO_5)); (case aS => exact (below_size (vB HB))); (case aL => have := LMc7.out; omega); intro v256 w8 ho hb hg hat; rw [← Ny255.out] at ho; have n0_ := pA (hb); have n1_ := pA (ho); clear HB; clear HO_5; have HB := n0_; have HO257 := n1_; clear n0_ n1_; clear ho hb hg hat))
        go_roundg k1
        case measure => have := HK1.out; omega
        case rel => exact ⟨(y255), (wrap64 (x6_1 + 1)), (by first | rfl | (simp; done) | (simp [*]; done)), H', ⟨by have := HK1.out; omega⟩, ⟨by (with_reducible repeat (first | apply Kd.R_alloc | apply Kd.R_drewN | apply Kd.R_drew)); exact HO257.out⟩, ⟨by repeat (first | (with_reducible first | exact HB.out | apply below_alloc | apply pw_below_drewN | apply below_drew1) | exact HB.out)⟩⟩
       ·rw [if_neg c7] at H
        exact absurd H (by simp)
      ·rw [if_neg c6] at H
       exact absurd H (by simp)
     ·rw [if_neg c5] at H
      exact absurd H (by simp)
    ·rw [if_neg c4] at H
     exact absurd H (by simp)
   ·rw [if_neg c3] at H
    have c3b0 : decide (x6_1 < (l1.length : Int)) = false := decide_eq_false c3
    clear c3
    obtain rfl := Option.some.inj H
    go_wp2
    go_ret
    exact ⟨_, by first | rfl | (simp [errW_none, errW_some] <;> rfl) | (simp [*, errW_none, errW_some] <;> rfl), by (with_reducible repeat (first | apply Kd.R_alloc | apply Kd.R_drewN | apply Kd.R_drew)); exact HO_5.out, by repeat (first | (with_reducible first | exact HB.out | apply below_alloc | apply pw_below_drewN | apply below_drew1) | exact HB.out)⟩
def potbankref03_canStand.f (k : Nat) (l0 : List (S52)) : Option (Bool) := (potbankref03_rule.f k l0).bind fun t501 => ((potbankref03_some.f k l0 t501).bind fun t504 => ((potbankref03_stands.f t504).bind fun t507 => (some (t507 == 1))))
theorem potbankref03_canStand.mono : ∀ a0 k, LeO (potbankref03_canStand.f k a0) (potbankref03_canStand.f (k + 1) a0) := by
 intro a0 k
 unfold potbankref03_canStand.f
 repeat' first
   | (with_reducible exact potbankref03_rule.mono _ _)
   | (with_reducible exact potbankref03_some.mono _ _ _)
   | (with_reducible exact LeO.refl _)
   | (with_reducible exact LeO.none _)
   | (with_reducible refine LeO.ite ?_ ?_)
   | (with_reducible refine LeO.bind ?_ (fun _ => ?_))
   | exact potbankref03_rule.mono _ _
   | exact potbankref03_some.mono _ _ _
   | exact LeO.none _
   | refine LeO.ite ?_ ?_
   | refine LeO.bind ?_ (fun _ => ?_)
set_option maxHeartbeats 8000000 in
set_option maxRecDepth 100000 in
theorem potbankref03_canStand.calls (k : Nat) (A0 : Option Addr) (c0 : Nat) (l0 : List (S52)) (r : Bool) (w : World) (hr0 : Kd.C k52 w A0 l0.length l0) (hc0 : l0.length ≤ c0) (h : potbankref03_canStand.f k l0 = some r) :
  Calls Try.prog 99 #[.slice A0 l0.length c0] w fun e w' => e = .returned (.bool r) ∧ Below w.heap.size w w' := by
 have HR0 := pA hr0
 have HC0 := pA hc0
 clear hr0 hc0
 have HB := pA (Below.refl w.heap.size w)
 have H : ((potbankref03_rule.f k l0).bind fun t501 => ((potbankref03_some.f k l0 t501).bind fun t504 => ((potbankref03_stands.f t504).bind fun t507 => (some (t507 == 1))))) = some r := h
 clear h
 replace H := Option.bind_eq_some_iff.mp H
 obtain ⟨t501, A20, H⟩ := H
 replace H : ((potbankref03_some.f k l0 t501).bind fun t504 => ((potbankref03_stands.f t504).bind fun t507 => (some (t507 == 1)))) = some r := H
 have A2 := pA A20
 clear A20
 replace H := Option.bind_eq_some_iff.mp H
 obtain ⟨t504, A30, H⟩ := H
 replace H : ((potbankref03_stands.f t504).bind fun t507 => (some (t507 == 1))) = some r := H
 have A3 := pA A30
 clear A30
 replace H := Option.bind_eq_some_iff.mp H
 obtain ⟨t507, A40, H⟩ := H
 replace H : (some (t507 == 1)) = some r := H
 have A4 := pA A40
 clear A40
 obtain rfl := Option.some.inj H
 go_enter Try.func99, Try.ntmps99
 go_wp2_with (first | ((with_reducible refine aF (f := 97) rfl ?_); refine goesL_ (some 5) rfl rfl Try.func97 (by kernel_rfl) rfl #[.slice A0 l0.length c0] rfl (by (try simp only [pE, pF, pG]); first | done | rfl | (simp only [pH, pI]; rfl)) ?_; (with_reducible refine (potbankref03_rule.calls k _ _ l0 t501 _ ?side1 ?side2 A2.out).mono ?_); (case side1 => repeat (first | exact HR0.out | (with_reducible refine Kd.C_alloc ?_ _) | (with_reducible refine Kd.C_drewN ?_ _) | (with_reducible refine Kd.C_drew ?_))); (case side2 => exact HC0.out); rintro e w5 ⟨v502, rfl, ho0, hb⟩; refine ⟨_, rfl, ?_⟩; have n0_ := pA (Kd.R_lower ho0 (below_size (vB HB))); have n1_ := pA (below_step (vB HB) hb); clear HB; have HO503 := n0_; have HB := n1_; clear n0_ n1_; (try clear hb); (try clear hb2); (try clear hk); (try clear hi); (try clear ho0); obtain ⟨Ao6, co6, eo6⟩ := Kd.R_slice HO503.out; subst eo6) | ((with_reducible refine aF (f := 115) rfl ?_); refine goesL_ (some 6) rfl rfl Try.func115 (by kernel_rfl) rfl #[.slice A0 l0.length c0, .slice Ao6 t501.length co6] rfl (by (try simp only [pE, pF, pG]); first | done | rfl | (simp only [pH, pI]; rfl)) ?_; (with_reducible refine (potbankref03_some.calls k _ _ l0 _ _ t501 t504 _ ?side1 ?side2 ?side3 ?side4 A3.out).mono ?_); (case side1 => repeat (first | exact (Kd.C_below HR0.out HB.out) | (with_reducible refine Kd.C_alloc ?_ _) | (with_reducible refine Kd.C_drewN ?_ _) | (with_reducible refine Kd.C_drew ?_))); (case side2 => exact HC0.out); (case side3 => repeat (first | exact (Kd.R_reads' HO503.out).2.2 | (with_reducible refine Kd.C_alloc ?_ _) | (with_reducible refine Kd.C_drewN ?_ _) | (with_reducible refine Kd.C_drew ?_))); (case side4 => exact (Kd.R_reads' HO503.out).2.1); rintro e w7 ⟨v505, rfl, ho0, hb⟩; refine ⟨_, rfl, ?_⟩; have n0_ := pA (Kd.R_below (vR HO503) hb); have n1_ := pA (Kd.R_lower ho0 (below_size (vB HB))); have n2_ := pA (below_step (vB HB) hb); clear HO503; clear HB; have HO503 := n0_; have HO506 := n1_; have HB := n2_; clear n0_ n1_ n2_; (try clear hb); (try clear hb2); (try clear hk); (try clear hi); (try clear ho0); obtain ⟨Ao8, co8, eo8⟩ := Kd.R_slice HO506.out; subst eo8) | ((with_reducible refine aF (f := 91) rfl ?_); refine goesL_ (some 7) rfl rfl Try.func91 (by kernel_rfl) rfl #[.slice Ao8 t504.length co8] rfl (by (try simp only [pE, pF, pG]); first | done | rfl | (simp only [pH, pI]; rfl)) ?_; (with_reducible refine (potbankref03_stands.calls _ _ t504 t507 _ ?side1 ?side2 A4.out).mono ?_); (case side1 => repeat (first | exact (Kd.R_reads' HO506.out).2.2 | (with_reducible refine Kd.C_alloc ?_ _) | (with_reducible refine Kd.C_drewN ?_ _) | (with_reducible refine Kd.C_drew ?_))); (case side2 => exact (Kd.R_reads' HO506.out).2.1); rintro e w9 ⟨rfl, hb⟩; refine ⟨_, rfl, ?_⟩; have n0_ := pA (Kd.R_below (vR HO503) hb); have n1_ := pA (Kd.R_below (vR HO506) hb); have n2_ := pA (below_step (vB HB) hb); clear HO503; clear HO506; clear HB; have HO503 := n0_; have HO506 := n1_; have HB := n2_; clear n0_ n1_ n2_; (try clear hb); (try clear hb2); (try clear hk); (try clear hi)))
 go_ret
 exact ⟨by first | rfl | (simp [errW_none, errW_some] <;> rfl) | (simp [*, errW_none, errW_some] <;> rfl), by repeat (first | (with_reducible first | exact HB.out | apply below_alloc | apply pw_below_drewN | apply below_drew1) | exact HB.out)⟩
def potbankref03_CanStand.f (k : Nat) (l0 : List (S52)) : Option (Bool × Int) := (potbankref03_CheckList.f k l0).bind fun t508 => (if t508 = 0 then ((potbankref03_canStand.f k l0).bind fun t509 => (some (t509, 0))) else (some (false, 30)))
theorem potbankref03_CanStand.mono : ∀ a0 k, LeO (potbankref03_CanStand.f k a0) (potbankref03_CanStand.f (k + 1) a0) := by
 intro a0 k
 unfold potbankref03_CanStand.f
 repeat' first
   | (with_reducible exact potbankref03_CheckList.mono _ _)
   | (with_reducible exact potbankref03_canStand.mono _ _)
   | (with_reducible exact LeO.refl _)
   | (with_reducible exact LeO.none _)
   | (with_reducible refine LeO.ite ?_ ?_)
   | (with_reducible refine LeO.bind ?_ (fun _ => ?_))
   | exact potbankref03_CheckList.mono _ _
   | exact potbankref03_canStand.mono _ _
   | exact LeO.none _
   | refine LeO.ite ?_ ?_
   | refine LeO.bind ?_ (fun _ => ?_)
set_option maxHeartbeats 8000000 in
set_option maxRecDepth 100000 in
theorem potbankref03_CanStand.calls (k : Nat) (A0 : Option Addr) (c0 : Nat) (l0 : List (S52)) (r1 : Bool) (r2 : Int) (w : World) (hr0 : Kd.C k52 w A0 l0.length l0) (hc0 : l0.length ≤ c0) (h : potbankref03_CanStand.f k l0 = some (r1, r2)) :
  Calls Try.prog 44 #[.slice A0 l0.length c0] w fun e w' => e = .returned (.tuple #[.bool r1, .int .i64 r2]) ∧ Below w.heap.size w w' := by
 have HR0 := pA hr0
 have HC0 := pA hc0
 clear hr0 hc0
 have HB := pA (Below.refl w.heap.size w)
 have H : ((potbankref03_CheckList.f k l0).bind fun t508 => (if t508 = 0 then ((potbankref03_canStand.f k l0).bind fun t509 => (some (t509, 0))) else (some (false, 30)))) = some (r1, r2) := h
 clear h
 replace H := Option.bind_eq_some_iff.mp H
 obtain ⟨t508, A20, H⟩ := H
 replace H : (if t508 = 0 then ((potbankref03_canStand.f k l0).bind fun t509 => (some (t509, 0))) else (some (false, 30))) = some (r1, r2) := H
 have A2 := pA A20
 clear A20
 by_cases c3 : t508 = 0
 ·rw [if_pos c3] at H
  have c3b0 : (t508 == 0) = true := beq_iff_eq.mpr c3
  have c3b1 : (t508 != 0) = false := bne_eq_false_iff_eq.mpr c3
  clear c3
  replace H := Option.bind_eq_some_iff.mp H
  obtain ⟨t509, A40, H⟩ := H
  replace H : (some (t509, 0)) = some (r1, r2) := H
  have A4 := pA A40
  clear A40
  simp only [Option.some.injEq, Prod.mk.injEq] at H
  obtain ⟨rfl, rfl⟩ := H
  go_enter Try.func44, Try.ntmps44
  go_wp2_with (first | ((with_reducible refine aF (f := 50) rfl ?_); refine goesL_ (some 5) rfl rfl Try.func50 (by kernel_rfl) rfl #[.slice A0 l0.length c0] rfl (by (try simp only [pE, pF, pG]); first | done | rfl | (simp only [pH, pI]; rfl)) ?_; (with_reducible refine (potbankref03_CheckList.calls k _ _ l0 t508 _ ?side1 ?side2 A2.out).mono ?_); (case side1 => repeat (first | exact HR0.out | (with_reducible refine Kd.C_alloc ?_ _) | (with_reducible refine Kd.C_drewN ?_ _) | (with_reducible refine Kd.C_drew ?_))); (case side2 => exact HC0.out); rintro e w5 ⟨rfl, hb⟩; refine ⟨_, rfl, ?_⟩; have n0_ := pA (below_step (vB HB) hb); clear HB; have HB := n0_; clear n0_; (try clear hb); (try clear hb2); (try clear hk); (try clear hi)) | ((with_reducible refine aF (f := 99) rfl ?_); refine goesL_ (some 8) rfl rfl Try.func99 (by kernel_rfl) rfl #[.slice A0 l0.length c0] rfl (by (try simp only [pE, pF, pG]); first | done | rfl | (simp only [pH, pI]; rfl)) ?_; (with_reducible refine (potbankref03_canStand.calls k _ _ l0 t509 _ ?side1 ?side2 A4.out).mono ?_); (case side1 => repeat (first | exact (Kd.C_below HR0.out HB.out) | (with_reducible refine Kd.C_alloc ?_ _) | (with_reducible refine Kd.C_drewN ?_ _) | (with_reducible refine Kd.C_drew ?_))); (case side2 => exact HC0.out); rintro e w6 ⟨rfl, hb⟩; refine ⟨_, rfl, ?_⟩; have n0_ := pA (below_step (vB HB) hb); clear HB; have HB := n0_; clear n0_; (try clear hb); (try clear hb2); (try clear hk); (try clear hi)))
  go_ret2
  exact ⟨by first | rfl | (simp [errW_none, errW_some] <;> rfl) | (simp [*, errW_none, errW_some] <;> rfl), by repeat (first | (with_reducible first | exact HB.out | apply below_alloc | apply pw_below_drewN | apply below_drew1) | exact HB.out)⟩
 ·rw [if_neg c3] at H
  have c3b0 : (t508 == 0) = false := beq_eq_false_iff_ne.mpr c3
  have c3b1 : (t508 != 0) = true := bne_iff_ne.mpr c3
  simp only [Option.some.injEq, Prod.mk.injEq] at H
  obtain ⟨rfl, rfl⟩ := H
  go_enter Try.func44, Try.ntmps44
  go_wp2_with (first | ((with_reducible refine aF (f := 50) rfl ?_); refine goesL_ (some 5) rfl rfl Try.func50 (by kernel_rfl) rfl #[.slice A0 l0.length c0] rfl (by (try simp only [pE, pF, pG]); first | done | rfl | (simp only [pH, pI]; rfl)) ?_; (with_reducible refine (potbankref03_CheckList.calls k _ _ l0 t508 _ ?side1 ?side2 A2.out).mono ?_); (case side1 => repeat (first | exact HR0.out | (with_reducible refine Kd.C_alloc ?_ _) | (with_reducible refine Kd.C_drewN ?_ _) | (with_reducible refine Kd.C_drew ?_))); (case side2 => exact HC0.out); rintro e w7 ⟨rfl, hb⟩; refine ⟨_, rfl, ?_⟩; have n0_ := pA (below_step (vB HB) hb); clear HB; have HB := n0_; clear n0_; (try clear hb); (try clear hb2); (try clear hk); (try clear hi)))
  go_ret2
  exact ⟨by first | rfl | (simp [errW_none, errW_some] <;> rfl) | (simp [*, errW_none, errW_some] <;> rfl), by repeat (first | (with_reducible first | exact HB.out | apply below_alloc | apply pw_below_drewN | apply below_drew1) | exact HB.out)⟩
theorem lower_ltR {l : List S52} (h : l.all vSag = true) {a b : Int} (ha : 0 ≤ a ∧ a < l.length) (hb : 0 ≤ b ∧ b < l.length) :
  potbankref03_lower.f (rd_T52 l a).f0 (rd_T52 l a).f1.f0 (rd_T52 l a).f1.f1 (rd_T52 l a).f2.f0 (rd_T52 l a).f2.f1 (rd_T52 l a).f3.f0 (rd_T52 l a).f3.f1 (rd_T52 l a).f4 (rd_T52 l b).f0 (rd_T52 l b).f1.f0 (rd_T52 l b).f1.f1 (rd_T52 l b).f2.f0 (rd_T52 l b).f2.f1 (rd_T52 l b).f3.f0 (rd_T52 l b).f3.f1 (rd_T52 l b).f4 = some (ltR l a b) := by
 have sa := all_at h ha.1 ha.2
 have sb := all_at h hb.1 hb.2
 have e := ltR_iff l a b
 simp only [vSag, decide_eq_true_eq] at sa sb
 unfold potbankref03_lower.f
 rw [wrap_id (x := (rd_T52 l a).f1.f1 + (rd_T52 l a).f2.f0) (by omega) (by omega), wrap_id (x := (rd_T52 l b).f1.f1 + (rd_T52 l b).f2.f0) (by omega) (by omega)]
 change (if strong (rd_T52 l a) > strong (rd_T52 l b) then some true else if strong (rd_T52 l a) = strong (rd_T52 l b) then some (decide ((rd_T52 l a).f0 < (rd_T52 l b).f0)) else some false) = _
 generalize strong (rd_T52 l a) = p at e ⊢
 generalize strong (rd_T52 l b) = q at e ⊢
 clear sa sb
 by_cases h1 : q < p
 ·rw [if_pos h1, e.2 (.inl h1)]
 ·rw [if_neg h1]
  by_cases h2 : p = q
  ·rw [if_pos h2]
   by_cases h3 : (rd_T52 l a).f0 < (rd_T52 l b).f0
   ·rw [e.2 (.inr ⟨h2.symm, h3⟩), decide_eq_true h3]
   ·have : ltR l a b = false := by rw [Bool.eq_false_iff]; intro c; have := e.1 c; omega
    rw [this, decide_eq_false h3]
  ·have : ltR l a b = false := by rw [Bool.eq_false_iff]; intro c; have := e.1 c; omega
   rw [if_neg h2, this]
/-- An index put in its place. -/
def insR (l : List S52) (x : Int) : List Int → List Int
 | [] => [x]
 | y :: t => if ltR l y x = true then y :: insR l x t else x :: y :: t
theorem ins_at (l : List S52) (x : Int) : ∀ (out : List Int) (j : Nat), (∀ y ∈ out.take j, ltR l y x = true) → (∀ h : j < out.length, ltR l out[j] x = false) → insR l x out = out.take j ++ x :: out.drop j := by
 intro out
 induction out with
 | nil => intro j _ _; simp [insR]
 | cons y t ih =>
  intro j h1 h2
  cases j with
  | zero =>
   have := h2 (by simp)
   simp only [List.getElem_cons_zero] at this
   simp [insR, this]
  | succ j =>
   have h3 := h1 y (by simp)
   simp only [insR, h3, if_true]
   rw [ih j (fun z hz => h1 z (by simp [hz])) (fun h => by have := h2 (by simp; omega); simpa using this)]
   simp
theorem ins_perm (l : List S52) (x : Int) (out : List Int) : (insR l x out).Perm (x :: out) := by
 induction out with
 | nil => exact .refl _
 | cons y t ih =>
  unfold insR
  split
  ·exact (ih.cons y).trans (.swap x y t)
  ·exact .refl _
theorem ins_pair (l : List S52) (x : Int) (out : List Int) (h : out.Pairwise fun a b => ltR l b a = false) : (insR l x out).Pairwise fun a b => ltR l b a = false := by
 induction out with
 | nil => simp [insR]
 | cons y t ih =>
  rw [List.pairwise_cons] at h
  unfold insR
  have e1 := ltR_iff l y x
  have e2 := ltR_iff l x y
  split
  ·rename_i hy
   refine List.pairwise_cons.2 ⟨fun z hz => ?_, ih h.2⟩
   rcases List.mem_cons.1 ((ins_perm l x t).mem_iff.1 hz) with rfl | hz
   ·rw [Bool.eq_false_iff]; intro c; have := e1.1 hy; have := e2.1 c; omega
   ·exact h.1 z hz
  ·rename_i hy
   refine List.pairwise_cons.2 ⟨fun z hz => ?_, List.pairwise_cons.2 h⟩
   rcases List.mem_cons.1 hz with rfl | hz
   ·simpa using hy
   ·rw [Bool.eq_false_iff]
    intro c
    have h3 := ltR_not l _ _ (h.1 z hz)
    have h4 := ltR_not l _ _ (show ltR l y x = false by simpa using hy)
    have h5 := (ltR_iff l z x).1 c
    omega
def ordR (l : List S52) : Nat → List Int
  | 0 => []
  | n + 1 => insR l n (ordR l n)
/-- The indices below n. -/
def idx (n : Nat) : List Int := (List.range n).map Int.ofNat
theorem idx_succ (n : Nat) : idx (n + 1) = idx n ++ [(n : Int)] := by simp [idx, List.range_succ]
theorem ord_perm (l : List S52) (n : Nat) : (ordR l n).Perm (idx n) := by
 induction n with
 | zero => exact .refl _
 | succ n ih =>
  rw [idx_succ]
  exact (ins_perm l n _).trans ((ih.cons _).trans (List.perm_append_singleton _ _).symm)
theorem ord_pair (l : List S52) (n : Nat) : (ordR l n).Pairwise fun a b => ltR l b a = false := by
 induction n with
 | zero => exact .nil
 | succ n ih => exact ins_pair l n _ ih
theorem idx_in (n : Nat) : inIx n (idx n) = true := by
 simp only [inIx, List.all_eq_true, decide_eq_true_eq, idx, List.mem_map, List.mem_range]
 rintro _ ⟨i, hi, rfl⟩
 exact ⟨Int.natCast_nonneg i, Int.ofNat_lt.2 hi⟩
theorem idx_len (n : Nat) : (idx n).length = n := by simp [idx]
theorem ord_in (l : List S52) {i : Nat} (hi : i ≤ l.length) : inIx l.length (ordR l i) = true := by
 have h := inIx_perm (ord_perm l i) (idx_in i)
 simp only [inIx, List.all_eq_true, decide_eq_true_eq] at h ⊢
 exact fun x hx => ⟨(h x hx).1, by have := (h x hx).2; omega⟩
theorem ord_len (l : List S52) (i : Nat) : (ordR l i).length = i := by rw [(ord_perm l i).length_eq, idx_len]
theorem ord_sort (l : List S52) (h : okList l = true) : ordR l l.length = sortR l (idx l.length) := by
 have p1 := ord_perm l l.length
 have p2 := sortR_perm l (idx l.length)
 have hin := idx_in l.length
 simp only [inIx, List.all_eq_true, decide_eq_true_eq] at hin
 refine List.Perm.eq_of_pairwise (le := fun a b => ltR l b a = false) ?_ (ord_pair l _) ?_ (p1.trans p2.symm)
 ·intro a b ha hb h1 h2
  have ha := hin a (p1.mem_iff.1 ha)
  have hb := hin b (p2.mem_iff.1 hb)
  exact congrArg Subtype.val (ix_total l h ⟨a, ha⟩ ⟨b, hb⟩ h2 h1)
 ·have := List.pairwise_mergeSort (le := fun x y => !(ltR l y x)) (fun a b c h1 h2 => by
   have h1 := ltR_not l _ _ (show ltR l b a = false by simpa using h1)
   have h2 := ltR_not l _ _ (show ltR l c b = false by simpa using h2)
   have h3 : ltR l c a = false := by
    rw [Bool.eq_false_iff]; intro e; have := (ltR_iff l c a).1 e; omega
   simp [h3]) (fun a b => by
   cases e : ltR l b a with
   | false => simp [e]
   | true =>
    have h1 := (ltR_iff l b a).1 e
    have h3 : ltR l a b = false := by
     rw [Bool.eq_false_iff]; intro e; have := (ltR_iff l a b).1 e; omega
    simp [h3]) (idx l.length)
  unfold sortR
  exact this.imp (fun h => by simpa using h)
theorem rule_step (l : List S52) (out : List Int) (x : Int) (j : Nat) (hj : j ≤ out.length) (hn : out.length ≤ 30) (k : Nat) :
  ((some (([] : List Int) : List Int)).bind fun y257 => (if (j : Int) ≤ (out.length : Int) then ((some (out.take (j : Int).toNat : List Int)).bind fun y260 => (if y257.length + y260.length < 17592186044416 then ((some (y257 ++ y260 : List Int)).bind fun y264 => ((some (([x] : List Int) : List Int)).bind fun y267 => (if y264.length + y267.length < 17592186044416 then ((some (y264 ++ y267 : List Int)).bind fun y270 => ((some (out.drop (j : Int).toNat : List Int)).bind fun y273 => (if y270.length + y273.length < 17592186044416 then (potbankref03_rule.l0 k l (y270 ++ y273) (wrap64 (x + 1))) else (none)))) else (none)))) else (none))) else (none))) = potbankref03_rule.l0 k l (out.take j ++ x :: out.drop j) (wrap64 (x + 1)) := by
 simp only [Option.bind_some, Int.toNat_natCast, List.nil_append, List.length_nil]
 rw [if_pos (by omega), if_pos (by simp; omega), if_pos (by simp; omega), if_pos (by simp; omega)]
 simp
theorem rule_l1 (l : List S52) (hl : okList l = true) (out : List Int) (ho : inIx l.length out = true) (hn : out.length ≤ 30) (x : Nat) (hx : x < l.length) (r : List Int) (K : Nat) (hr : ∀ k, K ≤ k → potbankref03_rule.l0 k l (insR l x out) (wrap64 ((x : Int) + 1)) = some r) :
  ∀ d j k, out.length - j = d → j ≤ out.length → K + d < k → (∀ y ∈ out.take j, ltR l y x = true) → potbankref03_rule.l1 k l out (x : Int) (j : Int) = some r := by
 have hv : l.all vSag = true := okSome_all (okSome_of hl)
 intro d
 induction d with
 | zero =>
  intro j k hd hj hk h1
  obtain ⟨k, rfl⟩ : ∃ m, k = m + 1 := ⟨k - 1, by omega⟩
  simp only [potbankref03_rule.l1]
  have hs := rule_step l out x j hj hn k
  rw [Option.bind_some] at hs
  rw [if_neg (by omega), Option.bind_some, if_pos (by omega), hs, ← ins_at l x out j h1 (fun h => by omega)]
  exact hr k (by omega)
 | succ d ih =>
  intro j k hd hj hk h1
  obtain ⟨k, rfl⟩ : ∃ m, k = m + 1 := ⟨k - 1, by omega⟩
  have hlt : j < out.length := by omega
  have hin : 0 ≤ out[j] ∧ out[j] < (l.length : Int) := by
   simp only [inIx, List.all_eq_true, decide_eq_true_eq] at ho
   exact ho _ (List.getElem_mem hlt)
  simp only [potbankref03_rule.l1]
  rw [rd_nat out j hlt, if_pos (by omega), if_pos (by omega), if_pos hin.1, if_pos hin.2, if_pos (by omega), if_pos (by omega), lower_ltR hv hin ⟨by omega, by omega⟩]
  rw [Option.bind_some]
  cases hc : ltR l out[j] x with
  | true =>
   rw [if_pos rfl, wrap_next (by omega)]
   refine ih (j + 1) k (by omega) (by omega) (by omega) ?_
   rw [List.take_succ_eq_append_getElem hlt]
   intro y hy
   rcases List.mem_append.1 hy with hy | hy
   ·exact h1 y hy
   ·simp at hy; subst hy; exact hc
  | false =>
   rw [if_neg (by simp), rule_step l out x j hj hn k, ← ins_at l x out j h1 (fun h => hc)]
   exact hr k (by omega)
theorem rule_l0 (l : List S52) (hl : okList l = true) : ∀ d i k, l.length - i = d → i ≤ l.length → (d + 1) * 40 ≤ k → potbankref03_rule.l0 k l (ordR l i) (i : Int) = some (ordR l l.length) := by
 have hn := okSome_len (okSome_of hl)
 intro d
 induction d with
 | zero =>
  intro i k hd hi hk
  obtain ⟨k, rfl⟩ : ∃ m, k = m + 1 := ⟨k - 1, by omega⟩
  simp only [potbankref03_rule.l0]
  rw [if_neg (by omega), show i = l.length by omega]
 | succ d ih =>
  intro i k hd hi hk
  obtain ⟨k, rfl⟩ : ∃ m, k = m + 1 := ⟨k - 1, by omega⟩
  simp only [potbankref03_rule.l0]
  rw [if_pos (by omega)]
  exact rule_l1 l hl (ordR l i) (ord_in l hi) (by rw [ord_len]; omega) i (by omega) _ ((d + 1) * 40) (fun k hk => by rw [wrap_next (by omega)]; exact ih (i + 1) k (by omega) (by omega) hk) (ordR l i).length 0 k (by omega) (by omega) (by rw [ord_len]; omega) (by simp)
theorem refRule_eq (l : List S52) (hl : okList l = true) (k : Nat) (hk : 2000 ≤ k) : potbankref03_rule.f k l = some (sortR l (idx l.length)) := by
 have hn := okSome_len (okSome_of hl)
 unfold potbankref03_rule.f
 rw [← ord_sort l hl]
 exact rule_l0 l hl l.length 0 k (by omega) (by omega) (by omega)
theorem indices_l0 (n : Nat) (hn : n ≤ 1000) : ∀ d i k, n - i = d → i ≤ n → d < k → bung_indices.l0 k (idx i) (n : Int) (i : Int) = some (idx n) := by
 intro d
 induction d with
 | zero =>
  intro i k hd hi hk
  obtain ⟨k, rfl⟩ : ∃ m, k = m + 1 := ⟨k - 1, by omega⟩
  simp only [bung_indices.l0]
  rw [if_neg (by omega), show i = n by omega]
 | succ d ih =>
  intro i k hd hi hk
  obtain ⟨k, rfl⟩ : ∃ m, k = m + 1 := ⟨k - 1, by omega⟩
  simp only [bung_indices.l0]
  rw [if_pos (by omega), if_pos (by rw [idx_len]; omega), wrap_next (by omega), ← idx_succ]
  exact ih (i + 1) k (by omega) (by omega) (by omega)
theorem indices_eq (l : List S52) (hl : l.length ≤ 30) (k : Nat) (hk : 100 ≤ k) : bung_indices.f k l = some (idx l.length) := by
  unfold bung_indices.f
  exact indices_l0 l.length (by omega) l.length 0 k (by omega) (by omega) (by omega)
theorem some_l0 (l : List S52) (xs : List Int) (hx : inIx l.length xs = true) (hl : xs.length ≤ 1000000) : ∀ (d i : Nat) (acc : List S52) (k : Nat), i ≤ xs.length → xs.length - i = d → d < k → acc.length ≤ i →
  potbankref03_some.l0 k l xs acc (i : Int) = some (acc ++ pick l (xs.drop i)) := by
 intro d
 induction d with
 | zero =>
  intro i acc k hi hd hk ha
  obtain ⟨k, rfl⟩ : ∃ m, k = m + 1 := ⟨k - 1, by omega⟩
  simp only [potbankref03_some.l0]
  rw [if_neg (by omega), List.drop_eq_nil_of_le (by omega)]
  simp [pick]
 | succ d ih =>
  intro i acc k hi hd hk ha
  obtain ⟨k, rfl⟩ : ∃ m, k = m + 1 := ⟨k - 1, by omega⟩
  have hlt : i < xs.length := by omega
  have hr : rd xs i = xs[i] := rd_nat xs i hlt
  have hin : 0 ≤ xs[i] ∧ xs[i] < (l.length : Int) := by
   simp only [inIx, List.all_eq_true, decide_eq_true_eq] at hx
   exact hx _ (List.getElem_mem hlt)
  simp only [potbankref03_some.l0]
  rw [if_pos (by omega), if_pos (by omega), if_pos (by rw [hr]; exact hin.1), if_pos (by rw [hr]; exact hin.2), if_pos (by omega), wrap_next (by omega)]
  have e : xs.drop i = xs[i] :: xs.drop (i + 1) := List.drop_eq_getElem_cons hlt
  rw [ih (i + 1) _ k (by omega) (by omega) (by omega) (by simp; omega), e, hr]
  rw [List.append_assoc]
  rfl
theorem some_eq (l : List S52) (xs : List Int) (hx : inIx l.length xs = true) (hl : xs.length ≤ 30) (k : Nat) (hk : 100 ≤ k) : potbankref03_some.f k l xs = some (pick l xs) := by
 unfold potbankref03_some.f
 have := some_l0 l xs hx (by omega) xs.length 0 [] k (by omega) (by omega) (by omega) (by simp)
 simpa using this
theorem ourRule_eq (l : List S52) : bung_Rule.f 2000 l = some (if okList l = true then (sortR l (idx l.length), 0) else ([], 30)) := by
 unfold bung_Rule.f bung_isList.f
 rw [Option.bind_some]
 cases hl : okList l with
 | false => rfl
 | true =>
  have hn := okSome_len (okSome_of hl)
  rw [if_pos rfl, if_pos rfl, indices_eq l hn 2000 (by omega), Option.bind_some]
  unfold bung_rule.f
  rw [if_pos (by simp [hl, idx_in, idx_len, hn])]
  rfl
theorem theirRule_eq (l : List S52) : potbankref03_Rule.f 2000 l = some (if okList l = true then (sortR l (idx l.length), 0) else ([], 30)) := by
 unfold potbankref03_Rule.f
 rw [refList_eq l 2000 (by omega), Option.bind_some]
 cases hl : okList l with
 | false => rfl
 | true =>
  rw [if_pos rfl, if_pos rfl, if_pos rfl, refRule_eq l hl 2000 (by omega)]
  rfl
theorem ourCan_eq (l : List S52) : bung_CanStand.f 2000 l = some (if okList l = true then (canOf l (idx l.length), 0) else (false, 30)) := by
 unfold bung_CanStand.f bung_isList.f
 rw [Option.bind_some]
 cases hl : okList l with
 | false => rfl
 | true =>
  have hn := okSome_len (okSome_of hl)
  rw [if_pos rfl, if_pos rfl, indices_eq l hn 2000 (by omega), Option.bind_some, can_eq l _ hl (idx_in _) (by rw [idx_len]; exact hn) 2000 (by omega)]
  rfl
theorem theirCan_eq (l : List S52) : potbankref03_CanStand.f 2000 l = some (if okList l = true then (canOf l (idx l.length), 0) else (false, 30)) := by
 unfold potbankref03_CanStand.f
 rw [refList_eq l 2000 (by omega), Option.bind_some]
 cases hl : okList l with
 | false => rfl
 | true =>
  have hn := okSome_len (okSome_of hl)
  have hp := sortR_perm l (idx l.length)
  have hs := inIx_perm hp (idx_in l.length)
  have hsl : (sortR l (idx l.length)).length ≤ 30 := by rw [hp.length_eq, idx_len]; exact hn
  rw [if_pos rfl, if_pos rfl, if_pos rfl]
  unfold potbankref03_canStand.f
  rw [refRule_eq l hl 2000 (by omega), Option.bind_some, some_eq l _ hs hsl 2000 (by omega), Option.bind_some]
  unfold potbankref03_stands.f
  rw [if_pos (pick_ok hl hs hsl)]
  rfl
def bung_asked.f (a0_0 : Int) (a0_1 : Int) (l1 : List (S52)) (a2_0 : Int) (a2_1 : Int) : Option (Int) := (bung_isWad.f a0_0 a0_1).bind fun t176 => (if t176 = true then ((bung_isList.f l1).bind fun t177 => (if t177 = true then ((bung_isSpot.f a2_0 a2_1).bind fun t178 => (if t178 = true then (some 0) else (some 33))) else (some 30))) else (some 32))
set_option maxHeartbeats 8000000 in
set_option maxRecDepth 100000 in
theorem bung_asked.calls (a0_0 : Int) (a0_1 : Int) (A1 : Option Addr) (c1 : Nat) (l1 : List (S52)) (a2_0 : Int) (a2_1 : Int) (r : Int) (w : World) (hr1 : Kd.C k52 w A1 l1.length l1) (hc1 : l1.length ≤ c1) (h : bung_asked.f a0_0 a0_1 l1 a2_0 a2_1 = some r) :
  Calls Try.prog 76 #[.agg #[.int .i64 a0_0, .int .i64 a0_1], .slice A1 l1.length c1, .agg #[.int .i64 a2_0, .int .i64 a2_1]] w fun e w' => e = .returned (.int .i64 r) ∧ Below w.heap.size w w' := by
 have hu23 := Try.underlying23
 have hu26 := Try.underlying26
 have HR1 := pA hr1
 have HC1 := pA hc1
 clear hr1 hc1
 have HB := pA (Below.refl w.heap.size w)
 have H : ((bung_isWad.f a0_0 a0_1).bind fun t176 => (if t176 = true then ((bung_isList.f l1).bind fun t177 => (if t177 = true then ((bung_isSpot.f a2_0 a2_1).bind fun t178 => (if t178 = true then (some 0) else (some 33))) else (some 30))) else (some 32))) = some r := h
 clear h
 replace H := Option.bind_eq_some_iff.mp H
 obtain ⟨t176, A40, H⟩ := H
 replace H : (if t176 = true then ((bung_isList.f l1).bind fun t177 => (if t177 = true then ((bung_isSpot.f a2_0 a2_1).bind fun t178 => (if t178 = true then (some 0) else (some 33))) else (some 30))) else (some 32)) = some r := H
 have A4 := pA A40
 clear A40
 by_cases c5 : t176 = true
 ·subst c5
  have H1 : ((bung_isList.f l1).bind fun t177 => (if t177 = true then ((bung_isSpot.f a2_0 a2_1).bind fun t178 => (if t178 = true then (some 0) else (some 33))) else (some 30))) = some r := by rw [if_pos rfl] at H; exact H
  clear H
  have H := H1
  clear H1
  replace H := Option.bind_eq_some_iff.mp H
  obtain ⟨t177, A60, H⟩ := H
  replace H : (if t177 = true then ((bung_isSpot.f a2_0 a2_1).bind fun t178 => (if t178 = true then (some 0) else (some 33))) else (some 30)) = some r := H
  have A6 := pA A60
  clear A60
  by_cases c7 : t177 = true
  ·subst c7
   have H1 : ((bung_isSpot.f a2_0 a2_1).bind fun t178 => (if t178 = true then (some 0) else (some 33))) = some r := by rw [if_pos rfl] at H; exact H
   clear H
   have H := H1
   clear H1
   replace H := Option.bind_eq_some_iff.mp H
   obtain ⟨t178, A80, H⟩ := H
   replace H : (if t178 = true then (some 0) else (some 33)) = some r := H
   have A8 := pA A80
   clear A80
   by_cases c9 : t178 = true
   ·subst c9
    have H1 : (some 0) = some r := by rw [if_pos rfl] at H; exact H
    clear H
    have H := H1
    clear H1
    obtain rfl := Option.some.inj H
    go_enter Try.func76, Try.ntmps76
    go_wp2_with (first | ((with_reducible refine gate_dst (N := 3) rfl ?_); refine box_event ?hg (N := 3) ?hd (cs := #[.int .i64 a0_0, .int .i64 a0_1]) (t := 23) ?hr ?_; (case hd => rfl); (case hg => rfl); (case hr => first | (go_simp; done) | (go_simp; rfl)); intro gb174 hg w10 hbox hb; have n0_ := pA (below_step (vB HB) hb); have n1_ := pA (hbox); have n2_ := pA ((by rw [hg]; exact (below_size (vB HB)) : w.heap.size ≤ gb174)); have n3_ := pA ((by rw [hg]; exact (below_size (vB HB)) : w.heap.size ≤ gb174)); clear HB; have HB := n0_; have BK174 := n1_; have GW174 := n2_; have GE174 := n3_; clear n0_ n1_ n2_ n3_; clear hb hbox hg) | ((with_reducible refine gate_dst (N := 5) rfl ?_); refine box_event ?hg (N := 5) ?hd (cs := #[.int .i64 a2_0, .int .i64 a2_1]) (t := 26) ?hr ?_; (case hd => rfl); (case hg => rfl); (case hr => first | (go_simp; done) | (go_simp; rfl)); intro gb175 hg w11 hbox hb; have n0_ := pA (blk_below (g := gb174) (o := .cells #[.int .i64 a0_0, .int .i64 a0_1] 23 (0, 0)) (vK BK174) hb); have n1_ := pA (below_step (by repeat (first | (with_reducible first | exact HB.out | apply below_alloc | apply pw_below_drewN | apply below_drew1 | refine below_set ?_ GE174.out) | exact HB.out)) hb); have n2_ := pA (hbox); have n3_ := pA ((by rw [hg]; exact (below_size (by repeat (first | (with_reducible first | exact HB.out | apply below_alloc | apply pw_below_drewN | apply below_drew1 | refine below_set ?_ GE174.out) | exact HB.out))) : w.heap.size ≤ gb175)); have n4_ := pA ((by rw [hg]; exact (below_size (by repeat (first | (with_reducible first | exact HB.out | apply below_alloc | apply pw_below_drewN | apply below_drew1 | refine below_set ?_ GE174.out) | exact HB.out))) : w.heap.size ≤ gb175)); have n5_ := pA ((by rw [hg]; exact Nat.ne_of_lt (blk_lt (g := gb174) (o := .cells #[.int .i64 a0_0, .int .i64 a0_1] 23 (0, 0)) (vK BK174)) : gb174 ≠ gb175)); have n6_ := pA ((by rw [hg]; exact Nat.ne_of_gt (blk_lt (g := gb174) (o := .cells #[.int .i64 a0_0, .int .i64 a0_1] 23 (0, 0)) (vK BK174)) : gb175 ≠ gb174)); clear BK174; clear HB; have BK174 := n0_; have HB := n1_; have BK175 := n2_; have GW175 := n3_; have GE175 := n4_; have NB174_175 := n5_; have NB175_174 := n6_; clear n0_ n1_ n2_ n3_ n4_ n5_ n6_; clear hb hbox hg; have hnb12 := NB174_175.out; have hnc12 := NB175_174.out; have hcz13_0 : w11.cell? ⟨gb174, 0, none⟩ = some (.int .i64 a0_0) := (blk_cell BK174.out 0).trans rfl; have hcz13_1 : w11.cell? ⟨gb174, 1, none⟩ = some (.int .i64 a0_1) := (blk_cell BK174.out 1).trans rfl; have hfz13_0 := blk_frozen BK174.out 0; have hfz13_1 := blk_frozen BK174.out 1) | ((with_reducible refine aF (f := 110) rfl ?_); refine goesL_ (some 9) rfl rfl Try.func110 (by kernel_rfl) rfl #[.agg #[.int .i64 a0_0, .int .i64 a0_1]] rfl (by (try simp only [pE, pF, pG]); first | done | rfl | (simp only [pH, pI]; rfl)) ?_; (with_reducible refine (bung_isWad.calls a0_0 a0_1 true _ A4.out).mono ?_); rintro e w14 ⟨rfl, hb⟩; refine ⟨_, rfl, ?_⟩; have n0_ := pA (blk_below (g := gb174) (o := .cells #[.int .i64 a0_0, .int .i64 a0_1] 23 (0, 0)) (vK BK174) hb); have n1_ := pA (blk_below (g := gb175) (o := .cells #[.int .i64 a2_0, .int .i64 a2_1] 26 (0, 0)) (vK BK175) hb); have n2_ := pA (below_step (by repeat (first | (with_reducible first | exact HB.out | apply below_alloc | apply pw_below_drewN | apply below_drew1 | refine below_set ?_ GE174.out | refine below_set ?_ GE175.out) | exact HB.out)) hb); clear BK174; clear BK175; clear HB; have BK174 := n0_; have BK175 := n1_; have HB := n2_; clear n0_ n1_ n2_; (try clear hb); (try clear hb2); (try clear hk); (try clear hi)) | ((with_reducible refine aF (f := 94) rfl ?_); refine goesL_ (some 13) rfl rfl Try.func94 (by kernel_rfl) rfl #[.slice A1 l1.length c1] rfl (by (try simp only [pE, pF, pG]); first | done | rfl | (simp only [pH, pI]; rfl)) ?_; (with_reducible refine (bung_isList.calls _ _ l1 true _ ?side1 ?side2 A6.out).mono ?_); (case side1 => repeat (first | exact (Kd.C_below HR1.out HB.out) | (with_reducible refine Kd.C_alloc ?_ _) | (with_reducible refine Kd.C_drewN ?_ _) | (with_reducible refine Kd.C_drew ?_))); (case side2 => exact HC1.out); rintro e w15 ⟨rfl, hb⟩; refine ⟨_, rfl, ?_⟩; have n0_ := pA (blk_below (g := gb174) (o := .cells #[.int .i64 a0_0, .int .i64 a0_1] 23 (0, 0)) (vK BK174) hb); have n1_ := pA (blk_below (g := gb175) (o := .cells #[.int .i64 a2_0, .int .i64 a2_1] 26 (0, 0)) (vK BK175) hb); have n2_ := pA (below_step (by repeat (first | (with_reducible first | exact HB.out | apply below_alloc | apply pw_below_drewN | apply below_drew1 | refine below_set ?_ GE174.out | refine below_set ?_ GE175.out) | exact HB.out)) hb); clear BK174; clear BK175; clear HB; have BK174 := n0_; have BK175 := n1_; have HB := n2_; clear n0_ n1_ n2_; (try clear hb); (try clear hb2); (try clear hk); (try clear hi); have hcz16_0 : w15.cell? ⟨gb175, 0, none⟩ = some (.int .i64 a2_0) := (blk_cell BK175.out 0).trans rfl; have hcz16_1 : w15.cell? ⟨gb175, 1, none⟩ = some (.int .i64 a2_1) := (blk_cell BK175.out 1).trans rfl; have hfz16_0 := blk_frozen BK175.out 0; have hfz16_1 := blk_frozen BK175.out 1) | ((with_reducible refine aF (f := 85) rfl ?_); refine goesL_ (some 17) rfl rfl Try.func85 (by kernel_rfl) rfl #[.agg #[.int .i64 a2_0, .int .i64 a2_1]] rfl (by (try simp only [pE, pF, pG]); first | done | rfl | (simp only [pH, pI]; rfl)) ?_; (with_reducible refine (bung_isSpot.calls a2_0 a2_1 true _ A8.out).mono ?_); rintro e w17 ⟨rfl, hb⟩; refine ⟨_, rfl, ?_⟩; have n0_ := pA (blk_below (g := gb174) (o := .cells #[.int .i64 a0_0, .int .i64 a0_1] 23 (0, 0)) (vK BK174) hb); have n1_ := pA (blk_below (g := gb175) (o := .cells #[.int .i64 a2_0, .int .i64 a2_1] 26 (0, 0)) (vK BK175) hb); have n2_ := pA (below_step (by repeat (first | (with_reducible first | exact HB.out | apply below_alloc | apply pw_below_drewN | apply below_drew1 | refine below_set ?_ GE174.out | refine below_set ?_ GE175.out) | exact HB.out)) hb); clear BK174; clear BK175; clear HB; have BK174 := n0_; have BK175 := n1_; have HB := n2_; clear n0_ n1_ n2_; (try clear hb); (try clear hb2); (try clear hk); (try clear hi)))
    go_ret
    exact ⟨by first | rfl | (simp [errW_none, errW_some] <;> rfl) | (simp [*, errW_none, errW_some] <;> rfl), by repeat (first | (with_reducible first | exact HB.out | apply below_alloc | apply pw_below_drewN | apply below_drew1 | refine below_set ?_ GE174.out | refine below_set ?_ GE175.out) | exact HB.out)⟩
   ·replace c9 := Bool.eq_false_iff.mpr c9
    subst c9
    have H1 : (some 33) = some r := by rw [if_neg (show ¬ (false = true) by decide)] at H; exact H
    clear H
    have H := H1
    clear H1
    obtain rfl := Option.some.inj H
    go_enter Try.func76, Try.ntmps76
    go_wp2_with (first | ((with_reducible refine gate_dst (N := 3) rfl ?_); refine box_event ?hg (N := 3) ?hd (cs := #[.int .i64 a0_0, .int .i64 a0_1]) (t := 23) ?hr ?_; (case hd => rfl); (case hg => rfl); (case hr => first | (go_simp; done) | (go_simp; rfl)); intro gb174 hg w18 hbox hb; have n0_ := pA (below_step (vB HB) hb); have n1_ := pA (hbox); have n2_ := pA ((by rw [hg]; exact (below_size (vB HB)) : w.heap.size ≤ gb174)); have n3_ := pA ((by rw [hg]; exact (below_size (vB HB)) : w.heap.size ≤ gb174)); clear HB; have HB := n0_; have BK174 := n1_; have GW174 := n2_; have GE174 := n3_; clear n0_ n1_ n2_ n3_; clear hb hbox hg) | ((with_reducible refine gate_dst (N := 5) rfl ?_); refine box_event ?hg (N := 5) ?hd (cs := #[.int .i64 a2_0, .int .i64 a2_1]) (t := 26) ?hr ?_; (case hd => rfl); (case hg => rfl); (case hr => first | (go_simp; done) | (go_simp; rfl)); intro gb175 hg w19 hbox hb; have n0_ := pA (blk_below (g := gb174) (o := .cells #[.int .i64 a0_0, .int .i64 a0_1] 23 (0, 0)) (vK BK174) hb); have n1_ := pA (below_step (by repeat (first | (with_reducible first | exact HB.out | apply below_alloc | apply pw_below_drewN | apply below_drew1 | refine below_set ?_ GE174.out) | exact HB.out)) hb); have n2_ := pA (hbox); have n3_ := pA ((by rw [hg]; exact (below_size (by repeat (first | (with_reducible first | exact HB.out | apply below_alloc | apply pw_below_drewN | apply below_drew1 | refine below_set ?_ GE174.out) | exact HB.out))) : w.heap.size ≤ gb175)); have n4_ := pA ((by rw [hg]; exact (below_size (by repeat (first | (with_reducible first | exact HB.out | apply below_alloc | apply pw_below_drewN | apply below_drew1 | refine below_set ?_ GE174.out) | exact HB.out))) : w.heap.size ≤ gb175)); have n5_ := pA ((by rw [hg]; exact Nat.ne_of_lt (blk_lt (g := gb174) (o := .cells #[.int .i64 a0_0, .int .i64 a0_1] 23 (0, 0)) (vK BK174)) : gb174 ≠ gb175)); have n6_ := pA ((by rw [hg]; exact Nat.ne_of_gt (blk_lt (g := gb174) (o := .cells #[.int .i64 a0_0, .int .i64 a0_1] 23 (0, 0)) (vK BK174)) : gb175 ≠ gb174)); clear BK174; clear HB; have BK174 := n0_; have HB := n1_; have BK175 := n2_; have GW175 := n3_; have GE175 := n4_; have NB174_175 := n5_; have NB175_174 := n6_; clear n0_ n1_ n2_ n3_ n4_ n5_ n6_; clear hb hbox hg; have hnb20 := NB174_175.out; have hnc20 := NB175_174.out; have hcz21_0 : w19.cell? ⟨gb174, 0, none⟩ = some (.int .i64 a0_0) := (blk_cell BK174.out 0).trans rfl; have hcz21_1 : w19.cell? ⟨gb174, 1, none⟩ = some (.int .i64 a0_1) := (blk_cell BK174.out 1).trans rfl; have hfz21_0 := blk_frozen BK174.out 0; have hfz21_1 := blk_frozen BK174.out 1) | ((with_reducible refine aF (f := 110) rfl ?_); refine goesL_ (some 9) rfl rfl Try.func110 (by kernel_rfl) rfl #[.agg #[.int .i64 a0_0, .int .i64 a0_1]] rfl (by (try simp only [pE, pF, pG]); first | done | rfl | (simp only [pH, pI]; rfl)) ?_; (with_reducible refine (bung_isWad.calls a0_0 a0_1 true _ A4.out).mono ?_); rintro e w22 ⟨rfl, hb⟩; refine ⟨_, rfl, ?_⟩; have n0_ := pA (blk_below (g := gb174) (o := .cells #[.int .i64 a0_0, .int .i64 a0_1] 23 (0, 0)) (vK BK174) hb); have n1_ := pA (blk_below (g := gb175) (o := .cells #[.int .i64 a2_0, .int .i64 a2_1] 26 (0, 0)) (vK BK175) hb); have n2_ := pA (below_step (by repeat (first | (with_reducible first | exact HB.out | apply below_alloc | apply pw_below_drewN | apply below_drew1 | refine below_set ?_ GE174.out | refine below_set ?_ GE175.out) | exact HB.out)) hb); clear BK174; clear BK175; clear HB; have BK174 := n0_; have BK175 := n1_; have HB := n2_; clear n0_ n1_ n2_; (try clear hb); (try clear hb2); (try clear hk); (try clear hi)) | ((with_reducible refine aF (f := 94) rfl ?_); refine goesL_ (some 13) rfl rfl Try.func94 (by kernel_rfl) rfl #[.slice A1 l1.length c1] rfl (by (try simp only [pE, pF, pG]); first | done | rfl | (simp only [pH, pI]; rfl)) ?_; (with_reducible refine (bung_isList.calls _ _ l1 true _ ?side1 ?side2 A6.out).mono ?_); (case side1 => repeat (first | exact (Kd.C_below HR1.out HB.out) | (with_reducible refine Kd.C_alloc ?_ _) | (with_reducible refine Kd.C_drewN ?_ _) | (with_reducible refine Kd.C_drew ?_))); (case side2 => exact HC1.out); rintro e w23 ⟨rfl, hb⟩; refine ⟨_, rfl, ?_⟩; have n0_ := pA (blk_below (g := gb174) (o := .cells #[.int .i64 a0_0, .int .i64 a0_1] 23 (0, 0)) (vK BK174) hb); have n1_ := pA (blk_below (g := gb175) (o := .cells #[.int .i64 a2_0, .int .i64 a2_1] 26 (0, 0)) (vK BK175) hb); have n2_ := pA (below_step (by repeat (first | (with_reducible first | exact HB.out | apply below_alloc | apply pw_below_drewN | apply below_drew1 | refine below_set ?_ GE174.out | refine below_set ?_ GE175.out) | exact HB.out)) hb); clear BK174; clear BK175; clear HB; have BK174 := n0_; have BK175 := n1_; have HB := n2_; clear n0_ n1_ n2_; (try clear hb); (try clear hb2); (try clear hk); (try clear hi); have hcz24_0 : w23.cell? ⟨gb175, 0, none⟩ = some (.int .i64 a2_0) := (blk_cell BK175.out 0).trans rfl; have hcz24_1 : w23.cell? ⟨gb175, 1, none⟩ = some (.int .i64 a2_1) := (blk_cell BK175.out 1).trans rfl; have hfz24_0 := blk_frozen BK175.out 0; have hfz24_1 := blk_frozen BK175.out 1) | ((with_reducible refine aF (f := 85) rfl ?_); refine goesL_ (some 17) rfl rfl Try.func85 (by kernel_rfl) rfl #[.agg #[.int .i64 a2_0, .int .i64 a2_1]] rfl (by (try simp only [pE, pF, pG]); first | done | rfl | (simp only [pH, pI]; rfl)) ?_; (with_reducible refine (bung_isSpot.calls a2_0 a2_1 false _ A8.out).mono ?_); rintro e w25 ⟨rfl, hb⟩; refine ⟨_, rfl, ?_⟩; have n0_ := pA (blk_below (g := gb174) (o := .cells #[.int .i64 a0_0, .int .i64 a0_1] 23 (0, 0)) (vK BK174) hb); have n1_ := pA (blk_below (g := gb175) (o := .cells #[.int .i64 a2_0, .int .i64 a2_1] 26 (0, 0)) (vK BK175) hb); have n2_ := pA (below_step (by repeat (first | (with_reducible first | exact HB.out | apply below_alloc | apply pw_below_drewN | apply below_drew1 | refine below_set ?_ GE174.out | refine below_set ?_ GE175.out) | exact HB.out)) hb); clear BK174; clear BK175; clear HB; have BK174 := n0_; have BK175 := n1_; have HB := n2_; clear n0_ n1_ n2_; (try clear hb); (try clear hb2); (try clear hk); (try clear hi)))
    go_ret
    exact ⟨by first | rfl | (simp [errW_none, errW_some] <;> rfl) | (simp [*, errW_none, errW_some] <;> rfl), by repeat (first | (with_reducible first | exact HB.out | apply below_alloc | apply pw_below_drewN | apply below_drew1 | refine below_set ?_ GE174.out | refine below_set ?_ GE175.out) | exact HB.out)⟩
  ·replace c7 := Bool.eq_false_iff.mpr c7
   subst c7
   have H1 : (some 30) = some r := by rw [if_neg (show ¬ (false = true) by decide)] at H; exact H
   clear H
   have H := H1
   clear H1
   obtain rfl := Option.some.inj H
   go_enter Try.func76, Try.ntmps76
   go_wp2_with (first | ((with_reducible refine gate_dst (N := 3) rfl ?_); refine box_event ?hg (N := 3) ?hd (cs := #[.int .i64 a0_0, .int .i64 a0_1]) (t := 23) ?hr ?_; (case hd => rfl); (case hg => rfl); (case hr => first | (go_simp; done) | (go_simp; rfl)); intro gb174 hg w26 hbox hb; have n0_ := pA (below_step (vB HB) hb); have n1_ := pA (hbox); have n2_ := pA ((by rw [hg]; exact (below_size (vB HB)) : w.heap.size ≤ gb174)); have n3_ := pA ((by rw [hg]; exact (below_size (vB HB)) : w.heap.size ≤ gb174)); clear HB; have HB := n0_; have BK174 := n1_; have GW174 := n2_; have GE174 := n3_; clear n0_ n1_ n2_ n3_; clear hb hbox hg) | ((with_reducible refine gate_dst (N := 5) rfl ?_); refine box_event ?hg (N := 5) ?hd (cs := #[.int .i64 a2_0, .int .i64 a2_1]) (t := 26) ?hr ?_; (case hd => rfl); (case hg => rfl); (case hr => first | (go_simp; done) | (go_simp; rfl)); intro gb175 hg w27 hbox hb; have n0_ := pA (blk_below (g := gb174) (o := .cells #[.int .i64 a0_0, .int .i64 a0_1] 23 (0, 0)) (vK BK174) hb); have n1_ := pA (below_step (by repeat (first | (with_reducible first | exact HB.out | apply below_alloc | apply pw_below_drewN | apply below_drew1 | refine below_set ?_ GE174.out) | exact HB.out)) hb); have n2_ := pA (hbox); have n3_ := pA ((by rw [hg]; exact (below_size (by repeat (first | (with_reducible first | exact HB.out | apply below_alloc | apply pw_below_drewN | apply below_drew1 | refine below_set ?_ GE174.out) | exact HB.out))) : w.heap.size ≤ gb175)); have n4_ := pA ((by rw [hg]; exact (below_size (by repeat (first | (with_reducible first | exact HB.out | apply below_alloc | apply pw_below_drewN | apply below_drew1 | refine below_set ?_ GE174.out) | exact HB.out))) : w.heap.size ≤ gb175)); have n5_ := pA ((by rw [hg]; exact Nat.ne_of_lt (blk_lt (g := gb174) (o := .cells #[.int .i64 a0_0, .int .i64 a0_1] 23 (0, 0)) (vK BK174)) : gb174 ≠ gb175)); have n6_ := pA ((by rw [hg]; exact Nat.ne_of_gt (blk_lt (g := gb174) (o := .cells #[.int .i64 a0_0, .int .i64 a0_1] 23 (0, 0)) (vK BK174)) : gb175 ≠ gb174)); clear BK174; clear HB; have BK174 := n0_; have HB := n1_; have BK175 := n2_; have GW175 := n3_; have GE175 := n4_; have NB174_175 := n5_; have NB175_174 := n6_; clear n0_ n1_ n2_ n3_ n4_ n5_ n6_; clear hb hbox hg; have hnb28 := NB174_175.out; have hnc28 := NB175_174.out; have hcz29_0 : w27.cell? ⟨gb174, 0, none⟩ = some (.int .i64 a0_0) := (blk_cell BK174.out 0).trans rfl; have hcz29_1 : w27.cell? ⟨gb174, 1, none⟩ = some (.int .i64 a0_1) := (blk_cell BK174.out 1).trans rfl; have hfz29_0 := blk_frozen BK174.out 0; have hfz29_1 := blk_frozen BK174.out 1) | ((with_reducible refine aF (f := 110) rfl ?_); refine goesL_ (some 9) rfl rfl Try.func110 (by kernel_rfl) rfl #[.agg #[.int .i64 a0_0, .int .i64 a0_1]] rfl (by (try simp only [pE, pF, pG]); first | done | rfl | (simp only [pH, pI]; rfl)) ?_; (with_reducible refine (bung_isWad.calls a0_0 a0_1 true _ A4.out).mono ?_); rintro e w30 ⟨rfl, hb⟩; refine ⟨_, rfl, ?_⟩; have n0_ := pA (blk_below (g := gb174) (o := .cells #[.int .i64 a0_0, .int .i64 a0_1] 23 (0, 0)) (vK BK174) hb); have n1_ := pA (blk_below (g := gb175) (o := .cells #[.int .i64 a2_0, .int .i64 a2_1] 26 (0, 0)) (vK BK175) hb); have n2_ := pA (below_step (by repeat (first | (with_reducible first | exact HB.out | apply below_alloc | apply pw_below_drewN | apply below_drew1 | refine below_set ?_ GE174.out | refine below_set ?_ GE175.out) | exact HB.out)) hb); clear BK174; clear BK175; clear HB; have BK174 := n0_; have BK175 := n1_; have HB := n2_; clear n0_ n1_ n2_; (try clear hb); (try clear hb2); (try clear hk); (try clear hi)) | ((with_reducible refine aF (f := 94) rfl ?_); refine goesL_ (some 13) rfl rfl Try.func94 (by kernel_rfl) rfl #[.slice A1 l1.length c1] rfl (by (try simp only [pE, pF, pG]); first | done | rfl | (simp only [pH, pI]; rfl)) ?_; (with_reducible refine (bung_isList.calls _ _ l1 false _ ?side1 ?side2 A6.out).mono ?_); (case side1 => repeat (first | exact (Kd.C_below HR1.out HB.out) | (with_reducible refine Kd.C_alloc ?_ _) | (with_reducible refine Kd.C_drewN ?_ _) | (with_reducible refine Kd.C_drew ?_))); (case side2 => exact HC1.out); rintro e w31 ⟨rfl, hb⟩; refine ⟨_, rfl, ?_⟩; have n0_ := pA (blk_below (g := gb174) (o := .cells #[.int .i64 a0_0, .int .i64 a0_1] 23 (0, 0)) (vK BK174) hb); have n1_ := pA (blk_below (g := gb175) (o := .cells #[.int .i64 a2_0, .int .i64 a2_1] 26 (0, 0)) (vK BK175) hb); have n2_ := pA (below_step (by repeat (first | (with_reducible first | exact HB.out | apply below_alloc | apply pw_below_drewN | apply below_drew1 | refine below_set ?_ GE174.out | refine below_set ?_ GE175.out) | exact HB.out)) hb); clear BK174; clear BK175; clear HB; have BK174 := n0_; have BK175 := n1_; have HB := n2_; clear n0_ n1_ n2_; (try clear hb); (try clear hb2); (try clear hk); (try clear hi)))
   go_ret
   exact ⟨by first | rfl | (simp [errW_none, errW_some] <;> rfl) | (simp [*, errW_none, errW_some] <;> rfl), by repeat (first | (with_reducible first | exact HB.out | apply below_alloc | apply pw_below_drewN | apply below_drew1 | refine below_set ?_ GE174.out | refine below_set ?_ GE175.out) | exact HB.out)⟩
 ·replace c5 := Bool.eq_false_iff.mpr c5
  subst c5
  have H1 : (some 32) = some r := by rw [if_neg (show ¬ (false = true) by decide)] at H; exact H
  clear H
  have H := H1
  clear H1
  obtain rfl := Option.some.inj H
  go_enter Try.func76, Try.ntmps76
  go_wp2_with (first | ((with_reducible refine gate_dst (N := 3) rfl ?_); refine box_event ?hg (N := 3) ?hd (cs := #[.int .i64 a0_0, .int .i64 a0_1]) (t := 23) ?hr ?_; (case hd => rfl); (case hg => rfl); (case hr => first | (go_simp; done) | (go_simp; rfl)); intro gb174 hg w32 hbox hb; have n0_ := pA (below_step (vB HB) hb); have n1_ := pA (hbox); have n2_ := pA ((by rw [hg]; exact (below_size (vB HB)) : w.heap.size ≤ gb174)); have n3_ := pA ((by rw [hg]; exact (below_size (vB HB)) : w.heap.size ≤ gb174)); clear HB; have HB := n0_; have BK174 := n1_; have GW174 := n2_; have GE174 := n3_; clear n0_ n1_ n2_ n3_; clear hb hbox hg) | ((with_reducible refine gate_dst (N := 5) rfl ?_); refine box_event ?hg (N := 5) ?hd (cs := #[.int .i64 a2_0, .int .i64 a2_1]) (t := 26) ?hr ?_; (case hd => rfl); (case hg => rfl); (case hr => first | (go_simp; done) | (go_simp; rfl)); intro gb175 hg w33 hbox hb; have n0_ := pA (blk_below (g := gb174) (o := .cells #[.int .i64 a0_0, .int .i64 a0_1] 23 (0, 0)) (vK BK174) hb); have n1_ := pA (below_step (by repeat (first | (with_reducible first | exact HB.out | apply below_alloc | apply pw_below_drewN | apply below_drew1 | refine below_set ?_ GE174.out) | exact HB.out)) hb); have n2_ := pA (hbox); have n3_ := pA ((by rw [hg]; exact (below_size (by repeat (first | (with_reducible first | exact HB.out | apply below_alloc | apply pw_below_drewN | apply below_drew1 | refine below_set ?_ GE174.out) | exact HB.out))) : w.heap.size ≤ gb175)); have n4_ := pA ((by rw [hg]; exact (below_size (by repeat (first | (with_reducible first | exact HB.out | apply below_alloc | apply pw_below_drewN | apply below_drew1 | refine below_set ?_ GE174.out) | exact HB.out))) : w.heap.size ≤ gb175)); have n5_ := pA ((by rw [hg]; exact Nat.ne_of_lt (blk_lt (g := gb174) (o := .cells #[.int .i64 a0_0, .int .i64 a0_1] 23 (0, 0)) (vK BK174)) : gb174 ≠ gb175)); have n6_ := pA ((by rw [hg]; exact Nat.ne_of_gt (blk_lt (g := gb174) (o := .cells #[.int .i64 a0_0, .int .i64 a0_1] 23 (0, 0)) (vK BK174)) : gb175 ≠ gb174)); clear BK174; clear HB; have BK174 := n0_; have HB := n1_; have BK175 := n2_; have GW175 := n3_; have GE175 := n4_; have NB174_175 := n5_; have NB175_174 := n6_; clear n0_ n1_ n2_ n3_ n4_ n5_ n6_; clear hb hbox hg; have hnb34 := NB174_175.out; have hnc34 := NB175_174.out; have hcz35_0 : w33.cell? ⟨gb174, 0, none⟩ = some (.int .i64 a0_0) := (blk_cell BK174.out 0).trans rfl; have hcz35_1 : w33.cell? ⟨gb174, 1, none⟩ = some (.int .i64 a0_1) := (blk_cell BK174.out 1).trans rfl; have hfz35_0 := blk_frozen BK174.out 0; have hfz35_1 := blk_frozen BK174.out 1) | ((with_reducible refine aF (f := 110) rfl ?_); refine goesL_ (some 9) rfl rfl Try.func110 (by kernel_rfl) rfl #[.agg #[.int .i64 a0_0, .int .i64 a0_1]] rfl (by (try simp only [pE, pF, pG]); first | done | rfl | (simp only [pH, pI]; rfl)) ?_; (with_reducible refine (bung_isWad.calls a0_0 a0_1 false _ A4.out).mono ?_); rintro e w36 ⟨rfl, hb⟩; refine ⟨_, rfl, ?_⟩; have n0_ := pA (blk_below (g := gb174) (o := .cells #[.int .i64 a0_0, .int .i64 a0_1] 23 (0, 0)) (vK BK174) hb); have n1_ := pA (blk_below (g := gb175) (o := .cells #[.int .i64 a2_0, .int .i64 a2_1] 26 (0, 0)) (vK BK175) hb); have n2_ := pA (below_step (by repeat (first | (with_reducible first | exact HB.out | apply below_alloc | apply pw_below_drewN | apply below_drew1 | refine below_set ?_ GE174.out | refine below_set ?_ GE175.out) | exact HB.out)) hb); clear BK174; clear BK175; clear HB; have BK174 := n0_; have BK175 := n1_; have HB := n2_; clear n0_ n1_ n2_; (try clear hb); (try clear hb2); (try clear hk); (try clear hi)))
  go_ret
  exact ⟨by first | rfl | (simp [errW_none, errW_some] <;> rfl) | (simp [*, errW_none, errW_some] <;> rfl), by repeat (first | (with_reducible first | exact HB.out | apply below_alloc | apply pw_below_drewN | apply below_drew1 | refine below_set ?_ GE174.out | refine below_set ?_ GE175.out) | exact HB.out)⟩
/-- Does a bung of some saggars fit a spot surely? -/
def doOf (w : S23) (l : List S52) (crown lean : Int) (xs : List Int) : Bool := fitsOf w (pick l (sortR l xs)) crown lean == 1
theorem pk_sixth {A B C D E F : Prop} (h : A ∧ B ∧ C ∧ D ∧ E ∧ F) : F := h.2.2.2.2.2
theorem pk_keep6 {W w1 w2 : World} {p1 p2 p3 p4 p5 : Addr} {v1 v2 v3 v4 v5 : Value} (h : w1.cell? p1 = some v1 ∧ w1.cell? p2 = some v2 ∧ w1.cell? p3 = some v3 ∧ w1.cell? p4 = some v4 ∧ w1.cell? p5 = some v5 ∧ Below W.heap.size W w1) (g : Below w1.heap.size w1 w2) :
    w2.cell? p1 = some v1 ∧ w2.cell? p2 = some v2 ∧ w2.cell? p3 = some v3 ∧ w2.cell? p4 = some v4 ∧ w2.cell? p5 = some v5 ∧ Below W.heap.size W w2 := ⟨pw_cell_below g h.1, pw_cell_below g h.2.1, pw_cell_below g h.2.2.1, pw_cell_below g h.2.2.2.1, pw_cell_below g h.2.2.2.2.1, below_step h.2.2.2.2.2 g⟩
set_option maxHeartbeats 4000000 in
set_option maxRecDepth 100000 in
theorem bung_do_calls (lo hi : Int) (A1 : Option Addr) (c1 : Nat) (l : List S52) (cr le : Int) (m : Option Nat) (A2 : Option Addr) (c2 : Nat) (xs : List Int) (w : World) (hr1 : Kd.C k52 w A1 l.length l) (hc1 : l.length ≤ c1) (hr2 : Kd.C (Kd.int .i64) w A2 xs.length xs) (hc2 : xs.length ≤ c2)
  (hw : vWad lo hi = true) (hl : okList l = true) (hx : inIx l.length xs = true) (hp : 0 < xs.length) (h30 : xs.length ≤ 30) :
  Calls Try.prog 107 #[.agg #[.int .i64 lo, .int .i64 hi, .slice A1 l.length c1, .int .i64 cr, .int .i64 le, .map m], .slice A2 xs.length c2] w fun e w' => e = .returned (.bool (doOf ⟨lo, hi⟩ l cr le xs)) ∧ Below w.heap.size w w' := by
 have hsx := inIx_perm (sortR_perm l xs) hx
 have hsl : (sortR l xs).length ≤ 30 := by rw [(sortR_perm l xs).length_eq]; exact h30
 have hsp : 0 < (sortR l xs).length := by rw [(sortR_perm l xs).length_eq]; exact hp
 have HF := pA (fits_eq ⟨lo, hi⟩ hw (pick l (sortR l xs)) (pick_ok hl hsx hsl) (by simpa [pick] using hsp) cr le 1200 (Nat.le_refl _))
 have HRu := pA (show bung_rule.f l xs = some (sortR l xs) by unfold bung_rule.f; rw [if_pos (by simp [hl, hx, h30])])
 have HS := pA (stacked_eq l (sortR l xs) hsx (by omega))
 have HR1 := pA hr1
 have HR2 := pA hr2
 clear hr1 hr2 hw hl hx hp h30 hsx hsl hsp
 go_enter Try.func107, Try.ntmps107
 have HX := pA (heap_alloc_new w (.cells #[.int .i64 lo, .int .i64 hi, .slice A1 l.length c1, .int .i64 cr, .int .i64 le, .map m] 114 (0, 0)))
 go_wp2
 go_region_held3 (fun w' => w'.cell? ⟨w.heap.size, 0, none⟩ = some (.int .i64 lo) ∧ w'.cell? ⟨w.heap.size, 1, none⟩ = some (.int .i64 hi) ∧ w'.cell? ⟨w.heap.size, 2, none⟩ = some (.slice A1 l.length c1) ∧ w'.cell? ⟨w.heap.size, 3, none⟩ = some (.int .i64 cr) ∧ w'.cell? ⟨w.heap.size, 4, none⟩ = some (.int .i64 le) ∧ Below w.heap.size w w')
  (first
   | exact pk_keep6 (by assumption) (by assumption)
   | exact ⟨blk_cell HX.out 0, blk_cell HX.out 1, blk_cell HX.out 2, blk_cell HX.out 3, blk_cell HX.out 4, below_drew (below_alloc (Below.refl _ _) _)⟩
   | go_keep)
  (first
   | (go_at_call 95; refine (bung_rule.calls A1 c1 l A2 c2 xs _ _ (Kd.C_below HR1.out (pk_sixth (by assumption))) hc1 (Kd.C_below HR2.out (pk_sixth (by assumption))) hc2 HRu.out).mono ?_; rintro e w1 ⟨v1, rfl, ho, hb⟩; obtain ⟨A3, c3, rfl, hc3, HR3⟩ := Kd.R_reads ho; clear ho)
   | (go_at_call 112; refine (bung_stacked.calls _ A1 c1 l _ _ (sortR l xs) _ _ (Kd.C_below HR1.out (pk_sixth (by assumption))) hc1 (by assumption) (by assumption) HS.out).mono ?_; rintro e w2 ⟨v2, rfl, ho, hb⟩; obtain ⟨A4, c4, rfl, hc4, HR4⟩ := Kd.R_reads ho; clear ho)
   | (go_at_call 86; refine (bung_fits.calls 1200 lo hi _ _ (pick l (sortR l xs)) cr le _ _ (by assumption) (by assumption) HF.out).mono ?_; rintro e w3 ⟨rfl, hb⟩))
 go_wp2
 go_ret
 exact ⟨rfl, pk_sixth (by assumption)⟩
end Go.Proofs.Ytbiakjgjedhjhaa.P
namespace Go.Proofs.Ytbiakjgjedhjhaa.P
open Go.RowKit Go.Proofs.YtbiakjgjedhjhaaW.PrintWords Go.Proofs.YtbiakjgjedhjhaaW.PrintLast
open Go.WideMaps
theorem sorted_ext : ∀ {xs ys : List Int}, xs.Pairwise (· < ·) → ys.Pairwise (· < ·) → (∀ z, z ∈ xs ↔ z ∈ ys) → xs = ys
 | [], [], _, _, _ => rfl
 | [], y :: ys, _, _, h => absurd ((h y).2 List.mem_cons_self) List.not_mem_nil
 | x :: xs, [], _, _, h => absurd ((h x).1 List.mem_cons_self) List.not_mem_nil
 | x :: xs, y :: ys, h1, h2, h => by
  obtain ⟨a1, a2⟩ := List.pairwise_cons.1 h1
  obtain ⟨b1, b2⟩ := List.pairwise_cons.1 h2
  have e : x = y := by
   rcases List.mem_cons.1 ((h x).1 List.mem_cons_self) with e | e
   ·exact e
   ·rcases List.mem_cons.1 ((h y).2 List.mem_cons_self) with e' | e'
    ·exact e'.symm
    ·have := b1 _ e; have := a1 _ e'; omega
  subst e
  rw [sorted_ext a2 b2 (fun z => ⟨fun hz => ?_, fun hz => ?_⟩)]
  ·rcases List.mem_cons.1 ((h z).1 (List.mem_cons_of_mem _ hz)) with e | e
   ·have := a1 _ hz; omega
   ·exact e
  ·rcases List.mem_cons.1 ((h z).2 (List.mem_cons_of_mem _ hz)) with e | e
   ·have := b1 _ hz; omega
   ·exact e
theorem nine_arr : ArrKey Try.prog 167 4 9 := ⟨Try.underlying167, by kernel_rfl, by kernel_rfl, by kernel_rfl⟩
theorem nine_keyed : Maps.Keyed Try.prog 167 := Maps.Keyed.of_law nine_arr.law
def keyLit (bs : List Bool) : Lit := .string (keyBytes (bs.map Lit.bool))
theorem nine {bs : List Bool} (h : bs.length = 9) : ∃ b0 b1 b2 b3 b4 b5 b6 b7 b8, bs = [b0, b1, b2, b3, b4, b5, b6, b7, b8] := by
  match bs, h with
  | [b0, b1, b2, b3, b4, b5, b6, b7, b8], _ => exact ⟨_, _, _, _, _, _, _, _, _, rfl⟩
theorem nine_size : ∃ m, (Try.prog).types.size = m + 1 := ⟨(Try.prog).types.size - 1, by kernel_rfl⟩
theorem nine_bit (k : Nat) (c : Bool) : (Try.prog).keyLits (k + 1) 4 [.bool c] = some [.bool c] := by
  unfold Program.keyLits
  simp only [Try.underlying4]
set_option maxRecDepth 100000 in
theorem keyOf_nine {bs : List Bool} (h : bs.length = 9) : keyOf Try.prog 167 (.agg (bs.map Value.bool).toArray) = some (keyLit bs) := by
 obtain ⟨b0, b1, b2, b3, b4, b5, b6, b7, b8, rfl⟩ := nine h
 have A := nine_arr
 have hkt := A.keyType nine_size
 obtain ⟨m, hm⟩ := nine_size
 unfold keyOf
 simp only [A.hu]
 rw [if_pos (by simp [hkt, Value.formed, A.hu, A.size]), hm]
 unfold Program.keyLits
 simp only [A.hu, Value.cells]
 rw [if_pos (by rw [A.size]; rfl), show List.range 9 = [0, 1, 2, 3, 4, 5, 6, 7, 8] from rfl]
 simp only [List.mapM_cons, List.mapM_nil]
 simp [A.one, nine_bit, keyLit]
theorem keyLit_inj {bs cs : List Bool} (h : bs.length = 9) (h' : cs.length = 9) (e : keyLit bs = keyLit cs) : bs = cs := by
 have h1 := keyOf_nine h
 rw [e] at h1
 have h2 := nine_keyed.inj h1 (keyOf_nine h')
 have h3 : bs.map Value.bool = cs.map Value.bool := congrArg Array.toList (Value.agg.inj h2)
 exact (List.map_inj_right (fun a b h => by injection h)).1 h3
/-- The key of some saggars. -/
def bitsOf (xs : List Int) : List Bool := (List.range 9).map fun (i : Nat) => decide ((i : Int) ∈ xs)
theorem bitsOf_len (xs : List Int) : (bitsOf xs).length = 9 := by simp [bitsOf]
theorem bitsOf_snoc (xs : List Int) (x : Int) (h0 : 0 ≤ x) : bitsOf (xs ++ [x]) = (bitsOf xs).set x.toNat true := by
 refine List.ext_getElem (by simp [bitsOf]) fun i h1 h2 => ?_
 have hi : i < 9 := by simpa [bitsOf] using h1
 rw [List.getElem_set]
 simp only [bitsOf, List.getElem_map, List.getElem_range, List.mem_append, List.mem_singleton]
 by_cases e : x.toNat = i
 ·rw [if_pos e]; simp; right; omega
 ·rw [if_neg e]
  refine decide_eq_decide.2 ⟨fun h => h.resolve_right (by omega), Or.inl⟩
theorem bitsOf_inj {xs ys : List Int} (h1 : xs.Pairwise (· < ·)) (h2 : ys.Pairwise (· < ·)) (hx : inIx 9 xs = true) (hy : inIx 9 ys = true) (e : bitsOf xs = bitsOf ys) : xs = ys := by
 simp only [inIx, List.all_eq_true, decide_eq_true_eq] at hx hy
 have key : ∀ z : Int, 0 ≤ z → z < 9 → (z ∈ xs ↔ z ∈ ys) := fun z h0 h9 => by
  have := congrArg (fun l => l[z.toNat]?) e
  simp only [bitsOf, List.getElem?_map, List.getElem?_range (show z.toNat < 9 by omega), Option.map_some, Option.some.injEq] at this
  rw [show ((z.toNat : Nat) : Int) = z by omega] at this
  exact decide_eq_decide.1 this
 refine sorted_ext h1 h2 fun z => ⟨fun h => (key z (hx z h).1 (by have := (hx z h).2; omega)).1 h, fun h => (key z (hy z h).1 (by have := (hy z h).2; omega)).2 h⟩
/-- Lists that may be tried. -/
def okTry (n : Nat) (xs : List Int) : Prop := xs.Pairwise (· < ·) ∧ inIx n xs = true ∧ 0 < xs.length
/-- What has been tried is so. -/
def Tried (n : Nat) (d : List Int → Bool) (f : Lit → Option Bool) : Prop := ∀ xs, okTry n xs → ∀ x, f (keyLit (bitsOf xs)) = some x → x = d xs
theorem Tried.none_ (n : Nat) (d : List Int → Bool) : Tried n d (fun _ => none) := fun _ _ _ h => by cases h
theorem inIx_le {n m : Nat} {xs : List Int} (h : inIx n xs = true) (hn : n ≤ m) : inIx m xs = true := by
  simp only [inIx, List.all_eq_true, decide_eq_true_eq] at h ⊢
  exact fun i hi => ⟨(h i hi).1, by have := (h i hi).2; omega⟩
theorem Tried.step {n : Nat} {d : List Int → Bool} {f f' : Lit → Option Bool} {xs : List Int} (h : Tried n d f) (hn : n ≤ 9) (hx : okTry n xs) (h1 : f' (keyLit (bitsOf xs)) = some (d xs)) (h2 : ∀ z, z ≠ keyLit (bitsOf xs) → f' z = f z) : Tried n d f' := by
 intro ys hy x hf
 by_cases e : keyLit (bitsOf ys) = keyLit (bitsOf xs)
 ·have e2 := bitsOf_inj hy.1 hx.1 (inIx_le hy.2.1 hn) (inIx_le hx.2.1 hn) (keyLit_inj (bitsOf_len _) (bitsOf_len _) e)
  rw [e, h1] at hf
  rw [e2]
  exact (Option.some.inj hf).symm
 ·exact h ys hy x (by rw [← h2 _ e]; exact hf)
theorem okTry.len {n : Nat} {xs : List Int} (h : okTry n xs) : xs.length ≤ n := nodup_le (h.1.imp (fun {a b} (h : a < b) => Int.ne_of_lt h)) h.2.1
theorem nine_blk {bs : List Bool} (h : bs.length = 9) (i : Nat) (b : Bool) : ((bs.map Value.bool).toArray).setIfInBounds i (.bool b) = ((bs.set i b).map Value.bool).toArray := by
  rw [List.setIfInBounds_toArray, List.map_set]
theorem nine_lit {w : World} {g : Nat} {bs : List Bool} {t : Nat} (h : w.heap[g]? = some (.cells (bs.map Value.bool).toArray t (0, 0))) {b0 b1 b2 b3 b4 b5 b6 b7 b8 : Bool} (e : bs = [b0, b1, b2, b3, b4, b5, b6, b7, b8]) :
  w.heap[g]? = some (.cells #[.bool b0, .bool b1, .bool b2, .bool b3, .bool b4, .bool b5, .bool b6, .bool b7, .bool b8] t (0, 0)) := by
 subst e
 exact h
theorem nine_cell {w : World} {g : Nat} {bs : List Bool} {t : Nat} (h : w.heap[g]? = some (.cells (bs.map Value.bool).toArray t (0, 0))) (hl : bs.length = 9) (x : Int) (h0 : 0 ≤ x) (h1 : x < 9) : w.cell? ⟨g, x.toNat, none⟩ = some (.bool (bs.getD x.toNat false)) := by
 rw [blk_cell h x.toNat]
 have : x.toNat < bs.length := by omega
 simp [this]
theorem grown_trans_ {w w1 w2 : World} {row : Option Nat} (h : w.grownBy w1 row) (k : w1.grownBy w2 row) : w.grownBy w2 row :=
  ⟨k.os.trans h.os, k.tape.trans h.tape, k.output.trans h.output, Nat.le_trans h.size k.size, fun i hi hne => (k.block i (Nat.lt_of_lt_of_le hi h.size) hne).trans (h.block i hi hne)⟩
set_option maxHeartbeats 4000000 in
set_option maxRecDepth 100000 in
theorem bung_known_calls (lo hi : Int) (A1 : Option Addr) (c1 : Nat) (l : List S52) (cr le : Int) (b N s : Nat) (f : Lit → Option Bool) (A2 : Option Addr) (c2 : Nat) (xs : List Int) (w : World) (hr1 : Kd.C k52 w A1 l.length l) (hc1 : l.length ≤ c1) (hr2 : Kd.C (Kd.int .i64) w A2 xs.length xs) (hc2 : xs.length ≤ c2)
  (hw : vWad lo hi = true) (hl : okList l = true) (h9 : l.length ≤ 9) (hx : okTry l.length xs) (hM : BoolMaps.IsB Try.prog 167 4 w b N s f) (hN : N < maxLen) (hT : Tried l.length (doOf ⟨lo, hi⟩ l cr le) f) :
  Calls Try.prog 126 #[.agg #[.int .i64 lo, .int .i64 hi, .slice A1 l.length c1, .int .i64 cr, .int .i64 le, .map (some b)], .slice A2 xs.length c2] w fun e w' => e = .returned (.bool (doOf ⟨lo, hi⟩ l cr le xs)) ∧ w.grownBy w' (some b) ∧ ∃ N' s' f', N' ≤ N + 1 ∧ BoolMaps.IsB Try.prog 167 4 w' b N' s' f' ∧ Tried l.length (doOf ⟨lo, hi⟩ l cr le) f' := by
 have HR1 := pA hr1
 have HR2 := pA hr2
 have HM := pA hM
 have HT := pA hT
 have HX := pA hx
 have HL := pA hl
 have HW := pA hw
 have H9 := pA h9
 have HN := pA hN
 have HLT := pA hM.lt
 clear hr1 hr2 hM hT hx hl hw h9 hN
 have HX0 := pA (heap_alloc_new w (.cells #[.int .i64 lo, .int .i64 hi, .slice A1 l.length c1, .int .i64 cr, .int .i64 le, .map (some b)] 114 (0, 0)))
 go_enter Try.func126, Try.ntmps126
 go_wp2
 go_loopw [12] (fun v12 w' => ∃ (x : Int) (bs : List Bool), v12 = .int .i64 x ∧ Aside0 (0 ≤ x ∧ x ≤ xs.length) ∧ Aside0 (bs = bitsOf (xs.take x.toNat)) ∧ Aside0 (w'.heap[w.heap.size]? = some (.cells #[.int .i64 lo, .int .i64 hi, .slice A1 l.length c1, .int .i64 cr, .int .i64 le, .map (some b)] 114 (0, 0))) ∧ Aside0 (w'.heap[w.heap.size + 1]? = some (.cells (bs.map Value.bool).toArray 167 (0, 0))) ∧ Aside0 (Below w.heap.size w w')) (fun v12 _ => xs.length - (intOf v12).toNat)
 case atStart => exact ⟨0, _, rfl, ⟨by omega⟩, ⟨rfl⟩, ⟨blk_alloc HX0.out _⟩, ⟨blk_new2 w _ _⟩, ⟨below_alloc (below_alloc (Below.refl _ _) _) _⟩⟩
 case round =>
  obtain ⟨x, bs, rfl, HK, HBS, HX1, HX2, HB⟩ := hrel
  have HLEN := pA (show bs.length = 9 by rw [HBS.out, bitsOf_len])
  by_cases hk : x < (xs.length : Int)
  ·have hkb : decide (x < (xs.length : Int)) = true := decide_eq_true hk
   have p1 : 0 ≤ x := HK.out.1
   have HIN := pA (show 0 ≤ rd xs x ∧ rd xs x < (l.length : Int) by
    have h := HX.out.2.1
    simp only [inIx, List.all_eq_true, decide_eq_true_eq] at h
    rw [rd_int xs x p1 hk]
    exact h _ (List.getElem_mem _))
   obtain ⟨ad, e, x0⟩ := Kd.at_int (Kd.C_below HR2.out HB.out) x p1 hk
   cases e
   have q1 : (0 ≤ rd xs x) = True := eq_true HIN.out.1
   have q2 : (rd xs x < 9) = True := eq_true (by have := HIN.out.2; have := H9.out; omega)
   have p3 : (0 ≤ x) = True := eq_true p1
   have p4 : (x < (xs.length : Int)) = True := eq_true hk
   have y0 := nine_cell HX2.out HLEN.out (rd xs x) (of_eq_true q1) (of_eq_true q2)
   have y1 := blk_frozen HX2.out (rd xs x).toNat
   have HKK := pA hk
   have HP1 := pA p1
   have hnx : wrap64 (x + 1) = x + 1 := by have := HR2.out.2.1; unfold wrap64; omega
   have HNX := pA hnx
   clear p1 hk hnx
   go_wp2
   go_roundw
   case measure => have := HKK.out; have := HK.out; simp [intOf, HNX.out]; omega
   case rel =>
    refine ⟨x + 1, _, by rw [HNX.out], ⟨by have := HKK.out; have := HK.out; omega⟩, ⟨rfl⟩, ⟨blk_far HX1.out (by simp) _⟩, ⟨?_⟩, ⟨below_set HB.out (by simp)⟩⟩
    have e : xs.take (x + 1).toNat = xs.take x.toNat ++ [rd xs x] := by
     have hlt : x.toNat < xs.length := by have := HKK.out; have := HP1.out; omega
     rw [show (x + 1).toNat = x.toNat + 1 from by have := HP1.out; omega, List.take_succ_eq_append_getElem hlt, rd_int xs x HP1.out HKK.out]
    rw [e, bitsOf_snoc _ _ HIN.out.1, ← HBS.out, ← nine_blk HLEN.out]
    exact blk_put HX2.out _ _ rfl
  ·have hkb : decide (x < (xs.length : Int)) = false := decide_eq_false hk
   have e : xs.take x.toNat = xs := List.take_of_length_le (by have := HK.out; omega)
   have HBS2 := pA (show bs = bitsOf xs by rw [HBS.out, e])
   clear hk e HBS
   have HKEY := pA (keyOf_nine HLEN.out)
   rw [HBS2.out] at HKEY
   obtain ⟨b0, b1, b2, b3, b4, b5, b6, b7, b8, hbs⟩ := nine HLEN.out
   have HKEY2 := pA (show keyOf Try.prog 167 (.agg #[.bool b0, .bool b1, .bool b2, .bool b3, .bool b4, .bool b5, .bool b6, .bool b7, .bool b8]) = some (keyLit (bitsOf xs)) by have := HKEY.out; rw [← HBS2.out, hbs] at this; rw [← HBS2.out, hbs]; exact this)
   have HX3 := pA (nine_lit HX2.out hbs)
   have y0 := blk_cell HX3.out 0
   have y1 := blk_cell HX3.out 1
   have y2 := blk_cell HX3.out 2
   have y3 := blk_cell HX3.out 3
   have y4 := blk_cell HX3.out 4
   have y5 := blk_cell HX3.out 5
   have y6 := blk_cell HX3.out 6
   have y7 := blk_cell HX3.out 7
   have y8 := blk_cell HX3.out 8
   have v0 := blk_cell HX1.out 0
   have v1 := blk_cell HX1.out 1
   have v2 := blk_cell HX1.out 2
   have v3 := blk_cell HX1.out 3
   have v4 := blk_cell HX1.out 4
   have v5 := blk_cell HX1.out 5
   have HM1 := pA (HM.out.below HB.out)
   have hlook := HM1.out.look2 nine_keyed Try.underlying112 Try.underlying4 (isList_zero _) HKEY2.out
   clear HKEY HX2 HBS2 HLEN hbs
   cases hg : f (keyLit (bitsOf xs)) with
   | some y =>
    rw [hg] at hlook
    have HY := pA (HT.out xs HX.out y hg)
    clear hg
    go_wp2
    go_ret
    exact ⟨by rw [HY.out]; rfl, grown_of_below HB.out _, N, s, f, Nat.le_succ _, HM1.out, HT.out⟩
   | none =>
    rw [hg] at hlook
    clear hg
    go_wp2_with (go_at_call 107; refine (bung_do_calls lo hi A1 c1 l cr le (some b) A2 c2 xs _ (Kd.C_below HR1.out HB.out) hc1 (Kd.C_below HR2.out HB.out) hc2 HW.out HL.out HX.out.2.1 HX.out.2.2 (Nat.le_trans HX.out.len (by have := H9.out; omega))).mono ?_; rintro e w1 ⟨rfl, hb⟩; have HB1 := pA (below_step HB.out hb); have HX4 := pA (blk_below HX3.out hb); have HX5 := pA (blk_below HX1.out hb); have HM2 := pA (HM1.out.below hb); clear hb y0 y1 y2 y3 y4 y5 y6 y7 y8 v0 v1 v2 v3 v4 v5; have y0 := blk_cell HX4.out 0; have y1 := blk_cell HX4.out 1; have y2 := blk_cell HX4.out 2; have y3 := blk_cell HX4.out 3; have y4 := blk_cell HX4.out 4; have y5 := blk_cell HX4.out 5; have y6 := blk_cell HX4.out 6; have y7 := blk_cell HX4.out 7; have y8 := blk_cell HX4.out 8; have v5 := blk_cell HX5.out 5; obtain ⟨w4, f2, hst, hM2, h1, h2, hg2⟩ := HM2.out.store nine_keyed Try.underlying112 Try.underlying4 HN.out HKEY2.out trivial (doOf ⟨lo, hi⟩ l cr le xs); have HM3 := pA hM2; have HT3 := pA (HT.out.step H9.out HX.out h1 h2); have HG3 := pA hg2; clear hM2 h1 h2 hg2)
    go_ret
    exact ⟨rfl, grown_trans_ (grown_of_below HB1.out _) HG3.out, _, _, _, Nat.le_refl _, HM3.out, HT3.out⟩
end Go.Proofs.Ytbiakjgjedhjhaa.P
namespace Go.Proofs.Ytbiakjgjedhjhaa.P
open Go.RowKit Go.Proofs.YtbiakjgjedhjhaaW.PrintWords Go.Proofs.YtbiakjgjedhjhaaW.PrintLast
theorem R_emptyW {α : Type} (d : Kd α) (e : Nat) (W : World) (ok : Nat → Prop) (hok : ∀ k, W.heap.size ≤ k → ok k) : Kd.R d e (W.alloc (.cells #[] e)) W.heap.size ok (.slice (some ⟨W.heap.size, 0, none⟩) 0 0) [] :=
  ⟨fun k hk => hok k (by simp [Value.ownBlock] at hk; omega), [], ⟨by simp, .inr ⟨W.heap.size, 0, #[], rfl, Nat.le_refl _, heap_alloc_new W _, Nat.le_refl _, by simp [maxLen], by simp, by simp⟩⟩, ⟨by simp, fun j p hj => by simp at hj⟩⟩
theorem M_old {α : Type} {d : Kd α} {w w1 : World} {base : Nat} {ok : Nat → Prop} {x : α} {cs : List Value} (h : d.M w base ok x cs) (hb : Below w.heap.size w w1) : d.M w1 base (fun k => ok k ∧ k < w.heap.size) x cs :=
  Kd.M_below (d.M_mono (fun k hk => ⟨hk.1, hk.2.2.1⟩) (d.M_bound h)) hb
theorem own_fresh {w : World} {v1 : Value} (hat : v1.ownBlock = (Value.slice (some ⟨w.heap.size, 0, none⟩) 0 0).ownBlock ∨ ∃ b, v1.ownBlock = some b ∧ (w.alloc (.cells #[] 38)).heap.size ≤ b) : ∀ k, v1.ownBlock = some k → w.heap.size ≤ k := by
 intro k hk
 rcases hat with h | ⟨b, h, h2⟩
 ·rw [h] at hk
  simp [Value.ownBlock] at hk
  omega
 ·rw [h] at hk
  injection hk with hk
  simp at h2
  omega
set_option maxHeartbeats 4000000 in
set_option maxRecDepth 100000 in
theorem clone_rows_calls (v : Value) (xs : List (List Int)) (base : Nat) (ok : Nat → Prop) (w : World) (ho : Kd.R (Kd.slice 3 (Kd.int .i64)) 38 w base ok v xs) (hbase : base ≤ w.heap.size) (hl : xs.length ≤ 1000000) :
  Calls Try.prog 124 #[v] w fun e w' => ∃ v', e = .returned v' ∧ Kd.R (Kd.slice 3 (Kd.int .i64)) 38 w' base (fun k => ok k ∨ w.heap.size ≤ k) v' xs ∧ (∀ k, v'.ownBlock = some k → w.heap.size ≤ k) ∧ Below w.heap.size w w' := by
 obtain ⟨A, c, rfl, hc, hr⟩ := OwnRow.reads ho.2
 have HO := pA ho
 have HR := pA hr
 have HL := pA hl
 clear ho hr hl
 rcases A with _ | ad
 ·obtain rfl : xs = [] := by
   rcases Nat.eq_zero_or_pos xs.length with h0 | h0
   ·exact List.eq_nil_of_length_eq_zero h0
   ·obtain ⟨ad, h, _⟩ := HR.out.2.2 h0
    cases h
  have hnil := fun W => Go.Lib.run_eql_slice_nil (P := Try.prog) W 30 38 none 0 c 0 0 Try.underlying30
  go_enter Try.func124, Try.ntmps124
  go_wp2
  go_ret
  exact ⟨_, rfl, Kd.R_nil _ _ _ _ _, fun k hk => by simp [Value.ownBlock] at hk, Below.refl _ _⟩
 ·have hnil := fun W => Go.Lib.run_eql_slice_nil (P := Try.prog) W 30 38 (some ad) xs.length c 0 0 Try.underlying30
  go_enter Try.func124, Try.ntmps124
  go_wp2_with (at_builtin; refine Kd.R_append_rows (Kd.slice 3 (Kd.int .i64)) (Rr := (Kd.slice 3 (Kd.int .i64)).M (w.alloc (.cells #[] 38)) base (fun k => ok k ∧ k < w.heap.size)) (w0 := w.alloc (.cells #[] 38)) base rfl (.tmp 5) (.tmp 6) 30 38 _ 24 rfl Try.underlying30 info38 rfl (by decide) (by omega) (.slice (some ⟨w.heap.size, 0, none⟩) 0 0) [] xs (some ad) xs.length c (fun k => ok k ∨ w.heap.size ≤ k) (fun k => ok k ∧ k < w.heap.size) rfl rfl ?aO ?aR (fun _ _ h => h) (fun k h => ⟨.inl h.1, fun e => by simp [Value.ownBlock] at e; omega⟩) (fun k h => .inr (by simp at h; omega)) ?aB ?aS ?aL ?_; (case aO => exact Kd.R_lower (R_emptyW _ _ _ _ (fun k hk => .inr hk)) hbase); (case aR => exact ReadsRow.imp_ HR.out (below_alloc (Below.refl _ _) _) (fun p cs h => (Kd.slice 3 (Kd.int .i64)).M_mono (fun k hk => ⟨hk.1.1, hk.2⟩) (M_old h (below_alloc (Below.refl _ _) _)))); (case aB => exact Below.refl _ _); (case aS => simp; omega); (case aL => have := HL.out; simp; omega); intro v1 w1 ho hb hg hat; have HO1 := pA ho; have HG := pA hg; have HAT := pA hat; clear ho hb hg hat)
  go_ret
  exact ⟨_, rfl, HO1.out, own_fresh HAT.out, pw_below_grown (below_alloc (Below.refl _ _) _) _ (by simp) HG.out (fun k hk => by simp [Value.ownBlock] at hk; omega)⟩
/-- Lists of saggars, with room for one more at an index. -/
def roomAt (bs : List (List Int)) (k : Nat) : List (List Int) := if k = bs.length then bs ++ [[]] else bs
def putIn (bs : List (List Int)) (k : Nat) (x : Int) : List (List Int) := (roomAt bs k).set k ((roomAt bs k).getD k [] ++ [x])
/-- The first bungs, just so many, that do. -/
def packOf (ok : List Int → Bool) (many : Int) : Nat → List (List Int) → Int → Option (List (List Int))
 | 0, bs, _ => if (bs.length : Int) = many then some bs else none
 | d + 1, bs, x => (List.range' 0 (bs.length + 1)).findSome? fun (k : Nat) => if (k : Int) < many ∧ ok ((roomAt bs k).getD k [] ++ [x]) = true then packOf ok many d (putIn bs k x) (x + 1) else none
def packFrom (ok : List Int → Bool) (many : Int) (d : Nat) (bs : List (List Int)) (x : Int) (k : Nat) : Option (List (List Int)) :=
  (List.range' k (bs.length + 1 - k)).findSome? fun (k : Nat) => if (k : Int) < many ∧ ok ((roomAt bs k).getD k [] ++ [x]) = true then packOf ok many d (putIn bs k x) (x + 1) else none
theorem packFrom_zero (ok : List Int → Bool) (many : Int) (d : Nat) (bs : List (List Int)) (x : Int) : packOf ok many (d + 1) bs x = packFrom ok many d bs x 0 := rfl
theorem packFrom_step (ok : List Int → Bool) (many : Int) (d : Nat) (bs : List (List Int)) (x : Int) (k : Nat) (hk : k ≤ bs.length) :
  packFrom ok many d bs x k = (if (k : Int) < many ∧ ok ((roomAt bs k).getD k [] ++ [x]) = true then packOf ok many d (putIn bs k x) (x + 1) else none).or (packFrom ok many d bs x (k + 1)) := by
 unfold packFrom
 rw [show bs.length + 1 - k = (bs.length + 1 - (k + 1)) + 1 from by omega, List.range'_succ, List.findSome?_cons]
 split <;> rename_i h <;> rw [h] <;> rfl
theorem packFrom_end (ok : List Int → Bool) (many : Int) (d : Nat) (bs : List (List Int)) (x : Int) (k : Nat) (hk : bs.length < k) : packFrom ok many d bs x k = none := by
 unfold packFrom
 rw [show bs.length + 1 - k = 0 from by omega]
 rfl
theorem packFrom_many (ok : List Int → Bool) (many : Int) (d : Nat) (bs : List (List Int)) (x : Int) (k : Nat) (hk : ¬ (k : Int) < many) : packFrom ok many d bs x k = none := by
 unfold packFrom
 rw [List.findSome?_eq_none_iff]
 intro j hj
 have := (List.mem_range'_1.1 hj).1
 rw [if_neg (by omega)]
/-- Bungs of the saggars below an index. -/
def okBs (bs : List (List Int)) (x : Int) : Prop := (∀ b ∈ bs, b.Pairwise (· < ·) ∧ ∀ i ∈ b, 0 ≤ i ∧ i < x) ∧ (bs.length : Int) ≤ x ∧ 0 ≤ x ∧ (0 < x → bs ≠ [])
theorem roomAt_ok {bs : List (List Int)} {x : Int} (h : okBs bs x) (k : Nat) : ∀ b ∈ roomAt bs k, b.Pairwise (· < ·) ∧ ∀ i ∈ b, 0 ≤ i ∧ i < x := by
 intro b hb
 unfold roomAt at hb
 split at hb
 ·rcases List.mem_append.1 hb with hb | hb
  ·exact h.1 b hb
  ·rw [List.mem_singleton.1 hb]
   exact ⟨List.Pairwise.nil, fun i hi => absurd hi List.not_mem_nil⟩
 ·exact h.1 b hb
theorem roomAt_len {bs : List (List Int)} {k : Nat} (hk : k ≤ bs.length) : k < (roomAt bs k).length := by
 unfold roomAt
 split
 ·simp; omega
 ·omega
theorem next_ok {bs : List (List Int)} {x : Int} (h : okBs bs x) {k n : Nat} (hk : k ≤ bs.length) (hx : x < n) : okTry n ((roomAt bs k).getD k [] ++ [x]) := by
 have hm : (roomAt bs k).getD k [] ∈ roomAt bs k := by
  rw [List.getD_eq_getElem?_getD, List.getElem?_eq_getElem (roomAt_len hk)]
  exact List.getElem_mem _
 obtain ⟨h1, h2⟩ := roomAt_ok h k _ hm
 refine ⟨?_, ?_, by simp⟩
 ·rw [List.pairwise_append]
  exact ⟨h1, List.pairwise_singleton _ _, fun a ha b hb => by rw [List.mem_singleton.1 hb]; exact (h2 a ha).2⟩
 ·simp only [inIx, List.all_eq_true, decide_eq_true_eq]
  intro i hi
  rcases List.mem_append.1 hi with hi | hi
  ·have := h2 i hi; omega
  ·rw [List.mem_singleton.1 hi]; exact ⟨h.2.2.1, hx⟩
theorem putIn_ok {bs : List (List Int)} {x : Int} (h : okBs bs x) {k : Nat} (hk : k ≤ bs.length) : okBs (putIn bs k x) (x + 1) := by
 have hl := h.2.1
 have h0 := h.2.2.1
 have hn := next_ok (n := (x + 1).toNat) h hk (by omega)
 refine ⟨fun b hb => ?_, ?_, by omega, fun _ e => ?_⟩
 ·rcases List.mem_or_eq_of_mem_set hb with hb | rfl
  ·obtain ⟨a, c⟩ := roomAt_ok h k b hb
   exact ⟨a, fun i hi => by have := c i hi; omega⟩
  ·refine ⟨hn.1, fun i hi => ?_⟩
   have := hn.2.1
   simp only [inIx, List.all_eq_true, decide_eq_true_eq] at this
   have := this i hi
   omega
 ·unfold putIn
  rw [List.length_set]
  unfold roomAt
  split
  ·simp; omega
  ·omega
 ·have := congrArg List.length e
  unfold putIn at this
  rw [List.length_set] at this
  have h2 := roomAt_len hk
  rw [List.length_nil] at this
  omega
/-- How often lists are tried, at most. -/
def triesIn : Nat → Nat
 | 0 => 0
 | d + 1 => 11 * (1 + triesIn d)
theorem tries_le {k : Int} {n : Nat} (h0 : 0 ≤ k) (h1 : k ≤ n + 1) (hn : (n : Int) ≤ 9) (N d : Nat) : N + k.toNat * (1 + triesIn d) ≤ N + triesIn (d + 1) :=
  Nat.add_le_add_left (Nat.mul_le_mul_right _ (by omega)) _
/-- What pack returns. -/
def RowsOut (w : World) (base : Nat) (v : Value) : Option (List (List Int)) → Prop
 | none => v = .slice none 0 0
 | some out => out ≠ [] ∧ Kd.R (Kd.slice 3 (Kd.int .i64)) 38 w base (fun _ => True) v out
theorem isB_heap {P : Program} {k e : TypeId} {w : World} {b N s : Nat} {f : Lit → Option Bool} (h : BoolMaps.IsB P k e w b N s f) : ∃ es clock, w.heap[b]? = some (.map es clock) := by
  obtain ⟨D, ⟨es, clock, hb, _⟩, _⟩ := h
  exact ⟨es, clock, hb⟩
theorem cell_map {w w' : World} {b N s : Nat} {f : Lit → Option Bool} {p : Addr} {v : Value} (h : w.cell? p = some v) (hM : BoolMaps.IsB Try.prog 167 4 w b N s f) (hg : w.grownBy w' (some b)) : w'.cell? p = some v := by
 have hlt := World.block_lt_of_cell? w p h
 have hne : p.block ≠ b := fun e => by
  obtain ⟨es, clock, hm⟩ := isB_heap hM
  rw [← e] at hm
  unfold World.cell? at h
  rw [hm] at h
  cases h
 have := hg.block p.block hlt (by simpa using hne)
 unfold World.cell? at h ⊢
 rw [this]
 exact h
theorem C_map {α : Type} {d : Kd α} {w w' : World} {b N s : Nat} {f : Lit → Option Bool} {A : Option Addr} {n : Nat} {l : List α} (hd : ∀ {W W' : World} {x : α} {cs : List Value}, d.K W x cs → d.K W' x cs) (hs : 0 < d.sz) (h : d.C w A n l) (hM : BoolMaps.IsB Try.prog 167 4 w b N s f) (hg : w.grownBy w' (some b)) : d.C w' A n l := by
 refine ⟨h.1, h.2.1, fun hn => ?_⟩
 obtain ⟨ad, he, hc⟩ := h.2.2 hn
 refine ⟨ad, he, fun j p hj => ?_⟩
 obtain ⟨c, h1, h2, h3⟩ := hc j p hj
 exact ⟨c, h1, hd h2, fun i u hu => cell_map (h3 i u hu) hM hg⟩
theorem row_at {W : World} {base : Nat} {v : Value} {xs : List (List Int)} (h : Kd.R (Kd.slice 3 (Kd.int .i64)) 38 W base (fun _ => True) v xs) (i : Int) (h0 : 0 ≤ i) (h1 : i < xs.length) :
  ∃ g cap A c, v = .slice (some ⟨g, 0, none⟩) xs.length cap ∧ (∃ cells, W.heap[g]? = some (.cells cells 38 (0, 0))) ∧ W.cell? ⟨g, i.toNat, none⟩ = some (.slice A (xs.getD i.toNat []).length c) ∧ (xs.getD i.toNat []).length ≤ c ∧ Kd.C (Kd.int .i64) W A (xs.getD i.toNat []).length (xs.getD i.toNat []) := by
 obtain ⟨g, cap, rfl, _, hlt, hblk⟩ := Kd.R_form h (by omega)
 obtain ⟨c, hcl, ⟨u, rfl, hu⟩, hcc, _⟩ := Kd.R_elem h [] i h0 (by omega)
 obtain ⟨A, c', rfl, hl, hr⟩ := Kd.R_reads hu
 have := hcc 0 _ rfl
 exact ⟨g, cap, A, c', rfl, hblk, by simpa [Kd.slice] using this, hl, hr⟩
theorem clone_f (xs : List Int) (h : xs.length ≤ 1000000) : slices_Clone_int_int.f xs = some xs := by
  unfold slices_Clone_int_int.f
  rw [if_pos (by omega)]
theorem row_at' {W : World} {base g n cap : Nat} {xs : List (List Int)} (h : Kd.R (Kd.slice 3 (Kd.int .i64)) 38 W base (fun _ => True) (.slice (some ⟨g, 0, none⟩) n cap) xs) (i : Int) (h0 : 0 ≤ i) (h1 : i < xs.length) :
  ∃ A c, W.cell? ⟨g, i.toNat, none⟩ = some (.slice A (xs.getD i.toNat []).length c) ∧ (xs.getD i.toNat []).length ≤ c ∧ Kd.C (Kd.int .i64) W A (xs.getD i.toNat []).length (xs.getD i.toNat []) := by
 obtain ⟨g', cap', A, c, e, _, h2, h3, h4⟩ := row_at h i h0 h1
 injection e with e _ _
 injection e with e
 injection e with e
 subst e
 exact ⟨A, c, h2, h3, h4⟩
theorem putIn_get {bs : List (List Int)} {k : Nat} (hk : k ≤ bs.length) (x : Int) : (putIn bs k x).getD k [] = (roomAt bs k).getD k [] ++ [x] := by
 unfold putIn
 rw [List.getD_eq_getElem?_getD, List.getElem?_set_self (roomAt_len hk)]
 rfl
def rowAt (bs : List (List Int)) (k : Nat) : List Int := (roomAt bs k).getD k []
def rowOn (bs : List (List Int)) (k : Nat) (x : Int) : List Int := rowAt bs k ++ [x]
theorem row_room {W : World} {base : Nat} {v : Value} {bs : List (List Int)} {i : Int} (h : Kd.R (Kd.slice 3 (Kd.int .i64)) 38 W base (fun _ => True) v (roomAt bs i.toNat)) (h0 : 0 ≤ i) (h1 : i < (roomAt bs i.toNat).length) :
    ∃ g cap A c, v = .slice (some ⟨g, 0, none⟩) (roomAt bs i.toNat).length cap ∧ (∃ cells, W.heap[g]? = some (.cells cells 38 (0, 0))) ∧ W.cell? ⟨g, i.toNat, none⟩ = some (.slice A (rowAt bs i.toNat).length c) ∧ (rowAt bs i.toNat).length ≤ c ∧ Kd.C (Kd.int .i64) W A (rowAt bs i.toNat).length (rowAt bs i.toNat) := row_at h i h0 h1
theorem row_put {W : World} {base g n cap : Nat} {bs : List (List Int)} {i x : Int} (h : Kd.R (Kd.slice 3 (Kd.int .i64)) 38 W base (fun _ => True) (.slice (some ⟨g, 0, none⟩) n cap) (putIn bs i.toNat x)) (h0 : 0 ≤ i) (h1 : i ≤ bs.length) :
  ∃ A c, W.cell? ⟨g, i.toNat, none⟩ = some (.slice A (rowOn bs i.toNat x).length c) ∧ (rowOn bs i.toNat x).length ≤ c ∧ Kd.C (Kd.int .i64) W A (rowOn bs i.toNat x).length (rowOn bs i.toNat x) := by
 have hk : i.toNat ≤ bs.length := by omega
 have := row_at' h i h0 (by unfold putIn; rw [List.length_set]; have := roomAt_len hk; omega)
 rw [putIn_get hk] at this
 exact this
theorem store_cc {w : World} {g i : Nat} {v : Value} (h : w.cell? ⟨g, i, none⟩ = some v) : ∀ (j : Nat) (u : Value), [v][j]? = some u → w.cell? ⟨g, i * (Kd.slice 3 (Kd.int .i64)).sz + j, none⟩ = some u := by
 intro j u hj
 rcases j with _ | j
 ·simp at hj
  subst hj
  simpa [Kd.slice] using h
 ·simp at hj
theorem row_store {W : World} {base g cap B : Nat} {bs : List (List Int)} {k x : Int} {Ai A5 : Option Addr} {ni ci c5 : Nat} (h : Kd.R (Kd.slice 3 (Kd.int .i64)) 38 W base (fun _ => True) (.slice (some ⟨g, 0, none⟩) (roomAt bs k.toNat).length cap) (roomAt bs k.toNat)) (h0 : 0 ≤ k) (h1 : k < (roomAt bs k.toNat).length)
  (hy : W.cell? ⟨g, k.toNat, none⟩ = some (.slice Ai ni ci)) (ho : Kd.R (Kd.int .i64) 3 W B (fun _ => True) (.slice A5 (rowOn bs k.toNat x).length c5) (rowOn bs k.toNat x)) (hg : g < B) (hb : base ≤ B) :
  Kd.R (Kd.slice 3 (Kd.int .i64)) 38 (W.setCell ⟨g, k.toNat, none⟩ (.slice A5 (rowOn bs k.toNat x).length c5)) base (fun _ => True) (.slice (some ⟨g, 0, none⟩) (roomAt bs k.toNat).length cap) (putIn bs k.toNat x) ∧ W.grownBy (W.setCell ⟨g, k.toNat, none⟩ (.slice A5 (rowOn bs k.toNat x).length c5)) (some g) := by
 have := Kd.R_seg (d := Kd.slice 3 (Kd.int .i64)) (okp := fun q => B ≤ q) (seg := [.slice A5 (rowOn bs k.toNat x).length c5]) (j := 0) (x' := rowOn bs k.toNat x) (c := [.slice Ai ni ci]) h k h0 h1 rfl (store_cc hy) (Nat.le_refl 1) ⟨_, rfl, Kd.R_lower (Kd.R_mono (Kd.R_bound ho) (fun q hq => hq.2.1)) hb⟩ (fun q hq => ⟨trivial, by omega⟩)
 have e : k.toNat * (Kd.slice 3 (Kd.int .i64)).sz + 0 = k.toNat := by simp [Kd.slice]
 rw [e] at this
 exact this
theorem tries_step {k : Int} (h0 : 0 ≤ k) {N N1 N2 d t : Nat} (h1 : N1 ≤ N + k.toNat * (1 + triesIn d)) (h2 : N2 ≤ N1 + t) (ht : t ≤ 1 + triesIn d) : N2 ≤ N + (k + 1).toNat * (1 + triesIn d) := by
  rw [show (k + 1).toNat = k.toNat + 1 by omega, Nat.succ_mul]
  omega
theorem tries_lt {k : Int} (h0 : 0 ≤ k) {n N N1 d : Nat} (h1 : N1 ≤ N + k.toNat * (1 + triesIn d)) (hk : k ≤ n) (hn : (n : Int) ≤ 9) (hN : N + triesIn (d + 1) < maxLen) : N1 + 1 + triesIn d < maxLen := by
 have : k.toNat * (1 + triesIn d) ≤ 9 * (1 + triesIn d) := Nat.mul_le_mul_right _ (by omega)
 simp only [triesIn] at hN
 omega
theorem R_map {α : Type} {d : Kd α} {e : Nat} {w w1 : World} {base b : Nat} {v : Value} {xs : List α} (h : d.R e w base (fun _ => True) v xs) (hb : b < base) (hg : w.grownBy w1 (some b)) : d.R e w1 base (fun _ => True) v xs :=
  Kd.R_mono (Kd.R_grown (Kd.R_bound h) hg (fun q hq e => by have := hq.2.1; injection e with e; omega)) (fun _ _ => trivial)
theorem tries_all {k : Int} (h0 : 0 ≤ k) {n N N1 N2 N3 d : Nat} (hk : k ≤ n) (hn : (n : Int) ≤ 9) (h1 : N1 ≤ N + k.toNat * (1 + triesIn d)) (h2 : N2 ≤ N1 + 1) (h3 : N3 ≤ N2 + triesIn d) : N3 ≤ N + triesIn (d + 1) := by
 have : k.toNat * (1 + triesIn d) ≤ 9 * (1 + triesIn d) := Nat.mul_le_mul_right _ (by omega)
 simp only [triesIn]
 omega
theorem pack_no {ok : List Int → Bool} {many : Int} {d : Nat} {bs : List (List Int)} {x : Int} {k : Nat} (h : packFrom ok many d bs x k = (if (k : Int) < many ∧ ok ((roomAt bs k).getD k [] ++ [x]) = true then packOf ok many d (putIn bs k x) (x + 1) else none).or (packFrom ok many d bs x (k + 1))) (ho : ok (rowOn bs k x) = false) : packFrom ok many d bs x k = packFrom ok many d bs x (k + 1) := by
 have ho : ok ((roomAt bs k).getD k [] ++ [x]) = false := ho
 rw [h, if_neg (by rw [ho]; simp)]
 rfl
theorem pack_yes {ok : List Int → Bool} {many : Int} {d : Nat} {bs : List (List Int)} {x : Int} {k : Nat} (h : packFrom ok many d bs x k = (if (k : Int) < many ∧ ok ((roomAt bs k).getD k [] ++ [x]) = true then packOf ok many d (putIn bs k x) (x + 1) else none).or (packFrom ok many d bs x (k + 1))) (hk : (k : Int) < many) (ho : ok (rowOn bs k x) = true) : packFrom ok many d bs x k = (packOf ok many d (putIn bs k x) (x + 1)).or (packFrom ok many d bs x (k + 1)) := by
  have ho : ok ((roomAt bs k).getD k [] ++ [x]) = true := ho
  rw [h, if_pos ⟨hk, ho⟩]
theorem neq_nil0 (W : World) : (binOp .neq 30 (.slice none 0 0) (.slice none 0 0)).run Try.prog W = .ok (.bool false) W  := by kernel_rfl
theorem neq_nil1 (W : World) (g n c : Nat) : (binOp .neq 30 (.slice (some ⟨g, 0, none⟩) n c) (.slice none 0 0)).run Try.prog W = .ok (.bool true) W  := by kernel_rfl
theorem pk_keepm {w w' : World} {b N s : Nat} {f : Lit → Option Bool} {p0 p1 p2 p3 p4 p5 p6 : Addr} {v0 v1 v2 v3 v4 v5 v6 : Value} (h : w.cell? p0 = some v0 ∧ w.cell? p1 = some v1 ∧ w.cell? p2 = some v2 ∧ w.cell? p3 = some v3 ∧ w.cell? p4 = some v4 ∧ w.cell? p5 = some v5 ∧ w.cell? p6 = some v6)
    (hM : BoolMaps.IsB Try.prog 167 4 w b N s f) (hg : w.grownBy w' (some b)) : w'.cell? p0 = some v0 ∧ w'.cell? p1 = some v1 ∧ w'.cell? p2 = some v2 ∧ w'.cell? p3 = some v3 ∧ w'.cell? p4 = some v4 ∧ w'.cell? p5 = some v5 ∧ w'.cell? p6 = some v6 :=
  ⟨cell_map h.1 hM hg, cell_map h.2.1 hM hg, cell_map h.2.2.1 hM hg, cell_map h.2.2.2.1 hM hg, cell_map h.2.2.2.2.1 hM hg, cell_map h.2.2.2.2.2.1 hM hg, cell_map h.2.2.2.2.2.2 hM hg⟩
theorem own_far {W : World} {v v1 : Value} {S : Nat} (hf : ∀ q, v.ownBlock = some q → S ≤ q) (hS : S ≤ W.heap.size) (hat : v1.ownBlock = v.ownBlock ∨ ∃ b, v1.ownBlock = some b ∧ W.heap.size ≤ b) : ∀ q, v1.ownBlock = some q → S ≤ q := by
 intro q hq
 rcases hat with h | ⟨b, h, h2⟩
 ·exact hf q (by rw [← h]; exact hq)
 ·rw [h] at hq
  injection hq with hq
  omega
end Go.Proofs.Ytbiakjgjedhjhaa.P
