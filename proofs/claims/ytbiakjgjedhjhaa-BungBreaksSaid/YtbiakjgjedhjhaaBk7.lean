/- Proved: the law BungBreaks of the program potbank answers true for every input, and leaves its arguments as they were. Conditions: none. (Part 7 of the texts, put together by wip/assemble.py of this repository.) -/
import Derived.Test.YtbiakjgjedhjhaaBk6
set_option linter.unusedVariables false
set_option linter.unusedSimpArgs false
namespace Go.Proofs.Ytbiakjgjedhjhaa.P
open Go.RowKit Go.Proofs.YtbiakjgjedhjhaaW.PrintWords Go.Proofs.YtbiakjgjedhjhaaW.PrintLast
set_option maxHeartbeats 8000000 in
set_option maxRecDepth 100000 in
theorem bung_Fits.calls (k : Nat) (a0_0 : Int) (a0_1 : Int) (A0_2 : Option Addr) (c0_2 : Nat) (l0_2 : List (S52)) (a1_0 : Int) (a1_1 : Int) (r1 : Int) (r2 : Int) (w : World) (hr0_2 : Kd.C k52 w A0_2 l0_2.length l0_2) (hc0_2 : l0_2.length ≤ c0_2) (h : bung_Fits.f k a0_0 a0_1 l0_2 a1_0 a1_1 = some (r1, r2)) :
  Calls Try.prog 30 #[.agg #[.int .i64 a0_0, .int .i64 a0_1, .slice A0_2 l0_2.length c0_2], .agg #[.int .i64 a1_0, .int .i64 a1_1]] w fun e w' => e = .returned (.tuple #[.int .i64 r1, .int .i64 r2]) ∧ Below w.heap.size w w' := by
 have hu43 := Try.underlying43
 have hu26 := Try.underlying26
 have HR0_2 := pA hr0_2
 have HC0_2 := pA hc0_2
 clear hr0_2 hc0_2
 have HB := pA (Below.refl w.heap.size w)
 have H : ((bung_isBung.f a0_0 a0_1 l0_2).bind fun t399 => (if t399 = true then ((bung_isSpot.f a1_0 a1_1).bind fun t400 => (if t400 = true then ((bung_fits.f k a0_0 a0_1 l0_2 a1_0 a1_1).bind fun t401 => (some (t401, 0))) else (some (0, 33)))) else (some (0, 31)))) = some (r1, r2) := h
 clear h
 replace H := Option.bind_eq_some_iff.mp H
 obtain ⟨t399, A30, H⟩ := H
 replace H : (if t399 = true then ((bung_isSpot.f a1_0 a1_1).bind fun t400 => (if t400 = true then ((bung_fits.f k a0_0 a0_1 l0_2 a1_0 a1_1).bind fun t401 => (some (t401, 0))) else (some (0, 33)))) else (some (0, 31))) = some (r1, r2) := H
 have A3 := pA A30
 clear A30
 by_cases c4 : t399 = true
 ·subst c4
  have H1 : ((bung_isSpot.f a1_0 a1_1).bind fun t400 => (if t400 = true then ((bung_fits.f k a0_0 a0_1 l0_2 a1_0 a1_1).bind fun t401 => (some (t401, 0))) else (some (0, 33)))) = some (r1, r2) := by rw [if_pos rfl] at H; exact H
  clear H
  have H := H1
  clear H1
  replace H := Option.bind_eq_some_iff.mp H
  obtain ⟨t400, A50, H⟩ := H
  replace H : (if t400 = true then ((bung_fits.f k a0_0 a0_1 l0_2 a1_0 a1_1).bind fun t401 => (some (t401, 0))) else (some (0, 33))) = some (r1, r2) := H
  have A5 := pA A50
  clear A50
  by_cases c6 : t400 = true
  ·subst c6
   have H1 : ((bung_fits.f k a0_0 a0_1 l0_2 a1_0 a1_1).bind fun t401 => (some (t401, 0))) = some (r1, r2) := by rw [if_pos rfl] at H; exact H
   clear H
   have H := H1
   clear H1
   replace H := Option.bind_eq_some_iff.mp H
   obtain ⟨t401, A70, H⟩ := H
   replace H : (some (t401, 0)) = some (r1, r2) := H
   have A7 := pA A70
   clear A70
   simp only [Option.some.injEq, Prod.mk.injEq] at H
   obtain ⟨rfl, rfl⟩ := H
   go_enter Try.func30, Try.ntmps30
   go_wp2_with (first | ((with_reducible refine gate_dst (N := 2) rfl ?_); refine box_event ?hg (N := 2) ?hd (cs := #[.int .i64 a0_0, .int .i64 a0_1, .slice A0_2 l0_2.length c0_2]) (t := 43) ?hr ?_; (case hd => rfl); (case hg => rfl); (case hr => first | (go_simp; done) | (go_simp; rfl)); intro gb397 hg w8 hbox hb; have n0_ := pA (below_step (vB HB) hb); have n1_ := pA (hbox); have n2_ := pA ((by rw [hg]; exact (below_size (vB HB)) : w.heap.size ≤ gb397)); have n3_ := pA ((by rw [hg]; exact (below_size (vB HB)) : w.heap.size ≤ gb397)); clear HB; have HB := n0_; have BK397 := n1_; have GW397 := n2_; have GE397 := n3_; clear n0_ n1_ n2_ n3_; clear hb hbox hg) | ((with_reducible refine gate_dst (N := 3) rfl ?_); refine box_event ?hg (N := 3) ?hd (cs := #[.int .i64 a1_0, .int .i64 a1_1]) (t := 26) ?hr ?_; (case hd => rfl); (case hg => rfl); (case hr => first | (go_simp; done) | (go_simp; rfl)); intro gb398 hg w9 hbox hb; have n0_ := pA (blk_below (g := gb397) (o := .cells #[.int .i64 a0_0, .int .i64 a0_1, .slice A0_2 l0_2.length c0_2] 43 (0, 0)) (vK BK397) hb); have n1_ := pA (below_step (by repeat (first | (with_reducible first | exact HB.out | apply below_alloc | apply pw_below_drewN | apply below_drew1 | refine below_set ?_ GE397.out) | exact HB.out)) hb); have n2_ := pA (hbox); have n3_ := pA ((by rw [hg]; exact (below_size (by repeat (first | (with_reducible first | exact HB.out | apply below_alloc | apply pw_below_drewN | apply below_drew1 | refine below_set ?_ GE397.out) | exact HB.out))) : w.heap.size ≤ gb398)); have n4_ := pA ((by rw [hg]; exact (below_size (by repeat (first | (with_reducible first | exact HB.out | apply below_alloc | apply pw_below_drewN | apply below_drew1 | refine below_set ?_ GE397.out) | exact HB.out))) : w.heap.size ≤ gb398)); have n5_ := pA ((by rw [hg]; exact Nat.ne_of_lt (blk_lt (g := gb397) (o := .cells #[.int .i64 a0_0, .int .i64 a0_1, .slice A0_2 l0_2.length c0_2] 43 (0, 0)) (vK BK397)) : gb397 ≠ gb398)); have n6_ := pA ((by rw [hg]; exact Nat.ne_of_gt (blk_lt (g := gb397) (o := .cells #[.int .i64 a0_0, .int .i64 a0_1, .slice A0_2 l0_2.length c0_2] 43 (0, 0)) (vK BK397)) : gb398 ≠ gb397)); clear BK397; clear HB; have BK397 := n0_; have HB := n1_; have BK398 := n2_; have GW398 := n3_; have GE398 := n4_; have NB397_398 := n5_; have NB398_397 := n6_; clear n0_ n1_ n2_ n3_ n4_ n5_ n6_; clear hb hbox hg; have hnb10 := NB397_398.out; have hnc10 := NB398_397.out; have hcz11_0 : w9.cell? ⟨gb397, 0, none⟩ = some (.int .i64 a0_0) := (blk_cell BK397.out 0).trans rfl; have hcz11_1 : w9.cell? ⟨gb397, 1, none⟩ = some (.int .i64 a0_1) := (blk_cell BK397.out 1).trans rfl; have hcz11_2 : w9.cell? ⟨gb397, 2, none⟩ = some (.slice A0_2 l0_2.length c0_2) := (blk_cell BK397.out 2).trans rfl; have hfz11_0 := blk_frozen BK397.out 0; have hfz11_1 := blk_frozen BK397.out 1; have hfz11_2 := blk_frozen BK397.out 2) | ((with_reducible refine aF (f := 80) rfl ?_); refine goesL_ (some 8) rfl rfl Try.func80 (by kernel_rfl) rfl #[.agg #[.int .i64 a0_0, .int .i64 a0_1, .slice A0_2 l0_2.length c0_2]] rfl (by (try simp only [pE, pF, pG]); first | done | rfl | (simp only [pH, pI]; rfl)) ?_; (with_reducible refine (bung_isBung.calls a0_0 a0_1 _ _ l0_2 true _ ?side1 ?side2 A3.out).mono ?_); (case side1 => repeat (first | exact (Kd.C_below HR0_2.out HB.out) | (with_reducible refine Kd.C_alloc ?_ _) | (with_reducible refine Kd.C_drewN ?_ _) | (with_reducible refine Kd.C_drew ?_))); (case side2 => exact HC0_2.out); rintro e w12 ⟨rfl, hb⟩; refine ⟨_, rfl, ?_⟩; have n0_ := pA (blk_below (g := gb397) (o := .cells #[.int .i64 a0_0, .int .i64 a0_1, .slice A0_2 l0_2.length c0_2] 43 (0, 0)) (vK BK397) hb); have n1_ := pA (blk_below (g := gb398) (o := .cells #[.int .i64 a1_0, .int .i64 a1_1] 26 (0, 0)) (vK BK398) hb); have n2_ := pA (below_step (by repeat (first | (with_reducible first | exact HB.out | apply below_alloc | apply pw_below_drewN | apply below_drew1 | refine below_set ?_ GE397.out | refine below_set ?_ GE398.out) | exact HB.out)) hb); clear BK397; clear BK398; clear HB; have BK397 := n0_; have BK398 := n1_; have HB := n2_; clear n0_ n1_ n2_; (try clear hb); (try clear hb2); (try clear hk); (try clear hi); have hcz13_0 : w12.cell? ⟨gb398, 0, none⟩ = some (.int .i64 a1_0) := (blk_cell BK398.out 0).trans rfl; have hcz13_1 : w12.cell? ⟨gb398, 1, none⟩ = some (.int .i64 a1_1) := (blk_cell BK398.out 1).trans rfl; have hfz13_0 := blk_frozen BK398.out 0; have hfz13_1 := blk_frozen BK398.out 1) | ((with_reducible refine aF (f := 85) rfl ?_); refine goesL_ (some 12) rfl rfl Try.func85 (by kernel_rfl) rfl #[.agg #[.int .i64 a1_0, .int .i64 a1_1]] rfl (by (try simp only [pE, pF, pG]); first | done | rfl | (simp only [pH, pI]; rfl)) ?_; (with_reducible refine (bung_isSpot.calls a1_0 a1_1 true _ A5.out).mono ?_); rintro e w14 ⟨rfl, hb⟩; refine ⟨_, rfl, ?_⟩; have n0_ := pA (blk_below (g := gb397) (o := .cells #[.int .i64 a0_0, .int .i64 a0_1, .slice A0_2 l0_2.length c0_2] 43 (0, 0)) (vK BK397) hb); have n1_ := pA (blk_below (g := gb398) (o := .cells #[.int .i64 a1_0, .int .i64 a1_1] 26 (0, 0)) (vK BK398) hb); have n2_ := pA (below_step (by repeat (first | (with_reducible first | exact HB.out | apply below_alloc | apply pw_below_drewN | apply below_drew1 | refine below_set ?_ GE397.out | refine below_set ?_ GE398.out) | exact HB.out)) hb); clear BK397; clear BK398; clear HB; have BK397 := n0_; have BK398 := n1_; have HB := n2_; clear n0_ n1_ n2_; (try clear hb); (try clear hb2); (try clear hk); (try clear hi); have hcz15_0 : w14.cell? ⟨gb397, 0, none⟩ = some (.int .i64 a0_0) := (blk_cell BK397.out 0).trans rfl; have hcz15_1 : w14.cell? ⟨gb397, 1, none⟩ = some (.int .i64 a0_1) := (blk_cell BK397.out 1).trans rfl; have hcz15_2 : w14.cell? ⟨gb397, 2, none⟩ = some (.slice A0_2 l0_2.length c0_2) := (blk_cell BK397.out 2).trans rfl; have hfz15_0 := blk_frozen BK397.out 0; have hfz15_1 := blk_frozen BK397.out 1; have hfz15_2 := blk_frozen BK397.out 2; have hcz16_0 : w14.cell? ⟨gb398, 0, none⟩ = some (.int .i64 a1_0) := (blk_cell BK398.out 0).trans rfl; have hcz16_1 : w14.cell? ⟨gb398, 1, none⟩ = some (.int .i64 a1_1) := (blk_cell BK398.out 1).trans rfl; have hfz16_0 := blk_frozen BK398.out 0; have hfz16_1 := blk_frozen BK398.out 1) | ((with_reducible refine aF (f := 86) rfl ?_); refine goesL_ (some 16) rfl rfl Try.func86 (by kernel_rfl) rfl #[.agg #[.int .i64 a0_0, .int .i64 a0_1, .slice A0_2 l0_2.length c0_2], .agg #[.int .i64 a1_0, .int .i64 a1_1]] rfl (by (try simp only [pE, pF, pG]); first | done | rfl | (simp only [pH, pI]; rfl)) ?_; (with_reducible refine (bung_fits.calls k a0_0 a0_1 _ _ l0_2 a1_0 a1_1 t401 _ ?side1 ?side2 A7.out).mono ?_); (case side1 => repeat (first | exact (Kd.C_below HR0_2.out HB.out) | (with_reducible refine Kd.C_alloc ?_ _) | (with_reducible refine Kd.C_drewN ?_ _) | (with_reducible refine Kd.C_drew ?_))); (case side2 => exact HC0_2.out); rintro e w17 ⟨rfl, hb⟩; refine ⟨_, rfl, ?_⟩; have n0_ := pA (blk_below (g := gb397) (o := .cells #[.int .i64 a0_0, .int .i64 a0_1, .slice A0_2 l0_2.length c0_2] 43 (0, 0)) (vK BK397) hb); have n1_ := pA (blk_below (g := gb398) (o := .cells #[.int .i64 a1_0, .int .i64 a1_1] 26 (0, 0)) (vK BK398) hb); have n2_ := pA (below_step (by repeat (first | (with_reducible first | exact HB.out | apply below_alloc | apply pw_below_drewN | apply below_drew1 | refine below_set ?_ GE397.out | refine below_set ?_ GE398.out) | exact HB.out)) hb); clear BK397; clear BK398; clear HB; have BK397 := n0_; have BK398 := n1_; have HB := n2_; clear n0_ n1_ n2_; (try clear hb); (try clear hb2); (try clear hk); (try clear hi)))
   go_ret2
   exact ⟨by first | rfl | (simp [errW_none, errW_some] <;> rfl) | (simp [*, errW_none, errW_some] <;> rfl), by repeat (first | (with_reducible first | exact HB.out | apply below_alloc | apply pw_below_drewN | apply below_drew1 | refine below_set ?_ GE397.out | refine below_set ?_ GE398.out) | exact HB.out)⟩
  ·replace c6 := Bool.eq_false_iff.mpr c6
   subst c6
   have H1 : (some (0, 33)) = some (r1, r2) := by rw [if_neg (show ¬ (false = true) by decide)] at H; exact H
   clear H
   have H := H1
   clear H1
   simp only [Option.some.injEq, Prod.mk.injEq] at H
   obtain ⟨rfl, rfl⟩ := H
   go_enter Try.func30, Try.ntmps30
   go_wp2_with (first | ((with_reducible refine gate_dst (N := 2) rfl ?_); refine box_event ?hg (N := 2) ?hd (cs := #[.int .i64 a0_0, .int .i64 a0_1, .slice A0_2 l0_2.length c0_2]) (t := 43) ?hr ?_; (case hd => rfl); (case hg => rfl); (case hr => first | (go_simp; done) | (go_simp; rfl)); intro gb397 hg w18 hbox hb; have n0_ := pA (below_step (vB HB) hb); have n1_ := pA (hbox); have n2_ := pA ((by rw [hg]; exact (below_size (vB HB)) : w.heap.size ≤ gb397)); have n3_ := pA ((by rw [hg]; exact (below_size (vB HB)) : w.heap.size ≤ gb397)); clear HB; have HB := n0_; have BK397 := n1_; have GW397 := n2_; have GE397 := n3_; clear n0_ n1_ n2_ n3_; clear hb hbox hg) | ((with_reducible refine gate_dst (N := 3) rfl ?_); refine box_event ?hg (N := 3) ?hd (cs := #[.int .i64 a1_0, .int .i64 a1_1]) (t := 26) ?hr ?_; (case hd => rfl); (case hg => rfl); (case hr => first | (go_simp; done) | (go_simp; rfl)); intro gb398 hg w19 hbox hb; have n0_ := pA (blk_below (g := gb397) (o := .cells #[.int .i64 a0_0, .int .i64 a0_1, .slice A0_2 l0_2.length c0_2] 43 (0, 0)) (vK BK397) hb); have n1_ := pA (below_step (by repeat (first | (with_reducible first | exact HB.out | apply below_alloc | apply pw_below_drewN | apply below_drew1 | refine below_set ?_ GE397.out) | exact HB.out)) hb); have n2_ := pA (hbox); have n3_ := pA ((by rw [hg]; exact (below_size (by repeat (first | (with_reducible first | exact HB.out | apply below_alloc | apply pw_below_drewN | apply below_drew1 | refine below_set ?_ GE397.out) | exact HB.out))) : w.heap.size ≤ gb398)); have n4_ := pA ((by rw [hg]; exact (below_size (by repeat (first | (with_reducible first | exact HB.out | apply below_alloc | apply pw_below_drewN | apply below_drew1 | refine below_set ?_ GE397.out) | exact HB.out))) : w.heap.size ≤ gb398)); have n5_ := pA ((by rw [hg]; exact Nat.ne_of_lt (blk_lt (g := gb397) (o := .cells #[.int .i64 a0_0, .int .i64 a0_1, .slice A0_2 l0_2.length c0_2] 43 (0, 0)) (vK BK397)) : gb397 ≠ gb398)); have n6_ := pA ((by rw [hg]; exact Nat.ne_of_gt (blk_lt (g := gb397) (o := .cells #[.int .i64 a0_0, .int .i64 a0_1, .slice A0_2 l0_2.length c0_2] 43 (0, 0)) (vK BK397)) : gb398 ≠ gb397)); clear BK397; clear HB; have BK397 := n0_; have HB := n1_; have BK398 := n2_; have GW398 := n3_; have GE398 := n4_; have NB397_398 := n5_; have NB398_397 := n6_; clear n0_ n1_ n2_ n3_ n4_ n5_ n6_; clear hb hbox hg; have hnb20 := NB397_398.out; have hnc20 := NB398_397.out; have hcz21_0 : w19.cell? ⟨gb397, 0, none⟩ = some (.int .i64 a0_0) := (blk_cell BK397.out 0).trans rfl; have hcz21_1 : w19.cell? ⟨gb397, 1, none⟩ = some (.int .i64 a0_1) := (blk_cell BK397.out 1).trans rfl; have hcz21_2 : w19.cell? ⟨gb397, 2, none⟩ = some (.slice A0_2 l0_2.length c0_2) := (blk_cell BK397.out 2).trans rfl; have hfz21_0 := blk_frozen BK397.out 0; have hfz21_1 := blk_frozen BK397.out 1; have hfz21_2 := blk_frozen BK397.out 2) | ((with_reducible refine aF (f := 80) rfl ?_); refine goesL_ (some 8) rfl rfl Try.func80 (by kernel_rfl) rfl #[.agg #[.int .i64 a0_0, .int .i64 a0_1, .slice A0_2 l0_2.length c0_2]] rfl (by (try simp only [pE, pF, pG]); first | done | rfl | (simp only [pH, pI]; rfl)) ?_; (with_reducible refine (bung_isBung.calls a0_0 a0_1 _ _ l0_2 true _ ?side1 ?side2 A3.out).mono ?_); (case side1 => repeat (first | exact (Kd.C_below HR0_2.out HB.out) | (with_reducible refine Kd.C_alloc ?_ _) | (with_reducible refine Kd.C_drewN ?_ _) | (with_reducible refine Kd.C_drew ?_))); (case side2 => exact HC0_2.out); rintro e w22 ⟨rfl, hb⟩; refine ⟨_, rfl, ?_⟩; have n0_ := pA (blk_below (g := gb397) (o := .cells #[.int .i64 a0_0, .int .i64 a0_1, .slice A0_2 l0_2.length c0_2] 43 (0, 0)) (vK BK397) hb); have n1_ := pA (blk_below (g := gb398) (o := .cells #[.int .i64 a1_0, .int .i64 a1_1] 26 (0, 0)) (vK BK398) hb); have n2_ := pA (below_step (by repeat (first | (with_reducible first | exact HB.out | apply below_alloc | apply pw_below_drewN | apply below_drew1 | refine below_set ?_ GE397.out | refine below_set ?_ GE398.out) | exact HB.out)) hb); clear BK397; clear BK398; clear HB; have BK397 := n0_; have BK398 := n1_; have HB := n2_; clear n0_ n1_ n2_; (try clear hb); (try clear hb2); (try clear hk); (try clear hi); have hcz23_0 : w22.cell? ⟨gb398, 0, none⟩ = some (.int .i64 a1_0) := (blk_cell BK398.out 0).trans rfl; have hcz23_1 : w22.cell? ⟨gb398, 1, none⟩ = some (.int .i64 a1_1) := (blk_cell BK398.out 1).trans rfl; have hfz23_0 := blk_frozen BK398.out 0; have hfz23_1 := blk_frozen BK398.out 1) | ((with_reducible refine aF (f := 85) rfl ?_); refine goesL_ (some 12) rfl rfl Try.func85 (by kernel_rfl) rfl #[.agg #[.int .i64 a1_0, .int .i64 a1_1]] rfl (by (try simp only [pE, pF, pG]); first | done | rfl | (simp only [pH, pI]; rfl)) ?_; (with_reducible refine (bung_isSpot.calls a1_0 a1_1 false _ A5.out).mono ?_); rintro e w24 ⟨rfl, hb⟩; refine ⟨_, rfl, ?_⟩; have n0_ := pA (blk_below (g := gb397) (o := .cells #[.int .i64 a0_0, .int .i64 a0_1, .slice A0_2 l0_2.length c0_2] 43 (0, 0)) (vK BK397) hb); have n1_ := pA (blk_below (g := gb398) (o := .cells #[.int .i64 a1_0, .int .i64 a1_1] 26 (0, 0)) (vK BK398) hb); have n2_ := pA (below_step (by repeat (first | (with_reducible first | exact HB.out | apply below_alloc | apply pw_below_drewN | apply below_drew1 | refine below_set ?_ GE397.out | refine below_set ?_ GE398.out) | exact HB.out)) hb); clear BK397; clear BK398; clear HB; have BK397 := n0_; have BK398 := n1_; have HB := n2_; clear n0_ n1_ n2_; (try clear hb); (try clear hb2); (try clear hk); (try clear hi)))
   go_ret2
   exact ⟨by first | rfl | (simp [errW_none, errW_some] <;> rfl) | (simp [*, errW_none, errW_some] <;> rfl), by repeat (first | (with_reducible first | exact HB.out | apply below_alloc | apply pw_below_drewN | apply below_drew1 | refine below_set ?_ GE397.out | refine below_set ?_ GE398.out) | exact HB.out)⟩
 ·replace c4 := Bool.eq_false_iff.mpr c4
  subst c4
  have H1 : (some (0, 31)) = some (r1, r2) := by rw [if_neg (show ¬ (false = true) by decide)] at H; exact H
  clear H
  have H := H1
  clear H1
  simp only [Option.some.injEq, Prod.mk.injEq] at H
  obtain ⟨rfl, rfl⟩ := H
  go_enter Try.func30, Try.ntmps30
  go_wp2_with (first | ((with_reducible refine gate_dst (N := 2) rfl ?_); refine box_event ?hg (N := 2) ?hd (cs := #[.int .i64 a0_0, .int .i64 a0_1, .slice A0_2 l0_2.length c0_2]) (t := 43) ?hr ?_; (case hd => rfl); (case hg => rfl); (case hr => first | (go_simp; done) | (go_simp; rfl)); intro gb397 hg w25 hbox hb; have n0_ := pA (below_step (vB HB) hb); have n1_ := pA (hbox); have n2_ := pA ((by rw [hg]; exact (below_size (vB HB)) : w.heap.size ≤ gb397)); have n3_ := pA ((by rw [hg]; exact (below_size (vB HB)) : w.heap.size ≤ gb397)); clear HB; have HB := n0_; have BK397 := n1_; have GW397 := n2_; have GE397 := n3_; clear n0_ n1_ n2_ n3_; clear hb hbox hg) | ((with_reducible refine gate_dst (N := 3) rfl ?_); refine box_event ?hg (N := 3) ?hd (cs := #[.int .i64 a1_0, .int .i64 a1_1]) (t := 26) ?hr ?_; (case hd => rfl); (case hg => rfl); (case hr => first | (go_simp; done) | (go_simp; rfl)); intro gb398 hg w26 hbox hb; have n0_ := pA (blk_below (g := gb397) (o := .cells #[.int .i64 a0_0, .int .i64 a0_1, .slice A0_2 l0_2.length c0_2] 43 (0, 0)) (vK BK397) hb); have n1_ := pA (below_step (by repeat (first | (with_reducible first | exact HB.out | apply below_alloc | apply pw_below_drewN | apply below_drew1 | refine below_set ?_ GE397.out) | exact HB.out)) hb); have n2_ := pA (hbox); have n3_ := pA ((by rw [hg]; exact (below_size (by repeat (first | (with_reducible first | exact HB.out | apply below_alloc | apply pw_below_drewN | apply below_drew1 | refine below_set ?_ GE397.out) | exact HB.out))) : w.heap.size ≤ gb398)); have n4_ := pA ((by rw [hg]; exact (below_size (by repeat (first | (with_reducible first | exact HB.out | apply below_alloc | apply pw_below_drewN | apply below_drew1 | refine below_set ?_ GE397.out) | exact HB.out))) : w.heap.size ≤ gb398)); have n5_ := pA ((by rw [hg]; exact Nat.ne_of_lt (blk_lt (g := gb397) (o := .cells #[.int .i64 a0_0, .int .i64 a0_1, .slice A0_2 l0_2.length c0_2] 43 (0, 0)) (vK BK397)) : gb397 ≠ gb398)); have n6_ := pA ((by rw [hg]; exact Nat.ne_of_gt (blk_lt (g := gb397) (o := .cells #[.int .i64 a0_0, .int .i64 a0_1, .slice A0_2 l0_2.length c0_2] 43 (0, 0)) (vK BK397)) : gb398 ≠ gb397)); clear BK397; clear HB; have BK397 := n0_; have HB := n1_; have BK398 := n2_; have GW398 := n3_; have GE398 := n4_; have NB397_398 := n5_; have NB398_397 := n6_; clear n0_ n1_ n2_ n3_ n4_ n5_ n6_; clear hb hbox hg; have hnb27 := NB397_398.out; have hnc27 := NB398_397.out; have hcz28_0 : w26.cell? ⟨gb397, 0, none⟩ = some (.int .i64 a0_0) := (blk_cell BK397.out 0).trans rfl; have hcz28_1 : w26.cell? ⟨gb397, 1, none⟩ = some (.int .i64 a0_1) := (blk_cell BK397.out 1).trans rfl; have hcz28_2 : w26.cell? ⟨gb397, 2, none⟩ = some (.slice A0_2 l0_2.length c0_2) := (blk_cell BK397.out 2).trans rfl; have hfz28_0 := blk_frozen BK397.out 0; have hfz28_1 := blk_frozen BK397.out 1; have hfz28_2 := blk_frozen BK397.out 2) | ((with_reducible refine aF (f := 80) rfl ?_); refine goesL_ (some 8) rfl rfl Try.func80 (by kernel_rfl) rfl #[.agg #[.int .i64 a0_0, .int .i64 a0_1, .slice A0_2 l0_2.length c0_2]] rfl (by (try simp only [pE, pF, pG]); first | done | rfl | (simp only [pH, pI]; rfl)) ?_; (with_reducible refine (bung_isBung.calls a0_0 a0_1 _ _ l0_2 false _ ?side1 ?side2 A3.out).mono ?_); (case side1 => repeat (first | exact (Kd.C_below HR0_2.out HB.out) | (with_reducible refine Kd.C_alloc ?_ _) | (with_reducible refine Kd.C_drewN ?_ _) | (with_reducible refine Kd.C_drew ?_))); (case side2 => exact HC0_2.out); rintro e w29 ⟨rfl, hb⟩; refine ⟨_, rfl, ?_⟩; have n0_ := pA (blk_below (g := gb397) (o := .cells #[.int .i64 a0_0, .int .i64 a0_1, .slice A0_2 l0_2.length c0_2] 43 (0, 0)) (vK BK397) hb); have n1_ := pA (blk_below (g := gb398) (o := .cells #[.int .i64 a1_0, .int .i64 a1_1] 26 (0, 0)) (vK BK398) hb); have n2_ := pA (below_step (by repeat (first | (with_reducible first | exact HB.out | apply below_alloc | apply pw_below_drewN | apply below_drew1 | refine below_set ?_ GE397.out | refine below_set ?_ GE398.out) | exact HB.out)) hb); clear BK397; clear BK398; clear HB; have BK397 := n0_; have BK398 := n1_; have HB := n2_; clear n0_ n1_ n2_; (try clear hb); (try clear hb2); (try clear hk); (try clear hi)))
  go_ret2
  exact ⟨by first | rfl | (simp [errW_none, errW_some] <;> rfl) | (simp [*, errW_none, errW_some] <;> rfl), by repeat (first | (with_reducible first | exact HB.out | apply below_alloc | apply pw_below_drewN | apply below_drew1 | refine below_set ?_ GE397.out | refine below_set ?_ GE398.out) | exact HB.out)⟩
def potbankref03_load.f (l0 : List S52) (a1 : Int) : Option (Int × Int) := if okSome l0 = true ∧ 0 ≤ a1 ∧ a1 < l0.length then some ((sumW (l0.drop (a1.toNat + 1))).f0, (sumW (l0.drop (a1.toNat + 1))).f1) else none
theorem load_next {l : List S52} (h : okSome l = true) {x lo hi : Int} {t : S23} (h0 : 0 ≤ x) (h1 : x < l.length) (ht : 0 ≤ t.f0 ∧ t.f0 ≤ 300000000 ∧ 0 ≤ t.f1 ∧ t.f1 ≤ 300000000) (e0 : lo + (sumW (l.drop x.toNat)).f0 = t.f0) (e1 : hi + (sumW (l.drop x.toNat)).f1 = t.f1) :
  IntKind.i64.wrap (lo + (rd_T52 l x).f1.f0) = lo + (rd_T52 l x).f1.f0 ∧ IntKind.i64.wrap (hi + (rd_T52 l x).f1.f1) = hi + (rd_T52 l x).f1.f1 ∧ lo + (rd_T52 l x).f1.f0 + (sumW (l.drop (x + 1).toNat)).f0 = t.f0 ∧ hi + (rd_T52 l x).f1.f1 + (sumW (l.drop (x + 1).toNat)).f1 = t.f1 := by
 have hl := okSome_len h
 have hv := all_at (okSome_all h) h0 h1
 simp only [vSag, decide_eq_true_eq] at hv
 have hb := sumW_bd (l.drop (x + 1).toNat) (all_drop (okSome_all h) _)
 have hd := List.length_drop (l := l) (i := (x + 1).toNat)
 have hs := sumW_drop l x.toNat (by omega)
 rw [show ((x.toNat : Nat) : Int) = x by omega, show x.toNat + 1 = (x + 1).toNat by omega] at hs
 rw [hs] at e0 e1
 dsimp only at e0 e1
 refine ⟨IntWalk.i64_in _ (by omega), IntWalk.i64_in _ (by omega), by omega, by omega⟩
set_option maxHeartbeats 4000000 in
set_option maxRecDepth 100000 in
theorem potbankref03_load.calls (A0 : Option Addr) (c0 : Nat) (l0 : List S52) (a1 : Int) (r1 r2 : Int) (w : World) (hr0 : Kd.C k52 w A0 l0.length l0) (hc0 : l0.length ≤ c0) (h : potbankref03_load.f l0 a1 = some (r1, r2)) :
  Calls Try.prog 89 #[.slice A0 l0.length c0, .int .i64 a1] w fun e w' => e = .returned (.agg #[.int .i64 r1, .int .i64 r2]) ∧ Below w.heap.size w w' := by
 unfold potbankref03_load.f at h
 split at h
 case isFalse => cases h
 rename_i hok
 simp only [Option.some.injEq, Prod.mk.injEq] at h
 obtain ⟨rfl, rfl⟩ := h
 have HOK := pA hok
 have HR0 := pA hr0
 have hl := okSome_len hok.1
 have HL := pA hl
 obtain ⟨t, ht⟩ : ∃ t, t = sumW (l0.drop (a1.toNat + 1)) := ⟨_, rfl⟩
 have HT := pA (show 0 ≤ t.f0 ∧ t.f0 ≤ 300000000 ∧ 0 ≤ t.f1 ∧ t.f1 ≤ 300000000 by
  have := sumW_bd (l0.drop (a1.toNat + 1)) (all_drop (okSome_all hok.1) _)
  have h2 := List.length_drop (l := l0) (i := a1.toNat + 1)
  rw [ht]
  omega)
 have HS0 := pA (show (0 : Int) + (sumW (l0.drop (a1 + 1).toNat)).f0 = t.f0 ∧ (0 : Int) + (sumW (l0.drop (a1 + 1).toNat)).f1 = t.f1 by rw [ht, show (a1 + 1).toNat = a1.toNat + 1 by omega]; omega)
 rw [← ht]
 have hw1 : wrap64 (a1 + 1) = a1 + 1 := by unfold wrap64; omega
 clear hok hr0 hl ht
 go_enter Try.func89, Try.ntmps89
 go_wp2
 go_loopw [6] (fun v6 W => ∃ x lo hi : Int, v6 = .int .i64 x ∧ Aside0 (0 ≤ x ∧ x ≤ l0.length) ∧ Aside0 (lo + (sumW (l0.drop x.toNat)).f0 = t.f0 ∧ hi + (sumW (l0.drop x.toNat)).f1 = t.f1) ∧ Aside0 (W.heap[w.heap.size]? = some (.cells #[.int .i64 0, .int .i64 0] 23 (0, 0))) ∧ Aside0 (W.heap[w.heap.size + 1]? = some (.cells #[.int .i64 lo, .int .i64 hi] 23 (0, 0))) ∧ Aside0 (Below w.heap.size w W)) (fun v6 _ => l0.length - (intOf v6).toNat)
 case atStart => exact ⟨a1 + 1, 0, 0, by first | rfl | rw [hw1], ⟨by have := HOK.out; omega⟩, HS0, ⟨blk_alloc (heap_alloc_new w _) _⟩, ⟨blk_new2 w _ _⟩, ⟨below_alloc (below_alloc (Below.refl _ _) _) _⟩⟩
 case round =>
  clear HS0 hw1
  obtain ⟨x, lo, hi, rfl, HK, HS, HX0, HX, HB⟩ := hrel
  by_cases hk : x < (l0.length : Int)
  ·have hkb : decide (x < (l0.length : Int)) = true := decide_eq_true hk
   have HN := pA (load_next HOK.out.1 HK.out.1 hk HT.out HS.out.1 HS.out.2)
   have p1 : (0 ≤ x) = True := eq_true HK.out.1
   obtain ⟨ad, e, -, x1, x2, -⟩ := at_T52 (Kd.C_below HR0.out HB.out) x HK.out.1 hk
   cases e
   have HKL := pA hk
   replace hk := eq_true hk
   have y0 := blk_cell HX.out 0
   have y1 := blk_cell HX.out 1
   have z0 := blk_frozen HX.out 0
   have w0 := HN.out.1
   go_wp2
   go_still_tail 10, (by kernel_rfl)
   go_wp2_with fail
   have HX1 := pA (blk_drew (blk_put HX.out 0 (.int .i64 (lo + (rd_T52 l0 x).f1.f0)) rfl))
   have HX2 := pA (blk_drew ((Below.heap_setCell wr ⟨w.heap.size + 1, 0, none⟩ (.int .i64 (lo + (rd_T52 l0 x).f1.f0)) w.heap.size (by simp)).trans HX0.out))
   have HB1 := pA (below_drew (below_set (g := w.heap.size + 1) (j := 0) (v := .int .i64 (lo + (rd_T52 l0 x).f1.f0)) HB.out (Nat.le_succ _)))
   clear x1 x2 y0 y1 z0 w0
   generalize (wr.setCell ⟨w.heap.size + 1, 0, none⟩ (.int .i64 (lo + (rd_T52 l0 x).f1.f0))).drew = W1 at HX1 HX2 HB1 ⊢
   obtain ⟨ad', e, -, -, x2, -⟩ := at_T52 (Kd.C_below HR0.out HB1.out) x HK.out.1 HKL.out
   cases e
   have y1 := blk_cell HX1.out 1
   have z1 := blk_frozen HX1.out 1
   have w1 := HN.out.2.1
   go_still_tail 10, (by kernel_rfl)
   go_wp2
   have HX3 := pA (blk_put HX1.out 1 (.int .i64 (hi + (rd_T52 l0 x).f1.f1)) rfl)
   have HX4 := pA ((Below.heap_setCell W1 ⟨w.heap.size + 1, 1, none⟩ (.int .i64 (hi + (rd_T52 l0 x).f1.f1)) w.heap.size (by simp)).trans HX2.out)
   have HB3 := pA (below_set (g := w.heap.size + 1) (j := 1) (v := .int .i64 (hi + (rd_T52 l0 x).f1.f1)) HB1.out (Nat.le_succ _))
   clear x2 y1 z1 w1
   have hnx : wrap64 (x + 1) = x + 1 := by have := HK.out; have := HL.out; have := HKL.out; unfold wrap64; omega
   go_roundw
   case measure => have := HKL.out; have := HK.out; simp [intOf, hnx]; omega
   case rel => exact ⟨x + 1, _, _, by rw [hnx], ⟨by have := HKL.out; have := HK.out; omega⟩, ⟨HN.out.2.2⟩, ⟨blk_drew HX4.out⟩, ⟨blk_drew HX3.out⟩, ⟨below_drew HB3.out⟩⟩
  ·have hkb : decide (x < (l0.length : Int)) = false := decide_eq_false hk
   have he : lo = t.f0 ∧ hi = t.f1 := by
    have := HS.out
    rw [List.drop_eq_nil_of_le (by have := HK.out; omega)] at this
    simpa [sumW] using this
   obtain ⟨rfl, rfl⟩ := he
   have y0 := blk_cell HX.out 0
   have y1 := blk_cell HX.out 1
   have z0 := blk_cell HX0.out 0
   have z1 := blk_cell HX0.out 1
   have z2 := blk_frozen HX0.out 0
   have z3 := blk_frozen HX0.out 1
   clear hk
   go_wp2
   refine bodyPost_ret (results_cell_row rfl _ _ w.heap.size 23 #[.int .i64 t.f0, .int .i64 t.f1] (0, 0) _ rfl (blk_put (blk_put HX0.out 0 _ rfl) 1 _ rfl) Try.underlying23 rfl (by kernel_rfl)) rfl ?_
   exact ⟨rfl, below_set (below_set HB.out (Nat.le_refl _)) (Nat.le_refl _)⟩
def potbankref03_answer.f (l0 : List S52) (a1 : Int) : Option Int := if okSome l0 = true ∧ 0 ≤ a1 ∧ a1 < l0.length then some (ansOf (sumW (l0.drop (a1.toNat + 1))) (rd_T52 l0 a1).f2) else none
theorem load_some {l : List S52} {a : Int} (h : okSome l = true ∧ 0 ≤ a ∧ a < l.length) : potbankref03_load.f l a = some ((sumW (l.drop (a.toNat + 1))).f0, (sumW (l.drop (a.toNat + 1))).f1) := by
  unfold potbankref03_load.f
  rw [if_pos h]
set_option maxHeartbeats 4000000 in
set_option maxRecDepth 100000 in
theorem potbankref03_answer.calls (A0 : Option Addr) (c0 : Nat) (l0 : List S52) (a1 : Int) (r : Int) (w : World) (hr0 : Kd.C k52 w A0 l0.length l0) (hc0 : l0.length ≤ c0) (h : potbankref03_answer.f l0 a1 = some r) :
  Calls Try.prog 90 #[.slice A0 l0.length c0, .int .i64 a1] w fun e w' => e = .returned (.int .i64 r) ∧ Below w.heap.size w w' := by
 unfold potbankref03_answer.f at h
 split at h
 case isFalse => cases h
 rename_i hok
 obtain rfl := Option.some.inj h
 have HLD := pA (load_some hok)
 have HR0 := pA hr0
 have HOK := pA hok
 obtain ⟨t, ht⟩ : ∃ t, t = sumW (l0.drop (a1.toNat + 1)) := ⟨_, rfl⟩
 rw [← ht] at HLD
 rw [← ht]
 have hlt : a1 < (l0.length : Int) := hok.2.2
 have hge : 0 ≤ a1 := hok.2.1
 obtain ⟨ad, e, -, -, -, x3, x4, -⟩ := at_T52 hr0 a1 hge hlt
 cases e
 have p1 : (0 ≤ a1) = True := eq_true hge
 have p2 : (a1 < (l0.length : Int)) = True := eq_true hlt
 have HX3 := pA x3
 have HX4 := pA x4
 clear h hok ht hlt hge x3 x4 hr0
 go_enter Try.func90, Try.ntmps90
 go_wp2_with fail
 refine (potbankref03_load.calls (some ad) c0 l0 a1 t.f0 t.f1 _ HR0.out hc0 HLD.out).mono ?_
 rintro e w1 ⟨rfl, hb⟩
 have HB := pA hb
 have x3 := pw_cell_below (below_alloc (Below.refl _ _) (.cells #[.int .i64 t.f0, .int .i64 t.f1] 23 (0, 0))) (pw_cell_below hb HX3.out)
 have x4 := pw_cell_below (below_alloc (Below.refl _ _) (.cells #[.int .i64 t.f0, .int .i64 t.f1] 23 (0, 0))) (pw_cell_below hb HX4.out)
 clear hb
 by_cases c1 : t.f1 ≤ (rd_T52 l0 a1).f2.f0
 ·have d1 : decide (t.f1 ≤ (rd_T52 l0 a1).f2.f0) = true := decide_eq_true c1
  have HE := pA (show ansOf t (rd_T52 l0 a1).f2 = 1 by unfold ansOf; rw [if_pos c1])
  clear c1
  go_wp2
  go_quiet (fail)
  go_wp2
  go_ret
  exact ⟨congrArg (fun z => Ending.returned (.int .i64 z)) HE.out.symm, pw_below_drewN (below_alloc HB.out _) _⟩
 ·have d1 : decide (t.f1 ≤ (rd_T52 l0 a1).f2.f0) = false := decide_eq_false c1
  by_cases c2 : t.f0 > (rd_T52 l0 a1).f2.f1
  ·have d2 : decide ((rd_T52 l0 a1).f2.f1 < t.f0) = true := decide_eq_true c2
   have HE := pA (show ansOf t (rd_T52 l0 a1).f2 = 0 by unfold ansOf; rw [if_neg c1, if_pos c2])
   clear c1 c2
   go_wp2
   go_quiet (fail)
   go_wp2
   go_quiet (fail)
   go_wp2
   go_ret
   exact ⟨congrArg (fun z => Ending.returned (.int .i64 z)) HE.out.symm, pw_below_drewN (pw_below_drewN (below_alloc HB.out _) _) _⟩
  ·have d2 : decide ((rd_T52 l0 a1).f2.f1 < t.f0) = false := decide_eq_false c2
   have HE := pA (show ansOf t (rd_T52 l0 a1).f2 = 2 by unfold ansOf; rw [if_neg c1, if_neg c2])
   clear c1 c2
   go_wp2
   go_quiet (fail)
   go_wp2
   go_quiet (fail)
   go_wp2
   go_ret
   exact ⟨congrArg (fun z => Ending.returned (.int .i64 z)) HE.out.symm, pw_below_drewN (pw_below_drewN (below_alloc HB.out _) _) _⟩
def potbankref03_stands.f (l0 : List S52) : Option Int := if okSome l0 = true then some (standsOf l0) else none
theorem ans_cases (a b : S23) : ansOf a b = 0 ∨ ansOf a b = 1 ∨ ansOf a b = 2 := by
 unfold ansOf
 split
 ·exact .inr (.inl rfl)
 ·split
  ·exact .inl rfl
  ·exact .inr (.inr rfl)
theorem answer_some {l : List S52} (h : okSome l = true) {x : Int} (h0 : 0 ≤ x) (h1 : x < l.length) : potbankref03_answer.f l x = some (ansOf (sumW (l.drop (x.toNat + 1))) (rd_T52 l x).f2) := by
  unfold potbankref03_answer.f
  rw [if_pos ⟨h, h0, h1⟩]
theorem courses_next (l : List S52) {x : Int} (h0 : 0 ≤ x) (h1 : x < l.length) : (coursesOf l).take (x + 1).toNat = (coursesOf l).take x.toNat ++ [ansOf (sumW (l.drop (x.toNat + 1))) (rd_T52 l x).f2] := by
  have := coursesOf_take l x.toNat (by omega)
  rw [show (x + 1).toNat = x.toNat + 1 by omega, this, ← rd_at l x.toNat (by omega), show ((x.toNat : Nat) : Int) = x by omega]
set_option maxHeartbeats 4000000 in
set_option maxRecDepth 100000 in
theorem potbankref03_stands.calls (A0 : Option Addr) (c0 : Nat) (l0 : List S52) (r : Int) (w : World) (hr0 : Kd.C k52 w A0 l0.length l0) (hc0 : l0.length ≤ c0) (h : potbankref03_stands.f l0 = some r) :
  Calls Try.prog 91 #[.slice A0 l0.length c0] w fun e w' => e = .returned (.int .i64 r) ∧ Below w.heap.size w w' := by
 unfold potbankref03_stands.f at h
 split at h
 case isFalse => cases h
 rename_i hok
 obtain rfl := Option.some.inj h
 have HR0 := pA hr0
 have HOK := pA hok
 have HL := pA (okSome_len hok)
 clear h hok hr0
 go_enter Try.func91, Try.ntmps91
 go_wp2
 go_loopw [3, 4] (fun v3 v4 W => ∃ x o : Int, v3 = .int .i64 o ∧ v4 = .int .i64 x ∧ Aside0 (0 ≤ x ∧ x ≤ l0.length) ∧ Aside0 ((0 : Int) ∉ (coursesOf l0).take x.toNat ∧ o = if (2 : Int) ∈ (coursesOf l0).take x.toNat then 2 else 1) ∧ Aside0 (Below w.heap.size w W)) (fun _ v4 _ => l0.length - (intOf v4).toNat)
 case atStart => exact ⟨0, 1, rfl, rfl, ⟨by omega⟩, ⟨by simp⟩, ⟨Below.refl _ _⟩⟩
 case round =>
  obtain ⟨x, o, rfl, rfl, HK, HI, HB⟩ := hrel
  by_cases hk : x < (l0.length : Int)
  ·have hkb : decide (x < (l0.length : Int)) = true := decide_eq_true hk
   have HN := pA (courses_next l0 HK.out.1 hk)
   have HA := pA (answer_some HOK.out HK.out.1 hk)
   have HKL := pA hk
   have hnx : wrap64 (x + 1) = x + 1 := by have := HK.out; have := HL.out; unfold wrap64; omega
   obtain ⟨q, hq⟩ : ∃ q, q = ansOf (sumW (l0.drop (x.toNat + 1))) (rd_T52 l0 x).f2 := ⟨_, rfl⟩
   rw [← hq] at HN HA
   have hcs := ans_cases (sumW (l0.drop (x.toNat + 1))) (rd_T52 l0 x).f2
   rw [← hq] at hcs
   have HNX := pA hnx
   clear hk hq hnx
   rcases hcs with rfl | rfl | rfl
   ·have HE := pA (show standsOf l0 = 0 by
     have : (0 : Int) ∈ coursesOf l0 := List.mem_of_mem_take (by rw [HN.out]; simp)
     unfold standsOf allOf
     rw [if_pos this])
    go_wp2_with (go_at_call 90; refine (potbankref03_answer.calls A0 c0 l0 x 0 _ (Kd.C_below HR0.out HB.out) hc0 HA.out).mono ?_; rintro e w1 ⟨rfl, hb⟩; have HB1 := pA (below_step HB.out hb); clear hb)
    go_ret
    exact ⟨congrArg (fun z => Ending.returned (.int .i64 z)) HE.out.symm, HB1.out⟩
   ·go_wp2_with (go_at_call 90; refine (potbankref03_answer.calls A0 c0 l0 x 1 _ (Kd.C_below HR0.out HB.out) hc0 HA.out).mono ?_; rintro e w1 ⟨rfl, hb⟩; have HB1 := pA (below_step HB.out hb); clear hb)
    go_roundw
    case measure => have := HKL.out; have := HK.out; simp [intOf, HNX.out]; omega
    case rel => exact ⟨x + 1, o, rfl, by rw [HNX.out], ⟨by have := HKL.out; have := HK.out; omega⟩, ⟨by rw [HN.out]; have := HI.out; simp only [List.mem_append, List.mem_singleton]; exact ⟨by simp [this.1], by rw [this.2]; simp⟩⟩, HB1⟩
   ·go_wp2_with (go_at_call 90; refine (potbankref03_answer.calls A0 c0 l0 x 2 _ (Kd.C_below HR0.out HB.out) hc0 HA.out).mono ?_; rintro e w1 ⟨rfl, hb⟩; have HB1 := pA (below_step HB.out hb); clear hb)
    go_roundw
    case measure => have := HKL.out; have := HK.out; simp [intOf, HNX.out]; omega
    case rel => exact ⟨x + 1, 2, rfl, by rw [HNX.out], ⟨by have := HKL.out; have := HK.out; omega⟩, ⟨by rw [HN.out]; have := HI.out; simp only [List.mem_append, List.mem_singleton]; exact ⟨by simp [this.1], by simp⟩⟩, HB1⟩
  ·have hkb : decide (x < (l0.length : Int)) = false := decide_eq_false hk
   have HE := pA (show standsOf l0 = o by
    have := HI.out
    rw [List.take_of_length_le (by rw [coursesOf_length]; have := HK.out; omega)] at this
    unfold standsOf allOf
    rw [if_neg this.1, this.2])
   clear hk
   go_wp2
   go_ret
   exact ⟨congrArg (fun z => Ending.returned (.int .i64 z)) HE.out.symm, HB.out⟩
def okBung (a0 a1 : Int) (l : List S52) : Bool := vWad a0 a1 && (okSome l && decide (0 < l.length))
theorem okBung_of {a0 a1 : Int} {l : List S52} (h : okBung a0 a1 l = true) : vWad a0 a1 = true ∧ okSome l = true ∧ 0 < l.length := by
  simp only [okBung, Bool.and_eq_true, decide_eq_true_eq] at h
  exact h
def potbankref03_height.f (a0 a1 : Int) (l : List S52) : Option (Int × Int) := if okBung a0 a1 l = true then some ((heightOf ⟨a0, a1⟩ l).f0, (heightOf ⟨a0, a1⟩ l).f1) else none
/-- The heights of saggars alone. -/
def highLo (l : List S52) : Int := (l.map (·.f3.f0)).sum
def highHi (l : List S52) : Int := (l.map (·.f3.f1)).sum
theorem flat_sum (w : S23) (t : List S52) : sumLo (t.flatMap fun x => [w, x.f3]) = t.length * w.f0 + highLo t ∧ sumHi (t.flatMap fun x => [w, x.f3]) = t.length * w.f1 + highHi t := by
 induction t with
 | nil => simp [sumLo, sumHi, highLo, highHi]
 | cons s t ih =>
  simp only [sumLo, sumHi, highLo, highHi, List.flatMap_cons, List.cons_append, List.nil_append, List.map_cons, List.sum_cons, List.length_cons] at ih ⊢
  rw [show ((t.length + 1 : Nat) : Int) = (t.length : Int) + 1 by omega, Int.add_mul, Int.add_mul]
  omega
theorem height_sum (w : S23) (l : List S52) (h : 0 < l.length) : (heightOf w l).f0 = ((l.length : Int) - 1) * w.f0 + highLo l ∧ (heightOf w l).f1 = ((l.length : Int) - 1) * w.f1 + highHi l := by
 cases l with
 | nil => simp at h
 | cons s t =>
  have := flat_sum w t
  simp only [heightOf, highs, sumLo, sumHi, highLo, highHi, List.map_cons, List.sum_cons, List.length_cons] at this ⊢
  rw [show (((t.length + 1 : Nat) : Int) - 1) = t.length by omega]
  omega
theorem high_next {l : List S52} (h : okSome l = true) {x : Int} (h0 : 0 ≤ x) (h1 : x < l.length) : highLo (l.take (x + 1).toNat) = highLo (l.take x.toNat) + (rd_T52 l x).f3.f0 ∧ highHi (l.take (x + 1).toNat) = highHi (l.take x.toNat) + (rd_T52 l x).f3.f1 := by
 have e : l.take (x + 1).toNat = l.take x.toNat ++ [rd_T52 l x] := by
  rw [show (x + 1).toNat = x.toNat + 1 by omega, List.take_succ_eq_append_getElem (by omega), ← rd_at l x.toNat (by omega), show ((x.toNat : Nat) : Int) = x by omega]
 rw [e]
 simp [highLo, highHi]
theorem high_bd {l : List S52} (h : l.all vSag = true) : 0 ≤ highLo l ∧ highLo l ≤ 10000 * l.length ∧ 0 ≤ highHi l ∧ highHi l ≤ 10000 * l.length := by
 induction l with
 | nil => simp [highLo, highHi]
 | cons s t ih =>
  simp only [List.all_cons, Bool.and_eq_true] at h
  have h1 := ih h.2
  have h2 := h.1
  simp only [vSag, decide_eq_true_eq] at h2
  simp only [highLo, highHi, List.map_cons, List.sum_cons, List.length_cons] at h1 ⊢
  omega
theorem all_take {l : List S52} (h : l.all vSag = true) (i : Nat) : (l.take i).all vSag = true := by
  rw [List.all_eq_true] at h ⊢
  exact fun x hx => h x (List.mem_of_mem_take hx)
theorem wad_mul {n : Nat} {a : Int} (hn : 0 < n) (hn2 : n ≤ 30) (h0 : 0 ≤ a) (h1 : a ≤ 200) : 0 ≤ ((n : Int) - 1) * a ∧ ((n : Int) - 1) * a ≤ 6000 :=
  ⟨Int.mul_nonneg (by omega) h0, Int.le_trans (Int.mul_le_mul_of_nonneg_left h1 (by omega)) (by omega)⟩
set_option maxHeartbeats 4000000 in
set_option maxRecDepth 100000 in
theorem potbankref03_height.calls (a0 a1 : Int) (A0 : Option Addr) (c0 : Nat) (l0 : List S52) (r1 r2 : Int) (w : World) (hr0 : Kd.C k52 w A0 l0.length l0) (hc0 : l0.length ≤ c0) (h : potbankref03_height.f a0 a1 l0 = some (r1, r2)) :
  Calls Try.prog 92 #[.agg #[.int .i64 a0, .int .i64 a1, .slice A0 l0.length c0]] w fun e w' => e = .returned (.agg #[.int .i64 r1, .int .i64 r2]) ∧ Below w.heap.size w w' := by
 unfold potbankref03_height.f at h
 split at h
 case isFalse => cases h
 rename_i hok
 simp only [Option.some.injEq, Prod.mk.injEq] at h
 obtain ⟨rfl, rfl⟩ := h
 obtain ⟨hv, hs, hp⟩ := okBung_of hok
 have hle := okSome_len hs
 simp only [vWad, decide_eq_true_eq] at hv
 have HOK := pA hs
 have HR0 := pA hr0
 have HL := pA (And.intro hp hle)
 obtain ⟨b0, hb0⟩ : ∃ b, b = ((l0.length : Int) - 1) * a0 := ⟨_, rfl⟩
 obtain ⟨b1, hb1⟩ : ∃ b, b = ((l0.length : Int) - 1) * a1 := ⟨_, rfl⟩
 have hm0 := wad_mul hp hle hv.1 (by omega)
 have hm1 := wad_mul (a := a1) hp hle (by omega) (by omega)
 have HH := pA (height_sum ⟨a0, a1⟩ l0 hp)
 dsimp only at HH
 rw [← hb0, ← hb1] at HH
 rw [← hb0] at hm0
 rw [← hb1] at hm1
 have HM := pA (And.intro hm0 hm1)
 have hw1 : wrap64 ((l0.length : Int) - 1) = (l0.length : Int) - 1 := by unfold wrap64; omega
 have hw2 : wrap64 (((l0.length : Int) - 1) * a0) = b0 := by rw [← hb0]; unfold wrap64; omega
 have hw3 : wrap64 (((l0.length : Int) - 1) * a1) = b1 := by rw [← hb1]; unfold wrap64; omega
 have HX := pA (blk_new2 w (.cells #[.int .i64 a0, .int .i64 a1, .slice A0 l0.length c0] 43 (0, 0)) (.cells #[.int .i64 0, .int .i64 0] 23 (0, 0)))
 have HX2 := pA (blk_alloc (heap_alloc_new w (.cells #[.int .i64 a0, .int .i64 a1, .slice A0 l0.length c0] 43 (0, 0))) (.cells #[.int .i64 0, .int .i64 0] 23 (0, 0)))
 clear hok hv hs hp hle hr0 hb0 hb1 hm0 hm1
 go_enter Try.func92, Try.ntmps92
 go_wp2
 clear hw1 hw2 hw3
 go_loopw [5] (fun v5 W => ∃ x lo hi : Int, v5 = .int .i64 x ∧ Aside0 (0 ≤ x ∧ x ≤ l0.length) ∧ Aside0 (lo = b0 + highLo (l0.take x.toNat) ∧ hi = b1 + highHi (l0.take x.toNat)) ∧ Aside0 (W.heap[w.heap.size]? = some (.cells #[.int .i64 a0, .int .i64 a1, .slice A0 l0.length c0] 43 (0, 0))) ∧ Aside0 (W.heap[w.heap.size + 1]? = some (.cells #[.int .i64 0, .int .i64 0] 23 (0, 0))) ∧ Aside0 (W.heap[w.heap.size + 1 + 1]? = some (.cells #[.int .i64 lo, .int .i64 hi] 23 (0, 0))) ∧ Aside0 (Below w.heap.size w W)) (fun v5 _ => l0.length - (intOf v5).toNat)
 case atStart => exact ⟨0, b0, b1, rfl, ⟨by omega⟩, ⟨by simp [highLo, highHi]⟩, ⟨blk_alloc HX2.out _⟩, ⟨blk_alloc HX.out _⟩, ⟨blk_new3 w _ _ _⟩, ⟨below_alloc (below_alloc (below_alloc (Below.refl _ _) _) _) _⟩⟩
 case round =>
  clear HX HX2
  obtain ⟨x, lo, hi, rfl, HK, HS, HX0, HX1, HX, HB⟩ := hrel
  have u2 := blk_cell HX0.out 2
  by_cases hk : x < (l0.length : Int)
  ·have hkb : decide (x < (l0.length : Int)) = true := decide_eq_true hk
   have hv := all_at (okSome_all HOK.out) HK.out.1 hk
   simp only [vSag, decide_eq_true_eq] at hv
   have hbd := high_bd (all_take (okSome_all HOK.out) x.toNat)
   have hlt := List.length_take (l := l0) (i := x.toNat)
   have HN := pA (high_next HOK.out HK.out.1 hk)
   have HW := pA (show IntKind.i64.wrap (lo + (rd_T52 l0 x).f3.f0) = lo + (rd_T52 l0 x).f3.f0 ∧ IntKind.i64.wrap (hi + (rd_T52 l0 x).f3.f1) = hi + (rd_T52 l0 x).f3.f1 by
    have := HS.out
    have := HM.out
    have := HL.out
    exact ⟨IntWalk.i64_in _ (by omega), IntWalk.i64_in _ (by omega)⟩)
   clear hv hbd hlt
   have p1 : (0 ≤ x) = True := eq_true HK.out.1
   obtain ⟨ad, e, -, -, -, -, -, x5, x6, -⟩ := at_T52 (Kd.C_below HR0.out HB.out) x HK.out.1 hk
   cases e
   have HKL := pA hk
   replace hk := eq_true hk
   have y0 := blk_cell HX.out 0
   have y1 := blk_cell HX.out 1
   have z0 := blk_frozen HX.out 0
   have w0 := HW.out.1
   go_wp2
   go_still_tail 11, (by kernel_rfl)
   go_wp2_with fail
   have G1 := pA (blk_drew (blk_put HX.out 0 (.int .i64 (lo + (rd_T52 l0 x).f3.f0)) rfl))
   have G2 := pA (blk_drew ((Below.heap_setCell wr ⟨w.heap.size + 1 + 1, 0, none⟩ (.int .i64 (lo + (rd_T52 l0 x).f3.f0)) w.heap.size (show w.heap.size ≠ w.heap.size + 1 + 1 by omega)).trans HX0.out))
   have G3 := pA (blk_drew ((Below.heap_setCell wr ⟨w.heap.size + 1 + 1, 0, none⟩ (.int .i64 (lo + (rd_T52 l0 x).f3.f0)) (w.heap.size + 1) (by simp)).trans HX1.out))
   have HB1 := pA (below_drew (below_set (g := w.heap.size + 1 + 1) (j := 0) (v := .int .i64 (lo + (rd_T52 l0 x).f3.f0)) HB.out (by omega)))
   clear x5 x6 y0 y1 z0 w0 u2
   generalize (wr.setCell ⟨w.heap.size + 1 + 1, 0, none⟩ (.int .i64 (lo + (rd_T52 l0 x).f3.f0))).drew = W1 at G1 G2 G3 HB1 ⊢
   obtain ⟨ad', e, -, -, -, -, -, -, x6, -⟩ := at_T52 (Kd.C_below HR0.out HB1.out) x HK.out.1 HKL.out
   cases e
   have u2 := blk_cell G2.out 2
   have y1 := blk_cell G1.out 1
   have z1 := blk_frozen G1.out 1
   have w1 := HW.out.2
   go_still_tail 11, (by kernel_rfl)
   go_wp2
   have G4 := pA (blk_put G1.out 1 (.int .i64 (hi + (rd_T52 l0 x).f3.f1)) rfl)
   have G5 := pA ((Below.heap_setCell W1 ⟨w.heap.size + 1 + 1, 1, none⟩ (.int .i64 (hi + (rd_T52 l0 x).f3.f1)) w.heap.size (show w.heap.size ≠ w.heap.size + 1 + 1 by omega)).trans G2.out)
   have G6 := pA ((Below.heap_setCell W1 ⟨w.heap.size + 1 + 1, 1, none⟩ (.int .i64 (hi + (rd_T52 l0 x).f3.f1)) (w.heap.size + 1) (by simp)).trans G3.out)
   have HB3 := pA (below_set (g := w.heap.size + 1 + 1) (j := 1) (v := .int .i64 (hi + (rd_T52 l0 x).f3.f1)) HB1.out (by omega))
   clear x6 y1 z1 w1 u2
   have hnx : wrap64 (x + 1) = x + 1 := by have := HK.out; have := HL.out; have := HKL.out; unfold wrap64; omega
   go_roundw
   case measure => have := HKL.out; have := HK.out; simp [intOf, hnx]; omega
   case rel => exact ⟨x + 1, _, _, by rw [hnx], ⟨by have := HKL.out; have := HK.out; omega⟩, ⟨by have := HS.out; have := HN.out; omega⟩, ⟨blk_drew G5.out⟩, ⟨blk_drew G6.out⟩, ⟨blk_drew G4.out⟩, ⟨below_drew HB3.out⟩⟩
  ·have hkb : decide (x < (l0.length : Int)) = false := decide_eq_false hk
   have he : lo = (heightOf ⟨a0, a1⟩ l0).f0 ∧ hi = (heightOf ⟨a0, a1⟩ l0).f1 := by
    have := HS.out
    rw [List.take_of_length_le (by have := HK.out; omega)] at this
    have := HH.out
    omega
   obtain ⟨rfl, rfl⟩ := he
   have y0 := blk_cell HX.out 0
   have y1 := blk_cell HX.out 1
   have z0 := blk_cell HX1.out 0
   have z1 := blk_cell HX1.out 1
   have z2 := blk_frozen HX1.out 0
   have z3 := blk_frozen HX1.out 1
   clear hk
   go_wp2
   refine bodyPost_ret (results_cell_row rfl _ _ (w.heap.size + 1) 23 #[.int .i64 (heightOf ⟨a0, a1⟩ l0).f0, .int .i64 (heightOf ⟨a0, a1⟩ l0).f1] (0, 0) _ rfl (blk_put (blk_put HX1.out 0 _ rfl) 1 _ rfl) Try.underlying23 rfl (by kernel_rfl)) rfl ?_
   exact ⟨rfl, below_set (below_set HB.out (Nat.le_succ _)) (Nat.le_succ _)⟩
def potbankref01_Down.f (a0 : Int) (a1 : Int) : Option (Int) := if a1 = 0 then (none) else (if (Int.tmod a0 a1) < 0 then (some (wrap64 ((wrap64 (Int.tdiv a0 a1)) - 1))) else (some (wrap64 (Int.tdiv a0 a1))))
set_option maxHeartbeats 8000000 in
set_option maxRecDepth 100000 in
theorem potbankref01_Down.calls (a0 : Int) (a1 : Int) (r : Int) (w : World) (h : potbankref01_Down.f a0 a1 = some r) :
  Calls Try.prog 146 #[.int .i64 a0, .int .i64 a1] w fun e w' => e = .returned (.int .i64 r) ∧ Drawn0 w w' := by
 have H : (if a1 = 0 then (none) else (if (Int.tmod a0 a1) < 0 then (some (wrap64 ((wrap64 (Int.tdiv a0 a1)) - 1))) else (some (wrap64 (Int.tdiv a0 a1))))) = some r := h
 clear h
 by_cases c3 : a1 = 0
 ·rw [if_pos c3] at H
  exact absurd H (by simp)
 ·rw [if_neg c3] at H
  have c3b0 : (a1 == 0) = false := beq_eq_false_iff_ne.mpr c3
  have c3b1 : (a1 != 0) = true := bne_iff_ne.mpr c3
  by_cases c4 : (Int.tmod a0 a1) < 0
  ·rw [if_pos c4] at H
   have c4b0 : decide ((Int.tmod a0 a1) < 0) = true := decide_eq_true c4
   clear c4
   obtain rfl := Option.some.inj H
   go_enter Try.func146, Try.ntmps146
   go_wp2
   go_ret
   exact ⟨by first | rfl | (simp; done) | (simp [*]; done), by repeat (first | exact Drawn0.refl _ | apply Drawn0.step)⟩
  ·rw [if_neg c4] at H
   have c4b0 : decide ((Int.tmod a0 a1) < 0) = false := decide_eq_false c4
   clear c4
   obtain rfl := Option.some.inj H
   go_enter Try.func146, Try.ntmps146
   go_wp2
   go_ret
   exact ⟨by first | rfl | (simp; done) | (simp [*]; done), by repeat (first | exact Drawn0.refl _ | apply Drawn0.step)⟩
def potbankref01_Up.f (a0 : Int) (a1 : Int) : Option (Int) := (potbankref01_Down.f (wrap64 (-a0)) a1).bind fun t243 => (some (wrap64 (-t243)))
set_option maxHeartbeats 8000000 in
set_option maxRecDepth 100000 in
theorem potbankref01_Up.calls (a0 : Int) (a1 : Int) (r : Int) (w : World) (h : potbankref01_Up.f a0 a1 = some r) :
  Calls Try.prog 131 #[.int .i64 a0, .int .i64 a1] w fun e w' => e = .returned (.int .i64 r) ∧ Drawn0 w w' := by
 have H : ((potbankref01_Down.f (wrap64 (-a0)) a1).bind fun t243 => (some (wrap64 (-t243)))) = some r := h
 clear h
 replace H := Option.bind_eq_some_iff.mp H
 obtain ⟨t243, A30, H⟩ := H
 replace H : (some (wrap64 (-t243))) = some r := H
 have A3 := pA A30
 clear A30
 obtain rfl := Option.some.inj H
 go_enter Try.func131, Try.ntmps131
 go_wp2_with (first | ((with_reducible refine aF (f := 146) rfl ?_); refine goesL_ (some 8) rfl rfl Try.func146 (by kernel_rfl) rfl #[.int .i64 (wrap64 (-a0)), .int .i64 a1] rfl (by (try simp only [pE, pF, pG]); first | done | rfl | (simp only [pH, pI]; rfl)) ?_; (with_reducible refine (potbankref01_Down.calls (wrap64 (-a0)) a1 t243 _ A3.out).mono ?_); rintro e w' ⟨rfl, ⟨nd, rfl⟩⟩; refine ⟨_, rfl, ?_⟩))
 go_ret
 exact ⟨by first | rfl | (simp; done) | (simp [*]; done), by repeat (first | exact Drawn0.refl _ | apply Drawn0.step)⟩
def potbankref03_lean.f (a0 a1 : Int) (l : List S52) : Option Int := if okBung a0 a1 l = true then some (leanOf a1 l) else none
theorem up_eq {n : Int} (h0 : 0 ≤ n) (h1 : n ≤ 1000000000000) : potbankref01_Up.f n 1000 = some ((n + 999) / 1000) := by
 unfold potbankref01_Up.f potbankref01_Down.f
 have e1 : wrap64 (-n) = -n := by unfold wrap64; omega
 have e2 : Int.tdiv (-n) 1000 = -(n / 1000) := by rw [Int.neg_tdiv, Int.tdiv_eq_ediv_of_nonneg h0]
 have e3 : Int.tmod (-n) 1000 = -(n % 1000) := by rw [Int.neg_tmod, Int.tmod_eq_emod_of_nonneg h0]
 rw [e1, if_neg (by decide), e2, e3]
 by_cases h : -(n % 1000) < 0
 ·rw [if_pos h]
  simp only [Option.bind_some]
  congr 1
  unfold wrap64
  omega
 ·rw [if_neg h]
  simp only [Option.bind_some]
  congr 1
  unfold wrap64
  omega
theorem lean_high (lo hi : Int) (l : List S52) : (leanRec hi l).2 = if l = [] then 0 else (heightOf ⟨lo, hi⟩ l).f1 + hi := by
 induction l with
 | nil => rfl
 | cons s t ih =>
  rw [if_neg (by simp)]
  have h1 := (height_sum ⟨lo, hi⟩ (s :: t) (by simp)).2
  rw [h1]
  simp only [leanRec, ih, highHi, List.map_cons, List.sum_cons, List.length_cons]
  by_cases ht : t = []
  ·subst ht
   simp
  ·have h2 := (height_sum ⟨lo, hi⟩ t (List.length_pos_iff.2 ht)).2
   rw [if_neg ht, h2]
   simp only [highHi]
   rw [show (((t.length + 1 : Nat) : Int) - 1) = ((t.length : Int) - 1) + 1 by omega, Int.add_mul, Int.one_mul]
   omega
theorem lean_next (lo hi : Int) {l : List S52} {x : Int} (h0 : 0 ≤ x) (h1 : x < l.length) : (leanRec hi (l.drop x.toNat)).1 = (leanRec hi (l.drop (x + 1).toNat)).1 + (rd_T52 l x).f4 * (heightOf ⟨lo, hi⟩ (l.drop x.toNat)).f1 := by
 have e : l.drop x.toNat = rd_T52 l x :: l.drop (x + 1).toNat := by
  rw [List.drop_eq_getElem_cons (by omega), ← rd_at l x.toNat (by omega), show ((x.toNat : Nat) : Int) = x by omega, show (x + 1).toNat = x.toNat + 1 by omega]
 have hh := lean_high lo hi (l.drop x.toNat)
 rw [if_neg (by rw [e]; simp)] at hh
 rw [e] at hh ⊢
 simp only [leanRec] at hh ⊢
 rw [show (leanRec hi (l.drop (x + 1).toNat)).2 + (rd_T52 l x).f3.f1 = (heightOf ⟨lo, hi⟩ (rd_T52 l x :: l.drop (x + 1).toNat)).f1 by omega]
theorem held_3 {W w1 : World} {g t : Nat} {v0 v1 v2 : Value} (h : W.heap[g]? = some (.cells #[v0, v1, v2] t (0, 0))) {q : Prop} (_ : q) (hb : Below W.heap.size W w1) : w1.cell? ⟨g, 0, none⟩ = some v0 ∧ w1.cell? ⟨g, 1, none⟩ = some v1 ∧ w1.cell? ⟨g, 2, none⟩ = some v2 ∧ Below W.heap.size W w1 :=
  ⟨blk_cell (blk_below h hb) 0, blk_cell (blk_below h hb) 1, blk_cell (blk_below h hb) 2, hb⟩
theorem lean_sums (lo hi : Int) (h0 : 0 ≤ hi) (h1 : hi ≤ 200) {l : List S52} (h : okSome l = true) {x s : Int} (hx : 1 ≤ x) (hx2 : x < l.length) (hs : 0 ≤ s) (he : s + (leanRec hi (l.drop x.toNat)).1 = (leanRec hi l.tail).1) :
  IntKind.i64.wrap ((rd_T52 l x).f4 * (heightOf ⟨lo, hi⟩ (l.drop x.toNat)).f1) = (rd_T52 l x).f4 * (heightOf ⟨lo, hi⟩ (l.drop x.toNat)).f1 ∧ IntKind.i64.wrap (s + (rd_T52 l x).f4 * (heightOf ⟨lo, hi⟩ (l.drop x.toNat)).f1) = s + (rd_T52 l x).f4 * (heightOf ⟨lo, hi⟩ (l.drop x.toNat)).f1 ∧
  0 ≤ s + (rd_T52 l x).f4 * (heightOf ⟨lo, hi⟩ (l.drop x.toNat)).f1 ∧ s + (rd_T52 l x).f4 * (heightOf ⟨lo, hi⟩ (l.drop x.toNat)).f1 + (leanRec hi (l.drop (x + 1).toNat)).1 = (leanRec hi l.tail).1 := by
 have hn := lean_next lo hi (l := l) (x := x) (by omega) hx2
 have hl := okSome_len h
 have b1 := leanRec_bd hi h0 h1 (l.drop (x + 1).toNat) (all_drop (okSome_all h) _)
 have b2 := leanRec_bd hi h0 h1 l.tail (by rw [← List.drop_one]; exact all_drop (okSome_all h) 1)
 have b3 := leanRec_bd hi h0 h1 (l.drop x.toNat) (all_drop (okSome_all h) _)
 have hv := all_at (okSome_all h) (i := x) (by omega) hx2
 simp only [vSag, decide_eq_true_eq] at hv
 have hh := lean_high lo hi (l.drop x.toNat)
 have hne : l.drop x.toNat ≠ [] := by
  intro e
  have := congrArg List.length e
  rw [List.length_drop, List.length_nil] at this
  omega
 rw [if_neg hne] at hh
 have hd : l.drop x.toNat = rd_T52 l x :: l.drop (x + 1).toNat := by
  rw [List.drop_eq_getElem_cons (by omega), ← rd_at l x.toNat (by omega), show ((x.toNat : Nat) : Int) = x by omega, show (x + 1).toNat = x.toNat + 1 by omega]
 have hpos : 0 ≤ (heightOf ⟨lo, hi⟩ (l.drop x.toNat)).f1 := by
  rw [hd] at hh ⊢
  simp only [leanRec] at hh
  omega
 have ht : l.tail.length ≤ 30 := by rw [List.length_tail]; omega
 have hq : (l.tail.length : Int) * l.tail.length ≤ 900 := by
  have := Int.mul_le_mul (show (l.tail.length : Int) ≤ 30 by omega) (show (l.tail.length : Int) ≤ 30 by omega) (by omega) (by omega)
  omega
 have hp := Int.mul_nonneg (show 0 ≤ (rd_T52 l x).f4 by omega) hpos
 refine ⟨IntWalk.i64_in _ (by omega), IntWalk.i64_in _ (by omega), by omega, by omega⟩
set_option maxHeartbeats 4000000 in
set_option maxRecDepth 100000 in
theorem potbankref03_lean.calls (a0 a1 : Int) (A0 : Option Addr) (c0 : Nat) (l0 : List S52) (r : Int) (w : World) (hr0 : Kd.C k52 w A0 l0.length l0) (hc0 : l0.length ≤ c0) (h : potbankref03_lean.f a0 a1 l0 = some r) :
  Calls Try.prog 93 #[.agg #[.int .i64 a0, .int .i64 a1, .slice A0 l0.length c0]] w fun e w' => e = .returned (.int .i64 r) ∧ Below w.heap.size w w' := by
 unfold potbankref03_lean.f at h
 split at h
 case isFalse => cases h
 rename_i hok
 obtain rfl := Option.some.inj h
 obtain ⟨hv, hs, hp⟩ := okBung_of hok
 have hle := okSome_len hs
 have hvv := hv
 simp only [vWad, decide_eq_true_eq] at hvv
 have HV := pA hv
 have HA1 := pA (show 0 ≤ a1 ∧ a1 ≤ 200 by omega)
 have HOK := pA hs
 have HR0 := pA hr0
 have HL := pA (And.intro hp hle)
 have HX := pA (heap_alloc_new w (.cells #[.int .i64 a0, .int .i64 a1, .slice A0 l0.length c0] 43 (0, 0)))
 clear hok hv hs hp hle hr0 h hvv
 go_enter Try.func93, Try.ntmps93
 go_wp2
 go_loopw [3, 4] (fun v3 v4 W => ∃ x s : Int, v3 = .int .i64 s ∧ v4 = .int .i64 x ∧ Aside0 (1 ≤ x ∧ x ≤ l0.length) ∧ Aside0 (0 ≤ s ∧ s + (leanRec a1 (l0.drop x.toNat)).1 = (leanRec a1 l0.tail).1) ∧ Aside0 (W.heap[w.heap.size]? = some (.cells #[.int .i64 a0, .int .i64 a1, .slice A0 l0.length c0] 43 (0, 0))) ∧ Aside0 (Below w.heap.size w W)) (fun _ v4 _ => l0.length - (intOf v4).toNat)
 case atStart => exact ⟨1, 0, rfl, rfl, ⟨by have := HL.out; omega⟩, ⟨by rw [show (1 : Int).toNat = 1 from rfl, List.drop_one]; omega⟩, HX, ⟨below_alloc (Below.refl _ _) _⟩⟩
 case round =>
  clear HX
  obtain ⟨x, s, rfl, rfl, HK, HS, HX, HB⟩ := hrel
  have u0 := blk_cell HX.out 0
  have u1 := blk_cell HX.out 1
  have u2 := blk_cell HX.out 2
  by_cases hk : x < (l0.length : Int)
  ·have hkb : decide (x < (l0.length : Int)) = true := decide_eq_true hk
   have HKL := pA hk
   have HN := pA (lean_sums a0 a1 HA1.out.1 HA1.out.2 HOK.out HK.out.1 hk HS.out.1 HS.out.2)
   obtain ⟨y, hy⟩ : ∃ y, y = l0.drop x.toNat := ⟨_, rfl⟩
   have HY := pA hy
   have hyl : y.length = l0.length - x.toNat := by rw [hy, List.length_drop]
   have HH := pA (show potbankref03_height.f a0 a1 y = some ((heightOf ⟨a0, a1⟩ y).f0, (heightOf ⟨a0, a1⟩ y).f1) by
    unfold potbankref03_height.f
    rw [if_pos]
    have h1 := all_drop (okSome_all HOK.out) x.toNat
    have := HK.out
    have := HL.out
    rw [hy]
    simp [okBung, HV.out, okSome, h1]
    omega)
   rw [← hy] at HN
   obtain ⟨H, hH⟩ : ∃ H, H = heightOf ⟨a0, a1⟩ y := ⟨_, rfl⟩
   rw [← hH] at HH HN
   have hq0 : 0 ≤ x := by have := HK.out; omega
   have hq1 : x ≤ (l0.length : Int) := by omega
   obtain ⟨i0, hi0, _, hsz0, _⟩ := info_parts info52
   have hcut := cut_from (P := Try.prog) 24 52 .i64 Try.underlying24 hi0 8 hsz0 A0 l0.length c0 x hq0 hq1
   have hr := Kd.C_drop (m := x.toNat) (c := c0) (Kd.C_below HR0.out HB.out) (by omega) hc0
   obtain ⟨A9, hA9⟩ : ∃ A1, A1 = (if c0 = x.toNat then A0 else A0.map (·.add (x.toNat * 8))) := ⟨_, rfl⟩
   obtain ⟨c9, hc9⟩ : ∃ c1, c1 = c0 - x.toNat := ⟨_, rfl⟩
   rw [← hy] at hr
   replace hr : Kd.C k52 wr A9 y.length y := by rw [hA9]; exact hr
   rw [← hyl, ← hA9, ← hc9] at hcut
   have HR9 := pA hr
   have HC9 := pA (show y.length ≤ c9 by rw [hyl, hc9]; exact Nat.sub_le_sub_right hc0 _)
   obtain ⟨ad, e, -, -, -, -, -, -, -, x7⟩ := at_T52 (Kd.C_below HR0.out HB.out) x hq0 hk
   have HX7 := pA x7
   cases e
   clear hy hyl hH hi0 hsz0 hr hA9 hc9 x7 hq1
   have p1 := eq_true hq0
   replace hk := eq_true hk
   go_wp2
   go_region_held3 (fun w' => w'.cell? ⟨w.heap.size, 0, none⟩ = some (.int .i64 a0) ∧ w'.cell? ⟨w.heap.size, 1, none⟩ = some (.int .i64 a1) ∧ w'.cell? ⟨w.heap.size, 2, none⟩ = some (.slice (some ad) l0.length c0) ∧ Below wr.heap.size wr w')
    (first
     | exact ⟨u0, u1, u2, below_drew (Below.refl _ _)⟩
     | exact held_3 HX.out trivial (below_alloc (below_drew (Below.refl _ _)) _)
     | exact held_3 HX.out trivial (below_alloc (Below.refl _ _) _)
     | go_keep)
    (first | fail)
   go_wp2_with fail
   have HY5 := pA (heap_alloc_new wr (.cells #[.int .i64 a0, .int .i64 a1, .slice A9 y.length c9] 43 (0, 0)))
   obtain ⟨W2, hW2⟩ : ∃ W, W = wr.alloc (.cells #[.int .i64 a0, .int .i64 a1, .slice A9 y.length c9] 43 (0, 0)) := ⟨_, rfl⟩
   have HB2 := pA (show Below wr.heap.size wr W2 by rw [hW2]; exact below_alloc (Below.refl _ _) _)
   rw [← hW2] at HY5
   rw [← hW2]
   clear hW2 u0 u1 u2
   have hu23 : ∀ w : World, (Instr.field 23 (.agg #[.int .i64 H.f0, .int .i64 H.f1]) 1).run Try.prog w = .ok (.int .i64 H.f1) w := fun _ => by kernel_rfl
   have m1 := HN.out.1
   have m2 := HN.out.2.1
   go_region_held3 (fun w' => w'.cell? ⟨w.heap.size, 2, none⟩ = some (.slice (some ad) l0.length c0) ∧ w'.cell? ⟨(ad.add (x.toNat * 8)).block, (ad.add (x.toNat * 8)).off + 7, none⟩ = some (.int .i64 (rd_T52 l0 x).f4) ∧ w'.cell? ⟨wr.heap.size, 0, none⟩ = some (.int .i64 a0) ∧ w'.cell? ⟨wr.heap.size, 1, none⟩ = some (.int .i64 a1) ∧ w'.cell? ⟨wr.heap.size, 2, none⟩ = some (.slice A9 y.length c9) ∧ Below W2.heap.size W2 w')
    (first
     | exact pk_keep6 (by assumption) (by assumption)
     | exact ⟨blk_cell (blk_below HX.out HB2.out) 2, pw_cell_below HB2.out HX7.out, blk_cell HY5.out 0, blk_cell HY5.out 1, blk_cell HY5.out 2, below_drew (below_drew (Below.refl _ _))⟩
     | exact ⟨blk_cell (blk_below HX.out HB2.out) 2, pw_cell_below HB2.out HX7.out, blk_cell HY5.out 0, blk_cell HY5.out 1, blk_cell HY5.out 2, below_drew (Below.refl _ _)⟩
     | go_keep)
    (first
     | (go_at_call 92; refine (potbankref03_height.calls a0 a1 A9 c9 y H.f0 H.f1 _ (Kd.C_below HR9.out (below_step HB2.out (pk_sixth (by assumption)))) HC9.out HH.out).mono ?_; rintro e w1 ⟨rfl, hb⟩))
   have HB3 := pA (below_step HB2.out (pk_sixth (by assumption)))
   clear hb m1 m2 hcut hu23
   have hnx : wrap64 (x + 1) = x + 1 := by have := HK.out; have := HL.out; have := HKL.out; unfold wrap64; omega
   go_wp2
   go_roundw
   case measure => have := HKL.out; have := HK.out; simp [intOf, hnx]; omega
   case rel => exact ⟨x + 1, _, rfl, by rw [hnx], ⟨by have := HKL.out; have := HK.out; omega⟩, ⟨HN.out.2.2⟩, ⟨blk_below HX.out HB3.out⟩, ⟨below_step HB.out HB3.out⟩⟩
  ·have hkb : decide (x < (l0.length : Int)) = false := decide_eq_false hk
   have he : s = (leanRec a1 l0.tail).1 := by
    have := HS.out.2
    rw [List.drop_eq_nil_of_le (by have := HK.out; omega)] at this
    simpa [leanRec] using this
   have hbd := leanRec_bd a1 HA1.out.1 HA1.out.2 l0.tail (by rw [← List.drop_one]; exact all_drop (okSome_all HOK.out) 1)
   have HU := pA (show potbankref01_Up.f s 1000 = some (leanOf a1 l0) by
    have ht : l0.tail.length ≤ 30 := by have := HL.out; rw [List.length_tail]; omega
    have := Int.mul_le_mul (show (l0.tail.length : Int) ≤ 30 by omega) (show (l0.tail.length : Int) ≤ 30 by omega) (by omega) (by omega)
    rw [up_eq (by omega) (by omega), he]
    rfl)
   clear hk he hbd
   go_wp2_with (go_at_call 131; refine (potbankref01_Up.calls s 1000 (leanOf a1 l0) _ HU.out).mono ?_; rintro e w1 ⟨rfl, hd⟩; have HB1 := pA (below_step HB.out hd.below); clear hd)
   go_ret
   exact ⟨rfl, HB1.out⟩
def potbankref03_fits.j0 : Nat → Int → Bool → Int → Int → List (S52) → Int → Int → Int → Int → Option (Int)
  | 0, _, _, _, _, _, _, _, _, _ => none
  | k + 1, x6, x20, x245000, x245001, x245002, x246000, x246001, x249000, x249001 => if x20 = true then (some 0) else (if x249001 ≤ x246000 then ((potbankref03_lean.f x245000 x245001 x245002).bind fun t250 => (if t250 ≤ x246001 then (if x6 = 1 then (some 1) else (some 2)) else (some 2))) else (some 2))
def potbankref03_fits.f (k : Nat) (a0_0 : Int) (a0_1 : Int) (l0_2 : List (S52)) (a1_0 : Int) (a1_1 : Int) : Option (Int) := (potbankref03_height.f a0_0 a0_1 l0_2).bind fun bt246 => ((potbankref03_stands.f l0_2).bind fun t249 => (if bt246.1 > a1_0 then (potbankref03_fits.j0 k t249 true a0_0 a0_1 l0_2 a1_0 a1_1 bt246.1 bt246.2) else (potbankref03_fits.j0 k t249 (t249 == 0) a0_0 a0_1 l0_2 a1_0 a1_1 bt246.1 bt246.2)))
theorem potbankref03_fits.mono_l : ∀ k, (∀ y0 y1 y2 y3 y4 y5 y6 y7 y8, LeO (potbankref03_fits.j0 k y0 y1 y2 y3 y4 y5 y6 y7 y8) (potbankref03_fits.j0 (k + 1) y0 y1 y2 y3 y4 y5 y6 y7 y8))
 | 0 => fun _ _ _ _ _ _ _ _ _ r h => by simp [potbankref03_fits.j0] at h
 | k + 1 => by
  have ih0 := potbankref03_fits.mono_l k
  ·intro y0 y1 y2 y3 y4 y5 y6 y7 y8
   unfold potbankref03_fits.j0
   repeat' first
   | (with_reducible exact ih0 _ _ _ _ _ _ _ _ _)
   | (with_reducible exact LeO.refl _)
   | (with_reducible exact LeO.none _)
   | (with_reducible refine LeO.ite ?_ ?_)
   | (with_reducible refine LeO.bind ?_ (fun _ => ?_))
   | exact ih0 _ _ _ _ _ _ _ _ _
   | exact LeO.none _
   | refine LeO.ite ?_ ?_
   | refine LeO.bind ?_ (fun _ => ?_)
theorem potbankref03_fits.mono : ∀ a0 a1 a2 a3 a4 k, LeO (potbankref03_fits.f k a0 a1 a2 a3 a4) (potbankref03_fits.f (k + 1) a0 a1 a2 a3 a4) := by
 intro a0 a1 a2 a3 a4 k
 have ih0 := potbankref03_fits.mono_l k
 unfold potbankref03_fits.f
 repeat' first
   | (with_reducible exact ih0 _ _ _ _ _ _ _ _ _)
   | (with_reducible exact LeO.refl _)
   | (with_reducible exact LeO.none _)
   | (with_reducible refine LeO.ite ?_ ?_)
   | (with_reducible refine LeO.bind ?_ (fun _ => ?_))
   | exact ih0 _ _ _ _ _ _ _ _ _
   | exact LeO.none _
   | refine LeO.ite ?_ ?_
   | refine LeO.bind ?_ (fun _ => ?_)
def potbankref03_fits.T5 : Bool × List (List Nat × List Nat) := (true, [([], []), ([0], [0]), ([], []), ([2], [2]), ([1, 3], [1, 3]), ([4], [4]), ([5], [5]), ([6, 5, 5], [5, 6]), ([5], [5]), ([8, 5], [5, 8]), ([7, 9, 5], [5, 7, 9]), ([5, 10], [5, 10]), ([11, 7], [11]), ([12], [12]), ([13, 12], [12, 13]), ([12, 14], [12, 14])])
def potbankref03_fits.B5 : List Nat := [0, 1, 0, 4, 15, 31, 63, 127, 63, 319, 1023, 2047, 4095, 8191, 16383, 32767]
theorem potbankref03_fits.tab5 : rtab .any (opsOf Try.f87 5) = potbankref03_fits.T5 := by kernel_rfl
theorem potbankref03_fits.bits5 : waitsOk potbankref03_fits.T5.2 potbankref03_fits.B5 = true := by kernel_rfl
set_option maxHeartbeats 8000000 in
set_option maxRecDepth 100000 in
theorem potbankref03_fits.calls (k : Nat) (a0_0 : Int) (a0_1 : Int) (A0_2 : Option Addr) (c0_2 : Nat) (l0_2 : List (S52)) (a1_0 : Int) (a1_1 : Int) (r : Int) (w : World) (hr0_2 : Kd.C k52 w A0_2 l0_2.length l0_2) (hc0_2 : l0_2.length ≤ c0_2) (h : potbankref03_fits.f k a0_0 a0_1 l0_2 a1_0 a1_1 = some r) :
  Calls Try.prog 87 #[.agg #[.int .i64 a0_0, .int .i64 a0_1, .slice A0_2 l0_2.length c0_2], .agg #[.int .i64 a1_0, .int .i64 a1_1]] w fun e w' => e = .returned (.int .i64 r) ∧ Below w.heap.size w w' := by
 have hu43 := Try.underlying43
 have hu26 := Try.underlying26
 have hu23 := Try.underlying23
 have HR0_2 := pA hr0_2
 have HC0_2 := pA hc0_2
 clear hr0_2 hc0_2
 have HB := pA (Below.refl w.heap.size w)
 have H : ((potbankref03_height.f a0_0 a0_1 l0_2).bind fun bt246 => ((potbankref03_stands.f l0_2).bind fun t249 => (if bt246.1 > a1_0 then (potbankref03_fits.j0 k t249 true a0_0 a0_1 l0_2 a1_0 a1_1 bt246.1 bt246.2) else (potbankref03_fits.j0 k t249 (t249 == 0) a0_0 a0_1 l0_2 a1_0 a1_1 bt246.1 bt246.2)))) = some r := h
 clear h
 replace H := Option.bind_eq_some_iff.mp H
 obtain ⟨⟨t246, t247⟩, A30, H⟩ := H
 replace H : ((potbankref03_stands.f l0_2).bind fun t249 => (if t246 > a1_0 then (potbankref03_fits.j0 k t249 true a0_0 a0_1 l0_2 a1_0 a1_1 t246 t247) else (potbankref03_fits.j0 k t249 (t249 == 0) a0_0 a0_1 l0_2 a1_0 a1_1 t246 t247))) = some r := H
 have A3 := pA A30
 clear A30
 replace H := Option.bind_eq_some_iff.mp H
 obtain ⟨t249, A40, H⟩ := H
 replace H : (if t246 > a1_0 then (potbankref03_fits.j0 k t249 true a0_0 a0_1 l0_2 a1_0 a1_1 t246 t247) else (potbankref03_fits.j0 k t249 (t249 == 0) a0_0 a0_1 l0_2 a1_0 a1_1 t246 t247)) = some r := H
 have A4 := pA A40
 clear A40
 have HC5 := pA H
 clear H
 go_enter Try.func87, Try.ntmps87
 go_upto_region 3 with (first | ((with_reducible refine gate_dst (N := 2) rfl ?_); refine box_event ?hg (N := 2) ?hd (cs := #[.int .i64 a0_0, .int .i64 a0_1, .slice A0_2 l0_2.length c0_2]) (t := 43) ?hr ?_; (case hd => rfl); (case hg => rfl); (case hr => first | (go_simp; done) | (go_simp; rfl)); intro gb244 hg w6 hbox hb; have n0_ := pA (below_step (vB HB) hb); have n1_ := pA (hbox); have n2_ := pA ((by rw [hg]; exact (below_size (vB HB)) : w.heap.size ≤ gb244)); have n3_ := pA ((by rw [hg]; exact (below_size (vB HB)) : w.heap.size ≤ gb244)); clear HB; have HB := n0_; have BK244 := n1_; have GW244 := n2_; have GE244 := n3_; clear n0_ n1_ n2_ n3_; clear hb hbox hg) | ((with_reducible refine gate_dst (N := 3) rfl ?_); refine box_event ?hg (N := 3) ?hd (cs := #[.int .i64 a1_0, .int .i64 a1_1]) (t := 26) ?hr ?_; (case hd => rfl); (case hg => rfl); (case hr => first | (go_simp; done) | (go_simp; rfl)); intro gb245 hg w7 hbox hb; have n0_ := pA (blk_below (g := gb244) (o := .cells #[.int .i64 a0_0, .int .i64 a0_1, .slice A0_2 l0_2.length c0_2] 43 (0, 0)) (vK BK244) hb); have n1_ := pA (below_step (by repeat (first | (with_reducible first | exact HB.out | apply below_alloc | apply pw_below_drewN | apply below_drew1 | refine below_set ?_ GE244.out) | exact HB.out)) hb); have n2_ := pA (hbox); have n3_ := pA ((by rw [hg]; exact (below_size (by repeat (first | (with_reducible first | exact HB.out | apply below_alloc | apply pw_below_drewN | apply below_drew1 | refine below_set ?_ GE244.out) | exact HB.out))) : w.heap.size ≤ gb245)); have n4_ := pA ((by rw [hg]; exact (below_size (by repeat (first | (with_reducible first | exact HB.out | apply below_alloc | apply pw_below_drewN | apply below_drew1 | refine below_set ?_ GE244.out) | exact HB.out))) : w.heap.size ≤ gb245)); have n5_ := pA ((by rw [hg]; exact Nat.ne_of_lt (blk_lt (g := gb244) (o := .cells #[.int .i64 a0_0, .int .i64 a0_1, .slice A0_2 l0_2.length c0_2] 43 (0, 0)) (vK BK244)) : gb244 ≠ gb245)); have n6_ := pA ((by rw [hg]; exact Nat.ne_of_gt (blk_lt (g := gb244) (o := .cells #[.int .i64 a0_0, .int .i64 a0_1, .slice A0_2 l0_2.length c0_2] 43 (0, 0)) (vK BK244)) : gb245 ≠ gb244)); clear BK244; clear HB; have BK244 := n0_; have HB := n1_; have BK245 := n2_; have GW245 := n3_; have GE245 := n4_; have NB244_245 := n5_; have NB245_244 := n6_; clear n0_ n1_ n2_ n3_ n4_ n5_ n6_; clear hb hbox hg; have hnb8 := NB244_245.out; have hnc8 := NB245_244.out; have hcz9_0 : w7.cell? ⟨gb244, 0, none⟩ = some (.int .i64 a0_0) := (blk_cell BK244.out 0).trans rfl; have hcz9_1 : w7.cell? ⟨gb244, 1, none⟩ = some (.int .i64 a0_1) := (blk_cell BK244.out 1).trans rfl; have hcz9_2 : w7.cell? ⟨gb244, 2, none⟩ = some (.slice A0_2 l0_2.length c0_2) := (blk_cell BK244.out 2).trans rfl; have hfz9_0 := blk_frozen BK244.out 0; have hfz9_1 := blk_frozen BK244.out 1; have hfz9_2 := blk_frozen BK244.out 2) | ((with_reducible refine aF (f := 92) rfl ?_); refine goesL_ (some 8) rfl rfl Try.func92 (by kernel_rfl) rfl #[.agg #[.int .i64 a0_0, .int .i64 a0_1, .slice A0_2 l0_2.length c0_2]] rfl (by (try simp only [pE, pF, pG]); first | done | rfl | (simp only [pH, pI]; rfl)) ?_; (with_reducible refine (potbankref03_height.calls a0_0 a0_1 _ _ l0_2 t246 t247 _ ?side1 ?side2 A3.out).mono ?_); (case side1 => repeat (first | exact (Kd.C_below HR0_2.out HB.out) | (with_reducible refine Kd.C_alloc ?_ _) | (with_reducible refine Kd.C_drewN ?_ _) | (with_reducible refine Kd.C_drew ?_))); (case side2 => exact HC0_2.out); rintro e w10 ⟨rfl, hb⟩; refine ⟨_, rfl, ?_⟩; have n0_ := pA (blk_below (g := gb244) (o := .cells #[.int .i64 a0_0, .int .i64 a0_1, .slice A0_2 l0_2.length c0_2] 43 (0, 0)) (vK BK244) hb); have n1_ := pA (blk_below (g := gb245) (o := .cells #[.int .i64 a1_0, .int .i64 a1_1] 26 (0, 0)) (vK BK245) hb); have n2_ := pA (below_step (by repeat (first | (with_reducible first | exact HB.out | apply below_alloc | apply pw_below_drewN | apply below_drew1 | refine below_set ?_ GE244.out | refine below_set ?_ GE245.out) | exact HB.out)) hb); clear BK244; clear BK245; clear HB; have BK244 := n0_; have BK245 := n1_; have HB := n2_; clear n0_ n1_ n2_; (try clear hb); (try clear hb2); (try clear hk); (try clear hi)) | ((with_reducible refine gate_dst (N := 5) rfl ?_); refine box_event ?hg (N := 5) ?hd (cs := #[.int .i64 0, .int .i64 0]) (t := 23) ?hr ?_; (case hd => rfl); (case hg => rfl); (case hr => first | (go_simp; done) | (go_simp; rfl)); intro gb248 hg w11 hbox hb; have n0_ := pA (blk_below (g := gb244) (o := .cells #[.int .i64 a0_0, .int .i64 a0_1, .slice A0_2 l0_2.length c0_2] 43 (0, 0)) (vK BK244) hb); have n1_ := pA (blk_below (g := gb245) (o := .cells #[.int .i64 a1_0, .int .i64 a1_1] 26 (0, 0)) (vK BK245) hb); have n2_ := pA (below_step (by repeat (first | (with_reducible first | exact HB.out | apply below_alloc | apply pw_below_drewN | apply below_drew1 | refine below_set ?_ GE244.out | refine below_set ?_ GE245.out) | exact HB.out)) hb); have n3_ := pA (hbox); have n4_ := pA ((by rw [hg]; exact (below_size (by repeat (first | (with_reducible first | exact HB.out | apply below_alloc | apply pw_below_drewN | apply below_drew1 | refine below_set ?_ GE244.out | refine below_set ?_ GE245.out) | exact HB.out))) : w.heap.size ≤ gb248)); have n5_ := pA ((by rw [hg]; exact (below_size (by repeat (first | (with_reducible first | exact HB.out | apply below_alloc | apply pw_below_drewN | apply below_drew1 | refine below_set ?_ GE244.out | refine below_set ?_ GE245.out) | exact HB.out))) : w.heap.size ≤ gb248)); have n6_ := pA ((by rw [hg]; exact Nat.ne_of_lt (blk_lt (g := gb244) (o := .cells #[.int .i64 a0_0, .int .i64 a0_1, .slice A0_2 l0_2.length c0_2] 43 (0, 0)) (vK BK244)) : gb244 ≠ gb248)); have n7_ := pA ((by rw [hg]; exact Nat.ne_of_gt (blk_lt (g := gb244) (o := .cells #[.int .i64 a0_0, .int .i64 a0_1, .slice A0_2 l0_2.length c0_2] 43 (0, 0)) (vK BK244)) : gb248 ≠ gb244)); have n8_ := pA ((by rw [hg]; exact Nat.ne_of_lt (blk_lt (g := gb245) (o := .cells #[.int .i64 a1_0, .int .i64 a1_1] 26 (0, 0)) (vK BK245)) : gb245 ≠ gb248)); have n9_ := pA ((by rw [hg]; exact Nat.ne_of_gt (blk_lt (g := gb245) (o := .cells #[.int .i64 a1_0, .int .i64 a1_1] 26 (0, 0)) (vK BK245)) : gb248 ≠ gb245)); clear BK244; clear BK245; clear HB; have BK244 := n0_; have BK245 := n1_; have HB := n2_; have BK248 := n3_; have GW248 := n4_; have GE248 := n5_; have NB244_248 := n6_; have NB248_244 := n7_; have NB245_248 := n8_; have NB248_245 := n9_; clear n0_ n1_ n2_ n3_ n4_ n5_ n6_ n7_ n8_ n9_; clear hb hbox hg; have hnb12 := NB248_244.out; have hnc12 := NB244_248.out; have hnb13 := NB248_245.out; have hnc13 := NB245_248.out; have hcz14_0 : w11.cell? ⟨gb248, 0, none⟩ = some (.int .i64 0) := (blk_cell BK248.out 0).trans rfl; have hcz14_1 : w11.cell? ⟨gb248, 1, none⟩ = some (.int .i64 0) := (blk_cell BK248.out 1).trans rfl; have hfz14_0 := blk_frozen BK248.out 0; have hfz14_1 := blk_frozen BK248.out 1; have hcz15_0 : w11.cell? ⟨gb244, 0, none⟩ = some (.int .i64 a0_0) := (blk_cell BK244.out 0).trans rfl; have hcz15_1 : w11.cell? ⟨gb244, 1, none⟩ = some (.int .i64 a0_1) := (blk_cell BK244.out 1).trans rfl; have hcz15_2 : w11.cell? ⟨gb244, 2, none⟩ = some (.slice A0_2 l0_2.length c0_2) := (blk_cell BK244.out 2).trans rfl; have hfz15_0 := blk_frozen BK244.out 0; have hfz15_1 := blk_frozen BK244.out 1; have hfz15_2 := blk_frozen BK244.out 2) | ((with_reducible refine aF (f := 91) rfl ?_); refine goesL_ (some 11) rfl rfl Try.func91 (by kernel_rfl) rfl #[.slice A0_2 l0_2.length c0_2] rfl (by (try simp only [pE, pF, pG]); first | done | rfl | (simp only [pH, pI]; rfl)) ?_; (with_reducible refine (potbankref03_stands.calls _ _ l0_2 t249 _ ?side1 ?side2 A4.out).mono ?_); (case side1 => exact Kd.C_below HR0_2.out (by repeat (first | (with_reducible first | exact HB.out | apply below_alloc | apply pw_below_drewN | apply below_drew1 | refine below_set ?_ GE244.out | refine below_set ?_ GE245.out | refine below_set ?_ GE248.out) | exact HB.out))); (case side2 => exact HC0_2.out); rintro e w16 ⟨rfl, hb⟩; refine ⟨_, rfl, ?_⟩; have n0_ := pA (blk_below (g := gb244) (o := .cells #[.int .i64 a0_0, .int .i64 a0_1, .slice A0_2 l0_2.length c0_2] 43 (0, 0)) (by (with_reducible repeat refine vS ?_); refine blk_far ?_ NB244_248.out _; (with_reducible repeat refine vS ?_); refine blk_far ?_ NB244_248.out _; (with_reducible repeat refine vS ?_); exact BK244.out) hb); have n1_ := pA (blk_below (g := gb245) (o := .cells #[.int .i64 a1_0, .int .i64 a1_1] 26 (0, 0)) (by (with_reducible repeat refine vS ?_); refine blk_far ?_ NB245_248.out _; (with_reducible repeat refine vS ?_); refine blk_far ?_ NB245_248.out _; (with_reducible repeat refine vS ?_); exact BK245.out) hb); have n2_ := pA (blk_below (g := gb248) (o := .cells #[.int .i64 t246, .int .i64 t247] 23 (0, 0)) (by (with_reducible repeat refine vS ?_); refine blk_put (cs := #[.int .i64 t246, .int .i64 0]) ?_ 1 _ rfl; (with_reducible repeat refine vS ?_); refine blk_put (cs := #[.int .i64 0, .int .i64 0]) ?_ 0 _ rfl; (with_reducible repeat refine vS ?_); exact BK248.out) hb); have n3_ := pA (below_step (by repeat (first | (with_reducible first | exact HB.out | apply below_alloc | apply pw_below_drewN | apply below_drew1 | refine below_set ?_ GE244.out | refine below_set ?_ GE245.out | refine below_set ?_ GE248.out) | exact HB.out)) hb); clear BK244; clear BK245; clear BK248; clear HB; have BK244 := n0_; have BK245 := n1_; have BK248 := n2_; have HB := n3_; clear n0_ n1_ n2_ n3_; (try clear hb); (try clear hb2); (try clear hk); (try clear hi)))
 (try simp only [Act.put, pB, pC, pD])
 go_cut [20] (fun v20 wc => ∃ (kq : Nat) (x20_4 : Bool), v20 = .bool x20_4 ∧ Aside0 (potbankref03_fits.j0 kq t249 x20_4 a0_0 a0_1 l0_2 a1_0 a1_1 t246 t247 = some r) ∧ Aside0 (kq ≤ k) ∧ Aside0 (wc.heap[gb244]? = some (.cells #[.int .i64 a0_0, .int .i64 a0_1, (.slice A0_2 l0_2.length c0_2)] 43 (0, 0))) ∧ Aside0 (wc.heap[gb245]? = some (.cells #[.int .i64 a1_0, .int .i64 a1_1] 26 (0, 0))) ∧ Aside0 (wc.heap[gb248]? = some (.cells #[.int .i64 t246, .int .i64 t247] 23 (0, 0))) ∧ Aside0 (Below w.heap.size w wc))
 case first =>
  have H := HC5.out
  clear HC5
  by_cases c17 : t246 > a1_0
  ·rw [if_pos c17] at H
   have c17b0 : decide (a1_0 < t246) = true := decide_eq_true c17
   clear c17
   (first | rw [c17b0] | (simp only [i64_w, i32_w]; rw [c17b0]) | skip)
   have H' := pA H
   clear H
   have hnb18 := NB248_244.out
   have hnc18 := NB244_248.out
   have hnb19 := NB248_245.out
   have hnc19 := NB245_248.out
   have hcz20_0 : w16.cell? ⟨gb248, 0, none⟩ = some (.int .i64 t246) := (blk_cell BK248.out 0).trans rfl
   have hcz20_1 : w16.cell? ⟨gb248, 1, none⟩ = some (.int .i64 t247) := (blk_cell BK248.out 1).trans rfl
   have hfz20_0 := blk_frozen BK248.out 0
   have hfz20_1 := blk_frozen BK248.out 1
   have hnb21 := NB245_244.out
   have hnc21 := NB244_245.out
   have hcz22_0 : w16.cell? ⟨gb245, 0, none⟩ = some (.int .i64 a1_0) := (blk_cell BK245.out 0).trans rfl
   have hcz22_1 : w16.cell? ⟨gb245, 1, none⟩ = some (.int .i64 a1_1) := (blk_cell BK245.out 1).trans rfl
   have hfz22_0 := blk_frozen BK245.out 0
   have hfz22_1 := blk_frozen BK245.out 1
   go_wp2
   go_meet
   case rel => exact ⟨_, (true), (by first | rfl | (simp; done) | (simp [*]; done)), H', ⟨by first | omega | exact Nat.le_refl _⟩, ⟨by (with_reducible repeat refine vS ?_); exact BK244.out⟩, ⟨by (with_reducible repeat refine vS ?_); exact BK245.out⟩, ⟨by (with_reducible repeat refine vS ?_); exact BK248.out⟩, ⟨by repeat (first | (with_reducible first | exact HB.out | apply below_alloc | apply pw_below_drewN | apply below_drew1 | refine below_set ?_ GE244.out | refine below_set ?_ GE245.out | refine below_set ?_ GE248.out) | exact HB.out)⟩⟩
  ·rw [if_neg c17] at H
   have c17b0 : decide (a1_0 < t246) = false := decide_eq_false c17
   clear c17
   (first | rw [c17b0] | (simp only [i64_w, i32_w]; rw [c17b0]) | skip)
   have H' := pA H
   clear H
   have hnb23 := NB248_244.out
   have hnc23 := NB244_248.out
   have hnb24 := NB248_245.out
   have hnc24 := NB245_248.out
   have hcz25_0 : w16.cell? ⟨gb248, 0, none⟩ = some (.int .i64 t246) := (blk_cell BK248.out 0).trans rfl
   have hcz25_1 : w16.cell? ⟨gb248, 1, none⟩ = some (.int .i64 t247) := (blk_cell BK248.out 1).trans rfl
   have hfz25_0 := blk_frozen BK248.out 0
   have hfz25_1 := blk_frozen BK248.out 1
   have hnb26 := NB245_244.out
   have hnc26 := NB244_245.out
   have hcz27_0 : w16.cell? ⟨gb245, 0, none⟩ = some (.int .i64 a1_0) := (blk_cell BK245.out 0).trans rfl
   have hcz27_1 : w16.cell? ⟨gb245, 1, none⟩ = some (.int .i64 a1_1) := (blk_cell BK245.out 1).trans rfl
   have hfz27_0 := blk_frozen BK245.out 0
   have hfz27_1 := blk_frozen BK245.out 1
   go_wp2
   go_meet
   case rel => exact ⟨_, ((t249 == 0)), (by first | rfl | (simp; done) | (simp [*]; done)), H', ⟨by first | omega | exact Nat.le_refl _⟩, ⟨by (with_reducible repeat refine vS ?_); exact BK244.out⟩, ⟨by (with_reducible repeat refine vS ?_); exact BK245.out⟩, ⟨by (with_reducible repeat refine vS ?_); exact BK248.out⟩, ⟨by repeat (first | (with_reducible first | exact HB.out | apply below_alloc | apply pw_below_drewN | apply below_drew1 | refine below_set ?_ GE244.out | refine below_set ?_ GE245.out | refine below_set ?_ GE248.out) | exact HB.out)⟩⟩
 case rest =>
  clear HC5
  try clear c1
  try clear c2
  try clear p2
  try clear c8
  try clear c9
  try clear c12
  try clear c13
  try clear c17
  try clear c17b0
  try clear c18
  try clear c19
  try clear c21
  try clear c23
  try clear c24
  try clear c26
  try clear hcz14_0
  try clear hcz14_1
  try clear hcz15_0
  try clear hcz15_1
  try clear hcz15_2
  try clear hcz20_0
  try clear hcz20_1
  try clear hcz22_0
  try clear hcz22_1
  try clear hcz25_0
  try clear hcz25_1
  try clear hcz27_0
  try clear hcz27_1
  try clear hcz9_0
  try clear hcz9_1
  try clear hcz9_2
  try clear hfz14_0
  try clear hfz14_1
  try clear hfz15_0
  try clear hfz15_1
  try clear hfz15_2
  try clear hfz20_0
  try clear hfz20_1
  try clear hfz22_0
  try clear hfz22_1
  try clear hfz25_0
  try clear hfz25_1
  try clear hfz27_0
  try clear hfz27_1
  try clear hfz9_0
  try clear hfz9_1
  try clear hfz9_2
  obtain ⟨kq, x20_4, rfl, HA, HJ4, BK244, BK245, BK248, HB⟩ := hcut
  cases kq with
  | zero => exact absurd HA.out (by simp [potbankref03_fits.j0])
  | succ kj4 =>
   have H := HA.out
   clear HA
   simp only [potbankref03_fits.j0] at H
   by_cases c28 : x20_4 = true
   ·subst c28
    have H1 : (some 0) = some r := by rw [if_pos rfl] at H; exact H
    clear H
    have H := H1
    clear H1
    obtain rfl := Option.some.inj H
    go_wp2
    go_ret
    exact ⟨by first | rfl | (simp [errW_none, errW_some] <;> rfl) | (simp [*, errW_none, errW_some] <;> rfl), by repeat (first | (with_reducible first | exact HB.out | apply below_alloc | apply pw_below_drewN | apply below_drew1 | refine below_set ?_ GE244.out | refine below_set ?_ GE245.out | refine below_set ?_ GE248.out) | exact HB.out)⟩
   ·replace c28 := Bool.eq_false_iff.mpr c28
    subst c28
    have H1 : (if t247 ≤ a1_0 then ((potbankref03_lean.f a0_0 a0_1 l0_2).bind fun t250 => (if t250 ≤ a1_1 then (if t249 = 1 then (some 1) else (some 2)) else (some 2))) else (some 2)) = some r := by rw [if_neg (show ¬ (false = true) by decide)] at H; exact H
    clear H
    have H := H1
    clear H1
    by_cases c29 : t247 ≤ a1_0
    ·rw [if_pos c29] at H
     have c29b0 : decide (t247 ≤ a1_0) = true := decide_eq_true c29
     clear c29
     replace H := Option.bind_eq_some_iff.mp H
     obtain ⟨t250, A300, H⟩ := H
     replace H : (if t250 ≤ a1_1 then (if t249 = 1 then (some 1) else (some 2)) else (some 2)) = some r := H
     have A30 := pA A300
     clear A300
     by_cases c31 : t250 ≤ a1_1
     ·rw [if_pos c31] at H
      have c31b0 : decide (t250 ≤ a1_1) = true := decide_eq_true c31
      clear c31
      by_cases c32 : t249 = 1
      ·rw [if_pos c32] at H
       have c32b0 : (t249 == 1) = true := beq_iff_eq.mpr c32
       have c32b1 : (t249 != 1) = false := bne_eq_false_iff_eq.mpr c32
       clear c32
       obtain rfl := Option.some.inj H
       try go_wp2
       have n0_ := pA (blk_drew BK244.out)
       have n1_ := pA (blk_drew BK245.out)
       have n2_ := pA (blk_drew BK248.out)
       have n3_ := pA (below_drew1 HB.out)
       clear BK244
       clear BK245
       clear BK248
       clear HB
       have BK244 := n0_
       have BK245 := n1_
       have BK248 := n2_
       have HB := n3_
       clear n0_ n1_ n2_ n3_
       refine start_ (n := 16) (S := fun w' => w'.cell? ⟨gb248, 0, none⟩ = some (.int .i64 t246) ∧ w'.cell? ⟨gb248, 1, none⟩ = some (.int .i64 t247) ∧ w'.cell? ⟨gb245, 0, none⟩ = some (.int .i64 a1_0) ∧ w'.cell? ⟨gb245, 1, none⟩ = some (.int .i64 a1_1) ∧ w'.cell? ⟨gb244, 0, none⟩ = some (.int .i64 a0_0) ∧ w'.cell? ⟨gb244, 1, none⟩ = some (.int .i64 a0_1) ∧ w'.cell? ⟨gb244, 2, none⟩ = some (.slice A0_2 l0_2.length c0_2)) (ds := []) #[false, false, false, false, false, false, false, false, false, false, false, false, false, false, false, false] (by kernel_rfl) rfl rfl ⟨(blk_cell BK248.out 0).trans rfl, (blk_cell BK248.out 1).trans rfl, (blk_cell BK245.out 0).trans rfl, (blk_cell BK245.out 1).trans rfl, (blk_cell BK244.out 0).trans rfl, (blk_cell BK244.out 1).trans rfl, (blk_cell BK244.out 2).trans rfl⟩ (fun hHeld => ?_); refine with_tabW potbankref03_fits.tab5 potbankref03_fits.bits5 (fun HT_ HW_ => ?_)
       generalize wc.drew = w33 at BK244 BK245 BK248 HB hHeld ⊢
       refine pure_ (i := 0) (N := some 21) (v := ?_) (a' := ?_) #[true, false, false, false, false, false, false, false, false, false, false, false, false, false, false, false] rfl rfl (any_of HT_.out (by kernel_rfl)) (fun _ _ _ h => h) (Or.inl ⟨by rfl, ?_⟩) ?_ ?_
       rotate_left
       ·intro w'
        go_simp
        with_reducible rfl
       rotate_left
       ·simp only [Act.put, pB, pC, pD, i64_w, i32_w]
        rfl
       refine pure_ (i := 2) (N := some 23) (v := ?_) (a' := ?_) #[true, false, true, false, false, false, false, false, false, false, false, false, false, false, false, false] rfl rfl (any_of HT_.out (by kernel_rfl)) (fun _ _ _ h => h) (Or.inl ⟨by rfl, ?_⟩) ?_ ?_
       rotate_left
       ·intro w'
        go_simp
        with_reducible rfl
       rotate_left
       ·simp only [Act.put, pB, pC, pD, i64_w, i32_w]
        rfl
       refine take_ (i := 1) (N := some 22) (v := ?_) (a' := ?_) #[true, true, true, false, false, false, false, false, false, false, false, false, false, false, false, false] rfl rfl (take_ofW HT_.out HW_.out (by kernel_rfl)) (fun _ _ _ h => h) (Or.inl ⟨by rfl, ?_⟩) hHeld ?_ ?_
       rotate_left
       ·rintro w' ⟨s0, s1, s2, s3, s4, s5, s6⟩
        go_simp
        with_reducible rfl
       rotate_left
       ·simp only [Act.put, pB, pC, pD, i64_w, i32_w]
        rfl
       refine take_ (i := 3) (N := some 24) (v := ?_) (a' := ?_) #[true, true, true, true, false, false, false, false, false, false, false, false, false, false, false, false] rfl rfl (take_ofW HT_.out HW_.out (by kernel_rfl)) (fun _ _ _ h => h) (Or.inl ⟨by rfl, ?_⟩) hHeld ?_ ?_
       rotate_left
       ·rintro w' ⟨s0, s1, s2, s3, s4, s5, s6⟩
        go_simp
        with_reducible rfl
       rotate_left
       ·simp only [Act.put, pB, pC, pD, i64_w, i32_w]
        rfl
       refine pure_ (i := 4) (N := some 25) (v := ?_) (a' := ?_) #[true, true, true, true, true, false, false, false, false, false, false, false, false, false, false, false] rfl rfl (any_of HT_.out (by kernel_rfl)) (fun _ _ _ h => h) (Or.inl ⟨by rfl, ?_⟩) ?_ ?_
       rotate_left
       ·intro w'
        go_simp
        with_reducible rfl
       rotate_left
       ·simp only [Act.put, pB, pC, pD, i64_w, i32_w]
        rfl
       refine pure_ (i := 5) (N := some 26) (v := ?_) (a' := ?_) #[true, true, true, true, true, true, false, false, false, false, false, false, false, false, false, false] rfl rfl (any_of HT_.out (by kernel_rfl)) (fun _ _ _ h => h) (Or.inl ⟨by rfl, ?_⟩) ?_ ?_
       rotate_left
       ·intro w'
        go_simp
        with_reducible rfl
       rotate_left
       ·simp only [Act.put, pB, pC, pD, i64_w, i32_w]
        rfl
       refine pure_ (i := 8) (N := some 29) (v := ?_) (a' := ?_) #[true, true, true, true, true, true, false, false, true, false, false, false, false, false, false, false] rfl rfl (any_of HT_.out (by kernel_rfl)) (fun _ _ _ h => h) (Or.inl ⟨by rfl, ?_⟩) ?_ ?_
       rotate_left
       ·intro w'
        go_simp
        with_reducible rfl
       rotate_left
       ·simp only [Act.put, pB, pC, pD, i64_w, i32_w]
        rfl
       refine take_ (i := 6) (N := some 27) (v := ?_) (a' := ?_) #[true, true, true, true, true, true, true, false, true, false, false, false, false, false, false, false] rfl rfl (take_ofW HT_.out HW_.out (by kernel_rfl)) (fun _ _ _ h => h) (Or.inl ⟨by rfl, ?_⟩) hHeld ?_ ?_
       rotate_left
       ·rintro w' ⟨s0, s1, s2, s3, s4, s5, s6⟩
        go_simp
        with_reducible rfl
       rotate_left
       ·simp only [Act.put, pB, pC, pD, i64_w, i32_w]
        rfl
       refine take_ (i := 9) (N := some 30) (v := ?_) (a' := ?_) #[true, true, true, true, true, true, true, false, true, true, false, false, false, false, false, false] rfl rfl (take_ofW HT_.out HW_.out (by kernel_rfl)) (fun _ _ _ h => h) (Or.inl ⟨by rfl, ?_⟩) hHeld ?_ ?_
       rotate_left
       ·rintro w' ⟨s0, s1, s2, s3, s4, s5, s6⟩
        go_simp
        with_reducible rfl
       rotate_left
       ·simp only [Act.put, pB, pC, pD, i64_w, i32_w]
        rfl
       refine one_ (i := 7) (N := some 28) #[true, true, true, true, true, true, true, true, true, true, false, false, false, false, false, false] rfl rfl (one_of HT_.out (by kernel_rfl)) (by decide) (fun K hK => ?_)
       refine goes_ Try.func93 (by kernel_rfl) rfl #[.agg #[.int .i64 a0_0, .int .i64 a0_1, .slice A0_2 l0_2.length c0_2]] (by rfl) rfl rfl (by (try simp only [pE, pF, pG]); first | done | rfl | (simp only [pH, pI]; rfl)) ?_
       with_reducible refine (potbankref03_lean.calls a0_0 a0_1 _ _ l0_2 t250 _ ?side1 ?side2 A30.out).mono ?_
       (case side1 => repeat (first | exact (Kd.C_below HR0_2.out HB.out) | (with_reducible refine Kd.C_alloc ?_ _) | (with_reducible refine Kd.C_drewN ?_ _) | (with_reducible refine Kd.C_drew ?_)))
       (case side2 => exact HC0_2.out)
       rintro e w34 ⟨rfl, hb⟩
       refine ⟨_, rfl, ?_⟩
       have n0_ := pA (blk_below (g := gb244) (o := .cells #[.int .i64 a0_0, .int .i64 a0_1, .slice A0_2 l0_2.length c0_2] 43 (0, 0)) (vK BK244) hb)
       have n1_ := pA (blk_below (g := gb245) (o := .cells #[.int .i64 a1_0, .int .i64 a1_1] 26 (0, 0)) (vK BK245) hb)
       have n2_ := pA (blk_below (g := gb248) (o := .cells #[.int .i64 t246, .int .i64 t247] 23 (0, 0)) (vK BK248) hb)
       have n3_ := pA (below_step (by repeat (first | (with_reducible first | exact HB.out | apply below_alloc | apply pw_below_drewN | apply below_drew1 | refine below_set ?_ GE244.out | refine below_set ?_ GE245.out | refine below_set ?_ GE248.out) | exact HB.out)) hb)
       clear BK244
       clear BK245
       clear BK248
       clear HB
       have BK244 := n0_
       have BK245 := n1_
       have BK248 := n2_
       have HB := n3_
       clear n0_ n1_ n2_ n3_
       (try clear hb)
       (try clear hb2)
       (try clear hk)
       (try clear hi)
       refine hK.out _ _ ⟨(blk_cell BK248.out 0).trans rfl, (blk_cell BK248.out 1).trans rfl, (blk_cell BK245.out 0).trans rfl, (blk_cell BK245.out 1).trans rfl, (blk_cell BK244.out 0).trans rfl, (blk_cell BK244.out 1).trans rfl, (blk_cell BK244.out 2).trans rfl⟩ (fun hHeld => ?_)
       clear hK K
       refine norm_ (a' := ?_) ?_ ?_
       rotate_left
       ·show Act.put _ (some 28) _ = _
        simp only [Act.put, pB, pC, pD, i64_w, i32_w]
        rfl
       refine pure_ (i := 10) (N := some 31) (v := ?_) (a' := ?_) #[true, true, true, true, true, true, true, true, true, true, true, false, false, false, false, false] rfl rfl (any_of HT_.out (by kernel_rfl)) (fun _ _ _ h => h) (Or.inl ⟨by rfl, ?_⟩) ?_ ?_
       rotate_left
       ·intro w'
        go_simp
        with_reducible rfl
       rotate_left
       ·simp only [Act.put, pB, pC, pD, i64_w, i32_w]
        rfl
       refine pure_ (i := 11) (N := some 32) (v := ?_) (a' := ?_) #[true, true, true, true, true, true, true, true, true, true, true, true, false, false, false, false] rfl rfl (any_of HT_.out (by kernel_rfl)) (fun _ _ _ h => h) (Or.inl ⟨by rfl, ?_⟩) ?_ ?_
       rotate_left
       ·intro w'
        go_simp
        with_reducible rfl
       rotate_left
       ·simp only [Act.put, pB, pC, pD, i64_w, i32_w]
        rfl
       refine pure_ (i := 12) (N := some 33) (v := ?_) (a' := ?_) #[true, true, true, true, true, true, true, true, true, true, true, true, true, false, false, false] rfl rfl (any_of HT_.out (by kernel_rfl)) (fun _ _ _ h => h) (Or.inl ⟨by rfl, ?_⟩) ?_ ?_
       rotate_left
       ·intro w'
        go_simp
        with_reducible rfl
       rotate_left
       ·simp only [Act.put, pB, pC, pD, i64_w, i32_w]
        rfl
       refine pure_ (i := 13) (N := some 34) (v := ?_) (a' := ?_) #[true, true, true, true, true, true, true, true, true, true, true, true, true, true, false, false] rfl rfl (any_of HT_.out (by kernel_rfl)) (fun _ _ _ h => h) (Or.inl ⟨by rfl, ?_⟩) ?_ ?_
       rotate_left
       ·intro w'
        go_simp
        with_reducible rfl
       rotate_left
       ·simp only [Act.put, pB, pC, pD, i64_w, i32_w]
        rfl
       refine pure_ (i := 14) (N := some 35) (v := ?_) (a' := ?_) #[true, true, true, true, true, true, true, true, true, true, true, true, true, true, true, false] rfl rfl (any_of HT_.out (by kernel_rfl)) (fun _ _ _ h => h) (Or.inl ⟨by rfl, ?_⟩) ?_ ?_
       rotate_left
       ·intro w'
        go_simp
        with_reducible rfl
       rotate_left
       ·simp only [Act.put, pB, pC, pD, i64_w, i32_w]
        rfl
       refine pure_ (i := 15) (N := some 36) (v := ?_) (a' := ?_) #[true, true, true, true, true, true, true, true, true, true, true, true, true, true, true, true] rfl rfl (any_of HT_.out (by kernel_rfl)) (fun _ _ _ h => h) (Or.inl ⟨by rfl, ?_⟩) ?_ ?_
       rotate_left
       ·intro w'
        go_simp
        with_reducible rfl
       rotate_left
       ·simp only [Act.put, pB, pC, pD, i64_w, i32_w]
        rfl
       refine done_ (done_of HT_.out (by kernel_rfl)) ?_
       try go_wp2
       go_ret
       exact ⟨by first | rfl | (simp [errW_none, errW_some] <;> rfl) | (simp [*, errW_none, errW_some] <;> rfl), by repeat (first | (with_reducible first | exact HB.out | apply below_alloc | apply pw_below_drewN | apply below_drew1 | refine below_set ?_ GE244.out | refine below_set ?_ GE245.out | refine below_set ?_ GE248.out) | exact HB.out)⟩
      ·rw [if_neg c32] at H
       have c32b0 : (t249 == 1) = false := beq_eq_false_iff_ne.mpr c32
       have c32b1 : (t249 != 1) = true := bne_iff_ne.mpr c32
       obtain rfl := Option.some.inj H
       try go_wp2
       have n0_ := pA (blk_drew BK244.out)
       have n1_ := pA (blk_drew BK245.out)
       have n2_ := pA (blk_drew BK248.out)
       have n3_ := pA (below_drew1 HB.out)
       clear BK244
       clear BK245
       clear BK248
       clear HB
       have BK244 := n0_
       have BK245 := n1_
       have BK248 := n2_
       have HB := n3_
       clear n0_ n1_ n2_ n3_
       refine start_ (n := 16) (S := fun w' => w'.cell? ⟨gb248, 0, none⟩ = some (.int .i64 t246) ∧ w'.cell? ⟨gb248, 1, none⟩ = some (.int .i64 t247) ∧ w'.cell? ⟨gb245, 0, none⟩ = some (.int .i64 a1_0) ∧ w'.cell? ⟨gb245, 1, none⟩ = some (.int .i64 a1_1) ∧ w'.cell? ⟨gb244, 0, none⟩ = some (.int .i64 a0_0) ∧ w'.cell? ⟨gb244, 1, none⟩ = some (.int .i64 a0_1) ∧ w'.cell? ⟨gb244, 2, none⟩ = some (.slice A0_2 l0_2.length c0_2)) (ds := []) #[false, false, false, false, false, false, false, false, false, false, false, false, false, false, false, false] (by kernel_rfl) rfl rfl ⟨(blk_cell BK248.out 0).trans rfl, (blk_cell BK248.out 1).trans rfl, (blk_cell BK245.out 0).trans rfl, (blk_cell BK245.out 1).trans rfl, (blk_cell BK244.out 0).trans rfl, (blk_cell BK244.out 1).trans rfl, (blk_cell BK244.out 2).trans rfl⟩ (fun hHeld => ?_); refine with_tabW potbankref03_fits.tab5 potbankref03_fits.bits5 (fun HT_ HW_ => ?_)
       generalize wc.drew = w35 at BK244 BK245 BK248 HB hHeld ⊢
       refine pure_ (i := 0) (N := some 21) (v := ?_) (a' := ?_) #[true, false, false, false, false, false, false, false, false, false, false, false, false, false, false, false] rfl rfl (any_of HT_.out (by kernel_rfl)) (fun _ _ _ h => h) (Or.inl ⟨by rfl, ?_⟩) ?_ ?_
       rotate_left
       ·intro w'
        go_simp
        with_reducible rfl
       rotate_left
       ·simp only [Act.put, pB, pC, pD, i64_w, i32_w]
        rfl
       refine pure_ (i := 2) (N := some 23) (v := ?_) (a' := ?_) #[true, false, true, false, false, false, false, false, false, false, false, false, false, false, false, false] rfl rfl (any_of HT_.out (by kernel_rfl)) (fun _ _ _ h => h) (Or.inl ⟨by rfl, ?_⟩) ?_ ?_
       rotate_left
       ·intro w'
        go_simp
        with_reducible rfl
       rotate_left
       ·simp only [Act.put, pB, pC, pD, i64_w, i32_w]
        rfl
       refine take_ (i := 1) (N := some 22) (v := ?_) (a' := ?_) #[true, true, true, false, false, false, false, false, false, false, false, false, false, false, false, false] rfl rfl (take_ofW HT_.out HW_.out (by kernel_rfl)) (fun _ _ _ h => h) (Or.inl ⟨by rfl, ?_⟩) hHeld ?_ ?_
       rotate_left
       ·rintro w' ⟨s0, s1, s2, s3, s4, s5, s6⟩
        go_simp
        with_reducible rfl
       rotate_left
       ·simp only [Act.put, pB, pC, pD, i64_w, i32_w]
        rfl
       refine take_ (i := 3) (N := some 24) (v := ?_) (a' := ?_) #[true, true, true, true, false, false, false, false, false, false, false, false, false, false, false, false] rfl rfl (take_ofW HT_.out HW_.out (by kernel_rfl)) (fun _ _ _ h => h) (Or.inl ⟨by rfl, ?_⟩) hHeld ?_ ?_
       rotate_left
       ·rintro w' ⟨s0, s1, s2, s3, s4, s5, s6⟩
        go_simp
        with_reducible rfl
       rotate_left
       ·simp only [Act.put, pB, pC, pD, i64_w, i32_w]
        rfl
       refine pure_ (i := 4) (N := some 25) (v := ?_) (a' := ?_) #[true, true, true, true, true, false, false, false, false, false, false, false, false, false, false, false] rfl rfl (any_of HT_.out (by kernel_rfl)) (fun _ _ _ h => h) (Or.inl ⟨by rfl, ?_⟩) ?_ ?_
       rotate_left
       ·intro w'
        go_simp
        with_reducible rfl
       rotate_left
       ·simp only [Act.put, pB, pC, pD, i64_w, i32_w]
        rfl
       refine pure_ (i := 5) (N := some 26) (v := ?_) (a' := ?_) #[true, true, true, true, true, true, false, false, false, false, false, false, false, false, false, false] rfl rfl (any_of HT_.out (by kernel_rfl)) (fun _ _ _ h => h) (Or.inl ⟨by rfl, ?_⟩) ?_ ?_
       rotate_left
       ·intro w'
        go_simp
        with_reducible rfl
       rotate_left
       ·simp only [Act.put, pB, pC, pD, i64_w, i32_w]
        rfl
       refine pure_ (i := 8) (N := some 29) (v := ?_) (a' := ?_) #[true, true, true, true, true, true, false, false, true, false, false, false, false, false, false, false] rfl rfl (any_of HT_.out (by kernel_rfl)) (fun _ _ _ h => h) (Or.inl ⟨by rfl, ?_⟩) ?_ ?_
       rotate_left
       ·intro w'
        go_simp
        with_reducible rfl
       rotate_left
       ·simp only [Act.put, pB, pC, pD, i64_w, i32_w]
        rfl
       refine take_ (i := 6) (N := some 27) (v := ?_) (a' := ?_) #[true, true, true, true, true, true, true, false, true, false, false, false, false, false, false, false] rfl rfl (take_ofW HT_.out HW_.out (by kernel_rfl)) (fun _ _ _ h => h) (Or.inl ⟨by rfl, ?_⟩) hHeld ?_ ?_
       rotate_left
       ·rintro w' ⟨s0, s1, s2, s3, s4, s5, s6⟩
        go_simp
        with_reducible rfl
       rotate_left
       ·simp only [Act.put, pB, pC, pD, i64_w, i32_w]
        rfl
       refine take_ (i := 9) (N := some 30) (v := ?_) (a' := ?_) #[true, true, true, true, true, true, true, false, true, true, false, false, false, false, false, false] rfl rfl (take_ofW HT_.out HW_.out (by kernel_rfl)) (fun _ _ _ h => h) (Or.inl ⟨by rfl, ?_⟩) hHeld ?_ ?_
       rotate_left
       ·rintro w' ⟨s0, s1, s2, s3, s4, s5, s6⟩
        go_simp
        with_reducible rfl
       rotate_left
       ·simp only [Act.put, pB, pC, pD, i64_w, i32_w]
        rfl
       refine one_ (i := 7) (N := some 28) #[true, true, true, true, true, true, true, true, true, true, false, false, false, false, false, false] rfl rfl (one_of HT_.out (by kernel_rfl)) (by decide) (fun K hK => ?_)
       refine goes_ Try.func93 (by kernel_rfl) rfl #[.agg #[.int .i64 a0_0, .int .i64 a0_1, .slice A0_2 l0_2.length c0_2]] (by rfl) rfl rfl (by (try simp only [pE, pF, pG]); first | done | rfl | (simp only [pH, pI]; rfl)) ?_
       with_reducible refine (potbankref03_lean.calls a0_0 a0_1 _ _ l0_2 t250 _ ?side1 ?side2 A30.out).mono ?_
       (case side1 => repeat (first | exact (Kd.C_below HR0_2.out HB.out) | (with_reducible refine Kd.C_alloc ?_ _) | (with_reducible refine Kd.C_drewN ?_ _) | (with_reducible refine Kd.C_drew ?_)))
       (case side2 => exact HC0_2.out)
       rintro e w36 ⟨rfl, hb⟩
       refine ⟨_, rfl, ?_⟩
       have n0_ := pA (blk_below (g := gb244) (o := .cells #[.int .i64 a0_0, .int .i64 a0_1, .slice A0_2 l0_2.length c0_2] 43 (0, 0)) (vK BK244) hb)
       have n1_ := pA (blk_below (g := gb245) (o := .cells #[.int .i64 a1_0, .int .i64 a1_1] 26 (0, 0)) (vK BK245) hb)
       have n2_ := pA (blk_below (g := gb248) (o := .cells #[.int .i64 t246, .int .i64 t247] 23 (0, 0)) (vK BK248) hb)
       have n3_ := pA (below_step (by repeat (first | (with_reducible first | exact HB.out | apply below_alloc | apply pw_below_drewN | apply below_drew1 | refine below_set ?_ GE244.out | refine below_set ?_ GE245.out | refine below_set ?_ GE248.out) | exact HB.out)) hb)
       clear BK244
       clear BK245
       clear BK248
       clear HB
       have BK244 := n0_
       have BK245 := n1_
       have BK248 := n2_
       have HB := n3_
       clear n0_ n1_ n2_ n3_
       (try clear hb)
       (try clear hb2)
       (try clear hk)
       (try clear hi)
       refine hK.out _ _ ⟨(blk_cell BK248.out 0).trans rfl, (blk_cell BK248.out 1).trans rfl, (blk_cell BK245.out 0).trans rfl, (blk_cell BK245.out 1).trans rfl, (blk_cell BK244.out 0).trans rfl, (blk_cell BK244.out 1).trans rfl, (blk_cell BK244.out 2).trans rfl⟩ (fun hHeld => ?_)
       clear hK K
       refine norm_ (a' := ?_) ?_ ?_
       rotate_left
       ·show Act.put _ (some 28) _ = _
        simp only [Act.put, pB, pC, pD, i64_w, i32_w]
        rfl
       refine pure_ (i := 10) (N := some 31) (v := ?_) (a' := ?_) #[true, true, true, true, true, true, true, true, true, true, true, false, false, false, false, false] rfl rfl (any_of HT_.out (by kernel_rfl)) (fun _ _ _ h => h) (Or.inl ⟨by rfl, ?_⟩) ?_ ?_
       rotate_left
       ·intro w'
        go_simp
        with_reducible rfl
       rotate_left
       ·simp only [Act.put, pB, pC, pD, i64_w, i32_w]
        rfl
       refine pure_ (i := 11) (N := some 32) (v := ?_) (a' := ?_) #[true, true, true, true, true, true, true, true, true, true, true, true, false, false, false, false] rfl rfl (any_of HT_.out (by kernel_rfl)) (fun _ _ _ h => h) (Or.inl ⟨by rfl, ?_⟩) ?_ ?_
       rotate_left
       ·intro w'
        go_simp
        with_reducible rfl
       rotate_left
       ·simp only [Act.put, pB, pC, pD, i64_w, i32_w]
        rfl
       refine pure_ (i := 12) (N := some 33) (v := ?_) (a' := ?_) #[true, true, true, true, true, true, true, true, true, true, true, true, true, false, false, false] rfl rfl (any_of HT_.out (by kernel_rfl)) (fun _ _ _ h => h) (Or.inl ⟨by rfl, ?_⟩) ?_ ?_
       rotate_left
       ·intro w'
        go_simp
        with_reducible rfl
       rotate_left
       ·simp only [Act.put, pB, pC, pD, i64_w, i32_w]
        rfl
       refine pure_ (i := 13) (N := some 34) (v := ?_) (a' := ?_) #[true, true, true, true, true, true, true, true, true, true, true, true, true, true, false, false] rfl rfl (any_of HT_.out (by kernel_rfl)) (fun _ _ _ h => h) (Or.inl ⟨by rfl, ?_⟩) ?_ ?_
       rotate_left
       ·intro w'
        go_simp
        with_reducible rfl
       rotate_left
       ·simp only [Act.put, pB, pC, pD, i64_w, i32_w]
        rfl
       refine pure_ (i := 14) (N := some 35) (v := ?_) (a' := ?_) #[true, true, true, true, true, true, true, true, true, true, true, true, true, true, true, false] rfl rfl (any_of HT_.out (by kernel_rfl)) (fun _ _ _ h => h) (Or.inl ⟨by rfl, ?_⟩) ?_ ?_
       rotate_left
       ·intro w'
        go_simp
        with_reducible rfl
       rotate_left
       ·simp only [Act.put, pB, pC, pD, i64_w, i32_w]
        rfl
       refine pure_ (i := 15) (N := some 36) (v := ?_) (a' := ?_) #[true, true, true, true, true, true, true, true, true, true, true, true, true, true, true, true] rfl rfl (any_of HT_.out (by kernel_rfl)) (fun _ _ _ h => h) (Or.inl ⟨by rfl, ?_⟩) ?_ ?_
       rotate_left
       ·intro w'
        go_simp
        with_reducible rfl
       rotate_left
       ·simp only [Act.put, pB, pC, pD, i64_w, i32_w]
        rfl
       refine done_ (done_of HT_.out (by kernel_rfl)) ?_
       try go_wp2
       go_ret
       exact ⟨by first | rfl | (simp [errW_none, errW_some] <;> rfl) | (simp [*, errW_none, errW_some] <;> rfl), by repeat (first | (with_reducible first | exact HB.out | apply below_alloc | apply pw_below_drewN | apply below_drew1 | refine below_set ?_ GE244.out | refine below_set ?_ GE245.out | refine below_set ?_ GE248.out) | exact HB.out)⟩
     ·rw [if_neg c31] at H
      have c31b0 : decide (t250 ≤ a1_1) = false := decide_eq_false c31
      clear c31
      obtain rfl := Option.some.inj H
      try go_wp2
      have n0_ := pA (blk_drew BK244.out)
      have n1_ := pA (blk_drew BK245.out)
      have n2_ := pA (blk_drew BK248.out)
      have n3_ := pA (below_drew1 HB.out)
      clear BK244
      clear BK245
      clear BK248
      clear HB
      have BK244 := n0_
      have BK245 := n1_
      have BK248 := n2_
      have HB := n3_
      clear n0_ n1_ n2_ n3_
      refine start_ (n := 16) (S := fun w' => w'.cell? ⟨gb248, 0, none⟩ = some (.int .i64 t246) ∧ w'.cell? ⟨gb248, 1, none⟩ = some (.int .i64 t247) ∧ w'.cell? ⟨gb245, 0, none⟩ = some (.int .i64 a1_0) ∧ w'.cell? ⟨gb245, 1, none⟩ = some (.int .i64 a1_1) ∧ w'.cell? ⟨gb244, 0, none⟩ = some (.int .i64 a0_0) ∧ w'.cell? ⟨gb244, 1, none⟩ = some (.int .i64 a0_1) ∧ w'.cell? ⟨gb244, 2, none⟩ = some (.slice A0_2 l0_2.length c0_2)) (ds := []) #[false, false, false, false, false, false, false, false, false, false, false, false, false, false, false, false] (by kernel_rfl) rfl rfl ⟨(blk_cell BK248.out 0).trans rfl, (blk_cell BK248.out 1).trans rfl, (blk_cell BK245.out 0).trans rfl, (blk_cell BK245.out 1).trans rfl, (blk_cell BK244.out 0).trans rfl, (blk_cell BK244.out 1).trans rfl, (blk_cell BK244.out 2).trans rfl⟩ (fun hHeld => ?_); refine with_tabW potbankref03_fits.tab5 potbankref03_fits.bits5 (fun HT_ HW_ => ?_)
      generalize wc.drew = w37 at BK244 BK245 BK248 HB hHeld ⊢
      refine pure_ (i := 0) (N := some 21) (v := ?_) (a' := ?_) #[true, false, false, false, false, false, false, false, false, false, false, false, false, false, false, false] rfl rfl (any_of HT_.out (by kernel_rfl)) (fun _ _ _ h => h) (Or.inl ⟨by rfl, ?_⟩) ?_ ?_
      rotate_left
      ·intro w'
       go_simp
       with_reducible rfl
      rotate_left
      ·simp only [Act.put, pB, pC, pD, i64_w, i32_w]
       rfl
      refine pure_ (i := 2) (N := some 23) (v := ?_) (a' := ?_) #[true, false, true, false, false, false, false, false, false, false, false, false, false, false, false, false] rfl rfl (any_of HT_.out (by kernel_rfl)) (fun _ _ _ h => h) (Or.inl ⟨by rfl, ?_⟩) ?_ ?_
      rotate_left
      ·intro w'
       go_simp
       with_reducible rfl
      rotate_left
      ·simp only [Act.put, pB, pC, pD, i64_w, i32_w]
       rfl
      refine take_ (i := 1) (N := some 22) (v := ?_) (a' := ?_) #[true, true, true, false, false, false, false, false, false, false, false, false, false, false, false, false] rfl rfl (take_ofW HT_.out HW_.out (by kernel_rfl)) (fun _ _ _ h => h) (Or.inl ⟨by rfl, ?_⟩) hHeld ?_ ?_
      rotate_left
      ·rintro w' ⟨s0, s1, s2, s3, s4, s5, s6⟩
       go_simp
       with_reducible rfl
      rotate_left
      ·simp only [Act.put, pB, pC, pD, i64_w, i32_w]
       rfl
      refine take_ (i := 3) (N := some 24) (v := ?_) (a' := ?_) #[true, true, true, true, false, false, false, false, false, false, false, false, false, false, false, false] rfl rfl (take_ofW HT_.out HW_.out (by kernel_rfl)) (fun _ _ _ h => h) (Or.inl ⟨by rfl, ?_⟩) hHeld ?_ ?_
      rotate_left
      ·rintro w' ⟨s0, s1, s2, s3, s4, s5, s6⟩
       go_simp
       with_reducible rfl
      rotate_left
      ·simp only [Act.put, pB, pC, pD, i64_w, i32_w]
       rfl
      refine pure_ (i := 4) (N := some 25) (v := ?_) (a' := ?_) #[true, true, true, true, true, false, false, false, false, false, false, false, false, false, false, false] rfl rfl (any_of HT_.out (by kernel_rfl)) (fun _ _ _ h => h) (Or.inl ⟨by rfl, ?_⟩) ?_ ?_
      rotate_left
      ·intro w'
       go_simp
       with_reducible rfl
      rotate_left
      ·simp only [Act.put, pB, pC, pD, i64_w, i32_w]
       rfl
      refine pure_ (i := 5) (N := some 26) (v := ?_) (a' := ?_) #[true, true, true, true, true, true, false, false, false, false, false, false, false, false, false, false] rfl rfl (any_of HT_.out (by kernel_rfl)) (fun _ _ _ h => h) (Or.inl ⟨by rfl, ?_⟩) ?_ ?_
      rotate_left
      ·intro w'
       go_simp
       with_reducible rfl
      rotate_left
      ·simp only [Act.put, pB, pC, pD, i64_w, i32_w]
       rfl
      refine pure_ (i := 8) (N := some 29) (v := ?_) (a' := ?_) #[true, true, true, true, true, true, false, false, true, false, false, false, false, false, false, false] rfl rfl (any_of HT_.out (by kernel_rfl)) (fun _ _ _ h => h) (Or.inl ⟨by rfl, ?_⟩) ?_ ?_
      rotate_left
      ·intro w'
       go_simp
       with_reducible rfl
      rotate_left
      ·simp only [Act.put, pB, pC, pD, i64_w, i32_w]
       rfl
      refine take_ (i := 6) (N := some 27) (v := ?_) (a' := ?_) #[true, true, true, true, true, true, true, false, true, false, false, false, false, false, false, false] rfl rfl (take_ofW HT_.out HW_.out (by kernel_rfl)) (fun _ _ _ h => h) (Or.inl ⟨by rfl, ?_⟩) hHeld ?_ ?_
      rotate_left
      ·rintro w' ⟨s0, s1, s2, s3, s4, s5, s6⟩
       go_simp
       with_reducible rfl
      rotate_left
      ·simp only [Act.put, pB, pC, pD, i64_w, i32_w]
       rfl
      refine take_ (i := 9) (N := some 30) (v := ?_) (a' := ?_) #[true, true, true, true, true, true, true, false, true, true, false, false, false, false, false, false] rfl rfl (take_ofW HT_.out HW_.out (by kernel_rfl)) (fun _ _ _ h => h) (Or.inl ⟨by rfl, ?_⟩) hHeld ?_ ?_
      rotate_left
      ·rintro w' ⟨s0, s1, s2, s3, s4, s5, s6⟩
       go_simp
       with_reducible rfl
      rotate_left
      ·simp only [Act.put, pB, pC, pD, i64_w, i32_w]
       rfl
      refine one_ (i := 7) (N := some 28) #[true, true, true, true, true, true, true, true, true, true, false, false, false, false, false, false] rfl rfl (one_of HT_.out (by kernel_rfl)) (by decide) (fun K hK => ?_)
      refine goes_ Try.func93 (by kernel_rfl) rfl #[.agg #[.int .i64 a0_0, .int .i64 a0_1, .slice A0_2 l0_2.length c0_2]] (by rfl) rfl rfl (by (try simp only [pE, pF, pG]); first | done | rfl | (simp only [pH, pI]; rfl)) ?_
      with_reducible refine (potbankref03_lean.calls a0_0 a0_1 _ _ l0_2 t250 _ ?side1 ?side2 A30.out).mono ?_
      (case side1 => repeat (first | exact (Kd.C_below HR0_2.out HB.out) | (with_reducible refine Kd.C_alloc ?_ _) | (with_reducible refine Kd.C_drewN ?_ _) | (with_reducible refine Kd.C_drew ?_)))
      (case side2 => exact HC0_2.out)
      rintro e w38 ⟨rfl, hb⟩
      refine ⟨_, rfl, ?_⟩
      have n0_ := pA (blk_below (g := gb244) (o := .cells #[.int .i64 a0_0, .int .i64 a0_1, .slice A0_2 l0_2.length c0_2] 43 (0, 0)) (vK BK244) hb)
      have n1_ := pA (blk_below (g := gb245) (o := .cells #[.int .i64 a1_0, .int .i64 a1_1] 26 (0, 0)) (vK BK245) hb)
      have n2_ := pA (blk_below (g := gb248) (o := .cells #[.int .i64 t246, .int .i64 t247] 23 (0, 0)) (vK BK248) hb)
      have n3_ := pA (below_step (by repeat (first | (with_reducible first | exact HB.out | apply below_alloc | apply pw_below_drewN | apply below_drew1 | refine below_set ?_ GE244.out | refine below_set ?_ GE245.out | refine below_set ?_ GE248.out) | exact HB.out)) hb)
      clear BK244
      clear BK245
      clear BK248
      clear HB
      have BK244 := n0_
      have BK245 := n1_
      have BK248 := n2_
      have HB := n3_
      clear n0_ n1_ n2_ n3_
      (try clear hb)
      (try clear hb2)
      (try clear hk)
      (try clear hi)
      refine hK.out _ _ ⟨(blk_cell BK248.out 0).trans rfl, (blk_cell BK248.out 1).trans rfl, (blk_cell BK245.out 0).trans rfl, (blk_cell BK245.out 1).trans rfl, (blk_cell BK244.out 0).trans rfl, (blk_cell BK244.out 1).trans rfl, (blk_cell BK244.out 2).trans rfl⟩ (fun hHeld => ?_)
      clear hK K
      refine norm_ (a' := ?_) ?_ ?_
      rotate_left
      ·show Act.put _ (some 28) _ = _
       simp only [Act.put, pB, pC, pD, i64_w, i32_w]
       rfl
      refine pure_ (i := 10) (N := some 31) (v := ?_) (a' := ?_) #[true, true, true, true, true, true, true, true, true, true, true, false, false, false, false, false] rfl rfl (any_of HT_.out (by kernel_rfl)) (fun _ _ _ h => h) (Or.inl ⟨by rfl, ?_⟩) ?_ ?_
      rotate_left
      ·intro w'
       go_simp
       with_reducible rfl
      rotate_left
      ·simp only [Act.put, pB, pC, pD, i64_w, i32_w]
       rfl
      refine pure_ (i := 11) (N := some 32) (v := ?_) (a' := ?_) #[true, true, true, true, true, true, true, true, true, true, true, true, false, false, false, false] rfl rfl (any_of HT_.out (by kernel_rfl)) (fun _ _ _ h => h) (Or.inl ⟨by rfl, ?_⟩) ?_ ?_
      rotate_left
      ·intro w'
       go_simp
       with_reducible rfl
      rotate_left
      ·simp only [Act.put, pB, pC, pD, i64_w, i32_w]
       rfl
      refine pure_ (i := 12) (N := some 33) (v := ?_) (a' := ?_) #[true, true, true, true, true, true, true, true, true, true, true, true, true, false, false, false] rfl rfl (any_of HT_.out (by kernel_rfl)) (fun _ _ _ h => h) (Or.inl ⟨by rfl, ?_⟩) ?_ ?_
      rotate_left
      ·intro w'
       go_simp
       with_reducible rfl
      rotate_left
      ·simp only [Act.put, pB, pC, pD, i64_w, i32_w]
       rfl
      refine pure_ (i := 13) (N := some 34) (v := undef) (a' := ?_) #[true, true, true, true, true, true, true, true, true, true, true, true, true, true, false, false] rfl rfl (any_of HT_.out (by kernel_rfl)) (fun _ _ _ h => h) (Or.inr ⟨by rfl, rfl⟩) ?_ ?_
      rotate_left
      ·simp only [Act.put, pB, pC, pD, i64_w, i32_w]
       rfl
      refine pure_ (i := 14) (N := some 35) (v := undef) (a' := ?_) #[true, true, true, true, true, true, true, true, true, true, true, true, true, true, true, false] rfl rfl (any_of HT_.out (by kernel_rfl)) (fun _ _ _ h => h) (Or.inr ⟨by rfl, rfl⟩) ?_ ?_
      rotate_left
      ·simp only [Act.put, pB, pC, pD, i64_w, i32_w]
       rfl
      refine pure_ (i := 15) (N := some 36) (v := ?_) (a' := ?_) #[true, true, true, true, true, true, true, true, true, true, true, true, true, true, true, true] rfl rfl (any_of HT_.out (by kernel_rfl)) (fun _ _ _ h => h) (Or.inl ⟨by rfl, ?_⟩) ?_ ?_
      rotate_left
      ·intro w'
       go_simp
       with_reducible rfl
      rotate_left
      ·simp only [Act.put, pB, pC, pD, i64_w, i32_w]
       rfl
      refine done_ (done_of HT_.out (by kernel_rfl)) ?_
      try go_wp2
      go_ret
      exact ⟨by first | rfl | (simp [errW_none, errW_some] <;> rfl) | (simp [*, errW_none, errW_some] <;> rfl), by repeat (first | (with_reducible first | exact HB.out | apply below_alloc | apply pw_below_drewN | apply below_drew1 | refine below_set ?_ GE244.out | refine below_set ?_ GE245.out | refine below_set ?_ GE248.out) | exact HB.out)⟩
    ·rw [if_neg c29] at H
     have c29b0 : decide (t247 ≤ a1_0) = false := decide_eq_false c29
     clear c29
     obtain rfl := Option.some.inj H
     try go_wp2
     have n0_ := pA (blk_drew BK244.out)
     have n1_ := pA (blk_drew BK245.out)
     have n2_ := pA (blk_drew BK248.out)
     have n3_ := pA (below_drew1 HB.out)
     clear BK244
     clear BK245
     clear BK248
     clear HB
     have BK244 := n0_
     have BK245 := n1_
     have BK248 := n2_
     have HB := n3_
     clear n0_ n1_ n2_ n3_
     refine start_ (n := 16) (S := fun w' => w'.cell? ⟨gb248, 0, none⟩ = some (.int .i64 t246) ∧ w'.cell? ⟨gb248, 1, none⟩ = some (.int .i64 t247) ∧ w'.cell? ⟨gb245, 0, none⟩ = some (.int .i64 a1_0) ∧ w'.cell? ⟨gb245, 1, none⟩ = some (.int .i64 a1_1)) (ds := []) #[false, false, false, false, false, false, false, false, false, false, false, false, false, false, false, false] (by kernel_rfl) rfl rfl ⟨(blk_cell BK248.out 0).trans rfl, (blk_cell BK248.out 1).trans rfl, (blk_cell BK245.out 0).trans rfl, (blk_cell BK245.out 1).trans rfl⟩ (fun hHeld => ?_); refine with_tabW potbankref03_fits.tab5 potbankref03_fits.bits5 (fun HT_ HW_ => ?_)
     generalize wc.drew = w39 at BK244 BK245 BK248 HB hHeld ⊢
     refine pure_ (i := 0) (N := some 21) (v := ?_) (a' := ?_) #[true, false, false, false, false, false, false, false, false, false, false, false, false, false, false, false] rfl rfl (any_of HT_.out (by kernel_rfl)) (fun _ _ _ h => h) (Or.inl ⟨by rfl, ?_⟩) ?_ ?_
     rotate_left
     ·intro w'
      go_simp
      with_reducible rfl
     rotate_left
     ·simp only [Act.put, pB, pC, pD, i64_w, i32_w]
      rfl
     refine pure_ (i := 2) (N := some 23) (v := ?_) (a' := ?_) #[true, false, true, false, false, false, false, false, false, false, false, false, false, false, false, false] rfl rfl (any_of HT_.out (by kernel_rfl)) (fun _ _ _ h => h) (Or.inl ⟨by rfl, ?_⟩) ?_ ?_
     rotate_left
     ·intro w'
      go_simp
      with_reducible rfl
     rotate_left
     ·simp only [Act.put, pB, pC, pD, i64_w, i32_w]
      rfl
     refine take_ (i := 1) (N := some 22) (v := ?_) (a' := ?_) #[true, true, true, false, false, false, false, false, false, false, false, false, false, false, false, false] rfl rfl (take_ofW HT_.out HW_.out (by kernel_rfl)) (fun _ _ _ h => h) (Or.inl ⟨by rfl, ?_⟩) hHeld ?_ ?_
     rotate_left
     ·rintro w' ⟨s0, s1, s2, s3⟩
      go_simp
      with_reducible rfl
     rotate_left
     ·simp only [Act.put, pB, pC, pD, i64_w, i32_w]
      rfl
     refine take_ (i := 3) (N := some 24) (v := ?_) (a' := ?_) #[true, true, true, true, false, false, false, false, false, false, false, false, false, false, false, false] rfl rfl (take_ofW HT_.out HW_.out (by kernel_rfl)) (fun _ _ _ h => h) (Or.inl ⟨by rfl, ?_⟩) hHeld ?_ ?_
     rotate_left
     ·rintro w' ⟨s0, s1, s2, s3⟩
      go_simp
      with_reducible rfl
     rotate_left
     ·simp only [Act.put, pB, pC, pD, i64_w, i32_w]
      rfl
     refine pure_ (i := 4) (N := some 25) (v := ?_) (a' := ?_) #[true, true, true, true, true, false, false, false, false, false, false, false, false, false, false, false] rfl rfl (any_of HT_.out (by kernel_rfl)) (fun _ _ _ h => h) (Or.inl ⟨by rfl, ?_⟩) ?_ ?_
     rotate_left
     ·intro w'
      go_simp
      with_reducible rfl
     rotate_left
     ·simp only [Act.put, pB, pC, pD, i64_w, i32_w]
      rfl
     refine pure_ (i := 5) (N := some 26) (v := ?_) (a' := ?_) #[true, true, true, true, true, true, false, false, false, false, false, false, false, false, false, false] rfl rfl (any_of HT_.out (by kernel_rfl)) (fun _ _ _ h => h) (Or.inl ⟨by rfl, ?_⟩) ?_ ?_
     rotate_left
     ·intro w'
      go_simp
      with_reducible rfl
     rotate_left
     ·simp only [Act.put, pB, pC, pD, i64_w, i32_w]
      rfl
     refine pure_ (i := 6) (N := some 27) (v := undef) (a' := ?_) #[true, true, true, true, true, true, true, false, false, false, false, false, false, false, false, false] rfl rfl (any_of HT_.out (by kernel_rfl)) (fun _ _ _ h => h) (Or.inr ⟨by rfl, rfl⟩) ?_ ?_
     rotate_left
     ·simp only [Act.put, pB, pC, pD, i64_w, i32_w]
      rfl
     refine pure_ (i := 7) (N := some 28) (v := undef) (a' := ?_) #[true, true, true, true, true, true, true, true, false, false, false, false, false, false, false, false] rfl rfl (any_of HT_.out (by kernel_rfl)) (fun _ _ _ h => h) (Or.inr ⟨by rfl, rfl⟩) ?_ ?_
     rotate_left
     ·simp only [Act.put, pB, pC, pD, i64_w, i32_w]
      rfl
     refine pure_ (i := 8) (N := some 29) (v := undef) (a' := ?_) #[true, true, true, true, true, true, true, true, true, false, false, false, false, false, false, false] rfl rfl (any_of HT_.out (by kernel_rfl)) (fun _ _ _ h => h) (Or.inr ⟨by rfl, rfl⟩) ?_ ?_
     rotate_left
     ·simp only [Act.put, pB, pC, pD, i64_w, i32_w]
      rfl
     refine pure_ (i := 9) (N := some 30) (v := undef) (a' := ?_) #[true, true, true, true, true, true, true, true, true, true, false, false, false, false, false, false] rfl rfl (any_of HT_.out (by kernel_rfl)) (fun _ _ _ h => h) (Or.inr ⟨by rfl, rfl⟩) ?_ ?_
     rotate_left
     ·simp only [Act.put, pB, pC, pD, i64_w, i32_w]
      rfl
     refine pure_ (i := 10) (N := some 31) (v := undef) (a' := ?_) #[true, true, true, true, true, true, true, true, true, true, true, false, false, false, false, false] rfl rfl (any_of HT_.out (by kernel_rfl)) (fun _ _ _ h => h) (Or.inr ⟨by rfl, rfl⟩) ?_ ?_
     rotate_left
     ·simp only [Act.put, pB, pC, pD, i64_w, i32_w]
      rfl
     refine pure_ (i := 11) (N := some 32) (v := ?_) (a' := ?_) #[true, true, true, true, true, true, true, true, true, true, true, true, false, false, false, false] rfl rfl (any_of HT_.out (by kernel_rfl)) (fun _ _ _ h => h) (Or.inl ⟨by rfl, ?_⟩) ?_ ?_
     rotate_left
     ·intro w'
      go_simp
      with_reducible rfl
     rotate_left
     ·simp only [Act.put, pB, pC, pD, i64_w, i32_w]
      rfl
     refine pure_ (i := 12) (N := some 33) (v := ?_) (a' := ?_) #[true, true, true, true, true, true, true, true, true, true, true, true, true, false, false, false] rfl rfl (any_of HT_.out (by kernel_rfl)) (fun _ _ _ h => h) (Or.inl ⟨by rfl, ?_⟩) ?_ ?_
     rotate_left
     ·intro w'
      go_simp
      with_reducible rfl
     rotate_left
     ·simp only [Act.put, pB, pC, pD, i64_w, i32_w]
      rfl
     refine pure_ (i := 13) (N := some 34) (v := undef) (a' := ?_) #[true, true, true, true, true, true, true, true, true, true, true, true, true, true, false, false] rfl rfl (any_of HT_.out (by kernel_rfl)) (fun _ _ _ h => h) (Or.inr ⟨by rfl, rfl⟩) ?_ ?_
     rotate_left
     ·simp only [Act.put, pB, pC, pD, i64_w, i32_w]
      rfl
     refine pure_ (i := 14) (N := some 35) (v := undef) (a' := ?_) #[true, true, true, true, true, true, true, true, true, true, true, true, true, true, true, false] rfl rfl (any_of HT_.out (by kernel_rfl)) (fun _ _ _ h => h) (Or.inr ⟨by rfl, rfl⟩) ?_ ?_
     rotate_left
     ·simp only [Act.put, pB, pC, pD, i64_w, i32_w]
      rfl
     refine pure_ (i := 15) (N := some 36) (v := ?_) (a' := ?_) #[true, true, true, true, true, true, true, true, true, true, true, true, true, true, true, true] rfl rfl (any_of HT_.out (by kernel_rfl)) (fun _ _ _ h => h) (Or.inl ⟨by rfl, ?_⟩) ?_ ?_
     rotate_left
     ·intro w'
      go_simp
      with_reducible rfl
     rotate_left
     ·simp only [Act.put, pB, pC, pD, i64_w, i32_w]
      rfl
     refine done_ (done_of HT_.out (by kernel_rfl)) ?_
     try go_wp2
     go_ret
     exact ⟨by first | rfl | (simp [errW_none, errW_some] <;> rfl) | (simp [*, errW_none, errW_some] <;> rfl), by repeat (first | (with_reducible first | exact HB.out | apply below_alloc | apply pw_below_drewN | apply below_drew1 | refine below_set ?_ GE244.out | refine below_set ?_ GE245.out | refine below_set ?_ GE248.out) | exact HB.out)⟩
def potbankref03_Fits.f (k : Nat) (a0_0 : Int) (a0_1 : Int) (l0_2 : List (S52)) (a1_0 : Int) (a1_1 : Int) : Option (Int × Int) := (potbankref03_Check.f k a0_0 a0_1 l0_2).bind fun t407 => (if t407 = 0 then ((potbankref03_CheckSpot.f a1_0 a1_1).bind fun t408 => (if t408 = 0 then ((potbankref03_fits.f k a0_0 a0_1 l0_2 a1_0 a1_1).bind fun t409 => (some (t409, 0))) else (some (0, 33)))) else (some (0, 31)))
theorem potbankref03_Fits.mono : ∀ a0 a1 a2 a3 a4 k, LeO (potbankref03_Fits.f k a0 a1 a2 a3 a4) (potbankref03_Fits.f (k + 1) a0 a1 a2 a3 a4) := by
 intro a0 a1 a2 a3 a4 k
 unfold potbankref03_Fits.f
 repeat' first
   | (with_reducible exact potbankref03_Check.mono _ _ _ _)
   | (with_reducible exact potbankref03_fits.mono _ _ _ _ _ _)
   | (with_reducible exact LeO.refl _)
   | (with_reducible exact LeO.none _)
   | (with_reducible refine LeO.ite ?_ ?_)
   | (with_reducible refine LeO.bind ?_ (fun _ => ?_))
   | exact potbankref03_Check.mono _ _ _ _
   | exact potbankref03_fits.mono _ _ _ _ _ _
   | exact LeO.none _
   | refine LeO.ite ?_ ?_
   | refine LeO.bind ?_ (fun _ => ?_)
end Go.Proofs.Ytbiakjgjedhjhaa.P
