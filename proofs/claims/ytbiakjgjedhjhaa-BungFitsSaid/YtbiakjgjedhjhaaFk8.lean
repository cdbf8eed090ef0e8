/- Proved: the law BungFits of the program potbank answers true for every input, and leaves its arguments as they were. Conditions: none. (Part 8 of the texts, put together by wip/assemble.py of this repository.) -/
import Derived.Test.YtbiakjgjedhjhaaFk7
set_option linter.unusedVariables false
set_option linter.unusedSimpArgs false
namespace Go.Proofs.Ytbiakjgjedhjhaa.P
open Go.RowKit Go.Proofs.YtbiakjgjedhjhaaW.PrintWords Go.Proofs.YtbiakjgjedhjhaaW.PrintLast
set_option maxHeartbeats 8000000 in
set_option maxRecDepth 100000 in
theorem potbankref03_Fits.calls (k : Nat) (a0_0 : Int) (a0_1 : Int) (A0_2 : Option Addr) (c0_2 : Nat) (l0_2 : List (S52)) (a1_0 : Int) (a1_1 : Int) (r1 : Int) (r2 : Int) (w : World) (hr0_2 : Kd.C k52 w A0_2 l0_2.length l0_2) (hc0_2 : l0_2.length ≤ c0_2) (h : potbankref03_Fits.f k a0_0 a0_1 l0_2 a1_0 a1_1 = some (r1, r2)) :
  Calls Try.prog 31 #[.agg #[.int .i64 a0_0, .int .i64 a0_1, .slice A0_2 l0_2.length c0_2], .agg #[.int .i64 a1_0, .int .i64 a1_1]] w fun e w' => e = .returned (.tuple #[.int .i64 r1, .int .i64 r2]) ∧ Below w.heap.size w w' := by
 have hu43 := Try.underlying43
 have hu26 := Try.underlying26
 have HR0_2 := pA hr0_2
 have HC0_2 := pA hc0_2
 clear hr0_2 hc0_2
 have HB := pA (Below.refl w.heap.size w)
 have H : ((potbankref03_Check.f k a0_0 a0_1 l0_2).bind fun t423 => (if t423 = 0 then ((potbankref03_CheckSpot.f a1_0 a1_1).bind fun t424 => (if t424 = 0 then ((potbankref03_fits.f k a0_0 a0_1 l0_2 a1_0 a1_1).bind fun t425 => (some (t425, 0))) else (some (0, 33)))) else (some (0, 31)))) = some (r1, r2) := h
 clear h
 replace H := Option.bind_eq_some_iff.mp H
 obtain ⟨t423, A30, H⟩ := H
 replace H : (if t423 = 0 then ((potbankref03_CheckSpot.f a1_0 a1_1).bind fun t424 => (if t424 = 0 then ((potbankref03_fits.f k a0_0 a0_1 l0_2 a1_0 a1_1).bind fun t425 => (some (t425, 0))) else (some (0, 33)))) else (some (0, 31))) = some (r1, r2) := H
 have A3 := pA A30
 clear A30
 by_cases c4 : t423 = 0
 ·rw [if_pos c4] at H
  have c4b0 : (t423 == 0) = true := beq_iff_eq.mpr c4
  have c4b1 : (t423 != 0) = false := bne_eq_false_iff_eq.mpr c4
  clear c4
  replace H := Option.bind_eq_some_iff.mp H
  obtain ⟨t424, A50, H⟩ := H
  replace H : (if t424 = 0 then ((potbankref03_fits.f k a0_0 a0_1 l0_2 a1_0 a1_1).bind fun t425 => (some (t425, 0))) else (some (0, 33))) = some (r1, r2) := H
  have A5 := pA A50
  clear A50
  by_cases c6 : t424 = 0
  ·rw [if_pos c6] at H
   have c6b0 : (t424 == 0) = true := beq_iff_eq.mpr c6
   have c6b1 : (t424 != 0) = false := bne_eq_false_iff_eq.mpr c6
   clear c6
   replace H := Option.bind_eq_some_iff.mp H
   obtain ⟨t425, A70, H⟩ := H
   replace H : (some (t425, 0)) = some (r1, r2) := H
   have A7 := pA A70
   clear A70
   simp only [Option.some.injEq, Prod.mk.injEq] at H
   obtain ⟨rfl, rfl⟩ := H
   go_enter Try.func31, Try.ntmps31
   go_wp2_with (first | ((with_reducible refine gate_dst (N := 2) rfl ?_); refine box_event ?hg (N := 2) ?hd (cs := #[.int .i64 a0_0, .int .i64 a0_1, .slice A0_2 l0_2.length c0_2]) (t := 43) ?hr ?_; (case hd => rfl); (case hg => rfl); (case hr => first | (go_simp; done) | (go_simp; rfl)); intro gb421 hg w8 hbox hb; have n0_ := pA (below_step (vB HB) hb); have n1_ := pA (hbox); have n2_ := pA ((by rw [hg]; exact (below_size (vB HB)) : w.heap.size ≤ gb421)); have n3_ := pA ((by rw [hg]; exact (below_size (vB HB)) : w.heap.size ≤ gb421)); clear HB; have HB := n0_; have BK421 := n1_; have GW421 := n2_; have GE421 := n3_; clear n0_ n1_ n2_ n3_; clear hb hbox hg) | ((with_reducible refine gate_dst (N := 3) rfl ?_); refine box_event ?hg (N := 3) ?hd (cs := #[.int .i64 a1_0, .int .i64 a1_1]) (t := 26) ?hr ?_; (case hd => rfl); (case hg => rfl); (case hr => first | (go_simp; done) | (go_simp; rfl)); intro gb422 hg w9 hbox hb; have n0_ := pA (blk_below (g := gb421) (o := .cells #[.int .i64 a0_0, .int .i64 a0_1, .slice A0_2 l0_2.length c0_2] 43 (0, 0)) (vK BK421) hb); have n1_ := pA (below_step (by repeat (first | (with_reducible first | exact HB.out | apply below_alloc | apply pw_below_drewN | apply below_drew1 | refine below_set ?_ GE421.out) | exact HB.out)) hb); have n2_ := pA (hbox); have n3_ := pA ((by rw [hg]; exact (below_size (by repeat (first | (with_reducible first | exact HB.out | apply below_alloc | apply pw_below_drewN | apply below_drew1 | refine below_set ?_ GE421.out) | exact HB.out))) : w.heap.size ≤ gb422)); have n4_ := pA ((by rw [hg]; exact (below_size (by repeat (first | (with_reducible first | exact HB.out | apply below_alloc | apply pw_below_drewN | apply below_drew1 | refine below_set ?_ GE421.out) | exact HB.out))) : w.heap.size ≤ gb422)); have n5_ := pA ((by rw [hg]; exact Nat.ne_of_lt (blk_lt (g := gb421) (o := .cells #[.int .i64 a0_0, .int .i64 a0_1, .slice A0_2 l0_2.length c0_2] 43 (0, 0)) (vK BK421)) : gb421 ≠ gb422)); have n6_ := pA ((by rw [hg]; exact Nat.ne_of_gt (blk_lt (g := gb421) (o := .cells #[.int .i64 a0_0, .int .i64 a0_1, .slice A0_2 l0_2.length c0_2] 43 (0, 0)) (vK BK421)) : gb422 ≠ gb421)); clear BK421; clear HB; have BK421 := n0_; have HB := n1_; have BK422 := n2_; have GW422 := n3_; have GE422 := n4_; have NB421_422 := n5_; have NB422_421 := n6_; clear n0_ n1_ n2_ n3_ n4_ n5_ n6_; clear hb hbox hg; have hnb10 := NB421_422.out; have hnc10 := NB422_421.out; have hcz11_0 : w9.cell? ⟨gb421, 0, none⟩ = some (.int .i64 a0_0) := (blk_cell BK421.out 0).trans rfl; have hcz11_1 : w9.cell? ⟨gb421, 1, none⟩ = some (.int .i64 a0_1) := (blk_cell BK421.out 1).trans rfl; have hcz11_2 : w9.cell? ⟨gb421, 2, none⟩ = some (.slice A0_2 l0_2.length c0_2) := (blk_cell BK421.out 2).trans rfl; have hfz11_0 := blk_frozen BK421.out 0; have hfz11_1 := blk_frozen BK421.out 1; have hfz11_2 := blk_frozen BK421.out 2) | ((with_reducible refine aF (f := 48) rfl ?_); refine goesL_ (some 7) rfl rfl Try.func48 (by kernel_rfl) rfl #[.agg #[.int .i64 a0_0, .int .i64 a0_1, .slice A0_2 l0_2.length c0_2]] rfl (by (try simp only [List.map_toArray, List.map_cons, List.map_nil]); first | done | rfl | (simp only [List.length_drop, List.length_take]; rfl)) ?_; (with_reducible refine (potbankref03_Check.calls k a0_0 a0_1 _ _ l0_2 t423 _ ?side1 ?side2 A3.out).mono ?_); (case side1 => repeat (first | exact (Kd.C_below HR0_2.out HB.out) | (with_reducible refine Kd.C_alloc ?_ _) | (with_reducible refine Kd.C_drewN ?_ _) | (with_reducible refine Kd.C_drew ?_))); (case side2 => exact HC0_2.out); rintro e w12 ⟨rfl, hb⟩; refine ⟨_, rfl, ?_⟩; have n0_ := pA (blk_below (g := gb421) (o := .cells #[.int .i64 a0_0, .int .i64 a0_1, .slice A0_2 l0_2.length c0_2] 43 (0, 0)) (vK BK421) hb); have n1_ := pA (blk_below (g := gb422) (o := .cells #[.int .i64 a1_0, .int .i64 a1_1] 26 (0, 0)) (vK BK422) hb); have n2_ := pA (below_step (by repeat (first | (with_reducible first | exact HB.out | apply below_alloc | apply pw_below_drewN | apply below_drew1 | refine below_set ?_ GE421.out | refine below_set ?_ GE422.out) | exact HB.out)) hb); clear BK421; clear BK422; clear HB; have BK421 := n0_; have BK422 := n1_; have HB := n2_; clear n0_ n1_ n2_; (try clear hb); (try clear hb2); (try clear hk); (try clear hi); have hcz13_0 : w12.cell? ⟨gb422, 0, none⟩ = some (.int .i64 a1_0) := (blk_cell BK422.out 0).trans rfl; have hcz13_1 : w12.cell? ⟨gb422, 1, none⟩ = some (.int .i64 a1_1) := (blk_cell BK422.out 1).trans rfl; have hfz13_0 := blk_frozen BK422.out 0; have hfz13_1 := blk_frozen BK422.out 1) | ((with_reducible refine aF (f := 52) rfl ?_); refine goesL_ (some 10) rfl rfl Try.func52 (by kernel_rfl) rfl #[.agg #[.int .i64 a1_0, .int .i64 a1_1]] rfl (by (try simp only [List.map_toArray, List.map_cons, List.map_nil]); first | done | rfl | (simp only [List.length_drop, List.length_take]; rfl)) ?_; (with_reducible refine (potbankref03_CheckSpot.calls a1_0 a1_1 t424 _ A5.out).mono ?_); rintro e w14 ⟨rfl, hb⟩; refine ⟨_, rfl, ?_⟩; have n0_ := pA (blk_below (g := gb421) (o := .cells #[.int .i64 a0_0, .int .i64 a0_1, .slice A0_2 l0_2.length c0_2] 43 (0, 0)) (vK BK421) hb); have n1_ := pA (blk_below (g := gb422) (o := .cells #[.int .i64 a1_0, .int .i64 a1_1] 26 (0, 0)) (vK BK422) hb); have n2_ := pA (below_step (by repeat (first | (with_reducible first | exact HB.out | apply below_alloc | apply pw_below_drewN | apply below_drew1 | refine below_set ?_ GE421.out | refine below_set ?_ GE422.out) | exact HB.out)) hb); clear BK421; clear BK422; clear HB; have BK421 := n0_; have BK422 := n1_; have HB := n2_; clear n0_ n1_ n2_; (try clear hb); (try clear hb2); (try clear hk); (try clear hi); have hcz15_0 : w14.cell? ⟨gb421, 0, none⟩ = some (.int .i64 a0_0) := (blk_cell BK421.out 0).trans rfl; have hcz15_1 : w14.cell? ⟨gb421, 1, none⟩ = some (.int .i64 a0_1) := (blk_cell BK421.out 1).trans rfl; have hcz15_2 : w14.cell? ⟨gb421, 2, none⟩ = some (.slice A0_2 l0_2.length c0_2) := (blk_cell BK421.out 2).trans rfl; have hfz15_0 := blk_frozen BK421.out 0; have hfz15_1 := blk_frozen BK421.out 1; have hfz15_2 := blk_frozen BK421.out 2; have hcz16_0 : w14.cell? ⟨gb422, 0, none⟩ = some (.int .i64 a1_0) := (blk_cell BK422.out 0).trans rfl; have hcz16_1 : w14.cell? ⟨gb422, 1, none⟩ = some (.int .i64 a1_1) := (blk_cell BK422.out 1).trans rfl; have hfz16_0 := blk_frozen BK422.out 0; have hfz16_1 := blk_frozen BK422.out 1) | ((with_reducible refine aF (f := 87) rfl ?_); refine goesL_ (some 14) rfl rfl Try.func87 (by kernel_rfl) rfl #[.agg #[.int .i64 a0_0, .int .i64 a0_1, .slice A0_2 l0_2.length c0_2], .agg #[.int .i64 a1_0, .int .i64 a1_1]] rfl (by (try simp only [List.map_toArray, List.map_cons, List.map_nil]); first | done | rfl | (simp only [List.length_drop, List.length_take]; rfl)) ?_; (with_reducible refine (potbankref03_fits.calls k a0_0 a0_1 _ _ l0_2 a1_0 a1_1 t425 _ ?side1 ?side2 A7.out).mono ?_); (case side1 => repeat (first | exact (Kd.C_below HR0_2.out HB.out) | (with_reducible refine Kd.C_alloc ?_ _) | (with_reducible refine Kd.C_drewN ?_ _) | (with_reducible refine Kd.C_drew ?_))); (case side2 => exact HC0_2.out); rintro e w17 ⟨rfl, hb⟩; refine ⟨_, rfl, ?_⟩; have n0_ := pA (blk_below (g := gb421) (o := .cells #[.int .i64 a0_0, .int .i64 a0_1, .slice A0_2 l0_2.length c0_2] 43 (0, 0)) (vK BK421) hb); have n1_ := pA (blk_below (g := gb422) (o := .cells #[.int .i64 a1_0, .int .i64 a1_1] 26 (0, 0)) (vK BK422) hb); have n2_ := pA (below_step (by repeat (first | (with_reducible first | exact HB.out | apply below_alloc | apply pw_below_drewN | apply below_drew1 | refine below_set ?_ GE421.out | refine below_set ?_ GE422.out) | exact HB.out)) hb); clear BK421; clear BK422; clear HB; have BK421 := n0_; have BK422 := n1_; have HB := n2_; clear n0_ n1_ n2_; (try clear hb); (try clear hb2); (try clear hk); (try clear hi)))
   go_ret2
   exact ⟨by first | rfl | (simp [errW_none, errW_some] <;> rfl) | (simp [*, errW_none, errW_some] <;> rfl), by repeat (first | (with_reducible first | exact HB.out | apply below_alloc | apply pw_below_drewN | apply below_drew1 | refine below_set ?_ GE421.out | refine below_set ?_ GE422.out) | exact HB.out)⟩
  ·rw [if_neg c6] at H
   have c6b0 : (t424 == 0) = false := beq_eq_false_iff_ne.mpr c6
   have c6b1 : (t424 != 0) = true := bne_iff_ne.mpr c6
   simp only [Option.some.injEq, Prod.mk.injEq] at H
   obtain ⟨rfl, rfl⟩ := H
   go_enter Try.func31, Try.ntmps31
   go_wp2_with (first | ((with_reducible refine gate_dst (N := 2) rfl ?_); refine box_event ?hg (N := 2) ?hd (cs := #[.int .i64 a0_0, .int .i64 a0_1, .slice A0_2 l0_2.length c0_2]) (t := 43) ?hr ?_; (case hd => rfl); (case hg => rfl); (case hr => first | (go_simp; done) | (go_simp; rfl)); intro gb421 hg w18 hbox hb; have n0_ := pA (below_step (vB HB) hb); have n1_ := pA (hbox); have n2_ := pA ((by rw [hg]; exact (below_size (vB HB)) : w.heap.size ≤ gb421)); have n3_ := pA ((by rw [hg]; exact (below_size (vB HB)) : w.heap.size ≤ gb421)); clear HB; have HB := n0_; have BK421 := n1_; have GW421 := n2_; have GE421 := n3_; clear n0_ n1_ n2_ n3_; clear hb hbox hg) | ((with_reducible refine gate_dst (N := 3) rfl ?_); refine box_event ?hg (N := 3) ?hd (cs := #[.int .i64 a1_0, .int .i64 a1_1]) (t := 26) ?hr ?_; (case hd => rfl); (case hg => rfl); (case hr => first | (go_simp; done) | (go_simp; rfl)); intro gb422 hg w19 hbox hb; have n0_ := pA (blk_below (g := gb421) (o := .cells #[.int .i64 a0_0, .int .i64 a0_1, .slice A0_2 l0_2.length c0_2] 43 (0, 0)) (vK BK421) hb); have n1_ := pA (below_step (by repeat (first | (with_reducible first | exact HB.out | apply below_alloc | apply pw_below_drewN | apply below_drew1 | refine below_set ?_ GE421.out) | exact HB.out)) hb); have n2_ := pA (hbox); have n3_ := pA ((by rw [hg]; exact (below_size (by repeat (first | (with_reducible first | exact HB.out | apply below_alloc | apply pw_below_drewN | apply below_drew1 | refine below_set ?_ GE421.out) | exact HB.out))) : w.heap.size ≤ gb422)); have n4_ := pA ((by rw [hg]; exact (below_size (by repeat (first | (with_reducible first | exact HB.out | apply below_alloc | apply pw_below_drewN | apply below_drew1 | refine below_set ?_ GE421.out) | exact HB.out))) : w.heap.size ≤ gb422)); have n5_ := pA ((by rw [hg]; exact Nat.ne_of_lt (blk_lt (g := gb421) (o := .cells #[.int .i64 a0_0, .int .i64 a0_1, .slice A0_2 l0_2.length c0_2] 43 (0, 0)) (vK BK421)) : gb421 ≠ gb422)); have n6_ := pA ((by rw [hg]; exact Nat.ne_of_gt (blk_lt (g := gb421) (o := .cells #[.int .i64 a0_0, .int .i64 a0_1, .slice A0_2 l0_2.length c0_2] 43 (0, 0)) (vK BK421)) : gb422 ≠ gb421)); clear BK421; clear HB; have BK421 := n0_; have HB := n1_; have BK422 := n2_; have GW422 := n3_; have GE422 := n4_; have NB421_422 := n5_; have NB422_421 := n6_; clear n0_ n1_ n2_ n3_ n4_ n5_ n6_; clear hb hbox hg; have hnb20 := NB421_422.out; have hnc20 := NB422_421.out; have hcz21_0 : w19.cell? ⟨gb421, 0, none⟩ = some (.int .i64 a0_0) := (blk_cell BK421.out 0).trans rfl; have hcz21_1 : w19.cell? ⟨gb421, 1, none⟩ = some (.int .i64 a0_1) := (blk_cell BK421.out 1).trans rfl; have hcz21_2 : w19.cell? ⟨gb421, 2, none⟩ = some (.slice A0_2 l0_2.length c0_2) := (blk_cell BK421.out 2).trans rfl; have hfz21_0 := blk_frozen BK421.out 0; have hfz21_1 := blk_frozen BK421.out 1; have hfz21_2 := blk_frozen BK421.out 2) | ((with_reducible refine aF (f := 48) rfl ?_); refine goesL_ (some 7) rfl rfl Try.func48 (by kernel_rfl) rfl #[.agg #[.int .i64 a0_0, .int .i64 a0_1, .slice A0_2 l0_2.length c0_2]] rfl (by (try simp only [List.map_toArray, List.map_cons, List.map_nil]); first | done | rfl | (simp only [List.length_drop, List.length_take]; rfl)) ?_; (with_reducible refine (potbankref03_Check.calls k a0_0 a0_1 _ _ l0_2 t423 _ ?side1 ?side2 A3.out).mono ?_); (case side1 => repeat (first | exact (Kd.C_below HR0_2.out HB.out) | (with_reducible refine Kd.C_alloc ?_ _) | (with_reducible refine Kd.C_drewN ?_ _) | (with_reducible refine Kd.C_drew ?_))); (case side2 => exact HC0_2.out); rintro e w22 ⟨rfl, hb⟩; refine ⟨_, rfl, ?_⟩; have n0_ := pA (blk_below (g := gb421) (o := .cells #[.int .i64 a0_0, .int .i64 a0_1, .slice A0_2 l0_2.length c0_2] 43 (0, 0)) (vK BK421) hb); have n1_ := pA (blk_below (g := gb422) (o := .cells #[.int .i64 a1_0, .int .i64 a1_1] 26 (0, 0)) (vK BK422) hb); have n2_ := pA (below_step (by repeat (first | (with_reducible first | exact HB.out | apply below_alloc | apply pw_below_drewN | apply below_drew1 | refine below_set ?_ GE421.out | refine below_set ?_ GE422.out) | exact HB.out)) hb); clear BK421; clear BK422; clear HB; have BK421 := n0_; have BK422 := n1_; have HB := n2_; clear n0_ n1_ n2_; (try clear hb); (try clear hb2); (try clear hk); (try clear hi); have hcz23_0 : w22.cell? ⟨gb422, 0, none⟩ = some (.int .i64 a1_0) := (blk_cell BK422.out 0).trans rfl; have hcz23_1 : w22.cell? ⟨gb422, 1, none⟩ = some (.int .i64 a1_1) := (blk_cell BK422.out 1).trans rfl; have hfz23_0 := blk_frozen BK422.out 0; have hfz23_1 := blk_frozen BK422.out 1) | ((with_reducible refine aF (f := 52) rfl ?_); refine goesL_ (some 10) rfl rfl Try.func52 (by kernel_rfl) rfl #[.agg #[.int .i64 a1_0, .int .i64 a1_1]] rfl (by (try simp only [List.map_toArray, List.map_cons, List.map_nil]); first | done | rfl | (simp only [List.length_drop, List.length_take]; rfl)) ?_; (with_reducible refine (potbankref03_CheckSpot.calls a1_0 a1_1 t424 _ A5.out).mono ?_); rintro e w24 ⟨rfl, hb⟩; refine ⟨_, rfl, ?_⟩; have n0_ := pA (blk_below (g := gb421) (o := .cells #[.int .i64 a0_0, .int .i64 a0_1, .slice A0_2 l0_2.length c0_2] 43 (0, 0)) (vK BK421) hb); have n1_ := pA (blk_below (g := gb422) (o := .cells #[.int .i64 a1_0, .int .i64 a1_1] 26 (0, 0)) (vK BK422) hb); have n2_ := pA (below_step (by repeat (first | (with_reducible first | exact HB.out | apply below_alloc | apply pw_below_drewN | apply below_drew1 | refine below_set ?_ GE421.out | refine below_set ?_ GE422.out) | exact HB.out)) hb); clear BK421; clear BK422; clear HB; have BK421 := n0_; have BK422 := n1_; have HB := n2_; clear n0_ n1_ n2_; (try clear hb); (try clear hb2); (try clear hk); (try clear hi)))
   go_ret2
   exact ⟨by first | rfl | (simp [errW_none, errW_some] <;> rfl) | (simp [*, errW_none, errW_some] <;> rfl), by repeat (first | (with_reducible first | exact HB.out | apply below_alloc | apply pw_below_drewN | apply below_drew1 | refine below_set ?_ GE421.out | refine below_set ?_ GE422.out) | exact HB.out)⟩
 ·rw [if_neg c4] at H
  have c4b0 : (t423 == 0) = false := beq_eq_false_iff_ne.mpr c4
  have c4b1 : (t423 != 0) = true := bne_iff_ne.mpr c4
  simp only [Option.some.injEq, Prod.mk.injEq] at H
  obtain ⟨rfl, rfl⟩ := H
  go_enter Try.func31, Try.ntmps31
  go_wp2_with (first | ((with_reducible refine gate_dst (N := 2) rfl ?_); refine box_event ?hg (N := 2) ?hd (cs := #[.int .i64 a0_0, .int .i64 a0_1, .slice A0_2 l0_2.length c0_2]) (t := 43) ?hr ?_; (case hd => rfl); (case hg => rfl); (case hr => first | (go_simp; done) | (go_simp; rfl)); intro gb421 hg w25 hbox hb; have n0_ := pA (below_step (vB HB) hb); have n1_ := pA (hbox); have n2_ := pA ((by rw [hg]; exact (below_size (vB HB)) : w.heap.size ≤ gb421)); have n3_ := pA ((by rw [hg]; exact (below_size (vB HB)) : w.heap.size ≤ gb421)); clear HB; have HB := n0_; have BK421 := n1_; have GW421 := n2_; have GE421 := n3_; clear n0_ n1_ n2_ n3_; clear hb hbox hg) | ((with_reducible refine gate_dst (N := 3) rfl ?_); refine box_event ?hg (N := 3) ?hd (cs := #[.int .i64 a1_0, .int .i64 a1_1]) (t := 26) ?hr ?_; (case hd => rfl); (case hg => rfl); (case hr => first | (go_simp; done) | (go_simp; rfl)); intro gb422 hg w26 hbox hb; have n0_ := pA (blk_below (g := gb421) (o := .cells #[.int .i64 a0_0, .int .i64 a0_1, .slice A0_2 l0_2.length c0_2] 43 (0, 0)) (vK BK421) hb); have n1_ := pA (below_step (by repeat (first | (with_reducible first | exact HB.out | apply below_alloc | apply pw_below_drewN | apply below_drew1 | refine below_set ?_ GE421.out) | exact HB.out)) hb); have n2_ := pA (hbox); have n3_ := pA ((by rw [hg]; exact (below_size (by repeat (first | (with_reducible first | exact HB.out | apply below_alloc | apply pw_below_drewN | apply below_drew1 | refine below_set ?_ GE421.out) | exact HB.out))) : w.heap.size ≤ gb422)); have n4_ := pA ((by rw [hg]; exact (below_size (by repeat (first | (with_reducible first | exact HB.out | apply below_alloc | apply pw_below_drewN | apply below_drew1 | refine below_set ?_ GE421.out) | exact HB.out))) : w.heap.size ≤ gb422)); have n5_ := pA ((by rw [hg]; exact Nat.ne_of_lt (blk_lt (g := gb421) (o := .cells #[.int .i64 a0_0, .int .i64 a0_1, .slice A0_2 l0_2.length c0_2] 43 (0, 0)) (vK BK421)) : gb421 ≠ gb422)); have n6_ := pA ((by rw [hg]; exact Nat.ne_of_gt (blk_lt (g := gb421) (o := .cells #[.int .i64 a0_0, .int .i64 a0_1, .slice A0_2 l0_2.length c0_2] 43 (0, 0)) (vK BK421)) : gb422 ≠ gb421)); clear BK421; clear HB; have BK421 := n0_; have HB := n1_; have BK422 := n2_; have GW422 := n3_; have GE422 := n4_; have NB421_422 := n5_; have NB422_421 := n6_; clear n0_ n1_ n2_ n3_ n4_ n5_ n6_; clear hb hbox hg; have hnb27 := NB421_422.out; have hnc27 := NB422_421.out; have hcz28_0 : w26.cell? ⟨gb421, 0, none⟩ = some (.int .i64 a0_0) := (blk_cell BK421.out 0).trans rfl; have hcz28_1 : w26.cell? ⟨gb421, 1, none⟩ = some (.int .i64 a0_1) := (blk_cell BK421.out 1).trans rfl; have hcz28_2 : w26.cell? ⟨gb421, 2, none⟩ = some (.slice A0_2 l0_2.length c0_2) := (blk_cell BK421.out 2).trans rfl; have hfz28_0 := blk_frozen BK421.out 0; have hfz28_1 := blk_frozen BK421.out 1; have hfz28_2 := blk_frozen BK421.out 2) | ((with_reducible refine aF (f := 48) rfl ?_); refine goesL_ (some 7) rfl rfl Try.func48 (by kernel_rfl) rfl #[.agg #[.int .i64 a0_0, .int .i64 a0_1, .slice A0_2 l0_2.length c0_2]] rfl (by (try simp only [List.map_toArray, List.map_cons, List.map_nil]); first | done | rfl | (simp only [List.length_drop, List.length_take]; rfl)) ?_; (with_reducible refine (potbankref03_Check.calls k a0_0 a0_1 _ _ l0_2 t423 _ ?side1 ?side2 A3.out).mono ?_); (case side1 => repeat (first | exact (Kd.C_below HR0_2.out HB.out) | (with_reducible refine Kd.C_alloc ?_ _) | (with_reducible refine Kd.C_drewN ?_ _) | (with_reducible refine Kd.C_drew ?_))); (case side2 => exact HC0_2.out); rintro e w29 ⟨rfl, hb⟩; refine ⟨_, rfl, ?_⟩; have n0_ := pA (blk_below (g := gb421) (o := .cells #[.int .i64 a0_0, .int .i64 a0_1, .slice A0_2 l0_2.length c0_2] 43 (0, 0)) (vK BK421) hb); have n1_ := pA (blk_below (g := gb422) (o := .cells #[.int .i64 a1_0, .int .i64 a1_1] 26 (0, 0)) (vK BK422) hb); have n2_ := pA (below_step (by repeat (first | (with_reducible first | exact HB.out | apply below_alloc | apply pw_below_drewN | apply below_drew1 | refine below_set ?_ GE421.out | refine below_set ?_ GE422.out) | exact HB.out)) hb); clear BK421; clear BK422; clear HB; have BK421 := n0_; have BK422 := n1_; have HB := n2_; clear n0_ n1_ n2_; (try clear hb); (try clear hb2); (try clear hk); (try clear hi)))
  go_ret2
  exact ⟨by first | rfl | (simp [errW_none, errW_some] <;> rfl) | (simp [*, errW_none, errW_some] <;> rfl), by repeat (first | (with_reducible first | exact HB.out | apply below_alloc | apply pw_below_drewN | apply below_drew1 | refine below_set ?_ GE421.out | refine below_set ?_ GE422.out) | exact HB.out)⟩
theorem isBung_eq (a b : Int) (l : List S52) : bung_isBung.f a b l = some (decide (vWad a b = true ∧ l ≠ [] ∧ okList l = true)) := by
 unfold bung_isBung.f bung_isList.f
 rw [isWad_eq]
 simp only [Option.bind_some]
 cases vWad a b with
 | false => simp
 | true =>
  rw [if_pos rfl]
  by_cases h0 : l = []
  ·subst h0; simp
  ·have : 0 < l.length := List.length_pos_iff.2 h0
   rw [if_pos (by omega)]
   cases okList l <;> simp [h0]
theorem okBung_mk {a b : Int} {l : List S52} (h : vWad a b = true ∧ l ≠ [] ∧ okList l = true) : okBung a b l = true := by
  simp only [okBung, Bool.and_eq_true, decide_eq_true_eq]
  exact ⟨h.1, okSome_of h.2.2, List.length_pos_iff.2 h.2.1⟩
theorem refFits_eq {a b : Int} {l : List S52} (h : okBung a b l = true) (c n : Int) (k : Nat) (hk : 0 < k) : potbankref03_fits.f k a b l c n = some (fitsOf ⟨a, b⟩ l c n) := by
 obtain ⟨k, rfl⟩ : ∃ m, k = m + 1 := ⟨k - 1, by omega⟩
 unfold potbankref03_fits.f potbankref03_height.f potbankref03_stands.f
 rw [if_pos h, if_pos (okBung_of h).2.1]
 simp only [Option.bind_some, potbankref03_fits.j0, potbankref03_lean.f]
 rw [if_pos h]
 simp only [Option.bind_some]
 unfold fitsOf
 by_cases h1 : (heightOf ⟨a, b⟩ l).f0 > c <;> by_cases h2 : standsOf l = 0 <;> by_cases h3 : (heightOf ⟨a, b⟩ l).f1 ≤ c <;> by_cases h4 : leanOf b l ≤ n <;> by_cases h5 : standsOf l = 1 <;> simp [h1, h2, h3, h4, h5]
theorem spot_both (a b : Int) : ∃ s : Bool, bung_isSpot.f a b = some s ∧ potbankref03_CheckSpot.f a b = some (if s = true then 0 else 33) := by
 unfold bung_isSpot.f potbankref03_CheckSpot.f
 simp only [within_f, in_eq, Option.bind_some]
 by_cases h1 : (0 ≤ a ∧ a ≤ 400000) <;> by_cases h2 : (0 ≤ b ∧ b ≤ 100000) <;> simp [h1, h2]
theorem fits_both (a b : Int) (l : List S52) (c n : Int) : ∃ x e, bung_Fits.f 2000 a b l c n = some (x, e) ∧ potbankref03_Fits.f 2000 a b l c n = some (x, e) := by
 obtain ⟨s, hs1, hs2⟩ := spot_both c n
 unfold bung_Fits.f potbankref03_Fits.f
 rw [isBung_eq, refCheck_eq a b l 2000 (by omega), hs1, hs2]
 simp only [Option.bind_some, decide_eq_true_eq]
 by_cases hb : vWad a b = true ∧ l ≠ [] ∧ okList l = true
 ·rw [if_pos hb, if_pos hb, if_pos rfl]
  cases s with
  | false => exact ⟨0, 33, by simp, by simp⟩
  | true =>
   have hok := okBung_mk hb
   have e1 := fits_eq ⟨a, b⟩ hb.1 l (okSome_of hb.2.2) (List.length_pos_iff.2 hb.2.1) c n 2000 (by omega)
   dsimp only at e1
   rw [e1, refFits_eq hok c n 2000 (by omega)]
   exact ⟨fitsOf ⟨a, b⟩ l c n, 0, by simp, by simp⟩
 ·rw [if_neg hb, if_neg hb]
  exact ⟨0, 31, rfl, by simp⟩
set_option maxHeartbeats 8000000 in
set_option maxRecDepth 100000 in
theorem fits_walk (a b : Int) (A0 : Option Addr) (c0 : Nat) (l0 : List S52) (c n : Int) (w : World) (hr0 : Kd.C k52 w A0 l0.length l0) (hc0 : l0.length ≤ c0) :
  Calls Try.prog 5 #[.agg #[.int .i64 a, .int .i64 b, .slice A0 l0.length c0], .agg #[.int .i64 c, .int .i64 n]] w fun e w' => e = .returned (.bool true) ∧ Below w.heap.size w w' := by
 have HR0 := pA hr0
 obtain ⟨x, e, h1, h2⟩ := fits_both a b l0 c n
 have H1 := pA h1
 have H2 := pA h2
 clear hr0 h1 h2
 have e1 : (x == x) = true := by simp
 have e2 : (e == e) = true := by simp
 have HX := pA (blk_alloc (heap_alloc_new w (.cells #[.int .i64 a, .int .i64 b, .slice A0 l0.length c0] 43 (0, 0))) (.cells #[.int .i64 c, .int .i64 n] 26 (0, 0)))
 have HY := pA (blk_new2 w (.cells #[.int .i64 a, .int .i64 b, .slice A0 l0.length c0] 43 (0, 0)) (.cells #[.int .i64 c, .int .i64 n] 26 (0, 0)))
 go_enter Try.func5, Try.ntmps5
 go_wp2_with fail
 refine (potbanklaw03_sane.calls true _ rfl).mono ?_
 rintro e' w1 ⟨rfl, hb⟩
 have HB1 := pA (below_step (below_alloc (below_alloc (Below.refl w.heap.size w) (.cells #[.int .i64 a, .int .i64 b, .slice A0 l0.length c0] 43 (0, 0))) (.cells #[.int .i64 c, .int .i64 n] 26 (0, 0))) hb)
 replace HX := pA (blk_below HX.out hb)
 replace HY := pA (blk_below HY.out hb)
 clear hb
 have x0 := blk_cell HX.out 0
 have x1 := blk_cell HX.out 1
 have x2 := blk_cell HX.out 2
 have y0 := blk_cell HY.out 0
 have y1 := blk_cell HY.out 1
 go_wp2_with fail
 refine (bung_Fits.calls 2000 a b A0 c0 l0 c n x e _ (Kd.C_below HR0.out HB1.out) hc0 H1.out).mono ?_
 rintro e' w2 ⟨rfl, hb⟩
 replace HB1 := pA (below_step HB1.out hb)
 replace HX := pA (blk_below HX.out hb)
 replace HY := pA (blk_below HY.out hb)
 clear hb x0 x1 x2 y0 y1
 have x0 := blk_cell HX.out 0
 have x1 := blk_cell HX.out 1
 have x2 := blk_cell HX.out 2
 have y0 := blk_cell HY.out 0
 have y1 := blk_cell HY.out 1
 go_wp2_with fail
 refine (potbankref03_Fits.calls 2000 a b A0 c0 l0 c n x e _ (Kd.C_below HR0.out HB1.out) hc0 H2.out).mono ?_
 rintro e' w3 ⟨rfl, hb⟩
 replace HB1 := pA (below_step HB1.out hb)
 clear hb x0 x1 x2 y0 y1
 go_wp2
 go_ret
 exact ⟨rfl, HB1.out⟩
end Go.Proofs.Ytbiakjgjedhjhaa.P
namespace Go.Proofs.Ytbiakjgjedhjhaa.bungFits
open Go.ChangeShapes Go.WideShapes Go.ChangeAt Go.RowKit Go.Proofs.Ytbiakjgjedhjhaa.P Go.Proofs.YtbiakjgjedhjhaaW.PrintWords
theorem own : ownKnob Try.prog.godebug = none := by kernel_rfl
theorem laidOut : laidOutB Try.prog = true := by kernel_rfl
def ok3 := fun n : Int => (Lit.int .i64 n).wf = true
theorem op3 : Opens Try.prog (Kd.int .i64) 3 ok3 := opens_int Try.underlying3
def ok23t := fun v : (Int × Int) => ok3 v.1 ∧ ok3 v.2
theorem op23t : Opens Try.prog (Kd.pair (Kd.int .i64) (Kd.int .i64)) 23 ok23t := opens_struct Try.underlying23 (by kernel_rfl) (opens_cons rfl (by kernel_rfl) rfl op3 (opens_one rfl (by kernel_rfl) op3))
def ok23 := fun v : S23 => ok3 v.f0 ∧ ok3 v.f1
theorem op23 : Opens Try.prog k23 23 ok23 := opens_iso (fun v => ⟨v.1, v.2⟩) (fun _ => rfl) (opens_struct Try.underlying23 (by kernel_rfl) (opens_cons rfl (by kernel_rfl) rfl op3 (opens_one rfl (by kernel_rfl) op3)))
def ok52 := fun v : S52 => ok3 v.f0 ∧ ok23 v.f1 ∧ ok23 v.f2 ∧ ok23 v.f3 ∧ ok3 v.f4
theorem op52 : Opens Try.prog k52 52 ok52 := opens_iso (fun v => ⟨v.1, v.2.1, v.2.2.1, v.2.2.2.1, v.2.2.2.2⟩) (fun _ => rfl) (opens_struct Try.underlying52 (by kernel_rfl) (opens_cons rfl (by kernel_rfl) rfl op3 (opens_cons rfl (by kernel_rfl) rfl op23 (opens_cons rfl (by kernel_rfl) rfl op23 (opens_cons rfl (by kernel_rfl) rfl op23 (opens_one rfl (by kernel_rfl) op3))))))
def ok24 := fun xs : (List S52) => xs.length ≤ 9223372036854775807 ∧ ∀ x ∈ xs, ok52 x
theorem op24 : Opens Try.prog (Kd.slice 52 k52) 24 ok24 := opens_slice Try.underlying24 (by kernel_rfl) op52
def ok43t := fun v : ((Int × Int) × (List S52)) => ok23t v.1 ∧ ok24 v.2
theorem op43t : Opens Try.prog (Kd.pair (Kd.pair (Kd.int .i64) (Kd.int .i64)) (Kd.slice 52 k52)) 43 ok43t := opens_struct Try.underlying43 (by kernel_rfl) (opens_cons rfl (by kernel_rfl) rfl op23t (opens_one rfl (by kernel_rfl) op24))
def ok26t := fun v : (Int × Int) => ok3 v.1 ∧ ok3 v.2
theorem op26t : Opens Try.prog (Kd.pair (Kd.int .i64) (Kd.int .i64)) 26 ok26t := opens_struct Try.underlying26 (by kernel_rfl) (opens_cons rfl (by kernel_rfl) rfl op3 (opens_one rfl (by kernel_rfl) op3))
set_option maxRecDepth 100000 in
theorem lifted (os : Os) (started : os.Started) (H : Type) (enc : TypeId × Value → H) :
  ReturnsInHanded {} Try.checked os 5 .any (Rows.bungFitsSpec.pre6 enc Try.prog Try.f5 Rows.bungFitsRow.domain false) (Rows.bungFitsSpec.post enc Try.prog Try.f5 false true false false) := by
 refine returnsInHanded_of_change_sized (C := Try.checked) own started (by kernel_rfl) Try.func5
  (ChangeSpec.witness6 (enc := enc) (C := Try.checked) false ⟨#[], #[.agg #[.int .i64 0, .int .i64 0, .slice none 0 0], .agg #[.int .i64 0, .int .i64 0]], []⟩ 8 (by kernel_rfl) (by kernel_rfl) (by kernel_rfl) (by kernel_rfl)) ?_
 intro W base args ds gs before hval0 hW hcnd hsz0 _
 have hval : ∀ (j : Nat) t v, Try.f5.params[j]? = some t → args[j]? = some v → Value.okWide Try.prog W .any base t v := hval0
 have hW' := hW
 obtain ⟨p, q, hA0, hV, rfl, hfz, hnd⟩ := hW
 have hA : DataW.TrodAll enc Try.prog W 0 (fun _ => true) true Try.f5.params.toList args.toList ds p := hA0
 rw [Try.params5] at hA hval
 obtain ⟨v0, vs0, d0, ds0, p0, q0, hargs, rfl, rfl, h0, r0⟩ := trodAll_cons hA
 obtain ⟨v1, vs1, d1, ds1, p1, q1, rfl, rfl, rfl, h1, r1⟩ := trodAll_cons r0
 obtain ⟨rfl, rfl, rfl⟩ := trodAll_nil r1
 obtain rfl : args = #[v0, v1] := by cases args; simp_all
 obtain ⟨rfl, rfl⟩ := trodVars_none hV
 have k0 := h0
 have lt0 : ∀ x ∈ p0, x.block < W.heap.size := by obtain ⟨m, hm⟩ := k0; exact DataW.trod_lt m _ _ _ hm
 obtain ⟨y0, cs0, rfl, hK0, g0⟩ := opened_struct Try.underlying43 op43t (hval 0 43 v0 rfl rfl) h0
 obtain ⟨_, _, hcs0, ⟨_, _, rfl, rfl, rfl⟩, ⟨A0, c0, rfl, hl0, hC0⟩⟩ := hK0
 obtain rfl : cs0 = #[.int .i64 y0.1.1, .int .i64 y0.1.2, .slice A0 (y0.2).length c0] := by cases cs0; simpa using hcs0
 have k1 := h1
 have lt1 : ∀ x ∈ p1, x.block < W.heap.size := by obtain ⟨m, hm⟩ := k1; exact DataW.trod_lt m _ _ _ hm
 obtain ⟨y1, cs1, rfl, hK1, g1⟩ := opened_struct Try.underlying26 op26t (hval 1 26 v1 rfl rfl) h1
 obtain ⟨_, _, hcs1, rfl, rfl⟩ := hK1
 obtain rfl : cs1 = #[.int .i64 y1.1, .int .i64 y1.2] := by cases cs1; simpa using hcs1
 clear hA0 hval0 hsz0
 refine (fits_walk (y0.1.1) (y0.1.2) A0 c0 (y0.2) (y1.1) (y1.2) W hC0 hl0).mono fun e W' ⟨he, bel⟩ => ?_
 subst he
 exact ⟨_, rfl, _, _, _, [], _, [], hW', trodAll_mk1 (shut_bool Try.underlying4 _), (trodAll_cons_mk (Below.trod laidOut (by kernel_rfl) (of_decide_eq_true (by kernel_rfl)) k0 bel lt0) (trodAll_cons_mk (Below.trod laidOut (by kernel_rfl) (of_decide_eq_true (by kernel_rfl)) k1 bel lt1) trodAll_mk0)), rfl, bel.frame _, fun h => by cases h⟩
theorem over : Rows.bungFitsRow.holds Try.pinned (OpenSpec.ofChange Rows.bungFitsSpec) :=
 OpenClaim.holds_of_wide 5 Try.f5 rfl rfl rfl rfl rfl rfl rfl ⟨rfl, rfl, rfl, rfl, rfl⟩ rfl rfl rfl rfl rfl (by kernel_rfl) Try.func5 (by kernel_rfl)
  (of_decide_eq_true (by kernel_rfl)) (by unfold Func.isWrapper; first | (rw [if_pos (by decide +kernel)]; kernel_rfl) | (rw [if_neg (by decide +kernel)]; exact ⟨rfl, rfl⟩))
  (fun os started H enc _ => lifted os started H enc)
theorem proved : Rows.BungFitsSaid := over
#print axioms proved
end Go.Proofs.Ytbiakjgjedhjhaa.bungFits
namespace Go.Proofs.Ytbiakjgjedhjhaa
open Go.ChangeShapes Go.WideShapes Go.ChangeAt Go.RowKit Go.Proofs.Ytbiakjgjedhjhaa.P Go.Proofs.YtbiakjgjedhjhaaW.PrintWords
theorem bungFits_holds : Rows.BungFitsSaid := bungFits.proved
end Go.Proofs.Ytbiakjgjedhjhaa
