/- Proved: the law BungLoads of the program potbank answers true for every input, and leaves its arguments as they were. Conditions: none. (Part 8 of the texts, put together by wip/assemble.py of this repository.) -/
import Derived.Test.YtbiakjgjedhjhaaLk7
set_option linter.unusedVariables false
set_option linter.unusedSimpArgs false
namespace Go.Proofs.Ytbiakjgjedhjhaa.P
open Go.RowKit Go.Proofs.YtbiakjgjedhjhaaW.PrintWords Go.Proofs.YtbiakjgjedhjhaaW.PrintLast
set_option maxHeartbeats 8000000 in
set_option maxRecDepth 100000 in
theorem potbankref03_Fits.calls (k : Nat) (a0_0 : Int) (a0_1 : Int) (A0_2 : Option Addr) (c0_2 : Nat) (l0_2 : List (S52)) (a1_0 : Int) (a1_1 : Int) (r1 : Int) (r2 : Int) (w : World) (hr0_2 : Kd.C k52 w A0_2 l0_2.length l0_2) (hc0_2 : l0_2.length ≤ c0_2) (h : potbankref03_Fits.f k a0_0 a0_1 l0_2 a1_0 a1_1 = some (r1, r2)) :
  Calls Try.prog 31 #[.agg #[.int .i64 a0_0, .int .i64 a0_1, .slice A0_2 l0_2.length c0_2], .agg #[.int .i64 a1_0, .int .i64 a1_1]] w fun e w' => e = .returned (.tuple #[.int .i64 r1, .int .i64 r2]) ∧ Below w.heap.size w w' := by
 have hu43 := Try.underlying43
 have hu26 := Try.underlying26
 have HR0_2 := pA hr0_2
 have HC0_2 := pA hc0_2
 clear hr0_2 hc0_2
 have HB := pA (Below.refl w.heap.size w)
 have H : ((potbankref03_Check.f k a0_0 a0_1 l0_2).bind fun t423 => (if t423 = 0 then ((potbankref03_CheckSpot.f a1_0 a1_1).bind fun t424 => (if t424 = 0 then ((potbankref03_fits.f k a0_0 a0_1 l0_2 a1_0 a1_1).bind fun t425 => (some (t425, 0))) else (some (0, 33)))) else (some (0, 31)))) = some (r1, r2) := h
 clear h
 replace H := Option.bind_eq_some_iff.mp H
 obtain ⟨t423, A30, H⟩ := H
 replace H : (if t423 = 0 then ((potbankref03_CheckSpot.f a1_0 a1_1).bind fun t424 => (if t424 = 0 then ((potbankref03_fits.f k a0_0 a0_1 l0_2 a1_0 a1_1).bind fun t425 => (some (t425, 0))) else (some (0, 33)))) else (some (0, 31))) = some (r1, r2) := H
 have A3 := pA A30
 clear A30
 by_cases c4 : t423 = 0
 ·rw [if_pos c4] at H
  have c4b0 : (t423 == 0) = true := beq_iff_eq.mpr c4
  have c4b1 : (t423 != 0) = false := bne_eq_false_iff_eq.mpr c4
  clear c4
  replace H := Option.bind_eq_some_iff.mp H
  obtain ⟨t424, A50, H⟩ := H
  replace H : (if t424 = 0 then ((potbankref03_fits.f k a0_0 a0_1 l0_2 a1_0 a1_1).bind fun t425 => (some (t425, 0))) else (some (0, 33))) = some (r1, r2) := H
  have A5 := pA A50
  clear A50
  by_cases c6 : t424 = 0
  ·rw [if_pos c6] at H
   have c6b0 : (t424 == 0) = true := beq_iff_eq.mpr c6
   have c6b1 : (t424 != 0) = false := bne_eq_false_iff_eq.mpr c6
   clear c6
   replace H := Option.bind_eq_some_iff.mp H
   obtain ⟨t425, A70, H⟩ := H
   replace H : (some (t425, 0)) = some (r1, r2) := H
   have A7 := pA A70
   clear A70
   simp only [Option.some.injEq, Prod.mk.injEq] at H
   obtain ⟨rfl, rfl⟩ := H
   go_enter Try.func31, Try.ntmps31
   go_wp2_with (first | ((with_reducible refine gate_dst (N := 2) rfl ?_); refine box_event ?hg (N := 2) ?hd (cs := #[.int .i64 a0_0, .int .i64 a0_1, .slice A0_2 l0_2.length c0_2]) (t := 43) ?hr ?_; (case hd => rfl); (case hg => rfl); (case hr => first | (go_simp; done) | (go_simp; rfl)); intro gb421 hg w8 hbox hb; have n0_ := pA (below_step (vB HB) hb); have n1_ := pA (hbox); have n2_ := pA ((by rw [hg]; exact (below_size (vB HB)) : w.heap.size ≤ gb421)); have n3_ := pA ((by rw [hg]; exact (below_size (vB HB)) : w.heap.size ≤ gb421)); clear HB; have HB := n0_; have BK421 := n1_; have GW421 := n2_; have GE421 := n3_; clear n0_ n1_ n2_ n3_; clear hb hbox hg) | ((with_reducible refine gate_dst (N := 3) rfl ?_); refine box_event ?hg (N := 3) ?hd (cs := #[.int .i64 a1_0, .int .i64 a1_1]) (t := 26) ?hr ?_; (case hd => rfl); (case hg => rfl); (case hr => first | (go_simp; done) | (go_simp; rfl)); intro gb422 hg w9 hbox hb; have n0_ := pA (blk_below (g := gb421) (o := .cells #[.int .i64 a0_0, .int .i64 a0_1, .slice A0_2 l0_2.length c0_2] 43 (0, 0)) (vK BK421) hb); have n1_ := pA (below_step (by repeat (first | (with_reducible first | exact HB.out | apply below_alloc | apply pw_below_drewN | apply below_drew1 | refine below_set ?_ GE421.out) | exact HB.out)) hb); have n2_ := pA (hbox); have n3_ := pA ((by rw [hg]; exact (below_size (by repeat (first | (with_reducible first | exact HB.out | apply below_alloc | apply pw_below_drewN | apply below_drew1 | refine below_set ?_ GE421.out) | exact HB.out))) : w.heap.size ≤ gb422)); have n4_ := pA ((by rw [hg]; exact (below_size (by repeat (first | (with_reducible first | exact HB.out | apply below_alloc | apply pw_below_drewN | apply below_drew1 | refine below_set ?_ GE421.out) | exact HB.out))) : w.heap.size ≤ gb422)); have n5_ := pA ((by rw [hg]; exact Nat.ne_of_lt (blk_lt (g := gb421) (o := .cells #[.int .i64 a0_0, .int .i64 a0_1, .slice A0_2 l0_2.length c0_2] 43 (0, 0)) (vK BK421)) : gb421 ≠ gb422)); have n6_ := pA ((by rw [hg]; exact Nat.ne_of_gt (blk_lt (g := gb421) (o := .cells #[.int .i64 a0_0, .int .i64 a0_1, .slice A0_2 l0_2.length c0_2] 43 (0, 0)) (vK BK421)) : gb422 ≠ gb421)); clear BK421; clear HB; have BK421 := n0_; have HB := n1_; have BK422 := n2_; have GW422 := n3_; have GE422 := n4_; have NB421_422 := n5_; have NB422_421 := n6_; clear n0_ n1_ n2_ n3_ n4_ n5_ n6_; clear hb hbox hg; have hnb10 := NB421_422.out; have hnc10 := NB422_421.out; have hcz11_0 : w9.cell? ⟨gb421, 0, none⟩ = some (.int .i64 a0_0) := (blk_cell BK421.out 0).trans rfl; have hcz11_1 : w9.cell? ⟨gb421, 1, none⟩ = some (.int .i64 a0_1) := (blk_cell BK421.out 1).trans rfl; have hcz11_2 : w9.cell? ⟨gb421, 2, none⟩ = some (.slice A0_2 l0_2.length c0_2) := (blk_cell BK421.out 2).trans rfl; have hfz11_0 := blk_frozen BK421.out 0; have hfz11_1 := blk_frozen BK421.out 1; have hfz11_2 := blk_frozen BK421.out 2) | ((with_reducible refine aF (f := 48) rfl ?_); refine goesL_ (some 7) rfl rfl Try.func48 (by kernel_rfl) rfl #[.agg #[.int .i64 a0_0, .int .i64 a0_1, .slice A0_2 l0_2.length c0_2]] rfl (by (try simp only [List.map_toArray, List.map_cons, List.map_nil]); first | done | rfl | (simp only [List.length_drop, List.length_take]; rfl)) ?_; (with_reducible refine (potbankref03_Check.calls k a0_0 a0_1 _ _ l0_2 t423 _ ?side1 ?side2 A3.out).mono ?_); (case side1 => repeat (first | exact (Kd.C_below HR0_2.out HB.out) | (with_reducible refine Kd.C_alloc ?_ _) | (with_reducible refine Kd.C_drewN ?_ _) | (with_reducible refine Kd.C_drew ?_))); (case side2 => exact HC0_2.out); rintro e w12 ⟨rfl, hb⟩; refine ⟨_, rfl, ?_⟩; have n0_ := pA (blk_below (g := gb421) (o := .cells #[.int .i64 a0_0, .int .i64 a0_1, .slice A0_2 l0_2.length c0_2] 43 (0, 0)) (vK BK421) hb); have n1_ := pA (blk_below (g := gb422) (o := .cells #[.int .i64 a1_0, .int .i64 a1_1] 26 (0, 0)) (vK BK422) hb); have n2_ := pA (below_step (by repeat (first | (with_reducible first | exact HB.out | apply below_alloc | apply pw_below_drewN | apply below_drew1 | refine below_set ?_ GE421.out | refine below_set ?_ GE422.out) | exact HB.out)) hb); clear BK421; clear BK422; clear HB; have BK421 := n0_; have BK422 := n1_; have HB := n2_; clear n0_ n1_ n2_; (try clear hb); (try clear hb2); (try clear hk); (try clear hi); have hcz13_0 : w12.cell? ⟨gb422, 0, none⟩ = some (.int .i64 a1_0) := (blk_cell BK422.out 0).trans rfl; have hcz13_1 : w12.cell? ⟨gb422, 1, none⟩ = some (.int .i64 a1_1) := (blk_cell BK422.out 1).trans rfl; have hfz13_0 := blk_frozen BK422.out 0; have hfz13_1 := blk_frozen BK422.out 1) | ((with_reducible refine aF (f := 52) rfl ?_); refine goesL_ (some 10) rfl rfl Try.func52 (by kernel_rfl) rfl #[.agg #[.int .i64 a1_0, .int .i64 a1_1]] rfl (by (try simp only [List.map_toArray, List.map_cons, List.map_nil]); first | done | rfl | (simp only [List.length_drop, List.length_take]; rfl)) ?_; (with_reducible refine (potbankref03_CheckSpot.calls a1_0 a1_1 t424 _ A5.out).mono ?_); rintro e w14 ⟨rfl, hb⟩; refine ⟨_, rfl, ?_⟩; have n0_ := pA (blk_below (g := gb421) (o := .cells #[.int .i64 a0_0, .int .i64 a0_1, .slice A0_2 l0_2.length c0_2] 43 (0, 0)) (vK BK421) hb); have n1_ := pA (blk_below (g := gb422) (o := .cells #[.int .i64 a1_0, .int .i64 a1_1] 26 (0, 0)) (vK BK422) hb); have n2_ := pA (below_step (by repeat (first | (with_reducible first | exact HB.out | apply below_alloc | apply pw_below_drewN | apply below_drew1 | refine below_set ?_ GE421.out | refine below_set ?_ GE422.out) | exact HB.out)) hb); clear BK421; clear BK422; clear HB; have BK421 := n0_; have BK422 := n1_; have HB := n2_; clear n0_ n1_ n2_; (try clear hb); (try clear hb2); (try clear hk); (try clear hi); have hcz15_0 : w14.cell? ⟨gb421, 0, none⟩ = some (.int .i64 a0_0) := (blk_cell BK421.out 0).trans rfl; have hcz15_1 : w14.cell? ⟨gb421, 1, none⟩ = some (.int .i64 a0_1) := (blk_cell BK421.out 1).trans rfl; have hcz15_2 : w14.cell? ⟨gb421, 2, none⟩ = some (.slice A0_2 l0_2.length c0_2) := (blk_cell BK421.out 2).trans rfl; have hfz15_0 := blk_frozen BK421.out 0; have hfz15_1 := blk_frozen BK421.out 1; have hfz15_2 := blk_frozen BK421.out 2; have hcz16_0 : w14.cell? ⟨gb422, 0, none⟩ = some (.int .i64 a1_0) := (blk_cell BK422.out 0).trans rfl; have hcz16_1 : w14.cell? ⟨gb422, 1, none⟩ = some (.int .i64 a1_1) := (blk_cell BK422.out 1).trans rfl; have hfz16_0 := blk_frozen BK422.out 0; have hfz16_1 := blk_frozen BK422.out 1) | ((with_reducible refine aF (f := 87) rfl ?_); refine goesL_ (some 14) rfl rfl Try.func87 (by kernel_rfl) rfl #[.agg #[.int .i64 a0_0, .int .i64 a0_1, .slice A0_2 l0_2.length c0_2], .agg #[.int .i64 a1_0, .int .i64 a1_1]] rfl (by (try simp only [List.map_toArray, List.map_cons, List.map_nil]); first | done | rfl | (simp only [List.length_drop, List.length_take]; rfl)) ?_; (with_reducible refine (potbankref03_fits.calls k a0_0 a0_1 _ _ l0_2 a1_0 a1_1 t425 _ ?side1 ?side2 A7.out).mono ?_); (case side1 => repeat (first | exact (Kd.C_below HR0_2.out HB.out) | (with_reducible refine Kd.C_alloc ?_ _) | (with_reducible refine Kd.C_drewN ?_ _) | (with_reducible refine Kd.C_drew ?_))); (case side2 => exact HC0_2.out); rintro e w17 ⟨rfl, hb⟩; refine ⟨_, rfl, ?_⟩; have n0_ := pA (blk_below (g := gb421) (o := .cells #[.int .i64 a0_0, .int .i64 a0_1, .slice A0_2 l0_2.length c0_2] 43 (0, 0)) (vK BK421) hb); have n1_ := pA (blk_below (g := gb422) (o := .cells #[.int .i64 a1_0, .int .i64 a1_1] 26 (0, 0)) (vK BK422) hb); have n2_ := pA (below_step (by repeat (first | (with_reducible first | exact HB.out | apply below_alloc | apply pw_below_drewN | apply below_drew1 | refine below_set ?_ GE421.out | refine below_set ?_ GE422.out) | exact HB.out)) hb); clear BK421; clear BK422; clear HB; have BK421 := n0_; have BK422 := n1_; have HB := n2_; clear n0_ n1_ n2_; (try clear hb); (try clear hb2); (try clear hk); (try clear hi)))
   go_ret2
   exact ⟨by first | rfl | (simp [errW_none, errW_some] <;> rfl) | (simp [*, errW_none, errW_some] <;> rfl), by repeat (first | (with_reducible first | exact HB.out | apply below_alloc | apply pw_below_drewN | apply below_drew1 | refine below_set ?_ GE421.out | refine below_set ?_ GE422.out) | exact HB.out)⟩
  ·rw [if_neg c6] at H
   have c6b0 : (t424 == 0) = false := beq_eq_false_iff_ne.mpr c6
   have c6b1 : (t424 != 0) = true := bne_iff_ne.mpr c6
   simp only [Option.some.injEq, Prod.mk.injEq] at H
   obtain ⟨rfl, rfl⟩ := H
   go_enter Try.func31, Try.ntmps31
   go_wp2_with (first | ((with_reducible refine gate_dst (N := 2) rfl ?_); refine box_event ?hg (N := 2) ?hd (cs := #[.int .i64 a0_0, .int .i64 a0_1, .slice A0_2 l0_2.length c0_2]) (t := 43) ?hr ?_; (case hd => rfl); (case hg => rfl); (case hr => first | (go_simp; done) | (go_simp; rfl)); intro gb421 hg w18 hbox hb; have n0_ := pA (below_step (vB HB) hb); have n1_ := pA (hbox); have n2_ := pA ((by rw [hg]; exact (below_size (vB HB)) : w.heap.size ≤ gb421)); have n3_ := pA ((by rw [hg]; exact (below_size (vB HB)) : w.heap.size ≤ gb421)); clear HB; have HB := n0_; have BK421 := n1_; have GW421 := n2_; have GE421 := n3_; clear n0_ n1_ n2_ n3_; clear hb hbox hg) | ((with_reducible refine gate_dst (N := 3) rfl ?_); refine box_event ?hg (N := 3) ?hd (cs := #[.int .i64 a1_0, .int .i64 a1_1]) (t := 26) ?hr ?_; (case hd => rfl); (case hg => rfl); (case hr => first | (go_simp; done) | (go_simp; rfl)); intro gb422 hg w19 hbox hb; have n0_ := pA (blk_below (g := gb421) (o := .cells #[.int .i64 a0_0, .int .i64 a0_1, .slice A0_2 l0_2.length c0_2] 43 (0, 0)) (vK BK421) hb); have n1_ := pA (below_step (by repeat (first | (with_reducible first | exact HB.out | apply below_alloc | apply pw_below_drewN | apply below_drew1 | refine below_set ?_ GE421.out) | exact HB.out)) hb); have n2_ := pA (hbox); have n3_ := pA ((by rw [hg]; exact (below_size (by repeat (first | (with_reducible first | exact HB.out | apply below_alloc | apply pw_below_drewN | apply below_drew1 | refine below_set ?_ GE421.out) | exact HB.out))) : w.heap.size ≤ gb422)); have n4_ := pA ((by rw [hg]; exact (below_size (by repeat (first | (with_reducible first | exact HB.out | apply below_alloc | apply pw_below_drewN | apply below_drew1 | refine below_set ?_ GE421.out) | exact HB.out))) : w.heap.size ≤ gb422)); have n5_ := pA ((by rw [hg]; exact Nat.ne_of_lt (blk_lt (g := gb421) (o := .cells #[.int .i64 a0_0, .int .i64 a0_1, .slice A0_2 l0_2.length c0_2] 43 (0, 0)) (vK BK421)) : gb421 ≠ gb422)); have n6_ := pA ((by rw [hg]; exact Nat.ne_of_gt (blk_lt (g := gb421) (o := .cells #[.int .i64 a0_0, .int .i64 a0_1, .slice A0_2 l0_2.length c0_2] 43 (0, 0)) (vK BK421)) : gb422 ≠ gb421)); clear BK421; clear HB; have BK421 := n0_; have HB := n1_; have BK422 := n2_; have GW422 := n3_; have GE422 := n4_; have NB421_422 := n5_; have NB422_421 := n6_; clear n0_ n1_ n2_ n3_ n4_ n5_ n6_; clear hb hbox hg; have hnb20 := NB421_422.out; have hnc20 := NB422_421.out; have hcz21_0 : w19.cell? ⟨gb421, 0, none⟩ = some (.int .i64 a0_0) := (blk_cell BK421.out 0).trans rfl; have hcz21_1 : w19.cell? ⟨gb421, 1, none⟩ = some (.int .i64 a0_1) := (blk_cell BK421.out 1).trans rfl; have hcz21_2 : w19.cell? ⟨gb421, 2, none⟩ = some (.slice A0_2 l0_2.length c0_2) := (blk_cell BK421.out 2).trans rfl; have hfz21_0 := blk_frozen BK421.out 0; have hfz21_1 := blk_frozen BK421.out 1; have hfz21_2 := blk_frozen BK421.out 2) | ((with_reducible refine aF (f := 48) rfl ?_); refine goesL_ (some 7) rfl rfl Try.func48 (by kernel_rfl) rfl #[.agg #[.int .i64 a0_0, .int .i64 a0_1, .slice A0_2 l0_2.length c0_2]] rfl (by (try simp only [List.map_toArray, List.map_cons, List.map_nil]); first | done | rfl | (simp only [List.length_drop, List.length_take]; rfl)) ?_; (with_reducible refine (potbankref03_Check.calls k a0_0 a0_1 _ _ l0_2 t423 _ ?side1 ?side2 A3.out).mono ?_); (case side1 => repeat (first | exact (Kd.C_below HR0_2.out HB.out) | (with_reducible refine Kd.C_alloc ?_ _) | (with_reducible refine Kd.C_drewN ?_ _) | (with_reducible refine Kd.C_drew ?_))); (case side2 => exact HC0_2.out); rintro e w22 ⟨rfl, hb⟩; refine ⟨_, rfl, ?_⟩; have n0_ := pA (blk_below (g := gb421) (o := .cells #[.int .i64 a0_0, .int .i64 a0_1, .slice A0_2 l0_2.length c0_2] 43 (0, 0)) (vK BK421) hb); have n1_ := pA (blk_below (g := gb422) (o := .cells #[.int .i64 a1_0, .int .i64 a1_1] 26 (0, 0)) (vK BK422) hb); have n2_ := pA (below_step (by repeat (first | (with_reducible first | exact HB.out | apply below_alloc | apply pw_below_drewN | apply below_drew1 | refine below_set ?_ GE421.out | refine below_set ?_ GE422.out) | exact HB.out)) hb); clear BK421; clear BK422; clear HB; have BK421 := n0_; have BK422 := n1_; have HB := n2_; clear n0_ n1_ n2_; (try clear hb); (try clear hb2); (try clear hk); (try clear hi); have hcz23_0 : w22.cell? ⟨gb422, 0, none⟩ = some (.int .i64 a1_0) := (blk_cell BK422.out 0).trans rfl; have hcz23_1 : w22.cell? ⟨gb422, 1, none⟩ = some (.int .i64 a1_1) := (blk_cell BK422.out 1).trans rfl; have hfz23_0 := blk_frozen BK422.out 0; have hfz23_1 := blk_frozen BK422.out 1) | ((with_reducible refine aF (f := 52) rfl ?_); refine goesL_ (some 10) rfl rfl Try.func52 (by kernel_rfl) rfl #[.agg #[.int .i64 a1_0, .int .i64 a1_1]] rfl (by (try simp only [List.map_toArray, List.map_cons, List.map_nil]); first | done | rfl | (simp only [List.length_drop, List.length_take]; rfl)) ?_; (with_reducible refine (potbankref03_CheckSpot.calls a1_0 a1_1 t424 _ A5.out).mono ?_); rintro e w24 ⟨rfl, hb⟩; refine ⟨_, rfl, ?_⟩; have n0_ := pA (blk_below (g := gb421) (o := .cells #[.int .i64 a0_0, .int .i64 a0_1, .slice A0_2 l0_2.length c0_2] 43 (0, 0)) (vK BK421) hb); have n1_ := pA (blk_below (g := gb422) (o := .cells #[.int .i64 a1_0, .int .i64 a1_1] 26 (0, 0)) (vK BK422) hb); have n2_ := pA (below_step (by repeat (first | (with_reducible first | exact HB.out | apply below_alloc | apply pw_below_drewN | apply below_drew1 | refine below_set ?_ GE421.out | refine below_set ?_ GE422.out) | exact HB.out)) hb); clear BK421; clear BK422; clear HB; have BK421 := n0_; have BK422 := n1_; have HB := n2_; clear n0_ n1_ n2_; (try clear hb); (try clear hb2); (try clear hk); (try clear hi)))
   go_ret2
   exact ⟨by first | rfl | (simp [errW_none, errW_some] <;> rfl) | (simp [*, errW_none, errW_some] <;> rfl), by repeat (first | (with_reducible first | exact HB.out | apply below_alloc | apply pw_below_drewN | apply below_drew1 | refine below_set ?_ GE421.out | refine below_set ?_ GE422.out) | exact HB.out)⟩
 ·rw [if_neg c4] at H
  have c4b0 : (t423 == 0) = false := beq_eq_false_iff_ne.mpr c4
  have c4b1 : (t423 != 0) = true := bne_iff_ne.mpr c4
  simp only [Option.some.injEq, Prod.mk.injEq] at H
  obtain ⟨rfl, rfl⟩ := H
  go_enter Try.func31, Try.ntmps31
  go_wp2_with (first | ((with_reducible refine gate_dst (N := 2) rfl ?_); refine box_event ?hg (N := 2) ?hd (cs := #[.int .i64 a0_0, .int .i64 a0_1, .slice A0_2 l0_2.length c0_2]) (t := 43) ?hr ?_; (case hd => rfl); (case hg => rfl); (case hr => first | (go_simp; done) | (go_simp; rfl)); intro gb421 hg w25 hbox hb; have n0_ := pA (below_step (vB HB) hb); have n1_ := pA (hbox); have n2_ := pA ((by rw [hg]; exact (below_size (vB HB)) : w.heap.size ≤ gb421)); have n3_ := pA ((by rw [hg]; exact (below_size (vB HB)) : w.heap.size ≤ gb421)); clear HB; have HB := n0_; have BK421 := n1_; have GW421 := n2_; have GE421 := n3_; clear n0_ n1_ n2_ n3_; clear hb hbox hg) | ((with_reducible refine gate_dst (N := 3) rfl ?_); refine box_event ?hg (N := 3) ?hd (cs := #[.int .i64 a1_0, .int .i64 a1_1]) (t := 26) ?hr ?_; (case hd => rfl); (case hg => rfl); (case hr => first | (go_simp; done) | (go_simp; rfl)); intro gb422 hg w26 hbox hb; have n0_ := pA (blk_below (g := gb421) (o := .cells #[.int .i64 a0_0, .int .i64 a0_1, .slice A0_2 l0_2.length c0_2] 43 (0, 0)) (vK BK421) hb); have n1_ := pA (below_step (by repeat (first | (with_reducible first | exact HB.out | apply below_alloc | apply pw_below_drewN | apply below_drew1 | refine below_set ?_ GE421.out) | exact HB.out)) hb); have n2_ := pA (hbox); have n3_ := pA ((by rw [hg]; exact (below_size (by repeat (first | (with_reducible first | exact HB.out | apply below_alloc | apply pw_below_drewN | apply below_drew1 | refine below_set ?_ GE421.out) | exact HB.out))) : w.heap.size ≤ gb422)); have n4_ := pA ((by rw [hg]; exact (below_size (by repeat (first | (with_reducible first | exact HB.out | apply below_alloc | apply pw_below_drewN | apply below_drew1 | refine below_set ?_ GE421.out) | exact HB.out))) : w.heap.size ≤ gb422)); have n5_ := pA ((by rw [hg]; exact Nat.ne_of_lt (blk_lt (g := gb421) (o := .cells #[.int .i64 a0_0, .int .i64 a0_1, .slice A0_2 l0_2.length c0_2] 43 (0, 0)) (vK BK421)) : gb421 ≠ gb422)); have n6_ := pA ((by rw [hg]; exact Nat.ne_of_gt (blk_lt (g := gb421) (o := .cells #[.int .i64 a0_0, .int .i64 a0_1, .slice A0_2 l0_2.length c0_2] 43 (0, 0)) (vK BK421)) : gb422 ≠ gb421)); clear BK421; clear HB; have BK421 := n0_; have HB := n1_; have BK422 := n2_; have GW422 := n3_; have GE422 := n4_; have NB421_422 := n5_; have NB422_421 := n6_; clear n0_ n1_ n2_ n3_ n4_ n5_ n6_; clear hb hbox hg; have hnb27 := NB421_422.out; have hnc27 := NB422_421.out; have hcz28_0 : w26.cell? ⟨gb421, 0, none⟩ = some (.int .i64 a0_0) := (blk_cell BK421.out 0).trans rfl; have hcz28_1 : w26.cell? ⟨gb421, 1, none⟩ = some (.int .i64 a0_1) := (blk_cell BK421.out 1).trans rfl; have hcz28_2 : w26.cell? ⟨gb421, 2, none⟩ = some (.slice A0_2 l0_2.length c0_2) := (blk_cell BK421.out 2).trans rfl; have hfz28_0 := blk_frozen BK421.out 0; have hfz28_1 := blk_frozen BK421.out 1; have hfz28_2 := blk_frozen BK421.out 2) | ((with_reducible refine aF (f := 48) rfl ?_); refine goesL_ (some 7) rfl rfl Try.func48 (by kernel_rfl) rfl #[.agg #[.int .i64 a0_0, .int .i64 a0_1, .slice A0_2 l0_2.length c0_2]] rfl (by (try simp only [List.map_toArray, List.map_cons, List.map_nil]); first | done | rfl | (simp only [List.length_drop, List.length_take]; rfl)) ?_; (with_reducible refine (potbankref03_Check.calls k a0_0 a0_1 _ _ l0_2 t423 _ ?side1 ?side2 A3.out).mono ?_); (case side1 => repeat (first | exact (Kd.C_below HR0_2.out HB.out) | (with_reducible refine Kd.C_alloc ?_ _) | (with_reducible refine Kd.C_drewN ?_ _) | (with_reducible refine Kd.C_drew ?_))); (case side2 => exact HC0_2.out); rintro e w29 ⟨rfl, hb⟩; refine ⟨_, rfl, ?_⟩; have n0_ := pA (blk_below (g := gb421) (o := .cells #[.int .i64 a0_0, .int .i64 a0_1, .slice A0_2 l0_2.length c0_2] 43 (0, 0)) (vK BK421) hb); have n1_ := pA (blk_below (g := gb422) (o := .cells #[.int .i64 a1_0, .int .i64 a1_1] 26 (0, 0)) (vK BK422) hb); have n2_ := pA (below_step (by repeat (first | (with_reducible first | exact HB.out | apply below_alloc | apply pw_below_drewN | apply below_drew1 | refine below_set ?_ GE421.out | refine below_set ?_ GE422.out) | exact HB.out)) hb); clear BK421; clear BK422; clear HB; have BK421 := n0_; have BK422 := n1_; have HB := n2_; clear n0_ n1_ n2_; (try clear hb); (try clear hb2); (try clear hk); (try clear hi)))
  go_ret2
  exact ⟨by first | rfl | (simp [errW_none, errW_some] <;> rfl) | (simp [*, errW_none, errW_some] <;> rfl), by repeat (first | (with_reducible first | exact HB.out | apply below_alloc | apply pw_below_drewN | apply below_drew1 | refine below_set ?_ GE421.out | refine below_set ?_ GE422.out) | exact HB.out)⟩
theorem isBung_eq (a b : Int) (l : List S52) : bung_isBung.f a b l = some (decide (vWad a b = true ∧ l ≠ [] ∧ okList l = true)) := by
 unfold bung_isBung.f bung_isList.f
 rw [isWad_eq]
 simp only [Option.bind_some]
 cases vWad a b with
 | false => simp
 | true =>
  rw [if_pos rfl]
  by_cases h0 : l = []
  ·subst h0; simp
  ·have : 0 < l.length := List.length_pos_iff.2 h0
   rw [if_pos (by omega)]
   cases okList l <;> simp [h0]
theorem okBung_mk {a b : Int} {l : List S52} (h : vWad a b = true ∧ l ≠ [] ∧ okList l = true) : okBung a b l = true := by
  simp only [okBung, Bool.and_eq_true, decide_eq_true_eq]
  exact ⟨h.1, okSome_of h.2.2, List.length_pos_iff.2 h.2.1⟩
def potbankref03_Loads.l0 : Nat → List (S23) → Int → Int → Int → List (S52) → Option ((List (S23)) × Int)
  | 0, _, _, _, _, _ => none
  | k + 1, x4, x5, x434000, x434001, x434002 => if x5 < (x434002.length : Int) then ((potbankref03_load.f x434002 x5).bind fun bt435 => (if x4.length < 8796093022208 then (potbankref03_Loads.l0 k (x4 ++ [(⟨bt435.1, bt435.2⟩ : S23)]) (wrap64 (x5 + 1)) x434000 x434001 x434002) else (none))) else (some (x4, 0))
def potbankref03_Loads.f (k : Nat) (a0_0 : Int) (a0_1 : Int) (l0_2 : List (S52)) : Option ((List (S23)) × Int) := (potbankref03_Check.f k a0_0 a0_1 l0_2).bind fun t434 => (if t434 = 0 then (potbankref03_Loads.l0 k ([] : List (S23)) 0 a0_0 a0_1 l0_2) else (some (([] : List (S23)), 31)))
theorem potbankref03_Loads.mono_l : ∀ k, (∀ y0 y1 y2 y3 y4, LeO (potbankref03_Loads.l0 k y0 y1 y2 y3 y4) (potbankref03_Loads.l0 (k + 1) y0 y1 y2 y3 y4))
 | 0 => fun _ _ _ _ _ r h => by simp [potbankref03_Loads.l0] at h
 | k + 1 => by
  have ih0 := potbankref03_Loads.mono_l k
  ·intro y0 y1 y2 y3 y4
   unfold potbankref03_Loads.l0
   repeat' first
   | (with_reducible exact ih0 _ _ _ _ _)
   | (with_reducible exact potbankref03_Check.mono _ _ _ _)
   | (with_reducible exact LeO.refl _)
   | (with_reducible exact LeO.none _)
   | (with_reducible refine LeO.ite ?_ ?_)
   | (with_reducible refine LeO.bind ?_ (fun _ => ?_))
   | exact ih0 _ _ _ _ _
   | exact potbankref03_Check.mono _ _ _ _
   | exact LeO.none _
   | refine LeO.ite ?_ ?_
   | refine LeO.bind ?_ (fun _ => ?_)
theorem potbankref03_Loads.mono : ∀ a0 a1 a2 k, LeO (potbankref03_Loads.f k a0 a1 a2) (potbankref03_Loads.f (k + 1) a0 a1 a2) := by
 intro a0 a1 a2 k
 have ih0 := potbankref03_Loads.mono_l k
 unfold potbankref03_Loads.f
 repeat' first
   | (with_reducible exact ih0 _ _ _ _ _)
   | (with_reducible exact potbankref03_Check.mono _ _ _ _)
   | (with_reducible exact LeO.refl _)
   | (with_reducible exact LeO.none _)
   | (with_reducible refine LeO.ite ?_ ?_)
   | (with_reducible refine LeO.bind ?_ (fun _ => ?_))
   | exact ih0 _ _ _ _ _
   | exact potbankref03_Check.mono _ _ _ _
   | exact LeO.none _
   | refine LeO.ite ?_ ?_
   | refine LeO.bind ?_ (fun _ => ?_)
set_option maxHeartbeats 8000000 in
set_option maxRecDepth 100000 in
theorem potbankref03_Loads.calls (k : Nat) (a0_0 : Int) (a0_1 : Int) (A0_2 : Option Addr) (c0_2 : Nat) (l0_2 : List (S52)) (r1 : List (S23)) (r2 : Int) (w : World) (hr0_2 : Kd.C k52 w A0_2 l0_2.length l0_2) (hc0_2 : l0_2.length ≤ c0_2) (h : potbankref03_Loads.f k a0_0 a0_1 l0_2 = some (r1, r2)) :
  Calls Try.prog 33 #[.agg #[.int .i64 a0_0, .int .i64 a0_1, .slice A0_2 l0_2.length c0_2]] w fun e w' => ∃ v0_ : Value, e = .returned (.tuple #[v0_, .int .i64 r2]) ∧ Kd.R k23 23 w' w.heap.size (fun _ => True) v0_ r1 ∧ Below w.heap.size w w' := by
 have hu43 := Try.underlying43
 have HR0_2 := pA hr0_2
 have HC0_2 := pA hc0_2
 clear hr0_2 hc0_2
 have HB := pA (Below.refl w.heap.size w)
 have H : ((potbankref03_Check.f k a0_0 a0_1 l0_2).bind fun t434 => (if t434 = 0 then (potbankref03_Loads.l0 k ([] : List (S23)) 0 a0_0 a0_1 l0_2) else (some (([] : List (S23)), 31)))) = some (r1, r2) := h
 clear h
 replace H := Option.bind_eq_some_iff.mp H
 obtain ⟨t434, A20, H⟩ := H
 replace H : (if t434 = 0 then (potbankref03_Loads.l0 k ([] : List (S23)) 0 a0_0 a0_1 l0_2) else (some (([] : List (S23)), 31))) = some (r1, r2) := H
 have A2 := pA A20
 clear A20
 by_cases c3 : t434 = 0
 ·rw [if_pos c3] at H
  have c3b0 : (t434 == 0) = true := beq_iff_eq.mpr c3
  have c3b1 : (t434 != 0) = false := bne_eq_false_iff_eq.mpr c3
  clear c3
  have H' := pA H
  clear H
  go_enter Try.func33, Try.ntmps33
  go_wp2_with (first | ((with_reducible refine gate_dst (N := 1) rfl ?_); refine box_event ?hg (N := 1) ?hd (cs := #[.int .i64 a0_0, .int .i64 a0_1, .slice A0_2 l0_2.length c0_2]) (t := 43) ?hr ?_; (case hd => rfl); (case hg => rfl); (case hr => first | (go_simp; done) | (go_simp; rfl)); intro gb433 hg w4 hbox hb; have n0_ := pA (below_step (vB HB) hb); have n1_ := pA (hbox); have n2_ := pA ((by rw [hg]; exact (below_size (vB HB)) : w.heap.size ≤ gb433)); have n3_ := pA ((by rw [hg]; exact (below_size (vB HB)) : w.heap.size ≤ gb433)); clear HB; have HB := n0_; have BK433 := n1_; have GW433 := n2_; have GE433 := n3_; clear n0_ n1_ n2_ n3_; clear hb hbox hg; have hcz5_0 : w4.cell? ⟨gb433, 0, none⟩ = some (.int .i64 a0_0) := (blk_cell BK433.out 0).trans rfl; have hcz5_1 : w4.cell? ⟨gb433, 1, none⟩ = some (.int .i64 a0_1) := (blk_cell BK433.out 1).trans rfl; have hcz5_2 : w4.cell? ⟨gb433, 2, none⟩ = some (.slice A0_2 l0_2.length c0_2) := (blk_cell BK433.out 2).trans rfl; have hfz5_0 := blk_frozen BK433.out 0; have hfz5_1 := blk_frozen BK433.out 1; have hfz5_2 := blk_frozen BK433.out 2) | ((with_reducible refine aF (f := 48) rfl ?_); refine goesL_ (some 7) rfl rfl Try.func48 (by kernel_rfl) rfl #[.agg #[.int .i64 a0_0, .int .i64 a0_1, .slice A0_2 l0_2.length c0_2]] rfl (by (try simp only [List.map_toArray, List.map_cons, List.map_nil]); first | done | rfl | (simp only [List.length_drop, List.length_take]; rfl)) ?_; (with_reducible refine (potbankref03_Check.calls k a0_0 a0_1 _ _ l0_2 t434 _ ?side1 ?side2 A2.out).mono ?_); (case side1 => repeat (first | exact (Kd.C_below HR0_2.out HB.out) | (with_reducible refine Kd.C_alloc ?_ _) | (with_reducible refine Kd.C_drewN ?_ _) | (with_reducible refine Kd.C_drew ?_))); (case side2 => exact HC0_2.out); rintro e w6 ⟨rfl, hb⟩; refine ⟨_, rfl, ?_⟩; have n0_ := pA (blk_below (g := gb433) (o := .cells #[.int .i64 a0_0, .int .i64 a0_1, .slice A0_2 l0_2.length c0_2] 43 (0, 0)) (vK BK433) hb); have n1_ := pA (below_step (by repeat (first | (with_reducible first | exact HB.out | apply below_alloc | apply pw_below_drewN | apply below_drew1 | refine below_set ?_ GE433.out) | exact HB.out)) hb); clear BK433; clear HB; have BK433 := n0_; have HB := n1_; clear n0_ n1_; (try clear hb); (try clear hb2); (try clear hk); (try clear hi)))
  go_loopg [4, 5] k (fun kq v4 v5 w' => ∃ (x4_1 : List (S23)) (x5_1 : Int), v5 = .int .i64 x5_1 ∧ Aside0 (potbankref03_Loads.l0 kq x4_1 x5_1 a0_0 a0_1 l0_2 = some (r1, r2)) ∧ Aside0 (kq ≤ k) ∧ Aside0 (Kd.R k23 23 w' w.heap.size (fun _ => True) v4 x4_1) ∧ Aside0 (w'.heap[gb433]? = some (.cells #[.int .i64 a0_0, .int .i64 a0_1, (.slice A0_2 l0_2.length c0_2)] 43 (0, 0))) ∧ Aside0 (Below w.heap.size w w'))
  case atStart => exact ⟨(([] : List (S23))), (0), (by first | rfl | (simp; done) | (simp [*]; done)), H', ⟨Nat.le_refl _⟩, ⟨by first | exact Kd.R_nil _ _ _ _ _ | exact Kd.N_nil _ _ _ _ _ | exact Kd.V_nil _ _ _ _ _ | exact Kd.Q_nil _ _ _ _ _ | exact Kd.S_nil _ _ _ _ _⟩, ⟨by (with_reducible repeat (first | refine blk_drewN ?_ _ | refine blk_drew ?_ | refine blk_alloc ?_ _)); exact BK433.out⟩, ⟨by repeat (first | (with_reducible first | exact HB.out | apply below_alloc | apply pw_below_drewN | apply below_drew1 | refine below_set ?_ GE433.out) | exact HB.out)⟩⟩
  case round =>
   clear H'
   try clear p2
   try clear c3
   try clear c3b0
   try clear c3b1
   try clear c4
   try clear hcz5_0
   try clear hcz5_1
   try clear hcz5_2
   try clear hfz5_0
   try clear hfz5_1
   try clear hfz5_2
   obtain ⟨x4_1, x5_1, rfl, HA, HK1, HO_4, BK433, HB⟩ := hrel
   cases gk with
   | zero => exact absurd HA.out (by simp [potbankref03_Loads.l0])
   | succ k1 =>
    have H := HA.out
    clear HA
    simp only [potbankref03_Loads.l0] at H
    by_cases c7 : x5_1 < (l0_2.length : Int)
    ·rw [if_pos c7] at H
     have c7b0 : decide (x5_1 < (l0_2.length : Int)) = true := decide_eq_true c7
     clear c7
     replace H := Option.bind_eq_some_iff.mp H
     obtain ⟨⟨t435, t436⟩, A80, H⟩ := H
     replace H : (if x4_1.length < 8796093022208 then (potbankref03_Loads.l0 k1 (x4_1 ++ [(⟨t435, t436⟩ : S23)]) (wrap64 (x5_1 + 1)) a0_0 a0_1 l0_2) else (none)) = some (r1, r2) := H
     have A8 := pA A80
     clear A80
     by_cases c9 : x4_1.length < 8796093022208
     ·rw [if_pos c9] at H
      have LMc9 := pA c9
      clear c9
      obtain ⟨y437, hy437⟩ : ∃ y_ : List (S23), y_ = (x4_1 ++ [(⟨t435, t436⟩ : S23)]) := ⟨_, rfl⟩
      replace H : (potbankref03_Loads.l0 k1 y437 (wrap64 (x5_1 + 1)) a0_0 a0_1 l0_2) = some (r1, r2) := by first | (rw [hy437]; with_reducible exact H) | (have H2_ := (Option.bind_some _ _).symm.trans H; rw [hy437]; with_reducible exact H2_) | (have H2_ := (Option.bind_some _ _).symm.trans H; with_reducible exact H2_) | with_reducible exact H | (rw [hy437]; exact H) | exact H
      have Ny437 := pA hy437
      clear hy437
      have H' := pA H
      clear H
      have hcz10_0 : wr.cell? ⟨gb433, 0, none⟩ = some (.int .i64 a0_0) := (blk_cell BK433.out 0).trans rfl
      have hcz10_1 : wr.cell? ⟨gb433, 1, none⟩ = some (.int .i64 a0_1) := (blk_cell BK433.out 1).trans rfl
      have hcz10_2 : wr.cell? ⟨gb433, 2, none⟩ = some (.slice A0_2 l0_2.length c0_2) := (blk_cell BK433.out 2).trans rfl
      have hfz10_0 := blk_frozen BK433.out 0
      have hfz10_1 := blk_frozen BK433.out 1
      have hfz10_2 := blk_frozen BK433.out 2
      go_wp2_with (first | ((with_reducible refine aF (f := 89) rfl ?_); refine goesL_ (some 20) rfl rfl Try.func89 (by kernel_rfl) rfl #[.slice A0_2 l0_2.length c0_2, .int .i64 x5_1] rfl (by (try simp only [List.map_toArray, List.map_cons, List.map_nil]); first | done | rfl | (simp only [List.length_drop, List.length_take]; rfl)) ?_; (with_reducible refine (potbankref03_load.calls _ _ l0_2 x5_1 t435 t436 _ ?side1 ?side2 A8.out).mono ?_); (case side1 => repeat (first | exact (Kd.C_below HR0_2.out HB.out) | (with_reducible refine Kd.C_alloc ?_ _) | (with_reducible refine Kd.C_drewN ?_ _) | (with_reducible refine Kd.C_drew ?_))); (case side2 => exact HC0_2.out); rintro e w11 ⟨rfl, hb⟩; refine ⟨_, rfl, ?_⟩; have n0_ := pA (Kd.R_below (vR HO_4) hb); have n1_ := pA (blk_below (g := gb433) (o := .cells #[.int .i64 a0_0, .int .i64 a0_1, .slice A0_2 l0_2.length c0_2] 43 (0, 0)) (vK BK433) hb); have n2_ := pA (below_step (by repeat (first | (with_reducible first | exact HB.out | apply below_alloc | apply pw_below_drewN | apply below_drew1 | refine below_set ?_ GE433.out) | exact HB.out)) hb); clear HO_4; clear BK433; clear HB; have HO_4 := n0_; have BK433 := n1_; have HB := n2_; clear n0_ n1_ n2_; (try clear hb); (try clear hb2); (try clear hk); (try clear hi)) | ((with_reducible refine aG (b := .append) (xs := #[.tmp 16, .tmp 21]) rfl ?_); at_builtin; refine Kd.R_append k23 (w0 := w) w.heap.size rfl (.tmp 16) (.tmp 21) 57 23 (.agg #[(.int .i64 0), (.int .i64 0)]) 16 rfl Try.underlying57 info23 rfl (by decide) (by omega) u4 x4_1 (⟨t435, t436⟩ : S23) [.int .i64 t435, .int .i64 t436] (fun _ => True) (fun _ => False) rfl rfl ?aP (fun _ hk => hk.elim) ?aF ?aO ?aB ?aS ?aL ?_; (case aP => exact k23_mkM _ _ _ (⟨t435, t436⟩ : S23)); (case aB => exact (by repeat (first | (with_reducible first | exact HB.out | apply below_alloc | apply pw_below_drewN | apply below_drew1 | refine below_set ?_ GE433.out) | exact HB.out))); (case aF => exact (fun _ _ => trivial)); (case aO => exact (vR HO_4)); (case aS => exact (below_size (by repeat (first | (with_reducible first | exact HB.out | apply below_alloc | apply pw_below_drewN | apply below_drew1 | refine below_set ?_ GE433.out) | exact HB.out)))); (case aL => have := LMc9.out; omega); intro v438 w12 ho hb hg hat; rw [← Ny437.out] at ho; have n0_ := pA (blk_grown (g := gb433) (o := .cells #[.int .i64 a0_0, .int .i64 a0_1, .slice A0_2 l0_2.length c0_2] 43 (0, 0)) (vK BK433) hg (Kd.R_ne HO_4.out BK433.out (by decide))); have n1_ := pA (hb); have n2_ := pA (ho); clear BK433; clear HB; clear HO_4; have BK433 := n0_; have HB := n1_; have HO439 := n2_; clear n0_ n1_ n2_; clear ho hb hg hat))
      go_roundg k1
      case measure => have := HK1.out; omega
      case rel => exact ⟨(y437), (wrap64 (x5_1 + 1)), (by first | rfl | (simp; done) | (simp [*]; done)), H', ⟨by have := HK1.out; omega⟩, ⟨by (with_reducible repeat (first | apply Kd.R_alloc | apply Kd.R_drewN | apply Kd.R_drew)); exact HO439.out⟩, ⟨by (with_reducible repeat (first | refine blk_drewN ?_ _ | refine blk_drew ?_ | refine blk_alloc ?_ _)); exact BK433.out⟩, ⟨by repeat (first | (with_reducible first | exact HB.out | apply below_alloc | apply pw_below_drewN | apply below_drew1 | refine below_set ?_ GE433.out) | exact HB.out)⟩⟩
     ·rw [if_neg c9] at H
      exact absurd H (by simp)
    ·rw [if_neg c7] at H
     have c7b0 : decide (x5_1 < (l0_2.length : Int)) = false := decide_eq_false c7
     clear c7
     simp only [Option.some.injEq, Prod.mk.injEq] at H
     obtain ⟨rfl, rfl⟩ := H
     have hcz13_0 : wr.cell? ⟨gb433, 0, none⟩ = some (.int .i64 a0_0) := (blk_cell BK433.out 0).trans rfl
     have hcz13_1 : wr.cell? ⟨gb433, 1, none⟩ = some (.int .i64 a0_1) := (blk_cell BK433.out 1).trans rfl
     have hcz13_2 : wr.cell? ⟨gb433, 2, none⟩ = some (.slice A0_2 l0_2.length c0_2) := (blk_cell BK433.out 2).trans rfl
     have hfz13_0 := blk_frozen BK433.out 0
     have hfz13_1 := blk_frozen BK433.out 1
     have hfz13_2 := blk_frozen BK433.out 2
     go_wp2
     go_ret2
     exact ⟨_, by first | rfl | (simp [errW_none, errW_some] <;> rfl) | (simp [*, errW_none, errW_some] <;> rfl), by (with_reducible repeat (first | apply Kd.R_alloc | apply Kd.R_drewN | apply Kd.R_drew)); exact HO_4.out, by repeat (first | (with_reducible first | exact HB.out | apply below_alloc | apply pw_below_drewN | apply below_drew1 | refine below_set ?_ GE433.out) | exact HB.out)⟩
 ·rw [if_neg c3] at H
  have c3b0 : (t434 == 0) = false := beq_eq_false_iff_ne.mpr c3
  have c3b1 : (t434 != 0) = true := bne_iff_ne.mpr c3
  simp only [Option.some.injEq, Prod.mk.injEq] at H
  obtain ⟨rfl, rfl⟩ := H
  go_enter Try.func33, Try.ntmps33
  go_wp2_with (first | ((with_reducible refine gate_dst (N := 1) rfl ?_); refine box_event ?hg (N := 1) ?hd (cs := #[.int .i64 a0_0, .int .i64 a0_1, .slice A0_2 l0_2.length c0_2]) (t := 43) ?hr ?_; (case hd => rfl); (case hg => rfl); (case hr => first | (go_simp; done) | (go_simp; rfl)); intro gb433 hg w14 hbox hb; have n0_ := pA (below_step (vB HB) hb); have n1_ := pA (hbox); have n2_ := pA ((by rw [hg]; exact (below_size (vB HB)) : w.heap.size ≤ gb433)); have n3_ := pA ((by rw [hg]; exact (below_size (vB HB)) : w.heap.size ≤ gb433)); clear HB; have HB := n0_; have BK433 := n1_; have GW433 := n2_; have GE433 := n3_; clear n0_ n1_ n2_ n3_; clear hb hbox hg; have hcz15_0 : w14.cell? ⟨gb433, 0, none⟩ = some (.int .i64 a0_0) := (blk_cell BK433.out 0).trans rfl; have hcz15_1 : w14.cell? ⟨gb433, 1, none⟩ = some (.int .i64 a0_1) := (blk_cell BK433.out 1).trans rfl; have hcz15_2 : w14.cell? ⟨gb433, 2, none⟩ = some (.slice A0_2 l0_2.length c0_2) := (blk_cell BK433.out 2).trans rfl; have hfz15_0 := blk_frozen BK433.out 0; have hfz15_1 := blk_frozen BK433.out 1; have hfz15_2 := blk_frozen BK433.out 2) | ((with_reducible refine aF (f := 48) rfl ?_); refine goesL_ (some 7) rfl rfl Try.func48 (by kernel_rfl) rfl #[.agg #[.int .i64 a0_0, .int .i64 a0_1, .slice A0_2 l0_2.length c0_2]] rfl (by (try simp only [List.map_toArray, List.map_cons, List.map_nil]); first | done | rfl | (simp only [List.length_drop, List.length_take]; rfl)) ?_; (with_reducible refine (potbankref03_Check.calls k a0_0 a0_1 _ _ l0_2 t434 _ ?side1 ?side2 A2.out).mono ?_); (case side1 => repeat (first | exact (Kd.C_below HR0_2.out HB.out) | (with_reducible refine Kd.C_alloc ?_ _) | (with_reducible refine Kd.C_drewN ?_ _) | (with_reducible refine Kd.C_drew ?_))); (case side2 => exact HC0_2.out); rintro e w16 ⟨rfl, hb⟩; refine ⟨_, rfl, ?_⟩; have n0_ := pA (blk_below (g := gb433) (o := .cells #[.int .i64 a0_0, .int .i64 a0_1, .slice A0_2 l0_2.length c0_2] 43 (0, 0)) (vK BK433) hb); have n1_ := pA (below_step (by repeat (first | (with_reducible first | exact HB.out | apply below_alloc | apply pw_below_drewN | apply below_drew1 | refine below_set ?_ GE433.out) | exact HB.out)) hb); clear BK433; clear HB; have BK433 := n0_; have HB := n1_; clear n0_ n1_; (try clear hb); (try clear hb2); (try clear hk); (try clear hi)))
  go_ret2
  exact ⟨_, by first | rfl | (simp [errW_none, errW_some] <;> rfl) | (simp [*, errW_none, errW_some] <;> rfl), by first | exact Kd.R_nil _ _ _ _ _ | exact Kd.N_nil _ _ _ _ _ | exact Kd.V_nil _ _ _ _ _ | exact Kd.Q_nil _ _ _ _ _ | exact Kd.S_nil _ _ _ _ _, by repeat (first | (with_reducible first | exact HB.out | apply below_alloc | apply pw_below_drewN | apply below_drew1 | refine below_set ?_ GE433.out) | exact HB.out)⟩
def bung_Courses.f (k : Nat) (a0_0 : Int) (a0_1 : Int) (l0_2 : List (S52)) : Option (List Int × Int) := (bung_isBung.f a0_0 a0_1 l0_2).bind fun t441 => (if t441 = true then ((bung_courses.f k l0_2).bind fun t442 => (some (t442, 0))) else (some (([] : List Int), 31)))
theorem bung_Courses.mono : ∀ a0 a1 a2 k, LeO (bung_Courses.f k a0 a1 a2) (bung_Courses.f (k + 1) a0 a1 a2) := by
 intro a0 a1 a2 k
 unfold bung_Courses.f
 repeat' first
   | (with_reducible exact bung_courses.mono _ _)
   | (with_reducible exact LeO.refl _)
   | (with_reducible exact LeO.none _)
   | (with_reducible refine LeO.ite ?_ ?_)
   | (with_reducible refine LeO.bind ?_ (fun _ => ?_))
   | exact bung_courses.mono _ _
   | exact LeO.none _
   | refine LeO.ite ?_ ?_
   | refine LeO.bind ?_ (fun _ => ?_)
set_option maxHeartbeats 8000000 in
set_option maxRecDepth 100000 in
theorem bung_Courses.calls (k : Nat) (a0_0 : Int) (a0_1 : Int) (A0_2 : Option Addr) (c0_2 : Nat) (l0_2 : List (S52)) (r1 : List Int) (r2 : Int) (w : World) (hr0_2 : Kd.C k52 w A0_2 l0_2.length l0_2) (hc0_2 : l0_2.length ≤ c0_2) (h : bung_Courses.f k a0_0 a0_1 l0_2 = some (r1, r2)) :
  Calls Try.prog 34 #[.agg #[.int .i64 a0_0, .int .i64 a0_1, .slice A0_2 l0_2.length c0_2]] w fun e w' => ∃ v0_ : Value, e = .returned (.tuple #[v0_, .int .i64 r2]) ∧ Kd.R (Kd.int .i64) 3 w' w.heap.size (fun _ => True) v0_ r1 ∧ Below w.heap.size w w' := by
 have hu43 := Try.underlying43
 have HR0_2 := pA hr0_2
 have HC0_2 := pA hc0_2
 clear hr0_2 hc0_2
 have HB := pA (Below.refl w.heap.size w)
 have H : ((bung_isBung.f a0_0 a0_1 l0_2).bind fun t441 => (if t441 = true then ((bung_courses.f k l0_2).bind fun t442 => (some (t442, 0))) else (some (([] : List Int), 31)))) = some (r1, r2) := h
 clear h
 replace H := Option.bind_eq_some_iff.mp H
 obtain ⟨t441, A20, H⟩ := H
 replace H : (if t441 = true then ((bung_courses.f k l0_2).bind fun t442 => (some (t442, 0))) else (some (([] : List Int), 31))) = some (r1, r2) := H
 have A2 := pA A20
 clear A20
 by_cases c3 : t441 = true
 ·subst c3
  have H1 : ((bung_courses.f k l0_2).bind fun t442 => (some (t442, 0))) = some (r1, r2) := by rw [if_pos rfl] at H; exact H
  clear H
  have H := H1
  clear H1
  replace H := Option.bind_eq_some_iff.mp H
  obtain ⟨t442, A40, H⟩ := H
  replace H : (some (t442, 0)) = some (r1, r2) := H
  have A4 := pA A40
  clear A40
  simp only [Option.some.injEq, Prod.mk.injEq] at H
  obtain ⟨rfl, rfl⟩ := H
  go_enter Try.func34, Try.ntmps34
  go_wp2_with (first | ((with_reducible refine gate_dst (N := 1) rfl ?_); refine box_event ?hg (N := 1) ?hd (cs := #[.int .i64 a0_0, .int .i64 a0_1, .slice A0_2 l0_2.length c0_2]) (t := 43) ?hr ?_; (case hd => rfl); (case hg => rfl); (case hr => first | (go_simp; done) | (go_simp; rfl)); intro gb440 hg w5 hbox hb; have n0_ := pA (below_step (vB HB) hb); have n1_ := pA (hbox); have n2_ := pA ((by rw [hg]; exact (below_size (vB HB)) : w.heap.size ≤ gb440)); have n3_ := pA ((by rw [hg]; exact (below_size (vB HB)) : w.heap.size ≤ gb440)); clear HB; have HB := n0_; have BK440 := n1_; have GW440 := n2_; have GE440 := n3_; clear n0_ n1_ n2_ n3_; clear hb hbox hg; have hcz6_0 : w5.cell? ⟨gb440, 0, none⟩ = some (.int .i64 a0_0) := (blk_cell BK440.out 0).trans rfl; have hcz6_1 : w5.cell? ⟨gb440, 1, none⟩ = some (.int .i64 a0_1) := (blk_cell BK440.out 1).trans rfl; have hcz6_2 : w5.cell? ⟨gb440, 2, none⟩ = some (.slice A0_2 l0_2.length c0_2) := (blk_cell BK440.out 2).trans rfl; have hfz6_0 := blk_frozen BK440.out 0; have hfz6_1 := blk_frozen BK440.out 1; have hfz6_2 := blk_frozen BK440.out 2) | ((with_reducible refine aF (f := 80) rfl ?_); refine goesL_ (some 5) rfl rfl Try.func80 (by kernel_rfl) rfl #[.agg #[.int .i64 a0_0, .int .i64 a0_1, .slice A0_2 l0_2.length c0_2]] rfl (by (try simp only [List.map_toArray, List.map_cons, List.map_nil]); first | done | rfl | (simp only [List.length_drop, List.length_take]; rfl)) ?_; (with_reducible refine (bung_isBung.calls a0_0 a0_1 _ _ l0_2 true _ ?side1 ?side2 A2.out).mono ?_); (case side1 => repeat (first | exact (Kd.C_below HR0_2.out HB.out) | (with_reducible refine Kd.C_alloc ?_ _) | (with_reducible refine Kd.C_drewN ?_ _) | (with_reducible refine Kd.C_drew ?_))); (case side2 => exact HC0_2.out); rintro e w7 ⟨rfl, hb⟩; refine ⟨_, rfl, ?_⟩; have n0_ := pA (blk_below (g := gb440) (o := .cells #[.int .i64 a0_0, .int .i64 a0_1, .slice A0_2 l0_2.length c0_2] 43 (0, 0)) (vK BK440) hb); have n1_ := pA (below_step (by repeat (first | (with_reducible first | exact HB.out | apply below_alloc | apply pw_below_drewN | apply below_drew1 | refine below_set ?_ GE440.out) | exact HB.out)) hb); clear BK440; clear HB; have BK440 := n0_; have HB := n1_; clear n0_ n1_; (try clear hb); (try clear hb2); (try clear hk); (try clear hi); have hcz8_0 : w7.cell? ⟨gb440, 0, none⟩ = some (.int .i64 a0_0) := (blk_cell BK440.out 0).trans rfl; have hcz8_1 : w7.cell? ⟨gb440, 1, none⟩ = some (.int .i64 a0_1) := (blk_cell BK440.out 1).trans rfl; have hcz8_2 : w7.cell? ⟨gb440, 2, none⟩ = some (.slice A0_2 l0_2.length c0_2) := (blk_cell BK440.out 2).trans rfl; have hfz8_0 := blk_frozen BK440.out 0; have hfz8_1 := blk_frozen BK440.out 1; have hfz8_2 := blk_frozen BK440.out 2) | ((with_reducible refine aF (f := 82) rfl ?_); refine goesL_ (some 9) rfl rfl Try.func82 (by kernel_rfl) rfl #[.slice A0_2 l0_2.length c0_2] rfl (by (try simp only [List.map_toArray, List.map_cons, List.map_nil]); first | done | rfl | (simp only [List.length_drop, List.length_take]; rfl)) ?_; (with_reducible refine (bung_courses.calls k _ _ l0_2 t442 _ ?side1 ?side2 A4.out).mono ?_); (case side1 => repeat (first | exact (Kd.C_below HR0_2.out HB.out) | (with_reducible refine Kd.C_alloc ?_ _) | (with_reducible refine Kd.C_drewN ?_ _) | (with_reducible refine Kd.C_drew ?_))); (case side2 => exact HC0_2.out); rintro e w9 ⟨v443, rfl, ho0, hb⟩; refine ⟨_, rfl, ?_⟩; have n0_ := pA (Kd.R_lower ho0 (below_size (by repeat (first | (with_reducible first | exact HB.out | apply below_alloc | apply pw_below_drewN | apply below_drew1 | refine below_set ?_ GE440.out) | exact HB.out)))); have n1_ := pA (blk_below (g := gb440) (o := .cells #[.int .i64 a0_0, .int .i64 a0_1, .slice A0_2 l0_2.length c0_2] 43 (0, 0)) (vK BK440) hb); have n2_ := pA (below_step (by repeat (first | (with_reducible first | exact HB.out | apply below_alloc | apply pw_below_drewN | apply below_drew1 | refine below_set ?_ GE440.out) | exact HB.out)) hb); clear BK440; clear HB; have HO444 := n0_; have BK440 := n1_; have HB := n2_; clear n0_ n1_ n2_; (try clear hb); (try clear hb2); (try clear hk); (try clear hi); (try clear ho0)))
  go_ret2
  exact ⟨_, by first | rfl | (simp [errW_none, errW_some] <;> rfl) | (simp [*, errW_none, errW_some] <;> rfl), by (with_reducible repeat (first | apply Kd.R_alloc | apply Kd.R_drewN | apply Kd.R_drew)); exact HO444.out, by repeat (first | (with_reducible first | exact HB.out | apply below_alloc | apply pw_below_drewN | apply below_drew1 | refine below_set ?_ GE440.out) | exact HB.out)⟩
 ·replace c3 := Bool.eq_false_iff.mpr c3
  subst c3
  have H1 : (some (([] : List Int), 31)) = some (r1, r2) := by rw [if_neg (show ¬ (false = true) by decide)] at H; exact H
  clear H
  have H := H1
  clear H1
  simp only [Option.some.injEq, Prod.mk.injEq] at H
  obtain ⟨rfl, rfl⟩ := H
  go_enter Try.func34, Try.ntmps34
  go_wp2_with (first | ((with_reducible refine gate_dst (N := 1) rfl ?_); refine box_event ?hg (N := 1) ?hd (cs := #[.int .i64 a0_0, .int .i64 a0_1, .slice A0_2 l0_2.length c0_2]) (t := 43) ?hr ?_; (case hd => rfl); (case hg => rfl); (case hr => first | (go_simp; done) | (go_simp; rfl)); intro gb440 hg w10 hbox hb; have n0_ := pA (below_step (vB HB) hb); have n1_ := pA (hbox); have n2_ := pA ((by rw [hg]; exact (below_size (vB HB)) : w.heap.size ≤ gb440)); have n3_ := pA ((by rw [hg]; exact (below_size (vB HB)) : w.heap.size ≤ gb440)); clear HB; have HB := n0_; have BK440 := n1_; have GW440 := n2_; have GE440 := n3_; clear n0_ n1_ n2_ n3_; clear hb hbox hg; have hcz11_0 : w10.cell? ⟨gb440, 0, none⟩ = some (.int .i64 a0_0) := (blk_cell BK440.out 0).trans rfl; have hcz11_1 : w10.cell? ⟨gb440, 1, none⟩ = some (.int .i64 a0_1) := (blk_cell BK440.out 1).trans rfl; have hcz11_2 : w10.cell? ⟨gb440, 2, none⟩ = some (.slice A0_2 l0_2.length c0_2) := (blk_cell BK440.out 2).trans rfl; have hfz11_0 := blk_frozen BK440.out 0; have hfz11_1 := blk_frozen BK440.out 1; have hfz11_2 := blk_frozen BK440.out 2) | ((with_reducible refine aF (f := 80) rfl ?_); refine goesL_ (some 5) rfl rfl Try.func80 (by kernel_rfl) rfl #[.agg #[.int .i64 a0_0, .int .i64 a0_1, .slice A0_2 l0_2.length c0_2]] rfl (by (try simp only [List.map_toArray, List.map_cons, List.map_nil]); first | done | rfl | (simp only [List.length_drop, List.length_take]; rfl)) ?_; (with_reducible refine (bung_isBung.calls a0_0 a0_1 _ _ l0_2 false _ ?side1 ?side2 A2.out).mono ?_); (case side1 => repeat (first | exact (Kd.C_below HR0_2.out HB.out) | (with_reducible refine Kd.C_alloc ?_ _) | (with_reducible refine Kd.C_drewN ?_ _) | (with_reducible refine Kd.C_drew ?_))); (case side2 => exact HC0_2.out); rintro e w12 ⟨rfl, hb⟩; refine ⟨_, rfl, ?_⟩; have n0_ := pA (blk_below (g := gb440) (o := .cells #[.int .i64 a0_0, .int .i64 a0_1, .slice A0_2 l0_2.length c0_2] 43 (0, 0)) (vK BK440) hb); have n1_ := pA (below_step (by repeat (first | (with_reducible first | exact HB.out | apply below_alloc | apply pw_below_drewN | apply below_drew1 | refine below_set ?_ GE440.out) | exact HB.out)) hb); clear BK440; clear HB; have BK440 := n0_; have HB := n1_; clear n0_ n1_; (try clear hb); (try clear hb2); (try clear hk); (try clear hi)))
  go_ret2
  exact ⟨_, by first | rfl | (simp [errW_none, errW_some] <;> rfl) | (simp [*, errW_none, errW_some] <;> rfl), by first | exact Kd.R_nil _ _ _ _ _ | exact Kd.N_nil _ _ _ _ _ | exact Kd.V_nil _ _ _ _ _ | exact Kd.Q_nil _ _ _ _ _ | exact Kd.S_nil _ _ _ _ _, by repeat (first | (with_reducible first | exact HB.out | apply below_alloc | apply pw_below_drewN | apply below_drew1 | refine below_set ?_ GE440.out) | exact HB.out)⟩
def potbankref03_Courses.l0 : Nat → List Int → Int → Int → Int → List (S52) → Option (List Int × Int)
  | 0, _, _, _, _, _ => none
  | k + 1, x4, x5, x446000, x446001, x446002 => if x5 < (x446002.length : Int) then ((potbankref03_answer.f x446002 x5).bind fun t447 => (if x4.length < 17592186044416 then (potbankref03_Courses.l0 k (x4 ++ [t447]) (wrap64 (x5 + 1)) x446000 x446001 x446002) else (none))) else (some (x4, 0))
def potbankref03_Courses.f (k : Nat) (a0_0 : Int) (a0_1 : Int) (l0_2 : List (S52)) : Option (List Int × Int) := (potbankref03_Check.f k a0_0 a0_1 l0_2).bind fun t446 => (if t446 = 0 then (potbankref03_Courses.l0 k ([] : List Int) 0 a0_0 a0_1 l0_2) else (some (([] : List Int), 31)))
theorem potbankref03_Courses.mono_l : ∀ k, (∀ y0 y1 y2 y3 y4, LeO (potbankref03_Courses.l0 k y0 y1 y2 y3 y4) (potbankref03_Courses.l0 (k + 1) y0 y1 y2 y3 y4))
 | 0 => fun _ _ _ _ _ r h => by simp [potbankref03_Courses.l0] at h
 | k + 1 => by
  have ih0 := potbankref03_Courses.mono_l k
  ·intro y0 y1 y2 y3 y4
   unfold potbankref03_Courses.l0
   repeat' first
   | (with_reducible exact ih0 _ _ _ _ _)
   | (with_reducible exact potbankref03_Check.mono _ _ _ _)
   | (with_reducible exact LeO.refl _)
   | (with_reducible exact LeO.none _)
   | (with_reducible refine LeO.ite ?_ ?_)
   | (with_reducible refine LeO.bind ?_ (fun _ => ?_))
   | exact ih0 _ _ _ _ _
   | exact potbankref03_Check.mono _ _ _ _
   | exact LeO.none _
   | refine LeO.ite ?_ ?_
   | refine LeO.bind ?_ (fun _ => ?_)
theorem potbankref03_Courses.mono : ∀ a0 a1 a2 k, LeO (potbankref03_Courses.f k a0 a1 a2) (potbankref03_Courses.f (k + 1) a0 a1 a2) := by
 intro a0 a1 a2 k
 have ih0 := potbankref03_Courses.mono_l k
 unfold potbankref03_Courses.f
 repeat' first
   | (with_reducible exact ih0 _ _ _ _ _)
   | (with_reducible exact potbankref03_Check.mono _ _ _ _)
   | (with_reducible exact LeO.refl _)
   | (with_reducible exact LeO.none _)
   | (with_reducible refine LeO.ite ?_ ?_)
   | (with_reducible refine LeO.bind ?_ (fun _ => ?_))
   | exact ih0 _ _ _ _ _
   | exact potbankref03_Check.mono _ _ _ _
   | exact LeO.none _
   | refine LeO.ite ?_ ?_
   | refine LeO.bind ?_ (fun _ => ?_)
set_option maxHeartbeats 8000000 in
set_option maxRecDepth 100000 in
theorem potbankref03_Courses.calls (k : Nat) (a0_0 : Int) (a0_1 : Int) (A0_2 : Option Addr) (c0_2 : Nat) (l0_2 : List (S52)) (r1 : List Int) (r2 : Int) (w : World) (hr0_2 : Kd.C k52 w A0_2 l0_2.length l0_2) (hc0_2 : l0_2.length ≤ c0_2) (h : potbankref03_Courses.f k a0_0 a0_1 l0_2 = some (r1, r2)) :
  Calls Try.prog 35 #[.agg #[.int .i64 a0_0, .int .i64 a0_1, .slice A0_2 l0_2.length c0_2]] w fun e w' => ∃ v0_ : Value, e = .returned (.tuple #[v0_, .int .i64 r2]) ∧ Kd.R (Kd.int .i64) 3 w' w.heap.size (fun _ => True) v0_ r1 ∧ Below w.heap.size w w' := by
 have hu43 := Try.underlying43
 have HR0_2 := pA hr0_2
 have HC0_2 := pA hc0_2
 clear hr0_2 hc0_2
 have HB := pA (Below.refl w.heap.size w)
 have H : ((potbankref03_Check.f k a0_0 a0_1 l0_2).bind fun t446 => (if t446 = 0 then (potbankref03_Courses.l0 k ([] : List Int) 0 a0_0 a0_1 l0_2) else (some (([] : List Int), 31)))) = some (r1, r2) := h
 clear h
 replace H := Option.bind_eq_some_iff.mp H
 obtain ⟨t446, A20, H⟩ := H
 replace H : (if t446 = 0 then (potbankref03_Courses.l0 k ([] : List Int) 0 a0_0 a0_1 l0_2) else (some (([] : List Int), 31))) = some (r1, r2) := H
 have A2 := pA A20
 clear A20
 by_cases c3 : t446 = 0
 ·rw [if_pos c3] at H
  have c3b0 : (t446 == 0) = true := beq_iff_eq.mpr c3
  have c3b1 : (t446 != 0) = false := bne_eq_false_iff_eq.mpr c3
  clear c3
  have H' := pA H
  clear H
  go_enter Try.func35, Try.ntmps35
  go_wp2_with (first | ((with_reducible refine gate_dst (N := 1) rfl ?_); refine box_event ?hg (N := 1) ?hd (cs := #[.int .i64 a0_0, .int .i64 a0_1, .slice A0_2 l0_2.length c0_2]) (t := 43) ?hr ?_; (case hd => rfl); (case hg => rfl); (case hr => first | (go_simp; done) | (go_simp; rfl)); intro gb445 hg w4 hbox hb; have n0_ := pA (below_step (vB HB) hb); have n1_ := pA (hbox); have n2_ := pA ((by rw [hg]; exact (below_size (vB HB)) : w.heap.size ≤ gb445)); have n3_ := pA ((by rw [hg]; exact (below_size (vB HB)) : w.heap.size ≤ gb445)); clear HB; have HB := n0_; have BK445 := n1_; have GW445 := n2_; have GE445 := n3_; clear n0_ n1_ n2_ n3_; clear hb hbox hg; have hcz5_0 : w4.cell? ⟨gb445, 0, none⟩ = some (.int .i64 a0_0) := (blk_cell BK445.out 0).trans rfl; have hcz5_1 : w4.cell? ⟨gb445, 1, none⟩ = some (.int .i64 a0_1) := (blk_cell BK445.out 1).trans rfl; have hcz5_2 : w4.cell? ⟨gb445, 2, none⟩ = some (.slice A0_2 l0_2.length c0_2) := (blk_cell BK445.out 2).trans rfl; have hfz5_0 := blk_frozen BK445.out 0; have hfz5_1 := blk_frozen BK445.out 1; have hfz5_2 := blk_frozen BK445.out 2) | ((with_reducible refine aF (f := 48) rfl ?_); refine goesL_ (some 7) rfl rfl Try.func48 (by kernel_rfl) rfl #[.agg #[.int .i64 a0_0, .int .i64 a0_1, .slice A0_2 l0_2.length c0_2]] rfl (by (try simp only [List.map_toArray, List.map_cons, List.map_nil]); first | done | rfl | (simp only [List.length_drop, List.length_take]; rfl)) ?_; (with_reducible refine (potbankref03_Check.calls k a0_0 a0_1 _ _ l0_2 t446 _ ?side1 ?side2 A2.out).mono ?_); (case side1 => repeat (first | exact (Kd.C_below HR0_2.out HB.out) | (with_reducible refine Kd.C_alloc ?_ _) | (with_reducible refine Kd.C_drewN ?_ _) | (with_reducible refine Kd.C_drew ?_))); (case side2 => exact HC0_2.out); rintro e w6 ⟨rfl, hb⟩; refine ⟨_, rfl, ?_⟩; have n0_ := pA (blk_below (g := gb445) (o := .cells #[.int .i64 a0_0, .int .i64 a0_1, .slice A0_2 l0_2.length c0_2] 43 (0, 0)) (vK BK445) hb); have n1_ := pA (below_step (by repeat (first | (with_reducible first | exact HB.out | apply below_alloc | apply pw_below_drewN | apply below_drew1 | refine below_set ?_ GE445.out) | exact HB.out)) hb); clear BK445; clear HB; have BK445 := n0_; have HB := n1_; clear n0_ n1_; (try clear hb); (try clear hb2); (try clear hk); (try clear hi)))
  go_loopg [4, 5] k (fun kq v4 v5 w' => ∃ (x4_1 : List Int) (x5_1 : Int), v5 = .int .i64 x5_1 ∧ Aside0 (potbankref03_Courses.l0 kq x4_1 x5_1 a0_0 a0_1 l0_2 = some (r1, r2)) ∧ Aside0 (kq ≤ k) ∧ Aside0 (Kd.R (Kd.int .i64) 3 w' w.heap.size (fun _ => True) v4 x4_1) ∧ Aside0 (w'.heap[gb445]? = some (.cells #[.int .i64 a0_0, .int .i64 a0_1, (.slice A0_2 l0_2.length c0_2)] 43 (0, 0))) ∧ Aside0 (Below w.heap.size w w'))
  case atStart => exact ⟨(([] : List Int)), (0), (by first | rfl | (simp; done) | (simp [*]; done)), H', ⟨Nat.le_refl _⟩, ⟨by first | exact Kd.R_nil _ _ _ _ _ | exact Kd.N_nil _ _ _ _ _ | exact Kd.V_nil _ _ _ _ _ | exact Kd.Q_nil _ _ _ _ _ | exact Kd.S_nil _ _ _ _ _⟩, ⟨by (with_reducible repeat (first | refine blk_drewN ?_ _ | refine blk_drew ?_ | refine blk_alloc ?_ _)); exact BK445.out⟩, ⟨by repeat (first | (with_reducible first | exact HB.out | apply below_alloc | apply pw_below_drewN | apply below_drew1 | refine below_set ?_ GE445.out) | exact HB.out)⟩⟩
  case round =>
   clear H'
   try clear p2
   try clear c3
   try clear c3b0
   try clear c3b1
   try clear c4
   try clear hcz5_0
   try clear hcz5_1
   try clear hcz5_2
   try clear hfz5_0
   try clear hfz5_1
   try clear hfz5_2
   obtain ⟨x4_1, x5_1, rfl, HA, HK1, HO_4, BK445, HB⟩ := hrel
   cases gk with
   | zero => exact absurd HA.out (by simp [potbankref03_Courses.l0])
   | succ k1 =>
    have H := HA.out
    clear HA
    simp only [potbankref03_Courses.l0] at H
    by_cases c7 : x5_1 < (l0_2.length : Int)
    ·rw [if_pos c7] at H
     have c7b0 : decide (x5_1 < (l0_2.length : Int)) = true := decide_eq_true c7
     clear c7
     replace H := Option.bind_eq_some_iff.mp H
     obtain ⟨t447, A80, H⟩ := H
     replace H : (if x4_1.length < 17592186044416 then (potbankref03_Courses.l0 k1 (x4_1 ++ [t447]) (wrap64 (x5_1 + 1)) a0_0 a0_1 l0_2) else (none)) = some (r1, r2) := H
     have A8 := pA A80
     clear A80
     by_cases c9 : x4_1.length < 17592186044416
     ·rw [if_pos c9] at H
      have LMc9 := pA c9
      clear c9
      obtain ⟨y448, hy448⟩ : ∃ y_ : List Int, y_ = (x4_1 ++ [t447]) := ⟨_, rfl⟩
      replace H : (potbankref03_Courses.l0 k1 y448 (wrap64 (x5_1 + 1)) a0_0 a0_1 l0_2) = some (r1, r2) := by first | (rw [hy448]; with_reducible exact H) | (have H2_ := (Option.bind_some _ _).symm.trans H; rw [hy448]; with_reducible exact H2_) | (have H2_ := (Option.bind_some _ _).symm.trans H; with_reducible exact H2_) | with_reducible exact H | (rw [hy448]; exact H) | exact H
      have Ny448 := pA hy448
      clear hy448
      have H' := pA H
      clear H
      have hcz10_0 : wr.cell? ⟨gb445, 0, none⟩ = some (.int .i64 a0_0) := (blk_cell BK445.out 0).trans rfl
      have hcz10_1 : wr.cell? ⟨gb445, 1, none⟩ = some (.int .i64 a0_1) := (blk_cell BK445.out 1).trans rfl
      have hcz10_2 : wr.cell? ⟨gb445, 2, none⟩ = some (.slice A0_2 l0_2.length c0_2) := (blk_cell BK445.out 2).trans rfl
      have hfz10_0 := blk_frozen BK445.out 0
      have hfz10_1 := blk_frozen BK445.out 1
      have hfz10_2 := blk_frozen BK445.out 2
      go_wp2_with (first | ((with_reducible refine aF (f := 90) rfl ?_); refine goesL_ (some 20) rfl rfl Try.func90 (by kernel_rfl) rfl #[.slice A0_2 l0_2.length c0_2, .int .i64 x5_1] rfl (by (try simp only [List.map_toArray, List.map_cons, List.map_nil]); first | done | rfl | (simp only [List.length_drop, List.length_take]; rfl)) ?_; (with_reducible refine (potbankref03_answer.calls _ _ l0_2 x5_1 t447 _ ?side1 ?side2 A8.out).mono ?_); (case side1 => repeat (first | exact (Kd.C_below HR0_2.out HB.out) | (with_reducible refine Kd.C_alloc ?_ _) | (with_reducible refine Kd.C_drewN ?_ _) | (with_reducible refine Kd.C_drew ?_))); (case side2 => exact HC0_2.out); rintro e w11 ⟨rfl, hb⟩; refine ⟨_, rfl, ?_⟩; have n0_ := pA (Kd.R_below (vR HO_4) hb); have n1_ := pA (blk_below (g := gb445) (o := .cells #[.int .i64 a0_0, .int .i64 a0_1, .slice A0_2 l0_2.length c0_2] 43 (0, 0)) (vK BK445) hb); have n2_ := pA (below_step (by repeat (first | (with_reducible first | exact HB.out | apply below_alloc | apply pw_below_drewN | apply below_drew1 | refine below_set ?_ GE445.out) | exact HB.out)) hb); clear HO_4; clear BK445; clear HB; have HO_4 := n0_; have BK445 := n1_; have HB := n2_; clear n0_ n1_ n2_; (try clear hb); (try clear hb2); (try clear hk); (try clear hi)) | ((with_reducible refine aG (b := .append) (xs := #[.tmp 16, .tmp 21]) rfl ?_); at_builtin; refine Kd.R_append (Kd.int .i64) (w0 := w) w.heap.size rfl (.tmp 16) (.tmp 21) 38 3 (.int .i64 0) 8 rfl Try.underlying38 info3 rfl (by decide) (by omega) u4 x4_1 t447 [.int .i64 t447] (fun _ => True) (fun _ => False) rfl rfl ?aP (fun _ hk => hk.elim) ?aF ?aO ?aB ?aS ?aL ?_; (case aP => exact rfl); (case aB => exact (by repeat (first | (with_reducible first | exact HB.out | apply below_alloc | apply pw_below_drewN | apply below_drew1 | refine below_set ?_ GE445.out) | exact HB.out))); (case aF => exact (fun _ _ => trivial)); (case aO => exact (vR HO_4)); (case aS => exact (below_size (by repeat (first | (with_reducible first | exact HB.out | apply below_alloc | apply pw_below_drewN | apply below_drew1 | refine below_set ?_ GE445.out) | exact HB.out)))); (case aL => have := LMc9.out; omega); intro v449 w12 ho hb hg hat; rw [← Ny448.out] at ho; have n0_ := pA (blk_grown (g := gb445) (o := .cells #[.int .i64 a0_0, .int .i64 a0_1, .slice A0_2 l0_2.length c0_2] 43 (0, 0)) (vK BK445) hg (Kd.R_ne HO_4.out BK445.out (by decide))); have n1_ := pA (hb); have n2_ := pA (ho); clear BK445; clear HB; clear HO_4; have BK445 := n0_; have HB := n1_; have HO450 := n2_; clear n0_ n1_ n2_; clear ho hb hg hat))
      go_roundg k1
      case measure => have := HK1.out; omega
      case rel => exact ⟨(y448), (wrap64 (x5_1 + 1)), (by first | rfl | (simp; done) | (simp [*]; done)), H', ⟨by have := HK1.out; omega⟩, ⟨by (with_reducible repeat (first | apply Kd.R_alloc | apply Kd.R_drewN | apply Kd.R_drew)); exact HO450.out⟩, ⟨by (with_reducible repeat (first | refine blk_drewN ?_ _ | refine blk_drew ?_ | refine blk_alloc ?_ _)); exact BK445.out⟩, ⟨by repeat (first | (with_reducible first | exact HB.out | apply below_alloc | apply pw_below_drewN | apply below_drew1 | refine below_set ?_ GE445.out) | exact HB.out)⟩⟩
     ·rw [if_neg c9] at H
      exact absurd H (by simp)
    ·rw [if_neg c7] at H
     have c7b0 : decide (x5_1 < (l0_2.length : Int)) = false := decide_eq_false c7
     clear c7
     simp only [Option.some.injEq, Prod.mk.injEq] at H
     obtain ⟨rfl, rfl⟩ := H
     have hcz13_0 : wr.cell? ⟨gb445, 0, none⟩ = some (.int .i64 a0_0) := (blk_cell BK445.out 0).trans rfl
     have hcz13_1 : wr.cell? ⟨gb445, 1, none⟩ = some (.int .i64 a0_1) := (blk_cell BK445.out 1).trans rfl
     have hcz13_2 : wr.cell? ⟨gb445, 2, none⟩ = some (.slice A0_2 l0_2.length c0_2) := (blk_cell BK445.out 2).trans rfl
     have hfz13_0 := blk_frozen BK445.out 0
     have hfz13_1 := blk_frozen BK445.out 1
     have hfz13_2 := blk_frozen BK445.out 2
     go_wp2
     go_ret2
     exact ⟨_, by first | rfl | (simp [errW_none, errW_some] <;> rfl) | (simp [*, errW_none, errW_some] <;> rfl), by (with_reducible repeat (first | apply Kd.R_alloc | apply Kd.R_drewN | apply Kd.R_drew)); exact HO_4.out, by repeat (first | (with_reducible first | exact HB.out | apply below_alloc | apply pw_below_drewN | apply below_drew1 | refine below_set ?_ GE445.out) | exact HB.out)⟩
 ·rw [if_neg c3] at H
  have c3b0 : (t446 == 0) = false := beq_eq_false_iff_ne.mpr c3
  have c3b1 : (t446 != 0) = true := bne_iff_ne.mpr c3
  simp only [Option.some.injEq, Prod.mk.injEq] at H
  obtain ⟨rfl, rfl⟩ := H
  go_enter Try.func35, Try.ntmps35
  go_wp2_with (first | ((with_reducible refine gate_dst (N := 1) rfl ?_); refine box_event ?hg (N := 1) ?hd (cs := #[.int .i64 a0_0, .int .i64 a0_1, .slice A0_2 l0_2.length c0_2]) (t := 43) ?hr ?_; (case hd => rfl); (case hg => rfl); (case hr => first | (go_simp; done) | (go_simp; rfl)); intro gb445 hg w14 hbox hb; have n0_ := pA (below_step (vB HB) hb); have n1_ := pA (hbox); have n2_ := pA ((by rw [hg]; exact (below_size (vB HB)) : w.heap.size ≤ gb445)); have n3_ := pA ((by rw [hg]; exact (below_size (vB HB)) : w.heap.size ≤ gb445)); clear HB; have HB := n0_; have BK445 := n1_; have GW445 := n2_; have GE445 := n3_; clear n0_ n1_ n2_ n3_; clear hb hbox hg; have hcz15_0 : w14.cell? ⟨gb445, 0, none⟩ = some (.int .i64 a0_0) := (blk_cell BK445.out 0).trans rfl; have hcz15_1 : w14.cell? ⟨gb445, 1, none⟩ = some (.int .i64 a0_1) := (blk_cell BK445.out 1).trans rfl; have hcz15_2 : w14.cell? ⟨gb445, 2, none⟩ = some (.slice A0_2 l0_2.length c0_2) := (blk_cell BK445.out 2).trans rfl; have hfz15_0 := blk_frozen BK445.out 0; have hfz15_1 := blk_frozen BK445.out 1; have hfz15_2 := blk_frozen BK445.out 2) | ((with_reducible refine aF (f := 48) rfl ?_); refine goesL_ (some 7) rfl rfl Try.func48 (by kernel_rfl) rfl #[.agg #[.int .i64 a0_0, .int .i64 a0_1, .slice A0_2 l0_2.length c0_2]] rfl (by (try simp only [List.map_toArray, List.map_cons, List.map_nil]); first | done | rfl | (simp only [List.length_drop, List.length_take]; rfl)) ?_; (with_reducible refine (potbankref03_Check.calls k a0_0 a0_1 _ _ l0_2 t446 _ ?side1 ?side2 A2.out).mono ?_); (case side1 => repeat (first | exact (Kd.C_below HR0_2.out HB.out) | (with_reducible refine Kd.C_alloc ?_ _) | (with_reducible refine Kd.C_drewN ?_ _) | (with_reducible refine Kd.C_drew ?_))); (case side2 => exact HC0_2.out); rintro e w16 ⟨rfl, hb⟩; refine ⟨_, rfl, ?_⟩; have n0_ := pA (blk_below (g := gb445) (o := .cells #[.int .i64 a0_0, .int .i64 a0_1, .slice A0_2 l0_2.length c0_2] 43 (0, 0)) (vK BK445) hb); have n1_ := pA (below_step (by repeat (first | (with_reducible first | exact HB.out | apply below_alloc | apply pw_below_drewN | apply below_drew1 | refine below_set ?_ GE445.out) | exact HB.out)) hb); clear BK445; clear HB; have BK445 := n0_; have HB := n1_; clear n0_ n1_; (try clear hb); (try clear hb2); (try clear hk); (try clear hi)))
  go_ret2
  exact ⟨_, by first | rfl | (simp [errW_none, errW_some] <;> rfl) | (simp [*, errW_none, errW_some] <;> rfl), by first | exact Kd.R_nil _ _ _ _ _ | exact Kd.N_nil _ _ _ _ _ | exact Kd.V_nil _ _ _ _ _ | exact Kd.Q_nil _ _ _ _ _ | exact Kd.S_nil _ _ _ _ _, by repeat (first | (with_reducible first | exact HB.out | apply below_alloc | apply pw_below_drewN | apply below_drew1 | refine below_set ?_ GE445.out) | exact HB.out)⟩
def potbankref03_Stands.f (k : Nat) (a0_0 : Int) (a0_1 : Int) (l0_2 : List (S52)) : Option (Int × Int) := (potbankref03_Check.f k a0_0 a0_1 l0_2).bind fun t452 => (if t452 = 0 then ((potbankref03_stands.f l0_2).bind fun t453 => (some (t453, 0))) else (some (0, 31)))
theorem potbankref03_Stands.mono : ∀ a0 a1 a2 k, LeO (potbankref03_Stands.f k a0 a1 a2) (potbankref03_Stands.f (k + 1) a0 a1 a2) := by
 intro a0 a1 a2 k
 unfold potbankref03_Stands.f
 repeat' first
   | (with_reducible exact potbankref03_Check.mono _ _ _ _)
   | (with_reducible exact LeO.refl _)
   | (with_reducible exact LeO.none _)
   | (with_reducible refine LeO.ite ?_ ?_)
   | (with_reducible refine LeO.bind ?_ (fun _ => ?_))
   | exact potbankref03_Check.mono _ _ _ _
   | exact LeO.none _
   | refine LeO.ite ?_ ?_
   | refine LeO.bind ?_ (fun _ => ?_)
set_option maxHeartbeats 8000000 in
set_option maxRecDepth 100000 in
theorem potbankref03_Stands.calls (k : Nat) (a0_0 : Int) (a0_1 : Int) (A0_2 : Option Addr) (c0_2 : Nat) (l0_2 : List (S52)) (r1 : Int) (r2 : Int) (w : World) (hr0_2 : Kd.C k52 w A0_2 l0_2.length l0_2) (hc0_2 : l0_2.length ≤ c0_2) (h : potbankref03_Stands.f k a0_0 a0_1 l0_2 = some (r1, r2)) :
  Calls Try.prog 36 #[.agg #[.int .i64 a0_0, .int .i64 a0_1, .slice A0_2 l0_2.length c0_2]] w fun e w' => e = .returned (.tuple #[.int .i64 r1, .int .i64 r2]) ∧ Below w.heap.size w w' := by
 have hu43 := Try.underlying43
 have HR0_2 := pA hr0_2
 have HC0_2 := pA hc0_2
 clear hr0_2 hc0_2
 have HB := pA (Below.refl w.heap.size w)
 have H : ((potbankref03_Check.f k a0_0 a0_1 l0_2).bind fun t452 => (if t452 = 0 then ((potbankref03_stands.f l0_2).bind fun t453 => (some (t453, 0))) else (some (0, 31)))) = some (r1, r2) := h
 clear h
 replace H := Option.bind_eq_some_iff.mp H
 obtain ⟨t452, A20, H⟩ := H
 replace H : (if t452 = 0 then ((potbankref03_stands.f l0_2).bind fun t453 => (some (t453, 0))) else (some (0, 31))) = some (r1, r2) := H
 have A2 := pA A20
 clear A20
 by_cases c3 : t452 = 0
 ·rw [if_pos c3] at H
  have c3b0 : (t452 == 0) = true := beq_iff_eq.mpr c3
  have c3b1 : (t452 != 0) = false := bne_eq_false_iff_eq.mpr c3
  clear c3
  replace H := Option.bind_eq_some_iff.mp H
  obtain ⟨t453, A40, H⟩ := H
  replace H : (some (t453, 0)) = some (r1, r2) := H
  have A4 := pA A40
  clear A40
  simp only [Option.some.injEq, Prod.mk.injEq] at H
  obtain ⟨rfl, rfl⟩ := H
  go_enter Try.func36, Try.ntmps36
  go_wp2_with (first | ((with_reducible refine gate_dst (N := 1) rfl ?_); refine box_event ?hg (N := 1) ?hd (cs := #[.int .i64 a0_0, .int .i64 a0_1, .slice A0_2 l0_2.length c0_2]) (t := 43) ?hr ?_; (case hd => rfl); (case hg => rfl); (case hr => first | (go_simp; done) | (go_simp; rfl)); intro gb451 hg w5 hbox hb; have n0_ := pA (below_step (vB HB) hb); have n1_ := pA (hbox); have n2_ := pA ((by rw [hg]; exact (below_size (vB HB)) : w.heap.size ≤ gb451)); have n3_ := pA ((by rw [hg]; exact (below_size (vB HB)) : w.heap.size ≤ gb451)); clear HB; have HB := n0_; have BK451 := n1_; have GW451 := n2_; have GE451 := n3_; clear n0_ n1_ n2_ n3_; clear hb hbox hg; have hcz6_0 : w5.cell? ⟨gb451, 0, none⟩ = some (.int .i64 a0_0) := (blk_cell BK451.out 0).trans rfl; have hcz6_1 : w5.cell? ⟨gb451, 1, none⟩ = some (.int .i64 a0_1) := (blk_cell BK451.out 1).trans rfl; have hcz6_2 : w5.cell? ⟨gb451, 2, none⟩ = some (.slice A0_2 l0_2.length c0_2) := (blk_cell BK451.out 2).trans rfl; have hfz6_0 := blk_frozen BK451.out 0; have hfz6_1 := blk_frozen BK451.out 1; have hfz6_2 := blk_frozen BK451.out 2) | ((with_reducible refine aF (f := 48) rfl ?_); refine goesL_ (some 5) rfl rfl Try.func48 (by kernel_rfl) rfl #[.agg #[.int .i64 a0_0, .int .i64 a0_1, .slice A0_2 l0_2.length c0_2]] rfl (by (try simp only [List.map_toArray, List.map_cons, List.map_nil]); first | done | rfl | (simp only [List.length_drop, List.length_take]; rfl)) ?_; (with_reducible refine (potbankref03_Check.calls k a0_0 a0_1 _ _ l0_2 t452 _ ?side1 ?side2 A2.out).mono ?_); (case side1 => repeat (first | exact (Kd.C_below HR0_2.out HB.out) | (with_reducible refine Kd.C_alloc ?_ _) | (with_reducible refine Kd.C_drewN ?_ _) | (with_reducible refine Kd.C_drew ?_))); (case side2 => exact HC0_2.out); rintro e w7 ⟨rfl, hb⟩; refine ⟨_, rfl, ?_⟩; have n0_ := pA (blk_below (g := gb451) (o := .cells #[.int .i64 a0_0, .int .i64 a0_1, .slice A0_2 l0_2.length c0_2] 43 (0, 0)) (vK BK451) hb); have n1_ := pA (below_step (by repeat (first | (with_reducible first | exact HB.out | apply below_alloc | apply pw_below_drewN | apply below_drew1 | refine below_set ?_ GE451.out) | exact HB.out)) hb); clear BK451; clear HB; have BK451 := n0_; have HB := n1_; clear n0_ n1_; (try clear hb); (try clear hb2); (try clear hk); (try clear hi); have hcz8_0 : w7.cell? ⟨gb451, 0, none⟩ = some (.int .i64 a0_0) := (blk_cell BK451.out 0).trans rfl; have hcz8_1 : w7.cell? ⟨gb451, 1, none⟩ = some (.int .i64 a0_1) := (blk_cell BK451.out 1).trans rfl; have hcz8_2 : w7.cell? ⟨gb451, 2, none⟩ = some (.slice A0_2 l0_2.length c0_2) := (blk_cell BK451.out 2).trans rfl; have hfz8_0 := blk_frozen BK451.out 0; have hfz8_1 := blk_frozen BK451.out 1; have hfz8_2 := blk_frozen BK451.out 2) | ((with_reducible refine aF (f := 91) rfl ?_); refine goesL_ (some 9) rfl rfl Try.func91 (by kernel_rfl) rfl #[.slice A0_2 l0_2.length c0_2] rfl (by (try simp only [List.map_toArray, List.map_cons, List.map_nil]); first | done | rfl | (simp only [List.length_drop, List.length_take]; rfl)) ?_; (with_reducible refine (potbankref03_stands.calls _ _ l0_2 t453 _ ?side1 ?side2 A4.out).mono ?_); (case side1 => repeat (first | exact (Kd.C_below HR0_2.out HB.out) | (with_reducible refine Kd.C_alloc ?_ _) | (with_reducible refine Kd.C_drewN ?_ _) | (with_reducible refine Kd.C_drew ?_))); (case side2 => exact HC0_2.out); rintro e w9 ⟨rfl, hb⟩; refine ⟨_, rfl, ?_⟩; have n0_ := pA (blk_below (g := gb451) (o := .cells #[.int .i64 a0_0, .int .i64 a0_1, .slice A0_2 l0_2.length c0_2] 43 (0, 0)) (vK BK451) hb); have n1_ := pA (below_step (by repeat (first | (with_reducible first | exact HB.out | apply below_alloc | apply pw_below_drewN | apply below_drew1 | refine below_set ?_ GE451.out) | exact HB.out)) hb); clear BK451; clear HB; have BK451 := n0_; have HB := n1_; clear n0_ n1_; (try clear hb); (try clear hb2); (try clear hk); (try clear hi)))
  go_ret2
  exact ⟨by first | rfl | (simp [errW_none, errW_some] <;> rfl) | (simp [*, errW_none, errW_some] <;> rfl), by repeat (first | (with_reducible first | exact HB.out | apply below_alloc | apply pw_below_drewN | apply below_drew1 | refine below_set ?_ GE451.out) | exact HB.out)⟩
 ·rw [if_neg c3] at H
  have c3b0 : (t452 == 0) = false := beq_eq_false_iff_ne.mpr c3
  have c3b1 : (t452 != 0) = true := bne_iff_ne.mpr c3
  simp only [Option.some.injEq, Prod.mk.injEq] at H
  obtain ⟨rfl, rfl⟩ := H
  go_enter Try.func36, Try.ntmps36
  go_wp2_with (first | ((with_reducible refine gate_dst (N := 1) rfl ?_); refine box_event ?hg (N := 1) ?hd (cs := #[.int .i64 a0_0, .int .i64 a0_1, .slice A0_2 l0_2.length c0_2]) (t := 43) ?hr ?_; (case hd => rfl); (case hg => rfl); (case hr => first | (go_simp; done) | (go_simp; rfl)); intro gb451 hg w10 hbox hb; have n0_ := pA (below_step (vB HB) hb); have n1_ := pA (hbox); have n2_ := pA ((by rw [hg]; exact (below_size (vB HB)) : w.heap.size ≤ gb451)); have n3_ := pA ((by rw [hg]; exact (below_size (vB HB)) : w.heap.size ≤ gb451)); clear HB; have HB := n0_; have BK451 := n1_; have GW451 := n2_; have GE451 := n3_; clear n0_ n1_ n2_ n3_; clear hb hbox hg; have hcz11_0 : w10.cell? ⟨gb451, 0, none⟩ = some (.int .i64 a0_0) := (blk_cell BK451.out 0).trans rfl; have hcz11_1 : w10.cell? ⟨gb451, 1, none⟩ = some (.int .i64 a0_1) := (blk_cell BK451.out 1).trans rfl; have hcz11_2 : w10.cell? ⟨gb451, 2, none⟩ = some (.slice A0_2 l0_2.length c0_2) := (blk_cell BK451.out 2).trans rfl; have hfz11_0 := blk_frozen BK451.out 0; have hfz11_1 := blk_frozen BK451.out 1; have hfz11_2 := blk_frozen BK451.out 2) | ((with_reducible refine aF (f := 48) rfl ?_); refine goesL_ (some 5) rfl rfl Try.func48 (by kernel_rfl) rfl #[.agg #[.int .i64 a0_0, .int .i64 a0_1, .slice A0_2 l0_2.length c0_2]] rfl (by (try simp only [List.map_toArray, List.map_cons, List.map_nil]); first | done | rfl | (simp only [List.length_drop, List.length_take]; rfl)) ?_; (with_reducible refine (potbankref03_Check.calls k a0_0 a0_1 _ _ l0_2 t452 _ ?side1 ?side2 A2.out).mono ?_); (case side1 => repeat (first | exact (Kd.C_below HR0_2.out HB.out) | (with_reducible refine Kd.C_alloc ?_ _) | (with_reducible refine Kd.C_drewN ?_ _) | (with_reducible refine Kd.C_drew ?_))); (case side2 => exact HC0_2.out); rintro e w12 ⟨rfl, hb⟩; refine ⟨_, rfl, ?_⟩; have n0_ := pA (blk_below (g := gb451) (o := .cells #[.int .i64 a0_0, .int .i64 a0_1, .slice A0_2 l0_2.length c0_2] 43 (0, 0)) (vK BK451) hb); have n1_ := pA (below_step (by repeat (first | (with_reducible first | exact HB.out | apply below_alloc | apply pw_below_drewN | apply below_drew1 | refine below_set ?_ GE451.out) | exact HB.out)) hb); clear BK451; clear HB; have BK451 := n0_; have HB := n1_; clear n0_ n1_; (try clear hb); (try clear hb2); (try clear hk); (try clear hi)))
  go_ret2
  exact ⟨by first | rfl | (simp [errW_none, errW_some] <;> rfl) | (simp [*, errW_none, errW_some] <;> rfl), by repeat (first | (with_reducible first | exact HB.out | apply below_alloc | apply pw_below_drewN | apply below_drew1 | refine below_set ?_ GE451.out) | exact HB.out)⟩
def potbankref03_Height.f (k : Nat) (a0_0 : Int) (a0_1 : Int) (l0_2 : List (S52)) : Option (Int × Int × Int) := (potbankref03_Check.f k a0_0 a0_1 l0_2).bind fun t456 => (if t456 = 0 then ((potbankref03_height.f a0_0 a0_1 l0_2).bind fun bt457 => (some (bt457.1, bt457.2, 0))) else (some (0, 0, 31)))
theorem potbankref03_Height.mono : ∀ a0 a1 a2 k, LeO (potbankref03_Height.f k a0 a1 a2) (potbankref03_Height.f (k + 1) a0 a1 a2) := by
 intro a0 a1 a2 k
 unfold potbankref03_Height.f
 repeat' first
   | (with_reducible exact potbankref03_Check.mono _ _ _ _)
   | (with_reducible exact LeO.refl _)
   | (with_reducible exact LeO.none _)
   | (with_reducible refine LeO.ite ?_ ?_)
   | (with_reducible refine LeO.bind ?_ (fun _ => ?_))
   | exact potbankref03_Check.mono _ _ _ _
   | exact LeO.none _
   | refine LeO.ite ?_ ?_
   | refine LeO.bind ?_ (fun _ => ?_)
set_option maxHeartbeats 8000000 in
set_option maxRecDepth 100000 in
theorem potbankref03_Height.calls (k : Nat) (a0_0 : Int) (a0_1 : Int) (A0_2 : Option Addr) (c0_2 : Nat) (l0_2 : List (S52)) (r1 : Int) (r2 : Int) (r3 : Int) (w : World) (hr0_2 : Kd.C k52 w A0_2 l0_2.length l0_2) (hc0_2 : l0_2.length ≤ c0_2) (h : potbankref03_Height.f k a0_0 a0_1 l0_2 = some (r1, r2, r3)) :
  Calls Try.prog 37 #[.agg #[.int .i64 a0_0, .int .i64 a0_1, .slice A0_2 l0_2.length c0_2]] w fun e w' => e = .returned (.tuple #[.agg #[.int .i64 r1, .int .i64 r2], .int .i64 r3]) ∧ Below w.heap.size w w' := by
 have hu43 := Try.underlying43
 have hu23 := Try.underlying23
 have HR0_2 := pA hr0_2
 have HC0_2 := pA hc0_2
 clear hr0_2 hc0_2
 have HB := pA (Below.refl w.heap.size w)
 have H : ((potbankref03_Check.f k a0_0 a0_1 l0_2).bind fun t456 => (if t456 = 0 then ((potbankref03_height.f a0_0 a0_1 l0_2).bind fun bt457 => (some (bt457.1, bt457.2, 0))) else (some (0, 0, 31)))) = some (r1, r2, r3) := h
 clear h
 replace H := Option.bind_eq_some_iff.mp H
 obtain ⟨t456, A20, H⟩ := H
 replace H : (if t456 = 0 then ((potbankref03_height.f a0_0 a0_1 l0_2).bind fun bt457 => (some (bt457.1, bt457.2, 0))) else (some (0, 0, 31))) = some (r1, r2, r3) := H
 have A2 := pA A20
 clear A20
 by_cases c3 : t456 = 0
 ·rw [if_pos c3] at H
  have c3b0 : (t456 == 0) = true := beq_iff_eq.mpr c3
  have c3b1 : (t456 != 0) = false := bne_eq_false_iff_eq.mpr c3
  clear c3
  replace H := Option.bind_eq_some_iff.mp H
  obtain ⟨⟨t457, t458⟩, A40, H⟩ := H
  replace H : (some (t457, t458, 0)) = some (r1, r2, r3) := H
  have A4 := pA A40
  clear A40
  simp only [Option.some.injEq, Prod.mk.injEq] at H
  obtain ⟨rfl, rfl, rfl⟩ := H
  go_enter Try.func37, Try.ntmps37
  go_wp2_with (first | ((with_reducible refine gate_dst (N := 1) rfl ?_); refine box_event ?hg (N := 1) ?hd (cs := #[.int .i64 a0_0, .int .i64 a0_1, .slice A0_2 l0_2.length c0_2]) (t := 43) ?hr ?_; (case hd => rfl); (case hg => rfl); (case hr => first | (go_simp; done) | (go_simp; rfl)); intro gb454 hg w5 hbox hb; have n0_ := pA (below_step (vB HB) hb); have n1_ := pA (hbox); have n2_ := pA ((by rw [hg]; exact (below_size (vB HB)) : w.heap.size ≤ gb454)); have n3_ := pA ((by rw [hg]; exact (below_size (vB HB)) : w.heap.size ≤ gb454)); clear HB; have HB := n0_; have BK454 := n1_; have GW454 := n2_; have GE454 := n3_; clear n0_ n1_ n2_ n3_; clear hb hbox hg) | ((with_reducible refine gate_dst (N := 2) rfl ?_); refine box_event ?hg (N := 2) ?hd (cs := #[.int .i64 0, .int .i64 0]) (t := 23) ?hr ?_; (case hd => rfl); (case hg => rfl); (case hr => first | (go_simp; done) | (go_simp; rfl)); intro gb455 hg w6 hbox hb; have n0_ := pA (blk_below (g := gb454) (o := .cells #[.int .i64 a0_0, .int .i64 a0_1, .slice A0_2 l0_2.length c0_2] 43 (0, 0)) (vK BK454) hb); have n1_ := pA (below_step (by repeat (first | (with_reducible first | exact HB.out | apply below_alloc | apply pw_below_drewN | apply below_drew1 | refine below_set ?_ GE454.out) | exact HB.out)) hb); have n2_ := pA (hbox); have n3_ := pA ((by rw [hg]; exact (below_size (by repeat (first | (with_reducible first | exact HB.out | apply below_alloc | apply pw_below_drewN | apply below_drew1 | refine below_set ?_ GE454.out) | exact HB.out))) : w.heap.size ≤ gb455)); have n4_ := pA ((by rw [hg]; exact (below_size (by repeat (first | (with_reducible first | exact HB.out | apply below_alloc | apply pw_below_drewN | apply below_drew1 | refine below_set ?_ GE454.out) | exact HB.out))) : w.heap.size ≤ gb455)); have n5_ := pA ((by rw [hg]; exact Nat.ne_of_lt (blk_lt (g := gb454) (o := .cells #[.int .i64 a0_0, .int .i64 a0_1, .slice A0_2 l0_2.length c0_2] 43 (0, 0)) (vK BK454)) : gb454 ≠ gb455)); have n6_ := pA ((by rw [hg]; exact Nat.ne_of_gt (blk_lt (g := gb454) (o := .cells #[.int .i64 a0_0, .int .i64 a0_1, .slice A0_2 l0_2.length c0_2] 43 (0, 0)) (vK BK454)) : gb455 ≠ gb454)); clear BK454; clear HB; have BK454 := n0_; have HB := n1_; have BK455 := n2_; have GW455 := n3_; have GE455 := n4_; have NB454_455 := n5_; have NB455_454 := n6_; clear n0_ n1_ n2_ n3_ n4_ n5_ n6_; clear hb hbox hg; have hnb7 := NB454_455.out; have hnc7 := NB455_454.out; have hcz8_0 : w6.cell? ⟨gb454, 0, none⟩ = some (.int .i64 a0_0) := (blk_cell BK454.out 0).trans rfl; have hcz8_1 : w6.cell? ⟨gb454, 1, none⟩ = some (.int .i64 a0_1) := (blk_cell BK454.out 1).trans rfl; have hcz8_2 : w6.cell? ⟨gb454, 2, none⟩ = some (.slice A0_2 l0_2.length c0_2) := (blk_cell BK454.out 2).trans rfl; have hfz8_0 := blk_frozen BK454.out 0; have hfz8_1 := blk_frozen BK454.out 1; have hfz8_2 := blk_frozen BK454.out 2) | ((with_reducible refine aF (f := 48) rfl ?_); refine goesL_ (some 5) rfl rfl Try.func48 (by kernel_rfl) rfl #[.agg #[.int .i64 a0_0, .int .i64 a0_1, .slice A0_2 l0_2.length c0_2]] rfl (by (try simp only [List.map_toArray, List.map_cons, List.map_nil]); first | done | rfl | (simp only [List.length_drop, List.length_take]; rfl)) ?_; (with_reducible refine (potbankref03_Check.calls k a0_0 a0_1 _ _ l0_2 t456 _ ?side1 ?side2 A2.out).mono ?_); (case side1 => repeat (first | exact (Kd.C_below HR0_2.out HB.out) | (with_reducible refine Kd.C_alloc ?_ _) | (with_reducible refine Kd.C_drewN ?_ _) | (with_reducible refine Kd.C_drew ?_))); (case side2 => exact HC0_2.out); rintro e w9 ⟨rfl, hb⟩; refine ⟨_, rfl, ?_⟩; have n0_ := pA (blk_below (g := gb454) (o := .cells #[.int .i64 a0_0, .int .i64 a0_1, .slice A0_2 l0_2.length c0_2] 43 (0, 0)) (vK BK454) hb); have n1_ := pA (blk_below (g := gb455) (o := .cells #[.int .i64 0, .int .i64 0] 23 (0, 0)) (vK BK455) hb); have n2_ := pA (below_step (by repeat (first | (with_reducible first | exact HB.out | apply below_alloc | apply pw_below_drewN | apply below_drew1 | refine below_set ?_ GE454.out | refine below_set ?_ GE455.out) | exact HB.out)) hb); clear BK454; clear BK455; clear HB; have BK454 := n0_; have BK455 := n1_; have HB := n2_; clear n0_ n1_ n2_; (try clear hb); (try clear hb2); (try clear hk); (try clear hi); have hcz10_0 : w9.cell? ⟨gb454, 0, none⟩ = some (.int .i64 a0_0) := (blk_cell BK454.out 0).trans rfl; have hcz10_1 : w9.cell? ⟨gb454, 1, none⟩ = some (.int .i64 a0_1) := (blk_cell BK454.out 1).trans rfl; have hcz10_2 : w9.cell? ⟨gb454, 2, none⟩ = some (.slice A0_2 l0_2.length c0_2) := (blk_cell BK454.out 2).trans rfl; have hfz10_0 := blk_frozen BK454.out 0; have hfz10_1 := blk_frozen BK454.out 1; have hfz10_2 := blk_frozen BK454.out 2) | ((with_reducible refine aF (f := 92) rfl ?_); refine goesL_ (some 9) rfl rfl Try.func92 (by kernel_rfl) rfl #[.agg #[.int .i64 a0_0, .int .i64 a0_1, .slice A0_2 l0_2.length c0_2]] rfl (by (try simp only [List.map_toArray, List.map_cons, List.map_nil]); first | done | rfl | (simp only [List.length_drop, List.length_take]; rfl)) ?_; (with_reducible refine (potbankref03_height.calls a0_0 a0_1 _ _ l0_2 t457 t458 _ ?side1 ?side2 A4.out).mono ?_); (case side1 => repeat (first | exact (Kd.C_below HR0_2.out HB.out) | (with_reducible refine Kd.C_alloc ?_ _) | (with_reducible refine Kd.C_drewN ?_ _) | (with_reducible refine Kd.C_drew ?_))); (case side2 => exact HC0_2.out); rintro e w11 ⟨rfl, hb⟩; refine ⟨_, rfl, ?_⟩; have n0_ := pA (blk_below (g := gb454) (o := .cells #[.int .i64 a0_0, .int .i64 a0_1, .slice A0_2 l0_2.length c0_2] 43 (0, 0)) (vK BK454) hb); have n1_ := pA (blk_below (g := gb455) (o := .cells #[.int .i64 0, .int .i64 0] 23 (0, 0)) (vK BK455) hb); have n2_ := pA (below_step (by repeat (first | (with_reducible first | exact HB.out | apply below_alloc | apply pw_below_drewN | apply below_drew1 | refine below_set ?_ GE454.out | refine below_set ?_ GE455.out) | exact HB.out)) hb); clear BK454; clear BK455; clear HB; have BK454 := n0_; have BK455 := n1_; have HB := n2_; clear n0_ n1_ n2_; (try clear hb); (try clear hb2); (try clear hk); (try clear hi); have hcz12_0 : w11.cell? ⟨gb455, 0, none⟩ = some (.int .i64 0) := (blk_cell BK455.out 0).trans rfl; have hcz12_1 : w11.cell? ⟨gb455, 1, none⟩ = some (.int .i64 0) := (blk_cell BK455.out 1).trans rfl; have hfz12_0 := blk_frozen BK455.out 0; have hfz12_1 := blk_frozen BK455.out 1))
  refine bodyPost_ret (results_ct rfl _ _ gb455 23 #[.int .i64 t457, .int .i64 t458] (0, 0) _ rfl (by (with_reducible repeat (first | refine blk_drewN ?_ _ | refine blk_drew ?_ | refine blk_alloc ?_ _)); refine blk_put (cs := #[.int .i64 t457, .int .i64 0]) ?_ 1 _ rfl; (with_reducible repeat (first | refine blk_drewN ?_ _ | refine blk_drew ?_ | refine blk_alloc ?_ _)); refine blk_put (cs := #[.int .i64 0, .int .i64 0]) ?_ 0 _ rfl; (with_reducible repeat (first | refine blk_drewN ?_ _ | refine blk_drew ?_ | refine blk_alloc ?_ _)); exact BK455.out) Try.underlying23 rfl (by kernel_rfl)) rfl ?_
  exact ⟨by first | rfl | (simp [errW_none, errW_some] <;> rfl) | (simp [*, errW_none, errW_some] <;> rfl), by repeat (first | (with_reducible first | exact HB.out | apply below_alloc | apply pw_below_drewN | apply below_drew1 | refine below_set ?_ GE454.out | refine below_set ?_ GE455.out) | exact HB.out)⟩
 ·rw [if_neg c3] at H
  have c3b0 : (t456 == 0) = false := beq_eq_false_iff_ne.mpr c3
  have c3b1 : (t456 != 0) = true := bne_iff_ne.mpr c3
  simp only [Option.some.injEq, Prod.mk.injEq] at H
  obtain ⟨rfl, rfl, rfl⟩ := H
  go_enter Try.func37, Try.ntmps37
  go_wp2_with (first | ((with_reducible refine gate_dst (N := 1) rfl ?_); refine box_event ?hg (N := 1) ?hd (cs := #[.int .i64 a0_0, .int .i64 a0_1, .slice A0_2 l0_2.length c0_2]) (t := 43) ?hr ?_; (case hd => rfl); (case hg => rfl); (case hr => first | (go_simp; done) | (go_simp; rfl)); intro gb454 hg w13 hbox hb; have n0_ := pA (below_step (vB HB) hb); have n1_ := pA (hbox); have n2_ := pA ((by rw [hg]; exact (below_size (vB HB)) : w.heap.size ≤ gb454)); have n3_ := pA ((by rw [hg]; exact (below_size (vB HB)) : w.heap.size ≤ gb454)); clear HB; have HB := n0_; have BK454 := n1_; have GW454 := n2_; have GE454 := n3_; clear n0_ n1_ n2_ n3_; clear hb hbox hg) | ((with_reducible refine gate_dst (N := 2) rfl ?_); refine box_event ?hg (N := 2) ?hd (cs := #[.int .i64 0, .int .i64 0]) (t := 23) ?hr ?_; (case hd => rfl); (case hg => rfl); (case hr => first | (go_simp; done) | (go_simp; rfl)); intro gb455 hg w14 hbox hb; have n0_ := pA (blk_below (g := gb454) (o := .cells #[.int .i64 a0_0, .int .i64 a0_1, .slice A0_2 l0_2.length c0_2] 43 (0, 0)) (vK BK454) hb); have n1_ := pA (below_step (by repeat (first | (with_reducible first | exact HB.out | apply below_alloc | apply pw_below_drewN | apply below_drew1 | refine below_set ?_ GE454.out) | exact HB.out)) hb); have n2_ := pA (hbox); have n3_ := pA ((by rw [hg]; exact (below_size (by repeat (first | (with_reducible first | exact HB.out | apply below_alloc | apply pw_below_drewN | apply below_drew1 | refine below_set ?_ GE454.out) | exact HB.out))) : w.heap.size ≤ gb455)); have n4_ := pA ((by rw [hg]; exact (below_size (by repeat (first | (with_reducible first | exact HB.out | apply below_alloc | apply pw_below_drewN | apply below_drew1 | refine below_set ?_ GE454.out) | exact HB.out))) : w.heap.size ≤ gb455)); have n5_ := pA ((by rw [hg]; exact Nat.ne_of_lt (blk_lt (g := gb454) (o := .cells #[.int .i64 a0_0, .int .i64 a0_1, .slice A0_2 l0_2.length c0_2] 43 (0, 0)) (vK BK454)) : gb454 ≠ gb455)); have n6_ := pA ((by rw [hg]; exact Nat.ne_of_gt (blk_lt (g := gb454) (o := .cells #[.int .i64 a0_0, .int .i64 a0_1, .slice A0_2 l0_2.length c0_2] 43 (0, 0)) (vK BK454)) : gb455 ≠ gb454)); clear BK454; clear HB; have BK454 := n0_; have HB := n1_; have BK455 := n2_; have GW455 := n3_; have GE455 := n4_; have NB454_455 := n5_; have NB455_454 := n6_; clear n0_ n1_ n2_ n3_ n4_ n5_ n6_; clear hb hbox hg; have hnb15 := NB454_455.out; have hnc15 := NB455_454.out; have hcz16_0 : w14.cell? ⟨gb454, 0, none⟩ = some (.int .i64 a0_0) := (blk_cell BK454.out 0).trans rfl; have hcz16_1 : w14.cell? ⟨gb454, 1, none⟩ = some (.int .i64 a0_1) := (blk_cell BK454.out 1).trans rfl; have hcz16_2 : w14.cell? ⟨gb454, 2, none⟩ = some (.slice A0_2 l0_2.length c0_2) := (blk_cell BK454.out 2).trans rfl; have hfz16_0 := blk_frozen BK454.out 0; have hfz16_1 := blk_frozen BK454.out 1; have hfz16_2 := blk_frozen BK454.out 2) | ((with_reducible refine aF (f := 48) rfl ?_); refine goesL_ (some 5) rfl rfl Try.func48 (by kernel_rfl) rfl #[.agg #[.int .i64 a0_0, .int .i64 a0_1, .slice A0_2 l0_2.length c0_2]] rfl (by (try simp only [List.map_toArray, List.map_cons, List.map_nil]); first | done | rfl | (simp only [List.length_drop, List.length_take]; rfl)) ?_; (with_reducible refine (potbankref03_Check.calls k a0_0 a0_1 _ _ l0_2 t456 _ ?side1 ?side2 A2.out).mono ?_); (case side1 => repeat (first | exact (Kd.C_below HR0_2.out HB.out) | (with_reducible refine Kd.C_alloc ?_ _) | (with_reducible refine Kd.C_drewN ?_ _) | (with_reducible refine Kd.C_drew ?_))); (case side2 => exact HC0_2.out); rintro e w17 ⟨rfl, hb⟩; refine ⟨_, rfl, ?_⟩; have n0_ := pA (blk_below (g := gb454) (o := .cells #[.int .i64 a0_0, .int .i64 a0_1, .slice A0_2 l0_2.length c0_2] 43 (0, 0)) (vK BK454) hb); have n1_ := pA (blk_below (g := gb455) (o := .cells #[.int .i64 0, .int .i64 0] 23 (0, 0)) (vK BK455) hb); have n2_ := pA (below_step (by repeat (first | (with_reducible first | exact HB.out | apply below_alloc | apply pw_below_drewN | apply below_drew1 | refine below_set ?_ GE454.out | refine below_set ?_ GE455.out) | exact HB.out)) hb); clear BK454; clear BK455; clear HB; have BK454 := n0_; have BK455 := n1_; have HB := n2_; clear n0_ n1_ n2_; (try clear hb); (try clear hb2); (try clear hk); (try clear hi); have hcz18_0 : w17.cell? ⟨gb455, 0, none⟩ = some (.int .i64 0) := (blk_cell BK455.out 0).trans rfl; have hcz18_1 : w17.cell? ⟨gb455, 1, none⟩ = some (.int .i64 0) := (blk_cell BK455.out 1).trans rfl; have hfz18_0 := blk_frozen BK455.out 0; have hfz18_1 := blk_frozen BK455.out 1))
  refine bodyPost_ret (results_ct rfl _ _ gb455 23 #[.int .i64 0, .int .i64 0] (0, 0) _ rfl (by (with_reducible repeat (first | refine blk_drewN ?_ _ | refine blk_drew ?_ | refine blk_alloc ?_ _)); refine blk_put (cs := #[.int .i64 0, .int .i64 0]) ?_ 1 _ rfl; (with_reducible repeat (first | refine blk_drewN ?_ _ | refine blk_drew ?_ | refine blk_alloc ?_ _)); refine blk_put (cs := #[.int .i64 0, .int .i64 0]) ?_ 0 _ rfl; (with_reducible repeat (first | refine blk_drewN ?_ _ | refine blk_drew ?_ | refine blk_alloc ?_ _)); exact BK455.out) Try.underlying23 rfl (by kernel_rfl)) rfl ?_
  exact ⟨by first | rfl | (simp [errW_none, errW_some] <;> rfl) | (simp [*, errW_none, errW_some] <;> rfl), by repeat (first | (with_reducible first | exact HB.out | apply below_alloc | apply pw_below_drewN | apply below_drew1 | refine below_set ?_ GE454.out | refine below_set ?_ GE455.out) | exact HB.out)⟩
def potbankref03_Lean.f (k : Nat) (a0_0 : Int) (a0_1 : Int) (l0_2 : List (S52)) : Option (Int × Int) := (potbankref03_Check.f k a0_0 a0_1 l0_2).bind fun t460 => (if t460 = 0 then ((potbankref03_lean.f a0_0 a0_1 l0_2).bind fun t461 => (some (t461, 0))) else (some (0, 31)))
theorem potbankref03_Lean.mono : ∀ a0 a1 a2 k, LeO (potbankref03_Lean.f k a0 a1 a2) (potbankref03_Lean.f (k + 1) a0 a1 a2) := by
 intro a0 a1 a2 k
 unfold potbankref03_Lean.f
 repeat' first
   | (with_reducible exact potbankref03_Check.mono _ _ _ _)
   | (with_reducible exact LeO.refl _)
   | (with_reducible exact LeO.none _)
   | (with_reducible refine LeO.ite ?_ ?_)
   | (with_reducible refine LeO.bind ?_ (fun _ => ?_))
   | exact potbankref03_Check.mono _ _ _ _
   | exact LeO.none _
   | refine LeO.ite ?_ ?_
   | refine LeO.bind ?_ (fun _ => ?_)
set_option maxHeartbeats 8000000 in
set_option maxRecDepth 100000 in
theorem potbankref03_Lean.calls (k : Nat) (a0_0 : Int) (a0_1 : Int) (A0_2 : Option Addr) (c0_2 : Nat) (l0_2 : List (S52)) (r1 : Int) (r2 : Int) (w : World) (hr0_2 : Kd.C k52 w A0_2 l0_2.length l0_2) (hc0_2 : l0_2.length ≤ c0_2) (h : potbankref03_Lean.f k a0_0 a0_1 l0_2 = some (r1, r2)) :
  Calls Try.prog 38 #[.agg #[.int .i64 a0_0, .int .i64 a0_1, .slice A0_2 l0_2.length c0_2]] w fun e w' => e = .returned (.tuple #[.int .i64 r1, .int .i64 r2]) ∧ Below w.heap.size w w' := by
 have hu43 := Try.underlying43
 have HR0_2 := pA hr0_2
 have HC0_2 := pA hc0_2
 clear hr0_2 hc0_2
 have HB := pA (Below.refl w.heap.size w)
 have H : ((potbankref03_Check.f k a0_0 a0_1 l0_2).bind fun t460 => (if t460 = 0 then ((potbankref03_lean.f a0_0 a0_1 l0_2).bind fun t461 => (some (t461, 0))) else (some (0, 31)))) = some (r1, r2) := h
 clear h
 replace H := Option.bind_eq_some_iff.mp H
 obtain ⟨t460, A20, H⟩ := H
 replace H : (if t460 = 0 then ((potbankref03_lean.f a0_0 a0_1 l0_2).bind fun t461 => (some (t461, 0))) else (some (0, 31))) = some (r1, r2) := H
 have A2 := pA A20
 clear A20
 by_cases c3 : t460 = 0
 ·rw [if_pos c3] at H
  have c3b0 : (t460 == 0) = true := beq_iff_eq.mpr c3
  have c3b1 : (t460 != 0) = false := bne_eq_false_iff_eq.mpr c3
  clear c3
  replace H := Option.bind_eq_some_iff.mp H
  obtain ⟨t461, A40, H⟩ := H
  replace H : (some (t461, 0)) = some (r1, r2) := H
  have A4 := pA A40
  clear A40
  simp only [Option.some.injEq, Prod.mk.injEq] at H
  obtain ⟨rfl, rfl⟩ := H
  go_enter Try.func38, Try.ntmps38
  go_wp2_with (first | ((with_reducible refine gate_dst (N := 1) rfl ?_); refine box_event ?hg (N := 1) ?hd (cs := #[.int .i64 a0_0, .int .i64 a0_1, .slice A0_2 l0_2.length c0_2]) (t := 43) ?hr ?_; (case hd => rfl); (case hg => rfl); (case hr => first | (go_simp; done) | (go_simp; rfl)); intro gb459 hg w5 hbox hb; have n0_ := pA (below_step (vB HB) hb); have n1_ := pA (hbox); have n2_ := pA ((by rw [hg]; exact (below_size (vB HB)) : w.heap.size ≤ gb459)); have n3_ := pA ((by rw [hg]; exact (below_size (vB HB)) : w.heap.size ≤ gb459)); clear HB; have HB := n0_; have BK459 := n1_; have GW459 := n2_; have GE459 := n3_; clear n0_ n1_ n2_ n3_; clear hb hbox hg; have hcz6_0 : w5.cell? ⟨gb459, 0, none⟩ = some (.int .i64 a0_0) := (blk_cell BK459.out 0).trans rfl; have hcz6_1 : w5.cell? ⟨gb459, 1, none⟩ = some (.int .i64 a0_1) := (blk_cell BK459.out 1).trans rfl; have hcz6_2 : w5.cell? ⟨gb459, 2, none⟩ = some (.slice A0_2 l0_2.length c0_2) := (blk_cell BK459.out 2).trans rfl; have hfz6_0 := blk_frozen BK459.out 0; have hfz6_1 := blk_frozen BK459.out 1; have hfz6_2 := blk_frozen BK459.out 2) | ((with_reducible refine aF (f := 48) rfl ?_); refine goesL_ (some 5) rfl rfl Try.func48 (by kernel_rfl) rfl #[.agg #[.int .i64 a0_0, .int .i64 a0_1, .slice A0_2 l0_2.length c0_2]] rfl (by (try simp only [List.map_toArray, List.map_cons, List.map_nil]); first | done | rfl | (simp only [List.length_drop, List.length_take]; rfl)) ?_; (with_reducible refine (potbankref03_Check.calls k a0_0 a0_1 _ _ l0_2 t460 _ ?side1 ?side2 A2.out).mono ?_); (case side1 => repeat (first | exact (Kd.C_below HR0_2.out HB.out) | (with_reducible refine Kd.C_alloc ?_ _) | (with_reducible refine Kd.C_drewN ?_ _) | (with_reducible refine Kd.C_drew ?_))); (case side2 => exact HC0_2.out); rintro e w7 ⟨rfl, hb⟩; refine ⟨_, rfl, ?_⟩; have n0_ := pA (blk_below (g := gb459) (o := .cells #[.int .i64 a0_0, .int .i64 a0_1, .slice A0_2 l0_2.length c0_2] 43 (0, 0)) (vK BK459) hb); have n1_ := pA (below_step (by repeat (first | (with_reducible first | exact HB.out | apply below_alloc | apply pw_below_drewN | apply below_drew1 | refine below_set ?_ GE459.out) | exact HB.out)) hb); clear BK459; clear HB; have BK459 := n0_; have HB := n1_; clear n0_ n1_; (try clear hb); (try clear hb2); (try clear hk); (try clear hi); have hcz8_0 : w7.cell? ⟨gb459, 0, none⟩ = some (.int .i64 a0_0) := (blk_cell BK459.out 0).trans rfl; have hcz8_1 : w7.cell? ⟨gb459, 1, none⟩ = some (.int .i64 a0_1) := (blk_cell BK459.out 1).trans rfl; have hcz8_2 : w7.cell? ⟨gb459, 2, none⟩ = some (.slice A0_2 l0_2.length c0_2) := (blk_cell BK459.out 2).trans rfl; have hfz8_0 := blk_frozen BK459.out 0; have hfz8_1 := blk_frozen BK459.out 1; have hfz8_2 := blk_frozen BK459.out 2) | ((with_reducible refine aF (f := 93) rfl ?_); refine goesL_ (some 8) rfl rfl Try.func93 (by kernel_rfl) rfl #[.agg #[.int .i64 a0_0, .int .i64 a0_1, .slice A0_2 l0_2.length c0_2]] rfl (by (try simp only [List.map_toArray, List.map_cons, List.map_nil]); first | done | rfl | (simp only [List.length_drop, List.length_take]; rfl)) ?_; (with_reducible refine (potbankref03_lean.calls a0_0 a0_1 _ _ l0_2 t461 _ ?side1 ?side2 A4.out).mono ?_); (case side1 => repeat (first | exact (Kd.C_below HR0_2.out HB.out) | (with_reducible refine Kd.C_alloc ?_ _) | (with_reducible refine Kd.C_drewN ?_ _) | (with_reducible refine Kd.C_drew ?_))); (case side2 => exact HC0_2.out); rintro e w9 ⟨rfl, hb⟩; refine ⟨_, rfl, ?_⟩; have n0_ := pA (blk_below (g := gb459) (o := .cells #[.int .i64 a0_0, .int .i64 a0_1, .slice A0_2 l0_2.length c0_2] 43 (0, 0)) (vK BK459) hb); have n1_ := pA (below_step (by repeat (first | (with_reducible first | exact HB.out | apply below_alloc | apply pw_below_drewN | apply below_drew1 | refine below_set ?_ GE459.out) | exact HB.out)) hb); clear BK459; clear HB; have BK459 := n0_; have HB := n1_; clear n0_ n1_; (try clear hb); (try clear hb2); (try clear hk); (try clear hi)))
  go_ret2
  exact ⟨by first | rfl | (simp [errW_none, errW_some] <;> rfl) | (simp [*, errW_none, errW_some] <;> rfl), by repeat (first | (with_reducible first | exact HB.out | apply below_alloc | apply pw_below_drewN | apply below_drew1 | refine below_set ?_ GE459.out) | exact HB.out)⟩
 ·rw [if_neg c3] at H
  have c3b0 : (t460 == 0) = false := beq_eq_false_iff_ne.mpr c3
  have c3b1 : (t460 != 0) = true := bne_iff_ne.mpr c3
  simp only [Option.some.injEq, Prod.mk.injEq] at H
  obtain ⟨rfl, rfl⟩ := H
  go_enter Try.func38, Try.ntmps38
  go_wp2_with (first | ((with_reducible refine gate_dst (N := 1) rfl ?_); refine box_event ?hg (N := 1) ?hd (cs := #[.int .i64 a0_0, .int .i64 a0_1, .slice A0_2 l0_2.length c0_2]) (t := 43) ?hr ?_; (case hd => rfl); (case hg => rfl); (case hr => first | (go_simp; done) | (go_simp; rfl)); intro gb459 hg w10 hbox hb; have n0_ := pA (below_step (vB HB) hb); have n1_ := pA (hbox); have n2_ := pA ((by rw [hg]; exact (below_size (vB HB)) : w.heap.size ≤ gb459)); have n3_ := pA ((by rw [hg]; exact (below_size (vB HB)) : w.heap.size ≤ gb459)); clear HB; have HB := n0_; have BK459 := n1_; have GW459 := n2_; have GE459 := n3_; clear n0_ n1_ n2_ n3_; clear hb hbox hg; have hcz11_0 : w10.cell? ⟨gb459, 0, none⟩ = some (.int .i64 a0_0) := (blk_cell BK459.out 0).trans rfl; have hcz11_1 : w10.cell? ⟨gb459, 1, none⟩ = some (.int .i64 a0_1) := (blk_cell BK459.out 1).trans rfl; have hcz11_2 : w10.cell? ⟨gb459, 2, none⟩ = some (.slice A0_2 l0_2.length c0_2) := (blk_cell BK459.out 2).trans rfl; have hfz11_0 := blk_frozen BK459.out 0; have hfz11_1 := blk_frozen BK459.out 1; have hfz11_2 := blk_frozen BK459.out 2) | ((with_reducible refine aF (f := 48) rfl ?_); refine goesL_ (some 5) rfl rfl Try.func48 (by kernel_rfl) rfl #[.agg #[.int .i64 a0_0, .int .i64 a0_1, .slice A0_2 l0_2.length c0_2]] rfl (by (try simp only [List.map_toArray, List.map_cons, List.map_nil]); first | done | rfl | (simp only [List.length_drop, List.length_take]; rfl)) ?_; (with_reducible refine (potbankref03_Check.calls k a0_0 a0_1 _ _ l0_2 t460 _ ?side1 ?side2 A2.out).mono ?_); (case side1 => repeat (first | exact (Kd.C_below HR0_2.out HB.out) | (with_reducible refine Kd.C_alloc ?_ _) | (with_reducible refine Kd.C_drewN ?_ _) | (with_reducible refine Kd.C_drew ?_))); (case side2 => exact HC0_2.out); rintro e w12 ⟨rfl, hb⟩; refine ⟨_, rfl, ?_⟩; have n0_ := pA (blk_below (g := gb459) (o := .cells #[.int .i64 a0_0, .int .i64 a0_1, .slice A0_2 l0_2.length c0_2] 43 (0, 0)) (vK BK459) hb); have n1_ := pA (below_step (by repeat (first | (with_reducible first | exact HB.out | apply below_alloc | apply pw_below_drewN | apply below_drew1 | refine below_set ?_ GE459.out) | exact HB.out)) hb); clear BK459; clear HB; have BK459 := n0_; have HB := n1_; clear n0_ n1_; (try clear hb); (try clear hb2); (try clear hk); (try clear hi)))
  go_ret2
  exact ⟨by first | rfl | (simp [errW_none, errW_some] <;> rfl) | (simp [*, errW_none, errW_some] <;> rfl), by repeat (first | (with_reducible first | exact HB.out | apply below_alloc | apply pw_below_drewN | apply below_drew1 | refine below_set ?_ GE459.out) | exact HB.out)⟩
def bung_Height.f (k : Nat) (a0_0 : Int) (a0_1 : Int) (l0_2 : List (S52)) : Option (Int × Int × Int) := (bung_isBung.f a0_0 a0_1 l0_2).bind fun t407 => (if t407 = true then ((bung_height.f k a0_0 a0_1 l0_2).bind fun bt408 => (some (bt408.1, bt408.2, 0))) else (some (0, 0, 31)))
theorem bung_Height.mono : ∀ a0 a1 a2 k, LeO (bung_Height.f k a0 a1 a2) (bung_Height.f (k + 1) a0 a1 a2) := by
 intro a0 a1 a2 k
 unfold bung_Height.f
 repeat' first
   | (with_reducible exact bung_height.mono _ _ _ _)
   | (with_reducible exact LeO.refl _)
   | (with_reducible exact LeO.none _)
   | (with_reducible refine LeO.ite ?_ ?_)
   | (with_reducible refine LeO.bind ?_ (fun _ => ?_))
   | exact bung_height.mono _ _ _ _
   | exact LeO.none _
   | refine LeO.ite ?_ ?_
   | refine LeO.bind ?_ (fun _ => ?_)
set_option maxHeartbeats 8000000 in
set_option maxRecDepth 100000 in
theorem bung_Height.calls (k : Nat) (a0_0 : Int) (a0_1 : Int) (A0_2 : Option Addr) (c0_2 : Nat) (l0_2 : List (S52)) (r1 : Int) (r2 : Int) (r3 : Int) (w : World) (hr0_2 : Kd.C k52 w A0_2 l0_2.length l0_2) (hc0_2 : l0_2.length ≤ c0_2) (h : bung_Height.f k a0_0 a0_1 l0_2 = some (r1, r2, r3)) :
  Calls Try.prog 25 #[.agg #[.int .i64 a0_0, .int .i64 a0_1, .slice A0_2 l0_2.length c0_2]] w fun e w' => e = .returned (.tuple #[.agg #[.int .i64 r1, .int .i64 r2], .int .i64 r3]) ∧ Below w.heap.size w w' := by
 have hu43 := Try.underlying43
 have hu23 := Try.underlying23
 have HR0_2 := pA hr0_2
 have HC0_2 := pA hc0_2
 clear hr0_2 hc0_2
 have HB := pA (Below.refl w.heap.size w)
 have H : ((bung_isBung.f a0_0 a0_1 l0_2).bind fun t407 => (if t407 = true then ((bung_height.f k a0_0 a0_1 l0_2).bind fun bt408 => (some (bt408.1, bt408.2, 0))) else (some (0, 0, 31)))) = some (r1, r2, r3) := h
 clear h
 replace H := Option.bind_eq_some_iff.mp H
 obtain ⟨t407, A20, H⟩ := H
 replace H : (if t407 = true then ((bung_height.f k a0_0 a0_1 l0_2).bind fun bt408 => (some (bt408.1, bt408.2, 0))) else (some (0, 0, 31))) = some (r1, r2, r3) := H
 have A2 := pA A20
 clear A20
 by_cases c3 : t407 = true
 ·subst c3
  have H1 : ((bung_height.f k a0_0 a0_1 l0_2).bind fun bt408 => (some (bt408.1, bt408.2, 0))) = some (r1, r2, r3) := by rw [if_pos rfl] at H; exact H
  clear H
  have H := H1
  clear H1
  replace H := Option.bind_eq_some_iff.mp H
  obtain ⟨⟨t408, t409⟩, A40, H⟩ := H
  replace H : (some (t408, t409, 0)) = some (r1, r2, r3) := H
  have A4 := pA A40
  clear A40
  simp only [Option.some.injEq, Prod.mk.injEq] at H
  obtain ⟨rfl, rfl, rfl⟩ := H
  go_enter Try.func25, Try.ntmps25
  go_wp2_with (first | ((with_reducible refine gate_dst (N := 1) rfl ?_); refine box_event ?hg (N := 1) ?hd (cs := #[.int .i64 a0_0, .int .i64 a0_1, .slice A0_2 l0_2.length c0_2]) (t := 43) ?hr ?_; (case hd => rfl); (case hg => rfl); (case hr => first | (go_simp; done) | (go_simp; rfl)); intro gb405 hg w5 hbox hb; have n0_ := pA (below_step (vB HB) hb); have n1_ := pA (hbox); have n2_ := pA ((by rw [hg]; exact (below_size (vB HB)) : w.heap.size ≤ gb405)); have n3_ := pA ((by rw [hg]; exact (below_size (vB HB)) : w.heap.size ≤ gb405)); clear HB; have HB := n0_; have BK405 := n1_; have GW405 := n2_; have GE405 := n3_; clear n0_ n1_ n2_ n3_; clear hb hbox hg) | ((with_reducible refine gate_dst (N := 2) rfl ?_); refine box_event ?hg (N := 2) ?hd (cs := #[.int .i64 0, .int .i64 0]) (t := 23) ?hr ?_; (case hd => rfl); (case hg => rfl); (case hr => first | (go_simp; done) | (go_simp; rfl)); intro gb406 hg w6 hbox hb; have n0_ := pA (blk_below (g := gb405) (o := .cells #[.int .i64 a0_0, .int .i64 a0_1, .slice A0_2 l0_2.length c0_2] 43 (0, 0)) (vK BK405) hb); have n1_ := pA (below_step (by repeat (first | (with_reducible first | exact HB.out | apply below_alloc | apply pw_below_drewN | apply below_drew1 | refine below_set ?_ GE405.out) | exact HB.out)) hb); have n2_ := pA (hbox); have n3_ := pA ((by rw [hg]; exact (below_size (by repeat (first | (with_reducible first | exact HB.out | apply below_alloc | apply pw_below_drewN | apply below_drew1 | refine below_set ?_ GE405.out) | exact HB.out))) : w.heap.size ≤ gb406)); have n4_ := pA ((by rw [hg]; exact (below_size (by repeat (first | (with_reducible first | exact HB.out | apply below_alloc | apply pw_below_drewN | apply below_drew1 | refine below_set ?_ GE405.out) | exact HB.out))) : w.heap.size ≤ gb406)); have n5_ := pA ((by rw [hg]; exact Nat.ne_of_lt (blk_lt (g := gb405) (o := .cells #[.int .i64 a0_0, .int .i64 a0_1, .slice A0_2 l0_2.length c0_2] 43 (0, 0)) (vK BK405)) : gb405 ≠ gb406)); have n6_ := pA ((by rw [hg]; exact Nat.ne_of_gt (blk_lt (g := gb405) (o := .cells #[.int .i64 a0_0, .int .i64 a0_1, .slice A0_2 l0_2.length c0_2] 43 (0, 0)) (vK BK405)) : gb406 ≠ gb405)); clear BK405; clear HB; have BK405 := n0_; have HB := n1_; have BK406 := n2_; have GW406 := n3_; have GE406 := n4_; have NB405_406 := n5_; have NB406_405 := n6_; clear n0_ n1_ n2_ n3_ n4_ n5_ n6_; clear hb hbox hg; have hnb7 := NB405_406.out; have hnc7 := NB406_405.out; have hcz8_0 : w6.cell? ⟨gb405, 0, none⟩ = some (.int .i64 a0_0) := (blk_cell BK405.out 0).trans rfl; have hcz8_1 : w6.cell? ⟨gb405, 1, none⟩ = some (.int .i64 a0_1) := (blk_cell BK405.out 1).trans rfl; have hcz8_2 : w6.cell? ⟨gb405, 2, none⟩ = some (.slice A0_2 l0_2.length c0_2) := (blk_cell BK405.out 2).trans rfl; have hfz8_0 := blk_frozen BK405.out 0; have hfz8_1 := blk_frozen BK405.out 1; have hfz8_2 := blk_frozen BK405.out 2) | ((with_reducible refine aF (f := 80) rfl ?_); refine goesL_ (some 5) rfl rfl Try.func80 (by kernel_rfl) rfl #[.agg #[.int .i64 a0_0, .int .i64 a0_1, .slice A0_2 l0_2.length c0_2]] rfl (by (try simp only [List.map_toArray, List.map_cons, List.map_nil]); first | done | rfl | (simp only [List.length_drop, List.length_take]; rfl)) ?_; (with_reducible refine (bung_isBung.calls a0_0 a0_1 _ _ l0_2 true _ ?side1 ?side2 A2.out).mono ?_); (case side1 => repeat (first | exact (Kd.C_below HR0_2.out HB.out) | (with_reducible refine Kd.C_alloc ?_ _) | (with_reducible refine Kd.C_drewN ?_ _) | (with_reducible refine Kd.C_drew ?_))); (case side2 => exact HC0_2.out); rintro e w9 ⟨rfl, hb⟩; refine ⟨_, rfl, ?_⟩; have n0_ := pA (blk_below (g := gb405) (o := .cells #[.int .i64 a0_0, .int .i64 a0_1, .slice A0_2 l0_2.length c0_2] 43 (0, 0)) (vK BK405) hb); have n1_ := pA (blk_below (g := gb406) (o := .cells #[.int .i64 0, .int .i64 0] 23 (0, 0)) (vK BK406) hb); have n2_ := pA (below_step (by repeat (first | (with_reducible first | exact HB.out | apply below_alloc | apply pw_below_drewN | apply below_drew1 | refine below_set ?_ GE405.out | refine below_set ?_ GE406.out) | exact HB.out)) hb); clear BK405; clear BK406; clear HB; have BK405 := n0_; have BK406 := n1_; have HB := n2_; clear n0_ n1_ n2_; (try clear hb); (try clear hb2); (try clear hk); (try clear hi); have hcz10_0 : w9.cell? ⟨gb405, 0, none⟩ = some (.int .i64 a0_0) := (blk_cell BK405.out 0).trans rfl; have hcz10_1 : w9.cell? ⟨gb405, 1, none⟩ = some (.int .i64 a0_1) := (blk_cell BK405.out 1).trans rfl; have hcz10_2 : w9.cell? ⟨gb405, 2, none⟩ = some (.slice A0_2 l0_2.length c0_2) := (blk_cell BK405.out 2).trans rfl; have hfz10_0 := blk_frozen BK405.out 0; have hfz10_1 := blk_frozen BK405.out 1; have hfz10_2 := blk_frozen BK405.out 2) | ((with_reducible refine aF (f := 83) rfl ?_); refine goesL_ (some 9) rfl rfl Try.func83 (by kernel_rfl) rfl #[.agg #[.int .i64 a0_0, .int .i64 a0_1, .slice A0_2 l0_2.length c0_2]] rfl (by (try simp only [List.map_toArray, List.map_cons, List.map_nil]); first | done | rfl | (simp only [List.length_drop, List.length_take]; rfl)) ?_; (with_reducible refine (bung_height.calls k a0_0 a0_1 _ _ l0_2 t408 t409 _ ?side1 ?side2 A4.out).mono ?_); (case side1 => repeat (first | exact (Kd.C_below HR0_2.out HB.out) | (with_reducible refine Kd.C_alloc ?_ _) | (with_reducible refine Kd.C_drewN ?_ _) | (with_reducible refine Kd.C_drew ?_))); (case side2 => exact HC0_2.out); rintro e w11 ⟨rfl, hb⟩; refine ⟨_, rfl, ?_⟩; have n0_ := pA (blk_below (g := gb405) (o := .cells #[.int .i64 a0_0, .int .i64 a0_1, .slice A0_2 l0_2.length c0_2] 43 (0, 0)) (vK BK405) hb); have n1_ := pA (blk_below (g := gb406) (o := .cells #[.int .i64 0, .int .i64 0] 23 (0, 0)) (vK BK406) hb); have n2_ := pA (below_step (by repeat (first | (with_reducible first | exact HB.out | apply below_alloc | apply pw_below_drewN | apply below_drew1 | refine below_set ?_ GE405.out | refine below_set ?_ GE406.out) | exact HB.out)) hb); clear BK405; clear BK406; clear HB; have BK405 := n0_; have BK406 := n1_; have HB := n2_; clear n0_ n1_ n2_; (try clear hb); (try clear hb2); (try clear hk); (try clear hi); have hcz12_0 : w11.cell? ⟨gb406, 0, none⟩ = some (.int .i64 0) := (blk_cell BK406.out 0).trans rfl; have hcz12_1 : w11.cell? ⟨gb406, 1, none⟩ = some (.int .i64 0) := (blk_cell BK406.out 1).trans rfl; have hfz12_0 := blk_frozen BK406.out 0; have hfz12_1 := blk_frozen BK406.out 1))
  refine bodyPost_ret (results_ct rfl _ _ gb406 23 #[.int .i64 t408, .int .i64 t409] (0, 0) _ rfl (by (with_reducible repeat (first | refine blk_drewN ?_ _ | refine blk_drew ?_ | refine blk_alloc ?_ _)); refine blk_put (cs := #[.int .i64 t408, .int .i64 0]) ?_ 1 _ rfl; (with_reducible repeat (first | refine blk_drewN ?_ _ | refine blk_drew ?_ | refine blk_alloc ?_ _)); refine blk_put (cs := #[.int .i64 0, .int .i64 0]) ?_ 0 _ rfl; (with_reducible repeat (first | refine blk_drewN ?_ _ | refine blk_drew ?_ | refine blk_alloc ?_ _)); exact BK406.out) Try.underlying23 rfl (by kernel_rfl)) rfl ?_
  exact ⟨by first | rfl | (simp [errW_none, errW_some] <;> rfl) | (simp [*, errW_none, errW_some] <;> rfl), by repeat (first | (with_reducible first | exact HB.out | apply below_alloc | apply pw_below_drewN | apply below_drew1 | refine below_set ?_ GE405.out | refine below_set ?_ GE406.out) | exact HB.out)⟩
 ·replace c3 := Bool.eq_false_iff.mpr c3
  subst c3
  have H1 : (some (0, 0, 31)) = some (r1, r2, r3) := by rw [if_neg (show ¬ (false = true) by decide)] at H; exact H
  clear H
  have H := H1
  clear H1
  simp only [Option.some.injEq, Prod.mk.injEq] at H
  obtain ⟨rfl, rfl, rfl⟩ := H
  go_enter Try.func25, Try.ntmps25
  go_wp2_with (first | ((with_reducible refine gate_dst (N := 1) rfl ?_); refine box_event ?hg (N := 1) ?hd (cs := #[.int .i64 a0_0, .int .i64 a0_1, .slice A0_2 l0_2.length c0_2]) (t := 43) ?hr ?_; (case hd => rfl); (case hg => rfl); (case hr => first | (go_simp; done) | (go_simp; rfl)); intro gb405 hg w13 hbox hb; have n0_ := pA (below_step (vB HB) hb); have n1_ := pA (hbox); have n2_ := pA ((by rw [hg]; exact (below_size (vB HB)) : w.heap.size ≤ gb405)); have n3_ := pA ((by rw [hg]; exact (below_size (vB HB)) : w.heap.size ≤ gb405)); clear HB; have HB := n0_; have BK405 := n1_; have GW405 := n2_; have GE405 := n3_; clear n0_ n1_ n2_ n3_; clear hb hbox hg) | ((with_reducible refine gate_dst (N := 2) rfl ?_); refine box_event ?hg (N := 2) ?hd (cs := #[.int .i64 0, .int .i64 0]) (t := 23) ?hr ?_; (case hd => rfl); (case hg => rfl); (case hr => first | (go_simp; done) | (go_simp; rfl)); intro gb406 hg w14 hbox hb; have n0_ := pA (blk_below (g := gb405) (o := .cells #[.int .i64 a0_0, .int .i64 a0_1, .slice A0_2 l0_2.length c0_2] 43 (0, 0)) (vK BK405) hb); have n1_ := pA (below_step (by repeat (first | (with_reducible first | exact HB.out | apply below_alloc | apply pw_below_drewN | apply below_drew1 | refine below_set ?_ GE405.out) | exact HB.out)) hb); have n2_ := pA (hbox); have n3_ := pA ((by rw [hg]; exact (below_size (by repeat (first | (with_reducible first | exact HB.out | apply below_alloc | apply pw_below_drewN | apply below_drew1 | refine below_set ?_ GE405.out) | exact HB.out))) : w.heap.size ≤ gb406)); have n4_ := pA ((by rw [hg]; exact (below_size (by repeat (first | (with_reducible first | exact HB.out | apply below_alloc | apply pw_below_drewN | apply below_drew1 | refine below_set ?_ GE405.out) | exact HB.out))) : w.heap.size ≤ gb406)); have n5_ := pA ((by rw [hg]; exact Nat.ne_of_lt (blk_lt (g := gb405) (o := .cells #[.int .i64 a0_0, .int .i64 a0_1, .slice A0_2 l0_2.length c0_2] 43 (0, 0)) (vK BK405)) : gb405 ≠ gb406)); have n6_ := pA ((by rw [hg]; exact Nat.ne_of_gt (blk_lt (g := gb405) (o := .cells #[.int .i64 a0_0, .int .i64 a0_1, .slice A0_2 l0_2.length c0_2] 43 (0, 0)) (vK BK405)) : gb406 ≠ gb405)); clear BK405; clear HB; have BK405 := n0_; have HB := n1_; have BK406 := n2_; have GW406 := n3_; have GE406 := n4_; have NB405_406 := n5_; have NB406_405 := n6_; clear n0_ n1_ n2_ n3_ n4_ n5_ n6_; clear hb hbox hg; have hnb15 := NB405_406.out; have hnc15 := NB406_405.out; have hcz16_0 : w14.cell? ⟨gb405, 0, none⟩ = some (.int .i64 a0_0) := (blk_cell BK405.out 0).trans rfl; have hcz16_1 : w14.cell? ⟨gb405, 1, none⟩ = some (.int .i64 a0_1) := (blk_cell BK405.out 1).trans rfl; have hcz16_2 : w14.cell? ⟨gb405, 2, none⟩ = some (.slice A0_2 l0_2.length c0_2) := (blk_cell BK405.out 2).trans rfl; have hfz16_0 := blk_frozen BK405.out 0; have hfz16_1 := blk_frozen BK405.out 1; have hfz16_2 := blk_frozen BK405.out 2) | ((with_reducible refine aF (f := 80) rfl ?_); refine goesL_ (some 5) rfl rfl Try.func80 (by kernel_rfl) rfl #[.agg #[.int .i64 a0_0, .int .i64 a0_1, .slice A0_2 l0_2.length c0_2]] rfl (by (try simp only [List.map_toArray, List.map_cons, List.map_nil]); first | done | rfl | (simp only [List.length_drop, List.length_take]; rfl)) ?_; (with_reducible refine (bung_isBung.calls a0_0 a0_1 _ _ l0_2 false _ ?side1 ?side2 A2.out).mono ?_); (case side1 => repeat (first | exact (Kd.C_below HR0_2.out HB.out) | (with_reducible refine Kd.C_alloc ?_ _) | (with_reducible refine Kd.C_drewN ?_ _) | (with_reducible refine Kd.C_drew ?_))); (case side2 => exact HC0_2.out); rintro e w17 ⟨rfl, hb⟩; refine ⟨_, rfl, ?_⟩; have n0_ := pA (blk_below (g := gb405) (o := .cells #[.int .i64 a0_0, .int .i64 a0_1, .slice A0_2 l0_2.length c0_2] 43 (0, 0)) (vK BK405) hb); have n1_ := pA (blk_below (g := gb406) (o := .cells #[.int .i64 0, .int .i64 0] 23 (0, 0)) (vK BK406) hb); have n2_ := pA (below_step (by repeat (first | (with_reducible first | exact HB.out | apply below_alloc | apply pw_below_drewN | apply below_drew1 | refine below_set ?_ GE405.out | refine below_set ?_ GE406.out) | exact HB.out)) hb); clear BK405; clear BK406; clear HB; have BK405 := n0_; have BK406 := n1_; have HB := n2_; clear n0_ n1_ n2_; (try clear hb); (try clear hb2); (try clear hk); (try clear hi); have hcz18_0 : w17.cell? ⟨gb406, 0, none⟩ = some (.int .i64 0) := (blk_cell BK406.out 0).trans rfl; have hcz18_1 : w17.cell? ⟨gb406, 1, none⟩ = some (.int .i64 0) := (blk_cell BK406.out 1).trans rfl; have hfz18_0 := blk_frozen BK406.out 0; have hfz18_1 := blk_frozen BK406.out 1))
  refine bodyPost_ret (results_ct rfl _ _ gb406 23 #[.int .i64 0, .int .i64 0] (0, 0) _ rfl (by (with_reducible repeat (first | refine blk_drewN ?_ _ | refine blk_drew ?_ | refine blk_alloc ?_ _)); refine blk_put (cs := #[.int .i64 0, .int .i64 0]) ?_ 1 _ rfl; (with_reducible repeat (first | refine blk_drewN ?_ _ | refine blk_drew ?_ | refine blk_alloc ?_ _)); refine blk_put (cs := #[.int .i64 0, .int .i64 0]) ?_ 0 _ rfl; (with_reducible repeat (first | refine blk_drewN ?_ _ | refine blk_drew ?_ | refine blk_alloc ?_ _)); exact BK406.out) Try.underlying23 rfl (by kernel_rfl)) rfl ?_
  exact ⟨by first | rfl | (simp [errW_none, errW_some] <;> rfl) | (simp [*, errW_none, errW_some] <;> rfl), by repeat (first | (with_reducible first | exact HB.out | apply below_alloc | apply pw_below_drewN | apply below_drew1 | refine below_set ?_ GE405.out | refine below_set ?_ GE406.out) | exact HB.out)⟩
theorem same_l0 (l : List Int) (hl : l.length ≤ 1000) : ∀ (d i k : Nat), l.length - i = d → i ≤ l.length → d < k → potbankref01_Same.l0 k l l (i : Int) = some true := by
 intro d
 induction d with
 | zero =>
  intro i k hd hi hk
  obtain ⟨k, rfl⟩ : ∃ m, k = m + 1 := ⟨k - 1, by omega⟩
  simp only [potbankref01_Same.l0]
  rw [if_neg (by omega)]
 | succ d ih =>
  intro i k hd hi hk
  obtain ⟨k, rfl⟩ : ∃ m, k = m + 1 := ⟨k - 1, by omega⟩
  simp only [potbankref01_Same.l0]
  rw [if_pos (by omega), if_pos (by omega), if_pos (by omega), if_pos trivial, wrap_next (by omega)]
  exact ih (i + 1) k (by omega) (by omega) (by omega)
theorem same_refl (l : List Int) (hl : l.length ≤ 1000) : potbankref01_Same.f 2000 l l = some true := by
 unfold potbankref01_Same.f
 rw [if_pos rfl]
 exact same_l0 l hl l.length 0 2000 (by omega) (by omega) (by omega)
theorem sameR_l0 (l : List S23) (hl : l.length ≤ 1000) : ∀ (d i k : Nat), l.length - i = d → i ≤ l.length → d < k → potbankref03_SameRanges.l0 k l l true (i : Int) = some true := by
 intro d
 induction d with
 | zero =>
  intro i k hd hi hk
  obtain ⟨k, rfl⟩ : ∃ m, k = m + 1 := ⟨k - 1, by omega⟩
  simp only [potbankref03_SameRanges.l0]
  rw [if_neg (by omega)]
 | succ d ih =>
  intro i k hd hi hk
  obtain ⟨k, rfl⟩ : ∃ m, k = m + 1 := ⟨k - 1, by omega⟩
  simp only [potbankref03_SameRanges.l0]
  rw [if_pos (by omega), if_pos trivial, if_pos (by omega), if_pos (by omega), wrap_next (by omega)]
  simp only [beq_self_eq_true, Bool.and_self]
  exact ih (i + 1) k (by omega) (by omega) (by omega)
theorem sameR_refl (l : List S23) (hl : l.length ≤ 1000) : potbankref03_SameRanges.f 2000 l l = some true := by
 unfold potbankref03_SameRanges.f
 rw [beq_self_eq_true]
 exact sameR_l0 l hl l.length 0 2000 (by omega) (by omega) (by omega)
theorem loads_take (l : List S52) (i : Nat) (h : i < l.length) : (loadsOf l).take (i + 1) = (loadsOf l).take i ++ [sumW (l.drop (i + 1))] := by
 have hl : i < (loadsOf l).length := by rw [loadsOf_length]; exact h
 have e := loadsOf_get l i h
 rw [List.getElem?_eq_getElem hl] at e
 rw [List.take_succ_eq_append_getElem hl, Option.some.inj e]
theorem refLoads_l0 (a b : Int) (l : List S52) (h : okSome l = true) : ∀ (d i k : Nat), l.length - i = d → i ≤ l.length → d < k → potbankref03_Loads.l0 k ((loadsOf l).take i) (i : Int) a b l = some (loadsOf l, 0) := by
 have hl := okSome_len h
 intro d
 induction d with
 | zero =>
  intro i k hd hi hk
  obtain ⟨k, rfl⟩ : ∃ m, k = m + 1 := ⟨k - 1, by omega⟩
  simp only [potbankref03_Loads.l0]
  rw [if_neg (by omega), List.take_of_length_le (by rw [loadsOf_length]; omega)]
 | succ d ih =>
  intro i k hd hi hk
  obtain ⟨k, rfl⟩ : ∃ m, k = m + 1 := ⟨k - 1, by omega⟩
  simp only [potbankref03_Loads.l0]
  rw [if_pos (by omega), load_some ⟨h, by omega, by omega⟩]
  simp only [Option.bind_some]
  rw [if_pos (by simp; omega), wrap_next (by omega), show ((i : Int)).toNat = i from rfl, ← loads_take l i (by omega)]
  exact ih (i + 1) k (by omega) (by omega) (by omega)
theorem refCourses_l0 (a b : Int) (l : List S52) (h : okSome l = true) : ∀ (d i k : Nat), l.length - i = d → i ≤ l.length → d < k → potbankref03_Courses.l0 k ((coursesOf l).take i) (i : Int) a b l = some (coursesOf l, 0) := by
 have hl := okSome_len h
 intro d
 induction d with
 | zero =>
  intro i k hd hi hk
  obtain ⟨k, rfl⟩ : ∃ m, k = m + 1 := ⟨k - 1, by omega⟩
  simp only [potbankref03_Courses.l0]
  rw [if_neg (by omega), List.take_of_length_le (by rw [coursesOf_length]; omega)]
 | succ d ih =>
  intro i k hd hi hk
  obtain ⟨k, rfl⟩ : ∃ m, k = m + 1 := ⟨k - 1, by omega⟩
  simp only [potbankref03_Courses.l0]
  rw [if_pos (by omega), answer_some h (by omega) (by omega)]
  simp only [Option.bind_some]
  have e := courses_next l (x := (i : Int)) (by omega) (by omega)
  rw [show ((i : Int) + 1).toNat = i + 1 from rfl, show ((i : Int)).toNat = i from rfl] at e
  rw [if_pos (by simp; omega), wrap_next (by omega), show ((i : Int)).toNat = i from rfl, ← e]
  exact ih (i + 1) k (by omega) (by omega) (by omega)
/-- What ours and the reference tell of a bung. -/
structure Told (a b : Int) (l : List S52) where
 xs : List S23
 ys : List Int
 st : Int
 hi : S23
 ln : Int
 e : Int
 hx : xs.length ≤ 1000
 hy : ys.length ≤ 1000
 o1 : bung_Loads.f a b l = some (xs, e)
 o2 : bung_Courses.f 2000 a b l = some (ys, e)
 o3 : bung_Stands.f 2000 a b l = some (st, e)
 o4 : bung_Height.f 2000 a b l = some (hi.f0, hi.f1, e)
 o5 : bung_Lean.f 2000 a b l = some (ln, e)
 r1 : potbankref03_Loads.f 2000 a b l = some (xs, e)
 r2 : potbankref03_Courses.f 2000 a b l = some (ys, e)
 r3 : potbankref03_Stands.f 2000 a b l = some (st, e)
 r4 : potbankref03_Height.f 2000 a b l = some (hi.f0, hi.f1, e)
 r5 : potbankref03_Lean.f 2000 a b l = some (ln, e)
theorem told (a b : Int) (l : List S52) : Nonempty (Told a b l) := by
 by_cases hb : vWad a b = true ∧ l ≠ [] ∧ okList l = true
 ·have hs := okSome_of hb.2.2
  have hl := okSome_len hs
  have hok := okBung_mk hb
  have hp : 0 < l.length := List.length_pos_iff.2 hb.2.1
  have hv := hb.1
  simp only [vWad, decide_eq_true_eq] at hv
  have e4 := height_eq ⟨a, b⟩ hb.1 l hs hp 2000 (by omega)
  have e5 := lean_eq a b (by omega) (by omega) l hs hp 2000 (by omega)
  have e1 := refLoads_l0 a b l hs l.length 0 2000 (by omega) (by omega) (by omega)
  have e2 := refCourses_l0 a b l hs l.length 0 2000 (by omega) (by omega) (by omega)
  rw [List.take_zero] at e1 e2
  dsimp only at e4
  have hi : ∀ {α : Type} (x y : Option α), (if (true : Bool) = true then x else y) = x := fun x y => if_pos rfl
  have hz : ∀ {α : Type} (x y : Option α), (if (0 : Int) = 0 then x else y) = x := fun x y => if_pos rfl
  have hd : decide (vWad a b = true ∧ l ≠ [] ∧ okList l = true) = true := decide_eq_true hb
  refine ⟨⟨loadsOf l, coursesOf l, standsOf l, heightOf ⟨a, b⟩ l, leanOf b l, 0, by rw [loadsOf_length]; omega, by rw [coursesOf_length]; omega, ?_, ?_, ?_, ?_, ?_, ?_, ?_, ?_, ?_, ?_⟩⟩
  ·unfold bung_Loads.f bung_loads.f
   rw [isBung_eq, Option.bind_some, hd, hi, if_pos hs, Option.bind_some]
  ·unfold bung_Courses.f
   rw [isBung_eq, Option.bind_some, hd, hi, courses_eq l hs 2000 (by omega), Option.bind_some]
  ·unfold bung_Stands.f
   rw [isBung_eq, Option.bind_some, hd, hi, courses_eq l hs 2000 (by omega), Option.bind_some, all_eq _ (by rw [coursesOf_length]; omega) 2000 (by rw [coursesOf_length]; omega), Option.bind_some]
   rfl
  ·unfold bung_Height.f
   rw [isBung_eq, Option.bind_some, hd, hi, e4, Option.bind_some]
  ·unfold bung_Lean.f
   rw [isBung_eq, Option.bind_some, hd, hi, e5, Option.bind_some]
  ·unfold potbankref03_Loads.f
   rw [refCheck_eq a b l 2000 (by omega), if_pos hb, Option.bind_some, hz]
   exact e1
  ·unfold potbankref03_Courses.f
   rw [refCheck_eq a b l 2000 (by omega), if_pos hb, Option.bind_some, hz]
   exact e2
  ·unfold potbankref03_Stands.f potbankref03_stands.f
   rw [refCheck_eq a b l 2000 (by omega), if_pos hb, Option.bind_some, hz, if_pos hs, Option.bind_some]
  ·unfold potbankref03_Height.f potbankref03_height.f
   rw [refCheck_eq a b l 2000 (by omega), if_pos hb, Option.bind_some, hz, if_pos hok, Option.bind_some]
  ·unfold potbankref03_Lean.f potbankref03_lean.f
   rw [refCheck_eq a b l 2000 (by omega), if_pos hb, Option.bind_some, hz, if_pos hok, Option.bind_some]
 ·have hd : decide (vWad a b = true ∧ l ≠ [] ∧ okList l = true) = false := decide_eq_false hb
  have hi : ∀ {α : Type} (x y : Option α), (if (false : Bool) = true then x else y) = y := fun x y => if_neg (by decide)
  have hz : ∀ {α : Type} (x y : Option α), (if (31 : Int) = 0 then x else y) = y := fun x y => if_neg (by decide)
  refine ⟨⟨[], [], 0, ⟨0, 0⟩, 0, 31, by simp, by simp, ?_, ?_, ?_, ?_, ?_, ?_, ?_, ?_, ?_, ?_⟩⟩
  ·unfold bung_Loads.f
   rw [isBung_eq, Option.bind_some, hd, hi]
  ·unfold bung_Courses.f
   rw [isBung_eq, Option.bind_some, hd, hi]
  ·unfold bung_Stands.f
   rw [isBung_eq, Option.bind_some, hd, hi]
  ·unfold bung_Height.f
   rw [isBung_eq, Option.bind_some, hd, hi]
  ·unfold bung_Lean.f
   rw [isBung_eq, Option.bind_some, hd, hi]
  ·unfold potbankref03_Loads.f
   rw [refCheck_eq a b l 2000 (by omega), if_neg hb, Option.bind_some, hz]
  ·unfold potbankref03_Courses.f
   rw [refCheck_eq a b l 2000 (by omega), if_neg hb, Option.bind_some, hz]
  ·unfold potbankref03_Stands.f
   rw [refCheck_eq a b l 2000 (by omega), if_neg hb, Option.bind_some, hz]
  ·unfold potbankref03_Height.f
   rw [refCheck_eq a b l 2000 (by omega), if_neg hb, Option.bind_some, hz]
  ·unfold potbankref03_Lean.f
   rw [refCheck_eq a b l 2000 (by omega), if_neg hb, Option.bind_some, hz]
end Go.Proofs.Ytbiakjgjedhjhaa.P
