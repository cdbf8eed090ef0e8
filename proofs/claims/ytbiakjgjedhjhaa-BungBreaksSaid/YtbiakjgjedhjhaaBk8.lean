/- Proved: the law BungBreaks of the program potbank answers true for every input, and leaves its arguments as they were. Conditions: none. (Part 8 of the texts, put together by wip/assemble.py of this repository.) -/
import Derived.Test.YtbiakjgjedhjhaaBk7
set_option linter.unusedVariables false
set_option linter.unusedSimpArgs false
namespace Go.Proofs.Ytbiakjgjedhjhaa.P
open Go.RowKit Go.Proofs.YtbiakjgjedhjhaaW.PrintWords Go.Proofs.YtbiakjgjedhjhaaW.PrintLast
set_option maxHeartbeats 8000000 in
set_option maxRecDepth 100000 in
theorem potbankref03_Fits.calls (k : Nat) (a0_0 : Int) (a0_1 : Int) (A0_2 : Option Addr) (c0_2 : Nat) (l0_2 : List (S52)) (a1_0 : Int) (a1_1 : Int) (r1 : Int) (r2 : Int) (w : World) (hr0_2 : Kd.C k52 w A0_2 l0_2.length l0_2) (hc0_2 : l0_2.length ≤ c0_2) (h : potbankref03_Fits.f k a0_0 a0_1 l0_2 a1_0 a1_1 = some (r1, r2)) :
  Calls Try.prog 31 #[.agg #[.int .i64 a0_0, .int .i64 a0_1, .slice A0_2 l0_2.length c0_2], .agg #[.int .i64 a1_0, .int .i64 a1_1]] w fun e w' => e = .returned (.tuple #[.int .i64 r1, .int .i64 r2]) ∧ Below w.heap.size w w' := by
 have hu43 := Try.underlying43
 have hu26 := Try.underlying26
 have HR0_2 := pA hr0_2
 have HC0_2 := pA hc0_2
 clear hr0_2 hc0_2
 have HB := pA (Below.refl w.heap.size w)
 have H : ((potbankref03_Check.f k a0_0 a0_1 l0_2).bind fun t407 => (if t407 = 0 then ((potbankref03_CheckSpot.f a1_0 a1_1).bind fun t408 => (if t408 = 0 then ((potbankref03_fits.f k a0_0 a0_1 l0_2 a1_0 a1_1).bind fun t409 => (some (t409, 0))) else (some (0, 33)))) else (some (0, 31)))) = some (r1, r2) := h
 clear h
 replace H := Option.bind_eq_some_iff.mp H
 obtain ⟨t407, A30, H⟩ := H
 replace H : (if t407 = 0 then ((potbankref03_CheckSpot.f a1_0 a1_1).bind fun t408 => (if t408 = 0 then ((potbankref03_fits.f k a0_0 a0_1 l0_2 a1_0 a1_1).bind fun t409 => (some (t409, 0))) else (some (0, 33)))) else (some (0, 31))) = some (r1, r2) := H
 have A3 := pA A30
 clear A30
 by_cases c4 : t407 = 0
 ·rw [if_pos c4] at H
  have c4b0 : (t407 == 0) = true := beq_iff_eq.mpr c4
  have c4b1 : (t407 != 0) = false := bne_eq_false_iff_eq.mpr c4
  clear c4
  replace H := Option.bind_eq_some_iff.mp H
  obtain ⟨t408, A50, H⟩ := H
  replace H : (if t408 = 0 then ((potbankref03_fits.f k a0_0 a0_1 l0_2 a1_0 a1_1).bind fun t409 => (some (t409, 0))) else (some (0, 33))) = some (r1, r2) := H
  have A5 := pA A50
  clear A50
  by_cases c6 : t408 = 0
  ·rw [if_pos c6] at H
   have c6b0 : (t408 == 0) = true := beq_iff_eq.mpr c6
   have c6b1 : (t408 != 0) = false := bne_eq_false_iff_eq.mpr c6
   clear c6
   replace H := Option.bind_eq_some_iff.mp H
   obtain ⟨t409, A70, H⟩ := H
   replace H : (some (t409, 0)) = some (r1, r2) := H
   have A7 := pA A70
   clear A70
   simp only [Option.some.injEq, Prod.mk.injEq] at H
   obtain ⟨rfl, rfl⟩ := H
   go_enter Try.func31, Try.ntmps31
   go_wp2_with (first | ((with_reducible refine gate_dst (N := 2) rfl ?_); refine box_event ?hg (N := 2) ?hd (cs := #[.int .i64 a0_0, .int .i64 a0_1, .slice A0_2 l0_2.length c0_2]) (t := 43) ?hr ?_; (case hd => rfl); (case hg => rfl); (case hr => first | (go_simp; done) | (go_simp; rfl)); intro gb405 hg w8 hbox hb; have n0_ := pA (below_step (vB HB) hb); have n1_ := pA (hbox); have n2_ := pA ((by rw [hg]; exact (below_size (vB HB)) : w.heap.size ≤ gb405)); have n3_ := pA ((by rw [hg]; exact (below_size (vB HB)) : w.heap.size ≤ gb405)); clear HB; have HB := n0_; have BK405 := n1_; have GW405 := n2_; have GE405 := n3_; clear n0_ n1_ n2_ n3_; clear hb hbox hg) | ((with_reducible refine gate_dst (N := 3) rfl ?_); refine box_event ?hg (N := 3) ?hd (cs := #[.int .i64 a1_0, .int .i64 a1_1]) (t := 26) ?hr ?_; (case hd => rfl); (case hg => rfl); (case hr => first | (go_simp; done) | (go_simp; rfl)); intro gb406 hg w9 hbox hb; have n0_ := pA (blk_below (g := gb405) (o := .cells #[.int .i64 a0_0, .int .i64 a0_1, .slice A0_2 l0_2.length c0_2] 43 (0, 0)) (vK BK405) hb); have n1_ := pA (below_step (by repeat (first | (with_reducible first | exact HB.out | apply below_alloc | apply pw_below_drewN | apply below_drew1 | refine below_set ?_ GE405.out) | exact HB.out)) hb); have n2_ := pA (hbox); have n3_ := pA ((by rw [hg]; exact (below_size (by repeat (first | (with_reducible first | exact HB.out | apply below_alloc | apply pw_below_drewN | apply below_drew1 | refine below_set ?_ GE405.out) | exact HB.out))) : w.heap.size ≤ gb406)); have n4_ := pA ((by rw [hg]; exact (below_size (by repeat (first | (with_reducible first | exact HB.out | apply below_alloc | apply pw_below_drewN | apply below_drew1 | refine below_set ?_ GE405.out) | exact HB.out))) : w.heap.size ≤ gb406)); have n5_ := pA ((by rw [hg]; exact Nat.ne_of_lt (blk_lt (g := gb405) (o := .cells #[.int .i64 a0_0, .int .i64 a0_1, .slice A0_2 l0_2.length c0_2] 43 (0, 0)) (vK BK405)) : gb405 ≠ gb406)); have n6_ := pA ((by rw [hg]; exact Nat.ne_of_gt (blk_lt (g := gb405) (o := .cells #[.int .i64 a0_0, .int .i64 a0_1, .slice A0_2 l0_2.length c0_2] 43 (0, 0)) (vK BK405)) : gb406 ≠ gb405)); clear BK405; clear HB; have BK405 := n0_; have HB := n1_; have BK406 := n2_; have GW406 := n3_; have GE406 := n4_; have NB405_406 := n5_; have NB406_405 := n6_; clear n0_ n1_ n2_ n3_ n4_ n5_ n6_; clear hb hbox hg; have hnb10 := NB405_406.out; have hnc10 := NB406_405.out; have hcz11_0 : w9.cell? ⟨gb405, 0, none⟩ = some (.int .i64 a0_0) := (blk_cell BK405.out 0).trans rfl; have hcz11_1 : w9.cell? ⟨gb405, 1, none⟩ = some (.int .i64 a0_1) := (blk_cell BK405.out 1).trans rfl; have hcz11_2 : w9.cell? ⟨gb405, 2, none⟩ = some (.slice A0_2 l0_2.length c0_2) := (blk_cell BK405.out 2).trans rfl; have hfz11_0 := blk_frozen BK405.out 0; have hfz11_1 := blk_frozen BK405.out 1; have hfz11_2 := blk_frozen BK405.out 2) | ((with_reducible refine aF (f := 48) rfl ?_); refine goesL_ (some 7) rfl rfl Try.func48 (by kernel_rfl) rfl #[.agg #[.int .i64 a0_0, .int .i64 a0_1, .slice A0_2 l0_2.length c0_2]] rfl (by (try simp only [pE, pF, pG]); first | done | rfl | (simp only [pH, pI]; rfl)) ?_; (with_reducible refine (potbankref03_Check.calls k a0_0 a0_1 _ _ l0_2 t407 _ ?side1 ?side2 A3.out).mono ?_); (case side1 => repeat (first | exact (Kd.C_below HR0_2.out HB.out) | (with_reducible refine Kd.C_alloc ?_ _) | (with_reducible refine Kd.C_drewN ?_ _) | (with_reducible refine Kd.C_drew ?_))); (case side2 => exact HC0_2.out); rintro e w12 ⟨rfl, hb⟩; refine ⟨_, rfl, ?_⟩; have n0_ := pA (blk_below (g := gb405) (o := .cells #[.int .i64 a0_0, .int .i64 a0_1, .slice A0_2 l0_2.length c0_2] 43 (0, 0)) (vK BK405) hb); have n1_ := pA (blk_below (g := gb406) (o := .cells #[.int .i64 a1_0, .int .i64 a1_1] 26 (0, 0)) (vK BK406) hb); have n2_ := pA (below_step (by repeat (first | (with_reducible first | exact HB.out | apply below_alloc | apply pw_below_drewN | apply below_drew1 | refine below_set ?_ GE405.out | refine below_set ?_ GE406.out) | exact HB.out)) hb); clear BK405; clear BK406; clear HB; have BK405 := n0_; have BK406 := n1_; have HB := n2_; clear n0_ n1_ n2_; (try clear hb); (try clear hb2); (try clear hk); (try clear hi); have hcz13_0 : w12.cell? ⟨gb406, 0, none⟩ = some (.int .i64 a1_0) := (blk_cell BK406.out 0).trans rfl; have hcz13_1 : w12.cell? ⟨gb406, 1, none⟩ = some (.int .i64 a1_1) := (blk_cell BK406.out 1).trans rfl; have hfz13_0 := blk_frozen BK406.out 0; have hfz13_1 := blk_frozen BK406.out 1) | ((with_reducible refine aF (f := 52) rfl ?_); refine goesL_ (some 10) rfl rfl Try.func52 (by kernel_rfl) rfl #[.agg #[.int .i64 a1_0, .int .i64 a1_1]] rfl (by (try simp only [pE, pF, pG]); first | done | rfl | (simp only [pH, pI]; rfl)) ?_; (with_reducible refine (potbankref03_CheckSpot.calls a1_0 a1_1 t408 _ A5.out).mono ?_); rintro e w14 ⟨rfl, hb⟩; refine ⟨_, rfl, ?_⟩; have n0_ := pA (blk_below (g := gb405) (o := .cells #[.int .i64 a0_0, .int .i64 a0_1, .slice A0_2 l0_2.length c0_2] 43 (0, 0)) (vK BK405) hb); have n1_ := pA (blk_below (g := gb406) (o := .cells #[.int .i64 a1_0, .int .i64 a1_1] 26 (0, 0)) (vK BK406) hb); have n2_ := pA (below_step (by repeat (first | (with_reducible first | exact HB.out | apply below_alloc | apply pw_below_drewN | apply below_drew1 | refine below_set ?_ GE405.out | refine below_set ?_ GE406.out) | exact HB.out)) hb); clear BK405; clear BK406; clear HB; have BK405 := n0_; have BK406 := n1_; have HB := n2_; clear n0_ n1_ n2_; (try clear hb); (try clear hb2); (try clear hk); (try clear hi); have hcz15_0 : w14.cell? ⟨gb405, 0, none⟩ = some (.int .i64 a0_0) := (blk_cell BK405.out 0).trans rfl; have hcz15_1 : w14.cell? ⟨gb405, 1, none⟩ = some (.int .i64 a0_1) := (blk_cell BK405.out 1).trans rfl; have hcz15_2 : w14.cell? ⟨gb405, 2, none⟩ = some (.slice A0_2 l0_2.length c0_2) := (blk_cell BK405.out 2).trans rfl; have hfz15_0 := blk_frozen BK405.out 0; have hfz15_1 := blk_frozen BK405.out 1; have hfz15_2 := blk_frozen BK405.out 2; have hcz16_0 : w14.cell? ⟨gb406, 0, none⟩ = some (.int .i64 a1_0) := (blk_cell BK406.out 0).trans rfl; have hcz16_1 : w14.cell? ⟨gb406, 1, none⟩ = some (.int .i64 a1_1) := (blk_cell BK406.out 1).trans rfl; have hfz16_0 := blk_frozen BK406.out 0; have hfz16_1 := blk_frozen BK406.out 1) | ((with_reducible refine aF (f := 87) rfl ?_); refine goesL_ (some 14) rfl rfl Try.func87 (by kernel_rfl) rfl #[.agg #[.int .i64 a0_0, .int .i64 a0_1, .slice A0_2 l0_2.length c0_2], .agg #[.int .i64 a1_0, .int .i64 a1_1]] rfl (by (try simp only [pE, pF, pG]); first | done | rfl | (simp only [pH, pI]; rfl)) ?_; (with_reducible refine (potbankref03_fits.calls k a0_0 a0_1 _ _ l0_2 a1_0 a1_1 t409 _ ?side1 ?side2 A7.out).mono ?_); (case side1 => repeat (first | exact (Kd.C_below HR0_2.out HB.out) | (with_reducible refine Kd.C_alloc ?_ _) | (with_reducible refine Kd.C_drewN ?_ _) | (with_reducible refine Kd.C_drew ?_))); (case side2 => exact HC0_2.out); rintro e w17 ⟨rfl, hb⟩; refine ⟨_, rfl, ?_⟩; have n0_ := pA (blk_below (g := gb405) (o := .cells #[.int .i64 a0_0, .int .i64 a0_1, .slice A0_2 l0_2.length c0_2] 43 (0, 0)) (vK BK405) hb); have n1_ := pA (blk_below (g := gb406) (o := .cells #[.int .i64 a1_0, .int .i64 a1_1] 26 (0, 0)) (vK BK406) hb); have n2_ := pA (below_step (by repeat (first | (with_reducible first | exact HB.out | apply below_alloc | apply pw_below_drewN | apply below_drew1 | refine below_set ?_ GE405.out | refine below_set ?_ GE406.out) | exact HB.out)) hb); clear BK405; clear BK406; clear HB; have BK405 := n0_; have BK406 := n1_; have HB := n2_; clear n0_ n1_ n2_; (try clear hb); (try clear hb2); (try clear hk); (try clear hi)))
   go_ret2
   exact ⟨by first | rfl | (simp [errW_none, errW_some] <;> rfl) | (simp [*, errW_none, errW_some] <;> rfl), by repeat (first | (with_reducible first | exact HB.out | apply below_alloc | apply pw_below_drewN | apply below_drew1 | refine below_set ?_ GE405.out | refine below_set ?_ GE406.out) | exact HB.out)⟩
  ·rw [if_neg c6] at H
   have c6b0 : (t408 == 0) = false := beq_eq_false_iff_ne.mpr c6
   have c6b1 : (t408 != 0) = true := bne_iff_ne.mpr c6
   simp only [Option.some.injEq, Prod.mk.injEq] at H
   obtain ⟨rfl, rfl⟩ := H
   go_enter Try.func31, Try.ntmps31
   go_wp2_with (first | ((with_reducible refine gate_dst (N := 2) rfl ?_); refine box_event ?hg (N := 2) ?hd (cs := #[.int .i64 a0_0, .int .i64 a0_1, .slice A0_2 l0_2.length c0_2]) (t := 43) ?hr ?_; (case hd => rfl); (case hg => rfl); (case hr => first | (go_simp; done) | (go_simp; rfl)); intro gb405 hg w18 hbox hb; have n0_ := pA (below_step (vB HB) hb); have n1_ := pA (hbox); have n2_ := pA ((by rw [hg]; exact (below_size (vB HB)) : w.heap.size ≤ gb405)); have n3_ := pA ((by rw [hg]; exact (below_size (vB HB)) : w.heap.size ≤ gb405)); clear HB; have HB := n0_; have BK405 := n1_; have GW405 := n2_; have GE405 := n3_; clear n0_ n1_ n2_ n3_; clear hb hbox hg) | ((with_reducible refine gate_dst (N := 3) rfl ?_); refine box_event ?hg (N := 3) ?hd (cs := #[.int .i64 a1_0, .int .i64 a1_1]) (t := 26) ?hr ?_; (case hd => rfl); (case hg => rfl); (case hr => first | (go_simp; done) | (go_simp; rfl)); intro gb406 hg w19 hbox hb; have n0_ := pA (blk_below (g := gb405) (o := .cells #[.int .i64 a0_0, .int .i64 a0_1, .slice A0_2 l0_2.length c0_2] 43 (0, 0)) (vK BK405) hb); have n1_ := pA (below_step (by repeat (first | (with_reducible first | exact HB.out | apply below_alloc | apply pw_below_drewN | apply below_drew1 | refine below_set ?_ GE405.out) | exact HB.out)) hb); have n2_ := pA (hbox); have n3_ := pA ((by rw [hg]; exact (below_size (by repeat (first | (with_reducible first | exact HB.out | apply below_alloc | apply pw_below_drewN | apply below_drew1 | refine below_set ?_ GE405.out) | exact HB.out))) : w.heap.size ≤ gb406)); have n4_ := pA ((by rw [hg]; exact (below_size (by repeat (first | (with_reducible first | exact HB.out | apply below_alloc | apply pw_below_drewN | apply below_drew1 | refine below_set ?_ GE405.out) | exact HB.out))) : w.heap.size ≤ gb406)); have n5_ := pA ((by rw [hg]; exact Nat.ne_of_lt (blk_lt (g := gb405) (o := .cells #[.int .i64 a0_0, .int .i64 a0_1, .slice A0_2 l0_2.length c0_2] 43 (0, 0)) (vK BK405)) : gb405 ≠ gb406)); have n6_ := pA ((by rw [hg]; exact Nat.ne_of_gt (blk_lt (g := gb405) (o := .cells #[.int .i64 a0_0, .int .i64 a0_1, .slice A0_2 l0_2.length c0_2] 43 (0, 0)) (vK BK405)) : gb406 ≠ gb405)); clear BK405; clear HB; have BK405 := n0_; have HB := n1_; have BK406 := n2_; have GW406 := n3_; have GE406 := n4_; have NB405_406 := n5_; have NB406_405 := n6_; clear n0_ n1_ n2_ n3_ n4_ n5_ n6_; clear hb hbox hg; have hnb20 := NB405_406.out; have hnc20 := NB406_405.out; have hcz21_0 : w19.cell? ⟨gb405, 0, none⟩ = some (.int .i64 a0_0) := (blk_cell BK405.out 0).trans rfl; have hcz21_1 : w19.cell? ⟨gb405, 1, none⟩ = some (.int .i64 a0_1) := (blk_cell BK405.out 1).trans rfl; have hcz21_2 : w19.cell? ⟨gb405, 2, none⟩ = some (.slice A0_2 l0_2.length c0_2) := (blk_cell BK405.out 2).trans rfl; have hfz21_0 := blk_frozen BK405.out 0; have hfz21_1 := blk_frozen BK405.out 1; have hfz21_2 := blk_frozen BK405.out 2) | ((with_reducible refine aF (f := 48) rfl ?_); refine goesL_ (some 7) rfl rfl Try.func48 (by kernel_rfl) rfl #[.agg #[.int .i64 a0_0, .int .i64 a0_1, .slice A0_2 l0_2.length c0_2]] rfl (by (try simp only [pE, pF, pG]); first | done | rfl | (simp only [pH, pI]; rfl)) ?_; (with_reducible refine (potbankref03_Check.calls k a0_0 a0_1 _ _ l0_2 t407 _ ?side1 ?side2 A3.out).mono ?_); (case side1 => repeat (first | exact (Kd.C_below HR0_2.out HB.out) | (with_reducible refine Kd.C_alloc ?_ _) | (with_reducible refine Kd.C_drewN ?_ _) | (with_reducible refine Kd.C_drew ?_))); (case side2 => exact HC0_2.out); rintro e w22 ⟨rfl, hb⟩; refine ⟨_, rfl, ?_⟩; have n0_ := pA (blk_below (g := gb405) (o := .cells #[.int .i64 a0_0, .int .i64 a0_1, .slice A0_2 l0_2.length c0_2] 43 (0, 0)) (vK BK405) hb); have n1_ := pA (blk_below (g := gb406) (o := .cells #[.int .i64 a1_0, .int .i64 a1_1] 26 (0, 0)) (vK BK406) hb); have n2_ := pA (below_step (by repeat (first | (with_reducible first | exact HB.out | apply below_alloc | apply pw_below_drewN | apply below_drew1 | refine below_set ?_ GE405.out | refine below_set ?_ GE406.out) | exact HB.out)) hb); clear BK405; clear BK406; clear HB; have BK405 := n0_; have BK406 := n1_; have HB := n2_; clear n0_ n1_ n2_; (try clear hb); (try clear hb2); (try clear hk); (try clear hi); have hcz23_0 : w22.cell? ⟨gb406, 0, none⟩ = some (.int .i64 a1_0) := (blk_cell BK406.out 0).trans rfl; have hcz23_1 : w22.cell? ⟨gb406, 1, none⟩ = some (.int .i64 a1_1) := (blk_cell BK406.out 1).trans rfl; have hfz23_0 := blk_frozen BK406.out 0; have hfz23_1 := blk_frozen BK406.out 1) | ((with_reducible refine aF (f := 52) rfl ?_); refine goesL_ (some 10) rfl rfl Try.func52 (by kernel_rfl) rfl #[.agg #[.int .i64 a1_0, .int .i64 a1_1]] rfl (by (try simp only [pE, pF, pG]); first | done | rfl | (simp only [pH, pI]; rfl)) ?_; (with_reducible refine (potbankref03_CheckSpot.calls a1_0 a1_1 t408 _ A5.out).mono ?_); rintro e w24 ⟨rfl, hb⟩; refine ⟨_, rfl, ?_⟩; have n0_ := pA (blk_below (g := gb405) (o := .cells #[.int .i64 a0_0, .int .i64 a0_1, .slice A0_2 l0_2.length c0_2] 43 (0, 0)) (vK BK405) hb); have n1_ := pA (blk_below (g := gb406) (o := .cells #[.int .i64 a1_0, .int .i64 a1_1] 26 (0, 0)) (vK BK406) hb); have n2_ := pA (below_step (by repeat (first | (with_reducible first | exact HB.out | apply below_alloc | apply pw_below_drewN | apply below_drew1 | refine below_set ?_ GE405.out | refine below_set ?_ GE406.out) | exact HB.out)) hb); clear BK405; clear BK406; clear HB; have BK405 := n0_; have BK406 := n1_; have HB := n2_; clear n0_ n1_ n2_; (try clear hb); (try clear hb2); (try clear hk); (try clear hi)))
   go_ret2
   exact ⟨by first | rfl | (simp [errW_none, errW_some] <;> rfl) | (simp [*, errW_none, errW_some] <;> rfl), by repeat (first | (with_reducible first | exact HB.out | apply below_alloc | apply pw_below_drewN | apply below_drew1 | refine below_set ?_ GE405.out | refine below_set ?_ GE406.out) | exact HB.out)⟩
 ·rw [if_neg c4] at H
  have c4b0 : (t407 == 0) = false := beq_eq_false_iff_ne.mpr c4
  have c4b1 : (t407 != 0) = true := bne_iff_ne.mpr c4
  simp only [Option.some.injEq, Prod.mk.injEq] at H
  obtain ⟨rfl, rfl⟩ := H
  go_enter Try.func31, Try.ntmps31
  go_wp2_with (first | ((with_reducible refine gate_dst (N := 2) rfl ?_); refine box_event ?hg (N := 2) ?hd (cs := #[.int .i64 a0_0, .int .i64 a0_1, .slice A0_2 l0_2.length c0_2]) (t := 43) ?hr ?_; (case hd => rfl); (case hg => rfl); (case hr => first | (go_simp; done) | (go_simp; rfl)); intro gb405 hg w25 hbox hb; have n0_ := pA (below_step (vB HB) hb); have n1_ := pA (hbox); have n2_ := pA ((by rw [hg]; exact (below_size (vB HB)) : w.heap.size ≤ gb405)); have n3_ := pA ((by rw [hg]; exact (below_size (vB HB)) : w.heap.size ≤ gb405)); clear HB; have HB := n0_; have BK405 := n1_; have GW405 := n2_; have GE405 := n3_; clear n0_ n1_ n2_ n3_; clear hb hbox hg) | ((with_reducible refine gate_dst (N := 3) rfl ?_); refine box_event ?hg (N := 3) ?hd (cs := #[.int .i64 a1_0, .int .i64 a1_1]) (t := 26) ?hr ?_; (case hd => rfl); (case hg => rfl); (case hr => first | (go_simp; done) | (go_simp; rfl)); intro gb406 hg w26 hbox hb; have n0_ := pA (blk_below (g := gb405) (o := .cells #[.int .i64 a0_0, .int .i64 a0_1, .slice A0_2 l0_2.length c0_2] 43 (0, 0)) (vK BK405) hb); have n1_ := pA (below_step (by repeat (first | (with_reducible first | exact HB.out | apply below_alloc | apply pw_below_drewN | apply below_drew1 | refine below_set ?_ GE405.out) | exact HB.out)) hb); have n2_ := pA (hbox); have n3_ := pA ((by rw [hg]; exact (below_size (by repeat (first | (with_reducible first | exact HB.out | apply below_alloc | apply pw_below_drewN | apply below_drew1 | refine below_set ?_ GE405.out) | exact HB.out))) : w.heap.size ≤ gb406)); have n4_ := pA ((by rw [hg]; exact (below_size (by repeat (first | (with_reducible first | exact HB.out | apply below_alloc | apply pw_below_drewN | apply below_drew1 | refine below_set ?_ GE405.out) | exact HB.out))) : w.heap.size ≤ gb406)); have n5_ := pA ((by rw [hg]; exact Nat.ne_of_lt (blk_lt (g := gb405) (o := .cells #[.int .i64 a0_0, .int .i64 a0_1, .slice A0_2 l0_2.length c0_2] 43 (0, 0)) (vK BK405)) : gb405 ≠ gb406)); have n6_ := pA ((by rw [hg]; exact Nat.ne_of_gt (blk_lt (g := gb405) (o := .cells #[.int .i64 a0_0, .int .i64 a0_1, .slice A0_2 l0_2.length c0_2] 43 (0, 0)) (vK BK405)) : gb406 ≠ gb405)); clear BK405; clear HB; have BK405 := n0_; have HB := n1_; have BK406 := n2_; have GW406 := n3_; have GE406 := n4_; have NB405_406 := n5_; have NB406_405 := n6_; clear n0_ n1_ n2_ n3_ n4_ n5_ n6_; clear hb hbox hg; have hnb27 := NB405_406.out; have hnc27 := NB406_405.out; have hcz28_0 : w26.cell? ⟨gb405, 0, none⟩ = some (.int .i64 a0_0) := (blk_cell BK405.out 0).trans rfl; have hcz28_1 : w26.cell? ⟨gb405, 1, none⟩ = some (.int .i64 a0_1) := (blk_cell BK405.out 1).trans rfl; have hcz28_2 : w26.cell? ⟨gb405, 2, none⟩ = some (.slice A0_2 l0_2.length c0_2) := (blk_cell BK405.out 2).trans rfl; have hfz28_0 := blk_frozen BK405.out 0; have hfz28_1 := blk_frozen BK405.out 1; have hfz28_2 := blk_frozen BK405.out 2) | ((with_reducible refine aF (f := 48) rfl ?_); refine goesL_ (some 7) rfl rfl Try.func48 (by kernel_rfl) rfl #[.agg #[.int .i64 a0_0, .int .i64 a0_1, .slice A0_2 l0_2.length c0_2]] rfl (by (try simp only [pE, pF, pG]); first | done | rfl | (simp only [pH, pI]; rfl)) ?_; (with_reducible refine (potbankref03_Check.calls k a0_0 a0_1 _ _ l0_2 t407 _ ?side1 ?side2 A3.out).mono ?_); (case side1 => repeat (first | exact (Kd.C_below HR0_2.out HB.out) | (with_reducible refine Kd.C_alloc ?_ _) | (with_reducible refine Kd.C_drewN ?_ _) | (with_reducible refine Kd.C_drew ?_))); (case side2 => exact HC0_2.out); rintro e w29 ⟨rfl, hb⟩; refine ⟨_, rfl, ?_⟩; have n0_ := pA (blk_below (g := gb405) (o := .cells #[.int .i64 a0_0, .int .i64 a0_1, .slice A0_2 l0_2.length c0_2] 43 (0, 0)) (vK BK405) hb); have n1_ := pA (blk_below (g := gb406) (o := .cells #[.int .i64 a1_0, .int .i64 a1_1] 26 (0, 0)) (vK BK406) hb); have n2_ := pA (below_step (by repeat (first | (with_reducible first | exact HB.out | apply below_alloc | apply pw_below_drewN | apply below_drew1 | refine below_set ?_ GE405.out | refine below_set ?_ GE406.out) | exact HB.out)) hb); clear BK405; clear BK406; clear HB; have BK405 := n0_; have BK406 := n1_; have HB := n2_; clear n0_ n1_ n2_; (try clear hb); (try clear hb2); (try clear hk); (try clear hi)))
  go_ret2
  exact ⟨by first | rfl | (simp [errW_none, errW_some] <;> rfl) | (simp [*, errW_none, errW_some] <;> rfl), by repeat (first | (with_reducible first | exact HB.out | apply below_alloc | apply pw_below_drewN | apply below_drew1 | refine below_set ?_ GE405.out | refine below_set ?_ GE406.out) | exact HB.out)⟩
theorem isBung_eq (a b : Int) (l : List S52) : bung_isBung.f a b l = some (decide (vWad a b = true ∧ l ≠ [] ∧ okList l = true)) := by
 unfold bung_isBung.f bung_isList.f
 rw [isWad_eq]
 simp only [Option.bind_some]
 cases vWad a b with
 | false => simp
 | true =>
  rw [if_pos rfl]
  by_cases h0 : l = []
  ·subst h0; simp
  ·have : 0 < l.length := List.length_pos_iff.2 h0
   rw [if_pos (by omega)]
   cases okList l <;> simp [h0]
theorem same_l0 (l : List Int) (hl : l.length ≤ 1000) : ∀ (d i k : Nat), l.length - i = d → i ≤ l.length → d < k → potbankref01_Same.l0 k l l (i : Int) = some true := by
 intro d
 induction d with
 | zero =>
  intro i k hd hi hk
  obtain ⟨k, rfl⟩ : ∃ m, k = m + 1 := ⟨k - 1, by omega⟩
  simp only [potbankref01_Same.l0]
  rw [if_neg (by omega)]
 | succ d ih =>
  intro i k hd hi hk
  obtain ⟨k, rfl⟩ : ∃ m, k = m + 1 := ⟨k - 1, by omega⟩
  simp only [potbankref01_Same.l0]
  rw [if_pos (by omega), if_pos (by omega), if_pos (by omega), if_pos trivial, wrap_next (by omega)]
  exact ih (i + 1) k (by omega) (by omega) (by omega)
theorem same_refl (l : List Int) (hl : l.length ≤ 1000) : potbankref01_Same.f 2000 l l = some true := by
 unfold potbankref01_Same.f
 rw [if_pos rfl]
 exact same_l0 l hl l.length 0 2000 (by omega) (by omega) (by omega)
mutual
def potbankref03_Breaks.l0 : Nat → Int → Int → Int → List (S52) → Option (Int × Int × List Int × Int)
 | 0, _, _, _, _ => none
 | k + 1, x4, x545000, x545001, x545002 => if x4 < (x545002.length : Int) then ((potbankref03_answer.f x545002 x4).bind fun t547 => (if t547 = 1 then (potbankref03_Breaks.l0 k (wrap64 (x4 + 1)) x545000 x545001 x545002) else (if 0 ≤ x4 then (potbankref03_Breaks.l1 k (wrap64 (x4 + 1)) x545000 x545001 x545002 x4 ((rd_T52 x545002 x4).f2.f0) ([] : List Int)) else (none)))) else (some (0, 0, ([] : List Int), 34))
def potbankref03_Breaks.l1 : Nat → Int → Int → Int → List (S52) → Int → Int → List Int → Option (Int × Int × List Int × Int)
 | 0, _, _, _, _, _, _, _ => none
 | k + 1, x6, x545000, x545001, x545002, x550000, x550001, x550002 => if x6 < (x545002.length : Int) then (if 0 ≤ x6 then (if x550002.length < 17592186044416 then (potbankref03_Breaks.l1 k (wrap64 (x6 + 1)) x545000 x545001 x545002 x550000 x550001 (x550002 ++ [(rd_T52 x545002 x6).f1.f1])) else (none)) else (none)) else (some (x550000, x550001, x550002, 0))
end
def potbankref03_Breaks.f (k : Nat) (a0_0 : Int) (a0_1 : Int) (l0_2 : List (S52)) : Option (Int × Int × List Int × Int) := (potbankref03_Check.f k a0_0 a0_1 l0_2).bind fun t546 => (if t546 = 0 then (potbankref03_Breaks.l0 k 0 a0_0 a0_1 l0_2) else (some (0, 0, ([] : List Int), 31)))
theorem potbankref03_Breaks.mono_l : ∀ k, (∀ y0 y1 y2 y3, LeO (potbankref03_Breaks.l0 k y0 y1 y2 y3) (potbankref03_Breaks.l0 (k + 1) y0 y1 y2 y3)) ∧ (∀ y0 y1 y2 y3 y4 y5 y6, LeO (potbankref03_Breaks.l1 k y0 y1 y2 y3 y4 y5 y6) (potbankref03_Breaks.l1 (k + 1) y0 y1 y2 y3 y4 y5 y6))
 | 0 => ⟨fun _ _ _ _ r h => by simp [potbankref03_Breaks.l0] at h, fun _ _ _ _ _ _ _ r h => by simp [potbankref03_Breaks.l1] at h⟩
 | k + 1 => by
  obtain ⟨ih0, ih1⟩ := potbankref03_Breaks.mono_l k
  refine ⟨?_, ?_⟩
  ·intro y0 y1 y2 y3
   unfold potbankref03_Breaks.l0
   repeat' first
   | (with_reducible exact ih0 _ _ _ _)
   | (with_reducible exact ih1 _ _ _ _ _ _ _)
   | (with_reducible exact potbankref03_Check.mono _ _ _ _)
   | (with_reducible exact LeO.refl _)
   | (with_reducible exact LeO.none _)
   | (with_reducible refine LeO.ite ?_ ?_)
   | (with_reducible refine LeO.bind ?_ (fun _ => ?_))
   | exact ih0 _ _ _ _
   | exact ih1 _ _ _ _ _ _ _
   | exact potbankref03_Check.mono _ _ _ _
   | exact LeO.none _
   | refine LeO.ite ?_ ?_
   | refine LeO.bind ?_ (fun _ => ?_)
  ·intro y0 y1 y2 y3 y4 y5 y6
   unfold potbankref03_Breaks.l1
   repeat' first
   | (with_reducible exact ih0 _ _ _ _)
   | (with_reducible exact ih1 _ _ _ _ _ _ _)
   | (with_reducible exact potbankref03_Check.mono _ _ _ _)
   | (with_reducible exact LeO.refl _)
   | (with_reducible exact LeO.none _)
   | (with_reducible refine LeO.ite ?_ ?_)
   | (with_reducible refine LeO.bind ?_ (fun _ => ?_))
   | exact ih0 _ _ _ _
   | exact ih1 _ _ _ _ _ _ _
   | exact potbankref03_Check.mono _ _ _ _
   | exact LeO.none _
   | refine LeO.ite ?_ ?_
   | refine LeO.bind ?_ (fun _ => ?_)
theorem potbankref03_Breaks.mono : ∀ a0 a1 a2 k, LeO (potbankref03_Breaks.f k a0 a1 a2) (potbankref03_Breaks.f (k + 1) a0 a1 a2) := by
 intro a0 a1 a2 k
 obtain ⟨ih0, ih1⟩ := potbankref03_Breaks.mono_l k
 unfold potbankref03_Breaks.f
 repeat' first
   | (with_reducible exact ih0 _ _ _ _)
   | (with_reducible exact ih1 _ _ _ _ _ _ _)
   | (with_reducible exact potbankref03_Check.mono _ _ _ _)
   | (with_reducible exact LeO.refl _)
   | (with_reducible exact LeO.none _)
   | (with_reducible refine LeO.ite ?_ ?_)
   | (with_reducible refine LeO.bind ?_ (fun _ => ?_))
   | exact ih0 _ _ _ _
   | exact ih1 _ _ _ _ _ _ _
   | exact potbankref03_Check.mono _ _ _ _
   | exact LeO.none _
   | refine LeO.ite ?_ ?_
   | refine LeO.bind ?_ (fun _ => ?_)
def potbankref03_Breaks.T11 : Bool × List (List Nat × List Nat) := (true, [([], []), ([0], [0]), ([], []), ([2], [2]), ([], []), ([3, 4], [3, 4]), ([5], [5]), ([6], [6]), ([7], [7]), ([8], [8]), ([1, 9], [1, 9]), ([0, 1, 2, 3, 4, 5, 6, 7, 8, 9, 10], []), ([11, 10, 10, 0, 1, 2, 3, 4, 5, 6, 7, 8, 9, 10], [10, 11])])
def potbankref03_Breaks.B11 : List Nat := [0, 1, 0, 4, 0, 28, 60, 124, 252, 508, 1023, 2047, 4095]
theorem potbankref03_Breaks.tab11 : rtab .any (opsOf Try.f54 11) = potbankref03_Breaks.T11 := by kernel_rfl
theorem potbankref03_Breaks.bits11 : waitsOk potbankref03_Breaks.T11.2 potbankref03_Breaks.B11 = true := by kernel_rfl
set_option maxHeartbeats 8000000 in
set_option maxRecDepth 100000 in
theorem potbankref03_Breaks.calls (k : Nat) (a0_0 : Int) (a0_1 : Int) (A0_2 : Option Addr) (c0_2 : Nat) (l0_2 : List (S52)) (r1 : Int) (r2 : Int) (r3 : List Int) (r4 : Int) (w : World) (hr0_2 : Kd.C k52 w A0_2 l0_2.length l0_2) (hc0_2 : l0_2.length ≤ c0_2) (h : potbankref03_Breaks.f k a0_0 a0_1 l0_2 = some (r1, r2, r3, r4)) :
  Calls Try.prog 54 #[.agg #[.int .i64 a0_0, .int .i64 a0_1, .slice A0_2 l0_2.length c0_2]] w fun e w' => ∃ v2_ : Value, e = .returned (.tuple #[.agg #[.int .i64 r1, .int .i64 r2, v2_], .int .i64 r4]) ∧ Kd.R (Kd.int .i64) 3 w' w.heap.size (fun _ => True) v2_ r3 ∧ Below w.heap.size w w' := by
 have hu43 := Try.underlying43
 have hu75 := Try.underlying75
 have HR0_2 := pA hr0_2
 have HC0_2 := pA hc0_2
 clear hr0_2 hc0_2
 have HB := pA (Below.refl w.heap.size w)
 have H : ((potbankref03_Check.f k a0_0 a0_1 l0_2).bind fun t546 => (if t546 = 0 then (potbankref03_Breaks.l0 k 0 a0_0 a0_1 l0_2) else (some (0, 0, ([] : List Int), 31)))) = some (r1, r2, r3, r4) := h
 clear h
 replace H := Option.bind_eq_some_iff.mp H
 obtain ⟨t546, A20, H⟩ := H
 replace H : (if t546 = 0 then (potbankref03_Breaks.l0 k 0 a0_0 a0_1 l0_2) else (some (0, 0, ([] : List Int), 31))) = some (r1, r2, r3, r4) := H
 have A2 := pA A20
 clear A20
 by_cases c3 : t546 = 0
 ·rw [if_pos c3] at H
  have c3b0 : (t546 == 0) = true := beq_iff_eq.mpr c3
  have c3b1 : (t546 != 0) = false := bne_eq_false_iff_eq.mpr c3
  clear c3
  have H' := pA H
  clear H
  go_enter Try.func54, Try.ntmps54
  go_wp2_with (first | ((with_reducible refine gate_dst (N := 1) rfl ?_); refine box_event ?hg (N := 1) ?hd (cs := #[.int .i64 a0_0, .int .i64 a0_1, .slice A0_2 l0_2.length c0_2]) (t := 43) ?hr ?_; (case hd => rfl); (case hg => rfl); (case hr => first | (go_simp; done) | (go_simp; rfl)); intro gb544 hg w4 hbox hb; have n0_ := pA (below_step (vB HB) hb); have n1_ := pA (hbox); have n2_ := pA ((by rw [hg]; exact (below_size (vB HB)) : w.heap.size ≤ gb544)); have n3_ := pA ((by rw [hg]; exact (below_size (vB HB)) : w.heap.size ≤ gb544)); clear HB; have HB := n0_; have BK544 := n1_; have GW544 := n2_; have GE544 := n3_; clear n0_ n1_ n2_ n3_; clear hb hbox hg) | ((with_reducible refine gate_dst (N := 2) rfl ?_); refine box_event ?hg (N := 2) ?hd (cs := #[.int .i64 0, .int .i64 0, .slice none 0 0]) (t := 75) ?hr ?_; (case hd => rfl); (case hg => rfl); (case hr => first | (go_simp; done) | (go_simp; rfl)); intro gb545 hg w5 hbox hb; have n0_ := pA (blk_below (g := gb544) (o := .cells #[.int .i64 a0_0, .int .i64 a0_1, .slice A0_2 l0_2.length c0_2] 43 (0, 0)) (vK BK544) hb); have n1_ := pA (below_step (by repeat (first | (with_reducible first | exact HB.out | apply below_alloc | apply pw_below_drewN | apply below_drew1 | refine below_set ?_ GE544.out) | exact HB.out)) hb); have n2_ := pA (hbox); have n3_ := pA ((by rw [hg]; exact (below_size (by repeat (first | (with_reducible first | exact HB.out | apply below_alloc | apply pw_below_drewN | apply below_drew1 | refine below_set ?_ GE544.out) | exact HB.out))) : w.heap.size ≤ gb545)); have n4_ := pA ((by rw [hg]; exact (below_size (by repeat (first | (with_reducible first | exact HB.out | apply below_alloc | apply pw_below_drewN | apply below_drew1 | refine below_set ?_ GE544.out) | exact HB.out))) : w.heap.size ≤ gb545)); have n5_ := pA ((by rw [hg]; exact Nat.ne_of_lt (blk_lt (g := gb544) (o := .cells #[.int .i64 a0_0, .int .i64 a0_1, .slice A0_2 l0_2.length c0_2] 43 (0, 0)) (vK BK544)) : gb544 ≠ gb545)); have n6_ := pA ((by rw [hg]; exact Nat.ne_of_gt (blk_lt (g := gb544) (o := .cells #[.int .i64 a0_0, .int .i64 a0_1, .slice A0_2 l0_2.length c0_2] 43 (0, 0)) (vK BK544)) : gb545 ≠ gb544)); clear BK544; clear HB; have BK544 := n0_; have HB := n1_; have BK545 := n2_; have GW545 := n3_; have GE545 := n4_; have NB544_545 := n5_; have NB545_544 := n6_; clear n0_ n1_ n2_ n3_ n4_ n5_ n6_; clear hb hbox hg; have hnb6 := NB544_545.out; have hnc6 := NB545_544.out; have hcz7_0 : w5.cell? ⟨gb544, 0, none⟩ = some (.int .i64 a0_0) := (blk_cell BK544.out 0).trans rfl; have hcz7_1 : w5.cell? ⟨gb544, 1, none⟩ = some (.int .i64 a0_1) := (blk_cell BK544.out 1).trans rfl; have hcz7_2 : w5.cell? ⟨gb544, 2, none⟩ = some (.slice A0_2 l0_2.length c0_2) := (blk_cell BK544.out 2).trans rfl; have hfz7_0 := blk_frozen BK544.out 0; have hfz7_1 := blk_frozen BK544.out 1; have hfz7_2 := blk_frozen BK544.out 2) | ((with_reducible refine aF (f := 48) rfl ?_); refine goesL_ (some 8) rfl rfl Try.func48 (by kernel_rfl) rfl #[.agg #[.int .i64 a0_0, .int .i64 a0_1, .slice A0_2 l0_2.length c0_2]] rfl (by (try simp only [pE, pF, pG]); first | done | rfl | (simp only [pH, pI]; rfl)) ?_; (with_reducible refine (potbankref03_Check.calls k a0_0 a0_1 _ _ l0_2 t546 _ ?side1 ?side2 A2.out).mono ?_); (case side1 => repeat (first | exact (Kd.C_below HR0_2.out HB.out) | (with_reducible refine Kd.C_alloc ?_ _) | (with_reducible refine Kd.C_drewN ?_ _) | (with_reducible refine Kd.C_drew ?_))); (case side2 => exact HC0_2.out); rintro e w8 ⟨rfl, hb⟩; refine ⟨_, rfl, ?_⟩; have n0_ := pA (blk_below (g := gb544) (o := .cells #[.int .i64 a0_0, .int .i64 a0_1, .slice A0_2 l0_2.length c0_2] 43 (0, 0)) (vK BK544) hb); have n1_ := pA (blk_below (g := gb545) (o := .cells #[.int .i64 0, .int .i64 0, .slice none 0 0] 75 (0, 0)) (vK BK545) hb); have n2_ := pA (below_step (by repeat (first | (with_reducible first | exact HB.out | apply below_alloc | apply pw_below_drewN | apply below_drew1 | refine below_set ?_ GE544.out | refine below_set ?_ GE545.out) | exact HB.out)) hb); clear BK544; clear BK545; clear HB; have BK544 := n0_; have BK545 := n1_; have HB := n2_; clear n0_ n1_ n2_; (try clear hb); (try clear hb2); (try clear hk); (try clear hi)))
  go_loopg [4] k (fun kq v4 w' => ∃ (x4_1 : Int) (x546000_1 : Int) (x546001_1 : Int), v4 = .int .i64 x4_1 ∧ Aside0 (potbankref03_Breaks.l0 kq x4_1 a0_0 a0_1 l0_2 = some (r1, r2, r3, r4)) ∧ Aside0 (kq ≤ k) ∧ Aside0 (w'.heap[gb544]? = some (.cells #[.int .i64 a0_0, .int .i64 a0_1, (.slice A0_2 l0_2.length c0_2)] 43 (0, 0))) ∧ Aside0 (w'.heap[gb545]? = some (.cells #[.int .i64 x546000_1, .int .i64 x546001_1, (.slice none 0 0)] 75 (0, 0))) ∧ Aside0 (Below w.heap.size w w'))
  case atStart => exact ⟨(0), (0), (0), (by first | rfl | (simp; done) | (simp [*]; done)), H', ⟨Nat.le_refl _⟩, ⟨by (with_reducible repeat refine vS ?_); exact BK544.out⟩, ⟨by (with_reducible repeat refine vS ?_); exact BK545.out⟩, ⟨by repeat (first | (with_reducible first | exact HB.out | apply below_alloc | apply pw_below_drewN | apply below_drew1 | refine below_set ?_ GE544.out | refine below_set ?_ GE545.out) | exact HB.out)⟩⟩
  case round =>
   clear H'
   try clear p2
   try clear c3
   try clear c3b0
   try clear c3b1
   try clear c4
   try clear c5
   try clear c6
   try clear hcz7_0
   try clear hcz7_1
   try clear hcz7_2
   try clear hfz7_0
   try clear hfz7_1
   try clear hfz7_2
   obtain ⟨x4_1, x546000_1, x546001_1, rfl, HA, HK1, BK544, BK545, HB⟩ := hrel
   cases gk with
   | zero => exact absurd HA.out (by simp [potbankref03_Breaks.l0])
   | succ k1 =>
    have H := HA.out
    clear HA
    simp only [potbankref03_Breaks.l0] at H
    by_cases c9 : x4_1 < (l0_2.length : Int)
    ·rw [if_pos c9] at H
     have c9b0 : decide (x4_1 < (l0_2.length : Int)) = true := decide_eq_true c9
     clear c9
     replace H := Option.bind_eq_some_iff.mp H
     obtain ⟨t547, A100, H⟩ := H
     replace H : (if t547 = 1 then (potbankref03_Breaks.l0 k1 (wrap64 (x4_1 + 1)) a0_0 a0_1 l0_2) else (if 0 ≤ x4_1 then (potbankref03_Breaks.l1 k1 (wrap64 (x4_1 + 1)) a0_0 a0_1 l0_2 x4_1 ((rd_T52 l0_2 x4_1).f2.f0) ([] : List Int)) else (none))) = some (r1, r2, r3, r4) := H
     have A10 := pA A100
     clear A100
     by_cases c11 : t547 = 1
     ·rw [if_pos c11] at H
      have c11b0 : (t547 == 1) = true := beq_iff_eq.mpr c11
      have c11b1 : (t547 != 1) = false := bne_eq_false_iff_eq.mpr c11
      clear c11
      have H' := pA H
      clear H
      have hnb12 := NB544_545.out
      have hnc12 := NB545_544.out
      have hcz13_0 : wr.cell? ⟨gb544, 0, none⟩ = some (.int .i64 a0_0) := (blk_cell BK544.out 0).trans rfl
      have hcz13_1 : wr.cell? ⟨gb544, 1, none⟩ = some (.int .i64 a0_1) := (blk_cell BK544.out 1).trans rfl
      have hcz13_2 : wr.cell? ⟨gb544, 2, none⟩ = some (.slice A0_2 l0_2.length c0_2) := (blk_cell BK544.out 2).trans rfl
      have hfz13_0 := blk_frozen BK544.out 0
      have hfz13_1 := blk_frozen BK544.out 1
      have hfz13_2 := blk_frozen BK544.out 2
      go_wp2_with (first | ((with_reducible refine aF (f := 90) rfl ?_); refine goesL_ (some 21) rfl rfl Try.func90 (by kernel_rfl) rfl #[.slice A0_2 l0_2.length c0_2, .int .i64 x4_1] rfl (by (try simp only [pE, pF, pG]); first | done | rfl | (simp only [pH, pI]; rfl)) ?_; (with_reducible refine (potbankref03_answer.calls _ _ l0_2 x4_1 t547 _ ?side1 ?side2 A10.out).mono ?_); (case side1 => repeat (first | exact (Kd.C_below HR0_2.out HB.out) | (with_reducible refine Kd.C_alloc ?_ _) | (with_reducible refine Kd.C_drewN ?_ _) | (with_reducible refine Kd.C_drew ?_))); (case side2 => exact HC0_2.out); rintro e w14 ⟨rfl, hb⟩; refine ⟨_, rfl, ?_⟩; have n0_ := pA (blk_below (g := gb544) (o := .cells #[.int .i64 a0_0, .int .i64 a0_1, .slice A0_2 l0_2.length c0_2] 43 (0, 0)) (vK BK544) hb); have n1_ := pA (blk_below (g := gb545) (o := .cells #[.int .i64 x546000_1, .int .i64 x546001_1, .slice none 0 0] 75 (0, 0)) (vK BK545) hb); have n2_ := pA (below_step (by repeat (first | (with_reducible first | exact HB.out | apply below_alloc | apply pw_below_drewN | apply below_drew1 | refine below_set ?_ GE544.out | refine below_set ?_ GE545.out) | exact HB.out)) hb); clear BK544; clear BK545; clear HB; have BK544 := n0_; have BK545 := n1_; have HB := n2_; clear n0_ n1_ n2_; (try clear hb); (try clear hb2); (try clear hk); (try clear hi)))
      go_roundg k1
      case measure => have := HK1.out; omega
      case rel => exact ⟨(wrap64 (x4_1 + 1)), (x546000_1), (x546001_1), (by first | rfl | (simp; done) | (simp [*]; done)), H', ⟨by have := HK1.out; omega⟩, ⟨by (with_reducible repeat refine vS ?_); exact BK544.out⟩, ⟨by (with_reducible repeat refine vS ?_); exact BK545.out⟩, ⟨by repeat (first | (with_reducible first | exact HB.out | apply below_alloc | apply pw_below_drewN | apply below_drew1 | refine below_set ?_ GE544.out | refine below_set ?_ GE545.out) | exact HB.out)⟩⟩
     ·rw [if_neg c11] at H
      have c11b0 : (t547 == 1) = false := beq_eq_false_iff_ne.mpr c11
      have c11b1 : (t547 != 1) = true := bne_iff_ne.mpr c11
      by_cases c15 : 0 ≤ x4_1
      ·rw [if_pos c15] at H
       have c15b0 : decide (0 ≤ x4_1) = true := decide_eq_true c15
       clear c15
       have H' := pA H
       clear H
       have hnb16 := NB544_545.out
       have hnc16 := NB545_544.out
       have hcz17_0 : wr.cell? ⟨gb544, 0, none⟩ = some (.int .i64 a0_0) := (blk_cell BK544.out 0).trans rfl
       have hcz17_1 : wr.cell? ⟨gb544, 1, none⟩ = some (.int .i64 a0_1) := (blk_cell BK544.out 1).trans rfl
       have hcz17_2 : wr.cell? ⟨gb544, 2, none⟩ = some (.slice A0_2 l0_2.length c0_2) := (blk_cell BK544.out 2).trans rfl
       have hfz17_0 := blk_frozen BK544.out 0
       have hfz17_1 := blk_frozen BK544.out 1
       have hfz17_2 := blk_frozen BK544.out 2
       go_wp2_with (first | ((with_reducible refine aF (f := 90) rfl ?_); refine goesL_ (some 21) rfl rfl Try.func90 (by kernel_rfl) rfl #[.slice A0_2 l0_2.length c0_2, .int .i64 x4_1] rfl (by (try simp only [pE, pF, pG]); first | done | rfl | (simp only [pH, pI]; rfl)) ?_; (with_reducible refine (potbankref03_answer.calls _ _ l0_2 x4_1 t547 _ ?side1 ?side2 A10.out).mono ?_); (case side1 => repeat (first | exact (Kd.C_below HR0_2.out HB.out) | (with_reducible refine Kd.C_alloc ?_ _) | (with_reducible refine Kd.C_drewN ?_ _) | (with_reducible refine Kd.C_drew ?_))); (case side2 => exact HC0_2.out); rintro e w18 ⟨rfl, hb⟩; refine ⟨_, rfl, ?_⟩; have n0_ := pA (blk_below (g := gb544) (o := .cells #[.int .i64 a0_0, .int .i64 a0_1, .slice A0_2 l0_2.length c0_2] 43 (0, 0)) (vK BK544) hb); have n1_ := pA (blk_below (g := gb545) (o := .cells #[.int .i64 x546000_1, .int .i64 x546001_1, .slice none 0 0] 75 (0, 0)) (vK BK545) hb); have n2_ := pA (below_step (by repeat (first | (with_reducible first | exact HB.out | apply below_alloc | apply pw_below_drewN | apply below_drew1 | refine below_set ?_ GE544.out | refine below_set ?_ GE545.out) | exact HB.out)) hb); clear BK544; clear BK545; clear HB; have BK544 := n0_; have BK545 := n1_; have HB := n2_; clear n0_ n1_ n2_; (try clear hb); (try clear hb2); (try clear hk); (try clear hi); have hcz19_0 : w18.cell? ⟨gb544, 0, none⟩ = some (.int .i64 a0_0) := (blk_cell BK544.out 0).trans rfl; have hcz19_1 : w18.cell? ⟨gb544, 1, none⟩ = some (.int .i64 a0_1) := (blk_cell BK544.out 1).trans rfl; have hcz19_2 : w18.cell? ⟨gb544, 2, none⟩ = some (.slice A0_2 l0_2.length c0_2) := (blk_cell BK544.out 2).trans rfl; have hfz19_0 := blk_frozen BK544.out 0; have hfz19_1 := blk_frozen BK544.out 1; have hfz19_2 := blk_frozen BK544.out 2; have p548 : 0 ≤ (x4_1 : Int) := of_decide_eq_true (by first | (with_reducible assumption) | assumption); have q548 : x4_1 < (l0_2.length : Int) := of_decide_eq_true (by first | (with_reducible assumption) | assumption); obtain ⟨ad548, e548, hx548_0, hx548_1, hx548_2, hx548_3, hx548_4, hx548_5, hx548_6, hx548_7⟩ := at_T52 HR0_2.out x4_1 p548 q548; cases e548; replace hx548_0 := vC HB hx548_0; replace hx548_1 := vC HB hx548_1; replace hx548_2 := vC HB hx548_2; replace hx548_3 := vC HB hx548_3; replace hx548_4 := vC HB hx548_4; replace hx548_5 := vC HB hx548_5; replace hx548_6 := vC HB hx548_6; replace hx548_7 := vC HB hx548_7; replace p548 := eq_true p548; replace q548 := eq_true q548) | ((with_reducible refine gate_dst (N := 5) rfl ?_); refine box_event ?hg (N := 5) ?hd (cs := #[.int .i64 0, .int .i64 0, .slice none 0 0]) (t := 75) ?hr ?_; (case hd => rfl); (case hg => rfl); (case hr => first | (go_simp; done) | (go_simp; rfl)); intro gb549 hg w20 hbox hb; have n0_ := pA (blk_below (g := gb544) (o := .cells #[.int .i64 a0_0, .int .i64 a0_1, .slice (some ad548) l0_2.length c0_2] 43 (0, 0)) (vK BK544) hb); have n1_ := pA (blk_below (g := gb545) (o := .cells #[.int .i64 x546000_1, .int .i64 x546001_1, .slice none 0 0] 75 (0, 0)) (vK BK545) hb); have n2_ := pA (below_step (by repeat (first | (with_reducible first | exact HB.out | apply below_alloc | apply pw_below_drewN | apply below_drew1 | refine below_set ?_ GE544.out | refine below_set ?_ GE545.out) | exact HB.out)) hb); have n3_ := pA (hbox); have n4_ := pA ((by rw [hg]; exact (below_size (by repeat (first | (with_reducible first | exact HB.out | apply below_alloc | apply pw_below_drewN | apply below_drew1 | refine below_set ?_ GE544.out | refine below_set ?_ GE545.out) | exact HB.out))) : w.heap.size ≤ gb549)); have n5_ := pA ((by rw [hg]; exact (below_size (by repeat (first | (with_reducible first | exact HB.out | apply below_alloc | apply pw_below_drewN | apply below_drew1 | refine below_set ?_ GE544.out | refine below_set ?_ GE545.out) | exact HB.out))) : w.heap.size ≤ gb549)); have n6_ := pA ((by rw [hg]; exact Nat.ne_of_lt (blk_lt (g := gb544) (o := .cells #[.int .i64 a0_0, .int .i64 a0_1, .slice (some ad548) l0_2.length c0_2] 43 (0, 0)) (vK BK544)) : gb544 ≠ gb549)); have n7_ := pA ((by rw [hg]; exact Nat.ne_of_gt (blk_lt (g := gb544) (o := .cells #[.int .i64 a0_0, .int .i64 a0_1, .slice (some ad548) l0_2.length c0_2] 43 (0, 0)) (vK BK544)) : gb549 ≠ gb544)); have n8_ := pA ((by rw [hg]; exact Nat.ne_of_lt (blk_lt (g := gb545) (o := .cells #[.int .i64 x546000_1, .int .i64 x546001_1, .slice none 0 0] 75 (0, 0)) (vK BK545)) : gb545 ≠ gb549)); have n9_ := pA ((by rw [hg]; exact Nat.ne_of_gt (blk_lt (g := gb545) (o := .cells #[.int .i64 x546000_1, .int .i64 x546001_1, .slice none 0 0] 75 (0, 0)) (vK BK545)) : gb549 ≠ gb545)); clear BK544; clear BK545; clear HB; have BK544 := n0_; have BK545 := n1_; have HB := n2_; have BK549 := n3_; have GW549 := n4_; have GE549 := n5_; have NB544_549 := n6_; have NB549_544 := n7_; have NB545_549 := n8_; have NB549_545 := n9_; clear n0_ n1_ n2_ n3_ n4_ n5_ n6_ n7_ n8_ n9_; clear hb hbox hg; have hnb21 := NB549_544.out; have hnc21 := NB544_549.out; have hnb22 := NB549_545.out; have hnc22 := NB545_549.out; have hcz23_0 : w20.cell? ⟨gb549, 0, none⟩ = some (.int .i64 0) := (blk_cell BK549.out 0).trans rfl; have hcz23_1 : w20.cell? ⟨gb549, 1, none⟩ = some (.int .i64 0) := (blk_cell BK549.out 1).trans rfl; have hcz23_2 : w20.cell? ⟨gb549, 2, none⟩ = some (.slice none 0 0) := (blk_cell BK549.out 2).trans rfl; have hfz23_0 := blk_frozen BK549.out 0; have hfz23_1 := blk_frozen BK549.out 1; have hfz23_2 := blk_frozen BK549.out 2))
       go_loopg [6] k1 (fun kq v6 w' => ∃ (x6_2 : Int) (x550002_2 : List Int) (u550002 : Value), v6 = .int .i64 x6_2 ∧ Aside0 (potbankref03_Breaks.l1 kq x6_2 a0_0 a0_1 l0_2 x4_1 ((rd_T52 l0_2 x4_1).f2.f0) x550002_2 = some (r1, r2, r3, r4)) ∧ Aside0 (kq ≤ k1) ∧ Aside0 (Kd.R (Kd.int .i64) 3 w' w.heap.size (fun _ => True) u550002 x550002_2) ∧ Aside0 (w'.heap[gb544]? = some (.cells #[.int .i64 a0_0, .int .i64 a0_1, (.slice (some ad548) l0_2.length c0_2)] 43 (0, 0))) ∧ Aside0 (w'.heap[gb545]? = some (.cells #[.int .i64 x546000_1, .int .i64 x546001_1, (.slice none 0 0)] 75 (0, 0))) ∧ Aside0 (w'.heap[gb549]? = some (.cells #[.int .i64 x4_1, .int .i64 ((rd_T52 l0_2 x4_1).f2.f0), u550002] 75 (0, 0))) ∧ Aside0 (Below w.heap.size w w'))
       case atStart => exact ⟨(wrap64 (x4_1 + 1)), (([] : List Int)), (.slice none 0 0), (by first | rfl | (simp; done) | (simp [*]; done)), H', ⟨Nat.le_refl _⟩, ⟨by first | exact Kd.R_nil _ _ _ _ _ | exact Kd.N_nil _ _ _ _ _ | exact Kd.V_nil _ _ _ _ _ | exact Kd.Q_nil _ _ _ _ _ | exact Kd.S_nil _ _ _ _ _⟩, ⟨by (with_reducible repeat refine vS ?_); refine blk_far ?_ NB544_549.out _; (with_reducible repeat refine vS ?_); refine blk_far ?_ NB544_549.out _; (with_reducible repeat refine vS ?_); refine blk_far ?_ NB544_549.out _; (with_reducible repeat refine vS ?_); exact BK544.out⟩, ⟨by (with_reducible repeat refine vS ?_); refine blk_far ?_ NB545_549.out _; (with_reducible repeat refine vS ?_); refine blk_far ?_ NB545_549.out _; (with_reducible repeat refine vS ?_); refine blk_far ?_ NB545_549.out _; (with_reducible repeat refine vS ?_); exact BK545.out⟩, ⟨by (with_reducible repeat refine vS ?_); refine blk_put (cs := #[.int .i64 x4_1, .int .i64 ((rd_T52 l0_2 x4_1).f2.f0), .slice none 0 0]) ?_ 2 _ rfl; (with_reducible repeat refine vS ?_); refine blk_put (cs := #[.int .i64 x4_1, .int .i64 0, .slice none 0 0]) ?_ 1 _ rfl; (with_reducible repeat refine vS ?_); refine blk_put (cs := #[.int .i64 0, .int .i64 0, .slice none 0 0]) ?_ 0 _ rfl; (with_reducible repeat refine vS ?_); exact BK549.out⟩, ⟨by repeat (first | (with_reducible first | exact HB.out | apply below_alloc | apply pw_below_drewN | apply below_drew1 | refine below_set ?_ GE544.out | refine below_set ?_ GE545.out | refine below_set ?_ GE549.out) | exact HB.out)⟩⟩
       case round =>
        clear H'
        try clear c1
        try clear c2
        try clear p2
        try clear c3
        try clear c3b0
        try clear c3b1
        try clear c4
        try clear c5
        try clear p5
        try clear q5
        try clear hx5
        try clear c6
        try clear p6
        try clear c9
        try clear c9b0
        try clear c11
        try clear c11b0
        try clear c11b1
        try clear c12
        try clear c15
        try clear c15b0
        try clear c16
        try clear c21
        try clear c22
        try clear hcz13_0
        try clear hcz13_1
        try clear hcz13_2
        try clear hcz17_0
        try clear hcz17_1
        try clear hcz17_2
        try clear hcz19_0
        try clear hcz19_1
        try clear hcz19_2
        try clear hcz23_0
        try clear hcz23_1
        try clear hcz23_2
        try clear hcz7_0
        try clear hcz7_1
        try clear hcz7_2
        try clear hfz13_0
        try clear hfz13_1
        try clear hfz13_2
        try clear hfz17_0
        try clear hfz17_1
        try clear hfz17_2
        try clear hfz19_0
        try clear hfz19_1
        try clear hfz19_2
        try clear hfz23_0
        try clear hfz23_1
        try clear hfz23_2
        try clear hfz7_0
        try clear hfz7_1
        try clear hfz7_2
        try clear hx548_0
        try clear hx548_1
        try clear hx548_2
        try clear hx548_3
        try clear hx548_4
        try clear hx548_5
        try clear hx548_6
        try clear hx548_7
        try clear p2
        try clear p548
        try clear q548
        obtain ⟨x6_2, x550002_2, u550002, rfl, HA, HK2, HO_550002, BK544, BK545, BK549, HB⟩ := hrel
        cases gk with
        | zero => exact absurd HA.out (by simp [potbankref03_Breaks.l1])
        | succ k2 =>
         have H := HA.out
         clear HA
         simp only [potbankref03_Breaks.l1] at H
         by_cases c24 : x6_2 < (l0_2.length : Int)
         ·rw [if_pos c24] at H
          have c24b0 : decide (x6_2 < (l0_2.length : Int)) = true := decide_eq_true c24
          clear c24
          by_cases c25 : 0 ≤ x6_2
          ·rw [if_pos c25] at H
           have c25b0 : decide (0 ≤ x6_2) = true := decide_eq_true c25
           clear c25
           by_cases c26 : x550002_2.length < 17592186044416
           ·rw [if_pos c26] at H
            have LMc26 := pA c26
            clear c26
            obtain ⟨y551, hy551⟩ : ∃ y_ : List Int, y_ = (x550002_2 ++ [(rd_T52 l0_2 x6_2).f1.f1]) := ⟨_, rfl⟩
            replace H : (potbankref03_Breaks.l1 k2 (wrap64 (x6_2 + 1)) a0_0 a0_1 l0_2 x4_1 ((rd_T52 l0_2 x4_1).f2.f0) y551) = some (r1, r2, r3, r4) := by first | (rw [hy551]; with_reducible exact H) | (have H2_ := (Option.bind_some _ _).symm.trans H; rw [hy551]; with_reducible exact H2_) | (have H2_ := (Option.bind_some _ _).symm.trans H; with_reducible exact H2_) | with_reducible exact H | (rw [hy551]; exact H) | exact H
            have Ny551 := pA hy551
            clear hy551
            have H' := pA H
            clear H
            have hnb27 := NB544_545.out
            have hnc27 := NB545_544.out
            have hnb28 := NB544_549.out
            have hnc28 := NB549_544.out
            have hcz29_0 : wr.cell? ⟨gb544, 0, none⟩ = some (.int .i64 a0_0) := (blk_cell BK544.out 0).trans rfl
            have hcz29_1 : wr.cell? ⟨gb544, 1, none⟩ = some (.int .i64 a0_1) := (blk_cell BK544.out 1).trans rfl
            have hcz29_2 : wr.cell? ⟨gb544, 2, none⟩ = some (.slice (some ad548) l0_2.length c0_2) := (blk_cell BK544.out 2).trans rfl
            have hfz29_0 := blk_frozen BK544.out 0
            have hfz29_1 := blk_frozen BK544.out 1
            have hfz29_2 := blk_frozen BK544.out 2
            try go_wp2
            have n0_ := pA (Kd.R_drew HO_550002.out)
            have n1_ := pA (blk_drew BK544.out)
            have n2_ := pA (blk_drew BK545.out)
            have n3_ := pA (blk_drew BK549.out)
            have n4_ := pA (below_drew1 HB.out)
            clear HO_550002
            clear BK544
            clear BK545
            clear BK549
            clear HB
            have HO_550002 := n0_
            have BK544 := n1_
            have BK545 := n2_
            have BK549 := n3_
            have HB := n4_
            clear n0_ n1_ n2_ n3_ n4_
            have p550 : 0 ≤ (x6_2 : Int) := of_decide_eq_true (by first | (with_reducible assumption) | assumption)
            have q550 : x6_2 < (l0_2.length : Int) := of_decide_eq_true (by first | (with_reducible assumption) | assumption)
            obtain ⟨ad550, e550, hx550_0, hx550_1, hx550_2, hx550_3, hx550_4, hx550_5, hx550_6, hx550_7⟩ := at_T52 HR0_2.out x6_2 p550 q550
            have hw550_7 := hx550_7
            have hw550_6 := hx550_6
            have hw550_5 := hx550_5
            have hw550_4 := hx550_4
            have hw550_3 := hx550_3
            have hw550_2 := hx550_2
            have hw550_1 := hx550_1
            have hw550_0 := hx550_0
            obtain rfl : ad548 = ad550 := (by injection e550)
            replace hx550_0 := vC HB hx550_0
            replace hx550_1 := vC HB hx550_1
            replace hx550_2 := vC HB hx550_2
            replace hx550_3 := vC HB hx550_3
            replace hx550_4 := vC HB hx550_4
            replace hx550_5 := vC HB hx550_5
            replace hx550_6 := vC HB hx550_6
            replace hx550_7 := vC HB hx550_7
            replace p550 := eq_true p550
            replace q550 := eq_true q550
            refine start_ (n := 13) (S := fun w' => w'.cell? ⟨gb549, 0, none⟩ = some (.int .i64 x4_1) ∧ w'.cell? ⟨gb549, 1, none⟩ = some (.int .i64 ((rd_T52 l0_2 x4_1).f2.f0)) ∧ w'.cell? ⟨gb549, 2, none⟩ = some (u550002) ∧ w'.cell? ⟨gb544, 0, none⟩ = some (.int .i64 a0_0) ∧ w'.cell? ⟨gb544, 1, none⟩ = some (.int .i64 a0_1) ∧ w'.cell? ⟨gb544, 2, none⟩ = some (.slice (some ad548) l0_2.length c0_2) ∧ w'.cell? (ad548.add ((x6_2).toNat * 8)) = some (.int .i64 ((rd_T52 l0_2 x6_2).f0)) ∧ w'.cell? ⟨(ad548.add ((x6_2).toNat * 8)).block, (ad548.add ((x6_2).toNat * 8)).off + 1, none⟩ = some (.int .i64 ((rd_T52 l0_2 x6_2).f1.f0)) ∧ w'.cell? ⟨(ad548.add ((x6_2).toNat * 8)).block, (ad548.add ((x6_2).toNat * 8)).off + 2, none⟩ = some (.int .i64 ((rd_T52 l0_2 x6_2).f1.f1)) ∧ w'.cell? ⟨(ad548.add ((x6_2).toNat * 8)).block, (ad548.add ((x6_2).toNat * 8)).off + 3, none⟩ = some (.int .i64 ((rd_T52 l0_2 x6_2).f2.f0)) ∧ w'.cell? ⟨(ad548.add ((x6_2).toNat * 8)).block, (ad548.add ((x6_2).toNat * 8)).off + 4, none⟩ = some (.int .i64 ((rd_T52 l0_2 x6_2).f2.f1)) ∧ w'.cell? ⟨(ad548.add ((x6_2).toNat * 8)).block, (ad548.add ((x6_2).toNat * 8)).off + 5, none⟩ = some (.int .i64 ((rd_T52 l0_2 x6_2).f3.f0)) ∧ w'.cell? ⟨(ad548.add ((x6_2).toNat * 8)).block, (ad548.add ((x6_2).toNat * 8)).off + 6, none⟩ = some (.int .i64 ((rd_T52 l0_2 x6_2).f3.f1)) ∧ w'.cell? ⟨(ad548.add ((x6_2).toNat * 8)).block, (ad548.add ((x6_2).toNat * 8)).off + 7, none⟩ = some (.int .i64 ((rd_T52 l0_2 x6_2).f4))) (ds := [12]) #[false, false, false, false, false, false, false, false, false, false, false, false, false] (by kernel_rfl) rfl rfl ⟨(blk_cell BK549.out 0).trans rfl, (blk_cell BK549.out 1).trans rfl, (blk_cell BK549.out 2).trans rfl, (blk_cell BK544.out 0).trans rfl, (blk_cell BK544.out 1).trans rfl, (blk_cell BK544.out 2).trans rfl, (vD HB hw550_0), (vD HB hw550_1), (vD HB hw550_2), (vD HB hw550_3), (vD HB hw550_4), (vD HB hw550_5), (vD HB hw550_6), (vD HB hw550_7)⟩ (fun hHeld => ?_); refine with_tabW potbankref03_Breaks.tab11 potbankref03_Breaks.bits11 (fun HT_ HW_ => ?_)
            generalize wr.drew = w30 at HO_550002 BK544 BK545 BK549 HB hx550_0 hx550_1 hx550_2 hx550_3 hx550_4 hx550_5 hx550_6 hx550_7 hHeld ⊢
            refine pure_ (i := 0) (N := some 41) (v := ?_) (a' := ?_) #[true, false, false, false, false, false, false, false, false, false, false, false, false] rfl rfl (any_of HT_.out (by kernel_rfl)) (fun _ _ _ h => h) (Or.inl ⟨by rfl, ?_⟩) ?_ ?_
            rotate_left
            ·intro w'
             go_simp
             with_reducible rfl
            rotate_left
            ·simp only [Act.put, pB, pC, pD, i64_w, i32_w]
             rfl
            refine pure_ (i := 2) (N := some 43) (v := ?_) (a' := ?_) #[true, false, true, false, false, false, false, false, false, false, false, false, false] rfl rfl (any_of HT_.out (by kernel_rfl)) (fun _ _ _ h => h) (Or.inl ⟨by rfl, ?_⟩) ?_ ?_
            rotate_left
            ·intro w'
             go_simp
             with_reducible rfl
            rotate_left
            ·simp only [Act.put, pB, pC, pD, i64_w, i32_w]
             rfl
            refine pure_ (i := 4) (N := some 45) (v := ?_) (a' := ?_) #[true, false, true, false, true, false, false, false, false, false, false, false, false] rfl rfl (any_of HT_.out (by kernel_rfl)) (fun _ _ _ h => h) (Or.inl ⟨by rfl, ?_⟩) ?_ ?_
            rotate_left
            ·intro w'
             go_simp
             with_reducible rfl
            rotate_left
            ·simp only [Act.put, pB, pC, pD, i64_w, i32_w]
             rfl
            refine take_ (i := 1) (N := some 42) (v := ?_) (a' := ?_) #[true, true, true, false, true, false, false, false, false, false, false, false, false] rfl rfl (take_ofW HT_.out HW_.out (by kernel_rfl)) (fun _ _ _ h => h) (Or.inl ⟨by rfl, ?_⟩) hHeld ?_ ?_
            rotate_left
            ·rintro w' ⟨s0, s1, s2, s3, s4, s5, s6, s7, s8, s9, s10, s11, s12, s13⟩
             go_simp
             with_reducible rfl
            rotate_left
            ·simp only [Act.put, pB, pC, pD, i64_w, i32_w]
             rfl
            refine take_ (i := 3) (N := some 44) (v := ?_) (a' := ?_) #[true, true, true, true, true, false, false, false, false, false, false, false, false] rfl rfl (take_ofW HT_.out HW_.out (by kernel_rfl)) (fun _ _ _ h => h) (Or.inl ⟨by rfl, ?_⟩) hHeld ?_ ?_
            rotate_left
            ·rintro w' ⟨s0, s1, s2, s3, s4, s5, s6, s7, s8, s9, s10, s11, s12, s13⟩
             go_simp
             with_reducible rfl
            rotate_left
            ·simp only [Act.put, pB, pC, pD, i64_w, i32_w]
             rfl
            refine pure_ (i := 5) (N := some 46) (v := ?_) (a' := ?_) #[true, true, true, true, true, true, false, false, false, false, false, false, false] rfl rfl (any_of HT_.out (by kernel_rfl)) (fun _ _ _ h => h) (Or.inl ⟨by rfl, ?_⟩) ?_ ?_
            rotate_left
            ·intro w'
             go_simp
             with_reducible rfl
            rotate_left
            ·simp only [Act.put, pB, pC, pD, i64_w, i32_w]
             rfl
            refine pure_ (i := 6) (N := some 47) (v := ?_) (a' := ?_) #[true, true, true, true, true, true, true, false, false, false, false, false, false] rfl rfl (any_of HT_.out (by kernel_rfl)) (fun _ _ _ h => h) (Or.inl ⟨by rfl, ?_⟩) ?_ ?_
            rotate_left
            ·intro w'
             go_simp
             with_reducible rfl
            rotate_left
            ·simp only [Act.put, pB, pC, pD, i64_w, i32_w]
             rfl
            refine pure_ (i := 7) (N := some 48) (v := ?_) (a' := ?_) #[true, true, true, true, true, true, true, true, false, false, false, false, false] rfl rfl (any_of HT_.out (by kernel_rfl)) (fun _ _ _ h => h) (Or.inl ⟨by rfl, ?_⟩) ?_ ?_
            rotate_left
            ·intro w'
             go_simp
             with_reducible rfl
            rotate_left
            ·simp only [Act.put, pB, pC, pD, i64_w, i32_w]
             rfl
            refine take_ (i := 8) (N := some 49) (v := ?_) (a' := ?_) #[true, true, true, true, true, true, true, true, true, false, false, false, false] rfl rfl (take_ofW HT_.out HW_.out (by kernel_rfl)) (fun _ _ _ h => h) (Or.inl ⟨by rfl, ?_⟩) hHeld ?_ ?_
            rotate_left
            ·rintro w' ⟨s0, s1, s2, s3, s4, s5, s6, s7, s8, s9, s10, s11, s12, s13⟩
             go_simp
             with_reducible rfl
            rotate_left
            ·simp only [Act.put, pB, pC, pD, i64_w, i32_w]
             rfl
            refine one_ (i := 9) (N := some 50) #[true, true, true, true, true, true, true, true, true, true, false, false, false] rfl rfl (one_of HT_.out (by kernel_rfl)) (by decide) (fun K hK => ?_)
            refine value_ (w1 := ?_) (v := ?_) (by rfl) rfl ?_ ?_
            rotate_left 2
            ·go_simp
             constructor
             ·rfl
             ·rfl
            refine hK.out _ _ ⟨(blk_cell (blk_alloc BK549.out _) 0).trans rfl, (blk_cell (blk_alloc BK549.out _) 1).trans rfl, (blk_cell (blk_alloc BK549.out _) 2).trans rfl, (blk_cell (blk_alloc BK544.out _) 0).trans rfl, (blk_cell (blk_alloc BK544.out _) 1).trans rfl, (blk_cell (blk_alloc BK544.out _) 2).trans rfl, (World.cell?_alloc_lt _ _ _ (World.block_lt_of_cell? _ _ ((vD HB hw550_0)))).trans ((vD HB hw550_0)), (World.cell?_alloc_lt _ _ _ (World.block_lt_of_cell? _ _ ((vD HB hw550_1)))).trans ((vD HB hw550_1)), (World.cell?_alloc_lt _ _ _ (World.block_lt_of_cell? _ _ ((vD HB hw550_2)))).trans ((vD HB hw550_2)), (World.cell?_alloc_lt _ _ _ (World.block_lt_of_cell? _ _ ((vD HB hw550_3)))).trans ((vD HB hw550_3)), (World.cell?_alloc_lt _ _ _ (World.block_lt_of_cell? _ _ ((vD HB hw550_4)))).trans ((vD HB hw550_4)), (World.cell?_alloc_lt _ _ _ (World.block_lt_of_cell? _ _ ((vD HB hw550_5)))).trans ((vD HB hw550_5)), (World.cell?_alloc_lt _ _ _ (World.block_lt_of_cell? _ _ ((vD HB hw550_6)))).trans ((vD HB hw550_6)), (World.cell?_alloc_lt _ _ _ (World.block_lt_of_cell? _ _ ((vD HB hw550_7)))).trans ((vD HB hw550_7))⟩ (fun hHeld => ?_)
            clear hK K
            refine norm_ (a' := ?_) ?_ ?_
            rotate_left
            ·show Act.put _ (some 50) _ = _
             simp only [Act.put, pB, pC, pD, i64_w, i32_w]
             rfl
            refine one_ (i := 10) (N := some 51) #[true, true, true, true, true, true, true, true, true, true, true, false, false] rfl rfl (one_of HT_.out (by kernel_rfl)) (by decide) (fun K hK => ?_)
            refine Kd.R_append_step (Kd.int .i64) (w0 := w) w.heap.size (by rfl) (.tmp 42) (.tmp 50) 38 3 (.int .i64 0) 8 rfl Try.underlying38 info3 rfl (by decide) (by omega) u550002 x550002_2 ((rd_T52 l0_2 x6_2).f1.f1) [.int .i64 ((rd_T52 l0_2 x6_2).f1.f1)] (fun _ => True) (fun _ => False) rfl rfl ?aP (fun _ hk => hk.elim) ?aF ?aO ?aB ?aS ?aL ?_
            (case aP => exact rfl)
            (case aB => exact (by repeat (first | (with_reducible first | exact HB.out | apply below_alloc | apply pw_below_drewN | apply below_drew1 | refine below_set ?_ GE544.out | refine below_set ?_ GE545.out | refine below_set ?_ GE549.out) | exact HB.out)))
            (case aF => exact (fun _ _ => trivial))
            (case aO => exact (vR HO_550002))
            (case aS => exact (below_size (by repeat (first | (with_reducible first | exact HB.out | apply below_alloc | apply pw_below_drewN | apply below_drew1 | refine below_set ?_ GE544.out | refine below_set ?_ GE545.out | refine below_set ?_ GE549.out) | exact HB.out))))
            (case aL => have := LMc26.out; omega)
            intro v552 w31 ho hb hg hat
            rw [← Ny551.out] at ho
            have n0_ := pA (blk_grown (g := gb544) (o := .cells #[.int .i64 a0_0, .int .i64 a0_1, .slice (some ad548) l0_2.length c0_2] 43 (0, 0)) (vK BK544) hg (Kd.R_ne HO_550002.out BK544.out (by decide)))
            have n1_ := pA (blk_grown (g := gb545) (o := .cells #[.int .i64 x546000_1, .int .i64 x546001_1, .slice none 0 0] 75 (0, 0)) (vK BK545) hg (Kd.R_ne HO_550002.out BK545.out (by decide)))
            have n2_ := pA (blk_grown (g := gb549) (o := .cells #[.int .i64 x4_1, .int .i64 ((rd_T52 l0_2 x4_1).f2.f0), u550002] 75 (0, 0)) (vK BK549) hg (Kd.R_ne HO_550002.out BK549.out (by decide)))
            have n3_ := pA (hb)
            have n4_ := pA (ho)
            clear BK544
            clear BK545
            clear BK549
            clear HB
            clear HO_550002
            have BK544 := n0_
            have BK545 := n1_
            have BK549 := n2_
            have HB := n3_
            have HO553 := n4_
            clear n0_ n1_ n2_ n3_ n4_
            clear ho hb hg hat
            obtain ⟨Ao32, co32, eo32⟩ := Kd.R_slice HO553.out
            (first | subst eo32 | (injection eo32 with f1_ f2_ f3_; have f4_ := f1_.symm; have f5_ := f3_.symm; clear f1_ f2_ f3_; subst f4_; subst f5_))
            refine hK.out _ _ ⟨(blk_cell BK549.out 0).trans rfl, (blk_cell BK549.out 1).trans rfl, (blk_cell BK549.out 2).trans rfl, (blk_cell BK544.out 0).trans rfl, (blk_cell BK544.out 1).trans rfl, (blk_cell BK544.out 2).trans rfl, (vD HB hw550_0), (vD HB hw550_1), (vD HB hw550_2), (vD HB hw550_3), (vD HB hw550_4), (vD HB hw550_5), (vD HB hw550_6), (vD HB hw550_7)⟩ (fun hHeld => ?_)
            clear hK K
            refine norm_ (a' := ?_) ?_ ?_
            rotate_left
            ·show Act.put _ (some 51) _ = _
             simp only [Act.put, pB, pC, pD, i64_w, i32_w]
             rfl
            refine pure_ (i := 11) (N := some 52) (v := ?_) (a' := ?_) #[true, true, true, true, true, true, true, true, true, true, true, true, false] rfl rfl (any_of HT_.out (by kernel_rfl)) (fun _ _ _ h => h) (Or.inl ⟨by rfl, ?_⟩) ?_ ?_
            rotate_left
            ·intro w'
             go_simp
             with_reducible rfl
            rotate_left
            ·simp only [Act.put, pB, pC, pD, i64_w, i32_w]
             rfl
            refine last_ (i := 12) (N := none) #[true, true, true, true, true, true, true, true, true, true, true, true, true] rfl rfl (one_of HT_.out (by kernel_rfl)) (by decide) (fun K hK => ?_)
            have hs33 : w31.cell? ⟨gb549, 2, none⟩ = some (u550002) := (blk_cell BK549.out 2).trans rfl
            have hfs33 := blk_frozen BK549.out 2
            have hns33_0 := NB544_549.out
            have hns33_1 := NB545_549.out
            have hms33_0 := NB549_544.out
            have hms33_1 := NB549_545.out
            refine skip_ (w1 := ?_) (by rfl) rfl ?_ ?_
            rotate_left
            ·go_simp
             rfl
            refine hK.out _ _ ?_
            clear hK K
            refine done_ (done_of HT_.out (by kernel_rfl)) ?_
            try go_wp2
            go_roundg k2
            case measure => have := HK1.out; have := HK2.out; omega
            case rel => exact ⟨(wrap64 (x6_2 + 1)), (y551), (.slice Ao32 y551.length co32), (by first | rfl | (simp; done) | (simp [*]; done)), H', ⟨by have := HK1.out; have := HK2.out; omega⟩, ⟨by (with_reducible repeat (first | apply Kd.R_alloc | apply Kd.R_drewN | apply Kd.R_drew)); exact Kd.R_mono (Kd.R_far (p := ⟨gb549, 2, none⟩) (Kd.R_types HO553.out BK549.out (by decide)) (fun _ hk => hk.2) (.slice Ao32 y551.length co32)) (fun _ hk => trivial)⟩, ⟨by (with_reducible repeat refine vS ?_); refine blk_far ?_ NB544_549.out _; (with_reducible repeat refine vS ?_); exact BK544.out⟩, ⟨by (with_reducible repeat refine vS ?_); refine blk_far ?_ NB545_549.out _; (with_reducible repeat refine vS ?_); exact BK545.out⟩, ⟨by (with_reducible repeat refine vS ?_); refine blk_put (cs := #[.int .i64 x4_1, .int .i64 ((rd_T52 l0_2 x4_1).f2.f0), u550002]) ?_ 2 _ rfl; (with_reducible repeat refine vS ?_); exact BK549.out⟩, ⟨by repeat (first | (with_reducible first | exact HB.out | apply below_alloc | apply pw_below_drewN | apply below_drew1 | refine below_set ?_ GE544.out | refine below_set ?_ GE545.out | refine below_set ?_ GE549.out) | exact HB.out)⟩⟩
           ·rw [if_neg c26] at H
            exact absurd H (by simp)
          ·rw [if_neg c25] at H
           exact absurd H (by simp)
         ·rw [if_neg c24] at H
          have c24b0 : decide (x6_2 < (l0_2.length : Int)) = false := decide_eq_false c24
          clear c24
          simp only [Option.some.injEq, Prod.mk.injEq] at H
          obtain ⟨rfl, rfl, rfl, rfl⟩ := H
          have hnb34 := NB544_545.out
          have hnc34 := NB545_544.out
          have hnb35 := NB544_549.out
          have hnc35 := NB549_544.out
          have hcz36_0 : wr.cell? ⟨gb544, 0, none⟩ = some (.int .i64 a0_0) := (blk_cell BK544.out 0).trans rfl
          have hcz36_1 : wr.cell? ⟨gb544, 1, none⟩ = some (.int .i64 a0_1) := (blk_cell BK544.out 1).trans rfl
          have hcz36_2 : wr.cell? ⟨gb544, 2, none⟩ = some (.slice (some ad548) l0_2.length c0_2) := (blk_cell BK544.out 2).trans rfl
          have hfz36_0 := blk_frozen BK544.out 0
          have hfz36_1 := blk_frozen BK544.out 1
          have hfz36_2 := blk_frozen BK544.out 2
          have hnb37 := NB549_545.out
          have hnc37 := NB545_549.out
          have hcz38_0 : wr.cell? ⟨gb549, 0, none⟩ = some (.int .i64 x4_1) := (blk_cell BK549.out 0).trans rfl
          have hcz38_1 : wr.cell? ⟨gb549, 1, none⟩ = some (.int .i64 ((rd_T52 l0_2 x4_1).f2.f0)) := (blk_cell BK549.out 1).trans rfl
          have hcz38_2 : wr.cell? ⟨gb549, 2, none⟩ = some (u550002) := (blk_cell BK549.out 2).trans rfl
          have hfz38_0 := blk_frozen BK549.out 0
          have hfz38_1 := blk_frozen BK549.out 1
          have hfz38_2 := blk_frozen BK549.out 2
          have hcz39_0 : wr.cell? ⟨gb545, 0, none⟩ = some (.int .i64 x546000_1) := (blk_cell BK545.out 0).trans rfl
          have hcz39_1 : wr.cell? ⟨gb545, 1, none⟩ = some (.int .i64 x546001_1) := (blk_cell BK545.out 1).trans rfl
          have hcz39_2 : wr.cell? ⟨gb545, 2, none⟩ = some (.slice none 0 0) := (blk_cell BK545.out 2).trans rfl
          have hfz39_0 := blk_frozen BK545.out 0
          have hfz39_1 := blk_frozen BK545.out 1
          have hfz39_2 := blk_frozen BK545.out 2
          obtain ⟨Ao40, co40, eo40⟩ := Kd.R_slice HO_550002.out
          subst eo40
          go_wp2
          refine bodyPost_ret (results_ct rfl _ _ gb545 75 #[.int .i64 x4_1, .int .i64 ((rd_T52 l0_2 x4_1).f2.f0), .slice Ao40 x550002_2.length co40] (0, 0) _ rfl (by (with_reducible repeat refine vS ?_); refine blk_put (cs := #[.int .i64 x4_1, .int .i64 ((rd_T52 l0_2 x4_1).f2.f0), .slice none 0 0]) ?_ 2 _ rfl; (with_reducible repeat refine vS ?_); refine blk_put (cs := #[.int .i64 x4_1, .int .i64 x546001_1, .slice none 0 0]) ?_ 1 _ rfl; (with_reducible repeat refine vS ?_); refine blk_put (cs := #[.int .i64 x546000_1, .int .i64 x546001_1, .slice none 0 0]) ?_ 0 _ rfl; (with_reducible repeat refine vS ?_); exact BK545.out) Try.underlying75 rfl (by kernel_rfl)) rfl ?_
          exact ⟨_, by first | rfl | (simp [errW_none, errW_some] <;> rfl) | (simp [*, errW_none, errW_some] <;> rfl), by (with_reducible repeat (first | apply Kd.R_alloc | apply Kd.R_drewN | apply Kd.R_drew)); exact Kd.R_mono (Kd.R_far (p := ⟨gb545, 2, none⟩) (Kd.R_far (p := ⟨gb545, 1, none⟩) (Kd.R_far (p := ⟨gb545, 0, none⟩) (Kd.R_types HO_550002.out BK545.out (by decide)) (fun _ hk => hk.2) (.int .i64 x4_1)) (fun _ hk => hk.2) (.int .i64 ((rd_T52 l0_2 x4_1).f2.f0))) (fun _ hk => hk.2) (.slice Ao40 x550002_2.length co40)) (fun _ hk => trivial), by repeat (first | (with_reducible first | exact HB.out | apply below_alloc | apply pw_below_drewN | apply below_drew1 | refine below_set ?_ GE544.out | refine below_set ?_ GE545.out | refine below_set ?_ GE549.out) | exact HB.out)⟩
      ·rw [if_neg c15] at H
       exact absurd H (by simp)
    ·rw [if_neg c9] at H
     have c9b0 : decide (x4_1 < (l0_2.length : Int)) = false := decide_eq_false c9
     clear c9
     simp only [Option.some.injEq, Prod.mk.injEq] at H
     obtain ⟨rfl, rfl, rfl, rfl⟩ := H
     have hnb41 := NB544_545.out
     have hnc41 := NB545_544.out
     have hcz42_0 : wr.cell? ⟨gb544, 0, none⟩ = some (.int .i64 a0_0) := (blk_cell BK544.out 0).trans rfl
     have hcz42_1 : wr.cell? ⟨gb544, 1, none⟩ = some (.int .i64 a0_1) := (blk_cell BK544.out 1).trans rfl
     have hcz42_2 : wr.cell? ⟨gb544, 2, none⟩ = some (.slice A0_2 l0_2.length c0_2) := (blk_cell BK544.out 2).trans rfl
     have hfz42_0 := blk_frozen BK544.out 0
     have hfz42_1 := blk_frozen BK544.out 1
     have hfz42_2 := blk_frozen BK544.out 2
     have hcz43_0 : wr.cell? ⟨gb545, 0, none⟩ = some (.int .i64 x546000_1) := (blk_cell BK545.out 0).trans rfl
     have hcz43_1 : wr.cell? ⟨gb545, 1, none⟩ = some (.int .i64 x546001_1) := (blk_cell BK545.out 1).trans rfl
     have hcz43_2 : wr.cell? ⟨gb545, 2, none⟩ = some (.slice none 0 0) := (blk_cell BK545.out 2).trans rfl
     have hfz43_0 := blk_frozen BK545.out 0
     have hfz43_1 := blk_frozen BK545.out 1
     have hfz43_2 := blk_frozen BK545.out 2
     go_wp2
     refine bodyPost_ret (results_ct rfl _ _ gb545 75 #[.int .i64 0, .int .i64 0, .slice none 0 0] (0, 0) _ rfl (by (with_reducible repeat refine vS ?_); refine blk_put (cs := #[.int .i64 0, .int .i64 0, .slice none 0 0]) ?_ 2 _ rfl; (with_reducible repeat refine vS ?_); refine blk_put (cs := #[.int .i64 0, .int .i64 x546001_1, .slice none 0 0]) ?_ 1 _ rfl; (with_reducible repeat refine vS ?_); refine blk_put (cs := #[.int .i64 x546000_1, .int .i64 x546001_1, .slice none 0 0]) ?_ 0 _ rfl; (with_reducible repeat refine vS ?_); exact BK545.out) Try.underlying75 rfl (by kernel_rfl)) rfl ?_
     exact ⟨_, by first | rfl | (simp [errW_none, errW_some] <;> rfl) | (simp [*, errW_none, errW_some] <;> rfl), by first | exact Kd.R_nil _ _ _ _ _ | exact Kd.N_nil _ _ _ _ _ | exact Kd.V_nil _ _ _ _ _ | exact Kd.Q_nil _ _ _ _ _ | exact Kd.S_nil _ _ _ _ _, by repeat (first | (with_reducible first | exact HB.out | apply below_alloc | apply pw_below_drewN | apply below_drew1 | refine below_set ?_ GE544.out | refine below_set ?_ GE545.out) | exact HB.out)⟩
 ·rw [if_neg c3] at H
  have c3b0 : (t546 == 0) = false := beq_eq_false_iff_ne.mpr c3
  have c3b1 : (t546 != 0) = true := bne_iff_ne.mpr c3
  simp only [Option.some.injEq, Prod.mk.injEq] at H
  obtain ⟨rfl, rfl, rfl, rfl⟩ := H
  go_enter Try.func54, Try.ntmps54
  go_wp2_with (first | ((with_reducible refine gate_dst (N := 1) rfl ?_); refine box_event ?hg (N := 1) ?hd (cs := #[.int .i64 a0_0, .int .i64 a0_1, .slice A0_2 l0_2.length c0_2]) (t := 43) ?hr ?_; (case hd => rfl); (case hg => rfl); (case hr => first | (go_simp; done) | (go_simp; rfl)); intro gb544 hg w44 hbox hb; have n0_ := pA (below_step (vB HB) hb); have n1_ := pA (hbox); have n2_ := pA ((by rw [hg]; exact (below_size (vB HB)) : w.heap.size ≤ gb544)); have n3_ := pA ((by rw [hg]; exact (below_size (vB HB)) : w.heap.size ≤ gb544)); clear HB; have HB := n0_; have BK544 := n1_; have GW544 := n2_; have GE544 := n3_; clear n0_ n1_ n2_ n3_; clear hb hbox hg) | ((with_reducible refine gate_dst (N := 2) rfl ?_); refine box_event ?hg (N := 2) ?hd (cs := #[.int .i64 0, .int .i64 0, .slice none 0 0]) (t := 75) ?hr ?_; (case hd => rfl); (case hg => rfl); (case hr => first | (go_simp; done) | (go_simp; rfl)); intro gb545 hg w45 hbox hb; have n0_ := pA (blk_below (g := gb544) (o := .cells #[.int .i64 a0_0, .int .i64 a0_1, .slice A0_2 l0_2.length c0_2] 43 (0, 0)) (vK BK544) hb); have n1_ := pA (below_step (by repeat (first | (with_reducible first | exact HB.out | apply below_alloc | apply pw_below_drewN | apply below_drew1 | refine below_set ?_ GE544.out) | exact HB.out)) hb); have n2_ := pA (hbox); have n3_ := pA ((by rw [hg]; exact (below_size (by repeat (first | (with_reducible first | exact HB.out | apply below_alloc | apply pw_below_drewN | apply below_drew1 | refine below_set ?_ GE544.out) | exact HB.out))) : w.heap.size ≤ gb545)); have n4_ := pA ((by rw [hg]; exact (below_size (by repeat (first | (with_reducible first | exact HB.out | apply below_alloc | apply pw_below_drewN | apply below_drew1 | refine below_set ?_ GE544.out) | exact HB.out))) : w.heap.size ≤ gb545)); have n5_ := pA ((by rw [hg]; exact Nat.ne_of_lt (blk_lt (g := gb544) (o := .cells #[.int .i64 a0_0, .int .i64 a0_1, .slice A0_2 l0_2.length c0_2] 43 (0, 0)) (vK BK544)) : gb544 ≠ gb545)); have n6_ := pA ((by rw [hg]; exact Nat.ne_of_gt (blk_lt (g := gb544) (o := .cells #[.int .i64 a0_0, .int .i64 a0_1, .slice A0_2 l0_2.length c0_2] 43 (0, 0)) (vK BK544)) : gb545 ≠ gb544)); clear BK544; clear HB; have BK544 := n0_; have HB := n1_; have BK545 := n2_; have GW545 := n3_; have GE545 := n4_; have NB544_545 := n5_; have NB545_544 := n6_; clear n0_ n1_ n2_ n3_ n4_ n5_ n6_; clear hb hbox hg; have hnb46 := NB544_545.out; have hnc46 := NB545_544.out; have hcz47_0 : w45.cell? ⟨gb544, 0, none⟩ = some (.int .i64 a0_0) := (blk_cell BK544.out 0).trans rfl; have hcz47_1 : w45.cell? ⟨gb544, 1, none⟩ = some (.int .i64 a0_1) := (blk_cell BK544.out 1).trans rfl; have hcz47_2 : w45.cell? ⟨gb544, 2, none⟩ = some (.slice A0_2 l0_2.length c0_2) := (blk_cell BK544.out 2).trans rfl; have hfz47_0 := blk_frozen BK544.out 0; have hfz47_1 := blk_frozen BK544.out 1; have hfz47_2 := blk_frozen BK544.out 2) | ((with_reducible refine aF (f := 48) rfl ?_); refine goesL_ (some 8) rfl rfl Try.func48 (by kernel_rfl) rfl #[.agg #[.int .i64 a0_0, .int .i64 a0_1, .slice A0_2 l0_2.length c0_2]] rfl (by (try simp only [pE, pF, pG]); first | done | rfl | (simp only [pH, pI]; rfl)) ?_; (with_reducible refine (potbankref03_Check.calls k a0_0 a0_1 _ _ l0_2 t546 _ ?side1 ?side2 A2.out).mono ?_); (case side1 => repeat (first | exact (Kd.C_below HR0_2.out HB.out) | (with_reducible refine Kd.C_alloc ?_ _) | (with_reducible refine Kd.C_drewN ?_ _) | (with_reducible refine Kd.C_drew ?_))); (case side2 => exact HC0_2.out); rintro e w48 ⟨rfl, hb⟩; refine ⟨_, rfl, ?_⟩; have n0_ := pA (blk_below (g := gb544) (o := .cells #[.int .i64 a0_0, .int .i64 a0_1, .slice A0_2 l0_2.length c0_2] 43 (0, 0)) (vK BK544) hb); have n1_ := pA (blk_below (g := gb545) (o := .cells #[.int .i64 0, .int .i64 0, .slice none 0 0] 75 (0, 0)) (vK BK545) hb); have n2_ := pA (below_step (by repeat (first | (with_reducible first | exact HB.out | apply below_alloc | apply pw_below_drewN | apply below_drew1 | refine below_set ?_ GE544.out | refine below_set ?_ GE545.out) | exact HB.out)) hb); clear BK544; clear BK545; clear HB; have BK544 := n0_; have BK545 := n1_; have HB := n2_; clear n0_ n1_ n2_; (try clear hb); (try clear hb2); (try clear hk); (try clear hi); have hcz49_0 : w48.cell? ⟨gb545, 0, none⟩ = some (.int .i64 0) := (blk_cell BK545.out 0).trans rfl; have hcz49_1 : w48.cell? ⟨gb545, 1, none⟩ = some (.int .i64 0) := (blk_cell BK545.out 1).trans rfl; have hcz49_2 : w48.cell? ⟨gb545, 2, none⟩ = some (.slice none 0 0) := (blk_cell BK545.out 2).trans rfl; have hfz49_0 := blk_frozen BK545.out 0; have hfz49_1 := blk_frozen BK545.out 1; have hfz49_2 := blk_frozen BK545.out 2))
  refine bodyPost_ret (results_ct rfl _ _ gb545 75 #[.int .i64 0, .int .i64 0, .slice none 0 0] (0, 0) _ rfl (by (with_reducible repeat refine vS ?_); refine blk_put (cs := #[.int .i64 0, .int .i64 0, .slice none 0 0]) ?_ 2 _ rfl; (with_reducible repeat refine vS ?_); refine blk_put (cs := #[.int .i64 0, .int .i64 0, .slice none 0 0]) ?_ 1 _ rfl; (with_reducible repeat refine vS ?_); refine blk_put (cs := #[.int .i64 0, .int .i64 0, .slice none 0 0]) ?_ 0 _ rfl; (with_reducible repeat refine vS ?_); exact BK545.out) Try.underlying75 rfl (by kernel_rfl)) rfl ?_
  exact ⟨_, by first | rfl | (simp [errW_none, errW_some] <;> rfl) | (simp [*, errW_none, errW_some] <;> rfl), by first | exact Kd.R_nil _ _ _ _ _ | exact Kd.N_nil _ _ _ _ _ | exact Kd.V_nil _ _ _ _ _ | exact Kd.Q_nil _ _ _ _ _ | exact Kd.S_nil _ _ _ _ _, by repeat (first | (with_reducible first | exact HB.out | apply below_alloc | apply pw_below_drewN | apply below_drew1 | refine below_set ?_ GE544.out | refine below_set ?_ GE545.out) | exact HB.out)⟩
mutual
def bung_isBreak.j0 : Nat → List (S52) → Bool → Int → Int → List Int → Option (Bool)
 | 0, _, _, _, _, _ => none
 | k + 1, x5, x43, x555000, x555001, x555002 => if x43 = true then (some false) else (bung_isBreak.l0 k x5 0 x555002 (x555002.length : Int) 0 x555000 x555001 x555002)
def bung_isBreak.l0 : Nat → List (S52) → Int → List Int → Int → Int → Int → Int → List Int → Option (Bool)
 | 0, _, _, _, _, _, _, _, _ => none
 | k + 1, x5, x7, x45, x46, x47, x555000, x555001, x555002 => if x47 < x46 then (if 0 ≤ x47 then (if x47 < (x45.length : Int) then (if x47 < (x5.length : Int) then ((bung_within.f (rd x45 x47) ((rd_T52 x5 x47).f1.f0) ((rd_T52 x5 x47).f1.f1)).bind fun t566 => (if t566 = true then (bung_isBreak.l0 k x5 (wrap64 (x7 + (rd x45 x47))) x45 x46 (wrap64 (x47 + 1)) x555000 x555001 x555002) else (some false))) else (none)) else (none)) else (none)) else (some (decide (x7 > x555001)))
end
def bung_isBreak.f (k : Nat) (l0 : List (S52)) (a1_0 : Int) (a1_1 : Int) (l1_2 : List Int) : Option (Bool) := (bung_within.f a1_0 0 (wrap64 ((l0.length : Int) - 1))).bind fun t555 => (if t555 = true then (if 0 ≤ (wrap64 (a1_0 + 1)) then (if (wrap64 (a1_0 + 1)) ≤ (l0.length : Int) then ((some (l0.drop ((wrap64 (a1_0 + 1)) : Int).toNat : List (S52))).bind fun y556 => (if 0 ≤ a1_0 then (if a1_0 < (l0.length : Int) then (if (l1_2.length : Int) = (y556.length : Int) then ((bung_within.f a1_1 ((rd_T52 l0 a1_0).f2.f0) ((rd_T52 l0 a1_0).f2.f1)).bind fun t562 => (bung_isBreak.j0 k y556 (!t562) a1_0 a1_1 l1_2)) else (bung_isBreak.j0 k y556 true a1_0 a1_1 l1_2)) else (none)) else (none))) else (none)) else (none)) else (some false))
theorem bung_isBreak.mono_l : ∀ k, (∀ y0 y1 y2 y3 y4, LeO (bung_isBreak.j0 k y0 y1 y2 y3 y4) (bung_isBreak.j0 (k + 1) y0 y1 y2 y3 y4)) ∧ (∀ y0 y1 y2 y3 y4 y5 y6 y7, LeO (bung_isBreak.l0 k y0 y1 y2 y3 y4 y5 y6 y7) (bung_isBreak.l0 (k + 1) y0 y1 y2 y3 y4 y5 y6 y7))
 | 0 => ⟨fun _ _ _ _ _ r h => by simp [bung_isBreak.j0] at h, fun _ _ _ _ _ _ _ _ r h => by simp [bung_isBreak.l0] at h⟩
 | k + 1 => by
  obtain ⟨ih0, ih1⟩ := bung_isBreak.mono_l k
  refine ⟨?_, ?_⟩
  ·intro y0 y1 y2 y3 y4
   unfold bung_isBreak.j0
   repeat' first
   | (with_reducible exact ih0 _ _ _ _ _)
   | (with_reducible exact ih1 _ _ _ _ _ _ _ _)
   | (with_reducible exact LeO.refl _)
   | (with_reducible exact LeO.none _)
   | (with_reducible refine LeO.ite ?_ ?_)
   | (with_reducible refine LeO.bind ?_ (fun _ => ?_))
   | exact ih0 _ _ _ _ _
   | exact ih1 _ _ _ _ _ _ _ _
   | exact LeO.none _
   | refine LeO.ite ?_ ?_
   | refine LeO.bind ?_ (fun _ => ?_)
  ·intro y0 y1 y2 y3 y4 y5 y6 y7
   unfold bung_isBreak.l0
   repeat' first
   | (with_reducible exact ih0 _ _ _ _ _)
   | (with_reducible exact ih1 _ _ _ _ _ _ _ _)
   | (with_reducible exact LeO.refl _)
   | (with_reducible exact LeO.none _)
   | (with_reducible refine LeO.ite ?_ ?_)
   | (with_reducible refine LeO.bind ?_ (fun _ => ?_))
   | exact ih0 _ _ _ _ _
   | exact ih1 _ _ _ _ _ _ _ _
   | exact LeO.none _
   | refine LeO.ite ?_ ?_
   | refine LeO.bind ?_ (fun _ => ?_)
theorem bung_isBreak.mono : ∀ a0 a1 a2 a3 k, LeO (bung_isBreak.f k a0 a1 a2 a3) (bung_isBreak.f (k + 1) a0 a1 a2 a3) := by
 intro a0 a1 a2 a3 k
 obtain ⟨ih0, ih1⟩ := bung_isBreak.mono_l k
 unfold bung_isBreak.f
 repeat' first
   | (with_reducible exact ih0 _ _ _ _ _)
   | (with_reducible exact ih1 _ _ _ _ _ _ _ _)
   | (with_reducible exact LeO.refl _)
   | (with_reducible exact LeO.none _)
   | (with_reducible refine LeO.ite ?_ ?_)
   | (with_reducible refine LeO.bind ?_ (fun _ => ?_))
   | exact ih0 _ _ _ _ _
   | exact ih1 _ _ _ _ _ _ _ _
   | exact LeO.none _
   | refine LeO.ite ?_ ?_
   | refine LeO.bind ?_ (fun _ => ?_)
def bung_isBreak.T3 : Bool × List (List Nat × List Nat) := (true, [([], []), ([], []), ([1], [1]), ([2], [2]), ([0, 3], [0, 3]), ([], []), ([], []), ([6], [6]), ([5, 7], [5, 7]), ([8], [8]), ([9], [9]), ([], []), ([4, 0, 1, 2, 3, 4, 11], [4]), ([11, 10, 12, 0, 1, 2, 3, 4, 5, 6, 7, 8, 9, 10, 11, 12], [10, 11])])
def bung_isBreak.B3 : List Nat := [0, 0, 2, 6, 15, 0, 0, 64, 224, 480, 992, 0, 2079, 8191]
theorem bung_isBreak.tab3 : rtab .any (opsOf Try.f105 3) = bung_isBreak.T3 := by kernel_rfl
theorem bung_isBreak.bits3 : waitsOk bung_isBreak.T3.2 bung_isBreak.B3 = true := by kernel_rfl
def bung_isBreak.T10 : Bool × List (List Nat × List Nat) := (true, [([], []), ([], []), ([], []), ([1, 2], [1, 2]), ([3], [3]), ([4], [4]), ([5], [5]), ([], []), ([], []), ([7, 8], [7, 8]), ([9], [9]), ([10], [10]), ([11], [11]), ([0, 6, 12], [0, 6, 12]), ([13], [13])])
def bung_isBreak.B10 : List Nat := [0, 0, 0, 6, 14, 30, 62, 0, 0, 384, 896, 1920, 3968, 8191, 16383]
theorem bung_isBreak.tab10 : rtab .any (opsOf Try.f105 10) = bung_isBreak.T10 := by kernel_rfl
theorem bung_isBreak.bits10 : waitsOk bung_isBreak.T10.2 bung_isBreak.B10 = true := by kernel_rfl
end Go.Proofs.Ytbiakjgjedhjhaa.P
