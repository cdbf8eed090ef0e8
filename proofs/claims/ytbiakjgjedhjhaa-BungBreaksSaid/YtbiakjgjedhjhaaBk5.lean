/- Proved: the law BungBreaks of the program potbank answers true for every input, and leaves its arguments as they were. Conditions: none. (Part 5 of the texts, put together by wip/assemble.py of this repository.) -/
import Derived.Test.YtbiakjgjedhjhaaBk4
set_option linter.unusedVariables false
set_option linter.unusedSimpArgs false
namespace Go.Proofs.Ytbiakjgjedhjhaa.P
open Go.RowKit Go.Proofs.YtbiakjgjedhjhaaW.PrintWords Go.Proofs.YtbiakjgjedhjhaaW.PrintLast
set_option maxHeartbeats 8000000 in
set_option maxRecDepth 100000 in
theorem bung_asked.calls (a0_0 : Int) (a0_1 : Int) (A1 : Option Addr) (c1 : Nat) (l1 : List (S52)) (a2_0 : Int) (a2_1 : Int) (r : Int) (w : World) (hr1 : Kd.C k52 w A1 l1.length l1) (hc1 : l1.length ≤ c1) (h : bung_asked.f a0_0 a0_1 l1 a2_0 a2_1 = some r) :
  Calls Try.prog 76 #[.agg #[.int .i64 a0_0, .int .i64 a0_1], .slice A1 l1.length c1, .agg #[.int .i64 a2_0, .int .i64 a2_1]] w fun e w' => e = .returned (.int .i64 r) ∧ Below w.heap.size w w' := by
 have hu23 := Try.underlying23
 have hu26 := Try.underlying26
 have HR1 := pA hr1
 have HC1 := pA hc1
 clear hr1 hc1
 have HB := pA (Below.refl w.heap.size w)
 have H : ((bung_isWad.f a0_0 a0_1).bind fun t176 => (if t176 = true then ((bung_isList.f l1).bind fun t177 => (if t177 = true then ((bung_isSpot.f a2_0 a2_1).bind fun t178 => (if t178 = true then (some 0) else (some 33))) else (some 30))) else (some 32))) = some r := h
 clear h
 replace H := Option.bind_eq_some_iff.mp H
 obtain ⟨t176, A40, H⟩ := H
 replace H : (if t176 = true then ((bung_isList.f l1).bind fun t177 => (if t177 = true then ((bung_isSpot.f a2_0 a2_1).bind fun t178 => (if t178 = true then (some 0) else (some 33))) else (some 30))) else (some 32)) = some r := H
 have A4 := pA A40
 clear A40
 by_cases c5 : t176 = true
 ·subst c5
  have H1 : ((bung_isList.f l1).bind fun t177 => (if t177 = true then ((bung_isSpot.f a2_0 a2_1).bind fun t178 => (if t178 = true then (some 0) else (some 33))) else (some 30))) = some r := by rw [if_pos rfl] at H; exact H
  clear H
  have H := H1
  clear H1
  replace H := Option.bind_eq_some_iff.mp H
  obtain ⟨t177, A60, H⟩ := H
  replace H : (if t177 = true then ((bung_isSpot.f a2_0 a2_1).bind fun t178 => (if t178 = true then (some 0) else (some 33))) else (some 30)) = some r := H
  have A6 := pA A60
  clear A60
  by_cases c7 : t177 = true
  ·subst c7
   have H1 : ((bung_isSpot.f a2_0 a2_1).bind fun t178 => (if t178 = true then (some 0) else (some 33))) = some r := by rw [if_pos rfl] at H; exact H
   clear H
   have H := H1
   clear H1
   replace H := Option.bind_eq_some_iff.mp H
   obtain ⟨t178, A80, H⟩ := H
   replace H : (if t178 = true then (some 0) else (some 33)) = some r := H
   have A8 := pA A80
   clear A80
   by_cases c9 : t178 = true
   ·subst c9
    have H1 : (some 0) = some r := by rw [if_pos rfl] at H; exact H
    clear H
    have H := H1
    clear H1
    obtain rfl := Option.some.inj H
    go_enter Try.func76, Try.ntmps76
    go_wp2_with (first | ((with_reducible refine gate_dst (N := 3) rfl ?_); refine box_event ?hg (N := 3) ?hd (cs := #[.int .i64 a0_0, .int .i64 a0_1]) (t := 23) ?hr ?_; (case hd => rfl); (case hg => rfl); (case hr => first | (go_simp; done) | (go_simp; rfl)); intro gb174 hg w10 hbox hb; have n0_ := pA (below_step (vB HB) hb); have n1_ := pA (hbox); have n2_ := pA ((by rw [hg]; exact (below_size (vB HB)) : w.heap.size ≤ gb174)); have n3_ := pA ((by rw [hg]; exact (below_size (vB HB)) : w.heap.size ≤ gb174)); clear HB; have HB := n0_; have BK174 := n1_; have GW174 := n2_; have GE174 := n3_; clear n0_ n1_ n2_ n3_; clear hb hbox hg) | ((with_reducible refine gate_dst (N := 5) rfl ?_); refine box_event ?hg (N := 5) ?hd (cs := #[.int .i64 a2_0, .int .i64 a2_1]) (t := 26) ?hr ?_; (case hd => rfl); (case hg => rfl); (case hr => first | (go_simp; done) | (go_simp; rfl)); intro gb175 hg w11 hbox hb; have n0_ := pA (blk_below (g := gb174) (o := .cells #[.int .i64 a0_0, .int .i64 a0_1] 23 (0, 0)) (vK BK174) hb); have n1_ := pA (below_step (by repeat (first | (with_reducible first | exact HB.out | apply below_alloc | apply pw_below_drewN | apply below_drew1 | refine below_set ?_ GE174.out) | exact HB.out)) hb); have n2_ := pA (hbox); have n3_ := pA ((by rw [hg]; exact (below_size (by repeat (first | (with_reducible first | exact HB.out | apply below_alloc | apply pw_below_drewN | apply below_drew1 | refine below_set ?_ GE174.out) | exact HB.out))) : w.heap.size ≤ gb175)); have n4_ := pA ((by rw [hg]; exact (below_size (by repeat (first | (with_reducible first | exact HB.out | apply below_alloc | apply pw_below_drewN | apply below_drew1 | refine below_set ?_ GE174.out) | exact HB.out))) : w.heap.size ≤ gb175)); have n5_ := pA ((by rw [hg]; exact Nat.ne_of_lt (blk_lt (g := gb174) (o := .cells #[.int .i64 a0_0, .int .i64 a0_1] 23 (0, 0)) (vK BK174)) : gb174 ≠ gb175)); have n6_ := pA ((by rw [hg]; exact Nat.ne_of_gt (blk_lt (g := gb174) (o := .cells #[.int .i64 a0_0, .int .i64 a0_1] 23 (0, 0)) (vK BK174)) : gb175 ≠ gb174)); clear BK174; clear HB; have BK174 := n0_; have HB := n1_; have BK175 := n2_; have GW175 := n3_; have GE175 := n4_; have NB174_175 := n5_; have NB175_174 := n6_; clear n0_ n1_ n2_ n3_ n4_ n5_ n6_; clear hb hbox hg; have hnb12 := NB174_175.out; have hnc12 := NB175_174.out; have hcz13_0 : w11.cell? ⟨gb174, 0, none⟩ = some (.int .i64 a0_0) := (blk_cell BK174.out 0).trans rfl; have hcz13_1 : w11.cell? ⟨gb174, 1, none⟩ = some (.int .i64 a0_1) := (blk_cell BK174.out 1).trans rfl; have hfz13_0 := blk_frozen BK174.out 0; have hfz13_1 := blk_frozen BK174.out 1) | ((with_reducible refine aF (f := 110) rfl ?_); refine goesL_ (some 9) rfl rfl Try.func110 (by kernel_rfl) rfl #[.agg #[.int .i64 a0_0, .int .i64 a0_1]] rfl (by (try simp only [pE, pF, pG]); first | done | rfl | (simp only [pH, pI]; rfl)) ?_; (with_reducible refine (bung_isWad.calls a0_0 a0_1 true _ A4.out).mono ?_); rintro e w14 ⟨rfl, hb⟩; refine ⟨_, rfl, ?_⟩; have n0_ := pA (blk_below (g := gb174) (o := .cells #[.int .i64 a0_0, .int .i64 a0_1] 23 (0, 0)) (vK BK174) hb); have n1_ := pA (blk_below (g := gb175) (o := .cells #[.int .i64 a2_0, .int .i64 a2_1] 26 (0, 0)) (vK BK175) hb); have n2_ := pA (below_step (by repeat (first | (with_reducible first | exact HB.out | apply below_alloc | apply pw_below_drewN | apply below_drew1 | refine below_set ?_ GE174.out | refine below_set ?_ GE175.out) | exact HB.out)) hb); clear BK174; clear BK175; clear HB; have BK174 := n0_; have BK175 := n1_; have HB := n2_; clear n0_ n1_ n2_; (try clear hb); (try clear hb2); (try clear hk); (try clear hi)) | ((with_reducible refine aF (f := 94) rfl ?_); refine goesL_ (some 13) rfl rfl Try.func94 (by kernel_rfl) rfl #[.slice A1 l1.length c1] rfl (by (try simp only [pE, pF, pG]); first | done | rfl | (simp only [pH, pI]; rfl)) ?_; (with_reducible refine (bung_isList.calls _ _ l1 true _ ?side1 ?side2 A6.out).mono ?_); (case side1 => repeat (first | exact (Kd.C_below HR1.out HB.out) | (with_reducible refine Kd.C_alloc ?_ _) | (with_reducible refine Kd.C_drewN ?_ _) | (with_reducible refine Kd.C_drew ?_))); (case side2 => exact HC1.out); rintro e w15 ⟨rfl, hb⟩; refine ⟨_, rfl, ?_⟩; have n0_ := pA (blk_below (g := gb174) (o := .cells #[.int .i64 a0_0, .int .i64 a0_1] 23 (0, 0)) (vK BK174) hb); have n1_ := pA (blk_below (g := gb175) (o := .cells #[.int .i64 a2_0, .int .i64 a2_1] 26 (0, 0)) (vK BK175) hb); have n2_ := pA (below_step (by repeat (first | (with_reducible first | exact HB.out | apply below_alloc | apply pw_below_drewN | apply below_drew1 | refine below_set ?_ GE174.out | refine below_set ?_ GE175.out) | exact HB.out)) hb); clear BK174; clear BK175; clear HB; have BK174 := n0_; have BK175 := n1_; have HB := n2_; clear n0_ n1_ n2_; (try clear hb); (try clear hb2); (try clear hk); (try clear hi); have hcz16_0 : w15.cell? ⟨gb175, 0, none⟩ = some (.int .i64 a2_0) := (blk_cell BK175.out 0).trans rfl; have hcz16_1 : w15.cell? ⟨gb175, 1, none⟩ = some (.int .i64 a2_1) := (blk_cell BK175.out 1).trans rfl; have hfz16_0 := blk_frozen BK175.out 0; have hfz16_1 := blk_frozen BK175.out 1) | ((with_reducible refine aF (f := 85) rfl ?_); refine goesL_ (some 17) rfl rfl Try.func85 (by kernel_rfl) rfl #[.agg #[.int .i64 a2_0, .int .i64 a2_1]] rfl (by (try simp only [pE, pF, pG]); first | done | rfl | (simp only [pH, pI]; rfl)) ?_; (with_reducible refine (bung_isSpot.calls a2_0 a2_1 true _ A8.out).mono ?_); rintro e w17 ⟨rfl, hb⟩; refine ⟨_, rfl, ?_⟩; have n0_ := pA (blk_below (g := gb174) (o := .cells #[.int .i64 a0_0, .int .i64 a0_1] 23 (0, 0)) (vK BK174) hb); have n1_ := pA (blk_below (g := gb175) (o := .cells #[.int .i64 a2_0, .int .i64 a2_1] 26 (0, 0)) (vK BK175) hb); have n2_ := pA (below_step (by repeat (first | (with_reducible first | exact HB.out | apply below_alloc | apply pw_below_drewN | apply below_drew1 | refine below_set ?_ GE174.out | refine below_set ?_ GE175.out) | exact HB.out)) hb); clear BK174; clear BK175; clear HB; have BK174 := n0_; have BK175 := n1_; have HB := n2_; clear n0_ n1_ n2_; (try clear hb); (try clear hb2); (try clear hk); (try clear hi)))
    go_ret
    exact ⟨by first | rfl | (simp [errW_none, errW_some] <;> rfl) | (simp [*, errW_none, errW_some] <;> rfl), by repeat (first | (with_reducible first | exact HB.out | apply below_alloc | apply pw_below_drewN | apply below_drew1 | refine below_set ?_ GE174.out | refine below_set ?_ GE175.out) | exact HB.out)⟩
   ·replace c9 := Bool.eq_false_iff.mpr c9
    subst c9
    have H1 : (some 33) = some r := by rw [if_neg (show ¬ (false = true) by decide)] at H; exact H
    clear H
    have H := H1
    clear H1
    obtain rfl := Option.some.inj H
    go_enter Try.func76, Try.ntmps76
    go_wp2_with (first | ((with_reducible refine gate_dst (N := 3) rfl ?_); refine box_event ?hg (N := 3) ?hd (cs := #[.int .i64 a0_0, .int .i64 a0_1]) (t := 23) ?hr ?_; (case hd => rfl); (case hg => rfl); (case hr => first | (go_simp; done) | (go_simp; rfl)); intro gb174 hg w18 hbox hb; have n0_ := pA (below_step (vB HB) hb); have n1_ := pA (hbox); have n2_ := pA ((by rw [hg]; exact (below_size (vB HB)) : w.heap.size ≤ gb174)); have n3_ := pA ((by rw [hg]; exact (below_size (vB HB)) : w.heap.size ≤ gb174)); clear HB; have HB := n0_; have BK174 := n1_; have GW174 := n2_; have GE174 := n3_; clear n0_ n1_ n2_ n3_; clear hb hbox hg) | ((with_reducible refine gate_dst (N := 5) rfl ?_); refine box_event ?hg (N := 5) ?hd (cs := #[.int .i64 a2_0, .int .i64 a2_1]) (t := 26) ?hr ?_; (case hd => rfl); (case hg => rfl); (case hr => first | (go_simp; done) | (go_simp; rfl)); intro gb175 hg w19 hbox hb; have n0_ := pA (blk_below (g := gb174) (o := .cells #[.int .i64 a0_0, .int .i64 a0_1] 23 (0, 0)) (vK BK174) hb); have n1_ := pA (below_step (by repeat (first | (with_reducible first | exact HB.out | apply below_alloc | apply pw_below_drewN | apply below_drew1 | refine below_set ?_ GE174.out) | exact HB.out)) hb); have n2_ := pA (hbox); have n3_ := pA ((by rw [hg]; exact (below_size (by repeat (first | (with_reducible first | exact HB.out | apply below_alloc | apply pw_below_drewN | apply below_drew1 | refine below_set ?_ GE174.out) | exact HB.out))) : w.heap.size ≤ gb175)); have n4_ := pA ((by rw [hg]; exact (below_size (by repeat (first | (with_reducible first | exact HB.out | apply below_alloc | apply pw_below_drewN | apply below_drew1 | refine below_set ?_ GE174.out) | exact HB.out))) : w.heap.size ≤ gb175)); have n5_ := pA ((by rw [hg]; exact Nat.ne_of_lt (blk_lt (g := gb174) (o := .cells #[.int .i64 a0_0, .int .i64 a0_1] 23 (0, 0)) (vK BK174)) : gb174 ≠ gb175)); have n6_ := pA ((by rw [hg]; exact Nat.ne_of_gt (blk_lt (g := gb174) (o := .cells #[.int .i64 a0_0, .int .i64 a0_1] 23 (0, 0)) (vK BK174)) : gb175 ≠ gb174)); clear BK174; clear HB; have BK174 := n0_; have HB := n1_; have BK175 := n2_; have GW175 := n3_; have GE175 := n4_; have NB174_175 := n5_; have NB175_174 := n6_; clear n0_ n1_ n2_ n3_ n4_ n5_ n6_; clear hb hbox hg; have hnb20 := NB174_175.out; have hnc20 := NB175_174.out; have hcz21_0 : w19.cell? ⟨gb174, 0, none⟩ = some (.int .i64 a0_0) := (blk_cell BK174.out 0).trans rfl; have hcz21_1 : w19.cell? ⟨gb174, 1, none⟩ = some (.int .i64 a0_1) := (blk_cell BK174.out 1).trans rfl; have hfz21_0 := blk_frozen BK174.out 0; have hfz21_1 := blk_frozen BK174.out 1) | ((with_reducible refine aF (f := 110) rfl ?_); refine goesL_ (some 9) rfl rfl Try.func110 (by kernel_rfl) rfl #[.agg #[.int .i64 a0_0, .int .i64 a0_1]] rfl (by (try simp only [pE, pF, pG]); first | done | rfl | (simp only [pH, pI]; rfl)) ?_; (with_reducible refine (bung_isWad.calls a0_0 a0_1 true _ A4.out).mono ?_); rintro e w22 ⟨rfl, hb⟩; refine ⟨_, rfl, ?_⟩; have n0_ := pA (blk_below (g := gb174) (o := .cells #[.int .i64 a0_0, .int .i64 a0_1] 23 (0, 0)) (vK BK174) hb); have n1_ := pA (blk_below (g := gb175) (o := .cells #[.int .i64 a2_0, .int .i64 a2_1] 26 (0, 0)) (vK BK175) hb); have n2_ := pA (below_step (by repeat (first | (with_reducible first | exact HB.out | apply below_alloc | apply pw_below_drewN | apply below_drew1 | refine below_set ?_ GE174.out | refine below_set ?_ GE175.out) | exact HB.out)) hb); clear BK174; clear BK175; clear HB; have BK174 := n0_; have BK175 := n1_; have HB := n2_; clear n0_ n1_ n2_; (try clear hb); (try clear hb2); (try clear hk); (try clear hi)) | ((with_reducible refine aF (f := 94) rfl ?_); refine goesL_ (some 13) rfl rfl Try.func94 (by kernel_rfl) rfl #[.slice A1 l1.length c1] rfl (by (try simp only [pE, pF, pG]); first | done | rfl | (simp only [pH, pI]; rfl)) ?_; (with_reducible refine (bung_isList.calls _ _ l1 true _ ?side1 ?side2 A6.out).mono ?_); (case side1 => repeat (first | exact (Kd.C_below HR1.out HB.out) | (with_reducible refine Kd.C_alloc ?_ _) | (with_reducible refine Kd.C_drewN ?_ _) | (with_reducible refine Kd.C_drew ?_))); (case side2 => exact HC1.out); rintro e w23 ⟨rfl, hb⟩; refine ⟨_, rfl, ?_⟩; have n0_ := pA (blk_below (g := gb174) (o := .cells #[.int .i64 a0_0, .int .i64 a0_1] 23 (0, 0)) (vK BK174) hb); have n1_ := pA (blk_below (g := gb175) (o := .cells #[.int .i64 a2_0, .int .i64 a2_1] 26 (0, 0)) (vK BK175) hb); have n2_ := pA (below_step (by repeat (first | (with_reducible first | exact HB.out | apply below_alloc | apply pw_below_drewN | apply below_drew1 | refine below_set ?_ GE174.out | refine below_set ?_ GE175.out) | exact HB.out)) hb); clear BK174; clear BK175; clear HB; have BK174 := n0_; have BK175 := n1_; have HB := n2_; clear n0_ n1_ n2_; (try clear hb); (try clear hb2); (try clear hk); (try clear hi); have hcz24_0 : w23.cell? ⟨gb175, 0, none⟩ = some (.int .i64 a2_0) := (blk_cell BK175.out 0).trans rfl; have hcz24_1 : w23.cell? ⟨gb175, 1, none⟩ = some (.int .i64 a2_1) := (blk_cell BK175.out 1).trans rfl; have hfz24_0 := blk_frozen BK175.out 0; have hfz24_1 := blk_frozen BK175.out 1) | ((with_reducible refine aF (f := 85) rfl ?_); refine goesL_ (some 17) rfl rfl Try.func85 (by kernel_rfl) rfl #[.agg #[.int .i64 a2_0, .int .i64 a2_1]] rfl (by (try simp only [pE, pF, pG]); first | done | rfl | (simp only [pH, pI]; rfl)) ?_; (with_reducible refine (bung_isSpot.calls a2_0 a2_1 false _ A8.out).mono ?_); rintro e w25 ⟨rfl, hb⟩; refine ⟨_, rfl, ?_⟩; have n0_ := pA (blk_below (g := gb174) (o := .cells #[.int .i64 a0_0, .int .i64 a0_1] 23 (0, 0)) (vK BK174) hb); have n1_ := pA (blk_below (g := gb175) (o := .cells #[.int .i64 a2_0, .int .i64 a2_1] 26 (0, 0)) (vK BK175) hb); have n2_ := pA (below_step (by repeat (first | (with_reducible first | exact HB.out | apply below_alloc | apply pw_below_drewN | apply below_drew1 | refine below_set ?_ GE174.out | refine below_set ?_ GE175.out) | exact HB.out)) hb); clear BK174; clear BK175; clear HB; have BK174 := n0_; have BK175 := n1_; have HB := n2_; clear n0_ n1_ n2_; (try clear hb); (try clear hb2); (try clear hk); (try clear hi)))
    go_ret
    exact ⟨by first | rfl | (simp [errW_none, errW_some] <;> rfl) | (simp [*, errW_none, errW_some] <;> rfl), by repeat (first | (with_reducible first | exact HB.out | apply below_alloc | apply pw_below_drewN | apply below_drew1 | refine below_set ?_ GE174.out | refine below_set ?_ GE175.out) | exact HB.out)⟩
  ·replace c7 := Bool.eq_false_iff.mpr c7
   subst c7
   have H1 : (some 30) = some r := by rw [if_neg (show ¬ (false = true) by decide)] at H; exact H
   clear H
   have H := H1
   clear H1
   obtain rfl := Option.some.inj H
   go_enter Try.func76, Try.ntmps76
   go_wp2_with (first | ((with_reducible refine gate_dst (N := 3) rfl ?_); refine box_event ?hg (N := 3) ?hd (cs := #[.int .i64 a0_0, .int .i64 a0_1]) (t := 23) ?hr ?_; (case hd => rfl); (case hg => rfl); (case hr => first | (go_simp; done) | (go_simp; rfl)); intro gb174 hg w26 hbox hb; have n0_ := pA (below_step (vB HB) hb); have n1_ := pA (hbox); have n2_ := pA ((by rw [hg]; exact (below_size (vB HB)) : w.heap.size ≤ gb174)); have n3_ := pA ((by rw [hg]; exact (below_size (vB HB)) : w.heap.size ≤ gb174)); clear HB; have HB := n0_; have BK174 := n1_; have GW174 := n2_; have GE174 := n3_; clear n0_ n1_ n2_ n3_; clear hb hbox hg) | ((with_reducible refine gate_dst (N := 5) rfl ?_); refine box_event ?hg (N := 5) ?hd (cs := #[.int .i64 a2_0, .int .i64 a2_1]) (t := 26) ?hr ?_; (case hd => rfl); (case hg => rfl); (case hr => first | (go_simp; done) | (go_simp; rfl)); intro gb175 hg w27 hbox hb; have n0_ := pA (blk_below (g := gb174) (o := .cells #[.int .i64 a0_0, .int .i64 a0_1] 23 (0, 0)) (vK BK174) hb); have n1_ := pA (below_step (by repeat (first | (with_reducible first | exact HB.out | apply below_alloc | apply pw_below_drewN | apply below_drew1 | refine below_set ?_ GE174.out) | exact HB.out)) hb); have n2_ := pA (hbox); have n3_ := pA ((by rw [hg]; exact (below_size (by repeat (first | (with_reducible first | exact HB.out | apply below_alloc | apply pw_below_drewN | apply below_drew1 | refine below_set ?_ GE174.out) | exact HB.out))) : w.heap.size ≤ gb175)); have n4_ := pA ((by rw [hg]; exact (below_size (by repeat (first | (with_reducible first | exact HB.out | apply below_alloc | apply pw_below_drewN | apply below_drew1 | refine below_set ?_ GE174.out) | exact HB.out))) : w.heap.size ≤ gb175)); have n5_ := pA ((by rw [hg]; exact Nat.ne_of_lt (blk_lt (g := gb174) (o := .cells #[.int .i64 a0_0, .int .i64 a0_1] 23 (0, 0)) (vK BK174)) : gb174 ≠ gb175)); have n6_ := pA ((by rw [hg]; exact Nat.ne_of_gt (blk_lt (g := gb174) (o := .cells #[.int .i64 a0_0, .int .i64 a0_1] 23 (0, 0)) (vK BK174)) : gb175 ≠ gb174)); clear BK174; clear HB; have BK174 := n0_; have HB := n1_; have BK175 := n2_; have GW175 := n3_; have GE175 := n4_; have NB174_175 := n5_; have NB175_174 := n6_; clear n0_ n1_ n2_ n3_ n4_ n5_ n6_; clear hb hbox hg; have hnb28 := NB174_175.out; have hnc28 := NB175_174.out; have hcz29_0 : w27.cell? ⟨gb174, 0, none⟩ = some (.int .i64 a0_0) := (blk_cell BK174.out 0).trans rfl; have hcz29_1 : w27.cell? ⟨gb174, 1, none⟩ = some (.int .i64 a0_1) := (blk_cell BK174.out 1).trans rfl; have hfz29_0 := blk_frozen BK174.out 0; have hfz29_1 := blk_frozen BK174.out 1) | ((with_reducible refine aF (f := 110) rfl ?_); refine goesL_ (some 9) rfl rfl Try.func110 (by kernel_rfl) rfl #[.agg #[.int .i64 a0_0, .int .i64 a0_1]] rfl (by (try simp only [pE, pF, pG]); first | done | rfl | (simp only [pH, pI]; rfl)) ?_; (with_reducible refine (bung_isWad.calls a0_0 a0_1 true _ A4.out).mono ?_); rintro e w30 ⟨rfl, hb⟩; refine ⟨_, rfl, ?_⟩; have n0_ := pA (blk_below (g := gb174) (o := .cells #[.int .i64 a0_0, .int .i64 a0_1] 23 (0, 0)) (vK BK174) hb); have n1_ := pA (blk_below (g := gb175) (o := .cells #[.int .i64 a2_0, .int .i64 a2_1] 26 (0, 0)) (vK BK175) hb); have n2_ := pA (below_step (by repeat (first | (with_reducible first | exact HB.out | apply below_alloc | apply pw_below_drewN | apply below_drew1 | refine below_set ?_ GE174.out | refine below_set ?_ GE175.out) | exact HB.out)) hb); clear BK174; clear BK175; clear HB; have BK174 := n0_; have BK175 := n1_; have HB := n2_; clear n0_ n1_ n2_; (try clear hb); (try clear hb2); (try clear hk); (try clear hi)) | ((with_reducible refine aF (f := 94) rfl ?_); refine goesL_ (some 13) rfl rfl Try.func94 (by kernel_rfl) rfl #[.slice A1 l1.length c1] rfl (by (try simp only [pE, pF, pG]); first | done | rfl | (simp only [pH, pI]; rfl)) ?_; (with_reducible refine (bung_isList.calls _ _ l1 false _ ?side1 ?side2 A6.out).mono ?_); (case side1 => repeat (first | exact (Kd.C_below HR1.out HB.out) | (with_reducible refine Kd.C_alloc ?_ _) | (with_reducible refine Kd.C_drewN ?_ _) | (with_reducible refine Kd.C_drew ?_))); (case side2 => exact HC1.out); rintro e w31 ⟨rfl, hb⟩; refine ⟨_, rfl, ?_⟩; have n0_ := pA (blk_below (g := gb174) (o := .cells #[.int .i64 a0_0, .int .i64 a0_1] 23 (0, 0)) (vK BK174) hb); have n1_ := pA (blk_below (g := gb175) (o := .cells #[.int .i64 a2_0, .int .i64 a2_1] 26 (0, 0)) (vK BK175) hb); have n2_ := pA (below_step (by repeat (first | (with_reducible first | exact HB.out | apply below_alloc | apply pw_below_drewN | apply below_drew1 | refine below_set ?_ GE174.out | refine below_set ?_ GE175.out) | exact HB.out)) hb); clear BK174; clear BK175; clear HB; have BK174 := n0_; have BK175 := n1_; have HB := n2_; clear n0_ n1_ n2_; (try clear hb); (try clear hb2); (try clear hk); (try clear hi)))
   go_ret
   exact ⟨by first | rfl | (simp [errW_none, errW_some] <;> rfl) | (simp [*, errW_none, errW_some] <;> rfl), by repeat (first | (with_reducible first | exact HB.out | apply below_alloc | apply pw_below_drewN | apply below_drew1 | refine below_set ?_ GE174.out | refine below_set ?_ GE175.out) | exact HB.out)⟩
 ·replace c5 := Bool.eq_false_iff.mpr c5
  subst c5
  have H1 : (some 32) = some r := by rw [if_neg (show ¬ (false = true) by decide)] at H; exact H
  clear H
  have H := H1
  clear H1
  obtain rfl := Option.some.inj H
  go_enter Try.func76, Try.ntmps76
  go_wp2_with (first | ((with_reducible refine gate_dst (N := 3) rfl ?_); refine box_event ?hg (N := 3) ?hd (cs := #[.int .i64 a0_0, .int .i64 a0_1]) (t := 23) ?hr ?_; (case hd => rfl); (case hg => rfl); (case hr => first | (go_simp; done) | (go_simp; rfl)); intro gb174 hg w32 hbox hb; have n0_ := pA (below_step (vB HB) hb); have n1_ := pA (hbox); have n2_ := pA ((by rw [hg]; exact (below_size (vB HB)) : w.heap.size ≤ gb174)); have n3_ := pA ((by rw [hg]; exact (below_size (vB HB)) : w.heap.size ≤ gb174)); clear HB; have HB := n0_; have BK174 := n1_; have GW174 := n2_; have GE174 := n3_; clear n0_ n1_ n2_ n3_; clear hb hbox hg) | ((with_reducible refine gate_dst (N := 5) rfl ?_); refine box_event ?hg (N := 5) ?hd (cs := #[.int .i64 a2_0, .int .i64 a2_1]) (t := 26) ?hr ?_; (case hd => rfl); (case hg => rfl); (case hr => first | (go_simp; done) | (go_simp; rfl)); intro gb175 hg w33 hbox hb; have n0_ := pA (blk_below (g := gb174) (o := .cells #[.int .i64 a0_0, .int .i64 a0_1] 23 (0, 0)) (vK BK174) hb); have n1_ := pA (below_step (by repeat (first | (with_reducible first | exact HB.out | apply below_alloc | apply pw_below_drewN | apply below_drew1 | refine below_set ?_ GE174.out) | exact HB.out)) hb); have n2_ := pA (hbox); have n3_ := pA ((by rw [hg]; exact (below_size (by repeat (first | (with_reducible first | exact HB.out | apply below_alloc | apply pw_below_drewN | apply below_drew1 | refine below_set ?_ GE174.out) | exact HB.out))) : w.heap.size ≤ gb175)); have n4_ := pA ((by rw [hg]; exact (below_size (by repeat (first | (with_reducible first | exact HB.out | apply below_alloc | apply pw_below_drewN | apply below_drew1 | refine below_set ?_ GE174.out) | exact HB.out))) : w.heap.size ≤ gb175)); have n5_ := pA ((by rw [hg]; exact Nat.ne_of_lt (blk_lt (g := gb174) (o := .cells #[.int .i64 a0_0, .int .i64 a0_1] 23 (0, 0)) (vK BK174)) : gb174 ≠ gb175)); have n6_ := pA ((by rw [hg]; exact Nat.ne_of_gt (blk_lt (g := gb174) (o := .cells #[.int .i64 a0_0, .int .i64 a0_1] 23 (0, 0)) (vK BK174)) : gb175 ≠ gb174)); clear BK174; clear HB; have BK174 := n0_; have HB := n1_; have BK175 := n2_; have GW175 := n3_; have GE175 := n4_; have NB174_175 := n5_; have NB175_174 := n6_; clear n0_ n1_ n2_ n3_ n4_ n5_ n6_; clear hb hbox hg; have hnb34 := NB174_175.out; have hnc34 := NB175_174.out; have hcz35_0 : w33.cell? ⟨gb174, 0, none⟩ = some (.int .i64 a0_0) := (blk_cell BK174.out 0).trans rfl; have hcz35_1 : w33.cell? ⟨gb174, 1, none⟩ = some (.int .i64 a0_1) := (blk_cell BK174.out 1).trans rfl; have hfz35_0 := blk_frozen BK174.out 0; have hfz35_1 := blk_frozen BK174.out 1) | ((with_reducible refine aF (f := 110) rfl ?_); refine goesL_ (some 9) rfl rfl Try.func110 (by kernel_rfl) rfl #[.agg #[.int .i64 a0_0, .int .i64 a0_1]] rfl (by (try simp only [pE, pF, pG]); first | done | rfl | (simp only [pH, pI]; rfl)) ?_; (with_reducible refine (bung_isWad.calls a0_0 a0_1 false _ A4.out).mono ?_); rintro e w36 ⟨rfl, hb⟩; refine ⟨_, rfl, ?_⟩; have n0_ := pA (blk_below (g := gb174) (o := .cells #[.int .i64 a0_0, .int .i64 a0_1] 23 (0, 0)) (vK BK174) hb); have n1_ := pA (blk_below (g := gb175) (o := .cells #[.int .i64 a2_0, .int .i64 a2_1] 26 (0, 0)) (vK BK175) hb); have n2_ := pA (below_step (by repeat (first | (with_reducible first | exact HB.out | apply below_alloc | apply pw_below_drewN | apply below_drew1 | refine below_set ?_ GE174.out | refine below_set ?_ GE175.out) | exact HB.out)) hb); clear BK174; clear BK175; clear HB; have BK174 := n0_; have BK175 := n1_; have HB := n2_; clear n0_ n1_ n2_; (try clear hb); (try clear hb2); (try clear hk); (try clear hi)))
  go_ret
  exact ⟨by first | rfl | (simp [errW_none, errW_some] <;> rfl) | (simp [*, errW_none, errW_some] <;> rfl), by repeat (first | (with_reducible first | exact HB.out | apply below_alloc | apply pw_below_drewN | apply below_drew1 | refine below_set ?_ GE174.out | refine below_set ?_ GE175.out) | exact HB.out)⟩
/-- Does a bung of some saggars fit a spot surely? -/
def doOf (w : S23) (l : List S52) (crown lean : Int) (xs : List Int) : Bool := fitsOf w (pick l (sortR l xs)) crown lean == 1
theorem pk_sixth {A B C D E F : Prop} (h : A ∧ B ∧ C ∧ D ∧ E ∧ F) : F := h.2.2.2.2.2
theorem pk_keep6 {W w1 w2 : World} {p1 p2 p3 p4 p5 : Addr} {v1 v2 v3 v4 v5 : Value} (h : w1.cell? p1 = some v1 ∧ w1.cell? p2 = some v2 ∧ w1.cell? p3 = some v3 ∧ w1.cell? p4 = some v4 ∧ w1.cell? p5 = some v5 ∧ Below W.heap.size W w1) (g : Below w1.heap.size w1 w2) :
    w2.cell? p1 = some v1 ∧ w2.cell? p2 = some v2 ∧ w2.cell? p3 = some v3 ∧ w2.cell? p4 = some v4 ∧ w2.cell? p5 = some v5 ∧ Below W.heap.size W w2 := ⟨pw_cell_below g h.1, pw_cell_below g h.2.1, pw_cell_below g h.2.2.1, pw_cell_below g h.2.2.2.1, pw_cell_below g h.2.2.2.2.1, below_step h.2.2.2.2.2 g⟩
set_option maxHeartbeats 4000000 in
set_option maxRecDepth 100000 in
theorem bung_do_calls (lo hi : Int) (A1 : Option Addr) (c1 : Nat) (l : List S52) (cr le : Int) (m : Option Nat) (A2 : Option Addr) (c2 : Nat) (xs : List Int) (w : World) (hr1 : Kd.C k52 w A1 l.length l) (hc1 : l.length ≤ c1) (hr2 : Kd.C (Kd.int .i64) w A2 xs.length xs) (hc2 : xs.length ≤ c2)
  (hw : vWad lo hi = true) (hl : okList l = true) (hx : inIx l.length xs = true) (hp : 0 < xs.length) (h30 : xs.length ≤ 30) :
  Calls Try.prog 107 #[.agg #[.int .i64 lo, .int .i64 hi, .slice A1 l.length c1, .int .i64 cr, .int .i64 le, .map m], .slice A2 xs.length c2] w fun e w' => e = .returned (.bool (doOf ⟨lo, hi⟩ l cr le xs)) ∧ Below w.heap.size w w' := by
 have hsx := inIx_perm (sortR_perm l xs) hx
 have hsl : (sortR l xs).length ≤ 30 := by rw [(sortR_perm l xs).length_eq]; exact h30
 have hsp : 0 < (sortR l xs).length := by rw [(sortR_perm l xs).length_eq]; exact hp
 have HF := pA (fits_eq ⟨lo, hi⟩ hw (pick l (sortR l xs)) (pick_ok hl hsx hsl) (by simpa [pick] using hsp) cr le 1200 (Nat.le_refl _))
 have HRu := pA (show bung_rule.f l xs = some (sortR l xs) by unfold bung_rule.f; rw [if_pos (by simp [hl, hx, h30])])
 have HS := pA (stacked_eq l (sortR l xs) hsx (by omega))
 have HR1 := pA hr1
 have HR2 := pA hr2
 clear hr1 hr2 hw hl hx hp h30 hsx hsl hsp
 go_enter Try.func107, Try.ntmps107
 have HX := pA (heap_alloc_new w (.cells #[.int .i64 lo, .int .i64 hi, .slice A1 l.length c1, .int .i64 cr, .int .i64 le, .map m] 114 (0, 0)))
 go_wp2
 go_region_held3 (fun w' => w'.cell? ⟨w.heap.size, 0, none⟩ = some (.int .i64 lo) ∧ w'.cell? ⟨w.heap.size, 1, none⟩ = some (.int .i64 hi) ∧ w'.cell? ⟨w.heap.size, 2, none⟩ = some (.slice A1 l.length c1) ∧ w'.cell? ⟨w.heap.size, 3, none⟩ = some (.int .i64 cr) ∧ w'.cell? ⟨w.heap.size, 4, none⟩ = some (.int .i64 le) ∧ Below w.heap.size w w')
  (first
   | exact pk_keep6 (by assumption) (by assumption)
   | exact ⟨blk_cell HX.out 0, blk_cell HX.out 1, blk_cell HX.out 2, blk_cell HX.out 3, blk_cell HX.out 4, below_drew (below_alloc (Below.refl _ _) _)⟩
   | go_keep)
  (first
   | (go_at_call 95; refine (bung_rule.calls A1 c1 l A2 c2 xs _ _ (Kd.C_below HR1.out (pk_sixth (by assumption))) hc1 (Kd.C_below HR2.out (pk_sixth (by assumption))) hc2 HRu.out).mono ?_; rintro e w1 ⟨v1, rfl, ho, hb⟩; obtain ⟨A3, c3, rfl, hc3, HR3⟩ := Kd.R_reads ho; clear ho)
   | (go_at_call 112; refine (bung_stacked.calls _ A1 c1 l _ _ (sortR l xs) _ _ (Kd.C_below HR1.out (pk_sixth (by assumption))) hc1 (by assumption) (by assumption) HS.out).mono ?_; rintro e w2 ⟨v2, rfl, ho, hb⟩; obtain ⟨A4, c4, rfl, hc4, HR4⟩ := Kd.R_reads ho; clear ho)
   | (go_at_call 86; refine (bung_fits.calls 1200 lo hi _ _ (pick l (sortR l xs)) cr le _ _ (by assumption) (by assumption) HF.out).mono ?_; rintro e w3 ⟨rfl, hb⟩))
 go_wp2
 go_ret
 exact ⟨rfl, pk_sixth (by assumption)⟩
end Go.Proofs.Ytbiakjgjedhjhaa.P
namespace Go.Proofs.Ytbiakjgjedhjhaa.P
open Go.RowKit Go.Proofs.YtbiakjgjedhjhaaW.PrintWords Go.Proofs.YtbiakjgjedhjhaaW.PrintLast
open Go.WideMaps
theorem sorted_ext : ∀ {xs ys : List Int}, xs.Pairwise (· < ·) → ys.Pairwise (· < ·) → (∀ z, z ∈ xs ↔ z ∈ ys) → xs = ys
 | [], [], _, _, _ => rfl
 | [], y :: ys, _, _, h => absurd ((h y).2 List.mem_cons_self) List.not_mem_nil
 | x :: xs, [], _, _, h => absurd ((h x).1 List.mem_cons_self) List.not_mem_nil
 | x :: xs, y :: ys, h1, h2, h => by
  obtain ⟨a1, a2⟩ := List.pairwise_cons.1 h1
  obtain ⟨b1, b2⟩ := List.pairwise_cons.1 h2
  have e : x = y := by
   rcases List.mem_cons.1 ((h x).1 List.mem_cons_self) with e | e
   ·exact e
   ·rcases List.mem_cons.1 ((h y).2 List.mem_cons_self) with e' | e'
    ·exact e'.symm
    ·have := b1 _ e; have := a1 _ e'; omega
  subst e
  rw [sorted_ext a2 b2 (fun z => ⟨fun hz => ?_, fun hz => ?_⟩)]
  ·rcases List.mem_cons.1 ((h z).1 (List.mem_cons_of_mem _ hz)) with e | e
   ·have := a1 _ hz; omega
   ·exact e
  ·rcases List.mem_cons.1 ((h z).2 (List.mem_cons_of_mem _ hz)) with e | e
   ·have := b1 _ hz; omega
   ·exact e
theorem nine_arr : ArrKey Try.prog 167 4 9 := ⟨Try.underlying167, by kernel_rfl, by kernel_rfl, by kernel_rfl⟩
theorem nine_keyed : Maps.Keyed Try.prog 167 := Maps.Keyed.of_law nine_arr.law
def keyLit (bs : List Bool) : Lit := .string (keyBytes (bs.map Lit.bool))
theorem nine {bs : List Bool} (h : bs.length = 9) : ∃ b0 b1 b2 b3 b4 b5 b6 b7 b8, bs = [b0, b1, b2, b3, b4, b5, b6, b7, b8] := by
  match bs, h with
  | [b0, b1, b2, b3, b4, b5, b6, b7, b8], _ => exact ⟨_, _, _, _, _, _, _, _, _, rfl⟩
theorem nine_size : ∃ m, (Try.prog).types.size = m + 1 := ⟨(Try.prog).types.size - 1, by kernel_rfl⟩
theorem nine_bit (k : Nat) (c : Bool) : (Try.prog).keyLits (k + 1) 4 [.bool c] = some [.bool c] := by
  unfold Program.keyLits
  simp only [Try.underlying4]
set_option maxRecDepth 100000 in
theorem keyOf_nine {bs : List Bool} (h : bs.length = 9) : keyOf Try.prog 167 (.agg (bs.map Value.bool).toArray) = some (keyLit bs) := by
 obtain ⟨b0, b1, b2, b3, b4, b5, b6, b7, b8, rfl⟩ := nine h
 have A := nine_arr
 have hkt := A.keyType nine_size
 obtain ⟨m, hm⟩ := nine_size
 unfold keyOf
 simp only [A.hu]
 rw [if_pos (by simp [hkt, Value.formed, A.hu, A.size]), hm]
 unfold Program.keyLits
 simp only [A.hu, Value.cells]
 rw [if_pos (by rw [A.size]; rfl), show List.range 9 = [0, 1, 2, 3, 4, 5, 6, 7, 8] from rfl]
 simp only [List.mapM_cons, List.mapM_nil]
 simp [A.one, nine_bit, keyLit]
theorem keyLit_inj {bs cs : List Bool} (h : bs.length = 9) (h' : cs.length = 9) (e : keyLit bs = keyLit cs) : bs = cs := by
 have h1 := keyOf_nine h
 rw [e] at h1
 have h2 := nine_keyed.inj h1 (keyOf_nine h')
 have h3 : bs.map Value.bool = cs.map Value.bool := congrArg Array.toList (Value.agg.inj h2)
 exact (List.map_inj_right (fun a b h => by injection h)).1 h3
/-- The key of some saggars. -/
def bitsOf (xs : List Int) : List Bool := (List.range 9).map fun (i : Nat) => decide ((i : Int) ∈ xs)
theorem bitsOf_len (xs : List Int) : (bitsOf xs).length = 9 := by simp [bitsOf]
theorem bitsOf_snoc (xs : List Int) (x : Int) (h0 : 0 ≤ x) : bitsOf (xs ++ [x]) = (bitsOf xs).set x.toNat true := by
 refine List.ext_getElem (by simp [bitsOf]) fun i h1 h2 => ?_
 have hi : i < 9 := by simpa [bitsOf] using h1
 rw [List.getElem_set]
 simp only [bitsOf, List.getElem_map, List.getElem_range, List.mem_append, List.mem_singleton]
 by_cases e : x.toNat = i
 ·rw [if_pos e]; simp; right; omega
 ·rw [if_neg e]
  refine decide_eq_decide.2 ⟨fun h => h.resolve_right (by omega), Or.inl⟩
theorem bitsOf_inj {xs ys : List Int} (h1 : xs.Pairwise (· < ·)) (h2 : ys.Pairwise (· < ·)) (hx : inIx 9 xs = true) (hy : inIx 9 ys = true) (e : bitsOf xs = bitsOf ys) : xs = ys := by
 simp only [inIx, List.all_eq_true, decide_eq_true_eq] at hx hy
 have key : ∀ z : Int, 0 ≤ z → z < 9 → (z ∈ xs ↔ z ∈ ys) := fun z h0 h9 => by
  have := congrArg (fun l => l[z.toNat]?) e
  simp only [bitsOf, List.getElem?_map, List.getElem?_range (show z.toNat < 9 by omega), Option.map_some, Option.some.injEq] at this
  rw [show ((z.toNat : Nat) : Int) = z by omega] at this
  exact decide_eq_decide.1 this
 refine sorted_ext h1 h2 fun z => ⟨fun h => (key z (hx z h).1 (by have := (hx z h).2; omega)).1 h, fun h => (key z (hy z h).1 (by have := (hy z h).2; omega)).2 h⟩
/-- Lists that may be tried. -/
def okTry (n : Nat) (xs : List Int) : Prop := xs.Pairwise (· < ·) ∧ inIx n xs = true ∧ 0 < xs.length
/-- What has been tried is so. -/
def Tried (n : Nat) (d : List Int → Bool) (f : Lit → Option Bool) : Prop := ∀ xs, okTry n xs → ∀ x, f (keyLit (bitsOf xs)) = some x → x = d xs
theorem Tried.none_ (n : Nat) (d : List Int → Bool) : Tried n d (fun _ => none) := fun _ _ _ h => by cases h
theorem inIx_le {n m : Nat} {xs : List Int} (h : inIx n xs = true) (hn : n ≤ m) : inIx m xs = true := by
  simp only [inIx, List.all_eq_true, decide_eq_true_eq] at h ⊢
  exact fun i hi => ⟨(h i hi).1, by have := (h i hi).2; omega⟩
theorem Tried.step {n : Nat} {d : List Int → Bool} {f f' : Lit → Option Bool} {xs : List Int} (h : Tried n d f) (hn : n ≤ 9) (hx : okTry n xs) (h1 : f' (keyLit (bitsOf xs)) = some (d xs)) (h2 : ∀ z, z ≠ keyLit (bitsOf xs) → f' z = f z) : Tried n d f' := by
 intro ys hy x hf
 by_cases e : keyLit (bitsOf ys) = keyLit (bitsOf xs)
 ·have e2 := bitsOf_inj hy.1 hx.1 (inIx_le hy.2.1 hn) (inIx_le hx.2.1 hn) (keyLit_inj (bitsOf_len _) (bitsOf_len _) e)
  rw [e, h1] at hf
  rw [e2]
  exact (Option.some.inj hf).symm
 ·exact h ys hy x (by rw [← h2 _ e]; exact hf)
theorem okTry.len {n : Nat} {xs : List Int} (h : okTry n xs) : xs.length ≤ n := nodup_le (h.1.imp (fun {a b} (h : a < b) => Int.ne_of_lt h)) h.2.1
theorem nine_blk {bs : List Bool} (h : bs.length = 9) (i : Nat) (b : Bool) : ((bs.map Value.bool).toArray).setIfInBounds i (.bool b) = ((bs.set i b).map Value.bool).toArray := by
  rw [List.setIfInBounds_toArray, List.map_set]
theorem nine_lit {w : World} {g : Nat} {bs : List Bool} {t : Nat} (h : w.heap[g]? = some (.cells (bs.map Value.bool).toArray t (0, 0))) {b0 b1 b2 b3 b4 b5 b6 b7 b8 : Bool} (e : bs = [b0, b1, b2, b3, b4, b5, b6, b7, b8]) :
  w.heap[g]? = some (.cells #[.bool b0, .bool b1, .bool b2, .bool b3, .bool b4, .bool b5, .bool b6, .bool b7, .bool b8] t (0, 0)) := by
 subst e
 exact h
theorem nine_cell {w : World} {g : Nat} {bs : List Bool} {t : Nat} (h : w.heap[g]? = some (.cells (bs.map Value.bool).toArray t (0, 0))) (hl : bs.length = 9) (x : Int) (h0 : 0 ≤ x) (h1 : x < 9) : w.cell? ⟨g, x.toNat, none⟩ = some (.bool (bs.getD x.toNat false)) := by
 rw [blk_cell h x.toNat]
 have : x.toNat < bs.length := by omega
 simp [this]
theorem grown_trans_ {w w1 w2 : World} {row : Option Nat} (h : w.grownBy w1 row) (k : w1.grownBy w2 row) : w.grownBy w2 row :=
  ⟨k.os.trans h.os, k.tape.trans h.tape, k.output.trans h.output, Nat.le_trans h.size k.size, fun i hi hne => (k.block i (Nat.lt_of_lt_of_le hi h.size) hne).trans (h.block i hi hne)⟩
set_option maxHeartbeats 4000000 in
set_option maxRecDepth 100000 in
theorem bung_known_calls (lo hi : Int) (A1 : Option Addr) (c1 : Nat) (l : List S52) (cr le : Int) (b N s : Nat) (f : Lit → Option Bool) (A2 : Option Addr) (c2 : Nat) (xs : List Int) (w : World) (hr1 : Kd.C k52 w A1 l.length l) (hc1 : l.length ≤ c1) (hr2 : Kd.C (Kd.int .i64) w A2 xs.length xs) (hc2 : xs.length ≤ c2)
  (hw : vWad lo hi = true) (hl : okList l = true) (h9 : l.length ≤ 9) (hx : okTry l.length xs) (hM : BoolMaps.IsB Try.prog 167 4 w b N s f) (hN : N < maxLen) (hT : Tried l.length (doOf ⟨lo, hi⟩ l cr le) f) :
  Calls Try.prog 126 #[.agg #[.int .i64 lo, .int .i64 hi, .slice A1 l.length c1, .int .i64 cr, .int .i64 le, .map (some b)], .slice A2 xs.length c2] w fun e w' => e = .returned (.bool (doOf ⟨lo, hi⟩ l cr le xs)) ∧ w.grownBy w' (some b) ∧ ∃ N' s' f', N' ≤ N + 1 ∧ BoolMaps.IsB Try.prog 167 4 w' b N' s' f' ∧ Tried l.length (doOf ⟨lo, hi⟩ l cr le) f' := by
 have HR1 := pA hr1
 have HR2 := pA hr2
 have HM := pA hM
 have HT := pA hT
 have HX := pA hx
 have HL := pA hl
 have HW := pA hw
 have H9 := pA h9
 have HN := pA hN
 have HLT := pA hM.lt
 clear hr1 hr2 hM hT hx hl hw h9 hN
 have HX0 := pA (heap_alloc_new w (.cells #[.int .i64 lo, .int .i64 hi, .slice A1 l.length c1, .int .i64 cr, .int .i64 le, .map (some b)] 114 (0, 0)))
 go_enter Try.func126, Try.ntmps126
 go_wp2
 go_loopw [12] (fun v12 w' => ∃ (x : Int) (bs : List Bool), v12 = .int .i64 x ∧ Aside0 (0 ≤ x ∧ x ≤ xs.length) ∧ Aside0 (bs = bitsOf (xs.take x.toNat)) ∧ Aside0 (w'.heap[w.heap.size]? = some (.cells #[.int .i64 lo, .int .i64 hi, .slice A1 l.length c1, .int .i64 cr, .int .i64 le, .map (some b)] 114 (0, 0))) ∧ Aside0 (w'.heap[w.heap.size + 1]? = some (.cells (bs.map Value.bool).toArray 167 (0, 0))) ∧ Aside0 (Below w.heap.size w w')) (fun v12 _ => xs.length - (intOf v12).toNat)
 case atStart => exact ⟨0, _, rfl, ⟨by omega⟩, ⟨rfl⟩, ⟨blk_alloc HX0.out _⟩, ⟨blk_new2 w _ _⟩, ⟨below_alloc (below_alloc (Below.refl _ _) _) _⟩⟩
 case round =>
  obtain ⟨x, bs, rfl, HK, HBS, HX1, HX2, HB⟩ := hrel
  have HLEN := pA (show bs.length = 9 by rw [HBS.out, bitsOf_len])
  by_cases hk : x < (xs.length : Int)
  ·have hkb : decide (x < (xs.length : Int)) = true := decide_eq_true hk
   have p1 : 0 ≤ x := HK.out.1
   have HIN := pA (show 0 ≤ rd xs x ∧ rd xs x < (l.length : Int) by
    have h := HX.out.2.1
    simp only [inIx, List.all_eq_true, decide_eq_true_eq] at h
    rw [rd_int xs x p1 hk]
    exact h _ (List.getElem_mem _))
   obtain ⟨ad, e, x0⟩ := Kd.at_int (Kd.C_below HR2.out HB.out) x p1 hk
   cases e
   have q1 : (0 ≤ rd xs x) = True := eq_true HIN.out.1
   have q2 : (rd xs x < 9) = True := eq_true (by have := HIN.out.2; have := H9.out; omega)
   have p3 : (0 ≤ x) = True := eq_true p1
   have p4 : (x < (xs.length : Int)) = True := eq_true hk
   have y0 := nine_cell HX2.out HLEN.out (rd xs x) (of_eq_true q1) (of_eq_true q2)
   have y1 := blk_frozen HX2.out (rd xs x).toNat
   have HKK := pA hk
   have HP1 := pA p1
   have hnx : wrap64 (x + 1) = x + 1 := by have := HR2.out.2.1; unfold wrap64; omega
   have HNX := pA hnx
   clear p1 hk hnx
   go_wp2
   go_roundw
   case measure => have := HKK.out; have := HK.out; simp [intOf, HNX.out]; omega
   case rel =>
    refine ⟨x + 1, _, by rw [HNX.out], ⟨by have := HKK.out; have := HK.out; omega⟩, ⟨rfl⟩, ⟨blk_far HX1.out (by simp) _⟩, ⟨?_⟩, ⟨below_set HB.out (by simp)⟩⟩
    have e : xs.take (x + 1).toNat = xs.take x.toNat ++ [rd xs x] := by
     have hlt : x.toNat < xs.length := by have := HKK.out; have := HP1.out; omega
     rw [show (x + 1).toNat = x.toNat + 1 from by have := HP1.out; omega, List.take_succ_eq_append_getElem hlt, rd_int xs x HP1.out HKK.out]
    rw [e, bitsOf_snoc _ _ HIN.out.1, ← HBS.out, ← nine_blk HLEN.out]
    exact blk_put HX2.out _ _ rfl
  ·have hkb : decide (x < (xs.length : Int)) = false := decide_eq_false hk
   have e : xs.take x.toNat = xs := List.take_of_length_le (by have := HK.out; omega)
   have HBS2 := pA (show bs = bitsOf xs by rw [HBS.out, e])
   clear hk e HBS
   have HKEY := pA (keyOf_nine HLEN.out)
   rw [HBS2.out] at HKEY
   obtain ⟨b0, b1, b2, b3, b4, b5, b6, b7, b8, hbs⟩ := nine HLEN.out
   have HKEY2 := pA (show keyOf Try.prog 167 (.agg #[.bool b0, .bool b1, .bool b2, .bool b3, .bool b4, .bool b5, .bool b6, .bool b7, .bool b8]) = some (keyLit (bitsOf xs)) by have := HKEY.out; rw [← HBS2.out, hbs] at this; rw [← HBS2.out, hbs]; exact this)
   have HX3 := pA (nine_lit HX2.out hbs)
   have y0 := blk_cell HX3.out 0
   have y1 := blk_cell HX3.out 1
   have y2 := blk_cell HX3.out 2
   have y3 := blk_cell HX3.out 3
   have y4 := blk_cell HX3.out 4
   have y5 := blk_cell HX3.out 5
   have y6 := blk_cell HX3.out 6
   have y7 := blk_cell HX3.out 7
   have y8 := blk_cell HX3.out 8
   have v0 := blk_cell HX1.out 0
   have v1 := blk_cell HX1.out 1
   have v2 := blk_cell HX1.out 2
   have v3 := blk_cell HX1.out 3
   have v4 := blk_cell HX1.out 4
   have v5 := blk_cell HX1.out 5
   have HM1 := pA (HM.out.below HB.out)
   have hlook := HM1.out.look2 nine_keyed Try.underlying112 Try.underlying4 (isList_zero _) HKEY2.out
   clear HKEY HX2 HBS2 HLEN hbs
   cases hg : f (keyLit (bitsOf xs)) with
   | some y =>
    rw [hg] at hlook
    have HY := pA (HT.out xs HX.out y hg)
    clear hg
    go_wp2
    go_ret
    exact ⟨by rw [HY.out]; rfl, grown_of_below HB.out _, N, s, f, Nat.le_succ _, HM1.out, HT.out⟩
   | none =>
    rw [hg] at hlook
    clear hg
    go_wp2_with (go_at_call 107; refine (bung_do_calls lo hi A1 c1 l cr le (some b) A2 c2 xs _ (Kd.C_below HR1.out HB.out) hc1 (Kd.C_below HR2.out HB.out) hc2 HW.out HL.out HX.out.2.1 HX.out.2.2 (Nat.le_trans HX.out.len (by have := H9.out; omega))).mono ?_; rintro e w1 ⟨rfl, hb⟩; have HB1 := pA (below_step HB.out hb); have HX4 := pA (blk_below HX3.out hb); have HX5 := pA (blk_below HX1.out hb); have HM2 := pA (HM1.out.below hb); clear hb y0 y1 y2 y3 y4 y5 y6 y7 y8 v0 v1 v2 v3 v4 v5; have y0 := blk_cell HX4.out 0; have y1 := blk_cell HX4.out 1; have y2 := blk_cell HX4.out 2; have y3 := blk_cell HX4.out 3; have y4 := blk_cell HX4.out 4; have y5 := blk_cell HX4.out 5; have y6 := blk_cell HX4.out 6; have y7 := blk_cell HX4.out 7; have y8 := blk_cell HX4.out 8; have v5 := blk_cell HX5.out 5; obtain ⟨w4, f2, hst, hM2, h1, h2, hg2⟩ := HM2.out.store nine_keyed Try.underlying112 Try.underlying4 HN.out HKEY2.out trivial (doOf ⟨lo, hi⟩ l cr le xs); have HM3 := pA hM2; have HT3 := pA (HT.out.step H9.out HX.out h1 h2); have HG3 := pA hg2; clear hM2 h1 h2 hg2)
    go_ret
    exact ⟨rfl, grown_trans_ (grown_of_below HB1.out _) HG3.out, _, _, _, Nat.le_refl _, HM3.out, HT3.out⟩
end Go.Proofs.Ytbiakjgjedhjhaa.P
namespace Go.Proofs.Ytbiakjgjedhjhaa.P
open Go.RowKit Go.Proofs.YtbiakjgjedhjhaaW.PrintWords Go.Proofs.YtbiakjgjedhjhaaW.PrintLast
theorem R_emptyW {α : Type} (d : Kd α) (e : Nat) (W : World) (ok : Nat → Prop) (hok : ∀ k, W.heap.size ≤ k → ok k) : Kd.R d e (W.alloc (.cells #[] e)) W.heap.size ok (.slice (some ⟨W.heap.size, 0, none⟩) 0 0) [] :=
  ⟨fun k hk => hok k (by simp [Value.ownBlock] at hk; omega), [], ⟨by simp, .inr ⟨W.heap.size, 0, #[], rfl, Nat.le_refl _, heap_alloc_new W _, Nat.le_refl _, by simp [maxLen], by simp, by simp⟩⟩, ⟨by simp, fun j p hj => by simp at hj⟩⟩
theorem M_old {α : Type} {d : Kd α} {w w1 : World} {base : Nat} {ok : Nat → Prop} {x : α} {cs : List Value} (h : d.M w base ok x cs) (hb : Below w.heap.size w w1) : d.M w1 base (fun k => ok k ∧ k < w.heap.size) x cs :=
  Kd.M_below (d.M_mono (fun k hk => ⟨hk.1, hk.2.2.1⟩) (d.M_bound h)) hb
theorem own_fresh {w : World} {v1 : Value} (hat : v1.ownBlock = (Value.slice (some ⟨w.heap.size, 0, none⟩) 0 0).ownBlock ∨ ∃ b, v1.ownBlock = some b ∧ (w.alloc (.cells #[] 38)).heap.size ≤ b) : ∀ k, v1.ownBlock = some k → w.heap.size ≤ k := by
 intro k hk
 rcases hat with h | ⟨b, h, h2⟩
 ·rw [h] at hk
  simp [Value.ownBlock] at hk
  omega
 ·rw [h] at hk
  injection hk with hk
  simp at h2
  omega
set_option maxHeartbeats 4000000 in
set_option maxRecDepth 100000 in
theorem clone_rows_calls (v : Value) (xs : List (List Int)) (base : Nat) (ok : Nat → Prop) (w : World) (ho : Kd.R (Kd.slice 3 (Kd.int .i64)) 38 w base ok v xs) (hbase : base ≤ w.heap.size) (hl : xs.length ≤ 1000000) :
  Calls Try.prog 124 #[v] w fun e w' => ∃ v', e = .returned v' ∧ Kd.R (Kd.slice 3 (Kd.int .i64)) 38 w' base (fun k => ok k ∨ w.heap.size ≤ k) v' xs ∧ (∀ k, v'.ownBlock = some k → w.heap.size ≤ k) ∧ Below w.heap.size w w' := by
 obtain ⟨A, c, rfl, hc, hr⟩ := OwnRow.reads ho.2
 have HO := pA ho
 have HR := pA hr
 have HL := pA hl
 clear ho hr hl
 rcases A with _ | ad
 ·obtain rfl : xs = [] := by
   rcases Nat.eq_zero_or_pos xs.length with h0 | h0
   ·exact List.eq_nil_of_length_eq_zero h0
   ·obtain ⟨ad, h, _⟩ := HR.out.2.2 h0
    cases h
  have hnil := fun W => Go.Lib.run_eql_slice_nil (P := Try.prog) W 30 38 none 0 c 0 0 Try.underlying30
  go_enter Try.func124, Try.ntmps124
  go_wp2
  go_ret
  exact ⟨_, rfl, Kd.R_nil _ _ _ _ _, fun k hk => by simp [Value.ownBlock] at hk, Below.refl _ _⟩
 ·have hnil := fun W => Go.Lib.run_eql_slice_nil (P := Try.prog) W 30 38 (some ad) xs.length c 0 0 Try.underlying30
  go_enter Try.func124, Try.ntmps124
  go_wp2_with (at_builtin; refine Kd.R_append_rows (Kd.slice 3 (Kd.int .i64)) (Rr := (Kd.slice 3 (Kd.int .i64)).M (w.alloc (.cells #[] 38)) base (fun k => ok k ∧ k < w.heap.size)) (w0 := w.alloc (.cells #[] 38)) base rfl (.tmp 5) (.tmp 6) 30 38 _ 24 rfl Try.underlying30 info38 rfl (by decide) (by omega) (.slice (some ⟨w.heap.size, 0, none⟩) 0 0) [] xs (some ad) xs.length c (fun k => ok k ∨ w.heap.size ≤ k) (fun k => ok k ∧ k < w.heap.size) rfl rfl ?aO ?aR (fun _ _ h => h) (fun k h => ⟨.inl h.1, fun e => by simp [Value.ownBlock] at e; omega⟩) (fun k h => .inr (by simp at h; omega)) ?aB ?aS ?aL ?_; (case aO => exact Kd.R_lower (R_emptyW _ _ _ _ (fun k hk => .inr hk)) hbase); (case aR => exact ReadsRow.imp_ HR.out (below_alloc (Below.refl _ _) _) (fun p cs h => (Kd.slice 3 (Kd.int .i64)).M_mono (fun k hk => ⟨hk.1.1, hk.2⟩) (M_old h (below_alloc (Below.refl _ _) _)))); (case aB => exact Below.refl _ _); (case aS => simp; omega); (case aL => have := HL.out; simp; omega); intro v1 w1 ho hb hg hat; have HO1 := pA ho; have HG := pA hg; have HAT := pA hat; clear ho hb hg hat)
  go_ret
  exact ⟨_, rfl, HO1.out, own_fresh HAT.out, pw_below_grown (below_alloc (Below.refl _ _) _) _ (by simp) HG.out (fun k hk => by simp [Value.ownBlock] at hk; omega)⟩
/-- Lists of saggars, with room for one more at an index. -/
def roomAt (bs : List (List Int)) (k : Nat) : List (List Int) := if k = bs.length then bs ++ [[]] else bs
def putIn (bs : List (List Int)) (k : Nat) (x : Int) : List (List Int) := (roomAt bs k).set k ((roomAt bs k).getD k [] ++ [x])
/-- The first bungs, just so many, that do. -/
def packOf (ok : List Int → Bool) (many : Int) : Nat → List (List Int) → Int → Option (List (List Int))
 | 0, bs, _ => if (bs.length : Int) = many then some bs else none
 | d + 1, bs, x => (List.range' 0 (bs.length + 1)).findSome? fun (k : Nat) => if (k : Int) < many ∧ ok ((roomAt bs k).getD k [] ++ [x]) = true then packOf ok many d (putIn bs k x) (x + 1) else none
def packFrom (ok : List Int → Bool) (many : Int) (d : Nat) (bs : List (List Int)) (x : Int) (k : Nat) : Option (List (List Int)) :=
  (List.range' k (bs.length + 1 - k)).findSome? fun (k : Nat) => if (k : Int) < many ∧ ok ((roomAt bs k).getD k [] ++ [x]) = true then packOf ok many d (putIn bs k x) (x + 1) else none
theorem packFrom_zero (ok : List Int → Bool) (many : Int) (d : Nat) (bs : List (List Int)) (x : Int) : packOf ok many (d + 1) bs x = packFrom ok many d bs x 0 := rfl
theorem packFrom_step (ok : List Int → Bool) (many : Int) (d : Nat) (bs : List (List Int)) (x : Int) (k : Nat) (hk : k ≤ bs.length) :
  packFrom ok many d bs x k = (if (k : Int) < many ∧ ok ((roomAt bs k).getD k [] ++ [x]) = true then packOf ok many d (putIn bs k x) (x + 1) else none).or (packFrom ok many d bs x (k + 1)) := by
 unfold packFrom
 rw [show bs.length + 1 - k = (bs.length + 1 - (k + 1)) + 1 from by omega, List.range'_succ, List.findSome?_cons]
 split <;> rename_i h <;> rw [h] <;> rfl
theorem packFrom_end (ok : List Int → Bool) (many : Int) (d : Nat) (bs : List (List Int)) (x : Int) (k : Nat) (hk : bs.length < k) : packFrom ok many d bs x k = none := by
 unfold packFrom
 rw [show bs.length + 1 - k = 0 from by omega]
 rfl
theorem packFrom_many (ok : List Int → Bool) (many : Int) (d : Nat) (bs : List (List Int)) (x : Int) (k : Nat) (hk : ¬ (k : Int) < many) : packFrom ok many d bs x k = none := by
 unfold packFrom
 rw [List.findSome?_eq_none_iff]
 intro j hj
 have := (List.mem_range'_1.1 hj).1
 rw [if_neg (by omega)]
/-- Bungs of the saggars below an index. -/
def okBs (bs : List (List Int)) (x : Int) : Prop := (∀ b ∈ bs, b.Pairwise (· < ·) ∧ ∀ i ∈ b, 0 ≤ i ∧ i < x) ∧ (bs.length : Int) ≤ x ∧ 0 ≤ x ∧ (0 < x → bs ≠ [])
theorem roomAt_ok {bs : List (List Int)} {x : Int} (h : okBs bs x) (k : Nat) : ∀ b ∈ roomAt bs k, b.Pairwise (· < ·) ∧ ∀ i ∈ b, 0 ≤ i ∧ i < x := by
 intro b hb
 unfold roomAt at hb
 split at hb
 ·rcases List.mem_append.1 hb with hb | hb
  ·exact h.1 b hb
  ·rw [List.mem_singleton.1 hb]
   exact ⟨List.Pairwise.nil, fun i hi => absurd hi List.not_mem_nil⟩
 ·exact h.1 b hb
theorem roomAt_len {bs : List (List Int)} {k : Nat} (hk : k ≤ bs.length) : k < (roomAt bs k).length := by
 unfold roomAt
 split
 ·simp; omega
 ·omega
theorem next_ok {bs : List (List Int)} {x : Int} (h : okBs bs x) {k n : Nat} (hk : k ≤ bs.length) (hx : x < n) : okTry n ((roomAt bs k).getD k [] ++ [x]) := by
 have hm : (roomAt bs k).getD k [] ∈ roomAt bs k := by
  rw [List.getD_eq_getElem?_getD, List.getElem?_eq_getElem (roomAt_len hk)]
  exact List.getElem_mem _
 obtain ⟨h1, h2⟩ := roomAt_ok h k _ hm
 refine ⟨?_, ?_, by simp⟩
 ·rw [List.pairwise_append]
  exact ⟨h1, List.pairwise_singleton _ _, fun a ha b hb => by rw [List.mem_singleton.1 hb]; exact (h2 a ha).2⟩
 ·simp only [inIx, List.all_eq_true, decide_eq_true_eq]
  intro i hi
  rcases List.mem_append.1 hi with hi | hi
  ·have := h2 i hi; omega
  ·rw [List.mem_singleton.1 hi]; exact ⟨h.2.2.1, hx⟩
theorem putIn_ok {bs : List (List Int)} {x : Int} (h : okBs bs x) {k : Nat} (hk : k ≤ bs.length) : okBs (putIn bs k x) (x + 1) := by
 have hl := h.2.1
 have h0 := h.2.2.1
 have hn := next_ok (n := (x + 1).toNat) h hk (by omega)
 refine ⟨fun b hb => ?_, ?_, by omega, fun _ e => ?_⟩
 ·rcases List.mem_or_eq_of_mem_set hb with hb | rfl
  ·obtain ⟨a, c⟩ := roomAt_ok h k b hb
   exact ⟨a, fun i hi => by have := c i hi; omega⟩
  ·refine ⟨hn.1, fun i hi => ?_⟩
   have := hn.2.1
   simp only [inIx, List.all_eq_true, decide_eq_true_eq] at this
   have := this i hi
   omega
 ·unfold putIn
  rw [List.length_set]
  unfold roomAt
  split
  ·simp; omega
  ·omega
 ·have := congrArg List.length e
  unfold putIn at this
  rw [List.length_set] at this
  have h2 := roomAt_len hk
  rw [List.length_nil] at this
  omega
/-- How often lists are tried, at most. -/
def triesIn : Nat → Nat
 | 0 => 0
 | d + 1 => 11 * (1 + triesIn d)
theorem tries_le {k : Int} {n : Nat} (h0 : 0 ≤ k) (h1 : k ≤ n + 1) (hn : (n : Int) ≤ 9) (N d : Nat) : N + k.toNat * (1 + triesIn d) ≤ N + triesIn (d + 1) :=
  Nat.add_le_add_left (Nat.mul_le_mul_right _ (by omega)) _
/-- What pack returns. -/
def RowsOut (w : World) (base : Nat) (v : Value) : Option (List (List Int)) → Prop
 | none => v = .slice none 0 0
 | some out => out ≠ [] ∧ Kd.R (Kd.slice 3 (Kd.int .i64)) 38 w base (fun _ => True) v out
theorem isB_heap {P : Program} {k e : TypeId} {w : World} {b N s : Nat} {f : Lit → Option Bool} (h : BoolMaps.IsB P k e w b N s f) : ∃ es clock, w.heap[b]? = some (.map es clock) := by
  obtain ⟨D, ⟨es, clock, hb, _⟩, _⟩ := h
  exact ⟨es, clock, hb⟩
theorem cell_map {w w' : World} {b N s : Nat} {f : Lit → Option Bool} {p : Addr} {v : Value} (h : w.cell? p = some v) (hM : BoolMaps.IsB Try.prog 167 4 w b N s f) (hg : w.grownBy w' (some b)) : w'.cell? p = some v := by
 have hlt := World.block_lt_of_cell? w p h
 have hne : p.block ≠ b := fun e => by
  obtain ⟨es, clock, hm⟩ := isB_heap hM
  rw [← e] at hm
  unfold World.cell? at h
  rw [hm] at h
  cases h
 have := hg.block p.block hlt (by simpa using hne)
 unfold World.cell? at h ⊢
 rw [this]
 exact h
theorem C_map {α : Type} {d : Kd α} {w w' : World} {b N s : Nat} {f : Lit → Option Bool} {A : Option Addr} {n : Nat} {l : List α} (hd : ∀ {W W' : World} {x : α} {cs : List Value}, d.K W x cs → d.K W' x cs) (hs : 0 < d.sz) (h : d.C w A n l) (hM : BoolMaps.IsB Try.prog 167 4 w b N s f) (hg : w.grownBy w' (some b)) : d.C w' A n l := by
 refine ⟨h.1, h.2.1, fun hn => ?_⟩
 obtain ⟨ad, he, hc⟩ := h.2.2 hn
 refine ⟨ad, he, fun j p hj => ?_⟩
 obtain ⟨c, h1, h2, h3⟩ := hc j p hj
 exact ⟨c, h1, hd h2, fun i u hu => cell_map (h3 i u hu) hM hg⟩
theorem row_at {W : World} {base : Nat} {v : Value} {xs : List (List Int)} (h : Kd.R (Kd.slice 3 (Kd.int .i64)) 38 W base (fun _ => True) v xs) (i : Int) (h0 : 0 ≤ i) (h1 : i < xs.length) :
  ∃ g cap A c, v = .slice (some ⟨g, 0, none⟩) xs.length cap ∧ (∃ cells, W.heap[g]? = some (.cells cells 38 (0, 0))) ∧ W.cell? ⟨g, i.toNat, none⟩ = some (.slice A (xs.getD i.toNat []).length c) ∧ (xs.getD i.toNat []).length ≤ c ∧ Kd.C (Kd.int .i64) W A (xs.getD i.toNat []).length (xs.getD i.toNat []) := by
 obtain ⟨g, cap, rfl, _, hlt, hblk⟩ := Kd.R_form h (by omega)
 obtain ⟨c, hcl, ⟨u, rfl, hu⟩, hcc, _⟩ := Kd.R_elem h [] i h0 (by omega)
 obtain ⟨A, c', rfl, hl, hr⟩ := Kd.R_reads hu
 have := hcc 0 _ rfl
 exact ⟨g, cap, A, c', rfl, hblk, by simpa [Kd.slice] using this, hl, hr⟩
theorem clone_f (xs : List Int) (h : xs.length ≤ 1000000) : slices_Clone_int_int.f xs = some xs := by
  unfold slices_Clone_int_int.f
  rw [if_pos (by omega)]
theorem row_at' {W : World} {base g n cap : Nat} {xs : List (List Int)} (h : Kd.R (Kd.slice 3 (Kd.int .i64)) 38 W base (fun _ => True) (.slice (some ⟨g, 0, none⟩) n cap) xs) (i : Int) (h0 : 0 ≤ i) (h1 : i < xs.length) :
  ∃ A c, W.cell? ⟨g, i.toNat, none⟩ = some (.slice A (xs.getD i.toNat []).length c) ∧ (xs.getD i.toNat []).length ≤ c ∧ Kd.C (Kd.int .i64) W A (xs.getD i.toNat []).length (xs.getD i.toNat []) := by
 obtain ⟨g', cap', A, c, e, _, h2, h3, h4⟩ := row_at h i h0 h1
 injection e with e _ _
 injection e with e
 injection e with e
 subst e
 exact ⟨A, c, h2, h3, h4⟩
theorem putIn_get {bs : List (List Int)} {k : Nat} (hk : k ≤ bs.length) (x : Int) : (putIn bs k x).getD k [] = (roomAt bs k).getD k [] ++ [x] := by
 unfold putIn
 rw [List.getD_eq_getElem?_getD, List.getElem?_set_self (roomAt_len hk)]
 rfl
def rowAt (bs : List (List Int)) (k : Nat) : List Int := (roomAt bs k).getD k []
def rowOn (bs : List (List Int)) (k : Nat) (x : Int) : List Int := rowAt bs k ++ [x]
theorem row_room {W : World} {base : Nat} {v : Value} {bs : List (List Int)} {i : Int} (h : Kd.R (Kd.slice 3 (Kd.int .i64)) 38 W base (fun _ => True) v (roomAt bs i.toNat)) (h0 : 0 ≤ i) (h1 : i < (roomAt bs i.toNat).length) :
    ∃ g cap A c, v = .slice (some ⟨g, 0, none⟩) (roomAt bs i.toNat).length cap ∧ (∃ cells, W.heap[g]? = some (.cells cells 38 (0, 0))) ∧ W.cell? ⟨g, i.toNat, none⟩ = some (.slice A (rowAt bs i.toNat).length c) ∧ (rowAt bs i.toNat).length ≤ c ∧ Kd.C (Kd.int .i64) W A (rowAt bs i.toNat).length (rowAt bs i.toNat) := row_at h i h0 h1
theorem row_put {W : World} {base g n cap : Nat} {bs : List (List Int)} {i x : Int} (h : Kd.R (Kd.slice 3 (Kd.int .i64)) 38 W base (fun _ => True) (.slice (some ⟨g, 0, none⟩) n cap) (putIn bs i.toNat x)) (h0 : 0 ≤ i) (h1 : i ≤ bs.length) :
  ∃ A c, W.cell? ⟨g, i.toNat, none⟩ = some (.slice A (rowOn bs i.toNat x).length c) ∧ (rowOn bs i.toNat x).length ≤ c ∧ Kd.C (Kd.int .i64) W A (rowOn bs i.toNat x).length (rowOn bs i.toNat x) := by
 have hk : i.toNat ≤ bs.length := by omega
 have := row_at' h i h0 (by unfold putIn; rw [List.length_set]; have := roomAt_len hk; omega)
 rw [putIn_get hk] at this
 exact this
theorem store_cc {w : World} {g i : Nat} {v : Value} (h : w.cell? ⟨g, i, none⟩ = some v) : ∀ (j : Nat) (u : Value), [v][j]? = some u → w.cell? ⟨g, i * (Kd.slice 3 (Kd.int .i64)).sz + j, none⟩ = some u := by
 intro j u hj
 rcases j with _ | j
 ·simp at hj
  subst hj
  simpa [Kd.slice] using h
 ·simp at hj
theorem row_store {W : World} {base g cap B : Nat} {bs : List (List Int)} {k x : Int} {Ai A5 : Option Addr} {ni ci c5 : Nat} (h : Kd.R (Kd.slice 3 (Kd.int .i64)) 38 W base (fun _ => True) (.slice (some ⟨g, 0, none⟩) (roomAt bs k.toNat).length cap) (roomAt bs k.toNat)) (h0 : 0 ≤ k) (h1 : k < (roomAt bs k.toNat).length)
  (hy : W.cell? ⟨g, k.toNat, none⟩ = some (.slice Ai ni ci)) (ho : Kd.R (Kd.int .i64) 3 W B (fun _ => True) (.slice A5 (rowOn bs k.toNat x).length c5) (rowOn bs k.toNat x)) (hg : g < B) (hb : base ≤ B) :
  Kd.R (Kd.slice 3 (Kd.int .i64)) 38 (W.setCell ⟨g, k.toNat, none⟩ (.slice A5 (rowOn bs k.toNat x).length c5)) base (fun _ => True) (.slice (some ⟨g, 0, none⟩) (roomAt bs k.toNat).length cap) (putIn bs k.toNat x) ∧ W.grownBy (W.setCell ⟨g, k.toNat, none⟩ (.slice A5 (rowOn bs k.toNat x).length c5)) (some g) := by
 have := Kd.R_seg (d := Kd.slice 3 (Kd.int .i64)) (okp := fun q => B ≤ q) (seg := [.slice A5 (rowOn bs k.toNat x).length c5]) (j := 0) (x' := rowOn bs k.toNat x) (c := [.slice Ai ni ci]) h k h0 h1 rfl (store_cc hy) (Nat.le_refl 1) ⟨_, rfl, Kd.R_lower (Kd.R_mono (Kd.R_bound ho) (fun q hq => hq.2.1)) hb⟩ (fun q hq => ⟨trivial, by omega⟩)
 have e : k.toNat * (Kd.slice 3 (Kd.int .i64)).sz + 0 = k.toNat := by simp [Kd.slice]
 rw [e] at this
 exact this
theorem tries_step {k : Int} (h0 : 0 ≤ k) {N N1 N2 d t : Nat} (h1 : N1 ≤ N + k.toNat * (1 + triesIn d)) (h2 : N2 ≤ N1 + t) (ht : t ≤ 1 + triesIn d) : N2 ≤ N + (k + 1).toNat * (1 + triesIn d) := by
  rw [show (k + 1).toNat = k.toNat + 1 by omega, Nat.succ_mul]
  omega
theorem tries_lt {k : Int} (h0 : 0 ≤ k) {n N N1 d : Nat} (h1 : N1 ≤ N + k.toNat * (1 + triesIn d)) (hk : k ≤ n) (hn : (n : Int) ≤ 9) (hN : N + triesIn (d + 1) < maxLen) : N1 + 1 + triesIn d < maxLen := by
 have : k.toNat * (1 + triesIn d) ≤ 9 * (1 + triesIn d) := Nat.mul_le_mul_right _ (by omega)
 simp only [triesIn] at hN
 omega
theorem R_map {α : Type} {d : Kd α} {e : Nat} {w w1 : World} {base b : Nat} {v : Value} {xs : List α} (h : d.R e w base (fun _ => True) v xs) (hb : b < base) (hg : w.grownBy w1 (some b)) : d.R e w1 base (fun _ => True) v xs :=
  Kd.R_mono (Kd.R_grown (Kd.R_bound h) hg (fun q hq e => by have := hq.2.1; injection e with e; omega)) (fun _ _ => trivial)
theorem tries_all {k : Int} (h0 : 0 ≤ k) {n N N1 N2 N3 d : Nat} (hk : k ≤ n) (hn : (n : Int) ≤ 9) (h1 : N1 ≤ N + k.toNat * (1 + triesIn d)) (h2 : N2 ≤ N1 + 1) (h3 : N3 ≤ N2 + triesIn d) : N3 ≤ N + triesIn (d + 1) := by
 have : k.toNat * (1 + triesIn d) ≤ 9 * (1 + triesIn d) := Nat.mul_le_mul_right _ (by omega)
 simp only [triesIn]
 omega
theorem pack_no {ok : List Int → Bool} {many : Int} {d : Nat} {bs : List (List Int)} {x : Int} {k : Nat} (h : packFrom ok many d bs x k = (if (k : Int) < many ∧ ok ((roomAt bs k).getD k [] ++ [x]) = true then packOf ok many d (putIn bs k x) (x + 1) else none).or (packFrom ok many d bs x (k + 1))) (ho : ok (rowOn bs k x) = false) : packFrom ok many d bs x k = packFrom ok many d bs x (k + 1) := by
 have ho : ok ((roomAt bs k).getD k [] ++ [x]) = false := ho
 rw [h, if_neg (by rw [ho]; simp)]
 rfl
theorem pack_yes {ok : List Int → Bool} {many : Int} {d : Nat} {bs : List (List Int)} {x : Int} {k : Nat} (h : packFrom ok many d bs x k = (if (k : Int) < many ∧ ok ((roomAt bs k).getD k [] ++ [x]) = true then packOf ok many d (putIn bs k x) (x + 1) else none).or (packFrom ok many d bs x (k + 1))) (hk : (k : Int) < many) (ho : ok (rowOn bs k x) = true) : packFrom ok many d bs x k = (packOf ok many d (putIn bs k x) (x + 1)).or (packFrom ok many d bs x (k + 1)) := by
  have ho : ok ((roomAt bs k).getD k [] ++ [x]) = true := ho
  rw [h, if_pos ⟨hk, ho⟩]
theorem neq_nil0 (W : World) : (binOp .neq 30 (.slice none 0 0) (.slice none 0 0)).run Try.prog W = .ok (.bool false) W  := by kernel_rfl
theorem neq_nil1 (W : World) (g n c : Nat) : (binOp .neq 30 (.slice (some ⟨g, 0, none⟩) n c) (.slice none 0 0)).run Try.prog W = .ok (.bool true) W  := by kernel_rfl
theorem pk_keepm {w w' : World} {b N s : Nat} {f : Lit → Option Bool} {p0 p1 p2 p3 p4 p5 p6 : Addr} {v0 v1 v2 v3 v4 v5 v6 : Value} (h : w.cell? p0 = some v0 ∧ w.cell? p1 = some v1 ∧ w.cell? p2 = some v2 ∧ w.cell? p3 = some v3 ∧ w.cell? p4 = some v4 ∧ w.cell? p5 = some v5 ∧ w.cell? p6 = some v6)
    (hM : BoolMaps.IsB Try.prog 167 4 w b N s f) (hg : w.grownBy w' (some b)) : w'.cell? p0 = some v0 ∧ w'.cell? p1 = some v1 ∧ w'.cell? p2 = some v2 ∧ w'.cell? p3 = some v3 ∧ w'.cell? p4 = some v4 ∧ w'.cell? p5 = some v5 ∧ w'.cell? p6 = some v6 :=
  ⟨cell_map h.1 hM hg, cell_map h.2.1 hM hg, cell_map h.2.2.1 hM hg, cell_map h.2.2.2.1 hM hg, cell_map h.2.2.2.2.1 hM hg, cell_map h.2.2.2.2.2.1 hM hg, cell_map h.2.2.2.2.2.2 hM hg⟩
theorem own_far {W : World} {v v1 : Value} {S : Nat} (hf : ∀ q, v.ownBlock = some q → S ≤ q) (hS : S ≤ W.heap.size) (hat : v1.ownBlock = v.ownBlock ∨ ∃ b, v1.ownBlock = some b ∧ W.heap.size ≤ b) : ∀ q, v1.ownBlock = some q → S ≤ q := by
 intro q hq
 rcases hat with h | ⟨b, h, h2⟩
 ·exact hf q (by rw [← h]; exact hq)
 ·rw [h] at hq
  injection hq with hq
  omega
set_option maxHeartbeats 8000000 in
set_option maxRecDepth 100000 in
theorem bung_pack_calls (lo hi : Int) (A1 : Option Addr) (c1 : Nat) (l : List S52) (cr le : Int) (b base : Nat) (hc1 : l.length ≤ c1) (hw : vWad lo hi = true) (hl : okList l = true) (h9 : l.length ≤ 9) (hp : 0 < l.length) (hbb : b < base) (many : Int) :
  ∀ (d : Nat) (bs : List (List Int)) (vb : Value) (x : Int) (w : World) (N s : Nat) (f : Lit → Option Bool), x + d = l.length → okBs bs x →
  Kd.R (Kd.slice 3 (Kd.int .i64)) 38 w base (fun _ => True) vb bs → Kd.C k52 w A1 l.length l → BoolMaps.IsB Try.prog 167 4 w b N s f → Tried l.length (doOf ⟨lo, hi⟩ l cr le) f → base ≤ w.heap.size → N + triesIn d < maxLen →
  Calls Try.prog 77 #[.agg #[.int .i64 lo, .int .i64 hi, .slice A1 l.length c1, .int .i64 cr, .int .i64 le, .map (some b)], vb, .int .i64 x, .int .i64 many] w fun e w' => ∃ v, e = .returned v ∧ RowsOut w' base v (packOf (doOf ⟨lo, hi⟩ l cr le) many d bs x) ∧ w.grownBy w' (some b) ∧ ∃ N' s' f', N' ≤ N + triesIn d ∧ BoolMaps.IsB Try.prog 167 4 w' b N' s' f' ∧ Tried l.length (doOf ⟨lo, hi⟩ l cr le) f' := by
 intro d
 have HL := pA hl
 have HW := pA hw
 have H9 := pA h9
 have HP := pA hp
 have HBB := pA hbb
 clear hl hw h9 hp hbb
 induction d with
 | zero =>
  intro bs vb x w N s f hd hbs hr hc hM hT hbase hN
  have HBS := pA hbs
  have HR := pA hr
  have HM := pA hM
  have HT := pA hT
  obtain ⟨A3, c3, rfl⟩ := Kd.R_slice hr
  have c0 : (x == (l.length : Int)) = true := by rw [beq_iff_eq]; omega
  have HX := pA hd
  have HX0 := pA (heap_alloc_new w (.cells #[.int .i64 lo, .int .i64 hi, .slice A1 l.length c1, .int .i64 cr, .int .i64 le, .map (some b)] 114 (0, 0)))
  have y2 := blk_cell HX0.out 2
  clear hbs hr hc hM hT hd
  by_cases hm : (bs.length : Int) = many
  ·have c1 : ((bs.length : Int) == many) = true := by rw [beq_iff_eq]; exact hm
   have HPK := pA (show packOf (doOf ⟨lo, hi⟩ l cr le) many 0 bs x = some bs by unfold packOf; rw [if_pos hm])
   clear hm
   go_enter Try.func77, Try.ntmps77
   go_wp2
   go_ret
   exact ⟨_, rfl, by rw [HPK.out]; exact ⟨HBS.out.2.2.2 (by have := HX.out; have := HP.out; omega), Kd.R_alloc HR.out _⟩, grown_of_below (below_alloc (Below.refl _ _) _) _, _, _, _, Nat.le_add_right _ _, HM.out.alloc _, HT.out⟩
  ·have c1 : ((bs.length : Int) == many) = false := by rw [beq_eq_false_iff_ne]; exact hm
   have HPK := pA (show packOf (doOf ⟨lo, hi⟩ l cr le) many 0 bs x = none by unfold packOf; rw [if_neg hm])
   clear hm
   go_enter Try.func77, Try.ntmps77
   go_wp2
   go_ret
   exact ⟨_, rfl, by rw [HPK.out]; rfl, grown_of_below (below_alloc (Below.refl _ _) _) _, _, _, _, Nat.le_add_right _ _, HM.out.alloc _, HT.out⟩
 | succ d ih =>
  intro bs vb x w N s f hd hbs hr hc hM hT hbase hN
  have IH := pA ih
  have HBS := pA hbs
  have HR := pA hr
  have HC := pA hc
  have HM := pA hM
  have HT := pA hT
  have HBA := pA hbase
  have HN := pA hN
  have HX := pA hd
  obtain ⟨Ab, cb, rfl⟩ := Kd.R_slice hr
  have c0 : (x == (l.length : Int)) = false := by rw [beq_eq_false_iff_ne]; omega
  have HX0 := pA (heap_alloc_new w (.cells #[.int .i64 lo, .int .i64 hi, .slice A1 l.length c1, .int .i64 cr, .int .i64 le, .map (some b)] 114 (0, 0)))
  have y2 := blk_cell HX0.out 2
  have HBL := pA (show (bs.length : Int) ≤ 9 by have := hbs.2.1; have := H9.out; omega)
  clear hbs hr hc hM hT hd hbase hN ih
  go_enter Try.func77, Try.ntmps77
  go_wp2
  clear y2
  go_loopw [9] (fun v9 w' => ∃ (k : Int) (N' s' : Nat) (f' : Lit → Option Bool), v9 = .int .i64 k ∧ Aside0 (0 ≤ k ∧ k ≤ bs.length + 1) ∧ Aside0 (packOf (doOf ⟨lo, hi⟩ l cr le) many (d + 1) bs x = packFrom (doOf ⟨lo, hi⟩ l cr le) many d bs x k.toNat) ∧ Aside0 (BoolMaps.IsB Try.prog 167 4 w' b N' s' f') ∧ Aside0 (Tried l.length (doOf ⟨lo, hi⟩ l cr le) f') ∧ Aside0 (N' ≤ N + k.toNat * (1 + triesIn d)) ∧ Aside0 (w'.heap[w.heap.size]? = some (.cells #[.int .i64 lo, .int .i64 hi, .slice A1 l.length c1, .int .i64 cr, .int .i64 le, .map (some b)] 114 (0, 0))) ∧ Aside0 (w.grownBy w' (some b))) (fun v9 _ => bs.length + 1 - (intOf v9).toNat)
  case atStart => exact ⟨0, N, s, f, rfl, ⟨by omega⟩, ⟨packFrom_zero _ _ _ _ _⟩, ⟨HM.out.alloc _⟩, HT, ⟨by simp⟩, HX0, ⟨grown_of_below (below_alloc (Below.refl _ _) _) _⟩⟩
  case round =>
   obtain ⟨k, N1, s1, f1, rfl, HK, HPF, HM1, HT1, HN1, HX1, HG1⟩ := hrel
   have HR1 := pA (Kd.R_mono (Kd.R_grown (Kd.R_bound HR.out) HG1.out (fun q hq e => by have := hq.2.1; have := HBB.out; injection e with e; omega)) (fun _ _ => trivial) : Kd.R (Kd.slice 3 (Kd.int .i64)) 38 _ base (fun _ => True) _ bs)
   have HC1 := pA (C_map (d := k52) (fun h => h) (by decide) HC.out HM.out HG1.out)
   have HBA1 := pA (Nat.le_trans HBA.out HG1.out.size)
   by_cases hk1 : k ≤ (bs.length : Int)
   ·have hkb : decide (k ≤ (bs.length : Int)) = true := decide_eq_true hk1
    have HK1 := pA hk1
    clear hk1
    by_cases hk2 : k < many
    ·have hkb2 : decide (k < many) = true := decide_eq_true hk2
     have HK2 := pA hk2
     clear hk2
     have HKR := pA (show k < ((roomAt bs k.toNat).length : Int) by have := roomAt_len (bs := bs) (k := k.toNat) (by have := HK1.out; omega); have := HK.out.1; omega)
     have HTRY := pA (show okTry l.length (rowOn bs k.toNat x) from next_ok HBS.out (k := k.toNat) (n := l.length) (by have := HK1.out; omega) (by have := HX.out; omega))
     have HROW := pA (show (rowAt bs k.toNat).length ≤ 1000000 by have h := HTRY.out.len; have := H9.out; unfold rowOn at h; rw [List.length_append] at h; omega)
     have p1 : (0 ≤ k) = True := eq_true HK.out.1
     have p2 : (k < ((roomAt bs k.toNat).length : Int)) = True := eq_true HKR.out
     by_cases hk3 : k = (bs.length : Int)
     ·have hkb3 : (k == (bs.length : Int)) = true := by rw [beq_iff_eq]; exact hk3
      have HRO := pA (show roomAt bs k.toNat = bs ++ [[]] by unfold roomAt; rw [if_pos (by omega)])
      clear hk3
      go_wp2_with (first
       | (go_at_call 124; refine (clone_rows_calls _ bs base (fun _ => True) _ HR1.out HBA1.out (by have := HBL.out; omega)).mono ?_; rintro e W1 ⟨v1, rfl, ho, hf1, hb1⟩; obtain ⟨A3, c3, rfl⟩ := Kd.R_slice ho; have HO1 := pA (Kd.R_mono (ok' := fun _ => True) ho (fun _ _ => trivial)); have HF1 := pA hf1; have HB1 := pA hb1; clear ho hf1 hb1)
       | ((with_reducible refine aG (b := .append) (xs := #[.tmp 39, .tmp 40]) rfl ?_); at_builtin; refine Kd.R_append (Kd.slice 3 (Kd.int .i64)) (w0 := W1) base rfl (.tmp 39) (.tmp 40) 30 38 _ 24 rfl Try.underlying30 info38 rfl (by decide) (by omega) (.slice A3 bs.length c3) bs [] [.slice none 0 0] (fun _ => True) (fun _ => False) rfl rfl ?aP (fun _ hk => hk.elim) ?aF ?aO ?aB ?aS ?aL ?_; (case aP => exact ⟨_, rfl, Kd.R_nil _ _ _ _ _⟩); (case aB => exact Below.refl _ _); (case aF => exact fun _ _ => trivial); (case aO => exact HO1.out); (case aS => exact Nat.le_trans HBA1.out HB1.out.size); (case aL => have := HBL.out; omega); intro v2 Wn ho hb hg hat; have hf2 := own_far HF1.out HB1.out.size hat; have hb2 := pw_below_grown HB1.out _ HB1.out.size hg HF1.out; have ho2 : Kd.R (Kd.slice 3 (Kd.int .i64)) 38 Wn base (fun _ => True) v2 (roomAt bs k.toNat) := (by rw [HRO.out]; exact ho); clear ho hb hg hat; obtain ⟨g, cap, Ai, ci, e9, ⟨cells, hgl⟩, y0, hci, hCi⟩ := row_room ho2 HK.out.1 HKR.out; subst e9; have HRo := pA ho2; have HF := pA hf2; have HBw := pA hb2; have HCi := pA hCi; have HGL := pA hgl; have HY := pA y0; clear ho2 hf2 hb2 hCi hgl)
       | (go_at_call 125; refine (slices_Clone_int_int.calls Ai ci (rowAt bs k.toNat) _ _ HCi.out hci (clone_f _ HROW.out)).mono ?_; rintro e W3 ⟨v3, rfl, ho3, hb3⟩; obtain ⟨A4, c4, rfl⟩ := Kd.R_slice ho3; have HO3 := pA ho3; have HB3 := pA hb3; clear ho3 hb3)
       | ((with_reducible refine aG (b := .append) (xs := #[.tmp 48, .tmp 50]) rfl ?_); at_builtin; refine Kd.R_append (Kd.int .i64) (w0 := Wn) Wn.heap.size rfl (.tmp 48) (.tmp 50) 38 3 (.int .i64 0) 8 rfl Try.underlying38 info3 rfl (by decide) (by omega) (.slice A4 (rowAt bs k.toNat).length c4) (rowAt bs k.toNat) x [.int .i64 x] (fun _ => True) (fun _ => False) rfl rfl ?aP (fun _ hk => hk.elim) ?aF ?aO ?aB ?aS ?aL ?_; (case aP => exact rfl); (case aB => exact HB3.out); (case aF => exact fun _ _ => trivial); (case aO => exact HO3.out); (case aS => exact HB3.out.size); (case aL => have := HROW.out; omega); intro v5 W5 ho5 hb5 hg5 hat5; have ho5 : Kd.R (Kd.int .i64) 3 W5 Wn.heap.size (fun _ => True) v5 (rowOn bs k.toNat x) := ho5; obtain ⟨A5, c5, rfl⟩ := Kd.R_slice ho5; have HO5 := pA ho5; have HB5 := pA hb5; have y5 := pw_cell_below hb5 HY.out; have z5 := blk_frozen (blk_below HGL.out hb5) k.toNat; clear ho5 hb5 hg5 hat5 y0))
      obtain ⟨hr6, hg6⟩ := row_store (Kd.R_below HRo.out HB5.out) HK.out.1 HKR.out y5 HO5.out (blk_lt HGL.out) (Nat.le_trans HBA1.out HBw.out.size)
      have HR6 := pA hr6
      have HB6 := pA (pw_below_grown (below_step HBw.out HB5.out) _ (below_step HBw.out HB5.out).size hg6 (fun q e => HF.out q (by rw [← e]; rfl)))
      clear hr6 hg6 y5 z5
      obtain ⟨A7, c7, y7, hc7, hC7⟩ := row_put HR6.out HK.out.1 HK1.out
      have HC7 := pA hC7
      have HX6 := pA (blk_below HX1.out HB6.out)
      have v0 := blk_cell HX6.out 0
      have v1 := blk_cell HX6.out 1
      have v2 := blk_cell HX6.out 2
      have v3 := blk_cell HX6.out 3
      have v4 := blk_cell HX6.out 4
      have v5 := blk_cell HX6.out 5
      have HMD := pA (HM1.out.below HB6.out).drew
      have hnx : wrap64 (k + 1) = k + 1 := by have := HK.out; have := HBL.out; unfold wrap64; omega
      have HNX := pA hnx
      have HTL := pA (tries_lt HK.out.1 HN1.out HK1.out HBL.out HN.out)
      have HN1B := pA (Nat.lt_of_le_of_lt (Nat.le_trans (Nat.le_add_right N1 1) (Nat.le_add_right _ _)) HTL.out)
      have HPS := pA (packFrom_step (doOf ⟨lo, hi⟩ l cr le) many d bs x k.toNat (by have := HK1.out; omega))
      clear hC7 hnx
      cases hdo : doOf ⟨lo, hi⟩ l cr le (rowOn bs k.toNat x) with
      | false =>
       have HDO := pA hdo
       have HPN := pA (pack_no HPS.out hdo)
       clear hdo
       go_region_held3 (fun W' => W'.cell? ⟨w.heap.size, 0, none⟩ = some (.int .i64 lo) ∧ W'.cell? ⟨w.heap.size, 1, none⟩ = some (.int .i64 hi) ∧ W'.cell? ⟨w.heap.size, 2, none⟩ = some (.slice A1 l.length c1) ∧ W'.cell? ⟨w.heap.size, 3, none⟩ = some (.int .i64 cr) ∧ W'.cell? ⟨w.heap.size, 4, none⟩ = some (.int .i64 le) ∧ W'.cell? ⟨w.heap.size, 5, none⟩ = some (.map (some b)) ∧ W'.cell? ⟨g, k.toNat, none⟩ = some (.slice A7 (rowOn bs k.toNat x).length c7))
        (first
         | exact ⟨v0, v1, v2, v3, v4, v5, y7⟩
         | exact pk_keepm (by assumption) HMD.out hg7
         | go_keep)
        (first
         | (go_at_call 126; refine (bung_known_calls lo hi A1 c1 l cr le b N1 s1 f1 A7 c7 (rowOn bs k.toNat x) _ (Kd.C_below HC1.out (below_drew HB6.out)) hc1 (Kd.C_drew HC7.out) hc7 HW.out HL.out H9.out HTRY.out HMD.out HN1B.out HT1.out).mono ?_; rintro e W7 ⟨he, hg7, N2, s2, f2, hN2, hM2, hT2⟩; rw [HDO.out] at he; subst he))
       have HN2 := pA hN2
       have HM2 := pA hM2
       have HT2 := pA hT2
       have HG7 := pA (grown_trans_ HG1.out (grown_trans_ (grown_of_below (below_drew HB6.out) _) hg7))
       have HR7 := pA (R_map (Kd.R_drew HR6.out) HBB.out hg7)
       have HX7 := pA (blk_grown (blk_drew HX6.out) hg7 (fun e => by have := HBB.out; have := HBA.out; injection e with e; omega))
       clear hN2 hM2 hT2 hg7
       go_wp2
       go_roundw
       case measure => have := HK1.out; have := HK.out; simp [intOf, HNX.out]; omega
       case rel => exact ⟨k + 1, N2, s2, f2, by rw [HNX.out], ⟨by have := HK1.out; have := HK.out; omega⟩, ⟨by rw [HPF.out, HPN.out, show (k + 1).toNat = k.toNat + 1 by have := HK.out; omega]⟩, HM2, HT2, ⟨tries_step HK.out.1 HN1.out HN2.out (by omega)⟩, HX7, HG7⟩
      | true =>
       have HDO := pA hdo
       have HPY := pA (pack_yes HPS.out (show ((k.toNat : Nat) : Int) < many by have := HK2.out; have := HK.out; omega) hdo)
       clear hdo
       go_region_held3 (fun W' => W'.cell? ⟨w.heap.size, 0, none⟩ = some (.int .i64 lo) ∧ W'.cell? ⟨w.heap.size, 1, none⟩ = some (.int .i64 hi) ∧ W'.cell? ⟨w.heap.size, 2, none⟩ = some (.slice A1 l.length c1) ∧ W'.cell? ⟨w.heap.size, 3, none⟩ = some (.int .i64 cr) ∧ W'.cell? ⟨w.heap.size, 4, none⟩ = some (.int .i64 le) ∧ W'.cell? ⟨w.heap.size, 5, none⟩ = some (.map (some b)) ∧ W'.cell? ⟨g, k.toNat, none⟩ = some (.slice A7 (rowOn bs k.toNat x).length c7))
        (first
         | exact ⟨v0, v1, v2, v3, v4, v5, y7⟩
         | exact pk_keepm (by assumption) HMD.out hg7
         | go_keep)
        (first
         | (go_at_call 126; refine (bung_known_calls lo hi A1 c1 l cr le b N1 s1 f1 A7 c7 (rowOn bs k.toNat x) _ (Kd.C_below HC1.out (below_drew HB6.out)) hc1 (Kd.C_drew HC7.out) hc7 HW.out HL.out H9.out HTRY.out HMD.out HN1B.out HT1.out).mono ?_; rintro e W7 ⟨he, hg7, N2, s2, f2, hN2, hM2, hT2⟩; rw [HDO.out] at he; subst he))
       have HN2 := pA hN2
       have HM2 := pA hM2
       have HT2 := pA hT2
       have HG7 := pA (grown_trans_ HG1.out (grown_trans_ (grown_of_below (below_drew HB6.out) _) hg7))
       have HR7 := pA (R_map (Kd.R_drew HR6.out) HBB.out hg7)
       have HX7 := pA (blk_grown (blk_drew HX6.out) hg7 (fun e => by have := HBB.out; have := HBA.out; injection e with e; omega))
       clear hN2 hM2 hT2 hg7
       have hw1 : wrap64 (x + 1) = x + 1 := by have := HX.out; have := H9.out; have := HBS.out.2.2.1; unfold wrap64; omega
       have HBP := pA (putIn_ok HBS.out (k := k.toNat) (by have := HK1.out; omega))
       have HIH := pA (fun c => IH.out (putIn bs k.toNat x) (.slice (some ⟨g, 0, none⟩) (roomAt bs k.toNat).length cap) (wrap64 (x + 1)) W7 N2 s2 f2 (by rw [hw1]; have := HX.out; omega) (by rw [hw1]; exact HBP.out) HR7.out c HM2.out HT2.out (Nat.le_trans HBA.out HG7.out.size) (by have := HTL.out; have := HN2.out; omega))
       have HW1 := pA hw1
       have z0 := blk_cell HX7.out 0
       have z1 := blk_cell HX7.out 1
       have z2 := blk_cell HX7.out 2
       have z3 := blk_cell HX7.out 3
       have z4 := blk_cell HX7.out 4
       have z5 := blk_cell HX7.out 5
       have HC8 := pA (C_map (d := k52) (fun h => h) (by decide) HC.out HM.out HG7.out)
       clear hw1
       cases hpk : packOf (doOf ⟨lo, hi⟩ l cr le) many d (putIn bs k.toNat x) (x + 1) with
       | none =>
        have HPK := pA hpk
        have HPZ := pA (HPY.out.trans (by rw [hpk]))
        clear hpk
        go_wp2_with (go_at_call 77; refine (HIH.out HC8.out).mono ?_; rintro e W8 ⟨v8, rfl, ho8, hg8, N3, s3, f3, hN3, hM3, hT3⟩; rw [HW1.out, HPK.out] at ho8; have h8 : v8 = .slice none 0 0 := ho8; subst h8; have hneq := neq_nil0 W8; have HG8 := pA (grown_trans_ HG7.out hg8); have HX8 := pA (blk_grown HX7.out hg8 (fun e => by have := HBB.out; have := HBA.out; injection e with e; omega)); have HN3 := pA hN3; have HM3 := pA hM3; have HT3 := pA hT3; clear hN3 hM3 hT3 hg8 ho8)
        go_roundw
        case measure => have := HK1.out; have := HK.out; simp [intOf, HNX.out]; omega
        case rel => exact ⟨k + 1, N3, s3, f3, by rw [HNX.out], ⟨by have := HK1.out; have := HK.out; omega⟩, ⟨by rw [HPF.out, HPZ.out, Option.none_or, show (k + 1).toNat = k.toNat + 1 by have := HK.out; omega]⟩, HM3, HT3, ⟨tries_step (N1 := N1) HK.out.1 HN1.out (Nat.le_trans HN3.out (by have := HN2.out; omega : N2 + triesIn d ≤ N1 + (1 + triesIn d))) (Nat.le_refl _)⟩, HX8, HG8⟩
       | some out =>
        have HPK := pA hpk
        have HPZ := pA (HPY.out.trans (by rw [hpk]))
        clear hpk
        go_wp2_with (go_at_call 77; refine (HIH.out HC8.out).mono ?_; rintro e W8 ⟨v8, rfl, ho8, hg8, N3, s3, f3, hN3, hM3, hT3⟩; rw [HW1.out, HPK.out] at ho8; obtain ⟨hne8, hr8⟩ := ho8; obtain ⟨g8, cap8, rfl, hform8⟩ := Kd.R_form hr8 (List.length_pos_iff.2 hne8); have hneq := neq_nil1 W8 g8 out.length cap8; have HO8 := pA hr8; have HNE := pA hne8; have HG8 := pA (grown_trans_ HG7.out hg8); have HN3 := pA hN3; have HM3 := pA hM3; have HT3 := pA hT3; clear hN3 hM3 hT3 hg8 hne8 hr8 hform8)
        go_ret
        exact ⟨_, rfl, by rw [HPF.out, HPZ.out]; exact ⟨HNE.out, HO8.out⟩, HG8.out, N3, s3, f3, tries_all HK.out.1 HK1.out HBL.out HN1.out HN2.out HN3.out, HM3.out, HT3.out⟩
     ·have hkb3 : (k == (bs.length : Int)) = false := by rw [beq_eq_false_iff_ne]; exact hk3
      have HRO := pA (show roomAt bs k.toNat = bs by unfold roomAt; rw [if_neg (by have := HK.out; omega)])
      clear hk3
      go_wp2_with (first
       | (go_at_call 124; refine (clone_rows_calls _ bs base (fun _ => True) _ HR1.out HBA1.out (by have := HBL.out; omega)).mono ?_; rintro e Wn ⟨v1, rfl, ho, hf2, hb2⟩; have ho2 : Kd.R (Kd.slice 3 (Kd.int .i64)) 38 Wn base (fun _ => True) v1 (roomAt bs k.toNat) := (by rw [HRO.out]; exact Kd.R_mono ho (fun _ _ => trivial)); clear ho; obtain ⟨g, cap, Ai, ci, e9, ⟨cells, hgl⟩, y0, hci, hCi⟩ := row_room ho2 HK.out.1 HKR.out; subst e9; have HRo := pA ho2; have HF := pA hf2; have HBw := pA hb2; have HCi := pA hCi; have HGL := pA hgl; have HY := pA y0; clear ho2 hf2 hb2 hCi hgl)
       | (go_at_call 125; refine (slices_Clone_int_int.calls Ai ci (rowAt bs k.toNat) _ _ HCi.out hci (clone_f _ HROW.out)).mono ?_; rintro e W3 ⟨v3, rfl, ho3, hb3⟩; obtain ⟨A4, c4, rfl⟩ := Kd.R_slice ho3; have HO3 := pA ho3; have HB3 := pA hb3; clear ho3 hb3)
       | ((with_reducible refine aG (b := .append) (xs := #[.tmp 48, .tmp 50]) rfl ?_); at_builtin; refine Kd.R_append (Kd.int .i64) (w0 := Wn) Wn.heap.size rfl (.tmp 48) (.tmp 50) 38 3 (.int .i64 0) 8 rfl Try.underlying38 info3 rfl (by decide) (by omega) (.slice A4 (rowAt bs k.toNat).length c4) (rowAt bs k.toNat) x [.int .i64 x] (fun _ => True) (fun _ => False) rfl rfl ?aP (fun _ hk => hk.elim) ?aF ?aO ?aB ?aS ?aL ?_; (case aP => exact rfl); (case aB => exact HB3.out); (case aF => exact fun _ _ => trivial); (case aO => exact HO3.out); (case aS => exact HB3.out.size); (case aL => have := HROW.out; omega); intro v5 W5 ho5 hb5 hg5 hat5; have ho5 : Kd.R (Kd.int .i64) 3 W5 Wn.heap.size (fun _ => True) v5 (rowOn bs k.toNat x) := ho5; obtain ⟨A5, c5, rfl⟩ := Kd.R_slice ho5; have HO5 := pA ho5; have HB5 := pA hb5; have y5 := pw_cell_below hb5 HY.out; have z5 := blk_frozen (blk_below HGL.out hb5) k.toNat; clear ho5 hb5 hg5 hat5 y0))
      obtain ⟨hr6, hg6⟩ := row_store (Kd.R_below HRo.out HB5.out) HK.out.1 HKR.out y5 HO5.out (blk_lt HGL.out) (Nat.le_trans HBA1.out HBw.out.size)
      have HR6 := pA hr6
      have HB6 := pA (pw_below_grown (below_step HBw.out HB5.out) _ (below_step HBw.out HB5.out).size hg6 (fun q e => HF.out q (by rw [← e]; rfl)))
      clear hr6 hg6 y5 z5
      obtain ⟨A7, c7, y7, hc7, hC7⟩ := row_put HR6.out HK.out.1 HK1.out
      have HC7 := pA hC7
      have HX6 := pA (blk_below HX1.out HB6.out)
      have v0 := blk_cell HX6.out 0
      have v1 := blk_cell HX6.out 1
      have v2 := blk_cell HX6.out 2
      have v3 := blk_cell HX6.out 3
      have v4 := blk_cell HX6.out 4
      have v5 := blk_cell HX6.out 5
      have HMD := pA (HM1.out.below HB6.out).drew
      have hnx : wrap64 (k + 1) = k + 1 := by have := HK.out; have := HBL.out; unfold wrap64; omega
      have HNX := pA hnx
      have HTL := pA (tries_lt HK.out.1 HN1.out HK1.out HBL.out HN.out)
      have HN1B := pA (Nat.lt_of_le_of_lt (Nat.le_trans (Nat.le_add_right N1 1) (Nat.le_add_right _ _)) HTL.out)
      have HPS := pA (packFrom_step (doOf ⟨lo, hi⟩ l cr le) many d bs x k.toNat (by have := HK1.out; omega))
      clear hC7 hnx
      cases hdo : doOf ⟨lo, hi⟩ l cr le (rowOn bs k.toNat x) with
      | false =>
       have HDO := pA hdo
       have HPN := pA (pack_no HPS.out hdo)
       clear hdo
       go_region_held3 (fun W' => W'.cell? ⟨w.heap.size, 0, none⟩ = some (.int .i64 lo) ∧ W'.cell? ⟨w.heap.size, 1, none⟩ = some (.int .i64 hi) ∧ W'.cell? ⟨w.heap.size, 2, none⟩ = some (.slice A1 l.length c1) ∧ W'.cell? ⟨w.heap.size, 3, none⟩ = some (.int .i64 cr) ∧ W'.cell? ⟨w.heap.size, 4, none⟩ = some (.int .i64 le) ∧ W'.cell? ⟨w.heap.size, 5, none⟩ = some (.map (some b)) ∧ W'.cell? ⟨g, k.toNat, none⟩ = some (.slice A7 (rowOn bs k.toNat x).length c7))
        (first
         | exact ⟨v0, v1, v2, v3, v4, v5, y7⟩
         | exact pk_keepm (by assumption) HMD.out hg7
         | go_keep)
        (first
         | (go_at_call 126; refine (bung_known_calls lo hi A1 c1 l cr le b N1 s1 f1 A7 c7 (rowOn bs k.toNat x) _ (Kd.C_below HC1.out (below_drew HB6.out)) hc1 (Kd.C_drew HC7.out) hc7 HW.out HL.out H9.out HTRY.out HMD.out HN1B.out HT1.out).mono ?_; rintro e W7 ⟨he, hg7, N2, s2, f2, hN2, hM2, hT2⟩; rw [HDO.out] at he; subst he))
       have HN2 := pA hN2
       have HM2 := pA hM2
       have HT2 := pA hT2
       have HG7 := pA (grown_trans_ HG1.out (grown_trans_ (grown_of_below (below_drew HB6.out) _) hg7))
       have HR7 := pA (R_map (Kd.R_drew HR6.out) HBB.out hg7)
       have HX7 := pA (blk_grown (blk_drew HX6.out) hg7 (fun e => by have := HBB.out; have := HBA.out; injection e with e; omega))
       clear hN2 hM2 hT2 hg7
       go_wp2
       go_roundw
       case measure => have := HK1.out; have := HK.out; simp [intOf, HNX.out]; omega
       case rel => exact ⟨k + 1, N2, s2, f2, by rw [HNX.out], ⟨by have := HK1.out; have := HK.out; omega⟩, ⟨by rw [HPF.out, HPN.out, show (k + 1).toNat = k.toNat + 1 by have := HK.out; omega]⟩, HM2, HT2, ⟨tries_step HK.out.1 HN1.out HN2.out (by omega)⟩, HX7, HG7⟩
      | true =>
       have HDO := pA hdo
       have HPY := pA (pack_yes HPS.out (show ((k.toNat : Nat) : Int) < many by have := HK2.out; have := HK.out; omega) hdo)
       clear hdo
       go_region_held3 (fun W' => W'.cell? ⟨w.heap.size, 0, none⟩ = some (.int .i64 lo) ∧ W'.cell? ⟨w.heap.size, 1, none⟩ = some (.int .i64 hi) ∧ W'.cell? ⟨w.heap.size, 2, none⟩ = some (.slice A1 l.length c1) ∧ W'.cell? ⟨w.heap.size, 3, none⟩ = some (.int .i64 cr) ∧ W'.cell? ⟨w.heap.size, 4, none⟩ = some (.int .i64 le) ∧ W'.cell? ⟨w.heap.size, 5, none⟩ = some (.map (some b)) ∧ W'.cell? ⟨g, k.toNat, none⟩ = some (.slice A7 (rowOn bs k.toNat x).length c7))
        (first
         | exact ⟨v0, v1, v2, v3, v4, v5, y7⟩
         | exact pk_keepm (by assumption) HMD.out hg7
         | go_keep)
        (first
         | (go_at_call 126; refine (bung_known_calls lo hi A1 c1 l cr le b N1 s1 f1 A7 c7 (rowOn bs k.toNat x) _ (Kd.C_below HC1.out (below_drew HB6.out)) hc1 (Kd.C_drew HC7.out) hc7 HW.out HL.out H9.out HTRY.out HMD.out HN1B.out HT1.out).mono ?_; rintro e W7 ⟨he, hg7, N2, s2, f2, hN2, hM2, hT2⟩; rw [HDO.out] at he; subst he))
       have HN2 := pA hN2
       have HM2 := pA hM2
       have HT2 := pA hT2
       have HG7 := pA (grown_trans_ HG1.out (grown_trans_ (grown_of_below (below_drew HB6.out) _) hg7))
       have HR7 := pA (R_map (Kd.R_drew HR6.out) HBB.out hg7)
       have HX7 := pA (blk_grown (blk_drew HX6.out) hg7 (fun e => by have := HBB.out; have := HBA.out; injection e with e; omega))
       clear hN2 hM2 hT2 hg7
       have hw1 : wrap64 (x + 1) = x + 1 := by have := HX.out; have := H9.out; have := HBS.out.2.2.1; unfold wrap64; omega
       have HBP := pA (putIn_ok HBS.out (k := k.toNat) (by have := HK1.out; omega))
       have HIH := pA (fun c => IH.out (putIn bs k.toNat x) (.slice (some ⟨g, 0, none⟩) (roomAt bs k.toNat).length cap) (wrap64 (x + 1)) W7 N2 s2 f2 (by rw [hw1]; have := HX.out; omega) (by rw [hw1]; exact HBP.out) HR7.out c HM2.out HT2.out (Nat.le_trans HBA.out HG7.out.size) (by have := HTL.out; have := HN2.out; omega))
       have HW1 := pA hw1
       have z0 := blk_cell HX7.out 0
       have z1 := blk_cell HX7.out 1
       have z2 := blk_cell HX7.out 2
       have z3 := blk_cell HX7.out 3
       have z4 := blk_cell HX7.out 4
       have z5 := blk_cell HX7.out 5
       have HC8 := pA (C_map (d := k52) (fun h => h) (by decide) HC.out HM.out HG7.out)
       clear hw1
       cases hpk : packOf (doOf ⟨lo, hi⟩ l cr le) many d (putIn bs k.toNat x) (x + 1) with
       | none =>
        have HPK := pA hpk
        have HPZ := pA (HPY.out.trans (by rw [hpk]))
        clear hpk
        go_wp2_with (go_at_call 77; refine (HIH.out HC8.out).mono ?_; rintro e W8 ⟨v8, rfl, ho8, hg8, N3, s3, f3, hN3, hM3, hT3⟩; rw [HW1.out, HPK.out] at ho8; have h8 : v8 = .slice none 0 0 := ho8; subst h8; have hneq := neq_nil0 W8; have HG8 := pA (grown_trans_ HG7.out hg8); have HX8 := pA (blk_grown HX7.out hg8 (fun e => by have := HBB.out; have := HBA.out; injection e with e; omega)); have HN3 := pA hN3; have HM3 := pA hM3; have HT3 := pA hT3; clear hN3 hM3 hT3 hg8 ho8)
        go_roundw
        case measure => have := HK1.out; have := HK.out; simp [intOf, HNX.out]; omega
        case rel => exact ⟨k + 1, N3, s3, f3, by rw [HNX.out], ⟨by have := HK1.out; have := HK.out; omega⟩, ⟨by rw [HPF.out, HPZ.out, Option.none_or, show (k + 1).toNat = k.toNat + 1 by have := HK.out; omega]⟩, HM3, HT3, ⟨tries_step (N1 := N1) HK.out.1 HN1.out (Nat.le_trans HN3.out (by have := HN2.out; omega : N2 + triesIn d ≤ N1 + (1 + triesIn d))) (Nat.le_refl _)⟩, HX8, HG8⟩
       | some out =>
        have HPK := pA hpk
        have HPZ := pA (HPY.out.trans (by rw [hpk]))
        clear hpk
        go_wp2_with (go_at_call 77; refine (HIH.out HC8.out).mono ?_; rintro e W8 ⟨v8, rfl, ho8, hg8, N3, s3, f3, hN3, hM3, hT3⟩; rw [HW1.out, HPK.out] at ho8; obtain ⟨hne8, hr8⟩ := ho8; obtain ⟨g8, cap8, rfl, hform8⟩ := Kd.R_form hr8 (List.length_pos_iff.2 hne8); have hneq := neq_nil1 W8 g8 out.length cap8; have HO8 := pA hr8; have HNE := pA hne8; have HG8 := pA (grown_trans_ HG7.out hg8); have HN3 := pA hN3; have HM3 := pA hM3; have HT3 := pA hT3; clear hN3 hM3 hT3 hg8 hne8 hr8 hform8)
        go_ret
        exact ⟨_, rfl, by rw [HPF.out, HPZ.out]; exact ⟨HNE.out, HO8.out⟩, HG8.out, N3, s3, f3, tries_all HK.out.1 HK1.out HBL.out HN1.out HN2.out HN3.out, HM3.out, HT3.out⟩
    ·have hkb2 : decide (k < many) = false := decide_eq_false hk2
     have HPK := pA (HPF.out.trans (packFrom_many _ many d bs x k.toNat (by have := HK.out; omega)))
     clear hk2
     go_wp2
     go_ret
     exact ⟨_, rfl, by rw [HPK.out]; rfl, HG1.out, _, _, _, Nat.le_trans HN1.out (tries_le HK.out.1 HK.out.2 HBL.out _ _), HM1.out, HT1.out⟩
   ·have hkb : decide (k ≤ (bs.length : Int)) = false := decide_eq_false hk1
    have HPK := pA (HPF.out.trans (packFrom_end _ many d bs x k.toNat (by have := HK.out; omega)))
    clear hk1
    go_wp2
    go_ret
    exact ⟨_, rfl, by rw [HPK.out]; rfl, HG1.out, _, _, _, Nat.le_trans HN1.out (tries_le HK.out.1 HK.out.2 HBL.out _ _), HM1.out, HT1.out⟩
/-- The fewest bungs. -/
def fewestFrom (ok : List Int → Bool) (n k : Nat) : Option (List (List Int)) := (List.range' k (n + 1 - k)).findSome? fun (m : Nat) => packOf ok m n [] 0
def bung_Fewest.f (a0 a1 : Int) (l1 : List S52) (a2 a3 : Int) : Option (List (List Int) × Int) :=
 (bung_asked.f a0 a1 l1 a2 a3).map fun e => if e ≠ 0 then ([], e) else if 9 < l1.length then ([], 36) else if l1.length = 0 then ([], 0) else match fewestFrom (doOf ⟨a0, a1⟩ l1 a2 a3) l1.length 1 with
  | some out => (out, 0)
  | none => ([], 3)
theorem asked_ok {a0 a1 : Int} {l : List S52} {a2 a3 : Int} (h : bung_asked.f a0 a1 l a2 a3 = some 0) : vWad a0 a1 = true ∧ okList l = true := by
 unfold bung_asked.f at h
 rw [isWad_eq] at h
 cases hw : vWad a0 a1 with
 | false => simp [hw] at h
 | true =>
  refine ⟨rfl, ?_⟩
  unfold bung_isList.f at h
  cases hl : okList l with
  | false => simp [hw, hl] at h
  | true => rfl
theorem fewest_step (ok : List Int → Bool) (n k : Nat) (hk : k ≤ n) : fewestFrom ok n k = (packOf ok k n [] 0).or (fewestFrom ok n (k + 1)) := by
 unfold fewestFrom
 rw [show n + 1 - k = (n + 1 - (k + 1)) + 1 from by omega, List.range'_succ, List.findSome?_cons]
 split <;> rename_i h <;> rw [h] <;> rfl
theorem fewest_end (ok : List Int → Bool) (n k : Nat) (hk : n < k) : fewestFrom ok n k = none := by
 unfold fewestFrom
 rw [show n + 1 - k = 0 from by omega]
 rfl
theorem tries_nine : ∀ n, n ≤ 9 → triesIn n ≤ 3000000000 := by decide
theorem okBs_nil : okBs [] 0 := ⟨fun b hb => absurd hb List.not_mem_nil, Int.le_refl _, Int.le_refl _, fun h => absurd h (Int.lt_irrefl _)⟩
theorem fewest_tries {m : Int} (h1 : 1 ≤ m) {N N3 d : Nat} (hN : N ≤ (m.toNat - 1) * triesIn d) (h3 : N3 ≤ N + triesIn d) : N3 ≤ ((m + 1).toNat - 1) * triesIn d := by
  rw [show (m + 1).toNat - 1 = (m.toNat - 1) + 1 by omega, Nat.succ_mul]
  omega
theorem blk_new3 (w : World) (a b c : Obj) : (((w.alloc a).alloc b).alloc c).heap[w.heap.size + 2]? = some c := by
  have := heap_alloc_new ((w.alloc a).alloc b) c
  rwa [World.size_alloc, World.size_alloc] at this
set_option maxHeartbeats 8000000 in
set_option maxRecDepth 100000 in
theorem bung_Fewest.calls (a0_0 : Int) (a0_1 : Int) (A1 : Option Addr) (c1 : Nat) (l1 : List S52) (a2_0 : Int) (a2_1 : Int) (r1 : List (List Int)) (r2 : Int) (w : World) (hr1 : Kd.C k52 w A1 l1.length l1) (hc1 : l1.length ≤ c1) (h : bung_Fewest.f a0_0 a0_1 l1 a2_0 a2_1 = some (r1, r2)) :
  Calls Try.prog 20 #[.agg #[.int .i64 a0_0, .int .i64 a0_1], .slice A1 l1.length c1, .agg #[.int .i64 a2_0, .int .i64 a2_1]] w fun e w' => ∃ v0_ : Value, e = .returned (.tuple #[v0_, .int .i64 r2]) ∧ Kd.R (Kd.slice 3 (Kd.int .i64)) 38 w' w.heap.size (fun _ => True) v0_ r1 ∧ Below w.heap.size w w' := by
 have HR1 := pA hr1
 clear hr1
 obtain ⟨e, he, h⟩ := Option.map_eq_some_iff.1 h
 have HE := pA he
 have HX0 := pA (blk_alloc (heap_alloc_new w (.cells #[.int .i64 a0_0, .int .i64 a0_1] 23 (0, 0))) (.cells #[.int .i64 a2_0, .int .i64 a2_1] 26 (0, 0)))
 have HX1 := pA (blk_new2 w (.cells #[.int .i64 a0_0, .int .i64 a0_1] 23 (0, 0)) (.cells #[.int .i64 a2_0, .int .i64 a2_1] 26 (0, 0)))
 by_cases h0 : e = 0
 ·rw [if_neg (by simp [h0])] at h
  subst h0
  obtain ⟨hw, hl⟩ := asked_ok he
  have HW := pA hw
  have HL := pA hl
  clear he hw hl
  by_cases h9 : 9 < l1.length
  ·rw [if_pos h9] at h
   simp only [Prod.mk.injEq] at h
   obtain ⟨rfl, rfl⟩ := h
   have k9 : decide ((l1.length : Int) > 9) = true := decide_eq_true (by omega)
   have k9' : decide (9 < (l1.length : Int)) = true := decide_eq_true (by omega)
   clear h9
   go_enter Try.func20, Try.ntmps20
   go_wp2_with (go_at_call 76; refine (bung_asked.calls _ _ A1 c1 l1 _ _ 0 _ (Kd.C_alloc (Kd.C_alloc HR1.out _) _) hc1 HE.out).mono ?_; rintro e w1 ⟨rfl, hb⟩; have HB1 := pA (below_step (below_alloc (below_alloc (Below.refl _ _) _) _) hb); clear hb)
   refine bodyPost_ret (results_tmp2 rfl _ _ _) rfl ?_
   exact ⟨_, rfl, Kd.R_nil _ _ _ _ _, HB1.out⟩
  ·rw [if_neg h9] at h
   have k9 : decide ((l1.length : Int) > 9) = false := decide_eq_false (by omega)
   have k9' : decide (9 < (l1.length : Int)) = false := decide_eq_false (by omega)
   have H9 := pA (Nat.le_of_not_lt h9)
   clear h9
   by_cases hz : l1.length = 0
   ·rw [if_pos hz] at h
    simp only [Prod.mk.injEq] at h
    obtain ⟨rfl, rfl⟩ := h
    have kz : ((l1.length : Int) == 0) = true := by rw [hz]; rfl
    clear hz
    go_enter Try.func20, Try.ntmps20
    go_wp2_with (go_at_call 76; refine (bung_asked.calls _ _ A1 c1 l1 _ _ 0 _ (Kd.C_alloc (Kd.C_alloc HR1.out _) _) hc1 HE.out).mono ?_; rintro e w1 ⟨rfl, hb⟩; have HB1 := pA (below_step (below_alloc (below_alloc (Below.refl _ _) _) _) hb); clear hb)
    refine bodyPost_ret (results_tmp2 rfl _ _ _) rfl ?_
    exact ⟨_, rfl, Kd.R_nil _ _ _ _ _, HB1.out⟩
   ·rw [if_neg hz] at h
    have HZ := pA (Nat.pos_of_ne_zero hz)
    have kz : ((l1.length : Int) == 0) = false := by rw [beq_eq_false_iff_ne]; omega
    have HH := pA h
    have hmm := @run_makeMap Try.prog
    clear hz h
    go_enter Try.func20, Try.ntmps20
    go_wp2_with (go_at_call 76; refine (bung_asked.calls _ _ A1 c1 l1 _ _ 0 _ (Kd.C_alloc (Kd.C_alloc HR1.out _) _) hc1 HE.out).mono ?_; rintro e w1 ⟨rfl, hb⟩; have HB1 := pA (below_step (below_alloc (below_alloc (Below.refl _ _) _) _) hb); have HX2 := pA (blk_below HX0.out hb); have HX3 := pA (blk_below HX1.out hb); clear hb; have y0 := blk_cell HX2.out 0; have y1 := blk_cell HX2.out 1; have y2 := blk_cell HX3.out 0; have y3 := blk_cell HX3.out 1)
    clear y0 y1 y2 y3
    have HS1 := pA HB1.out.size
    go_loopw [10] (fun v10 w' => ∃ (m : Int) (N s : Nat) (f : Lit → Option Bool), v10 = .int .i64 m ∧ Aside0 (1 ≤ m ∧ m ≤ l1.length + 1) ∧ Aside0 (fewestFrom (doOf ⟨a0_0, a0_1⟩ l1 a2_0 a2_1) l1.length 1 = fewestFrom (doOf ⟨a0_0, a0_1⟩ l1 a2_0 a2_1) l1.length m.toNat) ∧ Aside0 (BoolMaps.IsB Try.prog 167 4 w' w1.heap.size N s f) ∧ Aside0 (Tried l1.length (doOf ⟨a0_0, a0_1⟩ l1 a2_0 a2_1) f) ∧ Aside0 (N ≤ (m.toNat - 1) * triesIn l1.length) ∧ Aside0 (w'.heap[w1.heap.size + 1]? = some (.cells #[.int .i64 a0_0, .int .i64 a0_1, .slice A1 l1.length c1, .int .i64 a2_0, .int .i64 a2_1, .map (some w1.heap.size)] 114 (0, 0))) ∧ Aside0 (Below w.heap.size w w')) (fun v10 _ => l1.length + 1 - (intOf v10).toNat)
    case atStart => exact ⟨1, 0, 0, fun _ => none, rfl, ⟨by omega⟩, ⟨rfl⟩, ⟨(BoolMaps.IsB.made _ _ _ _).alloc _⟩, ⟨Tried.none_ _ _⟩, ⟨by simp⟩, ⟨blk_new2 w1 _ _⟩, ⟨below_alloc (below_alloc HB1.out _) _⟩⟩
    case round =>
     obtain ⟨m, N, s, f, rfl, HK, HPF, HM, HT, HN, HX, HB⟩ := hrel
     by_cases hk : m ≤ (l1.length : Int)
     ·have hkb : decide (m ≤ (l1.length : Int)) = true := decide_eq_true hk
      have HKL := pA hk
      have HST := pA (fewest_step (doOf ⟨a0_0, a0_1⟩ l1 a2_0 a2_1) l1.length m.toNat (by omega))
      have hmm : ((m.toNat : Nat) : Int) = m := by have := HK.out; omega
      rw [hmm] at HST
      have HBD := pA (show N + triesIn l1.length < maxLen by
       have h1 := tries_nine l1.length H9.out
       have h2 : (m.toNat - 1) * triesIn l1.length ≤ 9 * 3000000000 := Nat.mul_le_mul (by have := H9.out; omega) h1
       have := HN.out
       unfold maxLen
       omega)
      have HSZ := pA (show w1.heap.size + 1 ≤ _ from Nat.le_of_lt (blk_lt HX.out))
      have HNX := pA (show wrap64 (m + 1) = m + 1 by have := HK.out; have := H9.out; unfold wrap64; omega)
      have y0 := blk_cell HX.out 0
      have y1 := blk_cell HX.out 1
      have y2 := blk_cell HX.out 2
      have y3 := blk_cell HX.out 3
      have y4 := blk_cell HX.out 4
      have y5 := blk_cell HX.out 5
      clear hk hmm
      cases hp : packOf (doOf ⟨a0_0, a0_1⟩ l1 a2_0 a2_1) m l1.length [] 0 with
      | none =>
       have HP := pA hp
       clear hp
       go_wp2_with (go_at_call 77; refine (bung_pack_calls a0_0 a0_1 A1 c1 l1 a2_0 a2_1 w1.heap.size (w1.heap.size + 1) hc1 HW.out HL.out H9.out HZ.out (Nat.lt_succ_self _) m l1.length [] (.slice none 0 0) 0 _ N s f (by omega) okBs_nil (Kd.R_nil _ _ _ _ _) (Kd.C_below HR1.out HB.out) HM.out HT.out HSZ.out HBD.out).mono ?_; rintro e W8 ⟨v8, rfl, ho8, hg8, N3, s3, f3, hN3, hM3, hT3⟩; rw [HP.out] at ho8; have h8 : v8 = .slice none 0 0 := ho8; subst h8; have hneq := neq_nil0 W8; have HX8 := pA (blk_grown HX.out hg8 (fun e => by injection e with e; omega)); have HB8 := pA (pw_below_grown HB.out _ HB.out.size hg8 (fun q e => by injection e with e; have := HS1.out; omega)); have HN3 := pA hN3; have HM3 := pA hM3; have HT3 := pA hT3; clear hN3 hM3 hT3 hg8 ho8)
       go_roundw
       case measure => have := HKL.out; have := HK.out; simp [intOf, HNX.out]; omega
       case rel => exact ⟨m + 1, N3, s3, f3, by rw [HNX.out], ⟨by have := HKL.out; have := HK.out; omega⟩, ⟨by rw [HPF.out, HST.out, HP.out, Option.none_or, show (m + 1).toNat = m.toNat + 1 by have := HK.out; omega]⟩, HM3, HT3, ⟨fewest_tries HK.out.1 HN.out HN3.out⟩, HX8, HB8⟩
      | some out =>
       have HP := pA hp
       clear hp
       have H := HH.out
       rw [HPF.out, HST.out, HP.out] at H
       simp only [Option.some_or, Prod.mk.injEq] at H
       obtain ⟨rfl, rfl⟩ := H
       clear HH
       go_wp2_with (go_at_call 77; refine (bung_pack_calls a0_0 a0_1 A1 c1 l1 a2_0 a2_1 w1.heap.size (w1.heap.size + 1) hc1 HW.out HL.out H9.out HZ.out (Nat.lt_succ_self _) m l1.length [] (.slice none 0 0) 0 _ N s f (by omega) okBs_nil (Kd.R_nil _ _ _ _ _) (Kd.C_below HR1.out HB.out) HM.out HT.out HSZ.out HBD.out).mono ?_; rintro e W8 ⟨v8, rfl, ho8, hg8, N3, s3, f3, hN3, hM3, hT3⟩; rw [HP.out] at ho8; obtain ⟨hne8, hr8⟩ := ho8; obtain ⟨g8, cap8, rfl, hform8⟩ := Kd.R_form hr8 (List.length_pos_iff.2 hne8); have hneq := neq_nil1 W8 g8 out.length cap8; have HO8 := pA hr8; have HB8 := pA (pw_below_grown HB.out _ HB.out.size hg8 (fun q e => by injection e with e; have := HS1.out; omega)); clear hN3 hM3 hT3 hg8 hne8 hr8 hform8)
       refine bodyPost_ret (results_tmp2 rfl _ _ _) rfl ?_
       exact ⟨_, rfl, Kd.R_lower HO8.out (by have := HS1.out; omega), HB8.out⟩
     ·have hkb : decide (m ≤ (l1.length : Int)) = false := decide_eq_false hk
      have H := HH.out
      rw [HPF.out, fewest_end _ _ _ (by have := HK.out; omega)] at H
      simp only [Prod.mk.injEq] at H
      obtain ⟨rfl, rfl⟩ := H
      clear HH hk
      go_wp2
      refine bodyPost_ret (results_tmp2 rfl _ _ _) rfl ?_
      exact ⟨_, rfl, Kd.R_nil _ _ _ _ _, HB.out⟩
 ·rw [if_pos h0] at h
  simp only [Prod.mk.injEq] at h
  obtain ⟨rfl, rfl⟩ := h
  have kn : (e != 0) = true := by simp [h0]
  clear h0 he
  go_enter Try.func20, Try.ntmps20
  go_wp2_with (go_at_call 76; refine (bung_asked.calls _ _ A1 c1 l1 _ _ _ _ (Kd.C_alloc (Kd.C_alloc HR1.out _) _) hc1 HE.out).mono ?_; rintro e w1 ⟨rfl, hb⟩; have HB1 := pA (below_step (below_alloc (below_alloc (Below.refl _ _) _) _) hb); clear hb)
  refine bodyPost_ret (results_tmp2 rfl _ _ _) rfl ?_
  exact ⟨_, rfl, Kd.R_nil _ _ _ _ _, HB1.out⟩
def potbankref01_Same.l0 : Nat → List Int → List Int → Int → Option (Bool)
  | 0, _, _, _ => none
  | k + 1, x0, x1, x5 => if x5 < (x0.length : Int) then (if 0 ≤ x5 then (if x5 < (x1.length : Int) then (if (rd x0 x5) = (rd x1 x5) then (potbankref01_Same.l0 k x0 x1 (wrap64 (x5 + 1))) else (some false)) else (none)) else (none)) else (some true)
def potbankref01_Same.f (k : Nat) (l0 : List Int) (l1 : List Int) : Option (Bool) := if (l0.length : Int) = (l1.length : Int) then (potbankref01_Same.l0 k l0 l1 0) else (some false)
theorem potbankref01_Same.mono_l : ∀ k, (∀ y0 y1 y2, LeO (potbankref01_Same.l0 k y0 y1 y2) (potbankref01_Same.l0 (k + 1) y0 y1 y2))
 | 0 => fun _ _ _ r h => by simp [potbankref01_Same.l0] at h
 | k + 1 => by
  have ih0 := potbankref01_Same.mono_l k
  ·intro y0 y1 y2
   unfold potbankref01_Same.l0
   repeat' first
   | (with_reducible exact ih0 _ _ _)
   | (with_reducible exact LeO.refl _)
   | (with_reducible exact LeO.none _)
   | (with_reducible refine LeO.ite ?_ ?_)
   | (with_reducible refine LeO.bind ?_ (fun _ => ?_))
   | exact ih0 _ _ _
   | exact LeO.none _
   | refine LeO.ite ?_ ?_
   | refine LeO.bind ?_ (fun _ => ?_)
theorem potbankref01_Same.mono : ∀ a0 a1 k, LeO (potbankref01_Same.f k a0 a1) (potbankref01_Same.f (k + 1) a0 a1) := by
 intro a0 a1 k
 have ih0 := potbankref01_Same.mono_l k
 unfold potbankref01_Same.f
 repeat' first
   | (with_reducible exact ih0 _ _ _)
   | (with_reducible exact LeO.refl _)
   | (with_reducible exact LeO.none _)
   | (with_reducible refine LeO.ite ?_ ?_)
   | (with_reducible refine LeO.bind ?_ (fun _ => ?_))
   | exact ih0 _ _ _
   | exact LeO.none _
   | refine LeO.ite ?_ ?_
   | refine LeO.bind ?_ (fun _ => ?_)
set_option maxHeartbeats 8000000 in
set_option maxRecDepth 100000 in
theorem potbankref01_Same.calls (k : Nat) (A0 : Option Addr) (c0 : Nat) (l0 : List Int) (A1 : Option Addr) (c1 : Nat) (l1 : List Int) (r : Bool) (w : World) (hr0 : Kd.C (Kd.int .i64) w A0 l0.length l0) (hc0 : l0.length ≤ c0) (hr1 : Kd.C (Kd.int .i64) w A1 l1.length l1) (hc1 : l1.length ≤ c1) (h : potbankref01_Same.f k l0 l1 = some r) :
  Calls Try.prog 40 #[.slice A0 l0.length c0, .slice A1 l1.length c1] w fun e w' => e = .returned (.bool r) ∧ Drawn0 w w' := by
 have HR0 := pA hr0
 have HC0 := pA hc0
 clear hr0 hc0
 have HR1 := pA hr1
 have HC1 := pA hc1
 clear hr1 hc1
 have H : (if (l0.length : Int) = (l1.length : Int) then (potbankref01_Same.l0 k l0 l1 0) else (some false)) = some r := h
 clear h
 by_cases c3 : (l0.length : Int) = (l1.length : Int)
 ·rw [if_pos c3] at H
  have c3b0 : ((l0.length : Int) == (l1.length : Int)) = true := beq_iff_eq.mpr c3
  have c3b1 : ((l0.length : Int) != (l1.length : Int)) = false := bne_eq_false_iff_eq.mpr c3
  have c3b2 : (l0.length == l1.length) = true := by first | simpa using c3 | (simp at c3 ⊢; omega)
  clear c3
  have H' := pA H
  clear H
  go_enter Try.func40, Try.ntmps40
  go_wp2
  repeat (go_quiet (fail); try go_wp2)
  go_loopg [5] k (fun kq v5 w' => ∃ (x5_1 : Int), v5 = .int .i64 x5_1 ∧ Aside0 (potbankref01_Same.l0 kq l0 l1 x5_1 = some r) ∧ Aside0 (kq ≤ k) ∧ Drawn0 w w')
  case atStart => exact ⟨(0), (by first | rfl | (simp; done) | (simp [*]; done)), H', ⟨Nat.le_refl _⟩, by repeat (first | exact Drawn0.refl _ | apply Drawn0.step)⟩
  case round =>
   clear H'
   try clear c1
   try clear p2
   try clear c3
   try clear c3b0
   try clear c3b1
   try clear c3b2
   obtain ⟨x5_1, rfl, HA, HK1, ⟨m1, rfl⟩⟩ := hrel
   cases gk with
   | zero => exact absurd HA.out (by simp [potbankref01_Same.l0])
   | succ k1 =>
    have H := HA.out
    clear HA
    simp only [potbankref01_Same.l0] at H
    by_cases c4 : x5_1 < (l0.length : Int)
    ·rw [if_pos c4] at H
     have c4b0 : decide (x5_1 < (l0.length : Int)) = true := decide_eq_true c4
     clear c4
     by_cases c5 : 0 ≤ x5_1
     ·rw [if_pos c5] at H
      have c5b0 : decide (0 ≤ x5_1) = true := decide_eq_true c5
      clear c5
      by_cases c6 : x5_1 < (l1.length : Int)
      ·rw [if_pos c6] at H
       have c6b0 : decide (x5_1 < (l1.length : Int)) = true := decide_eq_true c6
       clear c6
       by_cases c7 : (rd l0 x5_1) = (rd l1 x5_1)
       ·rw [if_pos c7] at H
        have c7b0 : ((rd l0 x5_1) == (rd l1 x5_1)) = true := beq_iff_eq.mpr c7
        have c7b1 : ((rd l0 x5_1) != (rd l1 x5_1)) = false := bne_eq_false_iff_eq.mpr c7
        clear c7
        have H' := pA H
        clear H
        have p179 : 0 ≤ (x5_1 : Int) := of_decide_eq_true (by first | (with_reducible assumption) | assumption)
        have q179 : x5_1 < (l0.length : Int) := of_decide_eq_true (by first | (with_reducible assumption) | assumption)
        obtain ⟨ad179, e179, hx179_0⟩ := Kd.at_int HR0.out x5_1 p179 q179
        cases e179
        replace p179 := eq_true p179
        replace q179 := eq_true q179
        have p180 : 0 ≤ (x5_1 : Int) := of_decide_eq_true (by first | (with_reducible assumption) | assumption)
        have q180 : x5_1 < (l1.length : Int) := of_decide_eq_true (by first | (with_reducible assumption) | assumption)
        obtain ⟨ad180, e180, hx180_0⟩ := Kd.at_int HR1.out x5_1 p180 q180
        cases e180
        replace p180 := eq_true p180
        replace q180 := eq_true q180
        go_wp2
        repeat (go_quiet (fail); try go_wp2)
        go_roundg k1
        case measure => have := HK1.out; omega
        case rel => exact ⟨(wrap64 (x5_1 + 1)), (by first | rfl | (simp; done) | (simp [*]; done)), H', ⟨by have := HK1.out; omega⟩, by repeat (first | exact Drawn0.refl _ | apply Drawn0.step)⟩
       ·rw [if_neg c7] at H
        have c7b0 : ((rd l0 x5_1) == (rd l1 x5_1)) = false := beq_eq_false_iff_ne.mpr c7
        have c7b1 : ((rd l0 x5_1) != (rd l1 x5_1)) = true := bne_iff_ne.mpr c7
        obtain rfl := Option.some.inj H
        have p179 : 0 ≤ (x5_1 : Int) := of_decide_eq_true (by first | (with_reducible assumption) | assumption)
        have q179 : x5_1 < (l0.length : Int) := of_decide_eq_true (by first | (with_reducible assumption) | assumption)
        obtain ⟨ad179, e179, hx179_0⟩ := Kd.at_int HR0.out x5_1 p179 q179
        cases e179
        replace p179 := eq_true p179
        replace q179 := eq_true q179
        have p180 : 0 ≤ (x5_1 : Int) := of_decide_eq_true (by first | (with_reducible assumption) | assumption)
        have q180 : x5_1 < (l1.length : Int) := of_decide_eq_true (by first | (with_reducible assumption) | assumption)
        obtain ⟨ad180, e180, hx180_0⟩ := Kd.at_int HR1.out x5_1 p180 q180
        cases e180
        replace p180 := eq_true p180
        replace q180 := eq_true q180
        go_wp2
        repeat (go_quiet (fail); try go_wp2)
        go_ret
        exact ⟨by first | rfl | (simp; done) | (simp [*]; done), by repeat (first | exact Drawn0.refl _ | apply Drawn0.step)⟩
      ·rw [if_neg c6] at H
       exact absurd H (by simp)
     ·rw [if_neg c5] at H
      exact absurd H (by simp)
    ·rw [if_neg c4] at H
     have c4b0 : decide (x5_1 < (l0.length : Int)) = false := decide_eq_false c4
     clear c4
     obtain rfl := Option.some.inj H
     go_wp2
     repeat (go_quiet (fail); try go_wp2)
     go_ret
     exact ⟨by first | rfl | (simp; done) | (simp [*]; done), by repeat (first | exact Drawn0.refl _ | apply Drawn0.step)⟩
 ·rw [if_neg c3] at H
  have c3b0 : ((l0.length : Int) == (l1.length : Int)) = false := beq_eq_false_iff_ne.mpr c3
  have c3b1 : ((l0.length : Int) != (l1.length : Int)) = true := bne_iff_ne.mpr c3
  have c3b2 : (l0.length == l1.length) = false := by first | simpa using c3 | (simp at c3 ⊢; omega)
  obtain rfl := Option.some.inj H
  go_enter Try.func40, Try.ntmps40
  go_wp2
  repeat (go_quiet (fail); try go_wp2)
  go_ret
  exact ⟨by first | rfl | (simp; done) | (simp [*]; done), by repeat (first | exact Drawn0.refl _ | apply Drawn0.step)⟩
def potbankref03_SameParts.l0 : Nat → List (List Int) → List (List Int) → Bool → Int → Option (Bool)
  | 0, _, _, _, _ => none
  | k + 1, x0, x1, x5, x6 => if x6 < (x0.length : Int) then (if x5 = true then (if 0 ≤ x6 then (if x6 < (x1.length : Int) then ((potbankref01_Same.f k (rd_L5 x0 x6) (rd_L5 x1 x6)).bind fun t183 => (potbankref03_SameParts.l0 k x0 x1 t183 (wrap64 (x6 + 1)))) else (none)) else (none)) else (some x5)) else (some x5)
def potbankref03_SameParts.f (k : Nat) (l0 : List (List Int)) (l1 : List (List Int)) : Option (Bool) := potbankref03_SameParts.l0 k l0 l1 ((l0.length : Int) == (l1.length : Int)) 0
theorem potbankref03_SameParts.mono_l : ∀ k, (∀ y0 y1 y2 y3, LeO (potbankref03_SameParts.l0 k y0 y1 y2 y3) (potbankref03_SameParts.l0 (k + 1) y0 y1 y2 y3))
 | 0 => fun _ _ _ _ r h => by simp [potbankref03_SameParts.l0] at h
 | k + 1 => by
  have ih0 := potbankref03_SameParts.mono_l k
  ·intro y0 y1 y2 y3
   unfold potbankref03_SameParts.l0
   repeat' first
   | (with_reducible exact ih0 _ _ _ _)
   | (with_reducible exact potbankref01_Same.mono _ _ _)
   | (with_reducible exact LeO.refl _)
   | (with_reducible exact LeO.none _)
   | (with_reducible refine LeO.ite ?_ ?_)
   | (with_reducible refine LeO.bind ?_ (fun _ => ?_))
   | exact ih0 _ _ _ _
   | exact potbankref01_Same.mono _ _ _
   | exact LeO.none _
   | refine LeO.ite ?_ ?_
   | refine LeO.bind ?_ (fun _ => ?_)
theorem potbankref03_SameParts.mono : ∀ a0 a1 k, LeO (potbankref03_SameParts.f k a0 a1) (potbankref03_SameParts.f (k + 1) a0 a1) := by
 intro a0 a1 k
 have ih0 := potbankref03_SameParts.mono_l k
 unfold potbankref03_SameParts.f
 repeat' first
   | (with_reducible exact ih0 _ _ _ _)
   | (with_reducible exact potbankref01_Same.mono _ _ _)
   | (with_reducible exact LeO.refl _)
   | (with_reducible exact LeO.none _)
   | (with_reducible refine LeO.ite ?_ ?_)
   | (with_reducible refine LeO.bind ?_ (fun _ => ?_))
   | exact ih0 _ _ _ _
   | exact potbankref01_Same.mono _ _ _
   | exact LeO.none _
   | refine LeO.ite ?_ ?_
   | refine LeO.bind ?_ (fun _ => ?_)
set_option maxHeartbeats 8000000 in
set_option maxRecDepth 100000 in
theorem potbankref03_SameParts.calls (k : Nat) (A0 : Option Addr) (c0 : Nat) (l0 : List (List Int)) (A1 : Option Addr) (c1 : Nat) (l1 : List (List Int)) (r : Bool) (w : World) (hr0 : Kd.C (Kd.slice 3 (Kd.int .i64)) w A0 l0.length l0) (hc0 : l0.length ≤ c0) (hr1 : Kd.C (Kd.slice 3 (Kd.int .i64)) w A1 l1.length l1) (hc1 : l1.length ≤ c1) (h : potbankref03_SameParts.f k l0 l1 = some r) :
  Calls Try.prog 22 #[.slice A0 l0.length c0, .slice A1 l1.length c1] w fun e w' => e = .returned (.bool r) ∧ Drawn0 w w' := by
 have HR0 := pA hr0
 have HC0 := pA hc0
 clear hr0 hc0
 have HR1 := pA hr1
 have HC1 := pA hc1
 clear hr1 hc1
 have H : (potbankref03_SameParts.l0 k l0 l1 ((l0.length : Int) == (l1.length : Int)) 0) = some r := h
 clear h
 have H' := pA H
 clear H
 go_enter Try.func22, Try.ntmps22
 go_wp2
 repeat (go_quiet (fail); try go_wp2)
 go_loopg [5, 6] k (fun kq v5 v6 w' => ∃ (x5_1 : Bool) (x6_1 : Int), v5 = .bool x5_1 ∧ v6 = .int .i64 x6_1 ∧ Aside0 (potbankref03_SameParts.l0 kq l0 l1 x5_1 x6_1 = some r) ∧ Aside0 (kq ≤ k) ∧ Drawn0 w w')
 case atStart => exact ⟨(((l0.length : Int) == (l1.length : Int))), (0), (by first | rfl | (simp; done) | (simp [*]; done)), (by first | rfl | (simp; done) | (simp [*]; done)), H', ⟨Nat.le_refl _⟩, by repeat (first | exact Drawn0.refl _ | apply Drawn0.step)⟩
 case round =>
  clear H'
  try clear c1
  try clear c2
  try clear p2
  obtain ⟨x5_1, x6_1, rfl, rfl, HA, HK1, ⟨m1, rfl⟩⟩ := hrel
  cases gk with
  | zero => exact absurd HA.out (by simp [potbankref03_SameParts.l0])
  | succ k1 =>
   have H := HA.out
   clear HA
   simp only [potbankref03_SameParts.l0] at H
   by_cases c3 : x6_1 < (l0.length : Int)
   ·rw [if_pos c3] at H
    have c3b0 : decide (x6_1 < (l0.length : Int)) = true := decide_eq_true c3
    clear c3
    by_cases c4 : x5_1 = true
    ·subst c4
     have H1 : (if 0 ≤ x6_1 then (if x6_1 < (l1.length : Int) then ((potbankref01_Same.f k1 (rd_L5 l0 x6_1) (rd_L5 l1 x6_1)).bind fun t183 => (potbankref03_SameParts.l0 k1 l0 l1 t183 (wrap64 (x6_1 + 1)))) else (none)) else (none)) = some r := by rw [if_pos rfl] at H; exact H
     clear H
     have H := H1
     clear H1
     by_cases c5 : 0 ≤ x6_1
     ·rw [if_pos c5] at H
      have c5b0 : decide (0 ≤ x6_1) = true := decide_eq_true c5
      clear c5
      by_cases c6 : x6_1 < (l1.length : Int)
      ·rw [if_pos c6] at H
       have c6b0 : decide (x6_1 < (l1.length : Int)) = true := decide_eq_true c6
       clear c6
       replace H := Option.bind_eq_some_iff.mp H
       obtain ⟨t183, A70, H⟩ := H
       replace H : (potbankref03_SameParts.l0 k1 l0 l1 t183 (wrap64 (x6_1 + 1))) = some r := H
       have A7 := pA A70
       clear A70
       have H' := pA H
       clear H
       have p181 : 0 ≤ (x6_1 : Int) := of_decide_eq_true (by first | (with_reducible assumption) | assumption)
       have q181 : x6_1 < (l0.length : Int) := of_decide_eq_true (by first | (with_reducible assumption) | assumption)
       obtain ⟨ad181, A181_0, c181_0, e181, hx181_0, hl181_0, hi181_0⟩ := at_L5 HR0.out x6_1 p181 q181
       cases e181
       have HR181_0 := pA hi181_0
       have HC181_0 := pA hl181_0
       clear hi181_0 hl181_0
       replace p181 := eq_true p181
       replace q181 := eq_true q181
       have p182 : 0 ≤ (x6_1 : Int) := of_decide_eq_true (by first | (with_reducible assumption) | assumption)
       have q182 : x6_1 < (l1.length : Int) := of_decide_eq_true (by first | (with_reducible assumption) | assumption)
       obtain ⟨ad182, A182_0, c182_0, e182, hx182_0, hl182_0, hi182_0⟩ := at_L5 HR1.out x6_1 p182 q182
       cases e182
       have HR182_0 := pA hi182_0
       have HC182_0 := pA hl182_0
       clear hi182_0 hl182_0
       replace p182 := eq_true p182
       replace q182 := eq_true q182
       go_wp2_with (first | (go_at_call 40; (with_reducible refine (potbankref01_Same.calls k1 _ _ (rd_L5 l0 x6_1) _ _ (rd_L5 l1 x6_1) t183 _ ?side1 ?side2 ?side3 ?side4 A7.out).mono ?_); (case side1 => repeat (first | exact HR181_0.out | (with_reducible refine Kd.C_alloc ?_ _) | (with_reducible refine Kd.C_drewN ?_ _) | (with_reducible refine Kd.C_drew ?_))); (case side2 => exact HC181_0.out); (case side3 => repeat (first | exact HR182_0.out | (with_reducible refine Kd.C_alloc ?_ _) | (with_reducible refine Kd.C_drewN ?_ _) | (with_reducible refine Kd.C_drew ?_))); (case side4 => exact HC182_0.out); rintro e w' ⟨rfl, ⟨nd, rfl⟩⟩; (try first | exact ⟨rfl, _, World.drewN_drewN _ _ _⟩ | exact ⟨rfl, _, Eq.trans (World.drewN_drewN _ _ _) (congrArg (World.drewN _) (Nat.add_assoc _ _ _))⟩)))
       repeat (go_quiet (first | (go_at_call 40; (with_reducible refine (potbankref01_Same.calls k1 _ _ (rd_L5 l0 x6_1) _ _ (rd_L5 l1 x6_1) t183 _ ?side1 ?side2 ?side3 ?side4 A7.out).mono ?_); (case side1 => repeat (first | exact HR181_0.out | (with_reducible refine Kd.C_alloc ?_ _) | (with_reducible refine Kd.C_drewN ?_ _) | (with_reducible refine Kd.C_drew ?_))); (case side2 => exact HC181_0.out); (case side3 => repeat (first | exact HR182_0.out | (with_reducible refine Kd.C_alloc ?_ _) | (with_reducible refine Kd.C_drewN ?_ _) | (with_reducible refine Kd.C_drew ?_))); (case side4 => exact HC182_0.out); rintro e w' ⟨rfl, ⟨nd, rfl⟩⟩; (try first | exact ⟨rfl, _, World.drewN_drewN _ _ _⟩ | exact ⟨rfl, _, Eq.trans (World.drewN_drewN _ _ _) (congrArg (World.drewN _) (Nat.add_assoc _ _ _))⟩))); try go_wp2_with (first | (go_at_call 40; (with_reducible refine (potbankref01_Same.calls k1 _ _ (rd_L5 l0 x6_1) _ _ (rd_L5 l1 x6_1) t183 _ ?side1 ?side2 ?side3 ?side4 A7.out).mono ?_); (case side1 => repeat (first | exact HR181_0.out | (with_reducible refine Kd.C_alloc ?_ _) | (with_reducible refine Kd.C_drewN ?_ _) | (with_reducible refine Kd.C_drew ?_))); (case side2 => exact HC181_0.out); (case side3 => repeat (first | exact HR182_0.out | (with_reducible refine Kd.C_alloc ?_ _) | (with_reducible refine Kd.C_drewN ?_ _) | (with_reducible refine Kd.C_drew ?_))); (case side4 => exact HC182_0.out); rintro e w' ⟨rfl, ⟨nd, rfl⟩⟩; (try first | exact ⟨rfl, _, World.drewN_drewN _ _ _⟩ | exact ⟨rfl, _, Eq.trans (World.drewN_drewN _ _ _) (congrArg (World.drewN _) (Nat.add_assoc _ _ _))⟩))))
       go_roundg k1
       case measure => have := HK1.out; omega
       case rel => exact ⟨(t183), (wrap64 (x6_1 + 1)), (by first | rfl | (simp; done) | (simp [*]; done)), (by first | rfl | (simp; done) | (simp [*]; done)), H', ⟨by have := HK1.out; omega⟩, by repeat (first | exact Drawn0.refl _ | apply Drawn0.step)⟩
      ·rw [if_neg c6] at H
       exact absurd H (by simp)
     ·rw [if_neg c5] at H
      exact absurd H (by simp)
    ·replace c4 := Bool.eq_false_iff.mpr c4
     subst c4
     have H1 : (some false) = some r := by rw [if_neg (show ¬ (false = true) by decide)] at H; exact H
     clear H
     have H := H1
     clear H1
     obtain rfl := Option.some.inj H
     go_wp2
     repeat (go_quiet (fail); try go_wp2)
     go_ret
     exact ⟨by first | rfl | (simp; done) | (simp [*]; done), by repeat (first | exact Drawn0.refl _ | apply Drawn0.step)⟩
   ·rw [if_neg c3] at H
    have c3b0 : decide (x6_1 < (l0.length : Int)) = false := decide_eq_false c3
    clear c3
    obtain rfl := Option.some.inj H
    go_wp2
    repeat (go_quiet (fail); try go_wp2)
    go_ret
    exact ⟨by first | rfl | (simp; done) | (simp [*]; done), by repeat (first | exact Drawn0.refl _ | apply Drawn0.step)⟩
def bung_Stands.f (k : Nat) (a0_0 : Int) (a0_1 : Int) (l0_2 : List (S52)) : Option (Int × Int) := (bung_isBung.f a0_0 a0_1 l0_2).bind fun t188 => (if t188 = true then ((bung_courses.f k l0_2).bind fun t189 => ((bung_all.f k t189).bind fun t192 => (some (t192, 0)))) else (some (0, 31)))
theorem bung_Stands.mono : ∀ a0 a1 a2 k, LeO (bung_Stands.f k a0 a1 a2) (bung_Stands.f (k + 1) a0 a1 a2) := by
 intro a0 a1 a2 k
 unfold bung_Stands.f
 repeat' first
   | (with_reducible exact bung_all.mono _ _)
   | (with_reducible exact bung_courses.mono _ _)
   | (with_reducible exact LeO.refl _)
   | (with_reducible exact LeO.none _)
   | (with_reducible refine LeO.ite ?_ ?_)
   | (with_reducible refine LeO.bind ?_ (fun _ => ?_))
   | exact bung_all.mono _ _
   | exact bung_courses.mono _ _
   | exact LeO.none _
   | refine LeO.ite ?_ ?_
   | refine LeO.bind ?_ (fun _ => ?_)
set_option maxHeartbeats 8000000 in
set_option maxRecDepth 100000 in
theorem bung_Stands.calls (k : Nat) (a0_0 : Int) (a0_1 : Int) (A0_2 : Option Addr) (c0_2 : Nat) (l0_2 : List (S52)) (r1 : Int) (r2 : Int) (w : World) (hr0_2 : Kd.C k52 w A0_2 l0_2.length l0_2) (hc0_2 : l0_2.length ≤ c0_2) (h : bung_Stands.f k a0_0 a0_1 l0_2 = some (r1, r2)) :
  Calls Try.prog 24 #[.agg #[.int .i64 a0_0, .int .i64 a0_1, .slice A0_2 l0_2.length c0_2]] w fun e w' => e = .returned (.tuple #[.int .i64 r1, .int .i64 r2]) ∧ Below w.heap.size w w' := by
 have hu43 := Try.underlying43
 have HR0_2 := pA hr0_2
 have HC0_2 := pA hc0_2
 clear hr0_2 hc0_2
 have HB := pA (Below.refl w.heap.size w)
 have H : ((bung_isBung.f a0_0 a0_1 l0_2).bind fun t188 => (if t188 = true then ((bung_courses.f k l0_2).bind fun t189 => ((bung_all.f k t189).bind fun t192 => (some (t192, 0)))) else (some (0, 31)))) = some (r1, r2) := h
 clear h
 replace H := Option.bind_eq_some_iff.mp H
 obtain ⟨t188, A20, H⟩ := H
 replace H : (if t188 = true then ((bung_courses.f k l0_2).bind fun t189 => ((bung_all.f k t189).bind fun t192 => (some (t192, 0)))) else (some (0, 31))) = some (r1, r2) := H
 have A2 := pA A20
 clear A20
 by_cases c3 : t188 = true
 ·subst c3
  have H1 : ((bung_courses.f k l0_2).bind fun t189 => ((bung_all.f k t189).bind fun t192 => (some (t192, 0)))) = some (r1, r2) := by rw [if_pos rfl] at H; exact H
  clear H
  have H := H1
  clear H1
  replace H := Option.bind_eq_some_iff.mp H
  obtain ⟨t189, A40, H⟩ := H
  replace H : ((bung_all.f k t189).bind fun t192 => (some (t192, 0))) = some (r1, r2) := H
  have A4 := pA A40
  clear A40
  replace H := Option.bind_eq_some_iff.mp H
  obtain ⟨t192, A50, H⟩ := H
  replace H : (some (t192, 0)) = some (r1, r2) := H
  have A5 := pA A50
  clear A50
  simp only [Option.some.injEq, Prod.mk.injEq] at H
  obtain ⟨rfl, rfl⟩ := H
  go_enter Try.func24, Try.ntmps24
  go_wp2_with (first | ((with_reducible refine gate_dst (N := 1) rfl ?_); refine box_event ?hg (N := 1) ?hd (cs := #[.int .i64 a0_0, .int .i64 a0_1, .slice A0_2 l0_2.length c0_2]) (t := 43) ?hr ?_; (case hd => rfl); (case hg => rfl); (case hr => first | (go_simp; done) | (go_simp; rfl)); intro gb187 hg w6 hbox hb; have n0_ := pA (below_step (vB HB) hb); have n1_ := pA (hbox); have n2_ := pA ((by rw [hg]; exact (below_size (vB HB)) : w.heap.size ≤ gb187)); have n3_ := pA ((by rw [hg]; exact (below_size (vB HB)) : w.heap.size ≤ gb187)); clear HB; have HB := n0_; have BK187 := n1_; have GW187 := n2_; have GE187 := n3_; clear n0_ n1_ n2_ n3_; clear hb hbox hg; have hcz7_0 : w6.cell? ⟨gb187, 0, none⟩ = some (.int .i64 a0_0) := (blk_cell BK187.out 0).trans rfl; have hcz7_1 : w6.cell? ⟨gb187, 1, none⟩ = some (.int .i64 a0_1) := (blk_cell BK187.out 1).trans rfl; have hcz7_2 : w6.cell? ⟨gb187, 2, none⟩ = some (.slice A0_2 l0_2.length c0_2) := (blk_cell BK187.out 2).trans rfl; have hfz7_0 := blk_frozen BK187.out 0; have hfz7_1 := blk_frozen BK187.out 1; have hfz7_2 := blk_frozen BK187.out 2) | ((with_reducible refine aF (f := 80) rfl ?_); refine goesL_ (some 5) rfl rfl Try.func80 (by kernel_rfl) rfl #[.agg #[.int .i64 a0_0, .int .i64 a0_1, .slice A0_2 l0_2.length c0_2]] rfl (by (try simp only [pE, pF, pG]); first | done | rfl | (simp only [pH, pI]; rfl)) ?_; (with_reducible refine (bung_isBung.calls a0_0 a0_1 _ _ l0_2 true _ ?side1 ?side2 A2.out).mono ?_); (case side1 => repeat (first | exact (Kd.C_below HR0_2.out HB.out) | (with_reducible refine Kd.C_alloc ?_ _) | (with_reducible refine Kd.C_drewN ?_ _) | (with_reducible refine Kd.C_drew ?_))); (case side2 => exact HC0_2.out); rintro e w8 ⟨rfl, hb⟩; refine ⟨_, rfl, ?_⟩; have n0_ := pA (blk_below (g := gb187) (o := .cells #[.int .i64 a0_0, .int .i64 a0_1, .slice A0_2 l0_2.length c0_2] 43 (0, 0)) (vK BK187) hb); have n1_ := pA (below_step (by repeat (first | (with_reducible first | exact HB.out | apply below_alloc | apply pw_below_drewN | apply below_drew1 | refine below_set ?_ GE187.out) | exact HB.out)) hb); clear BK187; clear HB; have BK187 := n0_; have HB := n1_; clear n0_ n1_; (try clear hb); (try clear hb2); (try clear hk); (try clear hi); have hcz9_0 : w8.cell? ⟨gb187, 0, none⟩ = some (.int .i64 a0_0) := (blk_cell BK187.out 0).trans rfl; have hcz9_1 : w8.cell? ⟨gb187, 1, none⟩ = some (.int .i64 a0_1) := (blk_cell BK187.out 1).trans rfl; have hcz9_2 : w8.cell? ⟨gb187, 2, none⟩ = some (.slice A0_2 l0_2.length c0_2) := (blk_cell BK187.out 2).trans rfl; have hfz9_0 := blk_frozen BK187.out 0; have hfz9_1 := blk_frozen BK187.out 1; have hfz9_2 := blk_frozen BK187.out 2) | ((with_reducible refine aF (f := 82) rfl ?_); refine goesL_ (some 9) rfl rfl Try.func82 (by kernel_rfl) rfl #[.slice A0_2 l0_2.length c0_2] rfl (by (try simp only [pE, pF, pG]); first | done | rfl | (simp only [pH, pI]; rfl)) ?_; (with_reducible refine (bung_courses.calls k _ _ l0_2 t189 _ ?side1 ?side2 A4.out).mono ?_); (case side1 => repeat (first | exact (Kd.C_below HR0_2.out HB.out) | (with_reducible refine Kd.C_alloc ?_ _) | (with_reducible refine Kd.C_drewN ?_ _) | (with_reducible refine Kd.C_drew ?_))); (case side2 => exact HC0_2.out); rintro e w10 ⟨v190, rfl, ho0, hb⟩; refine ⟨_, rfl, ?_⟩; have n0_ := pA (Kd.R_lower ho0 (below_size (by repeat (first | (with_reducible first | exact HB.out | apply below_alloc | apply pw_below_drewN | apply below_drew1 | refine below_set ?_ GE187.out) | exact HB.out)))); have n1_ := pA (blk_below (g := gb187) (o := .cells #[.int .i64 a0_0, .int .i64 a0_1, .slice A0_2 l0_2.length c0_2] 43 (0, 0)) (vK BK187) hb); have n2_ := pA (below_step (by repeat (first | (with_reducible first | exact HB.out | apply below_alloc | apply pw_below_drewN | apply below_drew1 | refine below_set ?_ GE187.out) | exact HB.out)) hb); clear BK187; clear HB; have HO191 := n0_; have BK187 := n1_; have HB := n2_; clear n0_ n1_ n2_; (try clear hb); (try clear hb2); (try clear hk); (try clear hi); (try clear ho0); obtain ⟨Ao11, co11, eo11⟩ := Kd.R_slice HO191.out; subst eo11) | ((with_reducible refine aF (f := 81) rfl ?_); refine goesL_ (some 10) rfl rfl Try.func81 (by kernel_rfl) rfl #[.slice Ao11 t189.length co11] rfl (by (try simp only [pE, pF, pG]); first | done | rfl | (simp only [pH, pI]; rfl)) ?_; (with_reducible refine (bung_all.calls k _ _ t189 t192 _ ?side1 ?side2 A5.out).mono ?_); (case side1 => repeat (first | exact (Kd.R_reads' HO191.out).2.2 | (with_reducible refine Kd.C_alloc ?_ _) | (with_reducible refine Kd.C_drewN ?_ _) | (with_reducible refine Kd.C_drew ?_))); (case side2 => exact (Kd.R_reads' HO191.out).2.1); rintro e w' ⟨rfl, ⟨nd, rfl⟩⟩; refine ⟨_, rfl, ?_⟩))
  go_ret2
  exact ⟨by first | rfl | (simp [errW_none, errW_some] <;> rfl) | (simp [*, errW_none, errW_some] <;> rfl), by repeat (first | (with_reducible first | exact HB.out | apply below_alloc | apply pw_below_drewN | apply below_drew1 | refine below_set ?_ GE187.out) | exact HB.out)⟩
 ·replace c3 := Bool.eq_false_iff.mpr c3
  subst c3
  have H1 : (some (0, 31)) = some (r1, r2) := by rw [if_neg (show ¬ (false = true) by decide)] at H; exact H
  clear H
  have H := H1
  clear H1
  simp only [Option.some.injEq, Prod.mk.injEq] at H
  obtain ⟨rfl, rfl⟩ := H
  go_enter Try.func24, Try.ntmps24
  go_wp2_with (first | ((with_reducible refine gate_dst (N := 1) rfl ?_); refine box_event ?hg (N := 1) ?hd (cs := #[.int .i64 a0_0, .int .i64 a0_1, .slice A0_2 l0_2.length c0_2]) (t := 43) ?hr ?_; (case hd => rfl); (case hg => rfl); (case hr => first | (go_simp; done) | (go_simp; rfl)); intro gb187 hg w12 hbox hb; have n0_ := pA (below_step (vB HB) hb); have n1_ := pA (hbox); have n2_ := pA ((by rw [hg]; exact (below_size (vB HB)) : w.heap.size ≤ gb187)); have n3_ := pA ((by rw [hg]; exact (below_size (vB HB)) : w.heap.size ≤ gb187)); clear HB; have HB := n0_; have BK187 := n1_; have GW187 := n2_; have GE187 := n3_; clear n0_ n1_ n2_ n3_; clear hb hbox hg; have hcz13_0 : w12.cell? ⟨gb187, 0, none⟩ = some (.int .i64 a0_0) := (blk_cell BK187.out 0).trans rfl; have hcz13_1 : w12.cell? ⟨gb187, 1, none⟩ = some (.int .i64 a0_1) := (blk_cell BK187.out 1).trans rfl; have hcz13_2 : w12.cell? ⟨gb187, 2, none⟩ = some (.slice A0_2 l0_2.length c0_2) := (blk_cell BK187.out 2).trans rfl; have hfz13_0 := blk_frozen BK187.out 0; have hfz13_1 := blk_frozen BK187.out 1; have hfz13_2 := blk_frozen BK187.out 2) | ((with_reducible refine aF (f := 80) rfl ?_); refine goesL_ (some 5) rfl rfl Try.func80 (by kernel_rfl) rfl #[.agg #[.int .i64 a0_0, .int .i64 a0_1, .slice A0_2 l0_2.length c0_2]] rfl (by (try simp only [pE, pF, pG]); first | done | rfl | (simp only [pH, pI]; rfl)) ?_; (with_reducible refine (bung_isBung.calls a0_0 a0_1 _ _ l0_2 false _ ?side1 ?side2 A2.out).mono ?_); (case side1 => repeat (first | exact (Kd.C_below HR0_2.out HB.out) | (with_reducible refine Kd.C_alloc ?_ _) | (with_reducible refine Kd.C_drewN ?_ _) | (with_reducible refine Kd.C_drew ?_))); (case side2 => exact HC0_2.out); rintro e w14 ⟨rfl, hb⟩; refine ⟨_, rfl, ?_⟩; have n0_ := pA (blk_below (g := gb187) (o := .cells #[.int .i64 a0_0, .int .i64 a0_1, .slice A0_2 l0_2.length c0_2] 43 (0, 0)) (vK BK187) hb); have n1_ := pA (below_step (by repeat (first | (with_reducible first | exact HB.out | apply below_alloc | apply pw_below_drewN | apply below_drew1 | refine below_set ?_ GE187.out) | exact HB.out)) hb); clear BK187; clear HB; have BK187 := n0_; have HB := n1_; clear n0_ n1_; (try clear hb); (try clear hb2); (try clear hk); (try clear hi)))
  go_ret2
  exact ⟨by first | rfl | (simp [errW_none, errW_some] <;> rfl) | (simp [*, errW_none, errW_some] <;> rfl), by repeat (first | (with_reducible first | exact HB.out | apply below_alloc | apply pw_below_drewN | apply below_drew1 | refine below_set ?_ GE187.out) | exact HB.out)⟩
def bung_Lean.f (k : Nat) (a0_0 : Int) (a0_1 : Int) (l0_2 : List (S52)) : Option (Int × Int) := (bung_isBung.f a0_0 a0_1 l0_2).bind fun t194 => (if t194 = true then ((bung_lean.f k a0_0 a0_1 l0_2).bind fun t195 => (some (t195, 0))) else (some (0, 31)))
theorem bung_Lean.mono : ∀ a0 a1 a2 k, LeO (bung_Lean.f k a0 a1 a2) (bung_Lean.f (k + 1) a0 a1 a2) := by
 intro a0 a1 a2 k
 unfold bung_Lean.f
 repeat' first
   | (with_reducible exact bung_lean.mono _ _ _ _)
   | (with_reducible exact LeO.refl _)
   | (with_reducible exact LeO.none _)
   | (with_reducible refine LeO.ite ?_ ?_)
   | (with_reducible refine LeO.bind ?_ (fun _ => ?_))
   | exact bung_lean.mono _ _ _ _
   | exact LeO.none _
   | refine LeO.ite ?_ ?_
   | refine LeO.bind ?_ (fun _ => ?_)
end Go.Proofs.Ytbiakjgjedhjhaa.P
