/- Proved: the law BungRules of the program potbank answers true for every input, and leaves its arguments as they were. Conditions: none. (Part 4 of the texts, put together by wip/assemble.py of this repository.) -/
import Derived.Test.YtbiakjgjedhjhaaRk3
set_option linter.unusedVariables false
set_option linter.unusedSimpArgs false
namespace Go.Proofs.Ytbiakjgjedhjhaa.P
open Go.RowKit Go.Proofs.YtbiakjgjedhjhaaW.PrintWords Go.Proofs.YtbiakjgjedhjhaaW.PrintLast
set_option maxHeartbeats 8000000 in
set_option maxRecDepth 100000 in
theorem bung_fits.calls (k : Nat) (a0_0 : Int) (a0_1 : Int) (A0_2 : Option Addr) (c0_2 : Nat) (l0_2 : List (S52)) (a1_0 : Int) (a1_1 : Int) (r : Int) (w : World) (hr0_2 : Kd.C k52 w A0_2 l0_2.length l0_2) (hc0_2 : l0_2.length ≤ c0_2) (h : bung_fits.f k a0_0 a0_1 l0_2 a1_0 a1_1 = some r) :
  Calls Try.prog 86 #[.agg #[.int .i64 a0_0, .int .i64 a0_1, .slice A0_2 l0_2.length c0_2], .agg #[.int .i64 a1_0, .int .i64 a1_1]] w fun e w' => e = .returned (.int .i64 r) ∧ Below w.heap.size w w' := by
 have hu43 := Try.underlying43
 have hu26 := Try.underlying26
 have hu23 := Try.underlying23
 have HR0_2 := pA hr0_2
 have HC0_2 := pA hc0_2
 clear hr0_2 hc0_2
 have HB := pA (Below.refl w.heap.size w)
 have H : ((bung_height.f k a0_0 a0_1 l0_2).bind fun bt155 => ((bung_courses.f k l0_2).bind fun t157 => ((bung_all.f k t157).bind fun t160 => (if bt155.1 > a1_0 then (bung_fits.j0 k t160 true a0_0 a0_1 l0_2 a1_0 a1_1 bt155.1 bt155.2) else (bung_fits.j0 k t160 (t160 == 0) a0_0 a0_1 l0_2 a1_0 a1_1 bt155.1 bt155.2))))) = some r := h
 clear h
 replace H := Option.bind_eq_some_iff.mp H
 obtain ⟨⟨t155, t156⟩, A30, H⟩ := H
 replace H : ((bung_courses.f k l0_2).bind fun t157 => ((bung_all.f k t157).bind fun t160 => (if t155 > a1_0 then (bung_fits.j0 k t160 true a0_0 a0_1 l0_2 a1_0 a1_1 t155 t156) else (bung_fits.j0 k t160 (t160 == 0) a0_0 a0_1 l0_2 a1_0 a1_1 t155 t156)))) = some r := H
 have A3 := pA A30
 clear A30
 replace H := Option.bind_eq_some_iff.mp H
 obtain ⟨t157, A40, H⟩ := H
 replace H : ((bung_all.f k t157).bind fun t160 => (if t155 > a1_0 then (bung_fits.j0 k t160 true a0_0 a0_1 l0_2 a1_0 a1_1 t155 t156) else (bung_fits.j0 k t160 (t160 == 0) a0_0 a0_1 l0_2 a1_0 a1_1 t155 t156))) = some r := H
 have A4 := pA A40
 clear A40
 replace H := Option.bind_eq_some_iff.mp H
 obtain ⟨t160, A50, H⟩ := H
 replace H : (if t155 > a1_0 then (bung_fits.j0 k t160 true a0_0 a0_1 l0_2 a1_0 a1_1 t155 t156) else (bung_fits.j0 k t160 (t160 == 0) a0_0 a0_1 l0_2 a1_0 a1_1 t155 t156)) = some r := H
 have A5 := pA A50
 clear A50
 have HC6 := pA H
 clear H
 go_enter Try.func86, Try.ntmps86
 try go_wp2_with (first | ((with_reducible refine gate_dst (N := 2) rfl ?_); refine box_event ?hg (N := 2) ?hd (cs := #[.int .i64 a0_0, .int .i64 a0_1, .slice A0_2 l0_2.length c0_2]) (t := 43) ?hr ?_; (case hd => rfl); (case hg => rfl); (case hr => first | (go_simp; done) | (go_simp; rfl)); intro gb153 hg w7 hbox hb; have n0_ := pA (below_step (vB HB) hb); have n1_ := pA (hbox); have n2_ := pA ((by rw [hg]; exact (below_size (vB HB)) : w.heap.size ≤ gb153)); have n3_ := pA ((by rw [hg]; exact (below_size (vB HB)) : w.heap.size ≤ gb153)); clear HB; have HB := n0_; have BK153 := n1_; have GW153 := n2_; have GE153 := n3_; clear n0_ n1_ n2_ n3_; clear hb hbox hg) | ((with_reducible refine gate_dst (N := 3) rfl ?_); refine box_event ?hg (N := 3) ?hd (cs := #[.int .i64 a1_0, .int .i64 a1_1]) (t := 26) ?hr ?_; (case hd => rfl); (case hg => rfl); (case hr => first | (go_simp; done) | (go_simp; rfl)); intro gb154 hg w8 hbox hb; have n0_ := pA (blk_below (g := gb153) (o := .cells #[.int .i64 a0_0, .int .i64 a0_1, .slice A0_2 l0_2.length c0_2] 43 (0, 0)) (vK BK153) hb); have n1_ := pA (below_step (by repeat (first | (with_reducible first | exact HB.out | apply below_alloc | apply pw_below_drewN | apply below_drew1 | refine below_set ?_ GE153.out) | exact HB.out)) hb); have n2_ := pA (hbox); have n3_ := pA ((by rw [hg]; exact (below_size (by repeat (first | (with_reducible first | exact HB.out | apply below_alloc | apply pw_below_drewN | apply below_drew1 | refine below_set ?_ GE153.out) | exact HB.out))) : w.heap.size ≤ gb154)); have n4_ := pA ((by rw [hg]; exact (below_size (by repeat (first | (with_reducible first | exact HB.out | apply below_alloc | apply pw_below_drewN | apply below_drew1 | refine below_set ?_ GE153.out) | exact HB.out))) : w.heap.size ≤ gb154)); have n5_ := pA ((by rw [hg]; exact Nat.ne_of_lt (blk_lt (g := gb153) (o := .cells #[.int .i64 a0_0, .int .i64 a0_1, .slice A0_2 l0_2.length c0_2] 43 (0, 0)) (vK BK153)) : gb153 ≠ gb154)); have n6_ := pA ((by rw [hg]; exact Nat.ne_of_gt (blk_lt (g := gb153) (o := .cells #[.int .i64 a0_0, .int .i64 a0_1, .slice A0_2 l0_2.length c0_2] 43 (0, 0)) (vK BK153)) : gb154 ≠ gb153)); clear BK153; clear HB; have BK153 := n0_; have HB := n1_; have BK154 := n2_; have GW154 := n3_; have GE154 := n4_; have NB153_154 := n5_; have NB154_153 := n6_; clear n0_ n1_ n2_ n3_ n4_ n5_ n6_; clear hb hbox hg))
 have n0_ := pA (blk_drew BK153.out)
 have n1_ := pA (blk_drew BK154.out)
 have n2_ := pA (below_drew1 HB.out)
 clear BK153
 clear BK154
 clear HB
 have BK153 := n0_
 have BK154 := n1_
 have HB := n2_
 clear n0_ n1_ n2_
 refine start_ (n := 9) (S := fun w' => w'.cell? ⟨gb153, 0, none⟩ = some (.int .i64 a0_0) ∧ w'.cell? ⟨gb153, 1, none⟩ = some (.int .i64 a0_1) ∧ w'.cell? ⟨gb153, 2, none⟩ = some (.slice A0_2 l0_2.length c0_2)) (ds := []) #[false, false, false, false, false, false, false, false, false] (by kernel_rfl) rfl rfl ⟨(blk_cell BK153.out 0).trans rfl, (blk_cell BK153.out 1).trans rfl, (blk_cell BK153.out 2).trans rfl⟩ (fun hHeld => ?_); refine with_tabW bung_fits.tab1 bung_fits.bits1 (fun HT_ HW_ => ?_)
 generalize w8.drew = w9 at BK153 BK154 HB hHeld ⊢
 refine pure_ (i := 2) (N := some 9) (v := ?_) (a' := ?_) #[false, false, true, false, false, false, false, false, false] rfl rfl (any_of HT_.out (by kernel_rfl)) (fun _ _ _ h => h) (Or.inl ⟨by rfl, ?_⟩) ?_ ?_
 rotate_left
 ·intro w'
  go_simp
  with_reducible rfl
 rotate_left
 ·simp only [Act.put, pB, pC, pD, i64_w, i32_w]
  rfl
 refine take_ (i := 0) (N := some 7) (v := ?_) (a' := ?_) #[true, false, true, false, false, false, false, false, false] rfl rfl (take_ofW HT_.out HW_.out (by kernel_rfl)) (fun _ _ _ h => h) (Or.inl ⟨by rfl, ?_⟩) hHeld ?_ ?_
 rotate_left
 ·rintro w' ⟨s0, s1, s2⟩
  go_simp
  with_reducible rfl
 rotate_left
 ·simp only [Act.put, pB, pC, pD, i64_w, i32_w]
  rfl
 refine take_ (i := 3) (N := some 10) (v := ?_) (a' := ?_) #[true, false, true, true, false, false, false, false, false] rfl rfl (take_ofW HT_.out HW_.out (by kernel_rfl)) (fun _ _ _ h => h) (Or.inl ⟨by rfl, ?_⟩) hHeld ?_ ?_
 rotate_left
 ·rintro w' ⟨s0, s1, s2⟩
  go_simp
  with_reducible rfl
 rotate_left
 ·simp only [Act.put, pB, pC, pD, i64_w, i32_w]
  rfl
 refine join_ (σ := Value × Nat) 2 #[true, true, true, true, true, true, true, false, false] (fun s_ => [(8, .agg #[.int .i64 t155, .int .i64 t156]), (11, s_.1), (12, .int .i64 t160), (5, .pointer (some ⟨s_.2, 0, none⟩))]) (fun s_ w' => (w'.cell? ⟨gb153, 0, none⟩ = some (.int .i64 a0_0) ∧ w'.cell? ⟨gb153, 1, none⟩ = some (.int .i64 a0_1) ∧ w'.cell? ⟨gb153, 2, none⟩ = some (.slice A0_2 l0_2.length c0_2)) ∧ (Kd.R (Kd.int .i64) 3 w' w.heap.size (fun _ => True) s_.1 t157) ∧ (w'.heap[gb153]? = some (.cells #[.int .i64 a0_0, .int .i64 a0_1, .slice A0_2 l0_2.length c0_2] 43 (0, 0))) ∧ (w'.heap[gb154]? = some (.cells #[.int .i64 a1_0, .int .i64 a1_1] 26 (0, 0))) ∧ (w'.heap[s_.2]? = some (.cells #[.int .i64 0, .int .i64 0] 23 (0, 0))) ∧ (w.heap.size ≤ s_.2) ∧ (w.heap.size ≤ s_.2) ∧ (gb153 ≠ s_.2) ∧ (s_.2 ≠ gb153) ∧ (gb154 ≠ s_.2) ∧ (s_.2 ≠ gb154) ∧ (Below w.heap.size w w')) ?_ ?_
 rotate_left
 ·intro hCont
  refine two_ (i := 1) (j := 6) (Ni := some 8) (Nj := some 5) #[true, true, true, true, false, false, false, false, false] #[true, false, true, true, false, false, true, false, false] rfl rfl rfl rfl (two_of HT_.out (by kernel_rfl)) (by decide) (by decide) (fun K hK => ?_) (fun K hK => ?_)
  ·skip
   refine goes_ Try.func83 (by kernel_rfl) rfl #[.agg #[.int .i64 a0_0, .int .i64 a0_1, .slice A0_2 l0_2.length c0_2]] (by rfl) rfl rfl (by (try simp only [pE, pF, pG]); first | done | rfl | (simp only [pH, pI]; rfl)) ?_
   with_reducible refine (bung_height.calls k a0_0 a0_1 _ _ l0_2 t155 t156 _ ?side1 ?side2 A3.out).mono ?_
   (case side1 => repeat (first | exact (Kd.C_below HR0_2.out HB.out) | (with_reducible refine Kd.C_alloc ?_ _) | (with_reducible refine Kd.C_drewN ?_ _) | (with_reducible refine Kd.C_drew ?_)))
   (case side2 => exact HC0_2.out)
   rintro e w10 ⟨rfl, hb⟩
   refine ⟨_, rfl, ?_⟩
   have n0_ := pA (blk_below (g := gb153) (o := .cells #[.int .i64 a0_0, .int .i64 a0_1, .slice A0_2 l0_2.length c0_2] 43 (0, 0)) (vK BK153) hb)
   have n1_ := pA (blk_below (g := gb154) (o := .cells #[.int .i64 a1_0, .int .i64 a1_1] 26 (0, 0)) (vK BK154) hb)
   have n2_ := pA (below_step (by repeat (first | (with_reducible first | exact HB.out | apply below_alloc | apply pw_below_drewN | apply below_drew1 | refine below_set ?_ GE153.out | refine below_set ?_ GE154.out) | exact HB.out)) hb)
   clear BK153
   clear BK154
   clear HB
   have BK153 := n0_
   have BK154 := n1_
   have HB := n2_
   clear n0_ n1_ n2_
   (try clear hb)
   (try clear hb2)
   (try clear hk)
   (try clear hi)
   refine hK.out _ _ ⟨(blk_cell BK153.out 0).trans rfl, (blk_cell BK153.out 1).trans rfl, (blk_cell BK153.out 2).trans rfl⟩ (fun hHeld => ?_)
   clear hK K
   refine norm_ (a' := ?_) ?_ ?_
   rotate_left
   ·show Act.put _ (some 8) _ = _
    simp only [Act.put, pB, pC, pD, i64_w, i32_w]
    rfl
   refine two_ (i := 4) (j := 6) (Ni := some 11) (Nj := some 5) #[true, true, true, true, true, false, false, false, false] #[true, true, true, true, false, false, true, false, false] rfl rfl rfl rfl (two_of HT_.out (by kernel_rfl)) (by decide) (by decide) (fun K hK => ?_) (fun K hK => ?_)
   ·skip
    refine goes_ Try.func82 (by kernel_rfl) rfl #[.slice A0_2 l0_2.length c0_2] (by rfl) rfl rfl (by (try simp only [pE, pF, pG]); first | done | rfl | (simp only [pH, pI]; rfl)) ?_
    with_reducible refine (bung_courses.calls k _ _ l0_2 t157 _ ?side1 ?side2 A4.out).mono ?_
    (case side1 => repeat (first | exact (Kd.C_below HR0_2.out HB.out) | (with_reducible refine Kd.C_alloc ?_ _) | (with_reducible refine Kd.C_drewN ?_ _) | (with_reducible refine Kd.C_drew ?_)))
    (case side2 => exact HC0_2.out)
    rintro e w11 ⟨v158, rfl, ho0, hb⟩
    refine ⟨_, rfl, ?_⟩
    have n0_ := pA (Kd.R_lower ho0 (below_size (by repeat (first | (with_reducible first | exact HB.out | apply below_alloc | apply pw_below_drewN | apply below_drew1 | refine below_set ?_ GE153.out | refine below_set ?_ GE154.out) | exact HB.out))))
    have n1_ := pA (blk_below (g := gb153) (o := .cells #[.int .i64 a0_0, .int .i64 a0_1, .slice A0_2 l0_2.length c0_2] 43 (0, 0)) (vK BK153) hb)
    have n2_ := pA (blk_below (g := gb154) (o := .cells #[.int .i64 a1_0, .int .i64 a1_1] 26 (0, 0)) (vK BK154) hb)
    have n3_ := pA (below_step (by repeat (first | (with_reducible first | exact HB.out | apply below_alloc | apply pw_below_drewN | apply below_drew1 | refine below_set ?_ GE153.out | refine below_set ?_ GE154.out) | exact HB.out)) hb)
    clear BK153
    clear BK154
    clear HB
    have HO159 := n0_
    have BK153 := n1_
    have BK154 := n2_
    have HB := n3_
    clear n0_ n1_ n2_ n3_
    (try clear hb)
    (try clear hb2)
    (try clear hk)
    (try clear hi)
    (try clear ho0)
    obtain ⟨Ao12, co12, eo12⟩ := Kd.R_slice HO159.out
    (first | subst eo12 | (injection eo12 with f1_ f2_ f3_; have f4_ := f1_.symm; have f5_ := f3_.symm; clear f1_ f2_ f3_; subst f4_; subst f5_))
    refine hK.out _ _ ⟨(blk_cell BK153.out 0).trans rfl, (blk_cell BK153.out 1).trans rfl, (blk_cell BK153.out 2).trans rfl⟩ (fun hHeld => ?_)
    clear hK K
    refine norm_ (a' := ?_) ?_ ?_
    rotate_left
    ·show Act.put _ (some 11) _ = _
     simp only [Act.put, pB, pC, pD, i64_w, i32_w]
     rfl
    refine two_ (i := 5) (j := 6) (Ni := some 12) (Nj := some 5) #[true, true, true, true, true, true, false, false, false] #[true, true, true, true, true, false, true, false, false] rfl rfl rfl rfl (two_of HT_.out (by kernel_rfl)) (by decide) (by decide) (fun K hK => ?_) (fun K hK => ?_)
    ·skip
     refine goes_ Try.func81 (by kernel_rfl) rfl #[.slice Ao12 t157.length co12] (by rfl) rfl rfl (by (try simp only [pE, pF, pG]); first | done | rfl | (simp only [pH, pI]; rfl)) ?_
     with_reducible refine (bung_all.calls k _ _ t157 t160 _ ?side1 ?side2 A5.out).mono ?_
     (case side1 => repeat (first | exact (Kd.R_reads' HO159.out).2.2 | (with_reducible refine Kd.C_alloc ?_ _) | (with_reducible refine Kd.C_drewN ?_ _) | (with_reducible refine Kd.C_drew ?_)))
     (case side2 => exact (Kd.R_reads' HO159.out).2.1)
     rintro e w' ⟨rfl, ⟨nd, rfl⟩⟩
     refine ⟨_, rfl, ?_⟩
     refine hK.out _ _ ⟨(blk_cell BK153.out 0).trans rfl, (blk_cell BK153.out 1).trans rfl, (blk_cell BK153.out 2).trans rfl⟩ (fun hHeld => ?_)
     clear hK K
     refine norm_ (a' := ?_) ?_ ?_
     rotate_left
     ·show Act.put _ (some 12) _ = _
      simp only [Act.put, pB, pC, pD, i64_w, i32_w]
      rfl
     refine one_ (i := 6) (N := some 5) #[true, true, true, true, true, true, true, false, false] rfl rfl (one_of HT_.out (by kernel_rfl)) (by decide) (fun K hK => ?_)
     refine box_step ?hg (N := 5) ?hd (cs := #[.int .i64 0, .int .i64 0]) (t := 23) ?hr ?_; (case hd => rfl); (case hg => rfl); (case hr => first | (go_simp; done) | (go_simp; rfl))
     intro gb161 hg w13 hbox hb
     have n0_ := pA (Kd.R_below (vR HO159) hb)
     have n1_ := pA (blk_below (g := gb153) (o := .cells #[.int .i64 a0_0, .int .i64 a0_1, .slice A0_2 l0_2.length c0_2] 43 (0, 0)) (vK BK153) hb)
     have n2_ := pA (blk_below (g := gb154) (o := .cells #[.int .i64 a1_0, .int .i64 a1_1] 26 (0, 0)) (vK BK154) hb)
     have n3_ := pA (below_step (by repeat (first | (with_reducible first | exact HB.out | apply below_alloc | apply pw_below_drewN | apply below_drew1 | refine below_set ?_ GE153.out | refine below_set ?_ GE154.out) | exact HB.out)) hb)
     have n4_ := pA (hbox)
     have n5_ := pA ((by rw [hg]; exact (below_size (by repeat (first | (with_reducible first | exact HB.out | apply below_alloc | apply pw_below_drewN | apply below_drew1 | refine below_set ?_ GE153.out | refine below_set ?_ GE154.out) | exact HB.out))) : w.heap.size ≤ gb161))
     have n6_ := pA ((by rw [hg]; exact (below_size (by repeat (first | (with_reducible first | exact HB.out | apply below_alloc | apply pw_below_drewN | apply below_drew1 | refine below_set ?_ GE153.out | refine below_set ?_ GE154.out) | exact HB.out))) : w.heap.size ≤ gb161))
     have n7_ := pA ((by rw [hg]; exact Nat.ne_of_lt (blk_lt (g := gb153) (o := .cells #[.int .i64 a0_0, .int .i64 a0_1, .slice A0_2 l0_2.length c0_2] 43 (0, 0)) (vK BK153)) : gb153 ≠ gb161))
     have n8_ := pA ((by rw [hg]; exact Nat.ne_of_gt (blk_lt (g := gb153) (o := .cells #[.int .i64 a0_0, .int .i64 a0_1, .slice A0_2 l0_2.length c0_2] 43 (0, 0)) (vK BK153)) : gb161 ≠ gb153))
     have n9_ := pA ((by rw [hg]; exact Nat.ne_of_lt (blk_lt (g := gb154) (o := .cells #[.int .i64 a1_0, .int .i64 a1_1] 26 (0, 0)) (vK BK154)) : gb154 ≠ gb161))
     have n10_ := pA ((by rw [hg]; exact Nat.ne_of_gt (blk_lt (g := gb154) (o := .cells #[.int .i64 a1_0, .int .i64 a1_1] 26 (0, 0)) (vK BK154)) : gb161 ≠ gb154))
     clear HO159
     clear BK153
     clear BK154
     clear HB
     have HO159 := n0_
     have BK153 := n1_
     have BK154 := n2_
     have HB := n3_
     have BK161 := n4_
     have GW161 := n5_
     have GE161 := n6_
     have NB153_161 := n7_
     have NB161_153 := n8_
     have NB154_161 := n9_
     have NB161_154 := n10_
     clear n0_ n1_ n2_ n3_ n4_ n5_ n6_ n7_ n8_ n9_ n10_
     clear hb hbox hg
     refine hK.out _ _ ⟨(blk_cell BK153.out 0).trans rfl, (blk_cell BK153.out 1).trans rfl, (blk_cell BK153.out 2).trans rfl⟩ (fun hHeld => ?_)
     clear hK K
     refine norm_ (a' := ?_) ?_ ?_
     rotate_left
     ·show Act.put _ (some 5) _ = _
      simp only [Act.put, pB, pC, pD, i64_w, i32_w]
      rfl
     exact norm_ (by simp only [putAll, Act.put, pB, pC, pD]) (hCont (.slice Ao12 t157.length co12, gb161) _ ⟨hHeld, (vR HO159), (vK BK153), (vK BK154), (vK BK161), GW161.out, GE161.out, NB153_161.out, NB161_153.out, NB154_161.out, NB161_154.out, (by repeat (first | (with_reducible first | exact HB.out | apply below_alloc | apply pw_below_drewN | apply below_drew1 | refine below_set ?_ GE153.out | refine below_set ?_ GE154.out | refine below_set ?_ GE161.out) | exact HB.out))⟩)
    ·skip
     refine box_step ?hg (N := 5) ?hd (cs := #[.int .i64 0, .int .i64 0]) (t := 23) ?hr ?_; (case hd => rfl); (case hg => rfl); (case hr => first | (go_simp; done) | (go_simp; rfl))
     intro gb161 hg w12 hbox hb
     have n0_ := pA (Kd.R_below (vR HO159) hb)
     have n1_ := pA (blk_below (g := gb153) (o := .cells #[.int .i64 a0_0, .int .i64 a0_1, .slice A0_2 l0_2.length c0_2] 43 (0, 0)) (vK BK153) hb)
     have n2_ := pA (blk_below (g := gb154) (o := .cells #[.int .i64 a1_0, .int .i64 a1_1] 26 (0, 0)) (vK BK154) hb)
     have n3_ := pA (below_step (by repeat (first | (with_reducible first | exact HB.out | apply below_alloc | apply pw_below_drewN | apply below_drew1 | refine below_set ?_ GE153.out | refine below_set ?_ GE154.out) | exact HB.out)) hb)
     have n4_ := pA (hbox)
     have n5_ := pA ((by rw [hg]; exact (below_size (by repeat (first | (with_reducible first | exact HB.out | apply below_alloc | apply pw_below_drewN | apply below_drew1 | refine below_set ?_ GE153.out | refine below_set ?_ GE154.out) | exact HB.out))) : w.heap.size ≤ gb161))
     have n6_ := pA ((by rw [hg]; exact (below_size (by repeat (first | (with_reducible first | exact HB.out | apply below_alloc | apply pw_below_drewN | apply below_drew1 | refine below_set ?_ GE153.out | refine below_set ?_ GE154.out) | exact HB.out))) : w.heap.size ≤ gb161))
     have n7_ := pA ((by rw [hg]; exact Nat.ne_of_lt (blk_lt (g := gb153) (o := .cells #[.int .i64 a0_0, .int .i64 a0_1, .slice A0_2 l0_2.length c0_2] 43 (0, 0)) (vK BK153)) : gb153 ≠ gb161))
     have n8_ := pA ((by rw [hg]; exact Nat.ne_of_gt (blk_lt (g := gb153) (o := .cells #[.int .i64 a0_0, .int .i64 a0_1, .slice A0_2 l0_2.length c0_2] 43 (0, 0)) (vK BK153)) : gb161 ≠ gb153))
     have n9_ := pA ((by rw [hg]; exact Nat.ne_of_lt (blk_lt (g := gb154) (o := .cells #[.int .i64 a1_0, .int .i64 a1_1] 26 (0, 0)) (vK BK154)) : gb154 ≠ gb161))
     have n10_ := pA ((by rw [hg]; exact Nat.ne_of_gt (blk_lt (g := gb154) (o := .cells #[.int .i64 a1_0, .int .i64 a1_1] 26 (0, 0)) (vK BK154)) : gb161 ≠ gb154))
     clear HO159
     clear BK153
     clear BK154
     clear HB
     have HO159 := n0_
     have BK153 := n1_
     have BK154 := n2_
     have HB := n3_
     have BK161 := n4_
     have GW161 := n5_
     have GE161 := n6_
     have NB153_161 := n7_
     have NB161_153 := n8_
     have NB154_161 := n9_
     have NB161_154 := n10_
     clear n0_ n1_ n2_ n3_ n4_ n5_ n6_ n7_ n8_ n9_ n10_
     clear hb hbox hg
     obtain ⟨Ao13, co13, eo13⟩ := Kd.R_slice HO159.out
     (first | subst eo13 | (injection eo13 with f1_ f2_ f3_; have f4_ := f1_.symm; have f5_ := f3_.symm; clear f1_ f2_ f3_; subst f4_; subst f5_))
     refine hK.out _ _ ⟨(blk_cell BK153.out 0).trans rfl, (blk_cell BK153.out 1).trans rfl, (blk_cell BK153.out 2).trans rfl⟩ (fun hHeld => ?_)
     clear hK K
     refine norm_ (a' := ?_) ?_ ?_
     rotate_left
     ·show Act.put _ (some 5) _ = _
      simp only [Act.put, pB, pC, pD, i64_w, i32_w]
      rfl
     refine one_ (i := 5) (N := some 12) #[true, true, true, true, true, true, true, false, false] rfl rfl (one_of HT_.out (by kernel_rfl)) (by decide) (fun K hK => ?_)
     refine goes_ Try.func81 (by kernel_rfl) rfl #[.slice Ao13 t157.length co13] (by rfl) rfl rfl (by (try simp only [pE, pF, pG]); first | done | rfl | (simp only [pH, pI]; rfl)) ?_
     with_reducible refine (bung_all.calls k _ _ t157 t160 _ ?side1 ?side2 A5.out).mono ?_
     (case side1 => repeat (first | exact (Kd.R_reads' HO159.out).2.2 | (with_reducible refine Kd.C_alloc ?_ _) | (with_reducible refine Kd.C_drewN ?_ _) | (with_reducible refine Kd.C_drew ?_)))
     (case side2 => exact (Kd.R_reads' HO159.out).2.1)
     rintro e w' ⟨rfl, ⟨nd, rfl⟩⟩
     refine ⟨_, rfl, ?_⟩
     refine hK.out _ _ ⟨(blk_cell BK153.out 0).trans rfl, (blk_cell BK153.out 1).trans rfl, (blk_cell BK153.out 2).trans rfl⟩ (fun hHeld => ?_)
     clear hK K
     refine norm_ (a' := ?_) ?_ ?_
     rotate_left
     ·show Act.put _ (some 12) _ = _
      simp only [Act.put, pB, pC, pD, i64_w, i32_w]
      rfl
     exact norm_ (by simp only [putAll, Act.put, pB, pC, pD]) (hCont (.slice Ao13 t157.length co13, gb161) _ ⟨hHeld, (vR HO159), (vK BK153), (vK BK154), (vK BK161), GW161.out, GE161.out, NB153_161.out, NB161_153.out, NB154_161.out, NB161_154.out, (by repeat (first | (with_reducible first | exact HB.out | apply below_alloc | apply pw_below_drewN | apply below_drew1 | refine below_set ?_ GE153.out | refine below_set ?_ GE154.out | refine below_set ?_ GE161.out) | exact HB.out))⟩)
   ·skip
    refine box_step ?hg (N := 5) ?hd (cs := #[.int .i64 0, .int .i64 0]) (t := 23) ?hr ?_; (case hd => rfl); (case hg => rfl); (case hr => first | (go_simp; done) | (go_simp; rfl))
    intro gb161 hg w11 hbox hb
    have n0_ := pA (blk_below (g := gb153) (o := .cells #[.int .i64 a0_0, .int .i64 a0_1, .slice A0_2 l0_2.length c0_2] 43 (0, 0)) (vK BK153) hb)
    have n1_ := pA (blk_below (g := gb154) (o := .cells #[.int .i64 a1_0, .int .i64 a1_1] 26 (0, 0)) (vK BK154) hb)
    have n2_ := pA (below_step (by repeat (first | (with_reducible first | exact HB.out | apply below_alloc | apply pw_below_drewN | apply below_drew1 | refine below_set ?_ GE153.out | refine below_set ?_ GE154.out) | exact HB.out)) hb)
    have n3_ := pA (hbox)
    have n4_ := pA ((by rw [hg]; exact (below_size (by repeat (first | (with_reducible first | exact HB.out | apply below_alloc | apply pw_below_drewN | apply below_drew1 | refine below_set ?_ GE153.out | refine below_set ?_ GE154.out) | exact HB.out))) : w.heap.size ≤ gb161))
    have n5_ := pA ((by rw [hg]; exact (below_size (by repeat (first | (with_reducible first | exact HB.out | apply below_alloc | apply pw_below_drewN | apply below_drew1 | refine below_set ?_ GE153.out | refine below_set ?_ GE154.out) | exact HB.out))) : w.heap.size ≤ gb161))
    have n6_ := pA ((by rw [hg]; exact Nat.ne_of_lt (blk_lt (g := gb153) (o := .cells #[.int .i64 a0_0, .int .i64 a0_1, .slice A0_2 l0_2.length c0_2] 43 (0, 0)) (vK BK153)) : gb153 ≠ gb161))
    have n7_ := pA ((by rw [hg]; exact Nat.ne_of_gt (blk_lt (g := gb153) (o := .cells #[.int .i64 a0_0, .int .i64 a0_1, .slice A0_2 l0_2.length c0_2] 43 (0, 0)) (vK BK153)) : gb161 ≠ gb153))
    have n8_ := pA ((by rw [hg]; exact Nat.ne_of_lt (blk_lt (g := gb154) (o := .cells #[.int .i64 a1_0, .int .i64 a1_1] 26 (0, 0)) (vK BK154)) : gb154 ≠ gb161))
    have n9_ := pA ((by rw [hg]; exact Nat.ne_of_gt (blk_lt (g := gb154) (o := .cells #[.int .i64 a1_0, .int .i64 a1_1] 26 (0, 0)) (vK BK154)) : gb161 ≠ gb154))
    clear BK153
    clear BK154
    clear HB
    have BK153 := n0_
    have BK154 := n1_
    have HB := n2_
    have BK161 := n3_
    have GW161 := n4_
    have GE161 := n5_
    have NB153_161 := n6_
    have NB161_153 := n7_
    have NB154_161 := n8_
    have NB161_154 := n9_
    clear n0_ n1_ n2_ n3_ n4_ n5_ n6_ n7_ n8_ n9_
    clear hb hbox hg
    refine hK.out _ _ ⟨(blk_cell BK153.out 0).trans rfl, (blk_cell BK153.out 1).trans rfl, (blk_cell BK153.out 2).trans rfl⟩ (fun hHeld => ?_)
    clear hK K
    refine norm_ (a' := ?_) ?_ ?_
    rotate_left
    ·show Act.put _ (some 5) _ = _
     simp only [Act.put, pB, pC, pD, i64_w, i32_w]
     rfl
    refine one_ (i := 4) (N := some 11) #[true, true, true, true, true, false, true, false, false] rfl rfl (one_of HT_.out (by kernel_rfl)) (by decide) (fun K hK => ?_)
    refine goes_ Try.func82 (by kernel_rfl) rfl #[.slice A0_2 l0_2.length c0_2] (by rfl) rfl rfl (by (try simp only [pE, pF, pG]); first | done | rfl | (simp only [pH, pI]; rfl)) ?_
    with_reducible refine (bung_courses.calls k _ _ l0_2 t157 _ ?side1 ?side2 A4.out).mono ?_
    (case side1 => repeat (first | exact (Kd.C_below HR0_2.out HB.out) | (with_reducible refine Kd.C_alloc ?_ _) | (with_reducible refine Kd.C_drewN ?_ _) | (with_reducible refine Kd.C_drew ?_)))
    (case side2 => exact HC0_2.out)
    rintro e w12 ⟨v158, rfl, ho0, hb⟩
    refine ⟨_, rfl, ?_⟩
    have n0_ := pA (Kd.R_lower ho0 (below_size (by repeat (first | (with_reducible first | exact HB.out | apply below_alloc | apply pw_below_drewN | apply below_drew1 | refine below_set ?_ GE153.out | refine below_set ?_ GE154.out | refine below_set ?_ GE161.out) | exact HB.out))))
    have n1_ := pA (blk_below (g := gb153) (o := .cells #[.int .i64 a0_0, .int .i64 a0_1, .slice A0_2 l0_2.length c0_2] 43 (0, 0)) (vK BK153) hb)
    have n2_ := pA (blk_below (g := gb154) (o := .cells #[.int .i64 a1_0, .int .i64 a1_1] 26 (0, 0)) (vK BK154) hb)
    have n3_ := pA (blk_below (g := gb161) (o := .cells #[.int .i64 0, .int .i64 0] 23 (0, 0)) (vK BK161) hb)
    have n4_ := pA (below_step (by repeat (first | (with_reducible first | exact HB.out | apply below_alloc | apply pw_below_drewN | apply below_drew1 | refine below_set ?_ GE153.out | refine below_set ?_ GE154.out | refine below_set ?_ GE161.out) | exact HB.out)) hb)
    clear BK153
    clear BK154
    clear BK161
    clear HB
    have HO159 := n0_
    have BK153 := n1_
    have BK154 := n2_
    have BK161 := n3_
    have HB := n4_
    clear n0_ n1_ n2_ n3_ n4_
    (try clear hb)
    (try clear hb2)
    (try clear hk)
    (try clear hi)
    (try clear ho0)
    obtain ⟨Ao13, co13, eo13⟩ := Kd.R_slice HO159.out
    (first | subst eo13 | (injection eo13 with f1_ f2_ f3_; have f4_ := f1_.symm; have f5_ := f3_.symm; clear f1_ f2_ f3_; subst f4_; subst f5_))
    refine hK.out _ _ ⟨(blk_cell BK153.out 0).trans rfl, (blk_cell BK153.out 1).trans rfl, (blk_cell BK153.out 2).trans rfl⟩ (fun hHeld => ?_)
    clear hK K
    refine norm_ (a' := ?_) ?_ ?_
    rotate_left
    ·show Act.put _ (some 11) _ = _
     simp only [Act.put, pB, pC, pD, i64_w, i32_w]
     rfl
    refine one_ (i := 5) (N := some 12) #[true, true, true, true, true, true, true, false, false] rfl rfl (one_of HT_.out (by kernel_rfl)) (by decide) (fun K hK => ?_)
    refine goes_ Try.func81 (by kernel_rfl) rfl #[.slice Ao13 t157.length co13] (by rfl) rfl rfl (by (try simp only [pE, pF, pG]); first | done | rfl | (simp only [pH, pI]; rfl)) ?_
    with_reducible refine (bung_all.calls k _ _ t157 t160 _ ?side1 ?side2 A5.out).mono ?_
    (case side1 => repeat (first | exact (Kd.R_reads' HO159.out).2.2 | (with_reducible refine Kd.C_alloc ?_ _) | (with_reducible refine Kd.C_drewN ?_ _) | (with_reducible refine Kd.C_drew ?_)))
    (case side2 => exact (Kd.R_reads' HO159.out).2.1)
    rintro e w' ⟨rfl, ⟨nd, rfl⟩⟩
    refine ⟨_, rfl, ?_⟩
    refine hK.out _ _ ⟨(blk_cell BK153.out 0).trans rfl, (blk_cell BK153.out 1).trans rfl, (blk_cell BK153.out 2).trans rfl⟩ (fun hHeld => ?_)
    clear hK K
    refine norm_ (a' := ?_) ?_ ?_
    rotate_left
    ·show Act.put _ (some 12) _ = _
     simp only [Act.put, pB, pC, pD, i64_w, i32_w]
     rfl
    exact norm_ (by simp only [putAll, Act.put, pB, pC, pD]) (hCont (.slice Ao13 t157.length co13, gb161) _ ⟨hHeld, (vR HO159), (vK BK153), (vK BK154), (vK BK161), GW161.out, GE161.out, NB153_161.out, NB161_153.out, NB154_161.out, NB161_154.out, (by repeat (first | (with_reducible first | exact HB.out | apply below_alloc | apply pw_below_drewN | apply below_drew1 | refine below_set ?_ GE153.out | refine below_set ?_ GE154.out | refine below_set ?_ GE161.out) | exact HB.out))⟩)
  ·skip
   refine box_step ?hg (N := 5) ?hd (cs := #[.int .i64 0, .int .i64 0]) (t := 23) ?hr ?_; (case hd => rfl); (case hg => rfl); (case hr => first | (go_simp; done) | (go_simp; rfl))
   intro gb161 hg w10 hbox hb
   have n0_ := pA (blk_below (g := gb153) (o := .cells #[.int .i64 a0_0, .int .i64 a0_1, .slice A0_2 l0_2.length c0_2] 43 (0, 0)) (vK BK153) hb)
   have n1_ := pA (blk_below (g := gb154) (o := .cells #[.int .i64 a1_0, .int .i64 a1_1] 26 (0, 0)) (vK BK154) hb)
   have n2_ := pA (below_step (by repeat (first | (with_reducible first | exact HB.out | apply below_alloc | apply pw_below_drewN | apply below_drew1 | refine below_set ?_ GE153.out | refine below_set ?_ GE154.out) | exact HB.out)) hb)
   have n3_ := pA (hbox)
   have n4_ := pA ((by rw [hg]; exact (below_size (by repeat (first | (with_reducible first | exact HB.out | apply below_alloc | apply pw_below_drewN | apply below_drew1 | refine below_set ?_ GE153.out | refine below_set ?_ GE154.out) | exact HB.out))) : w.heap.size ≤ gb161))
   have n5_ := pA ((by rw [hg]; exact (below_size (by repeat (first | (with_reducible first | exact HB.out | apply below_alloc | apply pw_below_drewN | apply below_drew1 | refine below_set ?_ GE153.out | refine below_set ?_ GE154.out) | exact HB.out))) : w.heap.size ≤ gb161))
   have n6_ := pA ((by rw [hg]; exact Nat.ne_of_lt (blk_lt (g := gb153) (o := .cells #[.int .i64 a0_0, .int .i64 a0_1, .slice A0_2 l0_2.length c0_2] 43 (0, 0)) (vK BK153)) : gb153 ≠ gb161))
   have n7_ := pA ((by rw [hg]; exact Nat.ne_of_gt (blk_lt (g := gb153) (o := .cells #[.int .i64 a0_0, .int .i64 a0_1, .slice A0_2 l0_2.length c0_2] 43 (0, 0)) (vK BK153)) : gb161 ≠ gb153))
   have n8_ := pA ((by rw [hg]; exact Nat.ne_of_lt (blk_lt (g := gb154) (o := .cells #[.int .i64 a1_0, .int .i64 a1_1] 26 (0, 0)) (vK BK154)) : gb154 ≠ gb161))
   have n9_ := pA ((by rw [hg]; exact Nat.ne_of_gt (blk_lt (g := gb154) (o := .cells #[.int .i64 a1_0, .int .i64 a1_1] 26 (0, 0)) (vK BK154)) : gb161 ≠ gb154))
   clear BK153
   clear BK154
   clear HB
   have BK153 := n0_
   have BK154 := n1_
   have HB := n2_
   have BK161 := n3_
   have GW161 := n4_
   have GE161 := n5_
   have NB153_161 := n6_
   have NB161_153 := n7_
   have NB154_161 := n8_
   have NB161_154 := n9_
   clear n0_ n1_ n2_ n3_ n4_ n5_ n6_ n7_ n8_ n9_
   clear hb hbox hg
   refine hK.out _ _ ⟨(blk_cell BK153.out 0).trans rfl, (blk_cell BK153.out 1).trans rfl, (blk_cell BK153.out 2).trans rfl⟩ (fun hHeld => ?_)
   clear hK K
   refine norm_ (a' := ?_) ?_ ?_
   rotate_left
   ·show Act.put _ (some 5) _ = _
    simp only [Act.put, pB, pC, pD, i64_w, i32_w]
    rfl
   refine one_ (i := 1) (N := some 8) #[true, true, true, true, false, false, true, false, false] rfl rfl (one_of HT_.out (by kernel_rfl)) (by decide) (fun K hK => ?_)
   refine goes_ Try.func83 (by kernel_rfl) rfl #[.agg #[.int .i64 a0_0, .int .i64 a0_1, .slice A0_2 l0_2.length c0_2]] (by rfl) rfl rfl (by (try simp only [pE, pF, pG]); first | done | rfl | (simp only [pH, pI]; rfl)) ?_
   with_reducible refine (bung_height.calls k a0_0 a0_1 _ _ l0_2 t155 t156 _ ?side1 ?side2 A3.out).mono ?_
   (case side1 => repeat (first | exact (Kd.C_below HR0_2.out HB.out) | (with_reducible refine Kd.C_alloc ?_ _) | (with_reducible refine Kd.C_drewN ?_ _) | (with_reducible refine Kd.C_drew ?_)))
   (case side2 => exact HC0_2.out)
   rintro e w11 ⟨rfl, hb⟩
   refine ⟨_, rfl, ?_⟩
   have n0_ := pA (blk_below (g := gb153) (o := .cells #[.int .i64 a0_0, .int .i64 a0_1, .slice A0_2 l0_2.length c0_2] 43 (0, 0)) (vK BK153) hb)
   have n1_ := pA (blk_below (g := gb154) (o := .cells #[.int .i64 a1_0, .int .i64 a1_1] 26 (0, 0)) (vK BK154) hb)
   have n2_ := pA (blk_below (g := gb161) (o := .cells #[.int .i64 0, .int .i64 0] 23 (0, 0)) (vK BK161) hb)
   have n3_ := pA (below_step (by repeat (first | (with_reducible first | exact HB.out | apply below_alloc | apply pw_below_drewN | apply below_drew1 | refine below_set ?_ GE153.out | refine below_set ?_ GE154.out | refine below_set ?_ GE161.out) | exact HB.out)) hb)
   clear BK153
   clear BK154
   clear BK161
   clear HB
   have BK153 := n0_
   have BK154 := n1_
   have BK161 := n2_
   have HB := n3_
   clear n0_ n1_ n2_ n3_
   (try clear hb)
   (try clear hb2)
   (try clear hk)
   (try clear hi)
   refine hK.out _ _ ⟨(blk_cell BK153.out 0).trans rfl, (blk_cell BK153.out 1).trans rfl, (blk_cell BK153.out 2).trans rfl⟩ (fun hHeld => ?_)
   clear hK K
   refine norm_ (a' := ?_) ?_ ?_
   rotate_left
   ·show Act.put _ (some 8) _ = _
    simp only [Act.put, pB, pC, pD, i64_w, i32_w]
    rfl
   refine one_ (i := 4) (N := some 11) #[true, true, true, true, true, false, true, false, false] rfl rfl (one_of HT_.out (by kernel_rfl)) (by decide) (fun K hK => ?_)
   refine goes_ Try.func82 (by kernel_rfl) rfl #[.slice A0_2 l0_2.length c0_2] (by rfl) rfl rfl (by (try simp only [pE, pF, pG]); first | done | rfl | (simp only [pH, pI]; rfl)) ?_
   with_reducible refine (bung_courses.calls k _ _ l0_2 t157 _ ?side1 ?side2 A4.out).mono ?_
   (case side1 => repeat (first | exact (Kd.C_below HR0_2.out HB.out) | (with_reducible refine Kd.C_alloc ?_ _) | (with_reducible refine Kd.C_drewN ?_ _) | (with_reducible refine Kd.C_drew ?_)))
   (case side2 => exact HC0_2.out)
   rintro e w12 ⟨v158, rfl, ho0, hb⟩
   refine ⟨_, rfl, ?_⟩
   have n0_ := pA (Kd.R_lower ho0 (below_size (by repeat (first | (with_reducible first | exact HB.out | apply below_alloc | apply pw_below_drewN | apply below_drew1 | refine below_set ?_ GE153.out | refine below_set ?_ GE154.out | refine below_set ?_ GE161.out) | exact HB.out))))
   have n1_ := pA (blk_below (g := gb153) (o := .cells #[.int .i64 a0_0, .int .i64 a0_1, .slice A0_2 l0_2.length c0_2] 43 (0, 0)) (vK BK153) hb)
   have n2_ := pA (blk_below (g := gb154) (o := .cells #[.int .i64 a1_0, .int .i64 a1_1] 26 (0, 0)) (vK BK154) hb)
   have n3_ := pA (blk_below (g := gb161) (o := .cells #[.int .i64 0, .int .i64 0] 23 (0, 0)) (vK BK161) hb)
   have n4_ := pA (below_step (by repeat (first | (with_reducible first | exact HB.out | apply below_alloc | apply pw_below_drewN | apply below_drew1 | refine below_set ?_ GE153.out | refine below_set ?_ GE154.out | refine below_set ?_ GE161.out) | exact HB.out)) hb)
   clear BK153
   clear BK154
   clear BK161
   clear HB
   have HO159 := n0_
   have BK153 := n1_
   have BK154 := n2_
   have BK161 := n3_
   have HB := n4_
   clear n0_ n1_ n2_ n3_ n4_
   (try clear hb)
   (try clear hb2)
   (try clear hk)
   (try clear hi)
   (try clear ho0)
   obtain ⟨Ao13, co13, eo13⟩ := Kd.R_slice HO159.out
   (first | subst eo13 | (injection eo13 with f1_ f2_ f3_; have f4_ := f1_.symm; have f5_ := f3_.symm; clear f1_ f2_ f3_; subst f4_; subst f5_))
   refine hK.out _ _ ⟨(blk_cell BK153.out 0).trans rfl, (blk_cell BK153.out 1).trans rfl, (blk_cell BK153.out 2).trans rfl⟩ (fun hHeld => ?_)
   clear hK K
   refine norm_ (a' := ?_) ?_ ?_
   rotate_left
   ·show Act.put _ (some 11) _ = _
    simp only [Act.put, pB, pC, pD, i64_w, i32_w]
    rfl
   refine one_ (i := 5) (N := some 12) #[true, true, true, true, true, true, true, false, false] rfl rfl (one_of HT_.out (by kernel_rfl)) (by decide) (fun K hK => ?_)
   refine goes_ Try.func81 (by kernel_rfl) rfl #[.slice Ao13 t157.length co13] (by rfl) rfl rfl (by (try simp only [pE, pF, pG]); first | done | rfl | (simp only [pH, pI]; rfl)) ?_
   with_reducible refine (bung_all.calls k _ _ t157 t160 _ ?side1 ?side2 A5.out).mono ?_
   (case side1 => repeat (first | exact (Kd.R_reads' HO159.out).2.2 | (with_reducible refine Kd.C_alloc ?_ _) | (with_reducible refine Kd.C_drewN ?_ _) | (with_reducible refine Kd.C_drew ?_)))
   (case side2 => exact (Kd.R_reads' HO159.out).2.1)
   rintro e w' ⟨rfl, ⟨nd, rfl⟩⟩
   refine ⟨_, rfl, ?_⟩
   refine hK.out _ _ ⟨(blk_cell BK153.out 0).trans rfl, (blk_cell BK153.out 1).trans rfl, (blk_cell BK153.out 2).trans rfl⟩ (fun hHeld => ?_)
   clear hK K
   refine norm_ (a' := ?_) ?_ ?_
   rotate_left
   ·show Act.put _ (some 12) _ = _
    simp only [Act.put, pB, pC, pD, i64_w, i32_w]
    rfl
   exact norm_ (by simp only [putAll, Act.put, pB, pC, pD]) (hCont (.slice Ao13 t157.length co13, gb161) _ ⟨hHeld, (vR HO159), (vK BK153), (vK BK154), (vK BK161), GW161.out, GE161.out, NB153_161.out, NB161_153.out, NB154_161.out, NB161_154.out, (by repeat (first | (with_reducible first | exact HB.out | apply below_alloc | apply pw_below_drewN | apply below_drew1 | refine below_set ?_ GE153.out | refine below_set ?_ GE154.out | refine below_set ?_ GE161.out) | exact HB.out))⟩)
 rintro ⟨v158, gb161⟩ w14 ⟨hS_, h0_, h1_, h2_, h3_, h4_, h5_, h6_, h7_, h8_, h9_, h10_⟩
 have n0_ : Aside0 (Kd.R (Kd.int .i64) 3 w14 w.heap.size (fun _ => True) v158 t157) := ⟨h0_⟩
 have n1_ : Aside0 (w14.heap[gb153]? = some (.cells #[.int .i64 a0_0, .int .i64 a0_1, .slice A0_2 l0_2.length c0_2] 43 (0, 0))) := ⟨h1_⟩
 have n2_ : Aside0 (w14.heap[gb154]? = some (.cells #[.int .i64 a1_0, .int .i64 a1_1] 26 (0, 0))) := ⟨h2_⟩
 have n3_ : Aside0 (w14.heap[gb161]? = some (.cells #[.int .i64 0, .int .i64 0] 23 (0, 0))) := ⟨h3_⟩
 have n4_ : Aside0 (w.heap.size ≤ gb161) := ⟨h4_⟩
 have n5_ : Aside0 (w.heap.size ≤ gb161) := ⟨h5_⟩
 have n6_ : Aside0 (gb153 ≠ gb161) := ⟨h6_⟩
 have n7_ : Aside0 (gb161 ≠ gb153) := ⟨h7_⟩
 have n8_ : Aside0 (gb154 ≠ gb161) := ⟨h8_⟩
 have n9_ : Aside0 (gb161 ≠ gb154) := ⟨h9_⟩
 have n10_ : Aside0 (Below w.heap.size w w14) := ⟨h10_⟩
 clear BK153
 clear BK154
 clear HB
 clear h0_ h1_ h2_ h3_ h4_ h5_ h6_ h7_ h8_ h9_ h10_
 have HO159 := n0_
 have BK153 := n1_
 have BK154 := n2_
 have BK161 := n3_
 have GW161 := n4_
 have GE161 := n5_
 have NB153_161 := n6_
 have NB161_153 := n7_
 have NB154_161 := n8_
 have NB161_154 := n9_
 have HB := n10_
 clear n0_ n1_ n2_ n3_ n4_ n5_ n6_ n7_ n8_ n9_ n10_
 have hHeld : w14.cell? ⟨gb153, 0, none⟩ = some (.int .i64 a0_0) ∧ w14.cell? ⟨gb153, 1, none⟩ = some (.int .i64 a0_1) ∧ w14.cell? ⟨gb153, 2, none⟩ = some (.slice A0_2 l0_2.length c0_2) := hS_
 refine norm_ (a' := ?_) ?_ ?_
 rotate_left
 ·simp only [putAll, Act.put, pB, pC, pD]
  rfl
 refine one_ (i := 7) (N := none) #[true, true, true, true, true, true, true, true, false] rfl rfl (one_of HT_.out (by kernel_rfl)) (by decide) (fun K hK => ?_)
 have hs15 : w14.cell? ⟨gb161, 0, none⟩ = some (.int .i64 0) := (blk_cell BK161.out 0).trans rfl
 have hfs15 := blk_frozen BK161.out 0
 have hns15_0 := NB153_161.out
 have hns15_1 := NB154_161.out
 have hms15_0 := NB161_153.out
 have hms15_1 := NB161_154.out
 have hs16 : w14.cell? ⟨gb161, 1, none⟩ = some (.int .i64 0) := (blk_cell BK161.out 1).trans rfl
 have hfs16 := blk_frozen BK161.out 1
 have hns16_0 := NB153_161.out
 have hns16_1 := NB154_161.out
 have hms16_0 := NB161_153.out
 have hms16_1 := NB161_154.out
 refine skip_ (w1 := ?_) (by rfl) rfl ?_ ?_
 rotate_left
 ·go_simp
  rfl
 refine hK.out _ _ ⟨((cell_far (p := ⟨gb161, _, none⟩) NB153_161.out _).trans (((cell_far (p := ⟨gb161, _, none⟩) NB153_161.out _).trans (hHeld.1)))), ((cell_far (p := ⟨gb161, _, none⟩) NB153_161.out _).trans (((cell_far (p := ⟨gb161, _, none⟩) NB153_161.out _).trans (hHeld.2.1)))), ((cell_far (p := ⟨gb161, _, none⟩) NB153_161.out _).trans (((cell_far (p := ⟨gb161, _, none⟩) NB153_161.out _).trans (hHeld.2.2))))⟩ (fun hHeld => ?_)
 clear hK K
 refine pure_ (i := 8) (N := some 6) (v := ?_) (a' := ?_) #[true, true, true, true, true, true, true, true, true] rfl rfl (any_of HT_.out (by kernel_rfl)) (fun _ _ _ h => h) (Or.inl ⟨by rfl, ?_⟩) ?_ ?_
 rotate_left
 ·intro w'
  go_simp
  with_reducible rfl
 rotate_left
 ·simp only [Act.put, pB, pC, pD, i64_w, i32_w]
  rfl
 refine done_ (done_of HT_.out (by kernel_rfl)) ?_
 go_upto_region 2 with (fail)
 go_cut [13] (fun v13 wc => ∃ (kq : Nat) (x13_5 : Bool), v13 = .bool x13_5 ∧ Aside0 (bung_fits.j0 kq t160 x13_5 a0_0 a0_1 l0_2 a1_0 a1_1 t155 t156 = some r) ∧ Aside0 (kq ≤ k) ∧ Aside0 (wc.heap[gb153]? = some (.cells #[.int .i64 a0_0, .int .i64 a0_1, (.slice A0_2 l0_2.length c0_2)] 43 (0, 0))) ∧ Aside0 (wc.heap[gb154]? = some (.cells #[.int .i64 a1_0, .int .i64 a1_1] 26 (0, 0))) ∧ Aside0 (wc.heap[gb161]? = some (.cells #[.int .i64 t155, .int .i64 t156] 23 (0, 0))) ∧ Aside0 (Below w.heap.size w wc))
 case first =>
  have H := HC6.out
  clear HC6
  by_cases c17 : t155 > a1_0
  ·rw [if_pos c17] at H
   have c17b0 : decide (a1_0 < t155) = true := decide_eq_true c17
   clear c17
   (first | rw [c17b0] | (simp only [i64_w, i32_w]; rw [c17b0]) | skip)
   have H' := pA H
   clear H
   have hnb18 := NB161_153.out
   have hnc18 := NB153_161.out
   have hnb19 := NB161_154.out
   have hnc19 := NB154_161.out
   have hcz20_0 : w14.cell? ⟨gb161, 0, none⟩ = some (.int .i64 0) := (blk_cell BK161.out 0).trans rfl
   have hcz20_1 : w14.cell? ⟨gb161, 1, none⟩ = some (.int .i64 0) := (blk_cell BK161.out 1).trans rfl
   have hfz20_0 := blk_frozen BK161.out 0
   have hfz20_1 := blk_frozen BK161.out 1
   have hnb21 := NB154_153.out
   have hnc21 := NB153_154.out
   have hcz22_0 : w14.cell? ⟨gb154, 0, none⟩ = some (.int .i64 a1_0) := (blk_cell BK154.out 0).trans rfl
   have hcz22_1 : w14.cell? ⟨gb154, 1, none⟩ = some (.int .i64 a1_1) := (blk_cell BK154.out 1).trans rfl
   have hfz22_0 := blk_frozen BK154.out 0
   have hfz22_1 := blk_frozen BK154.out 1
   go_wp2
   go_meet
   case rel => exact ⟨_, (true), (by first | rfl | (simp; done) | (simp [*]; done)), H', ⟨by first | omega | exact Nat.le_refl _⟩, ⟨by (with_reducible repeat refine vS ?_); refine blk_far ?_ NB153_161.out _; (with_reducible repeat refine vS ?_); refine blk_far ?_ NB153_161.out _; (with_reducible repeat refine vS ?_); exact BK153.out⟩, ⟨by (with_reducible repeat refine vS ?_); refine blk_far ?_ NB154_161.out _; (with_reducible repeat refine vS ?_); refine blk_far ?_ NB154_161.out _; (with_reducible repeat refine vS ?_); exact BK154.out⟩, ⟨by (with_reducible repeat refine vS ?_); refine blk_put (cs := #[.int .i64 t155, .int .i64 0]) ?_ 1 _ rfl; (with_reducible repeat refine vS ?_); refine blk_put (cs := #[.int .i64 0, .int .i64 0]) ?_ 0 _ rfl; (with_reducible repeat refine vS ?_); exact BK161.out⟩, ⟨by repeat (first | (with_reducible first | exact HB.out | apply below_alloc | apply pw_below_drewN | apply below_drew1 | refine below_set ?_ GE153.out | refine below_set ?_ GE154.out | refine below_set ?_ GE161.out) | exact HB.out)⟩⟩
  ·rw [if_neg c17] at H
   have c17b0 : decide (a1_0 < t155) = false := decide_eq_false c17
   clear c17
   (first | rw [c17b0] | (simp only [i64_w, i32_w]; rw [c17b0]) | skip)
   have H' := pA H
   clear H
   have hnb23 := NB161_153.out
   have hnc23 := NB153_161.out
   have hnb24 := NB161_154.out
   have hnc24 := NB154_161.out
   have hcz25_0 : w14.cell? ⟨gb161, 0, none⟩ = some (.int .i64 0) := (blk_cell BK161.out 0).trans rfl
   have hcz25_1 : w14.cell? ⟨gb161, 1, none⟩ = some (.int .i64 0) := (blk_cell BK161.out 1).trans rfl
   have hfz25_0 := blk_frozen BK161.out 0
   have hfz25_1 := blk_frozen BK161.out 1
   have hnb26 := NB154_153.out
   have hnc26 := NB153_154.out
   have hcz27_0 : w14.cell? ⟨gb154, 0, none⟩ = some (.int .i64 a1_0) := (blk_cell BK154.out 0).trans rfl
   have hcz27_1 : w14.cell? ⟨gb154, 1, none⟩ = some (.int .i64 a1_1) := (blk_cell BK154.out 1).trans rfl
   have hfz27_0 := blk_frozen BK154.out 0
   have hfz27_1 := blk_frozen BK154.out 1
   go_wp2
   go_meet
   case rel => exact ⟨_, ((t160 == 0)), (by first | rfl | (simp; done) | (simp [*]; done)), H', ⟨by first | omega | exact Nat.le_refl _⟩, ⟨by (with_reducible repeat refine vS ?_); refine blk_far ?_ NB153_161.out _; (with_reducible repeat refine vS ?_); refine blk_far ?_ NB153_161.out _; (with_reducible repeat refine vS ?_); exact BK153.out⟩, ⟨by (with_reducible repeat refine vS ?_); refine blk_far ?_ NB154_161.out _; (with_reducible repeat refine vS ?_); refine blk_far ?_ NB154_161.out _; (with_reducible repeat refine vS ?_); exact BK154.out⟩, ⟨by (with_reducible repeat refine vS ?_); refine blk_put (cs := #[.int .i64 t155, .int .i64 0]) ?_ 1 _ rfl; (with_reducible repeat refine vS ?_); refine blk_put (cs := #[.int .i64 0, .int .i64 0]) ?_ 0 _ rfl; (with_reducible repeat refine vS ?_); exact BK161.out⟩, ⟨by repeat (first | (with_reducible first | exact HB.out | apply below_alloc | apply pw_below_drewN | apply below_drew1 | refine below_set ?_ GE153.out | refine below_set ?_ GE154.out | refine below_set ?_ GE161.out) | exact HB.out)⟩⟩
 case rest =>
  clear HC6
  try clear c1
  try clear c2
  try clear p2
  try clear c8
  try clear c17
  try clear c17b0
  try clear c18
  try clear c19
  try clear c21
  try clear c23
  try clear c24
  try clear c26
  try clear hcz20_0
  try clear hcz20_1
  try clear hcz22_0
  try clear hcz22_1
  try clear hcz25_0
  try clear hcz25_1
  try clear hcz27_0
  try clear hcz27_1
  try clear hfz20_0
  try clear hfz20_1
  try clear hfz22_0
  try clear hfz22_1
  try clear hfz25_0
  try clear hfz25_1
  try clear hfz27_0
  try clear hfz27_1
  obtain ⟨kq, x13_5, rfl, HA, HJ5, BK153, BK154, BK161, HB⟩ := hcut
  cases kq with
  | zero => exact absurd HA.out (by simp [bung_fits.j0])
  | succ kj5 =>
   have H := HA.out
   clear HA
   simp only [bung_fits.j0] at H
   by_cases c28 : x13_5 = true
   ·subst c28
    have H1 : (some 0) = some r := by rw [if_pos rfl] at H; exact H
    clear H
    have H := H1
    clear H1
    obtain rfl := Option.some.inj H
    go_wp2
    go_ret
    exact ⟨by first | rfl | (simp [errW_none, errW_some] <;> rfl) | (simp [*, errW_none, errW_some] <;> rfl), by repeat (first | (with_reducible first | exact HB.out | apply below_alloc | apply pw_below_drewN | apply below_drew1 | refine below_set ?_ GE153.out | refine below_set ?_ GE154.out | refine below_set ?_ GE161.out) | exact HB.out)⟩
   ·replace c28 := Bool.eq_false_iff.mpr c28
    subst c28
    have H1 : (if t156 ≤ a1_0 then ((bung_lean.f kj5 a0_0 a0_1 l0_2).bind fun t162 => (if t162 ≤ a1_1 then (if t160 = 1 then (some 1) else (some 2)) else (some 2))) else (some 2)) = some r := by rw [if_neg (show ¬ (false = true) by decide)] at H; exact H
    clear H
    have H := H1
    clear H1
    by_cases c29 : t156 ≤ a1_0
    ·rw [if_pos c29] at H
     have c29b0 : decide (t156 ≤ a1_0) = true := decide_eq_true c29
     clear c29
     replace H := Option.bind_eq_some_iff.mp H
     obtain ⟨t162, A300, H⟩ := H
     replace H : (if t162 ≤ a1_1 then (if t160 = 1 then (some 1) else (some 2)) else (some 2)) = some r := H
     have A30 := pA A300
     clear A300
     by_cases c31 : t162 ≤ a1_1
     ·rw [if_pos c31] at H
      have c31b0 : decide (t162 ≤ a1_1) = true := decide_eq_true c31
      clear c31
      by_cases c32 : t160 = 1
      ·rw [if_pos c32] at H
       have c32b0 : (t160 == 1) = true := beq_iff_eq.mpr c32
       have c32b1 : (t160 != 1) = false := bne_eq_false_iff_eq.mpr c32
       clear c32
       obtain rfl := Option.some.inj H
       try go_wp2
       have n0_ := pA (blk_drew BK153.out)
       have n1_ := pA (blk_drew BK154.out)
       have n2_ := pA (blk_drew BK161.out)
       have n3_ := pA (below_drew1 HB.out)
       clear BK153
       clear BK154
       clear BK161
       clear HB
       have BK153 := n0_
       have BK154 := n1_
       have BK161 := n2_
       have HB := n3_
       clear n0_ n1_ n2_ n3_
       refine start_ (n := 17) (S := fun w' => w'.cell? ⟨gb161, 0, none⟩ = some (.int .i64 t155) ∧ w'.cell? ⟨gb161, 1, none⟩ = some (.int .i64 t156) ∧ w'.cell? ⟨gb154, 0, none⟩ = some (.int .i64 a1_0) ∧ w'.cell? ⟨gb154, 1, none⟩ = some (.int .i64 a1_1) ∧ w'.cell? ⟨gb153, 0, none⟩ = some (.int .i64 a0_0) ∧ w'.cell? ⟨gb153, 1, none⟩ = some (.int .i64 a0_1) ∧ w'.cell? ⟨gb153, 2, none⟩ = some (.slice A0_2 l0_2.length c0_2)) (ds := []) #[false, false, false, false, false, false, false, false, false, false, false, false, false, false, false, false, false] (by kernel_rfl) rfl rfl ⟨(blk_cell BK161.out 0).trans rfl, (blk_cell BK161.out 1).trans rfl, (blk_cell BK154.out 0).trans rfl, (blk_cell BK154.out 1).trans rfl, (blk_cell BK153.out 0).trans rfl, (blk_cell BK153.out 1).trans rfl, (blk_cell BK153.out 2).trans rfl⟩ (fun hHeld => ?_); refine with_tabW bung_fits.tab4 bung_fits.bits4 (fun HT_ HW_ => ?_)
       generalize wc.drew = w33 at BK153 BK154 BK161 HB hHeld ⊢
       refine pure_ (i := 0) (N := some 24) (v := ?_) (a' := ?_) #[true, false, false, false, false, false, false, false, false, false, false, false, false, false, false, false, false] rfl rfl (any_of HT_.out (by kernel_rfl)) (fun _ _ _ h => h) (Or.inl ⟨by rfl, ?_⟩) ?_ ?_
       rotate_left
       ·intro w'
        go_simp
        with_reducible rfl
       rotate_left
       ·simp only [Act.put, pB, pC, pD, i64_w, i32_w]
        rfl
       refine pure_ (i := 2) (N := some 26) (v := ?_) (a' := ?_) #[true, false, true, false, false, false, false, false, false, false, false, false, false, false, false, false, false] rfl rfl (any_of HT_.out (by kernel_rfl)) (fun _ _ _ h => h) (Or.inl ⟨by rfl, ?_⟩) ?_ ?_
       rotate_left
       ·intro w'
        go_simp
        with_reducible rfl
       rotate_left
       ·simp only [Act.put, pB, pC, pD, i64_w, i32_w]
        rfl
       refine take_ (i := 1) (N := some 25) (v := ?_) (a' := ?_) #[true, true, true, false, false, false, false, false, false, false, false, false, false, false, false, false, false] rfl rfl (take_ofW HT_.out HW_.out (by kernel_rfl)) (fun _ _ _ h => h) (Or.inl ⟨by rfl, ?_⟩) hHeld ?_ ?_
       rotate_left
       ·rintro w' ⟨s0, s1, s2, s3, s4, s5, s6⟩
        go_simp
        with_reducible rfl
       rotate_left
       ·simp only [Act.put, pB, pC, pD, i64_w, i32_w]
        rfl
       refine take_ (i := 3) (N := some 27) (v := ?_) (a' := ?_) #[true, true, true, true, false, false, false, false, false, false, false, false, false, false, false, false, false] rfl rfl (take_ofW HT_.out HW_.out (by kernel_rfl)) (fun _ _ _ h => h) (Or.inl ⟨by rfl, ?_⟩) hHeld ?_ ?_
       rotate_left
       ·rintro w' ⟨s0, s1, s2, s3, s4, s5, s6⟩
        go_simp
        with_reducible rfl
       rotate_left
       ·simp only [Act.put, pB, pC, pD, i64_w, i32_w]
        rfl
       refine pure_ (i := 4) (N := some 28) (v := ?_) (a' := ?_) #[true, true, true, true, true, false, false, false, false, false, false, false, false, false, false, false, false] rfl rfl (any_of HT_.out (by kernel_rfl)) (fun _ _ _ h => h) (Or.inl ⟨by rfl, ?_⟩) ?_ ?_
       rotate_left
       ·intro w'
        go_simp
        with_reducible rfl
       rotate_left
       ·simp only [Act.put, pB, pC, pD, i64_w, i32_w]
        rfl
       refine pure_ (i := 5) (N := some 29) (v := ?_) (a' := ?_) #[true, true, true, true, true, true, false, false, false, false, false, false, false, false, false, false, false] rfl rfl (any_of HT_.out (by kernel_rfl)) (fun _ _ _ h => h) (Or.inl ⟨by rfl, ?_⟩) ?_ ?_
       rotate_left
       ·intro w'
        go_simp
        with_reducible rfl
       rotate_left
       ·simp only [Act.put, pB, pC, pD, i64_w, i32_w]
        rfl
       refine pure_ (i := 8) (N := some 32) (v := ?_) (a' := ?_) #[true, true, true, true, true, true, false, false, true, false, false, false, false, false, false, false, false] rfl rfl (any_of HT_.out (by kernel_rfl)) (fun _ _ _ h => h) (Or.inl ⟨by rfl, ?_⟩) ?_ ?_
       rotate_left
       ·intro w'
        go_simp
        with_reducible rfl
       rotate_left
       ·simp only [Act.put, pB, pC, pD, i64_w, i32_w]
        rfl
       refine take_ (i := 6) (N := some 30) (v := ?_) (a' := ?_) #[true, true, true, true, true, true, true, false, true, false, false, false, false, false, false, false, false] rfl rfl (take_ofW HT_.out HW_.out (by kernel_rfl)) (fun _ _ _ h => h) (Or.inl ⟨by rfl, ?_⟩) hHeld ?_ ?_
       rotate_left
       ·rintro w' ⟨s0, s1, s2, s3, s4, s5, s6⟩
        go_simp
        with_reducible rfl
       rotate_left
       ·simp only [Act.put, pB, pC, pD, i64_w, i32_w]
        rfl
       refine take_ (i := 9) (N := some 33) (v := ?_) (a' := ?_) #[true, true, true, true, true, true, true, false, true, true, false, false, false, false, false, false, false] rfl rfl (take_ofW HT_.out HW_.out (by kernel_rfl)) (fun _ _ _ h => h) (Or.inl ⟨by rfl, ?_⟩) hHeld ?_ ?_
       rotate_left
       ·rintro w' ⟨s0, s1, s2, s3, s4, s5, s6⟩
        go_simp
        with_reducible rfl
       rotate_left
       ·simp only [Act.put, pB, pC, pD, i64_w, i32_w]
        rfl
       refine one_ (i := 7) (N := some 31) #[true, true, true, true, true, true, true, true, true, true, false, false, false, false, false, false, false] rfl rfl (one_of HT_.out (by kernel_rfl)) (by decide) (fun K hK => ?_)
       refine goes_ Try.func84 (by kernel_rfl) rfl #[.agg #[.int .i64 a0_0, .int .i64 a0_1, .slice A0_2 l0_2.length c0_2]] (by rfl) rfl rfl (by (try simp only [pE, pF, pG]); first | done | rfl | (simp only [pH, pI]; rfl)) ?_
       with_reducible refine (bung_lean.calls kj5 a0_0 a0_1 _ _ l0_2 t162 _ ?side1 ?side2 A30.out).mono ?_
       (case side1 => repeat (first | exact (Kd.C_below HR0_2.out HB.out) | (with_reducible refine Kd.C_alloc ?_ _) | (with_reducible refine Kd.C_drewN ?_ _) | (with_reducible refine Kd.C_drew ?_)))
       (case side2 => exact HC0_2.out)
       rintro e w34 ⟨rfl, hb⟩
       refine ⟨_, rfl, ?_⟩
       have n0_ := pA (blk_below (g := gb153) (o := .cells #[.int .i64 a0_0, .int .i64 a0_1, .slice A0_2 l0_2.length c0_2] 43 (0, 0)) (vK BK153) hb)
       have n1_ := pA (blk_below (g := gb154) (o := .cells #[.int .i64 a1_0, .int .i64 a1_1] 26 (0, 0)) (vK BK154) hb)
       have n2_ := pA (blk_below (g := gb161) (o := .cells #[.int .i64 t155, .int .i64 t156] 23 (0, 0)) (vK BK161) hb)
       have n3_ := pA (below_step (by repeat (first | (with_reducible first | exact HB.out | apply below_alloc | apply pw_below_drewN | apply below_drew1 | refine below_set ?_ GE153.out | refine below_set ?_ GE154.out | refine below_set ?_ GE161.out) | exact HB.out)) hb)
       clear BK153
       clear BK154
       clear BK161
       clear HB
       have BK153 := n0_
       have BK154 := n1_
       have BK161 := n2_
       have HB := n3_
       clear n0_ n1_ n2_ n3_
       (try clear hb)
       (try clear hb2)
       (try clear hk)
       (try clear hi)
       refine hK.out _ _ ⟨(blk_cell BK161.out 0).trans rfl, (blk_cell BK161.out 1).trans rfl, (blk_cell BK154.out 0).trans rfl, (blk_cell BK154.out 1).trans rfl, (blk_cell BK153.out 0).trans rfl, (blk_cell BK153.out 1).trans rfl, (blk_cell BK153.out 2).trans rfl⟩ (fun hHeld => ?_)
       clear hK K
       refine norm_ (a' := ?_) ?_ ?_
       rotate_left
       ·show Act.put _ (some 31) _ = _
        simp only [Act.put, pB, pC, pD, i64_w, i32_w]
        rfl
       refine pure_ (i := 10) (N := some 34) (v := ?_) (a' := ?_) #[true, true, true, true, true, true, true, true, true, true, true, false, false, false, false, false, false] rfl rfl (any_of HT_.out (by kernel_rfl)) (fun _ _ _ h => h) (Or.inl ⟨by rfl, ?_⟩) ?_ ?_
       rotate_left
       ·intro w'
        go_simp
        with_reducible rfl
       rotate_left
       ·simp only [Act.put, pB, pC, pD, i64_w, i32_w]
        rfl
       refine pure_ (i := 11) (N := some 35) (v := ?_) (a' := ?_) #[true, true, true, true, true, true, true, true, true, true, true, true, false, false, false, false, false] rfl rfl (any_of HT_.out (by kernel_rfl)) (fun _ _ _ h => h) (Or.inl ⟨by rfl, ?_⟩) ?_ ?_
       rotate_left
       ·intro w'
        go_simp
        with_reducible rfl
       rotate_left
       ·simp only [Act.put, pB, pC, pD, i64_w, i32_w]
        rfl
       refine pure_ (i := 12) (N := some 36) (v := ?_) (a' := ?_) #[true, true, true, true, true, true, true, true, true, true, true, true, true, false, false, false, false] rfl rfl (any_of HT_.out (by kernel_rfl)) (fun _ _ _ h => h) (Or.inl ⟨by rfl, ?_⟩) ?_ ?_
       rotate_left
       ·intro w'
        go_simp
        with_reducible rfl
       rotate_left
       ·simp only [Act.put, pB, pC, pD, i64_w, i32_w]
        rfl
       refine pure_ (i := 13) (N := some 37) (v := ?_) (a' := ?_) #[true, true, true, true, true, true, true, true, true, true, true, true, true, true, false, false, false] rfl rfl (any_of HT_.out (by kernel_rfl)) (fun _ _ _ h => h) (Or.inl ⟨by rfl, ?_⟩) ?_ ?_
       rotate_left
       ·intro w'
        go_simp
        with_reducible rfl
       rotate_left
       ·simp only [Act.put, pB, pC, pD, i64_w, i32_w]
        rfl
       refine pure_ (i := 14) (N := some 38) (v := ?_) (a' := ?_) #[true, true, true, true, true, true, true, true, true, true, true, true, true, true, true, false, false] rfl rfl (any_of HT_.out (by kernel_rfl)) (fun _ _ _ h => h) (Or.inl ⟨by rfl, ?_⟩) ?_ ?_
       rotate_left
       ·intro w'
        go_simp
        with_reducible rfl
       rotate_left
       ·simp only [Act.put, pB, pC, pD, i64_w, i32_w]
        rfl
       refine pure_ (i := 15) (N := some 39) (v := ?_) (a' := ?_) #[true, true, true, true, true, true, true, true, true, true, true, true, true, true, true, true, false] rfl rfl (any_of HT_.out (by kernel_rfl)) (fun _ _ _ h => h) (Or.inl ⟨by rfl, ?_⟩) ?_ ?_
       rotate_left
       ·intro w'
        go_simp
        with_reducible rfl
       rotate_left
       ·simp only [Act.put, pB, pC, pD, i64_w, i32_w]
        rfl
       refine pure_ (i := 16) (N := some 23) (v := ?_) (a' := ?_) #[true, true, true, true, true, true, true, true, true, true, true, true, true, true, true, true, true] rfl rfl (any_of HT_.out (by kernel_rfl)) (fun _ _ _ h => h) (Or.inl ⟨by rfl, ?_⟩) ?_ ?_
       rotate_left
       ·intro w'
        go_simp
        with_reducible rfl
       rotate_left
       ·simp only [Act.put, pB, pC, pD, i64_w, i32_w]
        rfl
       refine done_ (done_of HT_.out (by kernel_rfl)) ?_
       try go_wp2
       go_ret
       exact ⟨by first | rfl | (simp [errW_none, errW_some] <;> rfl) | (simp [*, errW_none, errW_some] <;> rfl), by repeat (first | (with_reducible first | exact HB.out | apply below_alloc | apply pw_below_drewN | apply below_drew1 | refine below_set ?_ GE153.out | refine below_set ?_ GE154.out | refine below_set ?_ GE161.out) | exact HB.out)⟩
      ·rw [if_neg c32] at H
       have c32b0 : (t160 == 1) = false := beq_eq_false_iff_ne.mpr c32
       have c32b1 : (t160 != 1) = true := bne_iff_ne.mpr c32
       obtain rfl := Option.some.inj H
       try go_wp2
       have n0_ := pA (blk_drew BK153.out)
       have n1_ := pA (blk_drew BK154.out)
       have n2_ := pA (blk_drew BK161.out)
       have n3_ := pA (below_drew1 HB.out)
       clear BK153
       clear BK154
       clear BK161
       clear HB
       have BK153 := n0_
       have BK154 := n1_
       have BK161 := n2_
       have HB := n3_
       clear n0_ n1_ n2_ n3_
       refine start_ (n := 17) (S := fun w' => w'.cell? ⟨gb161, 0, none⟩ = some (.int .i64 t155) ∧ w'.cell? ⟨gb161, 1, none⟩ = some (.int .i64 t156) ∧ w'.cell? ⟨gb154, 0, none⟩ = some (.int .i64 a1_0) ∧ w'.cell? ⟨gb154, 1, none⟩ = some (.int .i64 a1_1) ∧ w'.cell? ⟨gb153, 0, none⟩ = some (.int .i64 a0_0) ∧ w'.cell? ⟨gb153, 1, none⟩ = some (.int .i64 a0_1) ∧ w'.cell? ⟨gb153, 2, none⟩ = some (.slice A0_2 l0_2.length c0_2)) (ds := []) #[false, false, false, false, false, false, false, false, false, false, false, false, false, false, false, false, false] (by kernel_rfl) rfl rfl ⟨(blk_cell BK161.out 0).trans rfl, (blk_cell BK161.out 1).trans rfl, (blk_cell BK154.out 0).trans rfl, (blk_cell BK154.out 1).trans rfl, (blk_cell BK153.out 0).trans rfl, (blk_cell BK153.out 1).trans rfl, (blk_cell BK153.out 2).trans rfl⟩ (fun hHeld => ?_); refine with_tabW bung_fits.tab4 bung_fits.bits4 (fun HT_ HW_ => ?_)
       generalize wc.drew = w35 at BK153 BK154 BK161 HB hHeld ⊢
       refine pure_ (i := 0) (N := some 24) (v := ?_) (a' := ?_) #[true, false, false, false, false, false, false, false, false, false, false, false, false, false, false, false, false] rfl rfl (any_of HT_.out (by kernel_rfl)) (fun _ _ _ h => h) (Or.inl ⟨by rfl, ?_⟩) ?_ ?_
       rotate_left
       ·intro w'
        go_simp
        with_reducible rfl
       rotate_left
       ·simp only [Act.put, pB, pC, pD, i64_w, i32_w]
        rfl
       refine pure_ (i := 2) (N := some 26) (v := ?_) (a' := ?_) #[true, false, true, false, false, false, false, false, false, false, false, false, false, false, false, false, false] rfl rfl (any_of HT_.out (by kernel_rfl)) (fun _ _ _ h => h) (Or.inl ⟨by rfl, ?_⟩) ?_ ?_
       rotate_left
       ·intro w'
        go_simp
        with_reducible rfl
       rotate_left
       ·simp only [Act.put, pB, pC, pD, i64_w, i32_w]
        rfl
       refine take_ (i := 1) (N := some 25) (v := ?_) (a' := ?_) #[true, true, true, false, false, false, false, false, false, false, false, false, false, false, false, false, false] rfl rfl (take_ofW HT_.out HW_.out (by kernel_rfl)) (fun _ _ _ h => h) (Or.inl ⟨by rfl, ?_⟩) hHeld ?_ ?_
       rotate_left
       ·rintro w' ⟨s0, s1, s2, s3, s4, s5, s6⟩
        go_simp
        with_reducible rfl
       rotate_left
       ·simp only [Act.put, pB, pC, pD, i64_w, i32_w]
        rfl
       refine take_ (i := 3) (N := some 27) (v := ?_) (a' := ?_) #[true, true, true, true, false, false, false, false, false, false, false, false, false, false, false, false, false] rfl rfl (take_ofW HT_.out HW_.out (by kernel_rfl)) (fun _ _ _ h => h) (Or.inl ⟨by rfl, ?_⟩) hHeld ?_ ?_
       rotate_left
       ·rintro w' ⟨s0, s1, s2, s3, s4, s5, s6⟩
        go_simp
        with_reducible rfl
       rotate_left
       ·simp only [Act.put, pB, pC, pD, i64_w, i32_w]
        rfl
       refine pure_ (i := 4) (N := some 28) (v := ?_) (a' := ?_) #[true, true, true, true, true, false, false, false, false, false, false, false, false, false, false, false, false] rfl rfl (any_of HT_.out (by kernel_rfl)) (fun _ _ _ h => h) (Or.inl ⟨by rfl, ?_⟩) ?_ ?_
       rotate_left
       ·intro w'
        go_simp
        with_reducible rfl
       rotate_left
       ·simp only [Act.put, pB, pC, pD, i64_w, i32_w]
        rfl
       refine pure_ (i := 5) (N := some 29) (v := ?_) (a' := ?_) #[true, true, true, true, true, true, false, false, false, false, false, false, false, false, false, false, false] rfl rfl (any_of HT_.out (by kernel_rfl)) (fun _ _ _ h => h) (Or.inl ⟨by rfl, ?_⟩) ?_ ?_
       rotate_left
       ·intro w'
        go_simp
        with_reducible rfl
       rotate_left
       ·simp only [Act.put, pB, pC, pD, i64_w, i32_w]
        rfl
       refine pure_ (i := 8) (N := some 32) (v := ?_) (a' := ?_) #[true, true, true, true, true, true, false, false, true, false, false, false, false, false, false, false, false] rfl rfl (any_of HT_.out (by kernel_rfl)) (fun _ _ _ h => h) (Or.inl ⟨by rfl, ?_⟩) ?_ ?_
       rotate_left
       ·intro w'
        go_simp
        with_reducible rfl
       rotate_left
       ·simp only [Act.put, pB, pC, pD, i64_w, i32_w]
        rfl
       refine take_ (i := 6) (N := some 30) (v := ?_) (a' := ?_) #[true, true, true, true, true, true, true, false, true, false, false, false, false, false, false, false, false] rfl rfl (take_ofW HT_.out HW_.out (by kernel_rfl)) (fun _ _ _ h => h) (Or.inl ⟨by rfl, ?_⟩) hHeld ?_ ?_
       rotate_left
       ·rintro w' ⟨s0, s1, s2, s3, s4, s5, s6⟩
        go_simp
        with_reducible rfl
       rotate_left
       ·simp only [Act.put, pB, pC, pD, i64_w, i32_w]
        rfl
       refine take_ (i := 9) (N := some 33) (v := ?_) (a' := ?_) #[true, true, true, true, true, true, true, false, true, true, false, false, false, false, false, false, false] rfl rfl (take_ofW HT_.out HW_.out (by kernel_rfl)) (fun _ _ _ h => h) (Or.inl ⟨by rfl, ?_⟩) hHeld ?_ ?_
       rotate_left
       ·rintro w' ⟨s0, s1, s2, s3, s4, s5, s6⟩
        go_simp
        with_reducible rfl
       rotate_left
       ·simp only [Act.put, pB, pC, pD, i64_w, i32_w]
        rfl
       refine one_ (i := 7) (N := some 31) #[true, true, true, true, true, true, true, true, true, true, false, false, false, false, false, false, false] rfl rfl (one_of HT_.out (by kernel_rfl)) (by decide) (fun K hK => ?_)
       refine goes_ Try.func84 (by kernel_rfl) rfl #[.agg #[.int .i64 a0_0, .int .i64 a0_1, .slice A0_2 l0_2.length c0_2]] (by rfl) rfl rfl (by (try simp only [pE, pF, pG]); first | done | rfl | (simp only [pH, pI]; rfl)) ?_
       with_reducible refine (bung_lean.calls kj5 a0_0 a0_1 _ _ l0_2 t162 _ ?side1 ?side2 A30.out).mono ?_
       (case side1 => repeat (first | exact (Kd.C_below HR0_2.out HB.out) | (with_reducible refine Kd.C_alloc ?_ _) | (with_reducible refine Kd.C_drewN ?_ _) | (with_reducible refine Kd.C_drew ?_)))
       (case side2 => exact HC0_2.out)
       rintro e w36 ⟨rfl, hb⟩
       refine ⟨_, rfl, ?_⟩
       have n0_ := pA (blk_below (g := gb153) (o := .cells #[.int .i64 a0_0, .int .i64 a0_1, .slice A0_2 l0_2.length c0_2] 43 (0, 0)) (vK BK153) hb)
       have n1_ := pA (blk_below (g := gb154) (o := .cells #[.int .i64 a1_0, .int .i64 a1_1] 26 (0, 0)) (vK BK154) hb)
       have n2_ := pA (blk_below (g := gb161) (o := .cells #[.int .i64 t155, .int .i64 t156] 23 (0, 0)) (vK BK161) hb)
       have n3_ := pA (below_step (by repeat (first | (with_reducible first | exact HB.out | apply below_alloc | apply pw_below_drewN | apply below_drew1 | refine below_set ?_ GE153.out | refine below_set ?_ GE154.out | refine below_set ?_ GE161.out) | exact HB.out)) hb)
       clear BK153
       clear BK154
       clear BK161
       clear HB
       have BK153 := n0_
       have BK154 := n1_
       have BK161 := n2_
       have HB := n3_
       clear n0_ n1_ n2_ n3_
       (try clear hb)
       (try clear hb2)
       (try clear hk)
       (try clear hi)
       refine hK.out _ _ ⟨(blk_cell BK161.out 0).trans rfl, (blk_cell BK161.out 1).trans rfl, (blk_cell BK154.out 0).trans rfl, (blk_cell BK154.out 1).trans rfl, (blk_cell BK153.out 0).trans rfl, (blk_cell BK153.out 1).trans rfl, (blk_cell BK153.out 2).trans rfl⟩ (fun hHeld => ?_)
       clear hK K
       refine norm_ (a' := ?_) ?_ ?_
       rotate_left
       ·show Act.put _ (some 31) _ = _
        simp only [Act.put, pB, pC, pD, i64_w, i32_w]
        rfl
       refine pure_ (i := 10) (N := some 34) (v := ?_) (a' := ?_) #[true, true, true, true, true, true, true, true, true, true, true, false, false, false, false, false, false] rfl rfl (any_of HT_.out (by kernel_rfl)) (fun _ _ _ h => h) (Or.inl ⟨by rfl, ?_⟩) ?_ ?_
       rotate_left
       ·intro w'
        go_simp
        with_reducible rfl
       rotate_left
       ·simp only [Act.put, pB, pC, pD, i64_w, i32_w]
        rfl
       refine pure_ (i := 11) (N := some 35) (v := ?_) (a' := ?_) #[true, true, true, true, true, true, true, true, true, true, true, true, false, false, false, false, false] rfl rfl (any_of HT_.out (by kernel_rfl)) (fun _ _ _ h => h) (Or.inl ⟨by rfl, ?_⟩) ?_ ?_
       rotate_left
       ·intro w'
        go_simp
        with_reducible rfl
       rotate_left
       ·simp only [Act.put, pB, pC, pD, i64_w, i32_w]
        rfl
       refine pure_ (i := 12) (N := some 36) (v := ?_) (a' := ?_) #[true, true, true, true, true, true, true, true, true, true, true, true, true, false, false, false, false] rfl rfl (any_of HT_.out (by kernel_rfl)) (fun _ _ _ h => h) (Or.inl ⟨by rfl, ?_⟩) ?_ ?_
       rotate_left
       ·intro w'
        go_simp
        with_reducible rfl
       rotate_left
       ·simp only [Act.put, pB, pC, pD, i64_w, i32_w]
        rfl
       refine pure_ (i := 13) (N := some 37) (v := ?_) (a' := ?_) #[true, true, true, true, true, true, true, true, true, true, true, true, true, true, false, false, false] rfl rfl (any_of HT_.out (by kernel_rfl)) (fun _ _ _ h => h) (Or.inl ⟨by rfl, ?_⟩) ?_ ?_
       rotate_left
       ·intro w'
        go_simp
        with_reducible rfl
       rotate_left
       ·simp only [Act.put, pB, pC, pD, i64_w, i32_w]
        rfl
       refine pure_ (i := 14) (N := some 38) (v := ?_) (a' := ?_) #[true, true, true, true, true, true, true, true, true, true, true, true, true, true, true, false, false] rfl rfl (any_of HT_.out (by kernel_rfl)) (fun _ _ _ h => h) (Or.inl ⟨by rfl, ?_⟩) ?_ ?_
       rotate_left
       ·intro w'
        go_simp
        with_reducible rfl
       rotate_left
       ·simp only [Act.put, pB, pC, pD, i64_w, i32_w]
        rfl
       refine pure_ (i := 15) (N := some 39) (v := ?_) (a' := ?_) #[true, true, true, true, true, true, true, true, true, true, true, true, true, true, true, true, false] rfl rfl (any_of HT_.out (by kernel_rfl)) (fun _ _ _ h => h) (Or.inl ⟨by rfl, ?_⟩) ?_ ?_
       rotate_left
       ·intro w'
        go_simp
        with_reducible rfl
       rotate_left
       ·simp only [Act.put, pB, pC, pD, i64_w, i32_w]
        rfl
       refine pure_ (i := 16) (N := some 23) (v := ?_) (a' := ?_) #[true, true, true, true, true, true, true, true, true, true, true, true, true, true, true, true, true] rfl rfl (any_of HT_.out (by kernel_rfl)) (fun _ _ _ h => h) (Or.inl ⟨by rfl, ?_⟩) ?_ ?_
       rotate_left
       ·intro w'
        go_simp
        with_reducible rfl
       rotate_left
       ·simp only [Act.put, pB, pC, pD, i64_w, i32_w]
        rfl
       refine done_ (done_of HT_.out (by kernel_rfl)) ?_
       try go_wp2
       go_ret
       exact ⟨by first | rfl | (simp [errW_none, errW_some] <;> rfl) | (simp [*, errW_none, errW_some] <;> rfl), by repeat (first | (with_reducible first | exact HB.out | apply below_alloc | apply pw_below_drewN | apply below_drew1 | refine below_set ?_ GE153.out | refine below_set ?_ GE154.out | refine below_set ?_ GE161.out) | exact HB.out)⟩
     ·rw [if_neg c31] at H
      have c31b0 : decide (t162 ≤ a1_1) = false := decide_eq_false c31
      clear c31
      obtain rfl := Option.some.inj H
      try go_wp2
      have n0_ := pA (blk_drew BK153.out)
      have n1_ := pA (blk_drew BK154.out)
      have n2_ := pA (blk_drew BK161.out)
      have n3_ := pA (below_drew1 HB.out)
      clear BK153
      clear BK154
      clear BK161
      clear HB
      have BK153 := n0_
      have BK154 := n1_
      have BK161 := n2_
      have HB := n3_
      clear n0_ n1_ n2_ n3_
      refine start_ (n := 17) (S := fun w' => w'.cell? ⟨gb161, 0, none⟩ = some (.int .i64 t155) ∧ w'.cell? ⟨gb161, 1, none⟩ = some (.int .i64 t156) ∧ w'.cell? ⟨gb154, 0, none⟩ = some (.int .i64 a1_0) ∧ w'.cell? ⟨gb154, 1, none⟩ = some (.int .i64 a1_1) ∧ w'.cell? ⟨gb153, 0, none⟩ = some (.int .i64 a0_0) ∧ w'.cell? ⟨gb153, 1, none⟩ = some (.int .i64 a0_1) ∧ w'.cell? ⟨gb153, 2, none⟩ = some (.slice A0_2 l0_2.length c0_2)) (ds := []) #[false, false, false, false, false, false, false, false, false, false, false, false, false, false, false, false, false] (by kernel_rfl) rfl rfl ⟨(blk_cell BK161.out 0).trans rfl, (blk_cell BK161.out 1).trans rfl, (blk_cell BK154.out 0).trans rfl, (blk_cell BK154.out 1).trans rfl, (blk_cell BK153.out 0).trans rfl, (blk_cell BK153.out 1).trans rfl, (blk_cell BK153.out 2).trans rfl⟩ (fun hHeld => ?_); refine with_tabW bung_fits.tab4 bung_fits.bits4 (fun HT_ HW_ => ?_)
      generalize wc.drew = w37 at BK153 BK154 BK161 HB hHeld ⊢
      refine pure_ (i := 0) (N := some 24) (v := ?_) (a' := ?_) #[true, false, false, false, false, false, false, false, false, false, false, false, false, false, false, false, false] rfl rfl (any_of HT_.out (by kernel_rfl)) (fun _ _ _ h => h) (Or.inl ⟨by rfl, ?_⟩) ?_ ?_
      rotate_left
      ·intro w'
       go_simp
       with_reducible rfl
      rotate_left
      ·simp only [Act.put, pB, pC, pD, i64_w, i32_w]
       rfl
      refine pure_ (i := 2) (N := some 26) (v := ?_) (a' := ?_) #[true, false, true, false, false, false, false, false, false, false, false, false, false, false, false, false, false] rfl rfl (any_of HT_.out (by kernel_rfl)) (fun _ _ _ h => h) (Or.inl ⟨by rfl, ?_⟩) ?_ ?_
      rotate_left
      ·intro w'
       go_simp
       with_reducible rfl
      rotate_left
      ·simp only [Act.put, pB, pC, pD, i64_w, i32_w]
       rfl
      refine take_ (i := 1) (N := some 25) (v := ?_) (a' := ?_) #[true, true, true, false, false, false, false, false, false, false, false, false, false, false, false, false, false] rfl rfl (take_ofW HT_.out HW_.out (by kernel_rfl)) (fun _ _ _ h => h) (Or.inl ⟨by rfl, ?_⟩) hHeld ?_ ?_
      rotate_left
      ·rintro w' ⟨s0, s1, s2, s3, s4, s5, s6⟩
       go_simp
       with_reducible rfl
      rotate_left
      ·simp only [Act.put, pB, pC, pD, i64_w, i32_w]
       rfl
      refine take_ (i := 3) (N := some 27) (v := ?_) (a' := ?_) #[true, true, true, true, false, false, false, false, false, false, false, false, false, false, false, false, false] rfl rfl (take_ofW HT_.out HW_.out (by kernel_rfl)) (fun _ _ _ h => h) (Or.inl ⟨by rfl, ?_⟩) hHeld ?_ ?_
      rotate_left
      ·rintro w' ⟨s0, s1, s2, s3, s4, s5, s6⟩
       go_simp
       with_reducible rfl
      rotate_left
      ·simp only [Act.put, pB, pC, pD, i64_w, i32_w]
       rfl
      refine pure_ (i := 4) (N := some 28) (v := ?_) (a' := ?_) #[true, true, true, true, true, false, false, false, false, false, false, false, false, false, false, false, false] rfl rfl (any_of HT_.out (by kernel_rfl)) (fun _ _ _ h => h) (Or.inl ⟨by rfl, ?_⟩) ?_ ?_
      rotate_left
      ·intro w'
       go_simp
       with_reducible rfl
      rotate_left
      ·simp only [Act.put, pB, pC, pD, i64_w, i32_w]
       rfl
      refine pure_ (i := 5) (N := some 29) (v := ?_) (a' := ?_) #[true, true, true, true, true, true, false, false, false, false, false, false, false, false, false, false, false] rfl rfl (any_of HT_.out (by kernel_rfl)) (fun _ _ _ h => h) (Or.inl ⟨by rfl, ?_⟩) ?_ ?_
      rotate_left
      ·intro w'
       go_simp
       with_reducible rfl
      rotate_left
      ·simp only [Act.put, pB, pC, pD, i64_w, i32_w]
       rfl
      refine pure_ (i := 8) (N := some 32) (v := ?_) (a' := ?_) #[true, true, true, true, true, true, false, false, true, false, false, false, false, false, false, false, false] rfl rfl (any_of HT_.out (by kernel_rfl)) (fun _ _ _ h => h) (Or.inl ⟨by rfl, ?_⟩) ?_ ?_
      rotate_left
      ·intro w'
       go_simp
       with_reducible rfl
      rotate_left
      ·simp only [Act.put, pB, pC, pD, i64_w, i32_w]
       rfl
      refine take_ (i := 6) (N := some 30) (v := ?_) (a' := ?_) #[true, true, true, true, true, true, true, false, true, false, false, false, false, false, false, false, false] rfl rfl (take_ofW HT_.out HW_.out (by kernel_rfl)) (fun _ _ _ h => h) (Or.inl ⟨by rfl, ?_⟩) hHeld ?_ ?_
      rotate_left
      ·rintro w' ⟨s0, s1, s2, s3, s4, s5, s6⟩
       go_simp
       with_reducible rfl
      rotate_left
      ·simp only [Act.put, pB, pC, pD, i64_w, i32_w]
       rfl
      refine take_ (i := 9) (N := some 33) (v := ?_) (a' := ?_) #[true, true, true, true, true, true, true, false, true, true, false, false, false, false, false, false, false] rfl rfl (take_ofW HT_.out HW_.out (by kernel_rfl)) (fun _ _ _ h => h) (Or.inl ⟨by rfl, ?_⟩) hHeld ?_ ?_
      rotate_left
      ·rintro w' ⟨s0, s1, s2, s3, s4, s5, s6⟩
       go_simp
       with_reducible rfl
      rotate_left
      ·simp only [Act.put, pB, pC, pD, i64_w, i32_w]
       rfl
      refine one_ (i := 7) (N := some 31) #[true, true, true, true, true, true, true, true, true, true, false, false, false, false, false, false, false] rfl rfl (one_of HT_.out (by kernel_rfl)) (by decide) (fun K hK => ?_)
      refine goes_ Try.func84 (by kernel_rfl) rfl #[.agg #[.int .i64 a0_0, .int .i64 a0_1, .slice A0_2 l0_2.length c0_2]] (by rfl) rfl rfl (by (try simp only [pE, pF, pG]); first | done | rfl | (simp only [pH, pI]; rfl)) ?_
      with_reducible refine (bung_lean.calls kj5 a0_0 a0_1 _ _ l0_2 t162 _ ?side1 ?side2 A30.out).mono ?_
      (case side1 => repeat (first | exact (Kd.C_below HR0_2.out HB.out) | (with_reducible refine Kd.C_alloc ?_ _) | (with_reducible refine Kd.C_drewN ?_ _) | (with_reducible refine Kd.C_drew ?_)))
      (case side2 => exact HC0_2.out)
      rintro e w38 ⟨rfl, hb⟩
      refine ⟨_, rfl, ?_⟩
      have n0_ := pA (blk_below (g := gb153) (o := .cells #[.int .i64 a0_0, .int .i64 a0_1, .slice A0_2 l0_2.length c0_2] 43 (0, 0)) (vK BK153) hb)
      have n1_ := pA (blk_below (g := gb154) (o := .cells #[.int .i64 a1_0, .int .i64 a1_1] 26 (0, 0)) (vK BK154) hb)
      have n2_ := pA (blk_below (g := gb161) (o := .cells #[.int .i64 t155, .int .i64 t156] 23 (0, 0)) (vK BK161) hb)
      have n3_ := pA (below_step (by repeat (first | (with_reducible first | exact HB.out | apply below_alloc | apply pw_below_drewN | apply below_drew1 | refine below_set ?_ GE153.out | refine below_set ?_ GE154.out | refine below_set ?_ GE161.out) | exact HB.out)) hb)
      clear BK153
      clear BK154
      clear BK161
      clear HB
      have BK153 := n0_
      have BK154 := n1_
      have BK161 := n2_
      have HB := n3_
      clear n0_ n1_ n2_ n3_
      (try clear hb)
      (try clear hb2)
      (try clear hk)
      (try clear hi)
      refine hK.out _ _ ⟨(blk_cell BK161.out 0).trans rfl, (blk_cell BK161.out 1).trans rfl, (blk_cell BK154.out 0).trans rfl, (blk_cell BK154.out 1).trans rfl, (blk_cell BK153.out 0).trans rfl, (blk_cell BK153.out 1).trans rfl, (blk_cell BK153.out 2).trans rfl⟩ (fun hHeld => ?_)
      clear hK K
      refine norm_ (a' := ?_) ?_ ?_
      rotate_left
      ·show Act.put _ (some 31) _ = _
       simp only [Act.put, pB, pC, pD, i64_w, i32_w]
       rfl
      refine pure_ (i := 10) (N := some 34) (v := ?_) (a' := ?_) #[true, true, true, true, true, true, true, true, true, true, true, false, false, false, false, false, false] rfl rfl (any_of HT_.out (by kernel_rfl)) (fun _ _ _ h => h) (Or.inl ⟨by rfl, ?_⟩) ?_ ?_
      rotate_left
      ·intro w'
       go_simp
       with_reducible rfl
      rotate_left
      ·simp only [Act.put, pB, pC, pD, i64_w, i32_w]
       rfl
      refine pure_ (i := 11) (N := some 35) (v := ?_) (a' := ?_) #[true, true, true, true, true, true, true, true, true, true, true, true, false, false, false, false, false] rfl rfl (any_of HT_.out (by kernel_rfl)) (fun _ _ _ h => h) (Or.inl ⟨by rfl, ?_⟩) ?_ ?_
      rotate_left
      ·intro w'
       go_simp
       with_reducible rfl
      rotate_left
      ·simp only [Act.put, pB, pC, pD, i64_w, i32_w]
       rfl
      refine pure_ (i := 12) (N := some 36) (v := ?_) (a' := ?_) #[true, true, true, true, true, true, true, true, true, true, true, true, true, false, false, false, false] rfl rfl (any_of HT_.out (by kernel_rfl)) (fun _ _ _ h => h) (Or.inl ⟨by rfl, ?_⟩) ?_ ?_
      rotate_left
      ·intro w'
       go_simp
       with_reducible rfl
      rotate_left
      ·simp only [Act.put, pB, pC, pD, i64_w, i32_w]
       rfl
      refine pure_ (i := 13) (N := some 37) (v := undef) (a' := ?_) #[true, true, true, true, true, true, true, true, true, true, true, true, true, true, false, false, false] rfl rfl (any_of HT_.out (by kernel_rfl)) (fun _ _ _ h => h) (Or.inr ⟨by rfl, rfl⟩) ?_ ?_
      rotate_left
      ·simp only [Act.put, pB, pC, pD, i64_w, i32_w]
       rfl
      refine pure_ (i := 14) (N := some 38) (v := undef) (a' := ?_) #[true, true, true, true, true, true, true, true, true, true, true, true, true, true, true, false, false] rfl rfl (any_of HT_.out (by kernel_rfl)) (fun _ _ _ h => h) (Or.inr ⟨by rfl, rfl⟩) ?_ ?_
      rotate_left
      ·simp only [Act.put, pB, pC, pD, i64_w, i32_w]
       rfl
      refine pure_ (i := 15) (N := some 39) (v := ?_) (a' := ?_) #[true, true, true, true, true, true, true, true, true, true, true, true, true, true, true, true, false] rfl rfl (any_of HT_.out (by kernel_rfl)) (fun _ _ _ h => h) (Or.inl ⟨by rfl, ?_⟩) ?_ ?_
      rotate_left
      ·intro w'
       go_simp
       with_reducible rfl
      rotate_left
      ·simp only [Act.put, pB, pC, pD, i64_w, i32_w]
       rfl
      refine pure_ (i := 16) (N := some 23) (v := ?_) (a' := ?_) #[true, true, true, true, true, true, true, true, true, true, true, true, true, true, true, true, true] rfl rfl (any_of HT_.out (by kernel_rfl)) (fun _ _ _ h => h) (Or.inl ⟨by rfl, ?_⟩) ?_ ?_
      rotate_left
      ·intro w'
       go_simp
       with_reducible rfl
      rotate_left
      ·simp only [Act.put, pB, pC, pD, i64_w, i32_w]
       rfl
      refine done_ (done_of HT_.out (by kernel_rfl)) ?_
      try go_wp2
      go_ret
      exact ⟨by first | rfl | (simp [errW_none, errW_some] <;> rfl) | (simp [*, errW_none, errW_some] <;> rfl), by repeat (first | (with_reducible first | exact HB.out | apply below_alloc | apply pw_below_drewN | apply below_drew1 | refine below_set ?_ GE153.out | refine below_set ?_ GE154.out | refine below_set ?_ GE161.out) | exact HB.out)⟩
    ·rw [if_neg c29] at H
     have c29b0 : decide (t156 ≤ a1_0) = false := decide_eq_false c29
     clear c29
     obtain rfl := Option.some.inj H
     try go_wp2
     have n0_ := pA (blk_drew BK153.out)
     have n1_ := pA (blk_drew BK154.out)
     have n2_ := pA (blk_drew BK161.out)
     have n3_ := pA (below_drew1 HB.out)
     clear BK153
     clear BK154
     clear BK161
     clear HB
     have BK153 := n0_
     have BK154 := n1_
     have BK161 := n2_
     have HB := n3_
     clear n0_ n1_ n2_ n3_
     refine start_ (n := 17) (S := fun w' => w'.cell? ⟨gb161, 0, none⟩ = some (.int .i64 t155) ∧ w'.cell? ⟨gb161, 1, none⟩ = some (.int .i64 t156) ∧ w'.cell? ⟨gb154, 0, none⟩ = some (.int .i64 a1_0) ∧ w'.cell? ⟨gb154, 1, none⟩ = some (.int .i64 a1_1)) (ds := []) #[false, false, false, false, false, false, false, false, false, false, false, false, false, false, false, false, false] (by kernel_rfl) rfl rfl ⟨(blk_cell BK161.out 0).trans rfl, (blk_cell BK161.out 1).trans rfl, (blk_cell BK154.out 0).trans rfl, (blk_cell BK154.out 1).trans rfl⟩ (fun hHeld => ?_); refine with_tabW bung_fits.tab4 bung_fits.bits4 (fun HT_ HW_ => ?_)
     generalize wc.drew = w39 at BK153 BK154 BK161 HB hHeld ⊢
     refine pure_ (i := 0) (N := some 24) (v := ?_) (a' := ?_) #[true, false, false, false, false, false, false, false, false, false, false, false, false, false, false, false, false] rfl rfl (any_of HT_.out (by kernel_rfl)) (fun _ _ _ h => h) (Or.inl ⟨by rfl, ?_⟩) ?_ ?_
     rotate_left
     ·intro w'
      go_simp
      with_reducible rfl
     rotate_left
     ·simp only [Act.put, pB, pC, pD, i64_w, i32_w]
      rfl
     refine pure_ (i := 2) (N := some 26) (v := ?_) (a' := ?_) #[true, false, true, false, false, false, false, false, false, false, false, false, false, false, false, false, false] rfl rfl (any_of HT_.out (by kernel_rfl)) (fun _ _ _ h => h) (Or.inl ⟨by rfl, ?_⟩) ?_ ?_
     rotate_left
     ·intro w'
      go_simp
      with_reducible rfl
     rotate_left
     ·simp only [Act.put, pB, pC, pD, i64_w, i32_w]
      rfl
     refine take_ (i := 1) (N := some 25) (v := ?_) (a' := ?_) #[true, true, true, false, false, false, false, false, false, false, false, false, false, false, false, false, false] rfl rfl (take_ofW HT_.out HW_.out (by kernel_rfl)) (fun _ _ _ h => h) (Or.inl ⟨by rfl, ?_⟩) hHeld ?_ ?_
     rotate_left
     ·rintro w' ⟨s0, s1, s2, s3⟩
      go_simp
      with_reducible rfl
     rotate_left
     ·simp only [Act.put, pB, pC, pD, i64_w, i32_w]
      rfl
     refine take_ (i := 3) (N := some 27) (v := ?_) (a' := ?_) #[true, true, true, true, false, false, false, false, false, false, false, false, false, false, false, false, false] rfl rfl (take_ofW HT_.out HW_.out (by kernel_rfl)) (fun _ _ _ h => h) (Or.inl ⟨by rfl, ?_⟩) hHeld ?_ ?_
     rotate_left
     ·rintro w' ⟨s0, s1, s2, s3⟩
      go_simp
      with_reducible rfl
     rotate_left
     ·simp only [Act.put, pB, pC, pD, i64_w, i32_w]
      rfl
     refine pure_ (i := 4) (N := some 28) (v := ?_) (a' := ?_) #[true, true, true, true, true, false, false, false, false, false, false, false, false, false, false, false, false] rfl rfl (any_of HT_.out (by kernel_rfl)) (fun _ _ _ h => h) (Or.inl ⟨by rfl, ?_⟩) ?_ ?_
     rotate_left
     ·intro w'
      go_simp
      with_reducible rfl
     rotate_left
     ·simp only [Act.put, pB, pC, pD, i64_w, i32_w]
      rfl
     refine pure_ (i := 5) (N := some 29) (v := ?_) (a' := ?_) #[true, true, true, true, true, true, false, false, false, false, false, false, false, false, false, false, false] rfl rfl (any_of HT_.out (by kernel_rfl)) (fun _ _ _ h => h) (Or.inl ⟨by rfl, ?_⟩) ?_ ?_
     rotate_left
     ·intro w'
      go_simp
      with_reducible rfl
     rotate_left
     ·simp only [Act.put, pB, pC, pD, i64_w, i32_w]
      rfl
     refine pure_ (i := 6) (N := some 30) (v := undef) (a' := ?_) #[true, true, true, true, true, true, true, false, false, false, false, false, false, false, false, false, false] rfl rfl (any_of HT_.out (by kernel_rfl)) (fun _ _ _ h => h) (Or.inr ⟨by rfl, rfl⟩) ?_ ?_
     rotate_left
     ·simp only [Act.put, pB, pC, pD, i64_w, i32_w]
      rfl
     refine pure_ (i := 7) (N := some 31) (v := undef) (a' := ?_) #[true, true, true, true, true, true, true, true, false, false, false, false, false, false, false, false, false] rfl rfl (any_of HT_.out (by kernel_rfl)) (fun _ _ _ h => h) (Or.inr ⟨by rfl, rfl⟩) ?_ ?_
     rotate_left
     ·simp only [Act.put, pB, pC, pD, i64_w, i32_w]
      rfl
     refine pure_ (i := 8) (N := some 32) (v := undef) (a' := ?_) #[true, true, true, true, true, true, true, true, true, false, false, false, false, false, false, false, false] rfl rfl (any_of HT_.out (by kernel_rfl)) (fun _ _ _ h => h) (Or.inr ⟨by rfl, rfl⟩) ?_ ?_
     rotate_left
     ·simp only [Act.put, pB, pC, pD, i64_w, i32_w]
      rfl
     refine pure_ (i := 9) (N := some 33) (v := undef) (a' := ?_) #[true, true, true, true, true, true, true, true, true, true, false, false, false, false, false, false, false] rfl rfl (any_of HT_.out (by kernel_rfl)) (fun _ _ _ h => h) (Or.inr ⟨by rfl, rfl⟩) ?_ ?_
     rotate_left
     ·simp only [Act.put, pB, pC, pD, i64_w, i32_w]
      rfl
     refine pure_ (i := 10) (N := some 34) (v := undef) (a' := ?_) #[true, true, true, true, true, true, true, true, true, true, true, false, false, false, false, false, false] rfl rfl (any_of HT_.out (by kernel_rfl)) (fun _ _ _ h => h) (Or.inr ⟨by rfl, rfl⟩) ?_ ?_
     rotate_left
     ·simp only [Act.put, pB, pC, pD, i64_w, i32_w]
      rfl
     refine pure_ (i := 11) (N := some 35) (v := ?_) (a' := ?_) #[true, true, true, true, true, true, true, true, true, true, true, true, false, false, false, false, false] rfl rfl (any_of HT_.out (by kernel_rfl)) (fun _ _ _ h => h) (Or.inl ⟨by rfl, ?_⟩) ?_ ?_
     rotate_left
     ·intro w'
      go_simp
      with_reducible rfl
     rotate_left
     ·simp only [Act.put, pB, pC, pD, i64_w, i32_w]
      rfl
     refine pure_ (i := 12) (N := some 36) (v := ?_) (a' := ?_) #[true, true, true, true, true, true, true, true, true, true, true, true, true, false, false, false, false] rfl rfl (any_of HT_.out (by kernel_rfl)) (fun _ _ _ h => h) (Or.inl ⟨by rfl, ?_⟩) ?_ ?_
     rotate_left
     ·intro w'
      go_simp
      with_reducible rfl
     rotate_left
     ·simp only [Act.put, pB, pC, pD, i64_w, i32_w]
      rfl
     refine pure_ (i := 13) (N := some 37) (v := undef) (a' := ?_) #[true, true, true, true, true, true, true, true, true, true, true, true, true, true, false, false, false] rfl rfl (any_of HT_.out (by kernel_rfl)) (fun _ _ _ h => h) (Or.inr ⟨by rfl, rfl⟩) ?_ ?_
     rotate_left
     ·simp only [Act.put, pB, pC, pD, i64_w, i32_w]
      rfl
     refine pure_ (i := 14) (N := some 38) (v := undef) (a' := ?_) #[true, true, true, true, true, true, true, true, true, true, true, true, true, true, true, false, false] rfl rfl (any_of HT_.out (by kernel_rfl)) (fun _ _ _ h => h) (Or.inr ⟨by rfl, rfl⟩) ?_ ?_
     rotate_left
     ·simp only [Act.put, pB, pC, pD, i64_w, i32_w]
      rfl
     refine pure_ (i := 15) (N := some 39) (v := ?_) (a' := ?_) #[true, true, true, true, true, true, true, true, true, true, true, true, true, true, true, true, false] rfl rfl (any_of HT_.out (by kernel_rfl)) (fun _ _ _ h => h) (Or.inl ⟨by rfl, ?_⟩) ?_ ?_
     rotate_left
     ·intro w'
      go_simp
      with_reducible rfl
     rotate_left
     ·simp only [Act.put, pB, pC, pD, i64_w, i32_w]
      rfl
     refine pure_ (i := 16) (N := some 23) (v := ?_) (a' := ?_) #[true, true, true, true, true, true, true, true, true, true, true, true, true, true, true, true, true] rfl rfl (any_of HT_.out (by kernel_rfl)) (fun _ _ _ h => h) (Or.inl ⟨by rfl, ?_⟩) ?_ ?_
     rotate_left
     ·intro w'
      go_simp
      with_reducible rfl
     rotate_left
     ·simp only [Act.put, pB, pC, pD, i64_w, i32_w]
      rfl
     refine done_ (done_of HT_.out (by kernel_rfl)) ?_
     try go_wp2
     go_ret
     exact ⟨by first | rfl | (simp [errW_none, errW_some] <;> rfl) | (simp [*, errW_none, errW_some] <;> rfl), by repeat (first | (with_reducible first | exact HB.out | apply below_alloc | apply pw_below_drewN | apply below_drew1 | refine below_set ?_ GE153.out | refine below_set ?_ GE154.out | refine below_set ?_ GE161.out) | exact HB.out)⟩
def bung_stands.f (k : Nat) (l0 : List (S52)) : Option (Bool) := (bung_courses.f k l0).bind fun t163 => ((bung_all.f k t163).bind fun t166 => (some (t166 == 1)))
theorem bung_stands.mono : ∀ a0 k, LeO (bung_stands.f k a0) (bung_stands.f (k + 1) a0) := by
 intro a0 k
 unfold bung_stands.f
 repeat' first
   | (with_reducible exact bung_all.mono _ _)
   | (with_reducible exact bung_courses.mono _ _)
   | (with_reducible exact LeO.refl _)
   | (with_reducible exact LeO.none _)
   | (with_reducible refine LeO.ite ?_ ?_)
   | (with_reducible refine LeO.bind ?_ (fun _ => ?_))
   | exact bung_all.mono _ _
   | exact bung_courses.mono _ _
   | exact LeO.none _
   | refine LeO.ite ?_ ?_
   | refine LeO.bind ?_ (fun _ => ?_)
set_option maxHeartbeats 8000000 in
set_option maxRecDepth 100000 in
theorem bung_stands.calls (k : Nat) (A0 : Option Addr) (c0 : Nat) (l0 : List (S52)) (r : Bool) (w : World) (hr0 : Kd.C k52 w A0 l0.length l0) (hc0 : l0.length ≤ c0) (h : bung_stands.f k l0 = some r) :
  Calls Try.prog 138 #[.slice A0 l0.length c0] w fun e w' => e = .returned (.bool r) ∧ Below w.heap.size w w' := by
 have HR0 := pA hr0
 have HC0 := pA hc0
 clear hr0 hc0
 have HB := pA (Below.refl w.heap.size w)
 have H : ((bung_courses.f k l0).bind fun t163 => ((bung_all.f k t163).bind fun t166 => (some (t166 == 1)))) = some r := h
 clear h
 replace H := Option.bind_eq_some_iff.mp H
 obtain ⟨t163, A20, H⟩ := H
 replace H : ((bung_all.f k t163).bind fun t166 => (some (t166 == 1))) = some r := H
 have A2 := pA A20
 clear A20
 replace H := Option.bind_eq_some_iff.mp H
 obtain ⟨t166, A30, H⟩ := H
 replace H : (some (t166 == 1)) = some r := H
 have A3 := pA A30
 clear A30
 obtain rfl := Option.some.inj H
 go_enter Try.func138, Try.ntmps138
 go_wp2_with (first | ((with_reducible refine aF (f := 82) rfl ?_); refine goesL_ (some 4) rfl rfl Try.func82 (by kernel_rfl) rfl #[.slice A0 l0.length c0] rfl (by (try simp only [pE, pF, pG]); first | done | rfl | (simp only [pH, pI]; rfl)) ?_; (with_reducible refine (bung_courses.calls k _ _ l0 t163 _ ?side1 ?side2 A2.out).mono ?_); (case side1 => repeat (first | exact HR0.out | (with_reducible refine Kd.C_alloc ?_ _) | (with_reducible refine Kd.C_drewN ?_ _) | (with_reducible refine Kd.C_drew ?_))); (case side2 => exact HC0.out); rintro e w4 ⟨v164, rfl, ho0, hb⟩; refine ⟨_, rfl, ?_⟩; have n0_ := pA (Kd.R_lower ho0 (below_size (vB HB))); have n1_ := pA (below_step (vB HB) hb); clear HB; have HO165 := n0_; have HB := n1_; clear n0_ n1_; (try clear hb); (try clear hb2); (try clear hk); (try clear hi); (try clear ho0); obtain ⟨Ao5, co5, eo5⟩ := Kd.R_slice HO165.out; subst eo5) | ((with_reducible refine aF (f := 81) rfl ?_); refine goesL_ (some 5) rfl rfl Try.func81 (by kernel_rfl) rfl #[.slice Ao5 t163.length co5] rfl (by (try simp only [pE, pF, pG]); first | done | rfl | (simp only [pH, pI]; rfl)) ?_; (with_reducible refine (bung_all.calls k _ _ t163 t166 _ ?side1 ?side2 A3.out).mono ?_); (case side1 => repeat (first | exact (Kd.R_reads' HO165.out).2.2 | (with_reducible refine Kd.C_alloc ?_ _) | (with_reducible refine Kd.C_drewN ?_ _) | (with_reducible refine Kd.C_drew ?_))); (case side2 => exact (Kd.R_reads' HO165.out).2.1); rintro e w' ⟨rfl, ⟨nd, rfl⟩⟩; refine ⟨_, rfl, ?_⟩))
 go_ret
 exact ⟨by first | rfl | (simp [errW_none, errW_some] <;> rfl) | (simp [*, errW_none, errW_some] <;> rfl), by repeat (first | (with_reducible first | exact HB.out | apply below_alloc | apply pw_below_drewN | apply below_drew1) | exact HB.out)⟩
def bung_can.f (k : Nat) (l0 : List (S52)) (l1 : List Int) : Option (Bool) := (bung_rule.f l0 l1).bind fun t167 => ((bung_stacked.f k l0 t167).bind fun t170 => ((bung_stands.f k t170).bind fun t173 => (some t173)))
theorem bung_can.mono : ∀ a0 a1 k, LeO (bung_can.f k a0 a1) (bung_can.f (k + 1) a0 a1) := by
 intro a0 a1 k
 unfold bung_can.f
 repeat' first
   | (with_reducible exact bung_stacked.mono _ _ _)
   | (with_reducible exact bung_stands.mono _ _)
   | (with_reducible exact LeO.refl _)
   | (with_reducible exact LeO.none _)
   | (with_reducible refine LeO.ite ?_ ?_)
   | (with_reducible refine LeO.bind ?_ (fun _ => ?_))
   | exact bung_stacked.mono _ _ _
   | exact bung_stands.mono _ _
   | exact LeO.none _
   | refine LeO.ite ?_ ?_
   | refine LeO.bind ?_ (fun _ => ?_)
set_option maxHeartbeats 8000000 in
set_option maxRecDepth 100000 in
theorem bung_can.calls (k : Nat) (A0 : Option Addr) (c0 : Nat) (l0 : List (S52)) (A1 : Option Addr) (c1 : Nat) (l1 : List Int) (r : Bool) (w : World) (hr0 : Kd.C k52 w A0 l0.length l0) (hc0 : l0.length ≤ c0) (hr1 : Kd.C (Kd.int .i64) w A1 l1.length l1) (hc1 : l1.length ≤ c1) (h : bung_can.f k l0 l1 = some r) :
  Calls Try.prog 98 #[.slice A0 l0.length c0, .slice A1 l1.length c1] w fun e w' => e = .returned (.bool r) ∧ Below w.heap.size w w' := by
 have HR0 := pA hr0
 have HC0 := pA hc0
 clear hr0 hc0
 have HR1 := pA hr1
 have HC1 := pA hc1
 clear hr1 hc1
 have HB := pA (Below.refl w.heap.size w)
 have H : ((bung_rule.f l0 l1).bind fun t167 => ((bung_stacked.f k l0 t167).bind fun t170 => ((bung_stands.f k t170).bind fun t173 => (some t173)))) = some r := h
 clear h
 replace H := Option.bind_eq_some_iff.mp H
 obtain ⟨t167, A30, H⟩ := H
 replace H : ((bung_stacked.f k l0 t167).bind fun t170 => ((bung_stands.f k t170).bind fun t173 => (some t173))) = some r := H
 have A3 := pA A30
 clear A30
 replace H := Option.bind_eq_some_iff.mp H
 obtain ⟨t170, A40, H⟩ := H
 replace H : ((bung_stands.f k t170).bind fun t173 => (some t173)) = some r := H
 have A4 := pA A40
 clear A40
 replace H := Option.bind_eq_some_iff.mp H
 obtain ⟨t173, A50, H⟩ := H
 replace H : (some t173) = some r := H
 have A5 := pA A50
 clear A50
 obtain rfl := Option.some.inj H
 go_enter Try.func98, Try.ntmps98
 go_wp2_with (first | ((with_reducible refine aF (f := 95) rfl ?_); refine goesL_ (some 8) rfl rfl Try.func95 (by kernel_rfl) rfl #[.slice A0 l0.length c0, .slice A1 l1.length c1] rfl (by (try simp only [pE, pF, pG]); first | done | rfl | (simp only [pH, pI]; rfl)) ?_; (with_reducible refine (bung_rule.calls _ _ l0 _ _ l1 t167 _ ?side1 ?side2 ?side3 ?side4 A3.out).mono ?_); (case side1 => repeat (first | exact HR0.out | (with_reducible refine Kd.C_alloc ?_ _) | (with_reducible refine Kd.C_drewN ?_ _) | (with_reducible refine Kd.C_drew ?_))); (case side2 => exact HC0.out); (case side3 => repeat (first | exact HR1.out | (with_reducible refine Kd.C_alloc ?_ _) | (with_reducible refine Kd.C_drewN ?_ _) | (with_reducible refine Kd.C_drew ?_))); (case side4 => exact HC1.out); rintro e w6 ⟨v168, rfl, ho0, hb⟩; refine ⟨_, rfl, ?_⟩; have n0_ := pA (Kd.R_lower ho0 (below_size (vB HB))); have n1_ := pA (below_step (vB HB) hb); clear HB; have HO169 := n0_; have HB := n1_; clear n0_ n1_; (try clear hb); (try clear hb2); (try clear hk); (try clear hi); (try clear ho0); obtain ⟨Ao7, co7, eo7⟩ := Kd.R_slice HO169.out; subst eo7) | ((with_reducible refine aF (f := 112) rfl ?_); refine goesL_ (some 9) rfl rfl Try.func112 (by kernel_rfl) rfl #[.slice A0 l0.length c0, .slice Ao7 t167.length co7] rfl (by (try simp only [pE, pF, pG]); first | done | rfl | (simp only [pH, pI]; rfl)) ?_; (with_reducible refine (bung_stacked.calls k _ _ l0 _ _ t167 t170 _ ?side1 ?side2 ?side3 ?side4 A4.out).mono ?_); (case side1 => repeat (first | exact (Kd.C_below HR0.out HB.out) | (with_reducible refine Kd.C_alloc ?_ _) | (with_reducible refine Kd.C_drewN ?_ _) | (with_reducible refine Kd.C_drew ?_))); (case side2 => exact HC0.out); (case side3 => repeat (first | exact (Kd.R_reads' HO169.out).2.2 | (with_reducible refine Kd.C_alloc ?_ _) | (with_reducible refine Kd.C_drewN ?_ _) | (with_reducible refine Kd.C_drew ?_))); (case side4 => exact (Kd.R_reads' HO169.out).2.1); rintro e w8 ⟨v171, rfl, ho0, hb⟩; refine ⟨_, rfl, ?_⟩; have n0_ := pA (Kd.R_below (vR HO169) hb); have n1_ := pA (Kd.R_lower ho0 (below_size (vB HB))); have n2_ := pA (below_step (vB HB) hb); clear HO169; clear HB; have HO169 := n0_; have HO172 := n1_; have HB := n2_; clear n0_ n1_ n2_; (try clear hb); (try clear hb2); (try clear hk); (try clear hi); (try clear ho0); obtain ⟨Ao9, co9, eo9⟩ := Kd.R_slice HO172.out; subst eo9) | ((with_reducible refine aF (f := 138) rfl ?_); refine goesL_ (some 10) rfl rfl Try.func138 (by kernel_rfl) rfl #[.slice Ao9 t170.length co9] rfl (by (try simp only [pE, pF, pG]); first | done | rfl | (simp only [pH, pI]; rfl)) ?_; (with_reducible refine (bung_stands.calls k _ _ t170 t173 _ ?side1 ?side2 A5.out).mono ?_); (case side1 => repeat (first | exact (Kd.R_reads' HO172.out).2.2 | (with_reducible refine Kd.C_alloc ?_ _) | (with_reducible refine Kd.C_drewN ?_ _) | (with_reducible refine Kd.C_drew ?_))); (case side2 => exact (Kd.R_reads' HO172.out).2.1); rintro e w10 ⟨rfl, hb⟩; refine ⟨_, rfl, ?_⟩; have n0_ := pA (Kd.R_below (vR HO169) hb); have n1_ := pA (Kd.R_below (vR HO172) hb); have n2_ := pA (below_step (vB HB) hb); clear HO169; clear HO172; clear HB; have HO169 := n0_; have HO172 := n1_; have HB := n2_; clear n0_ n1_ n2_; (try clear hb); (try clear hb2); (try clear hk); (try clear hi)))
 go_ret
 exact ⟨by first | rfl | (simp [errW_none, errW_some] <;> rfl) | (simp [*, errW_none, errW_some] <;> rfl), by repeat (first | (with_reducible first | exact HB.out | apply below_alloc | apply pw_below_drewN | apply below_drew1) | exact HB.out)⟩
theorem rd52_nat (l : List S52) (i : Nat) (h : i < l.length) : rd_T52 l (i : Int) = l[i] := by simp [rd_T52, List.getD_eq_getElem?_getD, h]
theorem rd23_nat (l : List S23) (i : Nat) (h : i < l.length) : rd_T23 l (i : Int) = l[i] := by simp [rd_T23, List.getD_eq_getElem?_getD, h]
theorem rd_nat (l : List Int) (i : Nat) (h : i < l.length) : rd l (i : Int) = l[i] := by simp [rd, List.getD_eq_getElem?_getD, h]
theorem wrap_id {x : Int} (h : -4611686018427387904 ≤ x) (h2 : x ≤ 4611686018427387904) : wrap64 x = x := by unfold wrap64; omega
theorem wrap_next {i : Nat} (h : i < 9223372036854775807) : wrap64 ((i : Int) + 1) = ((i + 1 : Nat) : Int) := by unfold wrap64; omega
/-- Ranges are small and not negative. -/
def smallR (l : List S23) : Prop := ∀ y ∈ l, 0 ≤ y.f0 ∧ y.f0 ≤ 1000000000 ∧ 0 ≤ y.f1 ∧ y.f1 ≤ 1000000000
def sumLo (l : List S23) : Int := (l.map (·.f0)).sum
def sumHi (l : List S23) : Int := (l.map (·.f1)).sum
theorem sum_l0 (l : List S23) (h : smallR l) (hl : l.length ≤ 1000) : ∀ (d i k : Nat) (a b : Int), l.length - i = d → i ≤ l.length → d < k → 0 ≤ a → a ≤ 1000000000 * i → 0 ≤ b → b ≤ 1000000000 * i →
  bung_sum.l0 k l (l.length : Int) (i : Int) a b = some (a + sumLo (l.drop i), b + sumHi (l.drop i)) := by
 intro d
 induction d with
 | zero =>
  intro i k a b hd hi hk _ _ _ _
  obtain ⟨k, rfl⟩ : ∃ m, k = m + 1 := ⟨k - 1, by omega⟩
  simp only [bung_sum.l0]
  rw [if_neg (by omega), List.drop_eq_nil_of_le (by omega)]
  simp [sumLo, sumHi]
 | succ d ih =>
  intro i k a b hd hi hk ha ha2 hb hb2
  obtain ⟨k, rfl⟩ : ∃ m, k = m + 1 := ⟨k - 1, by omega⟩
  have hlt : i < l.length := by omega
  have hy := h l[i] (List.getElem_mem hlt)
  have e : l.drop i = l[i] :: l.drop (i + 1) := List.drop_eq_getElem_cons hlt
  simp only [bung_sum.l0]
  rw [if_pos (by omega), if_pos (by omega), if_pos (by omega), rd23_nat l i hlt, wrap_next (by omega), wrap_id (by omega) (by omega), wrap_id (by omega) (by omega),
   ih (i + 1) k _ _ (by omega) (by omega) (by omega) (by omega) (by push_cast; omega) (by omega) (by push_cast; omega), e]
  simp only [sumLo, sumHi, List.map_cons, List.sum_cons]
  rw [Int.add_assoc, Int.add_assoc]
theorem sum_eq (l : List S23) (h : smallR l) (hl : l.length ≤ 1000) (k : Nat) (hk : l.length < k) : bung_sum.f k l = some (sumLo l, sumHi l) := by
 unfold bung_sum.f
 have := sum_l0 l h hl l.length 0 k 0 0 (by omega) (by omega) hk (by omega) (by omega) (by omega) (by omega)
 simpa using this
/-- The heights of courses and wads, one behind the other. -/
def highs (w : S23) : List S52 → List S23
 | [] => []
 | s :: t => s.f3 :: t.flatMap fun x => [w, x.f3]
def heightOf (w : S23) (l : List S52) : S23 := ⟨sumLo (highs w l), sumHi (highs w l)⟩
theorem okSome_len {l : List S52} (h : okSome l = true) : l.length ≤ 30 := by simp only [okSome, Bool.and_eq_true, decide_eq_true_eq] at h; exact h.1
theorem okSome_all {l : List S52} (h : okSome l = true) : l.all vSag = true := by simp only [okSome, Bool.and_eq_true, decide_eq_true_eq] at h; exact h.2
theorem okSome_of {l : List S52} (h : okList l = true) : okSome l = true := by
  simp only [okList, okSome, Bool.and_eq_true, decide_eq_true_eq] at h ⊢
  exact ⟨h.1, h.2.1⟩
theorem vSag_at {l : List S52} (h : okSome l = true) {s : S52} (hs : s ∈ l) : 1 ≤ s.f0 ∧ s.f0 ≤ 999 ∧ 0 ≤ s.f1.f0 ∧ s.f1.f0 ≤ s.f1.f1 ∧ s.f1.f1 ≤ 10000000 ∧ 0 ≤ s.f2.f0 ∧ s.f2.f0 ≤ s.f2.f1 ∧ s.f2.f1 ≤ 10000000 ∧ 1 ≤ s.f3.f0 ∧ s.f3.f0 ≤ s.f3.f1 ∧ s.f3.f1 ≤ 10000 ∧ 0 ≤ s.f4 ∧ s.f4 ≤ 200 := by
  have := List.all_eq_true.1 (okSome_all h) s hs
  simpa only [vSag, decide_eq_true_eq] using this
theorem flat_len (w : S23) (t : List S52) : (t.flatMap fun x => [w, x.f3]).length = 2 * t.length := by
 induction t with
 | nil => rfl
 | cons s t ih => simp at ih ⊢; omega
theorem highs_len (w : S23) (l : List S52) (h : 0 < l.length) : (highs w l).length = 2 * l.length - 1 := by
 cases l with
 | nil => simp at h
 | cons s t => simp only [highs, List.length_cons, flat_len]; omega
theorem highs_small {w : S23} (hw : vWad w.f0 w.f1 = true) {l : List S52} (h : okSome l = true) : smallR (highs w l) := by
 simp only [vWad, decide_eq_true_eq] at hw
 intro y hy
 cases l with
 | nil => simp [highs] at hy
 | cons s t =>
  simp only [highs, List.mem_cons, List.mem_flatMap, List.not_mem_nil, or_false] at hy
  rcases hy with rfl | ⟨x, hx, rfl | rfl⟩
  ·have := vSag_at h List.mem_cons_self; omega
  ·omega
  ·have := vSag_at h (List.mem_cons_of_mem _ hx); omega
theorem height_l0 (w : S23) (hw : vWad w.f0 w.f1 = true) (l : List S52) (h : okSome l = true) (h0 : 0 < l.length) : ∀ (d i k : Nat), l.length - i = d → 0 < i → i ≤ l.length → d + 1000 < k →
  bung_height.l0 k (highs w (l.take i)) l (l.length : Int) (i : Int) w.f0 w.f1 l = some ((heightOf w l).f0, (heightOf w l).f1) := by
 have hl := okSome_len h
 intro d
 induction d with
 | zero =>
  intro i k hd hp hi hk
  obtain ⟨k, rfl⟩ : ∃ m, k = m + 1 := ⟨k - 1, by omega⟩
  simp only [bung_height.l0]
  rw [if_neg (by omega), List.take_of_length_le (by omega), sum_eq _ (highs_small hw h) (by rw [highs_len w l h0]; omega) k (by rw [highs_len w l h0]; omega)]
  rfl
 | succ d ih =>
  intro i k hd hp hi hk
  obtain ⟨k, rfl⟩ : ∃ m, k = m + 1 := ⟨k - 1, by omega⟩
  have hlt : i < l.length := by omega
  have hli : (highs w (l.take i)).length = 2 * i - 1 := by rw [highs_len _ _ (by simp; omega)]; simp; omega
  have e : highs w (l.take i) ++ [w] ++ [l[i].f3] = highs w (l.take (i + 1)) := by
   rw [List.take_succ_eq_append_getElem hlt]
   obtain ⟨s, t, hst⟩ : ∃ s t, l.take i = s :: t := by
    cases hc : l.take i with
    | nil => have := congrArg List.length hc; rw [List.length_take, List.length_nil] at this; omega
    | cons s t => exact ⟨s, t, rfl⟩
   rw [hst]
   simp [highs]
  simp only [bung_height.l0]
  rw [if_pos (by omega), if_pos (by omega), if_pos (by omega), if_pos (by omega), if_pos (by omega)]
  simp only [Option.bind_some]
  rw [if_pos (by simp; omega), rd52_nat l i hlt, wrap_next (by omega)]
  have := ih (i + 1) k (by omega) (by omega) (by omega) (by omega)
  rw [← e] at this
  exact this
theorem height_eq (w : S23) (hw : vWad w.f0 w.f1 = true) (l : List S52) (h : okSome l = true) (h0 : 0 < l.length) (k : Nat) (hk : 1100 ≤ k) : bung_height.f k w.f0 w.f1 l = some ((heightOf w l).f0, (heightOf w l).f1) := by
 have hl := okSome_len h
 obtain ⟨k, rfl⟩ : ∃ m, k = m + 1 := ⟨k - 1, by omega⟩
 unfold bung_height.f
 simp only [bung_height.l0]
 rw [if_pos (by omega), if_pos (by omega), if_pos (by omega), if_neg (by omega), if_pos (by simp)]
 have := height_l0 w hw l h h0 (l.length - 1) 1 k rfl (by omega) (by omega) (by omega)
 have e : highs w (l.take 1) = [l[0].f3] := by
  cases l with
  | nil => simp at h0
  | cons s t => simp [highs]
 have e2 : rd_T52 l 0 = l[0] := rd52_nat l 0 h0
 rw [e] at this
 rw [e2]
 simpa [wrap64] using this
/-- The sum that leans, and the height, of courses from one on up to the top. -/
def leanRec (hi : Int) : List S52 → Int × Int
 | [] => (0, 0)
 | s :: t => ((leanRec hi t).1 + s.f4 * ((leanRec hi t).2 + s.f3.f1), (leanRec hi t).2 + s.f3.f1 + hi)
def leanOf (hi : Int) (l : List S52) : Int := ((leanRec hi l.tail).1 + 999) / 1000
theorem leanRec_bd (hi : Int) (h0 : 0 ≤ hi) (h1 : hi ≤ 200) (l : List S52) (h : l.all vSag = true) : 0 ≤ (leanRec hi l).2 ∧ (leanRec hi l).2 ≤ 10200 * l.length ∧ 0 ≤ (leanRec hi l).1 ∧ (leanRec hi l).1 ≤ 2040000 * (l.length * l.length) := by
 induction l with
 | nil => simp [leanRec]
 | cons s t ih =>
  simp only [List.all_cons, Bool.and_eq_true] at h
  obtain ⟨a, b, c, d⟩ := ih h.2
  have hv := h.1
  simp only [vSag, decide_eq_true_eq] at hv
  obtain ⟨-, -, -, -, -, -, -, -, h9, h10, h11, h12, h13⟩ := hv
  simp only [leanRec, List.length_cons]
  have m0 : 0 ≤ s.f4 * ((leanRec hi t).2 + s.f3.f1) := Int.mul_nonneg (by omega) (by omega)
  have m1 : s.f4 * ((leanRec hi t).2 + s.f3.f1) ≤ 200 * ((leanRec hi t).2 + s.f3.f1) := Int.mul_le_mul_of_nonneg_right (by omega) (by omega)
  have e : (((t.length + 1 : Nat) : Int) * ((t.length + 1 : Nat) : Int)) = (t.length : Int) * t.length + 2 * t.length + 1 := by push_cast; rw [Int.add_mul, Int.mul_add]; omega
  refine ⟨by omega, by push_cast; omega, by omega, ?_⟩
  rw [e]
  omega
theorem lean_l0 (lo hi : Int) (h0 : 0 ≤ hi) (h1 : hi ≤ 200) (l : List S52) (h : okSome l = true) : ∀ (i k : Nat), i < l.length → i < k →
  bung_lean.l0 k (leanRec hi (l.drop (i + 1))).1 (leanRec hi (l.drop (i + 1))).2 (i : Int) lo hi l = some (leanOf hi l) := by
 have hl := okSome_len h
 intro i
 induction i with
 | zero =>
  intro k hi0 hk
  obtain ⟨k, rfl⟩ : ∃ m, k = m + 1 := ⟨k - 1, by omega⟩
  have hb := leanRec_bd hi h0 h1 (l.drop 1) (all_drop (okSome_all h) 1)
  have hlen : (l.drop 1).length = l.length - 1 := by simp
  have hq : ((l.drop 1).length : Int) * (l.drop 1).length ≤ 29 * 29 := Int.mul_le_mul (by omega) (by omega) (by omega) (by omega)
  simp only [bung_lean.l0]
  rw [if_neg (by omega), Nat.zero_add, wrap_id (x := (leanRec hi (List.drop 1 l)).1 + 999) (by omega) (by omega)]
  unfold leanOf
  rw [← List.drop_one, Int.tdiv_eq_ediv_of_nonneg (by omega), wrap_id (by omega) (by omega)]
 | succ i ih =>
  intro k hi0 hk
  obtain ⟨k, rfl⟩ : ∃ m, k = m + 1 := ⟨k - 1, by omega⟩
  have hb := leanRec_bd hi h0 h1 (l.drop (i + 1 + 1)) (all_drop (okSome_all h) _)
  have hlen : (l.drop (i + 1 + 1)).length = l.length - (i + 1 + 1) := by simp
  have hq : ((l.drop (i + 1 + 1)).length : Int) * (l.drop (i + 1 + 1)).length ≤ 29 * 29 := Int.mul_le_mul (by omega) (by omega) (by omega) (by omega)
  have hv := vSag_at h (List.getElem_mem hi0)
  have e : l.drop (i + 1) = l[i + 1] :: l.drop (i + 1 + 1) := List.drop_eq_getElem_cons hi0
  have := ih k (by omega) (by omega)
  rw [e] at this
  simp only [leanRec] at this
  have m0 : 0 ≤ l[i + 1].f4 * ((leanRec hi (l.drop (i + 1 + 1))).2 + l[i + 1].f3.f1) := Int.mul_nonneg (by omega) (by omega)
  have m1 : l[i + 1].f4 * ((leanRec hi (l.drop (i + 1 + 1))).2 + l[i + 1].f3.f1) ≤ 200 * ((leanRec hi (l.drop (i + 1 + 1))).2 + l[i + 1].f3.f1) := Int.mul_le_mul_of_nonneg_right (by omega) (by omega)
  simp only [bung_lean.l0]
  rw [if_pos (by omega), if_pos (by omega), if_pos (by omega), rd52_nat l (i + 1) hi0]
  rw [wrap_id (x := (leanRec hi (l.drop (i + 1 + 1))).2 + l[i + 1].f3.f1) (by omega) (by omega), wrap_id (x := l[i + 1].f4 * _) (by omega) (by omega), wrap_id (by omega) (by omega), wrap_id (by omega) (by omega),
   show wrap64 (((i + 1 : Nat) : Int) - 1) = (i : Int) from by unfold wrap64; omega]
  exact this
theorem lean_eq (lo hi : Int) (h0 : 0 ≤ hi) (h1 : hi ≤ 200) (l : List S52) (h : okSome l = true) (hp : 0 < l.length) (k : Nat) (hk : 100 ≤ k) : bung_lean.f k lo hi l = some (leanOf hi l) := by
 have hl := okSome_len h
 unfold bung_lean.f
 have := lean_l0 lo hi h0 h1 l h (l.length - 1) k (by omega) (by omega)
 rw [show l.length - 1 + 1 = l.length from by omega, List.drop_length] at this
 rw [show wrap64 ((l.length : Int) - 1) = ((l.length - 1 : Nat) : Int) from by unfold wrap64; omega]
 exact this
/-- The answer for a course. -/
def ansOf (load bears : S23) : Int := if load.f1 ≤ bears.f0 then 1 else if load.f0 > bears.f1 then 0 else 2
def coursesOf : List S52 → List Int
  | [] => []
  | s :: t => ansOf (sumW t) s.f2 :: coursesOf t
theorem answer_eq (a b c d : Int) : bung_answer.f a b c d = some (ansOf ⟨a, b⟩ ⟨c, d⟩) := by
 unfold bung_answer.f ansOf
 split
 ·rfl
 ·split <;> rfl
theorem coursesOf_length (l : List S52) : (coursesOf l).length = l.length := by
 induction l with
 | nil => rfl
 | cons s t ih => simp [coursesOf, ih]
theorem coursesOf_take (l : List S52) (i : Nat) (h : i < l.length) : (coursesOf l).take (i + 1) = (coursesOf l).take i ++ [ansOf (sumW (l.drop (i + 1))) l[i].f2] := by
 induction l generalizing i with
 | nil => simp at h
 | cons s t ih =>
  cases i with
  | zero => simp [coursesOf]
  | succ i =>
   have := ih i (by simpa using h)
   simp only [coursesOf, List.take_succ_cons, List.drop_succ_cons, List.getElem_cons_succ, List.cons_append]
   rw [this]
theorem courses_l0 (l : List S52) (h : okSome l = true) : ∀ (d i k : Nat), l.length - i = d → i ≤ l.length → d < k →
  bung_courses.l0 k l ((coursesOf l).take i) (loadsOf l) (l.length : Int) (i : Int) = some (coursesOf l) := by
 have hl := okSome_len h
 intro d
 induction d with
 | zero =>
  intro i k hd hi hk
  obtain ⟨k, rfl⟩ : ∃ m, k = m + 1 := ⟨k - 1, by omega⟩
  simp only [bung_courses.l0]
  rw [if_neg (by omega), List.take_of_length_le (by rw [coursesOf_length]; omega)]
 | succ d ih =>
  intro i k hd hi hk
  obtain ⟨k, rfl⟩ : ∃ m, k = m + 1 := ⟨k - 1, by omega⟩
  have hlt : i < l.length := by omega
  have hlo : i < (loadsOf l).length := by rw [loadsOf_length]; exact hlt
  have e : (loadsOf l)[i] = sumW (l.drop (i + 1)) := by
   have := loadsOf_get l i hlt
   rw [List.getElem?_eq_getElem hlo] at this
   exact Option.some.inj this
  simp only [bung_courses.l0]
  rw [if_pos (by omega), if_pos (by omega), if_pos (by omega), if_pos (by omega), rd23_nat _ i hlo, rd52_nat _ i hlt, answer_eq, e]
  simp only [Option.bind_some]
  rw [if_pos (by simp; omega), wrap_next (by omega), ← coursesOf_take l i hlt]
  exact ih (i + 1) k (by omega) (by omega) (by omega)
theorem courses_eq (l : List S52) (h : okSome l = true) (k : Nat) (hk : 100 ≤ k) : bung_courses.f k l = some (coursesOf l) := by
 have hl := okSome_len h
 unfold bung_courses.f bung_loads.f
 rw [if_pos h]
 simp only [Option.bind_some, loadsOf_length]
 have := courses_l0 l h l.length 0 k (by omega) (by omega) (by omega)
 simpa using this
theorem index_l0 (l : List Int) (x : Int) (hl : l.length ≤ 1000000) : ∀ (d i k : Nat), l.length - i = d → i ≤ l.length → d < k →
  ∃ r, slices_Index_int_int.l0 k l x (l.length : Int) (i : Int) = some r ∧ (0 ≤ r ↔ x ∈ l.drop i) := by
 intro d
 induction d with
 | zero =>
  intro i k hd hi hk
  obtain ⟨k, rfl⟩ : ∃ m, k = m + 1 := ⟨k - 1, by omega⟩
  refine ⟨-1, ?_, ?_⟩
  ·simp only [slices_Index_int_int.l0]
   rw [if_neg (by omega)]
  ·rw [List.drop_eq_nil_of_le (by omega)]
   simp
 | succ d ih =>
  intro i k hd hi hk
  obtain ⟨k, rfl⟩ : ∃ m, k = m + 1 := ⟨k - 1, by omega⟩
  have hlt : i < l.length := by omega
  have e : l.drop i = l[i] :: l.drop (i + 1) := List.drop_eq_getElem_cons hlt
  by_cases hx : x = l[i]
  ·refine ⟨i, ?_, ?_⟩
   ·simp only [slices_Index_int_int.l0]
    rw [if_pos (by omega), if_pos (by omega), if_pos (by omega), rd_nat l i hlt, if_pos hx]
   ·rw [e, hx]
    exact ⟨fun _ => List.mem_cons_self, fun _ => by omega⟩
  ·obtain ⟨r, hr, hr2⟩ := ih (i + 1) k (by omega) (by omega) (by omega)
   refine ⟨r, ?_, ?_⟩
   ·simp only [slices_Index_int_int.l0]
    rw [if_pos (by omega), if_pos (by omega), if_pos (by omega), rd_nat l i hlt, if_neg hx, wrap_next (by omega)]
    exact hr
   ·rw [hr2, e, List.mem_cons]
    exact ⟨Or.inr, fun h => h.resolve_left hx⟩
theorem contains_eq (l : List Int) (x : Int) (hl : l.length ≤ 1000000) (k : Nat) (hk : l.length < k) : slices_Contains_int_int.f k l x = some (decide (x ∈ l)) := by
 obtain ⟨r, hr, hr2⟩ := index_l0 l x hl l.length 0 k (by omega) (by omega) hk
 unfold slices_Contains_int_int.f slices_Index_int_int.f
 rw [show (0 : Int) = ((0 : Nat) : Int) from rfl, hr]
 simp only [Option.bind_some]
 congr 1
 rw [List.drop_zero] at hr2
 simp [hr2]
def allOf (l : List Int) : Int := if 0 ∈ l then 0 else if 2 ∈ l then 2 else 1
theorem all_eq (l : List Int) (hl : l.length ≤ 1000000) (k : Nat) (hk : l.length < k) : bung_all.f k l = some (allOf l) := by
 unfold bung_all.f allOf
 rw [contains_eq l 0 hl k hk, contains_eq l 2 hl k hk]
 by_cases h1 : (0 : Int) ∈ l <;> by_cases h2 : (2 : Int) ∈ l <;> simp [h1, h2]
/-- The answer for a bung. -/
def standsOf (l : List S52) : Int := allOf (coursesOf l)
theorem stands_eq (l : List S52) (h : okSome l = true) (k : Nat) (hk : 100 ≤ k) : bung_stands.f k l = some (standsOf l == 1) := by
 have hl := okSome_len h
 unfold bung_stands.f
 rw [courses_eq l h k hk]
 simp only [Option.bind_some]
 rw [all_eq _ (by rw [coursesOf_length]; omega) k (by rw [coursesOf_length]; omega)]
 rfl
/-- The answer for a spot. -/
def fitsOf (w : S23) (l : List S52) (crown lean : Int) : Int :=
  if (heightOf w l).f0 > crown ∨ standsOf l = 0 then 0 else if (heightOf w l).f1 ≤ crown ∧ leanOf w.f1 l ≤ lean ∧ standsOf l = 1 then 1 else 2
theorem fits_eq (w : S23) (hw : vWad w.f0 w.f1 = true) (l : List S52) (h : okSome l = true) (hp : 0 < l.length) (c n : Int) (k : Nat) (hk : 1200 ≤ k) : bung_fits.f k w.f0 w.f1 l c n = some (fitsOf w l c n) := by
 have hl := okSome_len h
 have hw' := hw
 simp only [vWad, decide_eq_true_eq] at hw'
 obtain ⟨k, rfl⟩ : ∃ m, k = m + 1 := ⟨k - 1, by omega⟩
 unfold bung_fits.f
 rw [height_eq w hw l h hp _ (by omega)]
 simp only [Option.bind_some]
 rw [courses_eq l h _ (by omega)]
 simp only [Option.bind_some]
 rw [all_eq _ (by rw [coursesOf_length]; omega) _ (by rw [coursesOf_length]; omega)]
 simp only [Option.bind_some, bung_fits.j0]
 rw [lean_eq w.f0 w.f1 (by omega) (by omega) l h hp k (by omega)]
 simp only [Option.bind_some]
 unfold fitsOf
 rw [show allOf (coursesOf l) = standsOf l from rfl]
 by_cases h1 : (heightOf w l).f0 > c <;> by_cases h2 : standsOf l = 0 <;> by_cases h3 : (heightOf w l).f1 ≤ c <;> by_cases h4 : leanOf w.f1 l ≤ n <;> by_cases h5 : standsOf l = 1 <;> simp [h1, h2, h3, h4, h5]
/-- Do saggars stand by the rule? -/
def canOf (l : List S52) (xs : List Int) : Bool := standsOf (pick l (sortR l xs)) == 1
theorem pick_ok {l : List S52} (h : okList l = true) {xs : List Int} (hx : inIx l.length xs = true) (hl : xs.length ≤ 30) : okSome (pick l xs) = true := by
 simp only [okSome, Bool.and_eq_true, decide_eq_true_eq, pick, List.length_map, List.all_map]
 refine ⟨hl, List.all_eq_true.2 fun i hi => ?_⟩
 simp only [inIx, List.all_eq_true, decide_eq_true_eq] at hx
 have := hx i hi
 simp only [okList, Bool.and_eq_true, decide_eq_true_eq] at h
 exact all_at h.2.1 this.1 this.2
theorem sortR_perm (l : List S52) (xs : List Int) : (sortR l xs).Perm xs := List.mergeSort_perm _ _
theorem inIx_perm {n : Nat} {xs ys : List Int} (h : xs.Perm ys) (hx : inIx n ys = true) : inIx n xs = true := by
  simp only [inIx, List.all_eq_true, decide_eq_true_eq] at hx ⊢
  exact fun i hi => hx i (h.mem_iff.1 hi)
theorem can_eq (l : List S52) (xs : List Int) (h : okList l = true) (hx : inIx l.length xs = true) (hl : xs.length ≤ 30) (k : Nat) (hk : 100 ≤ k) : bung_can.f k l xs = some (canOf l xs) := by
 have hs := inIx_perm (sortR_perm l xs) hx
 have hsl : (sortR l xs).length ≤ 30 := by rw [(sortR_perm l xs).length_eq]; exact hl
 unfold bung_can.f bung_rule.f
 rw [if_pos (by simp [h, hx, hl])]
 simp only [Option.bind_some]
 obtain ⟨d, hd⟩ : ∃ d, k = (sortR l xs).length + 1 + d := ⟨k - ((sortR l xs).length + 1), by omega⟩
 have hst : bung_stacked.f k l (sortR l xs) = some (pick l (sortR l xs)) := by
  unfold bung_stacked.f
  have := stacked_l0 l (sortR l xs) hs (by omega) (sortR l xs).length 0 [] k (by omega) (by omega) (by omega) (by simp)
  simpa using this
 rw [hst]
 simp only [Option.bind_some]
 rw [stands_eq _ (pick_ok h hs hsl) k hk]
 rfl
theorem part_eq (a b c d : Int) : potbankref03_part.f a b c d = some (decide (c ≤ a ∧ a ≤ b ∧ b ≤ d)) := by
  unfold potbankref03_part.f
  by_cases h1 : c ≤ a <;> by_cases h2 : a ≤ b <;> by_cases h3 : b ≤ d <;> simp [h1, h2, h3]
theorem in_eq (a b c : Int) : potbankref03_In.f a b c = some (decide (b ≤ a ∧ a ≤ c)) := by
  unfold potbankref03_In.f
  by_cases h1 : b ≤ a <;> by_cases h2 : a ≤ c <;> simp [h1, h2]
theorem refSag_eq (s : S52) : potbankref03_CheckSaggar.f s.f0 s.f1.f0 s.f1.f1 s.f2.f0 s.f2.f1 s.f3.f0 s.f3.f1 s.f4 = some (if vSag s = true then 0 else 30) := by
 have e : (vSag s = true) = ((1 ≤ s.f0 ∧ s.f0 ≤ 999) ∧ (0 ≤ s.f1.f0 ∧ s.f1.f0 ≤ s.f1.f1 ∧ s.f1.f1 ≤ 10000000) ∧ (0 ≤ s.f2.f0 ∧ s.f2.f0 ≤ s.f2.f1 ∧ s.f2.f1 ≤ 10000000) ∧ (1 ≤ s.f3.f0 ∧ s.f3.f0 ≤ s.f3.f1 ∧ s.f3.f1 ≤ 10000) ∧ (0 ≤ s.f4 ∧ s.f4 ≤ 200)) := by
  unfold vSag
  rw [decide_eq_true_eq]
  exact propext ⟨fun h => by omega, fun h => by omega⟩
 unfold potbankref03_CheckSaggar.f
 rw [in_eq, part_eq, part_eq, part_eq, in_eq]
 simp only [Option.bind_some, decide_eq_true_eq, e]
 by_cases h1 : (1 ≤ s.f0 ∧ s.f0 ≤ 999) <;> simp only [h1, true_and, false_and, if_true, if_false]
 by_cases h2 : (0 ≤ s.f1.f0 ∧ s.f1.f0 ≤ s.f1.f1 ∧ s.f1.f1 ≤ 10000000) <;> simp only [h2, true_and, false_and, if_true, if_false]
 by_cases h3 : (0 ≤ s.f2.f0 ∧ s.f2.f0 ≤ s.f2.f1 ∧ s.f2.f1 ≤ 10000000) <;> simp only [h3, true_and, false_and, if_true, if_false]
 by_cases h4 : (1 ≤ s.f3.f0 ∧ s.f3.f0 ≤ s.f3.f1 ∧ s.f3.f1 ≤ 10000) <;> simp only [h4, true_and, false_and, if_true, if_false]
 by_cases h5 : (0 ≤ s.f4 ∧ s.f4 ≤ 200) <;> simp [h5]
theorem has_l0 (l : List S52) (x : Int) (hl : l.length ≤ 1000) : ∀ (d i k : Nat), l.length - i = d → i ≤ l.length → d < k → potbankref03_has.l0 k l x (i : Int) = some (decide (x ∈ (l.drop i).map (·.f0))) := by
 intro d
 induction d with
 | zero =>
  intro i k hd hi hk
  obtain ⟨k, rfl⟩ : ∃ m, k = m + 1 := ⟨k - 1, by omega⟩
  simp only [potbankref03_has.l0]
  rw [if_neg (by omega), List.drop_eq_nil_of_le (by omega)]
  simp
 | succ d ih =>
  intro i k hd hi hk
  obtain ⟨k, rfl⟩ : ∃ m, k = m + 1 := ⟨k - 1, by omega⟩
  have hlt : i < l.length := by omega
  have e : l.drop i = l[i] :: l.drop (i + 1) := List.drop_eq_getElem_cons hlt
  simp only [potbankref03_has.l0]
  rw [if_pos (by omega), if_pos (by omega), rd52_nat l i hlt, e, List.map_cons]
  by_cases hx : l[i].f0 = x
  ·rw [if_pos hx, hx]
   exact congrArg some (decide_eq_true List.mem_cons_self).symm
  ·rw [if_neg hx, wrap_next (by omega), ih (i + 1) k (by omega) (by omega) (by omega)]
   exact congrArg some (decide_eq_decide.2 ⟨fun h => List.mem_cons_of_mem _ h, fun h => (List.mem_cons.1 h).resolve_left (fun h => hx h.symm)⟩)
theorem has_eq (l : List S52) (x : Int) (hl : l.length ≤ 1000) (k : Nat) (hk : l.length < k) : potbankref03_has.f k l x = some (decide (x ∈ l.map (·.f0))) := by
 unfold potbankref03_has.f
 have := has_l0 l x hl l.length 0 k (by omega) (by omega) hk
 simpa using this
theorem okList_bad {l : List S52} {i : Nat} (hi : i < l.length) (h : vSag l[i] = false) : okList l = false := by
  have : l.all vSag = false := List.all_eq_false.2 ⟨l[i], List.getElem_mem hi, by simp [h]⟩
  simp [okList, this]
theorem okList_twice {l : List S52} {i : Nat} (hi : i < l.length) (h : l[i].f0 ∈ (l.take i).map (·.f0)) : okList l = false := by
 have : ¬ (l.map (·.f0)).Nodup := by
  intro hd
  have e : l.map (·.f0) = (l.take i).map (·.f0) ++ (l[i].f0 :: (l.drop (i + 1)).map (·.f0)) := by
   have e2 := List.take_append_drop i l
   rw [List.drop_eq_getElem_cons hi] at e2
   have e3 := congrArg (List.map fun x : S52 => x.f0) e2
   rw [List.map_append, List.map_cons] at e3
   exact e3.symm
  rw [e, List.nodup_append] at hd
  exact hd.2.2 _ h _ List.mem_cons_self rfl
 simp [okList, this]
theorem refList_l0 (l : List S52) (hl : l.length ≤ 30) : ∀ (d i k : Nat), l.length - i = d → i ≤ l.length → d + 100 < k → (l.take i).all vSag = true → ((l.take i).map (·.f0)).Nodup →
  potbankref03_CheckList.l0 k l (i : Int) = some (if okList l = true then 0 else 30) := by
 intro d
 induction d with
 | zero =>
  intro i k hd hi hk h1 h2
  obtain ⟨k, rfl⟩ : ∃ m, k = m + 1 := ⟨k - 1, by omega⟩
  simp only [potbankref03_CheckList.l0]
  rw [List.take_of_length_le (by omega)] at h1 h2
  rw [if_neg (by omega), if_pos (by simp [okList, h1, h2, hl])]
 | succ d ih =>
  intro i k hd hi hk h1 h2
  obtain ⟨k, rfl⟩ : ∃ m, k = m + 1 := ⟨k - 1, by omega⟩
  have hlt : i < l.length := by omega
  simp only [potbankref03_CheckList.l0]
  rw [if_pos (by omega), if_pos (by omega), rd52_nat l i hlt, refSag_eq]
  simp only [Option.bind_some]
  cases hv : vSag l[i] with
  | false => rw [if_neg (by simp), okList_bad hlt hv]; rfl
  | true =>
   rw [if_pos rfl, if_pos rfl, if_pos (by omega), show ((i : Int)).toNat = i from rfl, has_eq _ _ (by simp; omega) k (by simp; omega)]
   simp only [Option.bind_some, decide_eq_true_eq]
   by_cases hm : l[i].f0 ∈ (l.take i).map (·.f0)
   ·rw [if_pos hm, okList_twice hlt hm]; rfl
   ·rw [if_neg hm, wrap_next (by omega)]
    have e : l.take (i + 1) = l.take i ++ [l[i]] := List.take_succ_eq_append_getElem hlt
    refine ih (i + 1) k (by omega) (by omega) (by omega) (by rw [e, List.all_append, h1]; simp [hv]) ?_
    rw [e, List.map_append, List.nodup_append]
    exact ⟨h2, by simp, fun a ha b hb e => by simp at hb; subst hb; subst e; exact hm ha⟩
theorem refList_eq (l : List S52) (k : Nat) (hk : 1000 ≤ k) : potbankref03_CheckList.f k l = some (if okList l = true then 0 else 30) := by
 unfold potbankref03_CheckList.f
 by_cases hl : l.length ≤ 30
 ·rw [if_neg (by omega)]
  have := refList_l0 l hl l.length 0 k (by omega) (by omega) (by omega) (by simp) (by simp)
  simpa using this
 ·rw [if_pos (by omega), if_neg (by simp [okList]; intro h; omega)]
def potbankref01_Same.l0 : Nat → List Int → List Int → Int → Option (Bool)
  | 0, _, _, _ => none
  | k + 1, x0, x1, x5 => if x5 < (x0.length : Int) then (if 0 ≤ x5 then (if x5 < (x1.length : Int) then (if (rd x0 x5) = (rd x1 x5) then (potbankref01_Same.l0 k x0 x1 (wrap64 (x5 + 1))) else (some false)) else (none)) else (none)) else (some true)
def potbankref01_Same.f (k : Nat) (l0 : List Int) (l1 : List Int) : Option (Bool) := if (l0.length : Int) = (l1.length : Int) then (potbankref01_Same.l0 k l0 l1 0) else (some false)
theorem potbankref01_Same.mono_l : ∀ k, (∀ y0 y1 y2, LeO (potbankref01_Same.l0 k y0 y1 y2) (potbankref01_Same.l0 (k + 1) y0 y1 y2))
 | 0 => fun _ _ _ r h => by simp [potbankref01_Same.l0] at h
 | k + 1 => by
  have ih0 := potbankref01_Same.mono_l k
  ·intro y0 y1 y2
   unfold potbankref01_Same.l0
   repeat' first
   | (with_reducible exact ih0 _ _ _)
   | (with_reducible exact LeO.refl _)
   | (with_reducible exact LeO.none _)
   | (with_reducible refine LeO.ite ?_ ?_)
   | (with_reducible refine LeO.bind ?_ (fun _ => ?_))
   | exact ih0 _ _ _
   | exact LeO.none _
   | refine LeO.ite ?_ ?_
   | refine LeO.bind ?_ (fun _ => ?_)
theorem potbankref01_Same.mono : ∀ a0 a1 k, LeO (potbankref01_Same.f k a0 a1) (potbankref01_Same.f (k + 1) a0 a1) := by
 intro a0 a1 k
 have ih0 := potbankref01_Same.mono_l k
 unfold potbankref01_Same.f
 repeat' first
   | (with_reducible exact ih0 _ _ _)
   | (with_reducible exact LeO.refl _)
   | (with_reducible exact LeO.none _)
   | (with_reducible refine LeO.ite ?_ ?_)
   | (with_reducible refine LeO.bind ?_ (fun _ => ?_))
   | exact ih0 _ _ _
   | exact LeO.none _
   | refine LeO.ite ?_ ?_
   | refine LeO.bind ?_ (fun _ => ?_)
end Go.Proofs.Ytbiakjgjedhjhaa.P
