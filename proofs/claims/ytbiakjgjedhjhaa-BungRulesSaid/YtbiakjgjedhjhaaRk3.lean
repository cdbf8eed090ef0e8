/- Proved: the law BungRules of the program potbank answers true for every input, and leaves its arguments as they were. Conditions: none. (Part 3 of the texts, put together by wip/assemble.py of this repository.) -/
import Derived.Test.YtbiakjgjedhjhaaRk2
set_option linter.unusedVariables false
set_option linter.unusedSimpArgs false
namespace Go.Proofs.Ytbiakjgjedhjhaa.P
open Go.RowKit Go.Proofs.YtbiakjgjedhjhaaW.PrintWords Go.Proofs.YtbiakjgjedhjhaaW.PrintLast
set_option maxHeartbeats 8000000 in
set_option maxRecDepth 100000 in
theorem bung_courses.calls (k : Nat) (A0 : Option Addr) (c0 : Nat) (l0 : List (S52)) (r : List Int) (w : World) (hr0 : Kd.C k52 w A0 l0.length l0) (hc0 : l0.length ≤ c0) (h : bung_courses.f k l0 = some r) :
  Calls Try.prog 82 #[.slice A0 l0.length c0] w fun e w' => ∃ v0_ : Value, e = .returned (v0_) ∧ Kd.R (Kd.int .i64) 3 w' w.heap.size (fun _ => True) v0_ r ∧ Below w.heap.size w w' := by
 have hu23 := Try.underlying23
 have HR0 := pA hr0
 have HC0 := pA hc0
 clear hr0 hc0
 have HB := pA (Below.refl w.heap.size w)
 have H : ((bung_loads.f l0).bind fun t122 => (bung_courses.l0 k l0 ([] : List Int) t122 (t122.length : Int) 0)) = some r := h
 clear h
 replace H := Option.bind_eq_some_iff.mp H
 obtain ⟨t122, A20, H⟩ := H
 replace H : (bung_courses.l0 k l0 ([] : List Int) t122 (t122.length : Int) 0) = some r := H
 have A2 := pA A20
 clear A20
 have H' := pA H
 clear H
 go_enter Try.func82, Try.ntmps82
 go_wp2_with (first | ((with_reducible refine aF (f := 88) rfl ?_); refine goesL_ (some 7) rfl rfl Try.func88 (by kernel_rfl) rfl #[.slice A0 l0.length c0] rfl (by (try simp only [pE, pF, pG]); first | done | rfl | (simp only [pH, pI]; rfl)) ?_; (with_reducible refine (bung_loads.calls _ _ l0 t122 _ ?side1 ?side2 A2.out).mono ?_); (case side1 => repeat (first | exact HR0.out | (with_reducible refine Kd.C_alloc ?_ _) | (with_reducible refine Kd.C_drewN ?_ _) | (with_reducible refine Kd.C_drew ?_))); (case side2 => exact HC0.out); rintro e w3 ⟨v123, rfl, ho0, hb⟩; refine ⟨_, rfl, ?_⟩; have n0_ := pA (Kd.R_lower ho0 (below_size (vB HB))); have n1_ := pA (below_step (vB HB) hb); clear HB; have HO124 := n0_; have HB := n1_; clear n0_ n1_; (try clear hb); (try clear hb2); (try clear hk); (try clear hi); (try clear ho0); obtain ⟨Ao4, co4, eo4⟩ := Kd.R_slice HO124.out; subst eo4))
 go_loopg [3, 9] k (fun kq v3 v9 w' => ∃ (x3_1 : List Int) (x9_1 : Int), v9 = .int .i64 x9_1 ∧ Aside0 (bung_courses.l0 kq l0 x3_1 t122 (t122.length : Int) x9_1 = some r) ∧ Aside0 (kq ≤ k) ∧ Aside0 (Kd.R (Kd.int .i64) 3 w' w.heap.size (fun _ => True) v3 x3_1) ∧ Aside0 (Kd.R k23 23 w' w.heap.size (fun _ => True) (.slice Ao4 t122.length co4) t122) ∧ Aside0 (Below w.heap.size w w'))
 case atStart => exact ⟨(([] : List Int)), (0), (by first | rfl | (simp; done) | (simp [*]; done)), H', ⟨Nat.le_refl _⟩, ⟨by first | exact Kd.R_nil _ _ _ _ _ | exact Kd.N_nil _ _ _ _ _ | exact Kd.V_nil _ _ _ _ _ | exact Kd.Q_nil _ _ _ _ _ | exact Kd.S_nil _ _ _ _ _⟩, ⟨by (with_reducible repeat (first | apply Kd.R_alloc | apply Kd.R_drewN | apply Kd.R_drew)); exact HO124.out⟩, ⟨by repeat (first | (with_reducible first | exact HB.out | apply below_alloc | apply pw_below_drewN | apply below_drew1) | exact HB.out)⟩⟩
 case round =>
  clear H'
  try clear p2
  obtain ⟨x3_1, x9_1, rfl, HA, HK1, HO_3, HO_7, HB⟩ := hrel
  cases gk with
  | zero => exact absurd HA.out (by simp [bung_courses.l0])
  | succ k1 =>
   have H := HA.out
   clear HA
   simp only [bung_courses.l0] at H
   by_cases c5 : x9_1 < (t122.length : Int)
   ·rw [if_pos c5] at H
    have c5b0 : decide (x9_1 < (t122.length : Int)) = true := decide_eq_true c5
    clear c5
    by_cases c6 : 0 ≤ x9_1
    ·rw [if_pos c6] at H
     have c6b0 : decide (0 ≤ x9_1) = true := decide_eq_true c6
     clear c6
     by_cases c7 : x9_1 < (t122.length : Int)
     ·rw [if_pos c7] at H
      have c7b0 : decide (x9_1 < (t122.length : Int)) = true := decide_eq_true c7
      clear c7
      by_cases c8 : x9_1 < (l0.length : Int)
      ·rw [if_pos c8] at H
       have c8b0 : decide (x9_1 < (l0.length : Int)) = true := decide_eq_true c8
       clear c8
       replace H := Option.bind_eq_some_iff.mp H
       obtain ⟨t128, A90, H⟩ := H
       replace H : (if x3_1.length < 17592186044416 then (bung_courses.l0 k1 l0 (x3_1 ++ [t128]) t122 (t122.length : Int) (wrap64 (x9_1 + 1))) else (none)) = some r := H
       have A9 := pA A90
       clear A90
       by_cases c10 : x3_1.length < 17592186044416
       ·rw [if_pos c10] at H
        have LMc10 := pA c10
        clear c10
        obtain ⟨y129, hy129⟩ : ∃ y_ : List Int, y_ = (x3_1 ++ [t128]) := ⟨_, rfl⟩
        replace H : (bung_courses.l0 k1 l0 y129 t122 (t122.length : Int) (wrap64 (x9_1 + 1))) = some r := by first | (rw [hy129]; with_reducible exact H) | (have H2_ := (Option.bind_some _ _).symm.trans H; rw [hy129]; with_reducible exact H2_) | (have H2_ := (Option.bind_some _ _).symm.trans H; with_reducible exact H2_) | with_reducible exact H | (rw [hy129]; exact H) | exact H
        have Ny129 := pA hy129
        clear hy129
        have H' := pA H
        clear H
        have p125 : 0 ≤ (x9_1 : Int) := of_decide_eq_true (by first | (with_reducible assumption) | assumption)
        have q125 : x9_1 < (t122.length : Int) := of_decide_eq_true (by first | (with_reducible assumption) | assumption)
        obtain ⟨ad125, e125, hx125_0, hx125_1⟩ := at_T23 (Kd.R_reads' HO_7.out).2.2 x9_1 p125 q125
        cases e125
        replace p125 := eq_true p125
        replace q125 := eq_true q125
        try go_wp2_with (first | ((with_reducible refine gate_dst (N := 5) rfl ?_); refine box_event ?hg (N := 5) ?hd (cs := #[.int .i64 0, .int .i64 0]) (t := 23) ?hr ?_; (case hd => rfl); (case hg => rfl); (case hr => first | (go_simp; done) | (go_simp; rfl)); intro gb126 hg w11 hbox hb; have n0_ := pA (Kd.R_below (vR HO_3) hb); have n1_ := pA (Kd.R_below (Kd.R_elderB (vR HO_7) gb126 (Nat.le_of_eq hg.symm)) hb); have n2_ := pA (below_step (vB HB) hb); have n3_ := pA (hbox); have n4_ := pA ((by rw [hg]; exact (below_size (vB HB)) : w.heap.size ≤ gb126)); have n5_ := pA ((by rw [hg]; exact (below_size (vB HB)) : w.heap.size ≤ gb126)); clear HO_3; clear HO_7; clear HB; have HO_3 := n0_; have HO_7 := n1_; have HB := n2_; have BK126 := n3_; have GW126 := n4_; have GE126 := n5_; clear n0_ n1_ n2_ n3_ n4_ n5_; clear hb hbox hg; have hcz12_0 : w11.cell? ⟨gb126, 0, none⟩ = some (.int .i64 0) := (blk_cell BK126.out 0).trans rfl; have hcz12_1 : w11.cell? ⟨gb126, 1, none⟩ = some (.int .i64 0) := (blk_cell BK126.out 1).trans rfl; have hfz12_0 := blk_frozen BK126.out 0; have hfz12_1 := blk_frozen BK126.out 1))
        have n0_ : Aside0 (Kd.R (Kd.int .i64) 3 ((w11.setCell ⟨gb126, 0, none⟩ (.int .i64 ((rd_T23 t122 x9_1).f0))).setCell ⟨gb126, 1, none⟩ (.int .i64 ((rd_T23 t122 x9_1).f1))) w.heap.size (fun _ => True) u3 x3_1) := ⟨by (with_reducible repeat (first | apply Kd.R_alloc | apply Kd.R_drewN | apply Kd.R_drew)); exact Kd.R_mono (Kd.R_far (p := ⟨gb126, 1, none⟩) (Kd.R_far (p := ⟨gb126, 0, none⟩) (Kd.R_types HO_3.out BK126.out (by decide)) (fun _ hk => hk.2) (.int .i64 ((rd_T23 t122 x9_1).f0))) (fun _ hk => hk.2) (.int .i64 ((rd_T23 t122 x9_1).f1))) (fun _ hk => trivial)⟩
        have n1_ : Aside0 (Kd.R k23 23 ((w11.setCell ⟨gb126, 0, none⟩ (.int .i64 ((rd_T23 t122 x9_1).f0))).setCell ⟨gb126, 1, none⟩ (.int .i64 ((rd_T23 t122 x9_1).f1))) w.heap.size (fun k_ => k_ ≠ gb126) (.slice (some ad125) t122.length co4) t122) := ⟨by (with_reducible repeat (first | apply Kd.R_alloc | apply Kd.R_drewN | apply Kd.R_drew)); exact Kd.R_mono (Kd.R_far (p := ⟨gb126, 1, none⟩) (Kd.R_far (p := ⟨gb126, 0, none⟩) (Kd.R_mono HO_7.out (fun k_ hk => (⟨hk, hk.2⟩ : _ ∧ k_ ≠ gb126))) (fun _ hk => hk.2) (.int .i64 ((rd_T23 t122 x9_1).f0))) (fun _ hk => hk.2) (.int .i64 ((rd_T23 t122 x9_1).f1))) (fun _ hk => hk.1.2)⟩
        have n2_ : Aside0 (((w11.setCell ⟨gb126, 0, none⟩ (.int .i64 ((rd_T23 t122 x9_1).f0))).setCell ⟨gb126, 1, none⟩ (.int .i64 ((rd_T23 t122 x9_1).f1))).heap[gb126]? = some (.cells #[.int .i64 ((rd_T23 t122 x9_1).f0), .int .i64 ((rd_T23 t122 x9_1).f1)] 23 (0, 0))) := ⟨by (with_reducible repeat refine vS ?_); refine blk_put (cs := #[.int .i64 ((rd_T23 t122 x9_1).f0), .int .i64 0]) ?_ 1 _ rfl; (with_reducible repeat refine vS ?_); refine blk_put (cs := #[.int .i64 0, .int .i64 0]) ?_ 0 _ rfl; (with_reducible repeat refine vS ?_); exact BK126.out⟩
        have n3_ : Aside0 (Below w.heap.size w ((w11.setCell ⟨gb126, 0, none⟩ (.int .i64 ((rd_T23 t122 x9_1).f0))).setCell ⟨gb126, 1, none⟩ (.int .i64 ((rd_T23 t122 x9_1).f1)))) := ⟨by repeat (first | (with_reducible first | exact HB.out | apply below_alloc | apply pw_below_drewN | apply below_drew1 | refine below_set ?_ GE126.out) | exact HB.out)⟩
        (try clear HO_3)
        (try clear HO_7)
        (try clear BK126)
        (try clear HB)
        generalize ((w11.setCell ⟨gb126, 0, none⟩ (.int .i64 ((rd_T23 t122 x9_1).f0))).setCell ⟨gb126, 1, none⟩ (.int .i64 ((rd_T23 t122 x9_1).f1))) = w13 at n0_ n1_ n2_ n3_ ⊢
        have HO_3 := n0_
        have HO_7 := n1_
        have BK126 := n2_
        have HB := n3_
        clear n0_ n1_ n2_ n3_
        have n0_ := pA (Kd.R_drew HO_3.out)
        have n1_ := pA (Kd.R_drew HO_7.out)
        have n2_ := pA (blk_drew BK126.out)
        have n3_ := pA (below_drew1 HB.out)
        clear HO_3
        clear HO_7
        clear BK126
        clear HB
        have HO_3 := n0_
        have HO_7 := n1_
        have BK126 := n2_
        have HB := n3_
        clear n0_ n1_ n2_ n3_
        have p127 : 0 ≤ (x9_1 : Int) := of_decide_eq_true (by first | (with_reducible assumption) | assumption)
        have q127 : x9_1 < (l0.length : Int) := of_decide_eq_true (by first | (with_reducible assumption) | assumption)
        obtain ⟨ad127, e127, hx127_0, hx127_1, hx127_2, hx127_3, hx127_4, hx127_5, hx127_6, hx127_7⟩ := at_T52 HR0.out x9_1 p127 q127
        have hw127_7 := hx127_7
        have hw127_6 := hx127_6
        have hw127_5 := hx127_5
        have hw127_4 := hx127_4
        have hw127_3 := hx127_3
        have hw127_2 := hx127_2
        have hw127_1 := hx127_1
        have hw127_0 := hx127_0
        cases e127
        replace hx127_0 := vC HB hx127_0
        replace hx127_1 := vC HB hx127_1
        replace hx127_2 := vC HB hx127_2
        replace hx127_3 := vC HB hx127_3
        replace hx127_4 := vC HB hx127_4
        replace hx127_5 := vC HB hx127_5
        replace hx127_6 := vC HB hx127_6
        replace hx127_7 := vC HB hx127_7
        replace p127 := eq_true p127
        replace q127 := eq_true q127
        refine start_ (n := 11) (S := fun w' => w'.cell? ⟨gb126, 0, none⟩ = some (.int .i64 ((rd_T23 t122 x9_1).f0)) ∧ w'.cell? ⟨gb126, 1, none⟩ = some (.int .i64 ((rd_T23 t122 x9_1).f1)) ∧ w'.cell? (ad127.add ((x9_1).toNat * 8)) = some (.int .i64 ((rd_T52 l0 x9_1).f0)) ∧ w'.cell? ⟨(ad127.add ((x9_1).toNat * 8)).block, (ad127.add ((x9_1).toNat * 8)).off + 1, none⟩ = some (.int .i64 ((rd_T52 l0 x9_1).f1.f0)) ∧ w'.cell? ⟨(ad127.add ((x9_1).toNat * 8)).block, (ad127.add ((x9_1).toNat * 8)).off + 2, none⟩ = some (.int .i64 ((rd_T52 l0 x9_1).f1.f1)) ∧ w'.cell? ⟨(ad127.add ((x9_1).toNat * 8)).block, (ad127.add ((x9_1).toNat * 8)).off + 3, none⟩ = some (.int .i64 ((rd_T52 l0 x9_1).f2.f0)) ∧ w'.cell? ⟨(ad127.add ((x9_1).toNat * 8)).block, (ad127.add ((x9_1).toNat * 8)).off + 4, none⟩ = some (.int .i64 ((rd_T52 l0 x9_1).f2.f1)) ∧ w'.cell? ⟨(ad127.add ((x9_1).toNat * 8)).block, (ad127.add ((x9_1).toNat * 8)).off + 5, none⟩ = some (.int .i64 ((rd_T52 l0 x9_1).f3.f0)) ∧ w'.cell? ⟨(ad127.add ((x9_1).toNat * 8)).block, (ad127.add ((x9_1).toNat * 8)).off + 6, none⟩ = some (.int .i64 ((rd_T52 l0 x9_1).f3.f1)) ∧ w'.cell? ⟨(ad127.add ((x9_1).toNat * 8)).block, (ad127.add ((x9_1).toNat * 8)).off + 7, none⟩ = some (.int .i64 ((rd_T52 l0 x9_1).f4))) (ds := []) #[false, false, false, false, false, false, false, false, false, false, false] (by kernel_rfl) rfl rfl ⟨(blk_cell BK126.out 0).trans rfl, (blk_cell BK126.out 1).trans rfl, (vD HB hw127_0), (vD HB hw127_1), (vD HB hw127_2), (vD HB hw127_3), (vD HB hw127_4), (vD HB hw127_5), (vD HB hw127_6), (vD HB hw127_7)⟩ (fun hHeld => ?_); refine with_tabW bung_courses.tab5 bung_courses.bits5 (fun HT_ HW_ => ?_)
        generalize w13.drew = w14 at HO_3 HO_7 BK126 HB hx127_0 hx127_1 hx127_2 hx127_3 hx127_4 hx127_5 hx127_6 hx127_7 hHeld ⊢
        refine pure_ (i := 0) (N := some 14) (v := ?_) (a' := ?_) #[true, false, false, false, false, false, false, false, false, false, false] rfl rfl (any_of HT_.out (by kernel_rfl)) (fun _ _ _ h => h) (Or.inl ⟨by rfl, ?_⟩) ?_ ?_
        rotate_left
        ·intro w'
         go_simp
         with_reducible rfl
        rotate_left
        ·simp only [Act.put, pB, pC, pD, i64_w, i32_w]
         rfl
        refine pure_ (i := 2) (N := some 16) (v := ?_) (a' := ?_) #[true, false, true, false, false, false, false, false, false, false, false] rfl rfl (any_of HT_.out (by kernel_rfl)) (fun _ _ _ h => h) (Or.inl ⟨by rfl, ?_⟩) ?_ ?_
        rotate_left
        ·intro w'
         go_simp
         with_reducible rfl
        rotate_left
        ·simp only [Act.put, pB, pC, pD, i64_w, i32_w]
         rfl
        refine pure_ (i := 3) (N := some 17) (v := ?_) (a' := ?_) #[true, false, true, true, false, false, false, false, false, false, false] rfl rfl (any_of HT_.out (by kernel_rfl)) (fun _ _ _ h => h) (Or.inl ⟨by rfl, ?_⟩) ?_ ?_
        rotate_left
        ·intro w'
         go_simp
         with_reducible rfl
        rotate_left
        ·simp only [Act.put, pB, pC, pD, i64_w, i32_w]
         rfl
        refine pure_ (i := 4) (N := some 18) (v := ?_) (a' := ?_) #[true, false, true, true, true, false, false, false, false, false, false] rfl rfl (any_of HT_.out (by kernel_rfl)) (fun _ _ _ h => h) (Or.inl ⟨by rfl, ?_⟩) ?_ ?_
        rotate_left
        ·intro w'
         go_simp
         with_reducible rfl
        rotate_left
        ·simp only [Act.put, pB, pC, pD, i64_w, i32_w]
         rfl
        refine pure_ (i := 5) (N := some 19) (v := ?_) (a' := ?_) #[true, false, true, true, true, true, false, false, false, false, false] rfl rfl (any_of HT_.out (by kernel_rfl)) (fun _ _ _ h => h) (Or.inl ⟨by rfl, ?_⟩) ?_ ?_
        rotate_left
        ·intro w'
         go_simp
         with_reducible rfl
        rotate_left
        ·simp only [Act.put, pB, pC, pD, i64_w, i32_w]
         rfl
        refine take_ (i := 1) (N := some 15) (v := ?_) (a' := ?_) #[true, true, true, true, true, true, false, false, false, false, false] rfl rfl (take_ofW HT_.out HW_.out (by kernel_rfl)) (fun _ _ _ h => h) (Or.inl ⟨by rfl, ?_⟩) hHeld ?_ ?_
        rotate_left
        ·rintro w' ⟨s0, s1, s2, s3, s4, s5, s6, s7, s8, s9⟩
         go_simp
         with_reducible rfl
        rotate_left
        ·simp only [Act.put, pB, pC, pD, i64_w, i32_w]
         rfl
        refine take_ (i := 6) (N := some 20) (v := ?_) (a' := ?_) #[true, true, true, true, true, true, true, false, false, false, false] rfl rfl (take_ofW HT_.out HW_.out (by kernel_rfl)) (fun _ _ _ h => h) (Or.inl ⟨by rfl, ?_⟩) hHeld ?_ ?_
        rotate_left
        ·rintro w' ⟨s0, s1, s2, s3, s4, s5, s6, s7, s8, s9⟩
         go_simp
         with_reducible rfl
        rotate_left
        ·simp only [Act.put, pB, pC, pD, i64_w, i32_w]
         rfl
        refine one_ (i := 7) (N := some 21) #[true, true, true, true, true, true, true, true, false, false, false] rfl rfl (one_of HT_.out (by kernel_rfl)) (by decide) (fun K hK => ?_)
        refine goes_ Try.func128 (by kernel_rfl) rfl #[.agg #[.int .i64 ((rd_T23 t122 x9_1).f0), .int .i64 ((rd_T23 t122 x9_1).f1)], .agg #[.int .i64 ((rd_T52 l0 x9_1).f2.f0), .int .i64 ((rd_T52 l0 x9_1).f2.f1)]] (by rfl) rfl rfl (by (try simp only [pE, pF, pG]); first | done | rfl | (simp only [pH, pI]; rfl)) ?_
        with_reducible refine (bung_answer.calls ((rd_T23 t122 x9_1).f0) ((rd_T23 t122 x9_1).f1) ((rd_T52 l0 x9_1).f2.f0) ((rd_T52 l0 x9_1).f2.f1) t128 _ A9.out).mono ?_
        rintro e w15 ⟨rfl, hb⟩
        refine ⟨_, rfl, ?_⟩
        have n0_ := pA (Kd.R_below (vR HO_3) hb)
        have n1_ := pA (Kd.R_below (vR HO_7) hb)
        have n2_ := pA (blk_below (g := gb126) (o := .cells #[.int .i64 ((rd_T23 t122 x9_1).f0), .int .i64 ((rd_T23 t122 x9_1).f1)] 23 (0, 0)) (vK BK126) hb)
        have n3_ := pA (below_step (by repeat (first | (with_reducible first | exact HB.out | apply below_alloc | apply pw_below_drewN | apply below_drew1 | refine below_set ?_ GE126.out) | exact HB.out)) hb)
        clear HO_3
        clear HO_7
        clear BK126
        clear HB
        have HO_3 := n0_
        have HO_7 := n1_
        have BK126 := n2_
        have HB := n3_
        clear n0_ n1_ n2_ n3_
        (try clear hb)
        (try clear hb2)
        (try clear hk)
        (try clear hi)
        refine hK.out _ _ ⟨(blk_cell BK126.out 0).trans rfl, (blk_cell BK126.out 1).trans rfl, (vD HB hw127_0), (vD HB hw127_1), (vD HB hw127_2), (vD HB hw127_3), (vD HB hw127_4), (vD HB hw127_5), (vD HB hw127_6), (vD HB hw127_7)⟩ (fun hHeld => ?_)
        clear hK K
        refine norm_ (a' := ?_) ?_ ?_
        rotate_left
        ·show Act.put _ (some 21) _ = _
         simp only [Act.put, pB, pC, pD, i64_w, i32_w]
         rfl
        refine one_ (i := 8) (N := some 22) #[true, true, true, true, true, true, true, true, true, false, false] rfl rfl (one_of HT_.out (by kernel_rfl)) (by decide) (fun K hK => ?_)
        refine value_ (w1 := ?_) (v := ?_) (by rfl) rfl ?_ ?_
        rotate_left 2
        ·go_simp
         constructor
         ·rfl
         ·rfl
        refine hK.out _ _ ⟨(blk_cell (blk_alloc BK126.out _) 0).trans rfl, (blk_cell (blk_alloc BK126.out _) 1).trans rfl, (World.cell?_alloc_lt _ _ _ (World.block_lt_of_cell? _ _ ((vD HB hw127_0)))).trans ((vD HB hw127_0)), (World.cell?_alloc_lt _ _ _ (World.block_lt_of_cell? _ _ ((vD HB hw127_1)))).trans ((vD HB hw127_1)), (World.cell?_alloc_lt _ _ _ (World.block_lt_of_cell? _ _ ((vD HB hw127_2)))).trans ((vD HB hw127_2)), (World.cell?_alloc_lt _ _ _ (World.block_lt_of_cell? _ _ ((vD HB hw127_3)))).trans ((vD HB hw127_3)), (World.cell?_alloc_lt _ _ _ (World.block_lt_of_cell? _ _ ((vD HB hw127_4)))).trans ((vD HB hw127_4)), (World.cell?_alloc_lt _ _ _ (World.block_lt_of_cell? _ _ ((vD HB hw127_5)))).trans ((vD HB hw127_5)), (World.cell?_alloc_lt _ _ _ (World.block_lt_of_cell? _ _ ((vD HB hw127_6)))).trans ((vD HB hw127_6)), (World.cell?_alloc_lt _ _ _ (World.block_lt_of_cell? _ _ ((vD HB hw127_7)))).trans ((vD HB hw127_7))⟩ (fun hHeld => ?_)
        clear hK K
        refine norm_ (a' := ?_) ?_ ?_
        rotate_left
        ·show Act.put _ (some 22) _ = _
         simp only [Act.put, pB, pC, pD, i64_w, i32_w]
         rfl
        refine one_ (i := 9) (N := some 23) #[true, true, true, true, true, true, true, true, true, true, false] rfl rfl (one_of HT_.out (by kernel_rfl)) (by decide) (fun K hK => ?_)
        refine Kd.R_append_step (Kd.int .i64) (w0 := w) w.heap.size (by rfl) (.tmp 14) (.tmp 22) 38 3 (.int .i64 0) 8 rfl Try.underlying38 info3 rfl (by decide) (by omega) u3 x3_1 t128 [.int .i64 t128] (fun _ => True) (fun _ => False) rfl rfl ?aP (fun _ hk => hk.elim) ?aF ?aO ?aB ?aS ?aL ?_
        (case aP => exact rfl)
        (case aB => exact (by repeat (first | (with_reducible first | exact HB.out | apply below_alloc | apply pw_below_drewN | apply below_drew1 | refine below_set ?_ GE126.out) | exact HB.out)))
        (case aF => exact (fun _ _ => trivial))
        (case aO => exact (vR HO_3))
        (case aS => exact (below_size (by repeat (first | (with_reducible first | exact HB.out | apply below_alloc | apply pw_below_drewN | apply below_drew1 | refine below_set ?_ GE126.out) | exact HB.out))))
        (case aL => have := LMc10.out; omega)
        intro v130 w16 ho hb hg hat
        rw [← Ny129.out] at ho
        have n0_ := pA (Kd.R_over' (vR HO_7) (Kd.R_typed (vR HO_3)) (by decide) hg)
        have n1_ := pA (blk_grown (g := gb126) (o := .cells #[.int .i64 ((rd_T23 t122 x9_1).f0), .int .i64 ((rd_T23 t122 x9_1).f1)] 23 (0, 0)) (vK BK126) hg (Kd.R_ne HO_3.out BK126.out (by decide)))
        have n2_ := pA (hb)
        have n3_ := pA (ho)
        clear HO_7
        clear BK126
        clear HB
        clear HO_3
        have HO_7 := n0_
        have BK126 := n1_
        have HB := n2_
        have HO131 := n3_
        clear n0_ n1_ n2_ n3_
        clear ho hb hg hat
        refine hK.out _ _ ⟨(blk_cell BK126.out 0).trans rfl, (blk_cell BK126.out 1).trans rfl, (vD HB hw127_0), (vD HB hw127_1), (vD HB hw127_2), (vD HB hw127_3), (vD HB hw127_4), (vD HB hw127_5), (vD HB hw127_6), (vD HB hw127_7)⟩ (fun hHeld => ?_)
        clear hK K
        refine norm_ (a' := ?_) ?_ ?_
        rotate_left
        ·show Act.put _ (some 23) _ = _
         simp only [Act.put, pB, pC, pD, i64_w, i32_w]
         rfl
        refine pure_ (i := 10) (N := some 3) (v := ?_) (a' := ?_) #[true, true, true, true, true, true, true, true, true, true, true] rfl rfl (any_of HT_.out (by kernel_rfl)) (fun _ _ _ h => h) (Or.inl ⟨by rfl, ?_⟩) ?_ ?_
        rotate_left
        ·intro w'
         go_simp
         with_reducible rfl
        rotate_left
        ·simp only [Act.put, pB, pC, pD, i64_w, i32_w]
         rfl
        refine done_ (done_of HT_.out (by kernel_rfl)) ?_
        try go_wp2
        go_roundg k1
        case measure => have := HK1.out; omega
        case rel => exact ⟨(y129), (wrap64 (x9_1 + 1)), (by first | rfl | (simp; done) | (simp [*]; done)), H', ⟨by have := HK1.out; omega⟩, ⟨by (with_reducible repeat (first | apply Kd.R_alloc | apply Kd.R_drewN | apply Kd.R_drew)); exact HO131.out⟩, ⟨by (with_reducible repeat (first | apply Kd.R_alloc | apply Kd.R_drewN | apply Kd.R_drew)); exact Kd.R_mono HO_7.out (fun _ hk => trivial)⟩, ⟨by repeat (first | (with_reducible first | exact HB.out | apply below_alloc | apply pw_below_drewN | apply below_drew1 | refine below_set ?_ GE126.out) | exact HB.out)⟩⟩
       ·rw [if_neg c10] at H
        exact absurd H (by simp)
      ·rw [if_neg c8] at H
       exact absurd H (by simp)
     ·rw [if_neg c7] at H
      exact absurd H (by simp)
    ·rw [if_neg c6] at H
     exact absurd H (by simp)
   ·rw [if_neg c5] at H
    have c5b0 : decide (x9_1 < (t122.length : Int)) = false := decide_eq_false c5
    clear c5
    obtain rfl := Option.some.inj H
    go_wp2
    go_ret
    exact ⟨_, by first | rfl | (simp [errW_none, errW_some] <;> rfl) | (simp [*, errW_none, errW_some] <;> rfl), by (with_reducible repeat (first | apply Kd.R_alloc | apply Kd.R_drewN | apply Kd.R_drew)); exact HO_3.out, by repeat (first | (with_reducible first | exact HB.out | apply below_alloc | apply pw_below_drewN | apply below_drew1) | exact HB.out)⟩
def bung_height.l0 : Nat → List (S23) → List (S52) → Int → Int → Int → Int → List (S52) → Option (Int × Int)
  | 0, _, _, _, _, _, _, _ => none
  | k + 1, x3, x7, x8, x9, x133000, x133001, x133002 => if x9 < x8 then (if 0 ≤ x9 then (if x9 < (x7.length : Int) then (if x9 > 0 then (if x3.length < 8796093022208 then ((some (x3 ++ [(⟨x133000, x133001⟩ : S23)] : List (S23))).bind fun y136 => (if y136.length < 8796093022208 then (bung_height.l0 k (y136 ++ [(⟨(rd_T52 x7 x9).f3.f0, (rd_T52 x7 x9).f3.f1⟩ : S23)]) x7 x8 (wrap64 (x9 + 1)) x133000 x133001 x133002) else (none))) else (none)) else (if x3.length < 8796093022208 then (bung_height.l0 k (x3 ++ [(⟨(rd_T52 x7 x9).f3.f0, (rd_T52 x7 x9).f3.f1⟩ : S23)]) x7 x8 (wrap64 (x9 + 1)) x133000 x133001 x133002) else (none))) else (none)) else (none)) else ((bung_sum.f k x3).bind fun bt145 => (some (bt145.1, bt145.2)))
def bung_height.f (k : Nat) (a0_0 : Int) (a0_1 : Int) (l0_2 : List (S52)) : Option (Int × Int) := bung_height.l0 k ([] : List (S23)) l0_2 (l0_2.length : Int) 0 a0_0 a0_1 l0_2
theorem bung_height.mono_l : ∀ k, (∀ y0 y1 y2 y3 y4 y5 y6, LeO (bung_height.l0 k y0 y1 y2 y3 y4 y5 y6) (bung_height.l0 (k + 1) y0 y1 y2 y3 y4 y5 y6))
 | 0 => fun _ _ _ _ _ _ _ r h => by simp [bung_height.l0] at h
 | k + 1 => by
  have ih0 := bung_height.mono_l k
  ·intro y0 y1 y2 y3 y4 y5 y6
   unfold bung_height.l0
   repeat' first
   | (with_reducible exact ih0 _ _ _ _ _ _ _)
   | (with_reducible exact bung_sum.mono _ _)
   | (with_reducible exact LeO.refl _)
   | (with_reducible exact LeO.none _)
   | (with_reducible refine LeO.ite ?_ ?_)
   | (with_reducible refine LeO.bind ?_ (fun _ => ?_))
   | exact ih0 _ _ _ _ _ _ _
   | exact bung_sum.mono _ _
   | exact LeO.none _
   | refine LeO.ite ?_ ?_
   | refine LeO.bind ?_ (fun _ => ?_)
theorem bung_height.mono : ∀ a0 a1 a2 k, LeO (bung_height.f k a0 a1 a2) (bung_height.f (k + 1) a0 a1 a2) := by
 intro a0 a1 a2 k
 have ih0 := bung_height.mono_l k
 unfold bung_height.f
 repeat' first
   | (with_reducible exact ih0 _ _ _ _ _ _ _)
   | (with_reducible exact bung_sum.mono _ _)
   | (with_reducible exact LeO.refl _)
   | (with_reducible exact LeO.none _)
   | (with_reducible refine LeO.ite ?_ ?_)
   | (with_reducible refine LeO.bind ?_ (fun _ => ?_))
   | exact ih0 _ _ _ _ _ _ _
   | exact bung_sum.mono _ _
   | exact LeO.none _
   | refine LeO.ite ?_ ?_
   | refine LeO.bind ?_ (fun _ => ?_)
set_option maxHeartbeats 8000000 in
set_option maxRecDepth 100000 in
theorem bung_height.calls (k : Nat) (a0_0 : Int) (a0_1 : Int) (A0_2 : Option Addr) (c0_2 : Nat) (l0_2 : List (S52)) (r1 : Int) (r2 : Int) (w : World) (hr0_2 : Kd.C k52 w A0_2 l0_2.length l0_2) (hc0_2 : l0_2.length ≤ c0_2) (h : bung_height.f k a0_0 a0_1 l0_2 = some (r1, r2)) :
  Calls Try.prog 83 #[.agg #[.int .i64 a0_0, .int .i64 a0_1, .slice A0_2 l0_2.length c0_2]] w fun e w' => e = .returned (.agg #[.int .i64 r1, .int .i64 r2]) ∧ Below w.heap.size w w' := by
 have hu43 := Try.underlying43
 have hu23 := Try.underlying23
 have hu52 := Try.underlying52
 have HR0_2 := pA hr0_2
 have HC0_2 := pA hc0_2
 clear hr0_2 hc0_2
 have HB := pA (Below.refl w.heap.size w)
 have H : (bung_height.l0 k ([] : List (S23)) l0_2 (l0_2.length : Int) 0 a0_0 a0_1 l0_2) = some (r1, r2) := h
 clear h
 have H' := pA H
 clear H
 go_enter Try.func83, Try.ntmps83
 go_wp2_with (first | ((with_reducible refine gate_dst (N := 1) rfl ?_); refine box_event ?hg (N := 1) ?hd (cs := #[.int .i64 a0_0, .int .i64 a0_1, .slice A0_2 l0_2.length c0_2]) (t := 43) ?hr ?_; (case hd => rfl); (case hg => rfl); (case hr => first | (go_simp; done) | (go_simp; rfl)); intro gb132 hg w2 hbox hb; have n0_ := pA (below_step (vB HB) hb); have n1_ := pA (hbox); have n2_ := pA ((by rw [hg]; exact (below_size (vB HB)) : w.heap.size ≤ gb132)); have n3_ := pA ((by rw [hg]; exact (below_size (vB HB)) : w.heap.size ≤ gb132)); clear HB; have HB := n0_; have BK132 := n1_; have GW132 := n2_; have GE132 := n3_; clear n0_ n1_ n2_ n3_; clear hb hbox hg) | ((with_reducible refine gate_dst (N := 2) rfl ?_); refine box_event ?hg (N := 2) ?hd (cs := #[.int .i64 0, .int .i64 0]) (t := 23) ?hr ?_; (case hd => rfl); (case hg => rfl); (case hr => first | (go_simp; done) | (go_simp; rfl)); intro gb133 hg w3 hbox hb; have n0_ := pA (blk_below (g := gb132) (o := .cells #[.int .i64 a0_0, .int .i64 a0_1, .slice A0_2 l0_2.length c0_2] 43 (0, 0)) (vK BK132) hb); have n1_ := pA (below_step (by repeat (first | (with_reducible first | exact HB.out | apply below_alloc | apply pw_below_drewN | apply below_drew1 | refine below_set ?_ GE132.out) | exact HB.out)) hb); have n2_ := pA (hbox); have n3_ := pA ((by rw [hg]; exact (below_size (by repeat (first | (with_reducible first | exact HB.out | apply below_alloc | apply pw_below_drewN | apply below_drew1 | refine below_set ?_ GE132.out) | exact HB.out))) : w.heap.size ≤ gb133)); have n4_ := pA ((by rw [hg]; exact (below_size (by repeat (first | (with_reducible first | exact HB.out | apply below_alloc | apply pw_below_drewN | apply below_drew1 | refine below_set ?_ GE132.out) | exact HB.out))) : w.heap.size ≤ gb133)); have n5_ := pA ((by rw [hg]; exact Nat.ne_of_lt (blk_lt (g := gb132) (o := .cells #[.int .i64 a0_0, .int .i64 a0_1, .slice A0_2 l0_2.length c0_2] 43 (0, 0)) (vK BK132)) : gb132 ≠ gb133)); have n6_ := pA ((by rw [hg]; exact Nat.ne_of_gt (blk_lt (g := gb132) (o := .cells #[.int .i64 a0_0, .int .i64 a0_1, .slice A0_2 l0_2.length c0_2] 43 (0, 0)) (vK BK132)) : gb133 ≠ gb132)); clear BK132; clear HB; have BK132 := n0_; have HB := n1_; have BK133 := n2_; have GW133 := n3_; have GE133 := n4_; have NB132_133 := n5_; have NB133_132 := n6_; clear n0_ n1_ n2_ n3_ n4_ n5_ n6_; clear hb hbox hg; have hnb4 := NB132_133.out; have hnc4 := NB133_132.out; have hcz5_0 : w3.cell? ⟨gb132, 0, none⟩ = some (.int .i64 a0_0) := (blk_cell BK132.out 0).trans rfl; have hcz5_1 : w3.cell? ⟨gb132, 1, none⟩ = some (.int .i64 a0_1) := (blk_cell BK132.out 1).trans rfl; have hcz5_2 : w3.cell? ⟨gb132, 2, none⟩ = some (.slice A0_2 l0_2.length c0_2) := (blk_cell BK132.out 2).trans rfl; have hfz5_0 := blk_frozen BK132.out 0; have hfz5_1 := blk_frozen BK132.out 1; have hfz5_2 := blk_frozen BK132.out 2))
 go_loopg [3, 9] k (fun kq v3 v9 w' => ∃ (x3_1 : List (S23)) (x9_1 : Int), v9 = .int .i64 x9_1 ∧ Aside0 (bung_height.l0 kq x3_1 l0_2 (l0_2.length : Int) x9_1 a0_0 a0_1 l0_2 = some (r1, r2)) ∧ Aside0 (kq ≤ k) ∧ Aside0 (Kd.R k23 23 w' w.heap.size (fun k_ => k_ ≠ gb133) v3 x3_1) ∧ Aside0 (w'.heap[gb132]? = some (.cells #[.int .i64 a0_0, .int .i64 a0_1, (.slice A0_2 l0_2.length c0_2)] 43 (0, 0))) ∧ Aside0 (w'.heap[gb133]? = some (.cells #[.int .i64 0, .int .i64 0] 23 (0, 0))) ∧ Aside0 (Below w.heap.size w w'))
 case atStart => exact ⟨(([] : List (S23))), (0), (by first | rfl | (simp; done) | (simp [*]; done)), H', ⟨Nat.le_refl _⟩, ⟨by first | exact Kd.R_nil _ _ _ _ _ | exact Kd.N_nil _ _ _ _ _ | exact Kd.V_nil _ _ _ _ _ | exact Kd.Q_nil _ _ _ _ _ | exact Kd.S_nil _ _ _ _ _⟩, ⟨by (with_reducible repeat refine vS ?_); exact BK132.out⟩, ⟨by (with_reducible repeat refine vS ?_); exact BK133.out⟩, ⟨by repeat (first | (with_reducible first | exact HB.out | apply below_alloc | apply pw_below_drewN | apply below_drew1 | refine below_set ?_ GE132.out | refine below_set ?_ GE133.out) | exact HB.out)⟩⟩
 case round =>
  clear H'
  try clear p2
  try clear c4
  try clear hcz5_0
  try clear hcz5_1
  try clear hcz5_2
  try clear hfz5_0
  try clear hfz5_1
  try clear hfz5_2
  obtain ⟨x3_1, x9_1, rfl, HA, HK1, HO_3, BK132, BK133, HB⟩ := hrel
  cases gk with
  | zero => exact absurd HA.out (by simp [bung_height.l0])
  | succ k1 =>
   have H := HA.out
   clear HA
   simp only [bung_height.l0] at H
   by_cases c6 : x9_1 < (l0_2.length : Int)
   ·rw [if_pos c6] at H
    have c6b0 : decide (x9_1 < (l0_2.length : Int)) = true := decide_eq_true c6
    clear c6
    by_cases c7 : 0 ≤ x9_1
    ·rw [if_pos c7] at H
     have c7b0 : decide (0 ≤ x9_1) = true := decide_eq_true c7
     clear c7
     by_cases c8 : x9_1 < (l0_2.length : Int)
     ·rw [if_pos c8] at H
      have c8b0 : decide (x9_1 < (l0_2.length : Int)) = true := decide_eq_true c8
      clear c8
      by_cases c9 : x9_1 > 0
      ·rw [if_pos c9] at H
       have c9b0 : decide (0 < x9_1) = true := decide_eq_true c9
       clear c9
       by_cases c10 : x3_1.length < 8796093022208
       ·rw [if_pos c10] at H
        have LMc10 := pA c10
        clear c10
        obtain ⟨y136, hy136⟩ : ∃ y_ : List (S23), y_ = (x3_1 ++ [(⟨a0_0, a0_1⟩ : S23)]) := ⟨_, rfl⟩
        replace H : (if y136.length < 8796093022208 then (bung_height.l0 k1 (y136 ++ [(⟨(rd_T52 l0_2 x9_1).f3.f0, (rd_T52 l0_2 x9_1).f3.f1⟩ : S23)]) l0_2 (l0_2.length : Int) (wrap64 (x9_1 + 1)) a0_0 a0_1 l0_2) else (none)) = some (r1, r2) := by first | (rw [hy136]; with_reducible exact H) | (have H2_ := (Option.bind_some _ _).symm.trans H; rw [hy136]; with_reducible exact H2_) | (have H2_ := (Option.bind_some _ _).symm.trans H; with_reducible exact H2_) | with_reducible exact H | (rw [hy136]; exact H) | exact H
        have Ny136 := pA hy136
        clear hy136
        by_cases c11 : y136.length < 8796093022208
        ·rw [if_pos c11] at H
         have LMc11 := pA c11
         clear c11
         obtain ⟨y139, hy139⟩ : ∃ y_ : List (S23), y_ = (y136 ++ [(⟨(rd_T52 l0_2 x9_1).f3.f0, (rd_T52 l0_2 x9_1).f3.f1⟩ : S23)]) := ⟨_, rfl⟩
         replace H : (bung_height.l0 k1 y139 l0_2 (l0_2.length : Int) (wrap64 (x9_1 + 1)) a0_0 a0_1 l0_2) = some (r1, r2) := by first | (rw [hy139]; with_reducible exact H) | (have H2_ := (Option.bind_some _ _).symm.trans H; rw [hy139]; with_reducible exact H2_) | (have H2_ := (Option.bind_some _ _).symm.trans H; with_reducible exact H2_) | with_reducible exact H | (rw [hy139]; exact H) | exact H
         have Ny139 := pA hy139
         clear hy139
         have H' := pA H
         clear H
         have p134 : 0 ≤ (x9_1 : Int) := of_decide_eq_true (by first | (with_reducible assumption) | assumption)
         have q134 : x9_1 < (l0_2.length : Int) := of_decide_eq_true (by first | (with_reducible assumption) | assumption)
         obtain ⟨ad134, e134, hx134_0, hx134_1, hx134_2, hx134_3, hx134_4, hx134_5, hx134_6, hx134_7⟩ := at_T52 HR0_2.out x9_1 p134 q134
         cases e134
         replace hx134_0 := vC HB hx134_0
         replace hx134_1 := vC HB hx134_1
         replace hx134_2 := vC HB hx134_2
         replace hx134_3 := vC HB hx134_3
         replace hx134_4 := vC HB hx134_4
         replace hx134_5 := vC HB hx134_5
         replace hx134_6 := vC HB hx134_6
         replace hx134_7 := vC HB hx134_7
         replace p134 := eq_true p134
         replace q134 := eq_true q134
         go_wp2_with (first | ((with_reducible refine gate_dst (N := 5) rfl ?_); refine box_event ?hg (N := 5) ?hd (cs := #[.int .i64 0, .int .i64 0, .int .i64 0, .int .i64 0, .int .i64 0, .int .i64 0, .int .i64 0, .int .i64 0]) (t := 52) ?hr ?_; (case hd => rfl); (case hg => rfl); (case hr => first | (go_simp; done) | (go_simp; rfl)); intro gb135 hg w12 hbox hb; have n0_ := pA (Kd.R_below (vR HO_3) hb); have n1_ := pA (blk_below (g := gb132) (o := .cells #[.int .i64 a0_0, .int .i64 a0_1, .slice (some ad134) l0_2.length c0_2] 43 (0, 0)) (vK BK132) hb); have n2_ := pA (blk_below (g := gb133) (o := .cells #[.int .i64 0, .int .i64 0] 23 (0, 0)) (vK BK133) hb); have n3_ := pA (below_step (by repeat (first | (with_reducible first | exact HB.out | apply below_alloc | apply pw_below_drewN | apply below_drew1 | refine below_set ?_ GE132.out | refine below_set ?_ GE133.out) | exact HB.out)) hb); have n4_ := pA (hbox); have n5_ := pA ((by rw [hg]; exact (below_size (by repeat (first | (with_reducible first | exact HB.out | apply below_alloc | apply pw_below_drewN | apply below_drew1 | refine below_set ?_ GE132.out | refine below_set ?_ GE133.out) | exact HB.out))) : w.heap.size ≤ gb135)); have n6_ := pA ((by rw [hg]; exact (below_size (by repeat (first | (with_reducible first | exact HB.out | apply below_alloc | apply pw_below_drewN | apply below_drew1 | refine below_set ?_ GE132.out | refine below_set ?_ GE133.out) | exact HB.out))) : w.heap.size ≤ gb135)); have n7_ := pA ((by rw [hg]; exact Nat.ne_of_lt (blk_lt (g := gb132) (o := .cells #[.int .i64 a0_0, .int .i64 a0_1, .slice (some ad134) l0_2.length c0_2] 43 (0, 0)) (vK BK132)) : gb132 ≠ gb135)); have n8_ := pA ((by rw [hg]; exact Nat.ne_of_gt (blk_lt (g := gb132) (o := .cells #[.int .i64 a0_0, .int .i64 a0_1, .slice (some ad134) l0_2.length c0_2] 43 (0, 0)) (vK BK132)) : gb135 ≠ gb132)); have n9_ := pA ((by rw [hg]; exact Nat.ne_of_lt (blk_lt (g := gb133) (o := .cells #[.int .i64 0, .int .i64 0] 23 (0, 0)) (vK BK133)) : gb133 ≠ gb135)); have n10_ := pA ((by rw [hg]; exact Nat.ne_of_gt (blk_lt (g := gb133) (o := .cells #[.int .i64 0, .int .i64 0] 23 (0, 0)) (vK BK133)) : gb135 ≠ gb133)); clear HO_3; clear BK132; clear BK133; clear HB; have HO_3 := n0_; have BK132 := n1_; have BK133 := n2_; have HB := n3_; have BK135 := n4_; have GW135 := n5_; have GE135 := n6_; have NB132_135 := n7_; have NB135_132 := n8_; have NB133_135 := n9_; have NB135_133 := n10_; clear n0_ n1_ n2_ n3_ n4_ n5_ n6_ n7_ n8_ n9_ n10_; clear hb hbox hg; have hnb13 := NB135_132.out; have hnc13 := NB132_135.out; have hnb14 := NB135_133.out; have hnc14 := NB133_135.out; have hcz15_0 : w12.cell? ⟨gb135, 0, none⟩ = some (.int .i64 0) := (blk_cell BK135.out 0).trans rfl; have hcz15_1 : w12.cell? ⟨gb135, 1, none⟩ = some (.int .i64 0) := (blk_cell BK135.out 1).trans rfl; have hcz15_2 : w12.cell? ⟨gb135, 2, none⟩ = some (.int .i64 0) := (blk_cell BK135.out 2).trans rfl; have hcz15_3 : w12.cell? ⟨gb135, 3, none⟩ = some (.int .i64 0) := (blk_cell BK135.out 3).trans rfl; have hcz15_4 : w12.cell? ⟨gb135, 4, none⟩ = some (.int .i64 0) := (blk_cell BK135.out 4).trans rfl; have hcz15_5 : w12.cell? ⟨gb135, 5, none⟩ = some (.int .i64 0) := (blk_cell BK135.out 5).trans rfl; have hcz15_6 : w12.cell? ⟨gb135, 6, none⟩ = some (.int .i64 0) := (blk_cell BK135.out 6).trans rfl; have hcz15_7 : w12.cell? ⟨gb135, 7, none⟩ = some (.int .i64 0) := (blk_cell BK135.out 7).trans rfl; have hfz15_0 := blk_frozen BK135.out 0; have hfz15_1 := blk_frozen BK135.out 1; have hfz15_2 := blk_frozen BK135.out 2; have hfz15_3 := blk_frozen BK135.out 3; have hfz15_4 := blk_frozen BK135.out 4; have hfz15_5 := blk_frozen BK135.out 5; have hfz15_6 := blk_frozen BK135.out 6; have hfz15_7 := blk_frozen BK135.out 7; have hnb16 := NB132_133.out; have hnc16 := NB133_132.out; have hcz17_0 : w12.cell? ⟨gb132, 0, none⟩ = some (.int .i64 a0_0) := (blk_cell BK132.out 0).trans rfl; have hcz17_1 : w12.cell? ⟨gb132, 1, none⟩ = some (.int .i64 a0_1) := (blk_cell BK132.out 1).trans rfl; have hcz17_2 : w12.cell? ⟨gb132, 2, none⟩ = some (.slice (some ad134) l0_2.length c0_2) := (blk_cell BK132.out 2).trans rfl; have hfz17_0 := blk_frozen BK132.out 0; have hfz17_1 := blk_frozen BK132.out 1; have hfz17_2 := blk_frozen BK132.out 2) | ((with_reducible refine aG (b := .append) (xs := #[.tmp 16, .tmp 19]) rfl ?_); at_builtin; refine Kd.R_append k23 (w0 := w) w.heap.size rfl (.tmp 16) (.tmp 19) 57 23 (.agg #[(.int .i64 0), (.int .i64 0)]) 16 rfl Try.underlying57 info23 rfl (by decide) (by omega) u3 x3_1 (⟨a0_0, a0_1⟩ : S23) [.int .i64 a0_0, .int .i64 a0_1] (fun k_ => k_ ≠ gb133) (fun _ => False) rfl (by first | (go_simp; done) | (go_simp; rfl)) ?aP (fun _ hk => hk.elim) ?aF ?aO ?aB ?aS ?aL ?_; (case aP => exact k23_mkM _ _ _ (⟨a0_0, a0_1⟩ : S23)); (case aB => exact (by repeat (first | (with_reducible first | exact HB.out | apply below_alloc | apply pw_below_drewN | apply below_drew1 | refine below_set ?_ GE132.out | refine below_set ?_ GE133.out | refine below_set ?_ GE135.out) | exact HB.out))); (case aF => exact (fun k_ hk => Kd.freshB (g := gb133) (o := .cells #[.int .i64 0, .int .i64 0] 23 (0, 0)) (by (with_reducible repeat refine vS ?_); refine blk_far ?_ NB133_135.out _; (with_reducible repeat refine vS ?_); refine blk_far ?_ NB133_135.out _; (with_reducible repeat refine vS ?_); refine blk_far ?_ NB133_135.out _; (with_reducible repeat refine vS ?_); refine blk_far ?_ NB133_135.out _; (with_reducible repeat refine vS ?_); refine blk_far ?_ NB133_135.out _; (with_reducible repeat refine vS ?_); refine blk_far ?_ NB133_135.out _; (with_reducible repeat refine vS ?_); refine blk_far ?_ NB133_135.out _; (with_reducible repeat refine vS ?_); refine blk_far ?_ NB133_135.out _; (with_reducible repeat refine vS ?_); exact BK133.out) k_ hk)); (case aO => exact (by (with_reducible repeat (first | apply Kd.R_alloc | apply Kd.R_drewN | apply Kd.R_drew)); exact Kd.R_mono (Kd.R_far (p := ⟨gb135, 7, none⟩) (Kd.R_far (p := ⟨gb135, 6, none⟩) (Kd.R_far (p := ⟨gb135, 5, none⟩) (Kd.R_far (p := ⟨gb135, 4, none⟩) (Kd.R_far (p := ⟨gb135, 3, none⟩) (Kd.R_far (p := ⟨gb135, 2, none⟩) (Kd.R_far (p := ⟨gb135, 1, none⟩) (Kd.R_far (p := ⟨gb135, 0, none⟩) (Kd.R_types HO_3.out BK135.out (by decide)) (fun _ hk => hk.2) (.int .i64 ((rd_T52 l0_2 x9_1).f0))) (fun _ hk => hk.2) (.int .i64 ((rd_T52 l0_2 x9_1).f1.f0))) (fun _ hk => hk.2) (.int .i64 ((rd_T52 l0_2 x9_1).f1.f1))) (fun _ hk => hk.2) (.int .i64 ((rd_T52 l0_2 x9_1).f2.f0))) (fun _ hk => hk.2) (.int .i64 ((rd_T52 l0_2 x9_1).f2.f1))) (fun _ hk => hk.2) (.int .i64 ((rd_T52 l0_2 x9_1).f3.f0))) (fun _ hk => hk.2) (.int .i64 ((rd_T52 l0_2 x9_1).f3.f1))) (fun _ hk => hk.2) (.int .i64 ((rd_T52 l0_2 x9_1).f4))) (fun _ hk => hk.1))); (case aS => exact (below_size (by repeat (first | (with_reducible first | exact HB.out | apply below_alloc | apply pw_below_drewN | apply below_drew1 | refine below_set ?_ GE132.out | refine below_set ?_ GE133.out | refine below_set ?_ GE135.out) | exact HB.out)))); (case aL => have := LMc10.out; omega); intro v137 w18 ho hb hg hat; rw [← Ny136.out] at ho; have n0_ := pA (blk_grown (g := gb132) (o := .cells #[.int .i64 a0_0, .int .i64 a0_1, .slice (some ad134) l0_2.length c0_2] 43 (0, 0)) (by (with_reducible repeat refine vS ?_); refine blk_far ?_ NB132_135.out _; (with_reducible repeat refine vS ?_); refine blk_far ?_ NB132_135.out _; (with_reducible repeat refine vS ?_); refine blk_far ?_ NB132_135.out _; (with_reducible repeat refine vS ?_); refine blk_far ?_ NB132_135.out _; (with_reducible repeat refine vS ?_); refine blk_far ?_ NB132_135.out _; (with_reducible repeat refine vS ?_); refine blk_far ?_ NB132_135.out _; (with_reducible repeat refine vS ?_); refine blk_far ?_ NB132_135.out _; (with_reducible repeat refine vS ?_); refine blk_far ?_ NB132_135.out _; (with_reducible repeat refine vS ?_); exact BK132.out) hg (Kd.R_ne HO_3.out BK132.out (by decide))); have n1_ := pA (blk_grown (g := gb133) (o := .cells #[.int .i64 0, .int .i64 0] 23 (0, 0)) (by (with_reducible repeat refine vS ?_); refine blk_far ?_ NB133_135.out _; (with_reducible repeat refine vS ?_); refine blk_far ?_ NB133_135.out _; (with_reducible repeat refine vS ?_); refine blk_far ?_ NB133_135.out _; (with_reducible repeat refine vS ?_); refine blk_far ?_ NB133_135.out _; (with_reducible repeat refine vS ?_); refine blk_far ?_ NB133_135.out _; (with_reducible repeat refine vS ?_); refine blk_far ?_ NB133_135.out _; (with_reducible repeat refine vS ?_); refine blk_far ?_ NB133_135.out _; (with_reducible repeat refine vS ?_); refine blk_far ?_ NB133_135.out _; (with_reducible repeat refine vS ?_); exact BK133.out) hg (Kd.R_away HO_3.out (fun _ hk => hk))); have n2_ := pA (blk_grown (g := gb135) (o := .cells #[.int .i64 ((rd_T52 l0_2 x9_1).f0), .int .i64 ((rd_T52 l0_2 x9_1).f1.f0), .int .i64 ((rd_T52 l0_2 x9_1).f1.f1), .int .i64 ((rd_T52 l0_2 x9_1).f2.f0), .int .i64 ((rd_T52 l0_2 x9_1).f2.f1), .int .i64 ((rd_T52 l0_2 x9_1).f3.f0), .int .i64 ((rd_T52 l0_2 x9_1).f3.f1), .int .i64 ((rd_T52 l0_2 x9_1).f4)] 52 (0, 0)) (by (with_reducible repeat refine vS ?_); refine blk_put (cs := #[.int .i64 ((rd_T52 l0_2 x9_1).f0), .int .i64 ((rd_T52 l0_2 x9_1).f1.f0), .int .i64 ((rd_T52 l0_2 x9_1).f1.f1), .int .i64 ((rd_T52 l0_2 x9_1).f2.f0), .int .i64 ((rd_T52 l0_2 x9_1).f2.f1), .int .i64 ((rd_T52 l0_2 x9_1).f3.f0), .int .i64 ((rd_T52 l0_2 x9_1).f3.f1), .int .i64 0]) ?_ 7 _ rfl; (with_reducible repeat refine vS ?_); refine blk_put (cs := #[.int .i64 ((rd_T52 l0_2 x9_1).f0), .int .i64 ((rd_T52 l0_2 x9_1).f1.f0), .int .i64 ((rd_T52 l0_2 x9_1).f1.f1), .int .i64 ((rd_T52 l0_2 x9_1).f2.f0), .int .i64 ((rd_T52 l0_2 x9_1).f2.f1), .int .i64 ((rd_T52 l0_2 x9_1).f3.f0), .int .i64 0, .int .i64 0]) ?_ 6 _ rfl; (with_reducible repeat refine vS ?_); refine blk_put (cs := #[.int .i64 ((rd_T52 l0_2 x9_1).f0), .int .i64 ((rd_T52 l0_2 x9_1).f1.f0), .int .i64 ((rd_T52 l0_2 x9_1).f1.f1), .int .i64 ((rd_T52 l0_2 x9_1).f2.f0), .int .i64 ((rd_T52 l0_2 x9_1).f2.f1), .int .i64 0, .int .i64 0, .int .i64 0]) ?_ 5 _ rfl; (with_reducible repeat refine vS ?_); refine blk_put (cs := #[.int .i64 ((rd_T52 l0_2 x9_1).f0), .int .i64 ((rd_T52 l0_2 x9_1).f1.f0), .int .i64 ((rd_T52 l0_2 x9_1).f1.f1), .int .i64 ((rd_T52 l0_2 x9_1).f2.f0), .int .i64 0, .int .i64 0, .int .i64 0, .int .i64 0]) ?_ 4 _ rfl; (with_reducible repeat refine vS ?_); refine blk_put (cs := #[.int .i64 ((rd_T52 l0_2 x9_1).f0), .int .i64 ((rd_T52 l0_2 x9_1).f1.f0), .int .i64 ((rd_T52 l0_2 x9_1).f1.f1), .int .i64 0, .int .i64 0, .int .i64 0, .int .i64 0, .int .i64 0]) ?_ 3 _ rfl; (with_reducible repeat refine vS ?_); refine blk_put (cs := #[.int .i64 ((rd_T52 l0_2 x9_1).f0), .int .i64 ((rd_T52 l0_2 x9_1).f1.f0), .int .i64 0, .int .i64 0, .int .i64 0, .int .i64 0, .int .i64 0, .int .i64 0]) ?_ 2 _ rfl; (with_reducible repeat refine vS ?_); refine blk_put (cs := #[.int .i64 ((rd_T52 l0_2 x9_1).f0), .int .i64 0, .int .i64 0, .int .i64 0, .int .i64 0, .int .i64 0, .int .i64 0, .int .i64 0]) ?_ 1 _ rfl; (with_reducible repeat refine vS ?_); refine blk_put (cs := #[.int .i64 0, .int .i64 0, .int .i64 0, .int .i64 0, .int .i64 0, .int .i64 0, .int .i64 0, .int .i64 0]) ?_ 0 _ rfl; (with_reducible repeat refine vS ?_); exact BK135.out) hg (Kd.R_ne HO_3.out BK135.out (by decide))); have n3_ := pA (hb); have n4_ := pA (ho); clear BK132; clear BK133; clear BK135; clear HB; clear HO_3; have BK132 := n0_; have BK133 := n1_; have BK135 := n2_; have HB := n3_; have HO138 := n4_; clear n0_ n1_ n2_ n3_ n4_; clear ho hb hg hat; have hcz19_0 : w18.cell? ⟨gb135, 0, none⟩ = some (.int .i64 ((rd_T52 l0_2 x9_1).f0)) := (blk_cell BK135.out 0).trans rfl; have hcz19_1 : w18.cell? ⟨gb135, 1, none⟩ = some (.int .i64 ((rd_T52 l0_2 x9_1).f1.f0)) := (blk_cell BK135.out 1).trans rfl; have hcz19_2 : w18.cell? ⟨gb135, 2, none⟩ = some (.int .i64 ((rd_T52 l0_2 x9_1).f1.f1)) := (blk_cell BK135.out 2).trans rfl; have hcz19_3 : w18.cell? ⟨gb135, 3, none⟩ = some (.int .i64 ((rd_T52 l0_2 x9_1).f2.f0)) := (blk_cell BK135.out 3).trans rfl; have hcz19_4 : w18.cell? ⟨gb135, 4, none⟩ = some (.int .i64 ((rd_T52 l0_2 x9_1).f2.f1)) := (blk_cell BK135.out 4).trans rfl; have hcz19_5 : w18.cell? ⟨gb135, 5, none⟩ = some (.int .i64 ((rd_T52 l0_2 x9_1).f3.f0)) := (blk_cell BK135.out 5).trans rfl; have hcz19_6 : w18.cell? ⟨gb135, 6, none⟩ = some (.int .i64 ((rd_T52 l0_2 x9_1).f3.f1)) := (blk_cell BK135.out 6).trans rfl; have hcz19_7 : w18.cell? ⟨gb135, 7, none⟩ = some (.int .i64 ((rd_T52 l0_2 x9_1).f4)) := (blk_cell BK135.out 7).trans rfl; have hfz19_0 := blk_frozen BK135.out 0; have hfz19_1 := blk_frozen BK135.out 1; have hfz19_2 := blk_frozen BK135.out 2; have hfz19_3 := blk_frozen BK135.out 3; have hfz19_4 := blk_frozen BK135.out 4; have hfz19_5 := blk_frozen BK135.out 5; have hfz19_6 := blk_frozen BK135.out 6; have hfz19_7 := blk_frozen BK135.out 7) | ((with_reducible refine aG (b := .append) (xs := #[.tmp 21, .tmp 24]) rfl ?_); at_builtin; refine Kd.R_append k23 (w0 := w) w.heap.size rfl (.tmp 21) (.tmp 24) 57 23 (.agg #[(.int .i64 0), (.int .i64 0)]) 16 rfl Try.underlying57 info23 rfl (by decide) (by omega) v137 y136 (⟨(rd_T52 l0_2 x9_1).f3.f0, (rd_T52 l0_2 x9_1).f3.f1⟩ : S23) [.int .i64 ((rd_T52 l0_2 x9_1).f3.f0), .int .i64 ((rd_T52 l0_2 x9_1).f3.f1)] (fun k_ => k_ ≠ gb133) (fun _ => False) rfl rfl ?aP (fun _ hk => hk.elim) ?aF ?aO ?aB ?aS ?aL ?_; (case aP => exact k23_mkM _ _ _ (⟨(rd_T52 l0_2 x9_1).f3.f0, (rd_T52 l0_2 x9_1).f3.f1⟩ : S23)); (case aB => exact (by repeat (first | (with_reducible first | exact HB.out | apply below_alloc | apply pw_below_drewN | apply below_drew1 | refine below_set ?_ GE132.out | refine below_set ?_ GE133.out | refine below_set ?_ GE135.out) | exact HB.out))); (case aF => exact (fun k_ hk => Kd.freshB (g := gb133) (o := .cells #[.int .i64 0, .int .i64 0] 23 (0, 0)) (vK BK133) k_ hk)); (case aO => exact (vR HO138)); (case aS => exact (below_size (by repeat (first | (with_reducible first | exact HB.out | apply below_alloc | apply pw_below_drewN | apply below_drew1 | refine below_set ?_ GE132.out | refine below_set ?_ GE133.out | refine below_set ?_ GE135.out) | exact HB.out)))); (case aL => have := LMc11.out; omega); intro v140 w20 ho hb hg hat; rw [← Ny139.out] at ho; have n0_ := pA (blk_grown (g := gb132) (o := .cells #[.int .i64 a0_0, .int .i64 a0_1, .slice (some ad134) l0_2.length c0_2] 43 (0, 0)) (vK BK132) hg (Kd.R_ne HO138.out BK132.out (by decide))); have n1_ := pA (blk_grown (g := gb133) (o := .cells #[.int .i64 0, .int .i64 0] 23 (0, 0)) (vK BK133) hg (Kd.R_away HO138.out (fun _ hk => hk))); have n2_ := pA (blk_grown (g := gb135) (o := .cells #[.int .i64 ((rd_T52 l0_2 x9_1).f0), .int .i64 ((rd_T52 l0_2 x9_1).f1.f0), .int .i64 ((rd_T52 l0_2 x9_1).f1.f1), .int .i64 ((rd_T52 l0_2 x9_1).f2.f0), .int .i64 ((rd_T52 l0_2 x9_1).f2.f1), .int .i64 ((rd_T52 l0_2 x9_1).f3.f0), .int .i64 ((rd_T52 l0_2 x9_1).f3.f1), .int .i64 ((rd_T52 l0_2 x9_1).f4)] 52 (0, 0)) (vK BK135) hg (Kd.R_ne HO138.out BK135.out (by decide))); have n3_ := pA (hb); have n4_ := pA (ho); clear BK132; clear BK133; clear BK135; clear HB; clear HO138; have BK132 := n0_; have BK133 := n1_; have BK135 := n2_; have HB := n3_; have HO141 := n4_; clear n0_ n1_ n2_ n3_ n4_; clear ho hb hg hat))
         go_roundg k1
         case measure => have := HK1.out; omega
         case rel => exact ⟨(y139), (wrap64 (x9_1 + 1)), (by first | rfl | (simp; done) | (simp [*]; done)), H', ⟨by have := HK1.out; omega⟩, ⟨by (with_reducible repeat (first | apply Kd.R_alloc | apply Kd.R_drewN | apply Kd.R_drew)); exact HO141.out⟩, ⟨by (with_reducible repeat refine vS ?_); exact BK132.out⟩, ⟨by (with_reducible repeat refine vS ?_); exact BK133.out⟩, ⟨by repeat (first | (with_reducible first | exact HB.out | apply below_alloc | apply pw_below_drewN | apply below_drew1 | refine below_set ?_ GE132.out | refine below_set ?_ GE133.out | refine below_set ?_ GE135.out) | exact HB.out)⟩⟩
        ·rw [if_neg c11] at H
         exact absurd H (by simp)
       ·rw [if_neg c10] at H
        exact absurd H (by simp)
      ·rw [if_neg c9] at H
       have c9b0 : decide (0 < x9_1) = false := decide_eq_false c9
       clear c9
       by_cases c21 : x3_1.length < 8796093022208
       ·rw [if_pos c21] at H
        have LMc21 := pA c21
        clear c21
        obtain ⟨y142, hy142⟩ : ∃ y_ : List (S23), y_ = (x3_1 ++ [(⟨(rd_T52 l0_2 x9_1).f3.f0, (rd_T52 l0_2 x9_1).f3.f1⟩ : S23)]) := ⟨_, rfl⟩
        replace H : (bung_height.l0 k1 y142 l0_2 (l0_2.length : Int) (wrap64 (x9_1 + 1)) a0_0 a0_1 l0_2) = some (r1, r2) := by first | (rw [hy142]; with_reducible exact H) | (have H2_ := (Option.bind_some _ _).symm.trans H; rw [hy142]; with_reducible exact H2_) | (have H2_ := (Option.bind_some _ _).symm.trans H; with_reducible exact H2_) | with_reducible exact H | (rw [hy142]; exact H) | exact H
        have Ny142 := pA hy142
        clear hy142
        have H' := pA H
        clear H
        have p134 : 0 ≤ (x9_1 : Int) := of_decide_eq_true (by first | (with_reducible assumption) | assumption)
        have q134 : x9_1 < (l0_2.length : Int) := of_decide_eq_true (by first | (with_reducible assumption) | assumption)
        obtain ⟨ad134, e134, hx134_0, hx134_1, hx134_2, hx134_3, hx134_4, hx134_5, hx134_6, hx134_7⟩ := at_T52 HR0_2.out x9_1 p134 q134
        cases e134
        replace hx134_0 := vC HB hx134_0
        replace hx134_1 := vC HB hx134_1
        replace hx134_2 := vC HB hx134_2
        replace hx134_3 := vC HB hx134_3
        replace hx134_4 := vC HB hx134_4
        replace hx134_5 := vC HB hx134_5
        replace hx134_6 := vC HB hx134_6
        replace hx134_7 := vC HB hx134_7
        replace p134 := eq_true p134
        replace q134 := eq_true q134
        go_wp2_with (first | ((with_reducible refine gate_dst (N := 5) rfl ?_); refine box_event ?hg (N := 5) ?hd (cs := #[.int .i64 0, .int .i64 0, .int .i64 0, .int .i64 0, .int .i64 0, .int .i64 0, .int .i64 0, .int .i64 0]) (t := 52) ?hr ?_; (case hd => rfl); (case hg => rfl); (case hr => first | (go_simp; done) | (go_simp; rfl)); intro gb135 hg w22 hbox hb; have n0_ := pA (Kd.R_below (vR HO_3) hb); have n1_ := pA (blk_below (g := gb132) (o := .cells #[.int .i64 a0_0, .int .i64 a0_1, .slice (some ad134) l0_2.length c0_2] 43 (0, 0)) (vK BK132) hb); have n2_ := pA (blk_below (g := gb133) (o := .cells #[.int .i64 0, .int .i64 0] 23 (0, 0)) (vK BK133) hb); have n3_ := pA (below_step (by repeat (first | (with_reducible first | exact HB.out | apply below_alloc | apply pw_below_drewN | apply below_drew1 | refine below_set ?_ GE132.out | refine below_set ?_ GE133.out) | exact HB.out)) hb); have n4_ := pA (hbox); have n5_ := pA ((by rw [hg]; exact (below_size (by repeat (first | (with_reducible first | exact HB.out | apply below_alloc | apply pw_below_drewN | apply below_drew1 | refine below_set ?_ GE132.out | refine below_set ?_ GE133.out) | exact HB.out))) : w.heap.size ≤ gb135)); have n6_ := pA ((by rw [hg]; exact (below_size (by repeat (first | (with_reducible first | exact HB.out | apply below_alloc | apply pw_below_drewN | apply below_drew1 | refine below_set ?_ GE132.out | refine below_set ?_ GE133.out) | exact HB.out))) : w.heap.size ≤ gb135)); have n7_ := pA ((by rw [hg]; exact Nat.ne_of_lt (blk_lt (g := gb132) (o := .cells #[.int .i64 a0_0, .int .i64 a0_1, .slice (some ad134) l0_2.length c0_2] 43 (0, 0)) (vK BK132)) : gb132 ≠ gb135)); have n8_ := pA ((by rw [hg]; exact Nat.ne_of_gt (blk_lt (g := gb132) (o := .cells #[.int .i64 a0_0, .int .i64 a0_1, .slice (some ad134) l0_2.length c0_2] 43 (0, 0)) (vK BK132)) : gb135 ≠ gb132)); have n9_ := pA ((by rw [hg]; exact Nat.ne_of_lt (blk_lt (g := gb133) (o := .cells #[.int .i64 0, .int .i64 0] 23 (0, 0)) (vK BK133)) : gb133 ≠ gb135)); have n10_ := pA ((by rw [hg]; exact Nat.ne_of_gt (blk_lt (g := gb133) (o := .cells #[.int .i64 0, .int .i64 0] 23 (0, 0)) (vK BK133)) : gb135 ≠ gb133)); clear HO_3; clear BK132; clear BK133; clear HB; have HO_3 := n0_; have BK132 := n1_; have BK133 := n2_; have HB := n3_; have BK135 := n4_; have GW135 := n5_; have GE135 := n6_; have NB132_135 := n7_; have NB135_132 := n8_; have NB133_135 := n9_; have NB135_133 := n10_; clear n0_ n1_ n2_ n3_ n4_ n5_ n6_ n7_ n8_ n9_ n10_; clear hb hbox hg; have hnb23 := NB135_132.out; have hnc23 := NB132_135.out; have hnb24 := NB135_133.out; have hnc24 := NB133_135.out; have hcz25_0 : w22.cell? ⟨gb135, 0, none⟩ = some (.int .i64 0) := (blk_cell BK135.out 0).trans rfl; have hcz25_1 : w22.cell? ⟨gb135, 1, none⟩ = some (.int .i64 0) := (blk_cell BK135.out 1).trans rfl; have hcz25_2 : w22.cell? ⟨gb135, 2, none⟩ = some (.int .i64 0) := (blk_cell BK135.out 2).trans rfl; have hcz25_3 : w22.cell? ⟨gb135, 3, none⟩ = some (.int .i64 0) := (blk_cell BK135.out 3).trans rfl; have hcz25_4 : w22.cell? ⟨gb135, 4, none⟩ = some (.int .i64 0) := (blk_cell BK135.out 4).trans rfl; have hcz25_5 : w22.cell? ⟨gb135, 5, none⟩ = some (.int .i64 0) := (blk_cell BK135.out 5).trans rfl; have hcz25_6 : w22.cell? ⟨gb135, 6, none⟩ = some (.int .i64 0) := (blk_cell BK135.out 6).trans rfl; have hcz25_7 : w22.cell? ⟨gb135, 7, none⟩ = some (.int .i64 0) := (blk_cell BK135.out 7).trans rfl; have hfz25_0 := blk_frozen BK135.out 0; have hfz25_1 := blk_frozen BK135.out 1; have hfz25_2 := blk_frozen BK135.out 2; have hfz25_3 := blk_frozen BK135.out 3; have hfz25_4 := blk_frozen BK135.out 4; have hfz25_5 := blk_frozen BK135.out 5; have hfz25_6 := blk_frozen BK135.out 6; have hfz25_7 := blk_frozen BK135.out 7) | ((with_reducible refine aG (b := .append) (xs := #[.tmp 21, .tmp 24]) rfl ?_); at_builtin; refine Kd.R_append k23 (w0 := w) w.heap.size rfl (.tmp 21) (.tmp 24) 57 23 (.agg #[(.int .i64 0), (.int .i64 0)]) 16 rfl Try.underlying57 info23 rfl (by decide) (by omega) u3 x3_1 (⟨(rd_T52 l0_2 x9_1).f3.f0, (rd_T52 l0_2 x9_1).f3.f1⟩ : S23) [.int .i64 ((rd_T52 l0_2 x9_1).f3.f0), .int .i64 ((rd_T52 l0_2 x9_1).f3.f1)] (fun k_ => k_ ≠ gb133) (fun _ => False) rfl (by first | (go_simp; done) | (go_simp; rfl)) ?aP (fun _ hk => hk.elim) ?aF ?aO ?aB ?aS ?aL ?_; (case aP => exact k23_mkM _ _ _ (⟨(rd_T52 l0_2 x9_1).f3.f0, (rd_T52 l0_2 x9_1).f3.f1⟩ : S23)); (case aB => exact (by repeat (first | (with_reducible first | exact HB.out | apply below_alloc | apply pw_below_drewN | apply below_drew1 | refine below_set ?_ GE132.out | refine below_set ?_ GE133.out | refine below_set ?_ GE135.out) | exact HB.out))); (case aF => exact (fun k_ hk => Kd.freshB (g := gb133) (o := .cells #[.int .i64 0, .int .i64 0] 23 (0, 0)) (by (with_reducible repeat refine vS ?_); refine blk_far ?_ NB133_135.out _; (with_reducible repeat refine vS ?_); refine blk_far ?_ NB133_135.out _; (with_reducible repeat refine vS ?_); refine blk_far ?_ NB133_135.out _; (with_reducible repeat refine vS ?_); refine blk_far ?_ NB133_135.out _; (with_reducible repeat refine vS ?_); refine blk_far ?_ NB133_135.out _; (with_reducible repeat refine vS ?_); refine blk_far ?_ NB133_135.out _; (with_reducible repeat refine vS ?_); refine blk_far ?_ NB133_135.out _; (with_reducible repeat refine vS ?_); refine blk_far ?_ NB133_135.out _; (with_reducible repeat refine vS ?_); exact BK133.out) k_ hk)); (case aO => exact (by (with_reducible repeat (first | apply Kd.R_alloc | apply Kd.R_drewN | apply Kd.R_drew)); exact Kd.R_mono (Kd.R_far (p := ⟨gb135, 7, none⟩) (Kd.R_far (p := ⟨gb135, 6, none⟩) (Kd.R_far (p := ⟨gb135, 5, none⟩) (Kd.R_far (p := ⟨gb135, 4, none⟩) (Kd.R_far (p := ⟨gb135, 3, none⟩) (Kd.R_far (p := ⟨gb135, 2, none⟩) (Kd.R_far (p := ⟨gb135, 1, none⟩) (Kd.R_far (p := ⟨gb135, 0, none⟩) (Kd.R_types HO_3.out BK135.out (by decide)) (fun _ hk => hk.2) (.int .i64 ((rd_T52 l0_2 x9_1).f0))) (fun _ hk => hk.2) (.int .i64 ((rd_T52 l0_2 x9_1).f1.f0))) (fun _ hk => hk.2) (.int .i64 ((rd_T52 l0_2 x9_1).f1.f1))) (fun _ hk => hk.2) (.int .i64 ((rd_T52 l0_2 x9_1).f2.f0))) (fun _ hk => hk.2) (.int .i64 ((rd_T52 l0_2 x9_1).f2.f1))) (fun _ hk => hk.2) (.int .i64 ((rd_T52 l0_2 x9_1).f3.f0))) (fun _ hk => hk.2) (.int .i64 ((rd_T52 l0_2 x9_1).f3.f1))) (fun _ hk => hk.2) (.int .i64 ((rd_T52 l0_2 x9_1).f4))) (fun _ hk => hk.1))); (case aS => exact (below_size (by repeat (first | (with_reducible first | exact HB.out | apply below_alloc | apply pw_below_drewN | apply below_drew1 | refine below_set ?_ GE132.out | refine below_set ?_ GE133.out | refine below_set ?_ GE135.out) | exact HB.out)))); (case aL => have := LMc21.out; omega); intro v143 w26 ho hb hg hat; rw [← Ny142.out] at ho; have n0_ := pA (blk_grown (g := gb132) (o := .cells #[.int .i64 a0_0, .int .i64 a0_1, .slice (some ad134) l0_2.length c0_2] 43 (0, 0)) (by (with_reducible repeat refine vS ?_); refine blk_far ?_ NB132_135.out _; (with_reducible repeat refine vS ?_); refine blk_far ?_ NB132_135.out _; (with_reducible repeat refine vS ?_); refine blk_far ?_ NB132_135.out _; (with_reducible repeat refine vS ?_); refine blk_far ?_ NB132_135.out _; (with_reducible repeat refine vS ?_); refine blk_far ?_ NB132_135.out _; (with_reducible repeat refine vS ?_); refine blk_far ?_ NB132_135.out _; (with_reducible repeat refine vS ?_); refine blk_far ?_ NB132_135.out _; (with_reducible repeat refine vS ?_); refine blk_far ?_ NB132_135.out _; (with_reducible repeat refine vS ?_); exact BK132.out) hg (Kd.R_ne HO_3.out BK132.out (by decide))); have n1_ := pA (blk_grown (g := gb133) (o := .cells #[.int .i64 0, .int .i64 0] 23 (0, 0)) (by (with_reducible repeat refine vS ?_); refine blk_far ?_ NB133_135.out _; (with_reducible repeat refine vS ?_); refine blk_far ?_ NB133_135.out _; (with_reducible repeat refine vS ?_); refine blk_far ?_ NB133_135.out _; (with_reducible repeat refine vS ?_); refine blk_far ?_ NB133_135.out _; (with_reducible repeat refine vS ?_); refine blk_far ?_ NB133_135.out _; (with_reducible repeat refine vS ?_); refine blk_far ?_ NB133_135.out _; (with_reducible repeat refine vS ?_); refine blk_far ?_ NB133_135.out _; (with_reducible repeat refine vS ?_); refine blk_far ?_ NB133_135.out _; (with_reducible repeat refine vS ?_); exact BK133.out) hg (Kd.R_away HO_3.out (fun _ hk => hk))); have n2_ := pA (blk_grown (g := gb135) (o := .cells #[.int .i64 ((rd_T52 l0_2 x9_1).f0), .int .i64 ((rd_T52 l0_2 x9_1).f1.f0), .int .i64 ((rd_T52 l0_2 x9_1).f1.f1), .int .i64 ((rd_T52 l0_2 x9_1).f2.f0), .int .i64 ((rd_T52 l0_2 x9_1).f2.f1), .int .i64 ((rd_T52 l0_2 x9_1).f3.f0), .int .i64 ((rd_T52 l0_2 x9_1).f3.f1), .int .i64 ((rd_T52 l0_2 x9_1).f4)] 52 (0, 0)) (by (with_reducible repeat refine vS ?_); refine blk_put (cs := #[.int .i64 ((rd_T52 l0_2 x9_1).f0), .int .i64 ((rd_T52 l0_2 x9_1).f1.f0), .int .i64 ((rd_T52 l0_2 x9_1).f1.f1), .int .i64 ((rd_T52 l0_2 x9_1).f2.f0), .int .i64 ((rd_T52 l0_2 x9_1).f2.f1), .int .i64 ((rd_T52 l0_2 x9_1).f3.f0), .int .i64 ((rd_T52 l0_2 x9_1).f3.f1), .int .i64 0]) ?_ 7 _ rfl; (with_reducible repeat refine vS ?_); refine blk_put (cs := #[.int .i64 ((rd_T52 l0_2 x9_1).f0), .int .i64 ((rd_T52 l0_2 x9_1).f1.f0), .int .i64 ((rd_T52 l0_2 x9_1).f1.f1), .int .i64 ((rd_T52 l0_2 x9_1).f2.f0), .int .i64 ((rd_T52 l0_2 x9_1).f2.f1), .int .i64 ((rd_T52 l0_2 x9_1).f3.f0), .int .i64 0, .int .i64 0]) ?_ 6 _ rfl; (with_reducible repeat refine vS ?_); refine blk_put (cs := #[.int .i64 ((rd_T52 l0_2 x9_1).f0), .int .i64 ((rd_T52 l0_2 x9_1).f1.f0), .int .i64 ((rd_T52 l0_2 x9_1).f1.f1), .int .i64 ((rd_T52 l0_2 x9_1).f2.f0), .int .i64 ((rd_T52 l0_2 x9_1).f2.f1), .int .i64 0, .int .i64 0, .int .i64 0]) ?_ 5 _ rfl; (with_reducible repeat refine vS ?_); refine blk_put (cs := #[.int .i64 ((rd_T52 l0_2 x9_1).f0), .int .i64 ((rd_T52 l0_2 x9_1).f1.f0), .int .i64 ((rd_T52 l0_2 x9_1).f1.f1), .int .i64 ((rd_T52 l0_2 x9_1).f2.f0), .int .i64 0, .int .i64 0, .int .i64 0, .int .i64 0]) ?_ 4 _ rfl; (with_reducible repeat refine vS ?_); refine blk_put (cs := #[.int .i64 ((rd_T52 l0_2 x9_1).f0), .int .i64 ((rd_T52 l0_2 x9_1).f1.f0), .int .i64 ((rd_T52 l0_2 x9_1).f1.f1), .int .i64 0, .int .i64 0, .int .i64 0, .int .i64 0, .int .i64 0]) ?_ 3 _ rfl; (with_reducible repeat refine vS ?_); refine blk_put (cs := #[.int .i64 ((rd_T52 l0_2 x9_1).f0), .int .i64 ((rd_T52 l0_2 x9_1).f1.f0), .int .i64 0, .int .i64 0, .int .i64 0, .int .i64 0, .int .i64 0, .int .i64 0]) ?_ 2 _ rfl; (with_reducible repeat refine vS ?_); refine blk_put (cs := #[.int .i64 ((rd_T52 l0_2 x9_1).f0), .int .i64 0, .int .i64 0, .int .i64 0, .int .i64 0, .int .i64 0, .int .i64 0, .int .i64 0]) ?_ 1 _ rfl; (with_reducible repeat refine vS ?_); refine blk_put (cs := #[.int .i64 0, .int .i64 0, .int .i64 0, .int .i64 0, .int .i64 0, .int .i64 0, .int .i64 0, .int .i64 0]) ?_ 0 _ rfl; (with_reducible repeat refine vS ?_); exact BK135.out) hg (Kd.R_ne HO_3.out BK135.out (by decide))); have n3_ := pA (hb); have n4_ := pA (ho); clear BK132; clear BK133; clear BK135; clear HB; clear HO_3; have BK132 := n0_; have BK133 := n1_; have BK135 := n2_; have HB := n3_; have HO144 := n4_; clear n0_ n1_ n2_ n3_ n4_; clear ho hb hg hat))
        go_roundg k1
        case measure => have := HK1.out; omega
        case rel => exact ⟨(y142), (wrap64 (x9_1 + 1)), (by first | rfl | (simp; done) | (simp [*]; done)), H', ⟨by have := HK1.out; omega⟩, ⟨by (with_reducible repeat (first | apply Kd.R_alloc | apply Kd.R_drewN | apply Kd.R_drew)); exact HO144.out⟩, ⟨by (with_reducible repeat refine vS ?_); exact BK132.out⟩, ⟨by (with_reducible repeat refine vS ?_); exact BK133.out⟩, ⟨by repeat (first | (with_reducible first | exact HB.out | apply below_alloc | apply pw_below_drewN | apply below_drew1 | refine below_set ?_ GE132.out | refine below_set ?_ GE133.out | refine below_set ?_ GE135.out) | exact HB.out)⟩⟩
       ·rw [if_neg c21] at H
        exact absurd H (by simp)
     ·rw [if_neg c8] at H
      exact absurd H (by simp)
    ·rw [if_neg c7] at H
     exact absurd H (by simp)
   ·rw [if_neg c6] at H
    have c6b0 : decide (x9_1 < (l0_2.length : Int)) = false := decide_eq_false c6
    clear c6
    replace H := Option.bind_eq_some_iff.mp H
    obtain ⟨⟨t145, t146⟩, A270, H⟩ := H
    replace H : (some (t145, t146)) = some (r1, r2) := H
    have A27 := pA A270
    clear A270
    simp only [Option.some.injEq, Prod.mk.injEq] at H
    obtain ⟨rfl, rfl⟩ := H
    obtain ⟨Ao28, co28, eo28⟩ := Kd.R_slice HO_3.out
    subst eo28
    go_wp2_with (first | ((with_reducible refine aF (f := 129) rfl ?_); refine goesL_ (some 28) rfl rfl Try.func129 (by kernel_rfl) rfl #[.slice Ao28 x3_1.length co28] rfl (by (try simp only [pE, pF, pG]); first | done | rfl | (simp only [pH, pI]; rfl)) ?_; (with_reducible refine (bung_sum.calls k1 _ _ x3_1 t145 t146 _ ?side1 ?side2 A27.out).mono ?_); (case side1 => repeat (first | exact (Kd.R_reads' HO_3.out).2.2 | (with_reducible refine Kd.C_alloc ?_ _) | (with_reducible refine Kd.C_drewN ?_ _) | (with_reducible refine Kd.C_drew ?_))); (case side2 => exact (Kd.R_reads' HO_3.out).2.1); rintro e w29 ⟨rfl, hb⟩; refine ⟨_, rfl, ?_⟩; have n0_ := pA (Kd.R_below (vR HO_3) hb); have n1_ := pA (blk_below (g := gb132) (o := .cells #[.int .i64 a0_0, .int .i64 a0_1, .slice A0_2 l0_2.length c0_2] 43 (0, 0)) (vK BK132) hb); have n2_ := pA (blk_below (g := gb133) (o := .cells #[.int .i64 0, .int .i64 0] 23 (0, 0)) (vK BK133) hb); have n3_ := pA (below_step (by repeat (first | (with_reducible first | exact HB.out | apply below_alloc | apply pw_below_drewN | apply below_drew1 | refine below_set ?_ GE132.out | refine below_set ?_ GE133.out) | exact HB.out)) hb); clear HO_3; clear BK132; clear BK133; clear HB; have HO_3 := n0_; have BK132 := n1_; have BK133 := n2_; have HB := n3_; clear n0_ n1_ n2_ n3_; (try clear hb); (try clear hb2); (try clear hk); (try clear hi); have hnb30 := NB133_132.out; have hnc30 := NB132_133.out; have hcz31_0 : w29.cell? ⟨gb133, 0, none⟩ = some (.int .i64 0) := (blk_cell BK133.out 0).trans rfl; have hcz31_1 : w29.cell? ⟨gb133, 1, none⟩ = some (.int .i64 0) := (blk_cell BK133.out 1).trans rfl; have hfz31_0 := blk_frozen BK133.out 0; have hfz31_1 := blk_frozen BK133.out 1))
    refine bodyPost_ret (results_cell_row rfl _ _ gb133 23 #[.int .i64 t145, .int .i64 t146] (0, 0) _ rfl (by (with_reducible repeat refine vS ?_); refine blk_put (cs := #[.int .i64 t145, .int .i64 0]) ?_ 1 _ rfl; (with_reducible repeat refine vS ?_); refine blk_put (cs := #[.int .i64 0, .int .i64 0]) ?_ 0 _ rfl; (with_reducible repeat refine vS ?_); exact BK133.out) Try.underlying23 rfl (by kernel_rfl)) rfl ?_
    exact ⟨by first | rfl | (simp [errW_none, errW_some] <;> rfl) | (simp [*, errW_none, errW_some] <;> rfl), by repeat (first | (with_reducible first | exact HB.out | apply below_alloc | apply pw_below_drewN | apply below_drew1 | refine below_set ?_ GE132.out | refine below_set ?_ GE133.out) | exact HB.out)⟩
def bung_lean.l0 : Nat → Int → Int → Int → Int → Int → List (S52) → Option (Int)
  | 0, _, _, _, _, _, _ => none
  | k + 1, x3, x4, x5, x148000, x148001, x148002 => if x5 > 0 then (if 0 ≤ x5 then (if x5 < (x148002.length : Int) then (bung_lean.l0 k (wrap64 (x3 + (wrap64 (((rd_T52 x148002 x5).f4) * (wrap64 (x4 + ((rd_T52 x148002 x5).f3.f1))))))) (wrap64 ((wrap64 (x4 + ((rd_T52 x148002 x5).f3.f1))) + x148001)) (wrap64 (x5 - 1)) x148000 x148001 x148002) else (none)) else (none)) else (some (wrap64 (Int.tdiv (wrap64 (x3 + 999)) 1000)))
def bung_lean.f (k : Nat) (a0_0 : Int) (a0_1 : Int) (l0_2 : List (S52)) : Option (Int) := bung_lean.l0 k 0 0 (wrap64 ((l0_2.length : Int) - 1)) a0_0 a0_1 l0_2
theorem bung_lean.mono_l : ∀ k, (∀ y0 y1 y2 y3 y4 y5, LeO (bung_lean.l0 k y0 y1 y2 y3 y4 y5) (bung_lean.l0 (k + 1) y0 y1 y2 y3 y4 y5))
 | 0 => fun _ _ _ _ _ _ r h => by simp [bung_lean.l0] at h
 | k + 1 => by
  have ih0 := bung_lean.mono_l k
  ·intro y0 y1 y2 y3 y4 y5
   unfold bung_lean.l0
   repeat' first
   | (with_reducible exact ih0 _ _ _ _ _ _)
   | (with_reducible exact LeO.refl _)
   | (with_reducible exact LeO.none _)
   | (with_reducible refine LeO.ite ?_ ?_)
   | (with_reducible refine LeO.bind ?_ (fun _ => ?_))
   | exact ih0 _ _ _ _ _ _
   | exact LeO.none _
   | refine LeO.ite ?_ ?_
   | refine LeO.bind ?_ (fun _ => ?_)
theorem bung_lean.mono : ∀ a0 a1 a2 k, LeO (bung_lean.f k a0 a1 a2) (bung_lean.f (k + 1) a0 a1 a2) := by
 intro a0 a1 a2 k
 have ih0 := bung_lean.mono_l k
 unfold bung_lean.f
 repeat' first
   | (with_reducible exact ih0 _ _ _ _ _ _)
   | (with_reducible exact LeO.refl _)
   | (with_reducible exact LeO.none _)
   | (with_reducible refine LeO.ite ?_ ?_)
   | (with_reducible refine LeO.bind ?_ (fun _ => ?_))
   | exact ih0 _ _ _ _ _ _
   | exact LeO.none _
   | refine LeO.ite ?_ ?_
   | refine LeO.bind ?_ (fun _ => ?_)
set_option maxHeartbeats 8000000 in
set_option maxRecDepth 100000 in
theorem bung_lean.calls (k : Nat) (a0_0 : Int) (a0_1 : Int) (A0_2 : Option Addr) (c0_2 : Nat) (l0_2 : List (S52)) (r : Int) (w : World) (hr0_2 : Kd.C k52 w A0_2 l0_2.length l0_2) (hc0_2 : l0_2.length ≤ c0_2) (h : bung_lean.f k a0_0 a0_1 l0_2 = some r) :
  Calls Try.prog 84 #[.agg #[.int .i64 a0_0, .int .i64 a0_1, .slice A0_2 l0_2.length c0_2]] w fun e w' => e = .returned (.int .i64 r) ∧ Below w.heap.size w w' := by
 have hu43 := Try.underlying43
 have HR0_2 := pA hr0_2
 have HC0_2 := pA hc0_2
 clear hr0_2 hc0_2
 have HB := pA (Below.refl w.heap.size w)
 have H : (bung_lean.l0 k 0 0 (wrap64 ((l0_2.length : Int) - 1)) a0_0 a0_1 l0_2) = some r := h
 clear h
 have H' := pA H
 clear H
 go_enter Try.func84, Try.ntmps84
 go_wp2_with (first | ((with_reducible refine gate_dst (N := 1) rfl ?_); refine box_event ?hg (N := 1) ?hd (cs := #[.int .i64 a0_0, .int .i64 a0_1, .slice A0_2 l0_2.length c0_2]) (t := 43) ?hr ?_; (case hd => rfl); (case hg => rfl); (case hr => first | (go_simp; done) | (go_simp; rfl)); intro gb147 hg w2 hbox hb; have n0_ := pA (below_step (vB HB) hb); have n1_ := pA (hbox); have n2_ := pA ((by rw [hg]; exact (below_size (vB HB)) : w.heap.size ≤ gb147)); have n3_ := pA ((by rw [hg]; exact (below_size (vB HB)) : w.heap.size ≤ gb147)); clear HB; have HB := n0_; have BK147 := n1_; have GW147 := n2_; have GE147 := n3_; clear n0_ n1_ n2_ n3_; clear hb hbox hg; have hcz3_0 : w2.cell? ⟨gb147, 0, none⟩ = some (.int .i64 a0_0) := (blk_cell BK147.out 0).trans rfl; have hcz3_1 : w2.cell? ⟨gb147, 1, none⟩ = some (.int .i64 a0_1) := (blk_cell BK147.out 1).trans rfl; have hcz3_2 : w2.cell? ⟨gb147, 2, none⟩ = some (.slice A0_2 l0_2.length c0_2) := (blk_cell BK147.out 2).trans rfl; have hfz3_0 := blk_frozen BK147.out 0; have hfz3_1 := blk_frozen BK147.out 1; have hfz3_2 := blk_frozen BK147.out 2))
 go_loopg [3, 4, 5] k (fun kq v3 v4 v5 w' => ∃ (x3_1 : Int) (x4_1 : Int) (x5_1 : Int), v3 = .int .i64 x3_1 ∧ v4 = .int .i64 x4_1 ∧ v5 = .int .i64 x5_1 ∧ Aside0 (bung_lean.l0 kq x3_1 x4_1 x5_1 a0_0 a0_1 l0_2 = some r) ∧ Aside0 (kq ≤ k) ∧ Aside0 (w'.heap[gb147]? = some (.cells #[.int .i64 a0_0, .int .i64 a0_1, (.slice A0_2 l0_2.length c0_2)] 43 (0, 0))) ∧ Aside0 (Below w.heap.size w w'))
 case atStart => exact ⟨(0), (0), (wrap64 ((l0_2.length : Int) - 1)), (by first | rfl | (simp; done) | (simp [*]; done)), (by first | rfl | (simp; done) | (simp [*]; done)), (by first | rfl | (simp; done) | (simp [*]; done)), H', ⟨Nat.le_refl _⟩, ⟨by (with_reducible repeat refine vS ?_); exact BK147.out⟩, ⟨by repeat (first | (with_reducible first | exact HB.out | apply below_alloc | apply pw_below_drewN | apply below_drew1 | refine below_set ?_ GE147.out) | exact HB.out)⟩⟩
 case round =>
  clear H'
  try clear p2
  try clear hcz3_0
  try clear hcz3_1
  try clear hcz3_2
  try clear hfz3_0
  try clear hfz3_1
  try clear hfz3_2
  obtain ⟨x3_1, x4_1, x5_1, rfl, rfl, rfl, HA, HK1, BK147, HB⟩ := hrel
  cases gk with
  | zero => exact absurd HA.out (by simp [bung_lean.l0])
  | succ k1 =>
   have H := HA.out
   clear HA
   simp only [bung_lean.l0] at H
   by_cases c4 : x5_1 > 0
   ·rw [if_pos c4] at H
    have c4b0 : decide (0 < x5_1) = true := decide_eq_true c4
    clear c4
    by_cases c5 : 0 ≤ x5_1
    ·rw [if_pos c5] at H
     have c5b0 : decide (0 ≤ x5_1) = true := decide_eq_true c5
     clear c5
     by_cases c6 : x5_1 < (l0_2.length : Int)
     ·rw [if_pos c6] at H
      have c6b0 : decide (x5_1 < (l0_2.length : Int)) = true := decide_eq_true c6
      clear c6
      have H' := pA H
      clear H
      have hcz7_0 : wr.cell? ⟨gb147, 0, none⟩ = some (.int .i64 a0_0) := (blk_cell BK147.out 0).trans rfl
      have hcz7_1 : wr.cell? ⟨gb147, 1, none⟩ = some (.int .i64 a0_1) := (blk_cell BK147.out 1).trans rfl
      have hcz7_2 : wr.cell? ⟨gb147, 2, none⟩ = some (.slice A0_2 l0_2.length c0_2) := (blk_cell BK147.out 2).trans rfl
      have hfz7_0 := blk_frozen BK147.out 0
      have hfz7_1 := blk_frozen BK147.out 1
      have hfz7_2 := blk_frozen BK147.out 2
      have p148 : 0 ≤ (x5_1 : Int) := of_decide_eq_true (by first | (with_reducible assumption) | assumption)
      have q148 : x5_1 < (l0_2.length : Int) := of_decide_eq_true (by first | (with_reducible assumption) | assumption)
      obtain ⟨ad148, e148, hx148_0, hx148_1, hx148_2, hx148_3, hx148_4, hx148_5, hx148_6, hx148_7⟩ := at_T52 HR0_2.out x5_1 p148 q148
      cases e148
      replace hx148_0 := vC HB hx148_0
      replace hx148_1 := vC HB hx148_1
      replace hx148_2 := vC HB hx148_2
      replace hx148_3 := vC HB hx148_3
      replace hx148_4 := vC HB hx148_4
      replace hx148_5 := vC HB hx148_5
      replace hx148_6 := vC HB hx148_6
      replace hx148_7 := vC HB hx148_7
      replace p148 := eq_true p148
      replace q148 := eq_true q148
      have p149 : 0 ≤ (x5_1 : Int) := of_decide_eq_true (by first | (with_reducible assumption) | assumption)
      have q149 : x5_1 < (l0_2.length : Int) := of_decide_eq_true (by first | (with_reducible assumption) | assumption)
      obtain ⟨ad149, e149, hx149_0, hx149_1, hx149_2, hx149_3, hx149_4, hx149_5, hx149_6, hx149_7⟩ := at_T52 HR0_2.out x5_1 p149 q149
      obtain rfl : ad148 = ad149 := (by injection e149)
      replace hx149_0 := vC HB hx149_0
      replace hx149_1 := vC HB hx149_1
      replace hx149_2 := vC HB hx149_2
      replace hx149_3 := vC HB hx149_3
      replace hx149_4 := vC HB hx149_4
      replace hx149_5 := vC HB hx149_5
      replace hx149_6 := vC HB hx149_6
      replace hx149_7 := vC HB hx149_7
      replace p149 := eq_true p149
      replace q149 := eq_true q149
      go_wp2
      go_roundg k1
      case measure => have := HK1.out; omega
      case rel => exact ⟨(wrap64 (x3_1 + (wrap64 (((rd_T52 l0_2 x5_1).f4) * (wrap64 (x4_1 + ((rd_T52 l0_2 x5_1).f3.f1))))))), (wrap64 ((wrap64 (x4_1 + ((rd_T52 l0_2 x5_1).f3.f1))) + a0_1)), (wrap64 (x5_1 - 1)), (by first | rfl | (simp; done) | (simp [*]; done)), (by first | rfl | (simp; done) | (simp [*]; done)), (by first | rfl | (simp; done) | (simp [*]; done)), H', ⟨by have := HK1.out; omega⟩, ⟨by (with_reducible repeat refine vS ?_); exact BK147.out⟩, ⟨by repeat (first | (with_reducible first | exact HB.out | apply below_alloc | apply pw_below_drewN | apply below_drew1 | refine below_set ?_ GE147.out) | exact HB.out)⟩⟩
     ·rw [if_neg c6] at H
      exact absurd H (by simp)
    ·rw [if_neg c5] at H
     exact absurd H (by simp)
   ·rw [if_neg c4] at H
    have c4b0 : decide (0 < x5_1) = false := decide_eq_false c4
    clear c4
    obtain rfl := Option.some.inj H
    go_wp2
    go_ret
    exact ⟨by first | rfl | (simp [errW_none, errW_some] <;> rfl) | (simp [*, errW_none, errW_some] <;> rfl), by repeat (first | (with_reducible first | exact HB.out | apply below_alloc | apply pw_below_drewN | apply below_drew1 | refine below_set ?_ GE147.out) | exact HB.out)⟩
def bung_fits.j0 : Nat → Int → Bool → Int → Int → List (S52) → Int → Int → Int → Int → Option (Int)
  | 0, _, _, _, _, _, _, _, _, _ => none
  | k + 1, x6, x13, x154000, x154001, x154002, x155000, x155001, x162000, x162001 => if x13 = true then (some 0) else (if x162001 ≤ x155000 then ((bung_lean.f k x154000 x154001 x154002).bind fun t162 => (if t162 ≤ x155001 then (if x6 = 1 then (some 1) else (some 2)) else (some 2))) else (some 2))
def bung_fits.f (k : Nat) (a0_0 : Int) (a0_1 : Int) (l0_2 : List (S52)) (a1_0 : Int) (a1_1 : Int) : Option (Int) := (bung_height.f k a0_0 a0_1 l0_2).bind fun bt155 => ((bung_courses.f k l0_2).bind fun t157 => ((bung_all.f k t157).bind fun t160 => (if bt155.1 > a1_0 then (bung_fits.j0 k t160 true a0_0 a0_1 l0_2 a1_0 a1_1 bt155.1 bt155.2) else (bung_fits.j0 k t160 (t160 == 0) a0_0 a0_1 l0_2 a1_0 a1_1 bt155.1 bt155.2))))
theorem bung_fits.mono_l : ∀ k, (∀ y0 y1 y2 y3 y4 y5 y6 y7 y8, LeO (bung_fits.j0 k y0 y1 y2 y3 y4 y5 y6 y7 y8) (bung_fits.j0 (k + 1) y0 y1 y2 y3 y4 y5 y6 y7 y8))
 | 0 => fun _ _ _ _ _ _ _ _ _ r h => by simp [bung_fits.j0] at h
 | k + 1 => by
  have ih0 := bung_fits.mono_l k
  ·intro y0 y1 y2 y3 y4 y5 y6 y7 y8
   unfold bung_fits.j0
   repeat' first
   | (with_reducible exact ih0 _ _ _ _ _ _ _ _ _)
   | (with_reducible exact bung_all.mono _ _)
   | (with_reducible exact bung_courses.mono _ _)
   | (with_reducible exact bung_height.mono _ _ _ _)
   | (with_reducible exact bung_lean.mono _ _ _ _)
   | (with_reducible exact LeO.refl _)
   | (with_reducible exact LeO.none _)
   | (with_reducible refine LeO.ite ?_ ?_)
   | (with_reducible refine LeO.bind ?_ (fun _ => ?_))
   | exact ih0 _ _ _ _ _ _ _ _ _
   | exact bung_all.mono _ _
   | exact bung_courses.mono _ _
   | exact bung_height.mono _ _ _ _
   | exact bung_lean.mono _ _ _ _
   | exact LeO.none _
   | refine LeO.ite ?_ ?_
   | refine LeO.bind ?_ (fun _ => ?_)
theorem bung_fits.mono : ∀ a0 a1 a2 a3 a4 k, LeO (bung_fits.f k a0 a1 a2 a3 a4) (bung_fits.f (k + 1) a0 a1 a2 a3 a4) := by
 intro a0 a1 a2 a3 a4 k
 have ih0 := bung_fits.mono_l k
 unfold bung_fits.f
 repeat' first
   | (with_reducible exact ih0 _ _ _ _ _ _ _ _ _)
   | (with_reducible exact bung_all.mono _ _)
   | (with_reducible exact bung_courses.mono _ _)
   | (with_reducible exact bung_height.mono _ _ _ _)
   | (with_reducible exact bung_lean.mono _ _ _ _)
   | (with_reducible exact LeO.refl _)
   | (with_reducible exact LeO.none _)
   | (with_reducible refine LeO.ite ?_ ?_)
   | (with_reducible refine LeO.bind ?_ (fun _ => ?_))
   | exact ih0 _ _ _ _ _ _ _ _ _
   | exact bung_all.mono _ _
   | exact bung_courses.mono _ _
   | exact bung_height.mono _ _ _ _
   | exact bung_lean.mono _ _ _ _
   | exact LeO.none _
   | refine LeO.ite ?_ ?_
   | refine LeO.bind ?_ (fun _ => ?_)
def bung_fits.T1 : Bool × List (List Nat × List Nat) := (true, [([], []), ([0], [0]), ([], []), ([2], [2]), ([3, 1], [3]), ([4, 4], [4]), ([], []), ([6, 1, 5, 0, 1, 6], [1, 6]), ([5, 7, 0, 1, 2, 3, 4, 5, 6, 7], [5])])
def bung_fits.B1 : List Nat := [0, 1, 0, 4, 15, 31, 0, 127, 255]
theorem bung_fits.tab1 : rtab .any (opsOf Try.f86 1) = bung_fits.T1 := by kernel_rfl
theorem bung_fits.bits1 : waitsOk bung_fits.T1.2 bung_fits.B1 = true := by kernel_rfl
def bung_fits.T4 : Bool × List (List Nat × List Nat) := (true, [([], []), ([0], [0]), ([], []), ([2], [2]), ([1, 3], [1, 3]), ([4], [4]), ([5], [5]), ([6, 5, 5], [5, 6]), ([5], [5]), ([8, 5], [5, 8]), ([7, 9, 5], [5, 7, 9]), ([5, 10], [5, 10]), ([11, 7], [11]), ([12], [12]), ([13, 12], [12, 13]), ([12, 14], [12, 14]), ([15, 12], [15])])
def bung_fits.B4 : List Nat := [0, 1, 0, 4, 15, 31, 63, 127, 63, 319, 1023, 2047, 4095, 8191, 16383, 32767, 65535]
theorem bung_fits.tab4 : rtab .any (opsOf Try.f86 4) = bung_fits.T4 := by kernel_rfl
theorem bung_fits.bits4 : waitsOk bung_fits.T4.2 bung_fits.B4 = true := by kernel_rfl
end Go.Proofs.Ytbiakjgjedhjhaa.P
