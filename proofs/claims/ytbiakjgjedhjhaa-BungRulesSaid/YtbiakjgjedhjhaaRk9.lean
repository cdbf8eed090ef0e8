/- Proved: the law BungRules of the program potbank answers true for every input, and leaves its arguments as they were. Conditions: none. (Part 9 of the texts, put together by wip/assemble.py of this repository.) -/
import Derived.Test.YtbiakjgjedhjhaaRk8
set_option linter.unusedVariables false
set_option linter.unusedSimpArgs false
namespace Go.Proofs.Ytbiakjgjedhjhaa.P
open Go.RowKit Go.Proofs.YtbiakjgjedhjhaaW.PrintWords Go.Proofs.YtbiakjgjedhjhaaW.PrintLast
set_option maxHeartbeats 8000000 in
set_option maxRecDepth 100000 in
theorem bung_Breaks.calls (k : Nat) (a0_0 : Int) (a0_1 : Int) (A0_2 : Option Addr) (c0_2 : Nat) (l0_2 : List (S52)) (r1 : Int) (r2 : Int) (r3 : List Int) (r4 : Int) (w : World) (hr0_2 : Kd.C k52 w A0_2 l0_2.length l0_2) (hc0_2 : l0_2.length ≤ c0_2) (h : bung_Breaks.f k a0_0 a0_1 l0_2 = some (r1, r2, r3, r4)) :
  Calls Try.prog 53 #[.agg #[.int .i64 a0_0, .int .i64 a0_1, .slice A0_2 l0_2.length c0_2]] w fun e w' => ∃ v2_ : Value, e = .returned (.tuple #[.agg #[.int .i64 r1, .int .i64 r2, v2_], .int .i64 r4]) ∧ Kd.R (Kd.int .i64) 3 w' w.heap.size (fun _ => True) v2_ r3 ∧ Below w.heap.size w w' := by
 have hu43 := Try.underlying43
 have hu75 := Try.underlying75
 have hu52 := Try.underlying52
 have HR0_2 := pA hr0_2
 have HC0_2 := pA hc0_2
 clear hr0_2 hc0_2
 have HB := pA (Below.refl w.heap.size w)
 have H : ((bung_isBung.f a0_0 a0_1 l0_2).bind fun t205 => (if t205 = true then ((bung_courses.f k l0_2).bind fun t206 => (bung_Breaks.l0 k t206 (t206.length : Int) 0 a0_0 a0_1 l0_2)) else (some (0, 0, ([] : List Int), 31)))) = some (r1, r2, r3, r4) := h
 clear h
 replace H := Option.bind_eq_some_iff.mp H
 obtain ⟨t205, A20, H⟩ := H
 replace H : (if t205 = true then ((bung_courses.f k l0_2).bind fun t206 => (bung_Breaks.l0 k t206 (t206.length : Int) 0 a0_0 a0_1 l0_2)) else (some (0, 0, ([] : List Int), 31))) = some (r1, r2, r3, r4) := H
 have A2 := pA A20
 clear A20
 by_cases c3 : t205 = true
 ·subst c3
  have H1 : ((bung_courses.f k l0_2).bind fun t206 => (bung_Breaks.l0 k t206 (t206.length : Int) 0 a0_0 a0_1 l0_2)) = some (r1, r2, r3, r4) := by rw [if_pos rfl] at H; exact H
  clear H
  have H := H1
  clear H1
  replace H := Option.bind_eq_some_iff.mp H
  obtain ⟨t206, A40, H⟩ := H
  replace H : (bung_Breaks.l0 k t206 (t206.length : Int) 0 a0_0 a0_1 l0_2) = some (r1, r2, r3, r4) := H
  have A4 := pA A40
  clear A40
  have H' := pA H
  clear H
  go_enter Try.func53, Try.ntmps53
  go_wp2_with (first | ((with_reducible refine gate_dst (N := 1) rfl ?_); refine box_event ?hg (N := 1) ?hd (cs := #[.int .i64 a0_0, .int .i64 a0_1, .slice A0_2 l0_2.length c0_2]) (t := 43) ?hr ?_; (case hd => rfl); (case hg => rfl); (case hr => first | (go_simp; done) | (go_simp; rfl)); intro gb203 hg w5 hbox hb; have n0_ := pA (below_step (vB HB) hb); have n1_ := pA (hbox); have n2_ := pA ((by rw [hg]; exact (below_size (vB HB)) : w.heap.size ≤ gb203)); have n3_ := pA ((by rw [hg]; exact (below_size (vB HB)) : w.heap.size ≤ gb203)); clear HB; have HB := n0_; have BK203 := n1_; have GW203 := n2_; have GE203 := n3_; clear n0_ n1_ n2_ n3_; clear hb hbox hg) | ((with_reducible refine gate_dst (N := 2) rfl ?_); refine box_event ?hg (N := 2) ?hd (cs := #[.int .i64 0, .int .i64 0, .slice none 0 0]) (t := 75) ?hr ?_; (case hd => rfl); (case hg => rfl); (case hr => first | (go_simp; done) | (go_simp; rfl)); intro gb204 hg w6 hbox hb; have n0_ := pA (blk_below (g := gb203) (o := .cells #[.int .i64 a0_0, .int .i64 a0_1, .slice A0_2 l0_2.length c0_2] 43 (0, 0)) (vK BK203) hb); have n1_ := pA (below_step (by repeat (first | (with_reducible first | exact HB.out | apply below_alloc | apply pw_below_drewN | apply below_drew1 | refine below_set ?_ GE203.out) | exact HB.out)) hb); have n2_ := pA (hbox); have n3_ := pA ((by rw [hg]; exact (below_size (by repeat (first | (with_reducible first | exact HB.out | apply below_alloc | apply pw_below_drewN | apply below_drew1 | refine below_set ?_ GE203.out) | exact HB.out))) : w.heap.size ≤ gb204)); have n4_ := pA ((by rw [hg]; exact (below_size (by repeat (first | (with_reducible first | exact HB.out | apply below_alloc | apply pw_below_drewN | apply below_drew1 | refine below_set ?_ GE203.out) | exact HB.out))) : w.heap.size ≤ gb204)); have n5_ := pA ((by rw [hg]; exact Nat.ne_of_lt (blk_lt (g := gb203) (o := .cells #[.int .i64 a0_0, .int .i64 a0_1, .slice A0_2 l0_2.length c0_2] 43 (0, 0)) (vK BK203)) : gb203 ≠ gb204)); have n6_ := pA ((by rw [hg]; exact Nat.ne_of_gt (blk_lt (g := gb203) (o := .cells #[.int .i64 a0_0, .int .i64 a0_1, .slice A0_2 l0_2.length c0_2] 43 (0, 0)) (vK BK203)) : gb204 ≠ gb203)); clear BK203; clear HB; have BK203 := n0_; have HB := n1_; have BK204 := n2_; have GW204 := n3_; have GE204 := n4_; have NB203_204 := n5_; have NB204_203 := n6_; clear n0_ n1_ n2_ n3_ n4_ n5_ n6_; clear hb hbox hg; have hnb7 := NB203_204.out; have hnc7 := NB204_203.out; have hcz8_0 : w6.cell? ⟨gb203, 0, none⟩ = some (.int .i64 a0_0) := (blk_cell BK203.out 0).trans rfl; have hcz8_1 : w6.cell? ⟨gb203, 1, none⟩ = some (.int .i64 a0_1) := (blk_cell BK203.out 1).trans rfl; have hcz8_2 : w6.cell? ⟨gb203, 2, none⟩ = some (.slice A0_2 l0_2.length c0_2) := (blk_cell BK203.out 2).trans rfl; have hfz8_0 := blk_frozen BK203.out 0; have hfz8_1 := blk_frozen BK203.out 1; have hfz8_2 := blk_frozen BK203.out 2) | ((with_reducible refine aF (f := 80) rfl ?_); refine goesL_ (some 10) rfl rfl Try.func80 (by kernel_rfl) rfl #[.agg #[.int .i64 a0_0, .int .i64 a0_1, .slice A0_2 l0_2.length c0_2]] rfl (by (try simp only [pE, pF, pG]); first | done | rfl | (simp only [pH, pI]; rfl)) ?_; (with_reducible refine (bung_isBung.calls a0_0 a0_1 _ _ l0_2 true _ ?side1 ?side2 A2.out).mono ?_); (case side1 => repeat (first | exact (Kd.C_below HR0_2.out HB.out) | (with_reducible refine Kd.C_alloc ?_ _) | (with_reducible refine Kd.C_drewN ?_ _) | (with_reducible refine Kd.C_drew ?_))); (case side2 => exact HC0_2.out); rintro e w9 ⟨rfl, hb⟩; refine ⟨_, rfl, ?_⟩; have n0_ := pA (blk_below (g := gb203) (o := .cells #[.int .i64 a0_0, .int .i64 a0_1, .slice A0_2 l0_2.length c0_2] 43 (0, 0)) (vK BK203) hb); have n1_ := pA (blk_below (g := gb204) (o := .cells #[.int .i64 0, .int .i64 0, .slice none 0 0] 75 (0, 0)) (vK BK204) hb); have n2_ := pA (below_step (by repeat (first | (with_reducible first | exact HB.out | apply below_alloc | apply pw_below_drewN | apply below_drew1 | refine below_set ?_ GE203.out | refine below_set ?_ GE204.out) | exact HB.out)) hb); clear BK203; clear BK204; clear HB; have BK203 := n0_; have BK204 := n1_; have HB := n2_; clear n0_ n1_ n2_; (try clear hb); (try clear hb2); (try clear hk); (try clear hi); have hcz10_0 : w9.cell? ⟨gb203, 0, none⟩ = some (.int .i64 a0_0) := (blk_cell BK203.out 0).trans rfl; have hcz10_1 : w9.cell? ⟨gb203, 1, none⟩ = some (.int .i64 a0_1) := (blk_cell BK203.out 1).trans rfl; have hcz10_2 : w9.cell? ⟨gb203, 2, none⟩ = some (.slice A0_2 l0_2.length c0_2) := (blk_cell BK203.out 2).trans rfl; have hfz10_0 := blk_frozen BK203.out 0; have hfz10_1 := blk_frozen BK203.out 1; have hfz10_2 := blk_frozen BK203.out 2) | ((with_reducible refine aF (f := 82) rfl ?_); refine goesL_ (some 15) rfl rfl Try.func82 (by kernel_rfl) rfl #[.slice A0_2 l0_2.length c0_2] rfl (by (try simp only [pE, pF, pG]); first | done | rfl | (simp only [pH, pI]; rfl)) ?_; (with_reducible refine (bung_courses.calls k _ _ l0_2 t206 _ ?side1 ?side2 A4.out).mono ?_); (case side1 => repeat (first | exact (Kd.C_below HR0_2.out HB.out) | (with_reducible refine Kd.C_alloc ?_ _) | (with_reducible refine Kd.C_drewN ?_ _) | (with_reducible refine Kd.C_drew ?_))); (case side2 => exact HC0_2.out); rintro e w11 ⟨v207, rfl, ho0, hb⟩; refine ⟨_, rfl, ?_⟩; have n0_ := pA (Kd.R_lower ho0 (below_size (by repeat (first | (with_reducible first | exact HB.out | apply below_alloc | apply pw_below_drewN | apply below_drew1 | refine below_set ?_ GE203.out | refine below_set ?_ GE204.out) | exact HB.out)))); have n1_ := pA (blk_below (g := gb203) (o := .cells #[.int .i64 a0_0, .int .i64 a0_1, .slice A0_2 l0_2.length c0_2] 43 (0, 0)) (vK BK203) hb); have n2_ := pA (blk_below (g := gb204) (o := .cells #[.int .i64 0, .int .i64 0, .slice none 0 0] 75 (0, 0)) (vK BK204) hb); have n3_ := pA (below_step (by repeat (first | (with_reducible first | exact HB.out | apply below_alloc | apply pw_below_drewN | apply below_drew1 | refine below_set ?_ GE203.out | refine below_set ?_ GE204.out) | exact HB.out)) hb); clear BK203; clear BK204; clear HB; have HO208 := n0_; have BK203 := n1_; have BK204 := n2_; have HB := n3_; clear n0_ n1_ n2_ n3_; (try clear hb); (try clear hb2); (try clear hk); (try clear hi); (try clear ho0); obtain ⟨Ao12, co12, eo12⟩ := Kd.R_slice HO208.out; subst eo12))
  go_loopg [17] k (fun kq v17 w' => ∃ (x17_1 : Int) (x205000_1 : Int) (x205001_1 : Int), v17 = .int .i64 x17_1 ∧ Aside0 (bung_Breaks.l0 kq t206 (t206.length : Int) x17_1 a0_0 a0_1 l0_2 = some (r1, r2, r3, r4)) ∧ Aside0 (kq ≤ k) ∧ Aside0 (Kd.R (Kd.int .i64) 3 w' w.heap.size (fun _ => True) (.slice Ao12 t206.length co12) t206) ∧ Aside0 (w'.heap[gb203]? = some (.cells #[.int .i64 a0_0, .int .i64 a0_1, (.slice A0_2 l0_2.length c0_2)] 43 (0, 0))) ∧ Aside0 (w'.heap[gb204]? = some (.cells #[.int .i64 x205000_1, .int .i64 x205001_1, (.slice none 0 0)] 75 (0, 0))) ∧ Aside0 (Below w.heap.size w w'))
  case atStart => exact ⟨(0), (0), (0), (by first | rfl | (simp; done) | (simp [*]; done)), H', ⟨Nat.le_refl _⟩, ⟨by (with_reducible repeat (first | apply Kd.R_alloc | apply Kd.R_drewN | apply Kd.R_drew)); exact HO208.out⟩, ⟨by (with_reducible repeat refine vS ?_); exact BK203.out⟩, ⟨by (with_reducible repeat refine vS ?_); exact BK204.out⟩, ⟨by repeat (first | (with_reducible first | exact HB.out | apply below_alloc | apply pw_below_drewN | apply below_drew1 | refine below_set ?_ GE203.out | refine below_set ?_ GE204.out) | exact HB.out)⟩⟩
  case round =>
   clear H'
   try clear p2
   try clear c3
   try clear c5
   try clear c7
   try clear c8
   try clear hcz10_0
   try clear hcz10_1
   try clear hcz10_2
   try clear hcz8_0
   try clear hcz8_1
   try clear hcz8_2
   try clear hfz10_0
   try clear hfz10_1
   try clear hfz10_2
   try clear hfz8_0
   try clear hfz8_1
   try clear hfz8_2
   obtain ⟨x17_1, x205000_1, x205001_1, rfl, HA, HK1, HO_15, BK203, BK204, HB⟩ := hrel
   cases gk with
   | zero => exact absurd HA.out (by simp [bung_Breaks.l0])
   | succ k1 =>
    have H := HA.out
    clear HA
    simp only [bung_Breaks.l0] at H
    by_cases c13 : x17_1 < (t206.length : Int)
    ·rw [if_pos c13] at H
     have c13b0 : decide (x17_1 < (t206.length : Int)) = true := decide_eq_true c13
     clear c13
     by_cases c14 : 0 ≤ x17_1
     ·rw [if_pos c14] at H
      have c14b0 : decide (0 ≤ x17_1) = true := decide_eq_true c14
      clear c14
      by_cases c15 : x17_1 < (t206.length : Int)
      ·rw [if_pos c15] at H
       have c15b0 : decide (x17_1 < (t206.length : Int)) = true := decide_eq_true c15
       clear c15
       by_cases c16 : (rd t206 x17_1) = 1
       ·rw [if_pos c16] at H
        have c16b0 : ((rd t206 x17_1) == 1) = true := beq_iff_eq.mpr c16
        have c16b1 : ((rd t206 x17_1) != 1) = false := bne_eq_false_iff_eq.mpr c16
        clear c16
        have H' := pA H
        clear H
        have p209 : 0 ≤ (x17_1 : Int) := of_decide_eq_true (by first | (with_reducible assumption) | assumption)
        have q209 : x17_1 < (t206.length : Int) := of_decide_eq_true (by first | (with_reducible assumption) | assumption)
        obtain ⟨ad209, e209, hx209_0⟩ := Kd.at_int (Kd.R_reads' HO_15.out).2.2 x17_1 p209 q209
        cases e209
        replace p209 := eq_true p209
        replace q209 := eq_true q209
        go_wp2
        go_roundg k1
        case measure => have := HK1.out; omega
        case rel => exact ⟨(wrap64 (x17_1 + 1)), (x205000_1), (x205001_1), (by first | rfl | (simp; done) | (simp [*]; done)), H', ⟨by have := HK1.out; omega⟩, ⟨by (with_reducible repeat (first | apply Kd.R_alloc | apply Kd.R_drewN | apply Kd.R_drew)); exact HO_15.out⟩, ⟨by (with_reducible repeat refine vS ?_); exact BK203.out⟩, ⟨by (with_reducible repeat refine vS ?_); exact BK204.out⟩, ⟨by repeat (first | (with_reducible first | exact HB.out | apply below_alloc | apply pw_below_drewN | apply below_drew1 | refine below_set ?_ GE203.out | refine below_set ?_ GE204.out) | exact HB.out)⟩⟩
       ·rw [if_neg c16] at H
        have c16b0 : ((rd t206 x17_1) == 1) = false := beq_eq_false_iff_ne.mpr c16
        have c16b1 : ((rd t206 x17_1) != 1) = true := bne_iff_ne.mpr c16
        by_cases c17 : x17_1 < (l0_2.length : Int)
        ·rw [if_pos c17] at H
         have c17b0 : decide (x17_1 < (l0_2.length : Int)) = true := decide_eq_true c17
         clear c17
         obtain ⟨ji18, hji18⟩ : ∃ j_ : Int, (wrap64 (x17_1 + 1)) = j_ := ⟨_, rfl⟩
         replace H : (if 0 ≤ (ji18) then (if (ji18) ≤ (l0_2.length : Int) then ((some (l0_2.drop ((ji18) : Int).toNat : List (S52))).bind fun y212 => (bung_Breaks.l1 k1 y212 (y212.length : Int) 0 x17_1 ((rd_T52 l0_2 x17_1).f2.f0) ([] : List Int))) else (none)) else (none)) = some (r1, r2, r3, r4) := by first | (rw [hji18] at H; exact H) | (simp only [hji18] at H ⊢; exact H)
         have hji18w : (IntKind.i64.wrap (x17_1 + 1)) = ji18 := (i64_w _).trans hji18
         by_cases c19 : 0 ≤ (ji18)
         ·rw [if_pos c19] at H
          have c19b0 := eq_true c19
          have c19b1 : decide (0 ≤ (ji18)) = true := decide_eq_true c19
          clear c19
          by_cases c20 : (ji18) ≤ (l0_2.length : Int)
          ·rw [if_pos c20] at H
           have c20b0 := eq_true c20
           have c20b1 : decide ((ji18) ≤ (l0_2.length : Int)) = true := decide_eq_true c20
           clear c20
           obtain ⟨y212, hy212⟩ : ∃ y_ : List (S52), y_ = (l0_2.drop ((ji18) : Int).toNat) := ⟨_, rfl⟩
           replace H : (bung_Breaks.l1 k1 y212 (y212.length : Int) 0 x17_1 ((rd_T52 l0_2 x17_1).f2.f0) ([] : List Int)) = some (r1, r2, r3, r4) := by first | (rw [hy212]; with_reducible exact H) | (have H2_ := (Option.bind_some _ _).symm.trans H; rw [hy212]; with_reducible exact H2_) | (have H2_ := (Option.bind_some _ _).symm.trans H; with_reducible exact H2_) | with_reducible exact H | (rw [hy212]; exact H) | exact H
           have Ny212 := pA hy212
           clear hy212
           have H' := pA H
           clear H
           have p209 : 0 ≤ (x17_1 : Int) := of_decide_eq_true (by first | (with_reducible assumption) | assumption)
           have q209 : x17_1 < (t206.length : Int) := of_decide_eq_true (by first | (with_reducible assumption) | assumption)
           obtain ⟨ad209, e209, hx209_0⟩ := Kd.at_int (Kd.R_reads' HO_15.out).2.2 x17_1 p209 q209
           cases e209
           replace p209 := eq_true p209
           replace q209 := eq_true q209
           have hnb21 := NB203_204.out
           have hnc21 := NB204_203.out
           have hcz22_0 : wr.cell? ⟨gb203, 0, none⟩ = some (.int .i64 a0_0) := (blk_cell BK203.out 0).trans rfl
           have hcz22_1 : wr.cell? ⟨gb203, 1, none⟩ = some (.int .i64 a0_1) := (blk_cell BK203.out 1).trans rfl
           have hcz22_2 : wr.cell? ⟨gb203, 2, none⟩ = some (.slice A0_2 l0_2.length c0_2) := (blk_cell BK203.out 2).trans rfl
           have hfz22_0 := blk_frozen BK203.out 0
           have hfz22_1 := blk_frozen BK203.out 1
           have hfz22_2 := blk_frozen BK203.out 2
           have p210 : 0 ≤ (x17_1 : Int) := of_decide_eq_true (by first | (with_reducible assumption) | assumption)
           have q210 : x17_1 < (l0_2.length : Int) := of_decide_eq_true (by first | (with_reducible assumption) | assumption)
           obtain ⟨ad210, e210, hx210_0, hx210_1, hx210_2, hx210_3, hx210_4, hx210_5, hx210_6, hx210_7⟩ := at_T52 HR0_2.out x17_1 p210 q210
           cases e210
           replace hx210_0 := vC HB hx210_0
           replace hx210_1 := vC HB hx210_1
           replace hx210_2 := vC HB hx210_2
           replace hx210_3 := vC HB hx210_3
           replace hx210_4 := vC HB hx210_4
           replace hx210_5 := vC HB hx210_5
           replace hx210_6 := vC HB hx210_6
           replace hx210_7 := vC HB hx210_7
           replace p210 := eq_true p210
           replace q210 := eq_true q210
           go_wp2_with (first | ((with_reducible refine gate_dst (N := 6) rfl ?_); refine box_event ?hg (N := 6) ?hd (cs := #[.int .i64 0, .int .i64 0, .slice none 0 0]) (t := 75) ?hr ?_; (case hd => rfl); (case hg => rfl); (case hr => first | (go_simp; done) | (go_simp; rfl)); intro gb211 hg w23 hbox hb; have n0_ := pA (Kd.R_below (vR HO_15) hb); have n1_ := pA (blk_below (g := gb203) (o := .cells #[.int .i64 a0_0, .int .i64 a0_1, .slice (some ad210) l0_2.length c0_2] 43 (0, 0)) (vK BK203) hb); have n2_ := pA (blk_below (g := gb204) (o := .cells #[.int .i64 x205000_1, .int .i64 x205001_1, .slice none 0 0] 75 (0, 0)) (vK BK204) hb); have n3_ := pA (below_step (by repeat (first | (with_reducible first | exact HB.out | apply below_alloc | apply pw_below_drewN | apply below_drew1 | refine below_set ?_ GE203.out | refine below_set ?_ GE204.out) | exact HB.out)) hb); have n4_ := pA (hbox); have n5_ := pA ((by rw [hg]; exact (below_size (by repeat (first | (with_reducible first | exact HB.out | apply below_alloc | apply pw_below_drewN | apply below_drew1 | refine below_set ?_ GE203.out | refine below_set ?_ GE204.out) | exact HB.out))) : w.heap.size ≤ gb211)); have n6_ := pA ((by rw [hg]; exact (below_size (by repeat (first | (with_reducible first | exact HB.out | apply below_alloc | apply pw_below_drewN | apply below_drew1 | refine below_set ?_ GE203.out | refine below_set ?_ GE204.out) | exact HB.out))) : w.heap.size ≤ gb211)); have n7_ := pA ((by rw [hg]; exact Nat.ne_of_lt (blk_lt (g := gb203) (o := .cells #[.int .i64 a0_0, .int .i64 a0_1, .slice (some ad210) l0_2.length c0_2] 43 (0, 0)) (vK BK203)) : gb203 ≠ gb211)); have n8_ := pA ((by rw [hg]; exact Nat.ne_of_gt (blk_lt (g := gb203) (o := .cells #[.int .i64 a0_0, .int .i64 a0_1, .slice (some ad210) l0_2.length c0_2] 43 (0, 0)) (vK BK203)) : gb211 ≠ gb203)); have n9_ := pA ((by rw [hg]; exact Nat.ne_of_lt (blk_lt (g := gb204) (o := .cells #[.int .i64 x205000_1, .int .i64 x205001_1, .slice none 0 0] 75 (0, 0)) (vK BK204)) : gb204 ≠ gb211)); have n10_ := pA ((by rw [hg]; exact Nat.ne_of_gt (blk_lt (g := gb204) (o := .cells #[.int .i64 x205000_1, .int .i64 x205001_1, .slice none 0 0] 75 (0, 0)) (vK BK204)) : gb211 ≠ gb204)); clear HO_15; clear BK203; clear BK204; clear HB; have HO_15 := n0_; have BK203 := n1_; have BK204 := n2_; have HB := n3_; have BK211 := n4_; have GW211 := n5_; have GE211 := n6_; have NB203_211 := n7_; have NB211_203 := n8_; have NB204_211 := n9_; have NB211_204 := n10_; clear n0_ n1_ n2_ n3_ n4_ n5_ n6_ n7_ n8_ n9_ n10_; clear hb hbox hg; have hnb24 := NB211_203.out; have hnc24 := NB203_211.out; have hnb25 := NB211_204.out; have hnc25 := NB204_211.out; have hcz26_0 : w23.cell? ⟨gb211, 0, none⟩ = some (.int .i64 0) := (blk_cell BK211.out 0).trans rfl; have hcz26_1 : w23.cell? ⟨gb211, 1, none⟩ = some (.int .i64 0) := (blk_cell BK211.out 1).trans rfl; have hcz26_2 : w23.cell? ⟨gb211, 2, none⟩ = some (.slice none 0 0) := (blk_cell BK211.out 2).trans rfl; have hfz26_0 := blk_frozen BK211.out 0; have hfz26_1 := blk_frozen BK211.out 1; have hfz26_2 := blk_frozen BK211.out 2) | ((with_reducible refine gate_store (t := 75) (p := 6) rfl ?_); refine store_event (t := 75) (p := 6) (v := ?vo_w27) (w1 := (((w23.setCell ⟨gb211, 0, none⟩ (.int .i64 x17_1)).setCell ⟨gb211, 1, none⟩ (.int .i64 ((rd_T52 l0_2 x17_1).f2.f0))).setCell ⟨gb211, 2, none⟩ (.slice none 0 0))) ?hg ?ho ?hn ?hr ?_; (case ho => rfl); (case hg => rfl); (case hn => rfl); (case hr => first | (go_simp; done) | (go_simp; rfl)); intro w27 hw; have n0_ : Aside0 (Kd.R (Kd.int .i64) 3 w27 w.heap.size (fun _ => True) (.slice (some ad209) t206.length co12) t206) := ⟨(by rw [hw]; exact (by (with_reducible repeat (first | apply Kd.R_alloc | apply Kd.R_drewN | apply Kd.R_drew)); exact Kd.R_mono (Kd.R_far (p := ⟨gb211, 2, none⟩) (Kd.R_far (p := ⟨gb211, 1, none⟩) (Kd.R_far (p := ⟨gb211, 0, none⟩) (Kd.R_types HO_15.out BK211.out (by decide)) (fun _ hk => hk.2) (.int .i64 x17_1)) (fun _ hk => hk.2) (.int .i64 ((rd_T52 l0_2 x17_1).f2.f0))) (fun _ hk => hk.2) (.slice none 0 0)) (fun _ hk => trivial)))⟩; have n1_ : Aside0 (w27.heap[gb203]? = some (.cells #[.int .i64 a0_0, .int .i64 a0_1, .slice (some ad210) l0_2.length c0_2] 43 (0, 0))) := ⟨(by rw [hw]; exact (by (with_reducible repeat refine vS ?_); refine blk_far ?_ NB203_211.out _; (with_reducible repeat refine vS ?_); refine blk_far ?_ NB203_211.out _; (with_reducible repeat refine vS ?_); refine blk_far ?_ NB203_211.out _; (with_reducible repeat refine vS ?_); exact BK203.out))⟩; have n2_ : Aside0 (w27.heap[gb204]? = some (.cells #[.int .i64 x205000_1, .int .i64 x205001_1, .slice none 0 0] 75 (0, 0))) := ⟨(by rw [hw]; exact (by (with_reducible repeat refine vS ?_); refine blk_far ?_ NB204_211.out _; (with_reducible repeat refine vS ?_); refine blk_far ?_ NB204_211.out _; (with_reducible repeat refine vS ?_); refine blk_far ?_ NB204_211.out _; (with_reducible repeat refine vS ?_); exact BK204.out))⟩; have n3_ : Aside0 (w27.heap[gb211]? = some (.cells #[.int .i64 x17_1, .int .i64 ((rd_T52 l0_2 x17_1).f2.f0), .slice none 0 0] 75 (0, 0))) := ⟨(by rw [hw]; exact (by (with_reducible repeat refine vS ?_); refine blk_put (cs := #[.int .i64 x17_1, .int .i64 ((rd_T52 l0_2 x17_1).f2.f0), .slice none 0 0]) ?_ 2 _ rfl; (with_reducible repeat refine vS ?_); refine blk_put (cs := #[.int .i64 x17_1, .int .i64 0, .slice none 0 0]) ?_ 1 _ rfl; (with_reducible repeat refine vS ?_); refine blk_put (cs := #[.int .i64 0, .int .i64 0, .slice none 0 0]) ?_ 0 _ rfl; (with_reducible repeat refine vS ?_); exact BK211.out))⟩; have n4_ : Aside0 (Below w.heap.size w w27) := ⟨(by rw [hw]; exact (by repeat (first | (with_reducible first | exact HB.out | apply below_alloc | apply pw_below_drewN | apply below_drew1 | refine below_set ?_ GE203.out | refine below_set ?_ GE204.out | refine below_set ?_ GE211.out) | exact HB.out)))⟩; clear hw; clear HO_15; clear BK203; clear BK204; clear BK211; clear HB; have HO_15 := n0_; have BK203 := n1_; have BK204 := n2_; have BK211 := n3_; have HB := n4_; clear n0_ n1_ n2_ n3_ n4_; have hcz28_0 : w27.cell? ⟨gb203, 0, none⟩ = some (.int .i64 a0_0) := (blk_cell BK203.out 0).trans rfl; have hcz28_1 : w27.cell? ⟨gb203, 1, none⟩ = some (.int .i64 a0_1) := (blk_cell BK203.out 1).trans rfl; have hcz28_2 : w27.cell? ⟨gb203, 2, none⟩ = some (.slice (some ad210) l0_2.length c0_2) := (blk_cell BK203.out 2).trans rfl; have hfz28_0 := blk_frozen BK203.out 0; have hfz28_1 := blk_frozen BK203.out 1; have hfz28_2 := blk_frozen BK203.out 2; have q29 : ((ji18) : Int) ≤ ((l0_2.length : Int) : Int) := of_decide_eq_true (by first | (with_reducible assumption) | assumption); obtain ⟨i029, hi029, _, hsz29, _⟩ := info_parts info52; have hroom29 : l0_2.length ≤ c0_2 := HC0_2.out; have hC29 : Kd.C k52 _ (some ad210) l0_2.length l0_2 := HR0_2.out; have q029 : (0 : Int) ≤ ((ji18) : Int) := of_decide_eq_true (by first | (with_reducible assumption) | assumption); have hcut29 := cut_from (P := Try.prog) 24 52 .i64 Try.underlying24 hi029 8 hsz29 (some ad210) l0_2.length c0_2 (ji18) q029 q29; have hr29 := Kd.C_drop (m := ((ji18) : Int).toNat) (c := c0_2) hC29 (by omega) hroom29; obtain ⟨A29, hA29⟩ : ∃ A1, A1 = (if c0_2 = ((ji18) : Int).toNat then (some ad210) else ((some ad210) : Option Addr).map (·.add (((ji18) : Int).toNat * 8))) := ⟨_, rfl⟩; obtain ⟨c29, hc29⟩ : ∃ c1, c1 = c0_2 - ((ji18) : Int).toNat := ⟨_, rfl⟩; have hy29 : y212.length = l0_2.length - ((ji18) : Int).toNat := (by rw [Ny212.out, List.length_drop] <;> omega); rw [show (l0_2).drop ((ji18) : Int).toNat = y212 from Ny212.out.symm] at hr29; replace hr29 : Kd.C k52 _ A29 y212.length y212 := (by rw [hA29]; exact hr29); rw [← hy29, ← hA29, ← hc29] at hcut29; have HR215 := pA hr29; have HC215 := pA (show y212.length ≤ c29 from by rw [hy29, hc29]; exact Nat.sub_le_sub_right hroom29 _); clear hr29 hC29 hroom29 hi029 hsz29 hc29; have KY29 := pA hy29; have KA29 := pA hA29; clear hy29 hA29; replace q29 := eq_true q29))
           go_loopg [39] k1 (fun kq v39 w' => ∃ (x39_2 : Int) (x212002_2 : List Int) (u212002 : Value), v39 = .int .i64 x39_2 ∧ Aside0 (bung_Breaks.l1 kq y212 (y212.length : Int) x39_2 x17_1 ((rd_T52 l0_2 x17_1).f2.f0) x212002_2 = some (r1, r2, r3, r4)) ∧ Aside0 (kq ≤ k1) ∧ Aside0 (Kd.R (Kd.int .i64) 3 w' w.heap.size (fun _ => True) u212002 x212002_2) ∧ Aside0 (w'.heap[gb203]? = some (.cells #[.int .i64 a0_0, .int .i64 a0_1, (.slice (some ad210) l0_2.length c0_2)] 43 (0, 0))) ∧ Aside0 (w'.heap[gb204]? = some (.cells #[.int .i64 x205000_1, .int .i64 x205001_1, (.slice none 0 0)] 75 (0, 0))) ∧ Aside0 (w'.heap[gb211]? = some (.cells #[.int .i64 x17_1, .int .i64 ((rd_T52 l0_2 x17_1).f2.f0), u212002] 75 (0, 0))) ∧ Aside0 (Below w.heap.size w w'))
           case atStart => exact ⟨(0), (([] : List Int)), (.slice none 0 0), (by first | rfl | (simp; done) | (simp [*]; done)), H', ⟨Nat.le_refl _⟩, ⟨by first | exact Kd.R_nil _ _ _ _ _ | exact Kd.N_nil _ _ _ _ _ | exact Kd.V_nil _ _ _ _ _ | exact Kd.Q_nil _ _ _ _ _ | exact Kd.S_nil _ _ _ _ _⟩, ⟨by (with_reducible repeat refine vS ?_); exact BK203.out⟩, ⟨by (with_reducible repeat refine vS ?_); exact BK204.out⟩, ⟨by (with_reducible repeat refine vS ?_); exact BK211.out⟩, ⟨by repeat (first | (with_reducible first | exact HB.out | apply below_alloc | apply pw_below_drewN | apply below_drew1 | refine below_set ?_ GE203.out | refine below_set ?_ GE204.out | refine below_set ?_ GE211.out) | exact HB.out)⟩⟩
           case round =>
            clear H'
            try clear c1
            try clear c2
            try clear p2
            try clear q2
            try clear hx2
            try clear c3
            try clear c5
            try clear p6
            try clear c7
            try clear c8
            try clear c13
            try clear c13b0
            try clear c14
            try clear c14b0
            try clear c15
            try clear c15b0
            try clear c16
            try clear c16b0
            try clear c16b1
            try clear c17
            try clear c17b0
            try clear c19
            try clear c19b0
            try clear c19b1
            try clear c20
            try clear c20b0
            try clear c20b1
            try clear p20
            try clear q20
            try clear hx20
            try clear c21
            try clear p21
            try clear q21
            try clear hx21
            try clear c24
            try clear c25
            try clear c29
            try clear q29
            try clear hcz10_0
            try clear hcz10_1
            try clear hcz10_2
            try clear hcz22_0
            try clear hcz22_1
            try clear hcz22_2
            try clear hcz26_0
            try clear hcz26_1
            try clear hcz26_2
            try clear hcz28_0
            try clear hcz28_1
            try clear hcz28_2
            try clear hcz8_0
            try clear hcz8_1
            try clear hcz8_2
            try clear hfz10_0
            try clear hfz10_1
            try clear hfz10_2
            try clear hfz22_0
            try clear hfz22_1
            try clear hfz22_2
            try clear hfz26_0
            try clear hfz26_1
            try clear hfz26_2
            try clear hfz28_0
            try clear hfz28_1
            try clear hfz28_2
            try clear hfz8_0
            try clear hfz8_1
            try clear hfz8_2
            try clear hx209_0
            try clear hx210_0
            try clear hx210_1
            try clear hx210_2
            try clear hx210_3
            try clear hx210_4
            try clear hx210_5
            try clear hx210_6
            try clear hx210_7
            try clear p2
            try clear p209
            try clear p210
            try clear q029
            try clear q209
            try clear q210
            try clear q29
            obtain ⟨x39_2, x212002_2, u212002, rfl, HA, HK2, HO_212002, BK203, BK204, BK211, HB⟩ := hrel
            cases gk with
            | zero => exact absurd HA.out (by simp [bung_Breaks.l1])
            | succ k2 =>
             have H := HA.out
             clear HA
             simp only [bung_Breaks.l1] at H
             by_cases c30 : x39_2 < (y212.length : Int)
             ·rw [if_pos c30] at H
              have c30b0 : decide (x39_2 < (y212.length : Int)) = true := decide_eq_true c30
              clear c30
              by_cases c31 : 0 ≤ x39_2
              ·rw [if_pos c31] at H
               have c31b0 : decide (0 ≤ x39_2) = true := decide_eq_true c31
               clear c31
               by_cases c32 : x39_2 < (y212.length : Int)
               ·rw [if_pos c32] at H
                have c32b0 : decide (x39_2 < (y212.length : Int)) = true := decide_eq_true c32
                clear c32
                by_cases c33 : x212002_2.length < 17592186044416
                ·rw [if_pos c33] at H
                 have LMc33 := pA c33
                 clear c33
                 obtain ⟨y218, hy218⟩ : ∃ y_ : List Int, y_ = (x212002_2 ++ [(rd_T52 y212 x39_2).f1.f1]) := ⟨_, rfl⟩
                 replace H : (bung_Breaks.l1 k2 y212 (y212.length : Int) (wrap64 (x39_2 + 1)) x17_1 ((rd_T52 l0_2 x17_1).f2.f0) y218) = some (r1, r2, r3, r4) := by first | (rw [hy218]; with_reducible exact H) | (have H2_ := (Option.bind_some _ _).symm.trans H; rw [hy218]; with_reducible exact H2_) | (have H2_ := (Option.bind_some _ _).symm.trans H; with_reducible exact H2_) | with_reducible exact H | (rw [hy218]; exact H) | exact H
                 have Ny218 := pA hy218
                 clear hy218
                 have H' := pA H
                 clear H
                 have p216 : 0 ≤ (x39_2 : Int) := of_decide_eq_true (by first | (with_reducible assumption) | assumption)
                 have q216 : x39_2 < (y212.length : Int) := of_decide_eq_true (by first | (with_reducible assumption) | assumption)
                 obtain ⟨ad216, e216, hx216_0, hx216_1, hx216_2, hx216_3, hx216_4, hx216_5, hx216_6, hx216_7⟩ := at_T52 HR215.out x39_2 p216 q216
                 cases e216
                 replace hx216_0 := vC HB hx216_0
                 replace hx216_1 := vC HB hx216_1
                 replace hx216_2 := vC HB hx216_2
                 replace hx216_3 := vC HB hx216_3
                 replace hx216_4 := vC HB hx216_4
                 replace hx216_5 := vC HB hx216_5
                 replace hx216_6 := vC HB hx216_6
                 replace hx216_7 := vC HB hx216_7
                 replace p216 := eq_true p216
                 replace q216 := eq_true q216
                 go_wp2_with (first | ((with_reducible refine gate_dst (N := 8) rfl ?_); refine box_event ?hg (N := 8) ?hd (cs := #[.int .i64 0, .int .i64 0, .int .i64 0, .int .i64 0, .int .i64 0, .int .i64 0, .int .i64 0, .int .i64 0]) (t := 52) ?hr ?_; (case hd => rfl); (case hg => rfl); (case hr => first | (go_simp; done) | (go_simp; rfl)); intro gb217 hg w34 hbox hb; have n0_ := pA (Kd.R_below (vR HO_212002) hb); have n1_ := pA (blk_below (g := gb203) (o := .cells #[.int .i64 a0_0, .int .i64 a0_1, .slice (some ad210) l0_2.length c0_2] 43 (0, 0)) (vK BK203) hb); have n2_ := pA (blk_below (g := gb204) (o := .cells #[.int .i64 x205000_1, .int .i64 x205001_1, .slice none 0 0] 75 (0, 0)) (vK BK204) hb); have n3_ := pA (blk_below (g := gb211) (o := .cells #[.int .i64 x17_1, .int .i64 ((rd_T52 l0_2 x17_1).f2.f0), u212002] 75 (0, 0)) (vK BK211) hb); have n4_ := pA (below_step (by repeat (first | (with_reducible first | exact HB.out | apply below_alloc | apply pw_below_drewN | apply below_drew1 | refine below_set ?_ GE203.out | refine below_set ?_ GE204.out | refine below_set ?_ GE211.out) | exact HB.out)) hb); have n5_ := pA (hbox); have n6_ := pA ((by rw [hg]; exact (below_size (by repeat (first | (with_reducible first | exact HB.out | apply below_alloc | apply pw_below_drewN | apply below_drew1 | refine below_set ?_ GE203.out | refine below_set ?_ GE204.out | refine below_set ?_ GE211.out) | exact HB.out))) : w.heap.size ≤ gb217)); have n7_ := pA ((by rw [hg]; exact (below_size (by repeat (first | (with_reducible first | exact HB.out | apply below_alloc | apply pw_below_drewN | apply below_drew1 | refine below_set ?_ GE203.out | refine below_set ?_ GE204.out | refine below_set ?_ GE211.out) | exact HB.out))) : w.heap.size ≤ gb217)); have n8_ := pA ((by rw [hg]; exact Nat.ne_of_lt (blk_lt (g := gb203) (o := .cells #[.int .i64 a0_0, .int .i64 a0_1, .slice (some ad210) l0_2.length c0_2] 43 (0, 0)) (vK BK203)) : gb203 ≠ gb217)); have n9_ := pA ((by rw [hg]; exact Nat.ne_of_gt (blk_lt (g := gb203) (o := .cells #[.int .i64 a0_0, .int .i64 a0_1, .slice (some ad210) l0_2.length c0_2] 43 (0, 0)) (vK BK203)) : gb217 ≠ gb203)); have n10_ := pA ((by rw [hg]; exact Nat.ne_of_lt (blk_lt (g := gb204) (o := .cells #[.int .i64 x205000_1, .int .i64 x205001_1, .slice none 0 0] 75 (0, 0)) (vK BK204)) : gb204 ≠ gb217)); have n11_ := pA ((by rw [hg]; exact Nat.ne_of_gt (blk_lt (g := gb204) (o := .cells #[.int .i64 x205000_1, .int .i64 x205001_1, .slice none 0 0] 75 (0, 0)) (vK BK204)) : gb217 ≠ gb204)); have n12_ := pA ((by rw [hg]; exact Nat.ne_of_lt (blk_lt (g := gb211) (o := .cells #[.int .i64 x17_1, .int .i64 ((rd_T52 l0_2 x17_1).f2.f0), u212002] 75 (0, 0)) (vK BK211)) : gb211 ≠ gb217)); have n13_ := pA ((by rw [hg]; exact Nat.ne_of_gt (blk_lt (g := gb211) (o := .cells #[.int .i64 x17_1, .int .i64 ((rd_T52 l0_2 x17_1).f2.f0), u212002] 75 (0, 0)) (vK BK211)) : gb217 ≠ gb211)); clear HO_212002; clear BK203; clear BK204; clear BK211; clear HB; have HO_212002 := n0_; have BK203 := n1_; have BK204 := n2_; have BK211 := n3_; have HB := n4_; have BK217 := n5_; have GW217 := n6_; have GE217 := n7_; have NB203_217 := n8_; have NB217_203 := n9_; have NB204_217 := n10_; have NB217_204 := n11_; have NB211_217 := n12_; have NB217_211 := n13_; clear n0_ n1_ n2_ n3_ n4_ n5_ n6_ n7_ n8_ n9_ n10_ n11_ n12_ n13_; clear hb hbox hg; have hnb35 := NB217_203.out; have hnc35 := NB203_217.out; have hnb36 := NB217_204.out; have hnc36 := NB204_217.out; have hnb37 := NB217_211.out; have hnc37 := NB211_217.out; have hcz38_0 : w34.cell? ⟨gb217, 0, none⟩ = some (.int .i64 0) := (blk_cell BK217.out 0).trans rfl; have hcz38_1 : w34.cell? ⟨gb217, 1, none⟩ = some (.int .i64 0) := (blk_cell BK217.out 1).trans rfl; have hcz38_2 : w34.cell? ⟨gb217, 2, none⟩ = some (.int .i64 0) := (blk_cell BK217.out 2).trans rfl; have hcz38_3 : w34.cell? ⟨gb217, 3, none⟩ = some (.int .i64 0) := (blk_cell BK217.out 3).trans rfl; have hcz38_4 : w34.cell? ⟨gb217, 4, none⟩ = some (.int .i64 0) := (blk_cell BK217.out 4).trans rfl; have hcz38_5 : w34.cell? ⟨gb217, 5, none⟩ = some (.int .i64 0) := (blk_cell BK217.out 5).trans rfl; have hcz38_6 : w34.cell? ⟨gb217, 6, none⟩ = some (.int .i64 0) := (blk_cell BK217.out 6).trans rfl; have hcz38_7 : w34.cell? ⟨gb217, 7, none⟩ = some (.int .i64 0) := (blk_cell BK217.out 7).trans rfl; have hfz38_0 := blk_frozen BK217.out 0; have hfz38_1 := blk_frozen BK217.out 1; have hfz38_2 := blk_frozen BK217.out 2; have hfz38_3 := blk_frozen BK217.out 3; have hfz38_4 := blk_frozen BK217.out 4; have hfz38_5 := blk_frozen BK217.out 5; have hfz38_6 := blk_frozen BK217.out 6; have hfz38_7 := blk_frozen BK217.out 7; have hnb39 := NB211_203.out; have hnc39 := NB203_211.out; have hnb40 := NB211_204.out; have hnc40 := NB204_211.out; have hcz41_0 : w34.cell? ⟨gb211, 0, none⟩ = some (.int .i64 x17_1) := (blk_cell BK211.out 0).trans rfl; have hcz41_1 : w34.cell? ⟨gb211, 1, none⟩ = some (.int .i64 ((rd_T52 l0_2 x17_1).f2.f0)) := (blk_cell BK211.out 1).trans rfl; have hcz41_2 : w34.cell? ⟨gb211, 2, none⟩ = some (u212002) := (blk_cell BK211.out 2).trans rfl; have hfz41_0 := blk_frozen BK211.out 0; have hfz41_1 := blk_frozen BK211.out 1; have hfz41_2 := blk_frozen BK211.out 2) | ((with_reducible refine aG (b := .append) (xs := #[.tmp 44, .tmp 48]) rfl ?_); at_builtin; refine Kd.R_append (Kd.int .i64) (w0 := w) w.heap.size rfl (.tmp 44) (.tmp 48) 38 3 (.int .i64 0) 8 rfl Try.underlying38 info3 rfl (by decide) (by omega) u212002 x212002_2 ((rd_T52 y212 x39_2).f1.f1) [.int .i64 ((rd_T52 y212 x39_2).f1.f1)] (fun _ => True) (fun _ => False) rfl (by first | (go_simp; done) | (go_simp; rfl)) ?aP (fun _ hk => hk.elim) ?aF ?aO ?aB ?aS ?aL ?_; (case aP => exact rfl); (case aB => exact (by repeat (first | (with_reducible first | exact HB.out | apply below_alloc | apply pw_below_drewN | apply below_drew1 | refine below_set ?_ GE203.out | refine below_set ?_ GE204.out | refine below_set ?_ GE211.out | refine below_set ?_ GE217.out) | exact HB.out))); (case aF => exact (fun _ _ => trivial)); (case aO => exact (by (with_reducible repeat (first | apply Kd.R_alloc | apply Kd.R_drewN | apply Kd.R_drew)); exact Kd.R_mono (Kd.R_far (p := ⟨gb217, 7, none⟩) (Kd.R_far (p := ⟨gb217, 6, none⟩) (Kd.R_far (p := ⟨gb217, 5, none⟩) (Kd.R_far (p := ⟨gb217, 4, none⟩) (Kd.R_far (p := ⟨gb217, 3, none⟩) (Kd.R_far (p := ⟨gb217, 2, none⟩) (Kd.R_far (p := ⟨gb217, 1, none⟩) (Kd.R_far (p := ⟨gb217, 0, none⟩) (Kd.R_types HO_212002.out BK217.out (by decide)) (fun _ hk => hk.2) (.int .i64 ((rd_T52 y212 x39_2).f0))) (fun _ hk => hk.2) (.int .i64 ((rd_T52 y212 x39_2).f1.f0))) (fun _ hk => hk.2) (.int .i64 ((rd_T52 y212 x39_2).f1.f1))) (fun _ hk => hk.2) (.int .i64 ((rd_T52 y212 x39_2).f2.f0))) (fun _ hk => hk.2) (.int .i64 ((rd_T52 y212 x39_2).f2.f1))) (fun _ hk => hk.2) (.int .i64 ((rd_T52 y212 x39_2).f3.f0))) (fun _ hk => hk.2) (.int .i64 ((rd_T52 y212 x39_2).f3.f1))) (fun _ hk => hk.2) (.int .i64 ((rd_T52 y212 x39_2).f4))) (fun _ hk => trivial))); (case aS => exact (below_size (by repeat (first | (with_reducible first | exact HB.out | apply below_alloc | apply pw_below_drewN | apply below_drew1 | refine below_set ?_ GE203.out | refine below_set ?_ GE204.out | refine below_set ?_ GE211.out | refine below_set ?_ GE217.out) | exact HB.out)))); (case aL => have := LMc33.out; omega); intro v219 w42 ho hb hg hat; rw [← Ny218.out] at ho; have n0_ := pA (blk_grown (g := gb203) (o := .cells #[.int .i64 a0_0, .int .i64 a0_1, .slice (some ad210) l0_2.length c0_2] 43 (0, 0)) (by (with_reducible repeat refine vS ?_); refine blk_far ?_ NB203_217.out _; (with_reducible repeat refine vS ?_); refine blk_far ?_ NB203_217.out _; (with_reducible repeat refine vS ?_); refine blk_far ?_ NB203_217.out _; (with_reducible repeat refine vS ?_); refine blk_far ?_ NB203_217.out _; (with_reducible repeat refine vS ?_); refine blk_far ?_ NB203_217.out _; (with_reducible repeat refine vS ?_); refine blk_far ?_ NB203_217.out _; (with_reducible repeat refine vS ?_); refine blk_far ?_ NB203_217.out _; (with_reducible repeat refine vS ?_); refine blk_far ?_ NB203_217.out _; (with_reducible repeat refine vS ?_); exact BK203.out) hg (Kd.R_ne HO_212002.out BK203.out (by decide))); have n1_ := pA (blk_grown (g := gb204) (o := .cells #[.int .i64 x205000_1, .int .i64 x205001_1, .slice none 0 0] 75 (0, 0)) (by (with_reducible repeat refine vS ?_); refine blk_far ?_ NB204_217.out _; (with_reducible repeat refine vS ?_); refine blk_far ?_ NB204_217.out _; (with_reducible repeat refine vS ?_); refine blk_far ?_ NB204_217.out _; (with_reducible repeat refine vS ?_); refine blk_far ?_ NB204_217.out _; (with_reducible repeat refine vS ?_); refine blk_far ?_ NB204_217.out _; (with_reducible repeat refine vS ?_); refine blk_far ?_ NB204_217.out _; (with_reducible repeat refine vS ?_); refine blk_far ?_ NB204_217.out _; (with_reducible repeat refine vS ?_); refine blk_far ?_ NB204_217.out _; (with_reducible repeat refine vS ?_); exact BK204.out) hg (Kd.R_ne HO_212002.out BK204.out (by decide))); have n2_ := pA (blk_grown (g := gb211) (o := .cells #[.int .i64 x17_1, .int .i64 ((rd_T52 l0_2 x17_1).f2.f0), u212002] 75 (0, 0)) (by (with_reducible repeat refine vS ?_); refine blk_far ?_ NB211_217.out _; (with_reducible repeat refine vS ?_); refine blk_far ?_ NB211_217.out _; (with_reducible repeat refine vS ?_); refine blk_far ?_ NB211_217.out _; (with_reducible repeat refine vS ?_); refine blk_far ?_ NB211_217.out _; (with_reducible repeat refine vS ?_); refine blk_far ?_ NB211_217.out _; (with_reducible repeat refine vS ?_); refine blk_far ?_ NB211_217.out _; (with_reducible repeat refine vS ?_); refine blk_far ?_ NB211_217.out _; (with_reducible repeat refine vS ?_); refine blk_far ?_ NB211_217.out _; (with_reducible repeat refine vS ?_); exact BK211.out) hg (Kd.R_ne HO_212002.out BK211.out (by decide))); have n3_ := pA (blk_grown (g := gb217) (o := .cells #[.int .i64 ((rd_T52 y212 x39_2).f0), .int .i64 ((rd_T52 y212 x39_2).f1.f0), .int .i64 ((rd_T52 y212 x39_2).f1.f1), .int .i64 ((rd_T52 y212 x39_2).f2.f0), .int .i64 ((rd_T52 y212 x39_2).f2.f1), .int .i64 ((rd_T52 y212 x39_2).f3.f0), .int .i64 ((rd_T52 y212 x39_2).f3.f1), .int .i64 ((rd_T52 y212 x39_2).f4)] 52 (0, 0)) (by (with_reducible repeat refine vS ?_); refine blk_put (cs := #[.int .i64 ((rd_T52 y212 x39_2).f0), .int .i64 ((rd_T52 y212 x39_2).f1.f0), .int .i64 ((rd_T52 y212 x39_2).f1.f1), .int .i64 ((rd_T52 y212 x39_2).f2.f0), .int .i64 ((rd_T52 y212 x39_2).f2.f1), .int .i64 ((rd_T52 y212 x39_2).f3.f0), .int .i64 ((rd_T52 y212 x39_2).f3.f1), .int .i64 0]) ?_ 7 _ rfl; (with_reducible repeat refine vS ?_); refine blk_put (cs := #[.int .i64 ((rd_T52 y212 x39_2).f0), .int .i64 ((rd_T52 y212 x39_2).f1.f0), .int .i64 ((rd_T52 y212 x39_2).f1.f1), .int .i64 ((rd_T52 y212 x39_2).f2.f0), .int .i64 ((rd_T52 y212 x39_2).f2.f1), .int .i64 ((rd_T52 y212 x39_2).f3.f0), .int .i64 0, .int .i64 0]) ?_ 6 _ rfl; (with_reducible repeat refine vS ?_); refine blk_put (cs := #[.int .i64 ((rd_T52 y212 x39_2).f0), .int .i64 ((rd_T52 y212 x39_2).f1.f0), .int .i64 ((rd_T52 y212 x39_2).f1.f1), .int .i64 ((rd_T52 y212 x39_2).f2.f0), .int .i64 ((rd_T52 y212 x39_2).f2.f1), .int .i64 0, .int .i64 0, .int .i64 0]) ?_ 5 _ rfl; (with_reducible repeat refine vS ?_); refine blk_put (cs := #[.int .i64 ((rd_T52 y212 x39_2).f0), .int .i64 ((rd_T52 y212 x39_2).f1.f0), .int .i64 ((rd_T52 y212 x39_2).f1.f1), .int .i64 ((rd_T52 y212 x39_2).f2.f0), .int .i64 0, .int .i64 0, .int .i64 0, .int .i64 0]) ?_ 4 _ rfl; (with_reducible repeat refine vS ?_); refine blk_put (cs := #[.int .i64 ((rd_T52 y212 x39_2).f0), .int .i64 ((rd_T52 y212 x39_2).f1.f0), .int .i64 ((rd_T52 y212 x39_2).f1.f1), .int .i64 0, .int .i64 0, .int .i64 0, .int .i64 0, .int .i64 0]) ?_ 3 _ rfl; (with_reducible repeat refine vS ?_); refine blk_put (cs := #[.int .i64 ((rd_T52 y212 x39_2).f0), .int .i64 ((rd_T52 y212 x39_2).f1.f0), .int .i64 0, .int .i64 0, .int .i64 0, .int .i64 0, .int .i64 0, .int .i64 0]) ?_ 2 _ rfl; (with_reducible repeat refine vS ?_); refine blk_put (cs := #[.int .i64 ((rd_T52 y212 x39_2).f0), .int .i64 0, .int .i64 0, .int .i64 0, .int .i64 0, .int .i64 0, .int .i64 0, .int .i64 0]) ?_ 1 _ rfl; (with_reducible repeat refine vS ?_); refine blk_put (cs := #[.int .i64 0, .int .i64 0, .int .i64 0, .int .i64 0, .int .i64 0, .int .i64 0, .int .i64 0, .int .i64 0]) ?_ 0 _ rfl; (with_reducible repeat refine vS ?_); exact BK217.out) hg (Kd.R_ne HO_212002.out BK217.out (by decide))); have n4_ := pA (hb); have n5_ := pA (ho); clear BK203; clear BK204; clear BK211; clear BK217; clear HB; clear HO_212002; have BK203 := n0_; have BK204 := n1_; have BK211 := n2_; have BK217 := n3_; have HB := n4_; have HO220 := n5_; clear n0_ n1_ n2_ n3_ n4_ n5_; clear ho hb hg hat; obtain ⟨Ao43, co43, eo43⟩ := Kd.R_slice HO220.out; subst eo43; have hcz44_0 : w42.cell? ⟨gb211, 0, none⟩ = some (.int .i64 x17_1) := (blk_cell BK211.out 0).trans rfl; have hcz44_1 : w42.cell? ⟨gb211, 1, none⟩ = some (.int .i64 ((rd_T52 l0_2 x17_1).f2.f0)) := (blk_cell BK211.out 1).trans rfl; have hcz44_2 : w42.cell? ⟨gb211, 2, none⟩ = some (u212002) := (blk_cell BK211.out 2).trans rfl; have hfz44_0 := blk_frozen BK211.out 0; have hfz44_1 := blk_frozen BK211.out 1; have hfz44_2 := blk_frozen BK211.out 2))
                 go_roundg k2
                 case measure => have := HK1.out; have := HK2.out; omega
                 case rel => exact ⟨(wrap64 (x39_2 + 1)), (y218), (.slice Ao43 y218.length co43), (by first | rfl | (simp; done) | (simp [*]; done)), H', ⟨by have := HK1.out; have := HK2.out; omega⟩, ⟨by (with_reducible repeat (first | apply Kd.R_alloc | apply Kd.R_drewN | apply Kd.R_drew)); exact Kd.R_mono (Kd.R_far (p := ⟨gb211, 2, none⟩) (Kd.R_types HO220.out BK211.out (by decide)) (fun _ hk => hk.2) (.slice Ao43 y218.length co43)) (fun _ hk => trivial)⟩, ⟨by (with_reducible repeat refine vS ?_); refine blk_far ?_ NB203_211.out _; (with_reducible repeat refine vS ?_); exact BK203.out⟩, ⟨by (with_reducible repeat refine vS ?_); refine blk_far ?_ NB204_211.out _; (with_reducible repeat refine vS ?_); exact BK204.out⟩, ⟨by (with_reducible repeat refine vS ?_); refine blk_put (cs := #[.int .i64 x17_1, .int .i64 ((rd_T52 l0_2 x17_1).f2.f0), u212002]) ?_ 2 _ rfl; (with_reducible repeat refine vS ?_); exact BK211.out⟩, ⟨by repeat (first | (with_reducible first | exact HB.out | apply below_alloc | apply pw_below_drewN | apply below_drew1 | refine below_set ?_ GE203.out | refine below_set ?_ GE204.out | refine below_set ?_ GE211.out | refine below_set ?_ GE217.out) | exact HB.out)⟩⟩
                ·rw [if_neg c33] at H
                 exact absurd H (by simp)
               ·rw [if_neg c32] at H
                exact absurd H (by simp)
              ·rw [if_neg c31] at H
               exact absurd H (by simp)
             ·rw [if_neg c30] at H
              have c30b0 : decide (x39_2 < (y212.length : Int)) = false := decide_eq_false c30
              clear c30
              simp only [Option.some.injEq, Prod.mk.injEq] at H
              obtain ⟨rfl, rfl, rfl, rfl⟩ := H
              have hnb45 := NB211_203.out
              have hnc45 := NB203_211.out
              have hnb46 := NB211_204.out
              have hnc46 := NB204_211.out
              have hcz47_0 : wr.cell? ⟨gb211, 0, none⟩ = some (.int .i64 x17_1) := (blk_cell BK211.out 0).trans rfl
              have hcz47_1 : wr.cell? ⟨gb211, 1, none⟩ = some (.int .i64 ((rd_T52 l0_2 x17_1).f2.f0)) := (blk_cell BK211.out 1).trans rfl
              have hcz47_2 : wr.cell? ⟨gb211, 2, none⟩ = some (u212002) := (blk_cell BK211.out 2).trans rfl
              have hfz47_0 := blk_frozen BK211.out 0
              have hfz47_1 := blk_frozen BK211.out 1
              have hfz47_2 := blk_frozen BK211.out 2
              have hnb48 := NB204_203.out
              have hnc48 := NB203_204.out
              have hcz49_0 : wr.cell? ⟨gb204, 0, none⟩ = some (.int .i64 x205000_1) := (blk_cell BK204.out 0).trans rfl
              have hcz49_1 : wr.cell? ⟨gb204, 1, none⟩ = some (.int .i64 x205001_1) := (blk_cell BK204.out 1).trans rfl
              have hcz49_2 : wr.cell? ⟨gb204, 2, none⟩ = some (.slice none 0 0) := (blk_cell BK204.out 2).trans rfl
              have hfz49_0 := blk_frozen BK204.out 0
              have hfz49_1 := blk_frozen BK204.out 1
              have hfz49_2 := blk_frozen BK204.out 2
              obtain ⟨Ao50, co50, eo50⟩ := Kd.R_slice HO_212002.out
              subst eo50
              go_wp2
              refine bodyPost_ret (results_ct rfl _ _ gb204 75 #[.int .i64 x17_1, .int .i64 ((rd_T52 l0_2 x17_1).f2.f0), .slice Ao50 x212002_2.length co50] (0, 0) _ rfl (by (with_reducible repeat refine vS ?_); refine blk_put (cs := #[.int .i64 x17_1, .int .i64 ((rd_T52 l0_2 x17_1).f2.f0), .slice none 0 0]) ?_ 2 _ rfl; (with_reducible repeat refine vS ?_); refine blk_put (cs := #[.int .i64 x17_1, .int .i64 x205001_1, .slice none 0 0]) ?_ 1 _ rfl; (with_reducible repeat refine vS ?_); refine blk_put (cs := #[.int .i64 x205000_1, .int .i64 x205001_1, .slice none 0 0]) ?_ 0 _ rfl; (with_reducible repeat refine vS ?_); exact BK204.out) Try.underlying75 rfl (by kernel_rfl)) rfl ?_
              exact ⟨_, by first | rfl | (simp [errW_none, errW_some] <;> rfl) | (simp only [← hji18]; first | rfl | (simp [errW_none, errW_some] <;> rfl)) | (simp [*, errW_none, errW_some] <;> rfl), by (with_reducible repeat (first | apply Kd.R_alloc | apply Kd.R_drewN | apply Kd.R_drew)); exact Kd.R_mono (Kd.R_far (p := ⟨gb204, 2, none⟩) (Kd.R_far (p := ⟨gb204, 1, none⟩) (Kd.R_far (p := ⟨gb204, 0, none⟩) (Kd.R_types HO_212002.out BK204.out (by decide)) (fun _ hk => hk.2) (.int .i64 x17_1)) (fun _ hk => hk.2) (.int .i64 ((rd_T52 l0_2 x17_1).f2.f0))) (fun _ hk => hk.2) (.slice Ao50 x212002_2.length co50)) (fun _ hk => trivial), by repeat (first | (with_reducible first | exact HB.out | apply below_alloc | apply pw_below_drewN | apply below_drew1 | refine below_set ?_ GE203.out | refine below_set ?_ GE204.out | refine below_set ?_ GE211.out) | exact HB.out)⟩
          ·rw [if_neg c20] at H
           exact absurd H (by simp)
         ·rw [if_neg c19] at H
          exact absurd H (by simp)
        ·rw [if_neg c17] at H
         exact absurd H (by simp)
      ·rw [if_neg c15] at H
       exact absurd H (by simp)
     ·rw [if_neg c14] at H
      exact absurd H (by simp)
    ·rw [if_neg c13] at H
     have c13b0 : decide (x17_1 < (t206.length : Int)) = false := decide_eq_false c13
     clear c13
     simp only [Option.some.injEq, Prod.mk.injEq] at H
     obtain ⟨rfl, rfl, rfl, rfl⟩ := H
     have hnb51 := NB204_203.out
     have hnc51 := NB203_204.out
     have hcz52_0 : wr.cell? ⟨gb204, 0, none⟩ = some (.int .i64 x205000_1) := (blk_cell BK204.out 0).trans rfl
     have hcz52_1 : wr.cell? ⟨gb204, 1, none⟩ = some (.int .i64 x205001_1) := (blk_cell BK204.out 1).trans rfl
     have hcz52_2 : wr.cell? ⟨gb204, 2, none⟩ = some (.slice none 0 0) := (blk_cell BK204.out 2).trans rfl
     have hfz52_0 := blk_frozen BK204.out 0
     have hfz52_1 := blk_frozen BK204.out 1
     have hfz52_2 := blk_frozen BK204.out 2
     go_wp2
     refine bodyPost_ret (results_ct rfl _ _ gb204 75 #[.int .i64 0, .int .i64 0, .slice none 0 0] (0, 0) _ rfl (by (with_reducible repeat refine vS ?_); refine blk_put (cs := #[.int .i64 0, .int .i64 0, .slice none 0 0]) ?_ 2 _ rfl; (with_reducible repeat refine vS ?_); refine blk_put (cs := #[.int .i64 0, .int .i64 x205001_1, .slice none 0 0]) ?_ 1 _ rfl; (with_reducible repeat refine vS ?_); refine blk_put (cs := #[.int .i64 x205000_1, .int .i64 x205001_1, .slice none 0 0]) ?_ 0 _ rfl; (with_reducible repeat refine vS ?_); exact BK204.out) Try.underlying75 rfl (by kernel_rfl)) rfl ?_
     exact ⟨_, by first | rfl | (simp [errW_none, errW_some] <;> rfl) | (simp [*, errW_none, errW_some] <;> rfl), by first | exact Kd.R_nil _ _ _ _ _ | exact Kd.N_nil _ _ _ _ _ | exact Kd.V_nil _ _ _ _ _ | exact Kd.Q_nil _ _ _ _ _ | exact Kd.S_nil _ _ _ _ _, by repeat (first | (with_reducible first | exact HB.out | apply below_alloc | apply pw_below_drewN | apply below_drew1 | refine below_set ?_ GE203.out | refine below_set ?_ GE204.out) | exact HB.out)⟩
 ·replace c3 := Bool.eq_false_iff.mpr c3
  subst c3
  have H1 : (some (0, 0, ([] : List Int), 31)) = some (r1, r2, r3, r4) := by rw [if_neg (show ¬ (false = true) by decide)] at H; exact H
  clear H
  have H := H1
  clear H1
  simp only [Option.some.injEq, Prod.mk.injEq] at H
  obtain ⟨rfl, rfl, rfl, rfl⟩ := H
  go_enter Try.func53, Try.ntmps53
  go_wp2_with (first | ((with_reducible refine gate_dst (N := 1) rfl ?_); refine box_event ?hg (N := 1) ?hd (cs := #[.int .i64 a0_0, .int .i64 a0_1, .slice A0_2 l0_2.length c0_2]) (t := 43) ?hr ?_; (case hd => rfl); (case hg => rfl); (case hr => first | (go_simp; done) | (go_simp; rfl)); intro gb203 hg w53 hbox hb; have n0_ := pA (below_step (vB HB) hb); have n1_ := pA (hbox); have n2_ := pA ((by rw [hg]; exact (below_size (vB HB)) : w.heap.size ≤ gb203)); have n3_ := pA ((by rw [hg]; exact (below_size (vB HB)) : w.heap.size ≤ gb203)); clear HB; have HB := n0_; have BK203 := n1_; have GW203 := n2_; have GE203 := n3_; clear n0_ n1_ n2_ n3_; clear hb hbox hg) | ((with_reducible refine gate_dst (N := 2) rfl ?_); refine box_event ?hg (N := 2) ?hd (cs := #[.int .i64 0, .int .i64 0, .slice none 0 0]) (t := 75) ?hr ?_; (case hd => rfl); (case hg => rfl); (case hr => first | (go_simp; done) | (go_simp; rfl)); intro gb204 hg w54 hbox hb; have n0_ := pA (blk_below (g := gb203) (o := .cells #[.int .i64 a0_0, .int .i64 a0_1, .slice A0_2 l0_2.length c0_2] 43 (0, 0)) (vK BK203) hb); have n1_ := pA (below_step (by repeat (first | (with_reducible first | exact HB.out | apply below_alloc | apply pw_below_drewN | apply below_drew1 | refine below_set ?_ GE203.out) | exact HB.out)) hb); have n2_ := pA (hbox); have n3_ := pA ((by rw [hg]; exact (below_size (by repeat (first | (with_reducible first | exact HB.out | apply below_alloc | apply pw_below_drewN | apply below_drew1 | refine below_set ?_ GE203.out) | exact HB.out))) : w.heap.size ≤ gb204)); have n4_ := pA ((by rw [hg]; exact (below_size (by repeat (first | (with_reducible first | exact HB.out | apply below_alloc | apply pw_below_drewN | apply below_drew1 | refine below_set ?_ GE203.out) | exact HB.out))) : w.heap.size ≤ gb204)); have n5_ := pA ((by rw [hg]; exact Nat.ne_of_lt (blk_lt (g := gb203) (o := .cells #[.int .i64 a0_0, .int .i64 a0_1, .slice A0_2 l0_2.length c0_2] 43 (0, 0)) (vK BK203)) : gb203 ≠ gb204)); have n6_ := pA ((by rw [hg]; exact Nat.ne_of_gt (blk_lt (g := gb203) (o := .cells #[.int .i64 a0_0, .int .i64 a0_1, .slice A0_2 l0_2.length c0_2] 43 (0, 0)) (vK BK203)) : gb204 ≠ gb203)); clear BK203; clear HB; have BK203 := n0_; have HB := n1_; have BK204 := n2_; have GW204 := n3_; have GE204 := n4_; have NB203_204 := n5_; have NB204_203 := n6_; clear n0_ n1_ n2_ n3_ n4_ n5_ n6_; clear hb hbox hg; have hnb55 := NB203_204.out; have hnc55 := NB204_203.out; have hcz56_0 : w54.cell? ⟨gb203, 0, none⟩ = some (.int .i64 a0_0) := (blk_cell BK203.out 0).trans rfl; have hcz56_1 : w54.cell? ⟨gb203, 1, none⟩ = some (.int .i64 a0_1) := (blk_cell BK203.out 1).trans rfl; have hcz56_2 : w54.cell? ⟨gb203, 2, none⟩ = some (.slice A0_2 l0_2.length c0_2) := (blk_cell BK203.out 2).trans rfl; have hfz56_0 := blk_frozen BK203.out 0; have hfz56_1 := blk_frozen BK203.out 1; have hfz56_2 := blk_frozen BK203.out 2) | ((with_reducible refine aF (f := 80) rfl ?_); refine goesL_ (some 10) rfl rfl Try.func80 (by kernel_rfl) rfl #[.agg #[.int .i64 a0_0, .int .i64 a0_1, .slice A0_2 l0_2.length c0_2]] rfl (by (try simp only [pE, pF, pG]); first | done | rfl | (simp only [pH, pI]; rfl)) ?_; (with_reducible refine (bung_isBung.calls a0_0 a0_1 _ _ l0_2 false _ ?side1 ?side2 A2.out).mono ?_); (case side1 => repeat (first | exact (Kd.C_below HR0_2.out HB.out) | (with_reducible refine Kd.C_alloc ?_ _) | (with_reducible refine Kd.C_drewN ?_ _) | (with_reducible refine Kd.C_drew ?_))); (case side2 => exact HC0_2.out); rintro e w57 ⟨rfl, hb⟩; refine ⟨_, rfl, ?_⟩; have n0_ := pA (blk_below (g := gb203) (o := .cells #[.int .i64 a0_0, .int .i64 a0_1, .slice A0_2 l0_2.length c0_2] 43 (0, 0)) (vK BK203) hb); have n1_ := pA (blk_below (g := gb204) (o := .cells #[.int .i64 0, .int .i64 0, .slice none 0 0] 75 (0, 0)) (vK BK204) hb); have n2_ := pA (below_step (by repeat (first | (with_reducible first | exact HB.out | apply below_alloc | apply pw_below_drewN | apply below_drew1 | refine below_set ?_ GE203.out | refine below_set ?_ GE204.out) | exact HB.out)) hb); clear BK203; clear BK204; clear HB; have BK203 := n0_; have BK204 := n1_; have HB := n2_; clear n0_ n1_ n2_; (try clear hb); (try clear hb2); (try clear hk); (try clear hi); have hcz58_0 : w57.cell? ⟨gb204, 0, none⟩ = some (.int .i64 0) := (blk_cell BK204.out 0).trans rfl; have hcz58_1 : w57.cell? ⟨gb204, 1, none⟩ = some (.int .i64 0) := (blk_cell BK204.out 1).trans rfl; have hcz58_2 : w57.cell? ⟨gb204, 2, none⟩ = some (.slice none 0 0) := (blk_cell BK204.out 2).trans rfl; have hfz58_0 := blk_frozen BK204.out 0; have hfz58_1 := blk_frozen BK204.out 1; have hfz58_2 := blk_frozen BK204.out 2))
  refine bodyPost_ret (results_ct rfl _ _ gb204 75 #[.int .i64 0, .int .i64 0, .slice none 0 0] (0, 0) _ rfl (by (with_reducible repeat refine vS ?_); refine blk_put (cs := #[.int .i64 0, .int .i64 0, .slice none 0 0]) ?_ 2 _ rfl; (with_reducible repeat refine vS ?_); refine blk_put (cs := #[.int .i64 0, .int .i64 0, .slice none 0 0]) ?_ 1 _ rfl; (with_reducible repeat refine vS ?_); refine blk_put (cs := #[.int .i64 0, .int .i64 0, .slice none 0 0]) ?_ 0 _ rfl; (with_reducible repeat refine vS ?_); exact BK204.out) Try.underlying75 rfl (by kernel_rfl)) rfl ?_
  exact ⟨_, by first | rfl | (simp [errW_none, errW_some] <;> rfl) | (simp [*, errW_none, errW_some] <;> rfl), by first | exact Kd.R_nil _ _ _ _ _ | exact Kd.N_nil _ _ _ _ _ | exact Kd.V_nil _ _ _ _ _ | exact Kd.Q_nil _ _ _ _ _ | exact Kd.S_nil _ _ _ _ _, by repeat (first | (with_reducible first | exact HB.out | apply below_alloc | apply pw_below_drewN | apply below_drew1 | refine below_set ?_ GE203.out | refine below_set ?_ GE204.out) | exact HB.out)⟩
def potbanklaw03_example.f  : Option ((List (S52))) := some (([(⟨1, (⟨100, 120⟩ : S23), (⟨300, 350⟩ : S23), (⟨200, 210⟩ : S23), 5⟩ : S52), (⟨2, (⟨80, 90⟩ : S23), (⟨150, 200⟩ : S23), (⟨200, 210⟩ : S23), 10⟩ : S52), (⟨3, (⟨60, 60⟩ : S23), (⟨50, 60⟩ : S23), (⟨100, 100⟩ : S23), 0⟩ : S52)] : List (S52)))
set_option maxHeartbeats 8000000 in
set_option maxRecDepth 100000 in
theorem potbanklaw03_example.calls  (r : List (S52)) (w : World) (h : potbanklaw03_example.f  = some r) :
  Calls Try.prog 75 #[] w fun e w' => ∃ v0_ : Value, e = .returned (v0_) ∧ Kd.R k52 52 w' w.heap.size (fun _ => True) v0_ r ∧ Below w.heap.size w w' := by
 have hu23 := Try.underlying23
 have hu52 := Try.underlying52
 have HB := pA (Below.refl w.heap.size w)
 have H : (some (([(⟨1, (⟨100, 120⟩ : S23), (⟨300, 350⟩ : S23), (⟨200, 210⟩ : S23), 5⟩ : S52), (⟨2, (⟨80, 90⟩ : S23), (⟨150, 200⟩ : S23), (⟨200, 210⟩ : S23), 10⟩ : S52), (⟨3, (⟨60, 60⟩ : S23), (⟨50, 60⟩ : S23), (⟨100, 100⟩ : S23), 0⟩ : S52)] : List (S52)))) = some r := h
 clear h
 obtain ⟨y221, hy221⟩ : ∃ y_ : List (S52), y_ = (([(⟨1, (⟨100, 120⟩ : S23), (⟨300, 350⟩ : S23), (⟨200, 210⟩ : S23), 5⟩ : S52), (⟨2, (⟨80, 90⟩ : S23), (⟨150, 200⟩ : S23), (⟨200, 210⟩ : S23), 10⟩ : S52), (⟨3, (⟨60, 60⟩ : S23), (⟨50, 60⟩ : S23), (⟨100, 100⟩ : S23), 0⟩ : S52)] : List (S52))) := ⟨_, rfl⟩
 replace H : (some y221) = some r := by first | (rw [hy221]; with_reducible exact H) | (have H2_ := (Option.bind_some _ _).symm.trans H; rw [hy221]; with_reducible exact H2_) | (have H2_ := (Option.bind_some _ _).symm.trans H; with_reducible exact H2_) | with_reducible exact H | (rw [hy221]; exact H) | exact H
 have Ny221 := pA hy221
 clear hy221
 obtain rfl := Option.some.inj H
 go_enter Try.func75, Try.ntmps75
 go_wp2_with (first | ((with_reducible refine gate_dst (N := 13) rfl ?_); refine Kd.R_lit k52 _ 52 ?hg (N := 13) ?hd (xs := ([(⟨1, (⟨100, 120⟩ : S23), (⟨300, 350⟩ : S23), (⟨200, 210⟩ : S23), 5⟩ : S52), (⟨2, (⟨80, 90⟩ : S23), (⟨150, 200⟩ : S23), (⟨200, 210⟩ : S23), 10⟩ : S52), (⟨3, (⟨60, 60⟩ : S23), (⟨50, 60⟩ : S23), (⟨100, 100⟩ : S23), 0⟩ : S52)] : List (S52))) (inner := [.int .i64 1, .int .i64 100, .int .i64 120, .int .i64 300, .int .i64 350, .int .i64 200, .int .i64 210, .int .i64 5, .int .i64 2, .int .i64 80, .int .i64 90, .int .i64 150, .int .i64 200, .int .i64 200, .int .i64 210, .int .i64 10, .int .i64 3, .int .i64 60, .int .i64 60, .int .i64 50, .int .i64 60, .int .i64 100, .int .i64 100, .int .i64 0]) (ok := fun _ => True) (okp := fun _ => True) ?hr ?hp (fun _ hk => hk) trivial (Below.refl _ _) (Nat.le_refl _) (by simp) ?_; (case hd => rfl); (case hg => rfl); (case hr => first | (go_simp; done) | (go_simp; rfl)); (case hp => exact (Reps.c8 (show Kd.M k52 _ _ _ (⟨1, (⟨100, 120⟩ : S23), (⟨300, 350⟩ : S23), (⟨200, 210⟩ : S23), 5⟩ : S52) [.int .i64 1, .int .i64 100, .int .i64 120, .int .i64 300, .int .i64 350, .int .i64 200, .int .i64 210, .int .i64 5] from (k52_mkM _ _ _ (⟨1, (⟨100, 120⟩ : S23), (⟨300, 350⟩ : S23), (⟨200, 210⟩ : S23), 5⟩ : S52) )) (Reps.c8 (show Kd.M k52 _ _ _ (⟨2, (⟨80, 90⟩ : S23), (⟨150, 200⟩ : S23), (⟨200, 210⟩ : S23), 10⟩ : S52) [.int .i64 2, .int .i64 80, .int .i64 90, .int .i64 150, .int .i64 200, .int .i64 200, .int .i64 210, .int .i64 10] from (k52_mkM _ _ _ (⟨2, (⟨80, 90⟩ : S23), (⟨150, 200⟩ : S23), (⟨200, 210⟩ : S23), 10⟩ : S52) )) (Reps.c8 (show Kd.M k52 _ _ _ (⟨3, (⟨60, 60⟩ : S23), (⟨50, 60⟩ : S23), (⟨100, 100⟩ : S23), 0⟩ : S52) [.int .i64 3, .int .i64 60, .int .i64 60, .int .i64 50, .int .i64 60, .int .i64 100, .int .i64 100, .int .i64 0] from (k52_mkM _ _ _ (⟨3, (⟨60, 60⟩ : S23), (⟨50, 60⟩ : S23), (⟨100, 100⟩ : S23), 0⟩ : S52) )) (Reps.none _ _))))); intro v222 w1 ho2 hb hg_ hnew_; clear hg_ hnew_; (first | rw [← Ny221.out] at ho2 | (simp only [Int.reduceToNat] at ho2; rw [← Ny221.out] at ho2)); have n0_ := pA (Kd.R_lower ho2 (below_size (vB HB))); have n1_ := pA (below_step (vB HB) hb); clear HB; have HO223 := n0_; have HB := n1_; clear n0_ n1_; clear hb ho2))
 go_ret
 exact ⟨_, by first | rfl | (simp [errW_none, errW_some] <;> rfl) | (simp [*, errW_none, errW_some] <;> rfl), by (with_reducible repeat (first | apply Kd.R_alloc | apply Kd.R_drewN | apply Kd.R_drew)); exact HO223.out, by repeat (first | (with_reducible first | exact HB.out | apply below_alloc | apply pw_below_drewN | apply below_drew1) | exact HB.out)⟩
def exL : List S52 := [⟨1, ⟨100, 120⟩, ⟨300, 350⟩, ⟨200, 210⟩, 5⟩, ⟨2, ⟨80, 90⟩, ⟨150, 200⟩, ⟨200, 210⟩, 10⟩, ⟨3, ⟨60, 60⟩, ⟨50, 60⟩, ⟨100, 100⟩, 0⟩]
def exM : List S52 := [⟨2, ⟨80, 90⟩, ⟨150, 200⟩, ⟨200, 210⟩, 10⟩, ⟨1, ⟨100, 120⟩, ⟨300, 350⟩, ⟨200, 210⟩, 5⟩, ⟨3, ⟨60, 60⟩, ⟨50, 60⟩, ⟨100, 100⟩, 0⟩]
theorem ex_list : potbanklaw03_example.f = some exL := rfl
theorem ex_set1 : bung_Set.f 5 10 exL [0, 1, 2] = some (5, 10, exL, 0) := by kernel_rfl
theorem ex_set2 : bung_Set.f 5 10 exL [1, 0, 2] = some (5, 10, exM, 0) := by kernel_rfl
def exR : List S23 := [⟨140, 150⟩, ⟨60, 60⟩, ⟨0, 0⟩]
def exP : List (List Int) := [[0, 2], [1]]
def exW : List Int := [120, 60]
theorem ex_loads : bung_Loads.f 5 10 exL = some (exR, 0) := by kernel_rfl
theorem ex_stands1 : bung_Stands.f 200 5 10 exL = some (1, 0) := by kernel_rfl
theorem ex_stands2 : bung_Stands.f 200 5 10 exM = some (2, 0) := by kernel_rfl
theorem ex_lean : bung_Lean.f 200 5 10 exL = some (4, 0) := by kernel_rfl
theorem ex_breaks : bung_Breaks.f 200 5 10 exM = some (0, 150, exW, 0) := by kernel_rfl
theorem ex_same1 : potbankref03_SameRanges.f 200 exR [⟨140, 150⟩, ⟨60, 60⟩, ⟨0, 0⟩] = some true := by kernel_rfl
theorem ex_same2 : potbankref03_SameParts.f 200 exP [[0, 2], [1]] = some true := by kernel_rfl
theorem ex_same3 : potbankref01_Same.f 200 exW [120, 60] = some true := by kernel_rfl
theorem ex_sorted : ∀ i : Nat, i < 3 → ∀ k : Nat, k < 3 → i < k → ltR exL k i = false := by decide
theorem ex_sortR {xs : List Int} (h : okTry 3 xs) : sortR exL xs = xs := by
 unfold sortR
 refine List.mergeSort_of_pairwise (List.Pairwise.imp_of_mem (fun {a b} ha hb hab => ?_) h.1)
 have h2 := h.2.1
 simp only [inIx, List.all_eq_true, decide_eq_true_eq] at h2
 have h3 := h2 a ha
 have h4 := h2 b hb
 have := ex_sorted a.toNat (by omega) b.toNat (by omega) (by omega)
 rw [show ((a.toNat : Nat) : Int) = a by omega, show ((b.toNat : Nat) : Int) = b by omega] at this
 simp [this]
/-- Which lists are tried matters alone. -/
theorem packOf_congr {ok ok' : List Int → Bool} {n : Nat} (h : ∀ xs, okTry n xs → ok xs = ok' xs) (many : Int) : ∀ (d : Nat) (bs : List (List Int)) (x : Int), x + d = n → okBs bs x → packOf ok many d bs x = packOf ok' many d bs x
 | 0, bs, x, _, _ => rfl
 | d + 1, bs, x, hd, hb => by
  unfold packOf
  have : ∀ l : List Nat, (∀ k ∈ l, k ≤ bs.length) → (l.findSome? fun (k : Nat) => if (k : Int) < many ∧ ok ((roomAt bs k).getD k [] ++ [x]) = true then packOf ok many d (putIn bs k x) (x + 1) else none) = l.findSome? fun (k : Nat) => if (k : Int) < many ∧ ok' ((roomAt bs k).getD k [] ++ [x]) = true then packOf ok' many d (putIn bs k x) (x + 1) else none := by
   intro l
   induction l with
   | nil => intro _; rfl
   | cons k t ih =>
    intro hl
    have hk := hl k List.mem_cons_self
    rw [List.findSome?_cons, List.findSome?_cons, ih (fun j hj => hl j (List.mem_cons_of_mem _ hj)), h _ (next_ok hb hk (by omega)), packOf_congr h many d (putIn bs k x) (x + 1) (by omega) (putIn_ok hb hk)]
  exact this _ (fun k hk => by have := (List.mem_range'_1.1 hk).2; omega)
theorem fewest_congr {ok ok' : List Int → Bool} {n : Nat} (h : ∀ xs, okTry n xs → ok xs = ok' xs) (k : Nat) : fewestFrom ok n k = fewestFrom ok' n k := by
 unfold fewestFrom
 congr 1
 funext m
 exact packOf_congr h m n [] 0 (by omega) okBs_nil
theorem ex_fewest : bung_Fewest.f 5 10 exL 400 9 = some (exP, 0) := by
 have e1 : bung_asked.f 5 10 exL 400 9 = some 0 := by kernel_rfl
 have e2 : fewestFrom (doOf ⟨5, 10⟩ exL 400 9) 3 1 = some [[0, 2], [1]] := by
  rw [fewest_congr (ok' := fun xs => fitsOf ⟨5, 10⟩ (pick exL xs) 400 9 == 1) (fun xs hx => by unfold doOf; rw [ex_sortR hx])]
  kernel_rfl
 unfold bung_Fewest.f
 rw [e1]
 show some _ = _
 rw [show exL.length = 3 from rfl, e2]
 rfl
def potbanklaw03_sane.f : Option Bool := some true
/-- A bung with the example's wad in a variable. -/
def ExB (W : World) (b : Nat) (A : Option Addr) (c : Nat) (l : List S52) : Prop := W.heap[b]? = some (.cells #[.int .i64 5, .int .i64 10, .slice A l.length c] 43 (0, 0)) ∧ l.length ≤ c ∧ Kd.C k52 W A l.length l
theorem ExB.below {W W1 : World} {b : Nat} {A : Option Addr} {c : Nat} {l : List S52} (h : ExB W b A c l) (hb : Below W.heap.size W W1) : ExB W1 b A c l := ⟨blk_below h.1 hb, h.2.1, Kd.C_below h.2.2 hb⟩
theorem C_blk (xs : List Int) (W : World) (g : Nat) (hl : xs.length ≤ 9223372036854775807) (h : W.heap[g]? = some (.cells (xs.map (Value.int .i64)).toArray 3 (0, 0))) : Kd.C (Kd.int .i64) W (some ⟨g, 0, none⟩) xs.length xs := by
 refine ⟨rfl, hl, fun _ => ⟨_, rfl, fun j p hj => ⟨[.int .i64 p], rfl, rfl, fun i u hi => ?_⟩⟩⟩
 rw [add_plain]
 obtain rfl : i = 0 := by have := (List.getElem?_eq_some_iff.1 hi).1; simp at this; exact this
 obtain rfl : Value.int .i64 p = u := by simpa using hi
 have e : j * (Kd.int .i64).sz + 0 = j := by show j * 1 + 0 = j; omega
 rw [e]
 exact (blk_cell h j).trans (by simp [hj])
theorem C_ord (x y z : Int) (W : World) (g : Nat) (hg : W.heap.size = g) : Kd.C (Kd.int .i64) (W.alloc (.cells #[.int .i64 x, .int .i64 y, .int .i64 z] 3)) (some ⟨g, 0, none⟩) 3 [x, y, z] := by
  subst hg
  exact C_blk [x, y, z] _ _ (by simp) (heap_alloc_new W _)
abbrev zeroBung : Obj := .cells #[.int .i64 0, .int .i64 0, .slice none 0 0] 43 (0, 0)
theorem keep2 {W w1 w2 : World} {p1 p2 : Addr} {v1 v2 : Value} (h : w1.cell? p1 = some v1 ∧ w1.cell? p2 = some v2 ∧ Below W.heap.size W w1) (g : Below w1.heap.size w1 w2) : w2.cell? p1 = some v1 ∧ w2.cell? p2 = some v2 ∧ Below W.heap.size W w2 := ⟨pw_cell_below g h.1, pw_cell_below g h.2.1, below_step h.2.2 g⟩
theorem keep2_set {W w3 : World} {g b : Nat} {cs : Array Value} {u0 u1 v0 v1 v2 : Value} (h : w3.cell? ⟨g, 0, none⟩ = some u0 ∧ w3.cell? ⟨g, 1, none⟩ = some u1 ∧ Below W.heap.size W w3) (hX : W.heap[g]? = some (.cells cs 23 (0, 0))) (hb : W.heap.size ≤ b) :
  (((w3.setCell ⟨b, 0, none⟩ v0).setCell ⟨b, 1, none⟩ v1).setCell ⟨b, 2, none⟩ v2).cell? ⟨g, 0, none⟩ = some u0 ∧ (((w3.setCell ⟨b, 0, none⟩ v0).setCell ⟨b, 1, none⟩ v1).setCell ⟨b, 2, none⟩ v2).cell? ⟨g, 1, none⟩ = some u1 ∧ Below W.heap.size W (((w3.setCell ⟨b, 0, none⟩ v0).setCell ⟨b, 1, none⟩ v1).setCell ⟨b, 2, none⟩ v2) := by
 have hbl := below_set (j := 2) (v := v2) (below_set (j := 1) (v := v1) (below_set (j := 0) (v := v0) h.2.2 hb) hb) hb
 have hg := blk_lt hX
 exact ⟨((hbl.cell (p := ⟨g, 0, none⟩) hg).trans (h.2.2.cell (p := ⟨g, 0, none⟩) hg).symm).trans h.1, ((hbl.cell (p := ⟨g, 1, none⟩) hg).trans (h.2.2.cell (p := ⟨g, 1, none⟩) hg).symm).trans h.2.1, hbl⟩
theorem ExB.put {w3 : World} {b : Nat} {A : Option Addr} {c : Nat} {l : List S52} {base : Nat} (hT : w3.heap[b]? = some (.cells #[.int .i64 0, .int .i64 0, .slice none 0 0] 43 (0, 0))) (ho : Kd.R k52 52 w3 base (fun _ => True) (.slice A l.length c) l) :
    ExB (((w3.setCell ⟨b, 0, none⟩ (.int .i64 5)).setCell ⟨b, 1, none⟩ (.int .i64 10)).setCell ⟨b, 2, none⟩ (.slice A l.length c)) b A c l :=
  ⟨blk_put (blk_put (blk_put hT 0 _ rfl) 1 _ rfl) 2 _ rfl, (Kd.R_reads' ho).2.1, (Kd.R_reads' (Kd.R_far (p := ⟨b, 2, none⟩) (Kd.R_far (p := ⟨b, 1, none⟩) (Kd.R_far (p := ⟨b, 0, none⟩) (Kd.R_types ho hT (by decide)) (fun _ hk => hk.2) _) (fun _ hk => hk.2) _) (fun _ hk => hk.2) _)).2.2⟩
theorem C_lit (xs : List Int) (hl : xs.length ≤ 9223372036854775807) (W : World) : Kd.C (Kd.int .i64) (W.alloc (.cells (xs.map (Value.int .i64)).toArray 3)) (some ⟨W.heap.size, 0, none⟩) xs.length xs := C_blk xs _ _ hl (heap_alloc_new W _)
theorem C_rng (xs : List S23) (hl : xs.length ≤ 9223372036854775807) (W : World) : Kd.C k23 (W.alloc (.cells (flatR xs).toArray 23)) (some ⟨W.heap.size, 0, none⟩) xs.length xs := (Kd.R_reads' (R_of_block (base := 0) (Nat.zero_le _) hl (heap_alloc_new W _))).2.2
theorem C_rows2 (x y z : Int) {W : World} {g1 g2 g3 : Nat} (h1 : W.heap.size = g1) (h2 : W.heap.size + 1 = g2) (h3 : W.heap.size + 2 = g3) :
  Kd.C (Kd.slice 3 (Kd.int .i64)) (((W.alloc (.cells #[.int .i64 x, .int .i64 y] 3)).alloc (.cells #[.int .i64 z] 3)).alloc (.cells #[.slice (some ⟨g1, 0, none⟩) 2 2, .slice (some ⟨g2, 0, none⟩) 1 1] 38)) (some ⟨g3, 0, none⟩) 2 [[x, y], [z]] := by
 subst h1 h2 h3
 have a1 := Kd.C_alloc (Kd.C_alloc (C_lit [x, y] (by simp) W) (.cells #[.int .i64 z] 3)) (.cells #[.slice (some ⟨W.heap.size, 0, none⟩) 2 2, .slice (some ⟨W.heap.size + 1, 0, none⟩) 1 1] 38)
 have a2 := Kd.C_alloc (C_lit [z] (by simp) (W.alloc (.cells #[.int .i64 x, .int .i64 y] 3))) (.cells #[.slice (some ⟨W.heap.size, 0, none⟩) 2 2, .slice (some ⟨W.heap.size + 1, 0, none⟩) 1 1] 38)
 rw [World.size_alloc] at a2
 have hb := heap_alloc_new ((W.alloc (.cells #[.int .i64 x, .int .i64 y] 3)).alloc (.cells #[.int .i64 z] 3)) (.cells #[.slice (some ⟨W.heap.size, 0, none⟩) 2 2, .slice (some ⟨W.heap.size + 1, 0, none⟩) 1 1] 38)
 rw [World.size_alloc, World.size_alloc] at hb
 refine ⟨rfl, by decide, fun _ => ⟨_, rfl, fun j p hj => ?_⟩⟩
 rcases j with _ | _ | j
 ·obtain rfl : [x, y] = p := by simpa using hj
  refine ⟨[.slice (some ⟨W.heap.size, 0, none⟩) 2 2], rfl, ⟨_, 2, rfl, Nat.le_refl 2, a1⟩, fun i u hi => ?_⟩
  obtain rfl : i = 0 := by have := (List.getElem?_eq_some_iff.1 hi).1; simp at this; exact this
  rw [add_plain]
  exact (blk_cell hb 0).trans hi
 ·obtain rfl : [z] = p := by simpa using hj
  refine ⟨[.slice (some ⟨W.heap.size + 1, 0, none⟩) 1 1], rfl, ⟨_, 1, rfl, Nat.le_refl 1, a2⟩, fun i u hi => ?_⟩
  obtain rfl : i = 0 := by have := (List.getElem?_eq_some_iff.1 hi).1; simp at this; exact this
  rw [add_plain]
  exact (blk_cell hb 1).trans hi
 ·simp at hj
/-- What stays known behind the calls. -/
def ExAll (w : World) (b1 : Nat) (A1 : Option Addr) (c1 : Nat) (b2 : Nat) (A2 : Option Addr) (c2 : Nat) (W : World) : Prop :=
  W.heap[w.heap.size]? = some (.cells #[.int .i64 5, .int .i64 10] 23 (0, 0)) ∧ ExB W b1 A1 c1 exL ∧ ExB W b2 A2 c2 exM ∧ Below w.heap.size w W
theorem ExAll.next {w W W1 : World} {b1 : Nat} {A1 : Option Addr} {c1 : Nat} {b2 : Nat} {A2 : Option Addr} {c2 : Nat} (h : ExAll w b1 A1 c1 b2 A2 c2 W) (hb : Below W.heap.size W W1) : ExAll w b1 A1 c1 b2 A2 c2 W1 :=
  ⟨blk_below h.1 hb, h.2.1.below hb, h.2.2.1.below hb, below_step h.2.2.2 hb⟩
set_option maxHeartbeats 8000000 in
set_option maxRecDepth 100000 in
theorem sane_walk (w : World) : Calls Try.prog 19 #[] w fun e w' => e = .returned (.bool true) ∧ Below w.heap.size w w' := by
 go_enter Try.func19, Try.ntmps19
 have HX := pA (heap_alloc_new w (.cells #[.int .i64 5, .int .i64 10] 23 (0, 0)))
 go_upto_region 2 with fail
 go_cut [2, 3] from 146 (fun v2 v3 W => ∃ b A c, v2 = .pointer (some ⟨b, 0, none⟩) ∧ v3 = .int .i64 0 ∧ Aside0 (ExB W b A c exL) ∧ Aside0 (Below (w.alloc (.cells #[.int .i64 5, .int .i64 10] 23)).heap.size (w.alloc (.cells #[.int .i64 5, .int .i64 10] 23)) W))
 case first =>
  rename_i J K' hJ hK'
  go_region_held3 (fun w' => w'.cell? ⟨w.heap.size, 0, none⟩ = some (.int .i64 5) ∧ w'.cell? ⟨w.heap.size, 1, none⟩ = some (.int .i64 10) ∧ Below (w.alloc (.cells #[.int .i64 5, .int .i64 10] 23)).heap.size (w.alloc (.cells #[.int .i64 5, .int .i64 10] 23)) w')
   (first
    | exact keep2 (by assumption) (by assumption)
    | exact keep2 (by assumption) (below_alloc (Below.refl _ _) _)
    | exact ⟨blk_cell HX.out 0, blk_cell HX.out 1, below_drew (Below.refl _ _)⟩
    | exact keep2 HS3.out (below_alloc (Below.refl _ _) _)
    | exact keep2_set HS3.out HX.out (by first | (simp; done) | (have h1 := hb.size; simp at h1 ⊢; omega))
    | go_keep)
   (first
    | (go_at_call 75; refine (potbanklaw03_example.calls exL _ ex_list).mono ?_; rintro e w1 ⟨v1, rfl, ho, hb⟩; obtain ⟨A3, c3, rfl, hc3, HR3⟩ := Kd.R_reads ho; clear ho; (try have HT := pA (blk_below (o := zeroBung) (by first | exact heap_alloc_new _ _ | exact blk_alloc (heap_alloc_new _ _) _) hb)))
    | (go_at_call 59; refine (bung_Set.calls 5 10 _ _ exL _ _ [0, 1, 2] 5 10 exL 0 _ (by first | assumption | exact Kd.C_alloc (by assumption) _ | exact Kd.C_alloc (Kd.C_alloc (by assumption) _) _) (by assumption) (by first | exact C_ord _ _ _ _ _ (by simp) | exact Kd.C_alloc (C_ord _ _ _ _ _ (by simp)) _ | exact Kd.C_below (Kd.C_drew (C_ord _ _ _ _ _ (by simp))) hb | exact Kd.C_below (Kd.C_drew (Kd.C_alloc (C_ord _ _ _ _ _ (by simp)) _)) hb | exact Kd.C_alloc (Kd.C_below (Kd.C_drew (C_ord _ _ _ _ _ (by simp))) hb) _) (Nat.le_refl _) ex_set1).mono ?_; rintro e w3 ⟨v3, rfl, ho3, hb3⟩; obtain ⟨A4, c4, rfl⟩ := Kd.R_slice ho3; have HS3 := pA (keep2 (by assumption) hb3); (try (have HT := pA (blk_below (o := zeroBung) (by first | exact heap_alloc_new _ _ | exact blk_alloc (heap_alloc_new _ _) _ | exact HT.out | exact blk_alloc HT.out _) hb3); (try simp only [World.size_alloc] at HT); have q0 := blk_cell HT.out 0; have q1 := blk_cell HT.out 1; have q2 := blk_cell HT.out 2; have z0 := blk_frozen HT.out 0; have z1 := blk_frozen HT.out 1; have z2 := blk_frozen HT.out 2))))
  all_goals (refine hK' _ _ (Met.intro (hJ _ _ ?_)); (repeat apply Exists.intro); refine ⟨?_, rfl⟩)
  all_goals (first
   | exact ⟨_, _, _, rfl, rfl, ⟨ExB.put HT.out ho3⟩, ⟨And.right (And.right (by assumption))⟩⟩
   | exact ⟨_, _, _, rfl, rfl, ⟨⟨heap_alloc_new _ _, (Kd.R_reads' ho3).2.1, Kd.C_alloc (Kd.R_reads' ho3).2.2 _⟩⟩, ⟨below_alloc HS3.out.2.2 _⟩⟩)
 case rest =>
  obtain ⟨b1, A1, c1, rfl, rfl, HB1, HW1⟩ := hcut
  have HX1 := pA (blk_below HX.out HW1.out)
  have HBW1 := pA (below_step (below_alloc (Below.refl w.heap.size w) (.cells #[.int .i64 5, .int .i64 10] 23)) HW1.out)
  clear HX HW1
  have hwc : wc = wc := rfl
  clear hwc
  go_upto_region 3 with fail
  go_cut [4, 5] from 146 (fun v2 v3 W => ∃ b A c, v2 = .pointer (some ⟨b, 0, none⟩) ∧ v3 = .int .i64 0 ∧ Aside0 (ExB W b A c exM) ∧ Aside0 (Below wc.heap.size wc W))
  case first =>
   rename_i J K' hJ hK'
   go_region_held3 (fun w' => w'.cell? ⟨w.heap.size, 0, none⟩ = some (.int .i64 5) ∧ w'.cell? ⟨w.heap.size, 1, none⟩ = some (.int .i64 10) ∧ Below wc.heap.size wc w')
    (first
     | exact keep2 (by assumption) (by assumption)
     | exact keep2 (by assumption) (below_alloc (Below.refl _ _) _)
     | exact ⟨blk_cell HX1.out 0, blk_cell HX1.out 1, below_drew (Below.refl _ _)⟩
     | exact keep2 HS3.out (below_alloc (Below.refl _ _) _)
     | exact keep2_set HS3.out HX1.out (by first | (simp; done) | (have h1 := hb.size; simp at h1 ⊢; omega))
     | go_keep)
    (first
     | (go_at_call 75; refine (potbanklaw03_example.calls exL _ ex_list).mono ?_; rintro e w1 ⟨v1, rfl, ho, hb⟩; obtain ⟨A3, c3, rfl, hc3, HR3⟩ := Kd.R_reads ho; clear ho; (try have HT := pA (blk_below (o := zeroBung) (by first | exact heap_alloc_new _ _ | exact blk_alloc (heap_alloc_new _ _) _) hb)))
     | (go_at_call 59; refine (bung_Set.calls 5 10 _ _ exL _ _ [1, 0, 2] 5 10 exM 0 _ (by first | assumption | exact Kd.C_alloc (by assumption) _ | exact Kd.C_alloc (Kd.C_alloc (by assumption) _) _) (by assumption) (by first | exact C_ord _ _ _ _ _ (by simp) | exact Kd.C_alloc (C_ord _ _ _ _ _ (by simp)) _ | exact Kd.C_below (Kd.C_drew (C_ord _ _ _ _ _ (by simp))) hb | exact Kd.C_below (Kd.C_drew (Kd.C_alloc (C_ord _ _ _ _ _ (by simp)) _)) hb | exact Kd.C_alloc (Kd.C_below (Kd.C_drew (C_ord _ _ _ _ _ (by simp))) hb) _) (Nat.le_refl _) ex_set2).mono ?_; rintro e w3 ⟨v3, rfl, ho3, hb3⟩; obtain ⟨A4, c4, rfl⟩ := Kd.R_slice ho3; have HS3 := pA (keep2 (by assumption) hb3); (try (have HT := pA (blk_below (o := zeroBung) (by first | exact heap_alloc_new _ _ | exact blk_alloc (heap_alloc_new _ _) _ | exact HT.out | exact blk_alloc HT.out _) hb3); (try simp only [World.size_alloc] at HT); have q0 := blk_cell HT.out 0; have q1 := blk_cell HT.out 1; have q2 := blk_cell HT.out 2; have z0 := blk_frozen HT.out 0; have z1 := blk_frozen HT.out 1; have z2 := blk_frozen HT.out 2))))
   all_goals (refine hK' _ _ (Met.intro (hJ _ _ ?_)); (repeat apply Exists.intro); refine ⟨?_, rfl⟩)
   all_goals (first
    | exact ⟨_, _, _, rfl, rfl, ⟨ExB.put HT.out ho3⟩, ⟨And.right (And.right (by assumption))⟩⟩
    | exact ⟨_, _, _, rfl, rfl, ⟨⟨heap_alloc_new _ _, (Kd.R_reads' ho3).2.1, Kd.C_alloc (Kd.R_reads' ho3).2.2 _⟩⟩, ⟨below_alloc HS3.out.2.2 _⟩⟩)
  case rest =>
   obtain ⟨b2, A2, c2, rfl, rfl, HB2, HW2⟩ := hcut
   replace HX1 := pA (blk_below HX1.out HW2.out)
   replace HB1 := pA (HB1.out.below HW2.out)
   replace HBW1 := pA (below_step HBW1.out HW2.out)
   clear HW2
   have y0 := blk_cell HB1.out.1 0
   have y1 := blk_cell HB1.out.1 1
   have y2 := blk_cell HB1.out.1 2
   go_wp2_with fail
   refine (bung_Loads.calls 5 10 A1 c1 exL exR 0 _ HB1.out.2.2 HB1.out.2.1 ex_loads).mono ?_
   rintro e W3 ⟨v3, rfl, ho3, hb3⟩
   have HR3 := pA ho3
   have HX := pA (ExAll.next ⟨HX1.out, HB1.out, HB2.out, HBW1.out⟩ hb3)
   clear ho3 hb3 HX1 HB1 HB2 HBW1 y0 y1 y2
   have y0 := blk_cell HX.out.2.1.1 0
   have y1 := blk_cell HX.out.2.1.1 1
   have y2 := blk_cell HX.out.2.1.1 2
   go_wp2_with fail
   refine (bung_Stands.calls 200 5 10 A1 c1 exL 1 0 _ HX.out.2.1.2.2 HX.out.2.1.2.1 ex_stands1).mono ?_
   rintro e W4 ⟨rfl, hb4⟩
   replace HX := pA (HX.out.next hb4)
   have HR3 := pA (Kd.R_below HR3.out hb4)
   clear hb4 y0 y1 y2
   have y0 := blk_cell HX.out.2.2.1.1 0
   have y1 := blk_cell HX.out.2.2.1.1 1
   have y2 := blk_cell HX.out.2.2.1.1 2
   go_wp2_with fail
   refine (bung_Stands.calls 200 5 10 A2 c2 exM 2 0 _ HX.out.2.2.1.2.2 HX.out.2.2.1.2.1 ex_stands2).mono ?_
   rintro e W5 ⟨rfl, hb5⟩
   replace HX := pA (HX.out.next hb5)
   replace HR3 := pA (Kd.R_below HR3.out hb5)
   clear hb5 y0 y1 y2
   have y0 := blk_cell HX.out.2.1.1 0
   have y1 := blk_cell HX.out.2.1.1 1
   have y2 := blk_cell HX.out.2.1.1 2
   go_wp2_with fail
   refine (bung_Lean.calls 200 5 10 A1 c1 exL 4 0 _ HX.out.2.1.2.2 HX.out.2.1.2.1 ex_lean).mono ?_
   rintro e W6 ⟨rfl, hb6⟩
   replace HX := pA (HX.out.next hb6)
   replace HR3 := pA (Kd.R_below HR3.out hb6)
   clear hb6 y0 y1 y2
   have y0 := blk_cell HX.out.2.2.1.1 0
   have y1 := blk_cell HX.out.2.2.1.1 1
   have y2 := blk_cell HX.out.2.2.1.1 2
   go_wp2_with fail
   refine (bung_Breaks.calls 200 5 10 A2 c2 exM 0 150 exW 0 _ HX.out.2.2.1.2.2 HX.out.2.2.1.2.1 ex_breaks).mono ?_
   rintro e W7 ⟨v7, rfl, ho7, hb7⟩
   obtain ⟨A7, c7, rfl⟩ := Kd.R_slice ho7
   replace HX := pA (HX.out.next hb7)
   replace HR3 := pA (Kd.R_below HR3.out hb7)
   have HR7 := pA ho7
   clear hb7 y0 y1 y2 ho7
   go_upto_region 9 with fail
   replace HX := pA (HX.out.next (below_alloc (Below.refl _ _) (.cells #[.int .i64 0, .int .i64 150, .slice A7 exW.length c7] 75 (0, 0))))
   replace HR3 := pA (Kd.R_alloc HR3.out (.cells #[.int .i64 0, .int .i64 150, .slice A7 exW.length c7] 75 (0, 0)))
   replace HR7 := pA (Kd.R_alloc HR7.out (.cells #[.int .i64 0, .int .i64 150, .slice A7 exW.length c7] 75 (0, 0)))
   have HX7 := pA (heap_alloc_new W7 (.cells #[.int .i64 0, .int .i64 150, .slice A7 exW.length c7] 75 (0, 0)))
   obtain ⟨W8, hW8⟩ : ∃ x : World, x = W7.alloc (.cells #[.int .i64 0, .int .i64 150, .slice A7 exW.length c7] 75 (0, 0)) := ⟨_, rfl⟩
   rw [← hW8] at HX HR3 HR7 HX7
   rw [← hW8]
   clear hW8
   go_region_held3 (fun w' => w'.cell? ⟨w.heap.size, 0, none⟩ = some (.int .i64 5) ∧ w'.cell? ⟨w.heap.size, 1, none⟩ = some (.int .i64 10) ∧ Below W8.heap.size W8 w')
    (first
     | exact keep2 (by assumption) (by assumption)
     | exact ⟨blk_cell HX.out.1 0, blk_cell HX.out.1 1, below_drew (Below.refl _ _)⟩
     | go_keep)
    (first
     | (go_at_call 75; refine (potbanklaw03_example.calls exL _ ex_list).mono ?_; rintro e w1 ⟨v1, rfl, ho, hb⟩; obtain ⟨A8, c8, rfl, hc8, HR8⟩ := Kd.R_reads ho; clear ho)
     | (go_at_call 20; refine (bung_Fewest.calls 5 10 _ _ exL 400 9 exP 0 _ (by assumption) (by assumption) ex_fewest).mono ?_; rintro e w9 ⟨v9, rfl, ho9, hb9⟩; have HB9 := pA (keep2 (by assumption) hb9)))
   replace HX := pA (HX.out.next HB9.out.2.2)
   replace HX7 := pA (blk_below HX7.out HB9.out.2.2)
   obtain ⟨A3, c3, rfl, hc3, hC3⟩ := Kd.R_reads (Kd.R_below HR3.out HB9.out.2.2)
   have HC7 := pA (Kd.R_reads' (Kd.R_below HR7.out HB9.out.2.2)).2
   obtain ⟨A9, c9, rfl, hc9, hC9⟩ := Kd.R_reads ho9
   have HC3 := pA hC3
   have HC9 := pA hC9
   clear ho9 hC3 hC9 HB9 HR3 HR7 hb hb9
   go_wp2_with fail
   refine (potbankref03_SameRanges.calls 200 A3 c3 exR _ 3 [⟨140, 150⟩, ⟨60, 60⟩, ⟨0, 0⟩] true _ (Kd.C_alloc HC3.out _) hc3 (C_rng [⟨140, 150⟩, ⟨60, 60⟩, ⟨0, 0⟩] (by decide) _) (Nat.le_refl _) ex_same1).mono ?_
   rintro e W10 ⟨rfl, hd⟩
   have HB := pA (below_step (below_alloc (Below.refl w9.heap.size w9) (.cells (flatR [⟨140, 150⟩, ⟨60, 60⟩, ⟨0, 0⟩]).toArray 23 (0, 0))) hd.below)
   clear hd
   go_wp2_with fail
   refine (potbankref03_SameParts.calls 200 A9 c9 exP _ 2 [[0, 2], [1]] true _ (Kd.C_below HC9.out (below_alloc (below_alloc (below_alloc HB.out _) _) _)) hc9 (C_rows2 _ _ _ (by simp) (by simp) (by simp)) (Nat.le_refl _) ex_same2).mono ?_
   rintro e W11 ⟨rfl, hd⟩
   replace HB := pA (below_step (below_alloc (below_alloc (below_alloc HB.out (.cells #[.int .i64 0, .int .i64 2] 3 (0, 0))) (.cells #[.int .i64 1] 3 (0, 0))) _) hd.below)
   clear hd
   have y0 := blk_cell (blk_below HX7.out HB.out) 0
   have y1 := blk_cell (blk_below HX7.out HB.out) 1
   have y2 := blk_cell (blk_below HX7.out HB.out) 2
   go_wp2_with fail
   refine (potbankref01_Same.calls 200 A7 c7 exW _ 2 [120, 60] true _ (Kd.C_below HC7.out.2 (below_alloc HB.out _)) HC7.out.1 (C_lit [120, 60] (by decide) _) (Nat.le_refl _) ex_same3).mono ?_
   rintro e W12 ⟨rfl, hd⟩
   replace HB := pA (below_step (below_alloc HB.out _) hd.below)
   clear hd y0 y1 y2
   have y0 := blk_cell (blk_below HX7.out HB.out) 0
   have y1 := blk_cell (blk_below HX7.out HB.out) 1
   have y2 := blk_cell (blk_below HX7.out HB.out) 2
   go_wp2
   go_ret
   exact ⟨rfl, below_step HX.out.2.2.2 HB.out⟩
theorem potbanklaw03_sane.calls (r : Bool) (w : World) (h : potbanklaw03_sane.f = some r) : Calls Try.prog 19 #[] w fun e w' => e = .returned (.bool r) ∧ Below w.heap.size w w' := by
  obtain rfl : true = r := Option.some.inj h
  exact sane_walk w
def potbanklaw03_BungRules.f (k : Nat) (l0 : List (S52)) : Option (Bool) := (potbanklaw03_sane.f).bind fun t510 => ((bung_Rule.f k l0).bind fun bt511 => ((potbankref03_Rule.f k l0).bind fun bt515 => ((bung_CanStand.f k l0).bind fun bt519 => ((potbankref03_CanStand.f k l0).bind fun bt521 => ((potbankref01_Same.f k bt511.1 bt515.1).bind fun t523 => (if t510 = true then (if t523 = true then (if bt511.2 = bt515.2 then (if (bt519.1 == bt521.1) = true then (some (bt519.2 == bt521.2)) else (some false)) else (some false)) else (some false)) else (some false)))))))
theorem potbanklaw03_BungRules.mono : ∀ a0 k, LeO (potbanklaw03_BungRules.f k a0) (potbanklaw03_BungRules.f (k + 1) a0) := by
 intro a0 k
 unfold potbanklaw03_BungRules.f
 repeat' first
   | (with_reducible exact bung_CanStand.mono _ _)
   | (with_reducible exact bung_Rule.mono _ _)
   | (with_reducible exact potbankref01_Same.mono _ _ _)
   | (with_reducible exact potbankref03_CanStand.mono _ _)
   | (with_reducible exact potbankref03_Rule.mono _ _)
   | (with_reducible exact LeO.refl _)
   | (with_reducible exact LeO.none _)
   | (with_reducible refine LeO.ite ?_ ?_)
   | (with_reducible refine LeO.bind ?_ (fun _ => ?_))
   | exact bung_CanStand.mono _ _
   | exact bung_Rule.mono _ _
   | exact potbankref01_Same.mono _ _ _
   | exact potbankref03_CanStand.mono _ _
   | exact potbankref03_Rule.mono _ _
   | exact LeO.none _
   | refine LeO.ite ?_ ?_
   | refine LeO.bind ?_ (fun _ => ?_)
set_option maxHeartbeats 8000000 in
set_option maxRecDepth 100000 in
theorem potbanklaw03_BungRules.calls (k : Nat) (A0 : Option Addr) (c0 : Nat) (l0 : List (S52)) (r : Bool) (w : World) (hr0 : Kd.C k52 w A0 l0.length l0) (hc0 : l0.length ≤ c0) (h : potbanklaw03_BungRules.f k l0 = some r) :
  Calls Try.prog 7 #[.slice A0 l0.length c0] w fun e w' => e = .returned (.bool r) ∧ Below w.heap.size w w' := by
 have HR0 := pA hr0
 have HC0 := pA hc0
 clear hr0 hc0
 have HB := pA (Below.refl w.heap.size w)
 have H : ((potbanklaw03_sane.f).bind fun t510 => ((bung_Rule.f k l0).bind fun bt511 => ((potbankref03_Rule.f k l0).bind fun bt515 => ((bung_CanStand.f k l0).bind fun bt519 => ((potbankref03_CanStand.f k l0).bind fun bt521 => ((potbankref01_Same.f k bt511.1 bt515.1).bind fun t523 => (if t510 = true then (if t523 = true then (if bt511.2 = bt515.2 then (if (bt519.1 == bt521.1) = true then (some (bt519.2 == bt521.2)) else (some false)) else (some false)) else (some false)) else (some false)))))))) = some r := h
 clear h
 replace H := Option.bind_eq_some_iff.mp H
 obtain ⟨t510, A20, H⟩ := H
 replace H : ((bung_Rule.f k l0).bind fun bt511 => ((potbankref03_Rule.f k l0).bind fun bt515 => ((bung_CanStand.f k l0).bind fun bt519 => ((potbankref03_CanStand.f k l0).bind fun bt521 => ((potbankref01_Same.f k bt511.1 bt515.1).bind fun t523 => (if t510 = true then (if t523 = true then (if bt511.2 = bt515.2 then (if (bt519.1 == bt521.1) = true then (some (bt519.2 == bt521.2)) else (some false)) else (some false)) else (some false)) else (some false))))))) = some r := H
 have A2 := pA A20
 clear A20
 replace H := Option.bind_eq_some_iff.mp H
 obtain ⟨⟨t511, t512⟩, A30, H⟩ := H
 replace H : ((potbankref03_Rule.f k l0).bind fun bt515 => ((bung_CanStand.f k l0).bind fun bt519 => ((potbankref03_CanStand.f k l0).bind fun bt521 => ((potbankref01_Same.f k t511 bt515.1).bind fun t523 => (if t510 = true then (if t523 = true then (if t512 = bt515.2 then (if (bt519.1 == bt521.1) = true then (some (bt519.2 == bt521.2)) else (some false)) else (some false)) else (some false)) else (some false)))))) = some r := H
 have A3 := pA A30
 clear A30
 replace H := Option.bind_eq_some_iff.mp H
 obtain ⟨⟨t515, t516⟩, A40, H⟩ := H
 replace H : ((bung_CanStand.f k l0).bind fun bt519 => ((potbankref03_CanStand.f k l0).bind fun bt521 => ((potbankref01_Same.f k t511 t515).bind fun t523 => (if t510 = true then (if t523 = true then (if t512 = t516 then (if (bt519.1 == bt521.1) = true then (some (bt519.2 == bt521.2)) else (some false)) else (some false)) else (some false)) else (some false))))) = some r := H
 have A4 := pA A40
 clear A40
 replace H := Option.bind_eq_some_iff.mp H
 obtain ⟨⟨t519, t520⟩, A50, H⟩ := H
 replace H : ((potbankref03_CanStand.f k l0).bind fun bt521 => ((potbankref01_Same.f k t511 t515).bind fun t523 => (if t510 = true then (if t523 = true then (if t512 = t516 then (if (t519 == bt521.1) = true then (some (t520 == bt521.2)) else (some false)) else (some false)) else (some false)) else (some false)))) = some r := H
 have A5 := pA A50
 clear A50
 replace H := Option.bind_eq_some_iff.mp H
 obtain ⟨⟨t521, t522⟩, A60, H⟩ := H
 replace H : ((potbankref01_Same.f k t511 t515).bind fun t523 => (if t510 = true then (if t523 = true then (if t512 = t516 then (if (t519 == t521) = true then (some (t520 == t522)) else (some false)) else (some false)) else (some false)) else (some false))) = some r := H
 have A6 := pA A60
 clear A60
 replace H := Option.bind_eq_some_iff.mp H
 obtain ⟨t523, A70, H⟩ := H
 replace H : (if t510 = true then (if t523 = true then (if t512 = t516 then (if (t519 == t521) = true then (some (t520 == t522)) else (some false)) else (some false)) else (some false)) else (some false)) = some r := H
 have A7 := pA A70
 clear A70
 by_cases c8 : t510 = true
 ·subst c8
  have H1 : (if t523 = true then (if t512 = t516 then (if (t519 == t521) = true then (some (t520 == t522)) else (some false)) else (some false)) else (some false)) = some r := by rw [if_pos rfl] at H; exact H
  clear H
  have H := H1
  clear H1
  by_cases c9 : t523 = true
  ·subst c9
   have H1 : (if t512 = t516 then (if (t519 == t521) = true then (some (t520 == t522)) else (some false)) else (some false)) = some r := by rw [if_pos rfl] at H; exact H
   clear H
   have H := H1
   clear H1
   by_cases c10 : t512 = t516
   ·rw [if_pos c10] at H
    have c10b0 : (t512 == t516) = true := beq_iff_eq.mpr c10
    have c10b1 : (t512 != t516) = false := bne_eq_false_iff_eq.mpr c10
    clear c10
    by_cases c11 : (t519 == t521) = true
    ·rw [if_pos c11] at H
     have c11b0 : (t519 == t521) = true := c11
     (try (have c11b1 : decide (t519 = t521) = true := by simpa using c11))
     (try (have c11b2 : (t519 == t521) = true := by simpa using c11))
     clear c11
     obtain rfl := Option.some.inj H
     go_enter Try.func7, Try.ntmps7
     go_wp2_with (first | ((with_reducible refine aF (f := 19) rfl ?_); refine goesL_ (some 13) rfl rfl Try.func19 (by kernel_rfl) rfl #[] rfl (by (try simp only [pE, pF, pG]); first | done | rfl | (simp only [pH, pI]; rfl)) ?_; (with_reducible refine (potbanklaw03_sane.calls  true _ A2.out).mono ?_); rintro e w12 ⟨rfl, hb⟩; refine ⟨_, rfl, ?_⟩; have n0_ := pA (below_step (vB HB) hb); clear HB; have HB := n0_; clear n0_; (try clear hb); (try clear hb2); (try clear hk); (try clear hi)) | ((with_reducible refine aF (f := 41) rfl ?_); refine goesL_ (some 16) rfl rfl Try.func41 (by kernel_rfl) rfl #[.slice A0 l0.length c0] rfl (by (try simp only [pE, pF, pG]); first | done | rfl | (simp only [pH, pI]; rfl)) ?_; (with_reducible refine (bung_Rule.calls k _ _ l0 t511 t512 _ ?side1 ?side2 A3.out).mono ?_); (case side1 => repeat (first | exact (Kd.C_below HR0.out HB.out) | (with_reducible refine Kd.C_alloc ?_ _) | (with_reducible refine Kd.C_drewN ?_ _) | (with_reducible refine Kd.C_drew ?_))); (case side2 => exact HC0.out); rintro e w13 ⟨v513, rfl, ho0, hb⟩; refine ⟨_, rfl, ?_⟩; have n0_ := pA (Kd.R_lower ho0 (below_size (vB HB))); have n1_ := pA (below_step (vB HB) hb); clear HB; have HO514 := n0_; have HB := n1_; clear n0_ n1_; (try clear hb); (try clear hb2); (try clear hk); (try clear hi); (try clear ho0)) | ((with_reducible refine aF (f := 42) rfl ?_); refine goesL_ (some 21) rfl rfl Try.func42 (by kernel_rfl) rfl #[.slice A0 l0.length c0] rfl (by (try simp only [pE, pF, pG]); first | done | rfl | (simp only [pH, pI]; rfl)) ?_; (with_reducible refine (potbankref03_Rule.calls k _ _ l0 t515 t516 _ ?side1 ?side2 A4.out).mono ?_); (case side1 => repeat (first | exact (Kd.C_below HR0.out HB.out) | (with_reducible refine Kd.C_alloc ?_ _) | (with_reducible refine Kd.C_drewN ?_ _) | (with_reducible refine Kd.C_drew ?_))); (case side2 => exact HC0.out); rintro e w14 ⟨v517, rfl, ho0, hb⟩; refine ⟨_, rfl, ?_⟩; have n0_ := pA (Kd.R_elder' (vR HO514) (Kd.R_base ho0) hb); have n1_ := pA (Kd.R_lower (Kd.R_new' ho0 (Kd.R_lt (vR HO514))) (below_size (vB HB))); have n2_ := pA (below_step (vB HB) hb); clear HO514; clear HB; have HO514 := n0_; have HO518 := n1_; have HB := n2_; clear n0_ n1_ n2_; (try clear hb); (try clear hb2); (try clear hk); (try clear hi); (try clear ho0)) | ((with_reducible refine aF (f := 43) rfl ?_); refine goesL_ (some 26) rfl rfl Try.func43 (by kernel_rfl) rfl #[.slice A0 l0.length c0] rfl (by (try simp only [pE, pF, pG]); first | done | rfl | (simp only [pH, pI]; rfl)) ?_; (with_reducible refine (bung_CanStand.calls k _ _ l0 t519 t520 _ ?side1 ?side2 A5.out).mono ?_); (case side1 => repeat (first | exact (Kd.C_below HR0.out HB.out) | (with_reducible refine Kd.C_alloc ?_ _) | (with_reducible refine Kd.C_drewN ?_ _) | (with_reducible refine Kd.C_drew ?_))); (case side2 => exact HC0.out); rintro e w15 ⟨rfl, hb⟩; refine ⟨_, rfl, ?_⟩; have n0_ := pA (Kd.R_below (vR HO514) hb); have n1_ := pA (Kd.R_below (vR HO518) hb); have n2_ := pA (below_step (vB HB) hb); clear HO514; clear HO518; clear HB; have HO514 := n0_; have HO518 := n1_; have HB := n2_; clear n0_ n1_ n2_; (try clear hb); (try clear hb2); (try clear hk); (try clear hi)) | ((with_reducible refine aF (f := 44) rfl ?_); refine goesL_ (some 31) rfl rfl Try.func44 (by kernel_rfl) rfl #[.slice A0 l0.length c0] rfl (by (try simp only [pE, pF, pG]); first | done | rfl | (simp only [pH, pI]; rfl)) ?_; (with_reducible refine (potbankref03_CanStand.calls k _ _ l0 t521 t522 _ ?side1 ?side2 A6.out).mono ?_); (case side1 => repeat (first | exact (Kd.C_below HR0.out HB.out) | (with_reducible refine Kd.C_alloc ?_ _) | (with_reducible refine Kd.C_drewN ?_ _) | (with_reducible refine Kd.C_drew ?_))); (case side2 => exact HC0.out); rintro e w16 ⟨rfl, hb⟩; refine ⟨_, rfl, ?_⟩; have n0_ := pA (Kd.R_below (vR HO514) hb); have n1_ := pA (Kd.R_below (vR HO518) hb); have n2_ := pA (below_step (vB HB) hb); clear HO514; clear HO518; clear HB; have HO514 := n0_; have HO518 := n1_; have HB := n2_; clear n0_ n1_ n2_; (try clear hb); (try clear hb2); (try clear hk); (try clear hi); obtain ⟨Ao17, co17, eo17⟩ := Kd.R_slice HO514.out; subst eo17; obtain ⟨Ao18, co18, eo18⟩ := Kd.R_slice HO518.out; subst eo18) | ((with_reducible refine aF (f := 40) rfl ?_); refine goesL_ (some 36) rfl rfl Try.func40 (by kernel_rfl) rfl #[.slice Ao17 t511.length co17, .slice Ao18 t515.length co18] rfl (by (try simp only [pE, pF, pG]); first | done | rfl | (simp only [pH, pI]; rfl)) ?_; (with_reducible refine (potbankref01_Same.calls k _ _ t511 _ _ t515 true _ ?side1 ?side2 ?side3 ?side4 A7.out).mono ?_); (case side1 => repeat (first | exact (Kd.R_reads' HO514.out).2.2 | (with_reducible refine Kd.C_alloc ?_ _) | (with_reducible refine Kd.C_drewN ?_ _) | (with_reducible refine Kd.C_drew ?_))); (case side2 => exact (Kd.R_reads' HO514.out).2.1); (case side3 => repeat (first | exact (Kd.R_reads' HO518.out).2.2 | (with_reducible refine Kd.C_alloc ?_ _) | (with_reducible refine Kd.C_drewN ?_ _) | (with_reducible refine Kd.C_drew ?_))); (case side4 => exact (Kd.R_reads' HO518.out).2.1); rintro e w' ⟨rfl, ⟨nd, rfl⟩⟩; refine ⟨_, rfl, ?_⟩))
     go_ret
     exact ⟨by first | rfl | (simp [errW_none, errW_some] <;> rfl) | (simp [*, errW_none, errW_some] <;> rfl), by repeat (first | (with_reducible first | exact HB.out | apply below_alloc | apply pw_below_drewN | apply below_drew1) | exact HB.out)⟩
    ·rw [if_neg c11] at H
     have c11b0 : (t519 == t521) = false := by simpa using c11
     (try (have c11b1 : decide (t519 = t521) = false := by simpa using c11))
     (try (have c11b2 : (t519 == t521) = false := by simpa using c11))
     (try (have c11b3 : ¬ (t519 = t521) := by simpa using c11))
     clear c11
     obtain rfl := Option.some.inj H
     go_enter Try.func7, Try.ntmps7
     go_wp2_with (first | ((with_reducible refine aF (f := 19) rfl ?_); refine goesL_ (some 13) rfl rfl Try.func19 (by kernel_rfl) rfl #[] rfl (by (try simp only [pE, pF, pG]); first | done | rfl | (simp only [pH, pI]; rfl)) ?_; (with_reducible refine (potbanklaw03_sane.calls  true _ A2.out).mono ?_); rintro e w19 ⟨rfl, hb⟩; refine ⟨_, rfl, ?_⟩; have n0_ := pA (below_step (vB HB) hb); clear HB; have HB := n0_; clear n0_; (try clear hb); (try clear hb2); (try clear hk); (try clear hi)) | ((with_reducible refine aF (f := 41) rfl ?_); refine goesL_ (some 16) rfl rfl Try.func41 (by kernel_rfl) rfl #[.slice A0 l0.length c0] rfl (by (try simp only [pE, pF, pG]); first | done | rfl | (simp only [pH, pI]; rfl)) ?_; (with_reducible refine (bung_Rule.calls k _ _ l0 t511 t512 _ ?side1 ?side2 A3.out).mono ?_); (case side1 => repeat (first | exact (Kd.C_below HR0.out HB.out) | (with_reducible refine Kd.C_alloc ?_ _) | (with_reducible refine Kd.C_drewN ?_ _) | (with_reducible refine Kd.C_drew ?_))); (case side2 => exact HC0.out); rintro e w20 ⟨v513, rfl, ho0, hb⟩; refine ⟨_, rfl, ?_⟩; have n0_ := pA (Kd.R_lower ho0 (below_size (vB HB))); have n1_ := pA (below_step (vB HB) hb); clear HB; have HO514 := n0_; have HB := n1_; clear n0_ n1_; (try clear hb); (try clear hb2); (try clear hk); (try clear hi); (try clear ho0)) | ((with_reducible refine aF (f := 42) rfl ?_); refine goesL_ (some 21) rfl rfl Try.func42 (by kernel_rfl) rfl #[.slice A0 l0.length c0] rfl (by (try simp only [pE, pF, pG]); first | done | rfl | (simp only [pH, pI]; rfl)) ?_; (with_reducible refine (potbankref03_Rule.calls k _ _ l0 t515 t516 _ ?side1 ?side2 A4.out).mono ?_); (case side1 => repeat (first | exact (Kd.C_below HR0.out HB.out) | (with_reducible refine Kd.C_alloc ?_ _) | (with_reducible refine Kd.C_drewN ?_ _) | (with_reducible refine Kd.C_drew ?_))); (case side2 => exact HC0.out); rintro e w21 ⟨v517, rfl, ho0, hb⟩; refine ⟨_, rfl, ?_⟩; have n0_ := pA (Kd.R_elder' (vR HO514) (Kd.R_base ho0) hb); have n1_ := pA (Kd.R_lower (Kd.R_new' ho0 (Kd.R_lt (vR HO514))) (below_size (vB HB))); have n2_ := pA (below_step (vB HB) hb); clear HO514; clear HB; have HO514 := n0_; have HO518 := n1_; have HB := n2_; clear n0_ n1_ n2_; (try clear hb); (try clear hb2); (try clear hk); (try clear hi); (try clear ho0)) | ((with_reducible refine aF (f := 43) rfl ?_); refine goesL_ (some 26) rfl rfl Try.func43 (by kernel_rfl) rfl #[.slice A0 l0.length c0] rfl (by (try simp only [pE, pF, pG]); first | done | rfl | (simp only [pH, pI]; rfl)) ?_; (with_reducible refine (bung_CanStand.calls k _ _ l0 t519 t520 _ ?side1 ?side2 A5.out).mono ?_); (case side1 => repeat (first | exact (Kd.C_below HR0.out HB.out) | (with_reducible refine Kd.C_alloc ?_ _) | (with_reducible refine Kd.C_drewN ?_ _) | (with_reducible refine Kd.C_drew ?_))); (case side2 => exact HC0.out); rintro e w22 ⟨rfl, hb⟩; refine ⟨_, rfl, ?_⟩; have n0_ := pA (Kd.R_below (vR HO514) hb); have n1_ := pA (Kd.R_below (vR HO518) hb); have n2_ := pA (below_step (vB HB) hb); clear HO514; clear HO518; clear HB; have HO514 := n0_; have HO518 := n1_; have HB := n2_; clear n0_ n1_ n2_; (try clear hb); (try clear hb2); (try clear hk); (try clear hi)) | ((with_reducible refine aF (f := 44) rfl ?_); refine goesL_ (some 31) rfl rfl Try.func44 (by kernel_rfl) rfl #[.slice A0 l0.length c0] rfl (by (try simp only [pE, pF, pG]); first | done | rfl | (simp only [pH, pI]; rfl)) ?_; (with_reducible refine (potbankref03_CanStand.calls k _ _ l0 t521 t522 _ ?side1 ?side2 A6.out).mono ?_); (case side1 => repeat (first | exact (Kd.C_below HR0.out HB.out) | (with_reducible refine Kd.C_alloc ?_ _) | (with_reducible refine Kd.C_drewN ?_ _) | (with_reducible refine Kd.C_drew ?_))); (case side2 => exact HC0.out); rintro e w23 ⟨rfl, hb⟩; refine ⟨_, rfl, ?_⟩; have n0_ := pA (Kd.R_below (vR HO514) hb); have n1_ := pA (Kd.R_below (vR HO518) hb); have n2_ := pA (below_step (vB HB) hb); clear HO514; clear HO518; clear HB; have HO514 := n0_; have HO518 := n1_; have HB := n2_; clear n0_ n1_ n2_; (try clear hb); (try clear hb2); (try clear hk); (try clear hi); obtain ⟨Ao24, co24, eo24⟩ := Kd.R_slice HO514.out; subst eo24; obtain ⟨Ao25, co25, eo25⟩ := Kd.R_slice HO518.out; subst eo25) | ((with_reducible refine aF (f := 40) rfl ?_); refine goesL_ (some 36) rfl rfl Try.func40 (by kernel_rfl) rfl #[.slice Ao24 t511.length co24, .slice Ao25 t515.length co25] rfl (by (try simp only [pE, pF, pG]); first | done | rfl | (simp only [pH, pI]; rfl)) ?_; (with_reducible refine (potbankref01_Same.calls k _ _ t511 _ _ t515 true _ ?side1 ?side2 ?side3 ?side4 A7.out).mono ?_); (case side1 => repeat (first | exact (Kd.R_reads' HO514.out).2.2 | (with_reducible refine Kd.C_alloc ?_ _) | (with_reducible refine Kd.C_drewN ?_ _) | (with_reducible refine Kd.C_drew ?_))); (case side2 => exact (Kd.R_reads' HO514.out).2.1); (case side3 => repeat (first | exact (Kd.R_reads' HO518.out).2.2 | (with_reducible refine Kd.C_alloc ?_ _) | (with_reducible refine Kd.C_drewN ?_ _) | (with_reducible refine Kd.C_drew ?_))); (case side4 => exact (Kd.R_reads' HO518.out).2.1); rintro e w' ⟨rfl, ⟨nd, rfl⟩⟩; refine ⟨_, rfl, ?_⟩))
     go_ret
     exact ⟨by first | rfl | (simp [errW_none, errW_some] <;> rfl) | (simp [*, errW_none, errW_some] <;> rfl), by repeat (first | (with_reducible first | exact HB.out | apply below_alloc | apply pw_below_drewN | apply below_drew1) | exact HB.out)⟩
   ·rw [if_neg c10] at H
    have c10b0 : (t512 == t516) = false := beq_eq_false_iff_ne.mpr c10
    have c10b1 : (t512 != t516) = true := bne_iff_ne.mpr c10
    obtain rfl := Option.some.inj H
    go_enter Try.func7, Try.ntmps7
    go_wp2_with (first | ((with_reducible refine aF (f := 19) rfl ?_); refine goesL_ (some 13) rfl rfl Try.func19 (by kernel_rfl) rfl #[] rfl (by (try simp only [pE, pF, pG]); first | done | rfl | (simp only [pH, pI]; rfl)) ?_; (with_reducible refine (potbanklaw03_sane.calls  true _ A2.out).mono ?_); rintro e w26 ⟨rfl, hb⟩; refine ⟨_, rfl, ?_⟩; have n0_ := pA (below_step (vB HB) hb); clear HB; have HB := n0_; clear n0_; (try clear hb); (try clear hb2); (try clear hk); (try clear hi)) | ((with_reducible refine aF (f := 41) rfl ?_); refine goesL_ (some 16) rfl rfl Try.func41 (by kernel_rfl) rfl #[.slice A0 l0.length c0] rfl (by (try simp only [pE, pF, pG]); first | done | rfl | (simp only [pH, pI]; rfl)) ?_; (with_reducible refine (bung_Rule.calls k _ _ l0 t511 t512 _ ?side1 ?side2 A3.out).mono ?_); (case side1 => repeat (first | exact (Kd.C_below HR0.out HB.out) | (with_reducible refine Kd.C_alloc ?_ _) | (with_reducible refine Kd.C_drewN ?_ _) | (with_reducible refine Kd.C_drew ?_))); (case side2 => exact HC0.out); rintro e w27 ⟨v513, rfl, ho0, hb⟩; refine ⟨_, rfl, ?_⟩; have n0_ := pA (Kd.R_lower ho0 (below_size (vB HB))); have n1_ := pA (below_step (vB HB) hb); clear HB; have HO514 := n0_; have HB := n1_; clear n0_ n1_; (try clear hb); (try clear hb2); (try clear hk); (try clear hi); (try clear ho0)) | ((with_reducible refine aF (f := 42) rfl ?_); refine goesL_ (some 21) rfl rfl Try.func42 (by kernel_rfl) rfl #[.slice A0 l0.length c0] rfl (by (try simp only [pE, pF, pG]); first | done | rfl | (simp only [pH, pI]; rfl)) ?_; (with_reducible refine (potbankref03_Rule.calls k _ _ l0 t515 t516 _ ?side1 ?side2 A4.out).mono ?_); (case side1 => repeat (first | exact (Kd.C_below HR0.out HB.out) | (with_reducible refine Kd.C_alloc ?_ _) | (with_reducible refine Kd.C_drewN ?_ _) | (with_reducible refine Kd.C_drew ?_))); (case side2 => exact HC0.out); rintro e w28 ⟨v517, rfl, ho0, hb⟩; refine ⟨_, rfl, ?_⟩; have n0_ := pA (Kd.R_elder' (vR HO514) (Kd.R_base ho0) hb); have n1_ := pA (Kd.R_lower (Kd.R_new' ho0 (Kd.R_lt (vR HO514))) (below_size (vB HB))); have n2_ := pA (below_step (vB HB) hb); clear HO514; clear HB; have HO514 := n0_; have HO518 := n1_; have HB := n2_; clear n0_ n1_ n2_; (try clear hb); (try clear hb2); (try clear hk); (try clear hi); (try clear ho0)) | ((with_reducible refine aF (f := 43) rfl ?_); refine goesL_ (some 26) rfl rfl Try.func43 (by kernel_rfl) rfl #[.slice A0 l0.length c0] rfl (by (try simp only [pE, pF, pG]); first | done | rfl | (simp only [pH, pI]; rfl)) ?_; (with_reducible refine (bung_CanStand.calls k _ _ l0 t519 t520 _ ?side1 ?side2 A5.out).mono ?_); (case side1 => repeat (first | exact (Kd.C_below HR0.out HB.out) | (with_reducible refine Kd.C_alloc ?_ _) | (with_reducible refine Kd.C_drewN ?_ _) | (with_reducible refine Kd.C_drew ?_))); (case side2 => exact HC0.out); rintro e w29 ⟨rfl, hb⟩; refine ⟨_, rfl, ?_⟩; have n0_ := pA (Kd.R_below (vR HO514) hb); have n1_ := pA (Kd.R_below (vR HO518) hb); have n2_ := pA (below_step (vB HB) hb); clear HO514; clear HO518; clear HB; have HO514 := n0_; have HO518 := n1_; have HB := n2_; clear n0_ n1_ n2_; (try clear hb); (try clear hb2); (try clear hk); (try clear hi)) | ((with_reducible refine aF (f := 44) rfl ?_); refine goesL_ (some 31) rfl rfl Try.func44 (by kernel_rfl) rfl #[.slice A0 l0.length c0] rfl (by (try simp only [pE, pF, pG]); first | done | rfl | (simp only [pH, pI]; rfl)) ?_; (with_reducible refine (potbankref03_CanStand.calls k _ _ l0 t521 t522 _ ?side1 ?side2 A6.out).mono ?_); (case side1 => repeat (first | exact (Kd.C_below HR0.out HB.out) | (with_reducible refine Kd.C_alloc ?_ _) | (with_reducible refine Kd.C_drewN ?_ _) | (with_reducible refine Kd.C_drew ?_))); (case side2 => exact HC0.out); rintro e w30 ⟨rfl, hb⟩; refine ⟨_, rfl, ?_⟩; have n0_ := pA (Kd.R_below (vR HO514) hb); have n1_ := pA (Kd.R_below (vR HO518) hb); have n2_ := pA (below_step (vB HB) hb); clear HO514; clear HO518; clear HB; have HO514 := n0_; have HO518 := n1_; have HB := n2_; clear n0_ n1_ n2_; (try clear hb); (try clear hb2); (try clear hk); (try clear hi); obtain ⟨Ao31, co31, eo31⟩ := Kd.R_slice HO514.out; subst eo31; obtain ⟨Ao32, co32, eo32⟩ := Kd.R_slice HO518.out; subst eo32) | ((with_reducible refine aF (f := 40) rfl ?_); refine goesL_ (some 36) rfl rfl Try.func40 (by kernel_rfl) rfl #[.slice Ao31 t511.length co31, .slice Ao32 t515.length co32] rfl (by (try simp only [pE, pF, pG]); first | done | rfl | (simp only [pH, pI]; rfl)) ?_; (with_reducible refine (potbankref01_Same.calls k _ _ t511 _ _ t515 true _ ?side1 ?side2 ?side3 ?side4 A7.out).mono ?_); (case side1 => repeat (first | exact (Kd.R_reads' HO514.out).2.2 | (with_reducible refine Kd.C_alloc ?_ _) | (with_reducible refine Kd.C_drewN ?_ _) | (with_reducible refine Kd.C_drew ?_))); (case side2 => exact (Kd.R_reads' HO514.out).2.1); (case side3 => repeat (first | exact (Kd.R_reads' HO518.out).2.2 | (with_reducible refine Kd.C_alloc ?_ _) | (with_reducible refine Kd.C_drewN ?_ _) | (with_reducible refine Kd.C_drew ?_))); (case side4 => exact (Kd.R_reads' HO518.out).2.1); rintro e w' ⟨rfl, ⟨nd, rfl⟩⟩; refine ⟨_, rfl, ?_⟩))
    go_ret
    exact ⟨by first | rfl | (simp [errW_none, errW_some] <;> rfl) | (simp [*, errW_none, errW_some] <;> rfl), by repeat (first | (with_reducible first | exact HB.out | apply below_alloc | apply pw_below_drewN | apply below_drew1) | exact HB.out)⟩
  ·replace c9 := Bool.eq_false_iff.mpr c9
   subst c9
   have H1 : (some false) = some r := by rw [if_neg (show ¬ (false = true) by decide)] at H; exact H
   clear H
   have H := H1
   clear H1
   obtain rfl := Option.some.inj H
   go_enter Try.func7, Try.ntmps7
   go_wp2_with (first | ((with_reducible refine aF (f := 19) rfl ?_); refine goesL_ (some 13) rfl rfl Try.func19 (by kernel_rfl) rfl #[] rfl (by (try simp only [pE, pF, pG]); first | done | rfl | (simp only [pH, pI]; rfl)) ?_; (with_reducible refine (potbanklaw03_sane.calls  true _ A2.out).mono ?_); rintro e w33 ⟨rfl, hb⟩; refine ⟨_, rfl, ?_⟩; have n0_ := pA (below_step (vB HB) hb); clear HB; have HB := n0_; clear n0_; (try clear hb); (try clear hb2); (try clear hk); (try clear hi)) | ((with_reducible refine aF (f := 41) rfl ?_); refine goesL_ (some 16) rfl rfl Try.func41 (by kernel_rfl) rfl #[.slice A0 l0.length c0] rfl (by (try simp only [pE, pF, pG]); first | done | rfl | (simp only [pH, pI]; rfl)) ?_; (with_reducible refine (bung_Rule.calls k _ _ l0 t511 t512 _ ?side1 ?side2 A3.out).mono ?_); (case side1 => repeat (first | exact (Kd.C_below HR0.out HB.out) | (with_reducible refine Kd.C_alloc ?_ _) | (with_reducible refine Kd.C_drewN ?_ _) | (with_reducible refine Kd.C_drew ?_))); (case side2 => exact HC0.out); rintro e w34 ⟨v513, rfl, ho0, hb⟩; refine ⟨_, rfl, ?_⟩; have n0_ := pA (Kd.R_lower ho0 (below_size (vB HB))); have n1_ := pA (below_step (vB HB) hb); clear HB; have HO514 := n0_; have HB := n1_; clear n0_ n1_; (try clear hb); (try clear hb2); (try clear hk); (try clear hi); (try clear ho0)) | ((with_reducible refine aF (f := 42) rfl ?_); refine goesL_ (some 21) rfl rfl Try.func42 (by kernel_rfl) rfl #[.slice A0 l0.length c0] rfl (by (try simp only [pE, pF, pG]); first | done | rfl | (simp only [pH, pI]; rfl)) ?_; (with_reducible refine (potbankref03_Rule.calls k _ _ l0 t515 t516 _ ?side1 ?side2 A4.out).mono ?_); (case side1 => repeat (first | exact (Kd.C_below HR0.out HB.out) | (with_reducible refine Kd.C_alloc ?_ _) | (with_reducible refine Kd.C_drewN ?_ _) | (with_reducible refine Kd.C_drew ?_))); (case side2 => exact HC0.out); rintro e w35 ⟨v517, rfl, ho0, hb⟩; refine ⟨_, rfl, ?_⟩; have n0_ := pA (Kd.R_elder' (vR HO514) (Kd.R_base ho0) hb); have n1_ := pA (Kd.R_lower (Kd.R_new' ho0 (Kd.R_lt (vR HO514))) (below_size (vB HB))); have n2_ := pA (below_step (vB HB) hb); clear HO514; clear HB; have HO514 := n0_; have HO518 := n1_; have HB := n2_; clear n0_ n1_ n2_; (try clear hb); (try clear hb2); (try clear hk); (try clear hi); (try clear ho0)) | ((with_reducible refine aF (f := 43) rfl ?_); refine goesL_ (some 26) rfl rfl Try.func43 (by kernel_rfl) rfl #[.slice A0 l0.length c0] rfl (by (try simp only [pE, pF, pG]); first | done | rfl | (simp only [pH, pI]; rfl)) ?_; (with_reducible refine (bung_CanStand.calls k _ _ l0 t519 t520 _ ?side1 ?side2 A5.out).mono ?_); (case side1 => repeat (first | exact (Kd.C_below HR0.out HB.out) | (with_reducible refine Kd.C_alloc ?_ _) | (with_reducible refine Kd.C_drewN ?_ _) | (with_reducible refine Kd.C_drew ?_))); (case side2 => exact HC0.out); rintro e w36 ⟨rfl, hb⟩; refine ⟨_, rfl, ?_⟩; have n0_ := pA (Kd.R_below (vR HO514) hb); have n1_ := pA (Kd.R_below (vR HO518) hb); have n2_ := pA (below_step (vB HB) hb); clear HO514; clear HO518; clear HB; have HO514 := n0_; have HO518 := n1_; have HB := n2_; clear n0_ n1_ n2_; (try clear hb); (try clear hb2); (try clear hk); (try clear hi)) | ((with_reducible refine aF (f := 44) rfl ?_); refine goesL_ (some 31) rfl rfl Try.func44 (by kernel_rfl) rfl #[.slice A0 l0.length c0] rfl (by (try simp only [pE, pF, pG]); first | done | rfl | (simp only [pH, pI]; rfl)) ?_; (with_reducible refine (potbankref03_CanStand.calls k _ _ l0 t521 t522 _ ?side1 ?side2 A6.out).mono ?_); (case side1 => repeat (first | exact (Kd.C_below HR0.out HB.out) | (with_reducible refine Kd.C_alloc ?_ _) | (with_reducible refine Kd.C_drewN ?_ _) | (with_reducible refine Kd.C_drew ?_))); (case side2 => exact HC0.out); rintro e w37 ⟨rfl, hb⟩; refine ⟨_, rfl, ?_⟩; have n0_ := pA (Kd.R_below (vR HO514) hb); have n1_ := pA (Kd.R_below (vR HO518) hb); have n2_ := pA (below_step (vB HB) hb); clear HO514; clear HO518; clear HB; have HO514 := n0_; have HO518 := n1_; have HB := n2_; clear n0_ n1_ n2_; (try clear hb); (try clear hb2); (try clear hk); (try clear hi); obtain ⟨Ao38, co38, eo38⟩ := Kd.R_slice HO514.out; subst eo38; obtain ⟨Ao39, co39, eo39⟩ := Kd.R_slice HO518.out; subst eo39) | ((with_reducible refine aF (f := 40) rfl ?_); refine goesL_ (some 36) rfl rfl Try.func40 (by kernel_rfl) rfl #[.slice Ao38 t511.length co38, .slice Ao39 t515.length co39] rfl (by (try simp only [pE, pF, pG]); first | done | rfl | (simp only [pH, pI]; rfl)) ?_; (with_reducible refine (potbankref01_Same.calls k _ _ t511 _ _ t515 false _ ?side1 ?side2 ?side3 ?side4 A7.out).mono ?_); (case side1 => repeat (first | exact (Kd.R_reads' HO514.out).2.2 | (with_reducible refine Kd.C_alloc ?_ _) | (with_reducible refine Kd.C_drewN ?_ _) | (with_reducible refine Kd.C_drew ?_))); (case side2 => exact (Kd.R_reads' HO514.out).2.1); (case side3 => repeat (first | exact (Kd.R_reads' HO518.out).2.2 | (with_reducible refine Kd.C_alloc ?_ _) | (with_reducible refine Kd.C_drewN ?_ _) | (with_reducible refine Kd.C_drew ?_))); (case side4 => exact (Kd.R_reads' HO518.out).2.1); rintro e w' ⟨rfl, ⟨nd, rfl⟩⟩; refine ⟨_, rfl, ?_⟩))
   go_ret
   exact ⟨by first | rfl | (simp [errW_none, errW_some] <;> rfl) | (simp [*, errW_none, errW_some] <;> rfl), by repeat (first | (with_reducible first | exact HB.out | apply below_alloc | apply pw_below_drewN | apply below_drew1) | exact HB.out)⟩
 ·replace c8 := Bool.eq_false_iff.mpr c8
  subst c8
  have H1 : (some false) = some r := by rw [if_neg (show ¬ (false = true) by decide)] at H; exact H
  clear H
  have H := H1
  clear H1
  obtain rfl := Option.some.inj H
  go_enter Try.func7, Try.ntmps7
  go_wp2_with (first | ((with_reducible refine aF (f := 19) rfl ?_); refine goesL_ (some 13) rfl rfl Try.func19 (by kernel_rfl) rfl #[] rfl (by (try simp only [pE, pF, pG]); first | done | rfl | (simp only [pH, pI]; rfl)) ?_; (with_reducible refine (potbanklaw03_sane.calls  false _ A2.out).mono ?_); rintro e w40 ⟨rfl, hb⟩; refine ⟨_, rfl, ?_⟩; have n0_ := pA (below_step (vB HB) hb); clear HB; have HB := n0_; clear n0_; (try clear hb); (try clear hb2); (try clear hk); (try clear hi)) | ((with_reducible refine aF (f := 41) rfl ?_); refine goesL_ (some 16) rfl rfl Try.func41 (by kernel_rfl) rfl #[.slice A0 l0.length c0] rfl (by (try simp only [pE, pF, pG]); first | done | rfl | (simp only [pH, pI]; rfl)) ?_; (with_reducible refine (bung_Rule.calls k _ _ l0 t511 t512 _ ?side1 ?side2 A3.out).mono ?_); (case side1 => repeat (first | exact (Kd.C_below HR0.out HB.out) | (with_reducible refine Kd.C_alloc ?_ _) | (with_reducible refine Kd.C_drewN ?_ _) | (with_reducible refine Kd.C_drew ?_))); (case side2 => exact HC0.out); rintro e w41 ⟨v513, rfl, ho0, hb⟩; refine ⟨_, rfl, ?_⟩; have n0_ := pA (Kd.R_lower ho0 (below_size (vB HB))); have n1_ := pA (below_step (vB HB) hb); clear HB; have HO514 := n0_; have HB := n1_; clear n0_ n1_; (try clear hb); (try clear hb2); (try clear hk); (try clear hi); (try clear ho0)) | ((with_reducible refine aF (f := 42) rfl ?_); refine goesL_ (some 21) rfl rfl Try.func42 (by kernel_rfl) rfl #[.slice A0 l0.length c0] rfl (by (try simp only [pE, pF, pG]); first | done | rfl | (simp only [pH, pI]; rfl)) ?_; (with_reducible refine (potbankref03_Rule.calls k _ _ l0 t515 t516 _ ?side1 ?side2 A4.out).mono ?_); (case side1 => repeat (first | exact (Kd.C_below HR0.out HB.out) | (with_reducible refine Kd.C_alloc ?_ _) | (with_reducible refine Kd.C_drewN ?_ _) | (with_reducible refine Kd.C_drew ?_))); (case side2 => exact HC0.out); rintro e w42 ⟨v517, rfl, ho0, hb⟩; refine ⟨_, rfl, ?_⟩; have n0_ := pA (Kd.R_elder' (vR HO514) (Kd.R_base ho0) hb); have n1_ := pA (Kd.R_lower (Kd.R_new' ho0 (Kd.R_lt (vR HO514))) (below_size (vB HB))); have n2_ := pA (below_step (vB HB) hb); clear HO514; clear HB; have HO514 := n0_; have HO518 := n1_; have HB := n2_; clear n0_ n1_ n2_; (try clear hb); (try clear hb2); (try clear hk); (try clear hi); (try clear ho0)) | ((with_reducible refine aF (f := 43) rfl ?_); refine goesL_ (some 26) rfl rfl Try.func43 (by kernel_rfl) rfl #[.slice A0 l0.length c0] rfl (by (try simp only [pE, pF, pG]); first | done | rfl | (simp only [pH, pI]; rfl)) ?_; (with_reducible refine (bung_CanStand.calls k _ _ l0 t519 t520 _ ?side1 ?side2 A5.out).mono ?_); (case side1 => repeat (first | exact (Kd.C_below HR0.out HB.out) | (with_reducible refine Kd.C_alloc ?_ _) | (with_reducible refine Kd.C_drewN ?_ _) | (with_reducible refine Kd.C_drew ?_))); (case side2 => exact HC0.out); rintro e w43 ⟨rfl, hb⟩; refine ⟨_, rfl, ?_⟩; have n0_ := pA (Kd.R_below (vR HO514) hb); have n1_ := pA (Kd.R_below (vR HO518) hb); have n2_ := pA (below_step (vB HB) hb); clear HO514; clear HO518; clear HB; have HO514 := n0_; have HO518 := n1_; have HB := n2_; clear n0_ n1_ n2_; (try clear hb); (try clear hb2); (try clear hk); (try clear hi)) | ((with_reducible refine aF (f := 44) rfl ?_); refine goesL_ (some 31) rfl rfl Try.func44 (by kernel_rfl) rfl #[.slice A0 l0.length c0] rfl (by (try simp only [pE, pF, pG]); first | done | rfl | (simp only [pH, pI]; rfl)) ?_; (with_reducible refine (potbankref03_CanStand.calls k _ _ l0 t521 t522 _ ?side1 ?side2 A6.out).mono ?_); (case side1 => repeat (first | exact (Kd.C_below HR0.out HB.out) | (with_reducible refine Kd.C_alloc ?_ _) | (with_reducible refine Kd.C_drewN ?_ _) | (with_reducible refine Kd.C_drew ?_))); (case side2 => exact HC0.out); rintro e w44 ⟨rfl, hb⟩; refine ⟨_, rfl, ?_⟩; have n0_ := pA (Kd.R_below (vR HO514) hb); have n1_ := pA (Kd.R_below (vR HO518) hb); have n2_ := pA (below_step (vB HB) hb); clear HO514; clear HO518; clear HB; have HO514 := n0_; have HO518 := n1_; have HB := n2_; clear n0_ n1_ n2_; (try clear hb); (try clear hb2); (try clear hk); (try clear hi); obtain ⟨Ao45, co45, eo45⟩ := Kd.R_slice HO514.out; subst eo45; obtain ⟨Ao46, co46, eo46⟩ := Kd.R_slice HO518.out; subst eo46) | ((with_reducible refine aF (f := 40) rfl ?_); refine goesL_ (some 36) rfl rfl Try.func40 (by kernel_rfl) rfl #[.slice Ao45 t511.length co45, .slice Ao46 t515.length co46] rfl (by (try simp only [pE, pF, pG]); first | done | rfl | (simp only [pH, pI]; rfl)) ?_; (with_reducible refine (potbankref01_Same.calls k _ _ t511 _ _ t515 t523 _ ?side1 ?side2 ?side3 ?side4 A7.out).mono ?_); (case side1 => repeat (first | exact (Kd.R_reads' HO514.out).2.2 | (with_reducible refine Kd.C_alloc ?_ _) | (with_reducible refine Kd.C_drewN ?_ _) | (with_reducible refine Kd.C_drew ?_))); (case side2 => exact (Kd.R_reads' HO514.out).2.1); (case side3 => repeat (first | exact (Kd.R_reads' HO518.out).2.2 | (with_reducible refine Kd.C_alloc ?_ _) | (with_reducible refine Kd.C_drewN ?_ _) | (with_reducible refine Kd.C_drew ?_))); (case side4 => exact (Kd.R_reads' HO518.out).2.1); rintro e w' ⟨rfl, ⟨nd, rfl⟩⟩; refine ⟨_, rfl, ?_⟩))
  go_ret
  exact ⟨by first | rfl | (simp [errW_none, errW_some] <;> rfl) | (simp [*, errW_none, errW_some] <;> rfl), by repeat (first | (with_reducible first | exact HB.out | apply below_alloc | apply pw_below_drewN | apply below_drew1) | exact HB.out)⟩
theorem rules_true (l : List S52) : potbanklaw03_BungRules.f 2000 l = some true := by
 unfold potbanklaw03_BungRules.f
 rw [show potbanklaw03_sane.f = some true from rfl, ourRule_eq, theirRule_eq, ourCan_eq, theirCan_eq]
 simp only [Option.bind_some]
 rw [same_refl _ (by
  split
  ·rename_i h
   have hn := okSome_len (okSome_of h)
   have := (sortR_perm l (idx l.length)).length_eq
   rw [idx_len] at this
   show (sortR l (idx l.length)).length ≤ 1000
   omega
  ·exact Nat.zero_le _)]
 simp
end Go.Proofs.Ytbiakjgjedhjhaa.P
namespace Go.Proofs.Ytbiakjgjedhjhaa.bungRules
open Go.ChangeShapes Go.WideShapes Go.ChangeAt Go.RowKit Go.Proofs.Ytbiakjgjedhjhaa.P Go.Proofs.YtbiakjgjedhjhaaW.PrintWords
theorem own : ownKnob Try.prog.godebug = none := by kernel_rfl
theorem laidOut : laidOutB Try.prog = true := by kernel_rfl
def ok3 := fun n : Int => (Lit.int .i64 n).wf = true
theorem op3 : Opens Try.prog (Kd.int .i64) 3 ok3 := opens_int Try.underlying3
def ok23 := fun v : S23 => ok3 v.f0 ∧ ok3 v.f1
theorem op23 : Opens Try.prog k23 23 ok23 := opens_iso (fun v => ⟨v.1, v.2⟩) (fun _ => rfl) (opens_struct Try.underlying23 (by kernel_rfl) (opens_cons rfl (by kernel_rfl) rfl op3 (opens_one rfl (by kernel_rfl) op3)))
def ok52 := fun v : S52 => ok3 v.f0 ∧ ok23 v.f1 ∧ ok23 v.f2 ∧ ok23 v.f3 ∧ ok3 v.f4
theorem op52 : Opens Try.prog k52 52 ok52 := opens_iso (fun v => ⟨v.1, v.2.1, v.2.2.1, v.2.2.2.1, v.2.2.2.2⟩) (fun _ => rfl) (opens_struct Try.underlying52 (by kernel_rfl) (opens_cons rfl (by kernel_rfl) rfl op3 (opens_cons rfl (by kernel_rfl) rfl op23 (opens_cons rfl (by kernel_rfl) rfl op23 (opens_cons rfl (by kernel_rfl) rfl op23 (opens_one rfl (by kernel_rfl) op3))))))
def ok24 := fun xs : (List S52) => xs.length ≤ 9223372036854775807 ∧ ∀ x ∈ xs, ok52 x
theorem op24 : Opens Try.prog (Kd.slice 52 k52) 24 ok24 := opens_slice Try.underlying24 (by kernel_rfl) op52
set_option maxRecDepth 100000 in
theorem lifted (os : Os) (started : os.Started) (H : Type) (enc : TypeId × Value → H) :
  ReturnsInHanded {} Try.checked os 7 .any (Rows.bungRulesSpec.pre6 enc Try.prog Try.f7 Rows.bungRulesRow.domain false) (Rows.bungRulesSpec.post enc Try.prog Try.f7 false true false false) := by
 refine returnsInHanded_of_change_sized (C := Try.checked) own started (by kernel_rfl) Try.func7
  (ChangeSpec.witness6 (enc := enc) (C := Try.checked) false ⟨#[], #[.slice none 0 0], []⟩ 8 (by kernel_rfl) (by kernel_rfl) (by kernel_rfl) (by kernel_rfl)) ?_
 intro W base args ds gs before hval0 hW hcnd hsz0 _
 have hval : ∀ (j : Nat) t v, Try.f7.params[j]? = some t → args[j]? = some v → Value.okWide Try.prog W .any base t v := hval0
 have hW' := hW
 obtain ⟨p, q, hA0, hV, rfl, hfz, hnd⟩ := hW
 have hA : DataW.TrodAll enc Try.prog W 0 (fun _ => true) true Try.f7.params.toList args.toList ds p := hA0
 rw [Try.params7] at hA hval
 obtain ⟨v0, vs0, d0, ds0, p0, q0, hargs, rfl, rfl, h0, r0⟩ := trodAll_cons hA
 obtain ⟨rfl, rfl, rfl⟩ := trodAll_nil r0
 obtain rfl : args = #[v0] := by cases args; simp_all
 obtain ⟨rfl, rfl⟩ := trodVars_none hV
 have k0 := h0
 have lt0 : ∀ x ∈ p0, x.block < W.heap.size := by obtain ⟨m, hm⟩ := k0; exact DataW.trod_lt m _ _ _ hm
 obtain ⟨A0, c0, y0, rfl, hl0, hC0, g0⟩ := opened_slice Try.underlying24 op24 (hval 0 24 v0 rfl rfl) h0
 clear hA0 hval0 hsz0
 refine (potbanklaw03_BungRules.calls 2000 A0 c0 y0 true W hC0 hl0 (rules_true _)).mono fun e W' ⟨he, bel⟩ => ?_
 subst he
 exact ⟨_, rfl, _, _, _, [], _, [], hW', trodAll_mk1 (shut_bool Try.underlying4 _), (trodAll_cons_mk (Below.trod laidOut (by kernel_rfl) (of_decide_eq_true (by kernel_rfl)) k0 bel lt0) trodAll_mk0), rfl, bel.frame _, fun h => by cases h⟩
theorem over : Rows.bungRulesRow.holds Try.pinned (OpenSpec.ofChange Rows.bungRulesSpec) :=
 OpenClaim.holds_of_wide 7 Try.f7 rfl rfl rfl rfl rfl rfl rfl ⟨rfl, rfl, rfl, rfl, rfl⟩ rfl rfl rfl rfl rfl (by kernel_rfl) Try.func7 (by kernel_rfl)
  (of_decide_eq_true (by kernel_rfl)) (by unfold Func.isWrapper; first | (rw [if_pos (by decide +kernel)]; kernel_rfl) | (rw [if_neg (by decide +kernel)]; exact ⟨rfl, rfl⟩))
  (fun os started H enc _ => lifted os started H enc)
theorem proved : Rows.BungRulesSaid := over
#print axioms proved
end Go.Proofs.Ytbiakjgjedhjhaa.bungRules
namespace Go.Proofs.Ytbiakjgjedhjhaa
open Go.ChangeShapes Go.WideShapes Go.ChangeAt Go.RowKit Go.Proofs.Ytbiakjgjedhjhaa.P Go.Proofs.YtbiakjgjedhjhaaW.PrintWords
theorem bungRules_holds : Rows.BungRulesSaid := bungRules.proved
end Go.Proofs.Ytbiakjgjedhjhaa
