/- Proved: the law BungRules of the program potbank answers true for every input, and leaves its arguments as they were. Conditions: none. (Part 6 of the texts, put together by wip/assemble.py of this repository.) -/
import Derived.Test.YtbiakjgjedhjhaaRk5
set_option linter.unusedVariables false
set_option linter.unusedSimpArgs false
namespace Go.Proofs.Ytbiakjgjedhjhaa.P
open Go.RowKit Go.Proofs.YtbiakjgjedhjhaaW.PrintWords Go.Proofs.YtbiakjgjedhjhaaW.PrintLast
set_option maxHeartbeats 8000000 in
set_option maxRecDepth 100000 in
theorem potbankref03_rule.calls (k : Nat) (A0 : Option Addr) (c0 : Nat) (l0 : List (S52)) (r : List Int) (w : World) (hr0 : Kd.C k52 w A0 l0.length l0) (hc0 : l0.length ≤ c0) (h : potbankref03_rule.f k l0 = some r) :
  Calls Try.prog 97 #[.slice A0 l0.length c0] w fun e w' => ∃ v0_ : Value, e = .returned (v0_) ∧ Kd.R (Kd.int .i64) 3 w' w.heap.size (fun _ => True) v0_ r ∧ Below w.heap.size w w' := by
 have hu52 := Try.underlying52
 have HR0 := pA hr0
 have HC0 := pA hc0
 clear hr0 hc0
 have HB := pA (Below.refl w.heap.size w)
 have H : (potbankref03_rule.l0 k l0 ([] : List Int) 0) = some r := h
 clear h
 have H' := pA H
 clear H
 go_enter Try.func97, Try.ntmps97
 go_wp2
 go_loopg [3, 4] k (fun kq v3 v4 w' => ∃ (x3_1 : List Int) (x4_1 : Int), v4 = .int .i64 x4_1 ∧ Aside0 (potbankref03_rule.l0 kq l0 x3_1 x4_1 = some r) ∧ Aside0 (kq ≤ k) ∧ Aside0 (Kd.R (Kd.int .i64) 3 w' w.heap.size (fun _ => True) v3 x3_1) ∧ Aside0 (Below w.heap.size w w'))
 case atStart => exact ⟨(([] : List Int)), (0), (by first | rfl | (simp; done) | (simp [*]; done)), H', ⟨Nat.le_refl _⟩, ⟨by first | exact Kd.R_nil _ _ _ _ _ | exact Kd.N_nil _ _ _ _ _ | exact Kd.V_nil _ _ _ _ _ | exact Kd.Q_nil _ _ _ _ _ | exact Kd.S_nil _ _ _ _ _⟩, ⟨by repeat (first | (with_reducible first | exact HB.out | apply below_alloc | apply pw_below_drewN | apply below_drew1) | exact HB.out)⟩⟩
 case round =>
  clear H'
  obtain ⟨x3_1, x4_1, rfl, HA, HK1, HO_3, HB⟩ := hrel
  cases gk with
  | zero => exact absurd HA.out (by simp [potbankref03_rule.l0])
  | succ k1 =>
   have H := HA.out
   clear HA
   simp only [potbankref03_rule.l0] at H
   by_cases c2 : x4_1 < (l0.length : Int)
   ·rw [if_pos c2] at H
    have c2b0 : decide (x4_1 < (l0.length : Int)) = true := decide_eq_true c2
    clear c2
    have H' := pA H
    clear H
    go_wp2
    go_loopg [5] k1 (fun kq v5 w' => ∃ (x5_2 : Int), v5 = .int .i64 x5_2 ∧ Aside0 (potbankref03_rule.l1 kq l0 x3_1 x4_1 x5_2 = some r) ∧ Aside0 (kq ≤ k1) ∧ Aside0 (Kd.R (Kd.int .i64) 3 w' w.heap.size (fun _ => True) u3 x3_1) ∧ Aside0 (Below w.heap.size w w'))
    case atStart => exact ⟨(0), (by first | rfl | (simp; done) | (simp [*]; done)), H', ⟨Nat.le_refl _⟩, ⟨by (with_reducible repeat (first | apply Kd.R_alloc | apply Kd.R_drewN | apply Kd.R_drew)); exact HO_3.out⟩, ⟨by repeat (first | (with_reducible first | exact HB.out | apply below_alloc | apply pw_below_drewN | apply below_drew1) | exact HB.out)⟩⟩
    case round =>
     clear H'
     try clear c2
     try clear c2b0
     try clear p2
     obtain ⟨x5_2, rfl, HA, HK2, HO_3, HB⟩ := hrel
     cases gk with
     | zero => exact absurd HA.out (by simp [potbankref03_rule.l1])
     | succ k2 =>
      have H := HA.out
      clear HA
      simp only [potbankref03_rule.l1] at H
      by_cases c3 : x5_2 < (x3_1.length : Int)
      ·rw [if_pos c3] at H
       have c3b0 : decide (x5_2 < (x3_1.length : Int)) = true := decide_eq_true c3
       clear c3
       by_cases c4 : 0 ≤ x5_2
       ·rw [if_pos c4] at H
        have c4b0 : decide (0 ≤ x5_2) = true := decide_eq_true c4
        clear c4
        by_cases c5 : 0 ≤ (rd x3_1 x5_2)
        ·rw [if_pos c5] at H
         have c5b0 : decide (0 ≤ (rd x3_1 x5_2)) = true := decide_eq_true c5
         clear c5
         by_cases c6 : (rd x3_1 x5_2) < (l0.length : Int)
         ·rw [if_pos c6] at H
          have c6b0 : decide ((rd x3_1 x5_2) < (l0.length : Int)) = true := decide_eq_true c6
          clear c6
          by_cases c7 : 0 ≤ x4_1
          ·rw [if_pos c7] at H
           have c7b0 : decide (0 ≤ x4_1) = true := decide_eq_true c7
           clear c7
           by_cases c8 : x4_1 < (l0.length : Int)
           ·rw [if_pos c8] at H
            have c8b0 : decide (x4_1 < (l0.length : Int)) = true := decide_eq_true c8
            clear c8
            replace H := Option.bind_eq_some_iff.mp H
            obtain ⟨t256, A90, H⟩ := H
            replace H : (if t256 = true then (potbankref03_rule.l1 k2 l0 x3_1 x4_1 (wrap64 (x5_2 + 1))) else ((some (([] : List Int) : List Int)).bind fun y257 => (if x5_2 ≤ (x3_1.length : Int) then ((some (x3_1.take (x5_2 : Int).toNat : List Int)).bind fun y260 => (if y257.length + y260.length < 17592186044416 then ((some (y257 ++ y260 : List Int)).bind fun y264 => ((some (([x4_1] : List Int) : List Int)).bind fun y267 => (if y264.length + y267.length < 17592186044416 then ((some (y264 ++ y267 : List Int)).bind fun y270 => ((some (x3_1.drop (x5_2 : Int).toNat : List Int)).bind fun y273 => (if y270.length + y273.length < 17592186044416 then (potbankref03_rule.l0 k2 l0 (y270 ++ y273) (wrap64 (x4_1 + 1))) else (none)))) else (none)))) else (none))) else (none)))) = some r := H
            have A9 := pA A90
            clear A90
            by_cases c10 : t256 = true
            ·subst c10
             have H1 : (potbankref03_rule.l1 k2 l0 x3_1 x4_1 (wrap64 (x5_2 + 1))) = some r := by rw [if_pos rfl] at H; exact H
             clear H
             have H := H1
             clear H1
             have H' := pA H
             clear H
             try go_wp2
             have n0_ := pA (Kd.R_drew HO_3.out)
             have n1_ := pA (below_drew1 HB.out)
             clear HO_3
             clear HB
             have HO_3 := n0_
             have HB := n1_
             clear n0_ n1_
             obtain ⟨Ao12, co12, eo12⟩ := Kd.R_slice HO_3.out
             (first | subst eo12 | (injection eo12 with f1_ f2_ f3_; have f4_ := f1_.symm; have f5_ := f3_.symm; clear f1_ f2_ f3_; subst f4_; subst f5_))
             have p253 : 0 ≤ (x5_2 : Int) := of_decide_eq_true (by first | (with_reducible assumption) | assumption)
             have q253 : x5_2 < (x3_1.length : Int) := of_decide_eq_true (by first | (with_reducible assumption) | assumption)
             obtain ⟨ad253, e253, hx253_0⟩ := Kd.at_int (Kd.R_reads' HO_3.out).2.2 x5_2 p253 q253
             cases e253
             replace p253 := eq_true p253
             replace q253 := eq_true q253
             have p254 : 0 ≤ ((rd x3_1 x5_2) : Int) := of_decide_eq_true (by first | (with_reducible assumption) | assumption)
             have q254 : (rd x3_1 x5_2) < (l0.length : Int) := of_decide_eq_true (by first | (with_reducible assumption) | assumption)
             obtain ⟨ad254, e254, hx254_0, hx254_1, hx254_2, hx254_3, hx254_4, hx254_5, hx254_6, hx254_7⟩ := at_T52 HR0.out (rd x3_1 x5_2) p254 q254
             have hw254_7 := hx254_7
             have hw254_6 := hx254_6
             have hw254_5 := hx254_5
             have hw254_4 := hx254_4
             have hw254_3 := hx254_3
             have hw254_2 := hx254_2
             have hw254_1 := hx254_1
             have hw254_0 := hx254_0
             cases e254
             replace hx254_0 := vC HB hx254_0
             replace hx254_1 := vC HB hx254_1
             replace hx254_2 := vC HB hx254_2
             replace hx254_3 := vC HB hx254_3
             replace hx254_4 := vC HB hx254_4
             replace hx254_5 := vC HB hx254_5
             replace hx254_6 := vC HB hx254_6
             replace hx254_7 := vC HB hx254_7
             replace p254 := eq_true p254
             replace q254 := eq_true q254
             have p255 : 0 ≤ (x4_1 : Int) := of_decide_eq_true (by first | (with_reducible assumption) | assumption)
             have q255 : x4_1 < (l0.length : Int) := of_decide_eq_true (by first | (with_reducible assumption) | assumption)
             obtain ⟨ad255, e255, hx255_0, hx255_1, hx255_2, hx255_3, hx255_4, hx255_5, hx255_6, hx255_7⟩ := at_T52 HR0.out x4_1 p255 q255
             have hw255_7 := hx255_7
             have hw255_6 := hx255_6
             have hw255_5 := hx255_5
             have hw255_4 := hx255_4
             have hw255_3 := hx255_3
             have hw255_2 := hx255_2
             have hw255_1 := hx255_1
             have hw255_0 := hx255_0
             obtain rfl : ad254 = ad255 := (by injection e255)
             replace hx255_0 := vC HB hx255_0
             replace hx255_1 := vC HB hx255_1
             replace hx255_2 := vC HB hx255_2
             replace hx255_3 := vC HB hx255_3
             replace hx255_4 := vC HB hx255_4
             replace hx255_5 := vC HB hx255_5
             replace hx255_6 := vC HB hx255_6
             replace hx255_7 := vC HB hx255_7
             replace p255 := eq_true p255
             replace q255 := eq_true q255
             refine start_ (n := 18) (S := fun w' => w'.cell? (ad253.add (x5_2).toNat) = some (.int .i64 (rd x3_1 x5_2)) ∧ w'.cell? (ad254.add (((rd x3_1 x5_2)).toNat * 8)) = some (.int .i64 ((rd_T52 l0 (rd x3_1 x5_2)).f0)) ∧ w'.cell? ⟨(ad254.add (((rd x3_1 x5_2)).toNat * 8)).block, (ad254.add (((rd x3_1 x5_2)).toNat * 8)).off + 1, none⟩ = some (.int .i64 ((rd_T52 l0 (rd x3_1 x5_2)).f1.f0)) ∧ w'.cell? ⟨(ad254.add (((rd x3_1 x5_2)).toNat * 8)).block, (ad254.add (((rd x3_1 x5_2)).toNat * 8)).off + 2, none⟩ = some (.int .i64 ((rd_T52 l0 (rd x3_1 x5_2)).f1.f1)) ∧ w'.cell? ⟨(ad254.add (((rd x3_1 x5_2)).toNat * 8)).block, (ad254.add (((rd x3_1 x5_2)).toNat * 8)).off + 3, none⟩ = some (.int .i64 ((rd_T52 l0 (rd x3_1 x5_2)).f2.f0)) ∧ w'.cell? ⟨(ad254.add (((rd x3_1 x5_2)).toNat * 8)).block, (ad254.add (((rd x3_1 x5_2)).toNat * 8)).off + 4, none⟩ = some (.int .i64 ((rd_T52 l0 (rd x3_1 x5_2)).f2.f1)) ∧ w'.cell? ⟨(ad254.add (((rd x3_1 x5_2)).toNat * 8)).block, (ad254.add (((rd x3_1 x5_2)).toNat * 8)).off + 5, none⟩ = some (.int .i64 ((rd_T52 l0 (rd x3_1 x5_2)).f3.f0)) ∧ w'.cell? ⟨(ad254.add (((rd x3_1 x5_2)).toNat * 8)).block, (ad254.add (((rd x3_1 x5_2)).toNat * 8)).off + 6, none⟩ = some (.int .i64 ((rd_T52 l0 (rd x3_1 x5_2)).f3.f1)) ∧ w'.cell? ⟨(ad254.add (((rd x3_1 x5_2)).toNat * 8)).block, (ad254.add (((rd x3_1 x5_2)).toNat * 8)).off + 7, none⟩ = some (.int .i64 ((rd_T52 l0 (rd x3_1 x5_2)).f4)) ∧ w'.cell? (ad254.add ((x4_1).toNat * 8)) = some (.int .i64 ((rd_T52 l0 x4_1).f0)) ∧ w'.cell? ⟨(ad254.add ((x4_1).toNat * 8)).block, (ad254.add ((x4_1).toNat * 8)).off + 1, none⟩ = some (.int .i64 ((rd_T52 l0 x4_1).f1.f0)) ∧ w'.cell? ⟨(ad254.add ((x4_1).toNat * 8)).block, (ad254.add ((x4_1).toNat * 8)).off + 2, none⟩ = some (.int .i64 ((rd_T52 l0 x4_1).f1.f1)) ∧ w'.cell? ⟨(ad254.add ((x4_1).toNat * 8)).block, (ad254.add ((x4_1).toNat * 8)).off + 3, none⟩ = some (.int .i64 ((rd_T52 l0 x4_1).f2.f0)) ∧ w'.cell? ⟨(ad254.add ((x4_1).toNat * 8)).block, (ad254.add ((x4_1).toNat * 8)).off + 4, none⟩ = some (.int .i64 ((rd_T52 l0 x4_1).f2.f1)) ∧ w'.cell? ⟨(ad254.add ((x4_1).toNat * 8)).block, (ad254.add ((x4_1).toNat * 8)).off + 5, none⟩ = some (.int .i64 ((rd_T52 l0 x4_1).f3.f0)) ∧ w'.cell? ⟨(ad254.add ((x4_1).toNat * 8)).block, (ad254.add ((x4_1).toNat * 8)).off + 6, none⟩ = some (.int .i64 ((rd_T52 l0 x4_1).f3.f1)) ∧ w'.cell? ⟨(ad254.add ((x4_1).toNat * 8)).block, (ad254.add ((x4_1).toNat * 8)).off + 7, none⟩ = some (.int .i64 ((rd_T52 l0 x4_1).f4))) (ds := []) #[false, false, false, false, false, false, false, false, false, false, false, false, false, false, false, false, false, false] (by kernel_rfl) rfl rfl ⟨hx253_0, (vD HB hw254_0), (vD HB hw254_1), (vD HB hw254_2), (vD HB hw254_3), (vD HB hw254_4), (vD HB hw254_5), (vD HB hw254_6), (vD HB hw254_7), (vD HB hw255_0), (vD HB hw255_1), (vD HB hw255_2), (vD HB hw255_3), (vD HB hw255_4), (vD HB hw255_5), (vD HB hw255_6), (vD HB hw255_7)⟩ (fun hHeld => ?_); refine with_tabW potbankref03_rule.tab6 potbankref03_rule.bits6 (fun HT_ HW_ => ?_)
             generalize wr.drew = w11 at HO_3 HB hx253_0 hx254_0 hx254_1 hx254_2 hx254_3 hx254_4 hx254_5 hx254_6 hx254_7 hx255_0 hx255_1 hx255_2 hx255_3 hx255_4 hx255_5 hx255_6 hx255_7 hHeld ⊢
             refine pure_ (i := 0) (N := some 12) (v := ?_) (a' := ?_) #[true, false, false, false, false, false, false, false, false, false, false, false, false, false, false, false, false, false] rfl rfl (any_of HT_.out (by kernel_rfl)) (fun _ _ _ h => h) (Or.inl ⟨by rfl, ?_⟩) ?_ ?_
             rotate_left
             ·intro w'
              go_simp
              with_reducible rfl
             rotate_left
             ·simp only [Act.put, pB, pC, pD, i64_w, i32_w]
              rfl
             refine pure_ (i := 1) (N := some 13) (v := ?_) (a' := ?_) #[true, true, false, false, false, false, false, false, false, false, false, false, false, false, false, false, false, false] rfl rfl (any_of HT_.out (by kernel_rfl)) (fun _ _ _ h => h) (Or.inl ⟨by rfl, ?_⟩) ?_ ?_
             rotate_left
             ·intro w'
              go_simp
              with_reducible rfl
             rotate_left
             ·simp only [Act.put, pB, pC, pD, i64_w, i32_w]
              rfl
             refine pure_ (i := 2) (N := some 14) (v := ?_) (a' := ?_) #[true, true, true, false, false, false, false, false, false, false, false, false, false, false, false, false, false, false] rfl rfl (any_of HT_.out (by kernel_rfl)) (fun _ _ _ h => h) (Or.inl ⟨by rfl, ?_⟩) ?_ ?_
             rotate_left
             ·intro w'
              go_simp
              with_reducible rfl
             rotate_left
             ·simp only [Act.put, pB, pC, pD, i64_w, i32_w]
              rfl
             refine pure_ (i := 3) (N := some 15) (v := ?_) (a' := ?_) #[true, true, true, true, false, false, false, false, false, false, false, false, false, false, false, false, false, false] rfl rfl (any_of HT_.out (by kernel_rfl)) (fun _ _ _ h => h) (Or.inl ⟨by rfl, ?_⟩) ?_ ?_
             rotate_left
             ·intro w'
              go_simp
              with_reducible rfl
             rotate_left
             ·simp only [Act.put, pB, pC, pD, i64_w, i32_w]
              rfl
             refine pure_ (i := 4) (N := some 16) (v := ?_) (a' := ?_) #[true, true, true, true, true, false, false, false, false, false, false, false, false, false, false, false, false, false] rfl rfl (any_of HT_.out (by kernel_rfl)) (fun _ _ _ h => h) (Or.inl ⟨by rfl, ?_⟩) ?_ ?_
             rotate_left
             ·intro w'
              go_simp
              with_reducible rfl
             rotate_left
             ·simp only [Act.put, pB, pC, pD, i64_w, i32_w]
              rfl
             refine pure_ (i := 5) (N := some 17) (v := ?_) (a' := ?_) #[true, true, true, true, true, true, false, false, false, false, false, false, false, false, false, false, false, false] rfl rfl (any_of HT_.out (by kernel_rfl)) (fun _ _ _ h => h) (Or.inl ⟨by rfl, ?_⟩) ?_ ?_
             rotate_left
             ·intro w'
              go_simp
              with_reducible rfl
             rotate_left
             ·simp only [Act.put, pB, pC, pD, i64_w, i32_w]
              rfl
             refine pure_ (i := 6) (N := some 18) (v := ?_) (a' := ?_) #[true, true, true, true, true, true, true, false, false, false, false, false, false, false, false, false, false, false] rfl rfl (any_of HT_.out (by kernel_rfl)) (fun _ _ _ h => h) (Or.inl ⟨by rfl, ?_⟩) ?_ ?_
             rotate_left
             ·intro w'
              go_simp
              with_reducible rfl
             rotate_left
             ·simp only [Act.put, pB, pC, pD, i64_w, i32_w]
              rfl
             refine pure_ (i := 7) (N := some 19) (v := ?_) (a' := ?_) #[true, true, true, true, true, true, true, true, false, false, false, false, false, false, false, false, false, false] rfl rfl (any_of HT_.out (by kernel_rfl)) (fun _ _ _ h => h) (Or.inl ⟨by rfl, ?_⟩) ?_ ?_
             rotate_left
             ·intro w'
              go_simp
              with_reducible rfl
             rotate_left
             ·simp only [Act.put, pB, pC, pD, i64_w, i32_w]
              rfl
             refine pure_ (i := 8) (N := some 20) (v := ?_) (a' := ?_) #[true, true, true, true, true, true, true, true, true, false, false, false, false, false, false, false, false, false] rfl rfl (any_of HT_.out (by kernel_rfl)) (fun _ _ _ h => h) (Or.inl ⟨by rfl, ?_⟩) ?_ ?_
             rotate_left
             ·intro w'
              go_simp
              with_reducible rfl
             rotate_left
             ·simp only [Act.put, pB, pC, pD, i64_w, i32_w]
              rfl
             refine pure_ (i := 12) (N := some 24) (v := ?_) (a' := ?_) #[true, true, true, true, true, true, true, true, true, false, false, false, true, false, false, false, false, false] rfl rfl (any_of HT_.out (by kernel_rfl)) (fun _ _ _ h => h) (Or.inl ⟨by rfl, ?_⟩) ?_ ?_
             rotate_left
             ·intro w'
              go_simp
              with_reducible rfl
             rotate_left
             ·simp only [Act.put, pB, pC, pD, i64_w, i32_w]
              rfl
             refine pure_ (i := 13) (N := some 25) (v := ?_) (a' := ?_) #[true, true, true, true, true, true, true, true, true, false, false, false, true, true, false, false, false, false] rfl rfl (any_of HT_.out (by kernel_rfl)) (fun _ _ _ h => h) (Or.inl ⟨by rfl, ?_⟩) ?_ ?_
             rotate_left
             ·intro w'
              go_simp
              with_reducible rfl
             rotate_left
             ·simp only [Act.put, pB, pC, pD, i64_w, i32_w]
              rfl
             refine pure_ (i := 14) (N := some 26) (v := ?_) (a' := ?_) #[true, true, true, true, true, true, true, true, true, false, false, false, true, true, true, false, false, false] rfl rfl (any_of HT_.out (by kernel_rfl)) (fun _ _ _ h => h) (Or.inl ⟨by rfl, ?_⟩) ?_ ?_
             rotate_left
             ·intro w'
              go_simp
              with_reducible rfl
             rotate_left
             ·simp only [Act.put, pB, pC, pD, i64_w, i32_w]
              rfl
             refine take_ (i := 9) (N := some 21) (v := ?_) (a' := ?_) #[true, true, true, true, true, true, true, true, true, true, false, false, true, true, true, false, false, false] rfl rfl (take_ofW HT_.out HW_.out (by kernel_rfl)) (fun _ _ _ h => h) (Or.inl ⟨by rfl, ?_⟩) hHeld ?_ ?_
             rotate_left
             ·rintro w' ⟨s0, s1, s2, s3, s4, s5, s6, s7, s8, s9, s10, s11, s12, s13, s14, s15, s16⟩
              go_simp
              with_reducible rfl
             rotate_left
             ·simp only [Act.put, pB, pC, pD, i64_w, i32_w]
              rfl
             refine pure_ (i := 10) (N := some 22) (v := ?_) (a' := ?_) #[true, true, true, true, true, true, true, true, true, true, true, false, true, true, true, false, false, false] rfl rfl (any_of HT_.out (by kernel_rfl)) (fun _ _ _ h => h) (Or.inl ⟨by rfl, ?_⟩) ?_ ?_
             rotate_left
             ·intro w'
              go_simp
              with_reducible rfl
             rotate_left
             ·simp only [Act.put, pB, pC, pD, i64_w, i32_w]
              rfl
             refine take_ (i := 11) (N := some 23) (v := ?_) (a' := ?_) #[true, true, true, true, true, true, true, true, true, true, true, true, true, true, true, false, false, false] rfl rfl (take_ofW HT_.out HW_.out (by kernel_rfl)) (fun _ _ _ h => h) (Or.inl ⟨by rfl, ?_⟩) hHeld ?_ ?_
             rotate_left
             ·rintro w' ⟨s0, s1, s2, s3, s4, s5, s6, s7, s8, s9, s10, s11, s12, s13, s14, s15, s16⟩
              go_simp
              with_reducible rfl
             rotate_left
             ·simp only [Act.put, pB, pC, pD, i64_w, i32_w]
              rfl
             refine take_ (i := 15) (N := some 27) (v := ?_) (a' := ?_) #[true, true, true, true, true, true, true, true, true, true, true, true, true, true, true, true, false, false] rfl rfl (take_ofW HT_.out HW_.out (by kernel_rfl)) (fun _ _ _ h => h) (Or.inl ⟨by rfl, ?_⟩) hHeld ?_ ?_
             rotate_left
             ·rintro w' ⟨s0, s1, s2, s3, s4, s5, s6, s7, s8, s9, s10, s11, s12, s13, s14, s15, s16⟩
              go_simp
              with_reducible rfl
             rotate_left
             ·simp only [Act.put, pB, pC, pD, i64_w, i32_w]
              rfl
             refine one_ (i := 16) (N := some 28) #[true, true, true, true, true, true, true, true, true, true, true, true, true, true, true, true, true, false] rfl rfl (one_of HT_.out (by kernel_rfl)) (by decide) (fun K hK => ?_)
             refine goes_ Try.func137 (by kernel_rfl) rfl #[.agg #[.int .i64 ((rd_T52 l0 (rd x3_1 x5_2)).f0), .int .i64 ((rd_T52 l0 (rd x3_1 x5_2)).f1.f0), .int .i64 ((rd_T52 l0 (rd x3_1 x5_2)).f1.f1), .int .i64 ((rd_T52 l0 (rd x3_1 x5_2)).f2.f0), .int .i64 ((rd_T52 l0 (rd x3_1 x5_2)).f2.f1), .int .i64 ((rd_T52 l0 (rd x3_1 x5_2)).f3.f0), .int .i64 ((rd_T52 l0 (rd x3_1 x5_2)).f3.f1), .int .i64 ((rd_T52 l0 (rd x3_1 x5_2)).f4)], .agg #[.int .i64 ((rd_T52 l0 x4_1).f0), .int .i64 ((rd_T52 l0 x4_1).f1.f0), .int .i64 ((rd_T52 l0 x4_1).f1.f1), .int .i64 ((rd_T52 l0 x4_1).f2.f0), .int .i64 ((rd_T52 l0 x4_1).f2.f1), .int .i64 ((rd_T52 l0 x4_1).f3.f0), .int .i64 ((rd_T52 l0 x4_1).f3.f1), .int .i64 ((rd_T52 l0 x4_1).f4)]] (by rfl) rfl rfl (by (try simp only [pE, pF, pG]); first | done | rfl | (simp only [pH, pI]; rfl)) ?_
             with_reducible refine (potbankref03_lower.calls ((rd_T52 l0 (rd x3_1 x5_2)).f0) ((rd_T52 l0 (rd x3_1 x5_2)).f1.f0) ((rd_T52 l0 (rd x3_1 x5_2)).f1.f1) ((rd_T52 l0 (rd x3_1 x5_2)).f2.f0) ((rd_T52 l0 (rd x3_1 x5_2)).f2.f1) ((rd_T52 l0 (rd x3_1 x5_2)).f3.f0) ((rd_T52 l0 (rd x3_1 x5_2)).f3.f1) ((rd_T52 l0 (rd x3_1 x5_2)).f4) ((rd_T52 l0 x4_1).f0) ((rd_T52 l0 x4_1).f1.f0) ((rd_T52 l0 x4_1).f1.f1) ((rd_T52 l0 x4_1).f2.f0) ((rd_T52 l0 x4_1).f2.f1) ((rd_T52 l0 x4_1).f3.f0) ((rd_T52 l0 x4_1).f3.f1) ((rd_T52 l0 x4_1).f4) true _ A9.out).mono ?_
             rintro e w13 ⟨rfl, hb⟩
             have HS0_ := (hb.cell (World.block_lt_of_cell? _ _ (hHeld.1))).trans (hHeld.1)
             refine ⟨_, rfl, ?_⟩
             have n0_ := pA (Kd.R_below (vR HO_3) hb)
             have n1_ := pA (below_step (vB HB) hb)
             clear HO_3
             clear HB
             have HO_3 := n0_
             have HB := n1_
             clear n0_ n1_
             (try clear hb)
             (try clear hb2)
             (try clear hk)
             (try clear hi)
             refine hK.out _ _ ⟨HS0_, (vD HB hw254_0), (vD HB hw254_1), (vD HB hw254_2), (vD HB hw254_3), (vD HB hw254_4), (vD HB hw254_5), (vD HB hw254_6), (vD HB hw254_7), (vD HB hw255_0), (vD HB hw255_1), (vD HB hw255_2), (vD HB hw255_3), (vD HB hw255_4), (vD HB hw255_5), (vD HB hw255_6), (vD HB hw255_7)⟩ (fun hHeld => ?_)
             clear hK K
             refine norm_ (a' := ?_) ?_ ?_
             rotate_left
             ·show Act.put _ (some 28) _ = _
              simp only [Act.put, pB, pC, pD, i64_w, i32_w]
              rfl
             refine pure_ (i := 17) (N := some 29) (v := ?_) (a' := ?_) #[true, true, true, true, true, true, true, true, true, true, true, true, true, true, true, true, true, true] rfl rfl (any_of HT_.out (by kernel_rfl)) (fun _ _ _ h => h) (Or.inl ⟨by rfl, ?_⟩) ?_ ?_
             rotate_left
             ·intro w'
              go_simp
              with_reducible rfl
             rotate_left
             ·simp only [Act.put, pB, pC, pD, i64_w, i32_w]
              rfl
             refine done_ (done_of HT_.out (by kernel_rfl)) ?_
             try go_wp2
             go_roundg k2
             case measure => have := HK1.out; have := HK2.out; omega
             case rel => exact ⟨(wrap64 (x5_2 + 1)), (by first | rfl | (simp; done) | (simp [*]; done)), H', ⟨by have := HK1.out; have := HK2.out; omega⟩, ⟨by (with_reducible repeat (first | apply Kd.R_alloc | apply Kd.R_drewN | apply Kd.R_drew)); exact HO_3.out⟩, ⟨by repeat (first | (with_reducible first | exact HB.out | apply below_alloc | apply pw_below_drewN | apply below_drew1) | exact HB.out)⟩⟩
            ·replace c10 := Bool.eq_false_iff.mpr c10
             subst c10
             have H1 : ((some (([] : List Int) : List Int)).bind fun y257 => (if x5_2 ≤ (x3_1.length : Int) then ((some (x3_1.take (x5_2 : Int).toNat : List Int)).bind fun y260 => (if y257.length + y260.length < 17592186044416 then ((some (y257 ++ y260 : List Int)).bind fun y264 => ((some (([x4_1] : List Int) : List Int)).bind fun y267 => (if y264.length + y267.length < 17592186044416 then ((some (y264 ++ y267 : List Int)).bind fun y270 => ((some (x3_1.drop (x5_2 : Int).toNat : List Int)).bind fun y273 => (if y270.length + y273.length < 17592186044416 then (potbankref03_rule.l0 k2 l0 (y270 ++ y273) (wrap64 (x4_1 + 1))) else (none)))) else (none)))) else (none))) else (none))) = some r := by rw [if_neg (show ¬ (false = true) by decide)] at H; exact H
             clear H
             have H := H1
             clear H1
             obtain ⟨y257, hy257⟩ : ∃ y_ : List Int, y_ = (([] : List Int)) := ⟨_, rfl⟩
             replace H : (if x5_2 ≤ (x3_1.length : Int) then ((some (x3_1.take (x5_2 : Int).toNat : List Int)).bind fun y260 => (if y257.length + y260.length < 17592186044416 then ((some (y257 ++ y260 : List Int)).bind fun y264 => ((some (([x4_1] : List Int) : List Int)).bind fun y267 => (if y264.length + y267.length < 17592186044416 then ((some (y264 ++ y267 : List Int)).bind fun y270 => ((some (x3_1.drop (x5_2 : Int).toNat : List Int)).bind fun y273 => (if y270.length + y273.length < 17592186044416 then (potbankref03_rule.l0 k2 l0 (y270 ++ y273) (wrap64 (x4_1 + 1))) else (none)))) else (none)))) else (none))) else (none)) = some r := by first | (rw [hy257]; with_reducible exact H) | (have H2_ := (Option.bind_some _ _).symm.trans H; rw [hy257]; with_reducible exact H2_) | (have H2_ := (Option.bind_some _ _).symm.trans H; with_reducible exact H2_) | with_reducible exact H | (rw [hy257]; exact H) | exact H
             have Ny257 := pA hy257
             clear hy257
             have c14b0 := eq_true (of_decide_eq_true (by first | (with_reducible assumption) | assumption) : 0 ≤ x5_2)
             by_cases c15 : x5_2 ≤ (x3_1.length : Int)
             ·rw [if_pos c15] at H
              have c15b0 := eq_true c15
              have c15b1 : decide (x5_2 ≤ (x3_1.length : Int)) = true := decide_eq_true c15
              clear c15
              obtain ⟨y260, hy260⟩ : ∃ y_ : List Int, y_ = (x3_1.take (x5_2 : Int).toNat) := ⟨_, rfl⟩
              replace H : (if y257.length + y260.length < 17592186044416 then ((some (y257 ++ y260 : List Int)).bind fun y264 => ((some (([x4_1] : List Int) : List Int)).bind fun y267 => (if y264.length + y267.length < 17592186044416 then ((some (y264 ++ y267 : List Int)).bind fun y270 => ((some (x3_1.drop (x5_2 : Int).toNat : List Int)).bind fun y273 => (if y270.length + y273.length < 17592186044416 then (potbankref03_rule.l0 k2 l0 (y270 ++ y273) (wrap64 (x4_1 + 1))) else (none)))) else (none)))) else (none)) = some r := by first | (rw [hy260]; with_reducible exact H) | (have H2_ := (Option.bind_some _ _).symm.trans H; rw [hy260]; with_reducible exact H2_) | (have H2_ := (Option.bind_some _ _).symm.trans H; with_reducible exact H2_) | with_reducible exact H | (rw [hy260]; exact H) | exact H
              have Ny260 := pA hy260
              clear hy260
              by_cases c16 : y257.length + y260.length < 17592186044416
              ·rw [if_pos c16] at H
               have LMc16 := pA c16
               clear c16
               obtain ⟨y264, hy264⟩ : ∃ y_ : List Int, y_ = (y257 ++ y260) := ⟨_, rfl⟩
               replace H : ((some (([x4_1] : List Int) : List Int)).bind fun y267 => (if y264.length + y267.length < 17592186044416 then ((some (y264 ++ y267 : List Int)).bind fun y270 => ((some (x3_1.drop (x5_2 : Int).toNat : List Int)).bind fun y273 => (if y270.length + y273.length < 17592186044416 then (potbankref03_rule.l0 k2 l0 (y270 ++ y273) (wrap64 (x4_1 + 1))) else (none)))) else (none))) = some r := by first | (rw [hy264]; with_reducible exact H) | (have H2_ := (Option.bind_some _ _).symm.trans H; rw [hy264]; with_reducible exact H2_) | (have H2_ := (Option.bind_some _ _).symm.trans H; with_reducible exact H2_) | with_reducible exact H | (rw [hy264]; exact H) | exact H
               have Ny264 := pA hy264
               clear hy264
               obtain ⟨y267, hy267⟩ : ∃ y_ : List Int, y_ = (([x4_1] : List Int)) := ⟨_, rfl⟩
               replace H : (if y264.length + y267.length < 17592186044416 then ((some (y264 ++ y267 : List Int)).bind fun y270 => ((some (x3_1.drop (x5_2 : Int).toNat : List Int)).bind fun y273 => (if y270.length + y273.length < 17592186044416 then (potbankref03_rule.l0 k2 l0 (y270 ++ y273) (wrap64 (x4_1 + 1))) else (none)))) else (none)) = some r := by first | (rw [hy267]; with_reducible exact H) | (have H2_ := (Option.bind_some _ _).symm.trans H; rw [hy267]; with_reducible exact H2_) | (have H2_ := (Option.bind_some _ _).symm.trans H; with_reducible exact H2_) | with_reducible exact H | (rw [hy267]; exact H) | exact H
               have Ny267 := pA hy267
               clear hy267
               by_cases c17 : y264.length + y267.length < 17592186044416
               ·rw [if_pos c17] at H
                have LMc17 := pA c17
                clear c17
                obtain ⟨y270, hy270⟩ : ∃ y_ : List Int, y_ = (y264 ++ y267) := ⟨_, rfl⟩
                replace H : ((some (x3_1.drop (x5_2 : Int).toNat : List Int)).bind fun y273 => (if y270.length + y273.length < 17592186044416 then (potbankref03_rule.l0 k2 l0 (y270 ++ y273) (wrap64 (x4_1 + 1))) else (none))) = some r := by first | (rw [hy270]; with_reducible exact H) | (have H2_ := (Option.bind_some _ _).symm.trans H; rw [hy270]; with_reducible exact H2_) | (have H2_ := (Option.bind_some _ _).symm.trans H; with_reducible exact H2_) | with_reducible exact H | (rw [hy270]; exact H) | exact H
                have Ny270 := pA hy270
                clear hy270
                have c18b0 := eq_true (of_decide_eq_true (by first | (with_reducible assumption) | assumption) : 0 ≤ x5_2)
                have c19b0 := eq_true (of_decide_eq_true (by first | (with_reducible assumption) | assumption) : x5_2 ≤ (x3_1.length : Int))
                obtain ⟨y273, hy273⟩ : ∃ y_ : List Int, y_ = (x3_1.drop (x5_2 : Int).toNat) := ⟨_, rfl⟩
                replace H : (if y270.length + y273.length < 17592186044416 then (potbankref03_rule.l0 k2 l0 (y270 ++ y273) (wrap64 (x4_1 + 1))) else (none)) = some r := by first | (rw [hy273]; with_reducible exact H) | (have H2_ := (Option.bind_some _ _).symm.trans H; rw [hy273]; with_reducible exact H2_) | (have H2_ := (Option.bind_some _ _).symm.trans H; with_reducible exact H2_) | with_reducible exact H | (rw [hy273]; exact H) | exact H
                have Ny273 := pA hy273
                clear hy273
                by_cases c20 : y270.length + y273.length < 17592186044416
                ·rw [if_pos c20] at H
                 have LMc20 := pA c20
                 clear c20
                 obtain ⟨y277, hy277⟩ : ∃ y_ : List Int, y_ = (y270 ++ y273) := ⟨_, rfl⟩
                 replace H : (potbankref03_rule.l0 k2 l0 y277 (wrap64 (x4_1 + 1))) = some r := by first | (rw [hy277]; with_reducible exact H) | (have H2_ := (Option.bind_some _ _).symm.trans H; rw [hy277]; with_reducible exact H2_) | (have H2_ := (Option.bind_some _ _).symm.trans H; with_reducible exact H2_) | with_reducible exact H | (rw [hy277]; exact H) | exact H
                 have Ny277 := pA hy277
                 clear hy277
                 have H' := pA H
                 clear H
                 try go_wp2
                 have n0_ := pA (Kd.R_drew HO_3.out)
                 have n1_ := pA (below_drew1 HB.out)
                 clear HO_3
                 clear HB
                 have HO_3 := n0_
                 have HB := n1_
                 clear n0_ n1_
                 obtain ⟨Ao22, co22, eo22⟩ := Kd.R_slice HO_3.out
                 (first | subst eo22 | (injection eo22 with f1_ f2_ f3_; have f4_ := f1_.symm; have f5_ := f3_.symm; clear f1_ f2_ f3_; subst f4_; subst f5_))
                 have p253 : 0 ≤ (x5_2 : Int) := of_decide_eq_true (by first | (with_reducible assumption) | assumption)
                 have q253 : x5_2 < (x3_1.length : Int) := of_decide_eq_true (by first | (with_reducible assumption) | assumption)
                 obtain ⟨ad253, e253, hx253_0⟩ := Kd.at_int (Kd.R_reads' HO_3.out).2.2 x5_2 p253 q253
                 cases e253
                 replace p253 := eq_true p253
                 replace q253 := eq_true q253
                 have p254 : 0 ≤ ((rd x3_1 x5_2) : Int) := of_decide_eq_true (by first | (with_reducible assumption) | assumption)
                 have q254 : (rd x3_1 x5_2) < (l0.length : Int) := of_decide_eq_true (by first | (with_reducible assumption) | assumption)
                 obtain ⟨ad254, e254, hx254_0, hx254_1, hx254_2, hx254_3, hx254_4, hx254_5, hx254_6, hx254_7⟩ := at_T52 HR0.out (rd x3_1 x5_2) p254 q254
                 have hw254_7 := hx254_7
                 have hw254_6 := hx254_6
                 have hw254_5 := hx254_5
                 have hw254_4 := hx254_4
                 have hw254_3 := hx254_3
                 have hw254_2 := hx254_2
                 have hw254_1 := hx254_1
                 have hw254_0 := hx254_0
                 cases e254
                 replace hx254_0 := vC HB hx254_0
                 replace hx254_1 := vC HB hx254_1
                 replace hx254_2 := vC HB hx254_2
                 replace hx254_3 := vC HB hx254_3
                 replace hx254_4 := vC HB hx254_4
                 replace hx254_5 := vC HB hx254_5
                 replace hx254_6 := vC HB hx254_6
                 replace hx254_7 := vC HB hx254_7
                 replace p254 := eq_true p254
                 replace q254 := eq_true q254
                 have p255 : 0 ≤ (x4_1 : Int) := of_decide_eq_true (by first | (with_reducible assumption) | assumption)
                 have q255 : x4_1 < (l0.length : Int) := of_decide_eq_true (by first | (with_reducible assumption) | assumption)
                 obtain ⟨ad255, e255, hx255_0, hx255_1, hx255_2, hx255_3, hx255_4, hx255_5, hx255_6, hx255_7⟩ := at_T52 HR0.out x4_1 p255 q255
                 have hw255_7 := hx255_7
                 have hw255_6 := hx255_6
                 have hw255_5 := hx255_5
                 have hw255_4 := hx255_4
                 have hw255_3 := hx255_3
                 have hw255_2 := hx255_2
                 have hw255_1 := hx255_1
                 have hw255_0 := hx255_0
                 obtain rfl : ad254 = ad255 := (by injection e255)
                 replace hx255_0 := vC HB hx255_0
                 replace hx255_1 := vC HB hx255_1
                 replace hx255_2 := vC HB hx255_2
                 replace hx255_3 := vC HB hx255_3
                 replace hx255_4 := vC HB hx255_4
                 replace hx255_5 := vC HB hx255_5
                 replace hx255_6 := vC HB hx255_6
                 replace hx255_7 := vC HB hx255_7
                 replace p255 := eq_true p255
                 replace q255 := eq_true q255
                 refine start_ (n := 18) (S := fun w' => w'.cell? (ad253.add (x5_2).toNat) = some (.int .i64 (rd x3_1 x5_2)) ∧ w'.cell? (ad254.add (((rd x3_1 x5_2)).toNat * 8)) = some (.int .i64 ((rd_T52 l0 (rd x3_1 x5_2)).f0)) ∧ w'.cell? ⟨(ad254.add (((rd x3_1 x5_2)).toNat * 8)).block, (ad254.add (((rd x3_1 x5_2)).toNat * 8)).off + 1, none⟩ = some (.int .i64 ((rd_T52 l0 (rd x3_1 x5_2)).f1.f0)) ∧ w'.cell? ⟨(ad254.add (((rd x3_1 x5_2)).toNat * 8)).block, (ad254.add (((rd x3_1 x5_2)).toNat * 8)).off + 2, none⟩ = some (.int .i64 ((rd_T52 l0 (rd x3_1 x5_2)).f1.f1)) ∧ w'.cell? ⟨(ad254.add (((rd x3_1 x5_2)).toNat * 8)).block, (ad254.add (((rd x3_1 x5_2)).toNat * 8)).off + 3, none⟩ = some (.int .i64 ((rd_T52 l0 (rd x3_1 x5_2)).f2.f0)) ∧ w'.cell? ⟨(ad254.add (((rd x3_1 x5_2)).toNat * 8)).block, (ad254.add (((rd x3_1 x5_2)).toNat * 8)).off + 4, none⟩ = some (.int .i64 ((rd_T52 l0 (rd x3_1 x5_2)).f2.f1)) ∧ w'.cell? ⟨(ad254.add (((rd x3_1 x5_2)).toNat * 8)).block, (ad254.add (((rd x3_1 x5_2)).toNat * 8)).off + 5, none⟩ = some (.int .i64 ((rd_T52 l0 (rd x3_1 x5_2)).f3.f0)) ∧ w'.cell? ⟨(ad254.add (((rd x3_1 x5_2)).toNat * 8)).block, (ad254.add (((rd x3_1 x5_2)).toNat * 8)).off + 6, none⟩ = some (.int .i64 ((rd_T52 l0 (rd x3_1 x5_2)).f3.f1)) ∧ w'.cell? ⟨(ad254.add (((rd x3_1 x5_2)).toNat * 8)).block, (ad254.add (((rd x3_1 x5_2)).toNat * 8)).off + 7, none⟩ = some (.int .i64 ((rd_T52 l0 (rd x3_1 x5_2)).f4)) ∧ w'.cell? (ad254.add ((x4_1).toNat * 8)) = some (.int .i64 ((rd_T52 l0 x4_1).f0)) ∧ w'.cell? ⟨(ad254.add ((x4_1).toNat * 8)).block, (ad254.add ((x4_1).toNat * 8)).off + 1, none⟩ = some (.int .i64 ((rd_T52 l0 x4_1).f1.f0)) ∧ w'.cell? ⟨(ad254.add ((x4_1).toNat * 8)).block, (ad254.add ((x4_1).toNat * 8)).off + 2, none⟩ = some (.int .i64 ((rd_T52 l0 x4_1).f1.f1)) ∧ w'.cell? ⟨(ad254.add ((x4_1).toNat * 8)).block, (ad254.add ((x4_1).toNat * 8)).off + 3, none⟩ = some (.int .i64 ((rd_T52 l0 x4_1).f2.f0)) ∧ w'.cell? ⟨(ad254.add ((x4_1).toNat * 8)).block, (ad254.add ((x4_1).toNat * 8)).off + 4, none⟩ = some (.int .i64 ((rd_T52 l0 x4_1).f2.f1)) ∧ w'.cell? ⟨(ad254.add ((x4_1).toNat * 8)).block, (ad254.add ((x4_1).toNat * 8)).off + 5, none⟩ = some (.int .i64 ((rd_T52 l0 x4_1).f3.f0)) ∧ w'.cell? ⟨(ad254.add ((x4_1).toNat * 8)).block, (ad254.add ((x4_1).toNat * 8)).off + 6, none⟩ = some (.int .i64 ((rd_T52 l0 x4_1).f3.f1)) ∧ w'.cell? ⟨(ad254.add ((x4_1).toNat * 8)).block, (ad254.add ((x4_1).toNat * 8)).off + 7, none⟩ = some (.int .i64 ((rd_T52 l0 x4_1).f4))) (ds := []) #[false, false, false, false, false, false, false, false, false, false, false, false, false, false, false, false, false, false] (by kernel_rfl) rfl rfl ⟨hx253_0, (vD HB hw254_0), (vD HB hw254_1), (vD HB hw254_2), (vD HB hw254_3), (vD HB hw254_4), (vD HB hw254_5), (vD HB hw254_6), (vD HB hw254_7), (vD HB hw255_0), (vD HB hw255_1), (vD HB hw255_2), (vD HB hw255_3), (vD HB hw255_4), (vD HB hw255_5), (vD HB hw255_6), (vD HB hw255_7)⟩ (fun hHeld => ?_); refine with_tabW potbankref03_rule.tab6 potbankref03_rule.bits6 (fun HT_ HW_ => ?_)
                 generalize wr.drew = w21 at HO_3 HB hx253_0 hx254_0 hx254_1 hx254_2 hx254_3 hx254_4 hx254_5 hx254_6 hx254_7 hx255_0 hx255_1 hx255_2 hx255_3 hx255_4 hx255_5 hx255_6 hx255_7 hHeld ⊢
                 refine pure_ (i := 0) (N := some 12) (v := ?_) (a' := ?_) #[true, false, false, false, false, false, false, false, false, false, false, false, false, false, false, false, false, false] rfl rfl (any_of HT_.out (by kernel_rfl)) (fun _ _ _ h => h) (Or.inl ⟨by rfl, ?_⟩) ?_ ?_
                 rotate_left
                 ·intro w'
                  go_simp
                  with_reducible rfl
                 rotate_left
                 ·simp only [Act.put, pB, pC, pD, i64_w, i32_w]
                  rfl
                 refine pure_ (i := 1) (N := some 13) (v := ?_) (a' := ?_) #[true, true, false, false, false, false, false, false, false, false, false, false, false, false, false, false, false, false] rfl rfl (any_of HT_.out (by kernel_rfl)) (fun _ _ _ h => h) (Or.inl ⟨by rfl, ?_⟩) ?_ ?_
                 rotate_left
                 ·intro w'
                  go_simp
                  with_reducible rfl
                 rotate_left
                 ·simp only [Act.put, pB, pC, pD, i64_w, i32_w]
                  rfl
                 refine pure_ (i := 2) (N := some 14) (v := ?_) (a' := ?_) #[true, true, true, false, false, false, false, false, false, false, false, false, false, false, false, false, false, false] rfl rfl (any_of HT_.out (by kernel_rfl)) (fun _ _ _ h => h) (Or.inl ⟨by rfl, ?_⟩) ?_ ?_
                 rotate_left
                 ·intro w'
                  go_simp
                  with_reducible rfl
                 rotate_left
                 ·simp only [Act.put, pB, pC, pD, i64_w, i32_w]
                  rfl
                 refine pure_ (i := 3) (N := some 15) (v := ?_) (a' := ?_) #[true, true, true, true, false, false, false, false, false, false, false, false, false, false, false, false, false, false] rfl rfl (any_of HT_.out (by kernel_rfl)) (fun _ _ _ h => h) (Or.inl ⟨by rfl, ?_⟩) ?_ ?_
                 rotate_left
                 ·intro w'
                  go_simp
                  with_reducible rfl
                 rotate_left
                 ·simp only [Act.put, pB, pC, pD, i64_w, i32_w]
                  rfl
                 refine pure_ (i := 4) (N := some 16) (v := ?_) (a' := ?_) #[true, true, true, true, true, false, false, false, false, false, false, false, false, false, false, false, false, false] rfl rfl (any_of HT_.out (by kernel_rfl)) (fun _ _ _ h => h) (Or.inl ⟨by rfl, ?_⟩) ?_ ?_
                 rotate_left
                 ·intro w'
                  go_simp
                  with_reducible rfl
                 rotate_left
                 ·simp only [Act.put, pB, pC, pD, i64_w, i32_w]
                  rfl
                 refine pure_ (i := 5) (N := some 17) (v := ?_) (a' := ?_) #[true, true, true, true, true, true, false, false, false, false, false, false, false, false, false, false, false, false] rfl rfl (any_of HT_.out (by kernel_rfl)) (fun _ _ _ h => h) (Or.inl ⟨by rfl, ?_⟩) ?_ ?_
                 rotate_left
                 ·intro w'
                  go_simp
                  with_reducible rfl
                 rotate_left
                 ·simp only [Act.put, pB, pC, pD, i64_w, i32_w]
                  rfl
                 refine pure_ (i := 6) (N := some 18) (v := ?_) (a' := ?_) #[true, true, true, true, true, true, true, false, false, false, false, false, false, false, false, false, false, false] rfl rfl (any_of HT_.out (by kernel_rfl)) (fun _ _ _ h => h) (Or.inl ⟨by rfl, ?_⟩) ?_ ?_
                 rotate_left
                 ·intro w'
                  go_simp
                  with_reducible rfl
                 rotate_left
                 ·simp only [Act.put, pB, pC, pD, i64_w, i32_w]
                  rfl
                 refine pure_ (i := 7) (N := some 19) (v := ?_) (a' := ?_) #[true, true, true, true, true, true, true, true, false, false, false, false, false, false, false, false, false, false] rfl rfl (any_of HT_.out (by kernel_rfl)) (fun _ _ _ h => h) (Or.inl ⟨by rfl, ?_⟩) ?_ ?_
                 rotate_left
                 ·intro w'
                  go_simp
                  with_reducible rfl
                 rotate_left
                 ·simp only [Act.put, pB, pC, pD, i64_w, i32_w]
                  rfl
                 refine pure_ (i := 8) (N := some 20) (v := ?_) (a' := ?_) #[true, true, true, true, true, true, true, true, true, false, false, false, false, false, false, false, false, false] rfl rfl (any_of HT_.out (by kernel_rfl)) (fun _ _ _ h => h) (Or.inl ⟨by rfl, ?_⟩) ?_ ?_
                 rotate_left
                 ·intro w'
                  go_simp
                  with_reducible rfl
                 rotate_left
                 ·simp only [Act.put, pB, pC, pD, i64_w, i32_w]
                  rfl
                 refine pure_ (i := 12) (N := some 24) (v := ?_) (a' := ?_) #[true, true, true, true, true, true, true, true, true, false, false, false, true, false, false, false, false, false] rfl rfl (any_of HT_.out (by kernel_rfl)) (fun _ _ _ h => h) (Or.inl ⟨by rfl, ?_⟩) ?_ ?_
                 rotate_left
                 ·intro w'
                  go_simp
                  with_reducible rfl
                 rotate_left
                 ·simp only [Act.put, pB, pC, pD, i64_w, i32_w]
                  rfl
                 refine pure_ (i := 13) (N := some 25) (v := ?_) (a' := ?_) #[true, true, true, true, true, true, true, true, true, false, false, false, true, true, false, false, false, false] rfl rfl (any_of HT_.out (by kernel_rfl)) (fun _ _ _ h => h) (Or.inl ⟨by rfl, ?_⟩) ?_ ?_
                 rotate_left
                 ·intro w'
                  go_simp
                  with_reducible rfl
                 rotate_left
                 ·simp only [Act.put, pB, pC, pD, i64_w, i32_w]
                  rfl
                 refine pure_ (i := 14) (N := some 26) (v := ?_) (a' := ?_) #[true, true, true, true, true, true, true, true, true, false, false, false, true, true, true, false, false, false] rfl rfl (any_of HT_.out (by kernel_rfl)) (fun _ _ _ h => h) (Or.inl ⟨by rfl, ?_⟩) ?_ ?_
                 rotate_left
                 ·intro w'
                  go_simp
                  with_reducible rfl
                 rotate_left
                 ·simp only [Act.put, pB, pC, pD, i64_w, i32_w]
                  rfl
                 refine take_ (i := 9) (N := some 21) (v := ?_) (a' := ?_) #[true, true, true, true, true, true, true, true, true, true, false, false, true, true, true, false, false, false] rfl rfl (take_ofW HT_.out HW_.out (by kernel_rfl)) (fun _ _ _ h => h) (Or.inl ⟨by rfl, ?_⟩) hHeld ?_ ?_
                 rotate_left
                 ·rintro w' ⟨s0, s1, s2, s3, s4, s5, s6, s7, s8, s9, s10, s11, s12, s13, s14, s15, s16⟩
                  go_simp
                  with_reducible rfl
                 rotate_left
                 ·simp only [Act.put, pB, pC, pD, i64_w, i32_w]
                  rfl
                 refine pure_ (i := 10) (N := some 22) (v := ?_) (a' := ?_) #[true, true, true, true, true, true, true, true, true, true, true, false, true, true, true, false, false, false] rfl rfl (any_of HT_.out (by kernel_rfl)) (fun _ _ _ h => h) (Or.inl ⟨by rfl, ?_⟩) ?_ ?_
                 rotate_left
                 ·intro w'
                  go_simp
                  with_reducible rfl
                 rotate_left
                 ·simp only [Act.put, pB, pC, pD, i64_w, i32_w]
                  rfl
                 refine take_ (i := 11) (N := some 23) (v := ?_) (a' := ?_) #[true, true, true, true, true, true, true, true, true, true, true, true, true, true, true, false, false, false] rfl rfl (take_ofW HT_.out HW_.out (by kernel_rfl)) (fun _ _ _ h => h) (Or.inl ⟨by rfl, ?_⟩) hHeld ?_ ?_
                 rotate_left
                 ·rintro w' ⟨s0, s1, s2, s3, s4, s5, s6, s7, s8, s9, s10, s11, s12, s13, s14, s15, s16⟩
                  go_simp
                  with_reducible rfl
                 rotate_left
                 ·simp only [Act.put, pB, pC, pD, i64_w, i32_w]
                  rfl
                 refine take_ (i := 15) (N := some 27) (v := ?_) (a' := ?_) #[true, true, true, true, true, true, true, true, true, true, true, true, true, true, true, true, false, false] rfl rfl (take_ofW HT_.out HW_.out (by kernel_rfl)) (fun _ _ _ h => h) (Or.inl ⟨by rfl, ?_⟩) hHeld ?_ ?_
                 rotate_left
                 ·rintro w' ⟨s0, s1, s2, s3, s4, s5, s6, s7, s8, s9, s10, s11, s12, s13, s14, s15, s16⟩
                  go_simp
                  with_reducible rfl
                 rotate_left
                 ·simp only [Act.put, pB, pC, pD, i64_w, i32_w]
                  rfl
                 refine one_ (i := 16) (N := some 28) #[true, true, true, true, true, true, true, true, true, true, true, true, true, true, true, true, true, false] rfl rfl (one_of HT_.out (by kernel_rfl)) (by decide) (fun K hK => ?_)
                 refine goes_ Try.func137 (by kernel_rfl) rfl #[.agg #[.int .i64 ((rd_T52 l0 (rd x3_1 x5_2)).f0), .int .i64 ((rd_T52 l0 (rd x3_1 x5_2)).f1.f0), .int .i64 ((rd_T52 l0 (rd x3_1 x5_2)).f1.f1), .int .i64 ((rd_T52 l0 (rd x3_1 x5_2)).f2.f0), .int .i64 ((rd_T52 l0 (rd x3_1 x5_2)).f2.f1), .int .i64 ((rd_T52 l0 (rd x3_1 x5_2)).f3.f0), .int .i64 ((rd_T52 l0 (rd x3_1 x5_2)).f3.f1), .int .i64 ((rd_T52 l0 (rd x3_1 x5_2)).f4)], .agg #[.int .i64 ((rd_T52 l0 x4_1).f0), .int .i64 ((rd_T52 l0 x4_1).f1.f0), .int .i64 ((rd_T52 l0 x4_1).f1.f1), .int .i64 ((rd_T52 l0 x4_1).f2.f0), .int .i64 ((rd_T52 l0 x4_1).f2.f1), .int .i64 ((rd_T52 l0 x4_1).f3.f0), .int .i64 ((rd_T52 l0 x4_1).f3.f1), .int .i64 ((rd_T52 l0 x4_1).f4)]] (by rfl) rfl rfl (by (try simp only [pE, pF, pG]); first | done | rfl | (simp only [pH, pI]; rfl)) ?_
                 with_reducible refine (potbankref03_lower.calls ((rd_T52 l0 (rd x3_1 x5_2)).f0) ((rd_T52 l0 (rd x3_1 x5_2)).f1.f0) ((rd_T52 l0 (rd x3_1 x5_2)).f1.f1) ((rd_T52 l0 (rd x3_1 x5_2)).f2.f0) ((rd_T52 l0 (rd x3_1 x5_2)).f2.f1) ((rd_T52 l0 (rd x3_1 x5_2)).f3.f0) ((rd_T52 l0 (rd x3_1 x5_2)).f3.f1) ((rd_T52 l0 (rd x3_1 x5_2)).f4) ((rd_T52 l0 x4_1).f0) ((rd_T52 l0 x4_1).f1.f0) ((rd_T52 l0 x4_1).f1.f1) ((rd_T52 l0 x4_1).f2.f0) ((rd_T52 l0 x4_1).f2.f1) ((rd_T52 l0 x4_1).f3.f0) ((rd_T52 l0 x4_1).f3.f1) ((rd_T52 l0 x4_1).f4) false _ A9.out).mono ?_
                 rintro e w23 ⟨rfl, hb⟩
                 have HS0_ := (hb.cell (World.block_lt_of_cell? _ _ (hHeld.1))).trans (hHeld.1)
                 refine ⟨_, rfl, ?_⟩
                 have n0_ := pA (Kd.R_below (vR HO_3) hb)
                 have n1_ := pA (below_step (vB HB) hb)
                 clear HO_3
                 clear HB
                 have HO_3 := n0_
                 have HB := n1_
                 clear n0_ n1_
                 (try clear hb)
                 (try clear hb2)
                 (try clear hk)
                 (try clear hi)
                 refine hK.out _ _ ⟨HS0_, (vD HB hw254_0), (vD HB hw254_1), (vD HB hw254_2), (vD HB hw254_3), (vD HB hw254_4), (vD HB hw254_5), (vD HB hw254_6), (vD HB hw254_7), (vD HB hw255_0), (vD HB hw255_1), (vD HB hw255_2), (vD HB hw255_3), (vD HB hw255_4), (vD HB hw255_5), (vD HB hw255_6), (vD HB hw255_7)⟩ (fun hHeld => ?_)
                 clear hK K
                 refine norm_ (a' := ?_) ?_ ?_
                 rotate_left
                 ·show Act.put _ (some 28) _ = _
                  simp only [Act.put, pB, pC, pD, i64_w, i32_w]
                  rfl
                 refine pure_ (i := 17) (N := some 29) (v := ?_) (a' := ?_) #[true, true, true, true, true, true, true, true, true, true, true, true, true, true, true, true, true, true] rfl rfl (any_of HT_.out (by kernel_rfl)) (fun _ _ _ h => h) (Or.inl ⟨by rfl, ?_⟩) ?_ ?_
                 rotate_left
                 ·intro w'
                  go_simp
                  with_reducible rfl
                 rotate_left
                 ·simp only [Act.put, pB, pC, pD, i64_w, i32_w]
                  rfl
                 refine done_ (done_of HT_.out (by kernel_rfl)) ?_
                 try go_wp2
                 have n0_ := pA (Kd.R_drew HO_3.out)
                 have n1_ := pA (below_drew1 HB.out)
                 clear HO_3
                 clear HB
                 have HO_3 := n0_
                 have HB := n1_
                 clear n0_ n1_
                 have q25 : (x5_2 : Int) ≤ ((x3_1.length : Int) : Int) := of_decide_eq_true (by first | (with_reducible assumption) | assumption)
                 obtain ⟨i025, hi025, _, hsz25, _⟩ := info_parts info3
                 have hroom25 : x3_1.length ≤ co22 := (Kd.R_reads' HO_3.out).2.1
                 have hC25 : Kd.C (Kd.int .i64) _ (some ad253) x3_1.length x3_1 := (Kd.R_reads' HO_3.out).2.2
                 have hcut25 := cut_to (P := Try.prog) 38 3 .i64 Try.underlying38 hi025 (some ad253) x3_1.length co22 x5_2 (of_decide_eq_true (by first | (with_reducible assumption) | assumption)) q25 hroom25
                 have hr25 := Kd.C_take (m := (x5_2 : Int).toNat) hC25 (by omega)
                 have hy25 : y260.length = (x5_2 : Int).toNat := (by rw [Ny260.out, List.length_take]; omega)
                 rw [← Ny260.out] at hr25
                 rw [← hy25] at hcut25
                 have HR263 := pA hr25
                 have HC263 := pA (show y260.length ≤ co22 from by omega)
                 clear hr25 hC25 hroom25 hi025 hsz25
                 have KY25 := pA hy25
                 clear hy25
                 have KL25 := pA (show (x5_2 : Int).toNat ≤ x3_1.length from by omega)
                 replace q25 := eq_true q25
                 have q26 : (x5_2 : Int) ≤ ((x3_1.length : Int) : Int) := of_decide_eq_true (by first | (with_reducible assumption) | assumption)
                 obtain ⟨i026, hi026, _, hsz26, _⟩ := info_parts info3
                 have hroom26 : x3_1.length ≤ co22 := (Kd.R_reads' HO_3.out).2.1
                 have hC26 : Kd.C (Kd.int .i64) _ (some ad253) x3_1.length x3_1 := (Kd.R_reads' HO_3.out).2.2
                 have q026 : (0 : Int) ≤ (x5_2 : Int) := of_decide_eq_true (by first | (with_reducible assumption) | assumption)
                 have hcut26 := cut_from (P := Try.prog) 38 3 .i64 Try.underlying38 hi026 1 hsz26 (some ad253) x3_1.length co22 x5_2 q026 q26
                 have hr26 := Kd.C_drop (m := (x5_2 : Int).toNat) (c := co22) hC26 (by omega) hroom26
                 obtain ⟨A26, hA26⟩ : ∃ A1, A1 = (if co22 = (x5_2 : Int).toNat then (some ad253) else ((some ad253) : Option Addr).map (·.add ((x5_2 : Int).toNat * 1))) := ⟨_, rfl⟩
                 obtain ⟨c26, hc26⟩ : ∃ c1, c1 = co22 - (x5_2 : Int).toNat := ⟨_, rfl⟩
                 have hy26 : y273.length = x3_1.length - (x5_2 : Int).toNat := (by rw [Ny273.out, List.length_drop] <;> omega)
                 rw [show (x3_1).drop (x5_2 : Int).toNat = y273 from Ny273.out.symm] at hr26
                 replace hr26 : Kd.C (Kd.int .i64) _ A26 y273.length y273 := (by rw [hA26]; exact hr26)
                 rw [← hy26, ← hA26, ← hc26] at hcut26
                 have HR276 := pA hr26
                 have HC276 := pA (show y273.length ≤ c26 from by rw [hy26, hc26]; exact Nat.sub_le_sub_right hroom26 _)
                 clear hr26 hC26 hroom26 hi026 hsz26 hc26
                 have KY26 := pA hy26
                 have KA26 := pA hA26
                 clear hy26 hA26
                 have KL26 := pA (show (x5_2 : Int).toNat ≤ x3_1.length from by omega)
                 replace q26 := eq_true q26
                 refine start_ (n := 13) (S := fun w' => True) (ds := []) #[false, false, false, false, false, false, false, false, false, false, false, false, false] (by kernel_rfl) rfl rfl trivial (fun hHeld => ?_); refine with_tabW potbankref03_rule.tab8 potbankref03_rule.bits8 (fun HT_ HW_ => ?_)
                 generalize w23.drew = w24 at HO_3 HB HR263 HR276 hHeld ⊢
                 refine pure_ (i := 1) (N := some 33) (v := ?_) (a' := ?_) #[false, true, false, false, false, false, false, false, false, false, false, false, false] rfl rfl (any_of HT_.out (by kernel_rfl)) (fun _ _ _ h => h) (Or.inl ⟨by rfl, ?_⟩) ?_ ?_
                 rotate_left
                 ·intro w'
                  go_simp
                  with_reducible rfl
                 rotate_left
                 ·simp only [Act.put, pB, pC, pD, i64_w, i32_w]
                  rfl
                 refine pure_ (i := 2) (N := some 34) (v := ?_) (a' := ?_) #[false, true, true, false, false, false, false, false, false, false, false, false, false] rfl rfl (any_of HT_.out (by kernel_rfl)) (fun _ _ _ h => h) (Or.inl ⟨by rfl, ?_⟩) ?_ ?_
                 rotate_left
                 ·intro w'
                  go_simp
                  with_reducible rfl
                 rotate_left
                 ·simp only [Act.put, pB, pC, pD, i64_w, i32_w]
                  rfl
                 refine pure_ (i := 3) (N := some 35) (v := ?_) (a' := ?_) #[false, true, true, true, false, false, false, false, false, false, false, false, false] rfl rfl (any_of HT_.out (by kernel_rfl)) (fun _ _ _ h => h) (Or.inl ⟨by rfl, ?_⟩) ?_ ?_
                 rotate_left
                 ·intro w'
                  go_simp
                  with_reducible rfl
                 rotate_left
                 ·simp only [Act.put, pB, pC, pD, i64_w, i32_w]
                  rfl
                 refine pure_ (i := 5) (N := some 37) (v := ?_) (a' := ?_) #[false, true, true, true, false, true, false, false, false, false, false, false, false] rfl rfl (any_of HT_.out (by kernel_rfl)) (fun _ _ _ h => h) (Or.inl ⟨by rfl, ?_⟩) ?_ ?_
                 rotate_left
                 ·intro w'
                  go_simp
                  with_reducible rfl
                 rotate_left
                 ·simp only [Act.put, pB, pC, pD, i64_w, i32_w]
                  rfl
                 refine pure_ (i := 8) (N := some 40) (v := ?_) (a' := ?_) #[false, true, true, true, false, true, false, false, true, false, false, false, false] rfl rfl (any_of HT_.out (by kernel_rfl)) (fun _ _ _ h => h) (Or.inl ⟨by rfl, ?_⟩) ?_ ?_
                 rotate_left
                 ·intro w'
                  go_simp
                  with_reducible rfl
                 rotate_left
                 ·simp only [Act.put, pB, pC, pD, i64_w, i32_w]
                  rfl
                 refine pure_ (i := 9) (N := some 41) (v := ?_) (a' := ?_) #[false, true, true, true, false, true, false, false, true, true, false, false, false] rfl rfl (any_of HT_.out (by kernel_rfl)) (fun _ _ _ h => h) (Or.inl ⟨by rfl, ?_⟩) ?_ ?_
                 rotate_left
                 ·intro w'
                  go_simp
                  with_reducible rfl
                 rotate_left
                 ·simp only [Act.put, pB, pC, pD, i64_w, i32_w]
                  rfl
                 refine pure_ (i := 10) (N := some 42) (v := ?_) (a' := ?_) #[false, true, true, true, false, true, false, false, true, true, true, false, false] rfl rfl (any_of HT_.out (by kernel_rfl)) (fun _ _ _ h => h) (Or.inl ⟨by rfl, ?_⟩) ?_ ?_
                 rotate_left
                 ·intro w'
                  go_simp
                  with_reducible rfl
                 rotate_left
                 ·simp only [Act.put, pB, pC, pD, i64_w, i32_w]
                  rfl
                 refine join_ (σ := Value × Value × Value) 3 #[true, true, true, true, true, true, true, false, true, true, true, false, false] (fun s_ => [(32, s_.1), (36, s_.2.1), (38, s_.2.2)]) (fun s_ w' => (Kd.R (Kd.int .i64) 3 w' w.heap.size (fun k_ => some k_ ≠ (s_.2.2 : Value).ownBlock ∧ some k_ ≠ (.slice (some ad253) x3_1.length co22 : Value).ownBlock) s_.2.1 y264) ∧ (Kd.R (Kd.int .i64) 3 w' w.heap.size (fun k_ => some k_ ≠ (s_.2.1 : Value).ownBlock ∧ some k_ ≠ (.slice (some ad253) x3_1.length co22 : Value).ownBlock) s_.2.2 y267) ∧ (Kd.R (Kd.int .i64) 3 w' w.heap.size (fun k_ => some k_ ≠ (s_.2.1 : Value).ownBlock ∧ some k_ ≠ (s_.2.2 : Value).ownBlock) (.slice (some ad253) x3_1.length co22) x3_1) ∧ (Below w.heap.size w w')) ?_ ?_
                 rotate_left
                 ·intro hCont
                  refine two_ (i := 0) (j := 6) (Ni := some 32) (Nj := some 38) #[true, true, true, true, false, true, false, false, true, true, true, false, false] #[false, true, true, true, false, true, true, false, true, true, true, false, false] rfl rfl rfl rfl (two_of HT_.out (by kernel_rfl)) (by decide) (by decide) (fun K hK => ?_) (fun K hK => ?_)
                  ·skip
                   refine Kd.R_lit_step (Kd.int .i64) _ 3 ?hg (N := 32) ?hd (xs := ([] : List Int)) (inner := []) (ok := fun _ => True) (okp := fun _ => True) ?hr ?hp (fun _ hk => hk) trivial (Below.refl _ _) (Nat.le_refl _) (by simp) ?_; (case hd => rfl); (case hg => rfl); (case hr => first | (go_simp; done) | (go_simp; rfl)); (case hp => exact (Reps.none _ _))
                   intro v258 w27 ho28 hb hg_ hnew_
                   clear hg_ hnew_
                   (first | rw [← Ny257.out] at ho28 | (simp only [Int.reduceToNat] at ho28; rw [← Ny257.out] at ho28))
                   have n0_ := pA (Kd.R_elder' (vR HO_3) (Kd.R_base ho28) hb)
                   have n1_ := pA (Kd.R_lower (Kd.R_new' ho28 (Kd.R_lt (vR HO_3))) (below_size (vB HB)))
                   have n2_ := pA (Kd.C_below (by repeat (first | (with_reducible exact HR263.out) | (with_reducible refine Kd.C_alloc ?_ _) | (with_reducible refine Kd.C_drewN ?_ _) | (with_reducible refine Kd.C_drew ?_) | exact HR263.out)) hb)
                   have n3_ := pA (Kd.C_below (by repeat (first | (with_reducible exact HR276.out) | (with_reducible refine Kd.C_alloc ?_ _) | (with_reducible refine Kd.C_drewN ?_ _) | (with_reducible refine Kd.C_drew ?_) | exact HR276.out)) hb)
                   have n4_ := pA (below_step (vB HB) hb)
                   clear HO_3
                   clear HR263
                   clear HR276
                   clear HB
                   have HO_3 := n0_
                   have HO259 := n1_
                   have HR263 := n2_
                   have HR276 := n3_
                   have HB := n4_
                   clear n0_ n1_ n2_ n3_ n4_
                   clear hb ho28
                   refine hK.out _ _ trivial (fun hHeld => ?_)
                   clear hK K
                   refine norm_ (a' := ?_) ?_ ?_
                   rotate_left
                   ·show Act.put _ (some 32) _ = _
                    simp only [Act.put, pB, pC, pD, i64_w, i32_w]
                    rfl
                   refine two_ (i := 4) (j := 6) (Ni := some 36) (Nj := some 38) #[true, true, true, true, true, true, false, false, true, true, true, false, false] #[true, true, true, true, false, true, true, false, true, true, true, false, false] rfl rfl rfl rfl (two_of HT_.out (by kernel_rfl)) (by decide) (by decide) (fun K hK => ?_) (fun K hK => ?_)
                   ·skip
                    refine Kd.R_append_rows_step (Kd.int .i64) (w0 := w) w.heap.size (by rfl) (.tmp 32) (.tmp 35) 38 3 (.int .i64 0) 8 rfl Try.underlying38 info3 rfl (by decide) (by omega) v258 y257 y260 _ _ _ (fun k_ => some k_ ≠ (.slice (some ad253) x3_1.length co22 : Value).ownBlock) (fun _ => False) rfl rfl ?aO ?aR (fun _ _ h => h) (fun _ h => h.elim) ?aF ?aB ?aS ?aL ?_
                    (case aR => repeat (first | exact (by repeat (first | (with_reducible exact HR263.out) | (with_reducible refine Kd.C_alloc ?_ _) | (with_reducible refine Kd.C_drewN ?_ _) | (with_reducible refine Kd.C_drew ?_) | exact HR263.out)) | (with_reducible refine Kd.C_alloc ?_ _) | (with_reducible refine Kd.C_drewN ?_ _) | (with_reducible refine Kd.C_drew ?_)))
                    (case aB => exact (vB HB))
                    (case aF => exact (fun k_ hk => Kd.fresh' (Kd.R_lt (vR HO_3)) k_ hk))
                    (case aO => exact (by (with_reducible repeat (first | apply Kd.R_alloc | apply Kd.R_drewN | apply Kd.R_drew)); exact Kd.R_mono HO259.out (fun _ hk => hk.2)))
                    (case aS => exact (below_size (vB HB)))
                    (case aL => have := LMc16.out; omega)
                    intro v265 w29 ho hb hg hat
                    rw [← Ny264.out] at ho
                    have n0_ := pA (Kd.R_after (ok := (fun _ => True)) (vR HO_3) hg hat)
                    have n1_ := pA (hb)
                    have n2_ := pA ((show Kd.C (Kd.int .i64) w29 (some ad253) y260.length y260 from by rw [Ny260.out]; exact Kd.C_take (m := (x5_2 : Int).toNat) ((Kd.R_reads' (Kd.R_after (ok := (fun _ => True)) (vR HO_3) hg hat)).2.2) KL25.out))
                    have n3_ := pA ((show Kd.C (Kd.int .i64) w29 A26 y273.length y273 from by rw [Ny273.out, KA26.out]; exact Kd.C_drop (m := (x5_2 : Int).toNat) (c := co22) ((Kd.R_reads' (Kd.R_after (ok := (fun _ => True)) (vR HO_3) hg hat)).2.2) KL26.out ((Kd.R_reads' (Kd.R_after (ok := (fun _ => True)) (vR HO_3) hg hat)).2.1)))
                    have n4_ := pA (ho)
                    clear HO_3
                    clear HB
                    clear HR263
                    clear HR276
                    clear HO259
                    have HO_3 := n0_
                    have HB := n1_
                    have HR263 := n2_
                    have HR276 := n3_
                    have HO266 := n4_
                    clear n0_ n1_ n2_ n3_ n4_
                    clear ho hb hg hat
                    refine hK.out _ _ trivial (fun hHeld => ?_)
                    clear hK K
                    refine norm_ (a' := ?_) ?_ ?_
                    rotate_left
                    ·show Act.put _ (some 36) _ = _
                     simp only [Act.put, pB, pC, pD, i64_w, i32_w]
                     rfl
                    refine one_ (i := 6) (N := some 38) #[true, true, true, true, true, true, true, false, true, true, true, false, false] rfl rfl (one_of HT_.out (by kernel_rfl)) (by decide) (fun K hK => ?_)
                    refine Kd.R_lit_step (Kd.int .i64) _ 3 ?hg (N := 38) ?hd (xs := ([x4_1] : List Int)) (inner := [.int .i64 x4_1]) (ok := fun _ => True) (okp := fun _ => True) ?hr ?hp (fun _ hk => hk) trivial (Below.refl _ _) (Nat.le_refl _) (by simp) ?_; (case hd => rfl); (case hg => rfl); (case hr => first | (go_simp; done) | (go_simp; rfl)); (case hp => exact (Reps.one (show Kd.M (Kd.int .i64) _ _ _ x4_1 [.int .i64 x4_1] from rfl) (Reps.none _ _)))
                    intro v268 w30 ho31 hb hg_ hnew_
                    clear hg_ hnew_
                    (first | rw [← Ny267.out] at ho31 | (simp only [Int.reduceToNat] at ho31; rw [← Ny267.out] at ho31))
                    have n0_ := pA (Kd.R_elder' (vR HO_3) (Kd.R_base ho31) hb)
                    have n1_ := pA (Kd.R_elder' (vR HO266) (Kd.R_base ho31) hb)
                    have n2_ := pA (Kd.R_lower (Kd.R_new' (Kd.R_new' ho31 (Kd.R_lt (vR HO_3))) (Kd.R_lt (vR HO266))) (below_size (vB HB)))
                    have n3_ := pA (Kd.C_below (by repeat (first | (with_reducible exact HR263.out) | (with_reducible refine Kd.C_alloc ?_ _) | (with_reducible refine Kd.C_drewN ?_ _) | (with_reducible refine Kd.C_drew ?_) | exact HR263.out)) hb)
                    have n4_ := pA (Kd.C_below (by repeat (first | (with_reducible exact HR276.out) | (with_reducible refine Kd.C_alloc ?_ _) | (with_reducible refine Kd.C_drewN ?_ _) | (with_reducible refine Kd.C_drew ?_) | exact HR276.out)) hb)
                    have n5_ := pA (below_step (vB HB) hb)
                    clear HO_3
                    clear HO266
                    clear HR263
                    clear HR276
                    clear HB
                    have HO_3 := n0_
                    have HO266 := n1_
                    have HO269 := n2_
                    have HR263 := n3_
                    have HR276 := n4_
                    have HB := n5_
                    clear n0_ n1_ n2_ n3_ n4_ n5_
                    clear hb ho31
                    refine hK.out _ _ trivial (fun hHeld => ?_)
                    clear hK K
                    refine norm_ (a' := ?_) ?_ ?_
                    rotate_left
                    ·show Act.put _ (some 38) _ = _
                     simp only [Act.put, pB, pC, pD, i64_w, i32_w]
                     rfl
                    exact norm_ (by simp only [putAll, Act.put, pB, pC, pD]) (hCont (v258, v265, v268) _ ⟨(by (with_reducible repeat (first | apply Kd.R_alloc | apply Kd.R_drewN | apply Kd.R_drew)); exact Kd.R_mono HO266.out (fun _ hk => ⟨hk.2, hk.1⟩)), (by (with_reducible repeat (first | apply Kd.R_alloc | apply Kd.R_drewN | apply Kd.R_drew)); exact Kd.R_mono HO269.out (fun _ hk => ⟨hk.2, hk.1.2⟩)), (by (with_reducible repeat (first | apply Kd.R_alloc | apply Kd.R_drewN | apply Kd.R_drew)); exact Kd.R_mono HO_3.out (fun _ hk => ⟨hk.1.2, hk.2⟩)), (vB HB)⟩)
                   ·skip
                    refine Kd.R_lit_step (Kd.int .i64) _ 3 ?hg (N := 38) ?hd (xs := ([x4_1] : List Int)) (inner := [.int .i64 x4_1]) (ok := fun _ => True) (okp := fun _ => True) ?hr ?hp (fun _ hk => hk) trivial (Below.refl _ _) (Nat.le_refl _) (by simp) ?_; (case hd => rfl); (case hg => rfl); (case hr => first | (go_simp; done) | (go_simp; rfl)); (case hp => exact (Reps.one (show Kd.M (Kd.int .i64) _ _ _ x4_1 [.int .i64 x4_1] from rfl) (Reps.none _ _)))
                    intro v268 w29 ho30 hb hg_ hnew_
                    clear hg_ hnew_
                    (first | rw [← Ny267.out] at ho30 | (simp only [Int.reduceToNat] at ho30; rw [← Ny267.out] at ho30))
                    have n0_ := pA (Kd.R_elder' (vR HO_3) (Kd.R_base ho30) hb)
                    have n1_ := pA (Kd.R_elder' (vR HO259) (Kd.R_base ho30) hb)
                    have n2_ := pA (Kd.R_lower (Kd.R_new' (Kd.R_new' ho30 (Kd.R_lt (vR HO_3))) (Kd.R_lt (vR HO259))) (below_size (vB HB)))
                    have n3_ := pA (Kd.C_below (by repeat (first | (with_reducible exact HR263.out) | (with_reducible refine Kd.C_alloc ?_ _) | (with_reducible refine Kd.C_drewN ?_ _) | (with_reducible refine Kd.C_drew ?_) | exact HR263.out)) hb)
                    have n4_ := pA (Kd.C_below (by repeat (first | (with_reducible exact HR276.out) | (with_reducible refine Kd.C_alloc ?_ _) | (with_reducible refine Kd.C_drewN ?_ _) | (with_reducible refine Kd.C_drew ?_) | exact HR276.out)) hb)
                    have n5_ := pA (below_step (vB HB) hb)
                    clear HO_3
                    clear HO259
                    clear HR263
                    clear HR276
                    clear HB
                    have HO_3 := n0_
                    have HO259 := n1_
                    have HO269 := n2_
                    have HR263 := n3_
                    have HR276 := n4_
                    have HB := n5_
                    clear n0_ n1_ n2_ n3_ n4_ n5_
                    clear hb ho30
                    refine hK.out _ _ trivial (fun hHeld => ?_)
                    clear hK K
                    refine norm_ (a' := ?_) ?_ ?_
                    rotate_left
                    ·show Act.put _ (some 38) _ = _
                     simp only [Act.put, pB, pC, pD, i64_w, i32_w]
                     rfl
                    refine one_ (i := 4) (N := some 36) #[true, true, true, true, true, true, true, false, true, true, true, false, false] rfl rfl (one_of HT_.out (by kernel_rfl)) (by decide) (fun K hK => ?_)
                    refine Kd.R_append_rows_step (Kd.int .i64) (w0 := w) w.heap.size (by rfl) (.tmp 32) (.tmp 35) 38 3 (.int .i64 0) 8 rfl Try.underlying38 info3 rfl (by decide) (by omega) v258 y257 y260 _ _ _ (fun k_ => some k_ ≠ (.slice (some ad253) x3_1.length co22 : Value).ownBlock ∧ some k_ ≠ (v268 : Value).ownBlock) (fun _ => False) rfl rfl ?aO ?aR (fun _ _ h => h) (fun _ h => h.elim) ?aF ?aB ?aS ?aL ?_
                    (case aR => repeat (first | exact (by repeat (first | (with_reducible exact HR263.out) | (with_reducible refine Kd.C_alloc ?_ _) | (with_reducible refine Kd.C_drewN ?_ _) | (with_reducible refine Kd.C_drew ?_) | exact HR263.out)) | (with_reducible refine Kd.C_alloc ?_ _) | (with_reducible refine Kd.C_drewN ?_ _) | (with_reducible refine Kd.C_drew ?_)))
                    (case aB => exact (vB HB))
                    (case aF => exact (fun k_ hk => ⟨Kd.fresh' (Kd.R_lt (vR HO_3)) k_ hk, Kd.fresh' (Kd.R_lt (vR HO269)) k_ hk⟩))
                    (case aO => exact (by (with_reducible repeat (first | apply Kd.R_alloc | apply Kd.R_drewN | apply Kd.R_drew)); exact Kd.R_mono HO259.out (fun _ hk => ⟨hk.1.2, hk.2⟩)))
                    (case aS => exact (below_size (vB HB)))
                    (case aL => have := LMc16.out; omega)
                    intro v265 w31 ho hb hg hat
                    rw [← Ny264.out] at ho
                    have n0_ := pA (Kd.R_after (ok := (fun k_ => some k_ ≠ (v268 : Value).ownBlock)) (by (with_reducible repeat (first | apply Kd.R_alloc | apply Kd.R_drewN | apply Kd.R_drew)); exact Kd.R_mono HO_3.out (fun _ hk => ⟨hk.2, hk.1.2⟩)) hg hat)
                    have n1_ := pA (Kd.R_after (ok := (fun k_ => some k_ ≠ (.slice (some ad253) x3_1.length co22 : Value).ownBlock)) (by (with_reducible repeat (first | apply Kd.R_alloc | apply Kd.R_drewN | apply Kd.R_drew)); exact Kd.R_mono HO269.out (fun _ hk => ⟨hk.1.2, hk.2⟩)) hg hat)
                    have n2_ := pA (hb)
                    have n3_ := pA ((show Kd.C (Kd.int .i64) w31 (some ad253) y260.length y260 from by rw [Ny260.out]; exact Kd.C_take (m := (x5_2 : Int).toNat) ((Kd.R_reads' (Kd.R_after (ok := (fun k_ => some k_ ≠ (v268 : Value).ownBlock)) (by (with_reducible repeat (first | apply Kd.R_alloc | apply Kd.R_drewN | apply Kd.R_drew)); exact Kd.R_mono HO_3.out (fun _ hk => ⟨hk.2, hk.1.2⟩)) hg hat)).2.2) KL25.out))
                    have n4_ := pA ((show Kd.C (Kd.int .i64) w31 A26 y273.length y273 from by rw [Ny273.out, KA26.out]; exact Kd.C_drop (m := (x5_2 : Int).toNat) (c := co22) ((Kd.R_reads' (Kd.R_after (ok := (fun k_ => some k_ ≠ (v268 : Value).ownBlock)) (by (with_reducible repeat (first | apply Kd.R_alloc | apply Kd.R_drewN | apply Kd.R_drew)); exact Kd.R_mono HO_3.out (fun _ hk => ⟨hk.2, hk.1.2⟩)) hg hat)).2.2) KL26.out ((Kd.R_reads' (Kd.R_after (ok := (fun k_ => some k_ ≠ (v268 : Value).ownBlock)) (by (with_reducible repeat (first | apply Kd.R_alloc | apply Kd.R_drewN | apply Kd.R_drew)); exact Kd.R_mono HO_3.out (fun _ hk => ⟨hk.2, hk.1.2⟩)) hg hat)).2.1)))
                    have n5_ := pA (ho)
                    clear HO_3
                    clear HO269
                    clear HB
                    clear HR263
                    clear HR276
                    clear HO259
                    have HO_3 := n0_
                    have HO269 := n1_
                    have HB := n2_
                    have HR263 := n3_
                    have HR276 := n4_
                    have HO266 := n5_
                    clear n0_ n1_ n2_ n3_ n4_ n5_
                    clear ho hb hg hat
                    refine hK.out _ _ trivial (fun hHeld => ?_)
                    clear hK K
                    refine norm_ (a' := ?_) ?_ ?_
                    rotate_left
                    ·show Act.put _ (some 36) _ = _
                     simp only [Act.put, pB, pC, pD, i64_w, i32_w]
                     rfl
                    exact norm_ (by simp only [putAll, Act.put, pB, pC, pD]) (hCont (v258, v265, v268) _ ⟨(by (with_reducible repeat (first | apply Kd.R_alloc | apply Kd.R_drewN | apply Kd.R_drew)); exact Kd.R_mono HO266.out (fun _ hk => ⟨hk.2, hk.1⟩)), (by (with_reducible repeat (first | apply Kd.R_alloc | apply Kd.R_drewN | apply Kd.R_drew)); exact Kd.R_mono HO269.out (fun _ hk => ⟨hk.2, hk.1⟩)), (by (with_reducible repeat (first | apply Kd.R_alloc | apply Kd.R_drewN | apply Kd.R_drew)); exact Kd.R_mono HO_3.out (fun _ hk => ⟨hk.2, hk.1⟩)), (vB HB)⟩)
                  ·skip
                   refine Kd.R_lit_step (Kd.int .i64) _ 3 ?hg (N := 38) ?hd (xs := ([x4_1] : List Int)) (inner := [.int .i64 x4_1]) (ok := fun _ => True) (okp := fun _ => True) ?hr ?hp (fun _ hk => hk) trivial (Below.refl _ _) (Nat.le_refl _) (by simp) ?_; (case hd => rfl); (case hg => rfl); (case hr => first | (go_simp; done) | (go_simp; rfl)); (case hp => exact (Reps.one (show Kd.M (Kd.int .i64) _ _ _ x4_1 [.int .i64 x4_1] from rfl) (Reps.none _ _)))
                   intro v268 w27 ho28 hb hg_ hnew_
                   clear hg_ hnew_
                   (first | rw [← Ny267.out] at ho28 | (simp only [Int.reduceToNat] at ho28; rw [← Ny267.out] at ho28))
                   have n0_ := pA (Kd.R_elder' (vR HO_3) (Kd.R_base ho28) hb)
                   have n1_ := pA (Kd.R_lower (Kd.R_new' ho28 (Kd.R_lt (vR HO_3))) (below_size (vB HB)))
                   have n2_ := pA (Kd.C_below (by repeat (first | (with_reducible exact HR263.out) | (with_reducible refine Kd.C_alloc ?_ _) | (with_reducible refine Kd.C_drewN ?_ _) | (with_reducible refine Kd.C_drew ?_) | exact HR263.out)) hb)
                   have n3_ := pA (Kd.C_below (by repeat (first | (with_reducible exact HR276.out) | (with_reducible refine Kd.C_alloc ?_ _) | (with_reducible refine Kd.C_drewN ?_ _) | (with_reducible refine Kd.C_drew ?_) | exact HR276.out)) hb)
                   have n4_ := pA (below_step (vB HB) hb)
                   clear HO_3
                   clear HR263
                   clear HR276
                   clear HB
                   have HO_3 := n0_
                   have HO269 := n1_
                   have HR263 := n2_
                   have HR276 := n3_
                   have HB := n4_
                   clear n0_ n1_ n2_ n3_ n4_
                   clear hb ho28
                   refine hK.out _ _ trivial (fun hHeld => ?_)
                   clear hK K
                   refine norm_ (a' := ?_) ?_ ?_
                   rotate_left
                   ·show Act.put _ (some 38) _ = _
                    simp only [Act.put, pB, pC, pD, i64_w, i32_w]
                    rfl
                   refine one_ (i := 0) (N := some 32) #[true, true, true, true, false, true, true, false, true, true, true, false, false] rfl rfl (one_of HT_.out (by kernel_rfl)) (by decide) (fun K hK => ?_)
                   refine Kd.R_lit_step (Kd.int .i64) _ 3 ?hg (N := 32) ?hd (xs := ([] : List Int)) (inner := []) (ok := fun _ => True) (okp := fun _ => True) ?hr ?hp (fun _ hk => hk) trivial (Below.refl _ _) (Nat.le_refl _) (by simp) ?_; (case hd => rfl); (case hg => rfl); (case hr => first | (go_simp; done) | (go_simp; rfl)); (case hp => exact (Reps.none _ _))
                   intro v258 w29 ho30 hb hg_ hnew_
                   clear hg_ hnew_
                   (first | rw [← Ny257.out] at ho30 | (simp only [Int.reduceToNat] at ho30; rw [← Ny257.out] at ho30))
                   have n0_ := pA (Kd.R_elder' (vR HO_3) (Kd.R_base ho30) hb)
                   have n1_ := pA (Kd.R_elder' (vR HO269) (Kd.R_base ho30) hb)
                   have n2_ := pA (Kd.R_lower (Kd.R_new' (Kd.R_new' ho30 (Kd.R_lt (vR HO_3))) (Kd.R_lt (vR HO269))) (below_size (vB HB)))
                   have n3_ := pA (Kd.C_below (by repeat (first | (with_reducible exact HR263.out) | (with_reducible refine Kd.C_alloc ?_ _) | (with_reducible refine Kd.C_drewN ?_ _) | (with_reducible refine Kd.C_drew ?_) | exact HR263.out)) hb)
                   have n4_ := pA (Kd.C_below (by repeat (first | (with_reducible exact HR276.out) | (with_reducible refine Kd.C_alloc ?_ _) | (with_reducible refine Kd.C_drewN ?_ _) | (with_reducible refine Kd.C_drew ?_) | exact HR276.out)) hb)
                   have n5_ := pA (below_step (vB HB) hb)
                   clear HO_3
                   clear HO269
                   clear HR263
                   clear HR276
                   clear HB
                   have HO_3 := n0_
                   have HO269 := n1_
                   have HO259 := n2_
                   have HR263 := n3_
                   have HR276 := n4_
                   have HB := n5_
                   clear n0_ n1_ n2_ n3_ n4_ n5_
                   clear hb ho30
                   refine hK.out _ _ trivial (fun hHeld => ?_)
                   clear hK K
                   refine norm_ (a' := ?_) ?_ ?_
                   rotate_left
                   ·show Act.put _ (some 32) _ = _
                    simp only [Act.put, pB, pC, pD, i64_w, i32_w]
                    rfl
                   refine one_ (i := 4) (N := some 36) #[true, true, true, true, true, true, true, false, true, true, true, false, false] rfl rfl (one_of HT_.out (by kernel_rfl)) (by decide) (fun K hK => ?_)
                   refine Kd.R_append_rows_step (Kd.int .i64) (w0 := w) w.heap.size (by rfl) (.tmp 32) (.tmp 35) 38 3 (.int .i64 0) 8 rfl Try.underlying38 info3 rfl (by decide) (by omega) v258 y257 y260 _ _ _ (fun k_ => some k_ ≠ (.slice (some ad253) x3_1.length co22 : Value).ownBlock ∧ some k_ ≠ (v268 : Value).ownBlock) (fun _ => False) rfl rfl ?aO ?aR (fun _ _ h => h) (fun _ h => h.elim) ?aF ?aB ?aS ?aL ?_
                   (case aR => repeat (first | exact (by repeat (first | (with_reducible exact HR263.out) | (with_reducible refine Kd.C_alloc ?_ _) | (with_reducible refine Kd.C_drewN ?_ _) | (with_reducible refine Kd.C_drew ?_) | exact HR263.out)) | (with_reducible refine Kd.C_alloc ?_ _) | (with_reducible refine Kd.C_drewN ?_ _) | (with_reducible refine Kd.C_drew ?_)))
                   (case aB => exact (vB HB))
                   (case aF => exact (fun k_ hk => ⟨Kd.fresh' (Kd.R_lt (vR HO_3)) k_ hk, Kd.fresh' (Kd.R_lt (vR HO269)) k_ hk⟩))
                   (case aO => exact (by (with_reducible repeat (first | apply Kd.R_alloc | apply Kd.R_drewN | apply Kd.R_drew)); exact Kd.R_mono HO259.out (fun _ hk => ⟨hk.1.2, hk.2⟩)))
                   (case aS => exact (below_size (vB HB)))
                   (case aL => have := LMc16.out; omega)
                   intro v265 w31 ho hb hg hat
                   rw [← Ny264.out] at ho
                   have n0_ := pA (Kd.R_after (ok := (fun k_ => some k_ ≠ (v268 : Value).ownBlock)) (by (with_reducible repeat (first | apply Kd.R_alloc | apply Kd.R_drewN | apply Kd.R_drew)); exact Kd.R_mono HO_3.out (fun _ hk => ⟨hk.1.2, hk.2⟩)) hg hat)
                   have n1_ := pA (Kd.R_after (ok := (fun k_ => some k_ ≠ (.slice (some ad253) x3_1.length co22 : Value).ownBlock)) (by (with_reducible repeat (first | apply Kd.R_alloc | apply Kd.R_drewN | apply Kd.R_drew)); exact Kd.R_mono HO269.out (fun _ hk => ⟨hk.1.2, hk.2⟩)) hg hat)
                   have n2_ := pA (hb)
                   have n3_ := pA ((show Kd.C (Kd.int .i64) w31 (some ad253) y260.length y260 from by rw [Ny260.out]; exact Kd.C_take (m := (x5_2 : Int).toNat) ((Kd.R_reads' (Kd.R_after (ok := (fun k_ => some k_ ≠ (v268 : Value).ownBlock)) (by (with_reducible repeat (first | apply Kd.R_alloc | apply Kd.R_drewN | apply Kd.R_drew)); exact Kd.R_mono HO_3.out (fun _ hk => ⟨hk.1.2, hk.2⟩)) hg hat)).2.2) KL25.out))
                   have n4_ := pA ((show Kd.C (Kd.int .i64) w31 A26 y273.length y273 from by rw [Ny273.out, KA26.out]; exact Kd.C_drop (m := (x5_2 : Int).toNat) (c := co22) ((Kd.R_reads' (Kd.R_after (ok := (fun k_ => some k_ ≠ (v268 : Value).ownBlock)) (by (with_reducible repeat (first | apply Kd.R_alloc | apply Kd.R_drewN | apply Kd.R_drew)); exact Kd.R_mono HO_3.out (fun _ hk => ⟨hk.1.2, hk.2⟩)) hg hat)).2.2) KL26.out ((Kd.R_reads' (Kd.R_after (ok := (fun k_ => some k_ ≠ (v268 : Value).ownBlock)) (by (with_reducible repeat (first | apply Kd.R_alloc | apply Kd.R_drewN | apply Kd.R_drew)); exact Kd.R_mono HO_3.out (fun _ hk => ⟨hk.1.2, hk.2⟩)) hg hat)).2.1)))
                   have n5_ := pA (ho)
                   clear HO_3
                   clear HO269
                   clear HB
                   clear HR263
                   clear HR276
                   clear HO259
                   have HO_3 := n0_
                   have HO269 := n1_
                   have HB := n2_
                   have HR263 := n3_
                   have HR276 := n4_
                   have HO266 := n5_
                   clear n0_ n1_ n2_ n3_ n4_ n5_
                   clear ho hb hg hat
                   refine hK.out _ _ trivial (fun hHeld => ?_)
                   clear hK K
                   refine norm_ (a' := ?_) ?_ ?_
                   rotate_left
                   ·show Act.put _ (some 36) _ = _
                    simp only [Act.put, pB, pC, pD, i64_w, i32_w]
                    rfl
                   exact norm_ (by simp only [putAll, Act.put, pB, pC, pD]) (hCont (v258, v265, v268) _ ⟨(by (with_reducible repeat (first | apply Kd.R_alloc | apply Kd.R_drewN | apply Kd.R_drew)); exact Kd.R_mono HO266.out (fun _ hk => ⟨hk.2, hk.1⟩)), (by (with_reducible repeat (first | apply Kd.R_alloc | apply Kd.R_drewN | apply Kd.R_drew)); exact Kd.R_mono HO269.out (fun _ hk => ⟨hk.2, hk.1⟩)), (by (with_reducible repeat (first | apply Kd.R_alloc | apply Kd.R_drewN | apply Kd.R_drew)); exact Kd.R_mono HO_3.out (fun _ hk => ⟨hk.2, hk.1⟩)), (vB HB)⟩)
                 rintro ⟨v258, v265, v268⟩ w32 ⟨h0_, h1_, h2_, h3_⟩
                 have n0_ : Aside0 (Kd.R (Kd.int .i64) 3 w32 w.heap.size (fun k_ => some k_ ≠ (v268 : Value).ownBlock ∧ some k_ ≠ (.slice (some ad253) x3_1.length co22 : Value).ownBlock) v265 y264) := ⟨h0_⟩
                 have n1_ : Aside0 (Kd.R (Kd.int .i64) 3 w32 w.heap.size (fun k_ => some k_ ≠ (v265 : Value).ownBlock ∧ some k_ ≠ (.slice (some ad253) x3_1.length co22 : Value).ownBlock) v268 y267) := ⟨h1_⟩
                 have n2_ : Aside0 (Kd.R (Kd.int .i64) 3 w32 w.heap.size (fun k_ => some k_ ≠ (v265 : Value).ownBlock ∧ some k_ ≠ (v268 : Value).ownBlock) (.slice (some ad253) x3_1.length co22) x3_1) := ⟨h2_⟩
                 have n3_ : Aside0 (Below w.heap.size w w32) := ⟨h3_⟩
                 clear HO_3
                 clear HB
                 clear h0_ h1_ h2_ h3_
                 have HO266 := n0_
                 have HO269 := n1_
                 have HO_3 := n2_
                 have HB := n3_
                 clear n0_ n1_ n2_ n3_
                 have hHeld := trivial
                 obtain ⟨Ao34, co34, eo34⟩ := Kd.R_slice HO269.out
                 (first | subst eo34 | (injection eo34 with f1_ f2_ f3_; have f4_ := f1_.symm; have f5_ := f3_.symm; clear f1_ f2_ f3_; subst f4_; subst f5_))
                 refine norm_ (a' := ?_) ?_ ?_
                 rotate_left
                 ·simp only [putAll, Act.put, pB, pC, pD]
                  rfl
                 refine one_ (i := 7) (N := some 39) #[true, true, true, true, true, true, true, true, true, true, true, false, false] rfl rfl (one_of HT_.out (by kernel_rfl)) (by decide) (fun K hK => ?_)
                 refine Kd.R_append_rows_step (Kd.int .i64) (w0 := w) w.heap.size (by rfl) (.tmp 36) (.tmp 38) 38 3 (.int .i64 0) 8 rfl Try.underlying38 info3 rfl (by decide) (by omega) v265 y264 y267 _ _ _ (fun k_ => some k_ ≠ (.slice (some ad253) x3_1.length co22 : Value).ownBlock ∧ some k_ ≠ (.slice Ao34 y267.length co34 : Value).ownBlock) (fun _ => False) rfl rfl ?aO ?aR (fun _ _ h => h) (fun _ h => h.elim) ?aF ?aB ?aS ?aL ?_
                 (case aR => repeat (first | exact (Kd.R_reads' HO269.out).2.2 | (with_reducible refine Kd.C_alloc ?_ _) | (with_reducible refine Kd.C_drewN ?_ _) | (with_reducible refine Kd.C_drew ?_)))
                 (case aB => exact (vB HB))
                 (case aF => exact (fun k_ hk => ⟨Kd.fresh' (Kd.R_lt (vR HO_3)) k_ hk, Kd.fresh' (Kd.R_lt (vR HO269)) k_ hk⟩))
                 (case aO => exact (by (with_reducible repeat (first | apply Kd.R_alloc | apply Kd.R_drewN | apply Kd.R_drew)); exact Kd.R_mono HO266.out (fun _ hk => ⟨hk.2, hk.1⟩)))
                 (case aS => exact (below_size (vB HB)))
                 (case aL => have := LMc17.out; omega)
                 intro v271 w33 ho hb hg hat
                 rw [← Ny270.out] at ho
                 have n0_ := pA (Kd.R_after (ok := (fun k_ => some k_ ≠ (.slice Ao34 y267.length co34 : Value).ownBlock)) (by (with_reducible repeat (first | apply Kd.R_alloc | apply Kd.R_drewN | apply Kd.R_drew)); exact Kd.R_mono HO_3.out (fun _ hk => ⟨hk.2, hk.1⟩)) hg hat)
                 have n1_ := pA (Kd.R_after (ok := (fun k_ => some k_ ≠ (.slice (some ad253) x3_1.length co22 : Value).ownBlock)) (by (with_reducible repeat (first | apply Kd.R_alloc | apply Kd.R_drewN | apply Kd.R_drew)); exact Kd.R_mono HO269.out (fun _ hk => ⟨hk.2, hk.1⟩)) hg hat)
                 have n2_ := pA (hb)
                 have n3_ := pA (ho)
                 clear HO_3
                 clear HO269
                 clear HB
                 clear HO266
                 have HO_3 := n0_
                 have HO269 := n1_
                 have HB := n2_
                 have HO272 := n3_
                 clear n0_ n1_ n2_ n3_
                 clear ho hb hg hat
                 refine hK.out _ _ trivial (fun hHeld => ?_)
                 clear hK K
                 refine norm_ (a' := ?_) ?_ ?_
                 rotate_left
                 ·show Act.put _ (some 39) _ = _
                  simp only [Act.put, pB, pC, pD, i64_w, i32_w]
                  rfl
                 refine one_ (i := 11) (N := some 43) #[true, true, true, true, true, true, true, true, true, true, true, true, false] rfl rfl (one_of HT_.out (by kernel_rfl)) (by decide) (fun K hK => ?_)
                 refine Kd.R_append_rows_step (Kd.int .i64) (w0 := w) w.heap.size (by rfl) (.tmp 39) (.tmp 42) 38 3 (.int .i64 0) 8 rfl Try.underlying38 info3 rfl (by decide) (by omega) v271 y270 y273 _ _ _ (fun k_ => some k_ ≠ (.slice (some ad253) x3_1.length co22 : Value).ownBlock ∧ some k_ ≠ (.slice Ao34 y267.length co34 : Value).ownBlock) (fun _ => False) rfl rfl ?aO ?aR (fun _ _ h => h) (fun _ h => h.elim) ?aF ?aB ?aS ?aL ?_
                 (case aR => repeat (first | exact (show Kd.C (Kd.int .i64) _ A26 y273.length y273 from by rw [Ny273.out, KA26.out]; exact Kd.C_drop (m := (x5_2 : Int).toNat) (c := co22) (Kd.R_reads' HO_3.out).2.2 KL26.out (Kd.R_reads' HO_3.out).2.1) | (with_reducible refine Kd.C_alloc ?_ _) | (with_reducible refine Kd.C_drewN ?_ _) | (with_reducible refine Kd.C_drew ?_)))
                 (case aB => exact (vB HB))
                 (case aF => exact (fun k_ hk => ⟨Kd.fresh' (Kd.R_lt (vR HO_3)) k_ hk, Kd.fresh' (Kd.R_lt (vR HO269)) k_ hk⟩))
                 (case aO => exact (vR HO272))
                 (case aS => exact (below_size (vB HB)))
                 (case aL => have := LMc20.out; omega)
                 intro v278 w35 ho hb hg hat
                 rw [← Ny277.out] at ho
                 have n0_ := pA (Kd.R_after (ok := (fun k_ => some k_ ≠ (.slice Ao34 y267.length co34 : Value).ownBlock)) (vR HO_3) hg hat)
                 have n1_ := pA (Kd.R_after (ok := (fun k_ => some k_ ≠ (.slice (some ad253) x3_1.length co22 : Value).ownBlock)) (vR HO269) hg hat)
                 have n2_ := pA (hb)
                 have n3_ := pA (ho)
                 clear HO_3
                 clear HO269
                 clear HB
                 clear HO272
                 have HO_3 := n0_
                 have HO269 := n1_
                 have HB := n2_
                 have HO279 := n3_
                 clear n0_ n1_ n2_ n3_
                 clear ho hb hg hat
                 refine hK.out _ _ trivial (fun hHeld => ?_)
                 clear hK K
                 refine norm_ (a' := ?_) ?_ ?_
                 rotate_left
                 ·show Act.put _ (some 43) _ = _
                  simp only [Act.put, pB, pC, pD, i64_w, i32_w]
                  rfl
                 refine pure_ (i := 12) (N := some 3) (v := ?_) (a' := ?_) #[true, true, true, true, true, true, true, true, true, true, true, true, true] rfl rfl (any_of HT_.out (by kernel_rfl)) (fun _ _ _ h => h) (Or.inl ⟨by rfl, ?_⟩) ?_ ?_
                 rotate_left
                 ·intro w'
                  go_simp
                  with_reducible rfl
                 rotate_left
                 ·simp only [Act.put, pB, pC, pD, i64_w, i32_w]
                  rfl
                 refine done_ (done_of HT_.out (by kernel_rfl)) ?_
                 try go_wp2
                 go_roundg k2
                 case measure => have := HK1.out; have := HK2.out; omega
                 case rel => exact ⟨(y277), (wrap64 (x4_1 + 1)), (by first | rfl | (simp; done) | (simp [*]; done)), H', ⟨by have := HK1.out; have := HK2.out; omega⟩, ⟨by (with_reducible repeat (first | apply Kd.R_alloc | apply Kd.R_drewN | apply Kd.R_drew)); exact Kd.R_mono HO279.out (fun _ hk => trivial)⟩, ⟨by repeat (first | (with_reducible first | exact HB.out | apply below_alloc | apply pw_below_drewN | apply below_drew1) | exact HB.out)⟩⟩
                ·rw [if_neg c20] at H
                 exact absurd H (by simp)
               ·rw [if_neg c17] at H
                exact absurd H (by simp)
              ·rw [if_neg c16] at H
               exact absurd H (by simp)
             ·rw [if_neg c15] at H
              exact absurd H (by simp)
           ·rw [if_neg c8] at H
            exact absurd H (by simp)
          ·rw [if_neg c7] at H
           exact absurd H (by simp)
         ·rw [if_neg c6] at H
          exact absurd H (by simp)
        ·rw [if_neg c5] at H
         exact absurd H (by simp)
       ·rw [if_neg c4] at H
        exact absurd H (by simp)
      ·rw [if_neg c3] at H
       have c3b0 : decide (x5_2 < (x3_1.length : Int)) = false := decide_eq_false c3
       clear c3
       obtain ⟨y280, hy280⟩ : ∃ y_ : List Int, y_ = (([] : List Int)) := ⟨_, rfl⟩
       replace H : (if 0 ≤ x5_2 then (if x5_2 ≤ (x3_1.length : Int) then ((some (x3_1.take (x5_2 : Int).toNat : List Int)).bind fun y283 => (if y280.length + y283.length < 17592186044416 then ((some (y280 ++ y283 : List Int)).bind fun y287 => ((some (([x4_1] : List Int) : List Int)).bind fun y290 => (if y287.length + y290.length < 17592186044416 then ((some (y287 ++ y290 : List Int)).bind fun y293 => ((some (x3_1.drop (x5_2 : Int).toNat : List Int)).bind fun y296 => (if y293.length + y296.length < 17592186044416 then (potbankref03_rule.l0 k2 l0 (y293 ++ y296) (wrap64 (x4_1 + 1))) else (none)))) else (none)))) else (none))) else (none)) else (none)) = some r := by first | (rw [hy280]; with_reducible exact H) | (have H2_ := (Option.bind_some _ _).symm.trans H; rw [hy280]; with_reducible exact H2_) | (have H2_ := (Option.bind_some _ _).symm.trans H; with_reducible exact H2_) | with_reducible exact H | (rw [hy280]; exact H) | exact H
       have Ny280 := pA hy280
       clear hy280
       by_cases c36 : 0 ≤ x5_2
       ·rw [if_pos c36] at H
        have c36b0 := eq_true c36
        have c36b1 : decide (0 ≤ x5_2) = true := decide_eq_true c36
        clear c36
        by_cases c37 : x5_2 ≤ (x3_1.length : Int)
        ·rw [if_pos c37] at H
         have c37b0 := eq_true c37
         have c37b1 : decide (x5_2 ≤ (x3_1.length : Int)) = true := decide_eq_true c37
         clear c37
         obtain ⟨y283, hy283⟩ : ∃ y_ : List Int, y_ = (x3_1.take (x5_2 : Int).toNat) := ⟨_, rfl⟩
         replace H : (if y280.length + y283.length < 17592186044416 then ((some (y280 ++ y283 : List Int)).bind fun y287 => ((some (([x4_1] : List Int) : List Int)).bind fun y290 => (if y287.length + y290.length < 17592186044416 then ((some (y287 ++ y290 : List Int)).bind fun y293 => ((some (x3_1.drop (x5_2 : Int).toNat : List Int)).bind fun y296 => (if y293.length + y296.length < 17592186044416 then (potbankref03_rule.l0 k2 l0 (y293 ++ y296) (wrap64 (x4_1 + 1))) else (none)))) else (none)))) else (none)) = some r := by first | (rw [hy283]; with_reducible exact H) | (have H2_ := (Option.bind_some _ _).symm.trans H; rw [hy283]; with_reducible exact H2_) | (have H2_ := (Option.bind_some _ _).symm.trans H; with_reducible exact H2_) | with_reducible exact H | (rw [hy283]; exact H) | exact H
         have Ny283 := pA hy283
         clear hy283
         by_cases c38 : y280.length + y283.length < 17592186044416
         ·rw [if_pos c38] at H
          have LMc38 := pA c38
          clear c38
          obtain ⟨y287, hy287⟩ : ∃ y_ : List Int, y_ = (y280 ++ y283) := ⟨_, rfl⟩
          replace H : ((some (([x4_1] : List Int) : List Int)).bind fun y290 => (if y287.length + y290.length < 17592186044416 then ((some (y287 ++ y290 : List Int)).bind fun y293 => ((some (x3_1.drop (x5_2 : Int).toNat : List Int)).bind fun y296 => (if y293.length + y296.length < 17592186044416 then (potbankref03_rule.l0 k2 l0 (y293 ++ y296) (wrap64 (x4_1 + 1))) else (none)))) else (none))) = some r := by first | (rw [hy287]; with_reducible exact H) | (have H2_ := (Option.bind_some _ _).symm.trans H; rw [hy287]; with_reducible exact H2_) | (have H2_ := (Option.bind_some _ _).symm.trans H; with_reducible exact H2_) | with_reducible exact H | (rw [hy287]; exact H) | exact H
          have Ny287 := pA hy287
          clear hy287
          obtain ⟨y290, hy290⟩ : ∃ y_ : List Int, y_ = (([x4_1] : List Int)) := ⟨_, rfl⟩
          replace H : (if y287.length + y290.length < 17592186044416 then ((some (y287 ++ y290 : List Int)).bind fun y293 => ((some (x3_1.drop (x5_2 : Int).toNat : List Int)).bind fun y296 => (if y293.length + y296.length < 17592186044416 then (potbankref03_rule.l0 k2 l0 (y293 ++ y296) (wrap64 (x4_1 + 1))) else (none)))) else (none)) = some r := by first | (rw [hy290]; with_reducible exact H) | (have H2_ := (Option.bind_some _ _).symm.trans H; rw [hy290]; with_reducible exact H2_) | (have H2_ := (Option.bind_some _ _).symm.trans H; with_reducible exact H2_) | with_reducible exact H | (rw [hy290]; exact H) | exact H
          have Ny290 := pA hy290
          clear hy290
          by_cases c39 : y287.length + y290.length < 17592186044416
          ·rw [if_pos c39] at H
           have LMc39 := pA c39
           clear c39
           obtain ⟨y293, hy293⟩ : ∃ y_ : List Int, y_ = (y287 ++ y290) := ⟨_, rfl⟩
           replace H : ((some (x3_1.drop (x5_2 : Int).toNat : List Int)).bind fun y296 => (if y293.length + y296.length < 17592186044416 then (potbankref03_rule.l0 k2 l0 (y293 ++ y296) (wrap64 (x4_1 + 1))) else (none))) = some r := by first | (rw [hy293]; with_reducible exact H) | (have H2_ := (Option.bind_some _ _).symm.trans H; rw [hy293]; with_reducible exact H2_) | (have H2_ := (Option.bind_some _ _).symm.trans H; with_reducible exact H2_) | with_reducible exact H | (rw [hy293]; exact H) | exact H
           have Ny293 := pA hy293
           clear hy293
           have c40b0 := eq_true (of_decide_eq_true (by first | (with_reducible assumption) | assumption) : 0 ≤ x5_2)
           have c41b0 := eq_true (of_decide_eq_true (by first | (with_reducible assumption) | assumption) : x5_2 ≤ (x3_1.length : Int))
           obtain ⟨y296, hy296⟩ : ∃ y_ : List Int, y_ = (x3_1.drop (x5_2 : Int).toNat) := ⟨_, rfl⟩
           replace H : (if y293.length + y296.length < 17592186044416 then (potbankref03_rule.l0 k2 l0 (y293 ++ y296) (wrap64 (x4_1 + 1))) else (none)) = some r := by first | (rw [hy296]; with_reducible exact H) | (have H2_ := (Option.bind_some _ _).symm.trans H; rw [hy296]; with_reducible exact H2_) | (have H2_ := (Option.bind_some _ _).symm.trans H; with_reducible exact H2_) | with_reducible exact H | (rw [hy296]; exact H) | exact H
           have Ny296 := pA hy296
           clear hy296
           by_cases c42 : y293.length + y296.length < 17592186044416
           ·rw [if_pos c42] at H
            have LMc42 := pA c42
            clear c42
            obtain ⟨y300, hy300⟩ : ∃ y_ : List Int, y_ = (y293 ++ y296) := ⟨_, rfl⟩
            replace H : (potbankref03_rule.l0 k2 l0 y300 (wrap64 (x4_1 + 1))) = some r := by first | (rw [hy300]; with_reducible exact H) | (have H2_ := (Option.bind_some _ _).symm.trans H; rw [hy300]; with_reducible exact H2_) | (have H2_ := (Option.bind_some _ _).symm.trans H; with_reducible exact H2_) | with_reducible exact H | (rw [hy300]; exact H) | exact H
            have Ny300 := pA hy300
            clear hy300
            have H' := pA H
            clear H
            try go_wp2
            have n0_ := pA (Kd.R_drew HO_3.out)
            have n1_ := pA (below_drew1 HB.out)
            clear HO_3
            clear HB
            have HO_3 := n0_
            have HB := n1_
            clear n0_ n1_
            obtain ⟨Ao44, co44, eo44⟩ := Kd.R_slice HO_3.out
            (first | subst eo44 | (injection eo44 with f1_ f2_ f3_; have f4_ := f1_.symm; have f5_ := f3_.symm; clear f1_ f2_ f3_; subst f4_; subst f5_))
            refine start_ (n := 18) (S := fun w' => True) (ds := []) #[false, false, false, false, false, false, false, false, false, false, false, false, false, false, false, false, false, false] (by kernel_rfl) rfl rfl trivial (fun hHeld => ?_); refine with_tabW potbankref03_rule.tab6 potbankref03_rule.bits6 (fun HT_ HW_ => ?_)
            generalize wr.drew = w43 at HO_3 HB hHeld ⊢
            refine pure_ (i := 0) (N := some 12) (v := ?_) (a' := ?_) #[true, false, false, false, false, false, false, false, false, false, false, false, false, false, false, false, false, false] rfl rfl (any_of HT_.out (by kernel_rfl)) (fun _ _ _ h => h) (Or.inl ⟨by rfl, ?_⟩) ?_ ?_
            rotate_left
            ·intro w'
             go_simp
             with_reducible rfl
            rotate_left
            ·simp only [Act.put, pB, pC, pD, i64_w, i32_w]
             rfl
            refine pure_ (i := 1) (N := some 13) (v := ?_) (a' := ?_) #[true, true, false, false, false, false, false, false, false, false, false, false, false, false, false, false, false, false] rfl rfl (any_of HT_.out (by kernel_rfl)) (fun _ _ _ h => h) (Or.inl ⟨by rfl, ?_⟩) ?_ ?_
            rotate_left
            ·intro w'
             go_simp
             with_reducible rfl
            rotate_left
            ·simp only [Act.put, pB, pC, pD, i64_w, i32_w]
             rfl
            refine pure_ (i := 2) (N := some 14) (v := ?_) (a' := ?_) #[true, true, true, false, false, false, false, false, false, false, false, false, false, false, false, false, false, false] rfl rfl (any_of HT_.out (by kernel_rfl)) (fun _ _ _ h => h) (Or.inl ⟨by rfl, ?_⟩) ?_ ?_
            rotate_left
            ·intro w'
             go_simp
             with_reducible rfl
            rotate_left
            ·simp only [Act.put, pB, pC, pD, i64_w, i32_w]
             rfl
            refine pure_ (i := 3) (N := some 15) (v := ?_) (a' := ?_) #[true, true, true, true, false, false, false, false, false, false, false, false, false, false, false, false, false, false] rfl rfl (any_of HT_.out (by kernel_rfl)) (fun _ _ _ h => h) (Or.inl ⟨by rfl, ?_⟩) ?_ ?_
            rotate_left
            ·intro w'
             go_simp
             with_reducible rfl
            rotate_left
            ·simp only [Act.put, pB, pC, pD, i64_w, i32_w]
             rfl
            refine pure_ (i := 4) (N := some 16) (v := ?_) (a' := ?_) #[true, true, true, true, true, false, false, false, false, false, false, false, false, false, false, false, false, false] rfl rfl (any_of HT_.out (by kernel_rfl)) (fun _ _ _ h => h) (Or.inl ⟨by rfl, ?_⟩) ?_ ?_
            rotate_left
            ·intro w'
             go_simp
             with_reducible rfl
            rotate_left
            ·simp only [Act.put, pB, pC, pD, i64_w, i32_w]
             rfl
            refine pure_ (i := 5) (N := some 17) (v := undef) (a' := ?_) #[true, true, true, true, true, true, false, false, false, false, false, false, false, false, false, false, false, false] rfl rfl (any_of HT_.out (by kernel_rfl)) (fun _ _ _ h => h) (Or.inr ⟨by rfl, rfl⟩) ?_ ?_
            rotate_left
            ·simp only [Act.put, pB, pC, pD, i64_w, i32_w]
             rfl
            refine pure_ (i := 6) (N := some 18) (v := undef) (a' := ?_) #[true, true, true, true, true, true, true, false, false, false, false, false, false, false, false, false, false, false] rfl rfl (any_of HT_.out (by kernel_rfl)) (fun _ _ _ h => h) (Or.inr ⟨by rfl, rfl⟩) ?_ ?_
            rotate_left
            ·simp only [Act.put, pB, pC, pD, i64_w, i32_w]
             rfl
            refine pure_ (i := 7) (N := some 19) (v := undef) (a' := ?_) #[true, true, true, true, true, true, true, true, false, false, false, false, false, false, false, false, false, false] rfl rfl (any_of HT_.out (by kernel_rfl)) (fun _ _ _ h => h) (Or.inr ⟨by rfl, rfl⟩) ?_ ?_
            rotate_left
            ·simp only [Act.put, pB, pC, pD, i64_w, i32_w]
             rfl
            refine pure_ (i := 8) (N := some 20) (v := undef) (a' := ?_) #[true, true, true, true, true, true, true, true, true, false, false, false, false, false, false, false, false, false] rfl rfl (any_of HT_.out (by kernel_rfl)) (fun _ _ _ h => h) (Or.inr ⟨by rfl, rfl⟩) ?_ ?_
            rotate_left
            ·simp only [Act.put, pB, pC, pD, i64_w, i32_w]
             rfl
            refine pure_ (i := 9) (N := some 21) (v := undef) (a' := ?_) #[true, true, true, true, true, true, true, true, true, true, false, false, false, false, false, false, false, false] rfl rfl (any_of HT_.out (by kernel_rfl)) (fun _ _ _ h => h) (Or.inr ⟨by rfl, rfl⟩) ?_ ?_
            rotate_left
            ·simp only [Act.put, pB, pC, pD, i64_w, i32_w]
             rfl
            refine pure_ (i := 10) (N := some 22) (v := undef) (a' := ?_) #[true, true, true, true, true, true, true, true, true, true, true, false, false, false, false, false, false, false] rfl rfl (any_of HT_.out (by kernel_rfl)) (fun _ _ _ h => h) (Or.inr ⟨by rfl, rfl⟩) ?_ ?_
            rotate_left
            ·simp only [Act.put, pB, pC, pD, i64_w, i32_w]
             rfl
            refine pure_ (i := 11) (N := some 23) (v := undef) (a' := ?_) #[true, true, true, true, true, true, true, true, true, true, true, true, false, false, false, false, false, false] rfl rfl (any_of HT_.out (by kernel_rfl)) (fun _ _ _ h => h) (Or.inr ⟨by rfl, rfl⟩) ?_ ?_
            rotate_left
            ·simp only [Act.put, pB, pC, pD, i64_w, i32_w]
             rfl
            refine pure_ (i := 12) (N := some 24) (v := undef) (a' := ?_) #[true, true, true, true, true, true, true, true, true, true, true, true, true, false, false, false, false, false] rfl rfl (any_of HT_.out (by kernel_rfl)) (fun _ _ _ h => h) (Or.inr ⟨by rfl, rfl⟩) ?_ ?_
            rotate_left
            ·simp only [Act.put, pB, pC, pD, i64_w, i32_w]
             rfl
            refine pure_ (i := 13) (N := some 25) (v := undef) (a' := ?_) #[true, true, true, true, true, true, true, true, true, true, true, true, true, true, false, false, false, false] rfl rfl (any_of HT_.out (by kernel_rfl)) (fun _ _ _ h => h) (Or.inr ⟨by rfl, rfl⟩) ?_ ?_
            rotate_left
            ·simp only [Act.put, pB, pC, pD, i64_w, i32_w]
             rfl
            refine pure_ (i := 14) (N := some 26) (v := undef) (a' := ?_) #[true, true, true, true, true, true, true, true, true, true, true, true, true, true, true, false, false, false] rfl rfl (any_of HT_.out (by kernel_rfl)) (fun _ _ _ h => h) (Or.inr ⟨by rfl, rfl⟩) ?_ ?_
            rotate_left
            ·simp only [Act.put, pB, pC, pD, i64_w, i32_w]
             rfl
            refine pure_ (i := 15) (N := some 27) (v := undef) (a' := ?_) #[true, true, true, true, true, true, true, true, true, true, true, true, true, true, true, true, false, false] rfl rfl (any_of HT_.out (by kernel_rfl)) (fun _ _ _ h => h) (Or.inr ⟨by rfl, rfl⟩) ?_ ?_
            rotate_left
            ·simp only [Act.put, pB, pC, pD, i64_w, i32_w]
             rfl
            refine pure_ (i := 16) (N := some 28) (v := undef) (a' := ?_) #[true, true, true, true, true, true, true, true, true, true, true, true, true, true, true, true, true, false] rfl rfl (any_of HT_.out (by kernel_rfl)) (fun _ _ _ h => h) (Or.inr ⟨by rfl, rfl⟩) ?_ ?_
            rotate_left
            ·simp only [Act.put, pB, pC, pD, i64_w, i32_w]
             rfl
            refine pure_ (i := 17) (N := some 29) (v := ?_) (a' := ?_) #[true, true, true, true, true, true, true, true, true, true, true, true, true, true, true, true, true, true] rfl rfl (any_of HT_.out (by kernel_rfl)) (fun _ _ _ h => h) (Or.inl ⟨by rfl, ?_⟩) ?_ ?_
            rotate_left
            ·intro w'
             go_simp
             with_reducible rfl
            rotate_left
            ·simp only [Act.put, pB, pC, pD, i64_w, i32_w]
             rfl
            refine done_ (done_of HT_.out (by kernel_rfl)) ?_
            try go_wp2
            have n0_ := pA (Kd.R_drew HO_3.out)
            have n1_ := pA (below_drew1 HB.out)
            clear HO_3
            clear HB
            have HO_3 := n0_
            have HB := n1_
            clear n0_ n1_
            have q46 : (x5_2 : Int) ≤ ((x3_1.length : Int) : Int) := of_decide_eq_true (by first | (with_reducible assumption) | assumption)
            obtain ⟨i046, hi046, _, hsz46, _⟩ := info_parts info3
            have hroom46 : x3_1.length ≤ co44 := (Kd.R_reads' HO_3.out).2.1
            have hC46 : Kd.C (Kd.int .i64) _ Ao44 x3_1.length x3_1 := (Kd.R_reads' HO_3.out).2.2
            have hcut46 := cut_to (P := Try.prog) 38 3 .i64 Try.underlying38 hi046 Ao44 x3_1.length co44 x5_2 (of_decide_eq_true (by first | (with_reducible assumption) | assumption)) q46 hroom46
            have hr46 := Kd.C_take (m := (x5_2 : Int).toNat) hC46 (by omega)
            have hy46 : y283.length = (x5_2 : Int).toNat := (by rw [Ny283.out, List.length_take]; omega)
            rw [← Ny283.out] at hr46
            rw [← hy46] at hcut46
            have HR286 := pA hr46
            have HC286 := pA (show y283.length ≤ co44 from by omega)
            clear hr46 hC46 hroom46 hi046 hsz46
            have KY46 := pA hy46
            clear hy46
            have KL46 := pA (show (x5_2 : Int).toNat ≤ x3_1.length from by omega)
            replace q46 := eq_true q46
            have q47 : (x5_2 : Int) ≤ ((x3_1.length : Int) : Int) := of_decide_eq_true (by first | (with_reducible assumption) | assumption)
            obtain ⟨i047, hi047, _, hsz47, _⟩ := info_parts info3
            have hroom47 : x3_1.length ≤ co44 := (Kd.R_reads' HO_3.out).2.1
            have hC47 : Kd.C (Kd.int .i64) _ Ao44 x3_1.length x3_1 := (Kd.R_reads' HO_3.out).2.2
            have q047 : (0 : Int) ≤ (x5_2 : Int) := of_decide_eq_true (by first | (with_reducible assumption) | assumption)
            have hcut47 := cut_from (P := Try.prog) 38 3 .i64 Try.underlying38 hi047 1 hsz47 Ao44 x3_1.length co44 x5_2 q047 q47
            have hr47 := Kd.C_drop (m := (x5_2 : Int).toNat) (c := co44) hC47 (by omega) hroom47
            obtain ⟨A47, hA47⟩ : ∃ A1, A1 = (if co44 = (x5_2 : Int).toNat then Ao44 else (Ao44 : Option Addr).map (·.add ((x5_2 : Int).toNat * 1))) := ⟨_, rfl⟩
            obtain ⟨c47, hc47⟩ : ∃ c1, c1 = co44 - (x5_2 : Int).toNat := ⟨_, rfl⟩
            have hy47 : y296.length = x3_1.length - (x5_2 : Int).toNat := (by rw [Ny296.out, List.length_drop] <;> omega)
            rw [show (x3_1).drop (x5_2 : Int).toNat = y296 from Ny296.out.symm] at hr47
            replace hr47 : Kd.C (Kd.int .i64) _ A47 y296.length y296 := (by rw [hA47]; exact hr47)
            rw [← hy47, ← hA47, ← hc47] at hcut47
            have HR299 := pA hr47
            have HC299 := pA (show y296.length ≤ c47 from by rw [hy47, hc47]; exact Nat.sub_le_sub_right hroom47 _)
            clear hr47 hC47 hroom47 hi047 hsz47 hc47
            have KY47 := pA hy47
            have KA47 := pA hA47
            clear hy47 hA47
            have KL47 := pA (show (x5_2 : Int).toNat ≤ x3_1.length from by omega)
            replace q47 := eq_true q47
            refine start_ (n := 13) (S := fun w' => True) (ds := []) #[false, false, false, false, false, false, false, false, false, false, false, false, false] (by kernel_rfl) rfl rfl trivial (fun hHeld => ?_); refine with_tabW potbankref03_rule.tab8 potbankref03_rule.bits8 (fun HT_ HW_ => ?_)
            generalize w43.drew = w45 at HO_3 HB HR286 HR299 hHeld ⊢
            refine pure_ (i := 1) (N := some 33) (v := ?_) (a' := ?_) #[false, true, false, false, false, false, false, false, false, false, false, false, false] rfl rfl (any_of HT_.out (by kernel_rfl)) (fun _ _ _ h => h) (Or.inl ⟨by rfl, ?_⟩) ?_ ?_
            rotate_left
            ·intro w'
             go_simp
             with_reducible rfl
            rotate_left
            ·simp only [Act.put, pB, pC, pD, i64_w, i32_w]
             rfl
            refine pure_ (i := 2) (N := some 34) (v := ?_) (a' := ?_) #[false, true, true, false, false, false, false, false, false, false, false, false, false] rfl rfl (any_of HT_.out (by kernel_rfl)) (fun _ _ _ h => h) (Or.inl ⟨by rfl, ?_⟩) ?_ ?_
            rotate_left
            ·intro w'
             go_simp
             with_reducible rfl
            rotate_left
            ·simp only [Act.put, pB, pC, pD, i64_w, i32_w]
             rfl
            refine pure_ (i := 3) (N := some 35) (v := ?_) (a' := ?_) #[false, true, true, true, false, false, false, false, false, false, false, false, false] rfl rfl (any_of HT_.out (by kernel_rfl)) (fun _ _ _ h => h) (Or.inl ⟨by rfl, ?_⟩) ?_ ?_
            rotate_left
            ·intro w'
             go_simp
             with_reducible rfl
            rotate_left
            ·simp only [Act.put, pB, pC, pD, i64_w, i32_w]
             rfl
            refine pure_ (i := 5) (N := some 37) (v := ?_) (a' := ?_) #[false, true, true, true, false, true, false, false, false, false, false, false, false] rfl rfl (any_of HT_.out (by kernel_rfl)) (fun _ _ _ h => h) (Or.inl ⟨by rfl, ?_⟩) ?_ ?_
            rotate_left
            ·intro w'
             go_simp
             with_reducible rfl
            rotate_left
            ·simp only [Act.put, pB, pC, pD, i64_w, i32_w]
             rfl
            refine pure_ (i := 8) (N := some 40) (v := ?_) (a' := ?_) #[false, true, true, true, false, true, false, false, true, false, false, false, false] rfl rfl (any_of HT_.out (by kernel_rfl)) (fun _ _ _ h => h) (Or.inl ⟨by rfl, ?_⟩) ?_ ?_
            rotate_left
            ·intro w'
             go_simp
             with_reducible rfl
            rotate_left
            ·simp only [Act.put, pB, pC, pD, i64_w, i32_w]
             rfl
            refine pure_ (i := 9) (N := some 41) (v := ?_) (a' := ?_) #[false, true, true, true, false, true, false, false, true, true, false, false, false] rfl rfl (any_of HT_.out (by kernel_rfl)) (fun _ _ _ h => h) (Or.inl ⟨by rfl, ?_⟩) ?_ ?_
            rotate_left
            ·intro w'
             go_simp
             with_reducible rfl
            rotate_left
            ·simp only [Act.put, pB, pC, pD, i64_w, i32_w]
             rfl
            refine pure_ (i := 10) (N := some 42) (v := ?_) (a' := ?_) #[false, true, true, true, false, true, false, false, true, true, true, false, false] rfl rfl (any_of HT_.out (by kernel_rfl)) (fun _ _ _ h => h) (Or.inl ⟨by rfl, ?_⟩) ?_ ?_
            rotate_left
            ·intro w'
             go_simp
             with_reducible rfl
            rotate_left
            ·simp only [Act.put, pB, pC, pD, i64_w, i32_w]
             rfl
            refine join_ (σ := Value × Value × Value) 3 #[true, true, true, true, true, true, true, false, true, true, true, false, false] (fun s_ => [(32, s_.1), (36, s_.2.1), (38, s_.2.2)]) (fun s_ w' => (Kd.R (Kd.int .i64) 3 w' w.heap.size (fun k_ => some k_ ≠ (s_.2.2 : Value).ownBlock ∧ some k_ ≠ (.slice Ao44 x3_1.length co44 : Value).ownBlock) s_.2.1 y287) ∧ (Kd.R (Kd.int .i64) 3 w' w.heap.size (fun k_ => some k_ ≠ (s_.2.1 : Value).ownBlock ∧ some k_ ≠ (.slice Ao44 x3_1.length co44 : Value).ownBlock) s_.2.2 y290) ∧ (Kd.R (Kd.int .i64) 3 w' w.heap.size (fun k_ => some k_ ≠ (s_.2.1 : Value).ownBlock ∧ some k_ ≠ (s_.2.2 : Value).ownBlock) (.slice Ao44 x3_1.length co44) x3_1) ∧ (Below w.heap.size w w')) ?_ ?_
            rotate_left
            ·intro hCont
             refine two_ (i := 0) (j := 6) (Ni := some 32) (Nj := some 38) #[true, true, true, true, false, true, false, false, true, true, true, false, false] #[false, true, true, true, false, true, true, false, true, true, true, false, false] rfl rfl rfl rfl (two_of HT_.out (by kernel_rfl)) (by decide) (by decide) (fun K hK => ?_) (fun K hK => ?_)
             ·skip
              refine Kd.R_lit_step (Kd.int .i64) _ 3 ?hg (N := 32) ?hd (xs := ([] : List Int)) (inner := []) (ok := fun _ => True) (okp := fun _ => True) ?hr ?hp (fun _ hk => hk) trivial (Below.refl _ _) (Nat.le_refl _) (by simp) ?_; (case hd => rfl); (case hg => rfl); (case hr => first | (go_simp; done) | (go_simp; rfl)); (case hp => exact (Reps.none _ _))
              intro v281 w48 ho49 hb hg_ hnew_
              clear hg_ hnew_
              (first | rw [← Ny280.out] at ho49 | (simp only [Int.reduceToNat] at ho49; rw [← Ny280.out] at ho49))
              have n0_ := pA (Kd.R_elder' (vR HO_3) (Kd.R_base ho49) hb)
              have n1_ := pA (Kd.R_lower (Kd.R_new' ho49 (Kd.R_lt (vR HO_3))) (below_size (vB HB)))
              have n2_ := pA (Kd.C_below (by repeat (first | (with_reducible exact HR286.out) | (with_reducible refine Kd.C_alloc ?_ _) | (with_reducible refine Kd.C_drewN ?_ _) | (with_reducible refine Kd.C_drew ?_) | exact HR286.out)) hb)
              have n3_ := pA (Kd.C_below (by repeat (first | (with_reducible exact HR299.out) | (with_reducible refine Kd.C_alloc ?_ _) | (with_reducible refine Kd.C_drewN ?_ _) | (with_reducible refine Kd.C_drew ?_) | exact HR299.out)) hb)
              have n4_ := pA (below_step (vB HB) hb)
              clear HO_3
              clear HR286
              clear HR299
              clear HB
              have HO_3 := n0_
              have HO282 := n1_
              have HR286 := n2_
              have HR299 := n3_
              have HB := n4_
              clear n0_ n1_ n2_ n3_ n4_
              clear hb ho49
              refine hK.out _ _ trivial (fun hHeld => ?_)
              clear hK K
              refine norm_ (a' := ?_) ?_ ?_
              rotate_left
              ·show Act.put _ (some 32) _ = _
               simp only [Act.put, pB, pC, pD, i64_w, i32_w]
               rfl
              refine two_ (i := 4) (j := 6) (Ni := some 36) (Nj := some 38) #[true, true, true, true, true, true, false, false, true, true, true, false, false] #[true, true, true, true, false, true, true, false, true, true, true, false, false] rfl rfl rfl rfl (two_of HT_.out (by kernel_rfl)) (by decide) (by decide) (fun K hK => ?_) (fun K hK => ?_)
              ·skip
               refine Kd.R_append_rows_step (Kd.int .i64) (w0 := w) w.heap.size (by rfl) (.tmp 32) (.tmp 35) 38 3 (.int .i64 0) 8 rfl Try.underlying38 info3 rfl (by decide) (by omega) v281 y280 y283 _ _ _ (fun k_ => some k_ ≠ (.slice Ao44 x3_1.length co44 : Value).ownBlock) (fun _ => False) rfl rfl ?aO ?aR (fun _ _ h => h) (fun _ h => h.elim) ?aF ?aB ?aS ?aL ?_
               (case aR => repeat (first | exact (by repeat (first | (with_reducible exact HR286.out) | (with_reducible refine Kd.C_alloc ?_ _) | (with_reducible refine Kd.C_drewN ?_ _) | (with_reducible refine Kd.C_drew ?_) | exact HR286.out)) | (with_reducible refine Kd.C_alloc ?_ _) | (with_reducible refine Kd.C_drewN ?_ _) | (with_reducible refine Kd.C_drew ?_)))
               (case aB => exact (vB HB))
               (case aF => exact (fun k_ hk => Kd.fresh' (Kd.R_lt (vR HO_3)) k_ hk))
               (case aO => exact (by (with_reducible repeat (first | apply Kd.R_alloc | apply Kd.R_drewN | apply Kd.R_drew)); exact Kd.R_mono HO282.out (fun _ hk => hk.2)))
               (case aS => exact (below_size (vB HB)))
               (case aL => have := LMc38.out; omega)
               intro v288 w50 ho hb hg hat
               rw [← Ny287.out] at ho
               have n0_ := pA (Kd.R_after (ok := (fun _ => True)) (vR HO_3) hg hat)
               have n1_ := pA (hb)
               have n2_ := pA ((show Kd.C (Kd.int .i64) w50 Ao44 y283.length y283 from by rw [Ny283.out]; exact Kd.C_take (m := (x5_2 : Int).toNat) ((Kd.R_reads' (Kd.R_after (ok := (fun _ => True)) (vR HO_3) hg hat)).2.2) KL46.out))
               have n3_ := pA ((show Kd.C (Kd.int .i64) w50 A47 y296.length y296 from by rw [Ny296.out, KA47.out]; exact Kd.C_drop (m := (x5_2 : Int).toNat) (c := co44) ((Kd.R_reads' (Kd.R_after (ok := (fun _ => True)) (vR HO_3) hg hat)).2.2) KL47.out ((Kd.R_reads' (Kd.R_after (ok := (fun _ => True)) (vR HO_3) hg hat)).2.1)))
               have n4_ := pA (ho)
               clear HO_3
               clear HB
               clear HR286
               clear HR299
               clear HO282
               have HO_3 := n0_
               have HB := n1_
               have HR286 := n2_
               have HR299 := n3_
               have HO289 := n4_
               clear n0_ n1_ n2_ n3_ n4_
               clear ho hb hg hat
               refine hK.out _ _ trivial (fun hHeld => ?_)
               clear hK K
               refine norm_ (a' := ?_) ?_ ?_
               rotate_left
               ·show Act.put _ (some 36) _ = _
                simp only [Act.put, pB, pC, pD, i64_w, i32_w]
                rfl
               refine one_ (i := 6) (N := some 38) #[true, true, true, true, true, true, true, false, true, true, true, false, false] rfl rfl (one_of HT_.out (by kernel_rfl)) (by decide) (fun K hK => ?_)
               refine Kd.R_lit_step (Kd.int .i64) _ 3 ?hg (N := 38) ?hd (xs := ([x4_1] : List Int)) (inner := [.int .i64 x4_1]) (ok := fun _ => True) (okp := fun _ => True) ?hr ?hp (fun _ hk => hk) trivial (Below.refl _ _) (Nat.le_refl _) (by simp) ?_; (case hd => rfl); (case hg => rfl); (case hr => first | (go_simp; done) | (go_simp; rfl)); (case hp => exact (Reps.one (show Kd.M (Kd.int .i64) _ _ _ x4_1 [.int .i64 x4_1] from rfl) (Reps.none _ _)))
               intro v291 w51 ho52 hb hg_ hnew_
               clear hg_ hnew_
               (first | rw [← Ny290.out] at ho52 | (simp only [Int.reduceToNat] at ho52; rw [← Ny290.out] at ho52))
               have n0_ := pA (Kd.R_elder' (vR HO_3) (Kd.R_base ho52) hb)
               have n1_ := pA (Kd.R_elder' (vR HO289) (Kd.R_base ho52) hb)
               have n2_ := pA (Kd.R_lower (Kd.R_new' (Kd.R_new' ho52 (Kd.R_lt (vR HO_3))) (Kd.R_lt (vR HO289))) (below_size (vB HB)))
               have n3_ := pA (Kd.C_below (by repeat (first | (with_reducible exact HR286.out) | (with_reducible refine Kd.C_alloc ?_ _) | (with_reducible refine Kd.C_drewN ?_ _) | (with_reducible refine Kd.C_drew ?_) | exact HR286.out)) hb)
               have n4_ := pA (Kd.C_below (by repeat (first | (with_reducible exact HR299.out) | (with_reducible refine Kd.C_alloc ?_ _) | (with_reducible refine Kd.C_drewN ?_ _) | (with_reducible refine Kd.C_drew ?_) | exact HR299.out)) hb)
               have n5_ := pA (below_step (vB HB) hb)
               clear HO_3
               clear HO289
               clear HR286
               clear HR299
               clear HB
               have HO_3 := n0_
               have HO289 := n1_
               have HO292 := n2_
               have HR286 := n3_
               have HR299 := n4_
               have HB := n5_
               clear n0_ n1_ n2_ n3_ n4_ n5_
               clear hb ho52
               refine hK.out _ _ trivial (fun hHeld => ?_)
               clear hK K
               refine norm_ (a' := ?_) ?_ ?_
               rotate_left
               ·show Act.put _ (some 38) _ = _
                simp only [Act.put, pB, pC, pD, i64_w, i32_w]
                rfl
               exact norm_ (by simp only [putAll, Act.put, pB, pC, pD]) (hCont (v281, v288, v291) _ ⟨(by (with_reducible repeat (first | apply Kd.R_alloc | apply Kd.R_drewN | apply Kd.R_drew)); exact Kd.R_mono HO289.out (fun _ hk => ⟨hk.2, hk.1⟩)), (by (with_reducible repeat (first | apply Kd.R_alloc | apply Kd.R_drewN | apply Kd.R_drew)); exact Kd.R_mono HO292.out (fun _ hk => ⟨hk.2, hk.1.2⟩)), (by (with_reducible repeat (first | apply Kd.R_alloc | apply Kd.R_drewN | apply Kd.R_drew)); exact Kd.R_mono HO_3.out (fun _ hk => ⟨hk.1.2, hk.2⟩)), (vB HB)⟩)
              ·skip
               refine Kd.R_lit_step (Kd.int .i64) _ 3 ?hg (N := 38) ?hd (xs := ([x4_1] : List Int)) (inner := [.int .i64 x4_1]) (ok := fun _ => True) (okp := fun _ => True) ?hr ?hp (fun _ hk => hk) trivial (Below.refl _ _) (Nat.le_refl _) (by simp) ?_; (case hd => rfl); (case hg => rfl); (case hr => first | (go_simp; done) | (go_simp; rfl)); (case hp => exact (Reps.one (show Kd.M (Kd.int .i64) _ _ _ x4_1 [.int .i64 x4_1] from rfl) (Reps.none _ _)))
               intro v291 w50 ho51 hb hg_ hnew_
               clear hg_ hnew_
               (first | rw [← Ny290.out] at ho51 | (simp only [Int.reduceToNat] at ho51; rw [← Ny290.out] at ho51))
               have n0_ := pA (Kd.R_elder' (vR HO_3) (Kd.R_base ho51) hb)
               have n1_ := pA (Kd.R_elder' (vR HO282) (Kd.R_base ho51) hb)
               have n2_ := pA (Kd.R_lower (Kd.R_new' (Kd.R_new' ho51 (Kd.R_lt (vR HO_3))) (Kd.R_lt (vR HO282))) (below_size (vB HB)))
               have n3_ := pA (Kd.C_below (by repeat (first | (with_reducible exact HR286.out) | (with_reducible refine Kd.C_alloc ?_ _) | (with_reducible refine Kd.C_drewN ?_ _) | (with_reducible refine Kd.C_drew ?_) | exact HR286.out)) hb)
               have n4_ := pA (Kd.C_below (by repeat (first | (with_reducible exact HR299.out) | (with_reducible refine Kd.C_alloc ?_ _) | (with_reducible refine Kd.C_drewN ?_ _) | (with_reducible refine Kd.C_drew ?_) | exact HR299.out)) hb)
               have n5_ := pA (below_step (vB HB) hb)
               clear HO_3
               clear HO282
               clear HR286
               clear HR299
               clear HB
               have HO_3 := n0_
               have HO282 := n1_
               have HO292 := n2_
               have HR286 := n3_
               have HR299 := n4_
               have HB := n5_
               clear n0_ n1_ n2_ n3_ n4_ n5_
               clear hb ho51
               refine hK.out _ _ trivial (fun hHeld => ?_)
               clear hK K
               refine norm_ (a' := ?_) ?_ ?_
               rotate_left
               ·show Act.put _ (some 38) _ = _
                simp only [Act.put, pB, pC, pD, i64_w, i32_w]
                rfl
               refine one_ (i := 4) (N := some 36) #[true, true, true, true, true, true, true, false, true, true, true, false, false] rfl rfl (one_of HT_.out (by kernel_rfl)) (by decide) (fun K hK => ?_)
               refine Kd.R_append_rows_step (Kd.int .i64) (w0 := w) w.heap.size (by rfl) (.tmp 32) (.tmp 35) 38 3 (.int .i64 0) 8 rfl Try.underlying38 info3 rfl (by decide) (by omega) v281 y280 y283 _ _ _ (fun k_ => some k_ ≠ (.slice Ao44 x3_1.length co44 : Value).ownBlock ∧ some k_ ≠ (v291 : Value).ownBlock) (fun _ => False) rfl rfl ?aO ?aR (fun _ _ h => h) (fun _ h => h.elim) ?aF ?aB ?aS ?aL ?_
               (case aR => repeat (first | exact (by repeat (first | (with_reducible exact HR286.out) | (with_reducible refine Kd.C_alloc ?_ _) | (with_reducible refine Kd.C_drewN ?_ _) | (with_reducible refine Kd.C_drew ?_) | exact HR286.out)) | (with_reducible refine Kd.C_alloc ?_ _) | (with_reducible refine Kd.C_drewN ?_ _) | (with_reducible refine Kd.C_drew ?_)))
               (case aB => exact (vB HB))
               (case aF => exact (fun k_ hk => ⟨Kd.fresh' (Kd.R_lt (vR HO_3)) k_ hk, Kd.fresh' (Kd.R_lt (vR HO292)) k_ hk⟩))
               (case aO => exact (by (with_reducible repeat (first | apply Kd.R_alloc | apply Kd.R_drewN | apply Kd.R_drew)); exact Kd.R_mono HO282.out (fun _ hk => ⟨hk.1.2, hk.2⟩)))
               (case aS => exact (below_size (vB HB)))
               (case aL => have := LMc38.out; omega)
               intro v288 w52 ho hb hg hat
               rw [← Ny287.out] at ho
               have n0_ := pA (Kd.R_after (ok := (fun k_ => some k_ ≠ (v291 : Value).ownBlock)) (by (with_reducible repeat (first | apply Kd.R_alloc | apply Kd.R_drewN | apply Kd.R_drew)); exact Kd.R_mono HO_3.out (fun _ hk => ⟨hk.2, hk.1.2⟩)) hg hat)
               have n1_ := pA (Kd.R_after (ok := (fun k_ => some k_ ≠ (.slice Ao44 x3_1.length co44 : Value).ownBlock)) (by (with_reducible repeat (first | apply Kd.R_alloc | apply Kd.R_drewN | apply Kd.R_drew)); exact Kd.R_mono HO292.out (fun _ hk => ⟨hk.1.2, hk.2⟩)) hg hat)
               have n2_ := pA (hb)
               have n3_ := pA ((show Kd.C (Kd.int .i64) w52 Ao44 y283.length y283 from by rw [Ny283.out]; exact Kd.C_take (m := (x5_2 : Int).toNat) ((Kd.R_reads' (Kd.R_after (ok := (fun k_ => some k_ ≠ (v291 : Value).ownBlock)) (by (with_reducible repeat (first | apply Kd.R_alloc | apply Kd.R_drewN | apply Kd.R_drew)); exact Kd.R_mono HO_3.out (fun _ hk => ⟨hk.2, hk.1.2⟩)) hg hat)).2.2) KL46.out))
               have n4_ := pA ((show Kd.C (Kd.int .i64) w52 A47 y296.length y296 from by rw [Ny296.out, KA47.out]; exact Kd.C_drop (m := (x5_2 : Int).toNat) (c := co44) ((Kd.R_reads' (Kd.R_after (ok := (fun k_ => some k_ ≠ (v291 : Value).ownBlock)) (by (with_reducible repeat (first | apply Kd.R_alloc | apply Kd.R_drewN | apply Kd.R_drew)); exact Kd.R_mono HO_3.out (fun _ hk => ⟨hk.2, hk.1.2⟩)) hg hat)).2.2) KL47.out ((Kd.R_reads' (Kd.R_after (ok := (fun k_ => some k_ ≠ (v291 : Value).ownBlock)) (by (with_reducible repeat (first | apply Kd.R_alloc | apply Kd.R_drewN | apply Kd.R_drew)); exact Kd.R_mono HO_3.out (fun _ hk => ⟨hk.2, hk.1.2⟩)) hg hat)).2.1)))
               have n5_ := pA (ho)
               clear HO_3
               clear HO292
               clear HB
               clear HR286
               clear HR299
               clear HO282
               have HO_3 := n0_
               have HO292 := n1_
               have HB := n2_
               have HR286 := n3_
               have HR299 := n4_
               have HO289 := n5_
               clear n0_ n1_ n2_ n3_ n4_ n5_
               clear ho hb hg hat
               refine hK.out _ _ trivial (fun hHeld => ?_)
               clear hK K
               refine norm_ (a' := ?_) ?_ ?_
               rotate_left
               ·show Act.put _ (some 36) _ = _
                simp only [Act.put, pB, pC, pD, i64_w, i32_w]
                rfl
               exact norm_ (by simp only [putAll, Act.put, pB, pC, pD]) (hCont (v281, v288, v291) _ ⟨(by (with_reducible repeat (first | apply Kd.R_alloc | apply Kd.R_drewN | apply Kd.R_drew)); exact Kd.R_mono HO289.out (fun _ hk => ⟨hk.2, hk.1⟩)), (by (with_reducible repeat (first | apply Kd.R_alloc | apply Kd.R_drewN | apply Kd.R_drew)); exact Kd.R_mono HO292.out (fun _ hk => ⟨hk.2, hk.1⟩)), (by (with_reducible repeat (first | apply Kd.R_alloc | apply Kd.R_drewN | apply Kd.R_drew)); exact Kd.R_mono HO_3.out (fun _ hk => ⟨hk.2, hk.1⟩)), (vB HB)⟩)
             ·skip
              refine Kd.R_lit_step (Kd.int .i64) _ 3 ?hg (N := 38) ?hd (xs := ([x4_1] : List Int)) (inner := [.int .i64 x4_1]) (ok := fun _ => True) (okp := fun _ => True) ?hr ?hp (fun _ hk => hk) trivial (Below.refl _ _) (Nat.le_refl _) (by simp) ?_; (case hd => rfl); (case hg => rfl); (case hr => first | (go_simp; done) | (go_simp; rfl)); (case hp => exact (Reps.one (show Kd.M (Kd.int .i64) _ _ _ x4_1 [.int .i64 x4_1] from rfl) (Reps.none _ _)))
              intro v291 w48 ho49 hb hg_ hnew_
              clear hg_ hnew_
              (first | rw [← Ny290.out] at ho49 | (simp only [Int.reduceToNat] at ho49; rw [← Ny290.out] at ho49))
              have n0_ := pA (Kd.R_elder' (vR HO_3) (Kd.R_base ho49) hb)
              have n1_ := pA (Kd.R_lower (Kd.R_new' ho49 (Kd.R_lt (vR HO_3))) (below_size (vB HB)))
              have n2_ := pA (Kd.C_below (by repeat (first | (with_reducible exact HR286.out) | (with_reducible refine Kd.C_alloc ?_ _) | (with_reducible refine Kd.C_drewN ?_ _) | (with_reducible refine Kd.C_drew ?_) | exact HR286.out)) hb)
              have n3_ := pA (Kd.C_below (by repeat (first | (with_reducible exact HR299.out) | (with_reducible refine Kd.C_alloc ?_ _) | (with_reducible refine Kd.C_drewN ?_ _) | (with_reducible refine Kd.C_drew ?_) | exact HR299.out)) hb)
              have n4_ := pA (below_step (vB HB) hb)
              clear HO_3
              clear HR286
              clear HR299
              clear HB
              have HO_3 := n0_
              have HO292 := n1_
              have HR286 := n2_
              have HR299 := n3_
              have HB := n4_
              clear n0_ n1_ n2_ n3_ n4_
              clear hb ho49
              refine hK.out _ _ trivial (fun hHeld => ?_)
              clear hK K
              refine norm_ (a' := ?_) ?_ ?_
              rotate_left
              ·show Act.put _ (some 38) _ = _
               simp only [Act.put, pB, pC, pD, i64_w, i32_w]
               rfl
              refine one_ (i := 0) (N := some 32) #[true, true, true, true, false, true, true, false, true, true, true, false, false] rfl rfl (one_of HT_.out (by kernel_rfl)) (by decide) (fun K hK => ?_)
              refine Kd.R_lit_step (Kd.int .i64) _ 3 ?hg (N := 32) ?hd (xs := ([] : List Int)) (inner := []) (ok := fun _ => True) (okp := fun _ => True) ?hr ?hp (fun _ hk => hk) trivial (Below.refl _ _) (Nat.le_refl _) (by simp) ?_; (case hd => rfl); (case hg => rfl); (case hr => first | (go_simp; done) | (go_simp; rfl)); (case hp => exact (Reps.none _ _))
              intro v281 w50 ho51 hb hg_ hnew_
              clear hg_ hnew_
              (first | rw [← Ny280.out] at ho51 | (simp only [Int.reduceToNat] at ho51; rw [← Ny280.out] at ho51))
              have n0_ := pA (Kd.R_elder' (vR HO_3) (Kd.R_base ho51) hb)
              have n1_ := pA (Kd.R_elder' (vR HO292) (Kd.R_base ho51) hb)
              have n2_ := pA (Kd.R_lower (Kd.R_new' (Kd.R_new' ho51 (Kd.R_lt (vR HO_3))) (Kd.R_lt (vR HO292))) (below_size (vB HB)))
              have n3_ := pA (Kd.C_below (by repeat (first | (with_reducible exact HR286.out) | (with_reducible refine Kd.C_alloc ?_ _) | (with_reducible refine Kd.C_drewN ?_ _) | (with_reducible refine Kd.C_drew ?_) | exact HR286.out)) hb)
              have n4_ := pA (Kd.C_below (by repeat (first | (with_reducible exact HR299.out) | (with_reducible refine Kd.C_alloc ?_ _) | (with_reducible refine Kd.C_drewN ?_ _) | (with_reducible refine Kd.C_drew ?_) | exact HR299.out)) hb)
              have n5_ := pA (below_step (vB HB) hb)
              clear HO_3
              clear HO292
              clear HR286
              clear HR299
              clear HB
              have HO_3 := n0_
              have HO292 := n1_
              have HO282 := n2_
              have HR286 := n3_
              have HR299 := n4_
              have HB := n5_
              clear n0_ n1_ n2_ n3_ n4_ n5_
              clear hb ho51
              refine hK.out _ _ trivial (fun hHeld => ?_)
              clear hK K
              refine norm_ (a' := ?_) ?_ ?_
              rotate_left
              ·show Act.put _ (some 32) _ = _
               simp only [Act.put, pB, pC, pD, i64_w, i32_w]
               rfl
              refine one_ (i := 4) (N := some 36) #[true, true, true, true, true, true, true, false, true, true, true, false, false] rfl rfl (one_of HT_.out (by kernel_rfl)) (by decide) (fun K hK => ?_)
              refine Kd.R_append_rows_step (Kd.int .i64) (w0 := w) w.heap.size (by rfl) (.tmp 32) (.tmp 35) 38 3 (.int .i64 0) 8 rfl Try.underlying38 info3 rfl (by decide) (by omega) v281 y280 y283 _ _ _ (fun k_ => some k_ ≠ (.slice Ao44 x3_1.length co44 : Value).ownBlock ∧ some k_ ≠ (v291 : Value).ownBlock) (fun _ => False) rfl rfl ?aO ?aR (fun _ _ h => h) (fun _ h => h.elim) ?aF ?aB ?aS ?aL ?_
              (case aR => repeat (first | exact (by repeat (first | (with_reducible exact HR286.out) | (with_reducible refine Kd.C_alloc ?_ _) | (with_reducible refine Kd.C_drewN ?_ _) | (with_reducible refine Kd.C_drew ?_) | exact HR286.out)) | (with_reducible refine Kd.C_alloc ?_ _) | (with_reducible refine Kd.C_drewN ?_ _) | (with_reducible refine Kd.C_drew ?_)))
              (case aB => exact (vB HB))
              (case aF => exact (fun k_ hk => ⟨Kd.fresh' (Kd.R_lt (vR HO_3)) k_ hk, Kd.fresh' (Kd.R_lt (vR HO292)) k_ hk⟩))
              (case aO => exact (by (with_reducible repeat (first | apply Kd.R_alloc | apply Kd.R_drewN | apply Kd.R_drew)); exact Kd.R_mono HO282.out (fun _ hk => ⟨hk.1.2, hk.2⟩)))
              (case aS => exact (below_size (vB HB)))
              (case aL => have := LMc38.out; omega)
              intro v288 w52 ho hb hg hat
              rw [← Ny287.out] at ho
              have n0_ := pA (Kd.R_after (ok := (fun k_ => some k_ ≠ (v291 : Value).ownBlock)) (by (with_reducible repeat (first | apply Kd.R_alloc | apply Kd.R_drewN | apply Kd.R_drew)); exact Kd.R_mono HO_3.out (fun _ hk => ⟨hk.1.2, hk.2⟩)) hg hat)
              have n1_ := pA (Kd.R_after (ok := (fun k_ => some k_ ≠ (.slice Ao44 x3_1.length co44 : Value).ownBlock)) (by (with_reducible repeat (first | apply Kd.R_alloc | apply Kd.R_drewN | apply Kd.R_drew)); exact Kd.R_mono HO292.out (fun _ hk => ⟨hk.1.2, hk.2⟩)) hg hat)
              have n2_ := pA (hb)
              have n3_ := pA ((show Kd.C (Kd.int .i64) w52 Ao44 y283.length y283 from by rw [Ny283.out]; exact Kd.C_take (m := (x5_2 : Int).toNat) ((Kd.R_reads' (Kd.R_after (ok := (fun k_ => some k_ ≠ (v291 : Value).ownBlock)) (by (with_reducible repeat (first | apply Kd.R_alloc | apply Kd.R_drewN | apply Kd.R_drew)); exact Kd.R_mono HO_3.out (fun _ hk => ⟨hk.1.2, hk.2⟩)) hg hat)).2.2) KL46.out))
              have n4_ := pA ((show Kd.C (Kd.int .i64) w52 A47 y296.length y296 from by rw [Ny296.out, KA47.out]; exact Kd.C_drop (m := (x5_2 : Int).toNat) (c := co44) ((Kd.R_reads' (Kd.R_after (ok := (fun k_ => some k_ ≠ (v291 : Value).ownBlock)) (by (with_reducible repeat (first | apply Kd.R_alloc | apply Kd.R_drewN | apply Kd.R_drew)); exact Kd.R_mono HO_3.out (fun _ hk => ⟨hk.1.2, hk.2⟩)) hg hat)).2.2) KL47.out ((Kd.R_reads' (Kd.R_after (ok := (fun k_ => some k_ ≠ (v291 : Value).ownBlock)) (by (with_reducible repeat (first | apply Kd.R_alloc | apply Kd.R_drewN | apply Kd.R_drew)); exact Kd.R_mono HO_3.out (fun _ hk => ⟨hk.1.2, hk.2⟩)) hg hat)).2.1)))
              have n5_ := pA (ho)
              clear HO_3
              clear HO292
              clear HB
              clear HR286
              clear HR299
              clear HO282
              have HO_3 := n0_
              have HO292 := n1_
              have HB := n2_
              have HR286 := n3_
              have HR299 := n4_
              have HO289 := n5_
              clear n0_ n1_ n2_ n3_ n4_ n5_
              clear ho hb hg hat
              refine hK.out _ _ trivial (fun hHeld => ?_)
              clear hK K
              refine norm_ (a' := ?_) ?_ ?_
              rotate_left
              ·show Act.put _ (some 36) _ = _
               simp only [Act.put, pB, pC, pD, i64_w, i32_w]
               rfl
              exact norm_ (by simp only [putAll, Act.put, pB, pC, pD]) (hCont (v281, v288, v291) _ ⟨(by (with_reducible repeat (first | apply Kd.R_alloc | apply Kd.R_drewN | apply Kd.R_drew)); exact Kd.R_mono HO289.out (fun _ hk => ⟨hk.2, hk.1⟩)), (by (with_reducible repeat (first | apply Kd.R_alloc | apply Kd.R_drewN | apply Kd.R_drew)); exact Kd.R_mono HO292.out (fun _ hk => ⟨hk.2, hk.1⟩)), (by (with_reducible repeat (first | apply Kd.R_alloc | apply Kd.R_drewN | apply Kd.R_drew)); exact Kd.R_mono HO_3.out (fun _ hk => ⟨hk.2, hk.1⟩)), (vB HB)⟩)
            rintro ⟨v281, v288, v291⟩ w53 ⟨h0_, h1_, h2_, h3_⟩
            have n0_ : Aside0 (Kd.R (Kd.int .i64) 3 w53 w.heap.size (fun k_ => some k_ ≠ (v291 : Value).ownBlock ∧ some k_ ≠ (.slice Ao44 x3_1.length co44 : Value).ownBlock) v288 y287) := ⟨h0_⟩
            have n1_ : Aside0 (Kd.R (Kd.int .i64) 3 w53 w.heap.size (fun k_ => some k_ ≠ (v288 : Value).ownBlock ∧ some k_ ≠ (.slice Ao44 x3_1.length co44 : Value).ownBlock) v291 y290) := ⟨h1_⟩
            have n2_ : Aside0 (Kd.R (Kd.int .i64) 3 w53 w.heap.size (fun k_ => some k_ ≠ (v288 : Value).ownBlock ∧ some k_ ≠ (v291 : Value).ownBlock) (.slice Ao44 x3_1.length co44) x3_1) := ⟨h2_⟩
            have n3_ : Aside0 (Below w.heap.size w w53) := ⟨h3_⟩
            clear HO_3
            clear HB
            clear h0_ h1_ h2_ h3_
            have HO289 := n0_
            have HO292 := n1_
            have HO_3 := n2_
            have HB := n3_
            clear n0_ n1_ n2_ n3_
            have hHeld := trivial
            obtain ⟨Ao55, co55, eo55⟩ := Kd.R_slice HO292.out
            (first | subst eo55 | (injection eo55 with f1_ f2_ f3_; have f4_ := f1_.symm; have f5_ := f3_.symm; clear f1_ f2_ f3_; subst f4_; subst f5_))
            refine norm_ (a' := ?_) ?_ ?_
            rotate_left
            ·simp only [putAll, Act.put, pB, pC, pD]
             rfl
            refine one_ (i := 7) (N := some 39) #[true, true, true, true, true, true, true, true, true, true, true, false, false] rfl rfl (one_of HT_.out (by kernel_rfl)) (by decide) (fun K hK => ?_)
            refine Kd.R_append_rows_step (Kd.int .i64) (w0 := w) w.heap.size (by rfl) (.tmp 36) (.tmp 38) 38 3 (.int .i64 0) 8 rfl Try.underlying38 info3 rfl (by decide) (by omega) v288 y287 y290 _ _ _ (fun k_ => some k_ ≠ (.slice Ao44 x3_1.length co44 : Value).ownBlock ∧ some k_ ≠ (.slice Ao55 y290.length co55 : Value).ownBlock) (fun _ => False) rfl rfl ?aO ?aR (fun _ _ h => h) (fun _ h => h.elim) ?aF ?aB ?aS ?aL ?_
            (case aR => repeat (first | exact (Kd.R_reads' HO292.out).2.2 | (with_reducible refine Kd.C_alloc ?_ _) | (with_reducible refine Kd.C_drewN ?_ _) | (with_reducible refine Kd.C_drew ?_)))
            (case aB => exact (vB HB))
            (case aF => exact (fun k_ hk => ⟨Kd.fresh' (Kd.R_lt (vR HO_3)) k_ hk, Kd.fresh' (Kd.R_lt (vR HO292)) k_ hk⟩))
            (case aO => exact (by (with_reducible repeat (first | apply Kd.R_alloc | apply Kd.R_drewN | apply Kd.R_drew)); exact Kd.R_mono HO289.out (fun _ hk => ⟨hk.2, hk.1⟩)))
            (case aS => exact (below_size (vB HB)))
            (case aL => have := LMc39.out; omega)
            intro v294 w54 ho hb hg hat
            rw [← Ny293.out] at ho
            have n0_ := pA (Kd.R_after (ok := (fun k_ => some k_ ≠ (.slice Ao55 y290.length co55 : Value).ownBlock)) (by (with_reducible repeat (first | apply Kd.R_alloc | apply Kd.R_drewN | apply Kd.R_drew)); exact Kd.R_mono HO_3.out (fun _ hk => ⟨hk.2, hk.1⟩)) hg hat)
            have n1_ := pA (Kd.R_after (ok := (fun k_ => some k_ ≠ (.slice Ao44 x3_1.length co44 : Value).ownBlock)) (by (with_reducible repeat (first | apply Kd.R_alloc | apply Kd.R_drewN | apply Kd.R_drew)); exact Kd.R_mono HO292.out (fun _ hk => ⟨hk.2, hk.1⟩)) hg hat)
            have n2_ := pA (hb)
            have n3_ := pA (ho)
            clear HO_3
            clear HO292
            clear HB
            clear HO289
            have HO_3 := n0_
            have HO292 := n1_
            have HB := n2_
            have HO295 := n3_
            clear n0_ n1_ n2_ n3_
            clear ho hb hg hat
            refine hK.out _ _ trivial (fun hHeld => ?_)
            clear hK K
            refine norm_ (a' := ?_) ?_ ?_
            rotate_left
            ·show Act.put _ (some 39) _ = _
             simp only [Act.put, pB, pC, pD, i64_w, i32_w]
             rfl
            refine one_ (i := 11) (N := some 43) #[true, true, true, true, true, true, true, true, true, true, true, true, false] rfl rfl (one_of HT_.out (by kernel_rfl)) (by decide) (fun K hK => ?_)
            refine Kd.R_append_rows_step (Kd.int .i64) (w0 := w) w.heap.size (by rfl) (.tmp 39) (.tmp 42) 38 3 (.int .i64 0) 8 rfl Try.underlying38 info3 rfl (by decide) (by omega) v294 y293 y296 _ _ _ (fun k_ => some k_ ≠ (.slice Ao44 x3_1.length co44 : Value).ownBlock ∧ some k_ ≠ (.slice Ao55 y290.length co55 : Value).ownBlock) (fun _ => False) rfl rfl ?aO ?aR (fun _ _ h => h) (fun _ h => h.elim) ?aF ?aB ?aS ?aL ?_
            (case aR => repeat (first | exact (show Kd.C (Kd.int .i64) _ A47 y296.length y296 from by rw [Ny296.out, KA47.out]; exact Kd.C_drop (m := (x5_2 : Int).toNat) (c := co44) (Kd.R_reads' HO_3.out).2.2 KL47.out (Kd.R_reads' HO_3.out).2.1) | (with_reducible refine Kd.C_alloc ?_ _) | (with_reducible refine Kd.C_drewN ?_ _) | (with_reducible refine Kd.C_drew ?_)))
            (case aB => exact (vB HB))
            (case aF => exact (fun k_ hk => ⟨Kd.fresh' (Kd.R_lt (vR HO_3)) k_ hk, Kd.fresh' (Kd.R_lt (vR HO292)) k_ hk⟩))
            (case aO => exact (vR HO295))
            (case aS => exact (below_size (vB HB)))
            (case aL => have := LMc42.out; omega)
            intro v301 w56 ho hb hg hat
            rw [← Ny300.out] at ho
            have n0_ := pA (Kd.R_after (ok := (fun k_ => some k_ ≠ (.slice Ao55 y290.length co55 : Value).ownBlock)) (vR HO_3) hg hat)
            have n1_ := pA (Kd.R_after (ok := (fun k_ => some k_ ≠ (.slice Ao44 x3_1.length co44 : Value).ownBlock)) (vR HO292) hg hat)
            have n2_ := pA (hb)
            have n3_ := pA (ho)
            clear HO_3
            clear HO292
            clear HB
            clear HO295
            have HO_3 := n0_
            have HO292 := n1_
            have HB := n2_
            have HO302 := n3_
            clear n0_ n1_ n2_ n3_
            clear ho hb hg hat
            refine hK.out _ _ trivial (fun hHeld => ?_)
            clear hK K
            refine norm_ (a' := ?_) ?_ ?_
            rotate_left
            ·show Act.put _ (some 43) _ = _
             simp only [Act.put, pB, pC, pD, i64_w, i32_w]
             rfl
            refine pure_ (i := 12) (N := some 3) (v := ?_) (a' := ?_) #[true, true, true, true, true, true, true, true, true, true, true, true, true] rfl rfl (any_of HT_.out (by kernel_rfl)) (fun _ _ _ h => h) (Or.inl ⟨by rfl, ?_⟩) ?_ ?_
            rotate_left
            ·intro w'
             go_simp
             with_reducible rfl
            rotate_left
            ·simp only [Act.put, pB, pC, pD, i64_w, i32_w]
             rfl
            refine done_ (done_of HT_.out (by kernel_rfl)) ?_
            try go_wp2
            go_roundg k2
            case measure => have := HK1.out; have := HK2.out; omega
            case rel => exact ⟨(y300), (wrap64 (x4_1 + 1)), (by first | rfl | (simp; done) | (simp [*]; done)), H', ⟨by have := HK1.out; have := HK2.out; omega⟩, ⟨by (with_reducible repeat (first | apply Kd.R_alloc | apply Kd.R_drewN | apply Kd.R_drew)); exact Kd.R_mono HO302.out (fun _ hk => trivial)⟩, ⟨by repeat (first | (with_reducible first | exact HB.out | apply below_alloc | apply pw_below_drewN | apply below_drew1) | exact HB.out)⟩⟩
           ·rw [if_neg c42] at H
            exact absurd H (by simp)
          ·rw [if_neg c39] at H
           exact absurd H (by simp)
         ·rw [if_neg c38] at H
          exact absurd H (by simp)
        ·rw [if_neg c37] at H
         exact absurd H (by simp)
       ·rw [if_neg c36] at H
        exact absurd H (by simp)
   ·rw [if_neg c2] at H
    have c2b0 : decide (x4_1 < (l0.length : Int)) = false := decide_eq_false c2
    clear c2
    obtain rfl := Option.some.inj H
    go_wp2
    go_ret
    exact ⟨_, by first | rfl | (simp [errW_none, errW_some] <;> rfl) | (simp [*, errW_none, errW_some] <;> rfl), by (with_reducible repeat (first | apply Kd.R_alloc | apply Kd.R_drewN | apply Kd.R_drew)); exact HO_3.out, by repeat (first | (with_reducible first | exact HB.out | apply below_alloc | apply pw_below_drewN | apply below_drew1) | exact HB.out)⟩
end Go.Proofs.Ytbiakjgjedhjhaa.P
