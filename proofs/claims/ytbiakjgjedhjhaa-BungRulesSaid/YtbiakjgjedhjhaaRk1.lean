/- Proved: the law BungRules of the program potbank answers true for every input, and leaves its arguments as they were. Conditions: none. (Part 1 of the texts, put together by wip/assemble.py of this repository.) -/
import Derived.Test.YtbiakjgjedhjhaaRk0
set_option linter.unusedVariables false
set_option linter.unusedSimpArgs false
namespace Go.Proofs.Ytbiakjgjedhjhaa.P
open Go.RowKit Go.Proofs.YtbiakjgjedhjhaaW.PrintWords Go.Proofs.YtbiakjgjedhjhaaW.PrintLast
set_option maxHeartbeats 8000000 in
set_option maxRecDepth 100000 in
theorem potbankref03_CheckList.calls (k : Nat) (A0 : Option Addr) (c0 : Nat) (l0 : List (S52)) (r : Int) (w : World) (hr0 : Kd.C k52 w A0 l0.length l0) (hc0 : l0.length ≤ c0) (h : potbankref03_CheckList.f k l0 = some r) :
  Calls Try.prog 50 #[.slice A0 l0.length c0] w fun e w' => e = .returned (.int .i64 r) ∧ Below w.heap.size w w' := by
 have hu52 := Try.underlying52
 have HR0 := pA hr0
 have HC0 := pA hc0
 clear hr0 hc0
 have HB := pA (Below.refl w.heap.size w)
 have H : (if (l0.length : Int) > 30 then (some 30) else (potbankref03_CheckList.l0 k l0 0)) = some r := h
 clear h
 by_cases c2 : (l0.length : Int) > 30
 ·rw [if_pos c2] at H
  have c2b0 : decide (30 < (l0.length : Int)) = true := decide_eq_true c2
  have c2b1 : decide (30 < l0.length) = true := decide_eq_true (by omega)
  clear c2
  obtain rfl := Option.some.inj H
  go_enter Try.func50, Try.ntmps50
  go_wp2
  go_ret
  exact ⟨by first | rfl | (simp [errW_none, errW_some] <;> rfl) | (simp [*, errW_none, errW_some] <;> rfl), by repeat (first | (with_reducible first | exact HB.out | apply below_alloc | apply pw_below_drewN | apply below_drew1) | exact HB.out)⟩
 ·rw [if_neg c2] at H
  have c2b0 : decide (30 < (l0.length : Int)) = false := decide_eq_false c2
  have c2b1 : decide (30 < l0.length) = false := decide_eq_false (by omega)
  clear c2
  have H' := pA H
  clear H
  go_enter Try.func50, Try.ntmps50
  go_wp2
  go_loopg [3] k (fun kq v3 w' => ∃ (x3_1 : Int), v3 = .int .i64 x3_1 ∧ Aside0 (potbankref03_CheckList.l0 kq l0 x3_1 = some r) ∧ Aside0 (kq ≤ k) ∧ Aside0 (Below w.heap.size w w'))
  case atStart => exact ⟨(0), (by first | rfl | (simp; done) | (simp [*]; done)), H', ⟨Nat.le_refl _⟩, ⟨by repeat (first | (with_reducible first | exact HB.out | apply below_alloc | apply pw_below_drewN | apply below_drew1) | exact HB.out)⟩⟩
  case round =>
   clear H'
   try clear c2
   try clear c2b0
   try clear c2b1
   try clear p2
   obtain ⟨x3_1, rfl, HA, HK1, HB⟩ := hrel
   cases gk with
   | zero => exact absurd HA.out (by simp [potbankref03_CheckList.l0])
   | succ k1 =>
    have H := HA.out
    clear HA
    simp only [potbankref03_CheckList.l0] at H
    by_cases c3 : x3_1 < (l0.length : Int)
    ·rw [if_pos c3] at H
     have c3b0 : decide (x3_1 < (l0.length : Int)) = true := decide_eq_true c3
     clear c3
     by_cases c4 : 0 ≤ x3_1
     ·rw [if_pos c4] at H
      have c4b0 : decide (0 ≤ x3_1) = true := decide_eq_true c4
      clear c4
      replace H := Option.bind_eq_some_iff.mp H
      obtain ⟨t227, A50, H⟩ := H
      replace H : (if t227 = 0 then (if x3_1 ≤ (l0.length : Int) then ((potbankref03_has.f k1 (l0.take (x3_1 : Int).toNat) ((rd_T52 l0 x3_1).f0)).bind fun t233 => (if t233 = true then (some 30) else (potbankref03_CheckList.l0 k1 l0 (wrap64 (x3_1 + 1))))) else (none)) else (some 30)) = some r := H
      have A5 := pA A50
      clear A50
      by_cases c6 : t227 = 0
      ·rw [if_pos c6] at H
       have c6b0 : (t227 == 0) = true := beq_iff_eq.mpr c6
       have c6b1 : (t227 != 0) = false := bne_eq_false_iff_eq.mpr c6
       clear c6
       have c7b0 := eq_true (of_decide_eq_true (by first | (with_reducible assumption) | assumption) : 0 ≤ x3_1)
       by_cases c8 : x3_1 ≤ (l0.length : Int)
       ·rw [if_pos c8] at H
        have c8b0 := eq_true c8
        have c8b1 : decide (x3_1 ≤ (l0.length : Int)) = true := decide_eq_true c8
        clear c8
        obtain ⟨y228, hy228⟩ : ∃ y_ : List (S52), y_ = (l0.take (x3_1 : Int).toNat) := ⟨_, rfl⟩
        replace H : ((potbankref03_has.f k1 y228 ((rd_T52 l0 x3_1).f0)).bind fun t233 => (if t233 = true then (some 30) else (potbankref03_CheckList.l0 k1 l0 (wrap64 (x3_1 + 1))))) = some r := by first | (rw [hy228]; with_reducible exact H) | (have H2_ := (Option.bind_some _ _).symm.trans H; rw [hy228]; with_reducible exact H2_) | (have H2_ := (Option.bind_some _ _).symm.trans H; with_reducible exact H2_) | with_reducible exact H | (rw [hy228]; exact H) | exact H
        have Ny228 := pA hy228
        clear hy228
        replace H := Option.bind_eq_some_iff.mp H
        obtain ⟨t233, A90, H⟩ := H
        replace H : (if t233 = true then (some 30) else (potbankref03_CheckList.l0 k1 l0 (wrap64 (x3_1 + 1)))) = some r := H
        have A9 := pA A90
        clear A90
        by_cases c10 : t233 = true
        ·subst c10
         have H1 : (some 30) = some r := by rw [if_pos rfl] at H; exact H
         clear H
         have H := H1
         clear H1
         obtain rfl := Option.some.inj H
         try go_wp2
         have n0_ := pA (below_drew1 HB.out)
         clear HB
         have HB := n0_
         clear n0_
         have p226 : 0 ≤ (x3_1 : Int) := of_decide_eq_true (by first | (with_reducible assumption) | assumption)
         have q226 : x3_1 < (l0.length : Int) := of_decide_eq_true (by first | (with_reducible assumption) | assumption)
         obtain ⟨ad226, e226, hx226_0, hx226_1, hx226_2, hx226_3, hx226_4, hx226_5, hx226_6, hx226_7⟩ := at_T52 HR0.out x3_1 p226 q226
         have hw226_7 := hx226_7
         have hw226_6 := hx226_6
         have hw226_5 := hx226_5
         have hw226_4 := hx226_4
         have hw226_3 := hx226_3
         have hw226_2 := hx226_2
         have hw226_1 := hx226_1
         have hw226_0 := hx226_0
         cases e226
         replace hx226_0 := vC HB hx226_0
         replace hx226_1 := vC HB hx226_1
         replace hx226_2 := vC HB hx226_2
         replace hx226_3 := vC HB hx226_3
         replace hx226_4 := vC HB hx226_4
         replace hx226_5 := vC HB hx226_5
         replace hx226_6 := vC HB hx226_6
         replace hx226_7 := vC HB hx226_7
         replace p226 := eq_true p226
         replace q226 := eq_true q226
         have p232 : 0 ≤ (x3_1 : Int) := of_decide_eq_true (by first | (with_reducible assumption) | assumption)
         have q232 : x3_1 < (l0.length : Int) := of_decide_eq_true (by first | (with_reducible assumption) | assumption)
         obtain ⟨ad232, e232, hx232_0, hx232_1, hx232_2, hx232_3, hx232_4, hx232_5, hx232_6, hx232_7⟩ := at_T52 HR0.out x3_1 p232 q232
         have hw232_7 := hx232_7
         have hw232_6 := hx232_6
         have hw232_5 := hx232_5
         have hw232_4 := hx232_4
         have hw232_3 := hx232_3
         have hw232_2 := hx232_2
         have hw232_1 := hx232_1
         have hw232_0 := hx232_0
         obtain rfl : ad226 = ad232 := (by injection e232)
         replace hx232_0 := vC HB hx232_0
         replace hx232_1 := vC HB hx232_1
         replace hx232_2 := vC HB hx232_2
         replace hx232_3 := vC HB hx232_3
         replace hx232_4 := vC HB hx232_4
         replace hx232_5 := vC HB hx232_5
         replace hx232_6 := vC HB hx232_6
         replace hx232_7 := vC HB hx232_7
         replace p232 := eq_true p232
         replace q232 := eq_true q232
         refine start_ (n := 17) (S := fun w' => w'.cell? (ad226.add ((x3_1).toNat * 8)) = some (.int .i64 ((rd_T52 l0 x3_1).f0)) ∧ w'.cell? ⟨(ad226.add ((x3_1).toNat * 8)).block, (ad226.add ((x3_1).toNat * 8)).off + 1, none⟩ = some (.int .i64 ((rd_T52 l0 x3_1).f1.f0)) ∧ w'.cell? ⟨(ad226.add ((x3_1).toNat * 8)).block, (ad226.add ((x3_1).toNat * 8)).off + 2, none⟩ = some (.int .i64 ((rd_T52 l0 x3_1).f1.f1)) ∧ w'.cell? ⟨(ad226.add ((x3_1).toNat * 8)).block, (ad226.add ((x3_1).toNat * 8)).off + 3, none⟩ = some (.int .i64 ((rd_T52 l0 x3_1).f2.f0)) ∧ w'.cell? ⟨(ad226.add ((x3_1).toNat * 8)).block, (ad226.add ((x3_1).toNat * 8)).off + 4, none⟩ = some (.int .i64 ((rd_T52 l0 x3_1).f2.f1)) ∧ w'.cell? ⟨(ad226.add ((x3_1).toNat * 8)).block, (ad226.add ((x3_1).toNat * 8)).off + 5, none⟩ = some (.int .i64 ((rd_T52 l0 x3_1).f3.f0)) ∧ w'.cell? ⟨(ad226.add ((x3_1).toNat * 8)).block, (ad226.add ((x3_1).toNat * 8)).off + 6, none⟩ = some (.int .i64 ((rd_T52 l0 x3_1).f3.f1)) ∧ w'.cell? ⟨(ad226.add ((x3_1).toNat * 8)).block, (ad226.add ((x3_1).toNat * 8)).off + 7, none⟩ = some (.int .i64 ((rd_T52 l0 x3_1).f4)) ∧ w'.cell? (ad226.add ((x3_1).toNat * 8)) = some (.int .i64 ((rd_T52 l0 x3_1).f0)) ∧ w'.cell? ⟨(ad226.add ((x3_1).toNat * 8)).block, (ad226.add ((x3_1).toNat * 8)).off + 1, none⟩ = some (.int .i64 ((rd_T52 l0 x3_1).f1.f0)) ∧ w'.cell? ⟨(ad226.add ((x3_1).toNat * 8)).block, (ad226.add ((x3_1).toNat * 8)).off + 2, none⟩ = some (.int .i64 ((rd_T52 l0 x3_1).f1.f1)) ∧ w'.cell? ⟨(ad226.add ((x3_1).toNat * 8)).block, (ad226.add ((x3_1).toNat * 8)).off + 3, none⟩ = some (.int .i64 ((rd_T52 l0 x3_1).f2.f0)) ∧ w'.cell? ⟨(ad226.add ((x3_1).toNat * 8)).block, (ad226.add ((x3_1).toNat * 8)).off + 4, none⟩ = some (.int .i64 ((rd_T52 l0 x3_1).f2.f1)) ∧ w'.cell? ⟨(ad226.add ((x3_1).toNat * 8)).block, (ad226.add ((x3_1).toNat * 8)).off + 5, none⟩ = some (.int .i64 ((rd_T52 l0 x3_1).f3.f0)) ∧ w'.cell? ⟨(ad226.add ((x3_1).toNat * 8)).block, (ad226.add ((x3_1).toNat * 8)).off + 6, none⟩ = some (.int .i64 ((rd_T52 l0 x3_1).f3.f1)) ∧ w'.cell? ⟨(ad226.add ((x3_1).toNat * 8)).block, (ad226.add ((x3_1).toNat * 8)).off + 7, none⟩ = some (.int .i64 ((rd_T52 l0 x3_1).f4))) (ds := []) #[false, false, false, false, false, false, false, false, false, false, false, false, false, false, false, false, false] (by kernel_rfl) rfl rfl ⟨(vD HB hw226_0), (vD HB hw226_1), (vD HB hw226_2), (vD HB hw226_3), (vD HB hw226_4), (vD HB hw226_5), (vD HB hw226_6), (vD HB hw226_7), (vD HB hw232_0), (vD HB hw232_1), (vD HB hw232_2), (vD HB hw232_3), (vD HB hw232_4), (vD HB hw232_5), (vD HB hw232_6), (vD HB hw232_7)⟩ (fun hHeld => ?_); refine with_tabW potbankref03_CheckList.tab6 potbankref03_CheckList.bits6 (fun HT_ HW_ => ?_)
         generalize wr.drew = w11 at HB hx226_0 hx226_1 hx226_2 hx226_3 hx226_4 hx226_5 hx226_6 hx226_7 hx232_0 hx232_1 hx232_2 hx232_3 hx232_4 hx232_5 hx232_6 hx232_7 hHeld ⊢
         refine pure_ (i := 0) (N := some 13) (v := ?_) (a' := ?_) #[true, false, false, false, false, false, false, false, false, false, false, false, false, false, false, false, false] rfl rfl (any_of HT_.out (by kernel_rfl)) (fun _ _ _ h => h) (Or.inl ⟨by rfl, ?_⟩) ?_ ?_
         rotate_left
         ·intro w'
          go_simp
          with_reducible rfl
         rotate_left
         ·simp only [Act.put, pB, pC, pD, i64_w, i32_w]
          rfl
         refine pure_ (i := 1) (N := some 14) (v := ?_) (a' := ?_) #[true, true, false, false, false, false, false, false, false, false, false, false, false, false, false, false, false] rfl rfl (any_of HT_.out (by kernel_rfl)) (fun _ _ _ h => h) (Or.inl ⟨by rfl, ?_⟩) ?_ ?_
         rotate_left
         ·intro w'
          go_simp
          with_reducible rfl
         rotate_left
         ·simp only [Act.put, pB, pC, pD, i64_w, i32_w]
          rfl
         refine pure_ (i := 2) (N := some 15) (v := ?_) (a' := ?_) #[true, true, true, false, false, false, false, false, false, false, false, false, false, false, false, false, false] rfl rfl (any_of HT_.out (by kernel_rfl)) (fun _ _ _ h => h) (Or.inl ⟨by rfl, ?_⟩) ?_ ?_
         rotate_left
         ·intro w'
          go_simp
          with_reducible rfl
         rotate_left
         ·simp only [Act.put, pB, pC, pD, i64_w, i32_w]
          rfl
         refine take_ (i := 3) (N := some 16) (v := ?_) (a' := ?_) #[true, true, true, true, false, false, false, false, false, false, false, false, false, false, false, false, false] rfl rfl (take_ofW HT_.out HW_.out (by kernel_rfl)) (fun _ _ _ h => h) (Or.inl ⟨by rfl, ?_⟩) hHeld ?_ ?_
         rotate_left
         ·rintro w' ⟨s0, s1, s2, s3, s4, s5, s6, s7, s8, s9, s10, s11, s12, s13, s14, s15⟩
          go_simp
          with_reducible rfl
         rotate_left
         ·simp only [Act.put, pB, pC, pD, i64_w, i32_w]
          rfl
         refine one_ (i := 4) (N := some 17) #[true, true, true, true, true, false, false, false, false, false, false, false, false, false, false, false, false] rfl rfl (one_of HT_.out (by kernel_rfl)) (by decide) (fun K hK => ?_)
         refine goes_ Try.func46 (by kernel_rfl) rfl #[.agg #[.int .i64 ((rd_T52 l0 x3_1).f0), .int .i64 ((rd_T52 l0 x3_1).f1.f0), .int .i64 ((rd_T52 l0 x3_1).f1.f1), .int .i64 ((rd_T52 l0 x3_1).f2.f0), .int .i64 ((rd_T52 l0 x3_1).f2.f1), .int .i64 ((rd_T52 l0 x3_1).f3.f0), .int .i64 ((rd_T52 l0 x3_1).f3.f1), .int .i64 ((rd_T52 l0 x3_1).f4)]] (by rfl) rfl rfl (by (try simp only [pE, pF, pG]); first | done | rfl | (simp only [pH, pI]; rfl)) ?_
         with_reducible refine (potbankref03_CheckSaggar.calls ((rd_T52 l0 x3_1).f0) ((rd_T52 l0 x3_1).f1.f0) ((rd_T52 l0 x3_1).f1.f1) ((rd_T52 l0 x3_1).f2.f0) ((rd_T52 l0 x3_1).f2.f1) ((rd_T52 l0 x3_1).f3.f0) ((rd_T52 l0 x3_1).f3.f1) ((rd_T52 l0 x3_1).f4) t227 _ A5.out).mono ?_
         rintro e w12 ⟨rfl, hb⟩
         refine ⟨_, rfl, ?_⟩
         have n0_ := pA (below_step (vB HB) hb)
         clear HB
         have HB := n0_
         clear n0_
         (try clear hb)
         (try clear hb2)
         (try clear hk)
         (try clear hi)
         have q13 : (x3_1 : Int) ≤ ((l0.length : Int) : Int) := of_decide_eq_true (by first | (with_reducible assumption) | assumption)
         obtain ⟨i013, hi013, _, hsz13, _⟩ := info_parts info52
         have hroom13 : l0.length ≤ c0 := HC0.out
         have hC13 : Kd.C k52 _ (some ad226) l0.length l0 := HR0.out
         have hcut13 := cut_to (P := Try.prog) 24 52 .i64 Try.underlying24 hi013 (some ad226) l0.length c0 x3_1 (of_decide_eq_true (by first | (with_reducible assumption) | assumption)) q13 hroom13
         have hr13 := Kd.C_take (m := (x3_1 : Int).toNat) hC13 (by omega)
         have hy13 : y228.length = (x3_1 : Int).toNat := (by rw [Ny228.out, List.length_take]; omega)
         rw [← Ny228.out] at hr13
         rw [← hy13] at hcut13
         have HR231 := pA hr13
         have HC231 := pA (show y228.length ≤ c0 from by omega)
         clear hr13 hC13 hroom13 hi013 hsz13
         have KY13 := pA hy13
         clear hy13
         replace q13 := eq_true q13
         refine hK.out _ _ ⟨(vD HB hw226_0), (vD HB hw226_1), (vD HB hw226_2), (vD HB hw226_3), (vD HB hw226_4), (vD HB hw226_5), (vD HB hw226_6), (vD HB hw226_7), (vD HB hw232_0), (vD HB hw232_1), (vD HB hw232_2), (vD HB hw232_3), (vD HB hw232_4), (vD HB hw232_5), (vD HB hw232_6), (vD HB hw232_7)⟩ (fun hHeld => ?_)
         clear hK K
         refine norm_ (a' := ?_) ?_ ?_
         rotate_left
         ·show Act.put _ (some 17) _ = _
          simp only [Act.put, pB, pC, pD, i64_w, i32_w]
          rfl
         refine pure_ (i := 5) (N := some 18) (v := ?_) (a' := ?_) #[true, true, true, true, true, true, false, false, false, false, false, false, false, false, false, false, false] rfl rfl (any_of HT_.out (by kernel_rfl)) (fun _ _ _ h => h) (Or.inl ⟨by rfl, ?_⟩) ?_ ?_
         rotate_left
         ·intro w'
          go_simp
          with_reducible rfl
         rotate_left
         ·simp only [Act.put, pB, pC, pD, i64_w, i32_w]
          rfl
         refine pure_ (i := 6) (N := some 19) (v := ?_) (a' := ?_) #[true, true, true, true, true, true, true, false, false, false, false, false, false, false, false, false, false] rfl rfl (any_of HT_.out (by kernel_rfl)) (fun _ _ _ h => h) (Or.inl ⟨by rfl, ?_⟩) ?_ ?_
         rotate_left
         ·intro w'
          go_simp
          with_reducible rfl
         rotate_left
         ·simp only [Act.put, pB, pC, pD, i64_w, i32_w]
          rfl
         refine pure_ (i := 7) (N := some 20) (v := ?_) (a' := ?_) #[true, true, true, true, true, true, true, true, false, false, false, false, false, false, false, false, false] rfl rfl (any_of HT_.out (by kernel_rfl)) (fun _ _ _ h => h) (Or.inl ⟨by rfl, ?_⟩) ?_ ?_
         rotate_left
         ·intro w'
          go_simp
          with_reducible rfl
         rotate_left
         ·simp only [Act.put, pB, pC, pD, i64_w, i32_w]
          rfl
         refine pure_ (i := 8) (N := some 21) (v := ?_) (a' := ?_) #[true, true, true, true, true, true, true, true, true, false, false, false, false, false, false, false, false] rfl rfl (any_of HT_.out (by kernel_rfl)) (fun _ _ _ h => h) (Or.inl ⟨by rfl, ?_⟩) ?_ ?_
         rotate_left
         ·intro w'
          go_simp
          with_reducible rfl
         rotate_left
         ·simp only [Act.put, pB, pC, pD, i64_w, i32_w]
          rfl
         refine pure_ (i := 9) (N := some 22) (v := ?_) (a' := ?_) #[true, true, true, true, true, true, true, true, true, true, false, false, false, false, false, false, false] rfl rfl (any_of HT_.out (by kernel_rfl)) (fun _ _ _ h => h) (Or.inl ⟨by rfl, ?_⟩) ?_ ?_
         rotate_left
         ·intro w'
          go_simp
          with_reducible rfl
         rotate_left
         ·simp only [Act.put, pB, pC, pD, i64_w, i32_w]
          rfl
         refine pure_ (i := 10) (N := some 23) (v := ?_) (a' := ?_) #[true, true, true, true, true, true, true, true, true, true, true, false, false, false, false, false, false] rfl rfl (any_of HT_.out (by kernel_rfl)) (fun _ _ _ h => h) (Or.inl ⟨by rfl, ?_⟩) ?_ ?_
         rotate_left
         ·intro w'
          go_simp
          with_reducible rfl
         rotate_left
         ·simp only [Act.put, pB, pC, pD, i64_w, i32_w]
          rfl
         refine pure_ (i := 11) (N := some 24) (v := ?_) (a' := ?_) #[true, true, true, true, true, true, true, true, true, true, true, true, false, false, false, false, false] rfl rfl (any_of HT_.out (by kernel_rfl)) (fun _ _ _ h => h) (Or.inl ⟨by rfl, ?_⟩) ?_ ?_
         rotate_left
         ·intro w'
          go_simp
          with_reducible rfl
         rotate_left
         ·simp only [Act.put, pB, pC, pD, i64_w, i32_w]
          rfl
         refine pure_ (i := 12) (N := some 25) (v := ?_) (a' := ?_) #[true, true, true, true, true, true, true, true, true, true, true, true, true, false, false, false, false] rfl rfl (any_of HT_.out (by kernel_rfl)) (fun _ _ _ h => h) (Or.inl ⟨by rfl, ?_⟩) ?_ ?_
         rotate_left
         ·intro w'
          go_simp
          with_reducible rfl
         rotate_left
         ·simp only [Act.put, pB, pC, pD, i64_w, i32_w]
          rfl
         refine pure_ (i := 13) (N := some 26) (v := ?_) (a' := ?_) #[true, true, true, true, true, true, true, true, true, true, true, true, true, true, false, false, false] rfl rfl (any_of HT_.out (by kernel_rfl)) (fun _ _ _ h => h) (Or.inl ⟨by rfl, ?_⟩) ?_ ?_
         rotate_left
         ·intro w'
          go_simp
          with_reducible rfl
         rotate_left
         ·simp only [Act.put, pB, pC, pD, i64_w, i32_w]
          rfl
         refine take_ (i := 14) (N := some 27) (v := ?_) (a' := ?_) #[true, true, true, true, true, true, true, true, true, true, true, true, true, true, true, false, false] rfl rfl (take_ofW HT_.out HW_.out (by kernel_rfl)) (fun _ _ _ h => h) (Or.inl ⟨by rfl, ?_⟩) hHeld ?_ ?_
         rotate_left
         ·rintro w' ⟨s0, s1, s2, s3, s4, s5, s6, s7, s8, s9, s10, s11, s12, s13, s14, s15⟩
          go_simp
          with_reducible rfl
         rotate_left
         ·simp only [Act.put, pB, pC, pD, i64_w, i32_w]
          rfl
         refine one_ (i := 15) (N := some 28) #[true, true, true, true, true, true, true, true, true, true, true, true, true, true, true, true, false] rfl rfl (one_of HT_.out (by kernel_rfl)) (by decide) (fun K hK => ?_)
         refine goes_ Try.func104 (by kernel_rfl) rfl #[.slice (some ad226) y228.length c0, .int .i64 ((rd_T52 l0 x3_1).f0)] (by rfl) rfl rfl (by (try simp only [pE, pF, pG]); first | done | rfl | (simp only [pH, pI]; rfl)) ?_
         with_reducible refine (potbankref03_has.calls k1 _ _ y228 ((rd_T52 l0 x3_1).f0) true _ ?side1 ?side2 A9.out).mono ?_
         (case side1 => repeat (first | exact (Kd.C_below HR231.out HB.out) | (with_reducible refine Kd.C_alloc ?_ _) | (with_reducible refine Kd.C_drewN ?_ _) | (with_reducible refine Kd.C_drew ?_)))
         (case side2 => exact HC231.out)
         rintro e w' ⟨rfl, ⟨nd, rfl⟩⟩
         refine ⟨_, rfl, ?_⟩
         refine hK.out _ _ ⟨(vD HB hw226_0), (vD HB hw226_1), (vD HB hw226_2), (vD HB hw226_3), (vD HB hw226_4), (vD HB hw226_5), (vD HB hw226_6), (vD HB hw226_7), (vD HB hw232_0), (vD HB hw232_1), (vD HB hw232_2), (vD HB hw232_3), (vD HB hw232_4), (vD HB hw232_5), (vD HB hw232_6), (vD HB hw232_7)⟩ (fun hHeld => ?_)
         clear hK K
         refine norm_ (a' := ?_) ?_ ?_
         rotate_left
         ·show Act.put _ (some 28) _ = _
          simp only [Act.put, pB, pC, pD, i64_w, i32_w]
          rfl
         refine pure_ (i := 16) (N := some 29) (v := ?_) (a' := ?_) #[true, true, true, true, true, true, true, true, true, true, true, true, true, true, true, true, true] rfl rfl (any_of HT_.out (by kernel_rfl)) (fun _ _ _ h => h) (Or.inl ⟨by rfl, ?_⟩) ?_ ?_
         rotate_left
         ·intro w'
          go_simp
          with_reducible rfl
         rotate_left
         ·simp only [Act.put, pB, pC, pD, i64_w, i32_w]
          rfl
         refine done_ (done_of HT_.out (by kernel_rfl)) ?_
         try go_wp2
         go_ret
         exact ⟨by first | rfl | (simp [errW_none, errW_some] <;> rfl) | (simp [*, errW_none, errW_some] <;> rfl), by repeat (first | (with_reducible first | exact HB.out | apply below_alloc | apply pw_below_drewN | apply below_drew1) | exact HB.out)⟩
        ·replace c10 := Bool.eq_false_iff.mpr c10
         subst c10
         have H1 : (potbankref03_CheckList.l0 k1 l0 (wrap64 (x3_1 + 1))) = some r := by rw [if_neg (show ¬ (false = true) by decide)] at H; exact H
         clear H
         have H := H1
         clear H1
         have H' := pA H
         clear H
         try go_wp2
         have n0_ := pA (below_drew1 HB.out)
         clear HB
         have HB := n0_
         clear n0_
         have p226 : 0 ≤ (x3_1 : Int) := of_decide_eq_true (by first | (with_reducible assumption) | assumption)
         have q226 : x3_1 < (l0.length : Int) := of_decide_eq_true (by first | (with_reducible assumption) | assumption)
         obtain ⟨ad226, e226, hx226_0, hx226_1, hx226_2, hx226_3, hx226_4, hx226_5, hx226_6, hx226_7⟩ := at_T52 HR0.out x3_1 p226 q226
         have hw226_7 := hx226_7
         have hw226_6 := hx226_6
         have hw226_5 := hx226_5
         have hw226_4 := hx226_4
         have hw226_3 := hx226_3
         have hw226_2 := hx226_2
         have hw226_1 := hx226_1
         have hw226_0 := hx226_0
         cases e226
         replace hx226_0 := vC HB hx226_0
         replace hx226_1 := vC HB hx226_1
         replace hx226_2 := vC HB hx226_2
         replace hx226_3 := vC HB hx226_3
         replace hx226_4 := vC HB hx226_4
         replace hx226_5 := vC HB hx226_5
         replace hx226_6 := vC HB hx226_6
         replace hx226_7 := vC HB hx226_7
         replace p226 := eq_true p226
         replace q226 := eq_true q226
         have p232 : 0 ≤ (x3_1 : Int) := of_decide_eq_true (by first | (with_reducible assumption) | assumption)
         have q232 : x3_1 < (l0.length : Int) := of_decide_eq_true (by first | (with_reducible assumption) | assumption)
         obtain ⟨ad232, e232, hx232_0, hx232_1, hx232_2, hx232_3, hx232_4, hx232_5, hx232_6, hx232_7⟩ := at_T52 HR0.out x3_1 p232 q232
         have hw232_7 := hx232_7
         have hw232_6 := hx232_6
         have hw232_5 := hx232_5
         have hw232_4 := hx232_4
         have hw232_3 := hx232_3
         have hw232_2 := hx232_2
         have hw232_1 := hx232_1
         have hw232_0 := hx232_0
         obtain rfl : ad226 = ad232 := (by injection e232)
         replace hx232_0 := vC HB hx232_0
         replace hx232_1 := vC HB hx232_1
         replace hx232_2 := vC HB hx232_2
         replace hx232_3 := vC HB hx232_3
         replace hx232_4 := vC HB hx232_4
         replace hx232_5 := vC HB hx232_5
         replace hx232_6 := vC HB hx232_6
         replace hx232_7 := vC HB hx232_7
         replace p232 := eq_true p232
         replace q232 := eq_true q232
         refine start_ (n := 17) (S := fun w' => w'.cell? (ad226.add ((x3_1).toNat * 8)) = some (.int .i64 ((rd_T52 l0 x3_1).f0)) ∧ w'.cell? ⟨(ad226.add ((x3_1).toNat * 8)).block, (ad226.add ((x3_1).toNat * 8)).off + 1, none⟩ = some (.int .i64 ((rd_T52 l0 x3_1).f1.f0)) ∧ w'.cell? ⟨(ad226.add ((x3_1).toNat * 8)).block, (ad226.add ((x3_1).toNat * 8)).off + 2, none⟩ = some (.int .i64 ((rd_T52 l0 x3_1).f1.f1)) ∧ w'.cell? ⟨(ad226.add ((x3_1).toNat * 8)).block, (ad226.add ((x3_1).toNat * 8)).off + 3, none⟩ = some (.int .i64 ((rd_T52 l0 x3_1).f2.f0)) ∧ w'.cell? ⟨(ad226.add ((x3_1).toNat * 8)).block, (ad226.add ((x3_1).toNat * 8)).off + 4, none⟩ = some (.int .i64 ((rd_T52 l0 x3_1).f2.f1)) ∧ w'.cell? ⟨(ad226.add ((x3_1).toNat * 8)).block, (ad226.add ((x3_1).toNat * 8)).off + 5, none⟩ = some (.int .i64 ((rd_T52 l0 x3_1).f3.f0)) ∧ w'.cell? ⟨(ad226.add ((x3_1).toNat * 8)).block, (ad226.add ((x3_1).toNat * 8)).off + 6, none⟩ = some (.int .i64 ((rd_T52 l0 x3_1).f3.f1)) ∧ w'.cell? ⟨(ad226.add ((x3_1).toNat * 8)).block, (ad226.add ((x3_1).toNat * 8)).off + 7, none⟩ = some (.int .i64 ((rd_T52 l0 x3_1).f4)) ∧ w'.cell? (ad226.add ((x3_1).toNat * 8)) = some (.int .i64 ((rd_T52 l0 x3_1).f0)) ∧ w'.cell? ⟨(ad226.add ((x3_1).toNat * 8)).block, (ad226.add ((x3_1).toNat * 8)).off + 1, none⟩ = some (.int .i64 ((rd_T52 l0 x3_1).f1.f0)) ∧ w'.cell? ⟨(ad226.add ((x3_1).toNat * 8)).block, (ad226.add ((x3_1).toNat * 8)).off + 2, none⟩ = some (.int .i64 ((rd_T52 l0 x3_1).f1.f1)) ∧ w'.cell? ⟨(ad226.add ((x3_1).toNat * 8)).block, (ad226.add ((x3_1).toNat * 8)).off + 3, none⟩ = some (.int .i64 ((rd_T52 l0 x3_1).f2.f0)) ∧ w'.cell? ⟨(ad226.add ((x3_1).toNat * 8)).block, (ad226.add ((x3_1).toNat * 8)).off + 4, none⟩ = some (.int .i64 ((rd_T52 l0 x3_1).f2.f1)) ∧ w'.cell? ⟨(ad226.add ((x3_1).toNat * 8)).block, (ad226.add ((x3_1).toNat * 8)).off + 5, none⟩ = some (.int .i64 ((rd_T52 l0 x3_1).f3.f0)) ∧ w'.cell? ⟨(ad226.add ((x3_1).toNat * 8)).block, (ad226.add ((x3_1).toNat * 8)).off + 6, none⟩ = some (.int .i64 ((rd_T52 l0 x3_1).f3.f1)) ∧ w'.cell? ⟨(ad226.add ((x3_1).toNat * 8)).block, (ad226.add ((x3_1).toNat * 8)).off + 7, none⟩ = some (.int .i64 ((rd_T52 l0 x3_1).f4))) (ds := []) #[false, false, false, false, false, false, false, false, false, false, false, false, false, false, false, false, false] (by kernel_rfl) rfl rfl ⟨(vD HB hw226_0), (vD HB hw226_1), (vD HB hw226_2), (vD HB hw226_3), (vD HB hw226_4), (vD HB hw226_5), (vD HB hw226_6), (vD HB hw226_7), (vD HB hw232_0), (vD HB hw232_1), (vD HB hw232_2), (vD HB hw232_3), (vD HB hw232_4), (vD HB hw232_5), (vD HB hw232_6), (vD HB hw232_7)⟩ (fun hHeld => ?_); refine with_tabW potbankref03_CheckList.tab6 potbankref03_CheckList.bits6 (fun HT_ HW_ => ?_)
         generalize wr.drew = w14 at HB hx226_0 hx226_1 hx226_2 hx226_3 hx226_4 hx226_5 hx226_6 hx226_7 hx232_0 hx232_1 hx232_2 hx232_3 hx232_4 hx232_5 hx232_6 hx232_7 hHeld ⊢
         refine pure_ (i := 0) (N := some 13) (v := ?_) (a' := ?_) #[true, false, false, false, false, false, false, false, false, false, false, false, false, false, false, false, false] rfl rfl (any_of HT_.out (by kernel_rfl)) (fun _ _ _ h => h) (Or.inl ⟨by rfl, ?_⟩) ?_ ?_
         rotate_left
         ·intro w'
          go_simp
          with_reducible rfl
         rotate_left
         ·simp only [Act.put, pB, pC, pD, i64_w, i32_w]
          rfl
         refine pure_ (i := 1) (N := some 14) (v := ?_) (a' := ?_) #[true, true, false, false, false, false, false, false, false, false, false, false, false, false, false, false, false] rfl rfl (any_of HT_.out (by kernel_rfl)) (fun _ _ _ h => h) (Or.inl ⟨by rfl, ?_⟩) ?_ ?_
         rotate_left
         ·intro w'
          go_simp
          with_reducible rfl
         rotate_left
         ·simp only [Act.put, pB, pC, pD, i64_w, i32_w]
          rfl
         refine pure_ (i := 2) (N := some 15) (v := ?_) (a' := ?_) #[true, true, true, false, false, false, false, false, false, false, false, false, false, false, false, false, false] rfl rfl (any_of HT_.out (by kernel_rfl)) (fun _ _ _ h => h) (Or.inl ⟨by rfl, ?_⟩) ?_ ?_
         rotate_left
         ·intro w'
          go_simp
          with_reducible rfl
         rotate_left
         ·simp only [Act.put, pB, pC, pD, i64_w, i32_w]
          rfl
         refine take_ (i := 3) (N := some 16) (v := ?_) (a' := ?_) #[true, true, true, true, false, false, false, false, false, false, false, false, false, false, false, false, false] rfl rfl (take_ofW HT_.out HW_.out (by kernel_rfl)) (fun _ _ _ h => h) (Or.inl ⟨by rfl, ?_⟩) hHeld ?_ ?_
         rotate_left
         ·rintro w' ⟨s0, s1, s2, s3, s4, s5, s6, s7, s8, s9, s10, s11, s12, s13, s14, s15⟩
          go_simp
          with_reducible rfl
         rotate_left
         ·simp only [Act.put, pB, pC, pD, i64_w, i32_w]
          rfl
         refine one_ (i := 4) (N := some 17) #[true, true, true, true, true, false, false, false, false, false, false, false, false, false, false, false, false] rfl rfl (one_of HT_.out (by kernel_rfl)) (by decide) (fun K hK => ?_)
         refine goes_ Try.func46 (by kernel_rfl) rfl #[.agg #[.int .i64 ((rd_T52 l0 x3_1).f0), .int .i64 ((rd_T52 l0 x3_1).f1.f0), .int .i64 ((rd_T52 l0 x3_1).f1.f1), .int .i64 ((rd_T52 l0 x3_1).f2.f0), .int .i64 ((rd_T52 l0 x3_1).f2.f1), .int .i64 ((rd_T52 l0 x3_1).f3.f0), .int .i64 ((rd_T52 l0 x3_1).f3.f1), .int .i64 ((rd_T52 l0 x3_1).f4)]] (by rfl) rfl rfl (by (try simp only [pE, pF, pG]); first | done | rfl | (simp only [pH, pI]; rfl)) ?_
         with_reducible refine (potbankref03_CheckSaggar.calls ((rd_T52 l0 x3_1).f0) ((rd_T52 l0 x3_1).f1.f0) ((rd_T52 l0 x3_1).f1.f1) ((rd_T52 l0 x3_1).f2.f0) ((rd_T52 l0 x3_1).f2.f1) ((rd_T52 l0 x3_1).f3.f0) ((rd_T52 l0 x3_1).f3.f1) ((rd_T52 l0 x3_1).f4) t227 _ A5.out).mono ?_
         rintro e w15 ⟨rfl, hb⟩
         refine ⟨_, rfl, ?_⟩
         have n0_ := pA (below_step (vB HB) hb)
         clear HB
         have HB := n0_
         clear n0_
         (try clear hb)
         (try clear hb2)
         (try clear hk)
         (try clear hi)
         have q16 : (x3_1 : Int) ≤ ((l0.length : Int) : Int) := of_decide_eq_true (by first | (with_reducible assumption) | assumption)
         obtain ⟨i016, hi016, _, hsz16, _⟩ := info_parts info52
         have hroom16 : l0.length ≤ c0 := HC0.out
         have hC16 : Kd.C k52 _ (some ad226) l0.length l0 := HR0.out
         have hcut16 := cut_to (P := Try.prog) 24 52 .i64 Try.underlying24 hi016 (some ad226) l0.length c0 x3_1 (of_decide_eq_true (by first | (with_reducible assumption) | assumption)) q16 hroom16
         have hr16 := Kd.C_take (m := (x3_1 : Int).toNat) hC16 (by omega)
         have hy16 : y228.length = (x3_1 : Int).toNat := (by rw [Ny228.out, List.length_take]; omega)
         rw [← Ny228.out] at hr16
         rw [← hy16] at hcut16
         have HR231 := pA hr16
         have HC231 := pA (show y228.length ≤ c0 from by omega)
         clear hr16 hC16 hroom16 hi016 hsz16
         have KY16 := pA hy16
         clear hy16
         replace q16 := eq_true q16
         refine hK.out _ _ ⟨(vD HB hw226_0), (vD HB hw226_1), (vD HB hw226_2), (vD HB hw226_3), (vD HB hw226_4), (vD HB hw226_5), (vD HB hw226_6), (vD HB hw226_7), (vD HB hw232_0), (vD HB hw232_1), (vD HB hw232_2), (vD HB hw232_3), (vD HB hw232_4), (vD HB hw232_5), (vD HB hw232_6), (vD HB hw232_7)⟩ (fun hHeld => ?_)
         clear hK K
         refine norm_ (a' := ?_) ?_ ?_
         rotate_left
         ·show Act.put _ (some 17) _ = _
          simp only [Act.put, pB, pC, pD, i64_w, i32_w]
          rfl
         refine pure_ (i := 5) (N := some 18) (v := ?_) (a' := ?_) #[true, true, true, true, true, true, false, false, false, false, false, false, false, false, false, false, false] rfl rfl (any_of HT_.out (by kernel_rfl)) (fun _ _ _ h => h) (Or.inl ⟨by rfl, ?_⟩) ?_ ?_
         rotate_left
         ·intro w'
          go_simp
          with_reducible rfl
         rotate_left
         ·simp only [Act.put, pB, pC, pD, i64_w, i32_w]
          rfl
         refine pure_ (i := 6) (N := some 19) (v := ?_) (a' := ?_) #[true, true, true, true, true, true, true, false, false, false, false, false, false, false, false, false, false] rfl rfl (any_of HT_.out (by kernel_rfl)) (fun _ _ _ h => h) (Or.inl ⟨by rfl, ?_⟩) ?_ ?_
         rotate_left
         ·intro w'
          go_simp
          with_reducible rfl
         rotate_left
         ·simp only [Act.put, pB, pC, pD, i64_w, i32_w]
          rfl
         refine pure_ (i := 7) (N := some 20) (v := ?_) (a' := ?_) #[true, true, true, true, true, true, true, true, false, false, false, false, false, false, false, false, false] rfl rfl (any_of HT_.out (by kernel_rfl)) (fun _ _ _ h => h) (Or.inl ⟨by rfl, ?_⟩) ?_ ?_
         rotate_left
         ·intro w'
          go_simp
          with_reducible rfl
         rotate_left
         ·simp only [Act.put, pB, pC, pD, i64_w, i32_w]
          rfl
         refine pure_ (i := 8) (N := some 21) (v := ?_) (a' := ?_) #[true, true, true, true, true, true, true, true, true, false, false, false, false, false, false, false, false] rfl rfl (any_of HT_.out (by kernel_rfl)) (fun _ _ _ h => h) (Or.inl ⟨by rfl, ?_⟩) ?_ ?_
         rotate_left
         ·intro w'
          go_simp
          with_reducible rfl
         rotate_left
         ·simp only [Act.put, pB, pC, pD, i64_w, i32_w]
          rfl
         refine pure_ (i := 9) (N := some 22) (v := ?_) (a' := ?_) #[true, true, true, true, true, true, true, true, true, true, false, false, false, false, false, false, false] rfl rfl (any_of HT_.out (by kernel_rfl)) (fun _ _ _ h => h) (Or.inl ⟨by rfl, ?_⟩) ?_ ?_
         rotate_left
         ·intro w'
          go_simp
          with_reducible rfl
         rotate_left
         ·simp only [Act.put, pB, pC, pD, i64_w, i32_w]
          rfl
         refine pure_ (i := 10) (N := some 23) (v := ?_) (a' := ?_) #[true, true, true, true, true, true, true, true, true, true, true, false, false, false, false, false, false] rfl rfl (any_of HT_.out (by kernel_rfl)) (fun _ _ _ h => h) (Or.inl ⟨by rfl, ?_⟩) ?_ ?_
         rotate_left
         ·intro w'
          go_simp
          with_reducible rfl
         rotate_left
         ·simp only [Act.put, pB, pC, pD, i64_w, i32_w]
          rfl
         refine pure_ (i := 11) (N := some 24) (v := ?_) (a' := ?_) #[true, true, true, true, true, true, true, true, true, true, true, true, false, false, false, false, false] rfl rfl (any_of HT_.out (by kernel_rfl)) (fun _ _ _ h => h) (Or.inl ⟨by rfl, ?_⟩) ?_ ?_
         rotate_left
         ·intro w'
          go_simp
          with_reducible rfl
         rotate_left
         ·simp only [Act.put, pB, pC, pD, i64_w, i32_w]
          rfl
         refine pure_ (i := 12) (N := some 25) (v := ?_) (a' := ?_) #[true, true, true, true, true, true, true, true, true, true, true, true, true, false, false, false, false] rfl rfl (any_of HT_.out (by kernel_rfl)) (fun _ _ _ h => h) (Or.inl ⟨by rfl, ?_⟩) ?_ ?_
         rotate_left
         ·intro w'
          go_simp
          with_reducible rfl
         rotate_left
         ·simp only [Act.put, pB, pC, pD, i64_w, i32_w]
          rfl
         refine pure_ (i := 13) (N := some 26) (v := ?_) (a' := ?_) #[true, true, true, true, true, true, true, true, true, true, true, true, true, true, false, false, false] rfl rfl (any_of HT_.out (by kernel_rfl)) (fun _ _ _ h => h) (Or.inl ⟨by rfl, ?_⟩) ?_ ?_
         rotate_left
         ·intro w'
          go_simp
          with_reducible rfl
         rotate_left
         ·simp only [Act.put, pB, pC, pD, i64_w, i32_w]
          rfl
         refine take_ (i := 14) (N := some 27) (v := ?_) (a' := ?_) #[true, true, true, true, true, true, true, true, true, true, true, true, true, true, true, false, false] rfl rfl (take_ofW HT_.out HW_.out (by kernel_rfl)) (fun _ _ _ h => h) (Or.inl ⟨by rfl, ?_⟩) hHeld ?_ ?_
         rotate_left
         ·rintro w' ⟨s0, s1, s2, s3, s4, s5, s6, s7, s8, s9, s10, s11, s12, s13, s14, s15⟩
          go_simp
          with_reducible rfl
         rotate_left
         ·simp only [Act.put, pB, pC, pD, i64_w, i32_w]
          rfl
         refine one_ (i := 15) (N := some 28) #[true, true, true, true, true, true, true, true, true, true, true, true, true, true, true, true, false] rfl rfl (one_of HT_.out (by kernel_rfl)) (by decide) (fun K hK => ?_)
         refine goes_ Try.func104 (by kernel_rfl) rfl #[.slice (some ad226) y228.length c0, .int .i64 ((rd_T52 l0 x3_1).f0)] (by rfl) rfl rfl (by (try simp only [pE, pF, pG]); first | done | rfl | (simp only [pH, pI]; rfl)) ?_
         with_reducible refine (potbankref03_has.calls k1 _ _ y228 ((rd_T52 l0 x3_1).f0) false _ ?side1 ?side2 A9.out).mono ?_
         (case side1 => repeat (first | exact (Kd.C_below HR231.out HB.out) | (with_reducible refine Kd.C_alloc ?_ _) | (with_reducible refine Kd.C_drewN ?_ _) | (with_reducible refine Kd.C_drew ?_)))
         (case side2 => exact HC231.out)
         rintro e w' ⟨rfl, ⟨nd, rfl⟩⟩
         refine ⟨_, rfl, ?_⟩
         refine hK.out _ _ ⟨(vD HB hw226_0), (vD HB hw226_1), (vD HB hw226_2), (vD HB hw226_3), (vD HB hw226_4), (vD HB hw226_5), (vD HB hw226_6), (vD HB hw226_7), (vD HB hw232_0), (vD HB hw232_1), (vD HB hw232_2), (vD HB hw232_3), (vD HB hw232_4), (vD HB hw232_5), (vD HB hw232_6), (vD HB hw232_7)⟩ (fun hHeld => ?_)
         clear hK K
         refine norm_ (a' := ?_) ?_ ?_
         rotate_left
         ·show Act.put _ (some 28) _ = _
          simp only [Act.put, pB, pC, pD, i64_w, i32_w]
          rfl
         refine pure_ (i := 16) (N := some 29) (v := ?_) (a' := ?_) #[true, true, true, true, true, true, true, true, true, true, true, true, true, true, true, true, true] rfl rfl (any_of HT_.out (by kernel_rfl)) (fun _ _ _ h => h) (Or.inl ⟨by rfl, ?_⟩) ?_ ?_
         rotate_left
         ·intro w'
          go_simp
          with_reducible rfl
         rotate_left
         ·simp only [Act.put, pB, pC, pD, i64_w, i32_w]
          rfl
         refine done_ (done_of HT_.out (by kernel_rfl)) ?_
         try go_wp2
         go_roundg k1
         case measure => have := HK1.out; omega
         case rel => exact ⟨(wrap64 (x3_1 + 1)), (by first | rfl | (simp; done) | (simp [*]; done)), H', ⟨by have := HK1.out; omega⟩, ⟨by repeat (first | (with_reducible first | exact HB.out | apply below_alloc | apply pw_below_drewN | apply below_drew1) | exact HB.out)⟩⟩
       ·rw [if_neg c8] at H
        exact absurd H (by simp)
      ·rw [if_neg c6] at H
       have c6b0 : (t227 == 0) = false := beq_eq_false_iff_ne.mpr c6
       have c6b1 : (t227 != 0) = true := bne_iff_ne.mpr c6
       obtain rfl := Option.some.inj H
       try go_wp2
       have n0_ := pA (below_drew1 HB.out)
       clear HB
       have HB := n0_
       clear n0_
       have p226 : 0 ≤ (x3_1 : Int) := of_decide_eq_true (by first | (with_reducible assumption) | assumption)
       have q226 : x3_1 < (l0.length : Int) := of_decide_eq_true (by first | (with_reducible assumption) | assumption)
       obtain ⟨ad226, e226, hx226_0, hx226_1, hx226_2, hx226_3, hx226_4, hx226_5, hx226_6, hx226_7⟩ := at_T52 HR0.out x3_1 p226 q226
       have hw226_7 := hx226_7
       have hw226_6 := hx226_6
       have hw226_5 := hx226_5
       have hw226_4 := hx226_4
       have hw226_3 := hx226_3
       have hw226_2 := hx226_2
       have hw226_1 := hx226_1
       have hw226_0 := hx226_0
       cases e226
       replace hx226_0 := vC HB hx226_0
       replace hx226_1 := vC HB hx226_1
       replace hx226_2 := vC HB hx226_2
       replace hx226_3 := vC HB hx226_3
       replace hx226_4 := vC HB hx226_4
       replace hx226_5 := vC HB hx226_5
       replace hx226_6 := vC HB hx226_6
       replace hx226_7 := vC HB hx226_7
       replace p226 := eq_true p226
       replace q226 := eq_true q226
       refine start_ (n := 17) (S := fun w' => w'.cell? (ad226.add ((x3_1).toNat * 8)) = some (.int .i64 ((rd_T52 l0 x3_1).f0)) ∧ w'.cell? ⟨(ad226.add ((x3_1).toNat * 8)).block, (ad226.add ((x3_1).toNat * 8)).off + 1, none⟩ = some (.int .i64 ((rd_T52 l0 x3_1).f1.f0)) ∧ w'.cell? ⟨(ad226.add ((x3_1).toNat * 8)).block, (ad226.add ((x3_1).toNat * 8)).off + 2, none⟩ = some (.int .i64 ((rd_T52 l0 x3_1).f1.f1)) ∧ w'.cell? ⟨(ad226.add ((x3_1).toNat * 8)).block, (ad226.add ((x3_1).toNat * 8)).off + 3, none⟩ = some (.int .i64 ((rd_T52 l0 x3_1).f2.f0)) ∧ w'.cell? ⟨(ad226.add ((x3_1).toNat * 8)).block, (ad226.add ((x3_1).toNat * 8)).off + 4, none⟩ = some (.int .i64 ((rd_T52 l0 x3_1).f2.f1)) ∧ w'.cell? ⟨(ad226.add ((x3_1).toNat * 8)).block, (ad226.add ((x3_1).toNat * 8)).off + 5, none⟩ = some (.int .i64 ((rd_T52 l0 x3_1).f3.f0)) ∧ w'.cell? ⟨(ad226.add ((x3_1).toNat * 8)).block, (ad226.add ((x3_1).toNat * 8)).off + 6, none⟩ = some (.int .i64 ((rd_T52 l0 x3_1).f3.f1)) ∧ w'.cell? ⟨(ad226.add ((x3_1).toNat * 8)).block, (ad226.add ((x3_1).toNat * 8)).off + 7, none⟩ = some (.int .i64 ((rd_T52 l0 x3_1).f4))) (ds := []) #[false, false, false, false, false, false, false, false, false, false, false, false, false, false, false, false, false] (by kernel_rfl) rfl rfl ⟨(vD HB hw226_0), (vD HB hw226_1), (vD HB hw226_2), (vD HB hw226_3), (vD HB hw226_4), (vD HB hw226_5), (vD HB hw226_6), (vD HB hw226_7)⟩ (fun hHeld => ?_); refine with_tabW potbankref03_CheckList.tab6 potbankref03_CheckList.bits6 (fun HT_ HW_ => ?_)
       generalize wr.drew = w17 at HB hx226_0 hx226_1 hx226_2 hx226_3 hx226_4 hx226_5 hx226_6 hx226_7 hHeld ⊢
       refine pure_ (i := 0) (N := some 13) (v := ?_) (a' := ?_) #[true, false, false, false, false, false, false, false, false, false, false, false, false, false, false, false, false] rfl rfl (any_of HT_.out (by kernel_rfl)) (fun _ _ _ h => h) (Or.inl ⟨by rfl, ?_⟩) ?_ ?_
       rotate_left
       ·intro w'
        go_simp
        with_reducible rfl
       rotate_left
       ·simp only [Act.put, pB, pC, pD, i64_w, i32_w]
        rfl
       refine pure_ (i := 1) (N := some 14) (v := ?_) (a' := ?_) #[true, true, false, false, false, false, false, false, false, false, false, false, false, false, false, false, false] rfl rfl (any_of HT_.out (by kernel_rfl)) (fun _ _ _ h => h) (Or.inl ⟨by rfl, ?_⟩) ?_ ?_
       rotate_left
       ·intro w'
        go_simp
        with_reducible rfl
       rotate_left
       ·simp only [Act.put, pB, pC, pD, i64_w, i32_w]
        rfl
       refine pure_ (i := 2) (N := some 15) (v := ?_) (a' := ?_) #[true, true, true, false, false, false, false, false, false, false, false, false, false, false, false, false, false] rfl rfl (any_of HT_.out (by kernel_rfl)) (fun _ _ _ h => h) (Or.inl ⟨by rfl, ?_⟩) ?_ ?_
       rotate_left
       ·intro w'
        go_simp
        with_reducible rfl
       rotate_left
       ·simp only [Act.put, pB, pC, pD, i64_w, i32_w]
        rfl
       refine take_ (i := 3) (N := some 16) (v := ?_) (a' := ?_) #[true, true, true, true, false, false, false, false, false, false, false, false, false, false, false, false, false] rfl rfl (take_ofW HT_.out HW_.out (by kernel_rfl)) (fun _ _ _ h => h) (Or.inl ⟨by rfl, ?_⟩) hHeld ?_ ?_
       rotate_left
       ·rintro w' ⟨s0, s1, s2, s3, s4, s5, s6, s7⟩
        go_simp
        with_reducible rfl
       rotate_left
       ·simp only [Act.put, pB, pC, pD, i64_w, i32_w]
        rfl
       refine one_ (i := 4) (N := some 17) #[true, true, true, true, true, false, false, false, false, false, false, false, false, false, false, false, false] rfl rfl (one_of HT_.out (by kernel_rfl)) (by decide) (fun K hK => ?_)
       refine goes_ Try.func46 (by kernel_rfl) rfl #[.agg #[.int .i64 ((rd_T52 l0 x3_1).f0), .int .i64 ((rd_T52 l0 x3_1).f1.f0), .int .i64 ((rd_T52 l0 x3_1).f1.f1), .int .i64 ((rd_T52 l0 x3_1).f2.f0), .int .i64 ((rd_T52 l0 x3_1).f2.f1), .int .i64 ((rd_T52 l0 x3_1).f3.f0), .int .i64 ((rd_T52 l0 x3_1).f3.f1), .int .i64 ((rd_T52 l0 x3_1).f4)]] (by rfl) rfl rfl (by (try simp only [pE, pF, pG]); first | done | rfl | (simp only [pH, pI]; rfl)) ?_
       with_reducible refine (potbankref03_CheckSaggar.calls ((rd_T52 l0 x3_1).f0) ((rd_T52 l0 x3_1).f1.f0) ((rd_T52 l0 x3_1).f1.f1) ((rd_T52 l0 x3_1).f2.f0) ((rd_T52 l0 x3_1).f2.f1) ((rd_T52 l0 x3_1).f3.f0) ((rd_T52 l0 x3_1).f3.f1) ((rd_T52 l0 x3_1).f4) t227 _ A5.out).mono ?_
       rintro e w18 ⟨rfl, hb⟩
       refine ⟨_, rfl, ?_⟩
       have n0_ := pA (below_step (vB HB) hb)
       clear HB
       have HB := n0_
       clear n0_
       (try clear hb)
       (try clear hb2)
       (try clear hk)
       (try clear hi)
       refine hK.out _ _ ⟨(vD HB hw226_0), (vD HB hw226_1), (vD HB hw226_2), (vD HB hw226_3), (vD HB hw226_4), (vD HB hw226_5), (vD HB hw226_6), (vD HB hw226_7)⟩ (fun hHeld => ?_)
       clear hK K
       refine norm_ (a' := ?_) ?_ ?_
       rotate_left
       ·show Act.put _ (some 17) _ = _
        simp only [Act.put, pB, pC, pD, i64_w, i32_w]
        rfl
       refine pure_ (i := 5) (N := some 18) (v := ?_) (a' := ?_) #[true, true, true, true, true, true, false, false, false, false, false, false, false, false, false, false, false] rfl rfl (any_of HT_.out (by kernel_rfl)) (fun _ _ _ h => h) (Or.inl ⟨by rfl, ?_⟩) ?_ ?_
       rotate_left
       ·intro w'
        go_simp
        with_reducible rfl
       rotate_left
       ·simp only [Act.put, pB, pC, pD, i64_w, i32_w]
        rfl
       refine pure_ (i := 6) (N := some 19) (v := ?_) (a' := ?_) #[true, true, true, true, true, true, true, false, false, false, false, false, false, false, false, false, false] rfl rfl (any_of HT_.out (by kernel_rfl)) (fun _ _ _ h => h) (Or.inl ⟨by rfl, ?_⟩) ?_ ?_
       rotate_left
       ·intro w'
        go_simp
        with_reducible rfl
       rotate_left
       ·simp only [Act.put, pB, pC, pD, i64_w, i32_w]
        rfl
       refine pure_ (i := 7) (N := some 20) (v := undef) (a' := ?_) #[true, true, true, true, true, true, true, true, false, false, false, false, false, false, false, false, false] rfl rfl (any_of HT_.out (by kernel_rfl)) (fun _ _ _ h => h) (Or.inr ⟨by rfl, rfl⟩) ?_ ?_
       rotate_left
       ·simp only [Act.put, pB, pC, pD, i64_w, i32_w]
        rfl
       refine pure_ (i := 8) (N := some 21) (v := undef) (a' := ?_) #[true, true, true, true, true, true, true, true, true, false, false, false, false, false, false, false, false] rfl rfl (any_of HT_.out (by kernel_rfl)) (fun _ _ _ h => h) (Or.inr ⟨by rfl, rfl⟩) ?_ ?_
       rotate_left
       ·simp only [Act.put, pB, pC, pD, i64_w, i32_w]
        rfl
       refine pure_ (i := 9) (N := some 22) (v := undef) (a' := ?_) #[true, true, true, true, true, true, true, true, true, true, false, false, false, false, false, false, false] rfl rfl (any_of HT_.out (by kernel_rfl)) (fun _ _ _ h => h) (Or.inr ⟨by rfl, rfl⟩) ?_ ?_
       rotate_left
       ·simp only [Act.put, pB, pC, pD, i64_w, i32_w]
        rfl
       refine pure_ (i := 10) (N := some 23) (v := undef) (a' := ?_) #[true, true, true, true, true, true, true, true, true, true, true, false, false, false, false, false, false] rfl rfl (any_of HT_.out (by kernel_rfl)) (fun _ _ _ h => h) (Or.inr ⟨by rfl, rfl⟩) ?_ ?_
       rotate_left
       ·simp only [Act.put, pB, pC, pD, i64_w, i32_w]
        rfl
       refine pure_ (i := 11) (N := some 24) (v := undef) (a' := ?_) #[true, true, true, true, true, true, true, true, true, true, true, true, false, false, false, false, false] rfl rfl (any_of HT_.out (by kernel_rfl)) (fun _ _ _ h => h) (Or.inr ⟨by rfl, rfl⟩) ?_ ?_
       rotate_left
       ·simp only [Act.put, pB, pC, pD, i64_w, i32_w]
        rfl
       refine pure_ (i := 12) (N := some 25) (v := undef) (a' := ?_) #[true, true, true, true, true, true, true, true, true, true, true, true, true, false, false, false, false] rfl rfl (any_of HT_.out (by kernel_rfl)) (fun _ _ _ h => h) (Or.inr ⟨by rfl, rfl⟩) ?_ ?_
       rotate_left
       ·simp only [Act.put, pB, pC, pD, i64_w, i32_w]
        rfl
       refine pure_ (i := 13) (N := some 26) (v := undef) (a' := ?_) #[true, true, true, true, true, true, true, true, true, true, true, true, true, true, false, false, false] rfl rfl (any_of HT_.out (by kernel_rfl)) (fun _ _ _ h => h) (Or.inr ⟨by rfl, rfl⟩) ?_ ?_
       rotate_left
       ·simp only [Act.put, pB, pC, pD, i64_w, i32_w]
        rfl
       refine pure_ (i := 14) (N := some 27) (v := undef) (a' := ?_) #[true, true, true, true, true, true, true, true, true, true, true, true, true, true, true, false, false] rfl rfl (any_of HT_.out (by kernel_rfl)) (fun _ _ _ h => h) (Or.inr ⟨by rfl, rfl⟩) ?_ ?_
       rotate_left
       ·simp only [Act.put, pB, pC, pD, i64_w, i32_w]
        rfl
       refine pure_ (i := 15) (N := some 28) (v := undef) (a' := ?_) #[true, true, true, true, true, true, true, true, true, true, true, true, true, true, true, true, false] rfl rfl (any_of HT_.out (by kernel_rfl)) (fun _ _ _ h => h) (Or.inr ⟨by rfl, rfl⟩) ?_ ?_
       rotate_left
       ·simp only [Act.put, pB, pC, pD, i64_w, i32_w]
        rfl
       refine pure_ (i := 16) (N := some 29) (v := ?_) (a' := ?_) #[true, true, true, true, true, true, true, true, true, true, true, true, true, true, true, true, true] rfl rfl (any_of HT_.out (by kernel_rfl)) (fun _ _ _ h => h) (Or.inl ⟨by rfl, ?_⟩) ?_ ?_
       rotate_left
       ·intro w'
        go_simp
        with_reducible rfl
       rotate_left
       ·simp only [Act.put, pB, pC, pD, i64_w, i32_w]
        rfl
       refine done_ (done_of HT_.out (by kernel_rfl)) ?_
       try go_wp2
       go_ret
       exact ⟨by first | rfl | (simp [errW_none, errW_some] <;> rfl) | (simp [*, errW_none, errW_some] <;> rfl), by repeat (first | (with_reducible first | exact HB.out | apply below_alloc | apply pw_below_drewN | apply below_drew1) | exact HB.out)⟩
     ·rw [if_neg c4] at H
      exact absurd H (by simp)
    ·rw [if_neg c3] at H
     have c3b0 : decide (x3_1 < (l0.length : Int)) = false := decide_eq_false c3
     clear c3
     obtain rfl := Option.some.inj H
     go_wp2
     go_ret
     exact ⟨by first | rfl | (simp [errW_none, errW_some] <;> rfl) | (simp [*, errW_none, errW_some] <;> rfl), by repeat (first | (with_reducible first | exact HB.out | apply below_alloc | apply pw_below_drewN | apply below_drew1) | exact HB.out)⟩
def potbankref03_isWad.f (a0_0 : Int) (a0_1 : Int) : Option (Bool) := (potbankref03_part.f a0_0 a0_1 0 200).bind fun t238 => (some t238)
set_option maxHeartbeats 8000000 in
set_option maxRecDepth 100000 in
theorem potbankref03_isWad.calls (a0_0 : Int) (a0_1 : Int) (r : Bool) (w : World) (h : potbankref03_isWad.f a0_0 a0_1 = some r) :
  Calls Try.prog 103 #[.agg #[.int .i64 a0_0, .int .i64 a0_1]] w fun e w' => e = .returned (.bool r) ∧ Below w.heap.size w w' := by
 have hu23 := Try.underlying23
 have HB := pA (Below.refl w.heap.size w)
 have H : ((potbankref03_part.f a0_0 a0_1 0 200).bind fun t238 => (some t238)) = some r := h
 clear h
 replace H := Option.bind_eq_some_iff.mp H
 obtain ⟨t238, A20, H⟩ := H
 replace H : (some t238) = some r := H
 have A2 := pA A20
 clear A20
 obtain rfl := Option.some.inj H
 go_enter Try.func103, Try.ntmps103
 go_wp2_with (first | ((with_reducible refine gate_dst (N := 1) rfl ?_); refine box_event ?hg (N := 1) ?hd (cs := #[.int .i64 a0_0, .int .i64 a0_1]) (t := 23) ?hr ?_; (case hd => rfl); (case hg => rfl); (case hr => first | (go_simp; done) | (go_simp; rfl)); intro gb237 hg w3 hbox hb; have n0_ := pA (below_step (vB HB) hb); have n1_ := pA (hbox); have n2_ := pA ((by rw [hg]; exact (below_size (vB HB)) : w.heap.size ≤ gb237)); have n3_ := pA ((by rw [hg]; exact (below_size (vB HB)) : w.heap.size ≤ gb237)); clear HB; have HB := n0_; have BK237 := n1_; have GW237 := n2_; have GE237 := n3_; clear n0_ n1_ n2_ n3_; clear hb hbox hg; have hcz4_0 : w3.cell? ⟨gb237, 0, none⟩ = some (.int .i64 a0_0) := (blk_cell BK237.out 0).trans rfl; have hcz4_1 : w3.cell? ⟨gb237, 1, none⟩ = some (.int .i64 a0_1) := (blk_cell BK237.out 1).trans rfl; have hfz4_0 := blk_frozen BK237.out 0; have hfz4_1 := blk_frozen BK237.out 1) | ((with_reducible refine aF (f := 102) rfl ?_); refine goesL_ (some 4) rfl rfl Try.func102 (by kernel_rfl) rfl #[.agg #[.int .i64 a0_0, .int .i64 a0_1], .int .i64 0, .int .i64 200] rfl (by (try simp only [pE, pF, pG]); first | done | rfl | (simp only [pH, pI]; rfl)) ?_; (with_reducible refine (potbankref03_part.calls a0_0 a0_1 0 200 t238 _ A2.out).mono ?_); rintro e w5 ⟨rfl, hb⟩; refine ⟨_, rfl, ?_⟩; have n0_ := pA (blk_below (g := gb237) (o := .cells #[.int .i64 a0_0, .int .i64 a0_1] 23 (0, 0)) (vK BK237) hb); have n1_ := pA (below_step (by repeat (first | (with_reducible first | exact HB.out | apply below_alloc | apply pw_below_drewN | apply below_drew1 | refine below_set ?_ GE237.out) | exact HB.out)) hb); clear BK237; clear HB; have BK237 := n0_; have HB := n1_; clear n0_ n1_; (try clear hb); (try clear hb2); (try clear hk); (try clear hi)))
 go_ret
 exact ⟨by first | rfl | (simp [errW_none, errW_some] <;> rfl) | (simp [*, errW_none, errW_some] <;> rfl), by repeat (first | (with_reducible first | exact HB.out | apply below_alloc | apply pw_below_drewN | apply below_drew1 | refine below_set ?_ GE237.out) | exact HB.out)⟩
def potbankref03_Check.f (k : Nat) (a0_0 : Int) (a0_1 : Int) (l0_2 : List (S52)) : Option (Int) := (potbankref03_isWad.f a0_0 a0_1).bind fun t403 => (if t403 = true then (if (l0_2.length : Int) = 0 then (some 31) else ((potbankref03_CheckList.f k l0_2).bind fun t404 => (if t404 = 0 then (some 0) else (some 31)))) else (some 31))
theorem potbankref03_Check.mono : ∀ a0 a1 a2 k, LeO (potbankref03_Check.f k a0 a1 a2) (potbankref03_Check.f (k + 1) a0 a1 a2) := by
 intro a0 a1 a2 k
 unfold potbankref03_Check.f
 repeat' first
   | (with_reducible exact potbankref03_CheckList.mono _ _)
   | (with_reducible exact LeO.refl _)
   | (with_reducible exact LeO.none _)
   | (with_reducible refine LeO.ite ?_ ?_)
   | (with_reducible refine LeO.bind ?_ (fun _ => ?_))
   | exact potbankref03_CheckList.mono _ _
   | exact LeO.none _
   | refine LeO.ite ?_ ?_
   | refine LeO.bind ?_ (fun _ => ?_)
set_option maxHeartbeats 8000000 in
set_option maxRecDepth 100000 in
theorem potbankref03_Check.calls (k : Nat) (a0_0 : Int) (a0_1 : Int) (A0_2 : Option Addr) (c0_2 : Nat) (l0_2 : List (S52)) (r : Int) (w : World) (hr0_2 : Kd.C k52 w A0_2 l0_2.length l0_2) (hc0_2 : l0_2.length ≤ c0_2) (h : potbankref03_Check.f k a0_0 a0_1 l0_2 = some r) :
  Calls Try.prog 48 #[.agg #[.int .i64 a0_0, .int .i64 a0_1, .slice A0_2 l0_2.length c0_2]] w fun e w' => e = .returned (.int .i64 r) ∧ Below w.heap.size w w' := by
 have hu43 := Try.underlying43
 have hu23 := Try.underlying23
 have HR0_2 := pA hr0_2
 have HC0_2 := pA hc0_2
 clear hr0_2 hc0_2
 have HB := pA (Below.refl w.heap.size w)
 have H : ((potbankref03_isWad.f a0_0 a0_1).bind fun t403 => (if t403 = true then (if (l0_2.length : Int) = 0 then (some 31) else ((potbankref03_CheckList.f k l0_2).bind fun t404 => (if t404 = 0 then (some 0) else (some 31)))) else (some 31))) = some r := h
 clear h
 replace H := Option.bind_eq_some_iff.mp H
 obtain ⟨t403, A20, H⟩ := H
 replace H : (if t403 = true then (if (l0_2.length : Int) = 0 then (some 31) else ((potbankref03_CheckList.f k l0_2).bind fun t404 => (if t404 = 0 then (some 0) else (some 31)))) else (some 31)) = some r := H
 have A2 := pA A20
 clear A20
 by_cases c3 : t403 = true
 ·subst c3
  have H1 : (if (l0_2.length : Int) = 0 then (some 31) else ((potbankref03_CheckList.f k l0_2).bind fun t404 => (if t404 = 0 then (some 0) else (some 31)))) = some r := by rw [if_pos rfl] at H; exact H
  clear H
  have H := H1
  clear H1
  by_cases c4 : (l0_2.length : Int) = 0
  ·rw [if_pos c4] at H
   have c4b0 : ((l0_2.length : Int) == 0) = true := beq_iff_eq.mpr c4
   have c4b1 : ((l0_2.length : Int) != 0) = false := bne_eq_false_iff_eq.mpr c4
   clear c4
   obtain rfl := Option.some.inj H
   go_enter Try.func48, Try.ntmps48
   go_wp2_with (first | ((with_reducible refine gate_dst (N := 1) rfl ?_); (try (refine gate_guard (by rfl) ?_; dsimp only)); refine box_event ?hg (N := 1) ?hd (cs := #[.int .i64 a0_0, .int .i64 a0_1, .slice A0_2 l0_2.length c0_2]) (t := 43) ?hr ?_; (case hd => rfl); (case hg => rfl); (case hr => first | (go_simp; done) | (go_simp; rfl)); intro gb402 hg w5 hbox hb; have n0_ := pA (below_step (vB HB) hb); have n1_ := pA (hbox); have n2_ := pA ((by rw [hg]; exact (below_size (vB HB)) : w.heap.size ≤ gb402)); have n3_ := pA ((by rw [hg]; exact (below_size (vB HB)) : w.heap.size ≤ gb402)); clear HB; have HB := n0_; have BK402 := n1_; have GW402 := n2_; have GE402 := n3_; clear n0_ n1_ n2_ n3_; clear hb hbox hg; have hcz6_0 : w5.cell? ⟨gb402, 0, none⟩ = some (.int .i64 a0_0) := (blk_cell BK402.out 0).trans rfl; have hcz6_1 : w5.cell? ⟨gb402, 1, none⟩ = some (.int .i64 a0_1) := (blk_cell BK402.out 1).trans rfl; have hcz6_2 : w5.cell? ⟨gb402, 2, none⟩ = some (.slice A0_2 l0_2.length c0_2) := (blk_cell BK402.out 2).trans rfl; have hfz6_0 := blk_frozen BK402.out 0; have hfz6_1 := blk_frozen BK402.out 1; have hfz6_2 := blk_frozen BK402.out 2) | ((with_reducible refine aF (f := 103) rfl ?_); refine goesL_ (some 5) rfl rfl Try.func103 (by kernel_rfl) rfl #[.agg #[.int .i64 a0_0, .int .i64 a0_1]] rfl (by (try simp only [pE, pF, pG]); first | done | rfl | (simp only [pH, pI]; rfl)) ?_; (with_reducible refine (potbankref03_isWad.calls a0_0 a0_1 true _ A2.out).mono ?_); rintro e w7 ⟨rfl, hb⟩; refine ⟨_, rfl, ?_⟩; have n0_ := pA (blk_below (g := gb402) (o := .cells #[.int .i64 a0_0, .int .i64 a0_1, .slice A0_2 l0_2.length c0_2] 43 (0, 0)) (vK BK402) hb); have n1_ := pA (below_step (by repeat (first | (with_reducible first | exact HB.out | apply below_alloc | apply pw_below_drewN | apply below_drew1 | refine below_set ?_ GE402.out) | exact HB.out)) hb); clear BK402; clear HB; have BK402 := n0_; have HB := n1_; clear n0_ n1_; (try clear hb); (try clear hb2); (try clear hk); (try clear hi); have hcz8_0 : w7.cell? ⟨gb402, 0, none⟩ = some (.int .i64 a0_0) := (blk_cell BK402.out 0).trans rfl; have hcz8_1 : w7.cell? ⟨gb402, 1, none⟩ = some (.int .i64 a0_1) := (blk_cell BK402.out 1).trans rfl; have hcz8_2 : w7.cell? ⟨gb402, 2, none⟩ = some (.slice A0_2 l0_2.length c0_2) := (blk_cell BK402.out 2).trans rfl; have hfz8_0 := blk_frozen BK402.out 0; have hfz8_1 := blk_frozen BK402.out 1; have hfz8_2 := blk_frozen BK402.out 2))
   go_ret
   exact ⟨by first | rfl | (simp [errW_none, errW_some] <;> rfl) | (simp [*, errW_none, errW_some] <;> rfl), by repeat (first | (with_reducible first | exact HB.out | apply below_alloc | apply pw_below_drewN | apply below_drew1 | refine below_set ?_ GE402.out) | exact HB.out)⟩
  ·rw [if_neg c4] at H
   have c4b0 : ((l0_2.length : Int) == 0) = false := beq_eq_false_iff_ne.mpr c4
   have c4b1 : ((l0_2.length : Int) != 0) = true := bne_iff_ne.mpr c4
   have c4b2 : ¬ (l0_2 = []) := fun h_ => c4 (by rw [h_]; rfl)
   replace H := Option.bind_eq_some_iff.mp H
   obtain ⟨t404, A90, H⟩ := H
   replace H : (if t404 = 0 then (some 0) else (some 31)) = some r := H
   have A9 := pA A90
   clear A90
   by_cases c10 : t404 = 0
   ·rw [if_pos c10] at H
    have c10b0 : (t404 == 0) = true := beq_iff_eq.mpr c10
    have c10b1 : (t404 != 0) = false := bne_eq_false_iff_eq.mpr c10
    clear c10
    obtain rfl := Option.some.inj H
    go_enter Try.func48, Try.ntmps48
    go_wp2_with (first | ((with_reducible refine gate_dst (N := 1) rfl ?_); (try (refine gate_guard (by rfl) ?_; dsimp only)); refine box_event ?hg (N := 1) ?hd (cs := #[.int .i64 a0_0, .int .i64 a0_1, .slice A0_2 l0_2.length c0_2]) (t := 43) ?hr ?_; (case hd => rfl); (case hg => rfl); (case hr => first | (go_simp; done) | (go_simp; rfl)); intro gb402 hg w11 hbox hb; have n0_ := pA (below_step (vB HB) hb); have n1_ := pA (hbox); have n2_ := pA ((by rw [hg]; exact (below_size (vB HB)) : w.heap.size ≤ gb402)); have n3_ := pA ((by rw [hg]; exact (below_size (vB HB)) : w.heap.size ≤ gb402)); clear HB; have HB := n0_; have BK402 := n1_; have GW402 := n2_; have GE402 := n3_; clear n0_ n1_ n2_ n3_; clear hb hbox hg; have hcz12_0 : w11.cell? ⟨gb402, 0, none⟩ = some (.int .i64 a0_0) := (blk_cell BK402.out 0).trans rfl; have hcz12_1 : w11.cell? ⟨gb402, 1, none⟩ = some (.int .i64 a0_1) := (blk_cell BK402.out 1).trans rfl; have hcz12_2 : w11.cell? ⟨gb402, 2, none⟩ = some (.slice A0_2 l0_2.length c0_2) := (blk_cell BK402.out 2).trans rfl; have hfz12_0 := blk_frozen BK402.out 0; have hfz12_1 := blk_frozen BK402.out 1; have hfz12_2 := blk_frozen BK402.out 2) | ((with_reducible refine aF (f := 103) rfl ?_); refine goesL_ (some 5) rfl rfl Try.func103 (by kernel_rfl) rfl #[.agg #[.int .i64 a0_0, .int .i64 a0_1]] rfl (by (try simp only [pE, pF, pG]); first | done | rfl | (simp only [pH, pI]; rfl)) ?_; (with_reducible refine (potbankref03_isWad.calls a0_0 a0_1 true _ A2.out).mono ?_); rintro e w13 ⟨rfl, hb⟩; refine ⟨_, rfl, ?_⟩; have n0_ := pA (blk_below (g := gb402) (o := .cells #[.int .i64 a0_0, .int .i64 a0_1, .slice A0_2 l0_2.length c0_2] 43 (0, 0)) (vK BK402) hb); have n1_ := pA (below_step (by repeat (first | (with_reducible first | exact HB.out | apply below_alloc | apply pw_below_drewN | apply below_drew1 | refine below_set ?_ GE402.out) | exact HB.out)) hb); clear BK402; clear HB; have BK402 := n0_; have HB := n1_; clear n0_ n1_; (try clear hb); (try clear hb2); (try clear hk); (try clear hi); have hcz14_0 : w13.cell? ⟨gb402, 0, none⟩ = some (.int .i64 a0_0) := (blk_cell BK402.out 0).trans rfl; have hcz14_1 : w13.cell? ⟨gb402, 1, none⟩ = some (.int .i64 a0_1) := (blk_cell BK402.out 1).trans rfl; have hcz14_2 : w13.cell? ⟨gb402, 2, none⟩ = some (.slice A0_2 l0_2.length c0_2) := (blk_cell BK402.out 2).trans rfl; have hfz14_0 := blk_frozen BK402.out 0; have hfz14_1 := blk_frozen BK402.out 1; have hfz14_2 := blk_frozen BK402.out 2) | (go_at_call 50; (with_reducible refine (potbankref03_CheckList.calls k _ _ l0_2 t404 _ ?side1 ?side2 A9.out).mono ?_); (case side1 => repeat (first | exact (Kd.C_below HR0_2.out HB.out) | (with_reducible refine Kd.C_alloc ?_ _) | (with_reducible refine Kd.C_drewN ?_ _) | (with_reducible refine Kd.C_drew ?_))); (case side2 => exact HC0_2.out); rintro e w15 ⟨rfl, hb⟩; have n0_ := pA (blk_below (g := gb402) (o := .cells #[.int .i64 a0_0, .int .i64 a0_1, .slice A0_2 l0_2.length c0_2] 43 (0, 0)) (vK BK402) hb); have n1_ := pA (below_step (by repeat (first | (with_reducible first | exact HB.out | apply below_alloc | apply pw_below_drewN | apply below_drew1 | refine below_set ?_ GE402.out) | exact HB.out)) hb); clear BK402; clear HB; have BK402 := n0_; have HB := n1_; clear n0_ n1_; (try clear hb); (try clear hb2); (try clear hk); (try clear hi)))
    go_ret
    exact ⟨by first | rfl | (simp [errW_none, errW_some] <;> rfl) | (simp [*, errW_none, errW_some] <;> rfl), by repeat (first | (with_reducible first | exact HB.out | apply below_alloc | apply pw_below_drewN | apply below_drew1 | refine below_set ?_ GE402.out) | exact HB.out)⟩
   ·rw [if_neg c10] at H
    have c10b0 : (t404 == 0) = false := beq_eq_false_iff_ne.mpr c10
    have c10b1 : (t404 != 0) = true := bne_iff_ne.mpr c10
    obtain rfl := Option.some.inj H
    go_enter Try.func48, Try.ntmps48
    go_wp2_with (first | ((with_reducible refine gate_dst (N := 1) rfl ?_); (try (refine gate_guard (by rfl) ?_; dsimp only)); refine box_event ?hg (N := 1) ?hd (cs := #[.int .i64 a0_0, .int .i64 a0_1, .slice A0_2 l0_2.length c0_2]) (t := 43) ?hr ?_; (case hd => rfl); (case hg => rfl); (case hr => first | (go_simp; done) | (go_simp; rfl)); intro gb402 hg w16 hbox hb; have n0_ := pA (below_step (vB HB) hb); have n1_ := pA (hbox); have n2_ := pA ((by rw [hg]; exact (below_size (vB HB)) : w.heap.size ≤ gb402)); have n3_ := pA ((by rw [hg]; exact (below_size (vB HB)) : w.heap.size ≤ gb402)); clear HB; have HB := n0_; have BK402 := n1_; have GW402 := n2_; have GE402 := n3_; clear n0_ n1_ n2_ n3_; clear hb hbox hg; have hcz17_0 : w16.cell? ⟨gb402, 0, none⟩ = some (.int .i64 a0_0) := (blk_cell BK402.out 0).trans rfl; have hcz17_1 : w16.cell? ⟨gb402, 1, none⟩ = some (.int .i64 a0_1) := (blk_cell BK402.out 1).trans rfl; have hcz17_2 : w16.cell? ⟨gb402, 2, none⟩ = some (.slice A0_2 l0_2.length c0_2) := (blk_cell BK402.out 2).trans rfl; have hfz17_0 := blk_frozen BK402.out 0; have hfz17_1 := blk_frozen BK402.out 1; have hfz17_2 := blk_frozen BK402.out 2) | ((with_reducible refine aF (f := 103) rfl ?_); refine goesL_ (some 5) rfl rfl Try.func103 (by kernel_rfl) rfl #[.agg #[.int .i64 a0_0, .int .i64 a0_1]] rfl (by (try simp only [pE, pF, pG]); first | done | rfl | (simp only [pH, pI]; rfl)) ?_; (with_reducible refine (potbankref03_isWad.calls a0_0 a0_1 true _ A2.out).mono ?_); rintro e w18 ⟨rfl, hb⟩; refine ⟨_, rfl, ?_⟩; have n0_ := pA (blk_below (g := gb402) (o := .cells #[.int .i64 a0_0, .int .i64 a0_1, .slice A0_2 l0_2.length c0_2] 43 (0, 0)) (vK BK402) hb); have n1_ := pA (below_step (by repeat (first | (with_reducible first | exact HB.out | apply below_alloc | apply pw_below_drewN | apply below_drew1 | refine below_set ?_ GE402.out) | exact HB.out)) hb); clear BK402; clear HB; have BK402 := n0_; have HB := n1_; clear n0_ n1_; (try clear hb); (try clear hb2); (try clear hk); (try clear hi); have hcz19_0 : w18.cell? ⟨gb402, 0, none⟩ = some (.int .i64 a0_0) := (blk_cell BK402.out 0).trans rfl; have hcz19_1 : w18.cell? ⟨gb402, 1, none⟩ = some (.int .i64 a0_1) := (blk_cell BK402.out 1).trans rfl; have hcz19_2 : w18.cell? ⟨gb402, 2, none⟩ = some (.slice A0_2 l0_2.length c0_2) := (blk_cell BK402.out 2).trans rfl; have hfz19_0 := blk_frozen BK402.out 0; have hfz19_1 := blk_frozen BK402.out 1; have hfz19_2 := blk_frozen BK402.out 2) | (go_at_call 50; (with_reducible refine (potbankref03_CheckList.calls k _ _ l0_2 t404 _ ?side1 ?side2 A9.out).mono ?_); (case side1 => repeat (first | exact (Kd.C_below HR0_2.out HB.out) | (with_reducible refine Kd.C_alloc ?_ _) | (with_reducible refine Kd.C_drewN ?_ _) | (with_reducible refine Kd.C_drew ?_))); (case side2 => exact HC0_2.out); rintro e w20 ⟨rfl, hb⟩; have n0_ := pA (blk_below (g := gb402) (o := .cells #[.int .i64 a0_0, .int .i64 a0_1, .slice A0_2 l0_2.length c0_2] 43 (0, 0)) (vK BK402) hb); have n1_ := pA (below_step (by repeat (first | (with_reducible first | exact HB.out | apply below_alloc | apply pw_below_drewN | apply below_drew1 | refine below_set ?_ GE402.out) | exact HB.out)) hb); clear BK402; clear HB; have BK402 := n0_; have HB := n1_; clear n0_ n1_; (try clear hb); (try clear hb2); (try clear hk); (try clear hi)))
    go_ret
    exact ⟨by first | rfl | (simp [errW_none, errW_some] <;> rfl) | (simp [*, errW_none, errW_some] <;> rfl), by repeat (first | (with_reducible first | exact HB.out | apply below_alloc | apply pw_below_drewN | apply below_drew1 | refine below_set ?_ GE402.out) | exact HB.out)⟩
 ·replace c3 := Bool.eq_false_iff.mpr c3
  subst c3
  have H1 : (some 31) = some r := by rw [if_neg (show ¬ (false = true) by decide)] at H; exact H
  clear H
  have H := H1
  clear H1
  obtain rfl := Option.some.inj H
  go_enter Try.func48, Try.ntmps48
  go_wp2_with (first | ((with_reducible refine gate_dst (N := 1) rfl ?_); (try (refine gate_guard (by rfl) ?_; dsimp only)); refine box_event ?hg (N := 1) ?hd (cs := #[.int .i64 a0_0, .int .i64 a0_1, .slice A0_2 l0_2.length c0_2]) (t := 43) ?hr ?_; (case hd => rfl); (case hg => rfl); (case hr => first | (go_simp; done) | (go_simp; rfl)); intro gb402 hg w21 hbox hb; have n0_ := pA (below_step (vB HB) hb); have n1_ := pA (hbox); have n2_ := pA ((by rw [hg]; exact (below_size (vB HB)) : w.heap.size ≤ gb402)); have n3_ := pA ((by rw [hg]; exact (below_size (vB HB)) : w.heap.size ≤ gb402)); clear HB; have HB := n0_; have BK402 := n1_; have GW402 := n2_; have GE402 := n3_; clear n0_ n1_ n2_ n3_; clear hb hbox hg; have hcz22_0 : w21.cell? ⟨gb402, 0, none⟩ = some (.int .i64 a0_0) := (blk_cell BK402.out 0).trans rfl; have hcz22_1 : w21.cell? ⟨gb402, 1, none⟩ = some (.int .i64 a0_1) := (blk_cell BK402.out 1).trans rfl; have hcz22_2 : w21.cell? ⟨gb402, 2, none⟩ = some (.slice A0_2 l0_2.length c0_2) := (blk_cell BK402.out 2).trans rfl; have hfz22_0 := blk_frozen BK402.out 0; have hfz22_1 := blk_frozen BK402.out 1; have hfz22_2 := blk_frozen BK402.out 2) | ((with_reducible refine aF (f := 103) rfl ?_); refine goesL_ (some 5) rfl rfl Try.func103 (by kernel_rfl) rfl #[.agg #[.int .i64 a0_0, .int .i64 a0_1]] rfl (by (try simp only [pE, pF, pG]); first | done | rfl | (simp only [pH, pI]; rfl)) ?_; (with_reducible refine (potbankref03_isWad.calls a0_0 a0_1 false _ A2.out).mono ?_); rintro e w23 ⟨rfl, hb⟩; refine ⟨_, rfl, ?_⟩; have n0_ := pA (blk_below (g := gb402) (o := .cells #[.int .i64 a0_0, .int .i64 a0_1, .slice A0_2 l0_2.length c0_2] 43 (0, 0)) (vK BK402) hb); have n1_ := pA (below_step (by repeat (first | (with_reducible first | exact HB.out | apply below_alloc | apply pw_below_drewN | apply below_drew1 | refine below_set ?_ GE402.out) | exact HB.out)) hb); clear BK402; clear HB; have BK402 := n0_; have HB := n1_; clear n0_ n1_; (try clear hb); (try clear hb2); (try clear hk); (try clear hi)))
  go_ret
  exact ⟨by first | rfl | (simp [errW_none, errW_some] <;> rfl) | (simp [*, errW_none, errW_some] <;> rfl), by repeat (first | (with_reducible first | exact HB.out | apply below_alloc | apply pw_below_drewN | apply below_drew1 | refine below_set ?_ GE402.out) | exact HB.out)⟩
def bung_CheckList.f (l0 : List (S52)) : Option (Int) := (bung_isList.f l0).bind fun t528 => (if t528 = true then (some 0) else (some 30))
set_option maxHeartbeats 8000000 in
set_option maxRecDepth 100000 in
theorem bung_CheckList.calls (A0 : Option Addr) (c0 : Nat) (l0 : List (S52)) (r : Int) (w : World) (hr0 : Kd.C k52 w A0 l0.length l0) (hc0 : l0.length ≤ c0) (h : bung_CheckList.f l0 = some r) :
  Calls Try.prog 49 #[.slice A0 l0.length c0] w fun e w' => e = .returned (.int .i64 r) ∧ Below w.heap.size w w' := by
 have HR0 := pA hr0
 have HC0 := pA hc0
 clear hr0 hc0
 have HB := pA (Below.refl w.heap.size w)
 have H : ((bung_isList.f l0).bind fun t528 => (if t528 = true then (some 0) else (some 30))) = some r := h
 clear h
 replace H := Option.bind_eq_some_iff.mp H
 obtain ⟨t528, A20, H⟩ := H
 replace H : (if t528 = true then (some 0) else (some 30)) = some r := H
 have A2 := pA A20
 clear A20
 by_cases c3 : t528 = true
 ·subst c3
  have H1 : (some 0) = some r := by rw [if_pos rfl] at H; exact H
  clear H
  have H := H1
  clear H1
  obtain rfl := Option.some.inj H
  go_enter Try.func49, Try.ntmps49
  go_wp2_with (first | ((with_reducible refine aF (f := 94) rfl ?_); refine goesL_ (some 4) rfl rfl Try.func94 (by kernel_rfl) rfl #[.slice A0 l0.length c0] rfl (by (try simp only [pE, pF, pG]); first | done | rfl | (simp only [pH, pI]; rfl)) ?_; (with_reducible refine (bung_isList.calls _ _ l0 true _ ?side1 ?side2 A2.out).mono ?_); (case side1 => repeat (first | exact HR0.out | (with_reducible refine Kd.C_alloc ?_ _) | (with_reducible refine Kd.C_drewN ?_ _) | (with_reducible refine Kd.C_drew ?_))); (case side2 => exact HC0.out); rintro e w4 ⟨rfl, hb⟩; refine ⟨_, rfl, ?_⟩; have n0_ := pA (below_step (vB HB) hb); clear HB; have HB := n0_; clear n0_; (try clear hb); (try clear hb2); (try clear hk); (try clear hi)))
  go_ret
  exact ⟨by first | rfl | (simp [errW_none, errW_some] <;> rfl) | (simp [*, errW_none, errW_some] <;> rfl), by repeat (first | (with_reducible first | exact HB.out | apply below_alloc | apply pw_below_drewN | apply below_drew1) | exact HB.out)⟩
 ·replace c3 := Bool.eq_false_iff.mpr c3
  subst c3
  have H1 : (some 30) = some r := by rw [if_neg (show ¬ (false = true) by decide)] at H; exact H
  clear H
  have H := H1
  clear H1
  obtain rfl := Option.some.inj H
  go_enter Try.func49, Try.ntmps49
  go_wp2_with (first | ((with_reducible refine aF (f := 94) rfl ?_); refine goesL_ (some 4) rfl rfl Try.func94 (by kernel_rfl) rfl #[.slice A0 l0.length c0] rfl (by (try simp only [pE, pF, pG]); first | done | rfl | (simp only [pH, pI]; rfl)) ?_; (with_reducible refine (bung_isList.calls _ _ l0 false _ ?side1 ?side2 A2.out).mono ?_); (case side1 => repeat (first | exact HR0.out | (with_reducible refine Kd.C_alloc ?_ _) | (with_reducible refine Kd.C_drewN ?_ _) | (with_reducible refine Kd.C_drew ?_))); (case side2 => exact HC0.out); rintro e w5 ⟨rfl, hb⟩; refine ⟨_, rfl, ?_⟩; have n0_ := pA (below_step (vB HB) hb); clear HB; have HB := n0_; clear n0_; (try clear hb); (try clear hb2); (try clear hk); (try clear hi)))
  go_ret
  exact ⟨by first | rfl | (simp [errW_none, errW_some] <;> rfl) | (simp [*, errW_none, errW_some] <;> rfl), by repeat (first | (with_reducible first | exact HB.out | apply below_alloc | apply pw_below_drewN | apply below_drew1) | exact HB.out)⟩
def bung_isSpot.f (a0_0 : Int) (a0_1 : Int) : Option (Bool) := (bung_within.f a0_0 0 400000).bind fun t151 => (if t151 = true then ((bung_within.f a0_1 0 100000).bind fun t152 => (some t152)) else (some false))
set_option maxHeartbeats 8000000 in
set_option maxRecDepth 100000 in
theorem bung_isSpot.calls (a0_0 : Int) (a0_1 : Int) (r : Bool) (w : World) (h : bung_isSpot.f a0_0 a0_1 = some r) :
  Calls Try.prog 85 #[.agg #[.int .i64 a0_0, .int .i64 a0_1]] w fun e w' => e = .returned (.bool r) ∧ Below w.heap.size w w' := by
 have hu26 := Try.underlying26
 have HB := pA (Below.refl w.heap.size w)
 have H : ((bung_within.f a0_0 0 400000).bind fun t151 => (if t151 = true then ((bung_within.f a0_1 0 100000).bind fun t152 => (some t152)) else (some false))) = some r := h
 clear h
 replace H := Option.bind_eq_some_iff.mp H
 obtain ⟨t151, A20, H⟩ := H
 replace H : (if t151 = true then ((bung_within.f a0_1 0 100000).bind fun t152 => (some t152)) else (some false)) = some r := H
 have A2 := pA A20
 clear A20
 by_cases c3 : t151 = true
 ·subst c3
  have H1 : ((bung_within.f a0_1 0 100000).bind fun t152 => (some t152)) = some r := by rw [if_pos rfl] at H; exact H
  clear H
  have H := H1
  clear H1
  replace H := Option.bind_eq_some_iff.mp H
  obtain ⟨t152, A40, H⟩ := H
  replace H : (some t152) = some r := H
  have A4 := pA A40
  clear A40
  obtain rfl := Option.some.inj H
  go_enter Try.func85, Try.ntmps85
  go_wp2_with (first | ((with_reducible refine gate_dst (N := 1) rfl ?_); refine box_event ?hg (N := 1) ?hd (cs := #[.int .i64 a0_0, .int .i64 a0_1]) (t := 26) ?hr ?_; (case hd => rfl); (case hg => rfl); (case hr => first | (go_simp; done) | (go_simp; rfl)); intro gb150 hg w5 hbox hb; have n0_ := pA (below_step (vB HB) hb); have n1_ := pA (hbox); have n2_ := pA ((by rw [hg]; exact (below_size (vB HB)) : w.heap.size ≤ gb150)); have n3_ := pA ((by rw [hg]; exact (below_size (vB HB)) : w.heap.size ≤ gb150)); clear HB; have HB := n0_; have BK150 := n1_; have GW150 := n2_; have GE150 := n3_; clear n0_ n1_ n2_ n3_; clear hb hbox hg; have hcz6_0 : w5.cell? ⟨gb150, 0, none⟩ = some (.int .i64 a0_0) := (blk_cell BK150.out 0).trans rfl; have hcz6_1 : w5.cell? ⟨gb150, 1, none⟩ = some (.int .i64 a0_1) := (blk_cell BK150.out 1).trans rfl; have hfz6_0 := blk_frozen BK150.out 0; have hfz6_1 := blk_frozen BK150.out 1) | ((with_reducible refine aF (f := 111) rfl ?_); refine goesL_ (some 5) rfl rfl Try.func111 (by kernel_rfl) rfl #[.int .i64 a0_0, .int .i64 0, .int .i64 400000] rfl (by (try simp only [pE, pF, pG]); first | done | rfl | (simp only [pH, pI]; rfl)) ?_; (with_reducible refine (bung_within.calls a0_0 0 400000 true _ A2.out).mono ?_); rintro e w' ⟨rfl, ⟨nd, rfl⟩⟩; refine ⟨_, rfl, ?_⟩) | (go_at_call 111; (with_reducible refine (bung_within.calls a0_1 0 100000 t152 _ A4.out).mono ?_); rintro e w' ⟨rfl, ⟨nd, rfl⟩⟩))
  go_ret
  exact ⟨by first | rfl | (simp [errW_none, errW_some] <;> rfl) | (simp [*, errW_none, errW_some] <;> rfl), by repeat (first | (with_reducible first | exact HB.out | apply below_alloc | apply pw_below_drewN | apply below_drew1 | refine below_set ?_ GE150.out) | exact HB.out)⟩
 ·replace c3 := Bool.eq_false_iff.mpr c3
  subst c3
  have H1 : (some false) = some r := by rw [if_neg (show ¬ (false = true) by decide)] at H; exact H
  clear H
  have H := H1
  clear H1
  obtain rfl := Option.some.inj H
  go_enter Try.func85, Try.ntmps85
  go_wp2_with (first | ((with_reducible refine gate_dst (N := 1) rfl ?_); refine box_event ?hg (N := 1) ?hd (cs := #[.int .i64 a0_0, .int .i64 a0_1]) (t := 26) ?hr ?_; (case hd => rfl); (case hg => rfl); (case hr => first | (go_simp; done) | (go_simp; rfl)); intro gb150 hg w7 hbox hb; have n0_ := pA (below_step (vB HB) hb); have n1_ := pA (hbox); have n2_ := pA ((by rw [hg]; exact (below_size (vB HB)) : w.heap.size ≤ gb150)); have n3_ := pA ((by rw [hg]; exact (below_size (vB HB)) : w.heap.size ≤ gb150)); clear HB; have HB := n0_; have BK150 := n1_; have GW150 := n2_; have GE150 := n3_; clear n0_ n1_ n2_ n3_; clear hb hbox hg; have hcz8_0 : w7.cell? ⟨gb150, 0, none⟩ = some (.int .i64 a0_0) := (blk_cell BK150.out 0).trans rfl; have hcz8_1 : w7.cell? ⟨gb150, 1, none⟩ = some (.int .i64 a0_1) := (blk_cell BK150.out 1).trans rfl; have hfz8_0 := blk_frozen BK150.out 0; have hfz8_1 := blk_frozen BK150.out 1) | ((with_reducible refine aF (f := 111) rfl ?_); refine goesL_ (some 5) rfl rfl Try.func111 (by kernel_rfl) rfl #[.int .i64 a0_0, .int .i64 0, .int .i64 400000] rfl (by (try simp only [pE, pF, pG]); first | done | rfl | (simp only [pH, pI]; rfl)) ?_; (with_reducible refine (bung_within.calls a0_0 0 400000 false _ A2.out).mono ?_); rintro e w' ⟨rfl, ⟨nd, rfl⟩⟩; refine ⟨_, rfl, ?_⟩))
  go_ret
  exact ⟨by first | rfl | (simp [errW_none, errW_some] <;> rfl) | (simp [*, errW_none, errW_some] <;> rfl), by repeat (first | (with_reducible first | exact HB.out | apply below_alloc | apply pw_below_drewN | apply below_drew1 | refine below_set ?_ GE150.out) | exact HB.out)⟩
def bung_CheckSpot.f (a0_0 : Int) (a0_1 : Int) : Option (Int) := (bung_isSpot.f a0_0 a0_1).bind fun t530 => (if t530 = true then (some 0) else (some 33))
set_option maxHeartbeats 8000000 in
set_option maxRecDepth 100000 in
theorem bung_CheckSpot.calls (a0_0 : Int) (a0_1 : Int) (r : Int) (w : World) (h : bung_CheckSpot.f a0_0 a0_1 = some r) :
  Calls Try.prog 51 #[.agg #[.int .i64 a0_0, .int .i64 a0_1]] w fun e w' => e = .returned (.int .i64 r) ∧ Below w.heap.size w w' := by
 have hu26 := Try.underlying26
 have HB := pA (Below.refl w.heap.size w)
 have H : ((bung_isSpot.f a0_0 a0_1).bind fun t530 => (if t530 = true then (some 0) else (some 33))) = some r := h
 clear h
 replace H := Option.bind_eq_some_iff.mp H
 obtain ⟨t530, A20, H⟩ := H
 replace H : (if t530 = true then (some 0) else (some 33)) = some r := H
 have A2 := pA A20
 clear A20
 by_cases c3 : t530 = true
 ·subst c3
  have H1 : (some 0) = some r := by rw [if_pos rfl] at H; exact H
  clear H
  have H := H1
  clear H1
  obtain rfl := Option.some.inj H
  go_enter Try.func51, Try.ntmps51
  go_wp2_with (first | ((with_reducible refine gate_dst (N := 1) rfl ?_); refine box_event ?hg (N := 1) ?hd (cs := #[.int .i64 a0_0, .int .i64 a0_1]) (t := 26) ?hr ?_; (case hd => rfl); (case hg => rfl); (case hr => first | (go_simp; done) | (go_simp; rfl)); intro gb529 hg w4 hbox hb; have n0_ := pA (below_step (vB HB) hb); have n1_ := pA (hbox); have n2_ := pA ((by rw [hg]; exact (below_size (vB HB)) : w.heap.size ≤ gb529)); have n3_ := pA ((by rw [hg]; exact (below_size (vB HB)) : w.heap.size ≤ gb529)); clear HB; have HB := n0_; have BK529 := n1_; have GW529 := n2_; have GE529 := n3_; clear n0_ n1_ n2_ n3_; clear hb hbox hg; have hcz5_0 : w4.cell? ⟨gb529, 0, none⟩ = some (.int .i64 a0_0) := (blk_cell BK529.out 0).trans rfl; have hcz5_1 : w4.cell? ⟨gb529, 1, none⟩ = some (.int .i64 a0_1) := (blk_cell BK529.out 1).trans rfl; have hfz5_0 := blk_frozen BK529.out 0; have hfz5_1 := blk_frozen BK529.out 1) | ((with_reducible refine aF (f := 85) rfl ?_); refine goesL_ (some 4) rfl rfl Try.func85 (by kernel_rfl) rfl #[.agg #[.int .i64 a0_0, .int .i64 a0_1]] rfl (by (try simp only [pE, pF, pG]); first | done | rfl | (simp only [pH, pI]; rfl)) ?_; (with_reducible refine (bung_isSpot.calls a0_0 a0_1 true _ A2.out).mono ?_); rintro e w6 ⟨rfl, hb⟩; refine ⟨_, rfl, ?_⟩; have n0_ := pA (blk_below (g := gb529) (o := .cells #[.int .i64 a0_0, .int .i64 a0_1] 26 (0, 0)) (vK BK529) hb); have n1_ := pA (below_step (by repeat (first | (with_reducible first | exact HB.out | apply below_alloc | apply pw_below_drewN | apply below_drew1 | refine below_set ?_ GE529.out) | exact HB.out)) hb); clear BK529; clear HB; have BK529 := n0_; have HB := n1_; clear n0_ n1_; (try clear hb); (try clear hb2); (try clear hk); (try clear hi)))
  go_ret
  exact ⟨by first | rfl | (simp [errW_none, errW_some] <;> rfl) | (simp [*, errW_none, errW_some] <;> rfl), by repeat (first | (with_reducible first | exact HB.out | apply below_alloc | apply pw_below_drewN | apply below_drew1 | refine below_set ?_ GE529.out) | exact HB.out)⟩
 ·replace c3 := Bool.eq_false_iff.mpr c3
  subst c3
  have H1 : (some 33) = some r := by rw [if_neg (show ¬ (false = true) by decide)] at H; exact H
  clear H
  have H := H1
  clear H1
  obtain rfl := Option.some.inj H
  go_enter Try.func51, Try.ntmps51
  go_wp2_with (first | ((with_reducible refine gate_dst (N := 1) rfl ?_); refine box_event ?hg (N := 1) ?hd (cs := #[.int .i64 a0_0, .int .i64 a0_1]) (t := 26) ?hr ?_; (case hd => rfl); (case hg => rfl); (case hr => first | (go_simp; done) | (go_simp; rfl)); intro gb529 hg w7 hbox hb; have n0_ := pA (below_step (vB HB) hb); have n1_ := pA (hbox); have n2_ := pA ((by rw [hg]; exact (below_size (vB HB)) : w.heap.size ≤ gb529)); have n3_ := pA ((by rw [hg]; exact (below_size (vB HB)) : w.heap.size ≤ gb529)); clear HB; have HB := n0_; have BK529 := n1_; have GW529 := n2_; have GE529 := n3_; clear n0_ n1_ n2_ n3_; clear hb hbox hg; have hcz8_0 : w7.cell? ⟨gb529, 0, none⟩ = some (.int .i64 a0_0) := (blk_cell BK529.out 0).trans rfl; have hcz8_1 : w7.cell? ⟨gb529, 1, none⟩ = some (.int .i64 a0_1) := (blk_cell BK529.out 1).trans rfl; have hfz8_0 := blk_frozen BK529.out 0; have hfz8_1 := blk_frozen BK529.out 1) | ((with_reducible refine aF (f := 85) rfl ?_); refine goesL_ (some 4) rfl rfl Try.func85 (by kernel_rfl) rfl #[.agg #[.int .i64 a0_0, .int .i64 a0_1]] rfl (by (try simp only [pE, pF, pG]); first | done | rfl | (simp only [pH, pI]; rfl)) ?_; (with_reducible refine (bung_isSpot.calls a0_0 a0_1 false _ A2.out).mono ?_); rintro e w9 ⟨rfl, hb⟩; refine ⟨_, rfl, ?_⟩; have n0_ := pA (blk_below (g := gb529) (o := .cells #[.int .i64 a0_0, .int .i64 a0_1] 26 (0, 0)) (vK BK529) hb); have n1_ := pA (below_step (by repeat (first | (with_reducible first | exact HB.out | apply below_alloc | apply pw_below_drewN | apply below_drew1 | refine below_set ?_ GE529.out) | exact HB.out)) hb); clear BK529; clear HB; have BK529 := n0_; have HB := n1_; clear n0_ n1_; (try clear hb); (try clear hb2); (try clear hk); (try clear hi)))
  go_ret
  exact ⟨by first | rfl | (simp [errW_none, errW_some] <;> rfl) | (simp [*, errW_none, errW_some] <;> rfl), by repeat (first | (with_reducible first | exact HB.out | apply below_alloc | apply pw_below_drewN | apply below_drew1 | refine below_set ?_ GE529.out) | exact HB.out)⟩
def potbankref03_CheckSpot.f (a0_0 : Int) (a0_1 : Int) : Option (Int) := (potbankref03_In.f a0_0 0 400000).bind fun t235 => (if t235 = true then ((potbankref03_In.f a0_1 0 100000).bind fun t236 => (if t236 = true then (some 0) else (some 33))) else (some 33))
set_option maxHeartbeats 8000000 in
set_option maxRecDepth 100000 in
theorem potbankref03_CheckSpot.calls (a0_0 : Int) (a0_1 : Int) (r : Int) (w : World) (h : potbankref03_CheckSpot.f a0_0 a0_1 = some r) :
  Calls Try.prog 52 #[.agg #[.int .i64 a0_0, .int .i64 a0_1]] w fun e w' => e = .returned (.int .i64 r) ∧ Below w.heap.size w w' := by
 have hu26 := Try.underlying26
 have HB := pA (Below.refl w.heap.size w)
 have H : ((potbankref03_In.f a0_0 0 400000).bind fun t235 => (if t235 = true then ((potbankref03_In.f a0_1 0 100000).bind fun t236 => (if t236 = true then (some 0) else (some 33))) else (some 33))) = some r := h
 clear h
 replace H := Option.bind_eq_some_iff.mp H
 obtain ⟨t235, A20, H⟩ := H
 replace H : (if t235 = true then ((potbankref03_In.f a0_1 0 100000).bind fun t236 => (if t236 = true then (some 0) else (some 33))) else (some 33)) = some r := H
 have A2 := pA A20
 clear A20
 by_cases c3 : t235 = true
 ·subst c3
  have H1 : ((potbankref03_In.f a0_1 0 100000).bind fun t236 => (if t236 = true then (some 0) else (some 33))) = some r := by rw [if_pos rfl] at H; exact H
  clear H
  have H := H1
  clear H1
  replace H := Option.bind_eq_some_iff.mp H
  obtain ⟨t236, A40, H⟩ := H
  replace H : (if t236 = true then (some 0) else (some 33)) = some r := H
  have A4 := pA A40
  clear A40
  by_cases c5 : t236 = true
  ·subst c5
   have H1 : (some 0) = some r := by rw [if_pos rfl] at H; exact H
   clear H
   have H := H1
   clear H1
   obtain rfl := Option.some.inj H
   go_enter Try.func52, Try.ntmps52
   go_wp2_with (first | ((with_reducible refine gate_dst (N := 1) rfl ?_); refine box_event ?hg (N := 1) ?hd (cs := #[.int .i64 a0_0, .int .i64 a0_1]) (t := 26) ?hr ?_; (case hd => rfl); (case hg => rfl); (case hr => first | (go_simp; done) | (go_simp; rfl)); intro gb234 hg w6 hbox hb; have n0_ := pA (below_step (vB HB) hb); have n1_ := pA (hbox); have n2_ := pA ((by rw [hg]; exact (below_size (vB HB)) : w.heap.size ≤ gb234)); have n3_ := pA ((by rw [hg]; exact (below_size (vB HB)) : w.heap.size ≤ gb234)); clear HB; have HB := n0_; have BK234 := n1_; have GW234 := n2_; have GE234 := n3_; clear n0_ n1_ n2_ n3_; clear hb hbox hg; have hcz7_0 : w6.cell? ⟨gb234, 0, none⟩ = some (.int .i64 a0_0) := (blk_cell BK234.out 0).trans rfl; have hcz7_1 : w6.cell? ⟨gb234, 1, none⟩ = some (.int .i64 a0_1) := (blk_cell BK234.out 1).trans rfl; have hfz7_0 := blk_frozen BK234.out 0; have hfz7_1 := blk_frozen BK234.out 1) | ((with_reducible refine aF (f := 101) rfl ?_); refine goesL_ (some 5) rfl rfl Try.func101 (by kernel_rfl) rfl #[.int .i64 a0_0, .int .i64 0, .int .i64 400000] rfl (by (try simp only [pE, pF, pG]); first | done | rfl | (simp only [pH, pI]; rfl)) ?_; (with_reducible refine (potbankref03_In.calls a0_0 0 400000 true _ A2.out).mono ?_); rintro e w' ⟨rfl, ⟨nd, rfl⟩⟩; refine ⟨_, rfl, ?_⟩) | (go_at_call 101; (with_reducible refine (potbankref03_In.calls a0_1 0 100000 true _ A4.out).mono ?_); rintro e w' ⟨rfl, ⟨nd, rfl⟩⟩))
   go_ret
   exact ⟨by first | rfl | (simp [errW_none, errW_some] <;> rfl) | (simp [*, errW_none, errW_some] <;> rfl), by repeat (first | (with_reducible first | exact HB.out | apply below_alloc | apply pw_below_drewN | apply below_drew1 | refine below_set ?_ GE234.out) | exact HB.out)⟩
  ·replace c5 := Bool.eq_false_iff.mpr c5
   subst c5
   have H1 : (some 33) = some r := by rw [if_neg (show ¬ (false = true) by decide)] at H; exact H
   clear H
   have H := H1
   clear H1
   obtain rfl := Option.some.inj H
   go_enter Try.func52, Try.ntmps52
   go_wp2_with (first | ((with_reducible refine gate_dst (N := 1) rfl ?_); refine box_event ?hg (N := 1) ?hd (cs := #[.int .i64 a0_0, .int .i64 a0_1]) (t := 26) ?hr ?_; (case hd => rfl); (case hg => rfl); (case hr => first | (go_simp; done) | (go_simp; rfl)); intro gb234 hg w8 hbox hb; have n0_ := pA (below_step (vB HB) hb); have n1_ := pA (hbox); have n2_ := pA ((by rw [hg]; exact (below_size (vB HB)) : w.heap.size ≤ gb234)); have n3_ := pA ((by rw [hg]; exact (below_size (vB HB)) : w.heap.size ≤ gb234)); clear HB; have HB := n0_; have BK234 := n1_; have GW234 := n2_; have GE234 := n3_; clear n0_ n1_ n2_ n3_; clear hb hbox hg; have hcz9_0 : w8.cell? ⟨gb234, 0, none⟩ = some (.int .i64 a0_0) := (blk_cell BK234.out 0).trans rfl; have hcz9_1 : w8.cell? ⟨gb234, 1, none⟩ = some (.int .i64 a0_1) := (blk_cell BK234.out 1).trans rfl; have hfz9_0 := blk_frozen BK234.out 0; have hfz9_1 := blk_frozen BK234.out 1) | ((with_reducible refine aF (f := 101) rfl ?_); refine goesL_ (some 5) rfl rfl Try.func101 (by kernel_rfl) rfl #[.int .i64 a0_0, .int .i64 0, .int .i64 400000] rfl (by (try simp only [pE, pF, pG]); first | done | rfl | (simp only [pH, pI]; rfl)) ?_; (with_reducible refine (potbankref03_In.calls a0_0 0 400000 true _ A2.out).mono ?_); rintro e w' ⟨rfl, ⟨nd, rfl⟩⟩; refine ⟨_, rfl, ?_⟩) | (go_at_call 101; (with_reducible refine (potbankref03_In.calls a0_1 0 100000 false _ A4.out).mono ?_); rintro e w' ⟨rfl, ⟨nd, rfl⟩⟩))
   go_ret
   exact ⟨by first | rfl | (simp [errW_none, errW_some] <;> rfl) | (simp [*, errW_none, errW_some] <;> rfl), by repeat (first | (with_reducible first | exact HB.out | apply below_alloc | apply pw_below_drewN | apply below_drew1 | refine below_set ?_ GE234.out) | exact HB.out)⟩
 ·replace c3 := Bool.eq_false_iff.mpr c3
  subst c3
  have H1 : (some 33) = some r := by rw [if_neg (show ¬ (false = true) by decide)] at H; exact H
  clear H
  have H := H1
  clear H1
  obtain rfl := Option.some.inj H
  go_enter Try.func52, Try.ntmps52
  go_wp2_with (first | ((with_reducible refine gate_dst (N := 1) rfl ?_); refine box_event ?hg (N := 1) ?hd (cs := #[.int .i64 a0_0, .int .i64 a0_1]) (t := 26) ?hr ?_; (case hd => rfl); (case hg => rfl); (case hr => first | (go_simp; done) | (go_simp; rfl)); intro gb234 hg w10 hbox hb; have n0_ := pA (below_step (vB HB) hb); have n1_ := pA (hbox); have n2_ := pA ((by rw [hg]; exact (below_size (vB HB)) : w.heap.size ≤ gb234)); have n3_ := pA ((by rw [hg]; exact (below_size (vB HB)) : w.heap.size ≤ gb234)); clear HB; have HB := n0_; have BK234 := n1_; have GW234 := n2_; have GE234 := n3_; clear n0_ n1_ n2_ n3_; clear hb hbox hg; have hcz11_0 : w10.cell? ⟨gb234, 0, none⟩ = some (.int .i64 a0_0) := (blk_cell BK234.out 0).trans rfl; have hcz11_1 : w10.cell? ⟨gb234, 1, none⟩ = some (.int .i64 a0_1) := (blk_cell BK234.out 1).trans rfl; have hfz11_0 := blk_frozen BK234.out 0; have hfz11_1 := blk_frozen BK234.out 1) | ((with_reducible refine aF (f := 101) rfl ?_); refine goesL_ (some 5) rfl rfl Try.func101 (by kernel_rfl) rfl #[.int .i64 a0_0, .int .i64 0, .int .i64 400000] rfl (by (try simp only [pE, pF, pG]); first | done | rfl | (simp only [pH, pI]; rfl)) ?_; (with_reducible refine (potbankref03_In.calls a0_0 0 400000 false _ A2.out).mono ?_); rintro e w' ⟨rfl, ⟨nd, rfl⟩⟩; refine ⟨_, rfl, ?_⟩))
  go_ret
  exact ⟨by first | rfl | (simp [errW_none, errW_some] <;> rfl) | (simp [*, errW_none, errW_some] <;> rfl), by repeat (first | (with_reducible first | exact HB.out | apply below_alloc | apply pw_below_drewN | apply below_drew1 | refine below_set ?_ GE234.out) | exact HB.out)⟩
def bung_sum.l0 : Nat → List (S23) → Int → Int → Int → Int → Option (Int × Int)
  | 0, _, _, _, _, _ => none
  | k + 1, x6, x7, x8, x104000, x104001 => if x8 < x7 then (if 0 ≤ x8 then (if x8 < (x6.length : Int) then (bung_sum.l0 k x6 x7 (wrap64 (x8 + 1)) (wrap64 (x104000 + ((rd_T23 x6 x8).f0))) (wrap64 (x104001 + ((rd_T23 x6 x8).f1)))) else (none)) else (none)) else (some (x104000, x104001))
def bung_sum.f (k : Nat) (l0 : List (S23)) : Option (Int × Int) := bung_sum.l0 k l0 (l0.length : Int) 0 0 0
theorem bung_sum.mono_l : ∀ k, (∀ y0 y1 y2 y3 y4, LeO (bung_sum.l0 k y0 y1 y2 y3 y4) (bung_sum.l0 (k + 1) y0 y1 y2 y3 y4))
 | 0 => fun _ _ _ _ _ r h => by simp [bung_sum.l0] at h
 | k + 1 => by
  have ih0 := bung_sum.mono_l k
  ·intro y0 y1 y2 y3 y4
   unfold bung_sum.l0
   repeat' first
   | (with_reducible exact ih0 _ _ _ _ _)
   | (with_reducible exact LeO.refl _)
   | (with_reducible exact LeO.none _)
   | (with_reducible refine LeO.ite ?_ ?_)
   | (with_reducible refine LeO.bind ?_ (fun _ => ?_))
   | exact ih0 _ _ _ _ _
   | exact LeO.none _
   | refine LeO.ite ?_ ?_
   | refine LeO.bind ?_ (fun _ => ?_)
theorem bung_sum.mono : ∀ a0 k, LeO (bung_sum.f k a0) (bung_sum.f (k + 1) a0) := by
 intro a0 k
 have ih0 := bung_sum.mono_l k
 unfold bung_sum.f
 repeat' first
   | (with_reducible exact ih0 _ _ _ _ _)
   | (with_reducible exact LeO.refl _)
   | (with_reducible exact LeO.none _)
   | (with_reducible refine LeO.ite ?_ ?_)
   | (with_reducible refine LeO.bind ?_ (fun _ => ?_))
   | exact ih0 _ _ _ _ _
   | exact LeO.none _
   | refine LeO.ite ?_ ?_
   | refine LeO.bind ?_ (fun _ => ?_)
set_option maxHeartbeats 8000000 in
set_option maxRecDepth 100000 in
theorem bung_sum.calls (k : Nat) (A0 : Option Addr) (c0 : Nat) (l0 : List (S23)) (r1 : Int) (r2 : Int) (w : World) (hr0 : Kd.C k23 w A0 l0.length l0) (hc0 : l0.length ≤ c0) (h : bung_sum.f k l0 = some (r1, r2)) :
  Calls Try.prog 129 #[.slice A0 l0.length c0] w fun e w' => e = .returned (.agg #[.int .i64 r1, .int .i64 r2]) ∧ Below w.heap.size w w' := by
 have hu23 := Try.underlying23
 have HR0 := pA hr0
 have HC0 := pA hc0
 clear hr0 hc0
 have HB := pA (Below.refl w.heap.size w)
 have H : (bung_sum.l0 k l0 (l0.length : Int) 0 0 0) = some (r1, r2) := h
 clear h
 have H' := pA H
 clear H
 go_enter Try.func129, Try.ntmps129
 go_wp2_with (first | ((with_reducible refine gate_dst (N := 2) rfl ?_); refine box_event ?hg (N := 2) ?hd (cs := #[.int .i64 0, .int .i64 0]) (t := 23) ?hr ?_; (case hd => rfl); (case hg => rfl); (case hr => first | (go_simp; done) | (go_simp; rfl)); intro gb102 hg w2 hbox hb; have n0_ := pA (below_step (vB HB) hb); have n1_ := pA (hbox); have n2_ := pA ((by rw [hg]; exact (below_size (vB HB)) : w.heap.size ≤ gb102)); have n3_ := pA ((by rw [hg]; exact (below_size (vB HB)) : w.heap.size ≤ gb102)); clear HB; have HB := n0_; have BK102 := n1_; have GW102 := n2_; have GE102 := n3_; clear n0_ n1_ n2_ n3_; clear hb hbox hg) | ((with_reducible refine gate_dst (N := 3) rfl ?_); refine box_event ?hg (N := 3) ?hd (cs := #[.int .i64 0, .int .i64 0]) (t := 23) ?hr ?_; (case hd => rfl); (case hg => rfl); (case hr => first | (go_simp; done) | (go_simp; rfl)); intro gb103 hg w3 hbox hb; have n0_ := pA (blk_below (g := gb102) (o := .cells #[.int .i64 0, .int .i64 0] 23 (0, 0)) (vK BK102) hb); have n1_ := pA (below_step (by repeat (first | (with_reducible first | exact HB.out | apply below_alloc | apply pw_below_drewN | apply below_drew1 | refine below_set ?_ GE102.out) | exact HB.out)) hb); have n2_ := pA (hbox); have n3_ := pA ((by rw [hg]; exact (below_size (by repeat (first | (with_reducible first | exact HB.out | apply below_alloc | apply pw_below_drewN | apply below_drew1 | refine below_set ?_ GE102.out) | exact HB.out))) : w.heap.size ≤ gb103)); have n4_ := pA ((by rw [hg]; exact (below_size (by repeat (first | (with_reducible first | exact HB.out | apply below_alloc | apply pw_below_drewN | apply below_drew1 | refine below_set ?_ GE102.out) | exact HB.out))) : w.heap.size ≤ gb103)); have n5_ := pA ((by rw [hg]; exact Nat.ne_of_lt (blk_lt (g := gb102) (o := .cells #[.int .i64 0, .int .i64 0] 23 (0, 0)) (vK BK102)) : gb102 ≠ gb103)); have n6_ := pA ((by rw [hg]; exact Nat.ne_of_gt (blk_lt (g := gb102) (o := .cells #[.int .i64 0, .int .i64 0] 23 (0, 0)) (vK BK102)) : gb103 ≠ gb102)); clear BK102; clear HB; have BK102 := n0_; have HB := n1_; have BK103 := n2_; have GW103 := n3_; have GE103 := n4_; have NB102_103 := n5_; have NB103_102 := n6_; clear n0_ n1_ n2_ n3_ n4_ n5_ n6_; clear hb hbox hg))
 go_loopg [8] k (fun kq v8 w' => ∃ (x8_1 : Int) (x104000_1 : Int) (x104001_1 : Int), v8 = .int .i64 x8_1 ∧ Aside0 (bung_sum.l0 kq l0 (l0.length : Int) x8_1 x104000_1 x104001_1 = some (r1, r2)) ∧ Aside0 (kq ≤ k) ∧ Aside0 (w'.heap[gb102]? = some (.cells #[.int .i64 0, .int .i64 0] 23 (0, 0))) ∧ Aside0 (w'.heap[gb103]? = some (.cells #[.int .i64 x104000_1, .int .i64 x104001_1] 23 (0, 0))) ∧ Aside0 (Below w.heap.size w w'))
 case atStart => exact ⟨(0), (0), (0), (by first | rfl | (simp; done) | (simp [*]; done)), H', ⟨Nat.le_refl _⟩, ⟨by (with_reducible repeat refine vS ?_); exact BK102.out⟩, ⟨by (with_reducible repeat refine vS ?_); exact BK103.out⟩, ⟨by repeat (first | (with_reducible first | exact HB.out | apply below_alloc | apply pw_below_drewN | apply below_drew1 | refine below_set ?_ GE102.out | refine below_set ?_ GE103.out) | exact HB.out)⟩⟩
 case round =>
  clear H'
  try clear c1
  try clear p2
  obtain ⟨x8_1, x104000_1, x104001_1, rfl, HA, HK1, BK102, BK103, HB⟩ := hrel
  cases gk with
  | zero => exact absurd HA.out (by simp [bung_sum.l0])
  | succ k1 =>
   have H := HA.out
   clear HA
   simp only [bung_sum.l0] at H
   by_cases c4 : x8_1 < (l0.length : Int)
   ·rw [if_pos c4] at H
    have c4b0 : decide (x8_1 < (l0.length : Int)) = true := decide_eq_true c4
    clear c4
    by_cases c5 : 0 ≤ x8_1
    ·rw [if_pos c5] at H
     have c5b0 : decide (0 ≤ x8_1) = true := decide_eq_true c5
     clear c5
     by_cases c6 : x8_1 < (l0.length : Int)
     ·rw [if_pos c6] at H
      have c6b0 : decide (x8_1 < (l0.length : Int)) = true := decide_eq_true c6
      clear c6
      have H' := pA H
      clear H
      have p104 : 0 ≤ (x8_1 : Int) := of_decide_eq_true (by first | (with_reducible assumption) | assumption)
      have q104 : x8_1 < (l0.length : Int) := of_decide_eq_true (by first | (with_reducible assumption) | assumption)
      obtain ⟨ad104, e104, hx104_0, hx104_1⟩ := at_T23 HR0.out x8_1 p104 q104
      cases e104
      replace hx104_0 := vC HB hx104_0
      replace hx104_1 := vC HB hx104_1
      replace p104 := eq_true p104
      replace q104 := eq_true q104
      go_wp2_with (first | ((with_reducible refine gate_dst (N := 5) rfl ?_); refine box_event ?hg (N := 5) ?hd (cs := #[.int .i64 0, .int .i64 0]) (t := 23) ?hr ?_; (case hd => rfl); (case hg => rfl); (case hr => first | (go_simp; done) | (go_simp; rfl)); intro gb105 hg w7 hbox hb; have n0_ := pA (blk_below (g := gb102) (o := .cells #[.int .i64 0, .int .i64 0] 23 (0, 0)) (vK BK102) hb); have n1_ := pA (blk_below (g := gb103) (o := .cells #[.int .i64 x104000_1, .int .i64 x104001_1] 23 (0, 0)) (vK BK103) hb); have n2_ := pA (below_step (by repeat (first | (with_reducible first | exact HB.out | apply below_alloc | apply pw_below_drewN | apply below_drew1 | refine below_set ?_ GE102.out | refine below_set ?_ GE103.out) | exact HB.out)) hb); have n3_ := pA (hbox); have n4_ := pA ((by rw [hg]; exact (below_size (by repeat (first | (with_reducible first | exact HB.out | apply below_alloc | apply pw_below_drewN | apply below_drew1 | refine below_set ?_ GE102.out | refine below_set ?_ GE103.out) | exact HB.out))) : w.heap.size ≤ gb105)); have n5_ := pA ((by rw [hg]; exact (below_size (by repeat (first | (with_reducible first | exact HB.out | apply below_alloc | apply pw_below_drewN | apply below_drew1 | refine below_set ?_ GE102.out | refine below_set ?_ GE103.out) | exact HB.out))) : w.heap.size ≤ gb105)); have n6_ := pA ((by rw [hg]; exact Nat.ne_of_lt (blk_lt (g := gb102) (o := .cells #[.int .i64 0, .int .i64 0] 23 (0, 0)) (vK BK102)) : gb102 ≠ gb105)); have n7_ := pA ((by rw [hg]; exact Nat.ne_of_gt (blk_lt (g := gb102) (o := .cells #[.int .i64 0, .int .i64 0] 23 (0, 0)) (vK BK102)) : gb105 ≠ gb102)); have n8_ := pA ((by rw [hg]; exact Nat.ne_of_lt (blk_lt (g := gb103) (o := .cells #[.int .i64 x104000_1, .int .i64 x104001_1] 23 (0, 0)) (vK BK103)) : gb103 ≠ gb105)); have n9_ := pA ((by rw [hg]; exact Nat.ne_of_gt (blk_lt (g := gb103) (o := .cells #[.int .i64 x104000_1, .int .i64 x104001_1] 23 (0, 0)) (vK BK103)) : gb105 ≠ gb103)); clear BK102; clear BK103; clear HB; have BK102 := n0_; have BK103 := n1_; have HB := n2_; have BK105 := n3_; have GW105 := n4_; have GE105 := n5_; have NB102_105 := n6_; have NB105_102 := n7_; have NB103_105 := n8_; have NB105_103 := n9_; clear n0_ n1_ n2_ n3_ n4_ n5_ n6_ n7_ n8_ n9_; clear hb hbox hg; have hnb8 := NB105_102.out; have hnc8 := NB102_105.out; have hnb9 := NB105_103.out; have hnc9 := NB103_105.out; have hcz10_0 : w7.cell? ⟨gb105, 0, none⟩ = some (.int .i64 0) := (blk_cell BK105.out 0).trans rfl; have hcz10_1 : w7.cell? ⟨gb105, 1, none⟩ = some (.int .i64 0) := (blk_cell BK105.out 1).trans rfl; have hfz10_0 := blk_frozen BK105.out 0; have hfz10_1 := blk_frozen BK105.out 1; have hnb11 := NB103_102.out; have hnc11 := NB102_103.out; have hcz12_0 : w7.cell? ⟨gb103, 0, none⟩ = some (.int .i64 x104000_1) := (blk_cell BK103.out 0).trans rfl; have hcz12_1 : w7.cell? ⟨gb103, 1, none⟩ = some (.int .i64 x104001_1) := (blk_cell BK103.out 1).trans rfl; have hfz12_0 := blk_frozen BK103.out 0; have hfz12_1 := blk_frozen BK103.out 1))
      go_roundg k1
      case measure => have := HK1.out; omega
      case rel => exact ⟨(wrap64 (x8_1 + 1)), (wrap64 (x104000_1 + ((rd_T23 l0 x8_1).f0))), (wrap64 (x104001_1 + ((rd_T23 l0 x8_1).f1))), (by first | rfl | (simp; done) | (simp [*]; done)), H', ⟨by have := HK1.out; omega⟩, ⟨by (with_reducible repeat refine vS ?_); refine blk_far ?_ NB102_103.out _; (with_reducible repeat refine vS ?_); refine blk_far ?_ NB102_103.out _; (with_reducible repeat refine vS ?_); refine blk_far ?_ NB102_105.out _; (with_reducible repeat refine vS ?_); refine blk_far ?_ NB102_105.out _; (with_reducible repeat refine vS ?_); exact BK102.out⟩, ⟨by (with_reducible repeat refine vS ?_); refine blk_put (cs := #[.int .i64 (wrap64 (x104000_1 + ((rd_T23 l0 x8_1).f0))), .int .i64 x104001_1]) ?_ 1 _ rfl; (with_reducible repeat refine vS ?_); refine blk_put (cs := #[.int .i64 x104000_1, .int .i64 x104001_1]) ?_ 0 _ rfl; (with_reducible repeat refine vS ?_); refine blk_far ?_ NB103_105.out _; (with_reducible repeat refine vS ?_); refine blk_far ?_ NB103_105.out _; (with_reducible repeat refine vS ?_); exact BK103.out⟩, ⟨by repeat (first | (with_reducible first | exact HB.out | apply below_alloc | apply pw_below_drewN | apply below_drew1 | refine below_set ?_ GE102.out | refine below_set ?_ GE103.out | refine below_set ?_ GE105.out) | exact HB.out)⟩⟩
     ·rw [if_neg c6] at H
      exact absurd H (by simp)
    ·rw [if_neg c5] at H
     exact absurd H (by simp)
   ·rw [if_neg c4] at H
    have c4b0 : decide (x8_1 < (l0.length : Int)) = false := decide_eq_false c4
    clear c4
    simp only [Option.some.injEq, Prod.mk.injEq] at H
    obtain ⟨rfl, rfl⟩ := H
    have hnb13 := NB103_102.out
    have hnc13 := NB102_103.out
    have hcz14_0 : wr.cell? ⟨gb103, 0, none⟩ = some (.int .i64 x104000_1) := (blk_cell BK103.out 0).trans rfl
    have hcz14_1 : wr.cell? ⟨gb103, 1, none⟩ = some (.int .i64 x104001_1) := (blk_cell BK103.out 1).trans rfl
    have hfz14_0 := blk_frozen BK103.out 0
    have hfz14_1 := blk_frozen BK103.out 1
    have hcz15_0 : wr.cell? ⟨gb102, 0, none⟩ = some (.int .i64 0) := (blk_cell BK102.out 0).trans rfl
    have hcz15_1 : wr.cell? ⟨gb102, 1, none⟩ = some (.int .i64 0) := (blk_cell BK102.out 1).trans rfl
    have hfz15_0 := blk_frozen BK102.out 0
    have hfz15_1 := blk_frozen BK102.out 1
    go_wp2
    refine bodyPost_ret (results_cell_row rfl _ _ gb102 23 #[.int .i64 x104000_1, .int .i64 x104001_1] (0, 0) _ rfl (by (with_reducible repeat refine vS ?_); refine blk_put (cs := #[.int .i64 x104000_1, .int .i64 0]) ?_ 1 _ rfl; (with_reducible repeat refine vS ?_); refine blk_put (cs := #[.int .i64 0, .int .i64 0]) ?_ 0 _ rfl; (with_reducible repeat refine vS ?_); exact BK102.out) Try.underlying23 rfl (by kernel_rfl)) rfl ?_
    exact ⟨by first | rfl | (simp [errW_none, errW_some] <;> rfl) | (simp [*, errW_none, errW_some] <;> rfl), by repeat (first | (with_reducible first | exact HB.out | apply below_alloc | apply pw_below_drewN | apply below_drew1 | refine below_set ?_ GE102.out | refine below_set ?_ GE103.out) | exact HB.out)⟩
/-- At most 30 valid saggars (of whatever Ids). -/
def okSome (l : List S52) : Bool := decide (l.length ≤ 30) && l.all vSag
/-- The weights of all together. -/
def sumW : List S52 → S23
 | [] => ⟨0, 0⟩
 | s :: t => ⟨(sumW t).f0 + s.f1.f0, (sumW t).f1 + s.f1.f1⟩
/-- The loads of all courses. -/
def loadsOf : List S52 → List S23
 | [] => []
 | _ :: t => sumW t :: loadsOf t
theorem loadsOf_length (l : List S52) : (loadsOf l).length = l.length := by
 induction l with
 | nil => rfl
 | cons s t ih => simp [loadsOf, ih]
theorem loadsOf_get (l : List S52) (i : Nat) (h : i < l.length) : (loadsOf l)[i]? = some (sumW (l.drop (i + 1))) := by
 induction l generalizing i with
 | nil => simp at h
 | cons s t ih =>
  cases i with
  | zero => simp [loadsOf]
  | succ i =>
   simp only [loadsOf, List.getElem?_cons_succ, List.drop_succ_cons]
   exact ih i (by simpa using h)
theorem sumW_drop (l : List S52) (i : Nat) (h : i < l.length) : sumW (l.drop i) = ⟨(sumW (l.drop (i + 1))).f0 + (rd_T52 l i).f1.f0, (sumW (l.drop (i + 1))).f1 + (rd_T52 l i).f1.f1⟩ := by
 rw [List.drop_eq_getElem_cons h]
 have e : rd_T52 l i = l[i] := by simp [rd_T52, List.getD_eq_getElem?_getD, h]
 rw [e]
 rfl
theorem sumW_bd (l : List S52) (h : l.all vSag = true) : 0 ≤ (sumW l).f0 ∧ (sumW l).f0 ≤ (sumW l).f1 ∧ (sumW l).f1 ≤ 10000000 * l.length := by
 induction l with
 | nil => simp [sumW]
 | cons s t ih =>
  simp only [List.all_cons, Bool.and_eq_true] at h
  have h1 := ih h.2
  have h2 := h.1
  simp only [vSag, decide_eq_true_eq] at h2
  simp only [sumW, List.length_cons]
  omega
def bung_loads.f (l0 : List S52) : Option (List S23) := if okSome l0 = true then some (loadsOf l0) else none
theorem sum_two (a b : S23) (ha : 0 ≤ a.f0 ∧ a.f0 ≤ 1000000000 ∧ 0 ≤ a.f1 ∧ a.f1 ≤ 1000000000) (hb : 0 ≤ b.f0 ∧ b.f0 ≤ 1000000000 ∧ 0 ≤ b.f1 ∧ b.f1 ≤ 1000000000) :
  bung_sum.f 3 [a, b] = some (a.f0 + b.f0, a.f1 + b.f1) := by
 simp [bung_sum.f, bung_sum.l0, rd_T23, wrap64]
 omega
theorem down_calls (A : Option Addr) (n c : Nat) (w : World) : Calls Try.prog 130 #[.slice A n c] w fun e w' => e = .returned (.func (.func 145) #[] #[.pointer (some ⟨w.heap.size, 0, none⟩)]) ∧ w.alloc (.cells #[.slice A n c] 24) = w' := by
 go_enter Try.func130, Try.ntmps130
 go_wp2
 go_ret
 exact ⟨rfl, rfl⟩
/-- What comes: the courses from the top, with their loads. -/
def downs (l : List S52) : Nat → List (Int × S23)
 | 0 => []
 | k + 1 => downs l k ++ [(((l.length : Int) - (k + 1)), sumW (l.drop (l.length - k)))]
theorem downs_prefix (l : List S52) (k n : Nat) (h : k ≤ n) : downs l k <+: downs l n := by
 induction n with
 | zero =>
  obtain rfl : k = 0 := by omega
  exact List.prefix_refl _
 | succ n ih =>
  by_cases e : k = n + 1
  ·subst e
   exact List.prefix_refl _
  ·exact (ih (by omega)).trans (List.prefix_append _ _)
def encDown (x : Int × S23) : Array Value := #[.int .i64 x.1, .agg #[.int .i64 x.2.f0, .int .i64 x.2.f1]]
theorem grownBy_set (W : World) (b j : Nat) (v : Value) : W.grownBy (W.setCell ⟨b, j, none⟩ v) (some b) :=
  ⟨rfl, rfl, rfl, by simp, fun k _ hk => Below.heap_setCell W ⟨b, j, none⟩ v k (fun e => hk (by rw [e]))⟩
theorem all_drop {l : List S52} (h : l.all vSag = true) (i : Nat) : (l.drop i).all vSag = true := by
  rw [List.all_eq_true] at h ⊢
  exact fun x hx => h x (List.mem_of_mem_drop hx)
theorem all_at {l : List S52} (h : l.all vSag = true) {i : Int} (h0 : 0 ≤ i) (h1 : i < l.length) : vSag (rd_T52 l i) = true := by
 rw [List.all_eq_true] at h
 have hl : i.toNat < l.length := by omega
 have e : rd_T52 l i = l[i.toNat] := by simp [rd_T52, List.getD_eq_getElem?_getD, hl]
 rw [e]
 exact h _ (List.getElem_mem hl)
theorem C_two (a b : S23) (W : World) : Kd.C k23 (W.alloc (.cells #[.int .i64 a.f0, .int .i64 a.f1, .int .i64 b.f0, .int .i64 b.f1] 23)) (some ⟨W.heap.size, 0, none⟩) 2 [a, b] := by
 refine ⟨rfl, by decide, fun _ => ⟨_, rfl, fun j p hj => ?_⟩⟩
 have hc : ∀ i : Nat, (W.alloc (.cells #[.int .i64 a.f0, .int .i64 a.f1, .int .i64 b.f0, .int .i64 b.f1] 23)).cell? ⟨W.heap.size, i, none⟩ = #[Value.int .i64 a.f0, .int .i64 a.f1, .int .i64 b.f0, .int .i64 b.f1][i]? := fun i => blk_cell (by simpa using heap_alloc_new W _) i
 rcases j with _ | _ | j
 ·obtain rfl : a = p := by simpa using hj
  refine ⟨_, rfl, k23_mk _ _, fun i u hi => ?_⟩
  rw [add_plain]
  rcases i with _ | _ | i
  ·exact (hc _).trans hi
  ·exact (hc _).trans hi
  ·simp at hi
 ·obtain rfl : b = p := by simpa using hj
  refine ⟨_, rfl, k23_mk _ _, fun i u hi => ?_⟩
  rw [add_plain]
  rcases i with _ | _ | i
  ·exact (hc _).trans hi
  ·exact (hc _).trans hi
  ·simp at hi
 ·simp at hj
end Go.Proofs.Ytbiakjgjedhjhaa.P
namespace Go.Proofs.Ytbiakjgjedhjhaa.P
open Go.RowKit Go.Proofs.YtbiakjgjedhjhaaW.PrintWords Go.Proofs.YtbiakjgjedhjhaaW.PrintLast
attribute [local go_sem] Oper.semAt_some
set_option maxHeartbeats 4000000 in
set_option maxRecDepth 100000 in
theorem down_stops (A : Option Addr) (c : Nat) (l : List S52) (w : World) (kp : Nat → Prop) (Bs : Nat) (hl : okSome l = true) (hBs : kp Bs) (hw : Bs < w.heap.size) (hbox : w.heap[Bs]? = some (.cells #[.slice A l.length c] 24 (0, 0))) (n₀ : Nat) (hn₀ : ∀ k, k < n₀ → kp k) (hkw : ∀ k, kp k → k < w.heap.size)
  (w0 : World) (hw0 : w0.heap.size = n₀) (hC : Kd.C k52 w0 A l.length l) (hb0 : Below n₀ w0 w) :
  Rng.SeqN 1 kp Try.prog 145 #[.pointer (some ⟨Bs, 0, none⟩)] encDown (downs l l.length) w := by
 intro lp J Jx W hW hJ hJx hY h0
 simp only [okSome, Bool.and_eq_true, decide_eq_true_eq] at hl
 have HL := pA hl
 have HC := pA hC
 have HJ := pA hJ
 have HY := pA hY
 have H0 := pA h0
 have HBs := pA hBs
 have HN := pA hn₀
 have HB0 := pA (show Below n₀ w0 W from hb0.trans (hW.mono (by rw [← hw0]; exact hb0.size)))
 have HX := pA ((hW.block Bs hw).trans hbox)
 have HWS := pA (Nat.lt_of_lt_of_le hw hW.size)
 have HW0 := pA hw0
 have HKW := pA (fun k hk => Nat.lt_of_lt_of_le (hkw k hk) hW.size : ∀ k, kp k → k < W.heap.size)
 clear hl hC hJ hJx hY h0 hBs hn₀ hb0 hbox hw hW hw0
 refine callsIn_of_wp Try.func145 rfl trivial ?_ rfl
 simp only [Try.ntmps145, List.size_toArray, List.length_cons, List.length_nil, Nat.reduceAdd, Nat.reduceSub, Array.replicate_succ, Array.replicate_zero, List.push_toArray, List.append_toArray, List.nil_append, List.cons_append]
 have hc0 : ∀ o, (W.alloc o).cell? ⟨Bs, 0, none⟩ = some (.slice A l.length c) := fun o => (((Below.refl W.heap.size W).alloc (Nat.le_refl _) o).cell (p := ⟨Bs, 0, none⟩) HWS.out).trans ((blk_cell HX.out 0).trans rfl)
 gi_wp2
 clear hc0
 gi_loopw [4] (fun v4 wr => ∃ (x : Int) (k : Nat), v4 = .int .i64 x ∧ Aside0 (x = (l.length : Int) - 1 - k ∧ k ≤ l.length) ∧ Aside0 (J (downs l k) wr) ∧ Aside0 (wr.heap[W.heap.size]? = some (.cells #[.int .i64 (sumW (l.drop (l.length - k))).f0, .int .i64 (sumW (l.drop (l.length - k))).f1] 23 (0, 0))) ∧ Aside0 (Rng.Keep kp W wr) ∧ Aside0 (W.heap.size + 1 ≤ wr.heap.size)) (fun v4 _ => (intOf v4 + 1).toNat)
 case atStart =>
  refine ⟨_, 0, rfl, ⟨⟨?_, Nat.zero_le _⟩⟩, ⟨HJ.out _ _ _ none H0.out (World.grownBy_alloc W _ none) (fun r e => by cases e)⟩, ⟨?_⟩, ⟨Rng.Keep.of_below ((Below.refl W.heap.size W).alloc (Nat.le_refl _) _) HKW.out⟩, ⟨by simp⟩⟩
  ·have := HL.out.1
   unfold wrap64
   omega
  ·simpa [sumW] using heap_alloc_new W _
 case round =>
  obtain ⟨x, k, rfl, HK, HJk, HLd, HKp, HS⟩ := hrel
  have hcL0 : wr.cell? ⟨W.heap.size, 0, none⟩ = some (.int .i64 (sumW (l.drop (l.length - k))).f0) := (blk_cell HLd.out 0).trans rfl
  have hcL1 : wr.cell? ⟨W.heap.size, 1, none⟩ = some (.int .i64 (sumW (l.drop (l.length - k))).f1) := (blk_cell HLd.out 1).trans rfl
  by_cases hx : 0 ≤ x
  ·have hxb : decide (0 ≤ x) = true := decide_eq_true hx
   have hkn : k < l.length := by have := HK.out; omega
   obtain ⟨fn, tmps, assign, body, hy, hR⟩ := HY.out (downs l k) (x, sumW (l.drop (l.length - k))) wr HJk.out (by rw [show x = (l.length : Int) - (k + 1) from by have := HK.out; omega]; exact downs_prefix l (k + 1) l.length (by omega)) HS.out
   dsimp only [encDown] at hy
   gi_wp2
   refine hR.mono ?_
   rintro e W3 (⟨rfl, hJ3, hk3, hn3⟩ | ⟨rfl, hJx3⟩)
   ·have HJ3 := pA hJ3
    have HK3 := pA (HKp.out.trans hk3)
    have HL3 := pA ((hn3 W.heap.size (Nat.le_refl _) (by omega)).trans HLd.out)
    have HX3 := pA ((HK3.out.block Bs HBs.out).trans HX.out)
    have HS3 := pA (Nat.le_trans HS.out hk3.size)
    have HC3 := pA (Kd.C_below HC.out (show Below w0.heap.size w0 W3 by rw [HW0.out]; exact HB0.out.trans (HK3.out.below HN.out)))
    clear hJ3 hk3 hn3 hy hR hcL0 hcL1
    obtain ⟨ad, e, x0, x1, x2, x3, x4, x5, x6, x7⟩ := at_T52 HC3.out x hx (by have := HK.out; omega)
    cases e
    have hd0 : W3.cell? ⟨W.heap.size, 0, none⟩ = some (.int .i64 (sumW (l.drop (l.length - k))).f0) := (blk_cell HL3.out 0).trans rfl
    have hd1 : W3.cell? ⟨W.heap.size, 1, none⟩ = some (.int .i64 (sumW (l.drop (l.length - k))).f1) := (blk_cell HL3.out 1).trans rfl
    have hd2 : W3.cell? ⟨Bs, 0, none⟩ = some (.slice (some ad) l.length c) := (blk_cell HX3.out 0).trans rfl
    have p1 : (0 ≤ x) = True := eq_true hx
    have p2 : (x < (l.length : Int)) = True := eq_true (by have := HK.out; omega)
    gi_wp2
    refine wpIn_wide.2 ?_
    go_still_tail 6, (by kernel_rfl)
    go_wp2_with fail
    have hs2 := sum_two (sumW (l.drop (l.length - k))) (rd_T52 l x).f1 (by have := sumW_bd (l.drop (l.length - k)) (all_drop HL.out.2 _); have h2 := List.length_drop (l := l) (i := l.length - k); have h3 := HL.out.1; omega) (by have := all_at HL.out.2 (i := x) hx (by have := HK.out; omega); simp only [vSag, decide_eq_true_eq] at this; omega)
    refine (bung_sum.calls 3 _ _ [sumW (l.drop (l.length - k)), (rd_T52 l x).f1] _ _ _ (Kd.C_drew (C_two _ _ _)) (Nat.le_refl _) hs2).mono ?_
    rintro e w4 ⟨rfl, hb4⟩
    have hb5 : Below W3.heap.size W3 w4 := below_step (below_drew (below_alloc (Below.refl _ _) _)) hb4
    have HL4 := pA (blk_below (blk_drew (blk_alloc HL3.out _)) hb4)
    have HJ4 := pA (HJ.out _ _ w4 none HJ3.out (grown_of_below hb5 none) (fun r e => by cases e))
    have HK4 := pA (HK3.out.trans (Rng.Keep.of_below hb5 (fun k hk => Nat.lt_of_lt_of_le (HKW.out k hk) (by have := HS3.out; omega))))
    have HS4 := pA (Nat.le_trans HS3.out hb5.size)
    have y0 := blk_cell HL4.out 0
    have y1 := blk_cell HL4.out 1
    have y2 := blk_frozen HL4.out 0
    have y3 := blk_frozen HL4.out 1
    clear hb4 hb5 hs2 x0 x1 x2 x3 x4 x5 x6 x7 hd0 hd1 hd2
    go_wp2
    gi_wp2
    have hm : ∀ y : Int, y = x - 1 → (y + 1).toNat < (x + 1).toNat := fun y hy => by omega
    have hw1 : wrap64 (x - 1) = x - 1 := by have := HK.out; have := HL.out.1; unfold wrap64; omega
    go_roundw
    case measure => simp [intOf]; omega
    case rel =>
     refine ⟨x - 1, k + 1, by first | rfl | rw [hw1], ⟨by have := HK.out; omega⟩, ⟨?_⟩, ⟨?_⟩, ⟨?_⟩, ⟨by simpa using HS4.out⟩⟩
     ·have hj : J (downs l (k + 1)) w4 := by
       have := HJ4.out
       rw [show (x, sumW (l.drop (l.length - k))) = (((l.length : Int) - (k + 1)), sumW (l.drop (l.length - k))) from by rw [show x = (l.length : Int) - (k + 1) from by have := HK.out; omega]] at this
       exact this
      refine HJ.out _ _ _ (some W.heap.size) (HJ.out _ _ _ (some W.heap.size) hj (grownBy_set _ _ _ _) ?_) (grownBy_set _ _ _ _) ?_ <;> exact fun r e => by cases e; omega
     ·have e1 : sumW (l.drop (l.length - (k + 1))) = ⟨(sumW (l.drop (l.length - k))).f0 + (rd_T52 l x).f1.f0, (sumW (l.drop (l.length - k))).f1 + (rd_T52 l x).f1.f1⟩ := by
       have := sumW_drop l (l.length - (k + 1)) (by omega)
       rw [show l.length - (k + 1) + 1 = l.length - k from by omega, show ((l.length - (k + 1) : Nat) : Int) = x from by have := HK.out; omega] at this
       exact this
      rw [e1]
      exact blk_put (blk_put HL4.out 0 _ rfl) 1 _ rfl
     ·exact HK4.out.trans ((Rng.Keep.grown (grownBy_set _ _ _ _) (fun k hk => Nat.lt_of_lt_of_le (HKW.out k hk) (by have := HS4.out; omega)) (fun k hk e => by cases e; exact Nat.lt_irrefl _ (HKW.out _ hk))).trans (Rng.Keep.grown (grownBy_set _ _ _ _) (fun k hk => by simpa using Nat.lt_of_lt_of_le (HKW.out k hk) (by have := HS4.out; omega)) (fun k hk e => by cases e; exact Nat.lt_irrefl _ (HKW.out _ hk))))
   ·gi_wp2
    refine bodyPost_ret (results_none rfl _ _ _) rfl ?_
    exact ⟨⟨_, rfl⟩, .inr ⟨_, by rw [show x = (l.length : Int) - (k + 1) from by have := HK.out; omega]; exact downs_prefix l (k + 1) l.length (by omega), hJx3⟩⟩
  ·have hxb : decide (0 ≤ x) = false := decide_eq_false hx
   gi_wp2
   go_end0
   exact ⟨⟨_, rfl⟩, .inl (by rw [show l.length = k from by have := HK.out; omega]; exact HJk.out)⟩
/-- The cells of ranges. -/
def flatR (xs : List S23) : List Value := xs.flatMap fun x => [.int .i64 x.f0, .int .i64 x.f1]
theorem flatR_length (xs : List S23) : (flatR xs).length = 2 * xs.length := by
 induction xs with
 | nil => rfl
 | cons x t ih => simp [flatR] at ih ⊢; omega
theorem flatR_get (xs : List S23) (i : Nat) (x : S23) (h : xs[i]? = some x) : (flatR xs)[2 * i]? = some (.int .i64 x.f0) ∧ (flatR xs)[2 * i + 1]? = some (.int .i64 x.f1) := by
 induction xs generalizing i with
 | nil => simp at h
 | cons y t ih =>
  cases i with
  | zero =>
   obtain rfl : y = x := by simpa using h
   simp [flatR]
  | succ i =>
   have := ih i (by simpa using h)
   simp only [flatR, List.flatMap_cons, List.cons_append, List.nil_append] at this ⊢
   rw [show 2 * (i + 1) = (2 * i) + 1 + 1 from by omega]
   simpa using this
theorem flatR_set (xs : List S23) (i : Nat) (x : S23) (h : i < xs.length) : flatR (xs.set i x) = ((flatR xs).set (2 * i) (.int .i64 x.f0)).set (2 * i + 1) (.int .i64 x.f1) := by
 induction xs generalizing i with
 | nil => simp at h
 | cons y t ih =>
  cases i with
  | zero => simp [flatR]
  | succ i =>
   have := ih i (by simpa using h)
   simp only [flatR, List.set_cons_succ, List.flatMap_cons, List.cons_append, List.nil_append] at this ⊢
   rw [show 2 * (i + 1) = (2 * i) + 1 + 1 from by omega, this]
   simp
theorem flatR_reps (xs : List S23) (W : World) (base : Nat) (ok : Nat → Prop) : Reps (k23.M W base ok) 2 xs (flatR xs) := by
 refine ⟨by rw [flatR_length]; omega, fun j p hj => ?_⟩
 have hl := (List.getElem?_eq_some_iff.1 hj).1
 obtain ⟨h1, h2⟩ := flatR_get xs j p hj
 have e : ((flatR xs).drop (j * 2)).take 2 = [.int .i64 p.f0, .int .i64 p.f1] := by
  apply List.ext_getElem?
  intro i
  rcases i with _ | _ | i
  ·simp [List.getElem?_take, List.getElem?_drop, Nat.mul_comm j 2, h1]
  ·simp [List.getElem?_take, List.getElem?_drop, Nat.mul_comm j 2, h2]
  ·simp [List.getElem?_take]
   omega
 rw [e]
 exact k23_mkM _ _ _ _
theorem R_of_block {W : World} {base g : Nat} {xs : List S23} (hg : base ≤ g) (hm : xs.length ≤ 9223372036854775807) (h : W.heap[g]? = some (.cells (flatR xs).toArray 23 (0, 0))) :
  Kd.R k23 23 W base (fun _ => True) (.slice (some ⟨g, 0, none⟩) xs.length xs.length) xs := by
 refine ⟨fun _ _ => trivial, flatR xs, ⟨?_, .inr ⟨g, xs.length, (flatR xs).toArray, rfl, hg, h, Nat.le_refl _, by simpa [maxLen] using hm, ?_, ?_⟩⟩, ?_⟩
 ·rw [flatR_length, Nat.mul_comm]
  rfl
 ·rw [List.size_toArray, flatR_length, Nat.mul_comm]
  rfl
 ·rw [List.take_of_length_le]
  show (flatR xs).length ≤ xs.length * 2
  rw [flatR_length]
  omega
 ·exact flatR_reps xs W base _
/-- The loads that are known behind k courses, from the top: the others are 0. -/
def outAt (l : List S52) (k : Nat) : List S23 := List.replicate (l.length - k) ⟨0, 0⟩ ++ (loadsOf l).drop (l.length - k)
theorem outAt_length (l : List S52) (k : Nat) : (outAt l k).length = l.length := by
  simp [outAt, loadsOf_length]
theorem outAt_zero (l : List S52) : outAt l 0 = List.replicate l.length ⟨0, 0⟩ := by
  simp [outAt, ← loadsOf_length l]
theorem outAt_all (l : List S52) : outAt l l.length = loadsOf l := by simp [outAt]
theorem outAt_step (l : List S52) (k : Nat) (h : k < l.length) : (outAt l k).set (l.length - (k + 1)) (sumW (l.drop (l.length - k))) = outAt l (k + 1) := by
 have e1 : l.length - k = (l.length - (k + 1)) + 1 := by omega
 have e2 := loadsOf_get l (l.length - (k + 1)) (by omega)
 rw [← e1] at e2
 have hl := loadsOf_length l
 generalize sumW (l.drop (l.length - k)) = s at *
 have e3 : (loadsOf l).drop (l.length - (k + 1)) = s :: (loadsOf l).drop (l.length - k) := by
  have h4 : l.length - (k + 1) < (loadsOf l).length := by omega
  rw [List.drop_eq_getElem_cons h4]
  rw [List.getElem?_eq_getElem h4] at e2
  rw [Option.some.inj e2, ← e1]
 unfold outAt
 rw [e3, List.set_append, if_pos (by simp; omega)]
 have e5 : (List.replicate (l.length - k) (⟨0, 0⟩ : S23)).set (l.length - (k + 1)) s = List.replicate (l.length - (k + 1)) ⟨0, 0⟩ ++ [s] := by
  rw [e1, List.replicate_succ', List.set_append, if_neg (by simp)]
  simp
 rw [e5]
 simp
theorem downs_length (l : List S52) (k : Nat) : (downs l k).length = k := by
 induction k with
 | zero => rfl
 | succ k ih => simp [downs, ih]
theorem downs_of_prefix (l : List S52) {pre : List (Int × S23)} (h : pre <+: downs l l.length) : pre = downs l pre.length := by
  have h2 := downs_prefix l pre.length l.length (by have := h.length_le; rw [downs_length] at this; exact this)
  exact (List.prefix_of_prefix_length_le h h2 (by rw [downs_length]; exact Nat.le_refl _)).eq_of_length (by rw [downs_length])
theorem downs_snoc (l : List S52) {pre : List (Int × S23)} {x : Int × S23} (h : (pre ++ [x]) <+: downs l l.length) :
  pre.length < l.length ∧ x = (((l.length : Int) - (pre.length + 1)), sumW (l.drop (l.length - pre.length))) := by
 have hp : pre = downs l pre.length := downs_of_prefix l ((List.prefix_append _ _).trans h)
 have hx : pre ++ [x] = downs l (pre.length + 1) := by
  have := downs_of_prefix l h
  simpa using this
 have hle := h.length_le
 rw [downs_length] at hle
 simp at hle
 refine ⟨by omega, ?_⟩
 rw [downs] at hx
 have := List.append_inj_right hx (by rw [downs_length])
 simpa using this
theorem made_flat (n : Nat) : madeCells (Value.agg #[.int .i64 0, .int .i64 0]).cells (n * 2) = (flatR (List.replicate n ⟨0, 0⟩)).toArray := by
 have e : flatR (List.replicate n ⟨0, 0⟩) = List.replicate (n * 2) (.int .i64 0) := by
  induction n with
  | zero => rfl
  | succ n ih =>
   rw [List.replicate_succ]
   show [_, _] ++ flatR (List.replicate n ⟨0, 0⟩) = _
   rw [ih, show (n + 1) * 2 = n * 2 + 1 + 1 from by omega, List.replicate_succ, List.replicate_succ]
   rfl
 rw [e]
 apply Array.ext
 ·simp [size_madeCells]
 ·intro i h1 h2
  have : i % 2 = 0 ∨ i % 2 = 1 := by omega
  rcases this with h | h <;> simp [madeCells, Value.cells, h]
end Go.Proofs.Ytbiakjgjedhjhaa.P
