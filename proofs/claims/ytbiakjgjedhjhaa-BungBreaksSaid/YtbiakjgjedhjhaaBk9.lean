/- Proved: the law BungBreaks of the program potbank answers true for every input, and leaves its arguments as they were. Conditions: none. (Part 9 of the texts, put together by wip/assemble.py of this repository.) -/
import Derived.Test.YtbiakjgjedhjhaaBk8
set_option linter.unusedVariables false
set_option linter.unusedSimpArgs false
namespace Go.Proofs.Ytbiakjgjedhjhaa.P
open Go.RowKit Go.Proofs.YtbiakjgjedhjhaaW.PrintWords Go.Proofs.YtbiakjgjedhjhaaW.PrintLast
theorem aH (w : World) (n : Nat) : w.drewN n = w.drewN n := rfl
set_option maxHeartbeats 8000000 in
set_option maxRecDepth 100000 in
theorem bung_isBreak.calls (k : Nat) (A0 : Option Addr) (c0 : Nat) (l0 : List (S52)) (a1_0 : Int) (a1_1 : Int) (A1_2 : Option Addr) (c1_2 : Nat) (l1_2 : List Int) (r : Bool) (w : World) (hr0 : Kd.C k52 w A0 l0.length l0) (hc0 : l0.length ≤ c0) (hr1_2 : Kd.C (Kd.int .i64) w A1_2 l1_2.length l1_2) (hc1_2 : l1_2.length ≤ c1_2) (h : bung_isBreak.f k l0 a1_0 a1_1 l1_2 = some r) :
  Calls Try.prog 105 #[.slice A0 l0.length c0, .agg #[.int .i64 a1_0, .int .i64 a1_1, .slice A1_2 l1_2.length c1_2]] w fun e w' => e = .returned (.bool r) ∧ Below w.heap.size w w' := by
 have hu75 := Try.underlying75
 have hu23 := Try.underlying23
 have HR0 := pA hr0
 have HC0 := pA hc0
 clear hr0 hc0
 have HR1_2 := pA hr1_2
 have HC1_2 := pA hc1_2
 clear hr1_2 hc1_2
 have HB := pA (Below.refl w.heap.size w)
 have H : ((bung_within.f a1_0 0 (wrap64 ((l0.length : Int) - 1))).bind fun t555 => (if t555 = true then (if 0 ≤ (wrap64 (a1_0 + 1)) then (if (wrap64 (a1_0 + 1)) ≤ (l0.length : Int) then ((some (l0.drop ((wrap64 (a1_0 + 1)) : Int).toNat : List (S52))).bind fun y556 => (if 0 ≤ a1_0 then (if a1_0 < (l0.length : Int) then (if (l1_2.length : Int) = (y556.length : Int) then ((bung_within.f a1_1 ((rd_T52 l0 a1_0).f2.f0) ((rd_T52 l0 a1_0).f2.f1)).bind fun t562 => (bung_isBreak.j0 k y556 (!t562) a1_0 a1_1 l1_2)) else (bung_isBreak.j0 k y556 true a1_0 a1_1 l1_2)) else (none)) else (none))) else (none)) else (none)) else (some false))) = some r := h
 clear h
 replace H := Option.bind_eq_some_iff.mp H
 obtain ⟨t555, A30, H⟩ := H
 replace H : (if t555 = true then (if 0 ≤ (wrap64 (a1_0 + 1)) then (if (wrap64 (a1_0 + 1)) ≤ (l0.length : Int) then ((some (l0.drop ((wrap64 (a1_0 + 1)) : Int).toNat : List (S52))).bind fun y556 => (if 0 ≤ a1_0 then (if a1_0 < (l0.length : Int) then (if (l1_2.length : Int) = (y556.length : Int) then ((bung_within.f a1_1 ((rd_T52 l0 a1_0).f2.f0) ((rd_T52 l0 a1_0).f2.f1)).bind fun t562 => (bung_isBreak.j0 k y556 (!t562) a1_0 a1_1 l1_2)) else (bung_isBreak.j0 k y556 true a1_0 a1_1 l1_2)) else (none)) else (none))) else (none)) else (none)) else (some false)) = some r := H
 have A3 := pA A30
 clear A30
 by_cases c4 : t555 = true
 ·subst c4
  have H1 : (if 0 ≤ (wrap64 (a1_0 + 1)) then (if (wrap64 (a1_0 + 1)) ≤ (l0.length : Int) then ((some (l0.drop ((wrap64 (a1_0 + 1)) : Int).toNat : List (S52))).bind fun y556 => (if 0 ≤ a1_0 then (if a1_0 < (l0.length : Int) then (if (l1_2.length : Int) = (y556.length : Int) then ((bung_within.f a1_1 ((rd_T52 l0 a1_0).f2.f0) ((rd_T52 l0 a1_0).f2.f1)).bind fun t562 => (bung_isBreak.j0 k y556 (!t562) a1_0 a1_1 l1_2)) else (bung_isBreak.j0 k y556 true a1_0 a1_1 l1_2)) else (none)) else (none))) else (none)) else (none)) = some r := by rw [if_pos rfl] at H; exact H
  clear H
  have H := H1
  clear H1
  obtain ⟨ji5, hji5⟩ : ∃ j_ : Int, (wrap64 (a1_0 + 1)) = j_ := ⟨_, rfl⟩
  replace H : (if 0 ≤ (ji5) then (if (ji5) ≤ (l0.length : Int) then ((some (l0.drop ((ji5) : Int).toNat : List (S52))).bind fun y556 => (if 0 ≤ a1_0 then (if a1_0 < (l0.length : Int) then (if (l1_2.length : Int) = (y556.length : Int) then ((bung_within.f a1_1 ((rd_T52 l0 a1_0).f2.f0) ((rd_T52 l0 a1_0).f2.f1)).bind fun t562 => (bung_isBreak.j0 k y556 (!t562) a1_0 a1_1 l1_2)) else (bung_isBreak.j0 k y556 true a1_0 a1_1 l1_2)) else (none)) else (none))) else (none)) else (none)) = some r := by first | (rw [hji5] at H; exact H) | (simp only [hji5] at H ⊢; exact H)
  (try rw [hji5] at A3)
  have hji5w : (IntKind.i64.wrap (a1_0 + 1)) = ji5 := (i64_w _).trans hji5
  by_cases c6 : 0 ≤ (ji5)
  ·rw [if_pos c6] at H
   have c6b0 := eq_true c6
   have c6b1 : decide (0 ≤ (ji5)) = true := decide_eq_true c6
   clear c6
   by_cases c7 : (ji5) ≤ (l0.length : Int)
   ·rw [if_pos c7] at H
    have c7b0 := eq_true c7
    have c7b1 : decide ((ji5) ≤ (l0.length : Int)) = true := decide_eq_true c7
    clear c7
    obtain ⟨y556, hy556⟩ : ∃ y_ : List (S52), y_ = (l0.drop ((ji5) : Int).toNat) := ⟨_, rfl⟩
    replace H : (if 0 ≤ a1_0 then (if a1_0 < (l0.length : Int) then (if (l1_2.length : Int) = (y556.length : Int) then ((bung_within.f a1_1 ((rd_T52 l0 a1_0).f2.f0) ((rd_T52 l0 a1_0).f2.f1)).bind fun t562 => (bung_isBreak.j0 k y556 (!t562) a1_0 a1_1 l1_2)) else (bung_isBreak.j0 k y556 true a1_0 a1_1 l1_2)) else (none)) else (none)) = some r := by first | (rw [hy556]; with_reducible exact H) | (have H2_ := (Option.bind_some _ _).symm.trans H; rw [hy556]; with_reducible exact H2_) | (have H2_ := (Option.bind_some _ _).symm.trans H; with_reducible exact H2_) | with_reducible exact H | (rw [hy556]; exact H) | exact H
    have Ny556 := pA hy556
    clear hy556
    by_cases c8 : 0 ≤ a1_0
    ·rw [if_pos c8] at H
     have c8b0 : decide (0 ≤ a1_0) = true := decide_eq_true c8
     clear c8
     by_cases c9 : a1_0 < (l0.length : Int)
     ·rw [if_pos c9] at H
      have c9b0 : decide (a1_0 < (l0.length : Int)) = true := decide_eq_true c9
      clear c9
      have HC10 := pA H
      clear H
      go_enter Try.func105, Try.ntmps105
      try go_wp2_with (first | ((with_reducible refine gate_dst (N := 3) rfl ?_); refine box_event ?hg (N := 3) ?hd (cs := #[.int .i64 a1_0, .int .i64 a1_1, .slice A1_2 l1_2.length c1_2]) (t := 75) ?hr ?_; (case hd => rfl); (case hg => rfl); (case hr => first | (go_simp; done) | (go_simp; rfl)); intro gb554 hg w11 hbox hb; have n0_ := pA (below_step (vB HB) hb); have n1_ := pA (hbox); have n2_ := pA ((by rw [hg]; exact (below_size (vB HB)) : w.heap.size ≤ gb554)); have n3_ := pA ((by rw [hg]; exact (below_size (vB HB)) : w.heap.size ≤ gb554)); clear HB; have HB := n0_; have BK554 := n1_; have GW554 := n2_; have GE554 := n3_; clear n0_ n1_ n2_ n3_; clear hb hbox hg; have hcz12_0 : w11.cell? ⟨gb554, 0, none⟩ = some (.int .i64 a1_0) := (blk_cell BK554.out 0).trans rfl; have hcz12_1 : w11.cell? ⟨gb554, 1, none⟩ = some (.int .i64 a1_1) := (blk_cell BK554.out 1).trans rfl; have hcz12_2 : w11.cell? ⟨gb554, 2, none⟩ = some (.slice A1_2 l1_2.length c1_2) := (blk_cell BK554.out 2).trans rfl; have hfz12_0 := blk_frozen BK554.out 0; have hfz12_1 := blk_frozen BK554.out 1; have hfz12_2 := blk_frozen BK554.out 2) | ((with_reducible refine aF (f := 111) rfl ?_); refine goesL_ (some 15) rfl rfl Try.func111 (by kernel_rfl) rfl #[.int .i64 a1_0, .int .i64 0, .int .i64 (wrap64 ((l0.length : Int) - 1))] rfl (by (try simp only [pE, pF, pG]); first | done | rfl | (simp only [pH, pI]; rfl)) ?_; (with_reducible refine (bung_within.calls a1_0 0 (wrap64 ((l0.length : Int) - 1)) true _ A3.out).mono ?_); rintro e w' ⟨rfl, ⟨nd, rfl⟩⟩; refine ⟨_, rfl, ?_⟩; (try (rw [aH w11]; generalize hq_ : World.drewN w11 _ = w11; have n0_ : Aside0 (w11.heap[gb554]? = some (.cells #[.int .i64 a1_0, .int .i64 a1_1, .slice A1_2 l1_2.length c1_2] 75 (0, 0))) := ⟨by rw [← hq_]; exact (vK BK554)⟩; have n1_ : Aside0 (Below w.heap.size w w11) := ⟨by rw [← hq_]; exact (by repeat (first | (with_reducible first | exact HB.out | apply below_alloc | apply pw_below_drewN | apply below_drew1 | refine below_set ?_ GE554.out) | exact HB.out))⟩; clear BK554 HB hq_; have BK554 := n0_; have HB := n1_; clear n0_ n1_))))
      have n0_ := pA (blk_drew BK554.out)
      have n1_ := pA (below_drew1 HB.out)
      clear BK554
      clear HB
      have BK554 := n0_
      have HB := n1_
      clear n0_ n1_
      have q14 : ((ji5) : Int) ≤ ((l0.length : Int) : Int) := of_decide_eq_true (by first | (with_reducible assumption) | assumption)
      obtain ⟨i014, hi014, _, hsz14, _⟩ := info_parts info52
      have hroom14 : l0.length ≤ c0 := HC0.out
      have hC14 : Kd.C k52 _ A0 l0.length l0 := HR0.out
      have q014 : (0 : Int) ≤ ((ji5) : Int) := of_decide_eq_true (by first | (with_reducible assumption) | assumption)
      have hcut14 := cut_from (P := Try.prog) 24 52 .i64 Try.underlying24 hi014 8 hsz14 A0 l0.length c0 (ji5) q014 q14
      have hr14 := Kd.C_drop (m := ((ji5) : Int).toNat) (c := c0) hC14 (by omega) hroom14
      obtain ⟨A14, hA14⟩ : ∃ A1, A1 = (if c0 = ((ji5) : Int).toNat then A0 else (A0 : Option Addr).map (·.add (((ji5) : Int).toNat * 8))) := ⟨_, rfl⟩
      obtain ⟨c14, hc14⟩ : ∃ c1, c1 = c0 - ((ji5) : Int).toNat := ⟨_, rfl⟩
      have hy14 : y556.length = l0.length - ((ji5) : Int).toNat := (by rw [Ny556.out, List.length_drop] <;> omega)
      rw [show (l0).drop ((ji5) : Int).toNat = y556 from Ny556.out.symm] at hr14
      replace hr14 : Kd.C k52 _ A14 y556.length y556 := (by rw [hA14]; exact hr14)
      rw [← hy14, ← hA14, ← hc14] at hcut14
      have HR559 := pA hr14
      have HC559 := pA (show y556.length ≤ c14 from by rw [hy14, hc14]; exact Nat.sub_le_sub_right hroom14 _)
      clear hr14 hC14 hroom14 hi014 hsz14 hc14
      have KY14 := pA hy14
      have KA14 := pA hA14
      clear hy14 hA14
      replace q14 := eq_true q14
      have p560 : 0 ≤ (a1_0 : Int) := of_decide_eq_true (by first | (with_reducible assumption) | assumption)
      have q560 : a1_0 < (l0.length : Int) := of_decide_eq_true (by first | (with_reducible assumption) | assumption)
      obtain ⟨ad560, e560, hx560_0, hx560_1, hx560_2, hx560_3, hx560_4, hx560_5, hx560_6, hx560_7⟩ := at_T52 HR0.out a1_0 p560 q560
      have hw560_7 := hx560_7
      have hw560_6 := hx560_6
      have hw560_5 := hx560_5
      have hw560_4 := hx560_4
      have hw560_3 := hx560_3
      have hw560_2 := hx560_2
      have hw560_1 := hx560_1
      have hw560_0 := hx560_0
      cases e560
      replace hx560_0 := vC HB hx560_0
      replace hx560_1 := vC HB hx560_1
      replace hx560_2 := vC HB hx560_2
      replace hx560_3 := vC HB hx560_3
      replace hx560_4 := vC HB hx560_4
      replace hx560_5 := vC HB hx560_5
      replace hx560_6 := vC HB hx560_6
      replace hx560_7 := vC HB hx560_7
      replace p560 := eq_true p560
      replace q560 := eq_true q560
      refine start_ (n := 14) (S := fun w' => w'.cell? ⟨gb554, 0, none⟩ = some (.int .i64 a1_0) ∧ w'.cell? ⟨gb554, 1, none⟩ = some (.int .i64 a1_1) ∧ w'.cell? ⟨gb554, 2, none⟩ = some (.slice A1_2 l1_2.length c1_2) ∧ w'.cell? (ad560.add ((a1_0).toNat * 8)) = some (.int .i64 ((rd_T52 l0 a1_0).f0)) ∧ w'.cell? ⟨(ad560.add ((a1_0).toNat * 8)).block, (ad560.add ((a1_0).toNat * 8)).off + 1, none⟩ = some (.int .i64 ((rd_T52 l0 a1_0).f1.f0)) ∧ w'.cell? ⟨(ad560.add ((a1_0).toNat * 8)).block, (ad560.add ((a1_0).toNat * 8)).off + 2, none⟩ = some (.int .i64 ((rd_T52 l0 a1_0).f1.f1)) ∧ w'.cell? ⟨(ad560.add ((a1_0).toNat * 8)).block, (ad560.add ((a1_0).toNat * 8)).off + 3, none⟩ = some (.int .i64 ((rd_T52 l0 a1_0).f2.f0)) ∧ w'.cell? ⟨(ad560.add ((a1_0).toNat * 8)).block, (ad560.add ((a1_0).toNat * 8)).off + 4, none⟩ = some (.int .i64 ((rd_T52 l0 a1_0).f2.f1)) ∧ w'.cell? ⟨(ad560.add ((a1_0).toNat * 8)).block, (ad560.add ((a1_0).toNat * 8)).off + 5, none⟩ = some (.int .i64 ((rd_T52 l0 a1_0).f3.f0)) ∧ w'.cell? ⟨(ad560.add ((a1_0).toNat * 8)).block, (ad560.add ((a1_0).toNat * 8)).off + 6, none⟩ = some (.int .i64 ((rd_T52 l0 a1_0).f3.f1)) ∧ w'.cell? ⟨(ad560.add ((a1_0).toNat * 8)).block, (ad560.add ((a1_0).toNat * 8)).off + 7, none⟩ = some (.int .i64 ((rd_T52 l0 a1_0).f4))) (ds := []) #[false, false, false, false, false, false, false, false, false, false, false, false, false, false] (by kernel_rfl) rfl rfl ⟨(blk_cell BK554.out 0).trans rfl, (blk_cell BK554.out 1).trans rfl, (blk_cell BK554.out 2).trans rfl, (vD HB hw560_0), (vD HB hw560_1), (vD HB hw560_2), (vD HB hw560_3), (vD HB hw560_4), (vD HB hw560_5), (vD HB hw560_6), (vD HB hw560_7)⟩ (fun hHeld => ?_); refine with_tabW bung_isBreak.tab3 bung_isBreak.bits3 (fun HT_ HW_ => ?_)
      generalize w11.drew = w13 at BK554 HB HR559 hx560_0 hx560_1 hx560_2 hx560_3 hx560_4 hx560_5 hx560_6 hx560_7 hHeld ⊢
      refine pure_ (i := 0) (N := some 17) (v := ?_) (a' := ?_) #[true, false, false, false, false, false, false, false, false, false, false, false, false, false] rfl rfl (any_of HT_.out (by kernel_rfl)) (fun _ _ _ h => h) (Or.inl ⟨by rfl, ?_⟩) ?_ ?_
      rotate_left
      ·intro w'
       go_simp
       with_reducible rfl
      rotate_left
      ·simp only [Act.put, pB, pC, pD, i64_w, i32_w]
       rfl
      refine pure_ (i := 1) (N := some 18) (v := ?_) (a' := ?_) #[true, true, false, false, false, false, false, false, false, false, false, false, false, false] rfl rfl (any_of HT_.out (by kernel_rfl)) (fun _ _ _ h => h) (Or.inl ⟨by rfl, ?_⟩) ?_ ?_
      rotate_left
      ·intro w'
       go_simp
       with_reducible rfl
      rotate_left
      ·simp only [Act.put, pB, pC, pD, i64_w, i32_w]
       rfl
      refine pure_ (i := 5) (N := some 22) (v := ?_) (a' := ?_) #[true, true, false, false, false, true, false, false, false, false, false, false, false, false] rfl rfl (any_of HT_.out (by kernel_rfl)) (fun _ _ _ h => h) (Or.inl ⟨by rfl, ?_⟩) ?_ ?_
      rotate_left
      ·intro w'
       go_simp
       with_reducible rfl
      rotate_left
      ·simp only [Act.put, pB, pC, pD, i64_w, i32_w]
       rfl
      refine pure_ (i := 6) (N := some 23) (v := ?_) (a' := ?_) #[true, true, false, false, false, true, true, false, false, false, false, false, false, false] rfl rfl (any_of HT_.out (by kernel_rfl)) (fun _ _ _ h => h) (Or.inl ⟨by rfl, ?_⟩) ?_ ?_
      rotate_left
      ·intro w'
       go_simp
       with_reducible rfl
      rotate_left
      ·simp only [Act.put, pB, pC, pD, i64_w, i32_w]
       rfl
      refine take_ (i := 2) (N := some 19) (v := ?_) (a' := ?_) #[true, true, true, false, false, true, true, false, false, false, false, false, false, false] rfl rfl (take_ofW HT_.out HW_.out (by kernel_rfl)) (fun _ _ _ h => h) (Or.inl ⟨by rfl, ?_⟩) hHeld ?_ ?_
      rotate_left
      ·rintro w' ⟨s0, s1, s2, s3, s4, s5, s6, s7, s8, s9, s10⟩
       go_simp
       with_reducible rfl
      rotate_left
      ·simp only [Act.put, pB, pC, pD, i64_w, i32_w]
       rfl
      refine pure_ (i := 3) (N := some 20) (v := ?_) (a' := ?_) #[true, true, true, true, false, true, true, false, false, false, false, false, false, false] rfl rfl (any_of HT_.out (by kernel_rfl)) (fun _ _ _ h => h) (Or.inl ⟨by rfl, ?_⟩) ?_ ?_
      rotate_left
      ·intro w'
       go_simp
       with_reducible rfl
      rotate_left
      ·simp only [Act.put, pB, pC, pD, i64_w, i32_w]
       rfl
      refine pure_ (i := 4) (N := some 21) (v := ?_) (a' := ?_) #[true, true, true, true, true, true, true, false, false, false, false, false, false, false] rfl rfl (any_of HT_.out (by kernel_rfl)) (fun _ _ _ h => h) (Or.inl ⟨by rfl, ?_⟩) ?_ ?_
      rotate_left
      ·intro w'
       go_simp
       with_reducible rfl
      rotate_left
      ·simp only [Act.put, pB, pC, pD, i64_w, i32_w]
       rfl
      refine take_ (i := 7) (N := some 24) (v := ?_) (a' := ?_) #[true, true, true, true, true, true, true, true, false, false, false, false, false, false] rfl rfl (take_ofW HT_.out HW_.out (by kernel_rfl)) (fun _ _ _ h => h) (Or.inl ⟨by rfl, ?_⟩) hHeld ?_ ?_
      rotate_left
      ·rintro w' ⟨s0, s1, s2, s3, s4, s5, s6, s7, s8, s9, s10⟩
       go_simp
       with_reducible rfl
      rotate_left
      ·simp only [Act.put, pB, pC, pD, i64_w, i32_w]
       rfl
      refine pure_ (i := 8) (N := some 25) (v := ?_) (a' := ?_) #[true, true, true, true, true, true, true, true, true, false, false, false, false, false] rfl rfl (any_of HT_.out (by kernel_rfl)) (fun _ _ _ h => h) (Or.inl ⟨by rfl, ?_⟩) ?_ ?_
      rotate_left
      ·intro w'
       go_simp
       with_reducible rfl
      rotate_left
      ·simp only [Act.put, pB, pC, pD, i64_w, i32_w]
       rfl
      refine pure_ (i := 9) (N := some 26) (v := ?_) (a' := ?_) #[true, true, true, true, true, true, true, true, true, true, false, false, false, false] rfl rfl (any_of HT_.out (by kernel_rfl)) (fun _ _ _ h => h) (Or.inl ⟨by rfl, ?_⟩) ?_ ?_
      rotate_left
      ·intro w'
       go_simp
       with_reducible rfl
      rotate_left
      ·simp only [Act.put, pB, pC, pD, i64_w, i32_w]
       rfl
      refine take_ (i := 10) (N := some 27) (v := ?_) (a' := ?_) #[true, true, true, true, true, true, true, true, true, true, true, false, false, false] rfl rfl (take_ofW HT_.out HW_.out (by kernel_rfl)) (fun _ _ _ h => h) (Or.inl ⟨by rfl, ?_⟩) hHeld ?_ ?_
      rotate_left
      ·rintro w' ⟨s0, s1, s2, s3, s4, s5, s6, s7, s8, s9, s10⟩
       go_simp
       with_reducible rfl
      rotate_left
      ·simp only [Act.put, pB, pC, pD, i64_w, i32_w]
       rfl
      refine one_ (i := 11) (N := some 6) #[true, true, true, true, true, true, true, true, true, true, true, true, false, false] rfl rfl (one_of HT_.out (by kernel_rfl)) (by decide) (fun K hK => ?_)
      refine box_step ?hg (N := 6) ?hd (cs := #[.int .i64 0, .int .i64 0]) (t := 23) ?hr ?_; (case hd => rfl); (case hg => rfl); (case hr => first | (go_simp; done) | (go_simp; rfl))
      intro gb561 hg w15 hbox hb
      have n0_ := pA (blk_below (g := gb554) (o := .cells #[.int .i64 a1_0, .int .i64 a1_1, .slice A1_2 l1_2.length c1_2] 75 (0, 0)) (vK BK554) hb)
      have n1_ := pA (below_step (by repeat (first | (with_reducible first | exact HB.out | apply below_alloc | apply pw_below_drewN | apply below_drew1 | refine below_set ?_ GE554.out) | exact HB.out)) hb)
      have n2_ := pA (hbox)
      have n3_ := pA ((by rw [hg]; exact (below_size (by repeat (first | (with_reducible first | exact HB.out | apply below_alloc | apply pw_below_drewN | apply below_drew1 | refine below_set ?_ GE554.out) | exact HB.out))) : w.heap.size ≤ gb561))
      have n4_ := pA ((by rw [hg]; exact (below_size (by repeat (first | (with_reducible first | exact HB.out | apply below_alloc | apply pw_below_drewN | apply below_drew1 | refine below_set ?_ GE554.out) | exact HB.out))) : w.heap.size ≤ gb561))
      have n5_ := pA ((by rw [hg]; exact Nat.ne_of_lt (blk_lt (g := gb554) (o := .cells #[.int .i64 a1_0, .int .i64 a1_1, .slice A1_2 l1_2.length c1_2] 75 (0, 0)) (vK BK554)) : gb554 ≠ gb561))
      have n6_ := pA ((by rw [hg]; exact Nat.ne_of_gt (blk_lt (g := gb554) (o := .cells #[.int .i64 a1_0, .int .i64 a1_1, .slice A1_2 l1_2.length c1_2] 75 (0, 0)) (vK BK554)) : gb561 ≠ gb554))
      clear BK554
      clear HB
      have BK554 := n0_
      have HB := n1_
      have BK561 := n2_
      have GW561 := n3_
      have GE561 := n4_
      have NB554_561 := n5_
      have NB561_554 := n6_
      clear n0_ n1_ n2_ n3_ n4_ n5_ n6_
      clear hb hbox hg
      refine hK.out _ _ ⟨(blk_cell BK554.out 0).trans rfl, (blk_cell BK554.out 1).trans rfl, (blk_cell BK554.out 2).trans rfl, (vD HB hw560_0), (vD HB hw560_1), (vD HB hw560_2), (vD HB hw560_3), (vD HB hw560_4), (vD HB hw560_5), (vD HB hw560_6), (vD HB hw560_7)⟩ (fun hHeld => ?_)
      clear hK K
      refine norm_ (a' := ?_) ?_ ?_
      rotate_left
      ·show Act.put _ (some 6) _ = _
       simp only [Act.put, pB, pC, pD, i64_w, i32_w]
       rfl
      refine pure_ (i := 12) (N := some 5) (v := ?_) (a' := ?_) #[true, true, true, true, true, true, true, true, true, true, true, true, true, false] rfl rfl (any_of HT_.out (by kernel_rfl)) (fun _ _ _ h => h) (Or.inl ⟨by rfl, ?_⟩) ?_ ?_
      rotate_left
      ·intro w'
       go_simp
       with_reducible rfl
      rotate_left
      ·simp only [Act.put, pB, pC, pD, i64_w, i32_w]
       rfl
      refine one_ (i := 13) (N := none) #[true, true, true, true, true, true, true, true, true, true, true, true, true, true] rfl rfl (one_of HT_.out (by kernel_rfl)) (by decide) (fun K hK => ?_)
      have hs16 : w15.cell? ⟨gb561, 0, none⟩ = some (.int .i64 0) := (blk_cell BK561.out 0).trans rfl
      have hfs16 := blk_frozen BK561.out 0
      have hns16_0 := NB554_561.out
      have hms16_0 := NB561_554.out
      have hs17 : w15.cell? ⟨gb561, 1, none⟩ = some (.int .i64 0) := (blk_cell BK561.out 1).trans rfl
      have hfs17 := blk_frozen BK561.out 1
      have hns17_0 := NB554_561.out
      have hms17_0 := NB561_554.out
      refine skip_ (w1 := ?_) (by rfl) rfl ?_ ?_
      rotate_left
      ·go_simp
       rfl
      refine hK.out _ _ ⟨((cell_far (p := ⟨gb561, _, none⟩) NB554_561.out _).trans (((cell_far (p := ⟨gb561, _, none⟩) NB554_561.out _).trans (hHeld.1)))), ((cell_far (p := ⟨gb561, _, none⟩) NB554_561.out _).trans (((cell_far (p := ⟨gb561, _, none⟩) NB554_561.out _).trans (hHeld.2.1)))), ((cell_far (p := ⟨gb561, _, none⟩) NB554_561.out _).trans (((cell_far (p := ⟨gb561, _, none⟩) NB554_561.out _).trans (hHeld.2.2.1)))), ((cell_far (p := ⟨gb561, _, none⟩) (by first | exact Nat.ne_of_lt (Nat.lt_of_lt_of_le (by have := World.block_lt_of_cell? _ _ hw560_0; first | rwa [add_block] at this | exact this) GW561.out) | (rw [add_block]; exact Nat.ne_of_lt (Nat.lt_of_lt_of_le (by have := World.block_lt_of_cell? _ _ hw560_0; first | rwa [add_block] at this | exact this) GW561.out)) | (show (Addr.add _ _).block ≠ _; rw [add_block]; exact Nat.ne_of_lt (Nat.lt_of_lt_of_le (by have := World.block_lt_of_cell? _ _ hw560_0; first | rwa [add_block] at this | exact this) GW561.out)) | (dsimp only; exact Nat.ne_of_lt (Nat.lt_of_lt_of_le (by have := World.block_lt_of_cell? _ _ hw560_0; first | rwa [add_block] at this | exact this) GW561.out))) _).trans (((cell_far (p := ⟨gb561, _, none⟩) (by first | exact Nat.ne_of_lt (Nat.lt_of_lt_of_le (by have := World.block_lt_of_cell? _ _ hw560_0; first | rwa [add_block] at this | exact this) GW561.out) | (rw [add_block]; exact Nat.ne_of_lt (Nat.lt_of_lt_of_le (by have := World.block_lt_of_cell? _ _ hw560_0; first | rwa [add_block] at this | exact this) GW561.out)) | (show (Addr.add _ _).block ≠ _; rw [add_block]; exact Nat.ne_of_lt (Nat.lt_of_lt_of_le (by have := World.block_lt_of_cell? _ _ hw560_0; first | rwa [add_block] at this | exact this) GW561.out)) | (dsimp only; exact Nat.ne_of_lt (Nat.lt_of_lt_of_le (by have := World.block_lt_of_cell? _ _ hw560_0; first | rwa [add_block] at this | exact this) GW561.out))) _).trans (hHeld.2.2.2.1)))), ((cell_far (p := ⟨gb561, _, none⟩) (by first | exact Nat.ne_of_lt (Nat.lt_of_lt_of_le (by have := World.block_lt_of_cell? _ _ hw560_1; first | rwa [add_block] at this | exact this) GW561.out) | (rw [add_block]; exact Nat.ne_of_lt (Nat.lt_of_lt_of_le (by have := World.block_lt_of_cell? _ _ hw560_1; first | rwa [add_block] at this | exact this) GW561.out)) | (show (Addr.add _ _).block ≠ _; rw [add_block]; exact Nat.ne_of_lt (Nat.lt_of_lt_of_le (by have := World.block_lt_of_cell? _ _ hw560_1; first | rwa [add_block] at this | exact this) GW561.out)) | (dsimp only; exact Nat.ne_of_lt (Nat.lt_of_lt_of_le (by have := World.block_lt_of_cell? _ _ hw560_1; first | rwa [add_block] at this | exact this) GW561.out))) _).trans (((cell_far (p := ⟨gb561, _, none⟩) (by first | exact Nat.ne_of_lt (Nat.lt_of_lt_of_le (by have := World.block_lt_of_cell? _ _ hw560_1; first | rwa [add_block] at this | exact this) GW561.out) | (rw [add_block]; exact Nat.ne_of_lt (Nat.lt_of_lt_of_le (by have := World.block_lt_of_cell? _ _ hw560_1; first | rwa [add_block] at this | exact this) GW561.out)) | (show (Addr.add _ _).block ≠ _; rw [add_block]; exact Nat.ne_of_lt (Nat.lt_of_lt_of_le (by have := World.block_lt_of_cell? _ _ hw560_1; first | rwa [add_block] at this | exact this) GW561.out)) | (dsimp only; exact Nat.ne_of_lt (Nat.lt_of_lt_of_le (by have := World.block_lt_of_cell? _ _ hw560_1; first | rwa [add_block] at this | exact this) GW561.out))) _).trans (hHeld.2.2.2.2.1)))), ((cell_far (p := ⟨gb561, _, none⟩) (by first | exact Nat.ne_of_lt (Nat.lt_of_lt_of_le (by have := World.block_lt_of_cell? _ _ hw560_2; first | rwa [add_block] at this | exact this) GW561.out) | (rw [add_block]; exact Nat.ne_of_lt (Nat.lt_of_lt_of_le (by have := World.block_lt_of_cell? _ _ hw560_2; first | rwa [add_block] at this | exact this) GW561.out)) | (show (Addr.add _ _).block ≠ _; rw [add_block]; exact Nat.ne_of_lt (Nat.lt_of_lt_of_le (by have := World.block_lt_of_cell? _ _ hw560_2; first | rwa [add_block] at this | exact this) GW561.out)) | (dsimp only; exact Nat.ne_of_lt (Nat.lt_of_lt_of_le (by have := World.block_lt_of_cell? _ _ hw560_2; first | rwa [add_block] at this | exact this) GW561.out))) _).trans (((cell_far (p := ⟨gb561, _, none⟩) (by first | exact Nat.ne_of_lt (Nat.lt_of_lt_of_le (by have := World.block_lt_of_cell? _ _ hw560_2; first | rwa [add_block] at this | exact this) GW561.out) | (rw [add_block]; exact Nat.ne_of_lt (Nat.lt_of_lt_of_le (by have := World.block_lt_of_cell? _ _ hw560_2; first | rwa [add_block] at this | exact this) GW561.out)) | (show (Addr.add _ _).block ≠ _; rw [add_block]; exact Nat.ne_of_lt (Nat.lt_of_lt_of_le (by have := World.block_lt_of_cell? _ _ hw560_2; first | rwa [add_block] at this | exact this) GW561.out)) | (dsimp only; exact Nat.ne_of_lt (Nat.lt_of_lt_of_le (by have := World.block_lt_of_cell? _ _ hw560_2; first | rwa [add_block] at this | exact this) GW561.out))) _).trans (hHeld.2.2.2.2.2.1)))), ((cell_far (p := ⟨gb561, _, none⟩) (by first | exact Nat.ne_of_lt (Nat.lt_of_lt_of_le (by have := World.block_lt_of_cell? _ _ hw560_3; first | rwa [add_block] at this | exact this) GW561.out) | (rw [add_block]; exact Nat.ne_of_lt (Nat.lt_of_lt_of_le (by have := World.block_lt_of_cell? _ _ hw560_3; first | rwa [add_block] at this | exact this) GW561.out)) | (show (Addr.add _ _).block ≠ _; rw [add_block]; exact Nat.ne_of_lt (Nat.lt_of_lt_of_le (by have := World.block_lt_of_cell? _ _ hw560_3; first | rwa [add_block] at this | exact this) GW561.out)) | (dsimp only; exact Nat.ne_of_lt (Nat.lt_of_lt_of_le (by have := World.block_lt_of_cell? _ _ hw560_3; first | rwa [add_block] at this | exact this) GW561.out))) _).trans (((cell_far (p := ⟨gb561, _, none⟩) (by first | exact Nat.ne_of_lt (Nat.lt_of_lt_of_le (by have := World.block_lt_of_cell? _ _ hw560_3; first | rwa [add_block] at this | exact this) GW561.out) | (rw [add_block]; exact Nat.ne_of_lt (Nat.lt_of_lt_of_le (by have := World.block_lt_of_cell? _ _ hw560_3; first | rwa [add_block] at this | exact this) GW561.out)) | (show (Addr.add _ _).block ≠ _; rw [add_block]; exact Nat.ne_of_lt (Nat.lt_of_lt_of_le (by have := World.block_lt_of_cell? _ _ hw560_3; first | rwa [add_block] at this | exact this) GW561.out)) | (dsimp only; exact Nat.ne_of_lt (Nat.lt_of_lt_of_le (by have := World.block_lt_of_cell? _ _ hw560_3; first | rwa [add_block] at this | exact this) GW561.out))) _).trans (hHeld.2.2.2.2.2.2.1)))), ((cell_far (p := ⟨gb561, _, none⟩) (by first | exact Nat.ne_of_lt (Nat.lt_of_lt_of_le (by have := World.block_lt_of_cell? _ _ hw560_4; first | rwa [add_block] at this | exact this) GW561.out) | (rw [add_block]; exact Nat.ne_of_lt (Nat.lt_of_lt_of_le (by have := World.block_lt_of_cell? _ _ hw560_4; first | rwa [add_block] at this | exact this) GW561.out)) | (show (Addr.add _ _).block ≠ _; rw [add_block]; exact Nat.ne_of_lt (Nat.lt_of_lt_of_le (by have := World.block_lt_of_cell? _ _ hw560_4; first | rwa [add_block] at this | exact this) GW561.out)) | (dsimp only; exact Nat.ne_of_lt (Nat.lt_of_lt_of_le (by have := World.block_lt_of_cell? _ _ hw560_4; first | rwa [add_block] at this | exact this) GW561.out))) _).trans (((cell_far (p := ⟨gb561, _, none⟩) (by first | exact Nat.ne_of_lt (Nat.lt_of_lt_of_le (by have := World.block_lt_of_cell? _ _ hw560_4; first | rwa [add_block] at this | exact this) GW561.out) | (rw [add_block]; exact Nat.ne_of_lt (Nat.lt_of_lt_of_le (by have := World.block_lt_of_cell? _ _ hw560_4; first | rwa [add_block] at this | exact this) GW561.out)) | (show (Addr.add _ _).block ≠ _; rw [add_block]; exact Nat.ne_of_lt (Nat.lt_of_lt_of_le (by have := World.block_lt_of_cell? _ _ hw560_4; first | rwa [add_block] at this | exact this) GW561.out)) | (dsimp only; exact Nat.ne_of_lt (Nat.lt_of_lt_of_le (by have := World.block_lt_of_cell? _ _ hw560_4; first | rwa [add_block] at this | exact this) GW561.out))) _).trans (hHeld.2.2.2.2.2.2.2.1)))), ((cell_far (p := ⟨gb561, _, none⟩) (by first | exact Nat.ne_of_lt (Nat.lt_of_lt_of_le (by have := World.block_lt_of_cell? _ _ hw560_5; first | rwa [add_block] at this | exact this) GW561.out) | (rw [add_block]; exact Nat.ne_of_lt (Nat.lt_of_lt_of_le (by have := World.block_lt_of_cell? _ _ hw560_5; first | rwa [add_block] at this | exact this) GW561.out)) | (show (Addr.add _ _).block ≠ _; rw [add_block]; exact Nat.ne_of_lt (Nat.lt_of_lt_of_le (by have := World.block_lt_of_cell? _ _ hw560_5; first | rwa [add_block] at this | exact this) GW561.out)) | (dsimp only; exact Nat.ne_of_lt (Nat.lt_of_lt_of_le (by have := World.block_lt_of_cell? _ _ hw560_5; first | rwa [add_block] at this | exact this) GW561.out))) _).trans (((cell_far (p := ⟨gb561, _, none⟩) (by first | exact Nat.ne_of_lt (Nat.lt_of_lt_of_le (by have := World.block_lt_of_cell? _ _ hw560_5; first | rwa [add_block] at this | exact this) GW561.out) | (rw [add_block]; exact Nat.ne_of_lt (Nat.lt_of_lt_of_le (by have := World.block_lt_of_cell? _ _ hw560_5; first | rwa [add_block] at this | exact this) GW561.out)) | (show (Addr.add _ _).block ≠ _; rw [add_block]; exact Nat.ne_of_lt (Nat.lt_of_lt_of_le (by have := World.block_lt_of_cell? _ _ hw560_5; first | rwa [add_block] at this | exact this) GW561.out)) | (dsimp only; exact Nat.ne_of_lt (Nat.lt_of_lt_of_le (by have := World.block_lt_of_cell? _ _ hw560_5; first | rwa [add_block] at this | exact this) GW561.out))) _).trans (hHeld.2.2.2.2.2.2.2.2.1)))), ((cell_far (p := ⟨gb561, _, none⟩) (by first | exact Nat.ne_of_lt (Nat.lt_of_lt_of_le (by have := World.block_lt_of_cell? _ _ hw560_6; first | rwa [add_block] at this | exact this) GW561.out) | (rw [add_block]; exact Nat.ne_of_lt (Nat.lt_of_lt_of_le (by have := World.block_lt_of_cell? _ _ hw560_6; first | rwa [add_block] at this | exact this) GW561.out)) | (show (Addr.add _ _).block ≠ _; rw [add_block]; exact Nat.ne_of_lt (Nat.lt_of_lt_of_le (by have := World.block_lt_of_cell? _ _ hw560_6; first | rwa [add_block] at this | exact this) GW561.out)) | (dsimp only; exact Nat.ne_of_lt (Nat.lt_of_lt_of_le (by have := World.block_lt_of_cell? _ _ hw560_6; first | rwa [add_block] at this | exact this) GW561.out))) _).trans (((cell_far (p := ⟨gb561, _, none⟩) (by first | exact Nat.ne_of_lt (Nat.lt_of_lt_of_le (by have := World.block_lt_of_cell? _ _ hw560_6; first | rwa [add_block] at this | exact this) GW561.out) | (rw [add_block]; exact Nat.ne_of_lt (Nat.lt_of_lt_of_le (by have := World.block_lt_of_cell? _ _ hw560_6; first | rwa [add_block] at this | exact this) GW561.out)) | (show (Addr.add _ _).block ≠ _; rw [add_block]; exact Nat.ne_of_lt (Nat.lt_of_lt_of_le (by have := World.block_lt_of_cell? _ _ hw560_6; first | rwa [add_block] at this | exact this) GW561.out)) | (dsimp only; exact Nat.ne_of_lt (Nat.lt_of_lt_of_le (by have := World.block_lt_of_cell? _ _ hw560_6; first | rwa [add_block] at this | exact this) GW561.out))) _).trans (hHeld.2.2.2.2.2.2.2.2.2.1)))), ((cell_far (p := ⟨gb561, _, none⟩) (by first | exact Nat.ne_of_lt (Nat.lt_of_lt_of_le (by have := World.block_lt_of_cell? _ _ hw560_7; first | rwa [add_block] at this | exact this) GW561.out) | (rw [add_block]; exact Nat.ne_of_lt (Nat.lt_of_lt_of_le (by have := World.block_lt_of_cell? _ _ hw560_7; first | rwa [add_block] at this | exact this) GW561.out)) | (show (Addr.add _ _).block ≠ _; rw [add_block]; exact Nat.ne_of_lt (Nat.lt_of_lt_of_le (by have := World.block_lt_of_cell? _ _ hw560_7; first | rwa [add_block] at this | exact this) GW561.out)) | (dsimp only; exact Nat.ne_of_lt (Nat.lt_of_lt_of_le (by have := World.block_lt_of_cell? _ _ hw560_7; first | rwa [add_block] at this | exact this) GW561.out))) _).trans (((cell_far (p := ⟨gb561, _, none⟩) (by first | exact Nat.ne_of_lt (Nat.lt_of_lt_of_le (by have := World.block_lt_of_cell? _ _ hw560_7; first | rwa [add_block] at this | exact this) GW561.out) | (rw [add_block]; exact Nat.ne_of_lt (Nat.lt_of_lt_of_le (by have := World.block_lt_of_cell? _ _ hw560_7; first | rwa [add_block] at this | exact this) GW561.out)) | (show (Addr.add _ _).block ≠ _; rw [add_block]; exact Nat.ne_of_lt (Nat.lt_of_lt_of_le (by have := World.block_lt_of_cell? _ _ hw560_7; first | rwa [add_block] at this | exact this) GW561.out)) | (dsimp only; exact Nat.ne_of_lt (Nat.lt_of_lt_of_le (by have := World.block_lt_of_cell? _ _ hw560_7; first | rwa [add_block] at this | exact this) GW561.out))) _).trans (hHeld.2.2.2.2.2.2.2.2.2.2))))⟩ (fun hHeld => ?_)
      clear hK K
      refine done_ (done_of HT_.out (by kernel_rfl)) ?_
      go_upto_region 4 with (fail)
      go_cut [43] (fun v43 wc => ∃ (kq : Nat) (x43_9 : Bool), v43 = .bool x43_9 ∧ Aside0 (bung_isBreak.j0 kq y556 x43_9 a1_0 a1_1 l1_2 = some r) ∧ Aside0 (kq ≤ k) ∧ Aside0 (wc.heap[gb554]? = some (.cells #[.int .i64 a1_0, .int .i64 a1_1, (.slice A1_2 l1_2.length c1_2)] 75 (0, 0))) ∧ Aside0 (wc.heap[gb561]? = some (.cells #[.int .i64 ((rd_T52 l0 a1_0).f2.f0), .int .i64 ((rd_T52 l0 a1_0).f2.f1)] 23 (0, 0))) ∧ Aside0 (Below w.heap.size w wc))
      case first =>
       have H := HC10.out
       clear HC10
       by_cases c18 : (l1_2.length : Int) = (y556.length : Int)
       ·rw [if_pos c18] at H
        have c18b0 : ((l1_2.length : Int) == (y556.length : Int)) = true := beq_iff_eq.mpr c18
        have c18b1 : ((l1_2.length : Int) != (y556.length : Int)) = false := bne_eq_false_iff_eq.mpr c18
        have c18b2 : (l1_2.length == y556.length) = true := by first | simpa using c18 | (simp at c18 ⊢; omega)
        clear c18
        (first | rw [c18b0] | (simp only [i64_w, i32_w]; rw [c18b0]) | skip)
        replace H := Option.bind_eq_some_iff.mp H
        obtain ⟨t562, A190, H⟩ := H
        replace H : (bung_isBreak.j0 k y556 (!t562) a1_0 a1_1 l1_2) = some r := H
        have A19 := pA A190
        clear A190
        have H' := pA H
        clear H
        have hnb20 := NB554_561.out
        have hnc20 := NB561_554.out
        have hcz21_0 : w15.cell? ⟨gb554, 0, none⟩ = some (.int .i64 a1_0) := (blk_cell BK554.out 0).trans rfl
        have hcz21_1 : w15.cell? ⟨gb554, 1, none⟩ = some (.int .i64 a1_1) := (blk_cell BK554.out 1).trans rfl
        have hcz21_2 : w15.cell? ⟨gb554, 2, none⟩ = some (.slice A1_2 l1_2.length c1_2) := (blk_cell BK554.out 2).trans rfl
        have hfz21_0 := blk_frozen BK554.out 0
        have hfz21_1 := blk_frozen BK554.out 1
        have hfz21_2 := blk_frozen BK554.out 2
        have hcz22_0 : w15.cell? ⟨gb561, 0, none⟩ = some (.int .i64 0) := (blk_cell BK561.out 0).trans rfl
        have hcz22_1 : w15.cell? ⟨gb561, 1, none⟩ = some (.int .i64 0) := (blk_cell BK561.out 1).trans rfl
        have hfz22_0 := blk_frozen BK561.out 0
        have hfz22_1 := blk_frozen BK561.out 1
        go_wp2_with (first | (go_at_call 111; (with_reducible refine (bung_within.calls a1_1 ((rd_T52 l0 a1_0).f2.f0) ((rd_T52 l0 a1_0).f2.f1) t562 _ A19.out).mono ?_); rintro e w' ⟨rfl, ⟨nd, rfl⟩⟩))
        go_meet
        case rel => exact ⟨_, (!t562), (by first | rfl | (simp; done) | (simp [*]; done)), H', ⟨by first | omega | exact Nat.le_refl _⟩, ⟨by (with_reducible repeat refine vS ?_); refine blk_far ?_ NB554_561.out _; (with_reducible repeat refine vS ?_); refine blk_far ?_ NB554_561.out _; (with_reducible repeat refine vS ?_); exact BK554.out⟩, ⟨by (with_reducible repeat refine vS ?_); refine blk_put (cs := #[.int .i64 ((rd_T52 l0 a1_0).f2.f0), .int .i64 0]) ?_ 1 _ rfl; (with_reducible repeat refine vS ?_); refine blk_put (cs := #[.int .i64 0, .int .i64 0]) ?_ 0 _ rfl; (with_reducible repeat refine vS ?_); exact BK561.out⟩, ⟨by repeat (first | (with_reducible first | exact HB.out | apply below_alloc | apply pw_below_drewN | apply below_drew1 | refine below_set ?_ GE554.out | refine below_set ?_ GE561.out) | exact HB.out)⟩⟩
       ·rw [if_neg c18] at H
        have c18b0 : ((l1_2.length : Int) == (y556.length : Int)) = false := beq_eq_false_iff_ne.mpr c18
        have c18b1 : ((l1_2.length : Int) != (y556.length : Int)) = true := bne_iff_ne.mpr c18
        have c18b2 : (l1_2.length == y556.length) = false := by first | simpa using c18 | (simp at c18 ⊢; omega)
        (first | rw [c18b0] | (simp only [i64_w, i32_w]; rw [c18b0]) | skip)
        have H' := pA H
        clear H
        have hnb23 := NB554_561.out
        have hnc23 := NB561_554.out
        have hcz24_0 : w15.cell? ⟨gb554, 0, none⟩ = some (.int .i64 a1_0) := (blk_cell BK554.out 0).trans rfl
        have hcz24_1 : w15.cell? ⟨gb554, 1, none⟩ = some (.int .i64 a1_1) := (blk_cell BK554.out 1).trans rfl
        have hcz24_2 : w15.cell? ⟨gb554, 2, none⟩ = some (.slice A1_2 l1_2.length c1_2) := (blk_cell BK554.out 2).trans rfl
        have hfz24_0 := blk_frozen BK554.out 0
        have hfz24_1 := blk_frozen BK554.out 1
        have hfz24_2 := blk_frozen BK554.out 2
        go_wp2
        go_meet
        case rel => exact ⟨_, (true), (by first | rfl | (simp; done) | (simp [*]; done)), H', ⟨by first | omega | exact Nat.le_refl _⟩, ⟨by (with_reducible repeat refine vS ?_); refine blk_far ?_ NB554_561.out _; (with_reducible repeat refine vS ?_); refine blk_far ?_ NB554_561.out _; (with_reducible repeat refine vS ?_); exact BK554.out⟩, ⟨by (with_reducible repeat refine vS ?_); refine blk_put (cs := #[.int .i64 ((rd_T52 l0 a1_0).f2.f0), .int .i64 0]) ?_ 1 _ rfl; (with_reducible repeat refine vS ?_); refine blk_put (cs := #[.int .i64 0, .int .i64 0]) ?_ 0 _ rfl; (with_reducible repeat refine vS ?_); exact BK561.out⟩, ⟨by repeat (first | (with_reducible first | exact HB.out | apply below_alloc | apply pw_below_drewN | apply below_drew1 | refine below_set ?_ GE554.out | refine below_set ?_ GE561.out) | exact HB.out)⟩⟩
      case rest =>
       clear HC10
       try clear c1
       try clear q1
       try clear c2
       try clear p2
       try clear c4
       try clear p5
       try clear q5
       try clear hx5
       try clear c6
       try clear c6b0
       try clear c6b1
       try clear p6
       try clear c7
       try clear c7b0
       try clear c7b1
       try clear c8
       try clear c8b0
       try clear c9
       try clear c9b0
       try clear c10
       try clear c11
       try clear c14
       try clear q14
       try clear c18
       try clear c18b0
       try clear c18b1
       try clear c18b2
       try clear c20
       try clear c23
       try clear hcz12_0
       try clear hcz12_1
       try clear hcz12_2
       try clear hcz21_0
       try clear hcz21_1
       try clear hcz21_2
       try clear hcz22_0
       try clear hcz22_1
       try clear hcz24_0
       try clear hcz24_1
       try clear hcz24_2
       try clear hfz12_0
       try clear hfz12_1
       try clear hfz12_2
       try clear hfz21_0
       try clear hfz21_1
       try clear hfz21_2
       try clear hfz22_0
       try clear hfz22_1
       try clear hfz24_0
       try clear hfz24_1
       try clear hfz24_2
       try clear hx560_0
       try clear hx560_1
       try clear hx560_2
       try clear hx560_3
       try clear hx560_4
       try clear hx560_5
       try clear hx560_6
       try clear hx560_7
       try clear p560
       try clear q014
       try clear q14
       try clear q560
       obtain ⟨kq, x43_9, rfl, HA, HJ9, BK554, BK561, HB⟩ := hcut
       cases kq with
       | zero => exact absurd HA.out (by simp [bung_isBreak.j0])
       | succ kj9 =>
        have H := HA.out
        clear HA
        simp only [bung_isBreak.j0] at H
        by_cases c25 : x43_9 = true
        ·subst c25
         have H1 : (some false) = some r := by rw [if_pos rfl] at H; exact H
         clear H
         have H := H1
         clear H1
         obtain rfl := Option.some.inj H
         go_wp2
         go_ret
         exact ⟨by first | rfl | (simp [errW_none, errW_some] <;> rfl) | (simp only [← hji5]; first | rfl | (simp [errW_none, errW_some] <;> rfl)) | (simp [*, errW_none, errW_some] <;> rfl), by repeat (first | (with_reducible first | exact HB.out | apply below_alloc | apply pw_below_drewN | apply below_drew1 | refine below_set ?_ GE554.out | refine below_set ?_ GE561.out) | exact HB.out)⟩
        ·replace c25 := Bool.eq_false_iff.mpr c25
         subst c25
         have H1 : (bung_isBreak.l0 kj9 y556 0 l1_2 (l1_2.length : Int) 0 a1_0 a1_1 l1_2) = some r := by rw [if_neg (show ¬ (false = true) by decide)] at H; exact H
         clear H
         have H := H1
         clear H1
         have H' := pA H
         clear H
         have hnb26 := NB554_561.out
         have hnc26 := NB561_554.out
         have hcz27_0 : wc.cell? ⟨gb554, 0, none⟩ = some (.int .i64 a1_0) := (blk_cell BK554.out 0).trans rfl
         have hcz27_1 : wc.cell? ⟨gb554, 1, none⟩ = some (.int .i64 a1_1) := (blk_cell BK554.out 1).trans rfl
         have hcz27_2 : wc.cell? ⟨gb554, 2, none⟩ = some (.slice A1_2 l1_2.length c1_2) := (blk_cell BK554.out 2).trans rfl
         have hfz27_0 := blk_frozen BK554.out 0
         have hfz27_1 := blk_frozen BK554.out 1
         have hfz27_2 := blk_frozen BK554.out 2
         go_wp2
         go_loopg [7, 47] kj9 (fun kq v7 v47 w' => ∃ (x7_2 : Int) (x47_2 : Int), v7 = .int .i64 x7_2 ∧ v47 = .int .i64 x47_2 ∧ Aside0 (bung_isBreak.l0 kq y556 x7_2 l1_2 (l1_2.length : Int) x47_2 a1_0 a1_1 l1_2 = some r) ∧ Aside0 (kq ≤ kj9) ∧ Aside0 (w'.heap[gb554]? = some (.cells #[.int .i64 a1_0, .int .i64 a1_1, (.slice A1_2 l1_2.length c1_2)] 75 (0, 0))) ∧ Aside0 (w'.heap[gb561]? = some (.cells #[.int .i64 ((rd_T52 l0 a1_0).f2.f0), .int .i64 ((rd_T52 l0 a1_0).f2.f1)] 23 (0, 0))) ∧ Aside0 (Below w.heap.size w w'))
         case atStart => exact ⟨(0), (0), (by first | rfl | (simp; done) | (simp [*]; done)), (by first | rfl | (simp; done) | (simp [*]; done)), H', ⟨Nat.le_refl _⟩, ⟨by (with_reducible repeat refine vS ?_); exact BK554.out⟩, ⟨by (with_reducible repeat refine vS ?_); exact BK561.out⟩, ⟨by repeat (first | (with_reducible first | exact HB.out | apply below_alloc | apply pw_below_drewN | apply below_drew1 | refine below_set ?_ GE554.out | refine below_set ?_ GE561.out) | exact HB.out)⟩⟩
         case round =>
          clear H'
          try clear c1
          try clear q1
          try clear c2
          try clear p2
          try clear c4
          try clear p5
          try clear q5
          try clear hx5
          try clear c6
          try clear c6b0
          try clear c6b1
          try clear p6
          try clear c7
          try clear c7b0
          try clear c7b1
          try clear c8
          try clear c8b0
          try clear c9
          try clear c9b0
          try clear c10
          try clear c11
          try clear c14
          try clear q14
          try clear c18
          try clear c18b0
          try clear c18b1
          try clear c18b2
          try clear c20
          try clear c23
          try clear c25
          try clear c26
          try clear hcz12_0
          try clear hcz12_1
          try clear hcz12_2
          try clear hcz21_0
          try clear hcz21_1
          try clear hcz21_2
          try clear hcz22_0
          try clear hcz22_1
          try clear hcz24_0
          try clear hcz24_1
          try clear hcz24_2
          try clear hcz27_0
          try clear hcz27_1
          try clear hcz27_2
          try clear hfz12_0
          try clear hfz12_1
          try clear hfz12_2
          try clear hfz21_0
          try clear hfz21_1
          try clear hfz21_2
          try clear hfz22_0
          try clear hfz22_1
          try clear hfz24_0
          try clear hfz24_1
          try clear hfz24_2
          try clear hfz27_0
          try clear hfz27_1
          try clear hfz27_2
          try clear hx560_0
          try clear hx560_1
          try clear hx560_2
          try clear hx560_3
          try clear hx560_4
          try clear hx560_5
          try clear hx560_6
          try clear hx560_7
          try clear p2
          try clear p5
          try clear p560
          try clear p6
          try clear q014
          try clear q1
          try clear q14
          try clear q5
          try clear q560
          obtain ⟨x7_2, x47_2, rfl, rfl, HA, HK2, BK554, BK561, HB⟩ := hrel
          cases gk with
          | zero => exact absurd HA.out (by simp [bung_isBreak.l0])
          | succ k2 =>
           have H := HA.out
           clear HA
           simp only [bung_isBreak.l0] at H
           by_cases c28 : x47_2 < (l1_2.length : Int)
           ·rw [if_pos c28] at H
            have c28b0 : decide (x47_2 < (l1_2.length : Int)) = true := decide_eq_true c28
            clear c28
            by_cases c29 : 0 ≤ x47_2
            ·rw [if_pos c29] at H
             have c29b0 : decide (0 ≤ x47_2) = true := decide_eq_true c29
             clear c29
             by_cases c30 : x47_2 < (l1_2.length : Int)
             ·rw [if_pos c30] at H
              have c30b0 : decide (x47_2 < (l1_2.length : Int)) = true := decide_eq_true c30
              clear c30
              by_cases c31 : x47_2 < (y556.length : Int)
              ·rw [if_pos c31] at H
               have c31b0 : decide (x47_2 < (y556.length : Int)) = true := decide_eq_true c31
               clear c31
               replace H := Option.bind_eq_some_iff.mp H
               obtain ⟨t566, A320, H⟩ := H
               replace H : (if t566 = true then (bung_isBreak.l0 k2 y556 (wrap64 (x7_2 + (rd l1_2 x47_2))) l1_2 (l1_2.length : Int) (wrap64 (x47_2 + 1)) a1_0 a1_1 l1_2) else (some false)) = some r := H
               have A32 := pA A320
               clear A320
               by_cases c33 : t566 = true
               ·subst c33
                have H1 : (bung_isBreak.l0 k2 y556 (wrap64 (x7_2 + (rd l1_2 x47_2))) l1_2 (l1_2.length : Int) (wrap64 (x47_2 + 1)) a1_0 a1_1 l1_2) = some r := by rw [if_pos rfl] at H; exact H
                clear H
                have H := H1
                clear H1
                have H' := pA H
                clear H
                have p563 : 0 ≤ (x47_2 : Int) := of_decide_eq_true (by first | (with_reducible assumption) | assumption)
                have q563 : x47_2 < (l1_2.length : Int) := of_decide_eq_true (by first | (with_reducible assumption) | assumption)
                obtain ⟨ad563, e563, hx563_0⟩ := Kd.at_int HR1_2.out x47_2 p563 q563
                cases e563
                replace hx563_0 := vC HB hx563_0
                replace p563 := eq_true p563
                replace q563 := eq_true q563
                try go_wp2
                have n0_ := pA (blk_drew BK554.out)
                have n1_ := pA (blk_drew BK561.out)
                have n2_ := pA (below_drew1 HB.out)
                clear BK554
                clear BK561
                clear HB
                have BK554 := n0_
                have BK561 := n1_
                have HB := n2_
                clear n0_ n1_ n2_
                have p564 : 0 ≤ (x47_2 : Int) := of_decide_eq_true (by first | (with_reducible assumption) | assumption)
                have q564 : x47_2 < (y556.length : Int) := of_decide_eq_true (by first | (with_reducible assumption) | assumption)
                obtain ⟨ad564, e564, hx564_0, hx564_1, hx564_2, hx564_3, hx564_4, hx564_5, hx564_6, hx564_7⟩ := at_T52 HR559.out x47_2 p564 q564
                have hw564_7 := hx564_7
                have hw564_6 := hx564_6
                have hw564_5 := hx564_5
                have hw564_4 := hx564_4
                have hw564_3 := hx564_3
                have hw564_2 := hx564_2
                have hw564_1 := hx564_1
                have hw564_0 := hx564_0
                cases e564
                replace hx564_0 := vC HB hx564_0
                replace hx564_1 := vC HB hx564_1
                replace hx564_2 := vC HB hx564_2
                replace hx564_3 := vC HB hx564_3
                replace hx564_4 := vC HB hx564_4
                replace hx564_5 := vC HB hx564_5
                replace hx564_6 := vC HB hx564_6
                replace hx564_7 := vC HB hx564_7
                replace p564 := eq_true p564
                replace q564 := eq_true q564
                have p565 : 0 ≤ (x47_2 : Int) := of_decide_eq_true (by first | (with_reducible assumption) | assumption)
                have q565 : x47_2 < (y556.length : Int) := of_decide_eq_true (by first | (with_reducible assumption) | assumption)
                obtain ⟨ad565, e565, hx565_0, hx565_1, hx565_2, hx565_3, hx565_4, hx565_5, hx565_6, hx565_7⟩ := at_T52 HR559.out x47_2 p565 q565
                have hw565_7 := hx565_7
                have hw565_6 := hx565_6
                have hw565_5 := hx565_5
                have hw565_4 := hx565_4
                have hw565_3 := hx565_3
                have hw565_2 := hx565_2
                have hw565_1 := hx565_1
                have hw565_0 := hx565_0
                obtain rfl : ad564 = ad565 := (by injection e565)
                replace hx565_0 := vC HB hx565_0
                replace hx565_1 := vC HB hx565_1
                replace hx565_2 := vC HB hx565_2
                replace hx565_3 := vC HB hx565_3
                replace hx565_4 := vC HB hx565_4
                replace hx565_5 := vC HB hx565_5
                replace hx565_6 := vC HB hx565_6
                replace hx565_7 := vC HB hx565_7
                replace p565 := eq_true p565
                replace q565 := eq_true q565
                refine start_ (n := 15) (S := fun w' => w'.cell? (ad564.add ((x47_2).toNat * 8)) = some (.int .i64 ((rd_T52 y556 x47_2).f0)) ∧ w'.cell? ⟨(ad564.add ((x47_2).toNat * 8)).block, (ad564.add ((x47_2).toNat * 8)).off + 1, none⟩ = some (.int .i64 ((rd_T52 y556 x47_2).f1.f0)) ∧ w'.cell? ⟨(ad564.add ((x47_2).toNat * 8)).block, (ad564.add ((x47_2).toNat * 8)).off + 2, none⟩ = some (.int .i64 ((rd_T52 y556 x47_2).f1.f1)) ∧ w'.cell? ⟨(ad564.add ((x47_2).toNat * 8)).block, (ad564.add ((x47_2).toNat * 8)).off + 3, none⟩ = some (.int .i64 ((rd_T52 y556 x47_2).f2.f0)) ∧ w'.cell? ⟨(ad564.add ((x47_2).toNat * 8)).block, (ad564.add ((x47_2).toNat * 8)).off + 4, none⟩ = some (.int .i64 ((rd_T52 y556 x47_2).f2.f1)) ∧ w'.cell? ⟨(ad564.add ((x47_2).toNat * 8)).block, (ad564.add ((x47_2).toNat * 8)).off + 5, none⟩ = some (.int .i64 ((rd_T52 y556 x47_2).f3.f0)) ∧ w'.cell? ⟨(ad564.add ((x47_2).toNat * 8)).block, (ad564.add ((x47_2).toNat * 8)).off + 6, none⟩ = some (.int .i64 ((rd_T52 y556 x47_2).f3.f1)) ∧ w'.cell? ⟨(ad564.add ((x47_2).toNat * 8)).block, (ad564.add ((x47_2).toNat * 8)).off + 7, none⟩ = some (.int .i64 ((rd_T52 y556 x47_2).f4)) ∧ w'.cell? (ad564.add ((x47_2).toNat * 8)) = some (.int .i64 ((rd_T52 y556 x47_2).f0)) ∧ w'.cell? ⟨(ad564.add ((x47_2).toNat * 8)).block, (ad564.add ((x47_2).toNat * 8)).off + 1, none⟩ = some (.int .i64 ((rd_T52 y556 x47_2).f1.f0)) ∧ w'.cell? ⟨(ad564.add ((x47_2).toNat * 8)).block, (ad564.add ((x47_2).toNat * 8)).off + 2, none⟩ = some (.int .i64 ((rd_T52 y556 x47_2).f1.f1)) ∧ w'.cell? ⟨(ad564.add ((x47_2).toNat * 8)).block, (ad564.add ((x47_2).toNat * 8)).off + 3, none⟩ = some (.int .i64 ((rd_T52 y556 x47_2).f2.f0)) ∧ w'.cell? ⟨(ad564.add ((x47_2).toNat * 8)).block, (ad564.add ((x47_2).toNat * 8)).off + 4, none⟩ = some (.int .i64 ((rd_T52 y556 x47_2).f2.f1)) ∧ w'.cell? ⟨(ad564.add ((x47_2).toNat * 8)).block, (ad564.add ((x47_2).toNat * 8)).off + 5, none⟩ = some (.int .i64 ((rd_T52 y556 x47_2).f3.f0)) ∧ w'.cell? ⟨(ad564.add ((x47_2).toNat * 8)).block, (ad564.add ((x47_2).toNat * 8)).off + 6, none⟩ = some (.int .i64 ((rd_T52 y556 x47_2).f3.f1)) ∧ w'.cell? ⟨(ad564.add ((x47_2).toNat * 8)).block, (ad564.add ((x47_2).toNat * 8)).off + 7, none⟩ = some (.int .i64 ((rd_T52 y556 x47_2).f4))) (ds := []) #[false, false, false, false, false, false, false, false, false, false, false, false, false, false, false] (by kernel_rfl) rfl rfl ⟨(vD HB hw564_0), (vD HB hw564_1), (vD HB hw564_2), (vD HB hw564_3), (vD HB hw564_4), (vD HB hw564_5), (vD HB hw564_6), (vD HB hw564_7), (vD HB hw565_0), (vD HB hw565_1), (vD HB hw565_2), (vD HB hw565_3), (vD HB hw565_4), (vD HB hw565_5), (vD HB hw565_6), (vD HB hw565_7)⟩ (fun hHeld => ?_); refine with_tabW bung_isBreak.tab10 bung_isBreak.bits10 (fun HT_ HW_ => ?_)
                generalize wr.drew = w34 at BK554 BK561 HB hx564_0 hx564_1 hx564_2 hx564_3 hx564_4 hx564_5 hx564_6 hx564_7 hx565_0 hx565_1 hx565_2 hx565_3 hx565_4 hx565_5 hx565_6 hx565_7 hHeld ⊢
                refine pure_ (i := 0) (N := some 52) (v := ?_) (a' := ?_) #[true, false, false, false, false, false, false, false, false, false, false, false, false, false, false] rfl rfl (any_of HT_.out (by kernel_rfl)) (fun _ _ _ h => h) (Or.inl ⟨by rfl, ?_⟩) ?_ ?_
                rotate_left
                ·intro w'
                 go_simp
                 with_reducible rfl
                rotate_left
                ·simp only [Act.put, pB, pC, pD, i64_w, i32_w]
                 rfl
                refine pure_ (i := 1) (N := some 53) (v := ?_) (a' := ?_) #[true, true, false, false, false, false, false, false, false, false, false, false, false, false, false] rfl rfl (any_of HT_.out (by kernel_rfl)) (fun _ _ _ h => h) (Or.inl ⟨by rfl, ?_⟩) ?_ ?_
                rotate_left
                ·intro w'
                 go_simp
                 with_reducible rfl
                rotate_left
                ·simp only [Act.put, pB, pC, pD, i64_w, i32_w]
                 rfl
                refine pure_ (i := 2) (N := some 54) (v := ?_) (a' := ?_) #[true, true, true, false, false, false, false, false, false, false, false, false, false, false, false] rfl rfl (any_of HT_.out (by kernel_rfl)) (fun _ _ _ h => h) (Or.inl ⟨by rfl, ?_⟩) ?_ ?_
                rotate_left
                ·intro w'
                 go_simp
                 with_reducible rfl
                rotate_left
                ·simp only [Act.put, pB, pC, pD, i64_w, i32_w]
                 rfl
                refine pure_ (i := 3) (N := some 55) (v := ?_) (a' := ?_) #[true, true, true, true, false, false, false, false, false, false, false, false, false, false, false] rfl rfl (any_of HT_.out (by kernel_rfl)) (fun _ _ _ h => h) (Or.inl ⟨by rfl, ?_⟩) ?_ ?_
                rotate_left
                ·intro w'
                 go_simp
                 with_reducible rfl
                rotate_left
                ·simp only [Act.put, pB, pC, pD, i64_w, i32_w]
                 rfl
                refine pure_ (i := 4) (N := some 56) (v := ?_) (a' := ?_) #[true, true, true, true, true, false, false, false, false, false, false, false, false, false, false] rfl rfl (any_of HT_.out (by kernel_rfl)) (fun _ _ _ h => h) (Or.inl ⟨by rfl, ?_⟩) ?_ ?_
                rotate_left
                ·intro w'
                 go_simp
                 with_reducible rfl
                rotate_left
                ·simp only [Act.put, pB, pC, pD, i64_w, i32_w]
                 rfl
                refine pure_ (i := 5) (N := some 57) (v := ?_) (a' := ?_) #[true, true, true, true, true, true, false, false, false, false, false, false, false, false, false] rfl rfl (any_of HT_.out (by kernel_rfl)) (fun _ _ _ h => h) (Or.inl ⟨by rfl, ?_⟩) ?_ ?_
                rotate_left
                ·intro w'
                 go_simp
                 with_reducible rfl
                rotate_left
                ·simp only [Act.put, pB, pC, pD, i64_w, i32_w]
                 rfl
                refine pure_ (i := 7) (N := some 59) (v := ?_) (a' := ?_) #[true, true, true, true, true, true, false, true, false, false, false, false, false, false, false] rfl rfl (any_of HT_.out (by kernel_rfl)) (fun _ _ _ h => h) (Or.inl ⟨by rfl, ?_⟩) ?_ ?_
                rotate_left
                ·intro w'
                 go_simp
                 with_reducible rfl
                rotate_left
                ·simp only [Act.put, pB, pC, pD, i64_w, i32_w]
                 rfl
                refine pure_ (i := 8) (N := some 60) (v := ?_) (a' := ?_) #[true, true, true, true, true, true, false, true, true, false, false, false, false, false, false] rfl rfl (any_of HT_.out (by kernel_rfl)) (fun _ _ _ h => h) (Or.inl ⟨by rfl, ?_⟩) ?_ ?_
                rotate_left
                ·intro w'
                 go_simp
                 with_reducible rfl
                rotate_left
                ·simp only [Act.put, pB, pC, pD, i64_w, i32_w]
                 rfl
                refine pure_ (i := 9) (N := some 61) (v := ?_) (a' := ?_) #[true, true, true, true, true, true, false, true, true, true, false, false, false, false, false] rfl rfl (any_of HT_.out (by kernel_rfl)) (fun _ _ _ h => h) (Or.inl ⟨by rfl, ?_⟩) ?_ ?_
                rotate_left
                ·intro w'
                 go_simp
                 with_reducible rfl
                rotate_left
                ·simp only [Act.put, pB, pC, pD, i64_w, i32_w]
                 rfl
                refine pure_ (i := 10) (N := some 62) (v := ?_) (a' := ?_) #[true, true, true, true, true, true, false, true, true, true, true, false, false, false, false] rfl rfl (any_of HT_.out (by kernel_rfl)) (fun _ _ _ h => h) (Or.inl ⟨by rfl, ?_⟩) ?_ ?_
                rotate_left
                ·intro w'
                 go_simp
                 with_reducible rfl
                rotate_left
                ·simp only [Act.put, pB, pC, pD, i64_w, i32_w]
                 rfl
                refine pure_ (i := 11) (N := some 63) (v := ?_) (a' := ?_) #[true, true, true, true, true, true, false, true, true, true, true, true, false, false, false] rfl rfl (any_of HT_.out (by kernel_rfl)) (fun _ _ _ h => h) (Or.inl ⟨by rfl, ?_⟩) ?_ ?_
                rotate_left
                ·intro w'
                 go_simp
                 with_reducible rfl
                rotate_left
                ·simp only [Act.put, pB, pC, pD, i64_w, i32_w]
                 rfl
                refine take_ (i := 6) (N := some 58) (v := ?_) (a' := ?_) #[true, true, true, true, true, true, true, true, true, true, true, true, false, false, false] rfl rfl (take_ofW HT_.out HW_.out (by kernel_rfl)) (fun _ _ _ h => h) (Or.inl ⟨by rfl, ?_⟩) hHeld ?_ ?_
                rotate_left
                ·rintro w' ⟨s0, s1, s2, s3, s4, s5, s6, s7, s8, s9, s10, s11, s12, s13, s14, s15⟩
                 go_simp
                 with_reducible rfl
                rotate_left
                ·simp only [Act.put, pB, pC, pD, i64_w, i32_w]
                 rfl
                refine take_ (i := 12) (N := some 64) (v := ?_) (a' := ?_) #[true, true, true, true, true, true, true, true, true, true, true, true, true, false, false] rfl rfl (take_ofW HT_.out HW_.out (by kernel_rfl)) (fun _ _ _ h => h) (Or.inl ⟨by rfl, ?_⟩) hHeld ?_ ?_
                rotate_left
                ·rintro w' ⟨s0, s1, s2, s3, s4, s5, s6, s7, s8, s9, s10, s11, s12, s13, s14, s15⟩
                 go_simp
                 with_reducible rfl
                rotate_left
                ·simp only [Act.put, pB, pC, pD, i64_w, i32_w]
                 rfl
                refine one_ (i := 13) (N := some 65) #[true, true, true, true, true, true, true, true, true, true, true, true, true, true, false] rfl rfl (one_of HT_.out (by kernel_rfl)) (by decide) (fun K hK => ?_)
                refine goes_ Try.func111 (by kernel_rfl) rfl #[.int .i64 (rd l1_2 x47_2), .int .i64 ((rd_T52 y556 x47_2).f1.f0), .int .i64 ((rd_T52 y556 x47_2).f1.f1)] (by rfl) rfl rfl (by (try simp only [pE, pF, pG]); first | done | rfl | (simp only [pH, pI]; rfl)) ?_
                with_reducible refine (bung_within.calls (rd l1_2 x47_2) ((rd_T52 y556 x47_2).f1.f0) ((rd_T52 y556 x47_2).f1.f1) true _ A32.out).mono ?_
                rintro e w' ⟨rfl, ⟨nd, rfl⟩⟩
                refine ⟨_, rfl, ?_⟩
                refine hK.out _ _ ⟨(vD HB hw564_0), (vD HB hw564_1), (vD HB hw564_2), (vD HB hw564_3), (vD HB hw564_4), (vD HB hw564_5), (vD HB hw564_6), (vD HB hw564_7), (vD HB hw565_0), (vD HB hw565_1), (vD HB hw565_2), (vD HB hw565_3), (vD HB hw565_4), (vD HB hw565_5), (vD HB hw565_6), (vD HB hw565_7)⟩ (fun hHeld => ?_)
                clear hK K
                refine norm_ (a' := ?_) ?_ ?_
                rotate_left
                ·show Act.put _ (some 65) _ = _
                 simp only [Act.put, pB, pC, pD, i64_w, i32_w]
                 rfl
                refine pure_ (i := 14) (N := some 66) (v := ?_) (a' := ?_) #[true, true, true, true, true, true, true, true, true, true, true, true, true, true, true] rfl rfl (any_of HT_.out (by kernel_rfl)) (fun _ _ _ h => h) (Or.inl ⟨by rfl, ?_⟩) ?_ ?_
                rotate_left
                ·intro w'
                 go_simp
                 with_reducible rfl
                rotate_left
                ·simp only [Act.put, pB, pC, pD, i64_w, i32_w]
                 rfl
                refine done_ (done_of HT_.out (by kernel_rfl)) ?_
                try go_wp2
                go_roundg k2
                case measure => have := HJ9.out; have := HK2.out; omega
                case rel => exact ⟨(wrap64 (x7_2 + (rd l1_2 x47_2))), (wrap64 (x47_2 + 1)), (by first | rfl | (simp; done) | (simp [*]; done)), (by first | rfl | (simp; done) | (simp [*]; done)), H', ⟨by have := HJ9.out; have := HK2.out; omega⟩, ⟨by (with_reducible repeat refine vS ?_); exact BK554.out⟩, ⟨by (with_reducible repeat refine vS ?_); exact BK561.out⟩, ⟨by repeat (first | (with_reducible first | exact HB.out | apply below_alloc | apply pw_below_drewN | apply below_drew1 | refine below_set ?_ GE554.out | refine below_set ?_ GE561.out) | exact HB.out)⟩⟩
               ·replace c33 := Bool.eq_false_iff.mpr c33
                subst c33
                have H1 : (some false) = some r := by rw [if_neg (show ¬ (false = true) by decide)] at H; exact H
                clear H
                have H := H1
                clear H1
                obtain rfl := Option.some.inj H
                have p563 : 0 ≤ (x47_2 : Int) := of_decide_eq_true (by first | (with_reducible assumption) | assumption)
                have q563 : x47_2 < (l1_2.length : Int) := of_decide_eq_true (by first | (with_reducible assumption) | assumption)
                obtain ⟨ad563, e563, hx563_0⟩ := Kd.at_int HR1_2.out x47_2 p563 q563
                cases e563
                replace hx563_0 := vC HB hx563_0
                replace p563 := eq_true p563
                replace q563 := eq_true q563
                try go_wp2
                have n0_ := pA (blk_drew BK554.out)
                have n1_ := pA (blk_drew BK561.out)
                have n2_ := pA (below_drew1 HB.out)
                clear BK554
                clear BK561
                clear HB
                have BK554 := n0_
                have BK561 := n1_
                have HB := n2_
                clear n0_ n1_ n2_
                have p564 : 0 ≤ (x47_2 : Int) := of_decide_eq_true (by first | (with_reducible assumption) | assumption)
                have q564 : x47_2 < (y556.length : Int) := of_decide_eq_true (by first | (with_reducible assumption) | assumption)
                obtain ⟨ad564, e564, hx564_0, hx564_1, hx564_2, hx564_3, hx564_4, hx564_5, hx564_6, hx564_7⟩ := at_T52 HR559.out x47_2 p564 q564
                have hw564_7 := hx564_7
                have hw564_6 := hx564_6
                have hw564_5 := hx564_5
                have hw564_4 := hx564_4
                have hw564_3 := hx564_3
                have hw564_2 := hx564_2
                have hw564_1 := hx564_1
                have hw564_0 := hx564_0
                cases e564
                replace hx564_0 := vC HB hx564_0
                replace hx564_1 := vC HB hx564_1
                replace hx564_2 := vC HB hx564_2
                replace hx564_3 := vC HB hx564_3
                replace hx564_4 := vC HB hx564_4
                replace hx564_5 := vC HB hx564_5
                replace hx564_6 := vC HB hx564_6
                replace hx564_7 := vC HB hx564_7
                replace p564 := eq_true p564
                replace q564 := eq_true q564
                have p565 : 0 ≤ (x47_2 : Int) := of_decide_eq_true (by first | (with_reducible assumption) | assumption)
                have q565 : x47_2 < (y556.length : Int) := of_decide_eq_true (by first | (with_reducible assumption) | assumption)
                obtain ⟨ad565, e565, hx565_0, hx565_1, hx565_2, hx565_3, hx565_4, hx565_5, hx565_6, hx565_7⟩ := at_T52 HR559.out x47_2 p565 q565
                have hw565_7 := hx565_7
                have hw565_6 := hx565_6
                have hw565_5 := hx565_5
                have hw565_4 := hx565_4
                have hw565_3 := hx565_3
                have hw565_2 := hx565_2
                have hw565_1 := hx565_1
                have hw565_0 := hx565_0
                obtain rfl : ad564 = ad565 := (by injection e565)
                replace hx565_0 := vC HB hx565_0
                replace hx565_1 := vC HB hx565_1
                replace hx565_2 := vC HB hx565_2
                replace hx565_3 := vC HB hx565_3
                replace hx565_4 := vC HB hx565_4
                replace hx565_5 := vC HB hx565_5
                replace hx565_6 := vC HB hx565_6
                replace hx565_7 := vC HB hx565_7
                replace p565 := eq_true p565
                replace q565 := eq_true q565
                refine start_ (n := 15) (S := fun w' => w'.cell? (ad564.add ((x47_2).toNat * 8)) = some (.int .i64 ((rd_T52 y556 x47_2).f0)) ∧ w'.cell? ⟨(ad564.add ((x47_2).toNat * 8)).block, (ad564.add ((x47_2).toNat * 8)).off + 1, none⟩ = some (.int .i64 ((rd_T52 y556 x47_2).f1.f0)) ∧ w'.cell? ⟨(ad564.add ((x47_2).toNat * 8)).block, (ad564.add ((x47_2).toNat * 8)).off + 2, none⟩ = some (.int .i64 ((rd_T52 y556 x47_2).f1.f1)) ∧ w'.cell? ⟨(ad564.add ((x47_2).toNat * 8)).block, (ad564.add ((x47_2).toNat * 8)).off + 3, none⟩ = some (.int .i64 ((rd_T52 y556 x47_2).f2.f0)) ∧ w'.cell? ⟨(ad564.add ((x47_2).toNat * 8)).block, (ad564.add ((x47_2).toNat * 8)).off + 4, none⟩ = some (.int .i64 ((rd_T52 y556 x47_2).f2.f1)) ∧ w'.cell? ⟨(ad564.add ((x47_2).toNat * 8)).block, (ad564.add ((x47_2).toNat * 8)).off + 5, none⟩ = some (.int .i64 ((rd_T52 y556 x47_2).f3.f0)) ∧ w'.cell? ⟨(ad564.add ((x47_2).toNat * 8)).block, (ad564.add ((x47_2).toNat * 8)).off + 6, none⟩ = some (.int .i64 ((rd_T52 y556 x47_2).f3.f1)) ∧ w'.cell? ⟨(ad564.add ((x47_2).toNat * 8)).block, (ad564.add ((x47_2).toNat * 8)).off + 7, none⟩ = some (.int .i64 ((rd_T52 y556 x47_2).f4)) ∧ w'.cell? (ad564.add ((x47_2).toNat * 8)) = some (.int .i64 ((rd_T52 y556 x47_2).f0)) ∧ w'.cell? ⟨(ad564.add ((x47_2).toNat * 8)).block, (ad564.add ((x47_2).toNat * 8)).off + 1, none⟩ = some (.int .i64 ((rd_T52 y556 x47_2).f1.f0)) ∧ w'.cell? ⟨(ad564.add ((x47_2).toNat * 8)).block, (ad564.add ((x47_2).toNat * 8)).off + 2, none⟩ = some (.int .i64 ((rd_T52 y556 x47_2).f1.f1)) ∧ w'.cell? ⟨(ad564.add ((x47_2).toNat * 8)).block, (ad564.add ((x47_2).toNat * 8)).off + 3, none⟩ = some (.int .i64 ((rd_T52 y556 x47_2).f2.f0)) ∧ w'.cell? ⟨(ad564.add ((x47_2).toNat * 8)).block, (ad564.add ((x47_2).toNat * 8)).off + 4, none⟩ = some (.int .i64 ((rd_T52 y556 x47_2).f2.f1)) ∧ w'.cell? ⟨(ad564.add ((x47_2).toNat * 8)).block, (ad564.add ((x47_2).toNat * 8)).off + 5, none⟩ = some (.int .i64 ((rd_T52 y556 x47_2).f3.f0)) ∧ w'.cell? ⟨(ad564.add ((x47_2).toNat * 8)).block, (ad564.add ((x47_2).toNat * 8)).off + 6, none⟩ = some (.int .i64 ((rd_T52 y556 x47_2).f3.f1)) ∧ w'.cell? ⟨(ad564.add ((x47_2).toNat * 8)).block, (ad564.add ((x47_2).toNat * 8)).off + 7, none⟩ = some (.int .i64 ((rd_T52 y556 x47_2).f4))) (ds := []) #[false, false, false, false, false, false, false, false, false, false, false, false, false, false, false] (by kernel_rfl) rfl rfl ⟨(vD HB hw564_0), (vD HB hw564_1), (vD HB hw564_2), (vD HB hw564_3), (vD HB hw564_4), (vD HB hw564_5), (vD HB hw564_6), (vD HB hw564_7), (vD HB hw565_0), (vD HB hw565_1), (vD HB hw565_2), (vD HB hw565_3), (vD HB hw565_4), (vD HB hw565_5), (vD HB hw565_6), (vD HB hw565_7)⟩ (fun hHeld => ?_); refine with_tabW bung_isBreak.tab10 bung_isBreak.bits10 (fun HT_ HW_ => ?_)
                generalize wr.drew = w35 at BK554 BK561 HB hx564_0 hx564_1 hx564_2 hx564_3 hx564_4 hx564_5 hx564_6 hx564_7 hx565_0 hx565_1 hx565_2 hx565_3 hx565_4 hx565_5 hx565_6 hx565_7 hHeld ⊢
                refine pure_ (i := 0) (N := some 52) (v := ?_) (a' := ?_) #[true, false, false, false, false, false, false, false, false, false, false, false, false, false, false] rfl rfl (any_of HT_.out (by kernel_rfl)) (fun _ _ _ h => h) (Or.inl ⟨by rfl, ?_⟩) ?_ ?_
                rotate_left
                ·intro w'
                 go_simp
                 with_reducible rfl
                rotate_left
                ·simp only [Act.put, pB, pC, pD, i64_w, i32_w]
                 rfl
                refine pure_ (i := 1) (N := some 53) (v := ?_) (a' := ?_) #[true, true, false, false, false, false, false, false, false, false, false, false, false, false, false] rfl rfl (any_of HT_.out (by kernel_rfl)) (fun _ _ _ h => h) (Or.inl ⟨by rfl, ?_⟩) ?_ ?_
                rotate_left
                ·intro w'
                 go_simp
                 with_reducible rfl
                rotate_left
                ·simp only [Act.put, pB, pC, pD, i64_w, i32_w]
                 rfl
                refine pure_ (i := 2) (N := some 54) (v := ?_) (a' := ?_) #[true, true, true, false, false, false, false, false, false, false, false, false, false, false, false] rfl rfl (any_of HT_.out (by kernel_rfl)) (fun _ _ _ h => h) (Or.inl ⟨by rfl, ?_⟩) ?_ ?_
                rotate_left
                ·intro w'
                 go_simp
                 with_reducible rfl
                rotate_left
                ·simp only [Act.put, pB, pC, pD, i64_w, i32_w]
                 rfl
                refine pure_ (i := 3) (N := some 55) (v := ?_) (a' := ?_) #[true, true, true, true, false, false, false, false, false, false, false, false, false, false, false] rfl rfl (any_of HT_.out (by kernel_rfl)) (fun _ _ _ h => h) (Or.inl ⟨by rfl, ?_⟩) ?_ ?_
                rotate_left
                ·intro w'
                 go_simp
                 with_reducible rfl
                rotate_left
                ·simp only [Act.put, pB, pC, pD, i64_w, i32_w]
                 rfl
                refine pure_ (i := 4) (N := some 56) (v := ?_) (a' := ?_) #[true, true, true, true, true, false, false, false, false, false, false, false, false, false, false] rfl rfl (any_of HT_.out (by kernel_rfl)) (fun _ _ _ h => h) (Or.inl ⟨by rfl, ?_⟩) ?_ ?_
                rotate_left
                ·intro w'
                 go_simp
                 with_reducible rfl
                rotate_left
                ·simp only [Act.put, pB, pC, pD, i64_w, i32_w]
                 rfl
                refine pure_ (i := 5) (N := some 57) (v := ?_) (a' := ?_) #[true, true, true, true, true, true, false, false, false, false, false, false, false, false, false] rfl rfl (any_of HT_.out (by kernel_rfl)) (fun _ _ _ h => h) (Or.inl ⟨by rfl, ?_⟩) ?_ ?_
                rotate_left
                ·intro w'
                 go_simp
                 with_reducible rfl
                rotate_left
                ·simp only [Act.put, pB, pC, pD, i64_w, i32_w]
                 rfl
                refine pure_ (i := 7) (N := some 59) (v := ?_) (a' := ?_) #[true, true, true, true, true, true, false, true, false, false, false, false, false, false, false] rfl rfl (any_of HT_.out (by kernel_rfl)) (fun _ _ _ h => h) (Or.inl ⟨by rfl, ?_⟩) ?_ ?_
                rotate_left
                ·intro w'
                 go_simp
                 with_reducible rfl
                rotate_left
                ·simp only [Act.put, pB, pC, pD, i64_w, i32_w]
                 rfl
                refine pure_ (i := 8) (N := some 60) (v := ?_) (a' := ?_) #[true, true, true, true, true, true, false, true, true, false, false, false, false, false, false] rfl rfl (any_of HT_.out (by kernel_rfl)) (fun _ _ _ h => h) (Or.inl ⟨by rfl, ?_⟩) ?_ ?_
                rotate_left
                ·intro w'
                 go_simp
                 with_reducible rfl
                rotate_left
                ·simp only [Act.put, pB, pC, pD, i64_w, i32_w]
                 rfl
                refine pure_ (i := 9) (N := some 61) (v := ?_) (a' := ?_) #[true, true, true, true, true, true, false, true, true, true, false, false, false, false, false] rfl rfl (any_of HT_.out (by kernel_rfl)) (fun _ _ _ h => h) (Or.inl ⟨by rfl, ?_⟩) ?_ ?_
                rotate_left
                ·intro w'
                 go_simp
                 with_reducible rfl
                rotate_left
                ·simp only [Act.put, pB, pC, pD, i64_w, i32_w]
                 rfl
                refine pure_ (i := 10) (N := some 62) (v := ?_) (a' := ?_) #[true, true, true, true, true, true, false, true, true, true, true, false, false, false, false] rfl rfl (any_of HT_.out (by kernel_rfl)) (fun _ _ _ h => h) (Or.inl ⟨by rfl, ?_⟩) ?_ ?_
                rotate_left
                ·intro w'
                 go_simp
                 with_reducible rfl
                rotate_left
                ·simp only [Act.put, pB, pC, pD, i64_w, i32_w]
                 rfl
                refine pure_ (i := 11) (N := some 63) (v := ?_) (a' := ?_) #[true, true, true, true, true, true, false, true, true, true, true, true, false, false, false] rfl rfl (any_of HT_.out (by kernel_rfl)) (fun _ _ _ h => h) (Or.inl ⟨by rfl, ?_⟩) ?_ ?_
                rotate_left
                ·intro w'
                 go_simp
                 with_reducible rfl
                rotate_left
                ·simp only [Act.put, pB, pC, pD, i64_w, i32_w]
                 rfl
                refine take_ (i := 6) (N := some 58) (v := ?_) (a' := ?_) #[true, true, true, true, true, true, true, true, true, true, true, true, false, false, false] rfl rfl (take_ofW HT_.out HW_.out (by kernel_rfl)) (fun _ _ _ h => h) (Or.inl ⟨by rfl, ?_⟩) hHeld ?_ ?_
                rotate_left
                ·rintro w' ⟨s0, s1, s2, s3, s4, s5, s6, s7, s8, s9, s10, s11, s12, s13, s14, s15⟩
                 go_simp
                 with_reducible rfl
                rotate_left
                ·simp only [Act.put, pB, pC, pD, i64_w, i32_w]
                 rfl
                refine take_ (i := 12) (N := some 64) (v := ?_) (a' := ?_) #[true, true, true, true, true, true, true, true, true, true, true, true, true, false, false] rfl rfl (take_ofW HT_.out HW_.out (by kernel_rfl)) (fun _ _ _ h => h) (Or.inl ⟨by rfl, ?_⟩) hHeld ?_ ?_
                rotate_left
                ·rintro w' ⟨s0, s1, s2, s3, s4, s5, s6, s7, s8, s9, s10, s11, s12, s13, s14, s15⟩
                 go_simp
                 with_reducible rfl
                rotate_left
                ·simp only [Act.put, pB, pC, pD, i64_w, i32_w]
                 rfl
                refine one_ (i := 13) (N := some 65) #[true, true, true, true, true, true, true, true, true, true, true, true, true, true, false] rfl rfl (one_of HT_.out (by kernel_rfl)) (by decide) (fun K hK => ?_)
                refine goes_ Try.func111 (by kernel_rfl) rfl #[.int .i64 (rd l1_2 x47_2), .int .i64 ((rd_T52 y556 x47_2).f1.f0), .int .i64 ((rd_T52 y556 x47_2).f1.f1)] (by rfl) rfl rfl (by (try simp only [pE, pF, pG]); first | done | rfl | (simp only [pH, pI]; rfl)) ?_
                with_reducible refine (bung_within.calls (rd l1_2 x47_2) ((rd_T52 y556 x47_2).f1.f0) ((rd_T52 y556 x47_2).f1.f1) false _ A32.out).mono ?_
                rintro e w' ⟨rfl, ⟨nd, rfl⟩⟩
                refine ⟨_, rfl, ?_⟩
                refine hK.out _ _ ⟨(vD HB hw564_0), (vD HB hw564_1), (vD HB hw564_2), (vD HB hw564_3), (vD HB hw564_4), (vD HB hw564_5), (vD HB hw564_6), (vD HB hw564_7), (vD HB hw565_0), (vD HB hw565_1), (vD HB hw565_2), (vD HB hw565_3), (vD HB hw565_4), (vD HB hw565_5), (vD HB hw565_6), (vD HB hw565_7)⟩ (fun hHeld => ?_)
                clear hK K
                refine norm_ (a' := ?_) ?_ ?_
                rotate_left
                ·show Act.put _ (some 65) _ = _
                 simp only [Act.put, pB, pC, pD, i64_w, i32_w]
                 rfl
                refine pure_ (i := 14) (N := some 66) (v := ?_) (a' := ?_) #[true, true, true, true, true, true, true, true, true, true, true, true, true, true, true] rfl rfl (any_of HT_.out (by kernel_rfl)) (fun _ _ _ h => h) (Or.inl ⟨by rfl, ?_⟩) ?_ ?_
                rotate_left
                ·intro w'
                 go_simp
                 with_reducible rfl
                rotate_left
                ·simp only [Act.put, pB, pC, pD, i64_w, i32_w]
                 rfl
                refine done_ (done_of HT_.out (by kernel_rfl)) ?_
                try go_wp2
                go_ret
                exact ⟨by first | rfl | (simp [errW_none, errW_some] <;> rfl) | (simp only [← hji5]; first | rfl | (simp [errW_none, errW_some] <;> rfl)) | (simp [*, errW_none, errW_some] <;> rfl), by repeat (first | (with_reducible first | exact HB.out | apply below_alloc | apply pw_below_drewN | apply below_drew1 | refine below_set ?_ GE554.out | refine below_set ?_ GE561.out) | exact HB.out)⟩
              ·rw [if_neg c31] at H
               exact absurd H (by simp)
             ·rw [if_neg c30] at H
              exact absurd H (by simp)
            ·rw [if_neg c29] at H
             exact absurd H (by simp)
           ·rw [if_neg c28] at H
            have c28b0 : decide (x47_2 < (l1_2.length : Int)) = false := decide_eq_false c28
            clear c28
            obtain rfl := Option.some.inj H
            have hnb36 := NB554_561.out
            have hnc36 := NB561_554.out
            have hcz37_0 : wr.cell? ⟨gb554, 0, none⟩ = some (.int .i64 a1_0) := (blk_cell BK554.out 0).trans rfl
            have hcz37_1 : wr.cell? ⟨gb554, 1, none⟩ = some (.int .i64 a1_1) := (blk_cell BK554.out 1).trans rfl
            have hcz37_2 : wr.cell? ⟨gb554, 2, none⟩ = some (.slice A1_2 l1_2.length c1_2) := (blk_cell BK554.out 2).trans rfl
            have hfz37_0 := blk_frozen BK554.out 0
            have hfz37_1 := blk_frozen BK554.out 1
            have hfz37_2 := blk_frozen BK554.out 2
            go_wp2
            go_ret
            exact ⟨by first | rfl | (simp [errW_none, errW_some] <;> rfl) | (simp only [← hji5]; first | rfl | (simp [errW_none, errW_some] <;> rfl)) | (simp [*, errW_none, errW_some] <;> rfl), by repeat (first | (with_reducible first | exact HB.out | apply below_alloc | apply pw_below_drewN | apply below_drew1 | refine below_set ?_ GE554.out | refine below_set ?_ GE561.out) | exact HB.out)⟩
     ·rw [if_neg c9] at H
      exact absurd H (by simp)
    ·rw [if_neg c8] at H
     exact absurd H (by simp)
   ·rw [if_neg c7] at H
    exact absurd H (by simp)
  ·rw [if_neg c6] at H
   exact absurd H (by simp)
 ·replace c4 := Bool.eq_false_iff.mpr c4
  subst c4
  have H1 : (some false) = some r := by rw [if_neg (show ¬ (false = true) by decide)] at H; exact H
  clear H
  have H := H1
  clear H1
  obtain rfl := Option.some.inj H
  go_enter Try.func105, Try.ntmps105
  go_wp2_with (first | ((with_reducible refine gate_dst (N := 3) rfl ?_); refine box_event ?hg (N := 3) ?hd (cs := #[.int .i64 a1_0, .int .i64 a1_1, .slice A1_2 l1_2.length c1_2]) (t := 75) ?hr ?_; (case hd => rfl); (case hg => rfl); (case hr => first | (go_simp; done) | (go_simp; rfl)); intro gb554 hg w38 hbox hb; have n0_ := pA (below_step (vB HB) hb); have n1_ := pA (hbox); have n2_ := pA ((by rw [hg]; exact (below_size (vB HB)) : w.heap.size ≤ gb554)); have n3_ := pA ((by rw [hg]; exact (below_size (vB HB)) : w.heap.size ≤ gb554)); clear HB; have HB := n0_; have BK554 := n1_; have GW554 := n2_; have GE554 := n3_; clear n0_ n1_ n2_ n3_; clear hb hbox hg; have hcz39_0 : w38.cell? ⟨gb554, 0, none⟩ = some (.int .i64 a1_0) := (blk_cell BK554.out 0).trans rfl; have hcz39_1 : w38.cell? ⟨gb554, 1, none⟩ = some (.int .i64 a1_1) := (blk_cell BK554.out 1).trans rfl; have hcz39_2 : w38.cell? ⟨gb554, 2, none⟩ = some (.slice A1_2 l1_2.length c1_2) := (blk_cell BK554.out 2).trans rfl; have hfz39_0 := blk_frozen BK554.out 0; have hfz39_1 := blk_frozen BK554.out 1; have hfz39_2 := blk_frozen BK554.out 2) | ((with_reducible refine aF (f := 111) rfl ?_); refine goesL_ (some 15) rfl rfl Try.func111 (by kernel_rfl) rfl #[.int .i64 a1_0, .int .i64 0, .int .i64 (wrap64 ((l0.length : Int) - 1))] rfl (by (try simp only [pE, pF, pG]); first | done | rfl | (simp only [pH, pI]; rfl)) ?_; (with_reducible refine (bung_within.calls a1_0 0 (wrap64 ((l0.length : Int) - 1)) false _ A3.out).mono ?_); rintro e w' ⟨rfl, ⟨nd, rfl⟩⟩; refine ⟨_, rfl, ?_⟩))
  go_ret
  exact ⟨by first | rfl | (simp [errW_none, errW_some] <;> rfl) | (simp [*, errW_none, errW_some] <;> rfl), by repeat (first | (with_reducible first | exact HB.out | apply below_alloc | apply pw_below_drewN | apply below_drew1 | refine below_set ?_ GE554.out) | exact HB.out)⟩
def bung_CheckBreak.f (k : Nat) (a0_0 : Int) (a0_1 : Int) (l0_2 : List (S52)) (a1_0 : Int) (a1_1 : Int) (l1_2 : List Int) : Option (Int) := (bung_isBung.f a0_0 a0_1 l0_2).bind fun t569 => (if t569 = true then ((bung_isBreak.f k l0_2 a1_0 a1_1 l1_2).bind fun t570 => (if t570 = true then (some 0) else (some 35))) else (some 31))
theorem bung_CheckBreak.mono : ∀ a0 a1 a2 a3 a4 a5 k, LeO (bung_CheckBreak.f k a0 a1 a2 a3 a4 a5) (bung_CheckBreak.f (k + 1) a0 a1 a2 a3 a4 a5) := by
 intro a0 a1 a2 a3 a4 a5 k
 unfold bung_CheckBreak.f
 repeat' first
   | (with_reducible exact bung_isBreak.mono _ _ _ _ _)
   | (with_reducible exact LeO.refl _)
   | (with_reducible exact LeO.none _)
   | (with_reducible refine LeO.ite ?_ ?_)
   | (with_reducible refine LeO.bind ?_ (fun _ => ?_))
   | exact bung_isBreak.mono _ _ _ _ _
   | exact LeO.none _
   | refine LeO.ite ?_ ?_
   | refine LeO.bind ?_ (fun _ => ?_)
set_option maxHeartbeats 8000000 in
set_option maxRecDepth 100000 in
theorem bung_CheckBreak.calls (k : Nat) (a0_0 : Int) (a0_1 : Int) (A0_2 : Option Addr) (c0_2 : Nat) (l0_2 : List (S52)) (a1_0 : Int) (a1_1 : Int) (A1_2 : Option Addr) (c1_2 : Nat) (l1_2 : List Int) (r : Int) (w : World) (hr0_2 : Kd.C k52 w A0_2 l0_2.length l0_2) (hc0_2 : l0_2.length ≤ c0_2) (hr1_2 : Kd.C (Kd.int .i64) w A1_2 l1_2.length l1_2) (hc1_2 : l1_2.length ≤ c1_2) (h : bung_CheckBreak.f k a0_0 a0_1 l0_2 a1_0 a1_1 l1_2 = some r) :
  Calls Try.prog 55 #[.agg #[.int .i64 a0_0, .int .i64 a0_1, .slice A0_2 l0_2.length c0_2], .agg #[.int .i64 a1_0, .int .i64 a1_1, .slice A1_2 l1_2.length c1_2]] w fun e w' => e = .returned (.int .i64 r) ∧ Below w.heap.size w w' := by
 have hu43 := Try.underlying43
 have hu75 := Try.underlying75
 have HR0_2 := pA hr0_2
 have HC0_2 := pA hc0_2
 clear hr0_2 hc0_2
 have HR1_2 := pA hr1_2
 have HC1_2 := pA hc1_2
 clear hr1_2 hc1_2
 have HB := pA (Below.refl w.heap.size w)
 have H : ((bung_isBung.f a0_0 a0_1 l0_2).bind fun t569 => (if t569 = true then ((bung_isBreak.f k l0_2 a1_0 a1_1 l1_2).bind fun t570 => (if t570 = true then (some 0) else (some 35))) else (some 31))) = some r := h
 clear h
 replace H := Option.bind_eq_some_iff.mp H
 obtain ⟨t569, A30, H⟩ := H
 replace H : (if t569 = true then ((bung_isBreak.f k l0_2 a1_0 a1_1 l1_2).bind fun t570 => (if t570 = true then (some 0) else (some 35))) else (some 31)) = some r := H
 have A3 := pA A30
 clear A30
 by_cases c4 : t569 = true
 ·subst c4
  have H1 : ((bung_isBreak.f k l0_2 a1_0 a1_1 l1_2).bind fun t570 => (if t570 = true then (some 0) else (some 35))) = some r := by rw [if_pos rfl] at H; exact H
  clear H
  have H := H1
  clear H1
  replace H := Option.bind_eq_some_iff.mp H
  obtain ⟨t570, A50, H⟩ := H
  replace H : (if t570 = true then (some 0) else (some 35)) = some r := H
  have A5 := pA A50
  clear A50
  by_cases c6 : t570 = true
  ·subst c6
   have H1 : (some 0) = some r := by rw [if_pos rfl] at H; exact H
   clear H
   have H := H1
   clear H1
   obtain rfl := Option.some.inj H
   go_enter Try.func55, Try.ntmps55
   go_wp2_with (first | ((with_reducible refine gate_dst (N := 2) rfl ?_); refine box_event ?hg (N := 2) ?hd (cs := #[.int .i64 a0_0, .int .i64 a0_1, .slice A0_2 l0_2.length c0_2]) (t := 43) ?hr ?_; (case hd => rfl); (case hg => rfl); (case hr => first | (go_simp; done) | (go_simp; rfl)); intro gb567 hg w7 hbox hb; have n0_ := pA (below_step (vB HB) hb); have n1_ := pA (hbox); have n2_ := pA ((by rw [hg]; exact (below_size (vB HB)) : w.heap.size ≤ gb567)); have n3_ := pA ((by rw [hg]; exact (below_size (vB HB)) : w.heap.size ≤ gb567)); clear HB; have HB := n0_; have BK567 := n1_; have GW567 := n2_; have GE567 := n3_; clear n0_ n1_ n2_ n3_; clear hb hbox hg) | ((with_reducible refine gate_dst (N := 3) rfl ?_); refine box_event ?hg (N := 3) ?hd (cs := #[.int .i64 a1_0, .int .i64 a1_1, .slice A1_2 l1_2.length c1_2]) (t := 75) ?hr ?_; (case hd => rfl); (case hg => rfl); (case hr => first | (go_simp; done) | (go_simp; rfl)); intro gb568 hg w8 hbox hb; have n0_ := pA (blk_below (g := gb567) (o := .cells #[.int .i64 a0_0, .int .i64 a0_1, .slice A0_2 l0_2.length c0_2] 43 (0, 0)) (vK BK567) hb); have n1_ := pA (below_step (by repeat (first | (with_reducible first | exact HB.out | apply below_alloc | apply pw_below_drewN | apply below_drew1 | refine below_set ?_ GE567.out) | exact HB.out)) hb); have n2_ := pA (hbox); have n3_ := pA ((by rw [hg]; exact (below_size (by repeat (first | (with_reducible first | exact HB.out | apply below_alloc | apply pw_below_drewN | apply below_drew1 | refine below_set ?_ GE567.out) | exact HB.out))) : w.heap.size ≤ gb568)); have n4_ := pA ((by rw [hg]; exact (below_size (by repeat (first | (with_reducible first | exact HB.out | apply below_alloc | apply pw_below_drewN | apply below_drew1 | refine below_set ?_ GE567.out) | exact HB.out))) : w.heap.size ≤ gb568)); have n5_ := pA ((by rw [hg]; exact Nat.ne_of_lt (blk_lt (g := gb567) (o := .cells #[.int .i64 a0_0, .int .i64 a0_1, .slice A0_2 l0_2.length c0_2] 43 (0, 0)) (vK BK567)) : gb567 ≠ gb568)); have n6_ := pA ((by rw [hg]; exact Nat.ne_of_gt (blk_lt (g := gb567) (o := .cells #[.int .i64 a0_0, .int .i64 a0_1, .slice A0_2 l0_2.length c0_2] 43 (0, 0)) (vK BK567)) : gb568 ≠ gb567)); clear BK567; clear HB; have BK567 := n0_; have HB := n1_; have BK568 := n2_; have GW568 := n3_; have GE568 := n4_; have NB567_568 := n5_; have NB568_567 := n6_; clear n0_ n1_ n2_ n3_ n4_ n5_ n6_; clear hb hbox hg; have hnb9 := NB567_568.out; have hnc9 := NB568_567.out; have hcz10_0 : w8.cell? ⟨gb567, 0, none⟩ = some (.int .i64 a0_0) := (blk_cell BK567.out 0).trans rfl; have hcz10_1 : w8.cell? ⟨gb567, 1, none⟩ = some (.int .i64 a0_1) := (blk_cell BK567.out 1).trans rfl; have hcz10_2 : w8.cell? ⟨gb567, 2, none⟩ = some (.slice A0_2 l0_2.length c0_2) := (blk_cell BK567.out 2).trans rfl; have hfz10_0 := blk_frozen BK567.out 0; have hfz10_1 := blk_frozen BK567.out 1; have hfz10_2 := blk_frozen BK567.out 2) | ((with_reducible refine aF (f := 80) rfl ?_); refine goesL_ (some 7) rfl rfl Try.func80 (by kernel_rfl) rfl #[.agg #[.int .i64 a0_0, .int .i64 a0_1, .slice A0_2 l0_2.length c0_2]] rfl (by (try simp only [pE, pF, pG]); first | done | rfl | (simp only [pH, pI]; rfl)) ?_; (with_reducible refine (bung_isBung.calls a0_0 a0_1 _ _ l0_2 true _ ?side1 ?side2 A3.out).mono ?_); (case side1 => repeat (first | exact (Kd.C_below HR0_2.out HB.out) | (with_reducible refine Kd.C_alloc ?_ _) | (with_reducible refine Kd.C_drewN ?_ _) | (with_reducible refine Kd.C_drew ?_))); (case side2 => exact HC0_2.out); rintro e w11 ⟨rfl, hb⟩; refine ⟨_, rfl, ?_⟩; have n0_ := pA (blk_below (g := gb567) (o := .cells #[.int .i64 a0_0, .int .i64 a0_1, .slice A0_2 l0_2.length c0_2] 43 (0, 0)) (vK BK567) hb); have n1_ := pA (blk_below (g := gb568) (o := .cells #[.int .i64 a1_0, .int .i64 a1_1, .slice A1_2 l1_2.length c1_2] 75 (0, 0)) (vK BK568) hb); have n2_ := pA (below_step (by repeat (first | (with_reducible first | exact HB.out | apply below_alloc | apply pw_below_drewN | apply below_drew1 | refine below_set ?_ GE567.out | refine below_set ?_ GE568.out) | exact HB.out)) hb); clear BK567; clear BK568; clear HB; have BK567 := n0_; have BK568 := n1_; have HB := n2_; clear n0_ n1_ n2_; (try clear hb); (try clear hb2); (try clear hk); (try clear hi); have hcz12_0 : w11.cell? ⟨gb567, 0, none⟩ = some (.int .i64 a0_0) := (blk_cell BK567.out 0).trans rfl; have hcz12_1 : w11.cell? ⟨gb567, 1, none⟩ = some (.int .i64 a0_1) := (blk_cell BK567.out 1).trans rfl; have hcz12_2 : w11.cell? ⟨gb567, 2, none⟩ = some (.slice A0_2 l0_2.length c0_2) := (blk_cell BK567.out 2).trans rfl; have hfz12_0 := blk_frozen BK567.out 0; have hfz12_1 := blk_frozen BK567.out 1; have hfz12_2 := blk_frozen BK567.out 2; have hcz13_0 : w11.cell? ⟨gb568, 0, none⟩ = some (.int .i64 a1_0) := (blk_cell BK568.out 0).trans rfl; have hcz13_1 : w11.cell? ⟨gb568, 1, none⟩ = some (.int .i64 a1_1) := (blk_cell BK568.out 1).trans rfl; have hcz13_2 : w11.cell? ⟨gb568, 2, none⟩ = some (.slice A1_2 l1_2.length c1_2) := (blk_cell BK568.out 2).trans rfl; have hfz13_0 := blk_frozen BK568.out 0; have hfz13_1 := blk_frozen BK568.out 1; have hfz13_2 := blk_frozen BK568.out 2) | ((with_reducible refine aF (f := 105) rfl ?_); refine goesL_ (some 13) rfl rfl Try.func105 (by kernel_rfl) rfl #[.slice A0_2 l0_2.length c0_2, .agg #[.int .i64 a1_0, .int .i64 a1_1, .slice A1_2 l1_2.length c1_2]] rfl (by (try simp only [pE, pF, pG]); first | done | rfl | (simp only [pH, pI]; rfl)) ?_; (with_reducible refine (bung_isBreak.calls k _ _ l0_2 a1_0 a1_1 _ _ l1_2 true _ ?side1 ?side2 ?side3 ?side4 A5.out).mono ?_); (case side1 => repeat (first | exact (Kd.C_below HR0_2.out HB.out) | (with_reducible refine Kd.C_alloc ?_ _) | (with_reducible refine Kd.C_drewN ?_ _) | (with_reducible refine Kd.C_drew ?_))); (case side2 => exact HC0_2.out); (case side3 => repeat (first | exact (Kd.C_below HR1_2.out HB.out) | (with_reducible refine Kd.C_alloc ?_ _) | (with_reducible refine Kd.C_drewN ?_ _) | (with_reducible refine Kd.C_drew ?_))); (case side4 => exact HC1_2.out); rintro e w14 ⟨rfl, hb⟩; refine ⟨_, rfl, ?_⟩; have n0_ := pA (blk_below (g := gb567) (o := .cells #[.int .i64 a0_0, .int .i64 a0_1, .slice A0_2 l0_2.length c0_2] 43 (0, 0)) (vK BK567) hb); have n1_ := pA (blk_below (g := gb568) (o := .cells #[.int .i64 a1_0, .int .i64 a1_1, .slice A1_2 l1_2.length c1_2] 75 (0, 0)) (vK BK568) hb); have n2_ := pA (below_step (by repeat (first | (with_reducible first | exact HB.out | apply below_alloc | apply pw_below_drewN | apply below_drew1 | refine below_set ?_ GE567.out | refine below_set ?_ GE568.out) | exact HB.out)) hb); clear BK567; clear BK568; clear HB; have BK567 := n0_; have BK568 := n1_; have HB := n2_; clear n0_ n1_ n2_; (try clear hb); (try clear hb2); (try clear hk); (try clear hi)))
   go_ret
   exact ⟨by first | rfl | (simp [errW_none, errW_some] <;> rfl) | (simp [*, errW_none, errW_some] <;> rfl), by repeat (first | (with_reducible first | exact HB.out | apply below_alloc | apply pw_below_drewN | apply below_drew1 | refine below_set ?_ GE567.out | refine below_set ?_ GE568.out) | exact HB.out)⟩
  ·replace c6 := Bool.eq_false_iff.mpr c6
   subst c6
   have H1 : (some 35) = some r := by rw [if_neg (show ¬ (false = true) by decide)] at H; exact H
   clear H
   have H := H1
   clear H1
   obtain rfl := Option.some.inj H
   go_enter Try.func55, Try.ntmps55
   go_wp2_with (first | ((with_reducible refine gate_dst (N := 2) rfl ?_); refine box_event ?hg (N := 2) ?hd (cs := #[.int .i64 a0_0, .int .i64 a0_1, .slice A0_2 l0_2.length c0_2]) (t := 43) ?hr ?_; (case hd => rfl); (case hg => rfl); (case hr => first | (go_simp; done) | (go_simp; rfl)); intro gb567 hg w15 hbox hb; have n0_ := pA (below_step (vB HB) hb); have n1_ := pA (hbox); have n2_ := pA ((by rw [hg]; exact (below_size (vB HB)) : w.heap.size ≤ gb567)); have n3_ := pA ((by rw [hg]; exact (below_size (vB HB)) : w.heap.size ≤ gb567)); clear HB; have HB := n0_; have BK567 := n1_; have GW567 := n2_; have GE567 := n3_; clear n0_ n1_ n2_ n3_; clear hb hbox hg) | ((with_reducible refine gate_dst (N := 3) rfl ?_); refine box_event ?hg (N := 3) ?hd (cs := #[.int .i64 a1_0, .int .i64 a1_1, .slice A1_2 l1_2.length c1_2]) (t := 75) ?hr ?_; (case hd => rfl); (case hg => rfl); (case hr => first | (go_simp; done) | (go_simp; rfl)); intro gb568 hg w16 hbox hb; have n0_ := pA (blk_below (g := gb567) (o := .cells #[.int .i64 a0_0, .int .i64 a0_1, .slice A0_2 l0_2.length c0_2] 43 (0, 0)) (vK BK567) hb); have n1_ := pA (below_step (by repeat (first | (with_reducible first | exact HB.out | apply below_alloc | apply pw_below_drewN | apply below_drew1 | refine below_set ?_ GE567.out) | exact HB.out)) hb); have n2_ := pA (hbox); have n3_ := pA ((by rw [hg]; exact (below_size (by repeat (first | (with_reducible first | exact HB.out | apply below_alloc | apply pw_below_drewN | apply below_drew1 | refine below_set ?_ GE567.out) | exact HB.out))) : w.heap.size ≤ gb568)); have n4_ := pA ((by rw [hg]; exact (below_size (by repeat (first | (with_reducible first | exact HB.out | apply below_alloc | apply pw_below_drewN | apply below_drew1 | refine below_set ?_ GE567.out) | exact HB.out))) : w.heap.size ≤ gb568)); have n5_ := pA ((by rw [hg]; exact Nat.ne_of_lt (blk_lt (g := gb567) (o := .cells #[.int .i64 a0_0, .int .i64 a0_1, .slice A0_2 l0_2.length c0_2] 43 (0, 0)) (vK BK567)) : gb567 ≠ gb568)); have n6_ := pA ((by rw [hg]; exact Nat.ne_of_gt (blk_lt (g := gb567) (o := .cells #[.int .i64 a0_0, .int .i64 a0_1, .slice A0_2 l0_2.length c0_2] 43 (0, 0)) (vK BK567)) : gb568 ≠ gb567)); clear BK567; clear HB; have BK567 := n0_; have HB := n1_; have BK568 := n2_; have GW568 := n3_; have GE568 := n4_; have NB567_568 := n5_; have NB568_567 := n6_; clear n0_ n1_ n2_ n3_ n4_ n5_ n6_; clear hb hbox hg; have hnb17 := NB567_568.out; have hnc17 := NB568_567.out; have hcz18_0 : w16.cell? ⟨gb567, 0, none⟩ = some (.int .i64 a0_0) := (blk_cell BK567.out 0).trans rfl; have hcz18_1 : w16.cell? ⟨gb567, 1, none⟩ = some (.int .i64 a0_1) := (blk_cell BK567.out 1).trans rfl; have hcz18_2 : w16.cell? ⟨gb567, 2, none⟩ = some (.slice A0_2 l0_2.length c0_2) := (blk_cell BK567.out 2).trans rfl; have hfz18_0 := blk_frozen BK567.out 0; have hfz18_1 := blk_frozen BK567.out 1; have hfz18_2 := blk_frozen BK567.out 2) | ((with_reducible refine aF (f := 80) rfl ?_); refine goesL_ (some 7) rfl rfl Try.func80 (by kernel_rfl) rfl #[.agg #[.int .i64 a0_0, .int .i64 a0_1, .slice A0_2 l0_2.length c0_2]] rfl (by (try simp only [pE, pF, pG]); first | done | rfl | (simp only [pH, pI]; rfl)) ?_; (with_reducible refine (bung_isBung.calls a0_0 a0_1 _ _ l0_2 true _ ?side1 ?side2 A3.out).mono ?_); (case side1 => repeat (first | exact (Kd.C_below HR0_2.out HB.out) | (with_reducible refine Kd.C_alloc ?_ _) | (with_reducible refine Kd.C_drewN ?_ _) | (with_reducible refine Kd.C_drew ?_))); (case side2 => exact HC0_2.out); rintro e w19 ⟨rfl, hb⟩; refine ⟨_, rfl, ?_⟩; have n0_ := pA (blk_below (g := gb567) (o := .cells #[.int .i64 a0_0, .int .i64 a0_1, .slice A0_2 l0_2.length c0_2] 43 (0, 0)) (vK BK567) hb); have n1_ := pA (blk_below (g := gb568) (o := .cells #[.int .i64 a1_0, .int .i64 a1_1, .slice A1_2 l1_2.length c1_2] 75 (0, 0)) (vK BK568) hb); have n2_ := pA (below_step (by repeat (first | (with_reducible first | exact HB.out | apply below_alloc | apply pw_below_drewN | apply below_drew1 | refine below_set ?_ GE567.out | refine below_set ?_ GE568.out) | exact HB.out)) hb); clear BK567; clear BK568; clear HB; have BK567 := n0_; have BK568 := n1_; have HB := n2_; clear n0_ n1_ n2_; (try clear hb); (try clear hb2); (try clear hk); (try clear hi); have hcz20_0 : w19.cell? ⟨gb567, 0, none⟩ = some (.int .i64 a0_0) := (blk_cell BK567.out 0).trans rfl; have hcz20_1 : w19.cell? ⟨gb567, 1, none⟩ = some (.int .i64 a0_1) := (blk_cell BK567.out 1).trans rfl; have hcz20_2 : w19.cell? ⟨gb567, 2, none⟩ = some (.slice A0_2 l0_2.length c0_2) := (blk_cell BK567.out 2).trans rfl; have hfz20_0 := blk_frozen BK567.out 0; have hfz20_1 := blk_frozen BK567.out 1; have hfz20_2 := blk_frozen BK567.out 2; have hcz21_0 : w19.cell? ⟨gb568, 0, none⟩ = some (.int .i64 a1_0) := (blk_cell BK568.out 0).trans rfl; have hcz21_1 : w19.cell? ⟨gb568, 1, none⟩ = some (.int .i64 a1_1) := (blk_cell BK568.out 1).trans rfl; have hcz21_2 : w19.cell? ⟨gb568, 2, none⟩ = some (.slice A1_2 l1_2.length c1_2) := (blk_cell BK568.out 2).trans rfl; have hfz21_0 := blk_frozen BK568.out 0; have hfz21_1 := blk_frozen BK568.out 1; have hfz21_2 := blk_frozen BK568.out 2) | ((with_reducible refine aF (f := 105) rfl ?_); refine goesL_ (some 13) rfl rfl Try.func105 (by kernel_rfl) rfl #[.slice A0_2 l0_2.length c0_2, .agg #[.int .i64 a1_0, .int .i64 a1_1, .slice A1_2 l1_2.length c1_2]] rfl (by (try simp only [pE, pF, pG]); first | done | rfl | (simp only [pH, pI]; rfl)) ?_; (with_reducible refine (bung_isBreak.calls k _ _ l0_2 a1_0 a1_1 _ _ l1_2 false _ ?side1 ?side2 ?side3 ?side4 A5.out).mono ?_); (case side1 => repeat (first | exact (Kd.C_below HR0_2.out HB.out) | (with_reducible refine Kd.C_alloc ?_ _) | (with_reducible refine Kd.C_drewN ?_ _) | (with_reducible refine Kd.C_drew ?_))); (case side2 => exact HC0_2.out); (case side3 => repeat (first | exact (Kd.C_below HR1_2.out HB.out) | (with_reducible refine Kd.C_alloc ?_ _) | (with_reducible refine Kd.C_drewN ?_ _) | (with_reducible refine Kd.C_drew ?_))); (case side4 => exact HC1_2.out); rintro e w22 ⟨rfl, hb⟩; refine ⟨_, rfl, ?_⟩; have n0_ := pA (blk_below (g := gb567) (o := .cells #[.int .i64 a0_0, .int .i64 a0_1, .slice A0_2 l0_2.length c0_2] 43 (0, 0)) (vK BK567) hb); have n1_ := pA (blk_below (g := gb568) (o := .cells #[.int .i64 a1_0, .int .i64 a1_1, .slice A1_2 l1_2.length c1_2] 75 (0, 0)) (vK BK568) hb); have n2_ := pA (below_step (by repeat (first | (with_reducible first | exact HB.out | apply below_alloc | apply pw_below_drewN | apply below_drew1 | refine below_set ?_ GE567.out | refine below_set ?_ GE568.out) | exact HB.out)) hb); clear BK567; clear BK568; clear HB; have BK567 := n0_; have BK568 := n1_; have HB := n2_; clear n0_ n1_ n2_; (try clear hb); (try clear hb2); (try clear hk); (try clear hi)))
   go_ret
   exact ⟨by first | rfl | (simp [errW_none, errW_some] <;> rfl) | (simp [*, errW_none, errW_some] <;> rfl), by repeat (first | (with_reducible first | exact HB.out | apply below_alloc | apply pw_below_drewN | apply below_drew1 | refine below_set ?_ GE567.out | refine below_set ?_ GE568.out) | exact HB.out)⟩
 ·replace c4 := Bool.eq_false_iff.mpr c4
  subst c4
  have H1 : (some 31) = some r := by rw [if_neg (show ¬ (false = true) by decide)] at H; exact H
  clear H
  have H := H1
  clear H1
  obtain rfl := Option.some.inj H
  go_enter Try.func55, Try.ntmps55
  go_wp2_with (first | ((with_reducible refine gate_dst (N := 2) rfl ?_); refine box_event ?hg (N := 2) ?hd (cs := #[.int .i64 a0_0, .int .i64 a0_1, .slice A0_2 l0_2.length c0_2]) (t := 43) ?hr ?_; (case hd => rfl); (case hg => rfl); (case hr => first | (go_simp; done) | (go_simp; rfl)); intro gb567 hg w23 hbox hb; have n0_ := pA (below_step (vB HB) hb); have n1_ := pA (hbox); have n2_ := pA ((by rw [hg]; exact (below_size (vB HB)) : w.heap.size ≤ gb567)); have n3_ := pA ((by rw [hg]; exact (below_size (vB HB)) : w.heap.size ≤ gb567)); clear HB; have HB := n0_; have BK567 := n1_; have GW567 := n2_; have GE567 := n3_; clear n0_ n1_ n2_ n3_; clear hb hbox hg) | ((with_reducible refine gate_dst (N := 3) rfl ?_); refine box_event ?hg (N := 3) ?hd (cs := #[.int .i64 a1_0, .int .i64 a1_1, .slice A1_2 l1_2.length c1_2]) (t := 75) ?hr ?_; (case hd => rfl); (case hg => rfl); (case hr => first | (go_simp; done) | (go_simp; rfl)); intro gb568 hg w24 hbox hb; have n0_ := pA (blk_below (g := gb567) (o := .cells #[.int .i64 a0_0, .int .i64 a0_1, .slice A0_2 l0_2.length c0_2] 43 (0, 0)) (vK BK567) hb); have n1_ := pA (below_step (by repeat (first | (with_reducible first | exact HB.out | apply below_alloc | apply pw_below_drewN | apply below_drew1 | refine below_set ?_ GE567.out) | exact HB.out)) hb); have n2_ := pA (hbox); have n3_ := pA ((by rw [hg]; exact (below_size (by repeat (first | (with_reducible first | exact HB.out | apply below_alloc | apply pw_below_drewN | apply below_drew1 | refine below_set ?_ GE567.out) | exact HB.out))) : w.heap.size ≤ gb568)); have n4_ := pA ((by rw [hg]; exact (below_size (by repeat (first | (with_reducible first | exact HB.out | apply below_alloc | apply pw_below_drewN | apply below_drew1 | refine below_set ?_ GE567.out) | exact HB.out))) : w.heap.size ≤ gb568)); have n5_ := pA ((by rw [hg]; exact Nat.ne_of_lt (blk_lt (g := gb567) (o := .cells #[.int .i64 a0_0, .int .i64 a0_1, .slice A0_2 l0_2.length c0_2] 43 (0, 0)) (vK BK567)) : gb567 ≠ gb568)); have n6_ := pA ((by rw [hg]; exact Nat.ne_of_gt (blk_lt (g := gb567) (o := .cells #[.int .i64 a0_0, .int .i64 a0_1, .slice A0_2 l0_2.length c0_2] 43 (0, 0)) (vK BK567)) : gb568 ≠ gb567)); clear BK567; clear HB; have BK567 := n0_; have HB := n1_; have BK568 := n2_; have GW568 := n3_; have GE568 := n4_; have NB567_568 := n5_; have NB568_567 := n6_; clear n0_ n1_ n2_ n3_ n4_ n5_ n6_; clear hb hbox hg; have hnb25 := NB567_568.out; have hnc25 := NB568_567.out; have hcz26_0 : w24.cell? ⟨gb567, 0, none⟩ = some (.int .i64 a0_0) := (blk_cell BK567.out 0).trans rfl; have hcz26_1 : w24.cell? ⟨gb567, 1, none⟩ = some (.int .i64 a0_1) := (blk_cell BK567.out 1).trans rfl; have hcz26_2 : w24.cell? ⟨gb567, 2, none⟩ = some (.slice A0_2 l0_2.length c0_2) := (blk_cell BK567.out 2).trans rfl; have hfz26_0 := blk_frozen BK567.out 0; have hfz26_1 := blk_frozen BK567.out 1; have hfz26_2 := blk_frozen BK567.out 2) | ((with_reducible refine aF (f := 80) rfl ?_); refine goesL_ (some 7) rfl rfl Try.func80 (by kernel_rfl) rfl #[.agg #[.int .i64 a0_0, .int .i64 a0_1, .slice A0_2 l0_2.length c0_2]] rfl (by (try simp only [pE, pF, pG]); first | done | rfl | (simp only [pH, pI]; rfl)) ?_; (with_reducible refine (bung_isBung.calls a0_0 a0_1 _ _ l0_2 false _ ?side1 ?side2 A3.out).mono ?_); (case side1 => repeat (first | exact (Kd.C_below HR0_2.out HB.out) | (with_reducible refine Kd.C_alloc ?_ _) | (with_reducible refine Kd.C_drewN ?_ _) | (with_reducible refine Kd.C_drew ?_))); (case side2 => exact HC0_2.out); rintro e w27 ⟨rfl, hb⟩; refine ⟨_, rfl, ?_⟩; have n0_ := pA (blk_below (g := gb567) (o := .cells #[.int .i64 a0_0, .int .i64 a0_1, .slice A0_2 l0_2.length c0_2] 43 (0, 0)) (vK BK567) hb); have n1_ := pA (blk_below (g := gb568) (o := .cells #[.int .i64 a1_0, .int .i64 a1_1, .slice A1_2 l1_2.length c1_2] 75 (0, 0)) (vK BK568) hb); have n2_ := pA (below_step (by repeat (first | (with_reducible first | exact HB.out | apply below_alloc | apply pw_below_drewN | apply below_drew1 | refine below_set ?_ GE567.out | refine below_set ?_ GE568.out) | exact HB.out)) hb); clear BK567; clear BK568; clear HB; have BK567 := n0_; have BK568 := n1_; have HB := n2_; clear n0_ n1_ n2_; (try clear hb); (try clear hb2); (try clear hk); (try clear hi)))
  go_ret
  exact ⟨by first | rfl | (simp [errW_none, errW_some] <;> rfl) | (simp [*, errW_none, errW_some] <;> rfl), by repeat (first | (with_reducible first | exact HB.out | apply below_alloc | apply pw_below_drewN | apply below_drew1 | refine below_set ?_ GE567.out | refine below_set ?_ GE568.out) | exact HB.out)⟩
def inR (n lo hi : Int) : Bool := decide (lo ≤ n ∧ n ≤ hi)
/-- Weights lie within those of saggars, one by one. -/
def weighs : List S52 → List Int → Bool
 | s :: t, n :: ns => inR n s.f1.f0 s.f1.f1 && weighs t ns
 | _, _ => true
/-- Is it a break? -/
def breakB (l : List S52) (c b : Int) (ws : List Int) : Bool :=
  inR c 0 ((l.length : Int) - 1) && (decide ((ws.length : Int) = (l.length : Int) - 1 - c) && (inR b (rd_T52 l c).f2.f0 (rd_T52 l c).f2.f1 && (weighs (l.drop (c.toNat + 1)) ws && decide (b < ws.sum))))
/-- The code of a bung's check, and of a break's. -/
def codeBr (l : List S52) (c b : Int) (ws : List Int) : Int := if breakB l c b ws = true then 0 else 35
def potbankref03_CheckBreak.f (a0 a1 : Int) (l : List S52) (c b : Int) (ws : List Int) : Option Int :=
  (potbankref03_Check.f 1000 a0 a1 l).bind fun e => if e ≠ 0 then some 31 else if okSome l = true then some (codeBr l c b ws) else none
theorem In_f (a b c : Int) : potbankref03_In.f a b c = some (inR a b c) := by
  unfold potbankref03_In.f inR
  by_cases h1 : b ≤ a <;> by_cases h2 : a ≤ c <;> simp [h1, h2]
theorem In_calls (a b c : Int) (w : World) : Calls Try.prog 101 #[.int .i64 a, .int .i64 b, .int .i64 c] w fun e w' => e = .returned (.bool (inR a b c)) ∧ ∃ m, w' = w.drewN m :=
  (potbankref03_In.calls a b c (inR a b c) w (In_f a b c)).mono fun e w' ⟨h1, h2⟩ => ⟨h1, by obtain ⟨n, rfl⟩ := h2; exact ⟨n, rfl⟩⟩
/-- Behind x weights. -/
theorem weighs_next {l : List S52} {ws : List Int} (h : ws.length = l.length) {x : Nat} (hx : x < ws.length) : weighs (l.take (x + 1)) (ws.take (x + 1)) = (weighs (l.take x) (ws.take x) && inR ws[x] (l[x]'(by omega)).f1.f0 (l[x]'(by omega)).f1.f1) := by
 induction x generalizing l ws with
 | zero =>
  cases l with
  | nil => rw [List.length_nil] at h; omega
  | cons s t =>
   cases ws with
   | nil => simp at hx
   | cons n ns => simp [weighs]
 | succ x ih =>
  cases l with
  | nil => rw [List.length_nil] at h; omega
  | cons s t =>
   cases ws with
   | nil => simp at hx
   | cons n ns =>
    have := ih (l := t) (ws := ns) (by simpa using h) (by simpa using hx)
    simp only [List.take_succ_cons, weighs, List.getElem_cons_succ]
    rw [this, Bool.and_assoc]
theorem weighs_bad {l : List S52} {ws : List Int} (h : ws.length = l.length) {x : Nat} (hx : x ≤ ws.length) (hb : weighs (l.take x) (ws.take x) = false) : weighs l ws = false := by
 induction x generalizing l ws with
 | zero => simp [weighs] at hb
 | succ x ih =>
  cases l with
  | nil =>
   cases ws with
   | nil => simp [weighs] at hb
   | cons n ns => simp at h
  | cons s t =>
   cases ws with
   | nil => simp at h
   | cons n ns =>
    simp only [List.take_succ_cons, weighs, Bool.and_eq_false_iff] at hb ⊢
    rcases hb with hb | hb
    ·exact .inl hb
    ·exact .inr (ih (by simpa using h) (by simpa using hx) hb)
theorem sum_next (ws : List Int) {x : Nat} (hx : x < ws.length) : (ws.take (x + 1)).sum = (ws.take x).sum + ws[x] := by
  rw [List.take_succ_eq_append_getElem hx, List.sum_append]
  simp
theorem weighs_sum {l : List S52} (hv : l.all vSag = true) : ∀ {ws : List Int}, ws.length ≤ l.length → weighs l ws = true → 0 ≤ ws.sum ∧ ws.sum ≤ 10000000 * ws.length := by
 induction l with
 | nil =>
  intro ws h _
  obtain rfl : ws = [] := List.eq_nil_of_length_eq_zero (by simpa using h)
  simp
 | cons s t ih =>
  intro ws h hw
  cases ws with
  | nil => simp
  | cons n ns =>
   simp only [List.all_cons, Bool.and_eq_true] at hv
   simp only [weighs, Bool.and_eq_true, inR, decide_eq_true_eq] at hw
   have h1 := ih hv.2 (ws := ns) (by simpa using h) hw.2
   have h2 := hv.1
   simp only [vSag, decide_eq_true_eq] at h2
   simp only [List.sum_cons, List.length_cons]
   omega
theorem rd_ii (ws : List Int) {x : Int} (h0 : 0 ≤ x) (h1 : x < ws.length) : rd ws x = ws[x.toNat]'(by omega) := by
  have := rd_nat ws x.toNat (by omega)
  rwa [show ((x.toNat : Nat) : Int) = x by omega] at this
theorem weighs_int {l : List S52} {ws : List Int} {c x : Int} (hc : 0 ≤ c) (h : (ws.length : Int) = (l.length : Int) - 1 - c) (h0 : 0 ≤ x) (h1 : x < ws.length) :
  weighs ((l.drop (c.toNat + 1)).take (x + 1).toNat) (ws.take (x + 1).toNat) = (weighs ((l.drop (c.toNat + 1)).take x.toNat) (ws.take x.toNat) && inR (rd ws x) (rd_T52 l (c + 1 + x)).f1.f0 (rd_T52 l (c + 1 + x)).f1.f1) ∧ (ws.take (x + 1).toNat).sum = (ws.take x.toNat).sum + rd ws x := by
 have hd : ws.length = (l.drop (c.toNat + 1)).length := by rw [List.length_drop]; omega
 have e := weighs_next hd (x := x.toNat) (by omega)
 have e2 := sum_next ws (x := x.toNat) (by omega)
 have e3 : (l.drop (c.toNat + 1))[x.toNat]'(by omega) = rd_T52 l (c + 1 + x) := by
  rw [List.getElem_drop, ← rd_at l _ (by rw [List.length_drop] at hd; omega)]
  congr 1
  omega
 rw [e3, ← rd_ii ws h0 h1] at e
 rw [← rd_ii ws h0 h1] at e2
 rw [show (x + 1).toNat = x.toNat + 1 by omega]
 exact ⟨e, e2⟩
theorem weighs_part {l : List S52} (hs : okSome l = true) {ws : List Int} {c x : Int} (hc : 0 ≤ c) (h : (ws.length : Int) = (l.length : Int) - 1 - c) (h0 : 0 ≤ x) (h1 : x ≤ ws.length) (hw : weighs ((l.drop (c.toNat + 1)).take x.toNat) (ws.take x.toNat) = true) : 0 ≤ (ws.take x.toNat).sum ∧ (ws.take x.toNat).sum ≤ 300000000 := by
 have hl := okSome_len hs
 have hd : ws.length = (l.drop (c.toNat + 1)).length := by rw [List.length_drop]; omega
 have hv : ((l.drop (c.toNat + 1)).take x.toNat).all vSag = true := by
  have := all_drop (okSome_all hs) (c.toNat + 1)
  rw [List.all_eq_true] at this ⊢
  exact fun y hy => this y (List.mem_of_mem_take hy)
 have := weighs_sum hv (ws := ws.take x.toNat) (by rw [List.length_take, List.length_take]; omega) hw
 have h3 := List.length_take (l := ws) (i := x.toNat)
 omega
set_option maxHeartbeats 8000000 in
set_option maxRecDepth 100000 in
theorem checkBreak_in (a0 a1 : Int) (A0 : Option Addr) (c0 : Nat) (l0 : List S52) (c b : Int) (A1 : Option Addr) (c1 : Nat) (ws : List Int) (w : World) (hr0 : Kd.C k52 w A0 l0.length l0) (hc0 : l0.length ≤ c0) (hr1 : Kd.C (Kd.int .i64) w A1 ws.length ws) (hc1 : ws.length ≤ c1) (he : potbankref03_Check.f 1000 a0 a1 l0 = some 0) (hs : okSome l0 = true) :
  Calls Try.prog 56 #[.agg #[.int .i64 a0, .int .i64 a1, .slice A0 l0.length c0], .agg #[.int .i64 c, .int .i64 b, .slice A1 ws.length c1]] w fun e w' => e = .returned (.int .i64 (codeBr l0 c b ws)) ∧ Below w.heap.size w w' := by
 have HR0 := pA hr0
 have HR1 := pA hr1
 have HE := pA he
 have HS := pA hs
 have HL := pA (okSome_len hs)
 clear hr0 hr1 he hs
 have HX := pA (blk_new2 w (.cells #[.int .i64 a0, .int .i64 a1, .slice A0 l0.length c0] 43 (0, 0)) (.cells #[.int .i64 c, .int .i64 b, .slice A1 ws.length c1] 75 (0, 0)))
 have HX2 := pA (blk_alloc (heap_alloc_new w (.cells #[.int .i64 a0, .int .i64 a1, .slice A0 l0.length c0] 43 (0, 0))) (.cells #[.int .i64 c, .int .i64 b, .slice A1 ws.length c1] 75 (0, 0)))
 go_enter Try.func56, Try.ntmps56
 go_wp2_with fail
 refine (potbankref03_Check.calls 1000 a0 a1 A0 c0 l0 0 _ (Kd.C_alloc (Kd.C_alloc HR0.out _) _) hc0 HE.out).mono ?_
 rintro e w1 ⟨rfl, hb⟩
 have HB := pA (below_step (below_alloc (below_alloc (Below.refl w.heap.size w) (.cells #[.int .i64 a0, .int .i64 a1, .slice A0 l0.length c0] 43 (0, 0))) (.cells #[.int .i64 c, .int .i64 b, .slice A1 ws.length c1] 75 (0, 0))) hb)
 replace HX := pA (blk_below HX.out hb)
 replace HX2 := pA (blk_below HX2.out hb)
 clear hb
 have u2 := blk_cell HX2.out 2
 have y0 := blk_cell HX.out 0
 have y1 := blk_cell HX.out 1
 have y2 := blk_cell HX.out 2
 have m1 : IntKind.i64.wrap ((l0.length : Int) - 1) = (l0.length : Int) - 1 := IntWalk.i64_in _ (by have := HL.out; omega)
 cases hb1 : inR c 0 ((l0.length : Int) - 1) with
 | false =>
  have HC := pA (show codeBr l0 c b ws = 35 by unfold codeBr breakB; rw [hb1]; rfl)
  go_wp2_with fail
  go_quiet ((go_at_call 101; exact Calls.quiet_of (In_calls _ _ _ _)))
  go_wp2
  go_ret
  exact ⟨congrArg (fun z => Ending.returned (.int .i64 z)) HC.out.symm, pw_below_drewN HB.out _⟩
 | true =>
  have hcc : 0 ≤ c ∧ c ≤ (l0.length : Int) - 1 := by simpa [inR] using hb1
  have HCC := pA hcc
  have m2 : IntKind.i64.wrap ((l0.length : Int) - 1 - c) = (l0.length : Int) - 1 - c := IntWalk.i64_in _ (by have := HL.out; omega)
  by_cases hlen : (ws.length : Int) = (l0.length : Int) - 1 - c
  ·have q1 : ((ws.length : Int) != (l0.length : Int) - 1 - c) = false := by simp [hlen]
   have HLEN := pA hlen
   obtain ⟨ad, e, -, -, -, x3, x4, -⟩ := at_T52 (Kd.C_below HR0.out HB.out) c hcc.1 (by omega)
   cases e
   have p1 : (0 ≤ c) = True := eq_true hcc.1
   have p2 : (c < (l0.length : Int)) = True := eq_true (by omega)
   clear hlen hcc
   cases hb2 : inR b (rd_T52 l0 c).f2.f0 (rd_T52 l0 c).f2.f1 with
   | false =>
    have HC := pA (show codeBr l0 c b ws = 35 by unfold codeBr breakB; rw [hb1, hb2, Bool.true_and, Bool.false_and, Bool.and_false]; rfl)
    go_wp2_with fail
    go_quiet ((go_at_call 101; exact Calls.quiet_of (In_calls _ _ _ _)))
    go_wp2
    go_ret
    exact ⟨congrArg (fun z => Ending.returned (.int .i64 z)) HC.out.symm, pw_below_drewN HB.out _⟩
   | true =>
    have HC := pA (show codeBr l0 c b ws = if (weighs (l0.drop (c.toNat + 1)) ws && decide (b < ws.sum)) = true then 0 else 35 by unfold codeBr breakB; rw [hb1, hb2, decide_eq_true HLEN.out, Bool.true_and, Bool.true_and, Bool.true_and])
    go_wp2_with fail
    go_quiet ((go_at_call 101; exact Calls.quiet_of (In_calls _ _ _ _)))
    go_wp2
    clear x3 x4 y0 y1 y2 u2 m1 m2 q1 p1 p2 hb1 hb2
    go_loopw [6, 7] (fun v6 v7 W => ∃ x s : Int, v6 = .int .i64 s ∧ v7 = .int .i64 x ∧ Aside0 (0 ≤ x ∧ x ≤ ws.length) ∧ Aside0 (s = (ws.take x.toNat).sum ∧ weighs ((l0.drop (c.toNat + 1)).take x.toNat) (ws.take x.toNat) = true) ∧ Aside0 (W.heap[w.heap.size + 1]? = some (.cells #[.int .i64 c, .int .i64 b, .slice A1 ws.length c1] 75 (0, 0))) ∧ Aside0 (Below w.heap.size w W)) (fun _ v7 _ => ws.length - (intOf v7).toNat)
    case atStart => exact ⟨0, 0, rfl, rfl, ⟨by omega⟩, ⟨by simp [weighs]⟩, ⟨blk_drewN HX.out _⟩, ⟨pw_below_drewN HB.out _⟩⟩
    case round =>
     clear HX HX2 HB
     obtain ⟨x, s, rfl, rfl, HK, HI, HX, HB⟩ := hrel
     have y0 := blk_cell HX.out 0
     have y1 := blk_cell HX.out 1
     have y2 := blk_cell HX.out 2
     by_cases hk : x < (ws.length : Int)
     ·have hkb : decide (x < (ws.length : Int)) = true := decide_eq_true hk
      have HKL := pA hk
      have HN := pA (weighs_int HCC.out.1 HLEN.out HK.out.1 hk)
      have m1 : wrap64 (c + 1) = c + 1 := by have := HCC.out; have := HL.out; unfold wrap64; omega
      have m2 : wrap64 (c + 1 + x) = c + 1 + x := by have := HCC.out; have := HL.out; have := HLEN.out; have := HK.out; unfold wrap64; omega
      have g0 : 0 ≤ c + 1 + x := by have := HCC.out; have := HK.out; omega
      have g1 : c + 1 + x < (l0.length : Int) := by have := HLEN.out; omega
      obtain ⟨ad', e, -, x1, x2, -⟩ := at_T52 (Kd.C_below HR0.out HB.out) (c + 1 + x) g0 g1
      cases e
      obtain ⟨ad2, e, z0⟩ := Kd.at_int (Kd.C_below HR1.out HB.out) x HK.out.1 hk
      cases e
      have p1 : (0 ≤ c + 1 + x) = True := eq_true g0
      have p2 : (c + 1 + x < (l0.length : Int)) = True := eq_true g1
      have p3 : (0 ≤ x) = True := eq_true HK.out.1
      replace hk := eq_true hk
      obtain ⟨E, hE⟩ : ∃ E, E = rd_T52 l0 (c + 1 + x) := ⟨_, rfl⟩
      rw [← hE] at x1 x2 HN
      have hwr : ∀ o, (wr.alloc o).cell? (ad2.add x.toNat) = some (.int .i64 (rd ws x)) := fun o => pw_cell_below (below_alloc (Below.refl _ _) o) z0
      have z1 := hwr (.cells #[.int .i64 E.f1.f0, .int .i64 E.f1.f1] 23)
      have v2 := pw_cell_below (below_alloc (Below.refl wr.heap.size wr) (.cells #[.int .i64 E.f1.f0, .int .i64 E.f1.f1] 23)) (show wr.cell? ⟨w.heap.size + 1, 2, none⟩ = some (.slice (some ad2) ws.length c1) from y2)
      clear hwr z0 g0 g1 hE
      have HNX := pA (show wrap64 (x + 1) = x + 1 by have := HK.out; have := HKL.out; have := HLEN.out; have := HL.out; have := HCC.out; unfold wrap64; omega)
      have HWP := pA (weighs_part HS.out HCC.out.1 HLEN.out HK.out.1 HK.out.2 HI.out.2)
      cases hb : inR (rd ws x) E.f1.f0 E.f1.f1 with
      | false =>
       have HC2 := pA (show codeBr l0 c b ws = 35 by
        have h1 := HN.out.1
        rw [hb, Bool.and_false] at h1
        have := weighs_bad (show ws.length = (l0.drop (c.toNat + 1)).length by have := HLEN.out; have := HCC.out; rw [List.length_drop]; omega) (x := (x + 1).toNat) (by have := HKL.out; have := HK.out; omega) h1
        rw [HC.out, this]
        rfl)
       go_wp2
       go_quiet ((go_at_call 101; exact Calls.quiet_of (In_calls _ _ _ _)))
       go_wp2
       go_ret
       exact ⟨congrArg (fun z => Ending.returned (.int .i64 z)) HC2.out.symm, pw_below_drewN (below_alloc HB.out _) _⟩
      | true =>
       have hin : E.f1.f0 ≤ rd ws x ∧ rd ws x ≤ E.f1.f1 := by simpa [inR] using hb
       have hw2 := HN.out.1
       rw [hb, HI.out.2] at hw2
       have HW2 := pA hw2
       have HP2 := pA (weighs_part HS.out HCC.out.1 HLEN.out (x := x + 1) (by have := HK.out; omega) (by have := HKL.out; omega) hw2)
       have m3 : wrap64 (s + rd ws x) = s + rd ws x := by
        have h1 := HN.out.2
        have h2 := HP2.out
        have h3 := HI.out.1
        unfold wrap64
        omega
       clear hin hw2
       go_wp2
       go_quiet ((go_at_call 101; exact Calls.quiet_of (In_calls _ _ _ _)))
       go_wp2
       go_roundw
       case measure => have := HKL.out; have := HK.out; simp [intOf, HNX.out]; omega
       case rel => exact ⟨x + 1, s + rd ws x, by first | rfl | rw [m3], by rw [HNX.out], ⟨by have := HKL.out; have := HK.out; omega⟩, ⟨⟨by rw [HN.out.2, HI.out.1], HW2.out⟩⟩, ⟨blk_drewN (blk_alloc HX.out _) _⟩, ⟨pw_below_drewN (below_alloc HB.out _) _⟩⟩
     ·have hkb : decide (x < (ws.length : Int)) = false := decide_eq_false hk
      have HF := pA (show weighs (l0.drop (c.toNat + 1)) ws = true ∧ s = ws.sum by
       have h1 := HI.out
       have h2 : ws.length = (l0.drop (c.toNat + 1)).length := by have := HLEN.out; have := HCC.out; rw [List.length_drop]; omega
       rw [List.take_of_length_le (by have := HK.out; omega), List.take_of_length_le (by have := HK.out; omega)] at h1
       exact ⟨h1.2, h1.1⟩)
      clear hk
      by_cases hs : s ≤ b
      ·have d1 : decide (s ≤ b) = true := decide_eq_true hs
       have HC2 := pA (show codeBr l0 c b ws = 35 by rw [HC.out, HF.out.1, ← HF.out.2, decide_eq_false (by omega)]; rfl)
       clear hs
       go_wp2
       go_ret
       exact ⟨congrArg (fun z => Ending.returned (.int .i64 z)) HC2.out.symm, HB.out⟩
      ·have d1 : decide (s ≤ b) = false := decide_eq_false hs
       have HC2 := pA (show codeBr l0 c b ws = 0 by rw [HC.out, HF.out.1, ← HF.out.2, decide_eq_true (by omega)]; rfl)
       clear hs
       go_wp2
       go_ret
       exact ⟨congrArg (fun z => Ending.returned (.int .i64 z)) HC2.out.symm, HB.out⟩
  ·have q1 : ((ws.length : Int) != (l0.length : Int) - 1 - c) = true := by simp [hlen]
   have HC := pA (show codeBr l0 c b ws = 35 by unfold codeBr breakB; rw [hb1, decide_eq_false hlen]; rfl)
   clear hlen hcc
   go_wp2_with fail
   go_quiet ((go_at_call 101; exact Calls.quiet_of (In_calls _ _ _ _)))
   go_wp2
   go_ret
   exact ⟨congrArg (fun z => Ending.returned (.int .i64 z)) HC.out.symm, pw_below_drewN HB.out _⟩
set_option maxHeartbeats 4000000 in
set_option maxRecDepth 100000 in
theorem potbankref03_CheckBreak.calls (a0 a1 : Int) (A0 : Option Addr) (c0 : Nat) (l0 : List S52) (c b : Int) (A1 : Option Addr) (c1 : Nat) (ws : List Int) (r : Int) (w : World) (hr0 : Kd.C k52 w A0 l0.length l0) (hc0 : l0.length ≤ c0) (hr1 : Kd.C (Kd.int .i64) w A1 ws.length ws) (hc1 : ws.length ≤ c1) (h : potbankref03_CheckBreak.f a0 a1 l0 c b ws = some r) :
  Calls Try.prog 56 #[.agg #[.int .i64 a0, .int .i64 a1, .slice A0 l0.length c0], .agg #[.int .i64 c, .int .i64 b, .slice A1 ws.length c1]] w fun e w' => e = .returned (.int .i64 r) ∧ Below w.heap.size w w' := by
 unfold potbankref03_CheckBreak.f at h
 obtain ⟨e, he, h⟩ := Option.bind_eq_some_iff.1 h
 by_cases h0 : e = 0
 ·subst h0
  rw [if_neg (by decide)] at h
  split at h
  ·rename_i hs
   obtain rfl := Option.some.inj h
   exact checkBreak_in a0 a1 A0 c0 l0 c b A1 c1 ws w hr0 hc0 hr1 hc1 he hs
  ·cases h
 ·rw [if_pos h0] at h
  obtain rfl := Option.some.inj h
  have HR0 := pA hr0
  have HE := pA he
  have kn : (e != 0) = true := by simp [h0]
  clear hr0 he h h0
  go_enter Try.func56, Try.ntmps56
  go_wp2_with (go_at_call 48; refine (potbankref03_Check.calls 1000 a0 a1 A0 c0 l0 e _ (Kd.C_alloc (Kd.C_alloc HR0.out _) _) hc0 HE.out).mono ?_; rintro e w1 ⟨rfl, hb⟩; have HB1 := pA (below_step (below_alloc (below_alloc (Below.refl _ _) _) _) hb); clear hb)
  go_ret
  exact ⟨rfl, HB1.out⟩
/-- The break that is shown, from a course on. -/
def brk : List S52 → Int → Int × Int × List Int × Int
 | [], _ => (0, 0, [], 34)
 | s :: t, i => if ansOf (sumW t) s.f2 = 1 then brk t (i + 1) else (i, s.f2.f0, t.map (·.f1.f1), 0)
theorem ourB_l1 (y : List S52) (c b : Int) (hl : y.length ≤ 1000) : ∀ (d j k : Nat) (acc : List Int), y.length - j = d → j ≤ y.length → d < k → acc.length ≤ j → bung_Breaks.l1 k y (y.length : Int) (j : Int) c b acc = some (c, b, acc ++ (y.drop j).map (·.f1.f1), 0) := by
 intro d
 induction d with
 | zero =>
  intro j k acc hd hj hk ha
  obtain ⟨k, rfl⟩ : ∃ m, k = m + 1 := ⟨k - 1, by omega⟩
  simp only [bung_Breaks.l1]
  rw [if_neg (by omega), List.drop_eq_nil_of_le (by omega)]
  simp
 | succ d ih =>
  intro j k acc hd hj hk ha
  obtain ⟨k, rfl⟩ : ∃ m, k = m + 1 := ⟨k - 1, by omega⟩
  have hlt : j < y.length := by omega
  have e : y.drop j = y[j] :: y.drop (j + 1) := List.drop_eq_getElem_cons hlt
  simp only [bung_Breaks.l1]
  rw [if_pos (by omega), if_pos (by omega), if_pos (by omega), if_pos (by omega), rd52_nat y j hlt, wrap_next (by omega), ih (j + 1) k _ (by omega) (by omega) (by omega) (by simp; omega), e, List.map_cons, List.append_assoc]
  rfl
theorem refB_l1 (y : List S52) (a0 a1 c b : Int) (hl : y.length ≤ 1000) : ∀ (d j k : Nat) (acc : List Int), y.length - j = d → j ≤ y.length → d < k → acc.length ≤ j → potbankref03_Breaks.l1 k (j : Int) a0 a1 y c b acc = some (c, b, acc ++ (y.drop j).map (·.f1.f1), 0) := by
 intro d
 induction d with
 | zero =>
  intro j k acc hd hj hk ha
  obtain ⟨k, rfl⟩ : ∃ m, k = m + 1 := ⟨k - 1, by omega⟩
  simp only [potbankref03_Breaks.l1]
  rw [if_neg (by omega), List.drop_eq_nil_of_le (by omega)]
  simp
 | succ d ih =>
  intro j k acc hd hj hk ha
  obtain ⟨k, rfl⟩ : ∃ m, k = m + 1 := ⟨k - 1, by omega⟩
  have hlt : j < y.length := by omega
  have e : y.drop j = y[j] :: y.drop (j + 1) := List.drop_eq_getElem_cons hlt
  simp only [potbankref03_Breaks.l1]
  rw [if_pos (by omega), if_pos (by omega), if_pos (by omega), rd52_nat y j hlt, wrap_next (by omega), ih (j + 1) k _ (by omega) (by omega) (by omega) (by simp; omega), e, List.map_cons, List.append_assoc]
  rfl
theorem course_at (l : List S52) (i : Nat) (h : i < l.length) : rd (coursesOf l) (i : Int) = ansOf (sumW (l.drop (i + 1))) l[i].f2 := by
 have e := coursesOf_take l i h
 have hl : i < (coursesOf l).length := by rw [coursesOf_length]; exact h
 rw [List.take_succ_eq_append_getElem hl] at e
 rw [rd_nat _ _ hl]
 exact List.head_eq_of_cons_eq (List.append_cancel_left e)
theorem ourB_l0 (l : List S52) (a b : Int) (hl : l.length ≤ 30) : ∀ (d i k : Nat), l.length - i = d → i ≤ l.length → d + 100 < k → bung_Breaks.l0 k (coursesOf l) (l.length : Int) (i : Int) a b l = some (brk (l.drop i) i) := by
 intro d
 induction d with
 | zero =>
  intro i k hd hi hk
  obtain ⟨k, rfl⟩ : ∃ m, k = m + 1 := ⟨k - 1, by omega⟩
  simp only [bung_Breaks.l0]
  rw [if_neg (by omega), List.drop_eq_nil_of_le (by omega)]
  rfl
 | succ d ih =>
  intro i k hd hi hk
  obtain ⟨k, rfl⟩ : ∃ m, k = m + 1 := ⟨k - 1, by omega⟩
  have hlt : i < l.length := by omega
  have e : l.drop i = l[i] :: l.drop (i + 1) := List.drop_eq_getElem_cons hlt
  simp only [bung_Breaks.l0]
  rw [if_pos (by omega), if_pos (by omega), if_pos (by rw [coursesOf_length]; omega), course_at l i hlt, e]
  simp only [brk]
  by_cases h : ansOf (sumW (l.drop (i + 1))) l[i].f2 = 1
  ·rw [if_pos h, if_pos h, wrap_next (by omega)]
   exact ih (i + 1) k (by omega) (by omega) (by omega)
  ·rw [if_neg h, if_neg h, if_pos (by omega), wrap_next (by omega), if_pos (by omega), if_pos (by omega), rd52_nat l i hlt, show (((i + 1 : Nat) : Int)).toNat = i + 1 from rfl, Option.bind_some]
   have := ourB_l1 (l.drop (i + 1)) (i : Int) l[i].f2.f0 (by rw [List.length_drop]; omega) (l.drop (i + 1)).length 0 k [] (by omega) (by omega) (by rw [List.length_drop]; omega) (by simp)
   simpa using this
theorem refB_l0 (l : List S52) (a b : Int) (hs : okSome l = true) : ∀ (d i k : Nat), l.length - i = d → i ≤ l.length → d + 100 < k → potbankref03_Breaks.l0 k (i : Int) a b l = some (brk (l.drop i) i) := by
 have hl := okSome_len hs
 intro d
 induction d with
 | zero =>
  intro i k hd hi hk
  obtain ⟨k, rfl⟩ : ∃ m, k = m + 1 := ⟨k - 1, by omega⟩
  simp only [potbankref03_Breaks.l0]
  rw [if_neg (by omega), List.drop_eq_nil_of_le (by omega)]
  rfl
 | succ d ih =>
  intro i k hd hi hk
  obtain ⟨k, rfl⟩ : ∃ m, k = m + 1 := ⟨k - 1, by omega⟩
  have hlt : i < l.length := by omega
  have e : l.drop i = l[i] :: l.drop (i + 1) := List.drop_eq_getElem_cons hlt
  simp only [potbankref03_Breaks.l0]
  rw [if_pos (by omega), answer_some hs (by omega) (by omega), Option.bind_some, rd52_nat l i hlt, show ((i : Int)).toNat = i from rfl, e]
  simp only [brk]
  by_cases h : ansOf (sumW (l.drop (i + 1))) l[i].f2 = 1
  ·rw [if_pos h, if_pos h, wrap_next (by omega)]
   exact ih (i + 1) k (by omega) (by omega) (by omega)
  ·rw [if_neg h, if_neg h, if_pos (by omega), wrap_next (by omega)]
   have := refB_l1 l a b (i : Int) l[i].f2.f0 (by omega) (l.length - (i + 1)) (i + 1) k [] (by omega) (by omega) (by omega) (by simp)
   simpa using this
theorem brk_len (l : List S52) : ∀ i, (brk l i).2.2.1.length ≤ l.length := by
 induction l with
 | nil => intro i; simp [brk]
 | cons s t ih =>
  intro i
  simp only [brk]
  split
  ·have := ih (i + 1); simp; omega
  ·simp
theorem breaks_both (a b : Int) (l : List S52) : ∃ x, bung_Breaks.f 2000 a b l = some x ∧ potbankref03_Breaks.f 2000 a b l = some x ∧ x.2.2.1.length ≤ 1000 := by
 unfold bung_Breaks.f potbankref03_Breaks.f
 rw [isBung_eq, refCheck_eq a b l 2000 (by omega)]
 simp only [Option.bind_some, decide_eq_true_eq]
 by_cases hb : vWad a b = true ∧ l ≠ [] ∧ okList l = true
 ·have hs := okSome_of hb.2.2
  have hl := okSome_len hs
  rw [if_pos hb, if_pos hb, if_pos rfl, courses_eq l hs 2000 (by omega)]
  simp only [Option.bind_some]
  have e1 := ourB_l0 l a b hl l.length 0 2000 (by omega) (by omega) (by omega)
  have e2 := refB_l0 l a b hs l.length 0 2000 (by omega) (by omega) (by omega)
  refine ⟨brk l 0, ?_, ?_, by have := brk_len l 0; omega⟩
  ·rw [coursesOf_length]
   simpa using e1
  ·simpa using e2
 ·rw [if_neg hb, if_neg hb]
  exact ⟨(0, 0, [], 31), rfl, by simp, by simp⟩
theorem within_in (a b c : Int) : bung_within.f a b c = some (inR a b c) := by rw [within_f]; rfl
theorem isBreak_l0 (above : List S52) (hv : above.all vSag = true) (ha : above.length ≤ 30) (ws : List Int) (hl : ws.length = above.length) (c b : Int) : ∀ (d x k : Nat) (s : Int), ws.length - x = d → x ≤ ws.length → d < k → 0 ≤ s → s ≤ 10000000 * x →
  bung_isBreak.l0 k above s ws (ws.length : Int) (x : Int) c b ws = some (weighs (above.drop x) (ws.drop x) && decide (b < s + (ws.drop x).sum)) := by
 intro d
 induction d with
 | zero =>
  intro x k s hd hx hk _ _
  obtain ⟨k, rfl⟩ : ∃ m, k = m + 1 := ⟨k - 1, by omega⟩
  simp only [bung_isBreak.l0]
  rw [if_neg (by omega), List.drop_eq_nil_of_le (by omega), List.drop_eq_nil_of_le (by omega)]
  simp [weighs]
 | succ d ih =>
  intro x k s hd hx hk h0 h1
  obtain ⟨k, rfl⟩ : ∃ m, k = m + 1 := ⟨k - 1, by omega⟩
  have hlt : x < ws.length := by omega
  have hlt2 : x < above.length := by omega
  have e : ws.drop x = ws[x] :: ws.drop (x + 1) := List.drop_eq_getElem_cons hlt
  have e2 : above.drop x = above[x] :: above.drop (x + 1) := List.drop_eq_getElem_cons hlt2
  have hvx := List.all_eq_true.1 hv above[x] (List.getElem_mem hlt2)
  simp only [vSag, decide_eq_true_eq] at hvx
  simp only [bung_isBreak.l0]
  rw [if_pos (by omega), if_pos (by omega), if_pos (by omega), if_pos (by omega), rd_nat ws x hlt, rd52_nat above x hlt2, within_in, e, e2]
  simp only [Option.bind_some, weighs, List.sum_cons]
  cases hb : inR ws[x] above[x].f1.f0 above[x].f1.f1 with
  | false => simp
  | true =>
   have hin : above[x].f1.f0 ≤ ws[x] ∧ ws[x] ≤ above[x].f1.f1 := by simpa [inR] using hb
   rw [if_pos rfl, wrap_next (by omega), wrap_id (by omega) (by omega), ih (x + 1) k (s + ws[x]) (by omega) (by omega) (by omega) (by omega) (by push_cast; omega), Bool.true_and, Int.add_assoc]
   rfl
end Go.Proofs.Ytbiakjgjedhjhaa.P
