/- Proved: the law BungLoads of the program potbank answers true for every input, and leaves its arguments as they were. Conditions: none. (Part 9 of the texts, put together by wip/assemble.py of this repository.) -/
import Derived.Test.YtbiakjgjedhjhaaLk8
set_option linter.unusedVariables false
set_option linter.unusedSimpArgs false
namespace Go.Proofs.Ytbiakjgjedhjhaa.P
open Go.RowKit Go.Proofs.YtbiakjgjedhjhaaW.PrintWords Go.Proofs.YtbiakjgjedhjhaaW.PrintLast
attribute [local go_sem high] eqA23
set_option maxHeartbeats 8000000 in
set_option maxRecDepth 100000 in
theorem loads_walk (a b : Int) (A0 : Option Addr) (c0 : Nat) (l0 : List S52) (w : World) (hr0 : Kd.C k52 w A0 l0.length l0) (hc0 : l0.length ≤ c0) :
  Calls Try.prog 6 #[.agg #[.int .i64 a, .int .i64 b, .slice A0 l0.length c0]] w fun e w' => e = .returned (.bool true) ∧ Below w.heap.size w w' := by
 have HR0 := pA hr0
 obtain ⟨T⟩ := told a b l0
 obtain ⟨xs, ys, st, hi, ln, e, hx, hy, o1, o2, o3, o4, o5, r1, r2, r3, r4, r5⟩ := T
 have HX_ := pA hx
 have HY_ := pA hy
 have O1_ := pA o1
 have O2_ := pA o2
 have O3_ := pA o3
 have O4_ := pA o4
 have O5_ := pA o5
 have R1_ := pA r1
 have R2_ := pA r2
 have R3_ := pA r3
 have R4_ := pA r4
 have R5_ := pA r5
 clear hr0 hx hy o1 o2 o3 o4 o5 r1 r2 r3 r4 r5
 have q1 : (e == e) = true := by simp
 have q2 : (st == st) = true := by simp
 have q3 : (ln == ln) = true := by simp
 have q4 : (hi.f0 == hi.f0 && (hi.f1 == hi.f1)) = true := by simp
 have HX := pA (heap_alloc_new w (.cells #[.int .i64 a, .int .i64 b, .slice A0 l0.length c0] 43 (0, 0)))
 go_enter Try.func6, Try.ntmps6
 go_wp2_with fail
 refine (potbanklaw03_sane.calls true _ rfl).mono ?_
 rintro e' w1 ⟨rfl, hb⟩
 have HB := pA (below_step (below_alloc (Below.refl w.heap.size w) (.cells #[.int .i64 a, .int .i64 b, .slice A0 l0.length c0] 43 (0, 0))) hb)
 replace HX := pA (blk_below HX.out hb)
 clear hb
 have x0 := blk_cell HX.out 0
 have x1 := blk_cell HX.out 1
 have x2 := blk_cell HX.out 2
 go_wp2_with fail
 refine (bung_Loads.calls a b A0 c0 l0 xs e _ (Kd.C_below HR0.out HB.out) hc0 O1_.out).mono ?_
 rintro e' w2 ⟨v2, rfl, ho1, hb⟩
 replace HX := pA (blk_below HX.out hb)
 replace HB := pA (below_step HB.out hb)
 clear hb x0 x1 x2
 have x0 := blk_cell HX.out 0
 have x1 := blk_cell HX.out 1
 have x2 := blk_cell HX.out 2
 go_wp2_with fail
 refine (potbankref03_Loads.calls 2000 a b A0 c0 l0 xs e _ (Kd.C_below HR0.out HB.out) hc0 R1_.out).mono ?_
 rintro e' w3 ⟨v3, rfl, ho2, hb⟩
 replace HX := pA (blk_below HX.out hb)
 replace ho1 := Kd.R_below ho1 hb
 replace HB := pA (below_step HB.out hb)
 clear hb x0 x1 x2
 have x0 := blk_cell HX.out 0
 have x1 := blk_cell HX.out 1
 have x2 := blk_cell HX.out 2
 go_wp2_with fail
 refine (bung_Courses.calls 2000 a b A0 c0 l0 ys e _ (Kd.C_below HR0.out HB.out) hc0 O2_.out).mono ?_
 rintro e' w4 ⟨v4, rfl, ho3, hb⟩
 replace HX := pA (blk_below HX.out hb)
 replace ho1 := Kd.R_below ho1 hb
 replace ho2 := Kd.R_below ho2 hb
 replace HB := pA (below_step HB.out hb)
 clear hb x0 x1 x2
 have x0 := blk_cell HX.out 0
 have x1 := blk_cell HX.out 1
 have x2 := blk_cell HX.out 2
 go_wp2_with fail
 refine (potbankref03_Courses.calls 2000 a b A0 c0 l0 ys e _ (Kd.C_below HR0.out HB.out) hc0 R2_.out).mono ?_
 rintro e' w5 ⟨v5, rfl, ho4, hb⟩
 replace HX := pA (blk_below HX.out hb)
 replace ho1 := Kd.R_below ho1 hb
 replace ho2 := Kd.R_below ho2 hb
 replace ho3 := Kd.R_below ho3 hb
 replace HB := pA (below_step HB.out hb)
 clear hb x0 x1 x2
 have x0 := blk_cell HX.out 0
 have x1 := blk_cell HX.out 1
 have x2 := blk_cell HX.out 2
 go_wp2_with fail
 refine (bung_Stands.calls 2000 a b A0 c0 l0 st e _ (Kd.C_below HR0.out HB.out) hc0 O3_.out).mono ?_
 rintro e' w6 ⟨rfl, hb⟩
 replace HX := pA (blk_below HX.out hb)
 replace ho1 := Kd.R_below ho1 hb
 replace ho2 := Kd.R_below ho2 hb
 replace ho3 := Kd.R_below ho3 hb
 replace ho4 := Kd.R_below ho4 hb
 replace HB := pA (below_step HB.out hb)
 clear hb x0 x1 x2
 have x0 := blk_cell HX.out 0
 have x1 := blk_cell HX.out 1
 have x2 := blk_cell HX.out 2
 go_wp2_with fail
 refine (potbankref03_Stands.calls 2000 a b A0 c0 l0 st e _ (Kd.C_below HR0.out HB.out) hc0 R3_.out).mono ?_
 rintro e' w7 ⟨rfl, hb⟩
 replace HX := pA (blk_below HX.out hb)
 replace ho1 := Kd.R_below ho1 hb
 replace ho2 := Kd.R_below ho2 hb
 replace ho3 := Kd.R_below ho3 hb
 replace ho4 := Kd.R_below ho4 hb
 replace HB := pA (below_step HB.out hb)
 clear hb x0 x1 x2
 have x0 := blk_cell HX.out 0
 have x1 := blk_cell HX.out 1
 have x2 := blk_cell HX.out 2
 go_wp2_with fail
 refine (bung_Height.calls 2000 a b A0 c0 l0 hi.f0 hi.f1 e _ (Kd.C_below HR0.out HB.out) hc0 O4_.out).mono ?_
 rintro e' w8 ⟨rfl, hb⟩
 replace HX := pA (blk_below HX.out hb)
 replace ho1 := Kd.R_below ho1 hb
 replace ho2 := Kd.R_below ho2 hb
 replace ho3 := Kd.R_below ho3 hb
 replace ho4 := Kd.R_below ho4 hb
 replace HB := pA (below_step HB.out hb)
 clear hb x0 x1 x2
 have x0 := blk_cell (blk_alloc HX.out (.cells #[.int .i64 hi.f0, .int .i64 hi.f1] 23 (0, 0))) 0
 have x1 := blk_cell (blk_alloc HX.out (.cells #[.int .i64 hi.f0, .int .i64 hi.f1] 23 (0, 0))) 1
 have x2 := blk_cell (blk_alloc HX.out (.cells #[.int .i64 hi.f0, .int .i64 hi.f1] 23 (0, 0))) 2
 go_wp2_with fail
 refine (potbankref03_Height.calls 2000 a b A0 c0 l0 hi.f0 hi.f1 e _ (Kd.C_below HR0.out (below_alloc HB.out (.cells #[.int .i64 hi.f0, .int .i64 hi.f1] 23 (0, 0)))) hc0 R4_.out).mono ?_
 rintro e' w9 ⟨rfl, hb⟩
 replace ho1 := Kd.R_alloc ho1 (.cells #[.int .i64 hi.f0, .int .i64 hi.f1] 23 (0, 0))
 replace ho2 := Kd.R_alloc ho2 (.cells #[.int .i64 hi.f0, .int .i64 hi.f1] 23 (0, 0))
 replace ho3 := Kd.R_alloc ho3 (.cells #[.int .i64 hi.f0, .int .i64 hi.f1] 23 (0, 0))
 replace ho4 := Kd.R_alloc ho4 (.cells #[.int .i64 hi.f0, .int .i64 hi.f1] 23 (0, 0))
 have HH1 := pA (blk_below (heap_alloc_new w8 (.cells #[.int .i64 hi.f0, .int .i64 hi.f1] 23 (0, 0))) hb)
 replace HX := pA (blk_below (blk_alloc HX.out (.cells #[.int .i64 hi.f0, .int .i64 hi.f1] 23 (0, 0))) hb)
 replace ho1 := Kd.R_below ho1 hb
 replace ho2 := Kd.R_below ho2 hb
 replace ho3 := Kd.R_below ho3 hb
 replace ho4 := Kd.R_below ho4 hb
 replace HB := pA (below_step (below_alloc HB.out (.cells #[.int .i64 hi.f0, .int .i64 hi.f1] 23 (0, 0))) hb)
 clear hb x0 x1 x2
 have x0 := blk_cell (blk_alloc HX.out (.cells #[.int .i64 hi.f0, .int .i64 hi.f1] 23 (0, 0))) 0
 have x1 := blk_cell (blk_alloc HX.out (.cells #[.int .i64 hi.f0, .int .i64 hi.f1] 23 (0, 0))) 1
 have x2 := blk_cell (blk_alloc HX.out (.cells #[.int .i64 hi.f0, .int .i64 hi.f1] 23 (0, 0))) 2
 go_wp2_with fail
 refine (bung_Lean.calls 2000 a b A0 c0 l0 ln e _ (Kd.C_below HR0.out (below_alloc HB.out (.cells #[.int .i64 hi.f0, .int .i64 hi.f1] 23 (0, 0)))) hc0 O5_.out).mono ?_
 rintro e' w10 ⟨rfl, hb⟩
 replace ho1 := Kd.R_alloc ho1 (.cells #[.int .i64 hi.f0, .int .i64 hi.f1] 23 (0, 0))
 replace ho2 := Kd.R_alloc ho2 (.cells #[.int .i64 hi.f0, .int .i64 hi.f1] 23 (0, 0))
 replace ho3 := Kd.R_alloc ho3 (.cells #[.int .i64 hi.f0, .int .i64 hi.f1] 23 (0, 0))
 replace ho4 := Kd.R_alloc ho4 (.cells #[.int .i64 hi.f0, .int .i64 hi.f1] 23 (0, 0))
 have HH2 := pA (blk_below (heap_alloc_new w9 (.cells #[.int .i64 hi.f0, .int .i64 hi.f1] 23 (0, 0))) hb)
 replace HH1 := pA (blk_below (blk_alloc HH1.out (.cells #[.int .i64 hi.f0, .int .i64 hi.f1] 23 (0, 0))) hb)
 replace HX := pA (blk_below (blk_alloc HX.out (.cells #[.int .i64 hi.f0, .int .i64 hi.f1] 23 (0, 0))) hb)
 replace ho1 := Kd.R_below ho1 hb
 replace ho2 := Kd.R_below ho2 hb
 replace ho3 := Kd.R_below ho3 hb
 replace ho4 := Kd.R_below ho4 hb
 replace HB := pA (below_step (below_alloc HB.out (.cells #[.int .i64 hi.f0, .int .i64 hi.f1] 23 (0, 0))) hb)
 clear hb x0 x1 x2
 have x0 := blk_cell HX.out 0
 have x1 := blk_cell HX.out 1
 have x2 := blk_cell HX.out 2
 go_wp2_with fail
 refine (potbankref03_Lean.calls 2000 a b A0 c0 l0 ln e _ (Kd.C_below HR0.out HB.out) hc0 R5_.out).mono ?_
 rintro e' w11 ⟨rfl, hb⟩
 replace HH1 := pA (blk_below HH1.out hb)
 replace HH2 := pA (blk_below HH2.out hb)
 replace HX := pA (blk_below HX.out hb)
 replace ho1 := Kd.R_below ho1 hb
 replace ho2 := Kd.R_below ho2 hb
 replace ho3 := Kd.R_below ho3 hb
 replace ho4 := Kd.R_below ho4 hb
 replace HB := pA (below_step HB.out hb)
 clear hb x0 x1 x2
 obtain ⟨B0, d0, rfl, hd0, hC0⟩ := Kd.R_reads ho1
 have HC0 := pA hC0
 clear hC0
 obtain ⟨B1, d1, rfl, hd1, hC1⟩ := Kd.R_reads ho2
 have HC1 := pA hC1
 clear hC1
 obtain ⟨B2, d2, rfl, hd2, hC2⟩ := Kd.R_reads ho3
 have HC2 := pA hC2
 clear hC2
 obtain ⟨B3, d3, rfl, hd3, hC3⟩ := Kd.R_reads ho4
 have HC3 := pA hC3
 clear hC3
 clear ho1 ho2 ho3 ho4
 go_wp2_with fail
 refine (potbankref03_SameRanges.calls 2000 B0 d0 xs B1 d1 xs true _ HC0.out hd0 HC1.out hd1 (sameR_refl xs HX_.out)).mono ?_
 rintro e' z1 ⟨rfl, hd⟩
 have D1 := pA hd.below
 clear hd
 go_wp2_with fail
 refine (potbankref01_Same.calls 2000 B2 d2 ys B3 d3 ys true _ (Kd.C_below HC2.out D1.out) hd2 (Kd.C_below HC3.out D1.out) hd3 (same_refl ys HY_.out)).mono ?_
 rintro e' z2 ⟨rfl, hd⟩
 have D2 := pA (below_step D1.out hd.below)
 clear hd
 have y0 := blk_cell (blk_below HH1.out D2.out) 0
 have y1 := blk_cell (blk_below HH1.out D2.out) 1
 have y2 := blk_cell (blk_below HH2.out D2.out) 0
 have y3 := blk_cell (blk_below HH2.out D2.out) 1
 go_wp2
 go_ret
 exact ⟨rfl, below_step HB.out D2.out⟩
end Go.Proofs.Ytbiakjgjedhjhaa.P
namespace Go.Proofs.Ytbiakjgjedhjhaa.bungLoads
open Go.ChangeShapes Go.WideShapes Go.ChangeAt Go.RowKit Go.Proofs.Ytbiakjgjedhjhaa.P Go.Proofs.YtbiakjgjedhjhaaW.PrintWords
theorem own : ownKnob Try.prog.godebug = none := by kernel_rfl
theorem laidOut : laidOutB Try.prog = true := by kernel_rfl
def ok3 := fun n : Int => (Lit.int .i64 n).wf = true
theorem op3 : Opens Try.prog (Kd.int .i64) 3 ok3 := opens_int Try.underlying3
def ok23t := fun v : (Int × Int) => ok3 v.1 ∧ ok3 v.2
theorem op23t : Opens Try.prog (Kd.pair (Kd.int .i64) (Kd.int .i64)) 23 ok23t := opens_struct Try.underlying23 (by kernel_rfl) (opens_cons rfl (by kernel_rfl) rfl op3 (opens_one rfl (by kernel_rfl) op3))
def ok23 := fun v : S23 => ok3 v.f0 ∧ ok3 v.f1
theorem op23 : Opens Try.prog k23 23 ok23 := opens_iso (fun v => ⟨v.1, v.2⟩) (fun _ => rfl) (opens_struct Try.underlying23 (by kernel_rfl) (opens_cons rfl (by kernel_rfl) rfl op3 (opens_one rfl (by kernel_rfl) op3)))
def ok52 := fun v : S52 => ok3 v.f0 ∧ ok23 v.f1 ∧ ok23 v.f2 ∧ ok23 v.f3 ∧ ok3 v.f4
theorem op52 : Opens Try.prog k52 52 ok52 := opens_iso (fun v => ⟨v.1, v.2.1, v.2.2.1, v.2.2.2.1, v.2.2.2.2⟩) (fun _ => rfl) (opens_struct Try.underlying52 (by kernel_rfl) (opens_cons rfl (by kernel_rfl) rfl op3 (opens_cons rfl (by kernel_rfl) rfl op23 (opens_cons rfl (by kernel_rfl) rfl op23 (opens_cons rfl (by kernel_rfl) rfl op23 (opens_one rfl (by kernel_rfl) op3))))))
def ok24 := fun xs : (List S52) => xs.length ≤ 9223372036854775807 ∧ ∀ x ∈ xs, ok52 x
theorem op24 : Opens Try.prog (Kd.slice 52 k52) 24 ok24 := opens_slice Try.underlying24 (by kernel_rfl) op52
def ok43t := fun v : ((Int × Int) × (List S52)) => ok23t v.1 ∧ ok24 v.2
theorem op43t : Opens Try.prog (Kd.pair (Kd.pair (Kd.int .i64) (Kd.int .i64)) (Kd.slice 52 k52)) 43 ok43t := opens_struct Try.underlying43 (by kernel_rfl) (opens_cons rfl (by kernel_rfl) rfl op23t (opens_one rfl (by kernel_rfl) op24))
set_option maxRecDepth 100000 in
theorem lifted (os : Os) (started : os.Started) (H : Type) (enc : TypeId × Value → H) :
  ReturnsInHanded {} Try.checked os 6 .any (Rows.bungLoadsSpec.pre6 enc Try.prog Try.f6 Rows.bungLoadsRow.domain false) (Rows.bungLoadsSpec.post enc Try.prog Try.f6 false true false false) := by
 refine returnsInHanded_of_change_sized (C := Try.checked) own started (by kernel_rfl) Try.func6
  (ChangeSpec.witness6 (enc := enc) (C := Try.checked) false ⟨#[], #[.agg #[.int .i64 0, .int .i64 0, .slice none 0 0]], []⟩ 8 (by kernel_rfl) (by kernel_rfl) (by kernel_rfl) (by kernel_rfl)) ?_
 intro W base args ds gs before hval0 hW hcnd hsz0 _
 have hval : ∀ (j : Nat) t v, Try.f6.params[j]? = some t → args[j]? = some v → Value.okWide Try.prog W .any base t v := hval0
 have hW' := hW
 obtain ⟨p, q, hA0, hV, rfl, hfz, hnd⟩ := hW
 have hA : DataW.TrodAll enc Try.prog W 0 (fun _ => true) true Try.f6.params.toList args.toList ds p := hA0
 rw [Try.params6] at hA hval
 obtain ⟨v0, vs0, d0, ds0, p0, q0, hargs, rfl, rfl, h0, r0⟩ := trodAll_cons hA
 obtain ⟨rfl, rfl, rfl⟩ := trodAll_nil r0
 obtain rfl : args = #[v0] := by cases args; simp_all
 obtain ⟨rfl, rfl⟩ := trodVars_none hV
 have k0 := h0
 have lt0 : ∀ x ∈ p0, x.block < W.heap.size := by obtain ⟨m, hm⟩ := k0; exact DataW.trod_lt m _ _ _ hm
 obtain ⟨y0, cs0, rfl, hK0, g0⟩ := opened_struct Try.underlying43 op43t (hval 0 43 v0 rfl rfl) h0
 obtain ⟨_, _, hcs0, ⟨_, _, rfl, rfl, rfl⟩, ⟨A0, c0, rfl, hl0, hC0⟩⟩ := hK0
 obtain rfl : cs0 = #[.int .i64 y0.1.1, .int .i64 y0.1.2, .slice A0 (y0.2).length c0] := by cases cs0; simpa using hcs0
 clear hA0 hval0 hsz0
 refine (loads_walk (y0.1.1) (y0.1.2) A0 c0 (y0.2) W hC0 hl0).mono fun e W' ⟨he, bel⟩ => ?_
 subst he
 exact ⟨_, rfl, _, _, _, [], _, [], hW', trodAll_mk1 (shut_bool Try.underlying4 _), (trodAll_cons_mk (Below.trod laidOut (by kernel_rfl) (of_decide_eq_true (by kernel_rfl)) k0 bel lt0) trodAll_mk0), rfl, bel.frame _, fun h => by cases h⟩
theorem over : Rows.bungLoadsRow.holds Try.pinned (OpenSpec.ofChange Rows.bungLoadsSpec) :=
 OpenClaim.holds_of_wide 6 Try.f6 rfl rfl rfl rfl rfl rfl rfl ⟨rfl, rfl, rfl, rfl, rfl⟩ rfl rfl rfl rfl rfl (by kernel_rfl) Try.func6 (by kernel_rfl)
  (of_decide_eq_true (by kernel_rfl)) (by unfold Func.isWrapper; first | (rw [if_pos (by decide +kernel)]; kernel_rfl) | (rw [if_neg (by decide +kernel)]; exact ⟨rfl, rfl⟩))
  (fun os started H enc _ => lifted os started H enc)
theorem proved : Rows.BungLoadsSaid := over
#print axioms proved
end Go.Proofs.Ytbiakjgjedhjhaa.bungLoads
namespace Go.Proofs.Ytbiakjgjedhjhaa
open Go.ChangeShapes Go.WideShapes Go.ChangeAt Go.RowKit Go.Proofs.Ytbiakjgjedhjhaa.P Go.Proofs.YtbiakjgjedhjhaaW.PrintWords
theorem bungLoads_holds : Rows.BungLoadsSaid := bungLoads.proved
end Go.Proofs.Ytbiakjgjedhjhaa
