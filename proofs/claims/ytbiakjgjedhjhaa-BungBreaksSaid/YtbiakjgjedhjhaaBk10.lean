/- Proved: the law BungBreaks of the program potbank answers true for every input, and leaves its arguments as they were. Conditions: none. (Part 10 of the texts, put together by wip/assemble.py of this repository.) -/
import Derived.Test.YtbiakjgjedhjhaaBk9
set_option linter.unusedVariables false
set_option linter.unusedSimpArgs false
namespace Go.Proofs.Ytbiakjgjedhjhaa.P
open Go.RowKit Go.Proofs.YtbiakjgjedhjhaaW.PrintWords Go.Proofs.YtbiakjgjedhjhaaW.PrintLast
theorem isBreak_eq {l : List S52} (hs : okSome l = true) (c b : Int) (ws : List Int) (k : Nat) (hk : 1000 ≤ k) : bung_isBreak.f k l c b ws = some (breakB l c b ws) := by
 have hl := okSome_len hs
 unfold bung_isBreak.f breakB
 rw [wrap_id (x := (l.length : Int) - 1) (by omega) (by omega), within_in]
 simp only [Option.bind_some]
 cases hc : inR c 0 ((l.length : Int) - 1) with
 | false => simp
 | true =>
  have hcc : 0 ≤ c ∧ c ≤ (l.length : Int) - 1 := by simpa [inR] using hc
  rw [if_pos rfl, wrap_id (x := c + 1) (by omega) (by omega), if_pos (by omega), if_pos (by omega), if_pos (by omega), if_pos (by omega), show (c + 1).toNat = c.toNat + 1 by omega]
  by_cases hlen : (ws.length : Int) = (l.length : Int) - 1 - c
  ·have hd : ws.length = (l.drop (c.toNat + 1)).length := by rw [List.length_drop]; omega
   rw [if_pos (by omega), within_in, decide_eq_true hlen]
   simp only [Option.bind_some]
   obtain ⟨k, rfl⟩ : ∃ m, k = m + 1 := ⟨k - 1, by omega⟩
   simp only [bung_isBreak.j0]
   cases inR b (rd_T52 l c).f2.f0 (rd_T52 l c).f2.f1 with
   | false => simp
   | true =>
    have := isBreak_l0 (l.drop (c.toNat + 1)) (all_drop (okSome_all hs) _) (by rw [List.length_drop]; omega) ws hd c b ws.length 0 k 0 (by omega) (by omega) (by omega) (by omega) (by omega)
    simpa using this
  ·rw [if_neg (by rw [List.length_drop]; omega), decide_eq_false hlen]
   obtain ⟨k, rfl⟩ : ∃ m, k = m + 1 := ⟨k - 1, by omega⟩
   simp [bung_isBreak.j0]
theorem check_both (a0 a1 : Int) (l : List S52) (c b : Int) (ws : List Int) : ∃ r, bung_CheckBreak.f 2000 a0 a1 l c b ws = some r ∧ potbankref03_CheckBreak.f a0 a1 l c b ws = some r := by
 unfold bung_CheckBreak.f potbankref03_CheckBreak.f
 rw [isBung_eq, refCheck_eq a0 a1 l 1000 (by omega)]
 simp only [Option.bind_some, decide_eq_true_eq]
 by_cases hb : vWad a0 a1 = true ∧ l ≠ [] ∧ okList l = true
 ·have hs := okSome_of hb.2.2
  rw [if_pos hb, if_pos hb, isBreak_eq hs c b ws 2000 (by omega)]
  refine ⟨codeBr l c b ws, ?_, by simp [hs]⟩
  unfold codeBr
  cases breakB l c b ws <;> simp
 ·rw [if_neg hb, if_neg hb]
  exact ⟨31, rfl, by simp⟩
theorem held_ten {W w1 : World} {g2 g3 g6 g8 : Nat} {v0 v1 v2 u0 u1 u2 p0 p1 p2 q0 q1 q2 : Value} (h2 : W.heap[g2]? = some (.cells #[v0, v1, v2] 43 (0, 0))) (h3 : W.heap[g3]? = some (.cells #[u0, u1, u2] 75 (0, 0))) (h6 : W.heap[g6]? = some (.cells #[p0, p1, p2] 75 (0, 0))) (h8 : W.heap[g8]? = some (.cells #[q0, q1, q2] 75 (0, 0))) (hb : Below W.heap.size W w1) :
    w1.cell? ⟨g2, 0, none⟩ = some v0 ∧ w1.cell? ⟨g2, 1, none⟩ = some v1 ∧ w1.cell? ⟨g2, 2, none⟩ = some v2 ∧ w1.cell? ⟨g3, 0, none⟩ = some u0 ∧ w1.cell? ⟨g3, 1, none⟩ = some u1 ∧ w1.cell? ⟨g3, 2, none⟩ = some u2 ∧ w1.cell? ⟨g6, 0, none⟩ = some p0 ∧ w1.cell? ⟨g6, 1, none⟩ = some p1 ∧ w1.cell? ⟨g8, 0, none⟩ = some q0 ∧ w1.cell? ⟨g8, 1, none⟩ = some q1 ∧ Below W.heap.size W w1 :=
  ⟨blk_cell (blk_below h2 hb) 0, blk_cell (blk_below h2 hb) 1, blk_cell (blk_below h2 hb) 2, blk_cell (blk_below h3 hb) 0, blk_cell (blk_below h3 hb) 1, blk_cell (blk_below h3 hb) 2, blk_cell (blk_below h6 hb) 0, blk_cell (blk_below h6 hb) 1, blk_cell (blk_below h8 hb) 0, blk_cell (blk_below h8 hb) 1, hb⟩
theorem pk_eleventh {A B C D E F G H I J K : Prop} (h : A ∧ B ∧ C ∧ D ∧ E ∧ F ∧ G ∧ H ∧ I ∧ J ∧ K) : K := h.2.2.2.2.2.2.2.2.2.2
set_option maxHeartbeats 8000000 in
set_option maxRecDepth 100000 in
theorem breaks_walk (a b : Int) (A0 : Option Addr) (c0 : Nat) (l0 : List S52) (c n : Int) (A1 : Option Addr) (c1 : Nat) (ws : List Int) (w : World) (hr0 : Kd.C k52 w A0 l0.length l0) (hc0 : l0.length ≤ c0) (hr1 : Kd.C (Kd.int .i64) w A1 ws.length ws) (hc1 : ws.length ≤ c1) :
  Calls Try.prog 9 #[.agg #[.int .i64 a, .int .i64 b, .slice A0 l0.length c0], .agg #[.int .i64 c, .int .i64 n, .slice A1 ws.length c1]] w fun e w' => e = .returned (.bool true) ∧ Below w.heap.size w w' := by
 have HR0 := pA hr0
 have HR1 := pA hr1
 obtain ⟨⟨X, Y, Z, e⟩, h1, h2, hz⟩ := breaks_both a b l0
 obtain ⟨r, h3, h4⟩ := check_both a b l0 c n ws
 have H1 := pA h1
 have H2 := pA h2
 have H3 := pA h3
 have H4 := pA h4
 have HZ := pA hz
 clear hr0 hr1 h1 h2 h3 h4 hz
 have e1 : (e == e) = true := by simp
 have e2 : (X == X) = true := by simp
 have e3 : (Y == Y) = true := by simp
 have e4 : (r == r) = true := by simp
 have HX := pA (blk_alloc (heap_alloc_new w (.cells #[.int .i64 a, .int .i64 b, .slice A0 l0.length c0] 43 (0, 0))) (.cells #[.int .i64 c, .int .i64 n, .slice A1 ws.length c1] 75 (0, 0)))
 have HY := pA (blk_new2 w (.cells #[.int .i64 a, .int .i64 b, .slice A0 l0.length c0] 43 (0, 0)) (.cells #[.int .i64 c, .int .i64 n, .slice A1 ws.length c1] 75 (0, 0)))
 go_enter Try.func9, Try.ntmps9
 go_wp2_with fail
 refine (potbanklaw03_sane.calls true _ rfl).mono ?_
 rintro e' w1 ⟨rfl, hb⟩
 have HB := pA (below_step (below_alloc (below_alloc (Below.refl w.heap.size w) (.cells #[.int .i64 a, .int .i64 b, .slice A0 l0.length c0] 43 (0, 0))) (.cells #[.int .i64 c, .int .i64 n, .slice A1 ws.length c1] 75 (0, 0))) hb)
 replace HX := pA (blk_below HX.out hb)
 replace HY := pA (blk_below HY.out hb)
 clear hb
 have x0 := blk_cell HX.out 0
 have x1 := blk_cell HX.out 1
 have x2 := blk_cell HX.out 2
 go_wp2_with fail
 refine (bung_Breaks.calls 2000 a b A0 c0 l0 X Y Z e _ (Kd.C_below HR0.out HB.out) hc0 H1.out).mono ?_
 rintro e' w2 ⟨v2, rfl, ho, hb⟩
 obtain ⟨A2, c2, rfl⟩ := Kd.R_slice ho
 have HO2 := pA (Kd.R_alloc ho (.cells #[.int .i64 X, .int .i64 Y, .slice A2 Z.length c2] 75 (0, 0)))
 have HP := pA (heap_alloc_new w2 (.cells #[.int .i64 X, .int .i64 Y, .slice A2 Z.length c2] 75 (0, 0)))
 replace HX := pA (blk_alloc (blk_below HX.out hb) (.cells #[.int .i64 X, .int .i64 Y, .slice A2 Z.length c2] 75 (0, 0)))
 replace HY := pA (blk_alloc (blk_below HY.out hb) (.cells #[.int .i64 X, .int .i64 Y, .slice A2 Z.length c2] 75 (0, 0)))
 replace HB := pA (below_alloc (below_step HB.out hb) (.cells #[.int .i64 X, .int .i64 Y, .slice A2 Z.length c2] 75 (0, 0)))
 clear hb ho x0 x1 x2
 have x0 := blk_cell HX.out 0
 have x1 := blk_cell HX.out 1
 have x2 := blk_cell HX.out 2
 go_wp2_with fail
 refine (potbankref03_Breaks.calls 2000 a b A0 c0 l0 X Y Z e _ (Kd.C_below HR0.out HB.out) hc0 H2.out).mono ?_
 rintro e' w3 ⟨v3, rfl, ho, hb⟩
 obtain ⟨A3, c3, rfl⟩ := Kd.R_slice ho
 have HO3 := pA (Kd.R_alloc ho (.cells #[.int .i64 X, .int .i64 Y, .slice A3 Z.length c3] 75 (0, 0)))
 have HQ := pA (heap_alloc_new w3 (.cells #[.int .i64 X, .int .i64 Y, .slice A3 Z.length c3] 75 (0, 0)))
 replace HO2 := pA (Kd.R_alloc (Kd.R_below HO2.out hb) (.cells #[.int .i64 X, .int .i64 Y, .slice A3 Z.length c3] 75 (0, 0)))
 replace HP := pA (blk_alloc (blk_below HP.out hb) (.cells #[.int .i64 X, .int .i64 Y, .slice A3 Z.length c3] 75 (0, 0)))
 replace HX := pA (blk_alloc (blk_below HX.out hb) (.cells #[.int .i64 X, .int .i64 Y, .slice A3 Z.length c3] 75 (0, 0)))
 replace HY := pA (blk_alloc (blk_below HY.out hb) (.cells #[.int .i64 X, .int .i64 Y, .slice A3 Z.length c3] 75 (0, 0)))
 replace HB := pA (below_alloc (below_step HB.out hb) (.cells #[.int .i64 X, .int .i64 Y, .slice A3 Z.length c3] 75 (0, 0)))
 clear hb ho x0 x1 x2
 have z1 := blk_cell HP.out 2
 have z2 := blk_cell HQ.out 2
 go_wp2_with fail
 refine (potbankref01_Same.calls 2000 A2 c2 Z A3 c3 Z true _ (Kd.R_reads' HO2.out).2.2 (Kd.R_reads' HO2.out).2.1 (Kd.R_reads' HO3.out).2.2 (Kd.R_reads' HO3.out).2.1 (same_refl Z HZ.out)).mono ?_
 rintro e' w4 ⟨rfl, hd⟩
 have hb := hd.below
 replace HP := pA (blk_below HP.out hb)
 replace HQ := pA (blk_below HQ.out hb)
 replace HX := pA (blk_below HX.out hb)
 replace HY := pA (blk_below HY.out hb)
 replace HB := pA (below_step HB.out hb)
 clear hb hd z1 z2 HO2 HO3
 go_wp2_with fail
 go_region_held3 (fun w' => w'.cell? ⟨w.heap.size, 0, none⟩ = some (.int .i64 a) ∧ w'.cell? ⟨w.heap.size, 1, none⟩ = some (.int .i64 b) ∧ w'.cell? ⟨w.heap.size, 2, none⟩ = some (.slice A0 l0.length c0) ∧ w'.cell? ⟨w.heap.size + 1, 0, none⟩ = some (.int .i64 c) ∧ w'.cell? ⟨w.heap.size + 1, 1, none⟩ = some (.int .i64 n) ∧ w'.cell? ⟨w.heap.size + 1, 2, none⟩ = some (.slice A1 ws.length c1) ∧ w'.cell? ⟨w2.heap.size, 0, none⟩ = some (.int .i64 X) ∧ w'.cell? ⟨w2.heap.size, 1, none⟩ = some (.int .i64 Y) ∧ w'.cell? ⟨w3.heap.size, 0, none⟩ = some (.int .i64 X) ∧ w'.cell? ⟨w3.heap.size, 1, none⟩ = some (.int .i64 Y) ∧ Below w4.heap.size w4 w')
  (first
   | exact held_ten HX.out HY.out HP.out HQ.out (below_drew (Below.refl _ _))
   | exact held_ten HX.out HY.out HP.out HQ.out (below_step (pk_eleventh (by assumption)) (by assumption))
   | go_keep)
  (first
   | (go_at_call 55; refine (bung_CheckBreak.calls 2000 a b A0 c0 l0 c n A1 c1 ws r _ (Kd.C_below HR0.out (below_step HB.out (pk_eleventh (by assumption)))) hc0 (Kd.C_below HR1.out (below_step HB.out (pk_eleventh (by assumption)))) hc1 H3.out).mono ?_; rintro e' w5 ⟨rfl, hb⟩)
   | (go_at_call 56; refine (potbankref03_CheckBreak.calls a b A0 c0 l0 c n A1 c1 ws r _ (Kd.C_below HR0.out (below_step HB.out (pk_eleventh (by assumption)))) hc0 (Kd.C_below HR1.out (below_step HB.out (pk_eleventh (by assumption)))) hc1 H4.out).mono ?_; rintro e' w5 ⟨rfl, hb⟩))
 all_goals
  go_wp2
  go_ret
  exact ⟨rfl, below_step HB.out (pk_eleventh (by assumption))⟩
end Go.Proofs.Ytbiakjgjedhjhaa.P
namespace Go.Proofs.Ytbiakjgjedhjhaa.bungBreaks
open Go.ChangeShapes Go.WideShapes Go.ChangeAt Go.RowKit Go.Proofs.Ytbiakjgjedhjhaa.P Go.Proofs.YtbiakjgjedhjhaaW.PrintWords
theorem own : ownKnob Try.prog.godebug = none := by kernel_rfl
theorem laidOut : laidOutB Try.prog = true := by kernel_rfl
def ok3 := fun n : Int => (Lit.int .i64 n).wf = true
theorem op3 : Opens Try.prog (Kd.int .i64) 3 ok3 := opens_int Try.underlying3
def ok23t := fun v : (Int × Int) => ok3 v.1 ∧ ok3 v.2
theorem op23t : Opens Try.prog (Kd.pair (Kd.int .i64) (Kd.int .i64)) 23 ok23t := opens_struct Try.underlying23 (by kernel_rfl) (opens_cons rfl (by kernel_rfl) rfl op3 (opens_one rfl (by kernel_rfl) op3))
def ok23 := fun v : S23 => ok3 v.f0 ∧ ok3 v.f1
theorem op23 : Opens Try.prog k23 23 ok23 := opens_iso (fun v => ⟨v.1, v.2⟩) (fun _ => rfl) (opens_struct Try.underlying23 (by kernel_rfl) (opens_cons rfl (by kernel_rfl) rfl op3 (opens_one rfl (by kernel_rfl) op3)))
def ok52 := fun v : S52 => ok3 v.f0 ∧ ok23 v.f1 ∧ ok23 v.f2 ∧ ok23 v.f3 ∧ ok3 v.f4
theorem op52 : Opens Try.prog k52 52 ok52 := opens_iso (fun v => ⟨v.1, v.2.1, v.2.2.1, v.2.2.2.1, v.2.2.2.2⟩) (fun _ => rfl) (opens_struct Try.underlying52 (by kernel_rfl) (opens_cons rfl (by kernel_rfl) rfl op3 (opens_cons rfl (by kernel_rfl) rfl op23 (opens_cons rfl (by kernel_rfl) rfl op23 (opens_cons rfl (by kernel_rfl) rfl op23 (opens_one rfl (by kernel_rfl) op3))))))
def ok24 := fun xs : (List S52) => xs.length ≤ 9223372036854775807 ∧ ∀ x ∈ xs, ok52 x
theorem op24 : Opens Try.prog (Kd.slice 52 k52) 24 ok24 := opens_slice Try.underlying24 (by kernel_rfl) op52
def ok43t := fun v : ((Int × Int) × (List S52)) => ok23t v.1 ∧ ok24 v.2
theorem op43t : Opens Try.prog (Kd.pair (Kd.pair (Kd.int .i64) (Kd.int .i64)) (Kd.slice 52 k52)) 43 ok43t := opens_struct Try.underlying43 (by kernel_rfl) (opens_cons rfl (by kernel_rfl) rfl op23t (opens_one rfl (by kernel_rfl) op24))
def ok38 := fun xs : (List Int) => xs.length ≤ 9223372036854775807 ∧ ∀ x ∈ xs, ok3 x
theorem op38 : Opens Try.prog (Kd.slice 3 (Kd.int .i64)) 38 ok38 := opens_slice Try.underlying38 (by kernel_rfl) op3
def ok75t := fun v : (Int × Int × (List Int)) => ok3 v.1 ∧ ok3 v.2.1 ∧ ok38 v.2.2
theorem op75t : Opens Try.prog (Kd.pair (Kd.int .i64) (Kd.pair (Kd.int .i64) (Kd.slice 3 (Kd.int .i64)))) 75 ok75t := opens_struct Try.underlying75 (by kernel_rfl) (opens_cons rfl (by kernel_rfl) rfl op3 (opens_cons rfl (by kernel_rfl) rfl op3 (opens_one rfl (by kernel_rfl) op38)))
set_option maxRecDepth 100000 in
theorem lifted (os : Os) (started : os.Started) (H : Type) (enc : TypeId × Value → H) :
  ReturnsInHanded {} Try.checked os 9 .any (Rows.bungBreaksSpec.pre6 enc Try.prog Try.f9 Rows.bungBreaksRow.domain false) (Rows.bungBreaksSpec.post enc Try.prog Try.f9 false true false false) := by
 refine returnsInHanded_of_change_sized (C := Try.checked) own started (by kernel_rfl) Try.func9
  (ChangeSpec.witness6 (enc := enc) (C := Try.checked) false ⟨#[], #[.agg #[.int .i64 0, .int .i64 0, .slice none 0 0], .agg #[.int .i64 0, .int .i64 0, .slice none 0 0]], []⟩ 8 (by kernel_rfl) (by kernel_rfl) (by kernel_rfl) (by kernel_rfl)) ?_
 intro W base args ds gs before hval0 hW hcnd hsz0 _
 have hval : ∀ (j : Nat) t v, Try.f9.params[j]? = some t → args[j]? = some v → Value.okWide Try.prog W .any base t v := hval0
 have hW' := hW
 obtain ⟨p, q, hA0, hV, rfl, hfz, hnd⟩ := hW
 have hA : DataW.TrodAll enc Try.prog W 0 (fun _ => true) true Try.f9.params.toList args.toList ds p := hA0
 rw [Try.params9] at hA hval
 obtain ⟨v0, vs0, d0, ds0, p0, q0, hargs, rfl, rfl, h0, r0⟩ := trodAll_cons hA
 obtain ⟨v1, vs1, d1, ds1, p1, q1, rfl, rfl, rfl, h1, r1⟩ := trodAll_cons r0
 obtain ⟨rfl, rfl, rfl⟩ := trodAll_nil r1
 obtain rfl : args = #[v0, v1] := by cases args; simp_all
 obtain ⟨rfl, rfl⟩ := trodVars_none hV
 have k0 := h0
 have lt0 : ∀ x ∈ p0, x.block < W.heap.size := by obtain ⟨m, hm⟩ := k0; exact DataW.trod_lt m _ _ _ hm
 obtain ⟨y0, cs0, rfl, hK0, g0⟩ := opened_struct Try.underlying43 op43t (hval 0 43 v0 rfl rfl) h0
 obtain ⟨_, _, hcs0, ⟨_, _, rfl, rfl, rfl⟩, ⟨A0, c0, rfl, hl0, hC0⟩⟩ := hK0
 obtain rfl : cs0 = #[.int .i64 y0.1.1, .int .i64 y0.1.2, .slice A0 (y0.2).length c0] := by cases cs0; simpa using hcs0
 have k1 := h1
 have lt1 : ∀ x ∈ p1, x.block < W.heap.size := by obtain ⟨m, hm⟩ := k1; exact DataW.trod_lt m _ _ _ hm
 obtain ⟨y1, cs1, rfl, hK1, g1⟩ := opened_struct Try.underlying75 op75t (hval 1 75 v1 rfl rfl) h1
 obtain ⟨_, _, hcs1, rfl, ⟨_, _, rfl, rfl, ⟨A1, c1, rfl, hl1, hC1⟩⟩⟩ := hK1
 obtain rfl : cs1 = #[.int .i64 y1.1, .int .i64 y1.2.1, .slice A1 (y1.2.2).length c1] := by cases cs1; simpa using hcs1
 clear hA0 hval0 hsz0
 refine (breaks_walk (y0.1.1) (y0.1.2) A0 c0 (y0.2) (y1.1) (y1.2.1) A1 c1 (y1.2.2) W hC0 hl0 hC1 hl1).mono fun e W' ⟨he, bel⟩ => ?_
 subst he
 exact ⟨_, rfl, _, _, _, [], _, [], hW', trodAll_mk1 (shut_bool Try.underlying4 _), (trodAll_cons_mk (Below.trod laidOut (by kernel_rfl) (of_decide_eq_true (by kernel_rfl)) k0 bel lt0) (trodAll_cons_mk (Below.trod laidOut (by kernel_rfl) (of_decide_eq_true (by kernel_rfl)) k1 bel lt1) trodAll_mk0)), rfl, bel.frame _, fun h => by cases h⟩
theorem over : Rows.bungBreaksRow.holds Try.pinned (OpenSpec.ofChange Rows.bungBreaksSpec) :=
 OpenClaim.holds_of_wide 9 Try.f9 rfl rfl rfl rfl rfl rfl rfl ⟨rfl, rfl, rfl, rfl, rfl⟩ rfl rfl rfl rfl rfl (by kernel_rfl) Try.func9 (by kernel_rfl)
  (of_decide_eq_true (by kernel_rfl)) (by unfold Func.isWrapper; first | (rw [if_pos (by decide +kernel)]; kernel_rfl) | (rw [if_neg (by decide +kernel)]; exact ⟨rfl, rfl⟩))
  (fun os started H enc _ => lifted os started H enc)
theorem proved : Rows.BungBreaksSaid := over
#print axioms proved
end Go.Proofs.Ytbiakjgjedhjhaa.bungBreaks
namespace Go.Proofs.Ytbiakjgjedhjhaa
open Go.ChangeShapes Go.WideShapes Go.ChangeAt Go.RowKit Go.Proofs.Ytbiakjgjedhjhaa.P Go.Proofs.YtbiakjgjedhjhaaW.PrintWords
theorem bungBreaks_holds : Rows.BungBreaksSaid := bungBreaks.proved
end Go.Proofs.Ytbiakjgjedhjhaa
