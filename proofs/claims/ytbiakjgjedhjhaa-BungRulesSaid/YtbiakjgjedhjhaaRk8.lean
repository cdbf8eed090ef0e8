/- Proved: the law BungRules of the program potbank answers true for every input, and leaves its arguments as they were. Conditions: none. (Part 8 of the texts, put together by wip/assemble.py of this repository.) -/
import Derived.Test.YtbiakjgjedhjhaaRk7
set_option linter.unusedVariables false
set_option linter.unusedSimpArgs false
namespace Go.Proofs.Ytbiakjgjedhjhaa.P
open Go.RowKit Go.Proofs.YtbiakjgjedhjhaaW.PrintWords Go.Proofs.YtbiakjgjedhjhaaW.PrintLast
set_option maxHeartbeats 8000000 in
set_option maxRecDepth 100000 in
theorem bung_pack_calls (lo hi : Int) (A1 : Option Addr) (c1 : Nat) (l : List S52) (cr le : Int) (b base : Nat) (hc1 : l.length ≤ c1) (hw : vWad lo hi = true) (hl : okList l = true) (h9 : l.length ≤ 9) (hp : 0 < l.length) (hbb : b < base) (many : Int) :
  ∀ (d : Nat) (bs : List (List Int)) (vb : Value) (x : Int) (w : World) (N s : Nat) (f : Lit → Option Bool), x + d = l.length → okBs bs x →
  Kd.R (Kd.slice 3 (Kd.int .i64)) 38 w base (fun _ => True) vb bs → Kd.C k52 w A1 l.length l → BoolMaps.IsB Try.prog 167 4 w b N s f → Tried l.length (doOf ⟨lo, hi⟩ l cr le) f → base ≤ w.heap.size → N + triesIn d < maxLen →
  Calls Try.prog 77 #[.agg #[.int .i64 lo, .int .i64 hi, .slice A1 l.length c1, .int .i64 cr, .int .i64 le, .map (some b)], vb, .int .i64 x, .int .i64 many] w fun e w' => ∃ v, e = .returned v ∧ RowsOut w' base v (packOf (doOf ⟨lo, hi⟩ l cr le) many d bs x) ∧ w.grownBy w' (some b) ∧ ∃ N' s' f', N' ≤ N + triesIn d ∧ BoolMaps.IsB Try.prog 167 4 w' b N' s' f' ∧ Tried l.length (doOf ⟨lo, hi⟩ l cr le) f' := by
 intro d
 have HL := pA hl
 have HW := pA hw
 have H9 := pA h9
 have HP := pA hp
 have HBB := pA hbb
 clear hl hw h9 hp hbb
 induction d with
 | zero =>
  intro bs vb x w N s f hd hbs hr hc hM hT hbase hN
  have HBS := pA hbs
  have HR := pA hr
  have HM := pA hM
  have HT := pA hT
  obtain ⟨A3, c3, rfl⟩ := Kd.R_slice hr
  have c0 : (x == (l.length : Int)) = true := by rw [beq_iff_eq]; omega
  have HX := pA hd
  have HX0 := pA (heap_alloc_new w (.cells #[.int .i64 lo, .int .i64 hi, .slice A1 l.length c1, .int .i64 cr, .int .i64 le, .map (some b)] 114 (0, 0)))
  have y2 := blk_cell HX0.out 2
  clear hbs hr hc hM hT hd
  by_cases hm : (bs.length : Int) = many
  ·have c1 : ((bs.length : Int) == many) = true := by rw [beq_iff_eq]; exact hm
   have HPK := pA (show packOf (doOf ⟨lo, hi⟩ l cr le) many 0 bs x = some bs by unfold packOf; rw [if_pos hm])
   clear hm
   go_enter Try.func77, Try.ntmps77
   go_wp2
   go_ret
   exact ⟨_, rfl, by rw [HPK.out]; exact ⟨HBS.out.2.2.2 (by have := HX.out; have := HP.out; omega), Kd.R_alloc HR.out _⟩, grown_of_below (below_alloc (Below.refl _ _) _) _, _, _, _, Nat.le_add_right _ _, HM.out.alloc _, HT.out⟩
  ·have c1 : ((bs.length : Int) == many) = false := by rw [beq_eq_false_iff_ne]; exact hm
   have HPK := pA (show packOf (doOf ⟨lo, hi⟩ l cr le) many 0 bs x = none by unfold packOf; rw [if_neg hm])
   clear hm
   go_enter Try.func77, Try.ntmps77
   go_wp2
   go_ret
   exact ⟨_, rfl, by rw [HPK.out]; rfl, grown_of_below (below_alloc (Below.refl _ _) _) _, _, _, _, Nat.le_add_right _ _, HM.out.alloc _, HT.out⟩
 | succ d ih =>
  intro bs vb x w N s f hd hbs hr hc hM hT hbase hN
  have IH := pA ih
  have HBS := pA hbs
  have HR := pA hr
  have HC := pA hc
  have HM := pA hM
  have HT := pA hT
  have HBA := pA hbase
  have HN := pA hN
  have HX := pA hd
  obtain ⟨Ab, cb, rfl⟩ := Kd.R_slice hr
  have c0 : (x == (l.length : Int)) = false := by rw [beq_eq_false_iff_ne]; omega
  have HX0 := pA (heap_alloc_new w (.cells #[.int .i64 lo, .int .i64 hi, .slice A1 l.length c1, .int .i64 cr, .int .i64 le, .map (some b)] 114 (0, 0)))
  have y2 := blk_cell HX0.out 2
  have HBL := pA (show (bs.length : Int) ≤ 9 by have := hbs.2.1; have := H9.out; omega)
  clear hbs hr hc hM hT hd hbase hN ih
  go_enter Try.func77, Try.ntmps77
  go_wp2
  clear y2
  go_loopw [9] (fun v9 w' => ∃ (k : Int) (N' s' : Nat) (f' : Lit → Option Bool), v9 = .int .i64 k ∧ Aside0 (0 ≤ k ∧ k ≤ bs.length + 1) ∧ Aside0 (packOf (doOf ⟨lo, hi⟩ l cr le) many (d + 1) bs x = packFrom (doOf ⟨lo, hi⟩ l cr le) many d bs x k.toNat) ∧ Aside0 (BoolMaps.IsB Try.prog 167 4 w' b N' s' f') ∧ Aside0 (Tried l.length (doOf ⟨lo, hi⟩ l cr le) f') ∧ Aside0 (N' ≤ N + k.toNat * (1 + triesIn d)) ∧ Aside0 (w'.heap[w.heap.size]? = some (.cells #[.int .i64 lo, .int .i64 hi, .slice A1 l.length c1, .int .i64 cr, .int .i64 le, .map (some b)] 114 (0, 0))) ∧ Aside0 (w.grownBy w' (some b))) (fun v9 _ => bs.length + 1 - (intOf v9).toNat)
  case atStart => exact ⟨0, N, s, f, rfl, ⟨by omega⟩, ⟨packFrom_zero _ _ _ _ _⟩, ⟨HM.out.alloc _⟩, HT, ⟨by simp⟩, HX0, ⟨grown_of_below (below_alloc (Below.refl _ _) _) _⟩⟩
  case round =>
   obtain ⟨k, N1, s1, f1, rfl, HK, HPF, HM1, HT1, HN1, HX1, HG1⟩ := hrel
   have HR1 := pA (Kd.R_mono (Kd.R_grown (Kd.R_bound HR.out) HG1.out (fun q hq e => by have := hq.2.1; have := HBB.out; injection e with e; omega)) (fun _ _ => trivial) : Kd.R (Kd.slice 3 (Kd.int .i64)) 38 _ base (fun _ => True) _ bs)
   have HC1 := pA (C_map (d := k52) (fun h => h) (by decide) HC.out HM.out HG1.out)
   have HBA1 := pA (Nat.le_trans HBA.out HG1.out.size)
   by_cases hk1 : k ≤ (bs.length : Int)
   ·have hkb : decide (k ≤ (bs.length : Int)) = true := decide_eq_true hk1
    have HK1 := pA hk1
    clear hk1
    by_cases hk2 : k < many
    ·have hkb2 : decide (k < many) = true := decide_eq_true hk2
     have HK2 := pA hk2
     clear hk2
     have HKR := pA (show k < ((roomAt bs k.toNat).length : Int) by have := roomAt_len (bs := bs) (k := k.toNat) (by have := HK1.out; omega); have := HK.out.1; omega)
     have HTRY := pA (show okTry l.length (rowOn bs k.toNat x) from next_ok HBS.out (k := k.toNat) (n := l.length) (by have := HK1.out; omega) (by have := HX.out; omega))
     have HROW := pA (show (rowAt bs k.toNat).length ≤ 1000000 by have h := HTRY.out.len; have := H9.out; unfold rowOn at h; rw [List.length_append] at h; omega)
     have p1 : (0 ≤ k) = True := eq_true HK.out.1
     have p2 : (k < ((roomAt bs k.toNat).length : Int)) = True := eq_true HKR.out
     by_cases hk3 : k = (bs.length : Int)
     ·have hkb3 : (k == (bs.length : Int)) = true := by rw [beq_iff_eq]; exact hk3
      have HRO := pA (show roomAt bs k.toNat = bs ++ [[]] by unfold roomAt; rw [if_pos (by omega)])
      clear hk3
      go_wp2_with (first
       | (go_at_call 124; refine (clone_rows_calls _ bs base (fun _ => True) _ HR1.out HBA1.out (by have := HBL.out; omega)).mono ?_; rintro e W1 ⟨v1, rfl, ho, hf1, hb1⟩; obtain ⟨A3, c3, rfl⟩ := Kd.R_slice ho; have HO1 := pA (Kd.R_mono (ok' := fun _ => True) ho (fun _ _ => trivial)); have HF1 := pA hf1; have HB1 := pA hb1; clear ho hf1 hb1)
       | ((with_reducible refine aG (b := .append) (xs := #[.tmp 39, .tmp 40]) rfl ?_); at_builtin; refine Kd.R_append (Kd.slice 3 (Kd.int .i64)) (w0 := W1) base rfl (.tmp 39) (.tmp 40) 30 38 _ 24 rfl Try.underlying30 info38 rfl (by decide) (by omega) (.slice A3 bs.length c3) bs [] [.slice none 0 0] (fun _ => True) (fun _ => False) rfl rfl ?aP (fun _ hk => hk.elim) ?aF ?aO ?aB ?aS ?aL ?_; (case aP => exact ⟨_, rfl, Kd.R_nil _ _ _ _ _⟩); (case aB => exact Below.refl _ _); (case aF => exact fun _ _ => trivial); (case aO => exact HO1.out); (case aS => exact Nat.le_trans HBA1.out HB1.out.size); (case aL => have := HBL.out; omega); intro v2 Wn ho hb hg hat; have hf2 := own_far HF1.out HB1.out.size hat; have hb2 := pw_below_grown HB1.out _ HB1.out.size hg HF1.out; have ho2 : Kd.R (Kd.slice 3 (Kd.int .i64)) 38 Wn base (fun _ => True) v2 (roomAt bs k.toNat) := (by rw [HRO.out]; exact ho); clear ho hb hg hat; obtain ⟨g, cap, Ai, ci, e9, ⟨cells, hgl⟩, y0, hci, hCi⟩ := row_room ho2 HK.out.1 HKR.out; subst e9; have HRo := pA ho2; have HF := pA hf2; have HBw := pA hb2; have HCi := pA hCi; have HGL := pA hgl; have HY := pA y0; clear ho2 hf2 hb2 hCi hgl)
       | (go_at_call 125; refine (slices_Clone_int_int.calls Ai ci (rowAt bs k.toNat) _ _ HCi.out hci (clone_f _ HROW.out)).mono ?_; rintro e W3 ⟨v3, rfl, ho3, hb3⟩; obtain ⟨A4, c4, rfl⟩ := Kd.R_slice ho3; have HO3 := pA ho3; have HB3 := pA hb3; clear ho3 hb3)
       | ((with_reducible refine aG (b := .append) (xs := #[.tmp 48, .tmp 50]) rfl ?_); at_builtin; refine Kd.R_append (Kd.int .i64) (w0 := Wn) Wn.heap.size rfl (.tmp 48) (.tmp 50) 38 3 (.int .i64 0) 8 rfl Try.underlying38 info3 rfl (by decide) (by omega) (.slice A4 (rowAt bs k.toNat).length c4) (rowAt bs k.toNat) x [.int .i64 x] (fun _ => True) (fun _ => False) rfl rfl ?aP (fun _ hk => hk.elim) ?aF ?aO ?aB ?aS ?aL ?_; (case aP => exact rfl); (case aB => exact HB3.out); (case aF => exact fun _ _ => trivial); (case aO => exact HO3.out); (case aS => exact HB3.out.size); (case aL => have := HROW.out; omega); intro v5 W5 ho5 hb5 hg5 hat5; have ho5 : Kd.R (Kd.int .i64) 3 W5 Wn.heap.size (fun _ => True) v5 (rowOn bs k.toNat x) := ho5; obtain ⟨A5, c5, rfl⟩ := Kd.R_slice ho5; have HO5 := pA ho5; have HB5 := pA hb5; have y5 := pw_cell_below hb5 HY.out; have z5 := blk_frozen (blk_below HGL.out hb5) k.toNat; clear ho5 hb5 hg5 hat5 y0))
      obtain ⟨hr6, hg6⟩ := row_store (Kd.R_below HRo.out HB5.out) HK.out.1 HKR.out y5 HO5.out (blk_lt HGL.out) (Nat.le_trans HBA1.out HBw.out.size)
      have HR6 := pA hr6
      have HB6 := pA (pw_below_grown (below_step HBw.out HB5.out) _ (below_step HBw.out HB5.out).size hg6 (fun q e => HF.out q (by rw [← e]; rfl)))
      clear hr6 hg6 y5 z5
      obtain ⟨A7, c7, y7, hc7, hC7⟩ := row_put HR6.out HK.out.1 HK1.out
      have HC7 := pA hC7
      have HX6 := pA (blk_below HX1.out HB6.out)
      have v0 := blk_cell HX6.out 0
      have v1 := blk_cell HX6.out 1
      have v2 := blk_cell HX6.out 2
      have v3 := blk_cell HX6.out 3
      have v4 := blk_cell HX6.out 4
      have v5 := blk_cell HX6.out 5
      have HMD := pA (HM1.out.below HB6.out).drew
      have hnx : wrap64 (k + 1) = k + 1 := by have := HK.out; have := HBL.out; unfold wrap64; omega
      have HNX := pA hnx
      have HTL := pA (tries_lt HK.out.1 HN1.out HK1.out HBL.out HN.out)
      have HN1B := pA (Nat.lt_of_le_of_lt (Nat.le_trans (Nat.le_add_right N1 1) (Nat.le_add_right _ _)) HTL.out)
      have HPS := pA (packFrom_step (doOf ⟨lo, hi⟩ l cr le) many d bs x k.toNat (by have := HK1.out; omega))
      clear hC7 hnx
      cases hdo : doOf ⟨lo, hi⟩ l cr le (rowOn bs k.toNat x) with
      | false =>
       have HDO := pA hdo
       have HPN := pA (pack_no HPS.out hdo)
       clear hdo
       go_region_held3 (fun W' => W'.cell? ⟨w.heap.size, 0, none⟩ = some (.int .i64 lo) ∧ W'.cell? ⟨w.heap.size, 1, none⟩ = some (.int .i64 hi) ∧ W'.cell? ⟨w.heap.size, 2, none⟩ = some (.slice A1 l.length c1) ∧ W'.cell? ⟨w.heap.size, 3, none⟩ = some (.int .i64 cr) ∧ W'.cell? ⟨w.heap.size, 4, none⟩ = some (.int .i64 le) ∧ W'.cell? ⟨w.heap.size, 5, none⟩ = some (.map (some b)) ∧ W'.cell? ⟨g, k.toNat, none⟩ = some (.slice A7 (rowOn bs k.toNat x).length c7))
        (first
         | exact ⟨v0, v1, v2, v3, v4, v5, y7⟩
         | exact pk_keepm (by assumption) HMD.out hg7
         | go_keep)
        (first
         | (go_at_call 126; refine (bung_known_calls lo hi A1 c1 l cr le b N1 s1 f1 A7 c7 (rowOn bs k.toNat x) _ (Kd.C_below HC1.out (below_drew HB6.out)) hc1 (Kd.C_drew HC7.out) hc7 HW.out HL.out H9.out HTRY.out HMD.out HN1B.out HT1.out).mono ?_; rintro e W7 ⟨he, hg7, N2, s2, f2, hN2, hM2, hT2⟩; rw [HDO.out] at he; subst he))
       have HN2 := pA hN2
       have HM2 := pA hM2
       have HT2 := pA hT2
       have HG7 := pA (grown_trans_ HG1.out (grown_trans_ (grown_of_below (below_drew HB6.out) _) hg7))
       have HR7 := pA (R_map (Kd.R_drew HR6.out) HBB.out hg7)
       have HX7 := pA (blk_grown (blk_drew HX6.out) hg7 (fun e => by have := HBB.out; have := HBA.out; injection e with e; omega))
       clear hN2 hM2 hT2 hg7
       go_wp2
       go_roundw
       case measure => have := HK1.out; have := HK.out; simp [intOf, HNX.out]; omega
       case rel => exact ⟨k + 1, N2, s2, f2, by rw [HNX.out], ⟨by have := HK1.out; have := HK.out; omega⟩, ⟨by rw [HPF.out, HPN.out, show (k + 1).toNat = k.toNat + 1 by have := HK.out; omega]⟩, HM2, HT2, ⟨tries_step HK.out.1 HN1.out HN2.out (by omega)⟩, HX7, HG7⟩
      | true =>
       have HDO := pA hdo
       have HPY := pA (pack_yes HPS.out (show ((k.toNat : Nat) : Int) < many by have := HK2.out; have := HK.out; omega) hdo)
       clear hdo
       go_region_held3 (fun W' => W'.cell? ⟨w.heap.size, 0, none⟩ = some (.int .i64 lo) ∧ W'.cell? ⟨w.heap.size, 1, none⟩ = some (.int .i64 hi) ∧ W'.cell? ⟨w.heap.size, 2, none⟩ = some (.slice A1 l.length c1) ∧ W'.cell? ⟨w.heap.size, 3, none⟩ = some (.int .i64 cr) ∧ W'.cell? ⟨w.heap.size, 4, none⟩ = some (.int .i64 le) ∧ W'.cell? ⟨w.heap.size, 5, none⟩ = some (.map (some b)) ∧ W'.cell? ⟨g, k.toNat, none⟩ = some (.slice A7 (rowOn bs k.toNat x).length c7))
        (first
         | exact ⟨v0, v1, v2, v3, v4, v5, y7⟩
         | exact pk_keepm (by assumption) HMD.out hg7
         | go_keep)
        (first
         | (go_at_call 126; refine (bung_known_calls lo hi A1 c1 l cr le b N1 s1 f1 A7 c7 (rowOn bs k.toNat x) _ (Kd.C_below HC1.out (below_drew HB6.out)) hc1 (Kd.C_drew HC7.out) hc7 HW.out HL.out H9.out HTRY.out HMD.out HN1B.out HT1.out).mono ?_; rintro e W7 ⟨he, hg7, N2, s2, f2, hN2, hM2, hT2⟩; rw [HDO.out] at he; subst he))
       have HN2 := pA hN2
       have HM2 := pA hM2
       have HT2 := pA hT2
       have HG7 := pA (grown_trans_ HG1.out (grown_trans_ (grown_of_below (below_drew HB6.out) _) hg7))
       have HR7 := pA (R_map (Kd.R_drew HR6.out) HBB.out hg7)
       have HX7 := pA (blk_grown (blk_drew HX6.out) hg7 (fun e => by have := HBB.out; have := HBA.out; injection e with e; omega))
       clear hN2 hM2 hT2 hg7
       have hw1 : wrap64 (x + 1) = x + 1 := by have := HX.out; have := H9.out; have := HBS.out.2.2.1; unfold wrap64; omega
       have HBP := pA (putIn_ok HBS.out (k := k.toNat) (by have := HK1.out; omega))
       have HIH := pA (fun c => IH.out (putIn bs k.toNat x) (.slice (some ⟨g, 0, none⟩) (roomAt bs k.toNat).length cap) (wrap64 (x + 1)) W7 N2 s2 f2 (by rw [hw1]; have := HX.out; omega) (by rw [hw1]; exact HBP.out) HR7.out c HM2.out HT2.out (Nat.le_trans HBA.out HG7.out.size) (by have := HTL.out; have := HN2.out; omega))
       have HW1 := pA hw1
       have z0 := blk_cell HX7.out 0
       have z1 := blk_cell HX7.out 1
       have z2 := blk_cell HX7.out 2
       have z3 := blk_cell HX7.out 3
       have z4 := blk_cell HX7.out 4
       have z5 := blk_cell HX7.out 5
       have HC8 := pA (C_map (d := k52) (fun h => h) (by decide) HC.out HM.out HG7.out)
       clear hw1
       cases hpk : packOf (doOf ⟨lo, hi⟩ l cr le) many d (putIn bs k.toNat x) (x + 1) with
       | none =>
        have HPK := pA hpk
        have HPZ := pA (HPY.out.trans (by rw [hpk]))
        clear hpk
        go_wp2_with (go_at_call 77; refine (HIH.out HC8.out).mono ?_; rintro e W8 ⟨v8, rfl, ho8, hg8, N3, s3, f3, hN3, hM3, hT3⟩; rw [HW1.out, HPK.out] at ho8; have h8 : v8 = .slice none 0 0 := ho8; subst h8; have hneq := neq_nil0 W8; have HG8 := pA (grown_trans_ HG7.out hg8); have HX8 := pA (blk_grown HX7.out hg8 (fun e => by have := HBB.out; have := HBA.out; injection e with e; omega)); have HN3 := pA hN3; have HM3 := pA hM3; have HT3 := pA hT3; clear hN3 hM3 hT3 hg8 ho8)
        go_roundw
        case measure => have := HK1.out; have := HK.out; simp [intOf, HNX.out]; omega
        case rel => exact ⟨k + 1, N3, s3, f3, by rw [HNX.out], ⟨by have := HK1.out; have := HK.out; omega⟩, ⟨by rw [HPF.out, HPZ.out, Option.none_or, show (k + 1).toNat = k.toNat + 1 by have := HK.out; omega]⟩, HM3, HT3, ⟨tries_step (N1 := N1) HK.out.1 HN1.out (Nat.le_trans HN3.out (by have := HN2.out; omega : N2 + triesIn d ≤ N1 + (1 + triesIn d))) (Nat.le_refl _)⟩, HX8, HG8⟩
       | some out =>
        have HPK := pA hpk
        have HPZ := pA (HPY.out.trans (by rw [hpk]))
        clear hpk
        go_wp2_with (go_at_call 77; refine (HIH.out HC8.out).mono ?_; rintro e W8 ⟨v8, rfl, ho8, hg8, N3, s3, f3, hN3, hM3, hT3⟩; rw [HW1.out, HPK.out] at ho8; obtain ⟨hne8, hr8⟩ := ho8; obtain ⟨g8, cap8, rfl, hform8⟩ := Kd.R_form hr8 (List.length_pos_iff.2 hne8); have hneq := neq_nil1 W8 g8 out.length cap8; have HO8 := pA hr8; have HNE := pA hne8; have HG8 := pA (grown_trans_ HG7.out hg8); have HN3 := pA hN3; have HM3 := pA hM3; have HT3 := pA hT3; clear hN3 hM3 hT3 hg8 hne8 hr8 hform8)
        go_ret
        exact ⟨_, rfl, by rw [HPF.out, HPZ.out]; exact ⟨HNE.out, HO8.out⟩, HG8.out, N3, s3, f3, tries_all HK.out.1 HK1.out HBL.out HN1.out HN2.out HN3.out, HM3.out, HT3.out⟩
     ·have hkb3 : (k == (bs.length : Int)) = false := by rw [beq_eq_false_iff_ne]; exact hk3
      have HRO := pA (show roomAt bs k.toNat = bs by unfold roomAt; rw [if_neg (by have := HK.out; omega)])
      clear hk3
      go_wp2_with (first
       | (go_at_call 124; refine (clone_rows_calls _ bs base (fun _ => True) _ HR1.out HBA1.out (by have := HBL.out; omega)).mono ?_; rintro e Wn ⟨v1, rfl, ho, hf2, hb2⟩; have ho2 : Kd.R (Kd.slice 3 (Kd.int .i64)) 38 Wn base (fun _ => True) v1 (roomAt bs k.toNat) := (by rw [HRO.out]; exact Kd.R_mono ho (fun _ _ => trivial)); clear ho; obtain ⟨g, cap, Ai, ci, e9, ⟨cells, hgl⟩, y0, hci, hCi⟩ := row_room ho2 HK.out.1 HKR.out; subst e9; have HRo := pA ho2; have HF := pA hf2; have HBw := pA hb2; have HCi := pA hCi; have HGL := pA hgl; have HY := pA y0; clear ho2 hf2 hb2 hCi hgl)
       | (go_at_call 125; refine (slices_Clone_int_int.calls Ai ci (rowAt bs k.toNat) _ _ HCi.out hci (clone_f _ HROW.out)).mono ?_; rintro e W3 ⟨v3, rfl, ho3, hb3⟩; obtain ⟨A4, c4, rfl⟩ := Kd.R_slice ho3; have HO3 := pA ho3; have HB3 := pA hb3; clear ho3 hb3)
       | ((with_reducible refine aG (b := .append) (xs := #[.tmp 48, .tmp 50]) rfl ?_); at_builtin; refine Kd.R_append (Kd.int .i64) (w0 := Wn) Wn.heap.size rfl (.tmp 48) (.tmp 50) 38 3 (.int .i64 0) 8 rfl Try.underlying38 info3 rfl (by decide) (by omega) (.slice A4 (rowAt bs k.toNat).length c4) (rowAt bs k.toNat) x [.int .i64 x] (fun _ => True) (fun _ => False) rfl rfl ?aP (fun _ hk => hk.elim) ?aF ?aO ?aB ?aS ?aL ?_; (case aP => exact rfl); (case aB => exact HB3.out); (case aF => exact fun _ _ => trivial); (case aO => exact HO3.out); (case aS => exact HB3.out.size); (case aL => have := HROW.out; omega); intro v5 W5 ho5 hb5 hg5 hat5; have ho5 : Kd.R (Kd.int .i64) 3 W5 Wn.heap.size (fun _ => True) v5 (rowOn bs k.toNat x) := ho5; obtain ⟨A5, c5, rfl⟩ := Kd.R_slice ho5; have HO5 := pA ho5; have HB5 := pA hb5; have y5 := pw_cell_below hb5 HY.out; have z5 := blk_frozen (blk_below HGL.out hb5) k.toNat; clear ho5 hb5 hg5 hat5 y0))
      obtain ⟨hr6, hg6⟩ := row_store (Kd.R_below HRo.out HB5.out) HK.out.1 HKR.out y5 HO5.out (blk_lt HGL.out) (Nat.le_trans HBA1.out HBw.out.size)
      have HR6 := pA hr6
      have HB6 := pA (pw_below_grown (below_step HBw.out HB5.out) _ (below_step HBw.out HB5.out).size hg6 (fun q e => HF.out q (by rw [← e]; rfl)))
      clear hr6 hg6 y5 z5
      obtain ⟨A7, c7, y7, hc7, hC7⟩ := row_put HR6.out HK.out.1 HK1.out
      have HC7 := pA hC7
      have HX6 := pA (blk_below HX1.out HB6.out)
      have v0 := blk_cell HX6.out 0
      have v1 := blk_cell HX6.out 1
      have v2 := blk_cell HX6.out 2
      have v3 := blk_cell HX6.out 3
      have v4 := blk_cell HX6.out 4
      have v5 := blk_cell HX6.out 5
      have HMD := pA (HM1.out.below HB6.out).drew
      have hnx : wrap64 (k + 1) = k + 1 := by have := HK.out; have := HBL.out; unfold wrap64; omega
      have HNX := pA hnx
      have HTL := pA (tries_lt HK.out.1 HN1.out HK1.out HBL.out HN.out)
      have HN1B := pA (Nat.lt_of_le_of_lt (Nat.le_trans (Nat.le_add_right N1 1) (Nat.le_add_right _ _)) HTL.out)
      have HPS := pA (packFrom_step (doOf ⟨lo, hi⟩ l cr le) many d bs x k.toNat (by have := HK1.out; omega))
      clear hC7 hnx
      cases hdo : doOf ⟨lo, hi⟩ l cr le (rowOn bs k.toNat x) with
      | false =>
       have HDO := pA hdo
       have HPN := pA (pack_no HPS.out hdo)
       clear hdo
       go_region_held3 (fun W' => W'.cell? ⟨w.heap.size, 0, none⟩ = some (.int .i64 lo) ∧ W'.cell? ⟨w.heap.size, 1, none⟩ = some (.int .i64 hi) ∧ W'.cell? ⟨w.heap.size, 2, none⟩ = some (.slice A1 l.length c1) ∧ W'.cell? ⟨w.heap.size, 3, none⟩ = some (.int .i64 cr) ∧ W'.cell? ⟨w.heap.size, 4, none⟩ = some (.int .i64 le) ∧ W'.cell? ⟨w.heap.size, 5, none⟩ = some (.map (some b)) ∧ W'.cell? ⟨g, k.toNat, none⟩ = some (.slice A7 (rowOn bs k.toNat x).length c7))
        (first
         | exact ⟨v0, v1, v2, v3, v4, v5, y7⟩
         | exact pk_keepm (by assumption) HMD.out hg7
         | go_keep)
        (first
         | (go_at_call 126; refine (bung_known_calls lo hi A1 c1 l cr le b N1 s1 f1 A7 c7 (rowOn bs k.toNat x) _ (Kd.C_below HC1.out (below_drew HB6.out)) hc1 (Kd.C_drew HC7.out) hc7 HW.out HL.out H9.out HTRY.out HMD.out HN1B.out HT1.out).mono ?_; rintro e W7 ⟨he, hg7, N2, s2, f2, hN2, hM2, hT2⟩; rw [HDO.out] at he; subst he))
       have HN2 := pA hN2
       have HM2 := pA hM2
       have HT2 := pA hT2
       have HG7 := pA (grown_trans_ HG1.out (grown_trans_ (grown_of_below (below_drew HB6.out) _) hg7))
       have HR7 := pA (R_map (Kd.R_drew HR6.out) HBB.out hg7)
       have HX7 := pA (blk_grown (blk_drew HX6.out) hg7 (fun e => by have := HBB.out; have := HBA.out; injection e with e; omega))
       clear hN2 hM2 hT2 hg7
       go_wp2
       go_roundw
       case measure => have := HK1.out; have := HK.out; simp [intOf, HNX.out]; omega
       case rel => exact ⟨k + 1, N2, s2, f2, by rw [HNX.out], ⟨by have := HK1.out; have := HK.out; omega⟩, ⟨by rw [HPF.out, HPN.out, show (k + 1).toNat = k.toNat + 1 by have := HK.out; omega]⟩, HM2, HT2, ⟨tries_step HK.out.1 HN1.out HN2.out (by omega)⟩, HX7, HG7⟩
      | true =>
       have HDO := pA hdo
       have HPY := pA (pack_yes HPS.out (show ((k.toNat : Nat) : Int) < many by have := HK2.out; have := HK.out; omega) hdo)
       clear hdo
       go_region_held3 (fun W' => W'.cell? ⟨w.heap.size, 0, none⟩ = some (.int .i64 lo) ∧ W'.cell? ⟨w.heap.size, 1, none⟩ = some (.int .i64 hi) ∧ W'.cell? ⟨w.heap.size, 2, none⟩ = some (.slice A1 l.length c1) ∧ W'.cell? ⟨w.heap.size, 3, none⟩ = some (.int .i64 cr) ∧ W'.cell? ⟨w.heap.size, 4, none⟩ = some (.int .i64 le) ∧ W'.cell? ⟨w.heap.size, 5, none⟩ = some (.map (some b)) ∧ W'.cell? ⟨g, k.toNat, none⟩ = some (.slice A7 (rowOn bs k.toNat x).length c7))
        (first
         | exact ⟨v0, v1, v2, v3, v4, v5, y7⟩
         | exact pk_keepm (by assumption) HMD.out hg7
         | go_keep)
        (first
         | (go_at_call 126; refine (bung_known_calls lo hi A1 c1 l cr le b N1 s1 f1 A7 c7 (rowOn bs k.toNat x) _ (Kd.C_below HC1.out (below_drew HB6.out)) hc1 (Kd.C_drew HC7.out) hc7 HW.out HL.out H9.out HTRY.out HMD.out HN1B.out HT1.out).mono ?_; rintro e W7 ⟨he, hg7, N2, s2, f2, hN2, hM2, hT2⟩; rw [HDO.out] at he; subst he))
       have HN2 := pA hN2
       have HM2 := pA hM2
       have HT2 := pA hT2
       have HG7 := pA (grown_trans_ HG1.out (grown_trans_ (grown_of_below (below_drew HB6.out) _) hg7))
       have HR7 := pA (R_map (Kd.R_drew HR6.out) HBB.out hg7)
       have HX7 := pA (blk_grown (blk_drew HX6.out) hg7 (fun e => by have := HBB.out; have := HBA.out; injection e with e; omega))
       clear hN2 hM2 hT2 hg7
       have hw1 : wrap64 (x + 1) = x + 1 := by have := HX.out; have := H9.out; have := HBS.out.2.2.1; unfold wrap64; omega
       have HBP := pA (putIn_ok HBS.out (k := k.toNat) (by have := HK1.out; omega))
       have HIH := pA (fun c => IH.out (putIn bs k.toNat x) (.slice (some ⟨g, 0, none⟩) (roomAt bs k.toNat).length cap) (wrap64 (x + 1)) W7 N2 s2 f2 (by rw [hw1]; have := HX.out; omega) (by rw [hw1]; exact HBP.out) HR7.out c HM2.out HT2.out (Nat.le_trans HBA.out HG7.out.size) (by have := HTL.out; have := HN2.out; omega))
       have HW1 := pA hw1
       have z0 := blk_cell HX7.out 0
       have z1 := blk_cell HX7.out 1
       have z2 := blk_cell HX7.out 2
       have z3 := blk_cell HX7.out 3
       have z4 := blk_cell HX7.out 4
       have z5 := blk_cell HX7.out 5
       have HC8 := pA (C_map (d := k52) (fun h => h) (by decide) HC.out HM.out HG7.out)
       clear hw1
       cases hpk : packOf (doOf ⟨lo, hi⟩ l cr le) many d (putIn bs k.toNat x) (x + 1) with
       | none =>
        have HPK := pA hpk
        have HPZ := pA (HPY.out.trans (by rw [hpk]))
        clear hpk
        go_wp2_with (go_at_call 77; refine (HIH.out HC8.out).mono ?_; rintro e W8 ⟨v8, rfl, ho8, hg8, N3, s3, f3, hN3, hM3, hT3⟩; rw [HW1.out, HPK.out] at ho8; have h8 : v8 = .slice none 0 0 := ho8; subst h8; have hneq := neq_nil0 W8; have HG8 := pA (grown_trans_ HG7.out hg8); have HX8 := pA (blk_grown HX7.out hg8 (fun e => by have := HBB.out; have := HBA.out; injection e with e; omega)); have HN3 := pA hN3; have HM3 := pA hM3; have HT3 := pA hT3; clear hN3 hM3 hT3 hg8 ho8)
        go_roundw
        case measure => have := HK1.out; have := HK.out; simp [intOf, HNX.out]; omega
        case rel => exact ⟨k + 1, N3, s3, f3, by rw [HNX.out], ⟨by have := HK1.out; have := HK.out; omega⟩, ⟨by rw [HPF.out, HPZ.out, Option.none_or, show (k + 1).toNat = k.toNat + 1 by have := HK.out; omega]⟩, HM3, HT3, ⟨tries_step (N1 := N1) HK.out.1 HN1.out (Nat.le_trans HN3.out (by have := HN2.out; omega : N2 + triesIn d ≤ N1 + (1 + triesIn d))) (Nat.le_refl _)⟩, HX8, HG8⟩
       | some out =>
        have HPK := pA hpk
        have HPZ := pA (HPY.out.trans (by rw [hpk]))
        clear hpk
        go_wp2_with (go_at_call 77; refine (HIH.out HC8.out).mono ?_; rintro e W8 ⟨v8, rfl, ho8, hg8, N3, s3, f3, hN3, hM3, hT3⟩; rw [HW1.out, HPK.out] at ho8; obtain ⟨hne8, hr8⟩ := ho8; obtain ⟨g8, cap8, rfl, hform8⟩ := Kd.R_form hr8 (List.length_pos_iff.2 hne8); have hneq := neq_nil1 W8 g8 out.length cap8; have HO8 := pA hr8; have HNE := pA hne8; have HG8 := pA (grown_trans_ HG7.out hg8); have HN3 := pA hN3; have HM3 := pA hM3; have HT3 := pA hT3; clear hN3 hM3 hT3 hg8 hne8 hr8 hform8)
        go_ret
        exact ⟨_, rfl, by rw [HPF.out, HPZ.out]; exact ⟨HNE.out, HO8.out⟩, HG8.out, N3, s3, f3, tries_all HK.out.1 HK1.out HBL.out HN1.out HN2.out HN3.out, HM3.out, HT3.out⟩
    ·have hkb2 : decide (k < many) = false := decide_eq_false hk2
     have HPK := pA (HPF.out.trans (packFrom_many _ many d bs x k.toNat (by have := HK.out; omega)))
     clear hk2
     go_wp2
     go_ret
     exact ⟨_, rfl, by rw [HPK.out]; rfl, HG1.out, _, _, _, Nat.le_trans HN1.out (tries_le HK.out.1 HK.out.2 HBL.out _ _), HM1.out, HT1.out⟩
   ·have hkb : decide (k ≤ (bs.length : Int)) = false := decide_eq_false hk1
    have HPK := pA (HPF.out.trans (packFrom_end _ many d bs x k.toNat (by have := HK.out; omega)))
    clear hk1
    go_wp2
    go_ret
    exact ⟨_, rfl, by rw [HPK.out]; rfl, HG1.out, _, _, _, Nat.le_trans HN1.out (tries_le HK.out.1 HK.out.2 HBL.out _ _), HM1.out, HT1.out⟩
/-- The fewest bungs. -/
def fewestFrom (ok : List Int → Bool) (n k : Nat) : Option (List (List Int)) := (List.range' k (n + 1 - k)).findSome? fun (m : Nat) => packOf ok m n [] 0
def bung_Fewest.f (a0 a1 : Int) (l1 : List S52) (a2 a3 : Int) : Option (List (List Int) × Int) :=
 (bung_asked.f a0 a1 l1 a2 a3).map fun e => if e ≠ 0 then ([], e) else if 9 < l1.length then ([], 36) else if l1.length = 0 then ([], 0) else match fewestFrom (doOf ⟨a0, a1⟩ l1 a2 a3) l1.length 1 with
  | some out => (out, 0)
  | none => ([], 3)
theorem asked_ok {a0 a1 : Int} {l : List S52} {a2 a3 : Int} (h : bung_asked.f a0 a1 l a2 a3 = some 0) : vWad a0 a1 = true ∧ okList l = true := by
 unfold bung_asked.f at h
 rw [isWad_eq] at h
 cases hw : vWad a0 a1 with
 | false => simp [hw] at h
 | true =>
  refine ⟨rfl, ?_⟩
  unfold bung_isList.f at h
  cases hl : okList l with
  | false => simp [hw, hl] at h
  | true => rfl
theorem fewest_step (ok : List Int → Bool) (n k : Nat) (hk : k ≤ n) : fewestFrom ok n k = (packOf ok k n [] 0).or (fewestFrom ok n (k + 1)) := by
 unfold fewestFrom
 rw [show n + 1 - k = (n + 1 - (k + 1)) + 1 from by omega, List.range'_succ, List.findSome?_cons]
 split <;> rename_i h <;> rw [h] <;> rfl
theorem fewest_end (ok : List Int → Bool) (n k : Nat) (hk : n < k) : fewestFrom ok n k = none := by
 unfold fewestFrom
 rw [show n + 1 - k = 0 from by omega]
 rfl
theorem tries_nine : ∀ n, n ≤ 9 → triesIn n ≤ 3000000000 := by decide
theorem okBs_nil : okBs [] 0 := ⟨fun b hb => absurd hb List.not_mem_nil, Int.le_refl _, Int.le_refl _, fun h => absurd h (Int.lt_irrefl _)⟩
theorem fewest_tries {m : Int} (h1 : 1 ≤ m) {N N3 d : Nat} (hN : N ≤ (m.toNat - 1) * triesIn d) (h3 : N3 ≤ N + triesIn d) : N3 ≤ ((m + 1).toNat - 1) * triesIn d := by
  rw [show (m + 1).toNat - 1 = (m.toNat - 1) + 1 by omega, Nat.succ_mul]
  omega
set_option maxHeartbeats 8000000 in
set_option maxRecDepth 100000 in
theorem bung_Fewest.calls (a0_0 : Int) (a0_1 : Int) (A1 : Option Addr) (c1 : Nat) (l1 : List S52) (a2_0 : Int) (a2_1 : Int) (r1 : List (List Int)) (r2 : Int) (w : World) (hr1 : Kd.C k52 w A1 l1.length l1) (hc1 : l1.length ≤ c1) (h : bung_Fewest.f a0_0 a0_1 l1 a2_0 a2_1 = some (r1, r2)) :
  Calls Try.prog 20 #[.agg #[.int .i64 a0_0, .int .i64 a0_1], .slice A1 l1.length c1, .agg #[.int .i64 a2_0, .int .i64 a2_1]] w fun e w' => ∃ v0_ : Value, e = .returned (.tuple #[v0_, .int .i64 r2]) ∧ Kd.R (Kd.slice 3 (Kd.int .i64)) 38 w' w.heap.size (fun _ => True) v0_ r1 ∧ Below w.heap.size w w' := by
 have HR1 := pA hr1
 clear hr1
 obtain ⟨e, he, h⟩ := Option.map_eq_some_iff.1 h
 have HE := pA he
 have HX0 := pA (blk_alloc (heap_alloc_new w (.cells #[.int .i64 a0_0, .int .i64 a0_1] 23 (0, 0))) (.cells #[.int .i64 a2_0, .int .i64 a2_1] 26 (0, 0)))
 have HX1 := pA (blk_new2 w (.cells #[.int .i64 a0_0, .int .i64 a0_1] 23 (0, 0)) (.cells #[.int .i64 a2_0, .int .i64 a2_1] 26 (0, 0)))
 by_cases h0 : e = 0
 ·rw [if_neg (by simp [h0])] at h
  subst h0
  obtain ⟨hw, hl⟩ := asked_ok he
  have HW := pA hw
  have HL := pA hl
  clear he hw hl
  by_cases h9 : 9 < l1.length
  ·rw [if_pos h9] at h
   simp only [Prod.mk.injEq] at h
   obtain ⟨rfl, rfl⟩ := h
   have k9 : decide ((l1.length : Int) > 9) = true := decide_eq_true (by omega)
   have k9' : decide (9 < (l1.length : Int)) = true := decide_eq_true (by omega)
   clear h9
   go_enter Try.func20, Try.ntmps20
   go_wp2_with (go_at_call 76; refine (bung_asked.calls _ _ A1 c1 l1 _ _ 0 _ (Kd.C_alloc (Kd.C_alloc HR1.out _) _) hc1 HE.out).mono ?_; rintro e w1 ⟨rfl, hb⟩; have HB1 := pA (below_step (below_alloc (below_alloc (Below.refl _ _) _) _) hb); clear hb)
   refine bodyPost_ret (results_tmp2 rfl _ _ _) rfl ?_
   exact ⟨_, rfl, Kd.R_nil _ _ _ _ _, HB1.out⟩
  ·rw [if_neg h9] at h
   have k9 : decide ((l1.length : Int) > 9) = false := decide_eq_false (by omega)
   have k9' : decide (9 < (l1.length : Int)) = false := decide_eq_false (by omega)
   have H9 := pA (Nat.le_of_not_lt h9)
   clear h9
   by_cases hz : l1.length = 0
   ·rw [if_pos hz] at h
    simp only [Prod.mk.injEq] at h
    obtain ⟨rfl, rfl⟩ := h
    have kz : ((l1.length : Int) == 0) = true := by rw [hz]; rfl
    clear hz
    go_enter Try.func20, Try.ntmps20
    go_wp2_with (go_at_call 76; refine (bung_asked.calls _ _ A1 c1 l1 _ _ 0 _ (Kd.C_alloc (Kd.C_alloc HR1.out _) _) hc1 HE.out).mono ?_; rintro e w1 ⟨rfl, hb⟩; have HB1 := pA (below_step (below_alloc (below_alloc (Below.refl _ _) _) _) hb); clear hb)
    refine bodyPost_ret (results_tmp2 rfl _ _ _) rfl ?_
    exact ⟨_, rfl, Kd.R_nil _ _ _ _ _, HB1.out⟩
   ·rw [if_neg hz] at h
    have HZ := pA (Nat.pos_of_ne_zero hz)
    have kz : ((l1.length : Int) == 0) = false := by rw [beq_eq_false_iff_ne]; omega
    have HH := pA h
    have hmm := @run_makeMap Try.prog
    clear hz h
    go_enter Try.func20, Try.ntmps20
    go_wp2_with (go_at_call 76; refine (bung_asked.calls _ _ A1 c1 l1 _ _ 0 _ (Kd.C_alloc (Kd.C_alloc HR1.out _) _) hc1 HE.out).mono ?_; rintro e w1 ⟨rfl, hb⟩; have HB1 := pA (below_step (below_alloc (below_alloc (Below.refl _ _) _) _) hb); have HX2 := pA (blk_below HX0.out hb); have HX3 := pA (blk_below HX1.out hb); clear hb; have y0 := blk_cell HX2.out 0; have y1 := blk_cell HX2.out 1; have y2 := blk_cell HX3.out 0; have y3 := blk_cell HX3.out 1)
    clear y0 y1 y2 y3
    have HS1 := pA HB1.out.size
    go_loopw [10] (fun v10 w' => ∃ (m : Int) (N s : Nat) (f : Lit → Option Bool), v10 = .int .i64 m ∧ Aside0 (1 ≤ m ∧ m ≤ l1.length + 1) ∧ Aside0 (fewestFrom (doOf ⟨a0_0, a0_1⟩ l1 a2_0 a2_1) l1.length 1 = fewestFrom (doOf ⟨a0_0, a0_1⟩ l1 a2_0 a2_1) l1.length m.toNat) ∧ Aside0 (BoolMaps.IsB Try.prog 167 4 w' w1.heap.size N s f) ∧ Aside0 (Tried l1.length (doOf ⟨a0_0, a0_1⟩ l1 a2_0 a2_1) f) ∧ Aside0 (N ≤ (m.toNat - 1) * triesIn l1.length) ∧ Aside0 (w'.heap[w1.heap.size + 1]? = some (.cells #[.int .i64 a0_0, .int .i64 a0_1, .slice A1 l1.length c1, .int .i64 a2_0, .int .i64 a2_1, .map (some w1.heap.size)] 114 (0, 0))) ∧ Aside0 (Below w.heap.size w w')) (fun v10 _ => l1.length + 1 - (intOf v10).toNat)
    case atStart => exact ⟨1, 0, 0, fun _ => none, rfl, ⟨by omega⟩, ⟨rfl⟩, ⟨(BoolMaps.IsB.made _ _ _ _).alloc _⟩, ⟨Tried.none_ _ _⟩, ⟨by simp⟩, ⟨blk_new2 w1 _ _⟩, ⟨below_alloc (below_alloc HB1.out _) _⟩⟩
    case round =>
     obtain ⟨m, N, s, f, rfl, HK, HPF, HM, HT, HN, HX, HB⟩ := hrel
     by_cases hk : m ≤ (l1.length : Int)
     ·have hkb : decide (m ≤ (l1.length : Int)) = true := decide_eq_true hk
      have HKL := pA hk
      have HST := pA (fewest_step (doOf ⟨a0_0, a0_1⟩ l1 a2_0 a2_1) l1.length m.toNat (by omega))
      have hmm : ((m.toNat : Nat) : Int) = m := by have := HK.out; omega
      rw [hmm] at HST
      have HBD := pA (show N + triesIn l1.length < maxLen by
       have h1 := tries_nine l1.length H9.out
       have h2 : (m.toNat - 1) * triesIn l1.length ≤ 9 * 3000000000 := Nat.mul_le_mul (by have := H9.out; omega) h1
       have := HN.out
       unfold maxLen
       omega)
      have HSZ := pA (show w1.heap.size + 1 ≤ _ from Nat.le_of_lt (blk_lt HX.out))
      have HNX := pA (show wrap64 (m + 1) = m + 1 by have := HK.out; have := H9.out; unfold wrap64; omega)
      have y0 := blk_cell HX.out 0
      have y1 := blk_cell HX.out 1
      have y2 := blk_cell HX.out 2
      have y3 := blk_cell HX.out 3
      have y4 := blk_cell HX.out 4
      have y5 := blk_cell HX.out 5
      clear hk hmm
      cases hp : packOf (doOf ⟨a0_0, a0_1⟩ l1 a2_0 a2_1) m l1.length [] 0 with
      | none =>
       have HP := pA hp
       clear hp
       go_wp2_with (go_at_call 77; refine (bung_pack_calls a0_0 a0_1 A1 c1 l1 a2_0 a2_1 w1.heap.size (w1.heap.size + 1) hc1 HW.out HL.out H9.out HZ.out (Nat.lt_succ_self _) m l1.length [] (.slice none 0 0) 0 _ N s f (by omega) okBs_nil (Kd.R_nil _ _ _ _ _) (Kd.C_below HR1.out HB.out) HM.out HT.out HSZ.out HBD.out).mono ?_; rintro e W8 ⟨v8, rfl, ho8, hg8, N3, s3, f3, hN3, hM3, hT3⟩; rw [HP.out] at ho8; have h8 : v8 = .slice none 0 0 := ho8; subst h8; have hneq := neq_nil0 W8; have HX8 := pA (blk_grown HX.out hg8 (fun e => by injection e with e; omega)); have HB8 := pA (pw_below_grown HB.out _ HB.out.size hg8 (fun q e => by injection e with e; have := HS1.out; omega)); have HN3 := pA hN3; have HM3 := pA hM3; have HT3 := pA hT3; clear hN3 hM3 hT3 hg8 ho8)
       go_roundw
       case measure => have := HKL.out; have := HK.out; simp [intOf, HNX.out]; omega
       case rel => exact ⟨m + 1, N3, s3, f3, by rw [HNX.out], ⟨by have := HKL.out; have := HK.out; omega⟩, ⟨by rw [HPF.out, HST.out, HP.out, Option.none_or, show (m + 1).toNat = m.toNat + 1 by have := HK.out; omega]⟩, HM3, HT3, ⟨fewest_tries HK.out.1 HN.out HN3.out⟩, HX8, HB8⟩
      | some out =>
       have HP := pA hp
       clear hp
       have H := HH.out
       rw [HPF.out, HST.out, HP.out] at H
       simp only [Option.some_or, Prod.mk.injEq] at H
       obtain ⟨rfl, rfl⟩ := H
       clear HH
       go_wp2_with (go_at_call 77; refine (bung_pack_calls a0_0 a0_1 A1 c1 l1 a2_0 a2_1 w1.heap.size (w1.heap.size + 1) hc1 HW.out HL.out H9.out HZ.out (Nat.lt_succ_self _) m l1.length [] (.slice none 0 0) 0 _ N s f (by omega) okBs_nil (Kd.R_nil _ _ _ _ _) (Kd.C_below HR1.out HB.out) HM.out HT.out HSZ.out HBD.out).mono ?_; rintro e W8 ⟨v8, rfl, ho8, hg8, N3, s3, f3, hN3, hM3, hT3⟩; rw [HP.out] at ho8; obtain ⟨hne8, hr8⟩ := ho8; obtain ⟨g8, cap8, rfl, hform8⟩ := Kd.R_form hr8 (List.length_pos_iff.2 hne8); have hneq := neq_nil1 W8 g8 out.length cap8; have HO8 := pA hr8; have HB8 := pA (pw_below_grown HB.out _ HB.out.size hg8 (fun q e => by injection e with e; have := HS1.out; omega)); clear hN3 hM3 hT3 hg8 hne8 hr8 hform8)
       refine bodyPost_ret (results_tmp2 rfl _ _ _) rfl ?_
       exact ⟨_, rfl, Kd.R_lower HO8.out (by have := HS1.out; omega), HB8.out⟩
     ·have hkb : decide (m ≤ (l1.length : Int)) = false := decide_eq_false hk
      have H := HH.out
      rw [HPF.out, fewest_end _ _ _ (by have := HK.out; omega)] at H
      simp only [Prod.mk.injEq] at H
      obtain ⟨rfl, rfl⟩ := H
      clear HH hk
      go_wp2
      refine bodyPost_ret (results_tmp2 rfl _ _ _) rfl ?_
      exact ⟨_, rfl, Kd.R_nil _ _ _ _ _, HB.out⟩
 ·rw [if_pos h0] at h
  simp only [Prod.mk.injEq] at h
  obtain ⟨rfl, rfl⟩ := h
  have kn : (e != 0) = true := by simp [h0]
  clear h0 he
  go_enter Try.func20, Try.ntmps20
  go_wp2_with (go_at_call 76; refine (bung_asked.calls _ _ A1 c1 l1 _ _ _ _ (Kd.C_alloc (Kd.C_alloc HR1.out _) _) hc1 HE.out).mono ?_; rintro e w1 ⟨rfl, hb⟩; have HB1 := pA (below_step (below_alloc (below_alloc (Below.refl _ _) _) _) hb); clear hb)
  refine bodyPost_ret (results_tmp2 rfl _ _ _) rfl ?_
  exact ⟨_, rfl, Kd.R_nil _ _ _ _ _, HB1.out⟩
def potbankref03_SameParts.l0 : Nat → List (List Int) → List (List Int) → Bool → Int → Option (Bool)
  | 0, _, _, _, _ => none
  | k + 1, x0, x1, x5, x6 => if x6 < (x0.length : Int) then (if x5 = true then (if 0 ≤ x6 then (if x6 < (x1.length : Int) then ((potbankref01_Same.f k (rd_L5 x0 x6) (rd_L5 x1 x6)).bind fun t183 => (potbankref03_SameParts.l0 k x0 x1 t183 (wrap64 (x6 + 1)))) else (none)) else (none)) else (some x5)) else (some x5)
def potbankref03_SameParts.f (k : Nat) (l0 : List (List Int)) (l1 : List (List Int)) : Option (Bool) := potbankref03_SameParts.l0 k l0 l1 ((l0.length : Int) == (l1.length : Int)) 0
theorem potbankref03_SameParts.mono_l : ∀ k, (∀ y0 y1 y2 y3, LeO (potbankref03_SameParts.l0 k y0 y1 y2 y3) (potbankref03_SameParts.l0 (k + 1) y0 y1 y2 y3))
 | 0 => fun _ _ _ _ r h => by simp [potbankref03_SameParts.l0] at h
 | k + 1 => by
  have ih0 := potbankref03_SameParts.mono_l k
  ·intro y0 y1 y2 y3
   unfold potbankref03_SameParts.l0
   repeat' first
   | (with_reducible exact ih0 _ _ _ _)
   | (with_reducible exact potbankref01_Same.mono _ _ _)
   | (with_reducible exact LeO.refl _)
   | (with_reducible exact LeO.none _)
   | (with_reducible refine LeO.ite ?_ ?_)
   | (with_reducible refine LeO.bind ?_ (fun _ => ?_))
   | exact ih0 _ _ _ _
   | exact potbankref01_Same.mono _ _ _
   | exact LeO.none _
   | refine LeO.ite ?_ ?_
   | refine LeO.bind ?_ (fun _ => ?_)
theorem potbankref03_SameParts.mono : ∀ a0 a1 k, LeO (potbankref03_SameParts.f k a0 a1) (potbankref03_SameParts.f (k + 1) a0 a1) := by
 intro a0 a1 k
 have ih0 := potbankref03_SameParts.mono_l k
 unfold potbankref03_SameParts.f
 repeat' first
   | (with_reducible exact ih0 _ _ _ _)
   | (with_reducible exact potbankref01_Same.mono _ _ _)
   | (with_reducible exact LeO.refl _)
   | (with_reducible exact LeO.none _)
   | (with_reducible refine LeO.ite ?_ ?_)
   | (with_reducible refine LeO.bind ?_ (fun _ => ?_))
   | exact ih0 _ _ _ _
   | exact potbankref01_Same.mono _ _ _
   | exact LeO.none _
   | refine LeO.ite ?_ ?_
   | refine LeO.bind ?_ (fun _ => ?_)
set_option maxHeartbeats 8000000 in
set_option maxRecDepth 100000 in
theorem potbankref03_SameParts.calls (k : Nat) (A0 : Option Addr) (c0 : Nat) (l0 : List (List Int)) (A1 : Option Addr) (c1 : Nat) (l1 : List (List Int)) (r : Bool) (w : World) (hr0 : Kd.C (Kd.slice 3 (Kd.int .i64)) w A0 l0.length l0) (hc0 : l0.length ≤ c0) (hr1 : Kd.C (Kd.slice 3 (Kd.int .i64)) w A1 l1.length l1) (hc1 : l1.length ≤ c1) (h : potbankref03_SameParts.f k l0 l1 = some r) :
  Calls Try.prog 22 #[.slice A0 l0.length c0, .slice A1 l1.length c1] w fun e w' => e = .returned (.bool r) ∧ Drawn0 w w' := by
 have HR0 := pA hr0
 have HC0 := pA hc0
 clear hr0 hc0
 have HR1 := pA hr1
 have HC1 := pA hc1
 clear hr1 hc1
 have H : (potbankref03_SameParts.l0 k l0 l1 ((l0.length : Int) == (l1.length : Int)) 0) = some r := h
 clear h
 have H' := pA H
 clear H
 go_enter Try.func22, Try.ntmps22
 go_wp2
 repeat (go_quiet (fail); try go_wp2)
 go_loopg [5, 6] k (fun kq v5 v6 w' => ∃ (x5_1 : Bool) (x6_1 : Int), v5 = .bool x5_1 ∧ v6 = .int .i64 x6_1 ∧ Aside0 (potbankref03_SameParts.l0 kq l0 l1 x5_1 x6_1 = some r) ∧ Aside0 (kq ≤ k) ∧ Drawn0 w w')
 case atStart => exact ⟨(((l0.length : Int) == (l1.length : Int))), (0), (by first | rfl | (simp; done) | (simp [*]; done)), (by first | rfl | (simp; done) | (simp [*]; done)), H', ⟨Nat.le_refl _⟩, by repeat (first | exact Drawn0.refl _ | apply Drawn0.step)⟩
 case round =>
  clear H'
  try clear c1
  try clear c2
  try clear p2
  obtain ⟨x5_1, x6_1, rfl, rfl, HA, HK1, ⟨m1, rfl⟩⟩ := hrel
  cases gk with
  | zero => exact absurd HA.out (by simp [potbankref03_SameParts.l0])
  | succ k1 =>
   have H := HA.out
   clear HA
   simp only [potbankref03_SameParts.l0] at H
   by_cases c3 : x6_1 < (l0.length : Int)
   ·rw [if_pos c3] at H
    have c3b0 : decide (x6_1 < (l0.length : Int)) = true := decide_eq_true c3
    clear c3
    by_cases c4 : x5_1 = true
    ·subst c4
     have H1 : (if 0 ≤ x6_1 then (if x6_1 < (l1.length : Int) then ((potbankref01_Same.f k1 (rd_L5 l0 x6_1) (rd_L5 l1 x6_1)).bind fun t183 => (potbankref03_SameParts.l0 k1 l0 l1 t183 (wrap64 (x6_1 + 1)))) else (none)) else (none)) = some r := by rw [if_pos rfl] at H; exact H
     clear H
     have H := H1
     clear H1
     by_cases c5 : 0 ≤ x6_1
     ·rw [if_pos c5] at H
      have c5b0 : decide (0 ≤ x6_1) = true := decide_eq_true c5
      clear c5
      by_cases c6 : x6_1 < (l1.length : Int)
      ·rw [if_pos c6] at H
       have c6b0 : decide (x6_1 < (l1.length : Int)) = true := decide_eq_true c6
       clear c6
       replace H := Option.bind_eq_some_iff.mp H
       obtain ⟨t183, A70, H⟩ := H
       replace H : (potbankref03_SameParts.l0 k1 l0 l1 t183 (wrap64 (x6_1 + 1))) = some r := H
       have A7 := pA A70
       clear A70
       have H' := pA H
       clear H
       have p181 : 0 ≤ (x6_1 : Int) := of_decide_eq_true (by first | (with_reducible assumption) | assumption)
       have q181 : x6_1 < (l0.length : Int) := of_decide_eq_true (by first | (with_reducible assumption) | assumption)
       obtain ⟨ad181, A181_0, c181_0, e181, hx181_0, hl181_0, hi181_0⟩ := at_L5 HR0.out x6_1 p181 q181
       cases e181
       have HR181_0 := pA hi181_0
       have HC181_0 := pA hl181_0
       clear hi181_0 hl181_0
       replace p181 := eq_true p181
       replace q181 := eq_true q181
       have p182 : 0 ≤ (x6_1 : Int) := of_decide_eq_true (by first | (with_reducible assumption) | assumption)
       have q182 : x6_1 < (l1.length : Int) := of_decide_eq_true (by first | (with_reducible assumption) | assumption)
       obtain ⟨ad182, A182_0, c182_0, e182, hx182_0, hl182_0, hi182_0⟩ := at_L5 HR1.out x6_1 p182 q182
       cases e182
       have HR182_0 := pA hi182_0
       have HC182_0 := pA hl182_0
       clear hi182_0 hl182_0
       replace p182 := eq_true p182
       replace q182 := eq_true q182
       go_wp2_with (first | (go_at_call 40; (with_reducible refine (potbankref01_Same.calls k1 _ _ (rd_L5 l0 x6_1) _ _ (rd_L5 l1 x6_1) t183 _ ?side1 ?side2 ?side3 ?side4 A7.out).mono ?_); (case side1 => repeat (first | exact HR181_0.out | (with_reducible refine Kd.C_alloc ?_ _) | (with_reducible refine Kd.C_drewN ?_ _) | (with_reducible refine Kd.C_drew ?_))); (case side2 => exact HC181_0.out); (case side3 => repeat (first | exact HR182_0.out | (with_reducible refine Kd.C_alloc ?_ _) | (with_reducible refine Kd.C_drewN ?_ _) | (with_reducible refine Kd.C_drew ?_))); (case side4 => exact HC182_0.out); rintro e w' ⟨rfl, ⟨nd, rfl⟩⟩; (try first | exact ⟨rfl, _, World.drewN_drewN _ _ _⟩ | exact ⟨rfl, _, Eq.trans (World.drewN_drewN _ _ _) (congrArg (World.drewN _) (Nat.add_assoc _ _ _))⟩)))
       repeat (go_quiet (first | (go_at_call 40; (with_reducible refine (potbankref01_Same.calls k1 _ _ (rd_L5 l0 x6_1) _ _ (rd_L5 l1 x6_1) t183 _ ?side1 ?side2 ?side3 ?side4 A7.out).mono ?_); (case side1 => repeat (first | exact HR181_0.out | (with_reducible refine Kd.C_alloc ?_ _) | (with_reducible refine Kd.C_drewN ?_ _) | (with_reducible refine Kd.C_drew ?_))); (case side2 => exact HC181_0.out); (case side3 => repeat (first | exact HR182_0.out | (with_reducible refine Kd.C_alloc ?_ _) | (with_reducible refine Kd.C_drewN ?_ _) | (with_reducible refine Kd.C_drew ?_))); (case side4 => exact HC182_0.out); rintro e w' ⟨rfl, ⟨nd, rfl⟩⟩; (try first | exact ⟨rfl, _, World.drewN_drewN _ _ _⟩ | exact ⟨rfl, _, Eq.trans (World.drewN_drewN _ _ _) (congrArg (World.drewN _) (Nat.add_assoc _ _ _))⟩))); try go_wp2_with (first | (go_at_call 40; (with_reducible refine (potbankref01_Same.calls k1 _ _ (rd_L5 l0 x6_1) _ _ (rd_L5 l1 x6_1) t183 _ ?side1 ?side2 ?side3 ?side4 A7.out).mono ?_); (case side1 => repeat (first | exact HR181_0.out | (with_reducible refine Kd.C_alloc ?_ _) | (with_reducible refine Kd.C_drewN ?_ _) | (with_reducible refine Kd.C_drew ?_))); (case side2 => exact HC181_0.out); (case side3 => repeat (first | exact HR182_0.out | (with_reducible refine Kd.C_alloc ?_ _) | (with_reducible refine Kd.C_drewN ?_ _) | (with_reducible refine Kd.C_drew ?_))); (case side4 => exact HC182_0.out); rintro e w' ⟨rfl, ⟨nd, rfl⟩⟩; (try first | exact ⟨rfl, _, World.drewN_drewN _ _ _⟩ | exact ⟨rfl, _, Eq.trans (World.drewN_drewN _ _ _) (congrArg (World.drewN _) (Nat.add_assoc _ _ _))⟩))))
       go_roundg k1
       case measure => have := HK1.out; omega
       case rel => exact ⟨(t183), (wrap64 (x6_1 + 1)), (by first | rfl | (simp; done) | (simp [*]; done)), (by first | rfl | (simp; done) | (simp [*]; done)), H', ⟨by have := HK1.out; omega⟩, by repeat (first | exact Drawn0.refl _ | apply Drawn0.step)⟩
      ·rw [if_neg c6] at H
       exact absurd H (by simp)
     ·rw [if_neg c5] at H
      exact absurd H (by simp)
    ·replace c4 := Bool.eq_false_iff.mpr c4
     subst c4
     have H1 : (some false) = some r := by rw [if_neg (show ¬ (false = true) by decide)] at H; exact H
     clear H
     have H := H1
     clear H1
     obtain rfl := Option.some.inj H
     go_wp2
     repeat (go_quiet (fail); try go_wp2)
     go_ret
     exact ⟨by first | rfl | (simp; done) | (simp [*]; done), by repeat (first | exact Drawn0.refl _ | apply Drawn0.step)⟩
   ·rw [if_neg c3] at H
    have c3b0 : decide (x6_1 < (l0.length : Int)) = false := decide_eq_false c3
    clear c3
    obtain rfl := Option.some.inj H
    go_wp2
    repeat (go_quiet (fail); try go_wp2)
    go_ret
    exact ⟨by first | rfl | (simp; done) | (simp [*]; done), by repeat (first | exact Drawn0.refl _ | apply Drawn0.step)⟩
def bung_Stands.f (k : Nat) (a0_0 : Int) (a0_1 : Int) (l0_2 : List (S52)) : Option (Int × Int) := (bung_isBung.f a0_0 a0_1 l0_2).bind fun t188 => (if t188 = true then ((bung_courses.f k l0_2).bind fun t189 => ((bung_all.f k t189).bind fun t192 => (some (t192, 0)))) else (some (0, 31)))
theorem bung_Stands.mono : ∀ a0 a1 a2 k, LeO (bung_Stands.f k a0 a1 a2) (bung_Stands.f (k + 1) a0 a1 a2) := by
 intro a0 a1 a2 k
 unfold bung_Stands.f
 repeat' first
   | (with_reducible exact bung_all.mono _ _)
   | (with_reducible exact bung_courses.mono _ _)
   | (with_reducible exact LeO.refl _)
   | (with_reducible exact LeO.none _)
   | (with_reducible refine LeO.ite ?_ ?_)
   | (with_reducible refine LeO.bind ?_ (fun _ => ?_))
   | exact bung_all.mono _ _
   | exact bung_courses.mono _ _
   | exact LeO.none _
   | refine LeO.ite ?_ ?_
   | refine LeO.bind ?_ (fun _ => ?_)
set_option maxHeartbeats 8000000 in
set_option maxRecDepth 100000 in
theorem bung_Stands.calls (k : Nat) (a0_0 : Int) (a0_1 : Int) (A0_2 : Option Addr) (c0_2 : Nat) (l0_2 : List (S52)) (r1 : Int) (r2 : Int) (w : World) (hr0_2 : Kd.C k52 w A0_2 l0_2.length l0_2) (hc0_2 : l0_2.length ≤ c0_2) (h : bung_Stands.f k a0_0 a0_1 l0_2 = some (r1, r2)) :
  Calls Try.prog 24 #[.agg #[.int .i64 a0_0, .int .i64 a0_1, .slice A0_2 l0_2.length c0_2]] w fun e w' => e = .returned (.tuple #[.int .i64 r1, .int .i64 r2]) ∧ Below w.heap.size w w' := by
 have hu43 := Try.underlying43
 have HR0_2 := pA hr0_2
 have HC0_2 := pA hc0_2
 clear hr0_2 hc0_2
 have HB := pA (Below.refl w.heap.size w)
 have H : ((bung_isBung.f a0_0 a0_1 l0_2).bind fun t188 => (if t188 = true then ((bung_courses.f k l0_2).bind fun t189 => ((bung_all.f k t189).bind fun t192 => (some (t192, 0)))) else (some (0, 31)))) = some (r1, r2) := h
 clear h
 replace H := Option.bind_eq_some_iff.mp H
 obtain ⟨t188, A20, H⟩ := H
 replace H : (if t188 = true then ((bung_courses.f k l0_2).bind fun t189 => ((bung_all.f k t189).bind fun t192 => (some (t192, 0)))) else (some (0, 31))) = some (r1, r2) := H
 have A2 := pA A20
 clear A20
 by_cases c3 : t188 = true
 ·subst c3
  have H1 : ((bung_courses.f k l0_2).bind fun t189 => ((bung_all.f k t189).bind fun t192 => (some (t192, 0)))) = some (r1, r2) := by rw [if_pos rfl] at H; exact H
  clear H
  have H := H1
  clear H1
  replace H := Option.bind_eq_some_iff.mp H
  obtain ⟨t189, A40, H⟩ := H
  replace H : ((bung_all.f k t189).bind fun t192 => (some (t192, 0))) = some (r1, r2) := H
  have A4 := pA A40
  clear A40
  replace H := Option.bind_eq_some_iff.mp H
  obtain ⟨t192, A50, H⟩ := H
  replace H : (some (t192, 0)) = some (r1, r2) := H
  have A5 := pA A50
  clear A50
  simp only [Option.some.injEq, Prod.mk.injEq] at H
  obtain ⟨rfl, rfl⟩ := H
  go_enter Try.func24, Try.ntmps24
  go_wp2_with (first | ((with_reducible refine gate_dst (N := 1) rfl ?_); refine box_event ?hg (N := 1) ?hd (cs := #[.int .i64 a0_0, .int .i64 a0_1, .slice A0_2 l0_2.length c0_2]) (t := 43) ?hr ?_; (case hd => rfl); (case hg => rfl); (case hr => first | (go_simp; done) | (go_simp; rfl)); intro gb187 hg w6 hbox hb; have n0_ := pA (below_step (vB HB) hb); have n1_ := pA (hbox); have n2_ := pA ((by rw [hg]; exact (below_size (vB HB)) : w.heap.size ≤ gb187)); have n3_ := pA ((by rw [hg]; exact (below_size (vB HB)) : w.heap.size ≤ gb187)); clear HB; have HB := n0_; have BK187 := n1_; have GW187 := n2_; have GE187 := n3_; clear n0_ n1_ n2_ n3_; clear hb hbox hg; have hcz7_0 : w6.cell? ⟨gb187, 0, none⟩ = some (.int .i64 a0_0) := (blk_cell BK187.out 0).trans rfl; have hcz7_1 : w6.cell? ⟨gb187, 1, none⟩ = some (.int .i64 a0_1) := (blk_cell BK187.out 1).trans rfl; have hcz7_2 : w6.cell? ⟨gb187, 2, none⟩ = some (.slice A0_2 l0_2.length c0_2) := (blk_cell BK187.out 2).trans rfl; have hfz7_0 := blk_frozen BK187.out 0; have hfz7_1 := blk_frozen BK187.out 1; have hfz7_2 := blk_frozen BK187.out 2) | ((with_reducible refine aF (f := 80) rfl ?_); refine goesL_ (some 5) rfl rfl Try.func80 (by kernel_rfl) rfl #[.agg #[.int .i64 a0_0, .int .i64 a0_1, .slice A0_2 l0_2.length c0_2]] rfl (by (try simp only [pE, pF, pG]); first | done | rfl | (simp only [pH, pI]; rfl)) ?_; (with_reducible refine (bung_isBung.calls a0_0 a0_1 _ _ l0_2 true _ ?side1 ?side2 A2.out).mono ?_); (case side1 => repeat (first | exact (Kd.C_below HR0_2.out HB.out) | (with_reducible refine Kd.C_alloc ?_ _) | (with_reducible refine Kd.C_drewN ?_ _) | (with_reducible refine Kd.C_drew ?_))); (case side2 => exact HC0_2.out); rintro e w8 ⟨rfl, hb⟩; refine ⟨_, rfl, ?_⟩; have n0_ := pA (blk_below (g := gb187) (o := .cells #[.int .i64 a0_0, .int .i64 a0_1, .slice A0_2 l0_2.length c0_2] 43 (0, 0)) (vK BK187) hb); have n1_ := pA (below_step (by repeat (first | (with_reducible first | exact HB.out | apply below_alloc | apply pw_below_drewN | apply below_drew1 | refine below_set ?_ GE187.out) | exact HB.out)) hb); clear BK187; clear HB; have BK187 := n0_; have HB := n1_; clear n0_ n1_; (try clear hb); (try clear hb2); (try clear hk); (try clear hi); have hcz9_0 : w8.cell? ⟨gb187, 0, none⟩ = some (.int .i64 a0_0) := (blk_cell BK187.out 0).trans rfl; have hcz9_1 : w8.cell? ⟨gb187, 1, none⟩ = some (.int .i64 a0_1) := (blk_cell BK187.out 1).trans rfl; have hcz9_2 : w8.cell? ⟨gb187, 2, none⟩ = some (.slice A0_2 l0_2.length c0_2) := (blk_cell BK187.out 2).trans rfl; have hfz9_0 := blk_frozen BK187.out 0; have hfz9_1 := blk_frozen BK187.out 1; have hfz9_2 := blk_frozen BK187.out 2) | ((with_reducible refine aF (f := 82) rfl ?_); refine goesL_ (some 9) rfl rfl Try.func82 (by kernel_rfl) rfl #[.slice A0_2 l0_2.length c0_2] rfl (by (try simp only [pE, pF, pG]); first | done | rfl | (simp only [pH, pI]; rfl)) ?_; (with_reducible refine (bung_courses.calls k _ _ l0_2 t189 _ ?side1 ?side2 A4.out).mono ?_); (case side1 => repeat (first | exact (Kd.C_below HR0_2.out HB.out) | (with_reducible refine Kd.C_alloc ?_ _) | (with_reducible refine Kd.C_drewN ?_ _) | (with_reducible refine Kd.C_drew ?_))); (case side2 => exact HC0_2.out); rintro e w10 ⟨v190, rfl, ho0, hb⟩; refine ⟨_, rfl, ?_⟩; have n0_ := pA (Kd.R_lower ho0 (below_size (by repeat (first | (with_reducible first | exact HB.out | apply below_alloc | apply pw_below_drewN | apply below_drew1 | refine below_set ?_ GE187.out) | exact HB.out)))); have n1_ := pA (blk_below (g := gb187) (o := .cells #[.int .i64 a0_0, .int .i64 a0_1, .slice A0_2 l0_2.length c0_2] 43 (0, 0)) (vK BK187) hb); have n2_ := pA (below_step (by repeat (first | (with_reducible first | exact HB.out | apply below_alloc | apply pw_below_drewN | apply below_drew1 | refine below_set ?_ GE187.out) | exact HB.out)) hb); clear BK187; clear HB; have HO191 := n0_; have BK187 := n1_; have HB := n2_; clear n0_ n1_ n2_; (try clear hb); (try clear hb2); (try clear hk); (try clear hi); (try clear ho0); obtain ⟨Ao11, co11, eo11⟩ := Kd.R_slice HO191.out; subst eo11) | ((with_reducible refine aF (f := 81) rfl ?_); refine goesL_ (some 10) rfl rfl Try.func81 (by kernel_rfl) rfl #[.slice Ao11 t189.length co11] rfl (by (try simp only [pE, pF, pG]); first | done | rfl | (simp only [pH, pI]; rfl)) ?_; (with_reducible refine (bung_all.calls k _ _ t189 t192 _ ?side1 ?side2 A5.out).mono ?_); (case side1 => repeat (first | exact (Kd.R_reads' HO191.out).2.2 | (with_reducible refine Kd.C_alloc ?_ _) | (with_reducible refine Kd.C_drewN ?_ _) | (with_reducible refine Kd.C_drew ?_))); (case side2 => exact (Kd.R_reads' HO191.out).2.1); rintro e w' ⟨rfl, ⟨nd, rfl⟩⟩; refine ⟨_, rfl, ?_⟩))
  go_ret2
  exact ⟨by first | rfl | (simp [errW_none, errW_some] <;> rfl) | (simp [*, errW_none, errW_some] <;> rfl), by repeat (first | (with_reducible first | exact HB.out | apply below_alloc | apply pw_below_drewN | apply below_drew1 | refine below_set ?_ GE187.out) | exact HB.out)⟩
 ·replace c3 := Bool.eq_false_iff.mpr c3
  subst c3
  have H1 : (some (0, 31)) = some (r1, r2) := by rw [if_neg (show ¬ (false = true) by decide)] at H; exact H
  clear H
  have H := H1
  clear H1
  simp only [Option.some.injEq, Prod.mk.injEq] at H
  obtain ⟨rfl, rfl⟩ := H
  go_enter Try.func24, Try.ntmps24
  go_wp2_with (first | ((with_reducible refine gate_dst (N := 1) rfl ?_); refine box_event ?hg (N := 1) ?hd (cs := #[.int .i64 a0_0, .int .i64 a0_1, .slice A0_2 l0_2.length c0_2]) (t := 43) ?hr ?_; (case hd => rfl); (case hg => rfl); (case hr => first | (go_simp; done) | (go_simp; rfl)); intro gb187 hg w12 hbox hb; have n0_ := pA (below_step (vB HB) hb); have n1_ := pA (hbox); have n2_ := pA ((by rw [hg]; exact (below_size (vB HB)) : w.heap.size ≤ gb187)); have n3_ := pA ((by rw [hg]; exact (below_size (vB HB)) : w.heap.size ≤ gb187)); clear HB; have HB := n0_; have BK187 := n1_; have GW187 := n2_; have GE187 := n3_; clear n0_ n1_ n2_ n3_; clear hb hbox hg; have hcz13_0 : w12.cell? ⟨gb187, 0, none⟩ = some (.int .i64 a0_0) := (blk_cell BK187.out 0).trans rfl; have hcz13_1 : w12.cell? ⟨gb187, 1, none⟩ = some (.int .i64 a0_1) := (blk_cell BK187.out 1).trans rfl; have hcz13_2 : w12.cell? ⟨gb187, 2, none⟩ = some (.slice A0_2 l0_2.length c0_2) := (blk_cell BK187.out 2).trans rfl; have hfz13_0 := blk_frozen BK187.out 0; have hfz13_1 := blk_frozen BK187.out 1; have hfz13_2 := blk_frozen BK187.out 2) | ((with_reducible refine aF (f := 80) rfl ?_); refine goesL_ (some 5) rfl rfl Try.func80 (by kernel_rfl) rfl #[.agg #[.int .i64 a0_0, .int .i64 a0_1, .slice A0_2 l0_2.length c0_2]] rfl (by (try simp only [pE, pF, pG]); first | done | rfl | (simp only [pH, pI]; rfl)) ?_; (with_reducible refine (bung_isBung.calls a0_0 a0_1 _ _ l0_2 false _ ?side1 ?side2 A2.out).mono ?_); (case side1 => repeat (first | exact (Kd.C_below HR0_2.out HB.out) | (with_reducible refine Kd.C_alloc ?_ _) | (with_reducible refine Kd.C_drewN ?_ _) | (with_reducible refine Kd.C_drew ?_))); (case side2 => exact HC0_2.out); rintro e w14 ⟨rfl, hb⟩; refine ⟨_, rfl, ?_⟩; have n0_ := pA (blk_below (g := gb187) (o := .cells #[.int .i64 a0_0, .int .i64 a0_1, .slice A0_2 l0_2.length c0_2] 43 (0, 0)) (vK BK187) hb); have n1_ := pA (below_step (by repeat (first | (with_reducible first | exact HB.out | apply below_alloc | apply pw_below_drewN | apply below_drew1 | refine below_set ?_ GE187.out) | exact HB.out)) hb); clear BK187; clear HB; have BK187 := n0_; have HB := n1_; clear n0_ n1_; (try clear hb); (try clear hb2); (try clear hk); (try clear hi)))
  go_ret2
  exact ⟨by first | rfl | (simp [errW_none, errW_some] <;> rfl) | (simp [*, errW_none, errW_some] <;> rfl), by repeat (first | (with_reducible first | exact HB.out | apply below_alloc | apply pw_below_drewN | apply below_drew1 | refine below_set ?_ GE187.out) | exact HB.out)⟩
def bung_Lean.f (k : Nat) (a0_0 : Int) (a0_1 : Int) (l0_2 : List (S52)) : Option (Int × Int) := (bung_isBung.f a0_0 a0_1 l0_2).bind fun t194 => (if t194 = true then ((bung_lean.f k a0_0 a0_1 l0_2).bind fun t195 => (some (t195, 0))) else (some (0, 31)))
theorem bung_Lean.mono : ∀ a0 a1 a2 k, LeO (bung_Lean.f k a0 a1 a2) (bung_Lean.f (k + 1) a0 a1 a2) := by
 intro a0 a1 a2 k
 unfold bung_Lean.f
 repeat' first
   | (with_reducible exact bung_lean.mono _ _ _ _)
   | (with_reducible exact LeO.refl _)
   | (with_reducible exact LeO.none _)
   | (with_reducible refine LeO.ite ?_ ?_)
   | (with_reducible refine LeO.bind ?_ (fun _ => ?_))
   | exact bung_lean.mono _ _ _ _
   | exact LeO.none _
   | refine LeO.ite ?_ ?_
   | refine LeO.bind ?_ (fun _ => ?_)
set_option maxHeartbeats 8000000 in
set_option maxRecDepth 100000 in
theorem bung_Lean.calls (k : Nat) (a0_0 : Int) (a0_1 : Int) (A0_2 : Option Addr) (c0_2 : Nat) (l0_2 : List (S52)) (r1 : Int) (r2 : Int) (w : World) (hr0_2 : Kd.C k52 w A0_2 l0_2.length l0_2) (hc0_2 : l0_2.length ≤ c0_2) (h : bung_Lean.f k a0_0 a0_1 l0_2 = some (r1, r2)) :
  Calls Try.prog 26 #[.agg #[.int .i64 a0_0, .int .i64 a0_1, .slice A0_2 l0_2.length c0_2]] w fun e w' => e = .returned (.tuple #[.int .i64 r1, .int .i64 r2]) ∧ Below w.heap.size w w' := by
 have hu43 := Try.underlying43
 have HR0_2 := pA hr0_2
 have HC0_2 := pA hc0_2
 clear hr0_2 hc0_2
 have HB := pA (Below.refl w.heap.size w)
 have H : ((bung_isBung.f a0_0 a0_1 l0_2).bind fun t194 => (if t194 = true then ((bung_lean.f k a0_0 a0_1 l0_2).bind fun t195 => (some (t195, 0))) else (some (0, 31)))) = some (r1, r2) := h
 clear h
 replace H := Option.bind_eq_some_iff.mp H
 obtain ⟨t194, A20, H⟩ := H
 replace H : (if t194 = true then ((bung_lean.f k a0_0 a0_1 l0_2).bind fun t195 => (some (t195, 0))) else (some (0, 31))) = some (r1, r2) := H
 have A2 := pA A20
 clear A20
 by_cases c3 : t194 = true
 ·subst c3
  have H1 : ((bung_lean.f k a0_0 a0_1 l0_2).bind fun t195 => (some (t195, 0))) = some (r1, r2) := by rw [if_pos rfl] at H; exact H
  clear H
  have H := H1
  clear H1
  replace H := Option.bind_eq_some_iff.mp H
  obtain ⟨t195, A40, H⟩ := H
  replace H : (some (t195, 0)) = some (r1, r2) := H
  have A4 := pA A40
  clear A40
  simp only [Option.some.injEq, Prod.mk.injEq] at H
  obtain ⟨rfl, rfl⟩ := H
  go_enter Try.func26, Try.ntmps26
  go_wp2_with (first | ((with_reducible refine gate_dst (N := 1) rfl ?_); refine box_event ?hg (N := 1) ?hd (cs := #[.int .i64 a0_0, .int .i64 a0_1, .slice A0_2 l0_2.length c0_2]) (t := 43) ?hr ?_; (case hd => rfl); (case hg => rfl); (case hr => first | (go_simp; done) | (go_simp; rfl)); intro gb193 hg w5 hbox hb; have n0_ := pA (below_step (vB HB) hb); have n1_ := pA (hbox); have n2_ := pA ((by rw [hg]; exact (below_size (vB HB)) : w.heap.size ≤ gb193)); have n3_ := pA ((by rw [hg]; exact (below_size (vB HB)) : w.heap.size ≤ gb193)); clear HB; have HB := n0_; have BK193 := n1_; have GW193 := n2_; have GE193 := n3_; clear n0_ n1_ n2_ n3_; clear hb hbox hg; have hcz6_0 : w5.cell? ⟨gb193, 0, none⟩ = some (.int .i64 a0_0) := (blk_cell BK193.out 0).trans rfl; have hcz6_1 : w5.cell? ⟨gb193, 1, none⟩ = some (.int .i64 a0_1) := (blk_cell BK193.out 1).trans rfl; have hcz6_2 : w5.cell? ⟨gb193, 2, none⟩ = some (.slice A0_2 l0_2.length c0_2) := (blk_cell BK193.out 2).trans rfl; have hfz6_0 := blk_frozen BK193.out 0; have hfz6_1 := blk_frozen BK193.out 1; have hfz6_2 := blk_frozen BK193.out 2) | ((with_reducible refine aF (f := 80) rfl ?_); refine goesL_ (some 5) rfl rfl Try.func80 (by kernel_rfl) rfl #[.agg #[.int .i64 a0_0, .int .i64 a0_1, .slice A0_2 l0_2.length c0_2]] rfl (by (try simp only [pE, pF, pG]); first | done | rfl | (simp only [pH, pI]; rfl)) ?_; (with_reducible refine (bung_isBung.calls a0_0 a0_1 _ _ l0_2 true _ ?side1 ?side2 A2.out).mono ?_); (case side1 => repeat (first | exact (Kd.C_below HR0_2.out HB.out) | (with_reducible refine Kd.C_alloc ?_ _) | (with_reducible refine Kd.C_drewN ?_ _) | (with_reducible refine Kd.C_drew ?_))); (case side2 => exact HC0_2.out); rintro e w7 ⟨rfl, hb⟩; refine ⟨_, rfl, ?_⟩; have n0_ := pA (blk_below (g := gb193) (o := .cells #[.int .i64 a0_0, .int .i64 a0_1, .slice A0_2 l0_2.length c0_2] 43 (0, 0)) (vK BK193) hb); have n1_ := pA (below_step (by repeat (first | (with_reducible first | exact HB.out | apply below_alloc | apply pw_below_drewN | apply below_drew1 | refine below_set ?_ GE193.out) | exact HB.out)) hb); clear BK193; clear HB; have BK193 := n0_; have HB := n1_; clear n0_ n1_; (try clear hb); (try clear hb2); (try clear hk); (try clear hi); have hcz8_0 : w7.cell? ⟨gb193, 0, none⟩ = some (.int .i64 a0_0) := (blk_cell BK193.out 0).trans rfl; have hcz8_1 : w7.cell? ⟨gb193, 1, none⟩ = some (.int .i64 a0_1) := (blk_cell BK193.out 1).trans rfl; have hcz8_2 : w7.cell? ⟨gb193, 2, none⟩ = some (.slice A0_2 l0_2.length c0_2) := (blk_cell BK193.out 2).trans rfl; have hfz8_0 := blk_frozen BK193.out 0; have hfz8_1 := blk_frozen BK193.out 1; have hfz8_2 := blk_frozen BK193.out 2) | ((with_reducible refine aF (f := 84) rfl ?_); refine goesL_ (some 8) rfl rfl Try.func84 (by kernel_rfl) rfl #[.agg #[.int .i64 a0_0, .int .i64 a0_1, .slice A0_2 l0_2.length c0_2]] rfl (by (try simp only [pE, pF, pG]); first | done | rfl | (simp only [pH, pI]; rfl)) ?_; (with_reducible refine (bung_lean.calls k a0_0 a0_1 _ _ l0_2 t195 _ ?side1 ?side2 A4.out).mono ?_); (case side1 => repeat (first | exact (Kd.C_below HR0_2.out HB.out) | (with_reducible refine Kd.C_alloc ?_ _) | (with_reducible refine Kd.C_drewN ?_ _) | (with_reducible refine Kd.C_drew ?_))); (case side2 => exact HC0_2.out); rintro e w9 ⟨rfl, hb⟩; refine ⟨_, rfl, ?_⟩; have n0_ := pA (blk_below (g := gb193) (o := .cells #[.int .i64 a0_0, .int .i64 a0_1, .slice A0_2 l0_2.length c0_2] 43 (0, 0)) (vK BK193) hb); have n1_ := pA (below_step (by repeat (first | (with_reducible first | exact HB.out | apply below_alloc | apply pw_below_drewN | apply below_drew1 | refine below_set ?_ GE193.out) | exact HB.out)) hb); clear BK193; clear HB; have BK193 := n0_; have HB := n1_; clear n0_ n1_; (try clear hb); (try clear hb2); (try clear hk); (try clear hi)))
  go_ret2
  exact ⟨by first | rfl | (simp [errW_none, errW_some] <;> rfl) | (simp [*, errW_none, errW_some] <;> rfl), by repeat (first | (with_reducible first | exact HB.out | apply below_alloc | apply pw_below_drewN | apply below_drew1 | refine below_set ?_ GE193.out) | exact HB.out)⟩
 ·replace c3 := Bool.eq_false_iff.mpr c3
  subst c3
  have H1 : (some (0, 31)) = some (r1, r2) := by rw [if_neg (show ¬ (false = true) by decide)] at H; exact H
  clear H
  have H := H1
  clear H1
  simp only [Option.some.injEq, Prod.mk.injEq] at H
  obtain ⟨rfl, rfl⟩ := H
  go_enter Try.func26, Try.ntmps26
  go_wp2_with (first | ((with_reducible refine gate_dst (N := 1) rfl ?_); refine box_event ?hg (N := 1) ?hd (cs := #[.int .i64 a0_0, .int .i64 a0_1, .slice A0_2 l0_2.length c0_2]) (t := 43) ?hr ?_; (case hd => rfl); (case hg => rfl); (case hr => first | (go_simp; done) | (go_simp; rfl)); intro gb193 hg w10 hbox hb; have n0_ := pA (below_step (vB HB) hb); have n1_ := pA (hbox); have n2_ := pA ((by rw [hg]; exact (below_size (vB HB)) : w.heap.size ≤ gb193)); have n3_ := pA ((by rw [hg]; exact (below_size (vB HB)) : w.heap.size ≤ gb193)); clear HB; have HB := n0_; have BK193 := n1_; have GW193 := n2_; have GE193 := n3_; clear n0_ n1_ n2_ n3_; clear hb hbox hg; have hcz11_0 : w10.cell? ⟨gb193, 0, none⟩ = some (.int .i64 a0_0) := (blk_cell BK193.out 0).trans rfl; have hcz11_1 : w10.cell? ⟨gb193, 1, none⟩ = some (.int .i64 a0_1) := (blk_cell BK193.out 1).trans rfl; have hcz11_2 : w10.cell? ⟨gb193, 2, none⟩ = some (.slice A0_2 l0_2.length c0_2) := (blk_cell BK193.out 2).trans rfl; have hfz11_0 := blk_frozen BK193.out 0; have hfz11_1 := blk_frozen BK193.out 1; have hfz11_2 := blk_frozen BK193.out 2) | ((with_reducible refine aF (f := 80) rfl ?_); refine goesL_ (some 5) rfl rfl Try.func80 (by kernel_rfl) rfl #[.agg #[.int .i64 a0_0, .int .i64 a0_1, .slice A0_2 l0_2.length c0_2]] rfl (by (try simp only [pE, pF, pG]); first | done | rfl | (simp only [pH, pI]; rfl)) ?_; (with_reducible refine (bung_isBung.calls a0_0 a0_1 _ _ l0_2 false _ ?side1 ?side2 A2.out).mono ?_); (case side1 => repeat (first | exact (Kd.C_below HR0_2.out HB.out) | (with_reducible refine Kd.C_alloc ?_ _) | (with_reducible refine Kd.C_drewN ?_ _) | (with_reducible refine Kd.C_drew ?_))); (case side2 => exact HC0_2.out); rintro e w12 ⟨rfl, hb⟩; refine ⟨_, rfl, ?_⟩; have n0_ := pA (blk_below (g := gb193) (o := .cells #[.int .i64 a0_0, .int .i64 a0_1, .slice A0_2 l0_2.length c0_2] 43 (0, 0)) (vK BK193) hb); have n1_ := pA (below_step (by repeat (first | (with_reducible first | exact HB.out | apply below_alloc | apply pw_below_drewN | apply below_drew1 | refine below_set ?_ GE193.out) | exact HB.out)) hb); clear BK193; clear HB; have BK193 := n0_; have HB := n1_; clear n0_ n1_; (try clear hb); (try clear hb2); (try clear hk); (try clear hi)))
  go_ret2
  exact ⟨by first | rfl | (simp [errW_none, errW_some] <;> rfl) | (simp [*, errW_none, errW_some] <;> rfl), by repeat (first | (with_reducible first | exact HB.out | apply below_alloc | apply pw_below_drewN | apply below_drew1 | refine below_set ?_ GE193.out) | exact HB.out)⟩
def bung_Loads.f (a0_0 : Int) (a0_1 : Int) (l0_2 : List (S52)) : Option ((List (S23)) × Int) := (bung_isBung.f a0_0 a0_1 l0_2).bind fun t197 => (if t197 = true then ((bung_loads.f l0_2).bind fun t198 => (some (t198, 0))) else (some (([] : List (S23)), 31)))
set_option maxHeartbeats 8000000 in
set_option maxRecDepth 100000 in
theorem bung_Loads.calls (a0_0 : Int) (a0_1 : Int) (A0_2 : Option Addr) (c0_2 : Nat) (l0_2 : List (S52)) (r1 : List (S23)) (r2 : Int) (w : World) (hr0_2 : Kd.C k52 w A0_2 l0_2.length l0_2) (hc0_2 : l0_2.length ≤ c0_2) (h : bung_Loads.f a0_0 a0_1 l0_2 = some (r1, r2)) :
  Calls Try.prog 32 #[.agg #[.int .i64 a0_0, .int .i64 a0_1, .slice A0_2 l0_2.length c0_2]] w fun e w' => ∃ v0_ : Value, e = .returned (.tuple #[v0_, .int .i64 r2]) ∧ Kd.R k23 23 w' w.heap.size (fun _ => True) v0_ r1 ∧ Below w.heap.size w w' := by
 have hu43 := Try.underlying43
 have HR0_2 := pA hr0_2
 have HC0_2 := pA hc0_2
 clear hr0_2 hc0_2
 have HB := pA (Below.refl w.heap.size w)
 have H : ((bung_isBung.f a0_0 a0_1 l0_2).bind fun t197 => (if t197 = true then ((bung_loads.f l0_2).bind fun t198 => (some (t198, 0))) else (some (([] : List (S23)), 31)))) = some (r1, r2) := h
 clear h
 replace H := Option.bind_eq_some_iff.mp H
 obtain ⟨t197, A20, H⟩ := H
 replace H : (if t197 = true then ((bung_loads.f l0_2).bind fun t198 => (some (t198, 0))) else (some (([] : List (S23)), 31))) = some (r1, r2) := H
 have A2 := pA A20
 clear A20
 by_cases c3 : t197 = true
 ·subst c3
  have H1 : ((bung_loads.f l0_2).bind fun t198 => (some (t198, 0))) = some (r1, r2) := by rw [if_pos rfl] at H; exact H
  clear H
  have H := H1
  clear H1
  replace H := Option.bind_eq_some_iff.mp H
  obtain ⟨t198, A40, H⟩ := H
  replace H : (some (t198, 0)) = some (r1, r2) := H
  have A4 := pA A40
  clear A40
  simp only [Option.some.injEq, Prod.mk.injEq] at H
  obtain ⟨rfl, rfl⟩ := H
  go_enter Try.func32, Try.ntmps32
  go_wp2_with (first | ((with_reducible refine gate_dst (N := 1) rfl ?_); refine box_event ?hg (N := 1) ?hd (cs := #[.int .i64 a0_0, .int .i64 a0_1, .slice A0_2 l0_2.length c0_2]) (t := 43) ?hr ?_; (case hd => rfl); (case hg => rfl); (case hr => first | (go_simp; done) | (go_simp; rfl)); intro gb196 hg w5 hbox hb; have n0_ := pA (below_step (vB HB) hb); have n1_ := pA (hbox); have n2_ := pA ((by rw [hg]; exact (below_size (vB HB)) : w.heap.size ≤ gb196)); have n3_ := pA ((by rw [hg]; exact (below_size (vB HB)) : w.heap.size ≤ gb196)); clear HB; have HB := n0_; have BK196 := n1_; have GW196 := n2_; have GE196 := n3_; clear n0_ n1_ n2_ n3_; clear hb hbox hg; have hcz6_0 : w5.cell? ⟨gb196, 0, none⟩ = some (.int .i64 a0_0) := (blk_cell BK196.out 0).trans rfl; have hcz6_1 : w5.cell? ⟨gb196, 1, none⟩ = some (.int .i64 a0_1) := (blk_cell BK196.out 1).trans rfl; have hcz6_2 : w5.cell? ⟨gb196, 2, none⟩ = some (.slice A0_2 l0_2.length c0_2) := (blk_cell BK196.out 2).trans rfl; have hfz6_0 := blk_frozen BK196.out 0; have hfz6_1 := blk_frozen BK196.out 1; have hfz6_2 := blk_frozen BK196.out 2) | ((with_reducible refine aF (f := 80) rfl ?_); refine goesL_ (some 5) rfl rfl Try.func80 (by kernel_rfl) rfl #[.agg #[.int .i64 a0_0, .int .i64 a0_1, .slice A0_2 l0_2.length c0_2]] rfl (by (try simp only [pE, pF, pG]); first | done | rfl | (simp only [pH, pI]; rfl)) ?_; (with_reducible refine (bung_isBung.calls a0_0 a0_1 _ _ l0_2 true _ ?side1 ?side2 A2.out).mono ?_); (case side1 => repeat (first | exact (Kd.C_below HR0_2.out HB.out) | (with_reducible refine Kd.C_alloc ?_ _) | (with_reducible refine Kd.C_drewN ?_ _) | (with_reducible refine Kd.C_drew ?_))); (case side2 => exact HC0_2.out); rintro e w7 ⟨rfl, hb⟩; refine ⟨_, rfl, ?_⟩; have n0_ := pA (blk_below (g := gb196) (o := .cells #[.int .i64 a0_0, .int .i64 a0_1, .slice A0_2 l0_2.length c0_2] 43 (0, 0)) (vK BK196) hb); have n1_ := pA (below_step (by repeat (first | (with_reducible first | exact HB.out | apply below_alloc | apply pw_below_drewN | apply below_drew1 | refine below_set ?_ GE196.out) | exact HB.out)) hb); clear BK196; clear HB; have BK196 := n0_; have HB := n1_; clear n0_ n1_; (try clear hb); (try clear hb2); (try clear hk); (try clear hi); have hcz8_0 : w7.cell? ⟨gb196, 0, none⟩ = some (.int .i64 a0_0) := (blk_cell BK196.out 0).trans rfl; have hcz8_1 : w7.cell? ⟨gb196, 1, none⟩ = some (.int .i64 a0_1) := (blk_cell BK196.out 1).trans rfl; have hcz8_2 : w7.cell? ⟨gb196, 2, none⟩ = some (.slice A0_2 l0_2.length c0_2) := (blk_cell BK196.out 2).trans rfl; have hfz8_0 := blk_frozen BK196.out 0; have hfz8_1 := blk_frozen BK196.out 1; have hfz8_2 := blk_frozen BK196.out 2) | ((with_reducible refine aF (f := 88) rfl ?_); refine goesL_ (some 9) rfl rfl Try.func88 (by kernel_rfl) rfl #[.slice A0_2 l0_2.length c0_2] rfl (by (try simp only [pE, pF, pG]); first | done | rfl | (simp only [pH, pI]; rfl)) ?_; (with_reducible refine (bung_loads.calls _ _ l0_2 t198 _ ?side1 ?side2 A4.out).mono ?_); (case side1 => repeat (first | exact (Kd.C_below HR0_2.out HB.out) | (with_reducible refine Kd.C_alloc ?_ _) | (with_reducible refine Kd.C_drewN ?_ _) | (with_reducible refine Kd.C_drew ?_))); (case side2 => exact HC0_2.out); rintro e w9 ⟨v199, rfl, ho0, hb⟩; refine ⟨_, rfl, ?_⟩; have n0_ := pA (Kd.R_lower ho0 (below_size (by repeat (first | (with_reducible first | exact HB.out | apply below_alloc | apply pw_below_drewN | apply below_drew1 | refine below_set ?_ GE196.out) | exact HB.out)))); have n1_ := pA (blk_below (g := gb196) (o := .cells #[.int .i64 a0_0, .int .i64 a0_1, .slice A0_2 l0_2.length c0_2] 43 (0, 0)) (vK BK196) hb); have n2_ := pA (below_step (by repeat (first | (with_reducible first | exact HB.out | apply below_alloc | apply pw_below_drewN | apply below_drew1 | refine below_set ?_ GE196.out) | exact HB.out)) hb); clear BK196; clear HB; have HO200 := n0_; have BK196 := n1_; have HB := n2_; clear n0_ n1_ n2_; (try clear hb); (try clear hb2); (try clear hk); (try clear hi); (try clear ho0)))
  go_ret2
  exact ⟨_, by first | rfl | (simp [errW_none, errW_some] <;> rfl) | (simp [*, errW_none, errW_some] <;> rfl), by (with_reducible repeat (first | apply Kd.R_alloc | apply Kd.R_drewN | apply Kd.R_drew)); exact HO200.out, by repeat (first | (with_reducible first | exact HB.out | apply below_alloc | apply pw_below_drewN | apply below_drew1 | refine below_set ?_ GE196.out) | exact HB.out)⟩
 ·replace c3 := Bool.eq_false_iff.mpr c3
  subst c3
  have H1 : (some (([] : List (S23)), 31)) = some (r1, r2) := by rw [if_neg (show ¬ (false = true) by decide)] at H; exact H
  clear H
  have H := H1
  clear H1
  simp only [Option.some.injEq, Prod.mk.injEq] at H
  obtain ⟨rfl, rfl⟩ := H
  go_enter Try.func32, Try.ntmps32
  go_wp2_with (first | ((with_reducible refine gate_dst (N := 1) rfl ?_); refine box_event ?hg (N := 1) ?hd (cs := #[.int .i64 a0_0, .int .i64 a0_1, .slice A0_2 l0_2.length c0_2]) (t := 43) ?hr ?_; (case hd => rfl); (case hg => rfl); (case hr => first | (go_simp; done) | (go_simp; rfl)); intro gb196 hg w10 hbox hb; have n0_ := pA (below_step (vB HB) hb); have n1_ := pA (hbox); have n2_ := pA ((by rw [hg]; exact (below_size (vB HB)) : w.heap.size ≤ gb196)); have n3_ := pA ((by rw [hg]; exact (below_size (vB HB)) : w.heap.size ≤ gb196)); clear HB; have HB := n0_; have BK196 := n1_; have GW196 := n2_; have GE196 := n3_; clear n0_ n1_ n2_ n3_; clear hb hbox hg; have hcz11_0 : w10.cell? ⟨gb196, 0, none⟩ = some (.int .i64 a0_0) := (blk_cell BK196.out 0).trans rfl; have hcz11_1 : w10.cell? ⟨gb196, 1, none⟩ = some (.int .i64 a0_1) := (blk_cell BK196.out 1).trans rfl; have hcz11_2 : w10.cell? ⟨gb196, 2, none⟩ = some (.slice A0_2 l0_2.length c0_2) := (blk_cell BK196.out 2).trans rfl; have hfz11_0 := blk_frozen BK196.out 0; have hfz11_1 := blk_frozen BK196.out 1; have hfz11_2 := blk_frozen BK196.out 2) | ((with_reducible refine aF (f := 80) rfl ?_); refine goesL_ (some 5) rfl rfl Try.func80 (by kernel_rfl) rfl #[.agg #[.int .i64 a0_0, .int .i64 a0_1, .slice A0_2 l0_2.length c0_2]] rfl (by (try simp only [pE, pF, pG]); first | done | rfl | (simp only [pH, pI]; rfl)) ?_; (with_reducible refine (bung_isBung.calls a0_0 a0_1 _ _ l0_2 false _ ?side1 ?side2 A2.out).mono ?_); (case side1 => repeat (first | exact (Kd.C_below HR0_2.out HB.out) | (with_reducible refine Kd.C_alloc ?_ _) | (with_reducible refine Kd.C_drewN ?_ _) | (with_reducible refine Kd.C_drew ?_))); (case side2 => exact HC0_2.out); rintro e w12 ⟨rfl, hb⟩; refine ⟨_, rfl, ?_⟩; have n0_ := pA (blk_below (g := gb196) (o := .cells #[.int .i64 a0_0, .int .i64 a0_1, .slice A0_2 l0_2.length c0_2] 43 (0, 0)) (vK BK196) hb); have n1_ := pA (below_step (by repeat (first | (with_reducible first | exact HB.out | apply below_alloc | apply pw_below_drewN | apply below_drew1 | refine below_set ?_ GE196.out) | exact HB.out)) hb); clear BK196; clear HB; have BK196 := n0_; have HB := n1_; clear n0_ n1_; (try clear hb); (try clear hb2); (try clear hk); (try clear hi)))
  go_ret2
  exact ⟨_, by first | rfl | (simp [errW_none, errW_some] <;> rfl) | (simp [*, errW_none, errW_some] <;> rfl), by first | exact Kd.R_nil _ _ _ _ _ | exact Kd.N_nil _ _ _ _ _ | exact Kd.V_nil _ _ _ _ _ | exact Kd.Q_nil _ _ _ _ _ | exact Kd.S_nil _ _ _ _ _, by repeat (first | (with_reducible first | exact HB.out | apply below_alloc | apply pw_below_drewN | apply below_drew1 | refine below_set ?_ GE196.out) | exact HB.out)⟩
theorem eqA23 (d : Nat) (w : World) (x0 y0 : Int) (x1 y1 : Int) :
  (Op.equalIn (d + 2) 23 (.agg #[.int .i64 x0, .int .i64 x1]) (.agg #[.int .i64 y0, .int .i64 y1])).run Try.prog w = .ok (x0 == y0 && (x1 == y1)) w := by
 refine eqA_of Try.underlying23 (by kernel_rfl) ?_
 refine eqf_cons (by rfl) (by go_simp; rfl) (by go_simp; rfl) (by go_simp) ?_
 exact eqf_last (by rfl) (by go_simp; rfl) (by go_simp; rfl) (by go_simp)
end Go.Proofs.Ytbiakjgjedhjhaa.P
namespace Go.Proofs.Ytbiakjgjedhjhaa.P
open Go.RowKit Go.Proofs.YtbiakjgjedhjhaaW.PrintWords Go.Proofs.YtbiakjgjedhjhaaW.PrintLast
attribute [local go_sem high] eqA23
def potbankref03_SameRanges.l0 : Nat → List (S23) → List (S23) → Bool → Int → Option (Bool)
  | 0, _, _, _, _ => none
  | k + 1, x0, x1, x5, x6 => if x6 < (x0.length : Int) then (if x5 = true then (if 0 ≤ x6 then (if x6 < (x1.length : Int) then (potbankref03_SameRanges.l0 k x0 x1 (((rd_T23 x0 x6).f0) == ((rd_T23 x1 x6).f0) && (((rd_T23 x0 x6).f1) == ((rd_T23 x1 x6).f1))) (wrap64 (x6 + 1))) else (none)) else (none)) else (some x5)) else (some x5)
def potbankref03_SameRanges.f (k : Nat) (l0 : List (S23)) (l1 : List (S23)) : Option (Bool) := potbankref03_SameRanges.l0 k l0 l1 ((l0.length : Int) == (l1.length : Int)) 0
theorem potbankref03_SameRanges.mono_l : ∀ k, (∀ y0 y1 y2 y3, LeO (potbankref03_SameRanges.l0 k y0 y1 y2 y3) (potbankref03_SameRanges.l0 (k + 1) y0 y1 y2 y3))
 | 0 => fun _ _ _ _ r h => by simp [potbankref03_SameRanges.l0] at h
 | k + 1 => by
  have ih0 := potbankref03_SameRanges.mono_l k
  ·intro y0 y1 y2 y3
   unfold potbankref03_SameRanges.l0
   repeat' first
   | (with_reducible exact ih0 _ _ _ _)
   | (with_reducible exact LeO.refl _)
   | (with_reducible exact LeO.none _)
   | (with_reducible refine LeO.ite ?_ ?_)
   | (with_reducible refine LeO.bind ?_ (fun _ => ?_))
   | exact ih0 _ _ _ _
   | exact LeO.none _
   | refine LeO.ite ?_ ?_
   | refine LeO.bind ?_ (fun _ => ?_)
theorem potbankref03_SameRanges.mono : ∀ a0 a1 k, LeO (potbankref03_SameRanges.f k a0 a1) (potbankref03_SameRanges.f (k + 1) a0 a1) := by
 intro a0 a1 k
 have ih0 := potbankref03_SameRanges.mono_l k
 unfold potbankref03_SameRanges.f
 repeat' first
   | (with_reducible exact ih0 _ _ _ _)
   | (with_reducible exact LeO.refl _)
   | (with_reducible exact LeO.none _)
   | (with_reducible refine LeO.ite ?_ ?_)
   | (with_reducible refine LeO.bind ?_ (fun _ => ?_))
   | exact ih0 _ _ _ _
   | exact LeO.none _
   | refine LeO.ite ?_ ?_
   | refine LeO.bind ?_ (fun _ => ?_)
set_option maxHeartbeats 8000000 in
set_option maxRecDepth 100000 in
theorem potbankref03_SameRanges.calls (k : Nat) (A0 : Option Addr) (c0 : Nat) (l0 : List (S23)) (A1 : Option Addr) (c1 : Nat) (l1 : List (S23)) (r : Bool) (w : World) (hr0 : Kd.C k23 w A0 l0.length l0) (hc0 : l0.length ≤ c0) (hr1 : Kd.C k23 w A1 l1.length l1) (hc1 : l1.length ≤ c1) (h : potbankref03_SameRanges.f k l0 l1 = some r) :
  Calls Try.prog 39 #[.slice A0 l0.length c0, .slice A1 l1.length c1] w fun e w' => e = .returned (.bool r) ∧ Drawn0 w w' := by
 have hu23 := Try.underlying23
 have HR0 := pA hr0
 have HC0 := pA hc0
 clear hr0 hc0
 have HR1 := pA hr1
 have HC1 := pA hc1
 clear hr1 hc1
 have H : (potbankref03_SameRanges.l0 k l0 l1 ((l0.length : Int) == (l1.length : Int)) 0) = some r := h
 clear h
 have H' := pA H
 clear H
 go_enter Try.func39, Try.ntmps39
 go_wp2
 repeat (go_quiet (fail); try go_wp2)
 go_loopg [5, 6] k (fun kq v5 v6 w' => ∃ (x5_1 : Bool) (x6_1 : Int), v5 = .bool x5_1 ∧ v6 = .int .i64 x6_1 ∧ Aside0 (potbankref03_SameRanges.l0 kq l0 l1 x5_1 x6_1 = some r) ∧ Aside0 (kq ≤ k) ∧ Drawn0 w w')
 case atStart => exact ⟨(((l0.length : Int) == (l1.length : Int))), (0), (by first | rfl | (simp; done) | (simp [*]; done)), (by first | rfl | (simp; done) | (simp [*]; done)), H', ⟨Nat.le_refl _⟩, by repeat (first | exact Drawn0.refl _ | apply Drawn0.step)⟩
 case round =>
  clear H'
  try clear c1
  try clear p2
  obtain ⟨x5_1, x6_1, rfl, rfl, HA, HK1, ⟨m1, rfl⟩⟩ := hrel
  cases gk with
  | zero => exact absurd HA.out (by simp [potbankref03_SameRanges.l0])
  | succ k1 =>
   have H := HA.out
   clear HA
   simp only [potbankref03_SameRanges.l0] at H
   by_cases c3 : x6_1 < (l0.length : Int)
   ·rw [if_pos c3] at H
    have c3b0 : decide (x6_1 < (l0.length : Int)) = true := decide_eq_true c3
    clear c3
    by_cases c4 : x5_1 = true
    ·subst c4
     have H1 : (if 0 ≤ x6_1 then (if x6_1 < (l1.length : Int) then (potbankref03_SameRanges.l0 k1 l0 l1 (((rd_T23 l0 x6_1).f0) == ((rd_T23 l1 x6_1).f0) && (((rd_T23 l0 x6_1).f1) == ((rd_T23 l1 x6_1).f1))) (wrap64 (x6_1 + 1))) else (none)) else (none)) = some r := by rw [if_pos rfl] at H; exact H
     clear H
     have H := H1
     clear H1
     by_cases c5 : 0 ≤ x6_1
     ·rw [if_pos c5] at H
      have c5b0 : decide (0 ≤ x6_1) = true := decide_eq_true c5
      clear c5
      by_cases c6 : x6_1 < (l1.length : Int)
      ·rw [if_pos c6] at H
       have c6b0 : decide (x6_1 < (l1.length : Int)) = true := decide_eq_true c6
       clear c6
       have H' := pA H
       clear H
       have p201 : 0 ≤ (x6_1 : Int) := of_decide_eq_true (by first | (with_reducible assumption) | assumption)
       have q201 : x6_1 < (l0.length : Int) := of_decide_eq_true (by first | (with_reducible assumption) | assumption)
       obtain ⟨ad201, e201, hx201_0, hx201_1⟩ := at_T23 HR0.out x6_1 p201 q201
       cases e201
       replace p201 := eq_true p201
       replace q201 := eq_true q201
       have p202 : 0 ≤ (x6_1 : Int) := of_decide_eq_true (by first | (with_reducible assumption) | assumption)
       have q202 : x6_1 < (l1.length : Int) := of_decide_eq_true (by first | (with_reducible assumption) | assumption)
       obtain ⟨ad202, e202, hx202_0, hx202_1⟩ := at_T23 HR1.out x6_1 p202 q202
       cases e202
       replace p202 := eq_true p202
       replace q202 := eq_true q202
       go_wp2
       repeat (go_quiet (fail); try go_wp2)
       go_roundg k1
       case measure => have := HK1.out; omega
       case rel => exact ⟨((((rd_T23 l0 x6_1).f0) == ((rd_T23 l1 x6_1).f0) && (((rd_T23 l0 x6_1).f1) == ((rd_T23 l1 x6_1).f1)))), (wrap64 (x6_1 + 1)), (by first | rfl | (simp; done) | (simp [*]; done)), (by first | rfl | (simp; done) | (simp [*]; done)), H', ⟨by have := HK1.out; omega⟩, by repeat (first | exact Drawn0.refl _ | apply Drawn0.step)⟩
      ·rw [if_neg c6] at H
       exact absurd H (by simp)
     ·rw [if_neg c5] at H
      exact absurd H (by simp)
    ·replace c4 := Bool.eq_false_iff.mpr c4
     subst c4
     have H1 : (some false) = some r := by rw [if_neg (show ¬ (false = true) by decide)] at H; exact H
     clear H
     have H := H1
     clear H1
     obtain rfl := Option.some.inj H
     go_wp2
     repeat (go_quiet (fail); try go_wp2)
     go_ret
     exact ⟨by first | rfl | (simp; done) | (simp [*]; done), by repeat (first | exact Drawn0.refl _ | apply Drawn0.step)⟩
   ·rw [if_neg c3] at H
    have c3b0 : decide (x6_1 < (l0.length : Int)) = false := decide_eq_false c3
    clear c3
    obtain rfl := Option.some.inj H
    go_wp2
    repeat (go_quiet (fail); try go_wp2)
    go_ret
    exact ⟨by first | rfl | (simp; done) | (simp [*]; done), by repeat (first | exact Drawn0.refl _ | apply Drawn0.step)⟩
end Go.Proofs.Ytbiakjgjedhjhaa.P
namespace Go.Proofs.Ytbiakjgjedhjhaa.P
open Go.RowKit Go.Proofs.YtbiakjgjedhjhaaW.PrintWords Go.Proofs.YtbiakjgjedhjhaaW.PrintLast
mutual
def bung_Breaks.l0 : Nat → List Int → Int → Int → Int → Int → List (S52) → Option (Int × Int × List Int × Int)
 | 0, _, _, _, _, _, _ => none
 | k + 1, x15, x16, x17, x204000, x204001, x204002 => if x17 < x16 then (if 0 ≤ x17 then (if x17 < (x15.length : Int) then (if (rd x15 x17) = 1 then (bung_Breaks.l0 k x15 x16 (wrap64 (x17 + 1)) x204000 x204001 x204002) else (if x17 < (x204002.length : Int) then (if 0 ≤ (wrap64 (x17 + 1)) then (if (wrap64 (x17 + 1)) ≤ (x204002.length : Int) then ((some (x204002.drop ((wrap64 (x17 + 1)) : Int).toNat : List (S52))).bind fun y212 => (bung_Breaks.l1 k y212 (y212.length : Int) 0 x17 ((rd_T52 x204002 x17).f2.f0) ([] : List Int))) else (none)) else (none)) else (none))) else (none)) else (none)) else (some (0, 0, ([] : List Int), 34))
def bung_Breaks.l1 : Nat → List (S52) → Int → Int → Int → Int → List Int → Option (Int × Int × List Int × Int)
 | 0, _, _, _, _, _, _ => none
 | k + 1, x37, x38, x39, x212000, x212001, x212002 => if x39 < x38 then (if 0 ≤ x39 then (if x39 < (x37.length : Int) then (if x212002.length < 17592186044416 then (bung_Breaks.l1 k x37 x38 (wrap64 (x39 + 1)) x212000 x212001 (x212002 ++ [(rd_T52 x37 x39).f1.f1])) else (none)) else (none)) else (none)) else (some (x212000, x212001, x212002, 0))
end
def bung_Breaks.f (k : Nat) (a0_0 : Int) (a0_1 : Int) (l0_2 : List (S52)) : Option (Int × Int × List Int × Int) := (bung_isBung.f a0_0 a0_1 l0_2).bind fun t205 => (if t205 = true then ((bung_courses.f k l0_2).bind fun t206 => (bung_Breaks.l0 k t206 (t206.length : Int) 0 a0_0 a0_1 l0_2)) else (some (0, 0, ([] : List Int), 31)))
theorem bung_Breaks.mono_l : ∀ k, (∀ y0 y1 y2 y3 y4 y5, LeO (bung_Breaks.l0 k y0 y1 y2 y3 y4 y5) (bung_Breaks.l0 (k + 1) y0 y1 y2 y3 y4 y5)) ∧ (∀ y0 y1 y2 y3 y4 y5, LeO (bung_Breaks.l1 k y0 y1 y2 y3 y4 y5) (bung_Breaks.l1 (k + 1) y0 y1 y2 y3 y4 y5))
 | 0 => ⟨fun _ _ _ _ _ _ r h => by simp [bung_Breaks.l0] at h, fun _ _ _ _ _ _ r h => by simp [bung_Breaks.l1] at h⟩
 | k + 1 => by
  obtain ⟨ih0, ih1⟩ := bung_Breaks.mono_l k
  refine ⟨?_, ?_⟩
  ·intro y0 y1 y2 y3 y4 y5
   unfold bung_Breaks.l0
   repeat' first
   | (with_reducible exact ih0 _ _ _ _ _ _)
   | (with_reducible exact ih1 _ _ _ _ _ _)
   | (with_reducible exact bung_courses.mono _ _)
   | (with_reducible exact LeO.refl _)
   | (with_reducible exact LeO.none _)
   | (with_reducible refine LeO.ite ?_ ?_)
   | (with_reducible refine LeO.bind ?_ (fun _ => ?_))
   | exact ih0 _ _ _ _ _ _
   | exact ih1 _ _ _ _ _ _
   | exact bung_courses.mono _ _
   | exact LeO.none _
   | refine LeO.ite ?_ ?_
   | refine LeO.bind ?_ (fun _ => ?_)
  ·intro y0 y1 y2 y3 y4 y5
   unfold bung_Breaks.l1
   repeat' first
   | (with_reducible exact ih0 _ _ _ _ _ _)
   | (with_reducible exact ih1 _ _ _ _ _ _)
   | (with_reducible exact bung_courses.mono _ _)
   | (with_reducible exact LeO.refl _)
   | (with_reducible exact LeO.none _)
   | (with_reducible refine LeO.ite ?_ ?_)
   | (with_reducible refine LeO.bind ?_ (fun _ => ?_))
   | exact ih0 _ _ _ _ _ _
   | exact ih1 _ _ _ _ _ _
   | exact bung_courses.mono _ _
   | exact LeO.none _
   | refine LeO.ite ?_ ?_
   | refine LeO.bind ?_ (fun _ => ?_)
theorem bung_Breaks.mono : ∀ a0 a1 a2 k, LeO (bung_Breaks.f k a0 a1 a2) (bung_Breaks.f (k + 1) a0 a1 a2) := by
 intro a0 a1 a2 k
 obtain ⟨ih0, ih1⟩ := bung_Breaks.mono_l k
 unfold bung_Breaks.f
 repeat' first
   | (with_reducible exact ih0 _ _ _ _ _ _)
   | (with_reducible exact ih1 _ _ _ _ _ _)
   | (with_reducible exact bung_courses.mono _ _)
   | (with_reducible exact LeO.refl _)
   | (with_reducible exact LeO.none _)
   | (with_reducible refine LeO.ite ?_ ?_)
   | (with_reducible refine LeO.bind ?_ (fun _ => ?_))
   | exact ih0 _ _ _ _ _ _
   | exact ih1 _ _ _ _ _ _
   | exact bung_courses.mono _ _
   | exact LeO.none _
   | refine LeO.ite ?_ ?_
   | refine LeO.bind ?_ (fun _ => ?_)
end Go.Proofs.Ytbiakjgjedhjhaa.P
