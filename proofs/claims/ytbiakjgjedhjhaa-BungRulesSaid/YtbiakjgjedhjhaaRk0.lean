/- Proved: the law BungRules of the program potbank answers true for every input, and leaves its arguments as they were. Conditions: none. (Part 0 of the texts, put together by wip/assemble.py of this repository.) -/
import Derived.Test.YtbiakjgjedhjhaaProg
import Derived.Test.YtbiakjgjedhjhaaRows
import Derived.Test.YtbiakjgjedhjhaaWWords
import Derived.Test.YtbiakjgjedhjhaaWLast
import Derived.Test.YtbiakjgjedhjhaaWTab
import Derived.Test.YtbiakjgjedhjhaaWEqStruct
import Derived.Test.YtbiakjgjedhjhaaWRepsOne
import Derived.Test.YtbiakjgjedhjhaaWGuard
import Derived.Test.YtbiakjgjedhjhaaChecked
import GoSem.Claim
import GoSem.ClaimJoined
import GoSem.ClaimMapViews
import Derived.JoinedTies
import Derived.KernelRfl
import Derived.Deep.Slices
import Derived.WideShapes
import Derived.OpenShut
import Derived.SizedLaws
import Derived.Below
import Derived.Deep.Draws
import Derived.Deep.AppendLies
import Derived.Maps.AppendAt
import Derived.OwnWalk
import Derived.Laws.BytesArg
import Derived.Laws.MakeOwn
import Derived.Laws.OwnMore
import Derived.Deep.OwnRows
import Derived.Tactics
import Derived.Lib.ConvBytes
import Derived.Laws.Slices
import Derived.WalkKit
import Derived.RowKit3
import Derived.Deep.LoopGhost
import Derived.Deep.QuietTactic
import Derived.BigQuiet
import Derived.WideLaws
import Derived.Deep.DeepCutAuto
import Derived.Deep.CutBlock
import Derived.Deep.RegionHeld3
import Derived.Laws.Rows
import Derived.Lib.AppendStr
import Derived.ArgAppend
import Derived.Laws.IdiomCopy
import Derived.OrdersHeld
import Derived.Laws.BitsLemmas
import Derived.RowKit
import Derived.Maps.OwnOps
import Derived.Maps.OwnSet
import Derived.Maps.Views
import Derived.RangeFuncWrites
import Derived.RangeFuncCalls
import Derived.RangeFuncLeaves
import Derived.RangeFuncNested
import Derived.RangeFuncBound
import Derived.OwnWalkIn
import Derived.TacticsInMore
import Derived.LoopNIn
import Derived.LoopIn
import Derived.StillTailTactics
import Derived.Shelf.Abstract
import Derived.WalkSpells
import Derived.Shelf.GgSortFunc.Insertion
import Derived.Shelf.SlSortCmp.NoneTotal
import Derived.Ground.SlsfProg
import Derived.Laws.EntriesVeiled
import Derived.ProofKit
import Derived.ShutString
import Derived.ChangeOld
import Derived.Carry
import Derived.ChangeSlices
set_option linter.unusedVariables false
set_option linter.unusedSimpArgs false
namespace Go.Proofs.Ytbiakjgjedhjhaa.P
open Go.RowKit Go.Proofs.YtbiakjgjedhjhaaW.PrintWords
/-- A world with blocks added and orders drawn. -/
class Ext (w w2 : World) : Prop where
 b : Below w.heap.size w w2
instance extR (w : World) : Ext w w := ⟨Below.refl _ _⟩
instance extA (w w2 : World) (o : Obj) [e : Ext w w2] : Ext w (w2.alloc o) := ⟨below_alloc e.b o⟩
instance extN (w w2 : World) (n : Nat) [e : Ext w w2] : Ext w (w2.drewN n) := ⟨pw_below_drewN e.b n⟩
instance extD (w w2 : World) [e : Ext w w2] : Ext w w2.drew := ⟨below_drew e.b⟩
theorem vK {w w2 : World} {g : Nat} {o : Obj} (h : Aside0 (w.heap[g]? = some o)) [e : Ext w w2] : w2.heap[g]? = some o := blk_below h.out e.b
theorem vB {w0 w w2 : World} (h : Aside0 (Below w0.heap.size w0 w)) [e : Ext w w2] : Below w0.heap.size w0 w2 := below_step h.out e.b
theorem vC {w w2 : World} {p : Addr} {v : Value} (h : Aside0 (Below w.heap.size w w2)) (hc : w.cell? p = some v) : w2.cell? p = some v := (h.out.cell (World.block_lt_of_cell? w _ hc)).trans hc
class Hld (w w2 : World) : Prop where
 s : ∀ {p : Addr} {v : Value}, w.cell? p = some v → w2.cell? p = some v
instance hlN (w w2 : World) (n : Nat) [i : Hld w w2] : Hld w (w2.drewN n) := ⟨fun h => i.s h⟩
instance hlD (w w2 : World) [i : Hld w w2] : Hld w w2.drew := ⟨fun h => i.s h⟩
instance hlL (w w2 : World) [i : Hld w w2] : Hld w.drew w2 := ⟨fun h => i.s h⟩
instance hlE (w w2 : World) [e : Ext w w2] : Hld w w2 := ⟨fun h => (e.b.cell (World.block_lt_of_cell? w _ h)).trans h⟩
theorem vD {w w1 w2 : World} {p : Addr} {v : Value} (h : Aside0 (Below w.heap.size w w1)) (hc : w.cell? p = some v) [e : Hld w1 w2] : w2.cell? p = some v := e.s ((h.out.cell (World.block_lt_of_cell? w _ hc)).trans hc)
theorem vR {α : Type} {d : Kd α} {e : Nat} {w w2 : World} {base : Nat} {ok : Nat → Prop} {v : Value} {xs : List α} (h : Aside0 (Kd.R d e w base ok v xs)) [x : Ext w w2] : Kd.R d e w2 base ok v xs := Kd.R_below h.out x.b
class Stp (w : outParam World) (w2 : World) : Prop where
 s : ∀ {g : Nat} {o : Obj}, w.heap[g]? = some o → w2.heap[g]? = some o
instance stA (w : World) (x : Obj) : Stp w (w.alloc x) := ⟨fun h => blk_alloc h x⟩
instance stN (w : World) (n : Nat) : Stp w (w.drewN n) := ⟨fun h => blk_drewN h n⟩
instance stD (w : World) : Stp w w.drew := ⟨fun h => blk_drew h⟩
theorem vS {w w2 : World} {g : Nat} {o : Obj} [i : Stp w w2] (h : w.heap[g]? = some o) : w2.heap[g]? = some o := i.s h
theorem pE {α β : Type} {f : α → β} {l : List α} : l.toArray.map f = (l.map f).toArray := List.map_toArray ..
theorem pF {α β : Type} {f : α → β} {a : α} {l : List α} : (a :: l).map f = f a :: l.map f := rfl
theorem pG {α β : Type} {f : α → β} : ([] : List α).map f = [] := rfl
theorem pH {α : Type} {n : Nat} {l : List α} : (l.drop n).length = l.length - n := List.length_drop
theorem pI {α : Type} {n : Nat} {l : List α} : (l.take n).length = min n l.length := List.length_take
theorem pA {p : Prop} (h : p) : Aside0 p := ⟨h⟩
theorem aF {P : Program} {ops : Array Oper} {rest : List Oper} {o : Oper} {a : Act} {Q : Exit → Act → World → Prop} {W : World} {f : FuncId} {x : Array Operand} {y : Array TypeId} (_ : o.op = .call { callee := .value (.func f), args := x, argTypes := y }) (h : wpList P ops Q (o :: rest) a W) : wpList P ops Q (o :: rest) a W := h
theorem aG {P : Program} {ops : Array Oper} {rest : List Oper} {o : Oper} {a : Act} {Q : Exit → Act → World → Prop} {W : World} {b : Builtin} {xs : Array Operand} {y : Array TypeId} (_ : o.op = .call { callee := .builtin b, args := xs, argTypes := y }) (h : wpList P ops Q (o :: rest) a W) : wpList P ops Q (o :: rest) a W := h
theorem pB {α : Type} {l : List α} {i : Nat} {a : α} : l.toArray.setIfInBounds i a = (l.set i a).toArray := List.setIfInBounds_toArray ..
theorem pC {α : Type} {a b : α} {l : List α} : (a :: l).set 0 b = b :: l := rfl
theorem pD {α : Type} {a b : α} {l : List α} {n : Nat} : (a :: l).set (n + 1) b = a :: l.set n b := rfl
end Go.Proofs.Ytbiakjgjedhjhaa.P
namespace Go.Proofs.Ytbiakjgjedhjhaa.P
open Go Go.RowKit Go.WideShapes Go.Deep Go.Proofs.YtbiakjgjedhjhaaW.PrintWords
/-- Whatever data are read at a type: the cells are a value of the kind, of which ok tells more. -/
def Opens {α : Type} (P : Program) (d : Kd α) (t : TypeId) (ok : α → Prop) : Prop :=
 ∀ (H : Type) (enc : TypeId × Value → H) (w : World) (base : Nat) (sp : Nat → Bool) (held : Bool) (fuel : Nat) (cs : List Value) (x : DataW H × List MemPlace),
  DataW.trod enc P w base sp held fuel t cs = some x → ∃ v, d.K w v cs ∧ ok v
section
variable {P : Program} {t e : TypeId}
theorem opens_int {k : IntKind} (ht : P.underlying t = some (.int k)) : Opens P (Kd.int k) t (fun n => (Lit.int k n).wf = true) := by
 intro H enc w base sp held fuel cs x h
 obtain ⟨n, rfl, _, hw⟩ := DataW.trod_int ht h
 exact ⟨n, rfl, hw⟩
theorem opens_slice {α : Type} {d : Kd α} {ok : α → Prop} (ht : P.underlying t = some (.slice e)) (hc : P.cellsOf e = d.sz) (he : Opens P d e ok) :
  Opens P (Kd.slice e d) t (fun xs => xs.length ≤ 9223372036854775807 ∧ ∀ x ∈ xs, ok x) := by
 intro H enc w base sp held fuel cs x h
 rcases open_slice ht h with ⟨rfl, _⟩ | ⟨a, len, cap, m, n, D, Pl, rfl, hb, hl, hm, hmm, _, hx⟩
 ·exact ⟨[], ⟨none, 0, rfl, Nat.le_refl _, rfl, by simp, fun h => absurd h (by simp)⟩, by simp, by simp⟩
 ·have hlm : len ≤ m := by rw [hmm]; split <;> omega
  have hall : ∀ i, i < len → ∃ v : Option α, ∃ v0, v = some v0 ∧ (∃ c, c.length = d.sz ∧ d.K w v0 c ∧ ∀ j u, c[j]? = some u → w.cell? (a.add (i * d.sz + j)) = some u) ∧ ok v0 := by
   intro i hi
   obtain ⟨cs', h1, h2⟩ := hx i (by omega)
   obtain ⟨v, hv, ho⟩ := he _ _ _ _ _ _ _ _ _ h2
   refine ⟨some v, v, rfl, ⟨cs', d.K_len hv, hv, ?_⟩, ho⟩
   intro j u hj
   obtain ⟨_, hlen, hcell⟩ := World.cells?_some h1
   have hj2 := (List.getElem?_eq_some_iff.1 hj).1
   have := hcell j (by omega)
   rw [Addr.add_add, hj, hc] at this
   exact this
  obtain ⟨V, hV⟩ := choose_lt hall
  have hV2 : ∀ i, i < len → ∃ v0, V i = some v0 ∧ (∃ c, c.length = d.sz ∧ d.K w v0 c ∧ ∀ j u, c[j]? = some u → w.cell? (a.add (i * d.sz + j)) = some u) ∧ ok v0 := hV
  have hlist : ∃ xs : List α, xs.length = len ∧ ∀ i, i < len → (xs[i]? : Option α) = V i := by
   have : ∀ n, n ≤ len → ∃ xs : List α, xs.length = n ∧ ∀ i, i < n → (xs[i]? : Option α) = V i := by
    intro n
    induction n with
    | zero => exact fun _ => ⟨[], rfl, fun i hi => absurd hi (Nat.not_lt_zero i)⟩
    | succ n ih =>
     intro hn
     obtain ⟨xs, h1, h2⟩ := ih (by omega)
     obtain ⟨v0, hv, _⟩ := hV2 n (by omega)
     refine ⟨xs ++ [v0], by simp [h1], fun i hi => ?_⟩
     by_cases e : i < n
     ·rw [List.getElem?_append_left (by omega)]
      exact h2 i e
     ·obtain rfl : i = n := by omega
      rw [List.getElem?_append_right (by omega), h1, hv]
      simp
   exact this len (Nat.le_refl _)
  obtain ⟨xs, hxl, hxs⟩ := hlist
  refine ⟨xs, ⟨some a, cap, by rw [hxl], by omega, rfl, by unfold maxLen at hm; omega, fun _ => ⟨a, rfl, ?_⟩⟩, by unfold maxLen at hm; omega, ?_⟩
  ·intro j p hj
   have hjl := (List.getElem?_eq_some_iff.1 hj).1
   obtain ⟨v0, hv, hc0, _⟩ := hV2 j (by omega)
   have := hxs j (by omega)
   rw [hv, hj] at this
   rw [Option.some.inj this]
   exact hc0
  ·intro p hp
   obtain ⟨j, hj, hjp⟩ := List.getElem_of_mem hp
   obtain ⟨v0, hv, _, ho⟩ := hV2 j (by omega)
   have := hxs j (by omega)
   rw [hv, List.getElem?_eq_getElem hj] at this
   rw [← hjp, Option.some.inj this]
   exact ho
/-- Fields from a place on. -/
def OpensFs {α : Type} (P : Program) (d : Kd α) (fs : List Field) (o : Nat) (ok : α → Prop) : Prop :=
 ∀ (H : Type) (enc : TypeId × Value → H) (w : World) (base : Nat) (sp : Nat → Bool) (held : Bool) (n : Nat) (cs : List Value) (xs : List (DataW H × List MemPlace)),
  cs.length = o + d.sz → xs.length = fs.length → (∀ (i : Nat) (f : Field), fs[i]? = some f → DataW.trod enc P w base sp held n f.type ((cs.drop f.offset).take (P.cellsOf f.type)) = xs[i]?) → ∃ v, d.K w v (cs.drop o) ∧ ok v
theorem opens_one {α : Type} {d : Kd α} {f : Field} {o : Nat} {ok : α → Prop} (hf : f.offset = o) (hc : P.cellsOf f.type = d.sz) (h : Opens P d f.type ok) : OpensFs P d [f] o ok := by
 intro H enc w base sp held n cs xs hl hx hall
 match xs, hx with
 | [y], _ =>
  have := hall 0 f rfl
  rw [hf, hc, List.take_of_length_le (by rw [List.length_drop]; omega)] at this
  exact h _ _ _ _ _ _ _ _ _ this
theorem opens_cons {α β : Type} {a : Kd α} {b : Kd β} {f : Field} {fs : List Field} {o o' : Nat} {ok : α → Prop} {ok' : β → Prop} (hf : f.offset = o) (hc : P.cellsOf f.type = a.sz) (ho : o + a.sz = o') (h : Opens P a f.type ok) (h' : OpensFs P b fs o' ok') :
  OpensFs P (Kd.pair a b) (f :: fs) o (fun v => ok v.1 ∧ ok' v.2) := by
 intro H enc w base sp held n cs xs hl hx hall
 match xs, hx with
 | y :: ys, hx =>
  have hl2 : cs.length = o + (a.sz + b.sz) := hl
  have h0 := hall 0 f rfl
  rw [hf, hc] at h0
  obtain ⟨v0, hv0, ho0⟩ := h _ _ _ _ _ _ _ _ _ h0
  obtain ⟨v1, hv1, ho1⟩ := h' _ enc w base sp held n cs ys (by omega) (by simpa using hx) (fun i g hg => by simpa using hall (i + 1) g (by simpa using hg))
  refine ⟨(v0, v1), ⟨(cs.drop o).take a.sz, cs.drop o', ?_, hv0, hv1⟩, ho0, ho1⟩
  rw [← ho, ← List.drop_drop]
  exact (List.take_append_drop _ _).symm
theorem opens_struct {α : Type} {d : Kd α} {fs : List Field} {ok : α → Prop} (ht : P.underlying t = some (.struct fs.toArray)) (hc : P.cellsOf t = d.sz) (h : OpensFs P d fs 0 ok) : Opens P d t ok := by
 intro H enc w base sp held fuel cs x hx
 obtain ⟨xs, n, _, _, hl, hlen, hf⟩ := DataW.trod_struct ht hx
 have := h _ enc w base sp held n cs xs (by omega) (by simpa using hlen) (fun i f hf' => hf i f (by simpa using hf'))
 simpa using this
theorem opens_iso {α β : Type} {d : Kd α} {f : β → α} {ok : α → Prop} (g : α → β) (hg : ∀ a, f (g a) = a) (h : Opens P d t ok) : Opens P (Kd.iso d f) t (fun x => ok (f x)) := by
 intro H enc w base sp held fuel cs x hx
 obtain ⟨v, hv, ho⟩ := h _ _ _ _ _ _ _ _ _ hx
 exact ⟨g v, by show d.K w (f (g v)) cs; rw [hg]; exact hv, by show ok (f (g v)); rw [hg]; exact ho⟩
/-- An argument that is a slice. -/
theorem opened_slice {α : Type} {d : Kd α} {ok : List α → Prop} {e : TypeId} (ht : P.underlying t = some (.slice e)) (h : Opens P (Kd.slice e d) t ok) {H : Type} {enc : TypeId × Value → H} {w : World} {base : Nat} {sp : Nat → Bool} {held : Bool} {r : Reach} {b0 : Nat} {v : Value} {x : DataW H} {ps : List MemPlace}
  (hv : Value.okWide P w r b0 t v) (hx : DataW.Trod enc P w base sp held t v x ps) : ∃ A c xs, v = .slice A xs.length c ∧ xs.length ≤ c ∧ d.C w A xs.length xs ∧ ok xs := by
 obtain ⟨a, len, cap, rfl⟩ := okWide_slice ht hv
 obtain ⟨fuel, hf⟩ := hx
 obtain ⟨y, ⟨A, c, hcs, hl, hC⟩, ho⟩ := h _ _ _ _ _ _ _ _ _ hf
 simp [Value.cells] at hcs
 obtain ⟨rfl, rfl, rfl⟩ := hcs
 exact ⟨a, cap, y, rfl, hl, hC, ho⟩
end
end Go.Proofs.Ytbiakjgjedhjhaa.P
namespace Go.Proofs.BoolMaps
open Go Go.Maps Go.RowKit
theorem plainElem_bool_inv {H : Type} {P : Program} {e : TypeId} (he : P.underlying e = some .bool) {v : Value} {z : DataW H × List MemPlace} (h : plainElem P e v = some z) : ∃ a, v = .bool a ∧ z = (.lit (.bool a), []) := by
 unfold plainElem at h
 rw [he] at h
 cases v <;> simp at h
 exact ⟨_, rfl, h.symm⟩
/-- Block b of w is a map from keys of type k to bools, of s entries, that answers as f does. (n: a bound on its length.) -/
def IsB (P : Program) (k e : TypeId) (w : World) (b n s : Nat) (f : Lit → Option Bool) : Prop :=
  ∃ D : DataW Unit, w.ownsMap P k (plainElem P e) b n D ∧ Tidy D ∧ Maps.size D = s ∧ (∀ kl, has D kl = (f kl).isSome) ∧ ∀ kl x, f kl = some x → ∀ z, D.atKey kl z = .lit (.bool x)
theorem IsB.made (w : World) (P : Program) (k e : TypeId) : IsB P k e (w.alloc (.map #[] 0)) w.heap.size 0 0 (fun _ => none) :=
  ⟨_, World.ownsMap_made w P k (plainElem P e), ⟨[], rfl, List.Pairwise.nil⟩, rfl, fun _ => rfl, fun _ _ h => by cases h⟩
theorem IsB.kept {P : Program} {k e : TypeId} {w w' : World} {b n s : Nat} {f : Lit → Option Bool} {row : Option Nat} (h : IsB P k e w b n s f) (hg : w.grownBy w' row) (hne : some b ≠ row) : IsB P k e w' b n s f := by
  obtain ⟨D, h1, h2⟩ := h
  exact ⟨D, h1.kept hg hne, h2⟩
theorem IsB.lt {P : Program} {k e : TypeId} {w : World} {b n s : Nat} {f : Lit → Option Bool} (h : IsB P k e w b n s f) : b < w.heap.size := by
  obtain ⟨D, h1, _⟩ := h
  exact h1.lt
theorem IsB.below {P : Program} {k e : TypeId} {w w' : World} {b n s : Nat} {f : Lit → Option Bool} (h : IsB P k e w b n s f) (hb : Below w.heap.size w w') : IsB P k e w' b n s f :=
  h.kept (row := none) ⟨hb.os, hb.tape, hb.output, hb.size, fun i hi _ => hb.block i hi⟩ (by simp)
theorem IsB.alloc {P : Program} {k e : TypeId} {w : World} {b n s : Nat} {f : Lit → Option Bool} (h : IsB P k e w b n s f) (o : Obj) : IsB P k e (w.alloc o) b n s f :=
  h.below ((Below.refl _ _).alloc (Nat.le_refl _) o)
theorem IsB.drew {P : Program} {k e : TypeId} {w : World} {b n s : Nat} {f : Lit → Option Bool} (h : IsB P k e w b n s f) : IsB P k e w.drew b n s f := h
/-- A look-up. -/
theorem IsB.look {P : Program} {k e t : TypeId} {w : World} {b n s : Nat} {f : Lit → Option Bool} (h : IsB P k e w b n s f) (K : Keyed P k) (ht : P.underlying t = some (.map k e)) (he : P.underlying e = some .bool) (hz : (zeroValue e).run P w = .ok (.bool false) w)
  {key : Value} {kl : Lit} (hkey : keyOf P k key = some kl) : (Instr.lookup t (.map (some b)) key false).run P w = .ok (.bool ((f kl).getD false)) w := by
 obtain ⟨D, h1, _, _, hh, h2⟩ := h
 obtain ⟨v, ps, hrun, hv⟩ := h1.lookup K ht hz (plainElem_bool he false) hkey
 obtain ⟨x, rfl, hx⟩ := plainElem_bool_inv he hv
 simp only [Prod.mk.injEq] at hx
 cases hf : f kl with
 | none =>
  have hn := hh kl
  rw [hf] at hn
  have := (atKey_of_not_has hn (.lit (.bool false))).symm.trans hx.1
  injection this with this
  injection this with this
  rw [hrun, ← this]
  rfl
 | some y =>
  have := (h2 kl y hf _).symm.trans hx.1
  injection this with this
  injection this with this
  rw [hrun, ← this]
  rfl
/-- A look-up that tells, too, if there was one. -/
theorem IsB.look2 {P : Program} {k e t : TypeId} {w : World} {b n s : Nat} {f : Lit → Option Bool} (h : IsB P k e w b n s f) (K : Keyed P k) (ht : P.underlying t = some (.map k e)) (he : P.underlying e = some .bool) (hz : (zeroValue e).run P w = .ok (.bool false) w)
  {key : Value} {kl : Lit} (hkey : keyOf P k key = some kl) : (Instr.lookup t (.map (some b)) key true).run P w = .ok (.tuple #[.bool ((f kl).getD false), .bool (f kl).isSome]) w := by
 obtain ⟨D, h1, _, _, hh, h2⟩ := h
 obtain ⟨v, ps, hrun, hv⟩ := h1.look_ok K ht hz (plainElem_bool he false) hkey
 obtain ⟨x, rfl, hx⟩ := plainElem_bool_inv he hv
 simp only [Prod.mk.injEq] at hx
 rw [hh kl] at hrun
 cases hf : f kl with
 | none =>
  have hn := hh kl
  rw [hf] at hn
  have := (atKey_of_not_has hn (.lit (.bool false))).symm.trans hx.1
  injection this with this
  injection this with this
  rw [hrun, ← this, hf]
  rfl
 | some y =>
  have := (h2 kl y hf _).symm.trans hx.1
  injection this with this
  injection this with this
  rw [hrun, ← this, hf]
  rfl
/-- A store. -/
theorem IsB.store {P : Program} {k e t : TypeId} {w : World} {b n s : Nat} {f : Lit → Option Bool} (h : IsB P k e w b n s f) (K : Keyed P k) (ht : P.underlying t = some (.map k e)) (he : P.underlying e = some .bool) (hn : n < maxLen)
  {key : Value} {kl : Lit} (hkey : keyOf P k key = some kl) (hkl : WideAt.IsKeyLit kl) (x : Bool) :
  ∃ w' f', (Instr.mapUpdate t (.map (some b)) key (.bool x)).run P w = .ok () w' ∧ IsB P k e w' b (n + 1) (if (f kl).isSome then s else s + 1) f' ∧ f' kl = some x ∧ (∀ z, z ≠ kl → f' z = f z) ∧ w.grownBy w' (some b) := by
 obtain ⟨D, h1, hT, hs, hh, h2⟩ := h
 obtain ⟨w', hrun, h3, hg⟩ := h1.update K ht hn hkey (plainElem_bool he x)
 classical
 refine ⟨w', fun z => if z = kl then some x else f z, hrun, ⟨_, h3, hT.put hkl _, ?_, fun z => ?_, fun z y hy zd => ?_⟩, by simp, fun z hz => by simp [hz], hg⟩
 ·rw [size_put hT, hh kl, hs]
 ·by_cases hz : z = kl
  ·subst hz
   simp [has_put_same hT.isMap hkl]
  ·simp only [hz, if_false]
   rw [has_put_other hz, hh z]
 ·by_cases hz : z = kl
  ·subst hz
   simp at hy
   rw [atKey_put_same hT.isMap hkl, hy]
  ·simp only [hz, if_false] at hy
   rw [atKey_put_other hz]
   exact h2 z y hy zd
end Go.Proofs.BoolMaps
namespace Go.Proofs.Rng
open Go Go.RowKit
/-- Blocks from B on, n of them, lie as they lay. -/
def KeepN (B n : Nat) (W W' : World) : Prop := ∀ k, B ≤ k → k < B + n → W'.heap[k]? = W.heap[k]?
theorem KeepN.refl (B n : Nat) (W : World) : KeepN B n W W := fun _ _ _ => rfl
theorem KeepN.trans {B n : Nat} {X Y Z : World} (h : KeepN B n X Y) (k : KeepN B n Y Z) : KeepN B n X Z := fun i h1 h2 => (k i h1 h2).trans (h i h1 h2)
/-- The blocks of which kp speaks lie as they lay. -/
structure Keep (kp : Nat → Prop) (W W' : World) : Prop where
 os : W'.os = W.os
 tape : W'.tape = W.tape
 output : W'.output = W.output
 size : W.heap.size ≤ W'.heap.size
 block : ∀ k, kp k → W'.heap[k]? = W.heap[k]?
theorem Keep.refl (kp : Nat → Prop) (W : World) : Keep kp W W := ⟨rfl, rfl, rfl, Nat.le_refl _, fun _ _ => rfl⟩
theorem Keep.trans {kp : Nat → Prop} {X Y Z : World} (h : Keep kp X Y) (k : Keep kp Y Z) : Keep kp X Z := ⟨k.os.trans h.os, k.tape.trans h.tape, k.output.trans h.output, Nat.le_trans h.size k.size, fun i hi => (k.block i hi).trans (h.block i hi)⟩
theorem Keep.mono {kp kq : Nat → Prop} {X Y : World} (h : Keep kp X Y) (hq : ∀ k, kq k → kp k) : Keep kq X Y := ⟨h.os, h.tape, h.output, h.size, fun i hi => h.block i (hq i hi)⟩
theorem Keep.below {kp : Nat → Prop} {n : Nat} {X Y : World} (h : Keep kp X Y) (hq : ∀ k, k < n → kp k) : Below n X Y := ⟨h.os, h.tape, h.output, h.size, fun i hi => h.block i (hq i hi)⟩
theorem Keep.of_below {kp : Nat → Prop} {n : Nat} {X Y : World} (h : Below n X Y) (hq : ∀ k, kp k → k < n) : Keep kp X Y := ⟨h.os, h.tape, h.output, h.size, fun i hi => h.block i (hq i hi)⟩
theorem Keep.grown {kp : Nat → Prop} {X Y : World} {row : Option Nat} (h : X.grownBy Y row) (hlt : ∀ k, kp k → k < X.heap.size) (hne : ∀ k, kp k → some k ≠ row) : Keep kp X Y :=
  ⟨h.os, h.tape, h.output, h.size, fun i hi => h.block i (hlt i hi) (hne i hi)⟩
theorem Keep.cell {kp : Nat → Prop} {X Y : World} (h : Keep kp X Y) {p : Addr} (hp : kp p.block) : Y.cell? p = X.cell? p := by
  simp only [World.cell?, h.block _ hp]
/-- What a step on blocks of ours leaves true. -/
def Stab {β : Type} (B n : Nat) (J : β → World → Prop) : Prop := ∀ s A C row, J s A → A.grownBy C row → (∀ r, row = some r → B ≤ r ∧ r < B + n) → J s C
/-- The iterator gives xs, one behind the other, until a round says no more; m blocks of its own; the blocks of kp, and its own, it wants kept. -/
def SeqN {α : Type} (m : Nat) (kp : Nat → Prop) (P : Program) (g : Nat) (lb : Array Value) (encs : α → Array Value) (xs : List α) (w : World) : Prop :=
 ∀ (l : Nat) (J Jx : List α → World → Prop) (W : World), Below w.heap.size w W → Stab W.heap.size m J → Stab W.heap.size m Jx →
  (∀ pre x W1, J pre W1 → (pre ++ [x]) <+: xs → W.heap.size + m ≤ W1.heap.size → YieldAt Fence.wide 8 P l (encs x) W1 fun e W' =>
   (e = .returned (.bool true) ∧ J (pre ++ [x]) W' ∧ Keep kp W1 W' ∧ KeepN W.heap.size m W1 W') ∨ (e = .returned (.bool false) ∧ Jx (pre ++ [x]) W')) →
  J [] W →
  CallsIn Fence.wide 9 P g (#[.func (.yield l) #[] #[]] ++ lb) W fun e W' => (∃ v, e = .returned v) ∧ (J xs W' ∨ ∃ pre, pre <+: xs ∧ Jx pre W')
/-- How the body of a round may be left. -/
def postN {α : Type} (B m : Nat) (kp : Nat → Prop) (I : List α → World → Prop) (Ix : Code → List α → World → Prop) (xs : List α) (W : World) : Exit → Act → World → Prop
 | .normal, _, W' => KeepN B (2 + m) W W' ∧ Keep kp W W' ∧ I xs W'
 | .ret, _, W' => KeepN B 2 W W' ∧ Ix .ret xs W'
 | .exit id, _, W' => KeepN B 2 W W' ∧ Ix (.exit id) xs W'
 | .goto t, _, W' => KeepN B 2 W W' ∧ Ix (.goto t) xs W'
 | .panic _, _, _ => False
 | .outgrown, _, _ => False
theorem keep_putObj {kp : Nat → Prop} {W : World} {l : Nat} (o : Obj) (h : ∀ k, kp k → k < l) : Keep kp W (W.putObj l o) :=
  ⟨rfl, rfl, rfl, by simp, fun k hk => World.putObj_heap_other (by have := h k hk; omega)⟩
theorem wpIn_rangeFunc_N {P : Program} {α : Type} {g : Operand} {ps : Array Tmp} {assign body : Code} {Q : Exit → Act → World → Prop} {a : Act} {w : World} {m : Nat} {kp : Nat → Prop} {gf : Nat} {lb : Array Value}
  (hg : a.eval g = .func (.func gf) #[] lb) (eg : ∀ args w, (callFunc gf args).run P w = .ok (.enter gf args) w)
  {encs : α → Array Value} {xs : List α} {w0 : World} (hseq : SeqN m kp P gf lb encs xs w0) (hn : ∀ k, kp k → k < w.heap.size) (hb0 : Below w0.heap.size w0 w) (hps : ∀ x, (encs x).size = ps.size)
  (I : List α → World → Prop) (Ix : Code → List α → World → Prop) (hI : Stab w.heap.size (2 + m) I) (hIx : ∀ c, Stab w.heap.size (2 + m) (Ix c)) (h0 : I [] w) (Ax : α → World → Act → Prop)
  (hAx : ∀ x a1 A C row, Ax x A a1 → A.grownBy C row → (∀ r, row = some r → w.heap.size ≤ r ∧ r < w.heap.size + 2 + m) → Ax x C a1)
  (hassign : ∀ (l : Nat) (pre : List α) (x : α) (W : World) (K : Act → World → Prop), I pre W → (pre ++ [x]) <+: xs → w.heap.size + 2 + m ≤ W.heap.size →
   (∀ a1 W', Ax x W' a1 → I pre W' → Keep kp W W' → KeepN w.heap.size (2 + m) W W' → W.heap.size ≤ W'.heap.size → K a1 W') →
   assign.wpIn (Fence.wide.inRound l) 8 P (Exit.then K (fun _ _ _ => False)) { tmps := (ps.zip (encs x)).foldl (fun t (p, v) => t.setIfInBounds p v) a.tmps, defers := [] } W)
  (hbody : ∀ (l : Nat) (pre : List α) (x : α) (a1 : Act) (W : World), I pre W → Ax x W a1 → (pre ++ [x]) <+: xs → w.heap.size + 2 + m ≤ W.heap.size → body.wpIn (Fence.wide.inRound l) 8 P (postN w.heap.size m kp I Ix (pre ++ [x]) W) a1 W)
  (hdone : ∀ (W : World), I xs W → W.heap[w.heap.size]? = some (.deferred (some [])) → Q .normal { a with defers := { target := .collected w.heap.size, args := #[] } :: a.defers } W)
  (hstop : ∀ (c : Code) (pre : List α) (W : World), pre <+: xs → Ix c pre W → W.heap[w.heap.size]? = some (.deferred (some [])) → c.wpIn Fence.wide 10 P Q { a with defers := { target := .collected w.heap.size, args := #[] } :: a.defers } W) :
  (Code.rangeFunc g ps assign body).wpIn Fence.wide 10 P Q a w := by
 refine wpIn_rangeFunc ?_
 intro fn hfn
 rw [show Fence.wide.round = none from rfl]
 obtain ⟨rec, hrec⟩ : ∃ rec : LoopState → Option Code → Loop, rec = fun st pe => { state := st, pending := pe, fn, tmps := a.tmps, params := ps, assign, body, defers := w.heap.size } := ⟨_, rfl⟩
 obtain ⟨W1, hW1⟩ : ∃ W1, (w.alloc (.deferred (some []))).alloc (.loop (rec .ready none)) = W1 := ⟨_, rfl⟩
 have hz1 : W1.heap.size = w.heap.size + 2 := by rw [← hW1]; simp
 have hL1 : W1.heap[w.heap.size + 1]? = some (.loop (rec .ready none)) := by
  rw [← hW1]; have := World.alloc_heap_new (w.alloc (.deferred (some []))) (.loop (rec .ready none)); rwa [World.size_alloc] at this
 have hK1 : W1.heap[w.heap.size]? = some (.deferred (some [])) := by
  rw [← hW1]; exact (Below.heap_alloc _ _ _ (by simp)).trans (World.alloc_heap_new w _)
 have hal : ∀ (s : List α) (A : World) (o : Obj), I s A → I s (A.alloc o) := fun s A o h => hI s A _ none h (World.grownBy_alloc A o none) (fun r e => by cases e)
 have hI1 : I [] W1 := by rw [← hW1]; exact hal _ _ _ (hal _ _ _ h0)
 have hb1 : Below w0.heap.size w0 W1 := by
  rw [← hW1]; exact hb0.trans ((((Below.refl _ w).alloc (Nat.le_refl _) _).alloc (by simp) _).mono hb0.size)
 have hput : ∀ {β : Type} {J : β → World → Prop}, Stab w.heap.size (2 + m) J → ∀ (s : β) (A : World) (o : Obj), J s A → J s (A.putObj (w.heap.size + 1) o) := fun h s A o hs =>
  h s A _ (some (w.heap.size + 1)) hs (grownBy_putObj' A _ o) (fun r e => by cases e; omega)
 refine ⟨w.heap.size + 1, [{ target := .collected w.heap.size, args := #[] }], W1, { target := .fn (.func gf) lb, args := #[.func (.yield (w.heap.size + 1)) #[] #[]] }, W1, gf,
  #[.func (.yield (w.heap.size + 1)) #[] #[]] ++ lb, W1, ?_, ?_, ?_, ?_, fun _ => by decide, ?_⟩
 ·rw [← hW1, hrec]; exact run_enterLoop_outer _ _ _ _ _
 ·simp only [resolve, hg]
  simp [go_sem]
 ·intro f' hf'; simp [Target.leads] at hf'; subst hf'; trivial
 ·simp [invoke, go_sem, eg]
 ·have hst : ∀ {β : Type} {J : β → World → Prop}, Stab w.heap.size (2 + m) J → ∀ (st : LoopState) (pe : Option Code), Stab W1.heap.size m (fun (s : β) (W : World) => J s W ∧ W.heap[w.heap.size + 1]? = some (.loop (rec st pe)) ∧ W.heap[w.heap.size]? = some (.deferred (some []))) := fun h st pe s A C row hs hg' hr =>
   ⟨h s A C row hs.1 hg' (fun r e => by have := hr r e; omega),
    (hg'.block _ (Array.getElem?_eq_some_iff.1 hs.2.1).1 (fun e => by have := hr _ e.symm; omega)).trans hs.2.1,
    (hg'.block _ (Array.getElem?_eq_some_iff.1 hs.2.2).1 (fun e => by have := hr _ e.symm; omega)).trans hs.2.2⟩
  refine (hseq (w.heap.size + 1)
   (fun pre W => I pre W ∧ W.heap[w.heap.size + 1]? = some (.loop (rec .ready none)) ∧ W.heap[w.heap.size]? = some (.deferred (some [])))
   (fun pre W => ∃ c, Ix c pre W ∧ W.heap[w.heap.size + 1]? = some (.loop (rec .done (some c))) ∧ W.heap[w.heap.size]? = some (.deferred (some [])))
   W1 hb1 (hst hI _ _)
   (fun s A C row hs hg' hr => by
    obtain ⟨c, hc⟩ := hs
    exact ⟨c, hst (hIx c) .done (some c) s A C row hc hg' hr⟩)
   ?_ ⟨hI1, hL1, hK1⟩).mono ?_
  ·-- one round
   rintro pre x W ⟨hi, hl, hk⟩ hpre hWs
   have hlt : w.heap.size + 1 < W.heap.size := (Array.getElem?_eq_some_iff.1 hl).1
   have hy := run_yield (P := P) (args := encs x) hl (by rw [hrec]; exact hps x)
   rw [hrec] at hy
   refine ⟨fn, _, assign, body, hy, roundIn_of_wpIn hfn (hassign _ pre x W _ hi hpre (by omega) ?_)⟩
   intro a1 W2 hA2 hi2 hbl2 hkn2 hsz2
   have hl' : W2.heap[w.heap.size + 1]? = some (.loop (rec .ready none)) := (hkn2 _ (by omega) (by omega)).trans hl
   have hk' : W2.heap[w.heap.size]? = some (.deferred (some [])) := (hkn2 _ (by omega) (by omega)).trans hk
   have hlt2 : w.heap.size + 1 < W2.heap.size := (Array.getElem?_eq_some_iff.1 hl').1
   refine ⟨_, run_beginRound hl' (by rw [hrec]), ?_⟩
   have hl2 : (W2.putObj (w.heap.size + 1) (.loop { rec .ready none with state := .busy })).heap[w.heap.size + 1]? = some (.loop { rec .ready none with state := .busy }) := World.putObj_heap_same hlt2
   have hk2 : (W2.putObj (w.heap.size + 1) (.loop { rec .ready none with state := .busy })).heap[w.heap.size]? = some (.deferred (some [])) := (World.putObj_heap_other (by omega)).trans hk'
   refine wpIn_mono (hbody _ pre x a1 _ (hput hI _ _ _ hi2) (hAx x a1 _ _ (some (w.heap.size + 1)) hA2 (grownBy_putObj' _ _ _) (fun r e => by cases e; omega)) hpre (by simp; omega)) ?_
   have fin : ∀ (jump : Option Code) (W3 : World), KeepN w.heap.size 2 (W2.putObj (w.heap.size + 1) (.loop { rec .ready none with state := .busy })) W3 →
     (Instr.endRound (w.heap.size + 1) jump).run P W3 = .ok (.bool jump.isNone) (W3.putObj (w.heap.size + 1) (.loop (rec (if jump.isNone then .ready else .done) jump))) ∧
     (W3.putObj (w.heap.size + 1) (.loop (rec (if jump.isNone then .ready else .done) jump))).heap[w.heap.size + 1]? = some (.loop (rec (if jump.isNone then .ready else .done) jump)) ∧
     (W3.putObj (w.heap.size + 1) (.loop (rec (if jump.isNone then .ready else .done) jump))).heap[w.heap.size]? = some (.deferred (some [])) := fun jump W3 hk3 => by
    have hl3 := (hk3 (w.heap.size + 1) (by omega) (by omega)).trans hl2
    have := run_endRound (P := P) jump hl3
    rw [hrec] at this ⊢
    exact ⟨this, World.putObj_heap_same (Array.getElem?_eq_some_iff.1 hl3).1, (World.putObj_heap_other (by omega)).trans ((hk3 _ (Nat.le_refl _) (by omega)).trans hk2)⟩
   have hbl3 : Keep kp W (W2.putObj (w.heap.size + 1) (.loop { rec .ready none with state := .busy })) := hbl2.trans (keep_putObj _ (fun k hk => by have := hn k hk; omega))
   rintro e a3 W3 hp
   cases e with
   | normal =>
    obtain ⟨hk3, hkp3, hi3⟩ := hp
    obtain ⟨hr, hl4, hk4⟩ := fin none W3 (fun k h1 h2 => hk3 k h1 (by omega))
    refine ⟨_, _, hr, .inl ⟨rfl, ⟨hput hI _ _ _ hi3, hl4, hk4⟩, (hbl3.trans hkp3).trans (keep_putObj _ (fun k hk => by have := hn k hk; omega)), fun k h1 h2 => ?_⟩⟩
    rw [World.putObj_heap_other (by omega), hk3 k (by omega) (by omega), World.putObj_heap_other (by omega)]
    exact hkn2 k (by omega) (by omega)
   | ret =>
    obtain ⟨hk3, hi3⟩ := hp
    obtain ⟨hr, hl4, hk4⟩ := fin (some .ret) W3 hk3
    exact ⟨_, _, hr, .inr ⟨rfl, .ret, hput (hIx _) _ _ _ hi3, hl4, hk4⟩⟩
   | exit id =>
    obtain ⟨hk3, hi3⟩ := hp
    obtain ⟨hr, hl4, hk4⟩ := fin (some (.exit id)) W3 hk3
    exact ⟨_, _, hr, .inr ⟨rfl, .exit id, hput (hIx _) _ _ _ hi3, hl4, hk4⟩⟩
   | goto t =>
    obtain ⟨hk3, hi3⟩ := hp
    obtain ⟨hr, hl4, hk4⟩ := fin (some (.goto t)) W3 hk3
    exact ⟨_, _, hr, .inr ⟨rfl, .goto t, hput (hIx _) _ _ _ hi3, hl4, hk4⟩⟩
   | panic ch => exact hp.elim
   | outgrown => exact hp.elim
  ·-- behind the iterator
   rintro e W2 ⟨⟨v, rfl⟩, (⟨hi, hl, hk⟩ | ⟨pre, hSp, c, hi, hl, hk⟩)⟩
   ·exact ⟨none, _, by have := run_endLoop (P := P) hl (by rw [hrec]; simp); rw [hrec] at this; exact this, hdone _ (hput hI _ _ _ hi) ((World.putObj_heap_other (by omega)).trans hk)⟩
   ·exact ⟨some c, _, by have := run_endLoop (P := P) hl (by rw [hrec]; simp); rw [hrec] at this; exact this, hstop c pre _ hSp (hput (hIx c) _ _ _ hi) ((World.putObj_heap_other (by omega)).trans hk)⟩
end Go.Proofs.Rng
namespace Go.Proofs.Ytbiakjgjedhjhaa.P
open Go.Shelf Go.Proofs
def sortIntL_ren : Go.Shelf.Ren := ⟨fun | 6 => 133 | 15 => 148 | 14 => 147 | 28 => 158 | 29 => 159 | 20 => 150 | 21 => 151 | 22 => 152 | 23 => 153 | 24 => 154 | 25 => 155 | 26 => 156 | 27 => 157 | 46 => 160 | 47 => 161 | 48 => 162 | 49 => 163 | 50 => 164 | 57 => 165 | n => n, fun | 22 => 38 | 24 => 3 | 25 => 49 | 3 => 3 | 39 => 172 | 0 => 0 | 53 => 183 | 55 => 185 | 4 => 4 | 46 => 176 | 45 => 175 | 50 => 180 | 5 => 5 | 9 => 9 | 66 => 186 | 70 => 190 | 76 => 192 | 77 => 193 | n => n, fun | n => n⟩
theorem sortIntL : Go.Proofs.SlLaysF.n6 Try.prog sortIntL_ren := {
 mixed := by kernel_rfl,
 f6 := ⟨Try.f133.name, by decide, Try.func133.trans (congrArg some (by kernel_rfl))⟩,
 f14 := ⟨Try.f147.name, by decide, Try.func147.trans (congrArg some (by kernel_rfl))⟩,
 f15 := Try.func148.trans (congrArg some (by kernel_rfl)),
 f20 := ⟨Try.f150.name, by decide, Try.func150.trans (congrArg some (by kernel_rfl))⟩,
 f21 := ⟨Try.f151.name, by decide, Try.func151.trans (congrArg some (by kernel_rfl))⟩,
 f22 := ⟨Try.f152.name, by decide, Try.func152.trans (congrArg some (by kernel_rfl))⟩,
 f23 := ⟨Try.f153.name, by decide, Try.func153.trans (congrArg some (by kernel_rfl))⟩,
 f24 := ⟨Try.f154.name, by decide, Try.func154.trans (congrArg some (by kernel_rfl))⟩,
 f25 := ⟨Try.f155.name, by decide, Try.func155.trans (congrArg some (by kernel_rfl))⟩,
 f26 := ⟨Try.f156.name, by decide, Try.func156.trans (congrArg some (by kernel_rfl))⟩,
 f27 := ⟨Try.f157.name, by decide, Try.func157.trans (congrArg some (by kernel_rfl))⟩,
 f28 := Try.func158.trans (congrArg some (by kernel_rfl)),
 f29 := Try.func159.trans (congrArg some (by kernel_rfl)),
 f46 := ⟨Try.f160.name, by decide, Try.func160.trans (congrArg some (by kernel_rfl))⟩,
 f47 := Try.func161.trans (congrArg some (by kernel_rfl)),
 f48 := Try.func162.trans (congrArg some (by kernel_rfl)),
 f49 := ⟨Try.f163.name, by decide, Try.func163.trans (congrArg some (by kernel_rfl))⟩,
 f50 := ⟨Try.f164.name, by decide, Try.func164.trans (congrArg some (by kernel_rfl))⟩,
 f57 := ⟨Try.f165.name, by decide, Try.func165.trans (congrArg some (by kernel_rfl))⟩,
 t0 := Try.underlying0,
 a0 := Try.isAgg0,
 z0 := Try.sizeOf0,
 v0 := Try.zeroValue0,
 t3 := Try.underlying3,
 a3 := Try.isAgg3,
 z3 := Try.sizeOf3,
 v3 := Try.zeroValue3,
 t4 := Try.underlying4,
 a4 := Try.isAgg4,
 z4 := Try.sizeOf4,
 v4 := Try.zeroValue4,
 t5 := Try.underlying5,
 a5 := Try.isAgg5,
 z5 := Try.sizeOf5,
 v5 := Try.zeroValue5,
 t9 := Try.underlying9,
 a9 := Try.isAgg9,
 z9 := Try.sizeOf9,
 v9 := Try.zeroValue9,
 t22 := Try.underlying38,
 a22 := Try.isAgg38,
 z22 := Try.sizeOf38,
 v22 := Try.zeroValue38,
 a24 := Try.isAgg3,
 z24 := Try.sizeOf3,
 t25 := Try.underlying49,
 a25 := Try.isAgg49,
 z25 := Try.sizeOf49,
 v25 := Try.zeroValue49,
 t39 := Try.underlying172,
 a39 := Try.isAgg172,
 z39 := Try.sizeOf172,
 v39 := Try.zeroValue172,
 t45 := Try.underlying175,
 a45 := Try.isAgg175,
 z45 := Try.sizeOf175,
 v45 := Try.zeroValue175,
 t46 := Try.underlying176,
 a46 := Try.isAgg176,
 z46 := Try.sizeOf176,
 v46 := Try.zeroValue176,
 t50 := Try.underlying180,
 a50 := Try.isAgg180,
 z50 := Try.sizeOf180,
 v50 := Try.zeroValue180,
 t53 := Try.underlying183,
 a53 := Try.isAgg183,
 z53 := Try.sizeOf183,
 v53 := Try.zeroValue183,
 t55 := Try.underlying185,
 a55 := Try.isAgg185,
 z55 := Try.sizeOf185,
 v55 := Try.zeroValue185,
 t66 := Try.underlying186,
 a66 := Try.isAgg186,
 z66 := Try.sizeOf186,
 v66 := Try.zeroValue186,
 t70 := Try.underlying190,
 a70 := Try.isAgg190,
 z70 := Try.sizeOf190,
 v70 := Try.zeroValue190,
 t76 := Try.underlying192,
 a76 := Try.isAgg192,
 z76 := Try.sizeOf192,
 v76 := Try.zeroValue192,
 t77 := Try.underlying193,
 a77 := Try.isAgg193,
 z77 := Try.sizeOf193,
 v77 := Try.zeroValue193 }
end Go.Proofs.Ytbiakjgjedhjhaa.P
namespace Go.Proofs.Ytbiakjgjedhjhaa.P
open Go.RowKit Go.Proofs.YtbiakjgjedhjhaaW.PrintWords Go.Proofs.YtbiakjgjedhjhaaW.PrintLast
def errW : Option Int → Value
  | none => .nilIface
  | some c => .iface 0 (.int .i64 c)
theorem errW_none : errW none = .nilIface := rfl
theorem errW_some (c : Int) : errW (some c) = .iface 0 (.int .i64 c) := rfl
theorem info3 : (Try.prog.info? 3).map (fun i => (i.zero, i.size, i.bytes)) = some (some (.int .i64 0), 1, 8) := by kernel_rfl
theorem info23 : (Try.prog.info? 23).map (fun i => (i.zero, i.size, i.bytes)) = some (some (.agg #[(.int .i64 0), (.int .i64 0)]), 2, 16) := by kernel_rfl
theorem info38 : (Try.prog.info? 38).map (fun i => (i.zero, i.size, i.bytes)) = some (some (.slice none 0 0), 1, 24) := by kernel_rfl
theorem info52 : (Try.prog.info? 52).map (fun i => (i.zero, i.size, i.bytes)) = some (some (.agg #[(.int .i64 0), (.int .i64 0), (.int .i64 0), (.int .i64 0), (.int .i64 0), (.int .i64 0), (.int .i64 0), (.int .i64 0)]), 8, 64) := by kernel_rfl
structure S23 where
  f0 : Int
  f1 : Int
def z23 : S23 := ⟨(0 : Int), (0 : Int)⟩
def k23 : Kd S23 := Kd.iso (Kd.pair (Kd.int .i64) (Kd.int .i64)) (fun x : S23 => (x.f0, x.f1))
theorem k23_open {w : World} {x : S23} {cs : List Value} (h : k23.K w x cs) : cs = [.int .i64 x.f0, .int .i64 x.f1] := by
  obtain ⟨_, _, rfl, rfl, rfl⟩ := h
  exact rfl
theorem k23_mk (w : World) (x : S23)  : k23.K w x [.int .i64 x.f0, .int .i64 x.f1] := ⟨[.int .i64 x.f0], [.int .i64 x.f1], rfl, rfl, rfl⟩
theorem k23_mkM (w : World) (base : Nat) (ok : Nat → Prop) (x : S23)  : k23.M w base ok x [.int .i64 x.f0, .int .i64 x.f1] := ⟨[.int .i64 x.f0], [.int .i64 x.f1], rfl, rfl, rfl⟩
def rd_T23 (xs : List S23) (i : Int) : S23 := xs.getD i.toNat z23
theorem at_T23 {w : World} {A : Option Addr} {n : Nat} {xs : List S23} (h : Kd.C k23 w A n xs) (i : Int) (h0 : 0 ≤ i) (h1 : i < n) : ∃ ad , A = some ad ∧ w.cell? (ad.add (i.toNat * 2)) = some (.int .i64 (rd_T23 xs i).f0) ∧ w.cell? ⟨(ad.add (i.toNat * 2)).block, (ad.add (i.toNat * 2)).off + 1, none⟩ = some (.int .i64 (rd_T23 xs i).f1) := by
 obtain ⟨ad, c, e, _, hK, hc0⟩ := Kd.C_get h z23 i h0 h1
 have hc : ∀ j u, c[j]? = some u → w.cell? (ad.add (i.toNat * 2 + j)) = some u := hc0
 obtain rfl := k23_open hK
 exact ⟨ad, e, hc 0 _ rfl, by rw [← add_field _ _ 1 (by omega)]; exact hc 1 _ rfl⟩
structure S52 where
 f0 : Int
 f1 : S23
 f2 : S23
 f3 : S23
 f4 : Int
def z52 : S52 := ⟨(0 : Int), z23, z23, z23, (0 : Int)⟩
def k52 : Kd S52 := Kd.iso (Kd.pair (Kd.int .i64) (Kd.pair k23 (Kd.pair k23 (Kd.pair k23 (Kd.int .i64))))) (fun x : S52 => (x.f0, x.f1, x.f2, x.f3, x.f4))
theorem k52_open {w : World} {x : S52} {cs : List Value} (h : k52.K w x cs) : cs = [.int .i64 x.f0, .int .i64 x.f1.f0, .int .i64 x.f1.f1, .int .i64 x.f2.f0, .int .i64 x.f2.f1, .int .i64 x.f3.f0, .int .i64 x.f3.f1, .int .i64 x.f4] := by
 obtain ⟨_, _, rfl, rfl, ⟨_, _, rfl, s1, ⟨_, _, rfl, s3, ⟨_, _, rfl, s5, rfl⟩⟩⟩⟩ := h
 obtain rfl := k23_open s1
 obtain rfl := k23_open s3
 obtain rfl := k23_open s5
 exact rfl
theorem k52_mkM (w : World) (base : Nat) (ok : Nat → Prop) (x : S52)  : k52.M w base ok x [.int .i64 x.f0, .int .i64 x.f1.f0, .int .i64 x.f1.f1, .int .i64 x.f2.f0, .int .i64 x.f2.f1, .int .i64 x.f3.f0, .int .i64 x.f3.f1, .int .i64 x.f4] := ⟨[.int .i64 x.f0], [.int .i64 x.f1.f0, .int .i64 x.f1.f1, .int .i64 x.f2.f0, .int .i64 x.f2.f1, .int .i64 x.f3.f0, .int .i64 x.f3.f1, .int .i64 x.f4], rfl, rfl, ⟨[.int .i64 x.f1.f0, .int .i64 x.f1.f1], [.int .i64 x.f2.f0, .int .i64 x.f2.f1, .int .i64 x.f3.f0, .int .i64 x.f3.f1, .int .i64 x.f4], rfl, (k23_mkM w base ok x.f1 ), ⟨[.int .i64 x.f2.f0, .int .i64 x.f2.f1], [.int .i64 x.f3.f0, .int .i64 x.f3.f1, .int .i64 x.f4], rfl, (k23_mkM w base ok x.f2 ), ⟨[.int .i64 x.f3.f0, .int .i64 x.f3.f1], [.int .i64 x.f4], rfl, (k23_mkM w base ok x.f3 ), rfl⟩⟩⟩⟩
def rd_T52 (xs : List S52) (i : Int) : S52 := xs.getD i.toNat z52
theorem at_T52 {w : World} {A : Option Addr} {n : Nat} {xs : List S52} (h : Kd.C k52 w A n xs) (i : Int) (h0 : 0 ≤ i) (h1 : i < n) : ∃ ad , A = some ad ∧ w.cell? (ad.add (i.toNat * 8)) = some (.int .i64 (rd_T52 xs i).f0) ∧ w.cell? ⟨(ad.add (i.toNat * 8)).block, (ad.add (i.toNat * 8)).off + 1, none⟩ = some (.int .i64 (rd_T52 xs i).f1.f0) ∧ w.cell? ⟨(ad.add (i.toNat * 8)).block, (ad.add (i.toNat * 8)).off + 2, none⟩ = some (.int .i64 (rd_T52 xs i).f1.f1) ∧ w.cell? ⟨(ad.add (i.toNat * 8)).block, (ad.add (i.toNat * 8)).off + 3, none⟩ = some (.int .i64 (rd_T52 xs i).f2.f0) ∧ w.cell? ⟨(ad.add (i.toNat * 8)).block, (ad.add (i.toNat * 8)).off + 4, none⟩ = some (.int .i64 (rd_T52 xs i).f2.f1) ∧ w.cell? ⟨(ad.add (i.toNat * 8)).block, (ad.add (i.toNat * 8)).off + 5, none⟩ = some (.int .i64 (rd_T52 xs i).f3.f0) ∧ w.cell? ⟨(ad.add (i.toNat * 8)).block, (ad.add (i.toNat * 8)).off + 6, none⟩ = some (.int .i64 (rd_T52 xs i).f3.f1) ∧ w.cell? ⟨(ad.add (i.toNat * 8)).block, (ad.add (i.toNat * 8)).off + 7, none⟩ = some (.int .i64 (rd_T52 xs i).f4) := by
 obtain ⟨ad, c, e, _, hK, hc0⟩ := Kd.C_get h z52 i h0 h1
 have hc : ∀ j u, c[j]? = some u → w.cell? (ad.add (i.toNat * 8 + j)) = some u := hc0
 obtain rfl := k52_open hK
 exact ⟨ad, e, hc 0 _ rfl, by rw [← add_field _ _ 1 (by omega)]; exact hc 1 _ rfl, by rw [← add_field _ _ 2 (by omega)]; exact hc 2 _ rfl, by rw [← add_field _ _ 3 (by omega)]; exact hc 3 _ rfl, by rw [← add_field _ _ 4 (by omega)]; exact hc 4 _ rfl, by rw [← add_field _ _ 5 (by omega)]; exact hc 5 _ rfl, by rw [← add_field _ _ 6 (by omega)]; exact hc 6 _ rfl, by rw [← add_field _ _ 7 (by omega)]; exact hc 7 _ rfl⟩
def rd_L5 (xs : List (List Int)) (i : Int) : (List Int) := xs.getD i.toNat ([] : List Int)
theorem at_L5 {w : World} {A : Option Addr} {n : Nat} {xs : List (List Int)} (h : Kd.C (Kd.slice 3 (Kd.int .i64)) w A n xs) (i : Int) (h0 : 0 ≤ i) (h1 : i < n) : ∃ ad A0 c0, A = some ad ∧ w.cell? (ad.add i.toNat) = some (.slice A0 (rd_L5 xs i).length c0) ∧ (rd_L5 xs i).length ≤ c0 ∧ (Kd.int .i64).C w A0 (rd_L5 xs i).length (rd_L5 xs i) := by
 obtain ⟨ad, c, e, _, hK, hc0⟩ := Kd.C_get h ([] : List Int) i h0 h1
 have hc : ∀ j u, c[j]? = some u → w.cell? (ad.add (i.toNat * 1 + j)) = some u := hc0
 obtain ⟨A0, c0, rfl, l0, g0⟩ := hK
 exact ⟨ad, A0, c0, e, by have hq := hc 0 _ rfl; rwa [Nat.mul_one, Nat.add_zero] at hq, l0, g0⟩
def bung_within.f (a0 : Int) (a1 : Int) (a2 : Int) : Option (Bool) := if a1 ≤ a0 then (some (decide (a0 ≤ a2))) else (some false)
set_option maxHeartbeats 8000000 in
set_option maxRecDepth 100000 in
theorem bung_within.calls (a0 : Int) (a1 : Int) (a2 : Int) (r : Bool) (w : World) (h : bung_within.f a0 a1 a2 = some r) :
  Calls Try.prog 111 #[.int .i64 a0, .int .i64 a1, .int .i64 a2] w fun e w' => e = .returned (.bool r) ∧ Drawn0 w w' := by
 have H : (if a1 ≤ a0 then (some (decide (a0 ≤ a2))) else (some false)) = some r := h
 clear h
 by_cases c4 : a1 ≤ a0
 ·rw [if_pos c4] at H
  have c4b0 : decide (a1 ≤ a0) = true := decide_eq_true c4
  clear c4
  obtain rfl := Option.some.inj H
  go_enter Try.func111, Try.ntmps111
  go_wp2
  go_ret
  exact ⟨by first | rfl | (simp; done) | (simp [*]; done), by repeat (first | exact Drawn0.refl _ | apply Drawn0.step)⟩
 ·rw [if_neg c4] at H
  have c4b0 : decide (a1 ≤ a0) = false := decide_eq_false c4
  clear c4
  obtain rfl := Option.some.inj H
  go_enter Try.func111, Try.ntmps111
  go_wp2
  go_ret
  exact ⟨by first | rfl | (simp; done) | (simp [*]; done), by repeat (first | exact Drawn0.refl _ | apply Drawn0.step)⟩
def bung_isRange.f (a0_0 : Int) (a0_1 : Int) (a1 : Int) (a2 : Int) : Option (Bool) := if a1 ≤ a0_0 then (if a0_0 ≤ a0_1 then (some (decide (a0_1 ≤ a2))) else (some false)) else (some false)
set_option maxHeartbeats 8000000 in
set_option maxRecDepth 100000 in
theorem bung_isRange.calls (a0_0 : Int) (a0_1 : Int) (a1 : Int) (a2 : Int) (r : Bool) (w : World) (h : bung_isRange.f a0_0 a0_1 a1 a2 = some r) :
  Calls Try.prog 139 #[.agg #[.int .i64 a0_0, .int .i64 a0_1], .int .i64 a1, .int .i64 a2] w fun e w' => e = .returned (.bool r) ∧ Below w.heap.size w w' := by
 have hu23 := Try.underlying23
 have HB := pA (Below.refl w.heap.size w)
 have H : (if a1 ≤ a0_0 then (if a0_0 ≤ a0_1 then (some (decide (a0_1 ≤ a2))) else (some false)) else (some false)) = some r := h
 clear h
 by_cases c4 : a1 ≤ a0_0
 ·rw [if_pos c4] at H
  have c4b0 : decide (a1 ≤ a0_0) = true := decide_eq_true c4
  clear c4
  by_cases c5 : a0_0 ≤ a0_1
  ·rw [if_pos c5] at H
   have c5b0 : decide (a0_0 ≤ a0_1) = true := decide_eq_true c5
   clear c5
   obtain rfl := Option.some.inj H
   go_enter Try.func139, Try.ntmps139
   go_wp2_with (first | ((with_reducible refine gate_dst (N := 3) rfl ?_); refine box_event ?hg (N := 3) ?hd (cs := #[.int .i64 a0_0, .int .i64 a0_1]) (t := 23) ?hr ?_; (case hd => rfl); (case hg => rfl); (case hr => first | (go_simp; done) | (go_simp; rfl)); intro gb101 hg w6 hbox hb; have n0_ := pA (below_step (vB HB) hb); have n1_ := pA (hbox); have n2_ := pA ((by rw [hg]; exact (below_size (vB HB)) : w.heap.size ≤ gb101)); have n3_ := pA ((by rw [hg]; exact (below_size (vB HB)) : w.heap.size ≤ gb101)); clear HB; have HB := n0_; have BK101 := n1_; have GW101 := n2_; have GE101 := n3_; clear n0_ n1_ n2_ n3_; clear hb hbox hg; have hcz7_0 : w6.cell? ⟨gb101, 0, none⟩ = some (.int .i64 a0_0) := (blk_cell BK101.out 0).trans rfl; have hcz7_1 : w6.cell? ⟨gb101, 1, none⟩ = some (.int .i64 a0_1) := (blk_cell BK101.out 1).trans rfl; have hfz7_0 := blk_frozen BK101.out 0; have hfz7_1 := blk_frozen BK101.out 1))
   go_ret
   exact ⟨by first | rfl | (simp [errW_none, errW_some] <;> rfl) | (simp [*, errW_none, errW_some] <;> rfl), by repeat (first | (with_reducible first | exact HB.out | apply below_alloc | apply pw_below_drewN | apply below_drew1 | refine below_set ?_ GE101.out) | exact HB.out)⟩
  ·rw [if_neg c5] at H
   have c5b0 : decide (a0_0 ≤ a0_1) = false := decide_eq_false c5
   clear c5
   obtain rfl := Option.some.inj H
   go_enter Try.func139, Try.ntmps139
   go_wp2_with (first | ((with_reducible refine gate_dst (N := 3) rfl ?_); refine box_event ?hg (N := 3) ?hd (cs := #[.int .i64 a0_0, .int .i64 a0_1]) (t := 23) ?hr ?_; (case hd => rfl); (case hg => rfl); (case hr => first | (go_simp; done) | (go_simp; rfl)); intro gb101 hg w8 hbox hb; have n0_ := pA (below_step (vB HB) hb); have n1_ := pA (hbox); have n2_ := pA ((by rw [hg]; exact (below_size (vB HB)) : w.heap.size ≤ gb101)); have n3_ := pA ((by rw [hg]; exact (below_size (vB HB)) : w.heap.size ≤ gb101)); clear HB; have HB := n0_; have BK101 := n1_; have GW101 := n2_; have GE101 := n3_; clear n0_ n1_ n2_ n3_; clear hb hbox hg; have hcz9_0 : w8.cell? ⟨gb101, 0, none⟩ = some (.int .i64 a0_0) := (blk_cell BK101.out 0).trans rfl; have hcz9_1 : w8.cell? ⟨gb101, 1, none⟩ = some (.int .i64 a0_1) := (blk_cell BK101.out 1).trans rfl; have hfz9_0 := blk_frozen BK101.out 0; have hfz9_1 := blk_frozen BK101.out 1))
   go_ret
   exact ⟨by first | rfl | (simp [errW_none, errW_some] <;> rfl) | (simp [*, errW_none, errW_some] <;> rfl), by repeat (first | (with_reducible first | exact HB.out | apply below_alloc | apply pw_below_drewN | apply below_drew1 | refine below_set ?_ GE101.out) | exact HB.out)⟩
 ·rw [if_neg c4] at H
  have c4b0 : decide (a1 ≤ a0_0) = false := decide_eq_false c4
  clear c4
  obtain rfl := Option.some.inj H
  go_enter Try.func139, Try.ntmps139
  go_wp2_with (first | ((with_reducible refine gate_dst (N := 3) rfl ?_); refine box_event ?hg (N := 3) ?hd (cs := #[.int .i64 a0_0, .int .i64 a0_1]) (t := 23) ?hr ?_; (case hd => rfl); (case hg => rfl); (case hr => first | (go_simp; done) | (go_simp; rfl)); intro gb101 hg w10 hbox hb; have n0_ := pA (below_step (vB HB) hb); have n1_ := pA (hbox); have n2_ := pA ((by rw [hg]; exact (below_size (vB HB)) : w.heap.size ≤ gb101)); have n3_ := pA ((by rw [hg]; exact (below_size (vB HB)) : w.heap.size ≤ gb101)); clear HB; have HB := n0_; have BK101 := n1_; have GW101 := n2_; have GE101 := n3_; clear n0_ n1_ n2_ n3_; clear hb hbox hg; have hcz11_0 : w10.cell? ⟨gb101, 0, none⟩ = some (.int .i64 a0_0) := (blk_cell BK101.out 0).trans rfl; have hcz11_1 : w10.cell? ⟨gb101, 1, none⟩ = some (.int .i64 a0_1) := (blk_cell BK101.out 1).trans rfl; have hfz11_0 := blk_frozen BK101.out 0; have hfz11_1 := blk_frozen BK101.out 1))
  go_ret
  exact ⟨by first | rfl | (simp [errW_none, errW_some] <;> rfl) | (simp [*, errW_none, errW_some] <;> rfl), by repeat (first | (with_reducible first | exact HB.out | apply below_alloc | apply pw_below_drewN | apply below_drew1 | refine below_set ?_ GE101.out) | exact HB.out)⟩
def bung_isSaggar.f (a0_0 a0_1 a0_2 a0_3 a0_4 a0_5 a0_6 a0_7 : Int) : Option Bool := ((bung_within.f a0_0 1 999).bind fun t1 => if t1 = true then ((bung_isRange.f a0_1 a0_2 0 10000000).bind fun t2 => if t2 = true then ((bung_isRange.f a0_3 a0_4 0 10000000).bind fun t3 => if t3 = true then ((bung_isRange.f a0_5 a0_6 1 10000).bind fun t4 => if t4 = true then ((bung_within.f a0_7 0 200).bind fun t5 => (some t5)) else (some false)) else (some false)) else (some false)) else (some false))
theorem bung_isSaggar_one (a b c : Int) : ∃ r, bung_within.f a b c = some r := by
  unfold bung_within.f
  split <;> exact ⟨_, rfl⟩
theorem bung_isSaggar_two (a b c d : Int) : ∃ r, bung_isRange.f a b c d = some r := by
 unfold bung_isRange.f
 split
 ·split <;> exact ⟨_, rfl⟩
 ·exact ⟨_, rfl⟩
set_option maxHeartbeats 4000000 in
set_option maxRecDepth 100000 in
theorem bung_isSaggar.calls (a0_0 a0_1 a0_2 a0_3 a0_4 a0_5 a0_6 a0_7 : Int) (r : Bool) (w : World) (h : bung_isSaggar.f a0_0 a0_1 a0_2 a0_3 a0_4 a0_5 a0_6 a0_7 = some r) :
  Calls Try.prog 100 #[.agg #[.int .i64 a0_0, .int .i64 a0_1, .int .i64 a0_2, .int .i64 a0_3, .int .i64 a0_4, .int .i64 a0_5, .int .i64 a0_6, .int .i64 a0_7]] w fun e w' => e = .returned (.bool r) ∧ Below w.heap.size w w' := by
 have HX := pA (heap_alloc_new w (.cells #[.int .i64 a0_0, .int .i64 a0_1, .int .i64 a0_2, .int .i64 a0_3, .int .i64 a0_4, .int .i64 a0_5, .int .i64 a0_6, .int .i64 a0_7] 52 (0, 0)))
 obtain ⟨b1, h1⟩ := bung_isSaggar_one a0_0 1 999
 obtain ⟨b2, h2⟩ := bung_isSaggar_two a0_1 a0_2 0 10000000
 obtain ⟨b3, h3⟩ := bung_isSaggar_two a0_3 a0_4 0 10000000
 obtain ⟨b4, h4⟩ := bung_isSaggar_two a0_5 a0_6 1 10000
 obtain ⟨b5, h5⟩ := bung_isSaggar_one a0_7 0 200
 unfold bung_isSaggar.f at h
 have H1 := pA h1
 have H2 := pA h2
 have H3 := pA h3
 have H4 := pA h4
 have H5 := pA h5
 rw [h1, h2, h3, h4, h5] at h
 simp only [Option.bind_some] at h
 clear h1 h2 h3 h4 h5
 cases b1 with
 | false =>
  simp only [Bool.false_eq_true, if_false, if_true] at h
  obtain rfl := Option.some.inj h
  go_enter Try.func100, Try.ntmps100
  have HB := pA (below_alloc (Below.refl w.heap.size w) (.cells #[.int .i64 a0_0, .int .i64 a0_1, .int .i64 a0_2, .int .i64 a0_3, .int .i64 a0_4, .int .i64 a0_5, .int .i64 a0_6, .int .i64 a0_7] 52 (0, 0)))
  go_wp2_with fail
  refine (bung_within.calls a0_0 1 999 false _ H1.out).mono ?_
  rintro e w1 ⟨rfl, hb⟩
  replace HX := pA (blk_below HX.out hb.below)
  replace HB := pA (below_step HB.out hb.below)
  clear hb
  go_wp2
  go_ret
  exact ⟨rfl, HB.out⟩
 | true =>
  cases b2 with
  | false =>
   simp only [Bool.false_eq_true, if_false, if_true] at h
   obtain rfl := Option.some.inj h
   go_enter Try.func100, Try.ntmps100
   have HB := pA (below_alloc (Below.refl w.heap.size w) (.cells #[.int .i64 a0_0, .int .i64 a0_1, .int .i64 a0_2, .int .i64 a0_3, .int .i64 a0_4, .int .i64 a0_5, .int .i64 a0_6, .int .i64 a0_7] 52 (0, 0)))
   go_wp2_with fail
   refine (bung_within.calls a0_0 1 999 true _ H1.out).mono ?_
   rintro e w1 ⟨rfl, hb⟩
   replace HX := pA (blk_below HX.out hb.below)
   replace HB := pA (below_step HB.out hb.below)
   clear hb
   have y1 := blk_cell HX.out 1
   have y2 := blk_cell HX.out 2
   go_wp2_with fail
   refine (bung_isRange.calls a0_1 a0_2 0 10000000 false _ H2.out).mono ?_
   rintro e w2 ⟨rfl, hb⟩
   replace HX := pA (blk_below HX.out hb)
   replace HB := pA (below_step HB.out hb)
   clear hb y1 y2
   go_wp2
   go_ret
   exact ⟨rfl, HB.out⟩
  | true =>
   cases b3 with
   | false =>
    simp only [Bool.false_eq_true, if_false, if_true] at h
    obtain rfl := Option.some.inj h
    go_enter Try.func100, Try.ntmps100
    have HB := pA (below_alloc (Below.refl w.heap.size w) (.cells #[.int .i64 a0_0, .int .i64 a0_1, .int .i64 a0_2, .int .i64 a0_3, .int .i64 a0_4, .int .i64 a0_5, .int .i64 a0_6, .int .i64 a0_7] 52 (0, 0)))
    go_wp2_with fail
    refine (bung_within.calls a0_0 1 999 true _ H1.out).mono ?_
    rintro e w1 ⟨rfl, hb⟩
    replace HX := pA (blk_below HX.out hb.below)
    replace HB := pA (below_step HB.out hb.below)
    clear hb
    have y1 := blk_cell HX.out 1
    have y2 := blk_cell HX.out 2
    go_wp2_with fail
    refine (bung_isRange.calls a0_1 a0_2 0 10000000 true _ H2.out).mono ?_
    rintro e w2 ⟨rfl, hb⟩
    replace HX := pA (blk_below HX.out hb)
    replace HB := pA (below_step HB.out hb)
    clear hb y1 y2
    have y3 := blk_cell HX.out 3
    have y4 := blk_cell HX.out 4
    go_wp2_with fail
    refine (bung_isRange.calls a0_3 a0_4 0 10000000 false _ H3.out).mono ?_
    rintro e w3 ⟨rfl, hb⟩
    replace HX := pA (blk_below HX.out hb)
    replace HB := pA (below_step HB.out hb)
    clear hb y3 y4
    go_wp2
    go_ret
    exact ⟨rfl, HB.out⟩
   | true =>
    cases b4 with
    | false =>
     simp only [Bool.false_eq_true, if_false, if_true] at h
     obtain rfl := Option.some.inj h
     go_enter Try.func100, Try.ntmps100
     have HB := pA (below_alloc (Below.refl w.heap.size w) (.cells #[.int .i64 a0_0, .int .i64 a0_1, .int .i64 a0_2, .int .i64 a0_3, .int .i64 a0_4, .int .i64 a0_5, .int .i64 a0_6, .int .i64 a0_7] 52 (0, 0)))
     go_wp2_with fail
     refine (bung_within.calls a0_0 1 999 true _ H1.out).mono ?_
     rintro e w1 ⟨rfl, hb⟩
     replace HX := pA (blk_below HX.out hb.below)
     replace HB := pA (below_step HB.out hb.below)
     clear hb
     have y1 := blk_cell HX.out 1
     have y2 := blk_cell HX.out 2
     go_wp2_with fail
     refine (bung_isRange.calls a0_1 a0_2 0 10000000 true _ H2.out).mono ?_
     rintro e w2 ⟨rfl, hb⟩
     replace HX := pA (blk_below HX.out hb)
     replace HB := pA (below_step HB.out hb)
     clear hb y1 y2
     have y3 := blk_cell HX.out 3
     have y4 := blk_cell HX.out 4
     go_wp2_with fail
     refine (bung_isRange.calls a0_3 a0_4 0 10000000 true _ H3.out).mono ?_
     rintro e w3 ⟨rfl, hb⟩
     replace HX := pA (blk_below HX.out hb)
     replace HB := pA (below_step HB.out hb)
     clear hb y3 y4
     have y5 := blk_cell HX.out 5
     have y6 := blk_cell HX.out 6
     go_wp2_with fail
     refine (bung_isRange.calls a0_5 a0_6 1 10000 false _ H4.out).mono ?_
     rintro e w4 ⟨rfl, hb⟩
     replace HX := pA (blk_below HX.out hb)
     replace HB := pA (below_step HB.out hb)
     clear hb y5 y6
     go_wp2
     go_ret
     exact ⟨rfl, HB.out⟩
    | true =>
     cases b5 with
     | false =>
      simp only [if_true] at h
      obtain rfl := Option.some.inj h
      go_enter Try.func100, Try.ntmps100
      have HB := pA (below_alloc (Below.refl w.heap.size w) (.cells #[.int .i64 a0_0, .int .i64 a0_1, .int .i64 a0_2, .int .i64 a0_3, .int .i64 a0_4, .int .i64 a0_5, .int .i64 a0_6, .int .i64 a0_7] 52 (0, 0)))
      go_wp2_with fail
      refine (bung_within.calls a0_0 1 999 true _ H1.out).mono ?_
      rintro e w1 ⟨rfl, hb⟩
      replace HX := pA (blk_below HX.out hb.below)
      replace HB := pA (below_step HB.out hb.below)
      clear hb
      have y1 := blk_cell HX.out 1
      have y2 := blk_cell HX.out 2
      go_wp2_with fail
      refine (bung_isRange.calls a0_1 a0_2 0 10000000 true _ H2.out).mono ?_
      rintro e w2 ⟨rfl, hb⟩
      replace HX := pA (blk_below HX.out hb)
      replace HB := pA (below_step HB.out hb)
      clear hb y1 y2
      have y3 := blk_cell HX.out 3
      have y4 := blk_cell HX.out 4
      go_wp2_with fail
      refine (bung_isRange.calls a0_3 a0_4 0 10000000 true _ H3.out).mono ?_
      rintro e w3 ⟨rfl, hb⟩
      replace HX := pA (blk_below HX.out hb)
      replace HB := pA (below_step HB.out hb)
      clear hb y3 y4
      have y5 := blk_cell HX.out 5
      have y6 := blk_cell HX.out 6
      go_wp2_with fail
      refine (bung_isRange.calls a0_5 a0_6 1 10000 true _ H4.out).mono ?_
      rintro e w4 ⟨rfl, hb⟩
      replace HX := pA (blk_below HX.out hb)
      replace HB := pA (below_step HB.out hb)
      clear hb y5 y6
      have y7 := blk_cell HX.out 7
      go_wp2_with fail
      refine (bung_within.calls a0_7 0 200 false _ H5.out).mono ?_
      rintro e w5 ⟨rfl, hb⟩
      replace HX := pA (blk_below HX.out hb.below)
      replace HB := pA (below_step HB.out hb.below)
      clear hb y7
      go_wp2
      go_ret
      exact ⟨rfl, HB.out⟩
     | true =>
      simp only [if_true] at h
      obtain rfl := Option.some.inj h
      go_enter Try.func100, Try.ntmps100
      have HB := pA (below_alloc (Below.refl w.heap.size w) (.cells #[.int .i64 a0_0, .int .i64 a0_1, .int .i64 a0_2, .int .i64 a0_3, .int .i64 a0_4, .int .i64 a0_5, .int .i64 a0_6, .int .i64 a0_7] 52 (0, 0)))
      go_wp2_with fail
      refine (bung_within.calls a0_0 1 999 true _ H1.out).mono ?_
      rintro e w1 ⟨rfl, hb⟩
      replace HX := pA (blk_below HX.out hb.below)
      replace HB := pA (below_step HB.out hb.below)
      clear hb
      have y1 := blk_cell HX.out 1
      have y2 := blk_cell HX.out 2
      go_wp2_with fail
      refine (bung_isRange.calls a0_1 a0_2 0 10000000 true _ H2.out).mono ?_
      rintro e w2 ⟨rfl, hb⟩
      replace HX := pA (blk_below HX.out hb)
      replace HB := pA (below_step HB.out hb)
      clear hb y1 y2
      have y3 := blk_cell HX.out 3
      have y4 := blk_cell HX.out 4
      go_wp2_with fail
      refine (bung_isRange.calls a0_3 a0_4 0 10000000 true _ H3.out).mono ?_
      rintro e w3 ⟨rfl, hb⟩
      replace HX := pA (blk_below HX.out hb)
      replace HB := pA (below_step HB.out hb)
      clear hb y3 y4
      have y5 := blk_cell HX.out 5
      have y6 := blk_cell HX.out 6
      go_wp2_with fail
      refine (bung_isRange.calls a0_5 a0_6 1 10000 true _ H4.out).mono ?_
      rintro e w4 ⟨rfl, hb⟩
      replace HX := pA (blk_below HX.out hb)
      replace HB := pA (below_step HB.out hb)
      clear hb y5 y6
      have y7 := blk_cell HX.out 7
      go_wp2_with fail
      refine (bung_within.calls a0_7 0 200 true _ H5.out).mono ?_
      rintro e w5 ⟨rfl, hb⟩
      replace HX := pA (blk_below HX.out hb.below)
      replace HB := pA (below_step HB.out hb.below)
      clear hb y7
      go_wp2
      go_ret
      exact ⟨rfl, HB.out⟩
def bung_CheckSaggar.f (a0_0 : Int) (a0_1 : Int) (a0_2 : Int) (a0_3 : Int) (a0_4 : Int) (a0_5 : Int) (a0_6 : Int) (a0_7 : Int) : Option (Int) := (bung_isSaggar.f a0_0 a0_1 a0_2 a0_3 a0_4 a0_5 a0_6 a0_7).bind fun t525 => (if t525 = true then (some 0) else (some 30))
set_option maxHeartbeats 8000000 in
set_option maxRecDepth 100000 in
theorem bung_CheckSaggar.calls (a0_0 : Int) (a0_1 : Int) (a0_2 : Int) (a0_3 : Int) (a0_4 : Int) (a0_5 : Int) (a0_6 : Int) (a0_7 : Int) (r : Int) (w : World) (h : bung_CheckSaggar.f a0_0 a0_1 a0_2 a0_3 a0_4 a0_5 a0_6 a0_7 = some r) :
  Calls Try.prog 45 #[.agg #[.int .i64 a0_0, .int .i64 a0_1, .int .i64 a0_2, .int .i64 a0_3, .int .i64 a0_4, .int .i64 a0_5, .int .i64 a0_6, .int .i64 a0_7]] w fun e w' => e = .returned (.int .i64 r) ∧ Below w.heap.size w w' := by
 have hu52 := Try.underlying52
 have HB := pA (Below.refl w.heap.size w)
 have H : ((bung_isSaggar.f a0_0 a0_1 a0_2 a0_3 a0_4 a0_5 a0_6 a0_7).bind fun t525 => (if t525 = true then (some 0) else (some 30))) = some r := h
 clear h
 replace H := Option.bind_eq_some_iff.mp H
 obtain ⟨t525, A20, H⟩ := H
 replace H : (if t525 = true then (some 0) else (some 30)) = some r := H
 have A2 := pA A20
 clear A20
 by_cases c3 : t525 = true
 ·subst c3
  have H1 : (some 0) = some r := by rw [if_pos rfl] at H; exact H
  clear H
  have H := H1
  clear H1
  obtain rfl := Option.some.inj H
  go_enter Try.func45, Try.ntmps45
  go_wp2_with (first | ((with_reducible refine gate_dst (N := 1) rfl ?_); refine box_event ?hg (N := 1) ?hd (cs := #[.int .i64 a0_0, .int .i64 a0_1, .int .i64 a0_2, .int .i64 a0_3, .int .i64 a0_4, .int .i64 a0_5, .int .i64 a0_6, .int .i64 a0_7]) (t := 52) ?hr ?_; (case hd => rfl); (case hg => rfl); (case hr => first | (go_simp; done) | (go_simp; rfl)); intro gb524 hg w4 hbox hb; have n0_ := pA (below_step (vB HB) hb); have n1_ := pA (hbox); have n2_ := pA ((by rw [hg]; exact (below_size (vB HB)) : w.heap.size ≤ gb524)); have n3_ := pA ((by rw [hg]; exact (below_size (vB HB)) : w.heap.size ≤ gb524)); clear HB; have HB := n0_; have BK524 := n1_; have GW524 := n2_; have GE524 := n3_; clear n0_ n1_ n2_ n3_; clear hb hbox hg; have hcz5_0 : w4.cell? ⟨gb524, 0, none⟩ = some (.int .i64 a0_0) := (blk_cell BK524.out 0).trans rfl; have hcz5_1 : w4.cell? ⟨gb524, 1, none⟩ = some (.int .i64 a0_1) := (blk_cell BK524.out 1).trans rfl; have hcz5_2 : w4.cell? ⟨gb524, 2, none⟩ = some (.int .i64 a0_2) := (blk_cell BK524.out 2).trans rfl; have hcz5_3 : w4.cell? ⟨gb524, 3, none⟩ = some (.int .i64 a0_3) := (blk_cell BK524.out 3).trans rfl; have hcz5_4 : w4.cell? ⟨gb524, 4, none⟩ = some (.int .i64 a0_4) := (blk_cell BK524.out 4).trans rfl; have hcz5_5 : w4.cell? ⟨gb524, 5, none⟩ = some (.int .i64 a0_5) := (blk_cell BK524.out 5).trans rfl; have hcz5_6 : w4.cell? ⟨gb524, 6, none⟩ = some (.int .i64 a0_6) := (blk_cell BK524.out 6).trans rfl; have hcz5_7 : w4.cell? ⟨gb524, 7, none⟩ = some (.int .i64 a0_7) := (blk_cell BK524.out 7).trans rfl; have hfz5_0 := blk_frozen BK524.out 0; have hfz5_1 := blk_frozen BK524.out 1; have hfz5_2 := blk_frozen BK524.out 2; have hfz5_3 := blk_frozen BK524.out 3; have hfz5_4 := blk_frozen BK524.out 4; have hfz5_5 := blk_frozen BK524.out 5; have hfz5_6 := blk_frozen BK524.out 6; have hfz5_7 := blk_frozen BK524.out 7) | ((with_reducible refine aF (f := 100) rfl ?_); refine goesL_ (some 4) rfl rfl Try.func100 (by kernel_rfl) rfl #[.agg #[.int .i64 a0_0, .int .i64 a0_1, .int .i64 a0_2, .int .i64 a0_3, .int .i64 a0_4, .int .i64 a0_5, .int .i64 a0_6, .int .i64 a0_7]] rfl (by (try simp only [pE, pF, pG]); first | done | rfl | (simp only [pH, pI]; rfl)) ?_; (with_reducible refine (bung_isSaggar.calls a0_0 a0_1 a0_2 a0_3 a0_4 a0_5 a0_6 a0_7 true _ A2.out).mono ?_); rintro e w6 ⟨rfl, hb⟩; refine ⟨_, rfl, ?_⟩; have n0_ := pA (blk_below (g := gb524) (o := .cells #[.int .i64 a0_0, .int .i64 a0_1, .int .i64 a0_2, .int .i64 a0_3, .int .i64 a0_4, .int .i64 a0_5, .int .i64 a0_6, .int .i64 a0_7] 52 (0, 0)) (vK BK524) hb); have n1_ := pA (below_step (by repeat (first | (with_reducible first | exact HB.out | apply below_alloc | apply pw_below_drewN | apply below_drew1 | refine below_set ?_ GE524.out) | exact HB.out)) hb); clear BK524; clear HB; have BK524 := n0_; have HB := n1_; clear n0_ n1_; (try clear hb); (try clear hb2); (try clear hk); (try clear hi)))
  go_ret
  exact ⟨by first | rfl | (simp [errW_none, errW_some] <;> rfl) | (simp [*, errW_none, errW_some] <;> rfl), by repeat (first | (with_reducible first | exact HB.out | apply below_alloc | apply pw_below_drewN | apply below_drew1 | refine below_set ?_ GE524.out) | exact HB.out)⟩
 ·replace c3 := Bool.eq_false_iff.mpr c3
  subst c3
  have H1 : (some 30) = some r := by rw [if_neg (show ¬ (false = true) by decide)] at H; exact H
  clear H
  have H := H1
  clear H1
  obtain rfl := Option.some.inj H
  go_enter Try.func45, Try.ntmps45
  go_wp2_with (first | ((with_reducible refine gate_dst (N := 1) rfl ?_); refine box_event ?hg (N := 1) ?hd (cs := #[.int .i64 a0_0, .int .i64 a0_1, .int .i64 a0_2, .int .i64 a0_3, .int .i64 a0_4, .int .i64 a0_5, .int .i64 a0_6, .int .i64 a0_7]) (t := 52) ?hr ?_; (case hd => rfl); (case hg => rfl); (case hr => first | (go_simp; done) | (go_simp; rfl)); intro gb524 hg w7 hbox hb; have n0_ := pA (below_step (vB HB) hb); have n1_ := pA (hbox); have n2_ := pA ((by rw [hg]; exact (below_size (vB HB)) : w.heap.size ≤ gb524)); have n3_ := pA ((by rw [hg]; exact (below_size (vB HB)) : w.heap.size ≤ gb524)); clear HB; have HB := n0_; have BK524 := n1_; have GW524 := n2_; have GE524 := n3_; clear n0_ n1_ n2_ n3_; clear hb hbox hg; have hcz8_0 : w7.cell? ⟨gb524, 0, none⟩ = some (.int .i64 a0_0) := (blk_cell BK524.out 0).trans rfl; have hcz8_1 : w7.cell? ⟨gb524, 1, none⟩ = some (.int .i64 a0_1) := (blk_cell BK524.out 1).trans rfl; have hcz8_2 : w7.cell? ⟨gb524, 2, none⟩ = some (.int .i64 a0_2) := (blk_cell BK524.out 2).trans rfl; have hcz8_3 : w7.cell? ⟨gb524, 3, none⟩ = some (.int .i64 a0_3) := (blk_cell BK524.out 3).trans rfl; have hcz8_4 : w7.cell? ⟨gb524, 4, none⟩ = some (.int .i64 a0_4) := (blk_cell BK524.out 4).trans rfl; have hcz8_5 : w7.cell? ⟨gb524, 5, none⟩ = some (.int .i64 a0_5) := (blk_cell BK524.out 5).trans rfl; have hcz8_6 : w7.cell? ⟨gb524, 6, none⟩ = some (.int .i64 a0_6) := (blk_cell BK524.out 6).trans rfl; have hcz8_7 : w7.cell? ⟨gb524, 7, none⟩ = some (.int .i64 a0_7) := (blk_cell BK524.out 7).trans rfl; have hfz8_0 := blk_frozen BK524.out 0; have hfz8_1 := blk_frozen BK524.out 1; have hfz8_2 := blk_frozen BK524.out 2; have hfz8_3 := blk_frozen BK524.out 3; have hfz8_4 := blk_frozen BK524.out 4; have hfz8_5 := blk_frozen BK524.out 5; have hfz8_6 := blk_frozen BK524.out 6; have hfz8_7 := blk_frozen BK524.out 7) | ((with_reducible refine aF (f := 100) rfl ?_); refine goesL_ (some 4) rfl rfl Try.func100 (by kernel_rfl) rfl #[.agg #[.int .i64 a0_0, .int .i64 a0_1, .int .i64 a0_2, .int .i64 a0_3, .int .i64 a0_4, .int .i64 a0_5, .int .i64 a0_6, .int .i64 a0_7]] rfl (by (try simp only [pE, pF, pG]); first | done | rfl | (simp only [pH, pI]; rfl)) ?_; (with_reducible refine (bung_isSaggar.calls a0_0 a0_1 a0_2 a0_3 a0_4 a0_5 a0_6 a0_7 false _ A2.out).mono ?_); rintro e w9 ⟨rfl, hb⟩; refine ⟨_, rfl, ?_⟩; have n0_ := pA (blk_below (g := gb524) (o := .cells #[.int .i64 a0_0, .int .i64 a0_1, .int .i64 a0_2, .int .i64 a0_3, .int .i64 a0_4, .int .i64 a0_5, .int .i64 a0_6, .int .i64 a0_7] 52 (0, 0)) (vK BK524) hb); have n1_ := pA (below_step (by repeat (first | (with_reducible first | exact HB.out | apply below_alloc | apply pw_below_drewN | apply below_drew1 | refine below_set ?_ GE524.out) | exact HB.out)) hb); clear BK524; clear HB; have BK524 := n0_; have HB := n1_; clear n0_ n1_; (try clear hb); (try clear hb2); (try clear hk); (try clear hi)))
  go_ret
  exact ⟨by first | rfl | (simp [errW_none, errW_some] <;> rfl) | (simp [*, errW_none, errW_some] <;> rfl), by repeat (first | (with_reducible first | exact HB.out | apply below_alloc | apply pw_below_drewN | apply below_drew1 | refine below_set ?_ GE524.out) | exact HB.out)⟩
def potbankref03_In.f (a0 : Int) (a1 : Int) (a2 : Int) : Option (Bool) := if a0 ≥ a1 then (some (decide (a0 ≤ a2))) else (some false)
set_option maxHeartbeats 8000000 in
set_option maxRecDepth 100000 in
theorem potbankref03_In.calls (a0 : Int) (a1 : Int) (a2 : Int) (r : Bool) (w : World) (h : potbankref03_In.f a0 a1 a2 = some r) :
  Calls Try.prog 101 #[.int .i64 a0, .int .i64 a1, .int .i64 a2] w fun e w' => e = .returned (.bool r) ∧ Drawn0 w w' := by
 have H : (if a0 ≥ a1 then (some (decide (a0 ≤ a2))) else (some false)) = some r := h
 clear h
 by_cases c4 : a0 ≥ a1
 ·rw [if_pos c4] at H
  have c4b0 : decide (a1 ≤ a0) = true := decide_eq_true c4
  clear c4
  obtain rfl := Option.some.inj H
  go_enter Try.func101, Try.ntmps101
  go_wp2
  go_ret
  exact ⟨by first | rfl | (simp; done) | (simp [*]; done), by repeat (first | exact Drawn0.refl _ | apply Drawn0.step)⟩
 ·rw [if_neg c4] at H
  have c4b0 : decide (a1 ≤ a0) = false := decide_eq_false c4
  clear c4
  obtain rfl := Option.some.inj H
  go_enter Try.func101, Try.ntmps101
  go_wp2
  go_ret
  exact ⟨by first | rfl | (simp; done) | (simp [*]; done), by repeat (first | exact Drawn0.refl _ | apply Drawn0.step)⟩
def potbankref03_part.f (a0_0 : Int) (a0_1 : Int) (a1 : Int) (a2 : Int) : Option (Bool) := if a0_0 ≥ a1 then (if a0_0 ≤ a0_1 then (some (decide (a0_1 ≤ a2))) else (some false)) else (some false)
set_option maxHeartbeats 8000000 in
set_option maxRecDepth 100000 in
theorem potbankref03_part.calls (a0_0 : Int) (a0_1 : Int) (a1 : Int) (a2 : Int) (r : Bool) (w : World) (h : potbankref03_part.f a0_0 a0_1 a1 a2 = some r) :
  Calls Try.prog 102 #[.agg #[.int .i64 a0_0, .int .i64 a0_1], .int .i64 a1, .int .i64 a2] w fun e w' => e = .returned (.bool r) ∧ Below w.heap.size w w' := by
 have hu23 := Try.underlying23
 have HB := pA (Below.refl w.heap.size w)
 have H : (if a0_0 ≥ a1 then (if a0_0 ≤ a0_1 then (some (decide (a0_1 ≤ a2))) else (some false)) else (some false)) = some r := h
 clear h
 by_cases c4 : a0_0 ≥ a1
 ·rw [if_pos c4] at H
  have c4b0 : decide (a1 ≤ a0_0) = true := decide_eq_true c4
  clear c4
  by_cases c5 : a0_0 ≤ a0_1
  ·rw [if_pos c5] at H
   have c5b0 : decide (a0_0 ≤ a0_1) = true := decide_eq_true c5
   clear c5
   obtain rfl := Option.some.inj H
   go_enter Try.func102, Try.ntmps102
   go_wp2_with (first | ((with_reducible refine gate_dst (N := 3) rfl ?_); refine box_event ?hg (N := 3) ?hd (cs := #[.int .i64 a0_0, .int .i64 a0_1]) (t := 23) ?hr ?_; (case hd => rfl); (case hg => rfl); (case hr => first | (go_simp; done) | (go_simp; rfl)); intro gb224 hg w6 hbox hb; have n0_ := pA (below_step (vB HB) hb); have n1_ := pA (hbox); have n2_ := pA ((by rw [hg]; exact (below_size (vB HB)) : w.heap.size ≤ gb224)); have n3_ := pA ((by rw [hg]; exact (below_size (vB HB)) : w.heap.size ≤ gb224)); clear HB; have HB := n0_; have BK224 := n1_; have GW224 := n2_; have GE224 := n3_; clear n0_ n1_ n2_ n3_; clear hb hbox hg; have hcz7_0 : w6.cell? ⟨gb224, 0, none⟩ = some (.int .i64 a0_0) := (blk_cell BK224.out 0).trans rfl; have hcz7_1 : w6.cell? ⟨gb224, 1, none⟩ = some (.int .i64 a0_1) := (blk_cell BK224.out 1).trans rfl; have hfz7_0 := blk_frozen BK224.out 0; have hfz7_1 := blk_frozen BK224.out 1))
   go_ret
   exact ⟨by first | rfl | (simp [errW_none, errW_some] <;> rfl) | (simp [*, errW_none, errW_some] <;> rfl), by repeat (first | (with_reducible first | exact HB.out | apply below_alloc | apply pw_below_drewN | apply below_drew1 | refine below_set ?_ GE224.out) | exact HB.out)⟩
  ·rw [if_neg c5] at H
   have c5b0 : decide (a0_0 ≤ a0_1) = false := decide_eq_false c5
   clear c5
   obtain rfl := Option.some.inj H
   go_enter Try.func102, Try.ntmps102
   go_wp2_with (first | ((with_reducible refine gate_dst (N := 3) rfl ?_); refine box_event ?hg (N := 3) ?hd (cs := #[.int .i64 a0_0, .int .i64 a0_1]) (t := 23) ?hr ?_; (case hd => rfl); (case hg => rfl); (case hr => first | (go_simp; done) | (go_simp; rfl)); intro gb224 hg w8 hbox hb; have n0_ := pA (below_step (vB HB) hb); have n1_ := pA (hbox); have n2_ := pA ((by rw [hg]; exact (below_size (vB HB)) : w.heap.size ≤ gb224)); have n3_ := pA ((by rw [hg]; exact (below_size (vB HB)) : w.heap.size ≤ gb224)); clear HB; have HB := n0_; have BK224 := n1_; have GW224 := n2_; have GE224 := n3_; clear n0_ n1_ n2_ n3_; clear hb hbox hg; have hcz9_0 : w8.cell? ⟨gb224, 0, none⟩ = some (.int .i64 a0_0) := (blk_cell BK224.out 0).trans rfl; have hcz9_1 : w8.cell? ⟨gb224, 1, none⟩ = some (.int .i64 a0_1) := (blk_cell BK224.out 1).trans rfl; have hfz9_0 := blk_frozen BK224.out 0; have hfz9_1 := blk_frozen BK224.out 1))
   go_ret
   exact ⟨by first | rfl | (simp [errW_none, errW_some] <;> rfl) | (simp [*, errW_none, errW_some] <;> rfl), by repeat (first | (with_reducible first | exact HB.out | apply below_alloc | apply pw_below_drewN | apply below_drew1 | refine below_set ?_ GE224.out) | exact HB.out)⟩
 ·rw [if_neg c4] at H
  have c4b0 : decide (a1 ≤ a0_0) = false := decide_eq_false c4
  clear c4
  obtain rfl := Option.some.inj H
  go_enter Try.func102, Try.ntmps102
  go_wp2_with (first | ((with_reducible refine gate_dst (N := 3) rfl ?_); refine box_event ?hg (N := 3) ?hd (cs := #[.int .i64 a0_0, .int .i64 a0_1]) (t := 23) ?hr ?_; (case hd => rfl); (case hg => rfl); (case hr => first | (go_simp; done) | (go_simp; rfl)); intro gb224 hg w10 hbox hb; have n0_ := pA (below_step (vB HB) hb); have n1_ := pA (hbox); have n2_ := pA ((by rw [hg]; exact (below_size (vB HB)) : w.heap.size ≤ gb224)); have n3_ := pA ((by rw [hg]; exact (below_size (vB HB)) : w.heap.size ≤ gb224)); clear HB; have HB := n0_; have BK224 := n1_; have GW224 := n2_; have GE224 := n3_; clear n0_ n1_ n2_ n3_; clear hb hbox hg; have hcz11_0 : w10.cell? ⟨gb224, 0, none⟩ = some (.int .i64 a0_0) := (blk_cell BK224.out 0).trans rfl; have hcz11_1 : w10.cell? ⟨gb224, 1, none⟩ = some (.int .i64 a0_1) := (blk_cell BK224.out 1).trans rfl; have hfz11_0 := blk_frozen BK224.out 0; have hfz11_1 := blk_frozen BK224.out 1))
  go_ret
  exact ⟨by first | rfl | (simp [errW_none, errW_some] <;> rfl) | (simp [*, errW_none, errW_some] <;> rfl), by repeat (first | (with_reducible first | exact HB.out | apply below_alloc | apply pw_below_drewN | apply below_drew1 | refine below_set ?_ GE224.out) | exact HB.out)⟩
def potbankref03_CheckSaggar.f (a0_0 a0_1 a0_2 a0_3 a0_4 a0_5 a0_6 a0_7 : Int) : Option Int := ((potbankref03_In.f a0_0 1 999).bind fun t1 => if t1 = true then ((potbankref03_part.f a0_1 a0_2 0 10000000).bind fun t2 => if t2 = true then ((potbankref03_part.f a0_3 a0_4 0 10000000).bind fun t3 => if t3 = true then ((potbankref03_part.f a0_5 a0_6 1 10000).bind fun t4 => if t4 = true then ((potbankref03_In.f a0_7 0 200).bind fun t5 => (if t5 = true then (some 0) else (some 30))) else (some 30)) else (some 30)) else (some 30)) else (some 30))
theorem potbankref03_CheckSaggar_one (a b c : Int) : ∃ r, potbankref03_In.f a b c = some r := by
  unfold potbankref03_In.f
  split <;> exact ⟨_, rfl⟩
theorem potbankref03_CheckSaggar_two (a b c d : Int) : ∃ r, potbankref03_part.f a b c d = some r := by
 unfold potbankref03_part.f
 split
 ·split <;> exact ⟨_, rfl⟩
 ·exact ⟨_, rfl⟩
set_option maxHeartbeats 4000000 in
set_option maxRecDepth 100000 in
theorem potbankref03_CheckSaggar.calls (a0_0 a0_1 a0_2 a0_3 a0_4 a0_5 a0_6 a0_7 : Int) (r : Int) (w : World) (h : potbankref03_CheckSaggar.f a0_0 a0_1 a0_2 a0_3 a0_4 a0_5 a0_6 a0_7 = some r) :
  Calls Try.prog 46 #[.agg #[.int .i64 a0_0, .int .i64 a0_1, .int .i64 a0_2, .int .i64 a0_3, .int .i64 a0_4, .int .i64 a0_5, .int .i64 a0_6, .int .i64 a0_7]] w fun e w' => e = .returned (.int .i64 r) ∧ Below w.heap.size w w' := by
 have HX := pA (heap_alloc_new w (.cells #[.int .i64 a0_0, .int .i64 a0_1, .int .i64 a0_2, .int .i64 a0_3, .int .i64 a0_4, .int .i64 a0_5, .int .i64 a0_6, .int .i64 a0_7] 52 (0, 0)))
 obtain ⟨b1, h1⟩ := potbankref03_CheckSaggar_one a0_0 1 999
 obtain ⟨b2, h2⟩ := potbankref03_CheckSaggar_two a0_1 a0_2 0 10000000
 obtain ⟨b3, h3⟩ := potbankref03_CheckSaggar_two a0_3 a0_4 0 10000000
 obtain ⟨b4, h4⟩ := potbankref03_CheckSaggar_two a0_5 a0_6 1 10000
 obtain ⟨b5, h5⟩ := potbankref03_CheckSaggar_one a0_7 0 200
 unfold potbankref03_CheckSaggar.f at h
 have H1 := pA h1
 have H2 := pA h2
 have H3 := pA h3
 have H4 := pA h4
 have H5 := pA h5
 rw [h1, h2, h3, h4, h5] at h
 simp only [Option.bind_some] at h
 clear h1 h2 h3 h4 h5
 cases b1 with
 | false =>
  simp only [Bool.false_eq_true, if_false, if_true] at h
  obtain rfl := Option.some.inj h
  go_enter Try.func46, Try.ntmps46
  have HB := pA (below_alloc (Below.refl w.heap.size w) (.cells #[.int .i64 a0_0, .int .i64 a0_1, .int .i64 a0_2, .int .i64 a0_3, .int .i64 a0_4, .int .i64 a0_5, .int .i64 a0_6, .int .i64 a0_7] 52 (0, 0)))
  go_wp2_with fail
  refine (potbankref03_In.calls a0_0 1 999 false _ H1.out).mono ?_
  rintro e w1 ⟨rfl, hb⟩
  replace HX := pA (blk_below HX.out hb.below)
  replace HB := pA (below_step HB.out hb.below)
  clear hb
  go_wp2
  go_ret
  exact ⟨rfl, HB.out⟩
 | true =>
  cases b2 with
  | false =>
   simp only [Bool.false_eq_true, if_false, if_true] at h
   obtain rfl := Option.some.inj h
   go_enter Try.func46, Try.ntmps46
   have HB := pA (below_alloc (Below.refl w.heap.size w) (.cells #[.int .i64 a0_0, .int .i64 a0_1, .int .i64 a0_2, .int .i64 a0_3, .int .i64 a0_4, .int .i64 a0_5, .int .i64 a0_6, .int .i64 a0_7] 52 (0, 0)))
   go_wp2_with fail
   refine (potbankref03_In.calls a0_0 1 999 true _ H1.out).mono ?_
   rintro e w1 ⟨rfl, hb⟩
   replace HX := pA (blk_below HX.out hb.below)
   replace HB := pA (below_step HB.out hb.below)
   clear hb
   have y1 := blk_cell HX.out 1
   have y2 := blk_cell HX.out 2
   go_wp2_with fail
   refine (potbankref03_part.calls a0_1 a0_2 0 10000000 false _ H2.out).mono ?_
   rintro e w2 ⟨rfl, hb⟩
   replace HX := pA (blk_below HX.out hb)
   replace HB := pA (below_step HB.out hb)
   clear hb y1 y2
   go_wp2
   go_ret
   exact ⟨rfl, HB.out⟩
  | true =>
   cases b3 with
   | false =>
    simp only [Bool.false_eq_true, if_false, if_true] at h
    obtain rfl := Option.some.inj h
    go_enter Try.func46, Try.ntmps46
    have HB := pA (below_alloc (Below.refl w.heap.size w) (.cells #[.int .i64 a0_0, .int .i64 a0_1, .int .i64 a0_2, .int .i64 a0_3, .int .i64 a0_4, .int .i64 a0_5, .int .i64 a0_6, .int .i64 a0_7] 52 (0, 0)))
    go_wp2_with fail
    refine (potbankref03_In.calls a0_0 1 999 true _ H1.out).mono ?_
    rintro e w1 ⟨rfl, hb⟩
    replace HX := pA (blk_below HX.out hb.below)
    replace HB := pA (below_step HB.out hb.below)
    clear hb
    have y1 := blk_cell HX.out 1
    have y2 := blk_cell HX.out 2
    go_wp2_with fail
    refine (potbankref03_part.calls a0_1 a0_2 0 10000000 true _ H2.out).mono ?_
    rintro e w2 ⟨rfl, hb⟩
    replace HX := pA (blk_below HX.out hb)
    replace HB := pA (below_step HB.out hb)
    clear hb y1 y2
    have y3 := blk_cell HX.out 3
    have y4 := blk_cell HX.out 4
    go_wp2_with fail
    refine (potbankref03_part.calls a0_3 a0_4 0 10000000 false _ H3.out).mono ?_
    rintro e w3 ⟨rfl, hb⟩
    replace HX := pA (blk_below HX.out hb)
    replace HB := pA (below_step HB.out hb)
    clear hb y3 y4
    go_wp2
    go_ret
    exact ⟨rfl, HB.out⟩
   | true =>
    cases b4 with
    | false =>
     simp only [Bool.false_eq_true, if_false, if_true] at h
     obtain rfl := Option.some.inj h
     go_enter Try.func46, Try.ntmps46
     have HB := pA (below_alloc (Below.refl w.heap.size w) (.cells #[.int .i64 a0_0, .int .i64 a0_1, .int .i64 a0_2, .int .i64 a0_3, .int .i64 a0_4, .int .i64 a0_5, .int .i64 a0_6, .int .i64 a0_7] 52 (0, 0)))
     go_wp2_with fail
     refine (potbankref03_In.calls a0_0 1 999 true _ H1.out).mono ?_
     rintro e w1 ⟨rfl, hb⟩
     replace HX := pA (blk_below HX.out hb.below)
     replace HB := pA (below_step HB.out hb.below)
     clear hb
     have y1 := blk_cell HX.out 1
     have y2 := blk_cell HX.out 2
     go_wp2_with fail
     refine (potbankref03_part.calls a0_1 a0_2 0 10000000 true _ H2.out).mono ?_
     rintro e w2 ⟨rfl, hb⟩
     replace HX := pA (blk_below HX.out hb)
     replace HB := pA (below_step HB.out hb)
     clear hb y1 y2
     have y3 := blk_cell HX.out 3
     have y4 := blk_cell HX.out 4
     go_wp2_with fail
     refine (potbankref03_part.calls a0_3 a0_4 0 10000000 true _ H3.out).mono ?_
     rintro e w3 ⟨rfl, hb⟩
     replace HX := pA (blk_below HX.out hb)
     replace HB := pA (below_step HB.out hb)
     clear hb y3 y4
     have y5 := blk_cell HX.out 5
     have y6 := blk_cell HX.out 6
     go_wp2_with fail
     refine (potbankref03_part.calls a0_5 a0_6 1 10000 false _ H4.out).mono ?_
     rintro e w4 ⟨rfl, hb⟩
     replace HX := pA (blk_below HX.out hb)
     replace HB := pA (below_step HB.out hb)
     clear hb y5 y6
     go_wp2
     go_ret
     exact ⟨rfl, HB.out⟩
    | true =>
     cases b5 with
     | false =>
      simp only [Bool.false_eq_true, if_false, if_true] at h
      obtain rfl := Option.some.inj h
      go_enter Try.func46, Try.ntmps46
      have HB := pA (below_alloc (Below.refl w.heap.size w) (.cells #[.int .i64 a0_0, .int .i64 a0_1, .int .i64 a0_2, .int .i64 a0_3, .int .i64 a0_4, .int .i64 a0_5, .int .i64 a0_6, .int .i64 a0_7] 52 (0, 0)))
      go_wp2_with fail
      refine (potbankref03_In.calls a0_0 1 999 true _ H1.out).mono ?_
      rintro e w1 ⟨rfl, hb⟩
      replace HX := pA (blk_below HX.out hb.below)
      replace HB := pA (below_step HB.out hb.below)
      clear hb
      have y1 := blk_cell HX.out 1
      have y2 := blk_cell HX.out 2
      go_wp2_with fail
      refine (potbankref03_part.calls a0_1 a0_2 0 10000000 true _ H2.out).mono ?_
      rintro e w2 ⟨rfl, hb⟩
      replace HX := pA (blk_below HX.out hb)
      replace HB := pA (below_step HB.out hb)
      clear hb y1 y2
      have y3 := blk_cell HX.out 3
      have y4 := blk_cell HX.out 4
      go_wp2_with fail
      refine (potbankref03_part.calls a0_3 a0_4 0 10000000 true _ H3.out).mono ?_
      rintro e w3 ⟨rfl, hb⟩
      replace HX := pA (blk_below HX.out hb)
      replace HB := pA (below_step HB.out hb)
      clear hb y3 y4
      have y5 := blk_cell HX.out 5
      have y6 := blk_cell HX.out 6
      go_wp2_with fail
      refine (potbankref03_part.calls a0_5 a0_6 1 10000 true _ H4.out).mono ?_
      rintro e w4 ⟨rfl, hb⟩
      replace HX := pA (blk_below HX.out hb)
      replace HB := pA (below_step HB.out hb)
      clear hb y5 y6
      have y7 := blk_cell HX.out 7
      go_wp2_with fail
      refine (potbankref03_In.calls a0_7 0 200 false _ H5.out).mono ?_
      rintro e w5 ⟨rfl, hb⟩
      replace HX := pA (blk_below HX.out hb.below)
      replace HB := pA (below_step HB.out hb.below)
      clear hb y7
      go_wp2
      go_ret
      exact ⟨rfl, HB.out⟩
     | true =>
      simp only [if_true] at h
      obtain rfl := Option.some.inj h
      go_enter Try.func46, Try.ntmps46
      have HB := pA (below_alloc (Below.refl w.heap.size w) (.cells #[.int .i64 a0_0, .int .i64 a0_1, .int .i64 a0_2, .int .i64 a0_3, .int .i64 a0_4, .int .i64 a0_5, .int .i64 a0_6, .int .i64 a0_7] 52 (0, 0)))
      go_wp2_with fail
      refine (potbankref03_In.calls a0_0 1 999 true _ H1.out).mono ?_
      rintro e w1 ⟨rfl, hb⟩
      replace HX := pA (blk_below HX.out hb.below)
      replace HB := pA (below_step HB.out hb.below)
      clear hb
      have y1 := blk_cell HX.out 1
      have y2 := blk_cell HX.out 2
      go_wp2_with fail
      refine (potbankref03_part.calls a0_1 a0_2 0 10000000 true _ H2.out).mono ?_
      rintro e w2 ⟨rfl, hb⟩
      replace HX := pA (blk_below HX.out hb)
      replace HB := pA (below_step HB.out hb)
      clear hb y1 y2
      have y3 := blk_cell HX.out 3
      have y4 := blk_cell HX.out 4
      go_wp2_with fail
      refine (potbankref03_part.calls a0_3 a0_4 0 10000000 true _ H3.out).mono ?_
      rintro e w3 ⟨rfl, hb⟩
      replace HX := pA (blk_below HX.out hb)
      replace HB := pA (below_step HB.out hb)
      clear hb y3 y4
      have y5 := blk_cell HX.out 5
      have y6 := blk_cell HX.out 6
      go_wp2_with fail
      refine (potbankref03_part.calls a0_5 a0_6 1 10000 true _ H4.out).mono ?_
      rintro e w4 ⟨rfl, hb⟩
      replace HX := pA (blk_below HX.out hb)
      replace HB := pA (below_step HB.out hb)
      clear hb y5 y6
      have y7 := blk_cell HX.out 7
      go_wp2_with fail
      refine (potbankref03_In.calls a0_7 0 200 true _ H5.out).mono ?_
      rintro e w5 ⟨rfl, hb⟩
      replace HX := pA (blk_below HX.out hb.below)
      replace HB := pA (below_step HB.out hb.below)
      clear hb y7
      go_wp2
      go_ret
      exact ⟨rfl, HB.out⟩
/-- Is a saggar valid? -/
def vSag (s : S52) : Bool :=
  decide (1 ≤ s.f0 ∧ s.f0 ≤ 999 ∧ 0 ≤ s.f1.f0 ∧ s.f1.f0 ≤ s.f1.f1 ∧ s.f1.f1 ≤ 10000000 ∧ 0 ≤ s.f2.f0 ∧ s.f2.f0 ≤ s.f2.f1 ∧ s.f2.f1 ≤ 10000000 ∧ 1 ≤ s.f3.f0 ∧ s.f3.f0 ≤ s.f3.f1 ∧ s.f3.f1 ≤ 10000 ∧ 0 ≤ s.f4 ∧ s.f4 ≤ 200)
theorem isSaggar_eq (s : S52) : bung_isSaggar.f s.f0 s.f1.f0 s.f1.f1 s.f2.f0 s.f2.f1 s.f3.f0 s.f3.f1 s.f4 = some (vSag s) := by
 unfold bung_isSaggar.f bung_within.f bung_isRange.f vSag
 by_cases h1 : (1 : Int) ≤ s.f0 <;> by_cases h2 : s.f0 ≤ 999 <;> simp [h1, h2]
 by_cases h3 : (0 : Int) ≤ s.f1.f0 <;> by_cases h4 : s.f1.f0 ≤ s.f1.f1 <;> by_cases h5 : s.f1.f1 ≤ 10000000 <;> simp [h3, h4, h5]
 by_cases h3 : (0 : Int) ≤ s.f2.f0 <;> by_cases h4 : s.f2.f0 ≤ s.f2.f1 <;> by_cases h5 : s.f2.f1 ≤ 10000000 <;> simp [h3, h4, h5]
 by_cases h3 : (1 : Int) ≤ s.f3.f0 <;> by_cases h4 : s.f3.f0 ≤ s.f3.f1 <;> by_cases h5 : s.f3.f1 ≤ 10000 <;> simp [h3, h4, h5]
 by_cases h3 : (0 : Int) ≤ s.f4 <;> simp [h3]
theorem isSaggar_calls (s : S52) (b : Bool) (hb : vSag s = b) (w : World) :
    Calls Try.prog 100 #[.agg #[.int .i64 s.f0, .int .i64 s.f1.f0, .int .i64 s.f1.f1, .int .i64 s.f2.f0, .int .i64 s.f2.f1, .int .i64 s.f3.f0, .int .i64 s.f3.f1, .int .i64 s.f4]] w fun e w' => e = .returned (.bool b) ∧ Below w.heap.size w w' :=
  bung_isSaggar.calls _ _ _ _ _ _ _ _ b w ((isSaggar_eq s).trans (by rw [hb]))
/-- Is a list valid? -/
def okList (l : List S52) : Bool := decide (l.length ≤ 30) && (l.all vSag && decide ((l.map (·.f0)).Nodup))
def bung_isList.f (l0 : List S52) : Option Bool := some (okList l0)
theorem isList_keyed : Maps.Keyed Try.prog 3 := Maps.int_keyed Try.underlying3
theorem isList_zero (w : World) : (zeroValue 4).run Try.prog w = .ok (.bool false) w := by kernel_rfl
/-- What holds behind k saggars. -/
def LInv (l : List S52) (k : Nat) (f : Lit → Option Bool) : Prop :=
  (l.take k).all vSag = true ∧ ((l.take k).map (·.f0)).Nodup ∧ ∀ i : Int, (f (.int .i64 i)).getD false = decide (i ∈ (l.take k).map (·.f0))
theorem LInv.zero (l : List S52) : LInv l 0 (fun _ => none) := ⟨by simp, by simp, fun i => by simp⟩
theorem LInv.step {l : List S52} {k : Nat} {f f' : Lit → Option Bool} (h : LInv l k f) (hk : k < l.length) (hv : vSag (rd_T52 l k) = true) (hn : (f (.int .i64 (rd_T52 l k).f0)).getD false = false)
  (h1 : f' (.int .i64 (rd_T52 l k).f0) = some true) (h2 : ∀ z, z ≠ .int .i64 (rd_T52 l k).f0 → f' z = f z) : LInv l (k + 1) f' := by
 have e : l.take (k + 1) = l.take k ++ [rd_T52 l k] := by
  rw [List.take_succ_eq_append_getElem hk]
  simp [rd_T52, List.getD_eq_getElem?_getD, hk]
 obtain ⟨a, b, c⟩ := h
 have hc := c (rd_T52 l k).f0
 rw [hn] at hc
 have hc' : (rd_T52 l k).f0 ∉ (l.take k).map (·.f0) := by simpa using hc.symm
 unfold LInv
 rw [e]
 refine ⟨by simp [a, hv], ?_, fun i => ?_⟩
 ·rw [List.map_append, List.nodup_append]
  refine ⟨b, by simp, fun x hx y hy => ?_⟩
  simp at hy
  subst hy
  intro e
  subst e
  exact hc' hx
 ·by_cases hi : i = (rd_T52 l k).f0
  ·subst hi
   rw [h1]
   simp
  ·rw [h2 _ (by simpa using hi), c i]
   simp [hi]
theorem LInv.all {l : List S52} {f : Lit → Option Bool} (h : LInv l l.length f) (hl : l.length ≤ 30) : okList l = true := by
 obtain ⟨a, b, _⟩ := h
 rw [List.take_length] at a b
 simp [okList, hl, a, b]
theorem LInv.bad {l : List S52} {k : Nat} (hk : k < l.length) (hv : vSag (rd_T52 l k) = false) : okList l = false := by
 have : l.all vSag = false := by
  rw [List.all_eq_false]
  refine ⟨l[k], List.getElem_mem hk, ?_⟩
  have e : rd_T52 l k = l[k] := by simp [rd_T52, List.getD_eq_getElem?_getD, hk]
  rw [← e, hv]
  simp
 simp [okList, this]
theorem LInv.twice {l : List S52} {k : Nat} {f : Lit → Option Bool} (h : LInv l k f) (hk : k < l.length) (hn : (f (.int .i64 (rd_T52 l k).f0)).getD false = true) : okList l = false := by
 have e : rd_T52 l k = l[k] := by simp [rd_T52, List.getD_eq_getElem?_getD, hk]
 have hc := h.2.2 (rd_T52 l k).f0
 rw [hn, e] at hc
 have hc' : (l[k]).f0 ∈ (l.take k).map (·.f0) := by simpa using hc.symm
 have : ¬ (l.map (·.f0)).Nodup := by
  intro hd
  have e2 : l.map (·.f0) = (l.take k).map (·.f0) ++ (l.drop k).map (·.f0) := by rw [← List.map_append, List.take_append_drop]
  rw [e2, List.nodup_append] at hd
  have h3 : (l[k]).f0 ∈ (l.drop k).map (·.f0) := List.mem_map.2 ⟨l[k], by rw [List.drop_eq_getElem_cons hk]; exact List.mem_cons_self, rfl⟩
  exact hd.2.2 _ hc' _ h3 rfl
 simp [okList, this]
theorem rd_toNat {l : List S52} {x : Int} (h : 0 ≤ x) : rd_T52 l (x.toNat : Int) = rd_T52 l x := by rw [Int.toNat_of_nonneg h]
theorem next_i {x : Int} {n : Nat} (h : 0 ≤ x) (h2 : x < (n : Int)) (h3 : n ≤ 30) : wrap64 (x + 1) = x + 1 := by unfold wrap64; omega
theorem cell0_new {w w1 : World} {v : Value} {vs : List Value} {t : Nat} (hb : Below (w.alloc (.cells (v :: vs).toArray t)).heap.size (w.alloc (.cells (v :: vs).toArray t)) w1) : w1.cell? ⟨w.heap.size, 0, none⟩ = some v :=
  (hb.cell (p := ⟨w.heap.size, 0, none⟩) (by simp)).trans ((blk_cell (by simpa using heap_alloc_new w _) 0).trans rfl)
theorem ret_bool {a b : Bool} (h : a = b) : Ending.returned (.bool a) = .returned (.bool b) := by rw [h]
set_option maxHeartbeats 4000000 in
set_option maxRecDepth 100000 in
theorem bung_isList.calls (A0 : Option Addr) (c0 : Nat) (l0 : List S52) (r : Bool) (w : World) (hr0 : Kd.C k52 w A0 l0.length l0) (hc0 : l0.length ≤ c0) (h : bung_isList.f l0 = some r) :
  Calls Try.prog 94 #[.slice A0 l0.length c0] w fun e w' => e = .returned (.bool r) ∧ Below w.heap.size w w' := by
 have hu52 := Try.underlying52
 have HR0 := pA hr0
 clear hr0
 have HF := pA (Option.some.inj h)
 clear h
 by_cases hlen : l0.length ≤ 30
 ·have hlenb : decide (30 < (l0.length : Int)) = false := decide_eq_false (by omega)
  have hlenb' : decide (30 < l0.length) = false := decide_eq_false (by omega)
  have hmm := @run_makeMap Try.prog
  go_enter Try.func94, Try.ntmps94
  go_wp2
  go_loopw [12] (fun v12 w' => ∃ (x : Int) (f : Lit → Option Bool) (s : Nat), v12 = .int .i64 x ∧ Aside0 (0 ≤ x ∧ x ≤ l0.length) ∧ Aside0 (LInv l0 x.toNat f) ∧ Aside0 (BoolMaps.IsB Try.prog 3 4 w' w.heap.size x.toNat s f) ∧ Aside0 (Below w.heap.size w w')) (fun v12 _ => l0.length - (intOf v12).toNat)
  case atStart => exact ⟨0, fun _ => none, 0, rfl, ⟨by omega⟩, ⟨LInv.zero _⟩, ⟨BoolMaps.IsB.made _ _ _ _⟩, ⟨below_alloc (Below.refl _ _) _⟩⟩
  case round =>
   obtain ⟨x, f, s, rfl, HK, HL, HM, HB⟩ := hrel
   by_cases hk : x < (l0.length : Int)
   ·have hkb : decide (x < (l0.length : Int)) = true := decide_eq_true hk
    have p1 : 0 ≤ x := HK.out.1
    obtain ⟨ad, e, x0, x1, x2, x3, x4, x5, x6, x7⟩ := at_T52 HR0.out x p1 hk
    cases e
    have HKL := pA hk
    replace p1 := eq_true p1
    replace hk := eq_true hk
    replace x0 := vC HB x0
    replace x1 := vC HB x1
    replace x2 := vC HB x2
    replace x3 := vC HB x3
    replace x4 := vC HB x4
    replace x5 := vC HB x5
    replace x6 := vC HB x6
    replace x7 := vC HB x7
    cases hv : vSag (rd_T52 l0 x) with
    | false =>
     have HT := pA ((LInv.bad (l := l0) (k := x.toNat) (by have := HKL.out; have := HK.out; omega) (by rw [rd_toNat HK.out.1]; exact hv)).symm.trans HF.out)
     have HV := pA hv
     clear hv
     go_wp2_with (go_at_call 100; refine (isSaggar_calls (rd_T52 l0 x) false HV.out _).mono ?_; rintro e w1 ⟨rfl, hb⟩; have HB1 := pA (below_step (below_alloc HB.out _) hb); clear hb)
     go_ret
     exact ⟨ret_bool HT.out, HB1.out⟩
    | true =>
     have hwf : (Lit.int .i64 (rd_T52 l0 x).f0).wf = true := by
      have := hv
      simp only [vSag, decide_eq_true_eq] at this
      exact WalkArith.wf_i64 (by omega)
     have HV := pA hv
     clear hv
     cases hg : (f (.int .i64 (rd_T52 l0 x).f0)).getD false with
     | true =>
      have HT := pA ((LInv.twice (l := l0) (k := x.toNat) HL.out (by have := HKL.out; have := HK.out; omega) (by rw [rd_toNat HK.out.1]; exact hg)).symm.trans HF.out)
      have HG := pA hg
      clear hg
      go_wp2_with (go_at_call 100; refine (isSaggar_calls (rd_T52 l0 x) true HV.out _).mono ?_; rintro e w1 ⟨rfl, hb⟩; have HM1 := pA ((HM.out.alloc _).below hb); have y0 := cell0_new hb; have hlook := HM1.out.look isList_keyed Try.underlying142 Try.underlying4 (isList_zero w1) (Maps.keyOf_int_mk Try.underlying3 hwf); rw [HG.out] at hlook; have HB1 := pA (below_step (below_alloc HB.out _) hb); clear hb)
      go_ret
      exact ⟨ret_bool HT.out, HB1.out⟩
     | false =>
      have HG := pA hg
      clear hg
      go_wp2_with (go_at_call 100; refine (isSaggar_calls (rd_T52 l0 x) true HV.out _).mono ?_; rintro e w1 ⟨rfl, hb⟩; have HM1 := pA ((HM.out.alloc _).below hb); have y0 := cell0_new hb; have hlook := HM1.out.look isList_keyed Try.underlying142 Try.underlying4 (isList_zero w1) (Maps.keyOf_int_mk Try.underlying3 hwf); rw [HG.out] at hlook; have HB1 := pA (below_step (below_alloc HB.out _) hb); clear hb; obtain ⟨w2, f2, hst, hM2, h1, h2, hg2⟩ := HM1.out.store isList_keyed Try.underlying142 Try.underlying4 (by have := HK.out; unfold maxLen; omega) (Maps.keyOf_int_mk Try.underlying3 hwf) trivial true; have HM2 := pA hM2; have HL2 := pA (LInv.step (l := l0) (k := x.toNat) (f' := f2) HL.out (by have := HKL.out; have := HK.out; omega) (by rw [rd_toNat HK.out.1]; exact HV.out) (by rw [rd_toNat HK.out.1]; exact HG.out) (by rw [rd_toNat HK.out.1]; exact h1) (by rw [rd_toNat HK.out.1]; exact h2)); have HB2 := pA (pw_below_grown HB1.out _ HB1.out.size hg2 (fun k e => by cases e; exact Nat.le_refl _)); clear hM2 h1 h2 hg2)
      go_roundw
      case measure => have := HKL.out; have := HK.out; simp [intOf, next_i HK.out.1 HKL.out hlen]; omega
      case rel => exact ⟨x + 1, f2, _, by rw [next_i HK.out.1 HKL.out hlen], ⟨by have := HKL.out; have := HK.out; omega⟩, ⟨by rw [show (x + 1).toNat = x.toNat + 1 from by have := HK.out; omega]; exact HL2.out⟩, ⟨by rw [show (x + 1).toNat = x.toNat + 1 from by have := HK.out; omega]; exact HM2.out⟩, HB2⟩
   ·have hkb : decide (x < (l0.length : Int)) = false := decide_eq_false hk
    have e : x.toNat = l0.length := by have := HK.out; omega
    have HT := pA ((show okList l0 = true by have := HL.out; rw [e] at this; exact this.all hlen).symm.trans HF.out)
    clear e hk
    go_wp2
    go_ret
    exact ⟨ret_bool HT.out, HB.out⟩
 ·have hlenb : decide (30 < (l0.length : Int)) = true := decide_eq_true (by omega)
  have hlenb' : decide (30 < l0.length) = true := decide_eq_true (by omega)
  have hr : okList l0 = false := by simp [okList, hlen]
  obtain rfl : false = r := hr.symm.trans HF.out
  go_enter Try.func94, Try.ntmps94
  go_wp2
  go_ret
  exact ⟨rfl, Below.refl _ _⟩
def bung_isWad.f (a0_0 : Int) (a0_1 : Int) : Option (Bool) := (bung_isRange.f a0_0 a0_1 0 200).bind fun t110 => (some t110)
set_option maxHeartbeats 8000000 in
set_option maxRecDepth 100000 in
theorem bung_isWad.calls (a0_0 : Int) (a0_1 : Int) (r : Bool) (w : World) (h : bung_isWad.f a0_0 a0_1 = some r) :
  Calls Try.prog 110 #[.agg #[.int .i64 a0_0, .int .i64 a0_1]] w fun e w' => e = .returned (.bool r) ∧ Below w.heap.size w w' := by
 have hu23 := Try.underlying23
 have HB := pA (Below.refl w.heap.size w)
 have H : ((bung_isRange.f a0_0 a0_1 0 200).bind fun t110 => (some t110)) = some r := h
 clear h
 replace H := Option.bind_eq_some_iff.mp H
 obtain ⟨t110, A20, H⟩ := H
 replace H : (some t110) = some r := H
 have A2 := pA A20
 clear A20
 obtain rfl := Option.some.inj H
 go_enter Try.func110, Try.ntmps110
 go_wp2_with (first | ((with_reducible refine gate_dst (N := 1) rfl ?_); refine box_event ?hg (N := 1) ?hd (cs := #[.int .i64 a0_0, .int .i64 a0_1]) (t := 23) ?hr ?_; (case hd => rfl); (case hg => rfl); (case hr => first | (go_simp; done) | (go_simp; rfl)); intro gb109 hg w3 hbox hb; have n0_ := pA (below_step (vB HB) hb); have n1_ := pA (hbox); have n2_ := pA ((by rw [hg]; exact (below_size (vB HB)) : w.heap.size ≤ gb109)); have n3_ := pA ((by rw [hg]; exact (below_size (vB HB)) : w.heap.size ≤ gb109)); clear HB; have HB := n0_; have BK109 := n1_; have GW109 := n2_; have GE109 := n3_; clear n0_ n1_ n2_ n3_; clear hb hbox hg; have hcz4_0 : w3.cell? ⟨gb109, 0, none⟩ = some (.int .i64 a0_0) := (blk_cell BK109.out 0).trans rfl; have hcz4_1 : w3.cell? ⟨gb109, 1, none⟩ = some (.int .i64 a0_1) := (blk_cell BK109.out 1).trans rfl; have hfz4_0 := blk_frozen BK109.out 0; have hfz4_1 := blk_frozen BK109.out 1) | ((with_reducible refine aF (f := 139) rfl ?_); refine goesL_ (some 4) rfl rfl Try.func139 (by kernel_rfl) rfl #[.agg #[.int .i64 a0_0, .int .i64 a0_1], .int .i64 0, .int .i64 200] rfl (by (try simp only [pE, pF, pG]); first | done | rfl | (simp only [pH, pI]; rfl)) ?_; (with_reducible refine (bung_isRange.calls a0_0 a0_1 0 200 t110 _ A2.out).mono ?_); rintro e w5 ⟨rfl, hb⟩; refine ⟨_, rfl, ?_⟩; have n0_ := pA (blk_below (g := gb109) (o := .cells #[.int .i64 a0_0, .int .i64 a0_1] 23 (0, 0)) (vK BK109) hb); have n1_ := pA (below_step (by repeat (first | (with_reducible first | exact HB.out | apply below_alloc | apply pw_below_drewN | apply below_drew1 | refine below_set ?_ GE109.out) | exact HB.out)) hb); clear BK109; clear HB; have BK109 := n0_; have HB := n1_; clear n0_ n1_; (try clear hb); (try clear hb2); (try clear hk); (try clear hi)))
 go_ret
 exact ⟨by first | rfl | (simp [errW_none, errW_some] <;> rfl) | (simp [*, errW_none, errW_some] <;> rfl), by repeat (first | (with_reducible first | exact HB.out | apply below_alloc | apply pw_below_drewN | apply below_drew1 | refine below_set ?_ GE109.out) | exact HB.out)⟩
def bung_isBung.f (a0_0 : Int) (a0_1 : Int) (l0_2 : List (S52)) : Option (Bool) := (bung_isWad.f a0_0 a0_1).bind fun t185 => (if t185 = true then (if (l0_2.length : Int) > 0 then ((bung_isList.f l0_2).bind fun t186 => (some t186)) else (some false)) else (some false))
set_option maxHeartbeats 8000000 in
set_option maxRecDepth 100000 in
theorem bung_isBung.calls (a0_0 : Int) (a0_1 : Int) (A0_2 : Option Addr) (c0_2 : Nat) (l0_2 : List (S52)) (r : Bool) (w : World) (hr0_2 : Kd.C k52 w A0_2 l0_2.length l0_2) (hc0_2 : l0_2.length ≤ c0_2) (h : bung_isBung.f a0_0 a0_1 l0_2 = some r) :
  Calls Try.prog 80 #[.agg #[.int .i64 a0_0, .int .i64 a0_1, .slice A0_2 l0_2.length c0_2]] w fun e w' => e = .returned (.bool r) ∧ Below w.heap.size w w' := by
 have hu43 := Try.underlying43
 have hu23 := Try.underlying23
 have HR0_2 := pA hr0_2
 have HC0_2 := pA hc0_2
 clear hr0_2 hc0_2
 have HB := pA (Below.refl w.heap.size w)
 have H : ((bung_isWad.f a0_0 a0_1).bind fun t185 => (if t185 = true then (if (l0_2.length : Int) > 0 then ((bung_isList.f l0_2).bind fun t186 => (some t186)) else (some false)) else (some false))) = some r := h
 clear h
 replace H := Option.bind_eq_some_iff.mp H
 obtain ⟨t185, A20, H⟩ := H
 replace H : (if t185 = true then (if (l0_2.length : Int) > 0 then ((bung_isList.f l0_2).bind fun t186 => (some t186)) else (some false)) else (some false)) = some r := H
 have A2 := pA A20
 clear A20
 by_cases c3 : t185 = true
 ·subst c3
  have H1 : (if (l0_2.length : Int) > 0 then ((bung_isList.f l0_2).bind fun t186 => (some t186)) else (some false)) = some r := by rw [if_pos rfl] at H; exact H
  clear H
  have H := H1
  clear H1
  by_cases c4 : (l0_2.length : Int) > 0
  ·rw [if_pos c4] at H
   have c4b0 : decide (0 < (l0_2.length : Int)) = true := decide_eq_true c4
   have c4b1 : decide (0 < l0_2.length) = true := decide_eq_true (by omega)
   clear c4
   replace H := Option.bind_eq_some_iff.mp H
   obtain ⟨t186, A50, H⟩ := H
   replace H : (some t186) = some r := H
   have A5 := pA A50
   clear A50
   obtain rfl := Option.some.inj H
   go_enter Try.func80, Try.ntmps80
   go_wp2_with (first | ((with_reducible refine gate_dst (N := 1) rfl ?_); (try (refine gate_guard (by rfl) ?_; dsimp only)); refine box_event ?hg (N := 1) ?hd (cs := #[.int .i64 a0_0, .int .i64 a0_1, .slice A0_2 l0_2.length c0_2]) (t := 43) ?hr ?_; (case hd => rfl); (case hg => rfl); (case hr => first | (go_simp; done) | (go_simp; rfl)); intro gb184 hg w6 hbox hb; have n0_ := pA (below_step (vB HB) hb); have n1_ := pA (hbox); have n2_ := pA ((by rw [hg]; exact (below_size (vB HB)) : w.heap.size ≤ gb184)); have n3_ := pA ((by rw [hg]; exact (below_size (vB HB)) : w.heap.size ≤ gb184)); clear HB; have HB := n0_; have BK184 := n1_; have GW184 := n2_; have GE184 := n3_; clear n0_ n1_ n2_ n3_; clear hb hbox hg; have hcz7_0 : w6.cell? ⟨gb184, 0, none⟩ = some (.int .i64 a0_0) := (blk_cell BK184.out 0).trans rfl; have hcz7_1 : w6.cell? ⟨gb184, 1, none⟩ = some (.int .i64 a0_1) := (blk_cell BK184.out 1).trans rfl; have hcz7_2 : w6.cell? ⟨gb184, 2, none⟩ = some (.slice A0_2 l0_2.length c0_2) := (blk_cell BK184.out 2).trans rfl; have hfz7_0 := blk_frozen BK184.out 0; have hfz7_1 := blk_frozen BK184.out 1; have hfz7_2 := blk_frozen BK184.out 2) | ((with_reducible refine aF (f := 110) rfl ?_); refine goesL_ (some 5) rfl rfl Try.func110 (by kernel_rfl) rfl #[.agg #[.int .i64 a0_0, .int .i64 a0_1]] rfl (by (try simp only [pE, pF, pG]); first | done | rfl | (simp only [pH, pI]; rfl)) ?_; (with_reducible refine (bung_isWad.calls a0_0 a0_1 true _ A2.out).mono ?_); rintro e w8 ⟨rfl, hb⟩; refine ⟨_, rfl, ?_⟩; have n0_ := pA (blk_below (g := gb184) (o := .cells #[.int .i64 a0_0, .int .i64 a0_1, .slice A0_2 l0_2.length c0_2] 43 (0, 0)) (vK BK184) hb); have n1_ := pA (below_step (by repeat (first | (with_reducible first | exact HB.out | apply below_alloc | apply pw_below_drewN | apply below_drew1 | refine below_set ?_ GE184.out) | exact HB.out)) hb); clear BK184; clear HB; have BK184 := n0_; have HB := n1_; clear n0_ n1_; (try clear hb); (try clear hb2); (try clear hk); (try clear hi); have hcz9_0 : w8.cell? ⟨gb184, 0, none⟩ = some (.int .i64 a0_0) := (blk_cell BK184.out 0).trans rfl; have hcz9_1 : w8.cell? ⟨gb184, 1, none⟩ = some (.int .i64 a0_1) := (blk_cell BK184.out 1).trans rfl; have hcz9_2 : w8.cell? ⟨gb184, 2, none⟩ = some (.slice A0_2 l0_2.length c0_2) := (blk_cell BK184.out 2).trans rfl; have hfz9_0 := blk_frozen BK184.out 0; have hfz9_1 := blk_frozen BK184.out 1; have hfz9_2 := blk_frozen BK184.out 2) | (go_at_call 94; (with_reducible refine (bung_isList.calls _ _ l0_2 t186 _ ?side1 ?side2 A5.out).mono ?_); (case side1 => repeat (first | exact (Kd.C_below HR0_2.out HB.out) | (with_reducible refine Kd.C_alloc ?_ _) | (with_reducible refine Kd.C_drewN ?_ _) | (with_reducible refine Kd.C_drew ?_))); (case side2 => exact HC0_2.out); rintro e w10 ⟨rfl, hb⟩; have n0_ := pA (blk_below (g := gb184) (o := .cells #[.int .i64 a0_0, .int .i64 a0_1, .slice A0_2 l0_2.length c0_2] 43 (0, 0)) (vK BK184) hb); have n1_ := pA (below_step (by repeat (first | (with_reducible first | exact HB.out | apply below_alloc | apply pw_below_drewN | apply below_drew1 | refine below_set ?_ GE184.out) | exact HB.out)) hb); clear BK184; clear HB; have BK184 := n0_; have HB := n1_; clear n0_ n1_; (try clear hb); (try clear hb2); (try clear hk); (try clear hi)))
   go_ret
   exact ⟨by first | rfl | (simp [errW_none, errW_some] <;> rfl) | (simp [*, errW_none, errW_some] <;> rfl), by repeat (first | (with_reducible first | exact HB.out | apply below_alloc | apply pw_below_drewN | apply below_drew1 | refine below_set ?_ GE184.out) | exact HB.out)⟩
  ·rw [if_neg c4] at H
   have c4b0 : decide (0 < (l0_2.length : Int)) = false := decide_eq_false c4
   have c4b1 : decide (0 < l0_2.length) = false := decide_eq_false (by omega)
   clear c4
   obtain rfl := Option.some.inj H
   go_enter Try.func80, Try.ntmps80
   go_wp2_with (first | ((with_reducible refine gate_dst (N := 1) rfl ?_); (try (refine gate_guard (by rfl) ?_; dsimp only)); refine box_event ?hg (N := 1) ?hd (cs := #[.int .i64 a0_0, .int .i64 a0_1, .slice A0_2 l0_2.length c0_2]) (t := 43) ?hr ?_; (case hd => rfl); (case hg => rfl); (case hr => first | (go_simp; done) | (go_simp; rfl)); intro gb184 hg w11 hbox hb; have n0_ := pA (below_step (vB HB) hb); have n1_ := pA (hbox); have n2_ := pA ((by rw [hg]; exact (below_size (vB HB)) : w.heap.size ≤ gb184)); have n3_ := pA ((by rw [hg]; exact (below_size (vB HB)) : w.heap.size ≤ gb184)); clear HB; have HB := n0_; have BK184 := n1_; have GW184 := n2_; have GE184 := n3_; clear n0_ n1_ n2_ n3_; clear hb hbox hg; have hcz12_0 : w11.cell? ⟨gb184, 0, none⟩ = some (.int .i64 a0_0) := (blk_cell BK184.out 0).trans rfl; have hcz12_1 : w11.cell? ⟨gb184, 1, none⟩ = some (.int .i64 a0_1) := (blk_cell BK184.out 1).trans rfl; have hcz12_2 : w11.cell? ⟨gb184, 2, none⟩ = some (.slice A0_2 l0_2.length c0_2) := (blk_cell BK184.out 2).trans rfl; have hfz12_0 := blk_frozen BK184.out 0; have hfz12_1 := blk_frozen BK184.out 1; have hfz12_2 := blk_frozen BK184.out 2) | ((with_reducible refine aF (f := 110) rfl ?_); refine goesL_ (some 5) rfl rfl Try.func110 (by kernel_rfl) rfl #[.agg #[.int .i64 a0_0, .int .i64 a0_1]] rfl (by (try simp only [pE, pF, pG]); first | done | rfl | (simp only [pH, pI]; rfl)) ?_; (with_reducible refine (bung_isWad.calls a0_0 a0_1 true _ A2.out).mono ?_); rintro e w13 ⟨rfl, hb⟩; refine ⟨_, rfl, ?_⟩; have n0_ := pA (blk_below (g := gb184) (o := .cells #[.int .i64 a0_0, .int .i64 a0_1, .slice A0_2 l0_2.length c0_2] 43 (0, 0)) (vK BK184) hb); have n1_ := pA (below_step (by repeat (first | (with_reducible first | exact HB.out | apply below_alloc | apply pw_below_drewN | apply below_drew1 | refine below_set ?_ GE184.out) | exact HB.out)) hb); clear BK184; clear HB; have BK184 := n0_; have HB := n1_; clear n0_ n1_; (try clear hb); (try clear hb2); (try clear hk); (try clear hi); have hcz14_0 : w13.cell? ⟨gb184, 0, none⟩ = some (.int .i64 a0_0) := (blk_cell BK184.out 0).trans rfl; have hcz14_1 : w13.cell? ⟨gb184, 1, none⟩ = some (.int .i64 a0_1) := (blk_cell BK184.out 1).trans rfl; have hcz14_2 : w13.cell? ⟨gb184, 2, none⟩ = some (.slice A0_2 l0_2.length c0_2) := (blk_cell BK184.out 2).trans rfl; have hfz14_0 := blk_frozen BK184.out 0; have hfz14_1 := blk_frozen BK184.out 1; have hfz14_2 := blk_frozen BK184.out 2))
   go_ret
   exact ⟨by first | rfl | (simp [errW_none, errW_some] <;> rfl) | (simp [*, errW_none, errW_some] <;> rfl), by repeat (first | (with_reducible first | exact HB.out | apply below_alloc | apply pw_below_drewN | apply below_drew1 | refine below_set ?_ GE184.out) | exact HB.out)⟩
 ·replace c3 := Bool.eq_false_iff.mpr c3
  subst c3
  have H1 : (some false) = some r := by rw [if_neg (show ¬ (false = true) by decide)] at H; exact H
  clear H
  have H := H1
  clear H1
  obtain rfl := Option.some.inj H
  go_enter Try.func80, Try.ntmps80
  go_wp2_with (first | ((with_reducible refine gate_dst (N := 1) rfl ?_); (try (refine gate_guard (by rfl) ?_; dsimp only)); refine box_event ?hg (N := 1) ?hd (cs := #[.int .i64 a0_0, .int .i64 a0_1, .slice A0_2 l0_2.length c0_2]) (t := 43) ?hr ?_; (case hd => rfl); (case hg => rfl); (case hr => first | (go_simp; done) | (go_simp; rfl)); intro gb184 hg w15 hbox hb; have n0_ := pA (below_step (vB HB) hb); have n1_ := pA (hbox); have n2_ := pA ((by rw [hg]; exact (below_size (vB HB)) : w.heap.size ≤ gb184)); have n3_ := pA ((by rw [hg]; exact (below_size (vB HB)) : w.heap.size ≤ gb184)); clear HB; have HB := n0_; have BK184 := n1_; have GW184 := n2_; have GE184 := n3_; clear n0_ n1_ n2_ n3_; clear hb hbox hg; have hcz16_0 : w15.cell? ⟨gb184, 0, none⟩ = some (.int .i64 a0_0) := (blk_cell BK184.out 0).trans rfl; have hcz16_1 : w15.cell? ⟨gb184, 1, none⟩ = some (.int .i64 a0_1) := (blk_cell BK184.out 1).trans rfl; have hcz16_2 : w15.cell? ⟨gb184, 2, none⟩ = some (.slice A0_2 l0_2.length c0_2) := (blk_cell BK184.out 2).trans rfl; have hfz16_0 := blk_frozen BK184.out 0; have hfz16_1 := blk_frozen BK184.out 1; have hfz16_2 := blk_frozen BK184.out 2) | ((with_reducible refine aF (f := 110) rfl ?_); refine goesL_ (some 5) rfl rfl Try.func110 (by kernel_rfl) rfl #[.agg #[.int .i64 a0_0, .int .i64 a0_1]] rfl (by (try simp only [pE, pF, pG]); first | done | rfl | (simp only [pH, pI]; rfl)) ?_; (with_reducible refine (bung_isWad.calls a0_0 a0_1 false _ A2.out).mono ?_); rintro e w17 ⟨rfl, hb⟩; refine ⟨_, rfl, ?_⟩; have n0_ := pA (blk_below (g := gb184) (o := .cells #[.int .i64 a0_0, .int .i64 a0_1, .slice A0_2 l0_2.length c0_2] 43 (0, 0)) (vK BK184) hb); have n1_ := pA (below_step (by repeat (first | (with_reducible first | exact HB.out | apply below_alloc | apply pw_below_drewN | apply below_drew1 | refine below_set ?_ GE184.out) | exact HB.out)) hb); clear BK184; clear HB; have BK184 := n0_; have HB := n1_; clear n0_ n1_; (try clear hb); (try clear hb2); (try clear hk); (try clear hi)))
  go_ret
  exact ⟨by first | rfl | (simp [errW_none, errW_some] <;> rfl) | (simp [*, errW_none, errW_some] <;> rfl), by repeat (first | (with_reducible first | exact HB.out | apply below_alloc | apply pw_below_drewN | apply below_drew1 | refine below_set ?_ GE184.out) | exact HB.out)⟩
def bung_Check.f (a0_0 : Int) (a0_1 : Int) (l0_2 : List (S52)) : Option (Int) := (bung_isBung.f a0_0 a0_1 l0_2).bind fun t527 => (if t527 = true then (some 0) else (some 31))
set_option maxHeartbeats 8000000 in
set_option maxRecDepth 100000 in
theorem bung_Check.calls (a0_0 : Int) (a0_1 : Int) (A0_2 : Option Addr) (c0_2 : Nat) (l0_2 : List (S52)) (r : Int) (w : World) (hr0_2 : Kd.C k52 w A0_2 l0_2.length l0_2) (hc0_2 : l0_2.length ≤ c0_2) (h : bung_Check.f a0_0 a0_1 l0_2 = some r) :
  Calls Try.prog 47 #[.agg #[.int .i64 a0_0, .int .i64 a0_1, .slice A0_2 l0_2.length c0_2]] w fun e w' => e = .returned (.int .i64 r) ∧ Below w.heap.size w w' := by
 have hu43 := Try.underlying43
 have HR0_2 := pA hr0_2
 have HC0_2 := pA hc0_2
 clear hr0_2 hc0_2
 have HB := pA (Below.refl w.heap.size w)
 have H : ((bung_isBung.f a0_0 a0_1 l0_2).bind fun t527 => (if t527 = true then (some 0) else (some 31))) = some r := h
 clear h
 replace H := Option.bind_eq_some_iff.mp H
 obtain ⟨t527, A20, H⟩ := H
 replace H : (if t527 = true then (some 0) else (some 31)) = some r := H
 have A2 := pA A20
 clear A20
 by_cases c3 : t527 = true
 ·subst c3
  have H1 : (some 0) = some r := by rw [if_pos rfl] at H; exact H
  clear H
  have H := H1
  clear H1
  obtain rfl := Option.some.inj H
  go_enter Try.func47, Try.ntmps47
  go_wp2_with (first | ((with_reducible refine gate_dst (N := 1) rfl ?_); refine box_event ?hg (N := 1) ?hd (cs := #[.int .i64 a0_0, .int .i64 a0_1, .slice A0_2 l0_2.length c0_2]) (t := 43) ?hr ?_; (case hd => rfl); (case hg => rfl); (case hr => first | (go_simp; done) | (go_simp; rfl)); intro gb526 hg w4 hbox hb; have n0_ := pA (below_step (vB HB) hb); have n1_ := pA (hbox); have n2_ := pA ((by rw [hg]; exact (below_size (vB HB)) : w.heap.size ≤ gb526)); have n3_ := pA ((by rw [hg]; exact (below_size (vB HB)) : w.heap.size ≤ gb526)); clear HB; have HB := n0_; have BK526 := n1_; have GW526 := n2_; have GE526 := n3_; clear n0_ n1_ n2_ n3_; clear hb hbox hg; have hcz5_0 : w4.cell? ⟨gb526, 0, none⟩ = some (.int .i64 a0_0) := (blk_cell BK526.out 0).trans rfl; have hcz5_1 : w4.cell? ⟨gb526, 1, none⟩ = some (.int .i64 a0_1) := (blk_cell BK526.out 1).trans rfl; have hcz5_2 : w4.cell? ⟨gb526, 2, none⟩ = some (.slice A0_2 l0_2.length c0_2) := (blk_cell BK526.out 2).trans rfl; have hfz5_0 := blk_frozen BK526.out 0; have hfz5_1 := blk_frozen BK526.out 1; have hfz5_2 := blk_frozen BK526.out 2) | ((with_reducible refine aF (f := 80) rfl ?_); refine goesL_ (some 4) rfl rfl Try.func80 (by kernel_rfl) rfl #[.agg #[.int .i64 a0_0, .int .i64 a0_1, .slice A0_2 l0_2.length c0_2]] rfl (by (try simp only [pE, pF, pG]); first | done | rfl | (simp only [pH, pI]; rfl)) ?_; (with_reducible refine (bung_isBung.calls a0_0 a0_1 _ _ l0_2 true _ ?side1 ?side2 A2.out).mono ?_); (case side1 => repeat (first | exact (Kd.C_below HR0_2.out HB.out) | (with_reducible refine Kd.C_alloc ?_ _) | (with_reducible refine Kd.C_drewN ?_ _) | (with_reducible refine Kd.C_drew ?_))); (case side2 => exact HC0_2.out); rintro e w6 ⟨rfl, hb⟩; refine ⟨_, rfl, ?_⟩; have n0_ := pA (blk_below (g := gb526) (o := .cells #[.int .i64 a0_0, .int .i64 a0_1, .slice A0_2 l0_2.length c0_2] 43 (0, 0)) (vK BK526) hb); have n1_ := pA (below_step (by repeat (first | (with_reducible first | exact HB.out | apply below_alloc | apply pw_below_drewN | apply below_drew1 | refine below_set ?_ GE526.out) | exact HB.out)) hb); clear BK526; clear HB; have BK526 := n0_; have HB := n1_; clear n0_ n1_; (try clear hb); (try clear hb2); (try clear hk); (try clear hi)))
  go_ret
  exact ⟨by first | rfl | (simp [errW_none, errW_some] <;> rfl) | (simp [*, errW_none, errW_some] <;> rfl), by repeat (first | (with_reducible first | exact HB.out | apply below_alloc | apply pw_below_drewN | apply below_drew1 | refine below_set ?_ GE526.out) | exact HB.out)⟩
 ·replace c3 := Bool.eq_false_iff.mpr c3
  subst c3
  have H1 : (some 31) = some r := by rw [if_neg (show ¬ (false = true) by decide)] at H; exact H
  clear H
  have H := H1
  clear H1
  obtain rfl := Option.some.inj H
  go_enter Try.func47, Try.ntmps47
  go_wp2_with (first | ((with_reducible refine gate_dst (N := 1) rfl ?_); refine box_event ?hg (N := 1) ?hd (cs := #[.int .i64 a0_0, .int .i64 a0_1, .slice A0_2 l0_2.length c0_2]) (t := 43) ?hr ?_; (case hd => rfl); (case hg => rfl); (case hr => first | (go_simp; done) | (go_simp; rfl)); intro gb526 hg w7 hbox hb; have n0_ := pA (below_step (vB HB) hb); have n1_ := pA (hbox); have n2_ := pA ((by rw [hg]; exact (below_size (vB HB)) : w.heap.size ≤ gb526)); have n3_ := pA ((by rw [hg]; exact (below_size (vB HB)) : w.heap.size ≤ gb526)); clear HB; have HB := n0_; have BK526 := n1_; have GW526 := n2_; have GE526 := n3_; clear n0_ n1_ n2_ n3_; clear hb hbox hg; have hcz8_0 : w7.cell? ⟨gb526, 0, none⟩ = some (.int .i64 a0_0) := (blk_cell BK526.out 0).trans rfl; have hcz8_1 : w7.cell? ⟨gb526, 1, none⟩ = some (.int .i64 a0_1) := (blk_cell BK526.out 1).trans rfl; have hcz8_2 : w7.cell? ⟨gb526, 2, none⟩ = some (.slice A0_2 l0_2.length c0_2) := (blk_cell BK526.out 2).trans rfl; have hfz8_0 := blk_frozen BK526.out 0; have hfz8_1 := blk_frozen BK526.out 1; have hfz8_2 := blk_frozen BK526.out 2) | ((with_reducible refine aF (f := 80) rfl ?_); refine goesL_ (some 4) rfl rfl Try.func80 (by kernel_rfl) rfl #[.agg #[.int .i64 a0_0, .int .i64 a0_1, .slice A0_2 l0_2.length c0_2]] rfl (by (try simp only [pE, pF, pG]); first | done | rfl | (simp only [pH, pI]; rfl)) ?_; (with_reducible refine (bung_isBung.calls a0_0 a0_1 _ _ l0_2 false _ ?side1 ?side2 A2.out).mono ?_); (case side1 => repeat (first | exact (Kd.C_below HR0_2.out HB.out) | (with_reducible refine Kd.C_alloc ?_ _) | (with_reducible refine Kd.C_drewN ?_ _) | (with_reducible refine Kd.C_drew ?_))); (case side2 => exact HC0_2.out); rintro e w9 ⟨rfl, hb⟩; refine ⟨_, rfl, ?_⟩; have n0_ := pA (blk_below (g := gb526) (o := .cells #[.int .i64 a0_0, .int .i64 a0_1, .slice A0_2 l0_2.length c0_2] 43 (0, 0)) (vK BK526) hb); have n1_ := pA (below_step (by repeat (first | (with_reducible first | exact HB.out | apply below_alloc | apply pw_below_drewN | apply below_drew1 | refine below_set ?_ GE526.out) | exact HB.out)) hb); clear BK526; clear HB; have BK526 := n0_; have HB := n1_; clear n0_ n1_; (try clear hb); (try clear hb2); (try clear hk); (try clear hi)))
  go_ret
  exact ⟨by first | rfl | (simp [errW_none, errW_some] <;> rfl) | (simp [*, errW_none, errW_some] <;> rfl), by repeat (first | (with_reducible first | exact HB.out | apply below_alloc | apply pw_below_drewN | apply below_drew1 | refine below_set ?_ GE526.out) | exact HB.out)⟩
def potbankref03_has.l0 : Nat → List (S52) → Int → Int → Option (Bool)
  | 0, _, _, _ => none
  | k + 1, x0, x1, x5 => if x5 < (x0.length : Int) then (if 0 ≤ x5 then (if ((rd_T52 x0 x5).f0) = x1 then (some true) else (potbankref03_has.l0 k x0 x1 (wrap64 (x5 + 1)))) else (none)) else (some false)
def potbankref03_has.f (k : Nat) (l0 : List (S52)) (a1 : Int) : Option (Bool) := potbankref03_has.l0 k l0 a1 0
theorem potbankref03_has.mono_l : ∀ k, (∀ y0 y1 y2, LeO (potbankref03_has.l0 k y0 y1 y2) (potbankref03_has.l0 (k + 1) y0 y1 y2))
 | 0 => fun _ _ _ r h => by simp [potbankref03_has.l0] at h
 | k + 1 => by
  have ih0 := potbankref03_has.mono_l k
  ·intro y0 y1 y2
   unfold potbankref03_has.l0
   repeat' first
   | (with_reducible exact ih0 _ _ _)
   | (with_reducible exact LeO.refl _)
   | (with_reducible exact LeO.none _)
   | (with_reducible refine LeO.ite ?_ ?_)
   | (with_reducible refine LeO.bind ?_ (fun _ => ?_))
   | exact ih0 _ _ _
   | exact LeO.none _
   | refine LeO.ite ?_ ?_
   | refine LeO.bind ?_ (fun _ => ?_)
theorem potbankref03_has.mono : ∀ a0 a1 k, LeO (potbankref03_has.f k a0 a1) (potbankref03_has.f (k + 1) a0 a1) := by
 intro a0 a1 k
 have ih0 := potbankref03_has.mono_l k
 unfold potbankref03_has.f
 repeat' first
   | (with_reducible exact ih0 _ _ _)
   | (with_reducible exact LeO.refl _)
   | (with_reducible exact LeO.none _)
   | (with_reducible refine LeO.ite ?_ ?_)
   | (with_reducible refine LeO.bind ?_ (fun _ => ?_))
   | exact ih0 _ _ _
   | exact LeO.none _
   | refine LeO.ite ?_ ?_
   | refine LeO.bind ?_ (fun _ => ?_)
set_option maxHeartbeats 8000000 in
set_option maxRecDepth 100000 in
theorem potbankref03_has.calls (k : Nat) (A0 : Option Addr) (c0 : Nat) (l0 : List (S52)) (a1 : Int) (r : Bool) (w : World) (hr0 : Kd.C k52 w A0 l0.length l0) (hc0 : l0.length ≤ c0) (h : potbankref03_has.f k l0 a1 = some r) :
  Calls Try.prog 104 #[.slice A0 l0.length c0, .int .i64 a1] w fun e w' => e = .returned (.bool r) ∧ Drawn0 w w' := by
 have HR0 := pA hr0
 have HC0 := pA hc0
 clear hr0 hc0
 have H : (potbankref03_has.l0 k l0 a1 0) = some r := h
 clear h
 have H' := pA H
 clear H
 go_enter Try.func104, Try.ntmps104
 go_wp2
 go_loopg [5] k (fun kq v5 w' => ∃ (x5_1 : Int), v5 = .int .i64 x5_1 ∧ Aside0 (potbankref03_has.l0 kq l0 a1 x5_1 = some r) ∧ Aside0 (kq ≤ k) ∧ Drawn0 w w')
 case atStart => exact ⟨(0), (by first | rfl | (simp; done) | (simp [*]; done)), H', ⟨Nat.le_refl _⟩, by repeat (first | exact Drawn0.refl _ | apply Drawn0.step)⟩
 case round =>
  clear H'
  try clear c1
  try clear p2
  obtain ⟨x5_1, rfl, HA, HK1, ⟨m1, rfl⟩⟩ := hrel
  cases gk with
  | zero => exact absurd HA.out (by simp [potbankref03_has.l0])
  | succ k1 =>
   have H := HA.out
   clear HA
   simp only [potbankref03_has.l0] at H
   by_cases c3 : x5_1 < (l0.length : Int)
   ·rw [if_pos c3] at H
    have c3b0 : decide (x5_1 < (l0.length : Int)) = true := decide_eq_true c3
    clear c3
    by_cases c4 : 0 ≤ x5_1
    ·rw [if_pos c4] at H
     have c4b0 : decide (0 ≤ x5_1) = true := decide_eq_true c4
     clear c4
     by_cases c5 : ((rd_T52 l0 x5_1).f0) = a1
     ·rw [if_pos c5] at H
      have c5b0 : (((rd_T52 l0 x5_1).f0) == a1) = true := beq_iff_eq.mpr c5
      have c5b1 : (((rd_T52 l0 x5_1).f0) != a1) = false := bne_eq_false_iff_eq.mpr c5
      clear c5
      obtain rfl := Option.some.inj H
      have p225 : 0 ≤ (x5_1 : Int) := of_decide_eq_true (by first | (with_reducible assumption) | assumption)
      have q225 : x5_1 < (l0.length : Int) := of_decide_eq_true (by first | (with_reducible assumption) | assumption)
      obtain ⟨ad225, e225, hx225_0, hx225_1, hx225_2, hx225_3, hx225_4, hx225_5, hx225_6, hx225_7⟩ := at_T52 HR0.out x5_1 p225 q225
      cases e225
      replace p225 := eq_true p225
      replace q225 := eq_true q225
      go_wp2
      go_ret
      exact ⟨by first | rfl | (simp; done) | (simp [*]; done), by repeat (first | exact Drawn0.refl _ | apply Drawn0.step)⟩
     ·rw [if_neg c5] at H
      have c5b0 : (((rd_T52 l0 x5_1).f0) == a1) = false := beq_eq_false_iff_ne.mpr c5
      have c5b1 : (((rd_T52 l0 x5_1).f0) != a1) = true := bne_iff_ne.mpr c5
      have H' := pA H
      clear H
      have p225 : 0 ≤ (x5_1 : Int) := of_decide_eq_true (by first | (with_reducible assumption) | assumption)
      have q225 : x5_1 < (l0.length : Int) := of_decide_eq_true (by first | (with_reducible assumption) | assumption)
      obtain ⟨ad225, e225, hx225_0, hx225_1, hx225_2, hx225_3, hx225_4, hx225_5, hx225_6, hx225_7⟩ := at_T52 HR0.out x5_1 p225 q225
      cases e225
      replace p225 := eq_true p225
      replace q225 := eq_true q225
      go_wp2
      go_roundg k1
      case measure => have := HK1.out; omega
      case rel => exact ⟨(wrap64 (x5_1 + 1)), (by first | rfl | (simp; done) | (simp [*]; done)), H', ⟨by have := HK1.out; omega⟩, by repeat (first | exact Drawn0.refl _ | apply Drawn0.step)⟩
    ·rw [if_neg c4] at H
     exact absurd H (by simp)
   ·rw [if_neg c3] at H
    have c3b0 : decide (x5_1 < (l0.length : Int)) = false := decide_eq_false c3
    clear c3
    obtain rfl := Option.some.inj H
    go_wp2
    go_ret
    exact ⟨by first | rfl | (simp; done) | (simp [*]; done), by repeat (first | exact Drawn0.refl _ | apply Drawn0.step)⟩
def potbankref03_CheckList.l0 : Nat → List (S52) → Int → Option (Int)
  | 0, _, _ => none
  | k + 1, x0, x3 => if x3 < (x0.length : Int) then (if 0 ≤ x3 then ((potbankref03_CheckSaggar.f ((rd_T52 x0 x3).f0) ((rd_T52 x0 x3).f1.f0) ((rd_T52 x0 x3).f1.f1) ((rd_T52 x0 x3).f2.f0) ((rd_T52 x0 x3).f2.f1) ((rd_T52 x0 x3).f3.f0) ((rd_T52 x0 x3).f3.f1) ((rd_T52 x0 x3).f4)).bind fun t227 => (if t227 = 0 then (if x3 ≤ (x0.length : Int) then ((potbankref03_has.f k (x0.take (x3 : Int).toNat) ((rd_T52 x0 x3).f0)).bind fun t233 => (if t233 = true then (some 30) else (potbankref03_CheckList.l0 k x0 (wrap64 (x3 + 1))))) else (none)) else (some 30))) else (none)) else (some 0)
def potbankref03_CheckList.f (k : Nat) (l0 : List (S52)) : Option (Int) := if (l0.length : Int) > 30 then (some 30) else (potbankref03_CheckList.l0 k l0 0)
theorem potbankref03_CheckList.mono_l : ∀ k, (∀ y0 y1, LeO (potbankref03_CheckList.l0 k y0 y1) (potbankref03_CheckList.l0 (k + 1) y0 y1))
 | 0 => fun _ _ r h => by simp [potbankref03_CheckList.l0] at h
 | k + 1 => by
  have ih0 := potbankref03_CheckList.mono_l k
  ·intro y0 y1
   unfold potbankref03_CheckList.l0
   repeat' first
   | (with_reducible exact ih0 _ _)
   | (with_reducible exact potbankref03_has.mono _ _ _)
   | (with_reducible exact LeO.refl _)
   | (with_reducible exact LeO.none _)
   | (with_reducible refine LeO.ite ?_ ?_)
   | (with_reducible refine LeO.bind ?_ (fun _ => ?_))
   | exact ih0 _ _
   | exact potbankref03_has.mono _ _ _
   | exact LeO.none _
   | refine LeO.ite ?_ ?_
   | refine LeO.bind ?_ (fun _ => ?_)
theorem potbankref03_CheckList.mono : ∀ a0 k, LeO (potbankref03_CheckList.f k a0) (potbankref03_CheckList.f (k + 1) a0) := by
 intro a0 k
 have ih0 := potbankref03_CheckList.mono_l k
 unfold potbankref03_CheckList.f
 repeat' first
   | (with_reducible exact ih0 _ _)
   | (with_reducible exact potbankref03_has.mono _ _ _)
   | (with_reducible exact LeO.refl _)
   | (with_reducible exact LeO.none _)
   | (with_reducible refine LeO.ite ?_ ?_)
   | (with_reducible refine LeO.bind ?_ (fun _ => ?_))
   | exact ih0 _ _
   | exact potbankref03_has.mono _ _ _
   | exact LeO.none _
   | refine LeO.ite ?_ ?_
   | refine LeO.bind ?_ (fun _ => ?_)
def potbankref03_CheckList.T6 : Bool × List (List Nat × List Nat) := (true, [([], []), ([], []), ([0, 1], [0, 1]), ([2], [2]), ([3], [3]), ([4], [4]), ([5, 4], [5]), ([6], [6]), ([6], [6]), ([7, 8, 6], [6, 7, 8]), ([6], [6]), ([6], [6]), ([10, 11, 6], [6, 10, 11]), ([12, 6], [6, 12]), ([13, 6], [6, 13]), ([9, 14, 6, 6], [6, 9, 14]), ([6, 15], [6, 15])])
def potbankref03_CheckList.B6 : List Nat := [0, 0, 3, 7, 15, 31, 63, 127, 127, 511, 127, 127, 3199, 7295, 15487, 32767, 65535]
theorem potbankref03_CheckList.tab6 : rtab .any (opsOf Try.f50 6) = potbankref03_CheckList.T6 := by kernel_rfl
theorem potbankref03_CheckList.bits6 : waitsOk potbankref03_CheckList.T6.2 potbankref03_CheckList.B6 = true := by kernel_rfl
end Go.Proofs.Ytbiakjgjedhjhaa.P
