/- Walks and plain laws that the claim stands on: each theorem named calls says that a call of a function returns what its f computes; the others are plain laws of these f, and the words that the walks use. -/
import Derived.Test.YtnlbfomlfhigcaaProg
import Derived.Below
import Derived.Deep.Draws
import Derived.Deep.AppendLies
import Derived.Maps.AppendAt
import Derived.OwnWalk
import Derived.Laws.BytesArg
import Derived.Laws.MakeOwn
import Derived.Laws.OwnMore
import Derived.Deep.OwnRows
import Derived.Tactics
import Derived.Lib.ConvBytes
import Derived.Laws.Slices
import Derived.WalkKit
import Derived.KernelRfl
import Derived.RowKit3
import Derived.Deep.LoopGhost
import Derived.Deep.QuietTactic
import Derived.BigQuiet
import Derived.WideLaws
import Derived.Deep.DeepCutAuto
import Derived.Deep.CutBlock
import Derived.Deep.RegionHeld3
import Derived.Laws.Rows
import Derived.Lib.AppendStr
import Derived.ArgAppend
import Derived.Laws.IdiomCopy
import Derived.OrdersHeld
import Derived.Laws.BitsLemmas
import Derived.RowKit
import Derived.Shelf.Small.Bits
import Derived.Shelf.Strconv.Itoa0
import Derived.Shelf.Bits.Mul64
import Derived.Test.YtnlbfomlfhigcaaGenConvertsV0
import Derived.Test.YtnlbfomlfhigcaaGenConvertsV1
namespace Go.Proofs.Ytnlbfomlfhigcaa.Q
open Go.RowKit Go.Proofs.YtnlbfomlfhigcaaW.PrintWords Go.Proofs.YtnlbfomlfhigcaaW.PrintLast Go.Proofs.YtnlbfomlfhigcaaW.PrintMore
attribute [local go_sem] max2_int min2_int max_two min_two max_three min_three max_four min_four
set_option linter.unusedVariables false
set_option linter.unusedSimpArgs false
def errW : Option Int → Value
  | none => .nilIface
  | some c => .iface 82 (.int .i64 c)
theorem errW_none : errW none = .nilIface := rfl
theorem errW_some (c : Int) : errW (some c) = .iface 82 (.int .i64 c) := rfl
theorem info5 : (Try.prog.info? 5).map (fun i => (i.zero, i.size, i.bytes)) = some (some (.int .u8 0), 1, 1) := by kernel_rfl
structure S103 where
  f0 : Int
  f1 : Bool
  f2 : Int
  f3 : Int
def z103 : S103 := ⟨(0 : Int), false, (0 : Int), (0 : Int)⟩
def k103 : Kd S103 := Kd.iso (Kd.pair (Kd.int .i64) (Kd.pair Kd.bool (Kd.pair (Kd.int .i64) (Kd.int .u64)))) (fun x : S103 => (x.f0, x.f1, x.f2, x.f3))
theorem k103_open {w : World} {x : S103} {cs : List Value} (h : k103.K w x cs) : cs = [.int .i64 x.f0, .bool x.f1, .int .i64 x.f2, .int .u64 x.f3] := by
  obtain ⟨_, _, rfl, rfl, ⟨_, _, rfl, rfl, ⟨_, _, rfl, rfl, rfl⟩⟩⟩ := h
  exact rfl
theorem k103_mkM (w : World) (base : Nat) (ok : Nat → Prop) (x : S103)  : k103.M w base ok x [.int .i64 x.f0, .bool x.f1, .int .i64 x.f2, .int .u64 x.f3] := ⟨[.int .i64 x.f0], [.bool x.f1, .int .i64 x.f2, .int .u64 x.f3], rfl, rfl, ⟨[.bool x.f1], [.int .i64 x.f2, .int .u64 x.f3], rfl, rfl, ⟨[.int .i64 x.f2], [.int .u64 x.f3], rfl, rfl, rfl⟩⟩⟩
def rd_T103 (xs : List S103) (i : Int) : S103 := xs.getD i.toNat z103
theorem at_T103 {w : World} {A : Option Addr} {n : Nat} {xs : List S103} (h : Kd.C k103 w A n xs) (i : Int) (h0 : 0 ≤ i) (h1 : i < n) : ∃ ad , A = some ad ∧ w.cell? (ad.add (i.toNat * 4)) = some (.int .i64 (rd_T103 xs i).f0) ∧ w.cell? ⟨(ad.add (i.toNat * 4)).block, (ad.add (i.toNat * 4)).off + 1, none⟩ = some (.bool (rd_T103 xs i).f1) ∧ w.cell? ⟨(ad.add (i.toNat * 4)).block, (ad.add (i.toNat * 4)).off + 2, none⟩ = some (.int .i64 (rd_T103 xs i).f2) ∧ w.cell? ⟨(ad.add (i.toNat * 4)).block, (ad.add (i.toNat * 4)).off + 3, none⟩ = some (.int .u64 (rd_T103 xs i).f3) := by
  obtain ⟨ad, c, e, _, hK, hc0⟩ := Kd.C_get h z103 i h0 h1
  have hc : ∀ j u, c[j]? = some u → w.cell? (ad.add (i.toNat * 4 + j)) = some u := hc0
  obtain rfl := k103_open hK
  exact ⟨ad, e, hc 0 _ rfl, by rw [← add_field _ _ 1 (by omega)]; exact hc 1 _ rfl, by rw [← add_field _ _ 2 (by omega)]; exact hc 2 _ rfl, by rw [← add_field _ _ 3 (by omega)]; exact hc 3 _ rfl⟩
structure S86 where
  f0 : Int
  f1 : Bool
  f2 : Int
  f3 : Int
  f4 : Int
  f5 : Bool
end Go.Proofs.Ytnlbfomlfhigcaa.Q
namespace Go.Proofs.Ytnlbfomlfhigcaa.Q
open Go.RowKit Go.Proofs.YtnlbfomlfhigcaaW.PrintWords Go.Proofs.YtnlbfomlfhigcaaW.PrintLast Go.Proofs.YtnlbfomlfhigcaaW.PrintMore
theorem okT {p : Prop} (h : p := by first | rfl | (simp; done) | (simp [*]; done)) : p := h
theorem reT {p : Prop} (h : p := by first | rfl | (simp [errW_none, errW_some] <;> rfl) | (simp [*, errW_none, errW_some] <;> rfl)) : p := h
theorem blk_farA {w : World} {g g' i : Nat} {s : Option Nat} {t : TypeId} {cs : Array Value} {u : Value} (h : w.heap[g]? = some (.cells cs t (0, 0))) (hp : g ≠ g') : (w.setCell ⟨g', i, s⟩ u).heap[g]? = some (.cells cs t (0, 0)) := blk_far h hp u
theorem blk_putA {w : World} {g i : Nat} {t : TypeId} {cs cs' : Array Value} {u : Value} (h : w.heap[g]? = some (.cells cs t (0, 0))) (e : cs.setIfInBounds i u = cs') : (w.setCell ⟨g, i, none⟩ u).heap[g]? = some (.cells cs' t (0, 0)) := blk_put h i u e
theorem bkT {u w : World} {g : Nat} {p o : Obj} (x : Aside0 (u.heap[g]? = some p)) (h : u.heap[g]? = some p → w.heap[g]? = some o := by intro hh; repeat (first | (with_reducible apply blk_drewN) | (with_reducible apply blk_drew) | (with_reducible apply blk_alloc) | (with_reducible exact hh) | (with_reducible apply blk_farA (hp := Aside0.out (by assumption))) | (with_reducible apply blk_putA) | exact hh | rfl)) : w.heap[g]? = some o := h x.out
theorem bkB {u w w1 : World} {g : Nat} {p o : Obj} (x : Aside0 (u.heap[g]? = some p)) (hb : Below w.heap.size w w1) (h : u.heap[g]? = some p → w.heap[g]? = some o := by intro hh; repeat (first | (with_reducible apply blk_drewN) | (with_reducible apply blk_drew) | (with_reducible apply blk_alloc) | (with_reducible exact hh) | (with_reducible apply blk_farA (hp := Aside0.out (by assumption))) | (with_reducible apply blk_putA) | exact hh | rfl)) : Aside0 (w1.heap[g]? = some o) := Aside0.mk (blk_below (h x.out) hb)
theorem nlT {u w : World} {g g' : Nat} {p o : Obj} (x : Aside0 (u.heap[g]? = some p)) (hg : g' = w.heap.size) (h : u.heap[g]? = some p → w.heap[g]? = some o := by intro hh; repeat (first | (with_reducible apply blk_drewN) | (with_reducible apply blk_drew) | (with_reducible apply blk_alloc) | (with_reducible exact hh) | (with_reducible apply blk_farA (hp := Aside0.out (by assumption))) | (with_reducible apply blk_putA) | exact hh | rfl)) : Aside0 (g ≠ g') := Aside0.mk (hg ▸ Nat.ne_of_lt (blk_lt (h x.out)))
theorem ngT {u w : World} {g g' : Nat} {p o : Obj} (x : Aside0 (u.heap[g]? = some p)) (hg : g' = w.heap.size) (h : u.heap[g]? = some p → w.heap[g]? = some o := by intro hh; repeat (first | (with_reducible apply blk_drewN) | (with_reducible apply blk_drew) | (with_reducible apply blk_alloc) | (with_reducible exact hh) | (with_reducible apply blk_farA (hp := Aside0.out (by assumption))) | (with_reducible apply blk_putA) | exact hh | rfl)) : Aside0 (g' ≠ g) := Aside0.mk (hg ▸ Nat.ne_of_gt (blk_lt (h x.out)))
theorem hbT {w W : World} (h : Below w.heap.size w W := by repeat (first | (with_reducible first | exact HB.out | apply below_alloc | apply pw_below_drewN | apply below_drew1 | refine below_set ?_ (Aside0.out (by assumption))) | exact HB.out)) : Below w.heap.size w W := h
theorem hbS {w W w2 : World} (k : Below W.heap.size W w2) (h : Below w.heap.size w W := by repeat (first | (with_reducible first | exact HB.out | apply below_alloc | apply pw_below_drewN | apply below_drew1 | refine below_set ?_ (Aside0.out (by assumption))) | exact HB.out)) : Aside0 (Below w.heap.size w w2) := Aside0.mk (below_step h k)
theorem geT {w W : World} {g : Nat} (hg : g = W.heap.size) (h : Below w.heap.size w W := by repeat (first | (with_reducible first | exact HB.out | apply below_alloc | apply pw_below_drewN | apply below_drew1 | refine below_set ?_ (Aside0.out (by assumption))) | exact HB.out)) : Aside0 (w.heap.size ≤ g) := Aside0.mk (hg ▸ below_size h)
theorem cz2 {w : World} {g : Nat} {t : TypeId} {v0 v1 : Value} (h : Aside0 (w.heap[g]? = some (.cells #[v0, v1] t (0, 0)))) : w.cell? ⟨g, 0, none⟩ = some v0 ∧ w.cell? ⟨g, 1, none⟩ = some v1 ∧ w.frozen? ⟨g, 0, none⟩ = false ∧ w.frozen? ⟨g, 1, none⟩ = false := ⟨(blk_cell h.out 0).trans rfl, (blk_cell h.out 1).trans rfl, blk_frozen h.out 0, blk_frozen h.out 1⟩
theorem cz4 {w : World} {g : Nat} {t : TypeId} {v0 v1 v2 v3 : Value} (h : Aside0 (w.heap[g]? = some (.cells #[v0, v1, v2, v3] t (0, 0)))) : w.cell? ⟨g, 0, none⟩ = some v0 ∧ w.cell? ⟨g, 1, none⟩ = some v1 ∧ w.cell? ⟨g, 2, none⟩ = some v2 ∧ w.cell? ⟨g, 3, none⟩ = some v3 ∧ w.frozen? ⟨g, 0, none⟩ = false ∧ w.frozen? ⟨g, 1, none⟩ = false ∧ w.frozen? ⟨g, 2, none⟩ = false ∧ w.frozen? ⟨g, 3, none⟩ = false := ⟨(blk_cell h.out 0).trans rfl, (blk_cell h.out 1).trans rfl, (blk_cell h.out 2).trans rfl, (blk_cell h.out 3).trans rfl, blk_frozen h.out 0, blk_frozen h.out 1, blk_frozen h.out 2, blk_frozen h.out 3⟩
theorem cz5 {w : World} {g : Nat} {t : TypeId} {v0 v1 v2 v3 v4 : Value} (h : Aside0 (w.heap[g]? = some (.cells #[v0, v1, v2, v3, v4] t (0, 0)))) : w.cell? ⟨g, 0, none⟩ = some v0 ∧ w.cell? ⟨g, 1, none⟩ = some v1 ∧ w.cell? ⟨g, 2, none⟩ = some v2 ∧ w.cell? ⟨g, 3, none⟩ = some v3 ∧ w.cell? ⟨g, 4, none⟩ = some v4 ∧ w.frozen? ⟨g, 0, none⟩ = false ∧ w.frozen? ⟨g, 1, none⟩ = false ∧ w.frozen? ⟨g, 2, none⟩ = false ∧ w.frozen? ⟨g, 3, none⟩ = false ∧ w.frozen? ⟨g, 4, none⟩ = false := ⟨(blk_cell h.out 0).trans rfl, (blk_cell h.out 1).trans rfl, (blk_cell h.out 2).trans rfl, (blk_cell h.out 3).trans rfl, (blk_cell h.out 4).trans rfl, blk_frozen h.out 0, blk_frozen h.out 1, blk_frozen h.out 2, blk_frozen h.out 3, blk_frozen h.out 4⟩
theorem cz6 {w : World} {g : Nat} {t : TypeId} {v0 v1 v2 v3 v4 v5 : Value} (h : Aside0 (w.heap[g]? = some (.cells #[v0, v1, v2, v3, v4, v5] t (0, 0)))) : w.cell? ⟨g, 0, none⟩ = some v0 ∧ w.cell? ⟨g, 1, none⟩ = some v1 ∧ w.cell? ⟨g, 2, none⟩ = some v2 ∧ w.cell? ⟨g, 3, none⟩ = some v3 ∧ w.cell? ⟨g, 4, none⟩ = some v4 ∧ w.cell? ⟨g, 5, none⟩ = some v5 ∧ w.frozen? ⟨g, 0, none⟩ = false ∧ w.frozen? ⟨g, 1, none⟩ = false ∧ w.frozen? ⟨g, 2, none⟩ = false ∧ w.frozen? ⟨g, 3, none⟩ = false ∧ w.frozen? ⟨g, 4, none⟩ = false ∧ w.frozen? ⟨g, 5, none⟩ = false := ⟨(blk_cell h.out 0).trans rfl, (blk_cell h.out 1).trans rfl, (blk_cell h.out 2).trans rfl, (blk_cell h.out 3).trans rfl, (blk_cell h.out 4).trans rfl, (blk_cell h.out 5).trans rfl, blk_frozen h.out 0, blk_frozen h.out 1, blk_frozen h.out 2, blk_frozen h.out 3, blk_frozen h.out 4, blk_frozen h.out 5⟩
theorem cz8 {w : World} {g : Nat} {t : TypeId} {v0 v1 v2 v3 v4 v5 v6 v7 : Value} (h : Aside0 (w.heap[g]? = some (.cells #[v0, v1, v2, v3, v4, v5, v6, v7] t (0, 0)))) : w.cell? ⟨g, 0, none⟩ = some v0 ∧ w.cell? ⟨g, 1, none⟩ = some v1 ∧ w.cell? ⟨g, 2, none⟩ = some v2 ∧ w.cell? ⟨g, 3, none⟩ = some v3 ∧ w.cell? ⟨g, 4, none⟩ = some v4 ∧ w.cell? ⟨g, 5, none⟩ = some v5 ∧ w.cell? ⟨g, 6, none⟩ = some v6 ∧ w.cell? ⟨g, 7, none⟩ = some v7 ∧ w.frozen? ⟨g, 0, none⟩ = false ∧ w.frozen? ⟨g, 1, none⟩ = false ∧ w.frozen? ⟨g, 2, none⟩ = false ∧ w.frozen? ⟨g, 3, none⟩ = false ∧ w.frozen? ⟨g, 4, none⟩ = false ∧ w.frozen? ⟨g, 5, none⟩ = false ∧ w.frozen? ⟨g, 6, none⟩ = false ∧ w.frozen? ⟨g, 7, none⟩ = false := ⟨(blk_cell h.out 0).trans rfl, (blk_cell h.out 1).trans rfl, (blk_cell h.out 2).trans rfl, (blk_cell h.out 3).trans rfl, (blk_cell h.out 4).trans rfl, (blk_cell h.out 5).trans rfl, (blk_cell h.out 6).trans rfl, (blk_cell h.out 7).trans rfl, blk_frozen h.out 0, blk_frozen h.out 1, blk_frozen h.out 2, blk_frozen h.out 3, blk_frozen h.out 4, blk_frozen h.out 5, blk_frozen h.out 6, blk_frozen h.out 7⟩
end Go.Proofs.Ytnlbfomlfhigcaa.Q
namespace Go.Proofs.Ytnlbfomlfhigcaa.Q
open Go.RowKit Go.Proofs.YtnlbfomlfhigcaaW.PrintWords Go.Proofs.YtnlbfomlfhigcaaW.PrintLast Go.Proofs.YtnlbfomlfhigcaaW.PrintMore
theorem neT {u w : World} {g g' : Nat} {p o : Obj} (x : Aside0 (u.heap[g]? = some p)) (hg : g' = w.heap.size) (h : u.heap[g]? = some p → w.heap[g]? = some o := by intro hh; repeat (first | (with_reducible apply blk_drewN) | (with_reducible apply blk_drew) | (with_reducible apply blk_alloc) | (with_reducible exact hh) | (with_reducible apply blk_farA (hp := Aside0.out (by assumption))) | (with_reducible apply blk_putA) | exact hh | rfl)) : Aside0 (g ≠ g') ∧ Aside0 (g' ≠ g) := ⟨⟨hg ▸ Nat.ne_of_lt (blk_lt (h x.out))⟩, ⟨hg ▸ Nat.ne_of_gt (blk_lt (h x.out))⟩⟩
theorem eqY {α : Type} [BEq α] [LawfulBEq α] {a b : α} (c : a = b) : (a == b) = true ∧ (a != b) = false := ⟨beq_iff_eq.mpr c, bne_eq_false_iff_eq.mpr c⟩
theorem eqN {α : Type} [BEq α] [LawfulBEq α] {a b : α} (c : ¬ a = b) : (a == b) = false ∧ (a != b) = true := ⟨beq_eq_false_iff_ne.mpr c, bne_iff_ne.mpr c⟩
theorem goA {P : Program} {ops : Array Oper} {Q : Exit → Act → World → Prop} {rest : List Oper} {oi : Oper} {a : Act} {w : World} (N : Option Tmp) {f : FuncId} {fn : Func} {az : Array Operand} {ts : Array TypeId} (hf : P.funcs[f]? = some fn) {args : Array Value} {v : Value}
    (c : Calls P f args w fun e w' => e = .returned v ∧ Below w.heap.size w w') (k : ∀ w', Below w.heap.size w w' → wpList P ops Q rest (a.put N v) w')
    (ho : oi.op = .call { callee := .value (.func f), args := az, argTypes := ts } := by with_reducible exact rfl) (hd : oi.dst = N := by rfl) (hg : oi.guard = none := by rfl) (hb : fn.body.isSome = true := by rfl) (hname : (fn.name == "runtime.NumGoroutine") = false := by kernel_rfl)
    (hargs : az.map a.eval = args := by (try simp only [List.map_toArray, List.map_cons, List.map_nil]); first | done | rfl | (simp only [List.length_drop, List.length_take]; rfl)) : wpList P ops Q (oi :: rest) a w :=
  goesL_ N hd hg hf hname hb args ho hargs (c.mono fun e w' h => by obtain ⟨rfl, hb⟩ := h; exact ⟨_, rfl, k w' hb⟩)
theorem boxA {P : Program} {ops : Array Oper} {Q : Exit → Act → World → Prop} {rest : List Oper} {o : Oper} {a : Act} {W : World} (N : Tmp) (cs : Array Value) (t : TypeId)
    (h : ∀ g, g = W.heap.size → ∀ w1, Aside0 (w1.heap[g]? = some (.cells cs t (0, 0))) → Below W.heap.size W w1 → wpList P ops Q rest (a.put (some N) (.pointer (some ⟨g, 0, none⟩))) w1)
    (hd : o.dst = some N := by with_reducible exact rfl) (hg : o.guard = none := by rfl)
    (hr : (execOp a.eval o).run P W = .ok (.value (.pointer (some ⟨W.heap.size, 0, none⟩))) (W.alloc (.cells cs t (0, 0))) := by first | (go_simp; done) | (go_simp; rfl)) : wpList P ops Q (o :: rest) a W :=
  box_event hg hd hr fun g e w1 h1 h2 => by rw [hd]; exact h g e w1 ⟨h1⟩ h2
theorem leT {a b : Nat} (h : a ≤ b := by first | omega | exact Nat.le_refl _) : Aside0 (a ≤ b) := ⟨h⟩
end Go.Proofs.Ytnlbfomlfhigcaa.Q
namespace Go.Proofs.Ytnlbfomlfhigcaa.Q
open Go.RowKit Go.Proofs.YtnlbfomlfhigcaaW.PrintWords Go.Proofs.YtnlbfomlfhigcaaW.PrintLast Go.Proofs.YtnlbfomlfhigcaaW.PrintMore
attribute [local go_sem] max2_int min2_int max_two min_two max_three min_three max_four min_four
set_option linter.unusedVariables false
set_option linter.unusedSimpArgs false
def shape_is.f (a0 : Int) : Option (Bool) := if a0 = 8 then (some true) else (if a0 = 16 then (some true) else (if a0 = 32 then (some true) else (if a0 = 64 then (some true) else (some false))))
set_option maxHeartbeats 8000000 in
set_option maxRecDepth 100000 in
theorem shape_is.calls (a0 : Int) (r : Bool) (w : World) (h : shape_is.f a0 = some r) :
  Calls Try.prog 108 #[.int .i64 a0] w fun e w' => e = .returned (.bool r) ∧ Drawn0 w w' := by
 have H := h
 clear h
 unfold shape_is.f at H
 by_cases c2 : a0 = 8
 ·rw [if_pos c2] at H
  obtain ⟨c2b0, c2b1⟩ := eqY c2
  clear c2
  obtain rfl := Option.some.inj H
  go_enter Try.func108, Try.ntmps108
  go_wp2
  go_ret
  exact ⟨okT, by repeat (first | exact Drawn0.refl _ | apply Drawn0.step)⟩
 ·rw [if_neg c2] at H
  obtain ⟨c2b0, c2b1⟩ := eqN c2
  by_cases c3 : a0 = 16
  ·rw [if_pos c3] at H
   obtain ⟨c3b0, c3b1⟩ := eqY c3
   clear c3
   obtain rfl := Option.some.inj H
   go_enter Try.func108, Try.ntmps108
   go_wp2
   go_ret
   exact ⟨okT, by repeat (first | exact Drawn0.refl _ | apply Drawn0.step)⟩
  ·rw [if_neg c3] at H
   obtain ⟨c3b0, c3b1⟩ := eqN c3
   by_cases c4 : a0 = 32
   ·rw [if_pos c4] at H
    obtain ⟨c4b0, c4b1⟩ := eqY c4
    clear c4
    obtain rfl := Option.some.inj H
    go_enter Try.func108, Try.ntmps108
    go_wp2
    go_ret
    exact ⟨okT, by repeat (first | exact Drawn0.refl _ | apply Drawn0.step)⟩
   ·rw [if_neg c4] at H
    obtain ⟨c4b0, c4b1⟩ := eqN c4
    by_cases c5 : a0 = 64
    ·rw [if_pos c5] at H
     obtain ⟨c5b0, c5b1⟩ := eqY c5
     clear c5
     obtain rfl := Option.some.inj H
     go_enter Try.func108, Try.ntmps108
     go_wp2
     go_ret
     exact ⟨okT, by repeat (first | exact Drawn0.refl _ | apply Drawn0.step)⟩
    ·rw [if_neg c5] at H
     obtain ⟨c5b0, c5b1⟩ := eqN c5
     obtain rfl := Option.some.inj H
     go_enter Try.func108, Try.ntmps108
     go_wp2
     go_ret
     exact ⟨okT, by repeat (first | exact Drawn0.refl _ | apply Drawn0.step)⟩
end Go.Proofs.Ytnlbfomlfhigcaa.Q
namespace Go.Proofs.Ytnlbfomlfhigcaa.Q
open Go.RowKit Go.Proofs.YtnlbfomlfhigcaaW.PrintWords Go.Proofs.YtnlbfomlfhigcaaW.PrintLast Go.Proofs.YtnlbfomlfhigcaaW.PrintMore
attribute [local go_sem] max2_int min2_int max_two min_two max_three min_three max_four min_four
set_option linter.unusedVariables false
set_option linter.unusedSimpArgs false
def lead_ones.f (a0 : Int) : Option (Int) := if a0 = 64 then (some 18446744073709551615) else (if 0 ≤ a0 then (some (IntKind.u64.wrap ((shl .u64 1 a0) - 1))) else (none))
set_option maxHeartbeats 8000000 in
set_option maxRecDepth 100000 in
theorem lead_ones.calls (a0 : Int) (r : Int) (w : World) (h : lead_ones.f a0 = some r) :
  Calls Try.prog 152 #[.int .i64 a0] w fun e w' => e = .returned (.int .u64 r) ∧ Drawn0 w w' := by
 have H := h
 clear h
 unfold lead_ones.f at H
 by_cases c2 : a0 = 64
 ·rw [if_pos c2] at H
  obtain ⟨c2b0, c2b1⟩ := eqY c2
  clear c2
  obtain rfl := Option.some.inj H
  go_enter Try.func152, Try.ntmps152
  go_wp2
  go_ret
  exact ⟨okT, by repeat (first | exact Drawn0.refl _ | apply Drawn0.step)⟩
 ·rw [if_neg c2] at H
  obtain ⟨c2b0, c2b1⟩ := eqN c2
  by_cases c3 : 0 ≤ a0
  ·rw [if_pos c3] at H
   have c3b0 := eq_true c3
   have c3b1 : decide (0 ≤ a0) = true := decide_eq_true c3
   clear c3
   obtain ⟨ji4, hji4⟩ : ∃ j_ : Int, (shl .u64 1 a0) = j_ := ⟨_, rfl⟩
   replace H : (some (IntKind.u64.wrap ((ji4) - 1))) = some r := by first | (rw [hji4] at H; exact H) | (simp only [hji4] at H ⊢; exact H)
   have hji4_ : (IntKind.u64.wrap (1 * 2 ^ min a0.toNat 64)) = ji4 := hji4
   have hji4z : a0 ≤ 64 → (IntKind.u64.wrap (1 * 2 ^ a0.toNat)) = ji4 := shl_small hji4
   have hji4u : (IntKind.u64.wrap (2 ^ min a0.toNat 64)) = ji4 := by have h_ := hji4_; rw [Int.one_mul] at h_; exact h_
   have hji4v : a0 ≤ 64 → (IntKind.u64.wrap (2 ^ a0.toNat)) = ji4 := fun hle_ => by have h_ := hji4z hle_; rw [Int.one_mul] at h_; exact h_
   obtain rfl := Option.some.inj H
   go_enter Try.func152, Try.ntmps152
   go_wp2
   go_ret
   exact ⟨by first | rfl | (simp; done) | (simp only [← hji4] <;> (first | rfl | simp)) | (simp [*]; done), by repeat (first | exact Drawn0.refl _ | apply Drawn0.step)⟩
  ·rw [if_neg c3] at H
   exact absurd H (by simp)
end Go.Proofs.Ytnlbfomlfhigcaa.Q
namespace Go.Proofs.Ytnlbfomlfhigcaa.Q
open Go.RowKit Go.Proofs.YtnlbfomlfhigcaaW.PrintWords Go.Proofs.YtnlbfomlfhigcaaW.PrintLast Go.Proofs.YtnlbfomlfhigcaaW.PrintMore
attribute [local go_sem] max2_int min2_int max_two min_two max_three min_three max_four min_four
set_option linter.unusedVariables false
set_option linter.unusedSimpArgs false
def lead_Mask.f (a0 : Int) : Option (Int × Option Int) := if a0 < 0 then (some (0, some 1)) else (if a0 > 64 then (some (0, some 1)) else ((lead_ones.f a0).bind fun t101 => (some (t101, none))))
set_option maxHeartbeats 8000000 in
set_option maxRecDepth 100000 in
theorem lead_Mask.calls (a0 : Int) (r1 : Int) (r2 : Option Int) (w : World) (h : lead_Mask.f a0 = some (r1, r2)) :
  Calls Try.prog 121 #[.int .i64 a0] w fun e w' => e = .returned (.tuple #[.int .u64 r1, errW r2]) ∧ Drawn0 w w' := by
 have hu43 := Try.underlying43
 have hu82 := Try.underlying82
 have H := h
 clear h
 unfold lead_Mask.f at H
 by_cases c2 : a0 < 0
 ·rw [if_pos c2] at H
  have c2b0 : decide (a0 < 0) = true := decide_eq_true c2
  clear c2
  simp only [Option.some.injEq, Prod.mk.injEq] at H
  obtain ⟨rfl, rfl⟩ := H
  go_enter Try.func121, Try.ntmps121
  go_wp2
  go_ret2
  exact ⟨okT, by repeat (first | exact Drawn0.refl _ | apply Drawn0.step)⟩
 ·rw [if_neg c2] at H
  have c2b0 : decide (a0 < 0) = false := decide_eq_false c2
  clear c2
  by_cases c3 : a0 > 64
  ·rw [if_pos c3] at H
   have c3b0 : decide (64 < a0) = true := decide_eq_true c3
   clear c3
   simp only [Option.some.injEq, Prod.mk.injEq] at H
   obtain ⟨rfl, rfl⟩ := H
   go_enter Try.func121, Try.ntmps121
   go_wp2
   go_ret2
   exact ⟨okT, by repeat (first | exact Drawn0.refl _ | apply Drawn0.step)⟩
  ·rw [if_neg c3] at H
   have c3b0 : decide (64 < a0) = false := decide_eq_false c3
   clear c3
   replace H := Option.bind_eq_some_iff.mp H
   obtain ⟨t101, A40, H⟩ := H
   try dsimp only at H
   have A4 := Aside0.mk A40
   clear A40
   simp only [Option.some.injEq, Prod.mk.injEq] at H
   obtain ⟨rfl, rfl⟩ := H
   go_enter Try.func121, Try.ntmps121
   go_wp2_with (first | ((with_reducible refine gate_callee (f := 152) rfl ?_); refine goesL_ (some 12) rfl rfl Try.func152 (by kernel_rfl) rfl #[.int .i64 a0] rfl (by (try simp only [List.map_toArray, List.map_cons, List.map_nil]); first | done | rfl | (simp only [List.length_drop, List.length_take]; rfl)) ?_; (with_reducible refine (lead_ones.calls a0 t101 _ A4.out).mono ?_); rintro e w' ⟨rfl, ⟨nd, rfl⟩⟩; refine ⟨_, rfl, ?_⟩))
   go_ret2
   exact ⟨okT, by repeat (first | exact Drawn0.refl _ | apply Drawn0.step)⟩
end Go.Proofs.Ytnlbfomlfhigcaa.Q
namespace Go.Proofs.Ytnlbfomlfhigcaa.Q
open Go.RowKit Go.Proofs.YtnlbfomlfhigcaaW.PrintWords Go.Proofs.YtnlbfomlfhigcaaW.PrintLast Go.Proofs.YtnlbfomlfhigcaaW.PrintMore
attribute [local go_sem] max2_int min2_int max_two min_two max_three min_three max_four min_four
set_option linter.unusedVariables false
set_option linter.unusedSimpArgs false
def shape_Fold.f (a0 : Int) (a1 : Int) : Option (Int × Option Int) := (shape_is.f a0).bind fun t102 => (if t102 = true then ((lead_Mask.f a0).bind fun bt103 => (some (Go.bits .and .u64 a1 bt103.1, bt103.2))) else (some (0, some 2)))
set_option maxHeartbeats 8000000 in
set_option maxRecDepth 100000 in
theorem shape_Fold.calls (a0 : Int) (a1 : Int) (r1 : Int) (r2 : Option Int) (w : World) (h : shape_Fold.f a0 a1 = some (r1, r2)) :
  Calls Try.prog 95 #[.int .i64 a0, .int .u64 a1] w fun e w' => e = .returned (.tuple #[.int .u64 r1, errW r2]) ∧ Drawn0 w w' := by
 have hu43 := Try.underlying43
 have hu82 := Try.underlying82
 have H := h
 clear h
 unfold shape_Fold.f at H
 replace H := Option.bind_eq_some_iff.mp H
 obtain ⟨t102, A30, H⟩ := H
 try dsimp only at H
 have A3 := Aside0.mk A30
 clear A30
 by_cases c4 : t102 = true
 ·subst c4
  rw [if_pos rfl] at H
  replace H := Option.bind_eq_some_iff.mp H
  obtain ⟨⟨t103, t104⟩, A50, H⟩ := H
  try dsimp only at H
  have A5 := Aside0.mk A50
  clear A50
  simp only [Option.some.injEq, Prod.mk.injEq] at H
  obtain ⟨rfl, rfl⟩ := H
  go_enter Try.func95, Try.ntmps95
  go_wp2_with (first | ((with_reducible refine gate_callee (f := 108) rfl ?_); refine goesL_ (some 9) rfl rfl Try.func108 (by kernel_rfl) rfl #[.int .i64 a0] rfl (by (try simp only [List.map_toArray, List.map_cons, List.map_nil]); first | done | rfl | (simp only [List.length_drop, List.length_take]; rfl)) ?_; (with_reducible refine (shape_is.calls a0 true _ A3.out).mono ?_); rintro e w' ⟨rfl, ⟨nd, rfl⟩⟩; refine ⟨_, rfl, ?_⟩) | ((with_reducible refine gate_callee (f := 121) rfl ?_); refine goesL_ (some 14) rfl rfl Try.func121 (by kernel_rfl) rfl #[.int .i64 a0] rfl (by (try simp only [List.map_toArray, List.map_cons, List.map_nil]); first | done | rfl | (simp only [List.length_drop, List.length_take]; rfl)) ?_; (with_reducible refine (lead_Mask.calls a0 t103 t104 _ A5.out).mono ?_); rintro e w' ⟨rfl, ⟨nd, rfl⟩⟩; refine ⟨_, rfl, ?_⟩; (try simp only [errW_none, errW_some])))
  go_ret2
  exact ⟨okT, by repeat (first | exact Drawn0.refl _ | apply Drawn0.step)⟩
 ·replace c4 := Bool.eq_false_iff.mpr c4
  subst c4
  rw [if_neg (show ¬ (false = true) by decide)] at H
  simp only [Option.some.injEq, Prod.mk.injEq] at H
  obtain ⟨rfl, rfl⟩ := H
  go_enter Try.func95, Try.ntmps95
  go_wp2_with (first | ((with_reducible refine gate_callee (f := 108) rfl ?_); refine goesL_ (some 9) rfl rfl Try.func108 (by kernel_rfl) rfl #[.int .i64 a0] rfl (by (try simp only [List.map_toArray, List.map_cons, List.map_nil]); first | done | rfl | (simp only [List.length_drop, List.length_take]; rfl)) ?_; (with_reducible refine (shape_is.calls a0 false _ A3.out).mono ?_); rintro e w' ⟨rfl, ⟨nd, rfl⟩⟩; refine ⟨_, rfl, ?_⟩))
  go_ret2
  exact ⟨okT, by repeat (first | exact Drawn0.refl _ | apply Drawn0.step)⟩
end Go.Proofs.Ytnlbfomlfhigcaa.Q
namespace Go.Proofs.Ytnlbfomlfhigcaa.Q
open Go.RowKit Go.Proofs.YtnlbfomlfhigcaaW.PrintWords Go.Proofs.YtnlbfomlfhigcaaW.PrintLast Go.Proofs.YtnlbfomlfhigcaaW.PrintMore
attribute [local go_sem] max2_int min2_int max_two min_two max_three min_three max_four min_four
set_option linter.unusedVariables false
set_option linter.unusedSimpArgs false
def shape_Kind.f (a0 : Int) (a1 : Int) : Option (Int × Option Int) := (shape_Fold.f a0 a1).bind fun bt105 => (if bt105.2.isNone = true then (if bt105.1 = 0 then (some (0, none)) else (if 0 ≤ (wrap64 (a0 - 1)) then (if bt105.1 = (shl .u64 1 (wrap64 (a0 - 1))) then (some (2, none)) else (some (1, none))) else (none))) else (some (0, some (bt105.2.getD 0))))
set_option maxHeartbeats 8000000 in
set_option maxRecDepth 100000 in
theorem shape_Kind.calls (a0 : Int) (a1 : Int) (r1 : Int) (r2 : Option Int) (w : World) (h : shape_Kind.f a0 a1 = some (r1, r2)) :
  Calls Try.prog 70 #[.int .i64 a0, .int .u64 a1] w fun e w' => e = .returned (.tuple #[.int .i64 r1, errW r2]) ∧ Drawn0 w w' := by
 have hu43 := Try.underlying43
 have hu82 := Try.underlying82
 have H := h
 clear h
 unfold shape_Kind.f at H
 replace H := Option.bind_eq_some_iff.mp H
 obtain ⟨⟨t105, t106⟩, A30, H⟩ := H
 try dsimp only at H
 have A3 := Aside0.mk A30
 clear A30
 rcases t106 with _ | q107
 ·rw [if_pos (show (none : Option Int).isNone = true by rfl)] at H
  try simp only [errW_none, errW_some]
  by_cases c4 : t105 = 0
  ·rw [if_pos c4] at H
   obtain ⟨c4b0, c4b1⟩ := eqY c4
   clear c4
   simp only [Option.some.injEq, Prod.mk.injEq] at H
   obtain ⟨rfl, rfl⟩ := H
   go_enter Try.func70, Try.ntmps70
   go_wp2_with (first | ((with_reducible refine gate_callee (f := 95) rfl ?_); refine goesL_ (some 10) rfl rfl Try.func95 (by kernel_rfl) rfl #[.int .i64 a0, .int .u64 a1] rfl (by (try simp only [List.map_toArray, List.map_cons, List.map_nil]); first | done | rfl | (simp only [List.length_drop, List.length_take]; rfl)) ?_; (with_reducible refine (shape_Fold.calls a0 a1 t105 none _ A3.out).mono ?_); rintro e w' ⟨rfl, ⟨nd, rfl⟩⟩; refine ⟨_, rfl, ?_⟩; (try simp only [errW_none, errW_some])))
   go_ret2
   exact ⟨okT, by repeat (first | exact Drawn0.refl _ | apply Drawn0.step)⟩
  ·rw [if_neg c4] at H
   obtain ⟨c4b0, c4b1⟩ := eqN c4
   obtain ⟨ji5, hji5⟩ : ∃ j_ : Int, (wrap64 (a0 - 1)) = j_ := ⟨_, rfl⟩
   replace H : (if 0 ≤ (ji5) then (if t105 = (shl .u64 1 (ji5)) then (some (2, none)) else (some (1, none))) else (none)) = some (r1, r2) := by first | (rw [hji5] at H; exact H) | (simp only [hji5] at H ⊢; exact H)
   (try rw [hji5] at A3)
   have hji5w : (IntKind.i64.wrap (a0 - 1)) = ji5 := (i64_w _).trans hji5
   by_cases c6 : 0 ≤ (ji5)
   ·rw [if_pos c6] at H
    have c6b0 := eq_true c6
    have c6b1 : decide (0 ≤ (ji5)) = true := decide_eq_true c6
    clear c6
    obtain ⟨ji7, hji7⟩ : ∃ j_ : Int, (shl .u64 1 (ji5)) = j_ := ⟨_, rfl⟩
    replace H : (if t105 = (ji7) then (some (2, none)) else (some (1, none))) = some (r1, r2) := by first | (rw [hji7] at H; exact H) | (simp only [hji7] at H ⊢; exact H)
    (try rw [hji7] at A3)
    have hji7_ : (IntKind.u64.wrap (1 * 2 ^ min (ji5).toNat 64)) = ji7 := hji7
    have hji7z : (ji5) ≤ 64 → (IntKind.u64.wrap (1 * 2 ^ (ji5).toNat)) = ji7 := shl_small hji7
    have hji7u : (IntKind.u64.wrap (2 ^ min (ji5).toNat 64)) = ji7 := by have h_ := hji7_; rw [Int.one_mul] at h_; exact h_
    have hji7v : (ji5) ≤ 64 → (IntKind.u64.wrap (2 ^ (ji5).toNat)) = ji7 := fun hle_ => by have h_ := hji7z hle_; rw [Int.one_mul] at h_; exact h_
    by_cases c8 : t105 = (ji7)
    ·rw [if_pos c8] at H
     obtain ⟨c8b0, c8b1⟩ := eqY c8
     clear c8
     simp only [Option.some.injEq, Prod.mk.injEq] at H
     obtain ⟨rfl, rfl⟩ := H
     go_enter Try.func70, Try.ntmps70
     go_wp2_with (first | ((with_reducible refine gate_callee (f := 95) rfl ?_); refine goesL_ (some 10) rfl rfl Try.func95 (by kernel_rfl) rfl #[.int .i64 a0, .int .u64 a1] rfl (by (try simp only [List.map_toArray, List.map_cons, List.map_nil]); first | done | rfl | (simp only [List.length_drop, List.length_take]; rfl)) ?_; (with_reducible refine (shape_Fold.calls a0 a1 t105 none _ A3.out).mono ?_); rintro e w' ⟨rfl, ⟨nd, rfl⟩⟩; refine ⟨_, rfl, ?_⟩; (try simp only [errW_none, errW_some])))
     go_ret2
     exact ⟨by first | rfl | (simp; done) | (simp only [← hji5, ← hji7] <;> (first | rfl | simp)) | (simp [*]; done), by repeat (first | exact Drawn0.refl _ | apply Drawn0.step)⟩
    ·rw [if_neg c8] at H
     obtain ⟨c8b0, c8b1⟩ := eqN c8
     simp only [Option.some.injEq, Prod.mk.injEq] at H
     obtain ⟨rfl, rfl⟩ := H
     go_enter Try.func70, Try.ntmps70
     go_wp2_with (first | ((with_reducible refine gate_callee (f := 95) rfl ?_); refine goesL_ (some 10) rfl rfl Try.func95 (by kernel_rfl) rfl #[.int .i64 a0, .int .u64 a1] rfl (by (try simp only [List.map_toArray, List.map_cons, List.map_nil]); first | done | rfl | (simp only [List.length_drop, List.length_take]; rfl)) ?_; (with_reducible refine (shape_Fold.calls a0 a1 t105 none _ A3.out).mono ?_); rintro e w' ⟨rfl, ⟨nd, rfl⟩⟩; refine ⟨_, rfl, ?_⟩; (try simp only [errW_none, errW_some])))
     go_ret2
     exact ⟨by first | rfl | (simp; done) | (simp only [← hji5, ← hji7] <;> (first | rfl | simp)) | (simp [*]; done), by repeat (first | exact Drawn0.refl _ | apply Drawn0.step)⟩
   ·rw [if_neg c6] at H
    exact absurd H (by simp)
 ·rw [if_neg (show ¬ (some q107).isNone = true by simp)] at H
  try simp only [errW_none, errW_some]
  simp only [Option.some.injEq, Prod.mk.injEq] at H
  obtain ⟨rfl, rfl⟩ := H
  go_enter Try.func70, Try.ntmps70
  go_wp2_with (first | ((with_reducible refine gate_callee (f := 95) rfl ?_); refine goesL_ (some 10) rfl rfl Try.func95 (by kernel_rfl) rfl #[.int .i64 a0, .int .u64 a1] rfl (by (try simp only [List.map_toArray, List.map_cons, List.map_nil]); first | done | rfl | (simp only [List.length_drop, List.length_take]; rfl)) ?_; (with_reducible refine (shape_Fold.calls a0 a1 t105 (some q107) _ A3.out).mono ?_); rintro e w' ⟨rfl, ⟨nd, rfl⟩⟩; refine ⟨_, rfl, ?_⟩; (try simp only [errW_none, errW_some])))
  go_ret2
  exact ⟨okT, by repeat (first | exact Drawn0.refl _ | apply Drawn0.step)⟩
end Go.Proofs.Ytnlbfomlfhigcaa.Q
namespace Go.Proofs.Ytnlbfomlfhigcaa.Q
open Go.RowKit Go.Proofs.YtnlbfomlfhigcaaW.PrintWords Go.Proofs.YtnlbfomlfhigcaaW.PrintLast Go.Proofs.YtnlbfomlfhigcaaW.PrintMore
attribute [local go_sem] max2_int min2_int max_two min_two max_three min_three max_four min_four
set_option linter.unusedVariables false
set_option linter.unusedSimpArgs false
def lead_Extend.f (a0 : Int) (a1 : Int) : Option (Int × Option Int) := if a1 < 1 then (some (0, some 1)) else (if a1 > 64 then (some (0, some 1)) else (if 0 ≤ (wrap64 (64 - a1)) then (some (shr .i64 (wrap64 (shl .u64 a0 (wrap64 (64 - a1)))) (wrap64 (64 - a1)), none)) else (none)))
set_option maxHeartbeats 8000000 in
set_option maxRecDepth 100000 in
theorem lead_Extend.calls (a0 : Int) (a1 : Int) (r1 : Int) (r2 : Option Int) (w : World) (h : lead_Extend.f a0 a1 = some (r1, r2)) :
  Calls Try.prog 122 #[.int .u64 a0, .int .i64 a1] w fun e w' => e = .returned (.tuple #[.int .i64 r1, errW r2]) ∧ Drawn0 w w' := by
 have hu43 := Try.underlying43
 have hu82 := Try.underlying82
 have H := h
 clear h
 unfold lead_Extend.f at H
 by_cases c3 : a1 < 1
 ·rw [if_pos c3] at H
  have c3b0 : decide (a1 < 1) = true := decide_eq_true c3
  clear c3
  simp only [Option.some.injEq, Prod.mk.injEq] at H
  obtain ⟨rfl, rfl⟩ := H
  go_enter Try.func122, Try.ntmps122
  go_wp2
  go_ret2
  exact ⟨okT, by repeat (first | exact Drawn0.refl _ | apply Drawn0.step)⟩
 ·rw [if_neg c3] at H
  have c3b0 : decide (a1 < 1) = false := decide_eq_false c3
  clear c3
  by_cases c4 : a1 > 64
  ·rw [if_pos c4] at H
   have c4b0 : decide (64 < a1) = true := decide_eq_true c4
   clear c4
   simp only [Option.some.injEq, Prod.mk.injEq] at H
   obtain ⟨rfl, rfl⟩ := H
   go_enter Try.func122, Try.ntmps122
   go_wp2
   go_ret2
   exact ⟨okT, by repeat (first | exact Drawn0.refl _ | apply Drawn0.step)⟩
  ·rw [if_neg c4] at H
   have c4b0 : decide (64 < a1) = false := decide_eq_false c4
   clear c4
   obtain ⟨ji5, hji5⟩ : ∃ j_ : Int, (wrap64 (64 - a1)) = j_ := ⟨_, rfl⟩
   replace H : (if 0 ≤ (ji5) then (some (shr .i64 (wrap64 (shl .u64 a0 (ji5))) (ji5), none)) else (none)) = some (r1, r2) := by first | (rw [hji5] at H; exact H) | (simp only [hji5] at H ⊢; exact H)
   have hji5w : (IntKind.i64.wrap (64 - a1)) = ji5 := (i64_w _).trans hji5
   by_cases c6 : 0 ≤ (ji5)
   ·rw [if_pos c6] at H
    have c6b0 := eq_true c6
    have c6b1 : decide (0 ≤ (ji5)) = true := decide_eq_true c6
    clear c6
    obtain ⟨ji7, hji7⟩ : ∃ j_ : Int, (shl .u64 a0 (ji5)) = j_ := ⟨_, rfl⟩
    replace H : (some (shr .i64 (wrap64 (ji7)) (ji5), none)) = some (r1, r2) := by first | (rw [hji7] at H; exact H) | (simp only [hji7] at H ⊢; exact H)
    have hji7_ : (IntKind.u64.wrap (a0 * 2 ^ min (ji5).toNat 64)) = ji7 := hji7
    have hji7z : (ji5) ≤ 64 → (IntKind.u64.wrap (a0 * 2 ^ (ji5).toNat)) = ji7 := shl_small hji7
    have c8b0 := eq_true (of_decide_eq_true (by first | (with_reducible assumption) | assumption) : 0 ≤ (ji5))
    obtain ⟨ji9, hji9⟩ : ∃ j_ : Int, (shr .i64 (wrap64 (ji7)) (ji5)) = j_ := ⟨_, rfl⟩
    replace H : (some (ji9, none)) = some (r1, r2) := by first | (rw [hji9] at H; exact H) | (simp only [hji9] at H ⊢; exact H)
    have hji9_ : ((wrap64 (ji7)) / 2 ^ min (ji5).toNat 64) = ji9 := hji9
    have hji9z : (ji5) ≤ 64 → ((wrap64 (ji7)) / 2 ^ (ji5).toNat) = ji9 := shr_small hji9
    simp only [Option.some.injEq, Prod.mk.injEq] at H
    obtain ⟨rfl, rfl⟩ := H
    go_enter Try.func122, Try.ntmps122
    go_wp2
    go_ret2
    exact ⟨by first | rfl | (simp; done) | (simp only [← hji5, ← hji7, ← hji9] <;> (first | rfl | simp)) | (simp [*]; done), by repeat (first | exact Drawn0.refl _ | apply Drawn0.step)⟩
   ·rw [if_neg c6] at H
    exact absurd H (by simp)
end Go.Proofs.Ytnlbfomlfhigcaa.Q
namespace Go.Proofs.Ytnlbfomlfhigcaa.Q
open Go.RowKit Go.Proofs.YtnlbfomlfhigcaaW.PrintWords Go.Proofs.YtnlbfomlfhigcaaW.PrintLast Go.Proofs.YtnlbfomlfhigcaaW.PrintMore
attribute [local go_sem] max2_int min2_int max_two min_two max_three min_three max_four min_four
set_option linter.unusedVariables false
set_option linter.unusedSimpArgs false
def shape_Rank.f (a0 : Int) (a1 : Int) : Option (Int × Option Int) := (shape_is.f a0).bind fun t108 => (if t108 = true then ((lead_Extend.f a1 a0).bind fun bt109 => (some (bt109.1, bt109.2))) else (some (0, some 2)))
set_option maxHeartbeats 8000000 in
set_option maxRecDepth 100000 in
theorem shape_Rank.calls (a0 : Int) (a1 : Int) (r1 : Int) (r2 : Option Int) (w : World) (h : shape_Rank.f a0 a1 = some (r1, r2)) :
  Calls Try.prog 96 #[.int .i64 a0, .int .u64 a1] w fun e w' => e = .returned (.tuple #[.int .i64 r1, errW r2]) ∧ Drawn0 w w' := by
 have hu43 := Try.underlying43
 have hu82 := Try.underlying82
 have H := h
 clear h
 unfold shape_Rank.f at H
 replace H := Option.bind_eq_some_iff.mp H
 obtain ⟨t108, A30, H⟩ := H
 try dsimp only at H
 have A3 := Aside0.mk A30
 clear A30
 by_cases c4 : t108 = true
 ·subst c4
  rw [if_pos rfl] at H
  replace H := Option.bind_eq_some_iff.mp H
  obtain ⟨⟨t109, t110⟩, A50, H⟩ := H
  try dsimp only at H
  have A5 := Aside0.mk A50
  clear A50
  simp only [Option.some.injEq, Prod.mk.injEq] at H
  obtain ⟨rfl, rfl⟩ := H
  go_enter Try.func96, Try.ntmps96
  go_wp2_with (first | ((with_reducible refine gate_callee (f := 108) rfl ?_); refine goesL_ (some 7) rfl rfl Try.func108 (by kernel_rfl) rfl #[.int .i64 a0] rfl (by (try simp only [List.map_toArray, List.map_cons, List.map_nil]); first | done | rfl | (simp only [List.length_drop, List.length_take]; rfl)) ?_; (with_reducible refine (shape_is.calls a0 true _ A3.out).mono ?_); rintro e w' ⟨rfl, ⟨nd, rfl⟩⟩; refine ⟨_, rfl, ?_⟩) | ((with_reducible refine gate_callee (f := 122) rfl ?_); refine goesL_ (some 12) rfl rfl Try.func122 (by kernel_rfl) rfl #[.int .u64 a1, .int .i64 a0] rfl (by (try simp only [List.map_toArray, List.map_cons, List.map_nil]); first | done | rfl | (simp only [List.length_drop, List.length_take]; rfl)) ?_; (with_reducible refine (lead_Extend.calls a1 a0 t109 t110 _ A5.out).mono ?_); rintro e w' ⟨rfl, ⟨nd, rfl⟩⟩; refine ⟨_, rfl, ?_⟩; (try simp only [errW_none, errW_some])))
  go_ret2
  exact ⟨okT, by repeat (first | exact Drawn0.refl _ | apply Drawn0.step)⟩
 ·replace c4 := Bool.eq_false_iff.mpr c4
  subst c4
  rw [if_neg (show ¬ (false = true) by decide)] at H
  simp only [Option.some.injEq, Prod.mk.injEq] at H
  obtain ⟨rfl, rfl⟩ := H
  go_enter Try.func96, Try.ntmps96
  go_wp2_with (first | ((with_reducible refine gate_callee (f := 108) rfl ?_); refine goesL_ (some 7) rfl rfl Try.func108 (by kernel_rfl) rfl #[.int .i64 a0] rfl (by (try simp only [List.map_toArray, List.map_cons, List.map_nil]); first | done | rfl | (simp only [List.length_drop, List.length_take]; rfl)) ?_; (with_reducible refine (shape_is.calls a0 false _ A3.out).mono ?_); rintro e w' ⟨rfl, ⟨nd, rfl⟩⟩; refine ⟨_, rfl, ?_⟩))
  go_ret2
  exact ⟨okT, by repeat (first | exact Drawn0.refl _ | apply Drawn0.step)⟩
end Go.Proofs.Ytnlbfomlfhigcaa.Q
namespace Go.Proofs
open Go.Shelf
def Try.lays134_ren : Go.Shelf.Ren := ⟨fun | 134 => 131 | 129 => 157 | n => n, fun | 53 => 25 | 3 => 3 | 4 => 4 | 46 => 95 | 5 => 5 | 9 => 9 | n => n, fun | n => n⟩
theorem Try.lays134 : Go.Proofs.Lays.n134 Try.prog Try.lays134_ren := {
  mixed := by kernel_rfl
  f129 := Try.func157.trans (congrArg some (by kernel_rfl))
  f134 := Try.func131.trans (congrArg some (by kernel_rfl))
  t3 := Try.underlying3
  a3 := Try.isAgg3
  z3 := Try.sizeOf3
  v3 := Try.zeroValue3
  t4 := Try.underlying4
  a4 := Try.isAgg4
  z4 := Try.sizeOf4
  v4 := Try.zeroValue4
  t5 := Try.underlying5
  a5 := Try.isAgg5
  z5 := Try.sizeOf5
  v5 := Try.zeroValue5
  t9 := Try.underlying9
  a9 := Try.isAgg9
  z9 := Try.sizeOf9
  v9 := Try.zeroValue9
  t46 := Try.underlying95
  a46 := Try.isAgg95
  z46 := Try.sizeOf95
  v46 := Try.zeroValue95
  t53 := Try.underlying25
  a53 := Try.isAgg25
  z53 := Try.sizeOf25
  v53 := Try.zeroValue25 }
theorem Try.bits_LeadingZeros64 (x : Int) (w : World) (h0 : 0 ≤ x) (h1 : x ≤ 18446744073709551615) :
    Calls Try.prog 131 #[.int .u64 x] w fun e w' => e = .returned (.int .i64 (64 - (Lib.bitLen x.toNat : Int))) ∧ w' = w := Any.bits_LeadingZeros64 Try.lays134 x w h0 h1
def Try.lays129_ren : Go.Shelf.Ren := ⟨fun | 129 => 157 | n => n, fun | 53 => 25 | 3 => 3 | 4 => 4 | 46 => 95 | 5 => 5 | 9 => 9 | n => n, fun | n => n⟩
theorem Try.lays129 : Go.Proofs.Lays.n129 Try.prog Try.lays129_ren := {
  mixed := by kernel_rfl
  f129 := Try.func157.trans (congrArg some (by kernel_rfl))
  t3 := Try.underlying3
  a3 := Try.isAgg3
  z3 := Try.sizeOf3
  v3 := Try.zeroValue3
  t4 := Try.underlying4
  a4 := Try.isAgg4
  z4 := Try.sizeOf4
  v4 := Try.zeroValue4
  t5 := Try.underlying5
  a5 := Try.isAgg5
  z5 := Try.sizeOf5
  v5 := Try.zeroValue5
  t9 := Try.underlying9
  a9 := Try.isAgg9
  z9 := Try.sizeOf9
  v9 := Try.zeroValue9
  t46 := Try.underlying95
  a46 := Try.isAgg95
  z46 := Try.sizeOf95
  v46 := Try.zeroValue95
  t53 := Try.underlying25
  a53 := Try.isAgg25
  z53 := Try.sizeOf25
  v53 := Try.zeroValue25 }
theorem Try.bits_Len64 (x : Int) (w : World) (h0 : 0 ≤ x) (h1 : x ≤ 18446744073709551615) :
    Calls Try.prog 157 #[.int .u64 x] w fun e w' => e = .returned (.int .i64 (Lib.bitLen x.toNat)) ∧ w' = w := Any.bits_Len64 Try.lays129 x w h0 h1
def Try.lays264_ren : Go.Shelf.Ren := ⟨fun | 264 => 150 | n => n, fun | 53 => 25 | 46 => 95 | n => n, fun | n => n⟩
theorem Try.lays264 : Go.Proofs.Lays.n264 Try.prog Try.lays264_ren := {
  mixed := by kernel_rfl
  f264 := Try.func150.trans (congrArg some (by kernel_rfl))
  t46 := Try.underlying95
  a46 := Try.isAgg95
  z46 := Try.sizeOf95
  v46 := Try.zeroValue95
  t53 := Try.underlying25
  a53 := Try.isAgg25
  z53 := Try.sizeOf25
  v53 := Try.zeroValue25 }
open Go.RowKit Go.Lib in
theorem Try.bits_Mul64 (x y : Nat) (hx : x < 18446744073709551616) (hy : y < 18446744073709551616) (w : World) :
    Calls Try.prog 150 #[.int .u64 x, .int .u64 y] w fun e w' => e = .returned (.tuple #[.int .u64 ((x * y / 18446744073709551616 : Nat) : Int), .int .u64 ((x * y % 18446744073709551616 : Nat) : Int)]) ∧ w' = w := Any.bits_Mul64 Try.lays264 x y hx hy w
end Go.Proofs
namespace Go.Proofs.Ytnlbfomlfhigcaa.Q
open Go.RowKit Go.Proofs.YtnlbfomlfhigcaaW.PrintWords Go.Proofs.YtnlbfomlfhigcaaW.PrintLast Go.Proofs.YtnlbfomlfhigcaaW.PrintMore
def bits_Len64.f (a0 : Int) : Option (Int) := if 0 ≤ a0 ∧ a0 ≤ 18446744073709551615 then some ((Lib.bitLen a0.toNat : Nat) : Int) else none
theorem bits_Len64.calls (a0 : Int) (r : Int) (w : World) (h : bits_Len64.f a0 = some r) :
    Calls Try.prog 157 #[.int .u64 a0] w fun e w' => e = .returned (.int .i64 r) ∧ Drawn0 w w' := by
  unfold bits_Len64.f at h
  split at h
  · rename_i hc
    obtain rfl := Option.some.inj h
    refine (Try.bits_Len64 a0 w hc.1 hc.2).mono ?_
    rintro e w' ⟨he, rfl⟩
    exact ⟨he, Drawn0.refl _⟩
  · cases h
def bits_LeadingZeros64.f (a0 : Int) : Option (Int) := if 0 ≤ a0 ∧ a0 ≤ 18446744073709551615 then some (64 - ((Lib.bitLen a0.toNat : Nat) : Int)) else none
theorem bits_LeadingZeros64.calls (a0 : Int) (r : Int) (w : World) (h : bits_LeadingZeros64.f a0 = some r) :
    Calls Try.prog 131 #[.int .u64 a0] w fun e w' => e = .returned (.int .i64 r) ∧ Drawn0 w w' := by
  unfold bits_LeadingZeros64.f at h
  split at h
  · rename_i hc
    obtain rfl := Option.some.inj h
    refine (Try.bits_LeadingZeros64 a0 w hc.1 hc.2).mono ?_
    rintro e w' ⟨he, rfl⟩
    exact ⟨he, Drawn0.refl _⟩
  · cases h
def bits_Mul64.f (a0 : Int) (a1 : Int) : Option (Int × Int) := if 0 ≤ a0 ∧ a0 ≤ 18446744073709551615 ∧ 0 ≤ a1 ∧ a1 ≤ 18446744073709551615 then some (a0 * a1 / 18446744073709551616, a0 * a1 % 18446744073709551616) else none
theorem bits_Mul64.calls (a0 : Int) (a1 : Int) (r1 : Int) (r2 : Int) (w : World) (h : bits_Mul64.f a0 a1 = some (r1, r2)) :
    Calls Try.prog 150 #[.int .u64 a0, .int .u64 a1] w fun e w' => e = .returned (.tuple #[.int .u64 r1, .int .u64 r2]) ∧ Drawn0 w w' := by
  unfold bits_Mul64.f at h
  split at h
  · rename_i hc
    simp only [Option.some.injEq, Prod.mk.injEq] at h
    obtain ⟨rfl, rfl⟩ := h
    obtain ⟨x, rfl⟩ := Int.eq_ofNat_of_zero_le hc.1
    obtain ⟨y, rfl⟩ := Int.eq_ofNat_of_zero_le hc.2.2.1
    refine (Try.bits_Mul64 x y (by omega) (by omega) w).mono ?_
    rintro e w' ⟨he, rfl⟩
    refine ⟨?_, Drawn0.refl _⟩
    rw [he]
    rfl
  · cases h
end Go.Proofs.Ytnlbfomlfhigcaa.Q
namespace Go.Proofs.Ytnlbfomlfhigcaa.Q
open Go.RowKit Go.Proofs.YtnlbfomlfhigcaaW.PrintWords Go.Proofs.YtnlbfomlfhigcaaW.PrintLast Go.Proofs.YtnlbfomlfhigcaaW.PrintMore
attribute [local go_sem] max2_int min2_int max_two min_two max_three min_three max_four min_four
set_option linter.unusedVariables false
set_option linter.unusedSimpArgs false
def lead_Run.j0 : Nat → Int → Int → Bool → Option (Bool × Int × Option Int)
 | 0, _, _, _ => none
 | k + 1, x0, x1, x13 => if x13 = true then (some (false, 0, some 1)) else (if 0 ≤ (wrap64 (64 - x1)) then (if ((shl .u64 x0 (wrap64 (64 - x1))) / 9223372036854775808) = 1 then ((bits_LeadingZeros64.f (Go.bits .xor .u64 18446744073709551615 (shl .u64 x0 (wrap64 (64 - x1))))).bind fun t111 => (some ((((shl .u64 x0 (wrap64 (64 - x1))) / 9223372036854775808) == 1), mn t111 x1, none))) else ((bits_LeadingZeros64.f (shl .u64 x0 (wrap64 (64 - x1)))).bind fun t112 => (some ((((shl .u64 x0 (wrap64 (64 - x1))) / 9223372036854775808) == 1), mn t112 x1, none)))) else (none))
def lead_Run.f (k : Nat) (a0 : Int) (a1 : Int) : Option (Bool × Int × Option Int) := if a1 < 1 then (lead_Run.j0 k a0 a1 true) else (lead_Run.j0 k a0 a1 (decide (a1 > 64)))
set_option maxHeartbeats 8000000 in
set_option maxRecDepth 100000 in
theorem lead_Run.calls (k : Nat) (a0 : Int) (a1 : Int) (r1 : Bool) (r2 : Int) (r3 : Option Int) (w : World) (h : lead_Run.f k a0 a1 = some (r1, r2, r3)) :
  Calls Try.prog 123 #[.int .u64 a0, .int .i64 a1] w fun e w' => e = .returned (.tuple #[.bool r1, .int .i64 r2, errW r3]) ∧ Below w.heap.size w w' := by
 have hu43 := Try.underlying43
 have hu82 := Try.underlying82
 have HB := Aside0.mk (Below.refl w.heap.size w)
 have H := h
 clear h
 unfold lead_Run.f at H
 have HC3 := Aside0.mk H
 clear H
 go_enter Try.func123, Try.ntmps123
 go_upto_region 1 with (fail)
 go_cut [13] (fun v13 wc => ∃ (kq : Nat) (x13_2 : Bool), v13 = .bool x13_2 ∧ Aside0 (lead_Run.j0 kq a0 a1 x13_2 = some (r1, r2, r3)) ∧ Aside0 (kq ≤ k) ∧ Aside0 (Below w.heap.size w wc))
 case first =>
  have H := HC3.out
  clear HC3
  by_cases c4 : a1 < 1
  ·rw [if_pos c4] at H
   have c4b0 : decide (a1 < 1) = true := decide_eq_true c4
   clear c4
   (first | rw [c4b0] | (simp only [i64_w, i32_w]; rw [c4b0]) | rw [c4b1] | skip)
   have H' := Aside0.mk H
   clear H
   go_wp2
   go_meet
   case rel => exact ⟨_, (true), okT, H', leT, ⟨hbT⟩⟩
  ·rw [if_neg c4] at H
   have c4b0 : decide (a1 < 1) = false := decide_eq_false c4
   clear c4
   (first | rw [c4b0] | (simp only [i64_w, i32_w]; rw [c4b0]) | rw [c4b1] | skip)
   have H' := Aside0.mk H
   clear H
   go_wp2
   go_meet
   case rel => exact ⟨_, (decide (a1 > 64)), okT, H', leT, ⟨hbT⟩⟩
 case rest =>
  clear HC3
  obtain ⟨kq, x13_2, rfl, HA, HJ2, HB⟩ := hcut
  cases kq with
  | zero => exact absurd HA.out (by simp [lead_Run.j0])
  | succ kj2 =>
   have H := HA.out
   clear HA
   simp only [lead_Run.j0] at H
   by_cases c5 : x13_2 = true
   ·subst c5
    rw [if_pos rfl] at H
    simp only [Option.some.injEq, Prod.mk.injEq] at H
    obtain ⟨rfl, rfl, rfl⟩ := H
    go_wp2
    go_ret3
    exact ⟨reT, hbT⟩
   ·replace c5 := Bool.eq_false_iff.mpr c5
    subst c5
    rw [if_neg (show ¬ (false = true) by decide)] at H
    obtain ⟨ji6, hji6⟩ : ∃ j_ : Int, (wrap64 (64 - a1)) = j_ := ⟨_, rfl⟩
    replace H : (if 0 ≤ (ji6) then (if ((shl .u64 a0 (ji6)) / 9223372036854775808) = 1 then ((bits_LeadingZeros64.f (Go.bits .xor .u64 18446744073709551615 (shl .u64 a0 (ji6)))).bind fun t111 => (some ((((shl .u64 a0 (ji6)) / 9223372036854775808) == 1), mn t111 a1, none))) else ((bits_LeadingZeros64.f (shl .u64 a0 (ji6))).bind fun t112 => (some ((((shl .u64 a0 (ji6)) / 9223372036854775808) == 1), mn t112 a1, none)))) else (none)) = some (r1, r2, r3) := by first | (rw [hji6] at H; exact H) | (simp only [hji6] at H ⊢; exact H)
    have hji6w : (IntKind.i64.wrap (64 - a1)) = ji6 := (i64_w _).trans hji6
    by_cases c7 : 0 ≤ (ji6)
    ·rw [if_pos c7] at H
     have c7b0 := eq_true c7
     have c7b1 : decide (0 ≤ (ji6)) = true := decide_eq_true c7
     clear c7
     obtain ⟨ji8, hji8⟩ : ∃ j_ : Int, (shl .u64 a0 (ji6)) = j_ := ⟨_, rfl⟩
     replace H : (if ((ji8) / 9223372036854775808) = 1 then ((bits_LeadingZeros64.f (Go.bits .xor .u64 18446744073709551615 (ji8))).bind fun t111 => (some ((((ji8) / 9223372036854775808) == 1), mn t111 a1, none))) else ((bits_LeadingZeros64.f (ji8)).bind fun t112 => (some ((((ji8) / 9223372036854775808) == 1), mn t112 a1, none)))) = some (r1, r2, r3) := by first | (rw [hji8] at H; exact H) | (simp only [hji8] at H ⊢; exact H)
     have hji8_ : (IntKind.u64.wrap (a0 * 2 ^ min (ji6).toNat 64)) = ji8 := hji8
     have hji8z : (ji6) ≤ 64 → (IntKind.u64.wrap (a0 * 2 ^ (ji6).toNat)) = ji8 := shl_small hji8
     by_cases c9 : ((ji8) / 9223372036854775808) = 1
     ·rw [if_pos c9] at H
      obtain ⟨c9b0, c9b1⟩ := eqY c9
      clear c9
      replace H := Option.bind_eq_some_iff.mp H
      obtain ⟨t111, A100, H⟩ := H
      try dsimp only at H
      have A10 := Aside0.mk A100
      clear A100
      obtain ⟨ji11, hji11⟩ : ∃ j_ : Int, (mn t111 a1) = j_ := ⟨_, rfl⟩
      replace H : (some ((((ji8) / 9223372036854775808) == 1), ji11, none)) = some (r1, r2, r3) := by first | (rw [hji11] at H; exact H) | (simp only [hji11] at H ⊢; exact H)
      (try rw [hji11] at A10)
      have hji11_ : (if a1 < t111 then a1 else t111) = ji11 := hji11
      simp only [Option.some.injEq, Prod.mk.injEq] at H
      obtain ⟨rfl, rfl, rfl⟩ := H
      go_wp2_with (first | ((with_reducible refine gate_callee (f := 131) rfl ?_); refine goesL_ (some 27) rfl rfl Try.func131 (by kernel_rfl) rfl #[.int .u64 (Go.bits .xor .u64 18446744073709551615 (ji8))] rfl (by (try simp only [List.map_toArray, List.map_cons, List.map_nil]); first | done | (simp only [hji8]; rfl) | rfl | (simp only [List.length_drop, List.length_take]; rfl)) ?_; (with_reducible refine (bits_LeadingZeros64.calls (Go.bits .xor .u64 18446744073709551615 (ji8)) t111 _ A10.out).mono ?_); rintro e w' ⟨rfl, ⟨nd, rfl⟩⟩; refine ⟨_, rfl, ?_⟩))
      go_ret3
      exact ⟨by first | rfl | (simp [errW_none, errW_some] <;> rfl) | (simp only [← hji6, ← hji8, ← hji11]; first | rfl | (simp [errW_none, errW_some] <;> rfl)) | (simp [*, errW_none, errW_some] <;> rfl), hbT⟩
     ·rw [if_neg c9] at H
      obtain ⟨c9b0, c9b1⟩ := eqN c9
      replace H := Option.bind_eq_some_iff.mp H
      obtain ⟨t112, A120, H⟩ := H
      try dsimp only at H
      have A12 := Aside0.mk A120
      clear A120
      obtain ⟨ji13, hji13⟩ : ∃ j_ : Int, (mn t112 a1) = j_ := ⟨_, rfl⟩
      replace H : (some ((((ji8) / 9223372036854775808) == 1), ji13, none)) = some (r1, r2, r3) := by first | (rw [hji13] at H; exact H) | (simp only [hji13] at H ⊢; exact H)
      (try rw [hji13] at A12)
      have hji13_ : (if a1 < t112 then a1 else t112) = ji13 := hji13
      simp only [Option.some.injEq, Prod.mk.injEq] at H
      obtain ⟨rfl, rfl, rfl⟩ := H
      go_wp2_with (first | ((with_reducible refine gate_callee (f := 131) rfl ?_); refine goesL_ (some 27) rfl rfl Try.func131 (by kernel_rfl) rfl #[.int .u64 ji8] rfl (by (try simp only [List.map_toArray, List.map_cons, List.map_nil]); first | done | (simp only [hji8]; rfl) | rfl | (simp only [List.length_drop, List.length_take]; rfl)) ?_; (with_reducible refine (bits_LeadingZeros64.calls ji8 t112 _ A12.out).mono ?_); rintro e w' ⟨rfl, ⟨nd, rfl⟩⟩; refine ⟨_, rfl, ?_⟩))
      go_ret3
      exact ⟨by first | rfl | (simp [errW_none, errW_some] <;> rfl) | (simp only [← hji6, ← hji8, ← hji13]; first | rfl | (simp [errW_none, errW_some] <;> rfl)) | (simp [*, errW_none, errW_some] <;> rfl), hbT⟩
    ·rw [if_neg c7] at H
     exact absurd H (by simp)
end Go.Proofs.Ytnlbfomlfhigcaa.Q
namespace Go.Proofs.Ytnlbfomlfhigcaa.Q
open Go.RowKit Go.Proofs.YtnlbfomlfhigcaaW.PrintWords Go.Proofs.YtnlbfomlfhigcaaW.PrintLast Go.Proofs.YtnlbfomlfhigcaaW.PrintMore
attribute [local go_sem] max2_int min2_int max_two min_two max_three min_three max_four min_four
set_option linter.unusedVariables false
set_option linter.unusedSimpArgs false
def lead_field.f (a0 : Int) (a1 : Int) : Option (Bool) := if a0 ≥ 0 then (if a0 ≤ 64 then (if a1 ≥ 0 then (some (decide (a1 ≤ (wrap64 (64 - a0))))) else (some false)) else (some false)) else (some false)
set_option maxHeartbeats 8000000 in
set_option maxRecDepth 100000 in
theorem lead_field.calls (a0 : Int) (a1 : Int) (r : Bool) (w : World) (h : lead_field.f a0 a1 = some r) :
  Calls Try.prog 153 #[.int .i64 a0, .int .i64 a1] w fun e w' => e = .returned (.bool r) ∧ Drawn0 w w' := by
 have H := h
 clear h
 unfold lead_field.f at H
 by_cases c3 : a0 ≥ 0
 ·rw [if_pos c3] at H
  have c3b0 : decide (0 ≤ a0) = true := decide_eq_true c3
  clear c3
  by_cases c4 : a0 ≤ 64
  ·rw [if_pos c4] at H
   have c4b0 : decide (a0 ≤ 64) = true := decide_eq_true c4
   clear c4
   by_cases c5 : a1 ≥ 0
   ·rw [if_pos c5] at H
    have c5b0 : decide (0 ≤ a1) = true := decide_eq_true c5
    clear c5
    obtain rfl := Option.some.inj H
    go_enter Try.func153, Try.ntmps153
    go_wp2
    go_ret
    exact ⟨okT, by repeat (first | exact Drawn0.refl _ | apply Drawn0.step)⟩
   ·rw [if_neg c5] at H
    have c5b0 : decide (0 ≤ a1) = false := decide_eq_false c5
    clear c5
    obtain rfl := Option.some.inj H
    go_enter Try.func153, Try.ntmps153
    go_wp2
    go_ret
    exact ⟨okT, by repeat (first | exact Drawn0.refl _ | apply Drawn0.step)⟩
  ·rw [if_neg c4] at H
   have c4b0 : decide (a0 ≤ 64) = false := decide_eq_false c4
   clear c4
   obtain rfl := Option.some.inj H
   go_enter Try.func153, Try.ntmps153
   go_wp2
   go_ret
   exact ⟨okT, by repeat (first | exact Drawn0.refl _ | apply Drawn0.step)⟩
 ·rw [if_neg c3] at H
  have c3b0 : decide (0 ≤ a0) = false := decide_eq_false c3
  clear c3
  obtain rfl := Option.some.inj H
  go_enter Try.func153, Try.ntmps153
  go_wp2
  go_ret
  exact ⟨okT, by repeat (first | exact Drawn0.refl _ | apply Drawn0.step)⟩
end Go.Proofs.Ytnlbfomlfhigcaa.Q
namespace Go.Proofs.Ytnlbfomlfhigcaa.Q
open Go.RowKit Go.Proofs.YtnlbfomlfhigcaaW.PrintWords Go.Proofs.YtnlbfomlfhigcaaW.PrintLast Go.Proofs.YtnlbfomlfhigcaaW.PrintMore
attribute [local go_sem] max2_int min2_int max_two min_two max_three min_three max_four min_four
set_option linter.unusedVariables false
set_option linter.unusedSimpArgs false
def lead_Field.f (a0 : Int) (a1 : Int) (a2 : Int) : Option (Int × Option Int) := (lead_field.f a1 a2).bind fun t113 => (if t113 = true then (if 0 ≤ a1 then ((lead_ones.f a2).bind fun t114 => (some (Go.bits .and .u64 (shr .u64 a0 a1) t114, none))) else (none)) else (some (0, some 1)))
set_option maxHeartbeats 8000000 in
set_option maxRecDepth 100000 in
theorem lead_Field.calls (a0 : Int) (a1 : Int) (a2 : Int) (r1 : Int) (r2 : Option Int) (w : World) (h : lead_Field.f a0 a1 a2 = some (r1, r2)) :
  Calls Try.prog 124 #[.int .u64 a0, .int .i64 a1, .int .i64 a2] w fun e w' => e = .returned (.tuple #[.int .u64 r1, errW r2]) ∧ Drawn0 w w' := by
 have hu43 := Try.underlying43
 have hu82 := Try.underlying82
 have H := h
 clear h
 unfold lead_Field.f at H
 replace H := Option.bind_eq_some_iff.mp H
 obtain ⟨t113, A40, H⟩ := H
 try dsimp only at H
 have A4 := Aside0.mk A40
 clear A40
 by_cases c5 : t113 = true
 ·subst c5
  rw [if_pos rfl] at H
  by_cases c6 : 0 ≤ a1
  ·rw [if_pos c6] at H
   have c6b0 := eq_true c6
   have c6b1 : decide (0 ≤ a1) = true := decide_eq_true c6
   clear c6
   obtain ⟨ji7, hji7⟩ : ∃ j_ : Int, (shr .u64 a0 a1) = j_ := ⟨_, rfl⟩
   replace H : ((lead_ones.f a2).bind fun t114 => (some (Go.bits .and .u64 (ji7) t114, none))) = some (r1, r2) := by first | (rw [hji7] at H; exact H) | (simp only [hji7] at H ⊢; exact H)
   (try rw [hji7] at A4)
   have hji7_ : (a0 / 2 ^ min a1.toNat 64) = ji7 := hji7
   have hji7z : a1 ≤ 64 → (a0 / 2 ^ a1.toNat) = ji7 := shr_small hji7
   replace H := Option.bind_eq_some_iff.mp H
   obtain ⟨t114, A80, H⟩ := H
   try dsimp only at H
   have A8 := Aside0.mk A80
   clear A80
   simp only [Option.some.injEq, Prod.mk.injEq] at H
   obtain ⟨rfl, rfl⟩ := H
   go_enter Try.func124, Try.ntmps124
   go_wp2_with (first | (go_at_call 153; (with_reducible refine (lead_field.calls a1 a2 true _ A4.out).mono ?_); rintro e w' ⟨rfl, ⟨nd, rfl⟩⟩; (try first | exact ⟨rfl, _, World.drewN_drewN _ _ _⟩ | exact ⟨rfl, _, Eq.trans (World.drewN_drewN _ _ _) (congrArg (World.drewN _) (Nat.add_assoc _ _ _))⟩)) | (go_at_call 152; (with_reducible refine (lead_ones.calls a2 t114 _ A8.out).mono ?_); rintro e w' ⟨rfl, ⟨nd, rfl⟩⟩; (try first | exact ⟨rfl, _, World.drewN_drewN _ _ _⟩ | exact ⟨rfl, _, Eq.trans (World.drewN_drewN _ _ _) (congrArg (World.drewN _) (Nat.add_assoc _ _ _))⟩)))
   repeat (go_quiet (first | (go_at_call 153; (with_reducible refine (lead_field.calls a1 a2 true _ A4.out).mono ?_); rintro e w' ⟨rfl, ⟨nd, rfl⟩⟩; (try first | exact ⟨rfl, _, World.drewN_drewN _ _ _⟩ | exact ⟨rfl, _, Eq.trans (World.drewN_drewN _ _ _) (congrArg (World.drewN _) (Nat.add_assoc _ _ _))⟩)) | (go_at_call 152; (with_reducible refine (lead_ones.calls a2 t114 _ A8.out).mono ?_); rintro e w' ⟨rfl, ⟨nd, rfl⟩⟩; (try first | exact ⟨rfl, _, World.drewN_drewN _ _ _⟩ | exact ⟨rfl, _, Eq.trans (World.drewN_drewN _ _ _) (congrArg (World.drewN _) (Nat.add_assoc _ _ _))⟩))); try go_wp2_with (first | (go_at_call 153; (with_reducible refine (lead_field.calls a1 a2 true _ A4.out).mono ?_); rintro e w' ⟨rfl, ⟨nd, rfl⟩⟩; (try first | exact ⟨rfl, _, World.drewN_drewN _ _ _⟩ | exact ⟨rfl, _, Eq.trans (World.drewN_drewN _ _ _) (congrArg (World.drewN _) (Nat.add_assoc _ _ _))⟩)) | (go_at_call 152; (with_reducible refine (lead_ones.calls a2 t114 _ A8.out).mono ?_); rintro e w' ⟨rfl, ⟨nd, rfl⟩⟩; (try first | exact ⟨rfl, _, World.drewN_drewN _ _ _⟩ | exact ⟨rfl, _, Eq.trans (World.drewN_drewN _ _ _) (congrArg (World.drewN _) (Nat.add_assoc _ _ _))⟩))))
   go_ret2
   exact ⟨by first | rfl | (simp; done) | (simp only [← hji7] <;> (first | rfl | simp)) | (simp [*]; done), by repeat (first | exact Drawn0.refl _ | apply Drawn0.step)⟩
  ·rw [if_neg c6] at H
   exact absurd H (by simp)
 ·replace c5 := Bool.eq_false_iff.mpr c5
  subst c5
  rw [if_neg (show ¬ (false = true) by decide)] at H
  simp only [Option.some.injEq, Prod.mk.injEq] at H
  obtain ⟨rfl, rfl⟩ := H
  go_enter Try.func124, Try.ntmps124
  go_wp2_with (first | (go_at_call 153; (with_reducible refine (lead_field.calls a1 a2 false _ A4.out).mono ?_); rintro e w' ⟨rfl, ⟨nd, rfl⟩⟩; (try first | exact ⟨rfl, _, World.drewN_drewN _ _ _⟩ | exact ⟨rfl, _, Eq.trans (World.drewN_drewN _ _ _) (congrArg (World.drewN _) (Nat.add_assoc _ _ _))⟩)))
  repeat (go_quiet (first | (go_at_call 153; (with_reducible refine (lead_field.calls a1 a2 false _ A4.out).mono ?_); rintro e w' ⟨rfl, ⟨nd, rfl⟩⟩; (try first | exact ⟨rfl, _, World.drewN_drewN _ _ _⟩ | exact ⟨rfl, _, Eq.trans (World.drewN_drewN _ _ _) (congrArg (World.drewN _) (Nat.add_assoc _ _ _))⟩))); try go_wp2_with (first | (go_at_call 153; (with_reducible refine (lead_field.calls a1 a2 false _ A4.out).mono ?_); rintro e w' ⟨rfl, ⟨nd, rfl⟩⟩; (try first | exact ⟨rfl, _, World.drewN_drewN _ _ _⟩ | exact ⟨rfl, _, Eq.trans (World.drewN_drewN _ _ _) (congrArg (World.drewN _) (Nat.add_assoc _ _ _))⟩))))
  go_ret2
  exact ⟨okT, by repeat (first | exact Drawn0.refl _ | apply Drawn0.step)⟩
end Go.Proofs.Ytnlbfomlfhigcaa.Q
