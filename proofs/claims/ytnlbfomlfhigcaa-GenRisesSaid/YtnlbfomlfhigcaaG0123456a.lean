/- Walks and plain laws that the claim stands on: each theorem named calls says that a call of a function returns what its f computes; the others are plain laws of these f. -/
import Derived.Test.YtnlbfomlfhigcaaProg
import Derived.Below
import Derived.Deep.Draws
import Derived.Deep.AppendLies
import Derived.Maps.AppendAt
import Derived.OwnWalk
import Derived.Laws.BytesArg
import Derived.Laws.MakeOwn
import Derived.Laws.OwnMore
import Derived.Deep.OwnRows
import Derived.Tactics
import Derived.Lib.ConvBytes
import Derived.Laws.Slices
import Derived.WalkKit
import Derived.KernelRfl
import Derived.RowKit3
import Derived.Deep.LoopGhost
import Derived.Deep.QuietTactic
import Derived.BigQuiet
import Derived.WideLaws
import Derived.Deep.DeepCutAuto
import Derived.Deep.CutBlock
import Derived.Deep.RegionHeld3
import Derived.Laws.Rows
import Derived.Lib.AppendStr
import Derived.ArgAppend
import Derived.Laws.IdiomCopy
import Derived.OrdersHeld
import Derived.Laws.BitsLemmas
import Derived.RowKit
import Derived.Test.YtnlbfomlfhigcaaWWords
import Derived.Test.YtnlbfomlfhigcaaWLast
import Derived.Test.YtnlbfomlfhigcaaWTab
import Derived.Test.YtnlbfomlfhigcaaWFour
import Derived.Test.YtnlbfomlfhigcaaWQPut
import Derived.Test.YtnlbfomlfhigcaaWApart
import Derived.Test.YtnlbfomlfhigcaaWArr
import Derived.Test.YtnlbfomlfhigcaaWZeros
import Derived.Test.YtnlbfomlfhigcaaWFoot
import Derived.Test.YtnlbfomlfhigcaaWKept
import Derived.Test.YtnlbfomlfhigcaaWShare
import Derived.Test.YtnlbfomlfhigcaaWN
import Derived.Test.YtnlbfomlfhigcaaWFootNe
import Derived.Test.YtnlbfomlfhigcaaWAt
import Derived.Test.YtnlbfomlfhigcaaWEqStruct
import Derived.Test.YtnlbfomlfhigcaaWRepsOne
import Derived.Test.YtnlbfomlfhigcaaWInv
import Derived.Test.YtnlbfomlfhigcaaWInvWords
import Derived.Test.YtnlbfomlfhigcaaWGuard
import Derived.Test.YtnlbfomlfhigcaaWNEv
import Derived.Test.YtnlbfomlfhigcaaWMore
import Derived.Shelf.Small.Bits
import Derived.Shelf.Strconv.Itoa0
import Derived.Shelf.Bits.Mul64
namespace Go.Proofs.Ytnlbfomlfhigcaa.Q
open Go.RowKit Go.Proofs.YtnlbfomlfhigcaaW.PrintWords Go.Proofs.YtnlbfomlfhigcaaW.PrintLast Go.Proofs.YtnlbfomlfhigcaaW.PrintMore
attribute [local go_sem] max2_int min2_int max_two min_two max_three min_three max_four min_four   -- for this text's walks alone
set_option linter.unusedVariables false
set_option linter.unusedSimpArgs false



def errW : Option Int → Value
  | none => .nilIface
  | some c => .iface 82 (.int .i64 c)
theorem errW_none : errW none = .nilIface := rfl
theorem errW_some (c : Int) : errW (some c) = .iface 82 (.int .i64 c) := rfl

theorem info3 : (Try.prog.info? 3).map (fun i => (i.zero, i.size, i.bytes)) = some (some (.int .i64 0), 1, 8) := by kernel_rfl
theorem info5 : (Try.prog.info? 5).map (fun i => (i.zero, i.size, i.bytes)) = some (some (.int .u8 0), 1, 1) := by kernel_rfl
theorem info23 : (Try.prog.info? 23).map (fun i => (i.zero, i.size, i.bytes)) = some (some (.int .u8 0), 1, 1) := by kernel_rfl
theorem info24 : (Try.prog.info? 24).map (fun i => (i.zero, i.size, i.bytes)) = some (some (.int .u16 0), 1, 2) := by kernel_rfl
theorem info26 : (Try.prog.info? 26).map (fun i => (i.zero, i.size, i.bytes)) = some (some (.int .u64 0), 1, 8) := by kernel_rfl
theorem info37 : (Try.prog.info? 37).map (fun i => (i.zero, i.size, i.bytes)) = some (some (.int .u32 0), 1, 4) := by kernel_rfl
theorem info86 : (Try.prog.info? 86).map (fun i => (i.zero, i.size, i.bytes)) = some (some (.agg #[(.int .i64 0), (.bool false), (.int .i64 0), (.int .u64 0), (.int .u64 0), (.bool false)]), 6, 48) := by kernel_rfl
theorem info103 : (Try.prog.info? 103).map (fun i => (i.zero, i.size, i.bytes)) = some (some (.agg #[(.int .i64 0), (.bool false), (.int .i64 0), (.int .u64 0)]), 4, 32) := by kernel_rfl
/-! #### struct type 103 -/
structure S103 where
  f0 : Int
  f1 : Bool
  f2 : Int
  f3 : Int
def z103 : S103 := ⟨(0 : Int), false, (0 : Int), (0 : Int)⟩
def k103 : Kd S103 := Kd.iso (Kd.pair (Kd.int .i64) (Kd.pair Kd.bool (Kd.pair (Kd.int .i64) (Kd.int .u64)))) (fun x : S103 => (x.f0, x.f1, x.f2, x.f3))
theorem k103_open {w : World} {x : S103} {cs : List Value} (h : k103.K w x cs) : cs = [.int .i64 x.f0, .bool x.f1, .int .i64 x.f2, .int .u64 x.f3] := by
  obtain ⟨_, _, rfl, rfl, ⟨_, _, rfl, rfl, ⟨_, _, rfl, rfl, rfl⟩⟩⟩ := h
  exact rfl
theorem k103_openM {w : World} {base : Nat} {ok : Nat → Prop} {x : S103} {cs : List Value} (h : k103.M w base ok x cs) : cs = [.int .i64 x.f0, .bool x.f1, .int .i64 x.f2, .int .u64 x.f3] := by
  obtain ⟨_, _, rfl, rfl, ⟨_, _, rfl, rfl, ⟨_, _, rfl, rfl, rfl⟩⟩⟩ := h
  exact rfl
theorem k103_mk (w : World) (x : S103)  : k103.K w x [.int .i64 x.f0, .bool x.f1, .int .i64 x.f2, .int .u64 x.f3] := ⟨[.int .i64 x.f0], [.bool x.f1, .int .i64 x.f2, .int .u64 x.f3], rfl, rfl, ⟨[.bool x.f1], [.int .i64 x.f2, .int .u64 x.f3], rfl, rfl, ⟨[.int .i64 x.f2], [.int .u64 x.f3], rfl, rfl, rfl⟩⟩⟩
theorem k103_mkM (w : World) (base : Nat) (ok : Nat → Prop) (x : S103)  : k103.M w base ok x [.int .i64 x.f0, .bool x.f1, .int .i64 x.f2, .int .u64 x.f3] := ⟨[.int .i64 x.f0], [.bool x.f1, .int .i64 x.f2, .int .u64 x.f3], rfl, rfl, ⟨[.bool x.f1], [.int .i64 x.f2, .int .u64 x.f3], rfl, rfl, ⟨[.int .i64 x.f2], [.int .u64 x.f3], rfl, rfl, rfl⟩⟩⟩
def rd_T103 (xs : List S103) (i : Int) : S103 := xs.getD i.toNat z103
theorem at_T103 {w : World} {A : Option Addr} {n : Nat} {xs : List S103} (h : Kd.C k103 w A n xs) (i : Int) (h0 : 0 ≤ i) (h1 : i < n) : ∃ ad , A = some ad ∧ w.cell? (ad.add (i.toNat * 4)) = some (.int .i64 (rd_T103 xs i).f0) ∧ w.cell? ⟨(ad.add (i.toNat * 4)).block, (ad.add (i.toNat * 4)).off + 1, none⟩ = some (.bool (rd_T103 xs i).f1) ∧ w.cell? ⟨(ad.add (i.toNat * 4)).block, (ad.add (i.toNat * 4)).off + 2, none⟩ = some (.int .i64 (rd_T103 xs i).f2) ∧ w.cell? ⟨(ad.add (i.toNat * 4)).block, (ad.add (i.toNat * 4)).off + 3, none⟩ = some (.int .u64 (rd_T103 xs i).f3) := by
  obtain ⟨ad, c, e, _, hK, hc0⟩ := Kd.C_get h z103 i h0 h1
  have hc : ∀ j u, c[j]? = some u → w.cell? (ad.add (i.toNat * 4 + j)) = some u := hc0
  obtain rfl := k103_open hK
  exact ⟨ad, e, hc 0 _ rfl, by rw [← add_field _ _ 1 (by omega)]; exact hc 1 _ rfl, by rw [← add_field _ _ 2 (by omega)]; exact hc 2 _ rfl, by rw [← add_field _ _ 3 (by omega)]; exact hc 3 _ rfl⟩

/-! #### struct type 86 -/
structure S86 where
  f0 : Int
  f1 : Bool
  f2 : Int
  f3 : Int
  f4 : Int
  f5 : Bool
def z86 : S86 := ⟨(0 : Int), false, (0 : Int), (0 : Int), (0 : Int), false⟩
def k86 : Kd S86 := Kd.iso (Kd.pair (Kd.int .i64) (Kd.pair Kd.bool (Kd.pair (Kd.int .i64) (Kd.pair (Kd.int .u64) (Kd.pair (Kd.int .u64) Kd.bool))))) (fun x : S86 => (x.f0, x.f1, x.f2, x.f3, x.f4, x.f5))
theorem k86_open {w : World} {x : S86} {cs : List Value} (h : k86.K w x cs) : cs = [.int .i64 x.f0, .bool x.f1, .int .i64 x.f2, .int .u64 x.f3, .int .u64 x.f4, .bool x.f5] := by
  obtain ⟨_, _, rfl, rfl, ⟨_, _, rfl, rfl, ⟨_, _, rfl, rfl, ⟨_, _, rfl, rfl, ⟨_, _, rfl, rfl, rfl⟩⟩⟩⟩⟩ := h
  exact rfl
theorem k86_openM {w : World} {base : Nat} {ok : Nat → Prop} {x : S86} {cs : List Value} (h : k86.M w base ok x cs) : cs = [.int .i64 x.f0, .bool x.f1, .int .i64 x.f2, .int .u64 x.f3, .int .u64 x.f4, .bool x.f5] := by
  obtain ⟨_, _, rfl, rfl, ⟨_, _, rfl, rfl, ⟨_, _, rfl, rfl, ⟨_, _, rfl, rfl, ⟨_, _, rfl, rfl, rfl⟩⟩⟩⟩⟩ := h
  exact rfl
theorem k86_mk (w : World) (x : S86)  : k86.K w x [.int .i64 x.f0, .bool x.f1, .int .i64 x.f2, .int .u64 x.f3, .int .u64 x.f4, .bool x.f5] := ⟨[.int .i64 x.f0], [.bool x.f1, .int .i64 x.f2, .int .u64 x.f3, .int .u64 x.f4, .bool x.f5], rfl, rfl, ⟨[.bool x.f1], [.int .i64 x.f2, .int .u64 x.f3, .int .u64 x.f4, .bool x.f5], rfl, rfl, ⟨[.int .i64 x.f2], [.int .u64 x.f3, .int .u64 x.f4, .bool x.f5], rfl, rfl, ⟨[.int .u64 x.f3], [.int .u64 x.f4, .bool x.f5], rfl, rfl, ⟨[.int .u64 x.f4], [.bool x.f5], rfl, rfl, rfl⟩⟩⟩⟩⟩
theorem k86_mkM (w : World) (base : Nat) (ok : Nat → Prop) (x : S86)  : k86.M w base ok x [.int .i64 x.f0, .bool x.f1, .int .i64 x.f2, .int .u64 x.f3, .int .u64 x.f4, .bool x.f5] := ⟨[.int .i64 x.f0], [.bool x.f1, .int .i64 x.f2, .int .u64 x.f3, .int .u64 x.f4, .bool x.f5], rfl, rfl, ⟨[.bool x.f1], [.int .i64 x.f2, .int .u64 x.f3, .int .u64 x.f4, .bool x.f5], rfl, rfl, ⟨[.int .i64 x.f2], [.int .u64 x.f3, .int .u64 x.f4, .bool x.f5], rfl, rfl, ⟨[.int .u64 x.f3], [.int .u64 x.f4, .bool x.f5], rfl, rfl, ⟨[.int .u64 x.f4], [.bool x.f5], rfl, rfl, rfl⟩⟩⟩⟩⟩
def rd_T86 (xs : List S86) (i : Int) : S86 := xs.getD i.toNat z86
theorem at_T86 {w : World} {A : Option Addr} {n : Nat} {xs : List S86} (h : Kd.C k86 w A n xs) (i : Int) (h0 : 0 ≤ i) (h1 : i < n) : ∃ ad , A = some ad ∧ w.cell? (ad.add (i.toNat * 6)) = some (.int .i64 (rd_T86 xs i).f0) ∧ w.cell? ⟨(ad.add (i.toNat * 6)).block, (ad.add (i.toNat * 6)).off + 1, none⟩ = some (.bool (rd_T86 xs i).f1) ∧ w.cell? ⟨(ad.add (i.toNat * 6)).block, (ad.add (i.toNat * 6)).off + 2, none⟩ = some (.int .i64 (rd_T86 xs i).f2) ∧ w.cell? ⟨(ad.add (i.toNat * 6)).block, (ad.add (i.toNat * 6)).off + 3, none⟩ = some (.int .u64 (rd_T86 xs i).f3) ∧ w.cell? ⟨(ad.add (i.toNat * 6)).block, (ad.add (i.toNat * 6)).off + 4, none⟩ = some (.int .u64 (rd_T86 xs i).f4) ∧ w.cell? ⟨(ad.add (i.toNat * 6)).block, (ad.add (i.toNat * 6)).off + 5, none⟩ = some (.bool (rd_T86 xs i).f5) := by
  obtain ⟨ad, c, e, _, hK, hc0⟩ := Kd.C_get h z86 i h0 h1
  have hc : ∀ j u, c[j]? = some u → w.cell? (ad.add (i.toNat * 6 + j)) = some u := hc0
  obtain rfl := k86_open hK
  exact ⟨ad, e, hc 0 _ rfl, by rw [← add_field _ _ 1 (by omega)]; exact hc 1 _ rfl, by rw [← add_field _ _ 2 (by omega)]; exact hc 2 _ rfl, by rw [← add_field _ _ 3 (by omega)]; exact hc 3 _ rfl, by rw [← add_field _ _ 4 (by omega)]; exact hc 4 _ rfl, by rw [← add_field _ _ 5 (by omega)]; exact hc 5 _ rfl⟩

end Go.Proofs.Ytnlbfomlfhigcaa.Q
namespace Go.Proofs.Ytnlbfomlfhigcaa.Q
open Go.RowKit Go.Proofs.YtnlbfomlfhigcaaW.PrintWords Go.Proofs.YtnlbfomlfhigcaaW.PrintLast Go.Proofs.YtnlbfomlfhigcaaW.PrintMore
theorem okT {p : Prop} (h : p := by first | rfl | (simp; done) | (simp [*]; done)) : p := h
theorem reT {p : Prop} (h : p := by first | rfl | (simp [errW_none, errW_some] <;> rfl) | (simp [*, errW_none, errW_some] <;> rfl)) : p := h
theorem blk_farA {w : World} {g g' i : Nat} {s : Option Nat} {t : TypeId} {cs : Array Value} {u : Value} (h : w.heap[g]? = some (.cells cs t (0, 0))) (hp : g ≠ g') : (w.setCell ⟨g', i, s⟩ u).heap[g]? = some (.cells cs t (0, 0)) := blk_far h hp u
theorem blk_putA {w : World} {g i : Nat} {t : TypeId} {cs cs' : Array Value} {u : Value} (h : w.heap[g]? = some (.cells cs t (0, 0))) (e : cs.setIfInBounds i u = cs') : (w.setCell ⟨g, i, none⟩ u).heap[g]? = some (.cells cs' t (0, 0)) := blk_put h i u e
theorem bkT {u w : World} {g : Nat} {p o : Obj} (x : Aside0 (u.heap[g]? = some p)) (h : u.heap[g]? = some p → w.heap[g]? = some o := by intro hh; repeat (first | (with_reducible apply blk_drewN) | (with_reducible apply blk_drew) | (with_reducible apply blk_alloc) | (with_reducible exact hh) | (with_reducible apply blk_farA (hp := Aside0.out (by assumption))) | (with_reducible apply blk_putA) | exact hh | rfl)) : w.heap[g]? = some o := h x.out
theorem bkB {u w w1 : World} {g : Nat} {p o : Obj} (x : Aside0 (u.heap[g]? = some p)) (hb : Below w.heap.size w w1) (h : u.heap[g]? = some p → w.heap[g]? = some o := by intro hh; repeat (first | (with_reducible apply blk_drewN) | (with_reducible apply blk_drew) | (with_reducible apply blk_alloc) | (with_reducible exact hh) | (with_reducible apply blk_farA (hp := Aside0.out (by assumption))) | (with_reducible apply blk_putA) | exact hh | rfl)) : Aside0 (w1.heap[g]? = some o) := Aside0.mk (blk_below (h x.out) hb)
theorem nlT {u w : World} {g g' : Nat} {p o : Obj} (x : Aside0 (u.heap[g]? = some p)) (hg : g' = w.heap.size) (h : u.heap[g]? = some p → w.heap[g]? = some o := by intro hh; repeat (first | (with_reducible apply blk_drewN) | (with_reducible apply blk_drew) | (with_reducible apply blk_alloc) | (with_reducible exact hh) | (with_reducible apply blk_farA (hp := Aside0.out (by assumption))) | (with_reducible apply blk_putA) | exact hh | rfl)) : Aside0 (g ≠ g') := Aside0.mk (hg ▸ Nat.ne_of_lt (blk_lt (h x.out)))
theorem ngT {u w : World} {g g' : Nat} {p o : Obj} (x : Aside0 (u.heap[g]? = some p)) (hg : g' = w.heap.size) (h : u.heap[g]? = some p → w.heap[g]? = some o := by intro hh; repeat (first | (with_reducible apply blk_drewN) | (with_reducible apply blk_drew) | (with_reducible apply blk_alloc) | (with_reducible exact hh) | (with_reducible apply blk_farA (hp := Aside0.out (by assumption))) | (with_reducible apply blk_putA) | exact hh | rfl)) : Aside0 (g' ≠ g) := Aside0.mk (hg ▸ Nat.ne_of_gt (blk_lt (h x.out)))
theorem hbT {w W : World} (h : Below w.heap.size w W := by repeat (first | (with_reducible first | exact HB.out | apply below_alloc | apply pw_below_drewN | apply below_drew1 | refine below_set ?_ (Aside0.out (by assumption))) | exact HB.out)) : Below w.heap.size w W := h
theorem hbS {w W w2 : World} (k : Below W.heap.size W w2) (h : Below w.heap.size w W := by repeat (first | (with_reducible first | exact HB.out | apply below_alloc | apply pw_below_drewN | apply below_drew1 | refine below_set ?_ (Aside0.out (by assumption))) | exact HB.out)) : Aside0 (Below w.heap.size w w2) := Aside0.mk (below_step h k)
theorem geT {w W : World} {g : Nat} (hg : g = W.heap.size) (h : Below w.heap.size w W := by repeat (first | (with_reducible first | exact HB.out | apply below_alloc | apply pw_below_drewN | apply below_drew1 | refine below_set ?_ (Aside0.out (by assumption))) | exact HB.out)) : Aside0 (w.heap.size ≤ g) := Aside0.mk (hg ▸ below_size h)
theorem cz1 {w : World} {g : Nat} {t : TypeId} {v0 : Value} (h : Aside0 (w.heap[g]? = some (.cells #[v0] t (0, 0)))) : w.cell? ⟨g, 0, none⟩ = some v0 ∧ w.frozen? ⟨g, 0, none⟩ = false := ⟨(blk_cell h.out 0).trans rfl, blk_frozen h.out 0⟩
theorem cz2 {w : World} {g : Nat} {t : TypeId} {v0 v1 : Value} (h : Aside0 (w.heap[g]? = some (.cells #[v0, v1] t (0, 0)))) : w.cell? ⟨g, 0, none⟩ = some v0 ∧ w.cell? ⟨g, 1, none⟩ = some v1 ∧ w.frozen? ⟨g, 0, none⟩ = false ∧ w.frozen? ⟨g, 1, none⟩ = false := ⟨(blk_cell h.out 0).trans rfl, (blk_cell h.out 1).trans rfl, blk_frozen h.out 0, blk_frozen h.out 1⟩
theorem cz3 {w : World} {g : Nat} {t : TypeId} {v0 v1 v2 : Value} (h : Aside0 (w.heap[g]? = some (.cells #[v0, v1, v2] t (0, 0)))) : w.cell? ⟨g, 0, none⟩ = some v0 ∧ w.cell? ⟨g, 1, none⟩ = some v1 ∧ w.cell? ⟨g, 2, none⟩ = some v2 ∧ w.frozen? ⟨g, 0, none⟩ = false ∧ w.frozen? ⟨g, 1, none⟩ = false ∧ w.frozen? ⟨g, 2, none⟩ = false := ⟨(blk_cell h.out 0).trans rfl, (blk_cell h.out 1).trans rfl, (blk_cell h.out 2).trans rfl, blk_frozen h.out 0, blk_frozen h.out 1, blk_frozen h.out 2⟩
theorem cz4 {w : World} {g : Nat} {t : TypeId} {v0 v1 v2 v3 : Value} (h : Aside0 (w.heap[g]? = some (.cells #[v0, v1, v2, v3] t (0, 0)))) : w.cell? ⟨g, 0, none⟩ = some v0 ∧ w.cell? ⟨g, 1, none⟩ = some v1 ∧ w.cell? ⟨g, 2, none⟩ = some v2 ∧ w.cell? ⟨g, 3, none⟩ = some v3 ∧ w.frozen? ⟨g, 0, none⟩ = false ∧ w.frozen? ⟨g, 1, none⟩ = false ∧ w.frozen? ⟨g, 2, none⟩ = false ∧ w.frozen? ⟨g, 3, none⟩ = false := ⟨(blk_cell h.out 0).trans rfl, (blk_cell h.out 1).trans rfl, (blk_cell h.out 2).trans rfl, (blk_cell h.out 3).trans rfl, blk_frozen h.out 0, blk_frozen h.out 1, blk_frozen h.out 2, blk_frozen h.out 3⟩
theorem cz5 {w : World} {g : Nat} {t : TypeId} {v0 v1 v2 v3 v4 : Value} (h : Aside0 (w.heap[g]? = some (.cells #[v0, v1, v2, v3, v4] t (0, 0)))) : w.cell? ⟨g, 0, none⟩ = some v0 ∧ w.cell? ⟨g, 1, none⟩ = some v1 ∧ w.cell? ⟨g, 2, none⟩ = some v2 ∧ w.cell? ⟨g, 3, none⟩ = some v3 ∧ w.cell? ⟨g, 4, none⟩ = some v4 ∧ w.frozen? ⟨g, 0, none⟩ = false ∧ w.frozen? ⟨g, 1, none⟩ = false ∧ w.frozen? ⟨g, 2, none⟩ = false ∧ w.frozen? ⟨g, 3, none⟩ = false ∧ w.frozen? ⟨g, 4, none⟩ = false := ⟨(blk_cell h.out 0).trans rfl, (blk_cell h.out 1).trans rfl, (blk_cell h.out 2).trans rfl, (blk_cell h.out 3).trans rfl, (blk_cell h.out 4).trans rfl, blk_frozen h.out 0, blk_frozen h.out 1, blk_frozen h.out 2, blk_frozen h.out 3, blk_frozen h.out 4⟩
theorem cz6 {w : World} {g : Nat} {t : TypeId} {v0 v1 v2 v3 v4 v5 : Value} (h : Aside0 (w.heap[g]? = some (.cells #[v0, v1, v2, v3, v4, v5] t (0, 0)))) : w.cell? ⟨g, 0, none⟩ = some v0 ∧ w.cell? ⟨g, 1, none⟩ = some v1 ∧ w.cell? ⟨g, 2, none⟩ = some v2 ∧ w.cell? ⟨g, 3, none⟩ = some v3 ∧ w.cell? ⟨g, 4, none⟩ = some v4 ∧ w.cell? ⟨g, 5, none⟩ = some v5 ∧ w.frozen? ⟨g, 0, none⟩ = false ∧ w.frozen? ⟨g, 1, none⟩ = false ∧ w.frozen? ⟨g, 2, none⟩ = false ∧ w.frozen? ⟨g, 3, none⟩ = false ∧ w.frozen? ⟨g, 4, none⟩ = false ∧ w.frozen? ⟨g, 5, none⟩ = false := ⟨(blk_cell h.out 0).trans rfl, (blk_cell h.out 1).trans rfl, (blk_cell h.out 2).trans rfl, (blk_cell h.out 3).trans rfl, (blk_cell h.out 4).trans rfl, (blk_cell h.out 5).trans rfl, blk_frozen h.out 0, blk_frozen h.out 1, blk_frozen h.out 2, blk_frozen h.out 3, blk_frozen h.out 4, blk_frozen h.out 5⟩
theorem cz7 {w : World} {g : Nat} {t : TypeId} {v0 v1 v2 v3 v4 v5 v6 : Value} (h : Aside0 (w.heap[g]? = some (.cells #[v0, v1, v2, v3, v4, v5, v6] t (0, 0)))) : w.cell? ⟨g, 0, none⟩ = some v0 ∧ w.cell? ⟨g, 1, none⟩ = some v1 ∧ w.cell? ⟨g, 2, none⟩ = some v2 ∧ w.cell? ⟨g, 3, none⟩ = some v3 ∧ w.cell? ⟨g, 4, none⟩ = some v4 ∧ w.cell? ⟨g, 5, none⟩ = some v5 ∧ w.cell? ⟨g, 6, none⟩ = some v6 ∧ w.frozen? ⟨g, 0, none⟩ = false ∧ w.frozen? ⟨g, 1, none⟩ = false ∧ w.frozen? ⟨g, 2, none⟩ = false ∧ w.frozen? ⟨g, 3, none⟩ = false ∧ w.frozen? ⟨g, 4, none⟩ = false ∧ w.frozen? ⟨g, 5, none⟩ = false ∧ w.frozen? ⟨g, 6, none⟩ = false := ⟨(blk_cell h.out 0).trans rfl, (blk_cell h.out 1).trans rfl, (blk_cell h.out 2).trans rfl, (blk_cell h.out 3).trans rfl, (blk_cell h.out 4).trans rfl, (blk_cell h.out 5).trans rfl, (blk_cell h.out 6).trans rfl, blk_frozen h.out 0, blk_frozen h.out 1, blk_frozen h.out 2, blk_frozen h.out 3, blk_frozen h.out 4, blk_frozen h.out 5, blk_frozen h.out 6⟩
theorem cz8 {w : World} {g : Nat} {t : TypeId} {v0 v1 v2 v3 v4 v5 v6 v7 : Value} (h : Aside0 (w.heap[g]? = some (.cells #[v0, v1, v2, v3, v4, v5, v6, v7] t (0, 0)))) : w.cell? ⟨g, 0, none⟩ = some v0 ∧ w.cell? ⟨g, 1, none⟩ = some v1 ∧ w.cell? ⟨g, 2, none⟩ = some v2 ∧ w.cell? ⟨g, 3, none⟩ = some v3 ∧ w.cell? ⟨g, 4, none⟩ = some v4 ∧ w.cell? ⟨g, 5, none⟩ = some v5 ∧ w.cell? ⟨g, 6, none⟩ = some v6 ∧ w.cell? ⟨g, 7, none⟩ = some v7 ∧ w.frozen? ⟨g, 0, none⟩ = false ∧ w.frozen? ⟨g, 1, none⟩ = false ∧ w.frozen? ⟨g, 2, none⟩ = false ∧ w.frozen? ⟨g, 3, none⟩ = false ∧ w.frozen? ⟨g, 4, none⟩ = false ∧ w.frozen? ⟨g, 5, none⟩ = false ∧ w.frozen? ⟨g, 6, none⟩ = false ∧ w.frozen? ⟨g, 7, none⟩ = false := ⟨(blk_cell h.out 0).trans rfl, (blk_cell h.out 1).trans rfl, (blk_cell h.out 2).trans rfl, (blk_cell h.out 3).trans rfl, (blk_cell h.out 4).trans rfl, (blk_cell h.out 5).trans rfl, (blk_cell h.out 6).trans rfl, (blk_cell h.out 7).trans rfl, blk_frozen h.out 0, blk_frozen h.out 1, blk_frozen h.out 2, blk_frozen h.out 3, blk_frozen h.out 4, blk_frozen h.out 5, blk_frozen h.out 6, blk_frozen h.out 7⟩
theorem cz9 {w : World} {g : Nat} {t : TypeId} {v0 v1 v2 v3 v4 v5 v6 v7 v8 : Value} (h : Aside0 (w.heap[g]? = some (.cells #[v0, v1, v2, v3, v4, v5, v6, v7, v8] t (0, 0)))) : w.cell? ⟨g, 0, none⟩ = some v0 ∧ w.cell? ⟨g, 1, none⟩ = some v1 ∧ w.cell? ⟨g, 2, none⟩ = some v2 ∧ w.cell? ⟨g, 3, none⟩ = some v3 ∧ w.cell? ⟨g, 4, none⟩ = some v4 ∧ w.cell? ⟨g, 5, none⟩ = some v5 ∧ w.cell? ⟨g, 6, none⟩ = some v6 ∧ w.cell? ⟨g, 7, none⟩ = some v7 ∧ w.cell? ⟨g, 8, none⟩ = some v8 ∧ w.frozen? ⟨g, 0, none⟩ = false ∧ w.frozen? ⟨g, 1, none⟩ = false ∧ w.frozen? ⟨g, 2, none⟩ = false ∧ w.frozen? ⟨g, 3, none⟩ = false ∧ w.frozen? ⟨g, 4, none⟩ = false ∧ w.frozen? ⟨g, 5, none⟩ = false ∧ w.frozen? ⟨g, 6, none⟩ = false ∧ w.frozen? ⟨g, 7, none⟩ = false ∧ w.frozen? ⟨g, 8, none⟩ = false := ⟨(blk_cell h.out 0).trans rfl, (blk_cell h.out 1).trans rfl, (blk_cell h.out 2).trans rfl, (blk_cell h.out 3).trans rfl, (blk_cell h.out 4).trans rfl, (blk_cell h.out 5).trans rfl, (blk_cell h.out 6).trans rfl, (blk_cell h.out 7).trans rfl, (blk_cell h.out 8).trans rfl, blk_frozen h.out 0, blk_frozen h.out 1, blk_frozen h.out 2, blk_frozen h.out 3, blk_frozen h.out 4, blk_frozen h.out 5, blk_frozen h.out 6, blk_frozen h.out 7, blk_frozen h.out 8⟩
theorem cz10 {w : World} {g : Nat} {t : TypeId} {v0 v1 v2 v3 v4 v5 v6 v7 v8 v9 : Value} (h : Aside0 (w.heap[g]? = some (.cells #[v0, v1, v2, v3, v4, v5, v6, v7, v8, v9] t (0, 0)))) : w.cell? ⟨g, 0, none⟩ = some v0 ∧ w.cell? ⟨g, 1, none⟩ = some v1 ∧ w.cell? ⟨g, 2, none⟩ = some v2 ∧ w.cell? ⟨g, 3, none⟩ = some v3 ∧ w.cell? ⟨g, 4, none⟩ = some v4 ∧ w.cell? ⟨g, 5, none⟩ = some v5 ∧ w.cell? ⟨g, 6, none⟩ = some v6 ∧ w.cell? ⟨g, 7, none⟩ = some v7 ∧ w.cell? ⟨g, 8, none⟩ = some v8 ∧ w.cell? ⟨g, 9, none⟩ = some v9 ∧ w.frozen? ⟨g, 0, none⟩ = false ∧ w.frozen? ⟨g, 1, none⟩ = false ∧ w.frozen? ⟨g, 2, none⟩ = false ∧ w.frozen? ⟨g, 3, none⟩ = false ∧ w.frozen? ⟨g, 4, none⟩ = false ∧ w.frozen? ⟨g, 5, none⟩ = false ∧ w.frozen? ⟨g, 6, none⟩ = false ∧ w.frozen? ⟨g, 7, none⟩ = false ∧ w.frozen? ⟨g, 8, none⟩ = false ∧ w.frozen? ⟨g, 9, none⟩ = false := ⟨(blk_cell h.out 0).trans rfl, (blk_cell h.out 1).trans rfl, (blk_cell h.out 2).trans rfl, (blk_cell h.out 3).trans rfl, (blk_cell h.out 4).trans rfl, (blk_cell h.out 5).trans rfl, (blk_cell h.out 6).trans rfl, (blk_cell h.out 7).trans rfl, (blk_cell h.out 8).trans rfl, (blk_cell h.out 9).trans rfl, blk_frozen h.out 0, blk_frozen h.out 1, blk_frozen h.out 2, blk_frozen h.out 3, blk_frozen h.out 4, blk_frozen h.out 5, blk_frozen h.out 6, blk_frozen h.out 7, blk_frozen h.out 8, blk_frozen h.out 9⟩
theorem cz11 {w : World} {g : Nat} {t : TypeId} {v0 v1 v2 v3 v4 v5 v6 v7 v8 v9 v10 : Value} (h : Aside0 (w.heap[g]? = some (.cells #[v0, v1, v2, v3, v4, v5, v6, v7, v8, v9, v10] t (0, 0)))) : w.cell? ⟨g, 0, none⟩ = some v0 ∧ w.cell? ⟨g, 1, none⟩ = some v1 ∧ w.cell? ⟨g, 2, none⟩ = some v2 ∧ w.cell? ⟨g, 3, none⟩ = some v3 ∧ w.cell? ⟨g, 4, none⟩ = some v4 ∧ w.cell? ⟨g, 5, none⟩ = some v5 ∧ w.cell? ⟨g, 6, none⟩ = some v6 ∧ w.cell? ⟨g, 7, none⟩ = some v7 ∧ w.cell? ⟨g, 8, none⟩ = some v8 ∧ w.cell? ⟨g, 9, none⟩ = some v9 ∧ w.cell? ⟨g, 10, none⟩ = some v10 ∧ w.frozen? ⟨g, 0, none⟩ = false ∧ w.frozen? ⟨g, 1, none⟩ = false ∧ w.frozen? ⟨g, 2, none⟩ = false ∧ w.frozen? ⟨g, 3, none⟩ = false ∧ w.frozen? ⟨g, 4, none⟩ = false ∧ w.frozen? ⟨g, 5, none⟩ = false ∧ w.frozen? ⟨g, 6, none⟩ = false ∧ w.frozen? ⟨g, 7, none⟩ = false ∧ w.frozen? ⟨g, 8, none⟩ = false ∧ w.frozen? ⟨g, 9, none⟩ = false ∧ w.frozen? ⟨g, 10, none⟩ = false := ⟨(blk_cell h.out 0).trans rfl, (blk_cell h.out 1).trans rfl, (blk_cell h.out 2).trans rfl, (blk_cell h.out 3).trans rfl, (blk_cell h.out 4).trans rfl, (blk_cell h.out 5).trans rfl, (blk_cell h.out 6).trans rfl, (blk_cell h.out 7).trans rfl, (blk_cell h.out 8).trans rfl, (blk_cell h.out 9).trans rfl, (blk_cell h.out 10).trans rfl, blk_frozen h.out 0, blk_frozen h.out 1, blk_frozen h.out 2, blk_frozen h.out 3, blk_frozen h.out 4, blk_frozen h.out 5, blk_frozen h.out 6, blk_frozen h.out 7, blk_frozen h.out 8, blk_frozen h.out 9, blk_frozen h.out 10⟩
theorem cz12 {w : World} {g : Nat} {t : TypeId} {v0 v1 v2 v3 v4 v5 v6 v7 v8 v9 v10 v11 : Value} (h : Aside0 (w.heap[g]? = some (.cells #[v0, v1, v2, v3, v4, v5, v6, v7, v8, v9, v10, v11] t (0, 0)))) : w.cell? ⟨g, 0, none⟩ = some v0 ∧ w.cell? ⟨g, 1, none⟩ = some v1 ∧ w.cell? ⟨g, 2, none⟩ = some v2 ∧ w.cell? ⟨g, 3, none⟩ = some v3 ∧ w.cell? ⟨g, 4, none⟩ = some v4 ∧ w.cell? ⟨g, 5, none⟩ = some v5 ∧ w.cell? ⟨g, 6, none⟩ = some v6 ∧ w.cell? ⟨g, 7, none⟩ = some v7 ∧ w.cell? ⟨g, 8, none⟩ = some v8 ∧ w.cell? ⟨g, 9, none⟩ = some v9 ∧ w.cell? ⟨g, 10, none⟩ = some v10 ∧ w.cell? ⟨g, 11, none⟩ = some v11 ∧ w.frozen? ⟨g, 0, none⟩ = false ∧ w.frozen? ⟨g, 1, none⟩ = false ∧ w.frozen? ⟨g, 2, none⟩ = false ∧ w.frozen? ⟨g, 3, none⟩ = false ∧ w.frozen? ⟨g, 4, none⟩ = false ∧ w.frozen? ⟨g, 5, none⟩ = false ∧ w.frozen? ⟨g, 6, none⟩ = false ∧ w.frozen? ⟨g, 7, none⟩ = false ∧ w.frozen? ⟨g, 8, none⟩ = false ∧ w.frozen? ⟨g, 9, none⟩ = false ∧ w.frozen? ⟨g, 10, none⟩ = false ∧ w.frozen? ⟨g, 11, none⟩ = false := ⟨(blk_cell h.out 0).trans rfl, (blk_cell h.out 1).trans rfl, (blk_cell h.out 2).trans rfl, (blk_cell h.out 3).trans rfl, (blk_cell h.out 4).trans rfl, (blk_cell h.out 5).trans rfl, (blk_cell h.out 6).trans rfl, (blk_cell h.out 7).trans rfl, (blk_cell h.out 8).trans rfl, (blk_cell h.out 9).trans rfl, (blk_cell h.out 10).trans rfl, (blk_cell h.out 11).trans rfl, blk_frozen h.out 0, blk_frozen h.out 1, blk_frozen h.out 2, blk_frozen h.out 3, blk_frozen h.out 4, blk_frozen h.out 5, blk_frozen h.out 6, blk_frozen h.out 7, blk_frozen h.out 8, blk_frozen h.out 9, blk_frozen h.out 10, blk_frozen h.out 11⟩
theorem cz13 {w : World} {g : Nat} {t : TypeId} {v0 v1 v2 v3 v4 v5 v6 v7 v8 v9 v10 v11 v12 : Value} (h : Aside0 (w.heap[g]? = some (.cells #[v0, v1, v2, v3, v4, v5, v6, v7, v8, v9, v10, v11, v12] t (0, 0)))) : w.cell? ⟨g, 0, none⟩ = some v0 ∧ w.cell? ⟨g, 1, none⟩ = some v1 ∧ w.cell? ⟨g, 2, none⟩ = some v2 ∧ w.cell? ⟨g, 3, none⟩ = some v3 ∧ w.cell? ⟨g, 4, none⟩ = some v4 ∧ w.cell? ⟨g, 5, none⟩ = some v5 ∧ w.cell? ⟨g, 6, none⟩ = some v6 ∧ w.cell? ⟨g, 7, none⟩ = some v7 ∧ w.cell? ⟨g, 8, none⟩ = some v8 ∧ w.cell? ⟨g, 9, none⟩ = some v9 ∧ w.cell? ⟨g, 10, none⟩ = some v10 ∧ w.cell? ⟨g, 11, none⟩ = some v11 ∧ w.cell? ⟨g, 12, none⟩ = some v12 ∧ w.frozen? ⟨g, 0, none⟩ = false ∧ w.frozen? ⟨g, 1, none⟩ = false ∧ w.frozen? ⟨g, 2, none⟩ = false ∧ w.frozen? ⟨g, 3, none⟩ = false ∧ w.frozen? ⟨g, 4, none⟩ = false ∧ w.frozen? ⟨g, 5, none⟩ = false ∧ w.frozen? ⟨g, 6, none⟩ = false ∧ w.frozen? ⟨g, 7, none⟩ = false ∧ w.frozen? ⟨g, 8, none⟩ = false ∧ w.frozen? ⟨g, 9, none⟩ = false ∧ w.frozen? ⟨g, 10, none⟩ = false ∧ w.frozen? ⟨g, 11, none⟩ = false ∧ w.frozen? ⟨g, 12, none⟩ = false := ⟨(blk_cell h.out 0).trans rfl, (blk_cell h.out 1).trans rfl, (blk_cell h.out 2).trans rfl, (blk_cell h.out 3).trans rfl, (blk_cell h.out 4).trans rfl, (blk_cell h.out 5).trans rfl, (blk_cell h.out 6).trans rfl, (blk_cell h.out 7).trans rfl, (blk_cell h.out 8).trans rfl, (blk_cell h.out 9).trans rfl, (blk_cell h.out 10).trans rfl, (blk_cell h.out 11).trans rfl, (blk_cell h.out 12).trans rfl, blk_frozen h.out 0, blk_frozen h.out 1, blk_frozen h.out 2, blk_frozen h.out 3, blk_frozen h.out 4, blk_frozen h.out 5, blk_frozen h.out 6, blk_frozen h.out 7, blk_frozen h.out 8, blk_frozen h.out 9, blk_frozen h.out 10, blk_frozen h.out 11, blk_frozen h.out 12⟩
theorem cz14 {w : World} {g : Nat} {t : TypeId} {v0 v1 v2 v3 v4 v5 v6 v7 v8 v9 v10 v11 v12 v13 : Value} (h : Aside0 (w.heap[g]? = some (.cells #[v0, v1, v2, v3, v4, v5, v6, v7, v8, v9, v10, v11, v12, v13] t (0, 0)))) : w.cell? ⟨g, 0, none⟩ = some v0 ∧ w.cell? ⟨g, 1, none⟩ = some v1 ∧ w.cell? ⟨g, 2, none⟩ = some v2 ∧ w.cell? ⟨g, 3, none⟩ = some v3 ∧ w.cell? ⟨g, 4, none⟩ = some v4 ∧ w.cell? ⟨g, 5, none⟩ = some v5 ∧ w.cell? ⟨g, 6, none⟩ = some v6 ∧ w.cell? ⟨g, 7, none⟩ = some v7 ∧ w.cell? ⟨g, 8, none⟩ = some v8 ∧ w.cell? ⟨g, 9, none⟩ = some v9 ∧ w.cell? ⟨g, 10, none⟩ = some v10 ∧ w.cell? ⟨g, 11, none⟩ = some v11 ∧ w.cell? ⟨g, 12, none⟩ = some v12 ∧ w.cell? ⟨g, 13, none⟩ = some v13 ∧ w.frozen? ⟨g, 0, none⟩ = false ∧ w.frozen? ⟨g, 1, none⟩ = false ∧ w.frozen? ⟨g, 2, none⟩ = false ∧ w.frozen? ⟨g, 3, none⟩ = false ∧ w.frozen? ⟨g, 4, none⟩ = false ∧ w.frozen? ⟨g, 5, none⟩ = false ∧ w.frozen? ⟨g, 6, none⟩ = false ∧ w.frozen? ⟨g, 7, none⟩ = false ∧ w.frozen? ⟨g, 8, none⟩ = false ∧ w.frozen? ⟨g, 9, none⟩ = false ∧ w.frozen? ⟨g, 10, none⟩ = false ∧ w.frozen? ⟨g, 11, none⟩ = false ∧ w.frozen? ⟨g, 12, none⟩ = false ∧ w.frozen? ⟨g, 13, none⟩ = false := ⟨(blk_cell h.out 0).trans rfl, (blk_cell h.out 1).trans rfl, (blk_cell h.out 2).trans rfl, (blk_cell h.out 3).trans rfl, (blk_cell h.out 4).trans rfl, (blk_cell h.out 5).trans rfl, (blk_cell h.out 6).trans rfl, (blk_cell h.out 7).trans rfl, (blk_cell h.out 8).trans rfl, (blk_cell h.out 9).trans rfl, (blk_cell h.out 10).trans rfl, (blk_cell h.out 11).trans rfl, (blk_cell h.out 12).trans rfl, (blk_cell h.out 13).trans rfl, blk_frozen h.out 0, blk_frozen h.out 1, blk_frozen h.out 2, blk_frozen h.out 3, blk_frozen h.out 4, blk_frozen h.out 5, blk_frozen h.out 6, blk_frozen h.out 7, blk_frozen h.out 8, blk_frozen h.out 9, blk_frozen h.out 10, blk_frozen h.out 11, blk_frozen h.out 12, blk_frozen h.out 13⟩
theorem cz15 {w : World} {g : Nat} {t : TypeId} {v0 v1 v2 v3 v4 v5 v6 v7 v8 v9 v10 v11 v12 v13 v14 : Value} (h : Aside0 (w.heap[g]? = some (.cells #[v0, v1, v2, v3, v4, v5, v6, v7, v8, v9, v10, v11, v12, v13, v14] t (0, 0)))) : w.cell? ⟨g, 0, none⟩ = some v0 ∧ w.cell? ⟨g, 1, none⟩ = some v1 ∧ w.cell? ⟨g, 2, none⟩ = some v2 ∧ w.cell? ⟨g, 3, none⟩ = some v3 ∧ w.cell? ⟨g, 4, none⟩ = some v4 ∧ w.cell? ⟨g, 5, none⟩ = some v5 ∧ w.cell? ⟨g, 6, none⟩ = some v6 ∧ w.cell? ⟨g, 7, none⟩ = some v7 ∧ w.cell? ⟨g, 8, none⟩ = some v8 ∧ w.cell? ⟨g, 9, none⟩ = some v9 ∧ w.cell? ⟨g, 10, none⟩ = some v10 ∧ w.cell? ⟨g, 11, none⟩ = some v11 ∧ w.cell? ⟨g, 12, none⟩ = some v12 ∧ w.cell? ⟨g, 13, none⟩ = some v13 ∧ w.cell? ⟨g, 14, none⟩ = some v14 ∧ w.frozen? ⟨g, 0, none⟩ = false ∧ w.frozen? ⟨g, 1, none⟩ = false ∧ w.frozen? ⟨g, 2, none⟩ = false ∧ w.frozen? ⟨g, 3, none⟩ = false ∧ w.frozen? ⟨g, 4, none⟩ = false ∧ w.frozen? ⟨g, 5, none⟩ = false ∧ w.frozen? ⟨g, 6, none⟩ = false ∧ w.frozen? ⟨g, 7, none⟩ = false ∧ w.frozen? ⟨g, 8, none⟩ = false ∧ w.frozen? ⟨g, 9, none⟩ = false ∧ w.frozen? ⟨g, 10, none⟩ = false ∧ w.frozen? ⟨g, 11, none⟩ = false ∧ w.frozen? ⟨g, 12, none⟩ = false ∧ w.frozen? ⟨g, 13, none⟩ = false ∧ w.frozen? ⟨g, 14, none⟩ = false := ⟨(blk_cell h.out 0).trans rfl, (blk_cell h.out 1).trans rfl, (blk_cell h.out 2).trans rfl, (blk_cell h.out 3).trans rfl, (blk_cell h.out 4).trans rfl, (blk_cell h.out 5).trans rfl, (blk_cell h.out 6).trans rfl, (blk_cell h.out 7).trans rfl, (blk_cell h.out 8).trans rfl, (blk_cell h.out 9).trans rfl, (blk_cell h.out 10).trans rfl, (blk_cell h.out 11).trans rfl, (blk_cell h.out 12).trans rfl, (blk_cell h.out 13).trans rfl, (blk_cell h.out 14).trans rfl, blk_frozen h.out 0, blk_frozen h.out 1, blk_frozen h.out 2, blk_frozen h.out 3, blk_frozen h.out 4, blk_frozen h.out 5, blk_frozen h.out 6, blk_frozen h.out 7, blk_frozen h.out 8, blk_frozen h.out 9, blk_frozen h.out 10, blk_frozen h.out 11, blk_frozen h.out 12, blk_frozen h.out 13, blk_frozen h.out 14⟩
theorem cz16 {w : World} {g : Nat} {t : TypeId} {v0 v1 v2 v3 v4 v5 v6 v7 v8 v9 v10 v11 v12 v13 v14 v15 : Value} (h : Aside0 (w.heap[g]? = some (.cells #[v0, v1, v2, v3, v4, v5, v6, v7, v8, v9, v10, v11, v12, v13, v14, v15] t (0, 0)))) : w.cell? ⟨g, 0, none⟩ = some v0 ∧ w.cell? ⟨g, 1, none⟩ = some v1 ∧ w.cell? ⟨g, 2, none⟩ = some v2 ∧ w.cell? ⟨g, 3, none⟩ = some v3 ∧ w.cell? ⟨g, 4, none⟩ = some v4 ∧ w.cell? ⟨g, 5, none⟩ = some v5 ∧ w.cell? ⟨g, 6, none⟩ = some v6 ∧ w.cell? ⟨g, 7, none⟩ = some v7 ∧ w.cell? ⟨g, 8, none⟩ = some v8 ∧ w.cell? ⟨g, 9, none⟩ = some v9 ∧ w.cell? ⟨g, 10, none⟩ = some v10 ∧ w.cell? ⟨g, 11, none⟩ = some v11 ∧ w.cell? ⟨g, 12, none⟩ = some v12 ∧ w.cell? ⟨g, 13, none⟩ = some v13 ∧ w.cell? ⟨g, 14, none⟩ = some v14 ∧ w.cell? ⟨g, 15, none⟩ = some v15 ∧ w.frozen? ⟨g, 0, none⟩ = false ∧ w.frozen? ⟨g, 1, none⟩ = false ∧ w.frozen? ⟨g, 2, none⟩ = false ∧ w.frozen? ⟨g, 3, none⟩ = false ∧ w.frozen? ⟨g, 4, none⟩ = false ∧ w.frozen? ⟨g, 5, none⟩ = false ∧ w.frozen? ⟨g, 6, none⟩ = false ∧ w.frozen? ⟨g, 7, none⟩ = false ∧ w.frozen? ⟨g, 8, none⟩ = false ∧ w.frozen? ⟨g, 9, none⟩ = false ∧ w.frozen? ⟨g, 10, none⟩ = false ∧ w.frozen? ⟨g, 11, none⟩ = false ∧ w.frozen? ⟨g, 12, none⟩ = false ∧ w.frozen? ⟨g, 13, none⟩ = false ∧ w.frozen? ⟨g, 14, none⟩ = false ∧ w.frozen? ⟨g, 15, none⟩ = false := ⟨(blk_cell h.out 0).trans rfl, (blk_cell h.out 1).trans rfl, (blk_cell h.out 2).trans rfl, (blk_cell h.out 3).trans rfl, (blk_cell h.out 4).trans rfl, (blk_cell h.out 5).trans rfl, (blk_cell h.out 6).trans rfl, (blk_cell h.out 7).trans rfl, (blk_cell h.out 8).trans rfl, (blk_cell h.out 9).trans rfl, (blk_cell h.out 10).trans rfl, (blk_cell h.out 11).trans rfl, (blk_cell h.out 12).trans rfl, (blk_cell h.out 13).trans rfl, (blk_cell h.out 14).trans rfl, (blk_cell h.out 15).trans rfl, blk_frozen h.out 0, blk_frozen h.out 1, blk_frozen h.out 2, blk_frozen h.out 3, blk_frozen h.out 4, blk_frozen h.out 5, blk_frozen h.out 6, blk_frozen h.out 7, blk_frozen h.out 8, blk_frozen h.out 9, blk_frozen h.out 10, blk_frozen h.out 11, blk_frozen h.out 12, blk_frozen h.out 13, blk_frozen h.out 14, blk_frozen h.out 15⟩
end Go.Proofs.Ytnlbfomlfhigcaa.Q
namespace Go.Proofs.Ytnlbfomlfhigcaa.Q
open Go.RowKit Go.Proofs.YtnlbfomlfhigcaaW.PrintWords Go.Proofs.YtnlbfomlfhigcaaW.PrintLast Go.Proofs.YtnlbfomlfhigcaaW.PrintMore
theorem neT {u w : World} {g g' : Nat} {p o : Obj} (x : Aside0 (u.heap[g]? = some p)) (hg : g' = w.heap.size) (h : u.heap[g]? = some p → w.heap[g]? = some o := by intro hh; repeat (first | (with_reducible apply blk_drewN) | (with_reducible apply blk_drew) | (with_reducible apply blk_alloc) | (with_reducible exact hh) | (with_reducible apply blk_farA (hp := Aside0.out (by assumption))) | (with_reducible apply blk_putA) | exact hh | rfl)) : Aside0 (g ≠ g') ∧ Aside0 (g' ≠ g) := ⟨⟨hg ▸ Nat.ne_of_lt (blk_lt (h x.out))⟩, ⟨hg ▸ Nat.ne_of_gt (blk_lt (h x.out))⟩⟩
theorem eqY {α : Type} [BEq α] [LawfulBEq α] {a b : α} (c : a = b) : (a == b) = true ∧ (a != b) = false := ⟨beq_iff_eq.mpr c, bne_eq_false_iff_eq.mpr c⟩
theorem eqN {α : Type} [BEq α] [LawfulBEq α] {a b : α} (c : ¬ a = b) : (a == b) = false ∧ (a != b) = true := ⟨beq_eq_false_iff_ne.mpr c, bne_iff_ne.mpr c⟩
theorem goA {P : Program} {ops : Array Oper} {Q : Exit → Act → World → Prop} {rest : List Oper} {oi : Oper} {a : Act} {w : World} (N : Option Tmp) {f : FuncId} {fn : Func} {az : Array Operand} {ts : Array TypeId} (hf : P.funcs[f]? = some fn) {args : Array Value} {v : Value}
    (c : Calls P f args w fun e w' => e = .returned v ∧ Below w.heap.size w w') (k : ∀ w', Below w.heap.size w w' → wpList P ops Q rest (a.put N v) w')
    (ho : oi.op = .call { callee := .value (.func f), args := az, argTypes := ts } := by with_reducible exact rfl) (hd : oi.dst = N := by rfl) (hg : oi.guard = none := by rfl) (hb : fn.body.isSome = true := by rfl) (hname : (fn.name == "runtime.NumGoroutine") = false := by kernel_rfl)
    (hargs : az.map a.eval = args := by (try simp only [List.map_toArray, List.map_cons, List.map_nil]); first | done | rfl | (simp only [List.length_drop, List.length_take]; rfl)) : wpList P ops Q (oi :: rest) a w :=
  goesL_ N hd hg hf hname hb args ho hargs (c.mono fun e w' h => by obtain ⟨rfl, hb⟩ := h; exact ⟨_, rfl, k w' hb⟩)
theorem boxA {P : Program} {ops : Array Oper} {Q : Exit → Act → World → Prop} {rest : List Oper} {o : Oper} {a : Act} {W : World} (N : Tmp) (cs : Array Value) (t : TypeId)
    (h : ∀ g, g = W.heap.size → ∀ w1, Aside0 (w1.heap[g]? = some (.cells cs t (0, 0))) → Below W.heap.size W w1 → wpList P ops Q rest (a.put (some N) (.pointer (some ⟨g, 0, none⟩))) w1)
    (hd : o.dst = some N := by with_reducible exact rfl) (hg : o.guard = none := by rfl)
    (hr : (execOp a.eval o).run P W = .ok (.value (.pointer (some ⟨W.heap.size, 0, none⟩))) (W.alloc (.cells cs t (0, 0))) := by first | (go_simp; done) | (go_simp; rfl)) : wpList P ops Q (o :: rest) a W :=
  box_event hg hd hr fun g e w1 h1 h2 => by rw [hd]; exact h g e w1 ⟨h1⟩ h2
theorem leT {a b : Nat} (h : a ≤ b := by first | omega | exact Nat.le_refl _) : Aside0 (a ≤ b) := ⟨h⟩
end Go.Proofs.Ytnlbfomlfhigcaa.Q
namespace Go.Proofs.Ytnlbfomlfhigcaa.Q
open Go.RowKit Go.Proofs.YtnlbfomlfhigcaaW.PrintWords Go.Proofs.YtnlbfomlfhigcaaW.PrintLast Go.Proofs.YtnlbfomlfhigcaaW.PrintMore
attribute [local go_sem] max2_int min2_int max_two min_two max_three min_three max_four min_four
set_option linter.unusedVariables false
set_option linter.unusedSimpArgs false

def shape_is.f (a0 : Int) : Option (Bool) := if a0 = 8 then (some true) else (if a0 = 16 then (some true) else (if a0 = 32 then (some true) else (if a0 = 64 then (some true) else (some false))))
set_option maxHeartbeats 8000000 in
set_option maxRecDepth 100000 in
theorem shape_is.calls (a0 : Int) (r : Bool) (w : World) (h : shape_is.f a0 = some r) :
  Calls Try.prog 108 #[.int .i64 a0] w fun e w' => e = .returned (.bool r) ∧ Drawn0 w w' := by
 have H := h
 clear h
 unfold shape_is.f at H
 by_cases c2 : a0 = 8
 ·rw [if_pos c2] at H
  obtain ⟨c2b0, c2b1⟩ := eqY c2
  clear c2
  obtain rfl := Option.some.inj H
  go_enter Try.func108, Try.ntmps108
  go_wp2
  go_ret
  exact ⟨okT, by repeat (first | exact Drawn0.refl _ | apply Drawn0.step)⟩
 ·rw [if_neg c2] at H
  obtain ⟨c2b0, c2b1⟩ := eqN c2
  by_cases c3 : a0 = 16
  ·rw [if_pos c3] at H
   obtain ⟨c3b0, c3b1⟩ := eqY c3
   clear c3
   obtain rfl := Option.some.inj H
   go_enter Try.func108, Try.ntmps108
   go_wp2
   go_ret
   exact ⟨okT, by repeat (first | exact Drawn0.refl _ | apply Drawn0.step)⟩
  ·rw [if_neg c3] at H
   obtain ⟨c3b0, c3b1⟩ := eqN c3
   by_cases c4 : a0 = 32
   ·rw [if_pos c4] at H
    obtain ⟨c4b0, c4b1⟩ := eqY c4
    clear c4
    obtain rfl := Option.some.inj H
    go_enter Try.func108, Try.ntmps108
    go_wp2
    go_ret
    exact ⟨okT, by repeat (first | exact Drawn0.refl _ | apply Drawn0.step)⟩
   ·rw [if_neg c4] at H
    obtain ⟨c4b0, c4b1⟩ := eqN c4
    by_cases c5 : a0 = 64
    ·rw [if_pos c5] at H
     obtain ⟨c5b0, c5b1⟩ := eqY c5
     clear c5
     obtain rfl := Option.some.inj H
     go_enter Try.func108, Try.ntmps108
     go_wp2
     go_ret
     exact ⟨okT, by repeat (first | exact Drawn0.refl _ | apply Drawn0.step)⟩
    ·rw [if_neg c5] at H
     obtain ⟨c5b0, c5b1⟩ := eqN c5
     obtain rfl := Option.some.inj H
     go_enter Try.func108, Try.ntmps108
     go_wp2
     go_ret
     exact ⟨okT, by repeat (first | exact Drawn0.refl _ | apply Drawn0.step)⟩

end Go.Proofs.Ytnlbfomlfhigcaa.Q
namespace Go.Proofs.Ytnlbfomlfhigcaa.Q
open Go.RowKit Go.Proofs.YtnlbfomlfhigcaaW.PrintWords Go.Proofs.YtnlbfomlfhigcaaW.PrintLast Go.Proofs.YtnlbfomlfhigcaaW.PrintMore
attribute [local go_sem] max2_int min2_int max_two min_two max_three min_three max_four min_four
set_option linter.unusedVariables false
set_option linter.unusedSimpArgs false

def lead_ones.f (a0 : Int) : Option (Int) := if a0 = 64 then (some 18446744073709551615) else (if 0 ≤ a0 then (some (IntKind.u64.wrap ((shl .u64 1 a0) - 1))) else (none))
set_option maxHeartbeats 8000000 in
set_option maxRecDepth 100000 in
theorem lead_ones.calls (a0 : Int) (r : Int) (w : World) (h : lead_ones.f a0 = some r) :
  Calls Try.prog 152 #[.int .i64 a0] w fun e w' => e = .returned (.int .u64 r) ∧ Drawn0 w w' := by
 have H := h
 clear h
 unfold lead_ones.f at H
 by_cases c2 : a0 = 64
 ·rw [if_pos c2] at H
  obtain ⟨c2b0, c2b1⟩ := eqY c2
  clear c2
  obtain rfl := Option.some.inj H
  go_enter Try.func152, Try.ntmps152
  go_wp2
  go_ret
  exact ⟨okT, by repeat (first | exact Drawn0.refl _ | apply Drawn0.step)⟩
 ·rw [if_neg c2] at H
  obtain ⟨c2b0, c2b1⟩ := eqN c2
  by_cases c3 : 0 ≤ a0
  ·rw [if_pos c3] at H
   have c3b0 := eq_true c3
   have c3b1 : decide (0 ≤ a0) = true := decide_eq_true c3
   clear c3
   obtain ⟨ji4, hji4⟩ : ∃ j_ : Int, (shl .u64 1 a0) = j_ := ⟨_, rfl⟩
   replace H : (some (IntKind.u64.wrap ((ji4) - 1))) = some r := by first | (rw [hji4] at H; exact H) | (simp only [hji4] at H ⊢; exact H)
   have hji4_ : (IntKind.u64.wrap (1 * 2 ^ min a0.toNat 64)) = ji4 := hji4
   have hji4z : a0 ≤ 64 → (IntKind.u64.wrap (1 * 2 ^ a0.toNat)) = ji4 := shl_small hji4
   have hji4u : (IntKind.u64.wrap (2 ^ min a0.toNat 64)) = ji4 := by have h_ := hji4_; rw [Int.one_mul] at h_; exact h_
   have hji4v : a0 ≤ 64 → (IntKind.u64.wrap (2 ^ a0.toNat)) = ji4 := fun hle_ => by have h_ := hji4z hle_; rw [Int.one_mul] at h_; exact h_
   obtain rfl := Option.some.inj H
   go_enter Try.func152, Try.ntmps152
   go_wp2
   go_ret
   exact ⟨by first | rfl | (simp; done) | (simp only [← hji4] <;> (first | rfl | simp)) | (simp [*]; done), by repeat (first | exact Drawn0.refl _ | apply Drawn0.step)⟩
  ·rw [if_neg c3] at H
   exact absurd H (by simp)

end Go.Proofs.Ytnlbfomlfhigcaa.Q
namespace Go.Proofs.Ytnlbfomlfhigcaa.Q
open Go.RowKit Go.Proofs.YtnlbfomlfhigcaaW.PrintWords Go.Proofs.YtnlbfomlfhigcaaW.PrintLast Go.Proofs.YtnlbfomlfhigcaaW.PrintMore
attribute [local go_sem] max2_int min2_int max_two min_two max_three min_three max_four min_four
set_option linter.unusedVariables false
set_option linter.unusedSimpArgs false

def lead_Mask.f (a0 : Int) : Option (Int × Option Int) := if a0 < 0 then (some (0, some 1)) else (if a0 > 64 then (some (0, some 1)) else ((lead_ones.f a0).bind fun t101 => (some (t101, none))))
set_option maxHeartbeats 8000000 in
set_option maxRecDepth 100000 in
theorem lead_Mask.calls (a0 : Int) (r1 : Int) (r2 : Option Int) (w : World) (h : lead_Mask.f a0 = some (r1, r2)) :
  Calls Try.prog 121 #[.int .i64 a0] w fun e w' => e = .returned (.tuple #[.int .u64 r1, errW r2]) ∧ Drawn0 w w' := by
 have hu43 := Try.underlying43
 have hu82 := Try.underlying82
 have H := h
 clear h
 unfold lead_Mask.f at H
 by_cases c2 : a0 < 0
 ·rw [if_pos c2] at H
  have c2b0 : decide (a0 < 0) = true := decide_eq_true c2
  clear c2
  simp only [Option.some.injEq, Prod.mk.injEq] at H
  obtain ⟨rfl, rfl⟩ := H
  go_enter Try.func121, Try.ntmps121
  go_wp2
  go_ret2
  exact ⟨okT, by repeat (first | exact Drawn0.refl _ | apply Drawn0.step)⟩
 ·rw [if_neg c2] at H
  have c2b0 : decide (a0 < 0) = false := decide_eq_false c2
  clear c2
  by_cases c3 : a0 > 64
  ·rw [if_pos c3] at H
   have c3b0 : decide (64 < a0) = true := decide_eq_true c3
   clear c3
   simp only [Option.some.injEq, Prod.mk.injEq] at H
   obtain ⟨rfl, rfl⟩ := H
   go_enter Try.func121, Try.ntmps121
   go_wp2
   go_ret2
   exact ⟨okT, by repeat (first | exact Drawn0.refl _ | apply Drawn0.step)⟩
  ·rw [if_neg c3] at H
   have c3b0 : decide (64 < a0) = false := decide_eq_false c3
   clear c3
   replace H := Option.bind_eq_some_iff.mp H
   obtain ⟨t101, A40, H⟩ := H
   try dsimp only at H
   have A4 := Aside0.mk A40
   clear A40
   simp only [Option.some.injEq, Prod.mk.injEq] at H
   obtain ⟨rfl, rfl⟩ := H
   go_enter Try.func121, Try.ntmps121
   go_wp2_with (first | ((with_reducible refine gate_callee (f := 152) rfl ?_); refine goesL_ (some 12) rfl rfl Try.func152 (by kernel_rfl) rfl #[.int .i64 a0] rfl (by (try simp only [List.map_toArray, List.map_cons, List.map_nil]); first | done | rfl | (simp only [List.length_drop, List.length_take]; rfl)) ?_; (with_reducible refine (lead_ones.calls a0 t101 _ A4.out).mono ?_); rintro e w' ⟨rfl, ⟨nd, rfl⟩⟩; refine ⟨_, rfl, ?_⟩))
   go_ret2
   exact ⟨okT, by repeat (first | exact Drawn0.refl _ | apply Drawn0.step)⟩

end Go.Proofs.Ytnlbfomlfhigcaa.Q
namespace Go.Proofs.Ytnlbfomlfhigcaa.Q
open Go.RowKit Go.Proofs.YtnlbfomlfhigcaaW.PrintWords Go.Proofs.YtnlbfomlfhigcaaW.PrintLast Go.Proofs.YtnlbfomlfhigcaaW.PrintMore
attribute [local go_sem] max2_int min2_int max_two min_two max_three min_three max_four min_four
set_option linter.unusedVariables false
set_option linter.unusedSimpArgs false

def shape_Fold.f (a0 : Int) (a1 : Int) : Option (Int × Option Int) := (shape_is.f a0).bind fun t102 => (if t102 = true then ((lead_Mask.f a0).bind fun bt103 => (some (Go.bits .and .u64 a1 bt103.1, bt103.2))) else (some (0, some 2)))
set_option maxHeartbeats 8000000 in
set_option maxRecDepth 100000 in
theorem shape_Fold.calls (a0 : Int) (a1 : Int) (r1 : Int) (r2 : Option Int) (w : World) (h : shape_Fold.f a0 a1 = some (r1, r2)) :
  Calls Try.prog 95 #[.int .i64 a0, .int .u64 a1] w fun e w' => e = .returned (.tuple #[.int .u64 r1, errW r2]) ∧ Drawn0 w w' := by
 have hu43 := Try.underlying43
 have hu82 := Try.underlying82
 have H := h
 clear h
 unfold shape_Fold.f at H
 replace H := Option.bind_eq_some_iff.mp H
 obtain ⟨t102, A30, H⟩ := H
 try dsimp only at H
 have A3 := Aside0.mk A30
 clear A30
 by_cases c4 : t102 = true
 ·subst c4
  rw [if_pos rfl] at H
  replace H := Option.bind_eq_some_iff.mp H
  obtain ⟨⟨t103, t104⟩, A50, H⟩ := H
  try dsimp only at H
  have A5 := Aside0.mk A50
  clear A50
  simp only [Option.some.injEq, Prod.mk.injEq] at H
  obtain ⟨rfl, rfl⟩ := H
  go_enter Try.func95, Try.ntmps95
  go_wp2_with (first | ((with_reducible refine gate_callee (f := 108) rfl ?_); refine goesL_ (some 9) rfl rfl Try.func108 (by kernel_rfl) rfl #[.int .i64 a0] rfl (by (try simp only [List.map_toArray, List.map_cons, List.map_nil]); first | done | rfl | (simp only [List.length_drop, List.length_take]; rfl)) ?_; (with_reducible refine (shape_is.calls a0 true _ A3.out).mono ?_); rintro e w' ⟨rfl, ⟨nd, rfl⟩⟩; refine ⟨_, rfl, ?_⟩) | ((with_reducible refine gate_callee (f := 121) rfl ?_); refine goesL_ (some 14) rfl rfl Try.func121 (by kernel_rfl) rfl #[.int .i64 a0] rfl (by (try simp only [List.map_toArray, List.map_cons, List.map_nil]); first | done | rfl | (simp only [List.length_drop, List.length_take]; rfl)) ?_; (with_reducible refine (lead_Mask.calls a0 t103 t104 _ A5.out).mono ?_); rintro e w' ⟨rfl, ⟨nd, rfl⟩⟩; refine ⟨_, rfl, ?_⟩; (try simp only [errW_none, errW_some])))
  go_ret2
  exact ⟨okT, by repeat (first | exact Drawn0.refl _ | apply Drawn0.step)⟩
 ·replace c4 := Bool.eq_false_iff.mpr c4
  subst c4
  rw [if_neg (show ¬ (false = true) by decide)] at H
  simp only [Option.some.injEq, Prod.mk.injEq] at H
  obtain ⟨rfl, rfl⟩ := H
  go_enter Try.func95, Try.ntmps95
  go_wp2_with (first | ((with_reducible refine gate_callee (f := 108) rfl ?_); refine goesL_ (some 9) rfl rfl Try.func108 (by kernel_rfl) rfl #[.int .i64 a0] rfl (by (try simp only [List.map_toArray, List.map_cons, List.map_nil]); first | done | rfl | (simp only [List.length_drop, List.length_take]; rfl)) ?_; (with_reducible refine (shape_is.calls a0 false _ A3.out).mono ?_); rintro e w' ⟨rfl, ⟨nd, rfl⟩⟩; refine ⟨_, rfl, ?_⟩))
  go_ret2
  exact ⟨okT, by repeat (first | exact Drawn0.refl _ | apply Drawn0.step)⟩

end Go.Proofs.Ytnlbfomlfhigcaa.Q
namespace Go.Proofs.Ytnlbfomlfhigcaa.Q
open Go.RowKit Go.Proofs.YtnlbfomlfhigcaaW.PrintWords Go.Proofs.YtnlbfomlfhigcaaW.PrintLast Go.Proofs.YtnlbfomlfhigcaaW.PrintMore
attribute [local go_sem] max2_int min2_int max_two min_two max_three min_three max_four min_four
set_option linter.unusedVariables false
set_option linter.unusedSimpArgs false

def shape_Kind.f (a0 : Int) (a1 : Int) : Option (Int × Option Int) := (shape_Fold.f a0 a1).bind fun bt105 => (if bt105.2.isNone = true then (if bt105.1 = 0 then (some (0, none)) else (if 0 ≤ (wrap64 (a0 - 1)) then (if bt105.1 = (shl .u64 1 (wrap64 (a0 - 1))) then (some (2, none)) else (some (1, none))) else (none))) else (some (0, some (bt105.2.getD 0))))
set_option maxHeartbeats 8000000 in
set_option maxRecDepth 100000 in
theorem shape_Kind.calls (a0 : Int) (a1 : Int) (r1 : Int) (r2 : Option Int) (w : World) (h : shape_Kind.f a0 a1 = some (r1, r2)) :
  Calls Try.prog 70 #[.int .i64 a0, .int .u64 a1] w fun e w' => e = .returned (.tuple #[.int .i64 r1, errW r2]) ∧ Drawn0 w w' := by
 have hu43 := Try.underlying43
 have hu82 := Try.underlying82
 have H := h
 clear h
 unfold shape_Kind.f at H
 replace H := Option.bind_eq_some_iff.mp H
 obtain ⟨⟨t105, t106⟩, A30, H⟩ := H
 try dsimp only at H
 have A3 := Aside0.mk A30
 clear A30
 rcases t106 with _ | q107
 ·rw [if_pos (show (none : Option Int).isNone = true by rfl)] at H
  try simp only [errW_none, errW_some]
  by_cases c4 : t105 = 0
  ·rw [if_pos c4] at H
   obtain ⟨c4b0, c4b1⟩ := eqY c4
   clear c4
   simp only [Option.some.injEq, Prod.mk.injEq] at H
   obtain ⟨rfl, rfl⟩ := H
   go_enter Try.func70, Try.ntmps70
   go_wp2_with (first | ((with_reducible refine gate_callee (f := 95) rfl ?_); refine goesL_ (some 10) rfl rfl Try.func95 (by kernel_rfl) rfl #[.int .i64 a0, .int .u64 a1] rfl (by (try simp only [List.map_toArray, List.map_cons, List.map_nil]); first | done | rfl | (simp only [List.length_drop, List.length_take]; rfl)) ?_; (with_reducible refine (shape_Fold.calls a0 a1 t105 none _ A3.out).mono ?_); rintro e w' ⟨rfl, ⟨nd, rfl⟩⟩; refine ⟨_, rfl, ?_⟩; (try simp only [errW_none, errW_some])))
   go_ret2
   exact ⟨okT, by repeat (first | exact Drawn0.refl _ | apply Drawn0.step)⟩
  ·rw [if_neg c4] at H
   obtain ⟨c4b0, c4b1⟩ := eqN c4
   obtain ⟨ji5, hji5⟩ : ∃ j_ : Int, (wrap64 (a0 - 1)) = j_ := ⟨_, rfl⟩
   replace H : (if 0 ≤ (ji5) then (if t105 = (shl .u64 1 (ji5)) then (some (2, none)) else (some (1, none))) else (none)) = some (r1, r2) := by first | (rw [hji5] at H; exact H) | (simp only [hji5] at H ⊢; exact H)
   (try rw [hji5] at A3)
   have hji5w : (IntKind.i64.wrap (a0 - 1)) = ji5 := (i64_w _).trans hji5
   by_cases c6 : 0 ≤ (ji5)
   ·rw [if_pos c6] at H
    have c6b0 := eq_true c6
    have c6b1 : decide (0 ≤ (ji5)) = true := decide_eq_true c6
    clear c6
    obtain ⟨ji7, hji7⟩ : ∃ j_ : Int, (shl .u64 1 (ji5)) = j_ := ⟨_, rfl⟩
    replace H : (if t105 = (ji7) then (some (2, none)) else (some (1, none))) = some (r1, r2) := by first | (rw [hji7] at H; exact H) | (simp only [hji7] at H ⊢; exact H)
    (try rw [hji7] at A3)
    have hji7_ : (IntKind.u64.wrap (1 * 2 ^ min (ji5).toNat 64)) = ji7 := hji7
    have hji7z : (ji5) ≤ 64 → (IntKind.u64.wrap (1 * 2 ^ (ji5).toNat)) = ji7 := shl_small hji7
    have hji7u : (IntKind.u64.wrap (2 ^ min (ji5).toNat 64)) = ji7 := by have h_ := hji7_; rw [Int.one_mul] at h_; exact h_
    have hji7v : (ji5) ≤ 64 → (IntKind.u64.wrap (2 ^ (ji5).toNat)) = ji7 := fun hle_ => by have h_ := hji7z hle_; rw [Int.one_mul] at h_; exact h_
    by_cases c8 : t105 = (ji7)
    ·rw [if_pos c8] at H
     obtain ⟨c8b0, c8b1⟩ := eqY c8
     clear c8
     simp only [Option.some.injEq, Prod.mk.injEq] at H
     obtain ⟨rfl, rfl⟩ := H
     go_enter Try.func70, Try.ntmps70
     go_wp2_with (first | ((with_reducible refine gate_callee (f := 95) rfl ?_); refine goesL_ (some 10) rfl rfl Try.func95 (by kernel_rfl) rfl #[.int .i64 a0, .int .u64 a1] rfl (by (try simp only [List.map_toArray, List.map_cons, List.map_nil]); first | done | rfl | (simp only [List.length_drop, List.length_take]; rfl)) ?_; (with_reducible refine (shape_Fold.calls a0 a1 t105 none _ A3.out).mono ?_); rintro e w' ⟨rfl, ⟨nd, rfl⟩⟩; refine ⟨_, rfl, ?_⟩; (try simp only [errW_none, errW_some])))
     go_ret2
     exact ⟨by first | rfl | (simp; done) | (simp only [← hji5, ← hji7] <;> (first | rfl | simp)) | (simp [*]; done), by repeat (first | exact Drawn0.refl _ | apply Drawn0.step)⟩
    ·rw [if_neg c8] at H
     obtain ⟨c8b0, c8b1⟩ := eqN c8
     simp only [Option.some.injEq, Prod.mk.injEq] at H
     obtain ⟨rfl, rfl⟩ := H
     go_enter Try.func70, Try.ntmps70
     go_wp2_with (first | ((with_reducible refine gate_callee (f := 95) rfl ?_); refine goesL_ (some 10) rfl rfl Try.func95 (by kernel_rfl) rfl #[.int .i64 a0, .int .u64 a1] rfl (by (try simp only [List.map_toArray, List.map_cons, List.map_nil]); first | done | rfl | (simp only [List.length_drop, List.length_take]; rfl)) ?_; (with_reducible refine (shape_Fold.calls a0 a1 t105 none _ A3.out).mono ?_); rintro e w' ⟨rfl, ⟨nd, rfl⟩⟩; refine ⟨_, rfl, ?_⟩; (try simp only [errW_none, errW_some])))
     go_ret2
     exact ⟨by first | rfl | (simp; done) | (simp only [← hji5, ← hji7] <;> (first | rfl | simp)) | (simp [*]; done), by repeat (first | exact Drawn0.refl _ | apply Drawn0.step)⟩
   ·rw [if_neg c6] at H
    exact absurd H (by simp)
 ·rw [if_neg (show ¬ (some q107).isNone = true by simp)] at H
  try simp only [errW_none, errW_some]
  simp only [Option.some.injEq, Prod.mk.injEq] at H
  obtain ⟨rfl, rfl⟩ := H
  go_enter Try.func70, Try.ntmps70
  go_wp2_with (first | ((with_reducible refine gate_callee (f := 95) rfl ?_); refine goesL_ (some 10) rfl rfl Try.func95 (by kernel_rfl) rfl #[.int .i64 a0, .int .u64 a1] rfl (by (try simp only [List.map_toArray, List.map_cons, List.map_nil]); first | done | rfl | (simp only [List.length_drop, List.length_take]; rfl)) ?_; (with_reducible refine (shape_Fold.calls a0 a1 t105 (some q107) _ A3.out).mono ?_); rintro e w' ⟨rfl, ⟨nd, rfl⟩⟩; refine ⟨_, rfl, ?_⟩; (try simp only [errW_none, errW_some])))
  go_ret2
  exact ⟨okT, by repeat (first | exact Drawn0.refl _ | apply Drawn0.step)⟩

end Go.Proofs.Ytnlbfomlfhigcaa.Q
namespace Go.Proofs.Ytnlbfomlfhigcaa.Q
open Go.RowKit Go.Proofs.YtnlbfomlfhigcaaW.PrintWords Go.Proofs.YtnlbfomlfhigcaaW.PrintLast Go.Proofs.YtnlbfomlfhigcaaW.PrintMore
attribute [local go_sem] max2_int min2_int max_two min_two max_three min_three max_four min_four
set_option linter.unusedVariables false
set_option linter.unusedSimpArgs false

def lead_Extend.f (a0 : Int) (a1 : Int) : Option (Int × Option Int) := if a1 < 1 then (some (0, some 1)) else (if a1 > 64 then (some (0, some 1)) else (if 0 ≤ (wrap64 (64 - a1)) then (some (shr .i64 (wrap64 (shl .u64 a0 (wrap64 (64 - a1)))) (wrap64 (64 - a1)), none)) else (none)))
set_option maxHeartbeats 8000000 in
set_option maxRecDepth 100000 in
theorem lead_Extend.calls (a0 : Int) (a1 : Int) (r1 : Int) (r2 : Option Int) (w : World) (h : lead_Extend.f a0 a1 = some (r1, r2)) :
  Calls Try.prog 122 #[.int .u64 a0, .int .i64 a1] w fun e w' => e = .returned (.tuple #[.int .i64 r1, errW r2]) ∧ Drawn0 w w' := by
 have hu43 := Try.underlying43
 have hu82 := Try.underlying82
 have H := h
 clear h
 unfold lead_Extend.f at H
 by_cases c3 : a1 < 1
 ·rw [if_pos c3] at H
  have c3b0 : decide (a1 < 1) = true := decide_eq_true c3
  clear c3
  simp only [Option.some.injEq, Prod.mk.injEq] at H
  obtain ⟨rfl, rfl⟩ := H
  go_enter Try.func122, Try.ntmps122
  go_wp2
  go_ret2
  exact ⟨okT, by repeat (first | exact Drawn0.refl _ | apply Drawn0.step)⟩
 ·rw [if_neg c3] at H
  have c3b0 : decide (a1 < 1) = false := decide_eq_false c3
  clear c3
  by_cases c4 : a1 > 64
  ·rw [if_pos c4] at H
   have c4b0 : decide (64 < a1) = true := decide_eq_true c4
   clear c4
   simp only [Option.some.injEq, Prod.mk.injEq] at H
   obtain ⟨rfl, rfl⟩ := H
   go_enter Try.func122, Try.ntmps122
   go_wp2
   go_ret2
   exact ⟨okT, by repeat (first | exact Drawn0.refl _ | apply Drawn0.step)⟩
  ·rw [if_neg c4] at H
   have c4b0 : decide (64 < a1) = false := decide_eq_false c4
   clear c4
   obtain ⟨ji5, hji5⟩ : ∃ j_ : Int, (wrap64 (64 - a1)) = j_ := ⟨_, rfl⟩
   replace H : (if 0 ≤ (ji5) then (some (shr .i64 (wrap64 (shl .u64 a0 (ji5))) (ji5), none)) else (none)) = some (r1, r2) := by first | (rw [hji5] at H; exact H) | (simp only [hji5] at H ⊢; exact H)
   have hji5w : (IntKind.i64.wrap (64 - a1)) = ji5 := (i64_w _).trans hji5
   by_cases c6 : 0 ≤ (ji5)
   ·rw [if_pos c6] at H
    have c6b0 := eq_true c6
    have c6b1 : decide (0 ≤ (ji5)) = true := decide_eq_true c6
    clear c6
    obtain ⟨ji7, hji7⟩ : ∃ j_ : Int, (shl .u64 a0 (ji5)) = j_ := ⟨_, rfl⟩
    replace H : (some (shr .i64 (wrap64 (ji7)) (ji5), none)) = some (r1, r2) := by first | (rw [hji7] at H; exact H) | (simp only [hji7] at H ⊢; exact H)
    have hji7_ : (IntKind.u64.wrap (a0 * 2 ^ min (ji5).toNat 64)) = ji7 := hji7
    have hji7z : (ji5) ≤ 64 → (IntKind.u64.wrap (a0 * 2 ^ (ji5).toNat)) = ji7 := shl_small hji7
    have c8b0 := eq_true (of_decide_eq_true (by first | (with_reducible assumption) | assumption) : 0 ≤ (ji5))
    obtain ⟨ji9, hji9⟩ : ∃ j_ : Int, (shr .i64 (wrap64 (ji7)) (ji5)) = j_ := ⟨_, rfl⟩
    replace H : (some (ji9, none)) = some (r1, r2) := by first | (rw [hji9] at H; exact H) | (simp only [hji9] at H ⊢; exact H)
    have hji9_ : ((wrap64 (ji7)) / 2 ^ min (ji5).toNat 64) = ji9 := hji9
    have hji9z : (ji5) ≤ 64 → ((wrap64 (ji7)) / 2 ^ (ji5).toNat) = ji9 := shr_small hji9
    simp only [Option.some.injEq, Prod.mk.injEq] at H
    obtain ⟨rfl, rfl⟩ := H
    go_enter Try.func122, Try.ntmps122
    go_wp2
    go_ret2
    exact ⟨by first | rfl | (simp; done) | (simp only [← hji5, ← hji7, ← hji9] <;> (first | rfl | simp)) | (simp [*]; done), by repeat (first | exact Drawn0.refl _ | apply Drawn0.step)⟩
   ·rw [if_neg c6] at H
    exact absurd H (by simp)

end Go.Proofs.Ytnlbfomlfhigcaa.Q
namespace Go.Proofs.Ytnlbfomlfhigcaa.Q
open Go.RowKit Go.Proofs.YtnlbfomlfhigcaaW.PrintWords Go.Proofs.YtnlbfomlfhigcaaW.PrintLast Go.Proofs.YtnlbfomlfhigcaaW.PrintMore
attribute [local go_sem] max2_int min2_int max_two min_two max_three min_three max_four min_four
set_option linter.unusedVariables false
set_option linter.unusedSimpArgs false

def shape_Rank.f (a0 : Int) (a1 : Int) : Option (Int × Option Int) := (shape_is.f a0).bind fun t108 => (if t108 = true then ((lead_Extend.f a1 a0).bind fun bt109 => (some (bt109.1, bt109.2))) else (some (0, some 2)))
set_option maxHeartbeats 8000000 in
set_option maxRecDepth 100000 in
theorem shape_Rank.calls (a0 : Int) (a1 : Int) (r1 : Int) (r2 : Option Int) (w : World) (h : shape_Rank.f a0 a1 = some (r1, r2)) :
  Calls Try.prog 96 #[.int .i64 a0, .int .u64 a1] w fun e w' => e = .returned (.tuple #[.int .i64 r1, errW r2]) ∧ Drawn0 w w' := by
 have hu43 := Try.underlying43
 have hu82 := Try.underlying82
 have H := h
 clear h
 unfold shape_Rank.f at H
 replace H := Option.bind_eq_some_iff.mp H
 obtain ⟨t108, A30, H⟩ := H
 try dsimp only at H
 have A3 := Aside0.mk A30
 clear A30
 by_cases c4 : t108 = true
 ·subst c4
  rw [if_pos rfl] at H
  replace H := Option.bind_eq_some_iff.mp H
  obtain ⟨⟨t109, t110⟩, A50, H⟩ := H
  try dsimp only at H
  have A5 := Aside0.mk A50
  clear A50
  simp only [Option.some.injEq, Prod.mk.injEq] at H
  obtain ⟨rfl, rfl⟩ := H
  go_enter Try.func96, Try.ntmps96
  go_wp2_with (first | ((with_reducible refine gate_callee (f := 108) rfl ?_); refine goesL_ (some 7) rfl rfl Try.func108 (by kernel_rfl) rfl #[.int .i64 a0] rfl (by (try simp only [List.map_toArray, List.map_cons, List.map_nil]); first | done | rfl | (simp only [List.length_drop, List.length_take]; rfl)) ?_; (with_reducible refine (shape_is.calls a0 true _ A3.out).mono ?_); rintro e w' ⟨rfl, ⟨nd, rfl⟩⟩; refine ⟨_, rfl, ?_⟩) | ((with_reducible refine gate_callee (f := 122) rfl ?_); refine goesL_ (some 12) rfl rfl Try.func122 (by kernel_rfl) rfl #[.int .u64 a1, .int .i64 a0] rfl (by (try simp only [List.map_toArray, List.map_cons, List.map_nil]); first | done | rfl | (simp only [List.length_drop, List.length_take]; rfl)) ?_; (with_reducible refine (lead_Extend.calls a1 a0 t109 t110 _ A5.out).mono ?_); rintro e w' ⟨rfl, ⟨nd, rfl⟩⟩; refine ⟨_, rfl, ?_⟩; (try simp only [errW_none, errW_some])))
  go_ret2
  exact ⟨okT, by repeat (first | exact Drawn0.refl _ | apply Drawn0.step)⟩
 ·replace c4 := Bool.eq_false_iff.mpr c4
  subst c4
  rw [if_neg (show ¬ (false = true) by decide)] at H
  simp only [Option.some.injEq, Prod.mk.injEq] at H
  obtain ⟨rfl, rfl⟩ := H
  go_enter Try.func96, Try.ntmps96
  go_wp2_with (first | ((with_reducible refine gate_callee (f := 108) rfl ?_); refine goesL_ (some 7) rfl rfl Try.func108 (by kernel_rfl) rfl #[.int .i64 a0] rfl (by (try simp only [List.map_toArray, List.map_cons, List.map_nil]); first | done | rfl | (simp only [List.length_drop, List.length_take]; rfl)) ?_; (with_reducible refine (shape_is.calls a0 false _ A3.out).mono ?_); rintro e w' ⟨rfl, ⟨nd, rfl⟩⟩; refine ⟨_, rfl, ?_⟩))
  go_ret2
  exact ⟨okT, by repeat (first | exact Drawn0.refl _ | apply Drawn0.step)⟩

end Go.Proofs.Ytnlbfomlfhigcaa.Q
namespace Go.Proofs
open Go.Shelf
def Try.lays134_ren : Go.Shelf.Ren := ⟨fun | 134 => 131 | 129 => 157 | n => n, fun | 53 => 25 | 3 => 3 | 4 => 4 | 46 => 95 | 5 => 5 | 9 => 9 | n => n, fun | n => n⟩
theorem Try.lays134 : Go.Proofs.Lays.n134 Try.prog Try.lays134_ren := {
  mixed := by kernel_rfl
  f129 := Try.func157.trans (congrArg some (by kernel_rfl))
  f134 := Try.func131.trans (congrArg some (by kernel_rfl))
  t3 := Try.underlying3
  a3 := Try.isAgg3
  z3 := Try.sizeOf3
  v3 := Try.zeroValue3
  t4 := Try.underlying4
  a4 := Try.isAgg4
  z4 := Try.sizeOf4
  v4 := Try.zeroValue4
  t5 := Try.underlying5
  a5 := Try.isAgg5
  z5 := Try.sizeOf5
  v5 := Try.zeroValue5
  t9 := Try.underlying9
  a9 := Try.isAgg9
  z9 := Try.sizeOf9
  v9 := Try.zeroValue9
  t46 := Try.underlying95
  a46 := Try.isAgg95
  z46 := Try.sizeOf95
  v46 := Try.zeroValue95
  t53 := Try.underlying25
  a53 := Try.isAgg25
  z53 := Try.sizeOf25
  v53 := Try.zeroValue25 }
/-- bits.LeadingZeros64: "LeadingZeros64 returns the number of leading zero bits in x; the result is 64 for x == 0.": IT RETURNS '64 - Lib.bitLen x'; the world is as it was. ITS CALLEE bits.Len64 IS MET BY ITS OWN CONTRACT OFF THE SHELF (lay that first): entered in place it sends the kernel out of memory. (LAID: no walk: one application.) -/
theorem Try.bits_LeadingZeros64 (x : Int) (w : World) (h0 : 0 ≤ x) (h1 : x ≤ 18446744073709551615) :
    Calls Try.prog 131 #[.int .u64 x] w fun e w' => e = .returned (.int .i64 (64 - (Lib.bitLen x.toNat : Int))) ∧ w' = w := Any.bits_LeadingZeros64 Try.lays134 x w h0 h1
def Try.lays129_ren : Go.Shelf.Ren := ⟨fun | 129 => 157 | n => n, fun | 53 => 25 | 3 => 3 | 4 => 4 | 46 => 95 | 5 => 5 | 9 => 9 | n => n, fun | n => n⟩
theorem Try.lays129 : Go.Proofs.Lays.n129 Try.prog Try.lays129_ren := {
  mixed := by kernel_rfl
  f129 := Try.func157.trans (congrArg some (by kernel_rfl))
  t3 := Try.underlying3
  a3 := Try.isAgg3
  z3 := Try.sizeOf3
  v3 := Try.zeroValue3
  t4 := Try.underlying4
  a4 := Try.isAgg4
  z4 := Try.sizeOf4
  v4 := Try.zeroValue4
  t5 := Try.underlying5
  a5 := Try.isAgg5
  z5 := Try.sizeOf5
  v5 := Try.zeroValue5
  t9 := Try.underlying9
  a9 := Try.isAgg9
  z9 := Try.sizeOf9
  v9 := Try.zeroValue9
  t46 := Try.underlying95
  a46 := Try.isAgg95
  z46 := Try.sizeOf95
  v46 := Try.zeroValue95
  t53 := Try.underlying25
  a53 := Try.isAgg25
  z53 := Try.sizeOf25
  v53 := Try.zeroValue25 }
/-- bits.Len64: "Len64 returns the minimum number of bits required to represent x; the result is 0 for x == 0.": IT RETURNS 'Lib.bitLen x'; the world is as it was. ('h0', 'h1': x is a uint64.) (LAID: no walk: one application.) -/
theorem Try.bits_Len64 (x : Int) (w : World) (h0 : 0 ≤ x) (h1 : x ≤ 18446744073709551615) :
    Calls Try.prog 157 #[.int .u64 x] w fun e w' => e = .returned (.int .i64 (Lib.bitLen x.toNat)) ∧ w' = w := Any.bits_Len64 Try.lays129 x w h0 h1
def Try.lays264_ren : Go.Shelf.Ren := ⟨fun | 264 => 150 | n => n, fun | 53 => 25 | 46 => 95 | n => n, fun | n => n⟩
theorem Try.lays264 : Go.Proofs.Lays.n264 Try.prog Try.lays264_ren := {
  mixed := by kernel_rfl
  f264 := Try.func150.trans (congrArg some (by kernel_rfl))
  t46 := Try.underlying95
  a46 := Try.isAgg95
  z46 := Try.sizeOf95
  v46 := Try.zeroValue95
  t53 := Try.underlying25
  a53 := Try.isAgg25
  z53 := Try.sizeOf25
  v53 := Try.zeroValue25 }
open Go.RowKit Go.Lib in
theorem Try.bits_Mul64 (x y : Nat) (hx : x < 18446744073709551616) (hy : y < 18446744073709551616) (w : World) :
    Calls Try.prog 150 #[.int .u64 x, .int .u64 y] w fun e w' => e = .returned (.tuple #[.int .u64 ((x * y / 18446744073709551616 : Nat) : Int), .int .u64 ((x * y % 18446744073709551616 : Nat) : Int)]) ∧ w' = w := Any.bits_Mul64 Try.lays264 x y hx hy w
end Go.Proofs
namespace Go.Proofs.Ytnlbfomlfhigcaa.Q
open Go.RowKit Go.Proofs.YtnlbfomlfhigcaaW.PrintWords Go.Proofs.YtnlbfomlfhigcaaW.PrintLast Go.Proofs.YtnlbfomlfhigcaaW.PrintMore

def bits_Len64.f (a0 : Int) : Option (Int) := if 0 ≤ a0 ∧ a0 ≤ 18446744073709551615 then some ((Lib.bitLen a0.toNat : Nat) : Int) else none
theorem bits_Len64.calls (a0 : Int) (r : Int) (w : World) (h : bits_Len64.f a0 = some r) :
    Calls Try.prog 157 #[.int .u64 a0] w fun e w' => e = .returned (.int .i64 r) ∧ Drawn0 w w' := by
  unfold bits_Len64.f at h
  split at h
  · rename_i hc
    obtain rfl := Option.some.inj h
    refine (Try.bits_Len64 a0 w hc.1 hc.2).mono ?_
    rintro e w' ⟨he, rfl⟩
    exact ⟨he, Drawn0.refl _⟩
  · cases h

def bits_LeadingZeros64.f (a0 : Int) : Option (Int) := if 0 ≤ a0 ∧ a0 ≤ 18446744073709551615 then some (64 - ((Lib.bitLen a0.toNat : Nat) : Int)) else none
theorem bits_LeadingZeros64.calls (a0 : Int) (r : Int) (w : World) (h : bits_LeadingZeros64.f a0 = some r) :
    Calls Try.prog 131 #[.int .u64 a0] w fun e w' => e = .returned (.int .i64 r) ∧ Drawn0 w w' := by
  unfold bits_LeadingZeros64.f at h
  split at h
  · rename_i hc
    obtain rfl := Option.some.inj h
    refine (Try.bits_LeadingZeros64 a0 w hc.1 hc.2).mono ?_
    rintro e w' ⟨he, rfl⟩
    exact ⟨he, Drawn0.refl _⟩
  · cases h

def bits_Mul64.f (a0 : Int) (a1 : Int) : Option (Int × Int) := if 0 ≤ a0 ∧ a0 ≤ 18446744073709551615 ∧ 0 ≤ a1 ∧ a1 ≤ 18446744073709551615 then some (a0 * a1 / 18446744073709551616, a0 * a1 % 18446744073709551616) else none
theorem bits_Mul64.calls (a0 : Int) (a1 : Int) (r1 : Int) (r2 : Int) (w : World) (h : bits_Mul64.f a0 a1 = some (r1, r2)) :
    Calls Try.prog 150 #[.int .u64 a0, .int .u64 a1] w fun e w' => e = .returned (.tuple #[.int .u64 r1, .int .u64 r2]) ∧ Drawn0 w w' := by
  unfold bits_Mul64.f at h
  split at h
  · rename_i hc
    simp only [Option.some.injEq, Prod.mk.injEq] at h
    obtain ⟨rfl, rfl⟩ := h
    obtain ⟨x, rfl⟩ := Int.eq_ofNat_of_zero_le hc.1
    obtain ⟨y, rfl⟩ := Int.eq_ofNat_of_zero_le hc.2.2.1
    refine (Try.bits_Mul64 x y (by omega) (by omega) w).mono ?_
    rintro e w' ⟨he, rfl⟩
    refine ⟨?_, Drawn0.refl _⟩
    rw [he]
    rfl
  · cases h
end Go.Proofs.Ytnlbfomlfhigcaa.Q
namespace Go.Proofs.Ytnlbfomlfhigcaa.Q
open Go.RowKit Go.Proofs.YtnlbfomlfhigcaaW.PrintWords Go.Proofs.YtnlbfomlfhigcaaW.PrintLast Go.Proofs.YtnlbfomlfhigcaaW.PrintMore
attribute [local go_sem] max2_int min2_int max_two min_two max_three min_three max_four min_four
set_option linter.unusedVariables false
set_option linter.unusedSimpArgs false

def lead_Run.j0 : Nat → Int → Int → Bool → Option (Bool × Int × Option Int)
 | 0, _, _, _ => none
 | k + 1, x0, x1, x13 => if x13 = true then (some (false, 0, some 1)) else (if 0 ≤ (wrap64 (64 - x1)) then (if ((shl .u64 x0 (wrap64 (64 - x1))) / 9223372036854775808) = 1 then ((bits_LeadingZeros64.f (Go.bits .xor .u64 18446744073709551615 (shl .u64 x0 (wrap64 (64 - x1))))).bind fun t111 => (some ((((shl .u64 x0 (wrap64 (64 - x1))) / 9223372036854775808) == 1), mn t111 x1, none))) else ((bits_LeadingZeros64.f (shl .u64 x0 (wrap64 (64 - x1)))).bind fun t112 => (some ((((shl .u64 x0 (wrap64 (64 - x1))) / 9223372036854775808) == 1), mn t112 x1, none)))) else (none))
def lead_Run.f (k : Nat) (a0 : Int) (a1 : Int) : Option (Bool × Int × Option Int) := if a1 < 1 then (lead_Run.j0 k a0 a1 true) else (lead_Run.j0 k a0 a1 (decide (a1 > 64)))
theorem lead_Run.mono_l : ∀ k, (∀ y0 y1 y2, LeO (lead_Run.j0 k y0 y1 y2) (lead_Run.j0 (k + 1) y0 y1 y2))
 | 0 => fun _ _ _ r h => by simp [lead_Run.j0] at h
 | k + 1 => by
  have ih0 := lead_Run.mono_l k
  ·intro y0 y1 y2
   unfold lead_Run.j0
   repeat' first
   | (with_reducible exact ih0 _ _ _)
   | (with_reducible exact LeO.refl _)
   | (with_reducible exact LeO.none _)
   | (with_reducible refine LeO.ite ?_ ?_)
   | (with_reducible refine LeO.bind ?_ (fun _ => ?_))
   | exact ih0 _ _ _
   | exact LeO.none _
   | refine LeO.ite ?_ ?_
   | refine LeO.bind ?_ (fun _ => ?_)
theorem lead_Run.mono : ∀ a0 a1 k, LeO (lead_Run.f k a0 a1) (lead_Run.f (k + 1) a0 a1) := by
 intro a0 a1 k
 have ih0 := lead_Run.mono_l k
 unfold lead_Run.f
 repeat' first
   | (with_reducible exact ih0 _ _ _)
   | (with_reducible exact LeO.refl _)
   | (with_reducible exact LeO.none _)
   | (with_reducible refine LeO.ite ?_ ?_)
   | (with_reducible refine LeO.bind ?_ (fun _ => ?_))
   | exact ih0 _ _ _
   | exact LeO.none _
   | refine LeO.ite ?_ ?_
   | refine LeO.bind ?_ (fun _ => ?_)
set_option maxHeartbeats 8000000 in
set_option maxRecDepth 100000 in
theorem lead_Run.calls (k : Nat) (a0 : Int) (a1 : Int) (r1 : Bool) (r2 : Int) (r3 : Option Int) (w : World) (h : lead_Run.f k a0 a1 = some (r1, r2, r3)) :
  Calls Try.prog 123 #[.int .u64 a0, .int .i64 a1] w fun e w' => e = .returned (.tuple #[.bool r1, .int .i64 r2, errW r3]) ∧ Below w.heap.size w w' := by
 have hu43 := Try.underlying43
 have hu82 := Try.underlying82
 have HB := Aside0.mk (Below.refl w.heap.size w)
 have H := h
 clear h
 unfold lead_Run.f at H
 have HC3 := Aside0.mk H
 clear H
 go_enter Try.func123, Try.ntmps123
 go_upto_region 1 with (fail)
 go_cut [13] (fun v13 wc => ∃ (kq : Nat) (x13_2 : Bool), v13 = .bool x13_2 ∧ Aside0 (lead_Run.j0 kq a0 a1 x13_2 = some (r1, r2, r3)) ∧ Aside0 (kq ≤ k) ∧ Aside0 (Below w.heap.size w wc))
 case first =>
  have H := HC3.out
  clear HC3
  by_cases c4 : a1 < 1
  ·rw [if_pos c4] at H
   have c4b0 : decide (a1 < 1) = true := decide_eq_true c4
   clear c4
   (first | rw [c4b0] | (simp only [i64_w, i32_w]; rw [c4b0]) | rw [c4b1] | skip)
   have H' := Aside0.mk H
   clear H
   go_wp2
   go_meet
   case rel => exact ⟨_, (true), okT, H', leT, ⟨hbT⟩⟩
  ·rw [if_neg c4] at H
   have c4b0 : decide (a1 < 1) = false := decide_eq_false c4
   clear c4
   (first | rw [c4b0] | (simp only [i64_w, i32_w]; rw [c4b0]) | rw [c4b1] | skip)
   have H' := Aside0.mk H
   clear H
   go_wp2
   go_meet
   case rel => exact ⟨_, (decide (a1 > 64)), okT, H', leT, ⟨hbT⟩⟩
 case rest =>
  clear HC3
  obtain ⟨kq, x13_2, rfl, HA, HJ2, HB⟩ := hcut
  cases kq with
  | zero => exact absurd HA.out (by simp [lead_Run.j0])
  | succ kj2 =>
   have H := HA.out
   clear HA
   simp only [lead_Run.j0] at H
   by_cases c5 : x13_2 = true
   ·subst c5
    rw [if_pos rfl] at H
    simp only [Option.some.injEq, Prod.mk.injEq] at H
    obtain ⟨rfl, rfl, rfl⟩ := H
    go_wp2
    go_ret3
    exact ⟨reT, hbT⟩
   ·replace c5 := Bool.eq_false_iff.mpr c5
    subst c5
    rw [if_neg (show ¬ (false = true) by decide)] at H
    obtain ⟨ji6, hji6⟩ : ∃ j_ : Int, (wrap64 (64 - a1)) = j_ := ⟨_, rfl⟩
    replace H : (if 0 ≤ (ji6) then (if ((shl .u64 a0 (ji6)) / 9223372036854775808) = 1 then ((bits_LeadingZeros64.f (Go.bits .xor .u64 18446744073709551615 (shl .u64 a0 (ji6)))).bind fun t111 => (some ((((shl .u64 a0 (ji6)) / 9223372036854775808) == 1), mn t111 a1, none))) else ((bits_LeadingZeros64.f (shl .u64 a0 (ji6))).bind fun t112 => (some ((((shl .u64 a0 (ji6)) / 9223372036854775808) == 1), mn t112 a1, none)))) else (none)) = some (r1, r2, r3) := by first | (rw [hji6] at H; exact H) | (simp only [hji6] at H ⊢; exact H)
    have hji6w : (IntKind.i64.wrap (64 - a1)) = ji6 := (i64_w _).trans hji6
    by_cases c7 : 0 ≤ (ji6)
    ·rw [if_pos c7] at H
     have c7b0 := eq_true c7
     have c7b1 : decide (0 ≤ (ji6)) = true := decide_eq_true c7
     clear c7
     obtain ⟨ji8, hji8⟩ : ∃ j_ : Int, (shl .u64 a0 (ji6)) = j_ := ⟨_, rfl⟩
     replace H : (if ((ji8) / 9223372036854775808) = 1 then ((bits_LeadingZeros64.f (Go.bits .xor .u64 18446744073709551615 (ji8))).bind fun t111 => (some ((((ji8) / 9223372036854775808) == 1), mn t111 a1, none))) else ((bits_LeadingZeros64.f (ji8)).bind fun t112 => (some ((((ji8) / 9223372036854775808) == 1), mn t112 a1, none)))) = some (r1, r2, r3) := by first | (rw [hji8] at H; exact H) | (simp only [hji8] at H ⊢; exact H)
     have hji8_ : (IntKind.u64.wrap (a0 * 2 ^ min (ji6).toNat 64)) = ji8 := hji8
     have hji8z : (ji6) ≤ 64 → (IntKind.u64.wrap (a0 * 2 ^ (ji6).toNat)) = ji8 := shl_small hji8
     by_cases c9 : ((ji8) / 9223372036854775808) = 1
     ·rw [if_pos c9] at H
      obtain ⟨c9b0, c9b1⟩ := eqY c9
      clear c9
      replace H := Option.bind_eq_some_iff.mp H
      obtain ⟨t111, A100, H⟩ := H
      try dsimp only at H
      have A10 := Aside0.mk A100
      clear A100
      obtain ⟨ji11, hji11⟩ : ∃ j_ : Int, (mn t111 a1) = j_ := ⟨_, rfl⟩
      replace H : (some ((((ji8) / 9223372036854775808) == 1), ji11, none)) = some (r1, r2, r3) := by first | (rw [hji11] at H; exact H) | (simp only [hji11] at H ⊢; exact H)
      (try rw [hji11] at A10)
      have hji11_ : (if a1 < t111 then a1 else t111) = ji11 := hji11
      simp only [Option.some.injEq, Prod.mk.injEq] at H
      obtain ⟨rfl, rfl, rfl⟩ := H
      go_wp2_with (first | ((with_reducible refine gate_callee (f := 131) rfl ?_); refine goesL_ (some 27) rfl rfl Try.func131 (by kernel_rfl) rfl #[.int .u64 (Go.bits .xor .u64 18446744073709551615 (ji8))] rfl (by (try simp only [List.map_toArray, List.map_cons, List.map_nil]); first | done | (simp only [hji8]; rfl) | rfl | (simp only [List.length_drop, List.length_take]; rfl)) ?_; (with_reducible refine (bits_LeadingZeros64.calls (Go.bits .xor .u64 18446744073709551615 (ji8)) t111 _ A10.out).mono ?_); rintro e w' ⟨rfl, ⟨nd, rfl⟩⟩; refine ⟨_, rfl, ?_⟩))
      go_ret3
      exact ⟨by first | rfl | (simp [errW_none, errW_some] <;> rfl) | (simp only [← hji6, ← hji8, ← hji11]; first | rfl | (simp [errW_none, errW_some] <;> rfl)) | (simp [*, errW_none, errW_some] <;> rfl), hbT⟩
     ·rw [if_neg c9] at H
      obtain ⟨c9b0, c9b1⟩ := eqN c9
      replace H := Option.bind_eq_some_iff.mp H
      obtain ⟨t112, A120, H⟩ := H
      try dsimp only at H
      have A12 := Aside0.mk A120
      clear A120
      obtain ⟨ji13, hji13⟩ : ∃ j_ : Int, (mn t112 a1) = j_ := ⟨_, rfl⟩
      replace H : (some ((((ji8) / 9223372036854775808) == 1), ji13, none)) = some (r1, r2, r3) := by first | (rw [hji13] at H; exact H) | (simp only [hji13] at H ⊢; exact H)
      (try rw [hji13] at A12)
      have hji13_ : (if a1 < t112 then a1 else t112) = ji13 := hji13
      simp only [Option.some.injEq, Prod.mk.injEq] at H
      obtain ⟨rfl, rfl, rfl⟩ := H
      go_wp2_with (first | ((with_reducible refine gate_callee (f := 131) rfl ?_); refine goesL_ (some 27) rfl rfl Try.func131 (by kernel_rfl) rfl #[.int .u64 ji8] rfl (by (try simp only [List.map_toArray, List.map_cons, List.map_nil]); first | done | (simp only [hji8]; rfl) | rfl | (simp only [List.length_drop, List.length_take]; rfl)) ?_; (with_reducible refine (bits_LeadingZeros64.calls ji8 t112 _ A12.out).mono ?_); rintro e w' ⟨rfl, ⟨nd, rfl⟩⟩; refine ⟨_, rfl, ?_⟩))
      go_ret3
      exact ⟨by first | rfl | (simp [errW_none, errW_some] <;> rfl) | (simp only [← hji6, ← hji8, ← hji13]; first | rfl | (simp [errW_none, errW_some] <;> rfl)) | (simp [*, errW_none, errW_some] <;> rfl), hbT⟩
    ·rw [if_neg c7] at H
     exact absurd H (by simp)

end Go.Proofs.Ytnlbfomlfhigcaa.Q
namespace Go.Proofs.Ytnlbfomlfhigcaa.Q
open Go.RowKit Go.Proofs.YtnlbfomlfhigcaaW.PrintWords Go.Proofs.YtnlbfomlfhigcaaW.PrintLast Go.Proofs.YtnlbfomlfhigcaaW.PrintMore
attribute [local go_sem] max2_int min2_int max_two min_two max_three min_three max_four min_four
set_option linter.unusedVariables false
set_option linter.unusedSimpArgs false

def lead_field.f (a0 : Int) (a1 : Int) : Option (Bool) := if a0 ≥ 0 then (if a0 ≤ 64 then (if a1 ≥ 0 then (some (decide (a1 ≤ (wrap64 (64 - a0))))) else (some false)) else (some false)) else (some false)
set_option maxHeartbeats 8000000 in
set_option maxRecDepth 100000 in
theorem lead_field.calls (a0 : Int) (a1 : Int) (r : Bool) (w : World) (h : lead_field.f a0 a1 = some r) :
  Calls Try.prog 153 #[.int .i64 a0, .int .i64 a1] w fun e w' => e = .returned (.bool r) ∧ Drawn0 w w' := by
 have H := h
 clear h
 unfold lead_field.f at H
 by_cases c3 : a0 ≥ 0
 ·rw [if_pos c3] at H
  have c3b0 : decide (0 ≤ a0) = true := decide_eq_true c3
  clear c3
  by_cases c4 : a0 ≤ 64
  ·rw [if_pos c4] at H
   have c4b0 : decide (a0 ≤ 64) = true := decide_eq_true c4
   clear c4
   by_cases c5 : a1 ≥ 0
   ·rw [if_pos c5] at H
    have c5b0 : decide (0 ≤ a1) = true := decide_eq_true c5
    clear c5
    obtain rfl := Option.some.inj H
    go_enter Try.func153, Try.ntmps153
    go_wp2
    go_ret
    exact ⟨okT, by repeat (first | exact Drawn0.refl _ | apply Drawn0.step)⟩
   ·rw [if_neg c5] at H
    have c5b0 : decide (0 ≤ a1) = false := decide_eq_false c5
    clear c5
    obtain rfl := Option.some.inj H
    go_enter Try.func153, Try.ntmps153
    go_wp2
    go_ret
    exact ⟨okT, by repeat (first | exact Drawn0.refl _ | apply Drawn0.step)⟩
  ·rw [if_neg c4] at H
   have c4b0 : decide (a0 ≤ 64) = false := decide_eq_false c4
   clear c4
   obtain rfl := Option.some.inj H
   go_enter Try.func153, Try.ntmps153
   go_wp2
   go_ret
   exact ⟨okT, by repeat (first | exact Drawn0.refl _ | apply Drawn0.step)⟩
 ·rw [if_neg c3] at H
  have c3b0 : decide (0 ≤ a0) = false := decide_eq_false c3
  clear c3
  obtain rfl := Option.some.inj H
  go_enter Try.func153, Try.ntmps153
  go_wp2
  go_ret
  exact ⟨okT, by repeat (first | exact Drawn0.refl _ | apply Drawn0.step)⟩

end Go.Proofs.Ytnlbfomlfhigcaa.Q
namespace Go.Proofs.Ytnlbfomlfhigcaa.Q
open Go.RowKit Go.Proofs.YtnlbfomlfhigcaaW.PrintWords Go.Proofs.YtnlbfomlfhigcaaW.PrintLast Go.Proofs.YtnlbfomlfhigcaaW.PrintMore
attribute [local go_sem] max2_int min2_int max_two min_two max_three min_three max_four min_four
set_option linter.unusedVariables false
set_option linter.unusedSimpArgs false

def lead_Field.f (a0 : Int) (a1 : Int) (a2 : Int) : Option (Int × Option Int) := (lead_field.f a1 a2).bind fun t113 => (if t113 = true then (if 0 ≤ a1 then ((lead_ones.f a2).bind fun t114 => (some (Go.bits .and .u64 (shr .u64 a0 a1) t114, none))) else (none)) else (some (0, some 1)))
set_option maxHeartbeats 8000000 in
set_option maxRecDepth 100000 in
theorem lead_Field.calls (a0 : Int) (a1 : Int) (a2 : Int) (r1 : Int) (r2 : Option Int) (w : World) (h : lead_Field.f a0 a1 a2 = some (r1, r2)) :
  Calls Try.prog 124 #[.int .u64 a0, .int .i64 a1, .int .i64 a2] w fun e w' => e = .returned (.tuple #[.int .u64 r1, errW r2]) ∧ Drawn0 w w' := by
 have hu43 := Try.underlying43
 have hu82 := Try.underlying82
 have H := h
 clear h
 unfold lead_Field.f at H
 replace H := Option.bind_eq_some_iff.mp H
 obtain ⟨t113, A40, H⟩ := H
 try dsimp only at H
 have A4 := Aside0.mk A40
 clear A40
 by_cases c5 : t113 = true
 ·subst c5
  rw [if_pos rfl] at H
  by_cases c6 : 0 ≤ a1
  ·rw [if_pos c6] at H
   have c6b0 := eq_true c6
   have c6b1 : decide (0 ≤ a1) = true := decide_eq_true c6
   clear c6
   obtain ⟨ji7, hji7⟩ : ∃ j_ : Int, (shr .u64 a0 a1) = j_ := ⟨_, rfl⟩
   replace H : ((lead_ones.f a2).bind fun t114 => (some (Go.bits .and .u64 (ji7) t114, none))) = some (r1, r2) := by first | (rw [hji7] at H; exact H) | (simp only [hji7] at H ⊢; exact H)
   (try rw [hji7] at A4)
   have hji7_ : (a0 / 2 ^ min a1.toNat 64) = ji7 := hji7
   have hji7z : a1 ≤ 64 → (a0 / 2 ^ a1.toNat) = ji7 := shr_small hji7
   replace H := Option.bind_eq_some_iff.mp H
   obtain ⟨t114, A80, H⟩ := H
   try dsimp only at H
   have A8 := Aside0.mk A80
   clear A80
   simp only [Option.some.injEq, Prod.mk.injEq] at H
   obtain ⟨rfl, rfl⟩ := H
   go_enter Try.func124, Try.ntmps124
   go_wp2_with (first | (go_at_call 153; (with_reducible refine (lead_field.calls a1 a2 true _ A4.out).mono ?_); rintro e w' ⟨rfl, ⟨nd, rfl⟩⟩; (try first | exact ⟨rfl, _, World.drewN_drewN _ _ _⟩ | exact ⟨rfl, _, Eq.trans (World.drewN_drewN _ _ _) (congrArg (World.drewN _) (Nat.add_assoc _ _ _))⟩)) | (go_at_call 152; (with_reducible refine (lead_ones.calls a2 t114 _ A8.out).mono ?_); rintro e w' ⟨rfl, ⟨nd, rfl⟩⟩; (try first | exact ⟨rfl, _, World.drewN_drewN _ _ _⟩ | exact ⟨rfl, _, Eq.trans (World.drewN_drewN _ _ _) (congrArg (World.drewN _) (Nat.add_assoc _ _ _))⟩)))
   repeat (go_quiet (first | (go_at_call 153; (with_reducible refine (lead_field.calls a1 a2 true _ A4.out).mono ?_); rintro e w' ⟨rfl, ⟨nd, rfl⟩⟩; (try first | exact ⟨rfl, _, World.drewN_drewN _ _ _⟩ | exact ⟨rfl, _, Eq.trans (World.drewN_drewN _ _ _) (congrArg (World.drewN _) (Nat.add_assoc _ _ _))⟩)) | (go_at_call 152; (with_reducible refine (lead_ones.calls a2 t114 _ A8.out).mono ?_); rintro e w' ⟨rfl, ⟨nd, rfl⟩⟩; (try first | exact ⟨rfl, _, World.drewN_drewN _ _ _⟩ | exact ⟨rfl, _, Eq.trans (World.drewN_drewN _ _ _) (congrArg (World.drewN _) (Nat.add_assoc _ _ _))⟩))); try go_wp2_with (first | (go_at_call 153; (with_reducible refine (lead_field.calls a1 a2 true _ A4.out).mono ?_); rintro e w' ⟨rfl, ⟨nd, rfl⟩⟩; (try first | exact ⟨rfl, _, World.drewN_drewN _ _ _⟩ | exact ⟨rfl, _, Eq.trans (World.drewN_drewN _ _ _) (congrArg (World.drewN _) (Nat.add_assoc _ _ _))⟩)) | (go_at_call 152; (with_reducible refine (lead_ones.calls a2 t114 _ A8.out).mono ?_); rintro e w' ⟨rfl, ⟨nd, rfl⟩⟩; (try first | exact ⟨rfl, _, World.drewN_drewN _ _ _⟩ | exact ⟨rfl, _, Eq.trans (World.drewN_drewN _ _ _) (congrArg (World.drewN _) (Nat.add_assoc _ _ _))⟩))))
   go_ret2
   exact ⟨by first | rfl | (simp; done) | (simp only [← hji7] <;> (first | rfl | simp)) | (simp [*]; done), by repeat (first | exact Drawn0.refl _ | apply Drawn0.step)⟩
  ·rw [if_neg c6] at H
   exact absurd H (by simp)
 ·replace c5 := Bool.eq_false_iff.mpr c5
  subst c5
  rw [if_neg (show ¬ (false = true) by decide)] at H
  simp only [Option.some.injEq, Prod.mk.injEq] at H
  obtain ⟨rfl, rfl⟩ := H
  go_enter Try.func124, Try.ntmps124
  go_wp2_with (first | (go_at_call 153; (with_reducible refine (lead_field.calls a1 a2 false _ A4.out).mono ?_); rintro e w' ⟨rfl, ⟨nd, rfl⟩⟩; (try first | exact ⟨rfl, _, World.drewN_drewN _ _ _⟩ | exact ⟨rfl, _, Eq.trans (World.drewN_drewN _ _ _) (congrArg (World.drewN _) (Nat.add_assoc _ _ _))⟩)))
  repeat (go_quiet (first | (go_at_call 153; (with_reducible refine (lead_field.calls a1 a2 false _ A4.out).mono ?_); rintro e w' ⟨rfl, ⟨nd, rfl⟩⟩; (try first | exact ⟨rfl, _, World.drewN_drewN _ _ _⟩ | exact ⟨rfl, _, Eq.trans (World.drewN_drewN _ _ _) (congrArg (World.drewN _) (Nat.add_assoc _ _ _))⟩))); try go_wp2_with (first | (go_at_call 153; (with_reducible refine (lead_field.calls a1 a2 false _ A4.out).mono ?_); rintro e w' ⟨rfl, ⟨nd, rfl⟩⟩; (try first | exact ⟨rfl, _, World.drewN_drewN _ _ _⟩ | exact ⟨rfl, _, Eq.trans (World.drewN_drewN _ _ _) (congrArg (World.drewN _) (Nat.add_assoc _ _ _))⟩))))
  go_ret2
  exact ⟨okT, by repeat (first | exact Drawn0.refl _ | apply Drawn0.step)⟩

end Go.Proofs.Ytnlbfomlfhigcaa.Q
namespace Go.Proofs.Ytnlbfomlfhigcaa.Q
open Go.RowKit Go.Proofs.YtnlbfomlfhigcaaW.PrintWords Go.Proofs.YtnlbfomlfhigcaaW.PrintLast Go.Proofs.YtnlbfomlfhigcaaW.PrintMore
attribute [local go_sem] max2_int min2_int max_two min_two max_three min_three max_four min_four
set_option linter.unusedVariables false
set_option linter.unusedSimpArgs false

mutual
def codec_Split.j0 : Nat → Int → Int → Option Int → Bool → Option (Bool × Bool × Int × Int × Int × Int × Int × Int × Option Int)
 | 0, _, _, _, _ => none
 | k + 1, x0, x1, x7, x25 => if x25 = true then (some (false, false, 0, 0, 0, 0, 0, 0, x7)) else ((shape_Rank.f x0 x1).bind fun bt120 => (if bt120.1 < 0 then (codec_Split.j1 k x0 (IntKind.u64.wrap (-x1)) true false 0 0 0 0 0 0) else (codec_Split.j1 k x0 x1 false false 0 0 0 0 0 0)))
def codec_Split.j1 : Nat → Int → Int → Bool → Bool → Int → Int → Int → Int → Int → Int → Option (Bool × Bool × Int × Int × Int × Int × Int × Int × Option Int)
 | 0, _, _, _, _, _, _, _, _, _, _ => none
 | k + 1, x0, x1, x120000, x120001, x120002, x120003, x120004, x120005, x120006, x120007 => (lead_Run.f k x1 (wrap64 (x0 - 1))).bind fun bt122 => (if bt122.1 = true then (codec_Split.j2 k x1 (wrap64 (x0 - 1)) x120000 bt122.1 bt122.2.1 (wrap64 (bt122.2.1 - 1)) x120004 x120005 x120006 x120007) else (codec_Split.j2 k x1 (wrap64 (x0 - 1)) x120000 bt122.1 bt122.2.1 (wrap64 (-bt122.2.1)) x120004 x120005 x120006 x120007))
def codec_Split.j2 : Nat → Int → Int → Bool → Bool → Int → Int → Int → Int → Int → Int → Option (Bool × Bool × Int × Int × Int × Int × Int × Int × Option Int)
 | 0, _, _, _, _, _, _, _, _, _, _ => none
 | k + 1, x1, x11, x120000, x120001, x120002, x120003, x120004, x120005, x120006, x120007 => (lead_Field.f x1 (wrap64 ((mx (wrap64 ((wrap64 (x11 - x120002)) - 1)) 0) - (mn (mx (wrap64 ((wrap64 (x11 - x120002)) - 1)) 0) 2))) (mn (mx (wrap64 ((wrap64 (x11 - x120002)) - 1)) 0) 2)).bind fun bt125 => (if 0 ≤ (wrap64 (2 - (mn (mx (wrap64 ((wrap64 (x11 - x120002)) - 1)) 0) 2))) then ((lead_Field.f x1 0 (wrap64 ((mx (wrap64 ((wrap64 (x11 - x120002)) - 1)) 0) - (mn (mx (wrap64 ((wrap64 (x11 - x120002)) - 1)) 0) 2)))).bind fun bt127 => (some (x120000, x120001, x120002, x120003, mn (mx (wrap64 ((wrap64 (x11 - x120002)) - 1)) 0) 2, shl .i64 (wrap64 (bt125.1)) (wrap64 (2 - (mn (mx (wrap64 ((wrap64 (x11 - x120002)) - 1)) 0) 2))), wrap64 ((mx (wrap64 ((wrap64 (x11 - x120002)) - 1)) 0) - (mn (mx (wrap64 ((wrap64 (x11 - x120002)) - 1)) 0) 2)), bt127.1, none))) else (none))
end
def codec_Split.f (k : Nat) (a0 : Int) (a1 : Int) : Option (Bool × Bool × Int × Int × Int × Int × Int × Int × Option Int) := (shape_Kind.f a0 a1).bind fun bt116 => (if bt116.2.isNone = true then (codec_Split.j0 k a0 a1 none (bt116.1 != 1)) else (codec_Split.j0 k a0 a1 (some (bt116.2.getD 0)) true))
theorem codec_Split.mono_l : ∀ k, (∀ y0 y1 y2 y3, LeO (codec_Split.j0 k y0 y1 y2 y3) (codec_Split.j0 (k + 1) y0 y1 y2 y3)) ∧ (∀ y0 y1 y2 y3 y4 y5 y6 y7 y8 y9, LeO (codec_Split.j1 k y0 y1 y2 y3 y4 y5 y6 y7 y8 y9) (codec_Split.j1 (k + 1) y0 y1 y2 y3 y4 y5 y6 y7 y8 y9)) ∧ (∀ y0 y1 y2 y3 y4 y5 y6 y7 y8 y9, LeO (codec_Split.j2 k y0 y1 y2 y3 y4 y5 y6 y7 y8 y9) (codec_Split.j2 (k + 1) y0 y1 y2 y3 y4 y5 y6 y7 y8 y9))
 | 0 => ⟨fun _ _ _ _ r h => by simp [codec_Split.j0] at h, fun _ _ _ _ _ _ _ _ _ _ r h => by simp [codec_Split.j1] at h, fun _ _ _ _ _ _ _ _ _ _ r h => by simp [codec_Split.j2] at h⟩
 | k + 1 => by
  obtain ⟨ih0, ih1, ih2⟩ := codec_Split.mono_l k
  refine ⟨?_, ?_, ?_⟩ <;> intros
  all_goals first | unfold codec_Split.j0 | unfold codec_Split.j1 | unfold codec_Split.j2
  all_goals repeat' first
   | (with_reducible exact ih0 _ _ _ _)
   | (with_reducible exact ih1 _ _ _ _ _ _ _ _ _ _)
   | (with_reducible exact ih2 _ _ _ _ _ _ _ _ _ _)
   | (with_reducible exact lead_Run.mono _ _ _)
   | (with_reducible exact LeO.refl _)
   | (with_reducible exact LeO.none _)
   | (with_reducible refine LeO.ite ?_ ?_)
   | (with_reducible refine LeO.bind ?_ (fun _ => ?_))
theorem codec_Split.mono : ∀ a0 a1 k, LeO (codec_Split.f k a0 a1) (codec_Split.f (k + 1) a0 a1) := by
 intro a0 a1 k
 obtain ⟨ih0, ih1, ih2⟩ := codec_Split.mono_l k
 unfold codec_Split.f
 repeat' first
   | (with_reducible exact ih0 _ _ _ _)
   | (with_reducible exact ih1 _ _ _ _ _ _ _ _ _ _)
   | (with_reducible exact ih2 _ _ _ _ _ _ _ _ _ _)
   | (with_reducible exact lead_Run.mono _ _ _)
   | (with_reducible exact LeO.refl _)
   | (with_reducible exact LeO.none _)
   | (with_reducible refine LeO.ite ?_ ?_)
   | (with_reducible refine LeO.bind ?_ (fun _ => ?_))
set_option maxHeartbeats 8000000 in
set_option maxRecDepth 100000 in
theorem codec_Split.calls (k : Nat) (a0 : Int) (a1 : Int) (r1 : Bool) (r2 : Bool) (r3 : Int) (r4 : Int) (r5 : Int) (r6 : Int) (r7 : Int) (r8 : Int) (r9 : Option Int) (w : World) (h : codec_Split.f k a0 a1 = some (r1, r2, r3, r4, r5, r6, r7, r8, r9)) :
  Calls Try.prog 97 #[.int .i64 a0, .int .u64 a1] w fun e w' => e = .returned (.tuple #[.agg #[.bool r1, .bool r2, .int .i64 r3, .int .i64 r4, .int .i64 r5, .int .i64 r6, .int .i64 r7, .int .u64 r8], errW r9]) ∧ Below w.heap.size w w' := by
 have hu131 := Try.underlying131
 have hu43 := Try.underlying43
 have hu82 := Try.underlying82
 have HB := Aside0.mk (Below.refl w.heap.size w)
 have H := h
 clear h
 unfold codec_Split.f at H
 replace H := Option.bind_eq_some_iff.mp H
 obtain ⟨⟨t116, t117⟩, A30, H⟩ := H
 try dsimp only at H
 have A3 := Aside0.mk A30
 clear A30
 have HC4 := Aside0.mk H
 clear H
 go_enter Try.func97, Try.ntmps97
 go_upto_region 2 with (first | (refine boxA 4 (#[.bool false, .bool false, .int .i64 0, .int .i64 0, .int .i64 0, .int .i64 0, .int .i64 0, .int .u64 0]) 131 ?_; intro gb115 hg w5 BK115 hb; have GW115 := geT hg; have GE115 := GW115; replace HB := hbS hb; clear hb hg) | ((with_reducible refine gate_callee (f := 70) rfl ?_); refine goesL_ (some 17) rfl rfl Try.func70 (by kernel_rfl) rfl #[.int .i64 a0, .int .u64 a1] rfl (by (try simp only [List.map_toArray, List.map_cons, List.map_nil]); first | done | rfl | (simp only [List.length_drop, List.length_take]; rfl)) ?_; (with_reducible refine (shape_Kind.calls a0 a1 t116 t117 _ A3.out).mono ?_); rintro e w' ⟨rfl, ⟨nd, rfl⟩⟩; refine ⟨_, rfl, ?_⟩; (try simp only [errW_none, errW_some])))
 (try simp only [Act.put, List.setIfInBounds_toArray, List.set_cons_zero, List.set_cons_succ])
 go_cut [25] (fun v25 wc => ∃ (kq : Nat) (x25_3 : Bool), v25 = .bool x25_3 ∧ Aside0 (codec_Split.j0 kq a0 a1 t117 x25_3 = some (r1, r2, r3, r4, r5, r6, r7, r8, r9)) ∧ Aside0 (kq ≤ k) ∧ Aside0 (wc.heap[gb115]? = some (.cells #[.bool false, .bool false, .int .i64 0, .int .i64 0, .int .i64 0, .int .i64 0, .int .i64 0, .int .u64 0] 131 (0, 0))) ∧ Aside0 (Below w.heap.size w wc))
 case first =>
  have H := HC4.out
  clear HC4
  rcases t117 with _ | q118
  ·rw [if_pos (show (none : Option Int).isNone = true by rfl)] at H
   try simp only [errW_none, errW_some]
   have H' := Aside0.mk H
   clear H
   go_wp2
   go_meet
   case rel => exact ⟨_, ((t116 != 1)), okT, H', leT, ⟨bkT BK115⟩, ⟨hbT⟩⟩
  ·rw [if_neg (show ¬ (some q118).isNone = true by simp)] at H
   try simp only [errW_none, errW_some]
   have H' := Aside0.mk H
   clear H
   go_wp2
   go_meet
   case rel => exact ⟨_, (true), okT, H', leT, ⟨bkT BK115⟩, ⟨hbT⟩⟩
 case rest =>
  clear HC4
  obtain ⟨kq, x25_3, rfl, HA, HJ3, BK115, HB⟩ := hcut
  cases kq with
  | zero => exact absurd HA.out (by simp [codec_Split.j0])
  | succ kj3 =>
   have H := HA.out
   clear HA
   simp only [codec_Split.j0] at H
   by_cases c6 : x25_3 = true
   ·subst c6
    rw [if_pos rfl] at H
    simp only [Option.some.injEq, Prod.mk.injEq] at H
    obtain ⟨rfl, rfl, rfl, rfl, rfl, rfl, rfl, rfl, rfl⟩ := H
    obtain ⟨z7_0, z7_1, z7_2, z7_3, z7_4, z7_5, z7_6, z7_7, y7_0, y7_1, y7_2, y7_3, y7_4, y7_5, y7_6, y7_7⟩ := cz8 BK115
    go_wp2
    refine bodyPost_ret (results_ct rfl _ _ gb115 131 #[.bool false, .bool false, .int .i64 0, .int .i64 0, .int .i64 0, .int .i64 0, .int .i64 0, .int .u64 0] (0, 0) _ rfl (bkT BK115) Try.underlying131 rfl (by kernel_rfl)) rfl ?_
    exact ⟨reT, hbT⟩
   ·replace c6 := Bool.eq_false_iff.mpr c6
    subst c6
    rw [if_neg (show ¬ (false = true) by decide)] at H
    replace H := Option.bind_eq_some_iff.mp H
    obtain ⟨⟨t120, t121⟩, A80, H⟩ := H
    try dsimp only at H
    have A8 := Aside0.mk A80
    clear A80
    have HC9 := Aside0.mk H
    clear H
    go_upto_if 35 with (first | (refine boxA 8 (#[.bool false, .bool false, .int .i64 0, .int .i64 0, .int .i64 0, .int .i64 0, .int .i64 0, .int .u64 0]) 131 ?_; intro gb119 hg w10 BK119 hb; have GW119 := geT hg; have GE119 := GW119; obtain ⟨NB115_119, NB119_115⟩ := neT BK115 hg; replace BK115 := bkB BK115 hb; replace HB := hbS hb; clear hb hg) | ((with_reducible refine gate_callee (f := 96) rfl ?_); refine goesL_ (some 31) rfl rfl Try.func96 (by kernel_rfl) rfl #[.int .i64 a0, .int .u64 a1] rfl (by (try simp only [List.map_toArray, List.map_cons, List.map_nil]); first | done | rfl | (simp only [List.length_drop, List.length_take]; rfl)) ?_; (with_reducible refine (shape_Rank.calls a0 a1 t120 t121 _ A8.out).mono ?_); rintro e w' ⟨rfl, ⟨nd, rfl⟩⟩; refine ⟨_, rfl, ?_⟩; (try simp only [errW_none, errW_some])))
    (try simp only [Act.put, List.setIfInBounds_toArray, List.set_cons_zero, List.set_cons_succ])
    go_cut [1] (fun v1 wc => ∃ (kq : Nat) (x1_8 : Int) (x120000_8 : Bool), v1 = .int .u64 x1_8 ∧ Aside0 (codec_Split.j1 kq a0 x1_8 x120000_8 false 0 0 0 0 0 0 = some (r1, r2, r3, r4, r5, r6, r7, r8, r9)) ∧ Aside0 (kq ≤ kj3) ∧ Aside0 (wc.heap[gb115]? = some (.cells #[.bool false, .bool false, .int .i64 0, .int .i64 0, .int .i64 0, .int .i64 0, .int .i64 0, .int .u64 0] 131 (0, 0))) ∧ Aside0 (wc.heap[gb119]? = some (.cells #[.bool x120000_8, .bool false, .int .i64 0, .int .i64 0, .int .i64 0, .int .i64 0, .int .i64 0, .int .u64 0] 131 (0, 0))) ∧ Aside0 (Below w.heap.size w wc))
    case first =>
     have H := HC9.out
     clear HC9
     by_cases c11 : t120 < 0
     ·rw [if_pos c11] at H
      have c11b0 : decide (t120 < 0) = true := decide_eq_true c11
      clear c11
      (first | rw [c11b0] | (simp only [i64_w, i32_w]; rw [c11b0]) | rw [c11b1] | skip)
      have H' := Aside0.mk H
      clear H
      have hnb12 := NB119_115.out
      have hnc12 := NB115_119.out
      obtain ⟨z13_0, z13_1, z13_2, z13_3, z13_4, z13_5, z13_6, z13_7, y13_0, y13_1, y13_2, y13_3, y13_4, y13_5, y13_6, y13_7⟩ := cz8 BK119
      go_wp2
      go_meet
      case rel => exact ⟨_, (IntKind.u64.wrap (-a1)), (true), okT, H', ⟨by have := HJ3.out; first | omega | exact Nat.le_refl _⟩, ⟨bkT BK115⟩, ⟨bkT BK119⟩, ⟨hbT⟩⟩
     ·rw [if_neg c11] at H
      have c11b0 : decide (t120 < 0) = false := decide_eq_false c11
      clear c11
      (first | rw [c11b0] | (simp only [i64_w, i32_w]; rw [c11b0]) | rw [c11b1] | skip)
      have H' := Aside0.mk H
      clear H
      go_wp2
      go_meet
      case rel => exact ⟨_, (a1), (false), okT, H', ⟨by have := HJ3.out; first | omega | exact Nat.le_refl _⟩, ⟨bkT BK115⟩, ⟨bkT BK119⟩, ⟨hbT⟩⟩
    case rest =>
     clear HC9
     try clear c6
     obtain ⟨kq, x1_8, x120000_8, rfl, HA, HJ8, BK115, BK119, HB⟩ := hcut
     cases kq with
     | zero => exact absurd HA.out (by simp [codec_Split.j1])
     | succ kj8 =>
      have H := HA.out
      clear HA
      simp only [codec_Split.j1] at H
      replace H := Option.bind_eq_some_iff.mp H
      obtain ⟨⟨t122, t123, t124⟩, A140, H⟩ := H
      try dsimp only at H
      have A14 := Aside0.mk A140
      clear A140
      have HC15 := Aside0.mk H
      clear H
      go_upto_if 55 with (first | (refine goA (some 44) Try.func123 (lead_Run.calls kj8 x1_8 (wrap64 (a0 - 1)) t122 t123 t124 _ A14.out) ?_; intro w16 hb; replace BK115 := bkB BK115 hb; replace BK119 := bkB BK119 hb; replace HB := hbS hb; clear hb; (try simp only [errW_none, errW_some]); have hnb17 := NB119_115.out; have hnc17 := NB115_119.out; obtain ⟨z18_0, z18_1, z18_2, z18_3, z18_4, z18_5, z18_6, z18_7, y18_0, y18_1, y18_2, y18_3, y18_4, y18_5, y18_6, y18_7⟩ := cz8 BK119))
      (try simp only [Act.put, List.setIfInBounds_toArray, List.set_cons_zero, List.set_cons_succ])
      go_cut [] (fun wc => ∃ (kq : Nat) (x120003_14 : Int), Aside0 (codec_Split.j2 kq x1_8 (wrap64 (a0 - 1)) x120000_8 t122 t123 x120003_14 0 0 0 0 = some (r1, r2, r3, r4, r5, r6, r7, r8, r9)) ∧ Aside0 (kq ≤ kj8) ∧ Aside0 (wc.heap[gb115]? = some (.cells #[.bool false, .bool false, .int .i64 0, .int .i64 0, .int .i64 0, .int .i64 0, .int .i64 0, .int .u64 0] 131 (0, 0))) ∧ Aside0 (wc.heap[gb119]? = some (.cells #[.bool x120000_8, .bool t122, .int .i64 t123, .int .i64 x120003_14, .int .i64 0, .int .i64 0, .int .i64 0, .int .u64 0] 131 (0, 0))) ∧ Aside0 (Below w.heap.size w wc))
      case first =>
       have H := HC15.out
       clear HC15
       by_cases c19 : t122 = true
       ·subst c19
        rw [if_pos rfl] at H
        have H' := Aside0.mk H
        clear H
        have hnb20 := NB119_115.out
        have hnc20 := NB115_119.out
        obtain ⟨z21_0, z21_1, z21_2, z21_3, z21_4, z21_5, z21_6, z21_7, y21_0, y21_1, y21_2, y21_3, y21_4, y21_5, y21_6, y21_7⟩ := cz8 BK119
        go_wp2
        go_meet
        case rel => exact ⟨_, (wrap64 (t123 - 1)), H', ⟨by have := HJ3.out; have := HJ8.out; first | omega | exact Nat.le_refl _⟩, ⟨bkT BK115⟩, ⟨bkT BK119⟩, ⟨hbT⟩⟩
       ·replace c19 := Bool.eq_false_iff.mpr c19
        subst c19
        rw [if_neg (show ¬ (false = true) by decide)] at H
        have H' := Aside0.mk H
        clear H
        go_wp2
        go_meet
        case rel => exact ⟨_, (wrap64 (-t123)), H', ⟨by have := HJ3.out; have := HJ8.out; first | omega | exact Nat.le_refl _⟩, ⟨bkT BK115⟩, ⟨bkT BK119⟩, ⟨hbT⟩⟩
      case rest =>
       clear HC15
       try clear z18_0 z18_1 z18_2 z18_3 z18_4 z18_5 z18_6 z18_7 y18_0 y18_1 y18_2 y18_3 y18_4 y18_5 y18_6 y18_7
       obtain ⟨kq, x120003_14, HA, HJ14, BK115, BK119, HB⟩ := hcut
       cases kq with
       | zero => exact absurd HA.out (by simp [codec_Split.j2])
       | succ kj14 =>
        have H := HA.out
        clear HA
        simp only [codec_Split.j2] at H
        obtain ⟨ji22, hji22⟩ : ∃ j_ : Int, (mx (wrap64 ((wrap64 ((wrap64 (a0 - 1)) - t123)) - 1)) 0) = j_ := ⟨_, rfl⟩
        replace H : ((lead_Field.f x1_8 (wrap64 ((ji22) - (mn (ji22) 2))) (mn (ji22) 2)).bind fun bt125 => (if 0 ≤ (wrap64 (2 - (mn (ji22) 2))) then ((lead_Field.f x1_8 0 (wrap64 ((ji22) - (mn (ji22) 2)))).bind fun bt127 => (some (x120000_8, t122, t123, x120003_14, mn (ji22) 2, shl .i64 (wrap64 (bt125.1)) (wrap64 (2 - (mn (ji22) 2))), wrap64 ((ji22) - (mn (ji22) 2)), bt127.1, none))) else (none))) = some (r1, r2, r3, r4, r5, r6, r7, r8, r9) := by first | (rw [hji22] at H; exact H) | (simp only [hji22] at H ⊢; exact H)
        have hji22_ : (if (wrap64 ((wrap64 ((wrap64 (a0 - 1)) - t123)) - 1)) < 0 then 0 else (wrap64 ((wrap64 ((wrap64 (a0 - 1)) - t123)) - 1))) = ji22 := hji22
        obtain ⟨ji23, hji23⟩ : ∃ j_ : Int, (mn (ji22) 2) = j_ := ⟨_, rfl⟩
        replace H : ((lead_Field.f x1_8 (wrap64 ((ji22) - (ji23))) (ji23)).bind fun bt125 => (if 0 ≤ (wrap64 (2 - (ji23))) then ((lead_Field.f x1_8 0 (wrap64 ((ji22) - (ji23)))).bind fun bt127 => (some (x120000_8, t122, t123, x120003_14, ji23, shl .i64 (wrap64 (bt125.1)) (wrap64 (2 - (ji23))), wrap64 ((ji22) - (ji23)), bt127.1, none))) else (none))) = some (r1, r2, r3, r4, r5, r6, r7, r8, r9) := by first | (rw [hji23] at H; exact H) | (simp only [hji23] at H ⊢; exact H)
        have hji23_ : (if 2 < (ji22) then 2 else (ji22)) = ji23 := hji23
        replace H := Option.bind_eq_some_iff.mp H
        obtain ⟨⟨t125, t126⟩, A240, H⟩ := H
        try dsimp only at H
        have A24 := Aside0.mk A240
        clear A240
        obtain ⟨ji25, hji25⟩ : ∃ j_ : Int, (wrap64 (2 - (ji23))) = j_ := ⟨_, rfl⟩
        replace H : (if 0 ≤ (ji25) then ((lead_Field.f x1_8 0 (wrap64 ((ji22) - (ji23)))).bind fun bt127 => (some (x120000_8, t122, t123, x120003_14, ji23, shl .i64 (wrap64 (t125)) (ji25), wrap64 ((ji22) - (ji23)), bt127.1, none))) else (none)) = some (r1, r2, r3, r4, r5, r6, r7, r8, r9) := by first | (rw [hji25] at H; exact H) | (simp only [hji25] at H ⊢; exact H)
        (try rw [hji25] at A24)
        have hji25w : (IntKind.i64.wrap (2 - (ji23))) = ji25 := (i64_w _).trans hji25
        by_cases c26 : 0 ≤ (ji25)
        ·rw [if_pos c26] at H
         have c26b0 := eq_true c26
         have c26b1 : decide (0 ≤ (ji25)) = true := decide_eq_true c26
         clear c26
         obtain ⟨ji27, hji27⟩ : ∃ j_ : Int, (shl .i64 (wrap64 (t125)) (ji25)) = j_ := ⟨_, rfl⟩
         replace H : ((lead_Field.f x1_8 0 (wrap64 ((ji22) - (ji23)))).bind fun bt127 => (some (x120000_8, t122, t123, x120003_14, ji23, ji27, wrap64 ((ji22) - (ji23)), bt127.1, none))) = some (r1, r2, r3, r4, r5, r6, r7, r8, r9) := by first | (rw [hji27] at H; exact H) | (simp only [hji27] at H ⊢; exact H)
         (try rw [hji27] at A24)
         have hji27_ : (IntKind.i64.wrap ((wrap64 (t125)) * 2 ^ min (ji25).toNat 64)) = ji27 := hji27
         have hji27z : (ji25) ≤ 64 → (IntKind.i64.wrap ((wrap64 (t125)) * 2 ^ (ji25).toNat)) = ji27 := shl_small hji27
         have hji27y : (wrap64 ((wrap64 (t125)) * 2 ^ min (ji25).toNat 64)) = ji27 := (i64_w _).symm.trans hji27_
         have hji27x : (ji25) ≤ 64 → (wrap64 ((wrap64 (t125)) * 2 ^ (ji25).toNat)) = ji27 := fun h_ => (i64_w _).symm.trans (hji27z h_)
         replace H := Option.bind_eq_some_iff.mp H
         obtain ⟨⟨t127, t128⟩, A280, H⟩ := H
         try dsimp only at H
         have A28 := Aside0.mk A280
         clear A280
         simp only [Option.some.injEq, Prod.mk.injEq] at H
         obtain ⟨rfl, rfl, rfl, rfl, rfl, rfl, rfl, rfl, rfl⟩ := H
         have hnb29 := NB119_115.out
         have hnc29 := NB115_119.out
         obtain ⟨z30_0, z30_1, z30_2, z30_3, z30_4, z30_5, z30_6, z30_7, y30_0, y30_1, y30_2, y30_3, y30_4, y30_5, y30_6, y30_7⟩ := cz8 BK119
         go_wp2_with (first | ((with_reducible refine gate_callee (f := 124) rfl ?_); refine goesL_ (some 78) rfl rfl Try.func124 (by kernel_rfl) rfl #[.int .u64 x1_8, .int .i64 (wrap64 ((ji22) - (ji23))), .int .i64 ji23] rfl (by (try simp only [List.map_toArray, List.map_cons, List.map_nil]); first | done | (simp only [hji22, hji23]; rfl) | rfl | (simp only [List.length_drop, List.length_take]; rfl)) ?_; (with_reducible refine (lead_Field.calls x1_8 (wrap64 ((ji22) - (ji23))) ji23 t125 t126 _ A24.out).mono ?_); rintro e w' ⟨rfl, ⟨nd, rfl⟩⟩; refine ⟨_, rfl, ?_⟩; (try simp only [errW_none, errW_some])) | ((with_reducible refine gate_callee (f := 124) rfl ?_); refine goesL_ (some 93) rfl rfl Try.func124 (by kernel_rfl) rfl #[.int .u64 x1_8, .int .i64 0, .int .i64 (wrap64 ((ji22) - (ji23)))] rfl (by (try simp only [List.map_toArray, List.map_cons, List.map_nil]); first | done | (simp only [hji22, hji23]; rfl) | rfl | (simp only [List.length_drop, List.length_take]; rfl)) ?_; (with_reducible refine (lead_Field.calls x1_8 0 (wrap64 ((ji22) - (ji23))) t127 t128 _ A28.out).mono ?_); rintro e w' ⟨rfl, ⟨nd, rfl⟩⟩; refine ⟨_, rfl, ?_⟩; (try simp only [errW_none, errW_some]); obtain ⟨z31_0, z31_1, z31_2, z31_3, z31_4, z31_5, z31_6, z31_7, y31_0, y31_1, y31_2, y31_3, y31_4, y31_5, y31_6, y31_7⟩ := cz8 BK115))
         refine bodyPost_ret (results_ct rfl _ _ gb115 131 #[.bool x120000_8, .bool t122, .int .i64 t123, .int .i64 x120003_14, .int .i64 ji23, .int .i64 ji27, .int .i64 (wrap64 ((ji22) - (ji23))), .int .u64 t127] (0, 0) _ rfl (bkT BK115) Try.underlying131 rfl (by kernel_rfl)) rfl ?_
         exact ⟨by first | rfl | (simp [errW_none, errW_some] <;> rfl) | (simp only [← hji22, ← hji23, ← hji25, ← hji27]; first | rfl | (simp [errW_none, errW_some] <;> rfl)) | (simp [*, errW_none, errW_some] <;> rfl), hbT⟩
        ·rw [if_neg c26] at H
         exact absurd H (by simp)

end Go.Proofs.Ytnlbfomlfhigcaa.Q
namespace Go.Proofs.Ytnlbfomlfhigcaa.Q
open Go.RowKit Go.Proofs.YtnlbfomlfhigcaaW.PrintWords Go.Proofs.YtnlbfomlfhigcaaW.PrintLast Go.Proofs.YtnlbfomlfhigcaaW.PrintMore
attribute [local go_sem] max2_int min2_int max_two min_two max_three min_three max_four min_four
set_option linter.unusedVariables false
set_option linter.unusedSimpArgs false

def codec_Decode.f (k : Nat) (a0 : Int) (a1 : Int) : Option (Int × Bool × Int × Int × Option Int) := (shape_Kind.f a0 a1).bind fun bt130 => (if bt130.2.isNone = true then (if bt130.1 = 1 then ((codec_Split.f k a0 a1).bind fun bt133 => (if 0 ≤ (wrap64 (63 - bt133.2.2.2.2.2.2.1)) then (some (bt130.1, bt133.1, wrap64 ((wrap64 (4 * bt133.2.2.2.1)) + bt133.2.2.2.2.2.1), Go.bits .or .u64 9223372036854775808 (shl .u64 bt133.2.2.2.2.2.2.2.1 (wrap64 (63 - bt133.2.2.2.2.2.2.1))), none)) else (none))) else (some (bt130.1, false, 0, 0, none))) else (some (bt130.1, false, 0, 0, some (bt130.2.getD 0))))
theorem codec_Decode.mono : ∀ a0 a1 k, LeO (codec_Decode.f k a0 a1) (codec_Decode.f (k + 1) a0 a1) := by
 intro a0 a1 k
 unfold codec_Decode.f
 repeat' first
   | (with_reducible exact codec_Split.mono _ _ _)
   | (with_reducible exact LeO.refl _)
   | (with_reducible exact LeO.none _)
   | (with_reducible refine LeO.ite ?_ ?_)
   | (with_reducible refine LeO.bind ?_ (fun _ => ?_))
def codec_Decode.T5 : Bool × List (List Nat × List Nat) := (true, [([], []), ([], []), ([1], [1]), ([], []), ([3], [3]), ([4], [4]), ([], []), ([6], [6]), ([5, 7], [5, 7]), ([], []), ([9], [9]), ([], []), ([11], [11]), ([12], [12]), ([10, 13], [10, 13]), ([14], [14]), ([0, 2, 8, 15], [0, 2, 8, 15]), ([16, 0, 1, 2, 3, 4, 5, 6, 7, 8, 9, 10, 11, 12, 13, 14, 15, 16], [16]), ([17, 0, 1, 2, 3, 4, 5, 6, 7, 8, 9, 10, 11, 12, 13, 14, 15, 16, 17], [])])
def codec_Decode.B5 : List Nat := [0, 0, 2, 0, 8, 24, 0, 64, 248, 0, 512, 0, 2048, 6144, 15872, 32256, 65535, 131071, 262143]
theorem codec_Decode.tab5 : rtab .any (opsOf Try.f72 5) = codec_Decode.T5 := by kernel_rfl
theorem codec_Decode.bits5 : waitsOk codec_Decode.T5.2 codec_Decode.B5 = true := by kernel_rfl
set_option maxHeartbeats 8000000 in
set_option maxRecDepth 100000 in
theorem codec_Decode.calls (k : Nat) (a0 : Int) (a1 : Int) (r1 : Int) (r2 : Bool) (r3 : Int) (r4 : Int) (r5 : Option Int) (w : World) (h : codec_Decode.f k a0 a1 = some (r1, r2, r3, r4, r5)) :
  Calls Try.prog 72 #[.int .i64 a0, .int .u64 a1] w fun e w' => e = .returned (.tuple #[.agg #[.int .i64 r1, .bool r2, .int .i64 r3, .int .u64 r4], errW r5]) ∧ Below w.heap.size w w' := by
 have hu103 := Try.underlying103
 have hu131 := Try.underlying131
 have hu43 := Try.underlying43
 have hu82 := Try.underlying82
 have HB := Aside0.mk (Below.refl w.heap.size w)
 have H := h
 clear h
 unfold codec_Decode.f at H
 replace H := Option.bind_eq_some_iff.mp H
 obtain ⟨⟨t130, t131⟩, A30, H⟩ := H
 try dsimp only at H
 have A3 := Aside0.mk A30
 clear A30
 rcases t131 with _ | q132
 ·rw [if_pos (show (none : Option Int).isNone = true by rfl)] at H
  try simp only [errW_none, errW_some]
  by_cases c4 : t130 = 1
  ·rw [if_pos c4] at H
   obtain ⟨c4b0, c4b1⟩ := eqY c4
   clear c4
   replace H := Option.bind_eq_some_iff.mp H
   obtain ⟨⟨t133, t134, t135, t136, t137, t138, t139, t140, t141⟩, A50, H⟩ := H
   try dsimp only at H
   have A5 := Aside0.mk A50
   clear A50
   obtain ⟨ji6, hji6⟩ : ∃ j_ : Int, (wrap64 (63 - t139)) = j_ := ⟨_, rfl⟩
   replace H : (if 0 ≤ (ji6) then (some (t130, t133, wrap64 ((wrap64 (4 * t136)) + t138), Go.bits .or .u64 9223372036854775808 (shl .u64 t140 (ji6)), none)) else (none)) = some (r1, r2, r3, r4, r5) := by first | (rw [hji6] at H; exact H) | (simp only [hji6] at H ⊢; exact H)
   (try rw [hji6] at A3)
   (try rw [hji6] at A5)
   have hji6w : (IntKind.i64.wrap (63 - t139)) = ji6 := (i64_w _).trans hji6
   by_cases c7 : 0 ≤ (ji6)
   ·rw [if_pos c7] at H
    have c7b0 := eq_true c7
    have c7b1 : decide (0 ≤ (ji6)) = true := decide_eq_true c7
    clear c7
    obtain ⟨ji8, hji8⟩ : ∃ j_ : Int, (shl .u64 t140 (ji6)) = j_ := ⟨_, rfl⟩
    replace H : (some (t130, t133, wrap64 ((wrap64 (4 * t136)) + t138), Go.bits .or .u64 9223372036854775808 (ji8), none)) = some (r1, r2, r3, r4, r5) := by first | (rw [hji8] at H; exact H) | (simp only [hji8] at H ⊢; exact H)
    (try rw [hji8] at A3)
    (try rw [hji8] at A5)
    have hji8_ : (IntKind.u64.wrap (t140 * 2 ^ min (ji6).toNat 64)) = ji8 := hji8
    have hji8z : (ji6) ≤ 64 → (IntKind.u64.wrap (t140 * 2 ^ (ji6).toNat)) = ji8 := shl_small hji8
    simp only [Option.some.injEq, Prod.mk.injEq] at H
    obtain ⟨rfl, rfl, rfl, rfl, rfl⟩ := H
    go_enter Try.func72, Try.ntmps72
    try go_wp2_with (first | (refine boxA 4 (#[.int .i64 0, .bool false, .int .i64 0, .int .u64 0]) 103 ?_; intro gb129 hg w9 BK129 hb; have GW129 := geT hg; have GE129 := GW129; replace HB := hbS hb; clear hb hg) | ((with_reducible refine gate_callee (f := 70) rfl ?_); refine goesL_ (some 13) rfl rfl Try.func70 (by kernel_rfl) rfl #[.int .i64 a0, .int .u64 a1] rfl (by (try simp only [List.map_toArray, List.map_cons, List.map_nil]); first | done | rfl | (simp only [List.length_drop, List.length_take]; rfl)) ?_; (with_reducible refine (shape_Kind.calls a0 a1 t130 none _ A3.out).mono ?_); rintro e w' ⟨rfl, ⟨nd, rfl⟩⟩; refine ⟨_, rfl, ?_⟩; (try simp only [errW_none, errW_some]); (try (rw [drewN_self w9]; generalize hq_ : World.drewN w9 _ = w9; have n0_ : Aside0 (w9.heap[gb129]? = some (.cells #[.int .i64 0, .bool false, .int .i64 0, .int .u64 0] 103 (0, 0))) := ⟨by rw [← hq_]; exact (bkT BK129)⟩; have n1_ : Aside0 (Below w.heap.size w w9) := ⟨by rw [← hq_]; exact hbT⟩; clear BK129 HB hq_; have BK129 := n0_; have HB := n1_; clear n0_ n1_))) | (refine goA (some 28) Try.func97 (codec_Split.calls k a0 a1 t133 t134 t135 t136 t137 t138 t139 t140 t141 _ A5.out) ?_; intro w10 hb; replace BK129 := bkB BK129 hb; replace HB := hbS hb; clear hb; (try simp only [errW_none, errW_some])) | (refine boxA 8 (#[.bool false, .bool false, .int .i64 0, .int .i64 0, .int .i64 0, .int .i64 0, .int .i64 0, .int .u64 0]) 131 ?_; intro gb142 hg w11 BK142 hb; have GW142 := geT hg; have GE142 := GW142; obtain ⟨NB129_142, NB142_129⟩ := neT BK129 hg; replace BK129 := bkB BK129 hb; replace HB := hbS hb; clear hb hg; have hnb12 := NB142_129.out; have hnc12 := NB129_142.out; obtain ⟨z13_0, z13_1, z13_2, z13_3, z13_4, z13_5, z13_6, z13_7, y13_0, y13_1, y13_2, y13_3, y13_4, y13_5, y13_6, y13_7⟩ := cz8 BK142))
    have n0_ : Aside0 (((((((((w11.setCell ⟨gb142, 0, none⟩ (.bool t133)).setCell ⟨gb142, 1, none⟩ (.bool t134)).setCell ⟨gb142, 2, none⟩ (.int .i64 t135)).setCell ⟨gb142, 3, none⟩ (.int .i64 t136)).setCell ⟨gb142, 4, none⟩ (.int .i64 t137)).setCell ⟨gb142, 5, none⟩ (.int .i64 t138)).setCell ⟨gb142, 6, none⟩ (.int .i64 t139)).setCell ⟨gb142, 7, none⟩ (.int .u64 t140)).heap[gb129]? = some (.cells #[.int .i64 0, .bool false, .int .i64 0, .int .u64 0] 103 (0, 0))) := ⟨bkT BK129⟩
    have n1_ : Aside0 (((((((((w11.setCell ⟨gb142, 0, none⟩ (.bool t133)).setCell ⟨gb142, 1, none⟩ (.bool t134)).setCell ⟨gb142, 2, none⟩ (.int .i64 t135)).setCell ⟨gb142, 3, none⟩ (.int .i64 t136)).setCell ⟨gb142, 4, none⟩ (.int .i64 t137)).setCell ⟨gb142, 5, none⟩ (.int .i64 t138)).setCell ⟨gb142, 6, none⟩ (.int .i64 t139)).setCell ⟨gb142, 7, none⟩ (.int .u64 t140)).heap[gb142]? = some (.cells #[.bool t133, .bool t134, .int .i64 t135, .int .i64 t136, .int .i64 t137, .int .i64 t138, .int .i64 t139, .int .u64 t140] 131 (0, 0))) := ⟨bkT BK142⟩
    have n2_ : Aside0 (Below w.heap.size w ((((((((w11.setCell ⟨gb142, 0, none⟩ (.bool t133)).setCell ⟨gb142, 1, none⟩ (.bool t134)).setCell ⟨gb142, 2, none⟩ (.int .i64 t135)).setCell ⟨gb142, 3, none⟩ (.int .i64 t136)).setCell ⟨gb142, 4, none⟩ (.int .i64 t137)).setCell ⟨gb142, 5, none⟩ (.int .i64 t138)).setCell ⟨gb142, 6, none⟩ (.int .i64 t139)).setCell ⟨gb142, 7, none⟩ (.int .u64 t140))) := ⟨hbT⟩
    (try clear BK129)
    (try clear BK142)
    (try clear HB)
    generalize ((((((((w11.setCell ⟨gb142, 0, none⟩ (.bool t133)).setCell ⟨gb142, 1, none⟩ (.bool t134)).setCell ⟨gb142, 2, none⟩ (.int .i64 t135)).setCell ⟨gb142, 3, none⟩ (.int .i64 t136)).setCell ⟨gb142, 4, none⟩ (.int .i64 t137)).setCell ⟨gb142, 5, none⟩ (.int .i64 t138)).setCell ⟨gb142, 6, none⟩ (.int .i64 t139)).setCell ⟨gb142, 7, none⟩ (.int .u64 t140)) = w14 at n0_ n1_ n2_ ⊢
    have BK129 := n0_
    have BK142 := n1_
    have HB := n2_
    clear n0_ n1_ n2_
    have n0_ := Aside0.mk (blk_drew BK129.out)
    have n1_ := Aside0.mk (blk_drew BK142.out)
    have n2_ := Aside0.mk (below_drew1 HB.out)
    clear BK129
    clear BK142
    clear HB
    have BK129 := n0_
    have BK142 := n1_
    have HB := n2_
    clear n0_ n1_ n2_
    refine start_ (n := 19) (S := fun w' => w'.cell? ⟨gb142, 0, none⟩ = some (.bool t133) ∧ w'.cell? ⟨gb142, 1, none⟩ = some (.bool t134) ∧ w'.cell? ⟨gb142, 2, none⟩ = some (.int .i64 t135) ∧ w'.cell? ⟨gb142, 3, none⟩ = some (.int .i64 t136) ∧ w'.cell? ⟨gb142, 4, none⟩ = some (.int .i64 t137) ∧ w'.cell? ⟨gb142, 5, none⟩ = some (.int .i64 t138) ∧ w'.cell? ⟨gb142, 6, none⟩ = some (.int .i64 t139) ∧ w'.cell? ⟨gb142, 7, none⟩ = some (.int .u64 t140)) (ds := []) #[false, false, false, false, false, false, false, false, false, false, false, false, false, false, false, false, false, false, false] (by kernel_rfl) rfl rfl ⟨(blk_cell BK142.out 0).trans rfl, (blk_cell BK142.out 1).trans rfl, (blk_cell BK142.out 2).trans rfl, (blk_cell BK142.out 3).trans rfl, (blk_cell BK142.out 4).trans rfl, (blk_cell BK142.out 5).trans rfl, (blk_cell BK142.out 6).trans rfl, (blk_cell BK142.out 7).trans rfl⟩ (fun hHeld => ?_); refine with_tabW codec_Decode.tab5 codec_Decode.bits5 (fun HT_ HW_ => ?_)
    generalize w14.drew = w15 at BK129 BK142 HB hHeld ⊢
    refine pure_ (i := 0) (N := some 31) (v := ?_) (a' := ?_) #[true, false, false, false, false, false, false, false, false, false, false, false, false, false, false, false, false, false, false] rfl rfl (any_of HT_.out (by kernel_rfl)) (fun _ _ _ h => h) (Or.inl ⟨by rfl, ?_⟩) ?_ ?_
    rotate_left
    ·intro w'
     go_simp
     with_reducible rfl
    rotate_left
    ·simp only [Act.put, List.setIfInBounds_toArray, List.set_cons_zero, List.set_cons_succ, i64_w, i32_w]
     rfl
    refine pure_ (i := 1) (N := some 32) (v := ?_) (a' := ?_) #[true, true, false, false, false, false, false, false, false, false, false, false, false, false, false, false, false, false, false] rfl rfl (any_of HT_.out (by kernel_rfl)) (fun _ _ _ h => h) (Or.inl ⟨by rfl, ?_⟩) ?_ ?_
    rotate_left
    ·intro w'
     go_simp
     with_reducible rfl
    rotate_left
    ·simp only [Act.put, List.setIfInBounds_toArray, List.set_cons_zero, List.set_cons_succ, i64_w, i32_w]
     rfl
    refine pure_ (i := 3) (N := some 34) (v := ?_) (a' := ?_) #[true, true, false, true, false, false, false, false, false, false, false, false, false, false, false, false, false, false, false] rfl rfl (any_of HT_.out (by kernel_rfl)) (fun _ _ _ h => h) (Or.inl ⟨by rfl, ?_⟩) ?_ ?_
    rotate_left
    ·intro w'
     go_simp
     with_reducible rfl
    rotate_left
    ·simp only [Act.put, List.setIfInBounds_toArray, List.set_cons_zero, List.set_cons_succ, i64_w, i32_w]
     rfl
    refine pure_ (i := 6) (N := some 37) (v := ?_) (a' := ?_) #[true, true, false, true, false, false, true, false, false, false, false, false, false, false, false, false, false, false, false] rfl rfl (any_of HT_.out (by kernel_rfl)) (fun _ _ _ h => h) (Or.inl ⟨by rfl, ?_⟩) ?_ ?_
    rotate_left
    ·intro w'
     go_simp
     with_reducible rfl
    rotate_left
    ·simp only [Act.put, List.setIfInBounds_toArray, List.set_cons_zero, List.set_cons_succ, i64_w, i32_w]
     rfl
    refine pure_ (i := 9) (N := some 40) (v := ?_) (a' := ?_) #[true, true, false, true, false, false, true, false, false, true, false, false, false, false, false, false, false, false, false] rfl rfl (any_of HT_.out (by kernel_rfl)) (fun _ _ _ h => h) (Or.inl ⟨by rfl, ?_⟩) ?_ ?_
    rotate_left
    ·intro w'
     go_simp
     with_reducible rfl
    rotate_left
    ·simp only [Act.put, List.setIfInBounds_toArray, List.set_cons_zero, List.set_cons_succ, i64_w, i32_w]
     rfl
    refine pure_ (i := 11) (N := some 42) (v := ?_) (a' := ?_) #[true, true, false, true, false, false, true, false, false, true, false, true, false, false, false, false, false, false, false] rfl rfl (any_of HT_.out (by kernel_rfl)) (fun _ _ _ h => h) (Or.inl ⟨by rfl, ?_⟩) ?_ ?_
    rotate_left
    ·intro w'
     go_simp
     with_reducible rfl
    rotate_left
    ·simp only [Act.put, List.setIfInBounds_toArray, List.set_cons_zero, List.set_cons_succ, i64_w, i32_w]
     rfl
    refine take_ (i := 2) (N := some 33) (v := ?_) (a' := ?_) #[true, true, true, true, false, false, true, false, false, true, false, true, false, false, false, false, false, false, false] rfl rfl (take_ofW HT_.out HW_.out (by kernel_rfl)) (fun _ _ _ h => h) (Or.inl ⟨by rfl, ?_⟩) hHeld ?_ ?_
    rotate_left
    ·rintro w' ⟨s0, s1, s2, s3, s4, s5, s6, s7⟩
     go_simp
     with_reducible rfl
    rotate_left
    ·simp only [Act.put, List.setIfInBounds_toArray, List.set_cons_zero, List.set_cons_succ, i64_w, i32_w]
     rfl
    refine take_ (i := 4) (N := some 35) (v := ?_) (a' := ?_) #[true, true, true, true, true, false, true, false, false, true, false, true, false, false, false, false, false, false, false] rfl rfl (take_ofW HT_.out HW_.out (by kernel_rfl)) (fun _ _ _ h => h) (Or.inl ⟨by rfl, ?_⟩) hHeld ?_ ?_
    rotate_left
    ·rintro w' ⟨s0, s1, s2, s3, s4, s5, s6, s7⟩
     go_simp
     with_reducible rfl
    rotate_left
    ·simp only [Act.put, List.setIfInBounds_toArray, List.set_cons_zero, List.set_cons_succ, i64_w, i32_w]
     rfl
    refine pure_ (i := 5) (N := some 36) (v := ?_) (a' := ?_) #[true, true, true, true, true, true, true, false, false, true, false, true, false, false, false, false, false, false, false] rfl rfl (any_of HT_.out (by kernel_rfl)) (fun _ _ _ h => h) (Or.inl ⟨by rfl, ?_⟩) ?_ ?_
    rotate_left
    ·intro w'
     go_simp
     with_reducible rfl
    rotate_left
    ·simp only [Act.put, List.setIfInBounds_toArray, List.set_cons_zero, List.set_cons_succ, i64_w, i32_w]
     rfl
    refine take_ (i := 7) (N := some 38) (v := ?_) (a' := ?_) #[true, true, true, true, true, true, true, true, false, true, false, true, false, false, false, false, false, false, false] rfl rfl (take_ofW HT_.out HW_.out (by kernel_rfl)) (fun _ _ _ h => h) (Or.inl ⟨by rfl, ?_⟩) hHeld ?_ ?_
    rotate_left
    ·rintro w' ⟨s0, s1, s2, s3, s4, s5, s6, s7⟩
     go_simp
     with_reducible rfl
    rotate_left
    ·simp only [Act.put, List.setIfInBounds_toArray, List.set_cons_zero, List.set_cons_succ, i64_w, i32_w]
     rfl
    refine pure_ (i := 8) (N := some 39) (v := ?_) (a' := ?_) #[true, true, true, true, true, true, true, true, true, true, false, true, false, false, false, false, false, false, false] rfl rfl (any_of HT_.out (by kernel_rfl)) (fun _ _ _ h => h) (Or.inl ⟨by rfl, ?_⟩) ?_ ?_
    rotate_left
    ·intro w'
     go_simp
     with_reducible rfl
    rotate_left
    ·simp only [Act.put, List.setIfInBounds_toArray, List.set_cons_zero, List.set_cons_succ, i64_w, i32_w]
     rfl
    refine take_ (i := 10) (N := some 41) (v := ?_) (a' := ?_) #[true, true, true, true, true, true, true, true, true, true, true, true, false, false, false, false, false, false, false] rfl rfl (take_ofW HT_.out HW_.out (by kernel_rfl)) (fun _ _ _ h => h) (Or.inl ⟨by rfl, ?_⟩) hHeld ?_ ?_
    rotate_left
    ·rintro w' ⟨s0, s1, s2, s3, s4, s5, s6, s7⟩
     go_simp
     with_reducible rfl
    rotate_left
    ·simp only [Act.put, List.setIfInBounds_toArray, List.set_cons_zero, List.set_cons_succ, i64_w, i32_w]
     rfl
    refine take_ (i := 12) (N := some 43) (v := ?_) (a' := ?_) #[true, true, true, true, true, true, true, true, true, true, true, true, true, false, false, false, false, false, false] rfl rfl (take_ofW HT_.out HW_.out (by kernel_rfl)) (fun _ _ _ h => h) (Or.inl ⟨by rfl, ?_⟩) hHeld ?_ ?_
    rotate_left
    ·rintro w' ⟨s0, s1, s2, s3, s4, s5, s6, s7⟩
     go_simp
     with_reducible rfl
    rotate_left
    ·simp only [Act.put, List.setIfInBounds_toArray, List.set_cons_zero, List.set_cons_succ, i64_w, i32_w]
     rfl
    refine pure_ (i := 13) (N := some 44) (v := ?_) (a' := ?_) #[true, true, true, true, true, true, true, true, true, true, true, true, true, true, false, false, false, false, false] rfl rfl (any_of HT_.out (by kernel_rfl)) (fun _ _ _ h => h) (Or.inl ⟨by rfl, ?_⟩) ?_ ?_
    rotate_left
    ·intro w'
     go_simp
     with_reducible rfl
    rotate_left
    ·simp only [Act.put, List.setIfInBounds_toArray, List.set_cons_zero, List.set_cons_succ, i64_w, i32_w]
     rfl
    refine pure_ (i := 14) (N := some 45) (v := ?_) (a' := ?_) #[true, true, true, true, true, true, true, true, true, true, true, true, true, true, true, false, false, false, false] rfl rfl (any_of HT_.out (by kernel_rfl)) (fun _ _ _ h => h) (Or.inl ⟨by rfl, ?_⟩) ?_ ?_
    rotate_left
    ·intro w'
     go_simp
     with_reducible rfl
    rotate_left
    ·simp only [Act.put, List.setIfInBounds_toArray, List.set_cons_zero, List.set_cons_succ, i64_w, i32_w]
     rfl
    refine pure_ (i := 15) (N := some 46) (v := ?_) (a' := ?_) #[true, true, true, true, true, true, true, true, true, true, true, true, true, true, true, true, false, false, false] rfl rfl (any_of HT_.out (by kernel_rfl)) (fun _ _ _ h => h) (Or.inl ⟨by rfl, ?_⟩) ?_ ?_
    rotate_left
    ·intro w'
     go_simp
     with_reducible rfl
    rotate_left
    ·simp only [Act.put, List.setIfInBounds_toArray, List.set_cons_zero, List.set_cons_succ, i64_w, i32_w]
     rfl
    refine pure_ (i := 16) (N := some 47) (v := ?_) (a' := ?_) #[true, true, true, true, true, true, true, true, true, true, true, true, true, true, true, true, true, false, false] rfl rfl (any_of HT_.out (by kernel_rfl)) (fun _ _ _ h => h) (Or.inl ⟨by rfl, ?_⟩) ?_ ?_
    rotate_left
    ·intro w'
     go_simp
     with_reducible rfl
    rotate_left
    ·simp only [Act.put, List.setIfInBounds_toArray, List.set_cons_zero, List.set_cons_succ, i64_w, i32_w]
     rfl
    refine one_ (i := 17) (N := none) #[true, true, true, true, true, true, true, true, true, true, true, true, true, true, true, true, true, true, false] rfl rfl (one_of HT_.out (by kernel_rfl)) (by decide) (fun K hK => ?_)
    have hs16 : w15.cell? ⟨gb129, 0, none⟩ = some (.int .i64 0) := (blk_cell BK129.out 0).trans rfl
    have hfs16 := blk_frozen BK129.out 0
    have hns16_1 := NB142_129.out
    have hms16_1 := NB129_142.out
    have hs17 : w15.cell? ⟨gb129, 1, none⟩ = some (.bool false) := (blk_cell BK129.out 1).trans rfl
    have hfs17 := blk_frozen BK129.out 1
    have hns17_1 := NB142_129.out
    have hms17_1 := NB129_142.out
    have hs18 : w15.cell? ⟨gb129, 2, none⟩ = some (.int .i64 0) := (blk_cell BK129.out 2).trans rfl
    have hfs18 := blk_frozen BK129.out 2
    have hns18_1 := NB142_129.out
    have hms18_1 := NB129_142.out
    have hs19 : w15.cell? ⟨gb129, 3, none⟩ = some (.int .u64 0) := (blk_cell BK129.out 3).trans rfl
    have hfs19 := blk_frozen BK129.out 3
    have hns19_1 := NB142_129.out
    have hms19_1 := NB129_142.out
    refine skip_ (w1 := ?_) (by rfl) rfl ?_ ?_
    rotate_left
    ·go_simp
     rfl
    refine hK.out _ _ ⟨((cell_far (p := ⟨gb129, _, none⟩) NB142_129.out _).trans (((cell_far (p := ⟨gb129, _, none⟩) NB142_129.out _).trans (((cell_far (p := ⟨gb129, _, none⟩) NB142_129.out _).trans (((cell_far (p := ⟨gb129, _, none⟩) NB142_129.out _).trans (hHeld.1)))))))), ((cell_far (p := ⟨gb129, _, none⟩) NB142_129.out _).trans (((cell_far (p := ⟨gb129, _, none⟩) NB142_129.out _).trans (((cell_far (p := ⟨gb129, _, none⟩) NB142_129.out _).trans (((cell_far (p := ⟨gb129, _, none⟩) NB142_129.out _).trans (hHeld.2.1)))))))), ((cell_far (p := ⟨gb129, _, none⟩) NB142_129.out _).trans (((cell_far (p := ⟨gb129, _, none⟩) NB142_129.out _).trans (((cell_far (p := ⟨gb129, _, none⟩) NB142_129.out _).trans (((cell_far (p := ⟨gb129, _, none⟩) NB142_129.out _).trans (hHeld.2.2.1)))))))), ((cell_far (p := ⟨gb129, _, none⟩) NB142_129.out _).trans (((cell_far (p := ⟨gb129, _, none⟩) NB142_129.out _).trans (((cell_far (p := ⟨gb129, _, none⟩) NB142_129.out _).trans (((cell_far (p := ⟨gb129, _, none⟩) NB142_129.out _).trans (hHeld.2.2.2.1)))))))), ((cell_far (p := ⟨gb129, _, none⟩) NB142_129.out _).trans (((cell_far (p := ⟨gb129, _, none⟩) NB142_129.out _).trans (((cell_far (p := ⟨gb129, _, none⟩) NB142_129.out _).trans (((cell_far (p := ⟨gb129, _, none⟩) NB142_129.out _).trans (hHeld.2.2.2.2.1)))))))), ((cell_far (p := ⟨gb129, _, none⟩) NB142_129.out _).trans (((cell_far (p := ⟨gb129, _, none⟩) NB142_129.out _).trans (((cell_far (p := ⟨gb129, _, none⟩) NB142_129.out _).trans (((cell_far (p := ⟨gb129, _, none⟩) NB142_129.out _).trans (hHeld.2.2.2.2.2.1)))))))), ((cell_far (p := ⟨gb129, _, none⟩) NB142_129.out _).trans (((cell_far (p := ⟨gb129, _, none⟩) NB142_129.out _).trans (((cell_far (p := ⟨gb129, _, none⟩) NB142_129.out _).trans (((cell_far (p := ⟨gb129, _, none⟩) NB142_129.out _).trans (hHeld.2.2.2.2.2.2.1)))))))), ((cell_far (p := ⟨gb129, _, none⟩) NB142_129.out _).trans (((cell_far (p := ⟨gb129, _, none⟩) NB142_129.out _).trans (((cell_far (p := ⟨gb129, _, none⟩) NB142_129.out _).trans (((cell_far (p := ⟨gb129, _, none⟩) NB142_129.out _).trans (hHeld.2.2.2.2.2.2.2))))))))⟩ (fun hHeld => ?_)
    clear hK K
    refine pure_ (i := 18) (N := some 5) (v := ?_) (a' := ?_) #[true, true, true, true, true, true, true, true, true, true, true, true, true, true, true, true, true, true, true] rfl rfl (any_of HT_.out (by kernel_rfl)) (fun _ _ _ h => h) (Or.inl ⟨by rfl, ?_⟩) ?_ ?_
    rotate_left
    ·intro w'
     go_simp
     with_reducible rfl
    rotate_left
    ·simp only [Act.put, List.setIfInBounds_toArray, List.set_cons_zero, List.set_cons_succ, i64_w, i32_w]
     rfl
    refine done_ (done_of HT_.out (by kernel_rfl)) ?_
    try go_wp2
    refine bodyPost_ret (results_ct rfl _ _ gb129 103 #[.int .i64 t130, .bool t133, .int .i64 (wrap64 ((wrap64 (4 * t136)) + t138)), .int .u64 (Go.bits .or .u64 9223372036854775808 (ji8))] (0, 0) _ rfl (bkT BK129) Try.underlying103 rfl (by kernel_rfl)) rfl ?_
    exact ⟨by first | rfl | (simp [errW_none, errW_some] <;> rfl) | (simp only [← hji6, ← hji8]; first | rfl | (simp [errW_none, errW_some] <;> rfl)) | (simp [*, errW_none, errW_some] <;> rfl), hbT⟩
   ·rw [if_neg c7] at H
    exact absurd H (by simp)
  ·rw [if_neg c4] at H
   obtain ⟨c4b0, c4b1⟩ := eqN c4
   simp only [Option.some.injEq, Prod.mk.injEq] at H
   obtain ⟨rfl, rfl, rfl, rfl, rfl⟩ := H
   go_enter Try.func72, Try.ntmps72
   go_wp2_with (first | (refine boxA 4 (#[.int .i64 0, .bool false, .int .i64 0, .int .u64 0]) 103 ?_; intro gb129 hg w20 BK129 hb; have GW129 := geT hg; have GE129 := GW129; replace HB := hbS hb; clear hb hg) | ((with_reducible refine gate_callee (f := 70) rfl ?_); refine goesL_ (some 13) rfl rfl Try.func70 (by kernel_rfl) rfl #[.int .i64 a0, .int .u64 a1] rfl (by (try simp only [List.map_toArray, List.map_cons, List.map_nil]); first | done | rfl | (simp only [List.length_drop, List.length_take]; rfl)) ?_; (with_reducible refine (shape_Kind.calls a0 a1 t130 none _ A3.out).mono ?_); rintro e w' ⟨rfl, ⟨nd, rfl⟩⟩; refine ⟨_, rfl, ?_⟩; (try simp only [errW_none, errW_some]); (try (rw [drewN_self w20]; generalize hq_ : World.drewN w20 _ = w20; have n0_ : Aside0 (w20.heap[gb129]? = some (.cells #[.int .i64 0, .bool false, .int .i64 0, .int .u64 0] 103 (0, 0))) := ⟨by rw [← hq_]; exact (bkT BK129)⟩; have n1_ : Aside0 (Below w.heap.size w w20) := ⟨by rw [← hq_]; exact hbT⟩; clear BK129 HB hq_; have BK129 := n0_; have HB := n1_; clear n0_ n1_)); obtain ⟨z21_0, z21_1, z21_2, z21_3, y21_0, y21_1, y21_2, y21_3⟩ := cz4 BK129))
   refine bodyPost_ret (results_ct rfl _ _ gb129 103 #[.int .i64 t130, .bool false, .int .i64 0, .int .u64 0] (0, 0) _ rfl (bkT BK129) Try.underlying103 rfl (by kernel_rfl)) rfl ?_
   exact ⟨reT, hbT⟩
 ·rw [if_neg (show ¬ (some q132).isNone = true by simp)] at H
  try simp only [errW_none, errW_some]
  simp only [Option.some.injEq, Prod.mk.injEq] at H
  obtain ⟨rfl, rfl, rfl, rfl, rfl⟩ := H
  go_enter Try.func72, Try.ntmps72
  go_wp2_with (first | (refine boxA 4 (#[.int .i64 0, .bool false, .int .i64 0, .int .u64 0]) 103 ?_; intro gb129 hg w22 BK129 hb; have GW129 := geT hg; have GE129 := GW129; replace HB := hbS hb; clear hb hg) | ((with_reducible refine gate_callee (f := 70) rfl ?_); refine goesL_ (some 13) rfl rfl Try.func70 (by kernel_rfl) rfl #[.int .i64 a0, .int .u64 a1] rfl (by (try simp only [List.map_toArray, List.map_cons, List.map_nil]); first | done | rfl | (simp only [List.length_drop, List.length_take]; rfl)) ?_; (with_reducible refine (shape_Kind.calls a0 a1 t130 (some q132) _ A3.out).mono ?_); rintro e w' ⟨rfl, ⟨nd, rfl⟩⟩; refine ⟨_, rfl, ?_⟩; (try simp only [errW_none, errW_some]); (try (rw [drewN_self w22]; generalize hq_ : World.drewN w22 _ = w22; have n0_ : Aside0 (w22.heap[gb129]? = some (.cells #[.int .i64 0, .bool false, .int .i64 0, .int .u64 0] 103 (0, 0))) := ⟨by rw [← hq_]; exact (bkT BK129)⟩; have n1_ : Aside0 (Below w.heap.size w w22) := ⟨by rw [← hq_]; exact hbT⟩; clear BK129 HB hq_; have BK129 := n0_; have HB := n1_; clear n0_ n1_)); obtain ⟨z23_0, z23_1, z23_2, z23_3, y23_0, y23_1, y23_2, y23_3⟩ := cz4 BK129))
  refine bodyPost_ret (results_ct rfl _ _ gb129 103 #[.int .i64 t130, .bool false, .int .i64 0, .int .u64 0] (0, 0) _ rfl (bkT BK129) Try.underlying103 rfl (by kernel_rfl)) rfl ?_
  exact ⟨reT, hbT⟩

end Go.Proofs.Ytnlbfomlfhigcaa.Q
namespace Go.Proofs.Ytnlbfomlfhigcaa.Q
open Go.RowKit Go.Proofs.YtnlbfomlfhigcaaW.PrintWords Go.Proofs.YtnlbfomlfhigcaaW.PrintLast Go.Proofs.YtnlbfomlfhigcaaW.PrintMore
attribute [local go_sem] max2_int min2_int max_two min_two max_three min_three max_four min_four
set_option linter.unusedVariables false
set_option linter.unusedSimpArgs false

def shape_Of.f (a0 : Int) : Option (Int × Int × Int × Int × Int × Option Int) := (shape_is.f a0).bind fun t144 => (if t144 = true then (if 0 ≤ (wrap64 (a0 - 1)) then (some (a0, IntKind.u64.wrap ((shl .u64 1 (wrap64 (a0 - 1))) - 1), 1, shl .u64 1 (wrap64 (a0 - 1)), wrap64 ((wrap64 (4 * a0)) - 8), none)) else (none)) else (some (0, 0, 0, 0, 0, some 2)))
set_option maxHeartbeats 8000000 in
set_option maxRecDepth 100000 in
theorem shape_Of.calls (a0 : Int) (r1 : Int) (r2 : Int) (r3 : Int) (r4 : Int) (r5 : Int) (r6 : Option Int) (w : World) (h : shape_Of.f a0 = some (r1, r2, r3, r4, r5, r6)) :
  Calls Try.prog 87 #[.int .i64 a0] w fun e w' => e = .returned (.tuple #[.agg #[.int .i64 r1, .int .u64 r2, .int .u64 r3, .int .u64 r4, .int .i64 r5], errW r6]) ∧ Below w.heap.size w w' := by
 have hu119 := Try.underlying119
 have hu43 := Try.underlying43
 have hu82 := Try.underlying82
 have HB := Aside0.mk (Below.refl w.heap.size w)
 have H := h
 clear h
 unfold shape_Of.f at H
 replace H := Option.bind_eq_some_iff.mp H
 obtain ⟨t144, A20, H⟩ := H
 try dsimp only at H
 have A2 := Aside0.mk A20
 clear A20
 by_cases c3 : t144 = true
 ·subst c3
  rw [if_pos rfl] at H
  obtain ⟨ji4, hji4⟩ : ∃ j_ : Int, (wrap64 (a0 - 1)) = j_ := ⟨_, rfl⟩
  replace H : (if 0 ≤ (ji4) then (some (a0, IntKind.u64.wrap ((shl .u64 1 (ji4)) - 1), 1, shl .u64 1 (ji4), wrap64 ((wrap64 (4 * a0)) - 8), none)) else (none)) = some (r1, r2, r3, r4, r5, r6) := by first | (rw [hji4] at H; exact H) | (simp only [hji4] at H ⊢; exact H)
  (try rw [hji4] at A2)
  have hji4w : (IntKind.i64.wrap (a0 - 1)) = ji4 := (i64_w _).trans hji4
  by_cases c5 : 0 ≤ (ji4)
  ·rw [if_pos c5] at H
   have c5b0 := eq_true c5
   have c5b1 : decide (0 ≤ (ji4)) = true := decide_eq_true c5
   clear c5
   obtain ⟨ji6, hji6⟩ : ∃ j_ : Int, (shl .u64 1 (ji4)) = j_ := ⟨_, rfl⟩
   replace H : (some (a0, IntKind.u64.wrap ((ji6) - 1), 1, ji6, wrap64 ((wrap64 (4 * a0)) - 8), none)) = some (r1, r2, r3, r4, r5, r6) := by first | (rw [hji6] at H; exact H) | (simp only [hji6] at H ⊢; exact H)
   (try rw [hji6] at A2)
   have hji6_ : (IntKind.u64.wrap (1 * 2 ^ min (ji4).toNat 64)) = ji6 := hji6
   have hji6z : (ji4) ≤ 64 → (IntKind.u64.wrap (1 * 2 ^ (ji4).toNat)) = ji6 := shl_small hji6
   have hji6u : (IntKind.u64.wrap (2 ^ min (ji4).toNat 64)) = ji6 := by have h_ := hji6_; rw [Int.one_mul] at h_; exact h_
   have hji6v : (ji4) ≤ 64 → (IntKind.u64.wrap (2 ^ (ji4).toNat)) = ji6 := fun hle_ => by have h_ := hji6z hle_; rw [Int.one_mul] at h_; exact h_
   simp only [Option.some.injEq, Prod.mk.injEq] at H
   obtain ⟨rfl, rfl, rfl, rfl, rfl, rfl⟩ := H
   go_enter Try.func87, Try.ntmps87
   go_wp2_with (first | (refine boxA 2 (#[.int .i64 0, .int .u64 0, .int .u64 0, .int .u64 0, .int .i64 0]) 119 ?_; intro gb143 hg w7 BK143 hb; have GW143 := geT hg; have GE143 := GW143; replace HB := hbS hb; clear hb hg) | ((with_reducible refine gate_callee (f := 108) rfl ?_); refine goesL_ (some 6) rfl rfl Try.func108 (by kernel_rfl) rfl #[.int .i64 a0] rfl (by (try simp only [List.map_toArray, List.map_cons, List.map_nil]); first | done | rfl | (simp only [List.length_drop, List.length_take]; rfl)) ?_; (with_reducible refine (shape_is.calls a0 true _ A2.out).mono ?_); rintro e w' ⟨rfl, ⟨nd, rfl⟩⟩; refine ⟨_, rfl, ?_⟩; (try (rw [drewN_self w7]; generalize hq_ : World.drewN w7 _ = w7; have n0_ : Aside0 (w7.heap[gb143]? = some (.cells #[.int .i64 0, .int .u64 0, .int .u64 0, .int .u64 0, .int .i64 0] 119 (0, 0))) := ⟨by rw [← hq_]; exact (bkT BK143)⟩; have n1_ : Aside0 (Below w.heap.size w w7) := ⟨by rw [← hq_]; exact hbT⟩; clear BK143 HB hq_; have BK143 := n0_; have HB := n1_; clear n0_ n1_)); obtain ⟨z8_0, z8_1, z8_2, z8_3, z8_4, y8_0, y8_1, y8_2, y8_3, y8_4⟩ := cz5 BK143))
   refine bodyPost_ret (results_ct rfl _ _ gb143 119 #[.int .i64 a0, .int .u64 (IntKind.u64.wrap ((ji6) - 1)), .int .u64 1, .int .u64 ji6, .int .i64 (wrap64 ((wrap64 (4 * a0)) - 8))] (0, 0) _ rfl (bkT BK143) Try.underlying119 rfl (by kernel_rfl)) rfl ?_
   exact ⟨by first | rfl | (simp [errW_none, errW_some] <;> rfl) | (simp only [← hji4, ← hji6]; first | rfl | (simp [errW_none, errW_some] <;> rfl)) | (simp [*, errW_none, errW_some] <;> rfl), hbT⟩
  ·rw [if_neg c5] at H
   exact absurd H (by simp)
 ·replace c3 := Bool.eq_false_iff.mpr c3
  subst c3
  rw [if_neg (show ¬ (false = true) by decide)] at H
  simp only [Option.some.injEq, Prod.mk.injEq] at H
  obtain ⟨rfl, rfl, rfl, rfl, rfl, rfl⟩ := H
  go_enter Try.func87, Try.ntmps87
  go_wp2_with (first | (refine boxA 2 (#[.int .i64 0, .int .u64 0, .int .u64 0, .int .u64 0, .int .i64 0]) 119 ?_; intro gb143 hg w9 BK143 hb; have GW143 := geT hg; have GE143 := GW143; replace HB := hbS hb; clear hb hg) | ((with_reducible refine gate_callee (f := 108) rfl ?_); refine goesL_ (some 6) rfl rfl Try.func108 (by kernel_rfl) rfl #[.int .i64 a0] rfl (by (try simp only [List.map_toArray, List.map_cons, List.map_nil]); first | done | rfl | (simp only [List.length_drop, List.length_take]; rfl)) ?_; (with_reducible refine (shape_is.calls a0 false _ A2.out).mono ?_); rintro e w' ⟨rfl, ⟨nd, rfl⟩⟩; refine ⟨_, rfl, ?_⟩; (try (rw [drewN_self w9]; generalize hq_ : World.drewN w9 _ = w9; have n0_ : Aside0 (w9.heap[gb143]? = some (.cells #[.int .i64 0, .int .u64 0, .int .u64 0, .int .u64 0, .int .i64 0] 119 (0, 0))) := ⟨by rw [← hq_]; exact (bkT BK143)⟩; have n1_ : Aside0 (Below w.heap.size w w9) := ⟨by rw [← hq_]; exact hbT⟩; clear BK143 HB hq_; have BK143 := n0_; have HB := n1_; clear n0_ n1_)); obtain ⟨z10_0, z10_1, z10_2, z10_3, z10_4, y10_0, y10_1, y10_2, y10_3, y10_4⟩ := cz5 BK143))
  refine bodyPost_ret (results_ct rfl _ _ gb143 119 #[.int .i64 0, .int .u64 0, .int .u64 0, .int .u64 0, .int .i64 0] (0, 0) _ rfl (bkT BK143) Try.underlying119 rfl (by kernel_rfl)) rfl ?_
  exact ⟨reT, hbT⟩

end Go.Proofs.Ytnlbfomlfhigcaa.Q
namespace Go.Proofs.Ytnlbfomlfhigcaa.Q
open Go.RowKit Go.Proofs.YtnlbfomlfhigcaaW.PrintWords Go.Proofs.YtnlbfomlfhigcaaW.PrintLast Go.Proofs.YtnlbfomlfhigcaaW.PrintMore
attribute [local go_sem] max2_int min2_int max_two min_two max_three min_three max_four min_four   -- for this text's walks alone
set_option linter.unusedVariables false
set_option linter.unusedSimpArgs false

theorem eqA86 (d : Nat) (w : World) (x0 y0 : Int) (x1 y1 : Bool) (x2 y2 : Int) (x3 y3 : Int) (x4 y4 : Int) (x5 y5 : Bool) :
    (Op.equalIn (d + 2) 86 (.agg #[.int .i64 x0, .bool x1, .int .i64 x2, .int .u64 x3, .int .u64 x4, .bool x5]) (.agg #[.int .i64 y0, .bool y1, .int .i64 y2, .int .u64 y3, .int .u64 y4, .bool y5])).run Try.prog w = .ok (x0 == y0 && (x1 == y1 && (x2 == y2 && (x3 == y3 && (x4 == y4 && (x5 == y5)))))) w := by
  refine eqA_of Try.underlying86 (by kernel_rfl) ?_
  refine eqf_cons (by rfl) (by go_simp; rfl) (by go_simp; rfl) (by go_simp) ?_
  refine eqf_cons (by rfl) (by go_simp; rfl) (by go_simp; rfl) (by go_simp) ?_
  refine eqf_cons (by rfl) (by go_simp; rfl) (by go_simp; rfl) (by go_simp) ?_
  refine eqf_cons (by rfl) (by go_simp; rfl) (by go_simp; rfl) (by go_simp) ?_
  refine eqf_cons (by rfl) (by go_simp; rfl) (by go_simp; rfl) (by go_simp) ?_
  exact eqf_last (by rfl) (by go_simp; rfl) (by go_simp; rfl) (by go_simp)
end Go.Proofs.Ytnlbfomlfhigcaa.Q
namespace Go.Proofs.Ytnlbfomlfhigcaa.Q
open Go.RowKit Go.Proofs.YtnlbfomlfhigcaaW.PrintWords Go.Proofs.YtnlbfomlfhigcaaW.PrintLast Go.Proofs.YtnlbfomlfhigcaaW.PrintMore
attribute [local go_sem] max2_int min2_int max_two min_two max_three min_three max_four min_four
set_option linter.unusedVariables false
set_option linter.unusedSimpArgs false

def round_held.f (a0 : Int) : Option (Int) := some (mx (-1099511627776) (mn a0 1099511627776))
set_option maxHeartbeats 8000000 in
set_option maxRecDepth 100000 in
theorem round_held.calls (a0 : Int) (r : Int) (w : World) (h : round_held.f a0 = some r) :
  Calls Try.prog 128 #[.int .i64 a0] w fun e w' => e = .returned (.int .i64 r) ∧ Below w.heap.size w w' := by
 have HB := Aside0.mk (Below.refl w.heap.size w)
 have H := h
 clear h
 unfold round_held.f at H
 obtain ⟨ji2, hji2⟩ : ∃ j_ : Int, (mn a0 1099511627776) = j_ := ⟨_, rfl⟩
 replace H : (some (mx (-1099511627776) (ji2))) = some r := by first | (rw [hji2] at H; exact H) | (simp only [hji2] at H ⊢; exact H)
 (try (have hji2h : ji2 ≤ 1099511627776 := by (rw [← hji2]; unfold mn; (repeat' split) <;> omega)))
 (try (have hji2g : ji2 ≤ 64 := by omega))
 have hji2_ : (if 1099511627776 < a0 then 1099511627776 else a0) = ji2 := hji2
 obtain ⟨ji3, hji3⟩ : ∃ j_ : Int, (mx (-1099511627776) (ji2)) = j_ := ⟨_, rfl⟩
 replace H : (some ji3) = some r := by first | (rw [hji3] at H; exact H) | (simp only [hji3] at H ⊢; exact H)
 have hji3_ : (if (-1099511627776) < (ji2) then (ji2) else (-1099511627776)) = ji3 := hji3
 obtain rfl := Option.some.inj H
 go_enter Try.func128, Try.ntmps128
 go_wp2
 go_ret
 exact ⟨by first | rfl | (simp [errW_none, errW_some] <;> rfl) | (simp only [← hji2, ← hji3]; first | rfl | (simp [errW_none, errW_some] <;> rfl)) | (simp [*, errW_none, errW_some] <;> rfl), hbT⟩

end Go.Proofs.Ytnlbfomlfhigcaa.Q
namespace Go.Proofs.Ytnlbfomlfhigcaa.Q
open Go.RowKit Go.Proofs.YtnlbfomlfhigcaaW.PrintWords Go.Proofs.YtnlbfomlfhigcaaW.PrintLast Go.Proofs.YtnlbfomlfhigcaaW.PrintMore
attribute [local go_sem] max2_int min2_int max_two min_two max_three min_three max_four min_four
set_option linter.unusedVariables false
set_option linter.unusedSimpArgs false

attribute [local go_sem high] eqA86
def round_sound.j0 : Nat → Int → Bool → Int → Bool → Int → Int → Int → Bool → Option (Bool)
 | 0, _, _, _, _, _, _, _, _ => none
 | k + 1, x4, x5, x146000, x146001, x146002, x146003, x146004, x146005 => if x5 = true then (some (!x146001 && (x146002 == 0 && (x146003 == 0 && (x146004 == 0 && (!x146005)))))) else (if x4 = 1 then (if (x146003 / 9223372036854775808) = 1 then ((round_held.f x146002).bind fun t146 => (some (x146002 == t146))) else (some false)) else (some false))
def round_sound.f (k : Nat) (a0_0 : Int) (a0_1 : Bool) (a0_2 : Int) (a0_3 : Int) (a0_4 : Int) (a0_5 : Bool) : Option (Bool) := if a0_0 = 0 then (round_sound.j0 k a0_0 (a0_0 == 0) a0_0 a0_1 a0_2 a0_3 a0_4 a0_5) else (round_sound.j0 k a0_0 (a0_0 == 2) a0_0 a0_1 a0_2 a0_3 a0_4 a0_5)
theorem round_sound.mono_l : ∀ k, (∀ y0 y1 y2 y3 y4 y5 y6 y7, LeO (round_sound.j0 k y0 y1 y2 y3 y4 y5 y6 y7) (round_sound.j0 (k + 1) y0 y1 y2 y3 y4 y5 y6 y7))
 | 0 => fun _ _ _ _ _ _ _ _ r h => by simp [round_sound.j0] at h
 | k + 1 => by
  have ih0 := round_sound.mono_l k
  ·intro y0 y1 y2 y3 y4 y5 y6 y7
   unfold round_sound.j0
   repeat' first
   | (with_reducible exact ih0 _ _ _ _ _ _ _ _)
   | (with_reducible exact LeO.refl _)
   | (with_reducible exact LeO.none _)
   | (with_reducible refine LeO.ite ?_ ?_)
   | (with_reducible refine LeO.bind ?_ (fun _ => ?_))
   | exact ih0 _ _ _ _ _ _ _ _
   | exact LeO.none _
   | refine LeO.ite ?_ ?_
   | refine LeO.bind ?_ (fun _ => ?_)
theorem round_sound.mono : ∀ a0 a1 a2 a3 a4 a5 k, LeO (round_sound.f k a0 a1 a2 a3 a4 a5) (round_sound.f (k + 1) a0 a1 a2 a3 a4 a5) := by
 intro a0 a1 a2 a3 a4 a5 k
 have ih0 := round_sound.mono_l k
 unfold round_sound.f
 repeat' first
   | (with_reducible exact ih0 _ _ _ _ _ _ _ _)
   | (with_reducible exact LeO.refl _)
   | (with_reducible exact LeO.none _)
   | (with_reducible refine LeO.ite ?_ ?_)
   | (with_reducible refine LeO.bind ?_ (fun _ => ?_))
   | exact ih0 _ _ _ _ _ _ _ _
   | exact LeO.none _
   | refine LeO.ite ?_ ?_
   | refine LeO.bind ?_ (fun _ => ?_)
def round_sound.T6 : Bool × List (List Nat × List Nat) := (true, [([], []), ([0], [0]), ([1], [1]), ([2], [2]), ([3], [3]), ([4], [4]), ([5, 4], [4, 5]), ([4], [4]), ([7, 4], [4, 7]), ([8, 4, 4], [4, 8]), ([6, 9, 4], [4, 6, 9]), ([4, 10], [4, 10]), ([11, 9, 0, 1, 2, 3, 4, 5, 6, 7, 8, 9, 10, 11], [11])])
def round_sound.B6 : List Nat := [0, 1, 3, 7, 15, 31, 63, 31, 159, 415, 1023, 2047, 4095]
theorem round_sound.tab6 : rtab .any (opsOf Try.f100 6) = round_sound.T6 := by kernel_rfl
theorem round_sound.bits6 : waitsOk round_sound.T6.2 round_sound.B6 = true := by kernel_rfl
set_option maxHeartbeats 8000000 in
set_option maxRecDepth 100000 in
theorem round_sound.calls (k : Nat) (a0_0 : Int) (a0_1 : Bool) (a0_2 : Int) (a0_3 : Int) (a0_4 : Int) (a0_5 : Bool) (r : Bool) (w : World) (h : round_sound.f k a0_0 a0_1 a0_2 a0_3 a0_4 a0_5 = some r) :
  Calls Try.prog 100 #[.agg #[.int .i64 a0_0, .bool a0_1, .int .i64 a0_2, .int .u64 a0_3, .int .u64 a0_4, .bool a0_5]] w fun e w' => e = .returned (.bool r) ∧ Below w.heap.size w w' := by
 have hu86 := Try.underlying86
 have HB := Aside0.mk (Below.refl w.heap.size w)
 have H := h
 clear h
 unfold round_sound.f at H
 have HC2 := Aside0.mk H
 clear H
 go_enter Try.func100, Try.ntmps100
 go_upto_if 5 with (first | (refine boxA 1 (#[.int .i64 a0_0, .bool a0_1, .int .i64 a0_2, .int .u64 a0_3, .int .u64 a0_4, .bool a0_5]) 86 ?_; intro gb145 hg w3 BK145 hb; have GW145 := geT hg; have GE145 := GW145; replace HB := hbS hb; clear hb hg; obtain ⟨z4_0, z4_1, z4_2, z4_3, z4_4, z4_5, y4_0, y4_1, y4_2, y4_3, y4_4, y4_5⟩ := cz6 BK145))
 (try simp only [Act.put, List.setIfInBounds_toArray, List.set_cons_zero, List.set_cons_succ])
 go_cut [5] (fun v5 wc => ∃ (kq : Nat) (x5_1 : Bool), v5 = .bool x5_1 ∧ Aside0 (round_sound.j0 kq a0_0 x5_1 a0_0 a0_1 a0_2 a0_3 a0_4 a0_5 = some r) ∧ Aside0 (kq ≤ k) ∧ Aside0 (wc.heap[gb145]? = some (.cells #[.int .i64 a0_0, .bool a0_1, .int .i64 a0_2, .int .u64 a0_3, .int .u64 a0_4, .bool a0_5] 86 (0, 0))) ∧ Aside0 (Below w.heap.size w wc))
 case first =>
  have H := HC2.out
  clear HC2
  by_cases c5 : a0_0 = 0
  ·rw [if_pos c5] at H
   obtain ⟨c5b0, c5b1⟩ := eqY c5
   clear c5
   (first | rw [c5b0] | (simp only [i64_w, i32_w]; rw [c5b0]) | rw [c5b1] | skip)
   have H' := Aside0.mk H
   clear H
   go_wp2
   go_meet
   case rel => exact ⟨_, ((a0_0 == 0)), okT, H', leT, ⟨bkT BK145⟩, ⟨hbT⟩⟩
  ·rw [if_neg c5] at H
   obtain ⟨c5b0, c5b1⟩ := eqN c5
   (first | rw [c5b0] | (simp only [i64_w, i32_w]; rw [c5b0]) | rw [c5b1] | skip)
   have H' := Aside0.mk H
   clear H
   go_wp2
   go_meet
   case rel => exact ⟨_, ((a0_0 == 2)), okT, H', leT, ⟨bkT BK145⟩, ⟨hbT⟩⟩
 case rest =>
  clear HC2
  try clear z4_0 z4_1 z4_2 z4_3 z4_4 z4_5 y4_0 y4_1 y4_2 y4_3 y4_4 y4_5
  obtain ⟨kq, x5_1, rfl, HA, HJ1, BK145, HB⟩ := hcut
  cases kq with
  | zero => exact absurd HA.out (by simp [round_sound.j0])
  | succ kj1 =>
   have H := HA.out
   clear HA
   simp only [round_sound.j0] at H
   by_cases c6 : x5_1 = true
   ·subst c6
    rw [if_pos rfl] at H
    obtain rfl := Option.some.inj H
    obtain ⟨z7_0, z7_1, z7_2, z7_3, z7_4, z7_5, y7_0, y7_1, y7_2, y7_3, y7_4, y7_5⟩ := cz6 BK145
    go_wp2
    go_ret
    exact ⟨reT, hbT⟩
   ·replace c6 := Bool.eq_false_iff.mpr c6
    subst c6
    rw [if_neg (show ¬ (false = true) by decide)] at H
    by_cases c8 : a0_0 = 1
    ·rw [if_pos c8] at H
     obtain ⟨c8b0, c8b1⟩ := eqY c8
     clear c8
     by_cases c9 : (a0_3 / 9223372036854775808) = 1
     ·rw [if_pos c9] at H
      obtain ⟨c9b0, c9b1⟩ := eqY c9
      clear c9
      replace H := Option.bind_eq_some_iff.mp H
      obtain ⟨t146, A100, H⟩ := H
      try dsimp only at H
      have A10 := Aside0.mk A100
      clear A100
      obtain rfl := Option.some.inj H
      try go_wp2
      have n0_ := Aside0.mk (blk_drew BK145.out)
      have n1_ := Aside0.mk (below_drew1 HB.out)
      clear BK145
      clear HB
      have BK145 := n0_
      have HB := n1_
      clear n0_ n1_
      refine start_ (n := 13) (S := fun w' => w'.cell? ⟨gb145, 0, none⟩ = some (.int .i64 a0_0) ∧ w'.cell? ⟨gb145, 1, none⟩ = some (.bool a0_1) ∧ w'.cell? ⟨gb145, 2, none⟩ = some (.int .i64 a0_2) ∧ w'.cell? ⟨gb145, 3, none⟩ = some (.int .u64 a0_3) ∧ w'.cell? ⟨gb145, 4, none⟩ = some (.int .u64 a0_4) ∧ w'.cell? ⟨gb145, 5, none⟩ = some (.bool a0_5)) (ds := []) #[false, false, false, false, false, false, false, false, false, false, false, false, false] (by kernel_rfl) rfl rfl ⟨(blk_cell BK145.out 0).trans rfl, (blk_cell BK145.out 1).trans rfl, (blk_cell BK145.out 2).trans rfl, (blk_cell BK145.out 3).trans rfl, (blk_cell BK145.out 4).trans rfl, (blk_cell BK145.out 5).trans rfl⟩ (fun hHeld => ?_); refine with_tabW round_sound.tab6 round_sound.bits6 (fun HT_ HW_ => ?_)
      generalize wc.drew = w11 at BK145 HB hHeld ⊢
      refine pure_ (i := 0) (N := some 15) (v := ?_) (a' := ?_) #[true, false, false, false, false, false, false, false, false, false, false, false, false] rfl rfl (any_of HT_.out (by kernel_rfl)) (fun _ _ _ h => h) (Or.inl ⟨by rfl, ?_⟩) ?_ ?_
      rotate_left
      ·intro w'
       go_simp
       with_reducible rfl
      rotate_left
      ·simp only [Act.put, List.setIfInBounds_toArray, List.set_cons_zero, List.set_cons_succ, i64_w, i32_w]
       rfl
      refine take_ (i := 1) (N := some 16) (v := ?_) (a' := ?_) #[true, true, false, false, false, false, false, false, false, false, false, false, false] rfl rfl (take_ofW HT_.out HW_.out (by kernel_rfl)) (fun _ _ _ h => h) (Or.inl ⟨by rfl, ?_⟩) hHeld ?_ ?_
      rotate_left
      ·rintro w' ⟨s0, s1, s2, s3, s4, s5⟩
       go_simp
       with_reducible rfl
      rotate_left
      ·simp only [Act.put, List.setIfInBounds_toArray, List.set_cons_zero, List.set_cons_succ, i64_w, i32_w]
       rfl
      refine pure_ (i := 2) (N := some 17) (v := ?_) (a' := ?_) #[true, true, true, false, false, false, false, false, false, false, false, false, false] rfl rfl (any_of HT_.out (by kernel_rfl)) (fun _ _ _ h => h) (Or.inl ⟨by rfl, ?_⟩) ?_ ?_
      rotate_left
      ·intro w'
       go_simp
       with_reducible rfl
      rotate_left
      ·simp only [Act.put, List.setIfInBounds_toArray, List.set_cons_zero, List.set_cons_succ, i64_w, i32_w]
       rfl
      refine pure_ (i := 3) (N := some 18) (v := ?_) (a' := ?_) #[true, true, true, true, false, false, false, false, false, false, false, false, false] rfl rfl (any_of HT_.out (by kernel_rfl)) (fun _ _ _ h => h) (Or.inl ⟨by rfl, ?_⟩) ?_ ?_
      rotate_left
      ·intro w'
       go_simp
       with_reducible rfl
      rotate_left
      ·simp only [Act.put, List.setIfInBounds_toArray, List.set_cons_zero, List.set_cons_succ, i64_w, i32_w]
       rfl
      refine pure_ (i := 4) (N := some 19) (v := ?_) (a' := ?_) #[true, true, true, true, true, false, false, false, false, false, false, false, false] rfl rfl (any_of HT_.out (by kernel_rfl)) (fun _ _ _ h => h) (Or.inl ⟨by rfl, ?_⟩) ?_ ?_
      rotate_left
      ·intro w'
       go_simp
       with_reducible rfl
      rotate_left
      ·simp only [Act.put, List.setIfInBounds_toArray, List.set_cons_zero, List.set_cons_succ, i64_w, i32_w]
       rfl
      refine pure_ (i := 5) (N := some 20) (v := ?_) (a' := ?_) #[true, true, true, true, true, true, false, false, false, false, false, false, false] rfl rfl (any_of HT_.out (by kernel_rfl)) (fun _ _ _ h => h) (Or.inl ⟨by rfl, ?_⟩) ?_ ?_
      rotate_left
      ·intro w'
       go_simp
       with_reducible rfl
      rotate_left
      ·simp only [Act.put, List.setIfInBounds_toArray, List.set_cons_zero, List.set_cons_succ, i64_w, i32_w]
       rfl
      refine pure_ (i := 7) (N := some 22) (v := ?_) (a' := ?_) #[true, true, true, true, true, true, false, true, false, false, false, false, false] rfl rfl (any_of HT_.out (by kernel_rfl)) (fun _ _ _ h => h) (Or.inl ⟨by rfl, ?_⟩) ?_ ?_
      rotate_left
      ·intro w'
       go_simp
       with_reducible rfl
      rotate_left
      ·simp only [Act.put, List.setIfInBounds_toArray, List.set_cons_zero, List.set_cons_succ, i64_w, i32_w]
       rfl
      refine take_ (i := 6) (N := some 21) (v := ?_) (a' := ?_) #[true, true, true, true, true, true, true, true, false, false, false, false, false] rfl rfl (take_ofW HT_.out HW_.out (by kernel_rfl)) (fun _ _ _ h => h) (Or.inl ⟨by rfl, ?_⟩) hHeld ?_ ?_
      rotate_left
      ·rintro w' ⟨s0, s1, s2, s3, s4, s5⟩
       go_simp
       with_reducible rfl
      rotate_left
      ·simp only [Act.put, List.setIfInBounds_toArray, List.set_cons_zero, List.set_cons_succ, i64_w, i32_w]
       rfl
      refine take_ (i := 8) (N := some 23) (v := ?_) (a' := ?_) #[true, true, true, true, true, true, true, true, true, false, false, false, false] rfl rfl (take_ofW HT_.out HW_.out (by kernel_rfl)) (fun _ _ _ h => h) (Or.inl ⟨by rfl, ?_⟩) hHeld ?_ ?_
      rotate_left
      ·rintro w' ⟨s0, s1, s2, s3, s4, s5⟩
       go_simp
       with_reducible rfl
      rotate_left
      ·simp only [Act.put, List.setIfInBounds_toArray, List.set_cons_zero, List.set_cons_succ, i64_w, i32_w]
       rfl
      refine one_ (i := 9) (N := some 24) #[true, true, true, true, true, true, true, true, true, true, false, false, false] rfl rfl (one_of HT_.out (by kernel_rfl)) (by decide) (fun K hK => ?_)
      refine goes_ Try.func128 (by kernel_rfl) rfl #[.int .i64 a0_2] (by rfl) rfl rfl (by (try simp only [List.map_toArray, List.map_cons, List.map_nil]); first | done | rfl | (simp only [List.length_drop, List.length_take]; rfl)) ?_
      with_reducible refine (round_held.calls a0_2 t146 _ A10.out).mono ?_
      rintro e w12 ⟨rfl, hb⟩
      refine ⟨_, rfl, ?_⟩
      have n0_ := bkB BK145 hb
      have n1_ := hbS hb
      clear BK145
      clear HB
      have BK145 := n0_
      have HB := n1_
      clear n0_ n1_
      (try clear hb)
      (try clear hb2)
      (try clear hk)
      (try clear hi)
      refine hK.out _ _ ⟨(blk_cell BK145.out 0).trans rfl, (blk_cell BK145.out 1).trans rfl, (blk_cell BK145.out 2).trans rfl, (blk_cell BK145.out 3).trans rfl, (blk_cell BK145.out 4).trans rfl, (blk_cell BK145.out 5).trans rfl⟩ (fun hHeld => ?_)
      clear hK K
      refine norm_ (a' := ?_) ?_ ?_
      rotate_left
      ·show Act.put _ (some 24) _ = _
       simp only [Act.put, List.setIfInBounds_toArray, List.set_cons_zero, List.set_cons_succ, i64_w, i32_w]
       rfl
      refine pure_ (i := 10) (N := some 25) (v := ?_) (a' := ?_) #[true, true, true, true, true, true, true, true, true, true, true, false, false] rfl rfl (any_of HT_.out (by kernel_rfl)) (fun _ _ _ h => h) (Or.inl ⟨by rfl, ?_⟩) ?_ ?_
      rotate_left
      ·intro w'
       go_simp
       with_reducible rfl
      rotate_left
      ·simp only [Act.put, List.setIfInBounds_toArray, List.set_cons_zero, List.set_cons_succ, i64_w, i32_w]
       rfl
      refine pure_ (i := 11) (N := some 26) (v := ?_) (a' := ?_) #[true, true, true, true, true, true, true, true, true, true, true, true, false] rfl rfl (any_of HT_.out (by kernel_rfl)) (fun _ _ _ h => h) (Or.inl ⟨by rfl, ?_⟩) ?_ ?_
      rotate_left
      ·intro w'
       go_simp
       with_reducible rfl
      rotate_left
      ·simp only [Act.put, List.setIfInBounds_toArray, List.set_cons_zero, List.set_cons_succ, i64_w, i32_w]
       rfl
      refine pure_ (i := 12) (N := some 2) (v := ?_) (a' := ?_) #[true, true, true, true, true, true, true, true, true, true, true, true, true] rfl rfl (any_of HT_.out (by kernel_rfl)) (fun _ _ _ h => h) (Or.inl ⟨by rfl, ?_⟩) ?_ ?_
      rotate_left
      ·intro w'
       go_simp
       with_reducible rfl
      rotate_left
      ·simp only [Act.put, List.setIfInBounds_toArray, List.set_cons_zero, List.set_cons_succ, i64_w, i32_w]
       rfl
      refine done_ (done_of HT_.out (by kernel_rfl)) ?_
      try go_wp2
      go_ret
      exact ⟨reT, hbT⟩
     ·rw [if_neg c9] at H
      obtain ⟨c9b0, c9b1⟩ := eqN c9
      obtain rfl := Option.some.inj H
      try go_wp2
      have n0_ := Aside0.mk (blk_drew BK145.out)
      have n1_ := Aside0.mk (below_drew1 HB.out)
      clear BK145
      clear HB
      have BK145 := n0_
      have HB := n1_
      clear n0_ n1_
      refine start_ (n := 13) (S := fun w' => w'.cell? ⟨gb145, 0, none⟩ = some (.int .i64 a0_0) ∧ w'.cell? ⟨gb145, 1, none⟩ = some (.bool a0_1) ∧ w'.cell? ⟨gb145, 2, none⟩ = some (.int .i64 a0_2) ∧ w'.cell? ⟨gb145, 3, none⟩ = some (.int .u64 a0_3) ∧ w'.cell? ⟨gb145, 4, none⟩ = some (.int .u64 a0_4) ∧ w'.cell? ⟨gb145, 5, none⟩ = some (.bool a0_5)) (ds := []) #[false, false, false, false, false, false, false, false, false, false, false, false, false] (by kernel_rfl) rfl rfl ⟨(blk_cell BK145.out 0).trans rfl, (blk_cell BK145.out 1).trans rfl, (blk_cell BK145.out 2).trans rfl, (blk_cell BK145.out 3).trans rfl, (blk_cell BK145.out 4).trans rfl, (blk_cell BK145.out 5).trans rfl⟩ (fun hHeld => ?_); refine with_tabW round_sound.tab6 round_sound.bits6 (fun HT_ HW_ => ?_)
      generalize wc.drew = w13 at BK145 HB hHeld ⊢
      refine pure_ (i := 0) (N := some 15) (v := ?_) (a' := ?_) #[true, false, false, false, false, false, false, false, false, false, false, false, false] rfl rfl (any_of HT_.out (by kernel_rfl)) (fun _ _ _ h => h) (Or.inl ⟨by rfl, ?_⟩) ?_ ?_
      rotate_left
      ·intro w'
       go_simp
       with_reducible rfl
      rotate_left
      ·simp only [Act.put, List.setIfInBounds_toArray, List.set_cons_zero, List.set_cons_succ, i64_w, i32_w]
       rfl
      refine take_ (i := 1) (N := some 16) (v := ?_) (a' := ?_) #[true, true, false, false, false, false, false, false, false, false, false, false, false] rfl rfl (take_ofW HT_.out HW_.out (by kernel_rfl)) (fun _ _ _ h => h) (Or.inl ⟨by rfl, ?_⟩) hHeld ?_ ?_
      rotate_left
      ·rintro w' ⟨s0, s1, s2, s3, s4, s5⟩
       go_simp
       with_reducible rfl
      rotate_left
      ·simp only [Act.put, List.setIfInBounds_toArray, List.set_cons_zero, List.set_cons_succ, i64_w, i32_w]
       rfl
      refine pure_ (i := 2) (N := some 17) (v := ?_) (a' := ?_) #[true, true, true, false, false, false, false, false, false, false, false, false, false] rfl rfl (any_of HT_.out (by kernel_rfl)) (fun _ _ _ h => h) (Or.inl ⟨by rfl, ?_⟩) ?_ ?_
      rotate_left
      ·intro w'
       go_simp
       with_reducible rfl
      rotate_left
      ·simp only [Act.put, List.setIfInBounds_toArray, List.set_cons_zero, List.set_cons_succ, i64_w, i32_w]
       rfl
      refine pure_ (i := 3) (N := some 18) (v := ?_) (a' := ?_) #[true, true, true, true, false, false, false, false, false, false, false, false, false] rfl rfl (any_of HT_.out (by kernel_rfl)) (fun _ _ _ h => h) (Or.inl ⟨by rfl, ?_⟩) ?_ ?_
      rotate_left
      ·intro w'
       go_simp
       with_reducible rfl
      rotate_left
      ·simp only [Act.put, List.setIfInBounds_toArray, List.set_cons_zero, List.set_cons_succ, i64_w, i32_w]
       rfl
      refine pure_ (i := 4) (N := some 19) (v := ?_) (a' := ?_) #[true, true, true, true, true, false, false, false, false, false, false, false, false] rfl rfl (any_of HT_.out (by kernel_rfl)) (fun _ _ _ h => h) (Or.inl ⟨by rfl, ?_⟩) ?_ ?_
      rotate_left
      ·intro w'
       go_simp
       with_reducible rfl
      rotate_left
      ·simp only [Act.put, List.setIfInBounds_toArray, List.set_cons_zero, List.set_cons_succ, i64_w, i32_w]
       rfl
      refine pure_ (i := 5) (N := some 20) (v := undef) (a' := ?_) #[true, true, true, true, true, true, false, false, false, false, false, false, false] rfl rfl (any_of HT_.out (by kernel_rfl)) (fun _ _ _ h => h) (Or.inr ⟨by rfl, rfl⟩) ?_ ?_
      rotate_left
      ·simp only [Act.put, List.setIfInBounds_toArray, List.set_cons_zero, List.set_cons_succ, i64_w, i32_w]
       rfl
      refine pure_ (i := 6) (N := some 21) (v := undef) (a' := ?_) #[true, true, true, true, true, true, true, false, false, false, false, false, false] rfl rfl (any_of HT_.out (by kernel_rfl)) (fun _ _ _ h => h) (Or.inr ⟨by rfl, rfl⟩) ?_ ?_
      rotate_left
      ·simp only [Act.put, List.setIfInBounds_toArray, List.set_cons_zero, List.set_cons_succ, i64_w, i32_w]
       rfl
      refine pure_ (i := 7) (N := some 22) (v := undef) (a' := ?_) #[true, true, true, true, true, true, true, true, false, false, false, false, false] rfl rfl (any_of HT_.out (by kernel_rfl)) (fun _ _ _ h => h) (Or.inr ⟨by rfl, rfl⟩) ?_ ?_
      rotate_left
      ·simp only [Act.put, List.setIfInBounds_toArray, List.set_cons_zero, List.set_cons_succ, i64_w, i32_w]
       rfl
      refine pure_ (i := 8) (N := some 23) (v := undef) (a' := ?_) #[true, true, true, true, true, true, true, true, true, false, false, false, false] rfl rfl (any_of HT_.out (by kernel_rfl)) (fun _ _ _ h => h) (Or.inr ⟨by rfl, rfl⟩) ?_ ?_
      rotate_left
      ·simp only [Act.put, List.setIfInBounds_toArray, List.set_cons_zero, List.set_cons_succ, i64_w, i32_w]
       rfl
      refine pure_ (i := 9) (N := some 24) (v := undef) (a' := ?_) #[true, true, true, true, true, true, true, true, true, true, false, false, false] rfl rfl (any_of HT_.out (by kernel_rfl)) (fun _ _ _ h => h) (Or.inr ⟨by rfl, rfl⟩) ?_ ?_
      rotate_left
      ·simp only [Act.put, List.setIfInBounds_toArray, List.set_cons_zero, List.set_cons_succ, i64_w, i32_w]
       rfl
      refine pure_ (i := 10) (N := some 25) (v := undef) (a' := ?_) #[true, true, true, true, true, true, true, true, true, true, true, false, false] rfl rfl (any_of HT_.out (by kernel_rfl)) (fun _ _ _ h => h) (Or.inr ⟨by rfl, rfl⟩) ?_ ?_
      rotate_left
      ·simp only [Act.put, List.setIfInBounds_toArray, List.set_cons_zero, List.set_cons_succ, i64_w, i32_w]
       rfl
      refine pure_ (i := 11) (N := some 26) (v := ?_) (a' := ?_) #[true, true, true, true, true, true, true, true, true, true, true, true, false] rfl rfl (any_of HT_.out (by kernel_rfl)) (fun _ _ _ h => h) (Or.inl ⟨by rfl, ?_⟩) ?_ ?_
      rotate_left
      ·intro w'
       go_simp
       with_reducible rfl
      rotate_left
      ·simp only [Act.put, List.setIfInBounds_toArray, List.set_cons_zero, List.set_cons_succ, i64_w, i32_w]
       rfl
      refine pure_ (i := 12) (N := some 2) (v := ?_) (a' := ?_) #[true, true, true, true, true, true, true, true, true, true, true, true, true] rfl rfl (any_of HT_.out (by kernel_rfl)) (fun _ _ _ h => h) (Or.inl ⟨by rfl, ?_⟩) ?_ ?_
      rotate_left
      ·intro w'
       go_simp
       with_reducible rfl
      rotate_left
      ·simp only [Act.put, List.setIfInBounds_toArray, List.set_cons_zero, List.set_cons_succ, i64_w, i32_w]
       rfl
      refine done_ (done_of HT_.out (by kernel_rfl)) ?_
      try go_wp2
      go_ret
      exact ⟨reT, hbT⟩
    ·rw [if_neg c8] at H
     obtain ⟨c8b0, c8b1⟩ := eqN c8
     obtain rfl := Option.some.inj H
     go_wp2
     go_ret
     exact ⟨reT, hbT⟩

end Go.Proofs.Ytnlbfomlfhigcaa.Q
namespace Go.Proofs.Ytnlbfomlfhigcaa.Q
open Go.RowKit Go.Proofs.YtnlbfomlfhigcaaW.PrintWords Go.Proofs.YtnlbfomlfhigcaaW.PrintLast Go.Proofs.YtnlbfomlfhigcaaW.PrintMore
attribute [local go_sem] max2_int min2_int max_two min_two max_three min_three max_four min_four
set_option linter.unusedVariables false
set_option linter.unusedSimpArgs false

def twin_shl.f (a0_0 : Int) (a0_1 : Int) (a1 : Int) : Option (Int × Int) := if a1 ≥ 64 then (if 0 ≤ (wrap64 (a1 - 64)) then (some (shl .u64 a0_1 (wrap64 (a1 - 64)), 0)) else (none)) else (if 0 ≤ a1 then (if 0 ≤ (wrap64 (64 - a1)) then (some (Go.bits .or .u64 (shl .u64 a0_0 a1) (shr .u64 a0_1 (wrap64 (64 - a1))), shl .u64 a0_1 a1)) else (none)) else (none))
def twin_shl.T3 : Bool × List (List Nat × List Nat) := (true, [([], []), ([0], [0]), ([], []), ([1, 2], [1, 2]), ([], []), ([4], [4]), ([], []), ([6], [6]), ([5, 7], [5, 7]), ([3, 8], [3, 8]), ([], []), ([10], [10]), ([], []), ([11, 12], [11, 12]), ([9, 13], [9, 13]), ([14, 0, 1, 2, 3, 4, 5, 6, 7, 8, 9, 10, 11, 12, 13, 14], [14])])
def twin_shl.B3 : List Nat := [0, 1, 0, 7, 0, 16, 0, 64, 240, 511, 0, 1024, 0, 7168, 16383, 32767]
theorem twin_shl.tab3 : rtab .any (opsOf Try.f154 3) = twin_shl.T3 := by kernel_rfl
theorem twin_shl.bits3 : waitsOk twin_shl.T3.2 twin_shl.B3 = true := by kernel_rfl
set_option maxHeartbeats 8000000 in
set_option maxRecDepth 100000 in
theorem twin_shl.calls (a0_0 : Int) (a0_1 : Int) (a1 : Int) (r1 : Int) (r2 : Int) (w : World) (h : twin_shl.f a0_0 a0_1 a1 = some (r1, r2)) :
  Calls Try.prog 154 #[.agg #[.int .u64 a0_0, .int .u64 a0_1], .int .i64 a1] w fun e w' => e = .returned (.agg #[.int .u64 r1, .int .u64 r2]) ∧ Below w.heap.size w w' := by
 have hu155 := Try.underlying155
 have HB := Aside0.mk (Below.refl w.heap.size w)
 have H := h
 clear h
 unfold twin_shl.f at H
 by_cases c3 : a1 ≥ 64
 ·rw [if_pos c3] at H
  have c3b0 : decide (64 ≤ a1) = true := decide_eq_true c3
  clear c3
  obtain ⟨ji4, hji4⟩ : ∃ j_ : Int, (wrap64 (a1 - 64)) = j_ := ⟨_, rfl⟩
  replace H : (if 0 ≤ (ji4) then (some (shl .u64 a0_1 (ji4), 0)) else (none)) = some (r1, r2) := by first | (rw [hji4] at H; exact H) | (simp only [hji4] at H ⊢; exact H)
  have hji4w : (IntKind.i64.wrap (a1 - 64)) = ji4 := (i64_w _).trans hji4
  by_cases c5 : 0 ≤ (ji4)
  ·rw [if_pos c5] at H
   have c5b0 := eq_true c5
   have c5b1 : decide (0 ≤ (ji4)) = true := decide_eq_true c5
   clear c5
   obtain ⟨ji6, hji6⟩ : ∃ j_ : Int, (shl .u64 a0_1 (ji4)) = j_ := ⟨_, rfl⟩
   replace H : (some (ji6, 0)) = some (r1, r2) := by first | (rw [hji6] at H; exact H) | (simp only [hji6] at H ⊢; exact H)
   have hji6_ : (IntKind.u64.wrap (a0_1 * 2 ^ min (ji4).toNat 64)) = ji6 := hji6
   have hji6z : (ji4) ≤ 64 → (IntKind.u64.wrap (a0_1 * 2 ^ (ji4).toNat)) = ji6 := shl_small hji6
   simp only [Option.some.injEq, Prod.mk.injEq] at H
   obtain ⟨rfl, rfl⟩ := H
   go_enter Try.func154, Try.ntmps154
   go_wp2_with (first | (refine boxA 2 (#[.int .u64 a0_0, .int .u64 a0_1]) 155 ?_; intro gb147 hg w7 BK147 hb; have GW147 := geT hg; have GE147 := GW147; replace HB := hbS hb; clear hb hg) | (refine boxA 4 (#[.int .u64 0, .int .u64 0]) 155 ?_; intro gb148 hg w8 BK148 hb; have GW148 := geT hg; have GE148 := GW148; obtain ⟨NB147_148, NB148_147⟩ := neT BK147 hg; replace BK147 := bkB BK147 hb; replace HB := hbS hb; clear hb hg; have hnb9 := NB147_148.out; have hnc9 := NB148_147.out; obtain ⟨z10_0, z10_1, y10_0, y10_1⟩ := cz2 BK147; obtain ⟨z11_0, z11_1, y11_0, y11_1⟩ := cz2 BK148))
   refine bodyPost_ret (results_cell_row rfl _ _ gb148 155 #[.int .u64 ji6, .int .u64 0] (0, 0) _ rfl (bkT BK148) Try.underlying155 rfl (by kernel_rfl)) rfl ?_
   exact ⟨by first | rfl | (simp [errW_none, errW_some] <;> rfl) | (simp only [← hji4, ← hji6]; first | rfl | (simp [errW_none, errW_some] <;> rfl)) | (simp [*, errW_none, errW_some] <;> rfl), hbT⟩
  ·rw [if_neg c5] at H
   exact absurd H (by simp)
 ·rw [if_neg c3] at H
  have c3b0 : decide (64 ≤ a1) = false := decide_eq_false c3
  clear c3
  by_cases c12 : 0 ≤ a1
  ·rw [if_pos c12] at H
   have c12b0 := eq_true c12
   have c12b1 : decide (0 ≤ a1) = true := decide_eq_true c12
   clear c12
   obtain ⟨ji13, hji13⟩ : ∃ j_ : Int, (shl .u64 a0_0 a1) = j_ := ⟨_, rfl⟩
   replace H : (if 0 ≤ (wrap64 (64 - a1)) then (some (Go.bits .or .u64 (ji13) (shr .u64 a0_1 (wrap64 (64 - a1))), shl .u64 a0_1 a1)) else (none)) = some (r1, r2) := by first | (rw [hji13] at H; exact H) | (simp only [hji13] at H ⊢; exact H)
   have hji13_ : (IntKind.u64.wrap (a0_0 * 2 ^ min a1.toNat 64)) = ji13 := hji13
   have hji13z : a1 ≤ 64 → (IntKind.u64.wrap (a0_0 * 2 ^ a1.toNat)) = ji13 := shl_small hji13
   obtain ⟨ji14, hji14⟩ : ∃ j_ : Int, (wrap64 (64 - a1)) = j_ := ⟨_, rfl⟩
   replace H : (if 0 ≤ (ji14) then (some (Go.bits .or .u64 (ji13) (shr .u64 a0_1 (ji14)), shl .u64 a0_1 a1)) else (none)) = some (r1, r2) := by first | (rw [hji14] at H; exact H) | (simp only [hji14] at H ⊢; exact H)
   have hji14w : (IntKind.i64.wrap (64 - a1)) = ji14 := (i64_w _).trans hji14
   by_cases c15 : 0 ≤ (ji14)
   ·rw [if_pos c15] at H
    have c15b0 := eq_true c15
    have c15b1 : decide (0 ≤ (ji14)) = true := decide_eq_true c15
    clear c15
    obtain ⟨ji16, hji16⟩ : ∃ j_ : Int, (shr .u64 a0_1 (ji14)) = j_ := ⟨_, rfl⟩
    replace H : (some (Go.bits .or .u64 (ji13) (ji16), shl .u64 a0_1 a1)) = some (r1, r2) := by first | (rw [hji16] at H; exact H) | (simp only [hji16] at H ⊢; exact H)
    have hji16_ : (a0_1 / 2 ^ min (ji14).toNat 64) = ji16 := hji16
    have hji16z : (ji14) ≤ 64 → (a0_1 / 2 ^ (ji14).toNat) = ji16 := shr_small hji16
    have c17b0 := eq_true (of_decide_eq_true (by first | (with_reducible assumption) | assumption) : 0 ≤ a1)
    obtain ⟨ji18, hji18⟩ : ∃ j_ : Int, (shl .u64 a0_1 a1) = j_ := ⟨_, rfl⟩
    replace H : (some (Go.bits .or .u64 (ji13) (ji16), ji18)) = some (r1, r2) := by first | (rw [hji18] at H; exact H) | (simp only [hji18] at H ⊢; exact H)
    have hji18_ : (IntKind.u64.wrap (a0_1 * 2 ^ min a1.toNat 64)) = ji18 := hji18
    have hji18z : a1 ≤ 64 → (IntKind.u64.wrap (a0_1 * 2 ^ a1.toNat)) = ji18 := shl_small hji18
    simp only [Option.some.injEq, Prod.mk.injEq] at H
    obtain ⟨rfl, rfl⟩ := H
    go_enter Try.func154, Try.ntmps154
    try go_wp2_with (first | (refine boxA 2 (#[.int .u64 a0_0, .int .u64 a0_1]) 155 ?_; intro gb147 hg w19 BK147 hb; have GW147 := geT hg; have GE147 := GW147; replace HB := hbS hb; clear hb hg) | (refine boxA 4 (#[.int .u64 0, .int .u64 0]) 155 ?_; intro gb148 hg w20 BK148 hb; have GW148 := geT hg; have GE148 := GW148; obtain ⟨NB147_148, NB148_147⟩ := neT BK147 hg; replace BK147 := bkB BK147 hb; replace HB := hbS hb; clear hb hg))
    have n0_ := Aside0.mk (blk_drew BK147.out)
    have n1_ := Aside0.mk (blk_drew BK148.out)
    have n2_ := Aside0.mk (below_drew1 HB.out)
    clear BK147
    clear BK148
    clear HB
    have BK147 := n0_
    have BK148 := n1_
    have HB := n2_
    clear n0_ n1_ n2_
    refine start_ (n := 16) (S := fun w' => w'.cell? ⟨gb147, 0, none⟩ = some (.int .u64 a0_0) ∧ w'.cell? ⟨gb147, 1, none⟩ = some (.int .u64 a0_1)) (ds := []) #[false, false, false, false, false, false, false, false, false, false, false, false, false, false, false, false] (by kernel_rfl) rfl rfl ⟨(blk_cell BK147.out 0).trans rfl, (blk_cell BK147.out 1).trans rfl⟩ (fun hHeld => ?_); refine with_tabW twin_shl.tab3 twin_shl.bits3 (fun HT_ HW_ => ?_)
    generalize w20.drew = w21 at BK147 BK148 HB hHeld ⊢
    refine pure_ (i := 0) (N := some 13) (v := ?_) (a' := ?_) #[true, false, false, false, false, false, false, false, false, false, false, false, false, false, false, false] rfl rfl (any_of HT_.out (by kernel_rfl)) (fun _ _ _ h => h) (Or.inl ⟨by rfl, ?_⟩) ?_ ?_
    rotate_left
    ·intro w'
     go_simp
     with_reducible rfl
    rotate_left
    ·simp only [Act.put, List.setIfInBounds_toArray, List.set_cons_zero, List.set_cons_succ, i64_w, i32_w]
     rfl
    refine pure_ (i := 2) (N := some 15) (v := ?_) (a' := ?_) #[true, false, true, false, false, false, false, false, false, false, false, false, false, false, false, false] rfl rfl (any_of HT_.out (by kernel_rfl)) (fun _ _ _ h => h) (Or.inl ⟨by rfl, ?_⟩) ?_ ?_
    rotate_left
    ·intro w'
     go_simp
     with_reducible rfl
    rotate_left
    ·simp only [Act.put, List.setIfInBounds_toArray, List.set_cons_zero, List.set_cons_succ, i64_w, i32_w]
     rfl
    refine pure_ (i := 4) (N := some 17) (v := ?_) (a' := ?_) #[true, false, true, false, true, false, false, false, false, false, false, false, false, false, false, false] rfl rfl (any_of HT_.out (by kernel_rfl)) (fun _ _ _ h => h) (Or.inl ⟨by rfl, ?_⟩) ?_ ?_
    rotate_left
    ·intro w'
     go_simp
     with_reducible rfl
    rotate_left
    ·simp only [Act.put, List.setIfInBounds_toArray, List.set_cons_zero, List.set_cons_succ, i64_w, i32_w]
     rfl
    refine pure_ (i := 6) (N := some 19) (v := ?_) (a' := ?_) #[true, false, true, false, true, false, true, false, false, false, false, false, false, false, false, false] rfl rfl (any_of HT_.out (by kernel_rfl)) (fun _ _ _ h => h) (Or.inl ⟨by rfl, ?_⟩) ?_ ?_
    rotate_left
    ·intro w'
     go_simp
     with_reducible rfl
    rotate_left
    ·simp only [Act.put, List.setIfInBounds_toArray, List.set_cons_zero, List.set_cons_succ, i64_w, i32_w]
     rfl
    refine pure_ (i := 7) (N := some 20) (v := ?_) (a' := ?_) #[true, false, true, false, true, false, true, true, false, false, false, false, false, false, false, false] rfl rfl (any_of HT_.out (by kernel_rfl)) (fun _ _ _ h => h) (Or.inl ⟨by rfl, ?_⟩) ?_ ?_
    rotate_left
    ·intro w'
     go_simp
     with_reducible rfl
    rotate_left
    ·simp only [Act.put, List.setIfInBounds_toArray, List.set_cons_zero, List.set_cons_succ, i64_w, i32_w]
     rfl
    refine pure_ (i := 10) (N := some 23) (v := ?_) (a' := ?_) #[true, false, true, false, true, false, true, true, false, false, true, false, false, false, false, false] rfl rfl (any_of HT_.out (by kernel_rfl)) (fun _ _ _ h => h) (Or.inl ⟨by rfl, ?_⟩) ?_ ?_
    rotate_left
    ·intro w'
     go_simp
     with_reducible rfl
    rotate_left
    ·simp only [Act.put, List.setIfInBounds_toArray, List.set_cons_zero, List.set_cons_succ, i64_w, i32_w]
     rfl
    refine pure_ (i := 12) (N := some 25) (v := ?_) (a' := ?_) #[true, false, true, false, true, false, true, true, false, false, true, false, true, false, false, false] rfl rfl (any_of HT_.out (by kernel_rfl)) (fun _ _ _ h => h) (Or.inl ⟨by rfl, ?_⟩) ?_ ?_
    rotate_left
    ·intro w'
     go_simp
     with_reducible rfl
    rotate_left
    ·simp only [Act.put, List.setIfInBounds_toArray, List.set_cons_zero, List.set_cons_succ, i64_w, i32_w]
     rfl
    refine take_ (i := 1) (N := some 14) (v := ?_) (a' := ?_) #[true, true, true, false, true, false, true, true, false, false, true, false, true, false, false, false] rfl rfl (take_ofW HT_.out HW_.out (by kernel_rfl)) (fun _ _ _ h => h) (Or.inl ⟨by rfl, ?_⟩) hHeld ?_ ?_
    rotate_left
    ·rintro w' ⟨s0, s1⟩
     go_simp
     with_reducible rfl
    rotate_left
    ·simp only [Act.put, List.setIfInBounds_toArray, List.set_cons_zero, List.set_cons_succ, i64_w, i32_w]
     rfl
    refine pure_ (i := 3) (N := some 16) (v := ?_) (a' := ?_) #[true, true, true, true, true, false, true, true, false, false, true, false, true, false, false, false] rfl rfl (any_of HT_.out (by kernel_rfl)) (fun _ _ _ h => h) (Or.inl ⟨by rfl, ?_⟩) ?_ ?_
    rotate_left
    ·intro w'
     go_simp
     with_reducible rfl
    rotate_left
    ·simp only [Act.put, List.setIfInBounds_toArray, List.set_cons_zero, List.set_cons_succ, i64_w, i32_w]
     rfl
    refine take_ (i := 5) (N := some 18) (v := ?_) (a' := ?_) #[true, true, true, true, true, true, true, true, false, false, true, false, true, false, false, false] rfl rfl (take_ofW HT_.out HW_.out (by kernel_rfl)) (fun _ _ _ h => h) (Or.inl ⟨by rfl, ?_⟩) hHeld ?_ ?_
    rotate_left
    ·rintro w' ⟨s0, s1⟩
     go_simp
     with_reducible rfl
    rotate_left
    ·simp only [Act.put, List.setIfInBounds_toArray, List.set_cons_zero, List.set_cons_succ, i64_w, i32_w]
     rfl
    refine pure_ (i := 8) (N := some 21) (v := ?_) (a' := ?_) #[true, true, true, true, true, true, true, true, true, false, true, false, true, false, false, false] rfl rfl (any_of HT_.out (by kernel_rfl)) (fun _ _ _ h => h) (Or.inl ⟨by rfl, ?_⟩) ?_ ?_
    rotate_left
    ·intro w'
     go_simp
     with_reducible rfl
    rotate_left
    ·simp only [Act.put, List.setIfInBounds_toArray, List.set_cons_zero, List.set_cons_succ, i64_w, i32_w]
     rfl
    refine pure_ (i := 9) (N := some 22) (v := ?_) (a' := ?_) #[true, true, true, true, true, true, true, true, true, true, true, false, true, false, false, false] rfl rfl (any_of HT_.out (by kernel_rfl)) (fun _ _ _ h => h) (Or.inl ⟨by rfl, ?_⟩) ?_ ?_
    rotate_left
    ·intro w'
     go_simp
     with_reducible rfl
    rotate_left
    ·simp only [Act.put, List.setIfInBounds_toArray, List.set_cons_zero, List.set_cons_succ, i64_w, i32_w]
     rfl
    refine take_ (i := 11) (N := some 24) (v := ?_) (a' := ?_) #[true, true, true, true, true, true, true, true, true, true, true, true, true, false, false, false] rfl rfl (take_ofW HT_.out HW_.out (by kernel_rfl)) (fun _ _ _ h => h) (Or.inl ⟨by rfl, ?_⟩) hHeld ?_ ?_
    rotate_left
    ·rintro w' ⟨s0, s1⟩
     go_simp
     with_reducible rfl
    rotate_left
    ·simp only [Act.put, List.setIfInBounds_toArray, List.set_cons_zero, List.set_cons_succ, i64_w, i32_w]
     rfl
    refine pure_ (i := 13) (N := some 26) (v := ?_) (a' := ?_) #[true, true, true, true, true, true, true, true, true, true, true, true, true, true, false, false] rfl rfl (any_of HT_.out (by kernel_rfl)) (fun _ _ _ h => h) (Or.inl ⟨by rfl, ?_⟩) ?_ ?_
    rotate_left
    ·intro w'
     go_simp
     with_reducible rfl
    rotate_left
    ·simp only [Act.put, List.setIfInBounds_toArray, List.set_cons_zero, List.set_cons_succ, i64_w, i32_w]
     rfl
    refine pure_ (i := 14) (N := some 27) (v := ?_) (a' := ?_) #[true, true, true, true, true, true, true, true, true, true, true, true, true, true, true, false] rfl rfl (any_of HT_.out (by kernel_rfl)) (fun _ _ _ h => h) (Or.inl ⟨by rfl, ?_⟩) ?_ ?_
    rotate_left
    ·intro w'
     go_simp
     with_reducible rfl
    rotate_left
    ·simp only [Act.put, List.setIfInBounds_toArray, List.set_cons_zero, List.set_cons_succ, i64_w, i32_w]
     rfl
    refine one_ (i := 15) (N := none) #[true, true, true, true, true, true, true, true, true, true, true, true, true, true, true, true] rfl rfl (one_of HT_.out (by kernel_rfl)) (by decide) (fun K hK => ?_)
    have hs22 : w21.cell? ⟨gb148, 0, none⟩ = some (.int .u64 0) := (blk_cell BK148.out 0).trans rfl
    have hfs22 := blk_frozen BK148.out 0
    have hns22_0 := NB147_148.out
    have hms22_0 := NB148_147.out
    have hs23 : w21.cell? ⟨gb148, 1, none⟩ = some (.int .u64 0) := (blk_cell BK148.out 1).trans rfl
    have hfs23 := blk_frozen BK148.out 1
    have hns23_0 := NB147_148.out
    have hms23_0 := NB148_147.out
    refine skip_ (w1 := ?_) (by rfl) rfl ?_ ?_
    rotate_left
    ·go_simp
     rfl
    refine hK.out _ _ ⟨((cell_far (p := ⟨gb148, _, none⟩) NB147_148.out _).trans (((cell_far (p := ⟨gb148, _, none⟩) NB147_148.out _).trans (hHeld.1)))), ((cell_far (p := ⟨gb148, _, none⟩) NB147_148.out _).trans (((cell_far (p := ⟨gb148, _, none⟩) NB147_148.out _).trans (hHeld.2))))⟩ (fun hHeld => ?_)
    clear hK K
    refine done_ (done_of HT_.out (by kernel_rfl)) ?_
    try go_wp2
    refine bodyPost_ret (results_cell_row rfl _ _ gb148 155 #[.int .u64 (Go.bits .or .u64 (ji13) (ji16)), .int .u64 ji18] (0, 0) _ rfl (bkT BK148) Try.underlying155 rfl (by kernel_rfl)) rfl ?_
    exact ⟨by first | rfl | (simp [errW_none, errW_some] <;> rfl) | (simp only [← hji13, ← hji14, ← hji16, ← hji18]; first | rfl | (simp [errW_none, errW_some] <;> rfl)) | (simp [*, errW_none, errW_some] <;> rfl), hbT⟩
   ·rw [if_neg c15] at H
    exact absurd H (by simp)
  ·rw [if_neg c12] at H
   exact absurd H (by simp)

end Go.Proofs.Ytnlbfomlfhigcaa.Q
namespace Go.Proofs.Ytnlbfomlfhigcaa.Q
open Go.RowKit Go.Proofs.YtnlbfomlfhigcaaW.PrintWords Go.Proofs.YtnlbfomlfhigcaaW.PrintLast Go.Proofs.YtnlbfomlfhigcaaW.PrintMore
attribute [local go_sem] max2_int min2_int max_two min_two max_three min_three max_four min_four
set_option linter.unusedVariables false
set_option linter.unusedSimpArgs false

def twin_Len.f (a0_0 : Int) (a0_1 : Int) : Option (Int) := if a0_0 > 0 then ((bits_Len64.f a0_0).bind fun t150 => (some (wrap64 (64 + t150)))) else ((bits_Len64.f a0_1).bind fun t151 => (some t151))
set_option maxHeartbeats 8000000 in
set_option maxRecDepth 100000 in
theorem twin_Len.calls (a0_0 : Int) (a0_1 : Int) (r : Int) (w : World) (h : twin_Len.f a0_0 a0_1 = some r) :
  Calls Try.prog 155 #[.agg #[.int .u64 a0_0, .int .u64 a0_1]] w fun e w' => e = .returned (.int .i64 r) ∧ Below w.heap.size w w' := by
 have hu155 := Try.underlying155
 have HB := Aside0.mk (Below.refl w.heap.size w)
 have H := h
 clear h
 unfold twin_Len.f at H
 by_cases c2 : a0_0 > 0
 ·rw [if_pos c2] at H
  have c2b0 : decide (0 < a0_0) = true := decide_eq_true c2
  clear c2
  replace H := Option.bind_eq_some_iff.mp H
  obtain ⟨t150, A30, H⟩ := H
  try dsimp only at H
  have A3 := Aside0.mk A30
  clear A30
  obtain rfl := Option.some.inj H
  go_enter Try.func155, Try.ntmps155
  go_wp2_with (first | (refine boxA 1 (#[.int .u64 a0_0, .int .u64 a0_1]) 155 ?_; intro gb149 hg w4 BK149 hb; have GW149 := geT hg; have GE149 := GW149; replace HB := hbS hb; clear hb hg; obtain ⟨z5_0, z5_1, y5_0, y5_1⟩ := cz2 BK149) | ((with_reducible refine gate_callee (f := 157) rfl ?_); refine goesL_ (some 8) rfl rfl Try.func157 (by kernel_rfl) rfl #[.int .u64 a0_0] rfl (by (try simp only [List.map_toArray, List.map_cons, List.map_nil]); first | done | rfl | (simp only [List.length_drop, List.length_take]; rfl)) ?_; (with_reducible refine (bits_Len64.calls a0_0 t150 _ A3.out).mono ?_); rintro e w' ⟨rfl, ⟨nd, rfl⟩⟩; refine ⟨_, rfl, ?_⟩))
  go_ret
  exact ⟨reT, hbT⟩
 ·rw [if_neg c2] at H
  have c2b0 : decide (0 < a0_0) = false := decide_eq_false c2
  clear c2
  replace H := Option.bind_eq_some_iff.mp H
  obtain ⟨t151, A60, H⟩ := H
  try dsimp only at H
  have A6 := Aside0.mk A60
  clear A60
  obtain rfl := Option.some.inj H
  go_enter Try.func155, Try.ntmps155
  go_wp2_with (first | (refine boxA 1 (#[.int .u64 a0_0, .int .u64 a0_1]) 155 ?_; intro gb149 hg w7 BK149 hb; have GW149 := geT hg; have GE149 := GW149; replace HB := hbS hb; clear hb hg; obtain ⟨z8_0, z8_1, y8_0, y8_1⟩ := cz2 BK149) | ((with_reducible refine gate_callee (f := 157) rfl ?_); refine goesL_ (some 12) rfl rfl Try.func157 (by kernel_rfl) rfl #[.int .u64 a0_1] rfl (by (try simp only [List.map_toArray, List.map_cons, List.map_nil]); first | done | rfl | (simp only [List.length_drop, List.length_take]; rfl)) ?_; (with_reducible refine (bits_Len64.calls a0_1 t151 _ A6.out).mono ?_); rintro e w' ⟨rfl, ⟨nd, rfl⟩⟩; refine ⟨_, rfl, ?_⟩))
  go_ret
  exact ⟨reT, hbT⟩

end Go.Proofs.Ytnlbfomlfhigcaa.Q
namespace Go.Proofs.Ytnlbfomlfhigcaa.Q
open Go.RowKit Go.Proofs.YtnlbfomlfhigcaaW.PrintWords Go.Proofs.YtnlbfomlfhigcaaW.PrintLast Go.Proofs.YtnlbfomlfhigcaaW.PrintMore
attribute [local go_sem] max2_int min2_int max_two min_two max_three min_three max_four min_four
set_option linter.unusedVariables false
set_option linter.unusedSimpArgs false

def twin_Shl.f (a0_0 : Int) (a0_1 : Int) (a1 : Int) : Option (Int × Int × Bool × Option Int) := if a1 < 0 then (some (0, 0, false, some 1)) else ((twin_shl.f a0_0 a0_1 (mn a1 128)).bind fun bt154 => ((twin_Len.f a0_0 a0_1).bind fun t156 => (some (bt154.1, bt154.2, decide (t156 > (wrap64 (128 - (mn a1 128)))), none))))
def twin_Shl.T4 : Bool × List (List Nat × List Nat) := (true, [([], []), ([], []), ([0, 1], [0, 1]), ([], []), ([3, 2], [3]), ([], []), ([5], [5]), ([4, 6], [4, 6]), ([2, 4, 0, 1, 2], [2]), ([7, 8, 0, 1, 2, 3, 4, 5, 6, 7, 8], [7]), ([9, 0, 1, 2, 3, 4, 5, 6, 7, 8, 9], [])])
def twin_Shl.B4 : List Nat := [0, 0, 3, 0, 15, 0, 32, 127, 31, 511, 1023]
theorem twin_Shl.tab4 : rtab .any (opsOf Try.f125 4) = twin_Shl.T4 := by kernel_rfl
theorem twin_Shl.bits4 : waitsOk twin_Shl.T4.2 twin_Shl.B4 = true := by kernel_rfl
set_option maxHeartbeats 8000000 in
set_option maxRecDepth 100000 in
theorem twin_Shl.calls (a0_0 : Int) (a0_1 : Int) (a1 : Int) (r1 : Int) (r2 : Int) (r3 : Bool) (r4 : Option Int) (w : World) (h : twin_Shl.f a0_0 a0_1 a1 = some (r1, r2, r3, r4)) :
  Calls Try.prog 125 #[.agg #[.int .u64 a0_0, .int .u64 a0_1], .int .i64 a1] w fun e w' => e = .returned (.tuple #[.agg #[.int .u64 r1, .int .u64 r2], .bool r3, errW r4]) ∧ Below w.heap.size w w' := by
 have hu155 := Try.underlying155
 have hu43 := Try.underlying43
 have hu82 := Try.underlying82
 have HB := Aside0.mk (Below.refl w.heap.size w)
 have H := h
 clear h
 unfold twin_Shl.f at H
 by_cases c3 : a1 < 0
 ·rw [if_pos c3] at H
  have c3b0 : decide (a1 < 0) = true := decide_eq_true c3
  clear c3
  simp only [Option.some.injEq, Prod.mk.injEq] at H
  obtain ⟨rfl, rfl, rfl, rfl⟩ := H
  go_enter Try.func125, Try.ntmps125
  go_wp2_with (first | (refine boxA 2 (#[.int .u64 a0_0, .int .u64 a0_1]) 155 ?_; intro gb152 hg w4 BK152 hb; have GW152 := geT hg; have GE152 := GW152; replace HB := hbS hb; clear hb hg) | (refine boxA 4 (#[.int .u64 0, .int .u64 0]) 155 ?_; intro gb153 hg w5 BK153 hb; have GW153 := geT hg; have GE153 := GW153; obtain ⟨NB152_153, NB153_152⟩ := neT BK152 hg; replace BK152 := bkB BK152 hb; replace HB := hbS hb; clear hb hg; have hnb6 := NB153_152.out; have hnc6 := NB152_153.out; obtain ⟨z7_0, z7_1, y7_0, y7_1⟩ := cz2 BK153))
  refine bodyPost_ret (results_ctt rfl _ _ gb153 155 #[.int .u64 0, .int .u64 0] (0, 0) _ rfl (bkT BK153) Try.underlying155 rfl (by kernel_rfl)) rfl ?_
  exact ⟨reT, hbT⟩
 ·rw [if_neg c3] at H
  have c3b0 : decide (a1 < 0) = false := decide_eq_false c3
  clear c3
  obtain ⟨ji8, hji8⟩ : ∃ j_ : Int, (mn a1 128) = j_ := ⟨_, rfl⟩
  replace H : ((twin_shl.f a0_0 a0_1 (ji8)).bind fun bt154 => ((twin_Len.f a0_0 a0_1).bind fun t156 => (some (bt154.1, bt154.2, decide (t156 > (wrap64 (128 - (ji8)))), none)))) = some (r1, r2, r3, r4) := by first | (rw [hji8] at H; exact H) | (simp only [hji8] at H ⊢; exact H)
  (try (have hji8h : ji8 ≤ 128 := by (rw [← hji8]; unfold mn; (repeat' split) <;> omega)))
  (try (have hji8g : ji8 ≤ 64 := by omega))
  have hji8_ : (if 128 < a1 then 128 else a1) = ji8 := hji8
  replace H := Option.bind_eq_some_iff.mp H
  obtain ⟨⟨t154, t155⟩, A90, H⟩ := H
  try dsimp only at H
  have A9 := Aside0.mk A90
  clear A90
  replace H := Option.bind_eq_some_iff.mp H
  obtain ⟨t156, A100, H⟩ := H
  try dsimp only at H
  have A10 := Aside0.mk A100
  clear A100
  simp only [Option.some.injEq, Prod.mk.injEq] at H
  obtain ⟨rfl, rfl, rfl, rfl⟩ := H
  go_enter Try.func125, Try.ntmps125
  try go_wp2_with (first | (refine boxA 2 (#[.int .u64 a0_0, .int .u64 a0_1]) 155 ?_; intro gb152 hg w11 BK152 hb; have GW152 := geT hg; have GE152 := GW152; replace HB := hbS hb; clear hb hg) | (refine boxA 4 (#[.int .u64 0, .int .u64 0]) 155 ?_; intro gb153 hg w12 BK153 hb; have GW153 := geT hg; have GE153 := GW153; obtain ⟨NB152_153, NB153_152⟩ := neT BK152 hg; replace BK152 := bkB BK152 hb; replace HB := hbS hb; clear hb hg))
  have n0_ := Aside0.mk (blk_drew BK152.out)
  have n1_ := Aside0.mk (blk_drew BK153.out)
  have n2_ := Aside0.mk (below_drew1 HB.out)
  clear BK152
  clear BK153
  clear HB
  have BK152 := n0_
  have BK153 := n1_
  have HB := n2_
  clear n0_ n1_ n2_
  refine start_ (n := 11) (S := fun w' => w'.cell? ⟨gb152, 0, none⟩ = some (.int .u64 a0_0) ∧ w'.cell? ⟨gb152, 1, none⟩ = some (.int .u64 a0_1)) (ds := []) #[false, false, false, false, false, false, false, false, false, false, false] (by kernel_rfl) rfl rfl ⟨(blk_cell BK152.out 0).trans rfl, (blk_cell BK152.out 1).trans rfl⟩ (fun hHeld => ?_); refine with_tabW twin_Shl.tab4 twin_Shl.bits4 (fun HT_ HW_ => ?_)
  generalize w12.drew = w13 at BK152 BK153 HB hHeld ⊢
  refine pure_ (i := 1) (N := some 14) (v := ?_) (a' := ?_) #[false, true, false, false, false, false, false, false, false, false, false] rfl rfl (any_of HT_.out (by kernel_rfl)) (fun _ _ _ h => h) (Or.inl ⟨by rfl, ?_⟩) ?_ ?_
  rotate_left
  ·intro w'
   go_simp
   with_reducible rfl
  rotate_left
  ·simp only [Act.put, List.setIfInBounds_toArray, List.set_cons_zero, List.set_cons_succ, i64_w, i32_w]
   rfl
  refine pure_ (i := 5) (N := some 18) (v := ?_) (a' := ?_) #[false, true, false, false, false, true, false, false, false, false, false] rfl rfl (any_of HT_.out (by kernel_rfl)) (fun _ _ _ h => h) (Or.inl ⟨by rfl, ?_⟩) ?_ ?_
  rotate_left
  ·intro w'
   go_simp
   with_reducible rfl
  rotate_left
  ·simp only [Act.put, List.setIfInBounds_toArray, List.set_cons_zero, List.set_cons_succ, i64_w, i32_w]
   rfl
  refine pure_ (i := 6) (N := some 19) (v := ?_) (a' := ?_) #[false, true, false, false, false, true, true, false, false, false, false] rfl rfl (any_of HT_.out (by kernel_rfl)) (fun _ _ _ h => h) (Or.inl ⟨by rfl, ?_⟩) ?_ ?_
  rotate_left
  ·intro w'
   go_simp
   with_reducible rfl
  rotate_left
  ·simp only [Act.put, List.setIfInBounds_toArray, List.set_cons_zero, List.set_cons_succ, i64_w, i32_w]
   rfl
  refine take_ (i := 0) (N := some 13) (v := ?_) (a' := ?_) #[true, true, false, false, false, true, true, false, false, false, false] rfl rfl (take_ofW HT_.out HW_.out (by kernel_rfl)) (fun _ _ _ h => h) (Or.inl ⟨by rfl, ?_⟩) hHeld ?_ ?_
  rotate_left
  ·rintro w' ⟨s0, s1⟩
   go_simp
   with_reducible rfl
  rotate_left
  ·simp only [Act.put, List.setIfInBounds_toArray, List.set_cons_zero, List.set_cons_succ, i64_w, i32_w]
   rfl
  refine take_ (i := 3) (N := some 16) (v := ?_) (a' := ?_) #[true, true, false, true, false, true, true, false, false, false, false] rfl rfl (take_ofW HT_.out HW_.out (by kernel_rfl)) (fun _ _ _ h => h) (Or.inl ⟨by rfl, ?_⟩) hHeld ?_ ?_
  rotate_left
  ·rintro w' ⟨s0, s1⟩
   go_simp
   with_reducible rfl
  rotate_left
  ·simp only [Act.put, List.setIfInBounds_toArray, List.set_cons_zero, List.set_cons_succ, i64_w, i32_w]
   rfl
  refine one_ (i := 2) (N := some 15) #[true, true, true, true, false, true, true, false, false, false, false] rfl rfl (one_of HT_.out (by kernel_rfl)) (by decide) (fun K hK => ?_)
  refine goes_ Try.func154 (by kernel_rfl) rfl #[.agg #[.int .u64 a0_0, .int .u64 a0_1], .int .i64 ji8] (by rfl) rfl rfl (by (try simp only [List.map_toArray, List.map_cons, List.map_nil]); first | done | (simp only [hji8]; rfl) | rfl | (simp only [List.length_drop, List.length_take]; rfl)) ?_
  with_reducible refine (twin_shl.calls a0_0 a0_1 ji8 t154 t155 _ A9.out).mono ?_
  rintro e w14 ⟨rfl, hb⟩
  refine ⟨_, rfl, ?_⟩
  have n0_ := bkB BK152 hb
  have n1_ := bkB BK153 hb
  have n2_ := hbS hb
  clear BK152
  clear BK153
  clear HB
  have BK152 := n0_
  have BK153 := n1_
  have HB := n2_
  clear n0_ n1_ n2_
  (try clear hb)
  (try clear hb2)
  (try clear hk)
  (try clear hi)
  refine hK.out _ _ ⟨(blk_cell BK152.out 0).trans rfl, (blk_cell BK152.out 1).trans rfl⟩ (fun hHeld => ?_)
  clear hK K
  refine norm_ (a' := ?_) ?_ ?_
  rotate_left
  ·show Act.put _ (some 15) _ = _
   simp only [Act.put, List.setIfInBounds_toArray, List.set_cons_zero, List.set_cons_succ, i64_w, i32_w]
   rfl
  refine one_ (i := 4) (N := some 17) #[true, true, true, true, true, true, true, false, false, false, false] rfl rfl (one_of HT_.out (by kernel_rfl)) (by decide) (fun K hK => ?_)
  refine goes_ Try.func155 (by kernel_rfl) rfl #[.agg #[.int .u64 a0_0, .int .u64 a0_1]] (by rfl) rfl rfl (by (try simp only [List.map_toArray, List.map_cons, List.map_nil]); first | done | rfl | (simp only [List.length_drop, List.length_take]; rfl)) ?_
  with_reducible refine (twin_Len.calls a0_0 a0_1 t156 _ A10.out).mono ?_
  rintro e w15 ⟨rfl, hb⟩
  refine ⟨_, rfl, ?_⟩
  have n0_ := bkB BK152 hb
  have n1_ := bkB BK153 hb
  have n2_ := hbS hb
  clear BK152
  clear BK153
  clear HB
  have BK152 := n0_
  have BK153 := n1_
  have HB := n2_
  clear n0_ n1_ n2_
  (try clear hb)
  (try clear hb2)
  (try clear hk)
  (try clear hi)
  refine hK.out _ _ ⟨(blk_cell BK152.out 0).trans rfl, (blk_cell BK152.out 1).trans rfl⟩ (fun hHeld => ?_)
  clear hK K
  refine norm_ (a' := ?_) ?_ ?_
  rotate_left
  ·show Act.put _ (some 17) _ = _
   simp only [Act.put, List.setIfInBounds_toArray, List.set_cons_zero, List.set_cons_succ, i64_w, i32_w]
   rfl
  refine pure_ (i := 7) (N := some 20) (v := ?_) (a' := ?_) #[true, true, true, true, true, true, true, true, false, false, false] rfl rfl (any_of HT_.out (by kernel_rfl)) (fun _ _ _ h => h) (Or.inl ⟨by rfl, ?_⟩) ?_ ?_
  rotate_left
  ·intro w'
   go_simp
   with_reducible rfl
  rotate_left
  ·simp only [Act.put, List.setIfInBounds_toArray, List.set_cons_zero, List.set_cons_succ, i64_w, i32_w]
   rfl
  refine one_ (i := 8) (N := none) #[true, true, true, true, true, true, true, true, true, false, false] rfl rfl (one_of HT_.out (by kernel_rfl)) (by decide) (fun K hK => ?_)
  have hs16 : w15.cell? ⟨gb153, 0, none⟩ = some (.int .u64 0) := (blk_cell BK153.out 0).trans rfl
  have hfs16 := blk_frozen BK153.out 0
  have hns16_0 := NB152_153.out
  have hms16_0 := NB153_152.out
  have hs17 : w15.cell? ⟨gb153, 1, none⟩ = some (.int .u64 0) := (blk_cell BK153.out 1).trans rfl
  have hfs17 := blk_frozen BK153.out 1
  have hns17_0 := NB152_153.out
  have hms17_0 := NB153_152.out
  refine skip_ (w1 := ?_) (by rfl) rfl ?_ ?_
  rotate_left
  ·go_simp
   rfl
  refine hK.out _ _ ⟨((cell_far (p := ⟨gb153, _, none⟩) NB152_153.out _).trans (((cell_far (p := ⟨gb153, _, none⟩) NB152_153.out _).trans (hHeld.1)))), ((cell_far (p := ⟨gb153, _, none⟩) NB152_153.out _).trans (((cell_far (p := ⟨gb153, _, none⟩) NB152_153.out _).trans (hHeld.2))))⟩ (fun hHeld => ?_)
  clear hK K
  refine pure_ (i := 9) (N := some 5) (v := ?_) (a' := ?_) #[true, true, true, true, true, true, true, true, true, true, false] rfl rfl (any_of HT_.out (by kernel_rfl)) (fun _ _ _ h => h) (Or.inl ⟨by rfl, ?_⟩) ?_ ?_
  rotate_left
  ·intro w'
   go_simp
   with_reducible rfl
  rotate_left
  ·simp only [Act.put, List.setIfInBounds_toArray, List.set_cons_zero, List.set_cons_succ, i64_w, i32_w]
   rfl
  refine pure_ (i := 10) (N := some 6) (v := ?_) (a' := ?_) #[true, true, true, true, true, true, true, true, true, true, true] rfl rfl (any_of HT_.out (by kernel_rfl)) (fun _ _ _ h => h) (Or.inl ⟨by rfl, ?_⟩) ?_ ?_
  rotate_left
  ·intro w'
   go_simp
   with_reducible rfl
  rotate_left
  ·simp only [Act.put, List.setIfInBounds_toArray, List.set_cons_zero, List.set_cons_succ, i64_w, i32_w]
   rfl
  refine done_ (done_of HT_.out (by kernel_rfl)) ?_
  try go_wp2
  refine bodyPost_ret (results_ctt rfl _ _ gb153 155 #[.int .u64 t154, .int .u64 t155] (0, 0) _ rfl (bkT BK153) Try.underlying155 rfl (by kernel_rfl)) rfl ?_
  exact ⟨by first | rfl | (simp [errW_none, errW_some] <;> rfl) | (simp only [← hji8]; first | rfl | (simp [errW_none, errW_some] <;> rfl)) | (simp [*, errW_none, errW_some] <;> rfl), hbT⟩

end Go.Proofs.Ytnlbfomlfhigcaa.Q
namespace Go.Proofs.Ytnlbfomlfhigcaa.Q
open Go.RowKit Go.Proofs.YtnlbfomlfhigcaaW.PrintWords Go.Proofs.YtnlbfomlfhigcaaW.PrintLast Go.Proofs.YtnlbfomlfhigcaaW.PrintMore
attribute [local go_sem] max2_int min2_int max_two min_two max_three min_three max_four min_four   -- for this text's walks alone
set_option linter.unusedVariables false
set_option linter.unusedSimpArgs false

theorem eqA155 (d : Nat) (w : World) (x0 y0 : Int) (x1 y1 : Int) :
    (Op.equalIn (d + 2) 155 (.agg #[.int .u64 x0, .int .u64 x1]) (.agg #[.int .u64 y0, .int .u64 y1])).run Try.prog w = .ok (x0 == y0 && (x1 == y1)) w := by
  refine eqA_of Try.underlying155 (by kernel_rfl) ?_
  refine eqf_cons (by rfl) (by go_simp; rfl) (by go_simp; rfl) (by go_simp) ?_
  exact eqf_last (by rfl) (by go_simp; rfl) (by go_simp; rfl) (by go_simp)
end Go.Proofs.Ytnlbfomlfhigcaa.Q
namespace Go.Proofs.Ytnlbfomlfhigcaa.Q
open Go.RowKit Go.Proofs.YtnlbfomlfhigcaaW.PrintWords Go.Proofs.YtnlbfomlfhigcaaW.PrintLast Go.Proofs.YtnlbfomlfhigcaaW.PrintMore
attribute [local go_sem] max2_int min2_int max_two min_two max_three min_three max_four min_four
set_option linter.unusedVariables false
set_option linter.unusedSimpArgs false

def twin_shr.f (a0_0 : Int) (a0_1 : Int) (a1 : Int) : Option (Int × Int) := if a1 ≥ 64 then (if 0 ≤ (wrap64 (a1 - 64)) then (some (0, shr .u64 a0_0 (wrap64 (a1 - 64)))) else (none)) else (if 0 ≤ a1 then (if 0 ≤ (wrap64 (64 - a1)) then (some (shr .u64 a0_0 a1, Go.bits .or .u64 (shr .u64 a0_1 a1) (shl .u64 a0_0 (wrap64 (64 - a1))))) else (none)) else (none))
def twin_shr.T3 : Bool × List (List Nat × List Nat) := (true, [([], []), ([0], [0]), ([], []), ([1, 2], [1, 2]), ([], []), ([4], [4]), ([], []), ([5, 6], [5, 6]), ([], []), ([8], [8]), ([], []), ([10], [10]), ([9, 11], [9, 11]), ([7, 12], [7, 12]), ([3, 13], [3, 13]), ([14, 0, 1, 2, 3, 4, 5, 6, 7, 8, 9, 10, 11, 12, 13, 14], [14])])
def twin_shr.B3 : List Nat := [0, 1, 0, 7, 0, 16, 0, 112, 0, 256, 0, 1024, 3840, 8176, 16383, 32767]
theorem twin_shr.tab3 : rtab .any (opsOf Try.f166 3) = twin_shr.T3 := by kernel_rfl
theorem twin_shr.bits3 : waitsOk twin_shr.T3.2 twin_shr.B3 = true := by kernel_rfl
set_option maxHeartbeats 8000000 in
set_option maxRecDepth 100000 in
theorem twin_shr.calls (a0_0 : Int) (a0_1 : Int) (a1 : Int) (r1 : Int) (r2 : Int) (w : World) (h : twin_shr.f a0_0 a0_1 a1 = some (r1, r2)) :
  Calls Try.prog 166 #[.agg #[.int .u64 a0_0, .int .u64 a0_1], .int .i64 a1] w fun e w' => e = .returned (.agg #[.int .u64 r1, .int .u64 r2]) ∧ Below w.heap.size w w' := by
 have hu155 := Try.underlying155
 have HB := Aside0.mk (Below.refl w.heap.size w)
 have H := h
 clear h
 unfold twin_shr.f at H
 by_cases c3 : a1 ≥ 64
 ·rw [if_pos c3] at H
  have c3b0 : decide (64 ≤ a1) = true := decide_eq_true c3
  clear c3
  obtain ⟨ji4, hji4⟩ : ∃ j_ : Int, (wrap64 (a1 - 64)) = j_ := ⟨_, rfl⟩
  replace H : (if 0 ≤ (ji4) then (some (0, shr .u64 a0_0 (ji4))) else (none)) = some (r1, r2) := by first | (rw [hji4] at H; exact H) | (simp only [hji4] at H ⊢; exact H)
  have hji4w : (IntKind.i64.wrap (a1 - 64)) = ji4 := (i64_w _).trans hji4
  by_cases c5 : 0 ≤ (ji4)
  ·rw [if_pos c5] at H
   have c5b0 := eq_true c5
   have c5b1 : decide (0 ≤ (ji4)) = true := decide_eq_true c5
   clear c5
   obtain ⟨ji6, hji6⟩ : ∃ j_ : Int, (shr .u64 a0_0 (ji4)) = j_ := ⟨_, rfl⟩
   replace H : (some (0, ji6)) = some (r1, r2) := by first | (rw [hji6] at H; exact H) | (simp only [hji6] at H ⊢; exact H)
   have hji6_ : (a0_0 / 2 ^ min (ji4).toNat 64) = ji6 := hji6
   have hji6z : (ji4) ≤ 64 → (a0_0 / 2 ^ (ji4).toNat) = ji6 := shr_small hji6
   simp only [Option.some.injEq, Prod.mk.injEq] at H
   obtain ⟨rfl, rfl⟩ := H
   go_enter Try.func166, Try.ntmps166
   go_wp2_with (first | (refine boxA 2 (#[.int .u64 a0_0, .int .u64 a0_1]) 155 ?_; intro gb157 hg w7 BK157 hb; have GW157 := geT hg; have GE157 := GW157; replace HB := hbS hb; clear hb hg) | (refine boxA 4 (#[.int .u64 0, .int .u64 0]) 155 ?_; intro gb158 hg w8 BK158 hb; have GW158 := geT hg; have GE158 := GW158; obtain ⟨NB157_158, NB158_157⟩ := neT BK157 hg; replace BK157 := bkB BK157 hb; replace HB := hbS hb; clear hb hg; have hnb9 := NB157_158.out; have hnc9 := NB158_157.out; obtain ⟨z10_0, z10_1, y10_0, y10_1⟩ := cz2 BK157; obtain ⟨z11_0, z11_1, y11_0, y11_1⟩ := cz2 BK158))
   refine bodyPost_ret (results_cell_row rfl _ _ gb158 155 #[.int .u64 0, .int .u64 ji6] (0, 0) _ rfl (bkT BK158) Try.underlying155 rfl (by kernel_rfl)) rfl ?_
   exact ⟨by first | rfl | (simp [errW_none, errW_some] <;> rfl) | (simp only [← hji4, ← hji6]; first | rfl | (simp [errW_none, errW_some] <;> rfl)) | (simp [*, errW_none, errW_some] <;> rfl), hbT⟩
  ·rw [if_neg c5] at H
   exact absurd H (by simp)
 ·rw [if_neg c3] at H
  have c3b0 : decide (64 ≤ a1) = false := decide_eq_false c3
  clear c3
  by_cases c12 : 0 ≤ a1
  ·rw [if_pos c12] at H
   have c12b0 := eq_true c12
   have c12b1 : decide (0 ≤ a1) = true := decide_eq_true c12
   clear c12
   obtain ⟨ji13, hji13⟩ : ∃ j_ : Int, (shr .u64 a0_0 a1) = j_ := ⟨_, rfl⟩
   replace H : (if 0 ≤ (wrap64 (64 - a1)) then (some (ji13, Go.bits .or .u64 (shr .u64 a0_1 a1) (shl .u64 a0_0 (wrap64 (64 - a1))))) else (none)) = some (r1, r2) := by first | (rw [hji13] at H; exact H) | (simp only [hji13] at H ⊢; exact H)
   have hji13_ : (a0_0 / 2 ^ min a1.toNat 64) = ji13 := hji13
   have hji13z : a1 ≤ 64 → (a0_0 / 2 ^ a1.toNat) = ji13 := shr_small hji13
   have c14b0 := eq_true (of_decide_eq_true (by first | (with_reducible assumption) | assumption) : 0 ≤ a1)
   obtain ⟨ji15, hji15⟩ : ∃ j_ : Int, (shr .u64 a0_1 a1) = j_ := ⟨_, rfl⟩
   replace H : (if 0 ≤ (wrap64 (64 - a1)) then (some (ji13, Go.bits .or .u64 (ji15) (shl .u64 a0_0 (wrap64 (64 - a1))))) else (none)) = some (r1, r2) := by first | (rw [hji15] at H; exact H) | (simp only [hji15] at H ⊢; exact H)
   have hji15_ : (a0_1 / 2 ^ min a1.toNat 64) = ji15 := hji15
   have hji15z : a1 ≤ 64 → (a0_1 / 2 ^ a1.toNat) = ji15 := shr_small hji15
   obtain ⟨ji16, hji16⟩ : ∃ j_ : Int, (wrap64 (64 - a1)) = j_ := ⟨_, rfl⟩
   replace H : (if 0 ≤ (ji16) then (some (ji13, Go.bits .or .u64 (ji15) (shl .u64 a0_0 (ji16)))) else (none)) = some (r1, r2) := by first | (rw [hji16] at H; exact H) | (simp only [hji16] at H ⊢; exact H)
   have hji16w : (IntKind.i64.wrap (64 - a1)) = ji16 := (i64_w _).trans hji16
   by_cases c17 : 0 ≤ (ji16)
   ·rw [if_pos c17] at H
    have c17b0 := eq_true c17
    have c17b1 : decide (0 ≤ (ji16)) = true := decide_eq_true c17
    clear c17
    obtain ⟨ji18, hji18⟩ : ∃ j_ : Int, (shl .u64 a0_0 (ji16)) = j_ := ⟨_, rfl⟩
    replace H : (some (ji13, Go.bits .or .u64 (ji15) (ji18))) = some (r1, r2) := by first | (rw [hji18] at H; exact H) | (simp only [hji18] at H ⊢; exact H)
    have hji18_ : (IntKind.u64.wrap (a0_0 * 2 ^ min (ji16).toNat 64)) = ji18 := hji18
    have hji18z : (ji16) ≤ 64 → (IntKind.u64.wrap (a0_0 * 2 ^ (ji16).toNat)) = ji18 := shl_small hji18
    simp only [Option.some.injEq, Prod.mk.injEq] at H
    obtain ⟨rfl, rfl⟩ := H
    go_enter Try.func166, Try.ntmps166
    try go_wp2_with (first | (refine boxA 2 (#[.int .u64 a0_0, .int .u64 a0_1]) 155 ?_; intro gb157 hg w19 BK157 hb; have GW157 := geT hg; have GE157 := GW157; replace HB := hbS hb; clear hb hg) | (refine boxA 4 (#[.int .u64 0, .int .u64 0]) 155 ?_; intro gb158 hg w20 BK158 hb; have GW158 := geT hg; have GE158 := GW158; obtain ⟨NB157_158, NB158_157⟩ := neT BK157 hg; replace BK157 := bkB BK157 hb; replace HB := hbS hb; clear hb hg))
    have n0_ := Aside0.mk (blk_drew BK157.out)
    have n1_ := Aside0.mk (blk_drew BK158.out)
    have n2_ := Aside0.mk (below_drew1 HB.out)
    clear BK157
    clear BK158
    clear HB
    have BK157 := n0_
    have BK158 := n1_
    have HB := n2_
    clear n0_ n1_ n2_
    refine start_ (n := 16) (S := fun w' => w'.cell? ⟨gb157, 0, none⟩ = some (.int .u64 a0_0) ∧ w'.cell? ⟨gb157, 1, none⟩ = some (.int .u64 a0_1)) (ds := []) #[false, false, false, false, false, false, false, false, false, false, false, false, false, false, false, false] (by kernel_rfl) rfl rfl ⟨(blk_cell BK157.out 0).trans rfl, (blk_cell BK157.out 1).trans rfl⟩ (fun hHeld => ?_); refine with_tabW twin_shr.tab3 twin_shr.bits3 (fun HT_ HW_ => ?_)
    generalize w20.drew = w21 at BK157 BK158 HB hHeld ⊢
    refine pure_ (i := 0) (N := some 13) (v := ?_) (a' := ?_) #[true, false, false, false, false, false, false, false, false, false, false, false, false, false, false, false] rfl rfl (any_of HT_.out (by kernel_rfl)) (fun _ _ _ h => h) (Or.inl ⟨by rfl, ?_⟩) ?_ ?_
    rotate_left
    ·intro w'
     go_simp
     with_reducible rfl
    rotate_left
    ·simp only [Act.put, List.setIfInBounds_toArray, List.set_cons_zero, List.set_cons_succ, i64_w, i32_w]
     rfl
    refine pure_ (i := 2) (N := some 15) (v := ?_) (a' := ?_) #[true, false, true, false, false, false, false, false, false, false, false, false, false, false, false, false] rfl rfl (any_of HT_.out (by kernel_rfl)) (fun _ _ _ h => h) (Or.inl ⟨by rfl, ?_⟩) ?_ ?_
    rotate_left
    ·intro w'
     go_simp
     with_reducible rfl
    rotate_left
    ·simp only [Act.put, List.setIfInBounds_toArray, List.set_cons_zero, List.set_cons_succ, i64_w, i32_w]
     rfl
    refine pure_ (i := 4) (N := some 17) (v := ?_) (a' := ?_) #[true, false, true, false, true, false, false, false, false, false, false, false, false, false, false, false] rfl rfl (any_of HT_.out (by kernel_rfl)) (fun _ _ _ h => h) (Or.inl ⟨by rfl, ?_⟩) ?_ ?_
    rotate_left
    ·intro w'
     go_simp
     with_reducible rfl
    rotate_left
    ·simp only [Act.put, List.setIfInBounds_toArray, List.set_cons_zero, List.set_cons_succ, i64_w, i32_w]
     rfl
    refine pure_ (i := 6) (N := some 19) (v := ?_) (a' := ?_) #[true, false, true, false, true, false, true, false, false, false, false, false, false, false, false, false] rfl rfl (any_of HT_.out (by kernel_rfl)) (fun _ _ _ h => h) (Or.inl ⟨by rfl, ?_⟩) ?_ ?_
    rotate_left
    ·intro w'
     go_simp
     with_reducible rfl
    rotate_left
    ·simp only [Act.put, List.setIfInBounds_toArray, List.set_cons_zero, List.set_cons_succ, i64_w, i32_w]
     rfl
    refine pure_ (i := 8) (N := some 21) (v := ?_) (a' := ?_) #[true, false, true, false, true, false, true, false, true, false, false, false, false, false, false, false] rfl rfl (any_of HT_.out (by kernel_rfl)) (fun _ _ _ h => h) (Or.inl ⟨by rfl, ?_⟩) ?_ ?_
    rotate_left
    ·intro w'
     go_simp
     with_reducible rfl
    rotate_left
    ·simp only [Act.put, List.setIfInBounds_toArray, List.set_cons_zero, List.set_cons_succ, i64_w, i32_w]
     rfl
    refine pure_ (i := 10) (N := some 23) (v := ?_) (a' := ?_) #[true, false, true, false, true, false, true, false, true, false, true, false, false, false, false, false] rfl rfl (any_of HT_.out (by kernel_rfl)) (fun _ _ _ h => h) (Or.inl ⟨by rfl, ?_⟩) ?_ ?_
    rotate_left
    ·intro w'
     go_simp
     with_reducible rfl
    rotate_left
    ·simp only [Act.put, List.setIfInBounds_toArray, List.set_cons_zero, List.set_cons_succ, i64_w, i32_w]
     rfl
    refine pure_ (i := 11) (N := some 24) (v := ?_) (a' := ?_) #[true, false, true, false, true, false, true, false, true, false, true, true, false, false, false, false] rfl rfl (any_of HT_.out (by kernel_rfl)) (fun _ _ _ h => h) (Or.inl ⟨by rfl, ?_⟩) ?_ ?_
    rotate_left
    ·intro w'
     go_simp
     with_reducible rfl
    rotate_left
    ·simp only [Act.put, List.setIfInBounds_toArray, List.set_cons_zero, List.set_cons_succ, i64_w, i32_w]
     rfl
    refine take_ (i := 1) (N := some 14) (v := ?_) (a' := ?_) #[true, true, true, false, true, false, true, false, true, false, true, true, false, false, false, false] rfl rfl (take_ofW HT_.out HW_.out (by kernel_rfl)) (fun _ _ _ h => h) (Or.inl ⟨by rfl, ?_⟩) hHeld ?_ ?_
    rotate_left
    ·rintro w' ⟨s0, s1⟩
     go_simp
     with_reducible rfl
    rotate_left
    ·simp only [Act.put, List.setIfInBounds_toArray, List.set_cons_zero, List.set_cons_succ, i64_w, i32_w]
     rfl
    refine pure_ (i := 3) (N := some 16) (v := ?_) (a' := ?_) #[true, true, true, true, true, false, true, false, true, false, true, true, false, false, false, false] rfl rfl (any_of HT_.out (by kernel_rfl)) (fun _ _ _ h => h) (Or.inl ⟨by rfl, ?_⟩) ?_ ?_
    rotate_left
    ·intro w'
     go_simp
     with_reducible rfl
    rotate_left
    ·simp only [Act.put, List.setIfInBounds_toArray, List.set_cons_zero, List.set_cons_succ, i64_w, i32_w]
     rfl
    refine take_ (i := 5) (N := some 18) (v := ?_) (a' := ?_) #[true, true, true, true, true, true, true, false, true, false, true, true, false, false, false, false] rfl rfl (take_ofW HT_.out HW_.out (by kernel_rfl)) (fun _ _ _ h => h) (Or.inl ⟨by rfl, ?_⟩) hHeld ?_ ?_
    rotate_left
    ·rintro w' ⟨s0, s1⟩
     go_simp
     with_reducible rfl
    rotate_left
    ·simp only [Act.put, List.setIfInBounds_toArray, List.set_cons_zero, List.set_cons_succ, i64_w, i32_w]
     rfl
    refine pure_ (i := 7) (N := some 20) (v := ?_) (a' := ?_) #[true, true, true, true, true, true, true, true, true, false, true, true, false, false, false, false] rfl rfl (any_of HT_.out (by kernel_rfl)) (fun _ _ _ h => h) (Or.inl ⟨by rfl, ?_⟩) ?_ ?_
    rotate_left
    ·intro w'
     go_simp
     with_reducible rfl
    rotate_left
    ·simp only [Act.put, List.setIfInBounds_toArray, List.set_cons_zero, List.set_cons_succ, i64_w, i32_w]
     rfl
    refine take_ (i := 9) (N := some 22) (v := ?_) (a' := ?_) #[true, true, true, true, true, true, true, true, true, true, true, true, false, false, false, false] rfl rfl (take_ofW HT_.out HW_.out (by kernel_rfl)) (fun _ _ _ h => h) (Or.inl ⟨by rfl, ?_⟩) hHeld ?_ ?_
    rotate_left
    ·rintro w' ⟨s0, s1⟩
     go_simp
     with_reducible rfl
    rotate_left
    ·simp only [Act.put, List.setIfInBounds_toArray, List.set_cons_zero, List.set_cons_succ, i64_w, i32_w]
     rfl
    refine pure_ (i := 12) (N := some 25) (v := ?_) (a' := ?_) #[true, true, true, true, true, true, true, true, true, true, true, true, true, false, false, false] rfl rfl (any_of HT_.out (by kernel_rfl)) (fun _ _ _ h => h) (Or.inl ⟨by rfl, ?_⟩) ?_ ?_
    rotate_left
    ·intro w'
     go_simp
     with_reducible rfl
    rotate_left
    ·simp only [Act.put, List.setIfInBounds_toArray, List.set_cons_zero, List.set_cons_succ, i64_w, i32_w]
     rfl
    refine pure_ (i := 13) (N := some 26) (v := ?_) (a' := ?_) #[true, true, true, true, true, true, true, true, true, true, true, true, true, true, false, false] rfl rfl (any_of HT_.out (by kernel_rfl)) (fun _ _ _ h => h) (Or.inl ⟨by rfl, ?_⟩) ?_ ?_
    rotate_left
    ·intro w'
     go_simp
     with_reducible rfl
    rotate_left
    ·simp only [Act.put, List.setIfInBounds_toArray, List.set_cons_zero, List.set_cons_succ, i64_w, i32_w]
     rfl
    refine pure_ (i := 14) (N := some 27) (v := ?_) (a' := ?_) #[true, true, true, true, true, true, true, true, true, true, true, true, true, true, true, false] rfl rfl (any_of HT_.out (by kernel_rfl)) (fun _ _ _ h => h) (Or.inl ⟨by rfl, ?_⟩) ?_ ?_
    rotate_left
    ·intro w'
     go_simp
     with_reducible rfl
    rotate_left
    ·simp only [Act.put, List.setIfInBounds_toArray, List.set_cons_zero, List.set_cons_succ, i64_w, i32_w]
     rfl
    refine one_ (i := 15) (N := none) #[true, true, true, true, true, true, true, true, true, true, true, true, true, true, true, true] rfl rfl (one_of HT_.out (by kernel_rfl)) (by decide) (fun K hK => ?_)
    have hs22 : w21.cell? ⟨gb158, 0, none⟩ = some (.int .u64 0) := (blk_cell BK158.out 0).trans rfl
    have hfs22 := blk_frozen BK158.out 0
    have hns22_0 := NB157_158.out
    have hms22_0 := NB158_157.out
    have hs23 : w21.cell? ⟨gb158, 1, none⟩ = some (.int .u64 0) := (blk_cell BK158.out 1).trans rfl
    have hfs23 := blk_frozen BK158.out 1
    have hns23_0 := NB157_158.out
    have hms23_0 := NB158_157.out
    refine skip_ (w1 := ?_) (by rfl) rfl ?_ ?_
    rotate_left
    ·go_simp
     rfl
    refine hK.out _ _ ⟨((cell_far (p := ⟨gb158, _, none⟩) NB157_158.out _).trans (((cell_far (p := ⟨gb158, _, none⟩) NB157_158.out _).trans (hHeld.1)))), ((cell_far (p := ⟨gb158, _, none⟩) NB157_158.out _).trans (((cell_far (p := ⟨gb158, _, none⟩) NB157_158.out _).trans (hHeld.2))))⟩ (fun hHeld => ?_)
    clear hK K
    refine done_ (done_of HT_.out (by kernel_rfl)) ?_
    try go_wp2
    refine bodyPost_ret (results_cell_row rfl _ _ gb158 155 #[.int .u64 ji13, .int .u64 (Go.bits .or .u64 (ji15) (ji18))] (0, 0) _ rfl (bkT BK158) Try.underlying155 rfl (by kernel_rfl)) rfl ?_
    exact ⟨by first | rfl | (simp [errW_none, errW_some] <;> rfl) | (simp only [← hji13, ← hji15, ← hji16, ← hji18]; first | rfl | (simp [errW_none, errW_some] <;> rfl)) | (simp [*, errW_none, errW_some] <;> rfl), hbT⟩
   ·rw [if_neg c17] at H
    exact absurd H (by simp)
  ·rw [if_neg c12] at H
   exact absurd H (by simp)

end Go.Proofs.Ytnlbfomlfhigcaa.Q
namespace Go.Proofs.Ytnlbfomlfhigcaa.Q
open Go.RowKit Go.Proofs.YtnlbfomlfhigcaaW.PrintWords Go.Proofs.YtnlbfomlfhigcaaW.PrintLast Go.Proofs.YtnlbfomlfhigcaaW.PrintMore
attribute [local go_sem] max2_int min2_int max_two min_two max_three min_three max_four min_four
set_option linter.unusedVariables false
set_option linter.unusedSimpArgs false

attribute [local go_sem high] eqA155
def twin_Shr.f (a0_0 : Int) (a0_1 : Int) (a1 : Int) : Option (Int × Int × Bool × Option Int) := if a1 < 0 then (some (0, 0, false, some 1)) else ((twin_shr.f a0_0 a0_1 (mn a1 128)).bind fun bt161 => ((twin_shl.f bt161.1 bt161.2 (mn a1 128)).bind fun bt164 => (some (bt161.1, bt161.2, (!(bt164.1 == a0_0) || (!(bt164.2 == a0_1))), none))))
def twin_Shr.T5 : Bool × List (List Nat × List Nat) := (true, [([], []), ([], []), ([], []), ([1, 2], [1, 2]), ([], []), ([3, 4], [3, 4]), ([0, 3, 0], [0]), ([5, 6, 0, 1, 2, 3, 4, 5, 6], [5]), ([7, 0, 1, 2, 3, 4, 5, 6, 7], [])])
def twin_Shr.B5 : List Nat := [0, 0, 0, 6, 0, 30, 15, 127, 255]
theorem twin_Shr.tab5 : rtab .any (opsOf Try.f156 5) = twin_Shr.T5 := by kernel_rfl
theorem twin_Shr.bits5 : waitsOk twin_Shr.T5.2 twin_Shr.B5 = true := by kernel_rfl
set_option maxHeartbeats 8000000 in
set_option maxRecDepth 100000 in
theorem twin_Shr.calls (a0_0 : Int) (a0_1 : Int) (a1 : Int) (r1 : Int) (r2 : Int) (r3 : Bool) (r4 : Option Int) (w : World) (h : twin_Shr.f a0_0 a0_1 a1 = some (r1, r2, r3, r4)) :
  Calls Try.prog 156 #[.agg #[.int .u64 a0_0, .int .u64 a0_1], .int .i64 a1] w fun e w' => e = .returned (.tuple #[.agg #[.int .u64 r1, .int .u64 r2], .bool r3, errW r4]) ∧ Below w.heap.size w w' := by
 have hu155 := Try.underlying155
 have hu43 := Try.underlying43
 have hu82 := Try.underlying82
 have HB := Aside0.mk (Below.refl w.heap.size w)
 have H := h
 clear h
 unfold twin_Shr.f at H
 by_cases c3 : a1 < 0
 ·rw [if_pos c3] at H
  have c3b0 : decide (a1 < 0) = true := decide_eq_true c3
  clear c3
  simp only [Option.some.injEq, Prod.mk.injEq] at H
  obtain ⟨rfl, rfl, rfl, rfl⟩ := H
  go_enter Try.func156, Try.ntmps156
  go_wp2_with (first | (refine boxA 2 (#[.int .u64 a0_0, .int .u64 a0_1]) 155 ?_; intro gb159 hg w4 BK159 hb; have GW159 := geT hg; have GE159 := GW159; replace HB := hbS hb; clear hb hg) | (refine boxA 4 (#[.int .u64 0, .int .u64 0]) 155 ?_; intro gb160 hg w5 BK160 hb; have GW160 := geT hg; have GE160 := GW160; obtain ⟨NB159_160, NB160_159⟩ := neT BK159 hg; replace BK159 := bkB BK159 hb; replace HB := hbS hb; clear hb hg; have hnb6 := NB160_159.out; have hnc6 := NB159_160.out; obtain ⟨z7_0, z7_1, y7_0, y7_1⟩ := cz2 BK160))
  refine bodyPost_ret (results_ctt rfl _ _ gb160 155 #[.int .u64 0, .int .u64 0] (0, 0) _ rfl (bkT BK160) Try.underlying155 rfl (by kernel_rfl)) rfl ?_
  exact ⟨reT, hbT⟩
 ·rw [if_neg c3] at H
  have c3b0 : decide (a1 < 0) = false := decide_eq_false c3
  clear c3
  obtain ⟨ji8, hji8⟩ : ∃ j_ : Int, (mn a1 128) = j_ := ⟨_, rfl⟩
  replace H : ((twin_shr.f a0_0 a0_1 (ji8)).bind fun bt161 => ((twin_shl.f bt161.1 bt161.2 (ji8)).bind fun bt164 => (some (bt161.1, bt161.2, (!(bt164.1 == a0_0) || (!(bt164.2 == a0_1))), none)))) = some (r1, r2, r3, r4) := by first | (rw [hji8] at H; exact H) | (simp only [hji8] at H ⊢; exact H)
  (try (have hji8h : ji8 ≤ 128 := by (rw [← hji8]; unfold mn; (repeat' split) <;> omega)))
  (try (have hji8g : ji8 ≤ 64 := by omega))
  have hji8_ : (if 128 < a1 then 128 else a1) = ji8 := hji8
  replace H := Option.bind_eq_some_iff.mp H
  obtain ⟨⟨t161, t162⟩, A90, H⟩ := H
  try dsimp only at H
  have A9 := Aside0.mk A90
  clear A90
  replace H := Option.bind_eq_some_iff.mp H
  obtain ⟨⟨t164, t165⟩, A100, H⟩ := H
  try dsimp only at H
  have A10 := Aside0.mk A100
  clear A100
  simp only [Option.some.injEq, Prod.mk.injEq] at H
  obtain ⟨rfl, rfl, rfl, rfl⟩ := H
  go_enter Try.func156, Try.ntmps156
  try go_wp2_with (first | (refine boxA 2 (#[.int .u64 a0_0, .int .u64 a0_1]) 155 ?_; intro gb159 hg w11 BK159 hb; have GW159 := geT hg; have GE159 := GW159; replace HB := hbS hb; clear hb hg) | (refine boxA 4 (#[.int .u64 0, .int .u64 0]) 155 ?_; intro gb160 hg w12 BK160 hb; have GW160 := geT hg; have GE160 := GW160; obtain ⟨NB159_160, NB160_159⟩ := neT BK159 hg; replace BK159 := bkB BK159 hb; replace HB := hbS hb; clear hb hg; have hnb13 := NB159_160.out; have hnc13 := NB160_159.out; obtain ⟨z14_0, z14_1, y14_0, y14_1⟩ := cz2 BK159) | ((with_reducible refine gate_callee (f := 166) rfl ?_); refine goesL_ (some 16) rfl rfl Try.func166 (by kernel_rfl) rfl #[.agg #[.int .u64 a0_0, .int .u64 a0_1], .int .i64 ji8] rfl (by (try simp only [List.map_toArray, List.map_cons, List.map_nil]); first | done | (simp only [hji8]; rfl) | rfl | (simp only [List.length_drop, List.length_take]; rfl)) ?_; (with_reducible refine (twin_shr.calls a0_0 a0_1 ji8 t161 t162 _ A9.out).mono ?_); rintro e w15 ⟨rfl, hb⟩; refine ⟨_, rfl, ?_⟩; replace BK159 := bkB BK159 hb; replace BK160 := bkB BK160 hb; replace HB := hbS hb; (try clear hb); (try clear hb2); (try clear hk); (try clear hi)) | (refine boxA 7 (#[.int .u64 0, .int .u64 0]) 155 ?_; intro gb163 hg w16 BK163 hb; have GW163 := geT hg; have GE163 := GW163; obtain ⟨NB159_163, NB163_159⟩ := neT BK159 hg; obtain ⟨NB160_163, NB163_160⟩ := neT BK160 hg; replace BK159 := bkB BK159 hb; replace BK160 := bkB BK160 hb; replace HB := hbS hb; clear hb hg; have hnb17 := NB163_159.out; have hnc17 := NB159_163.out; have hnb18 := NB163_160.out; have hnc18 := NB160_163.out; obtain ⟨z19_0, z19_1, y19_0, y19_1⟩ := cz2 BK163))
  have n0_ : Aside0 (((w16.setCell ⟨gb163, 0, none⟩ (.int .u64 t161)).setCell ⟨gb163, 1, none⟩ (.int .u64 t162)).heap[gb159]? = some (.cells #[.int .u64 a0_0, .int .u64 a0_1] 155 (0, 0))) := ⟨bkT BK159⟩
  have n1_ : Aside0 (((w16.setCell ⟨gb163, 0, none⟩ (.int .u64 t161)).setCell ⟨gb163, 1, none⟩ (.int .u64 t162)).heap[gb160]? = some (.cells #[.int .u64 0, .int .u64 0] 155 (0, 0))) := ⟨bkT BK160⟩
  have n2_ : Aside0 (((w16.setCell ⟨gb163, 0, none⟩ (.int .u64 t161)).setCell ⟨gb163, 1, none⟩ (.int .u64 t162)).heap[gb163]? = some (.cells #[.int .u64 t161, .int .u64 t162] 155 (0, 0))) := ⟨bkT BK163⟩
  have n3_ : Aside0 (Below w.heap.size w ((w16.setCell ⟨gb163, 0, none⟩ (.int .u64 t161)).setCell ⟨gb163, 1, none⟩ (.int .u64 t162))) := ⟨hbT⟩
  (try clear BK159)
  (try clear BK160)
  (try clear BK163)
  (try clear HB)
  generalize ((w16.setCell ⟨gb163, 0, none⟩ (.int .u64 t161)).setCell ⟨gb163, 1, none⟩ (.int .u64 t162)) = w20 at n0_ n1_ n2_ n3_ ⊢
  have BK159 := n0_
  have BK160 := n1_
  have BK163 := n2_
  have HB := n3_
  clear n0_ n1_ n2_ n3_
  have n0_ := Aside0.mk (blk_drew BK159.out)
  have n1_ := Aside0.mk (blk_drew BK160.out)
  have n2_ := Aside0.mk (blk_drew BK163.out)
  have n3_ := Aside0.mk (below_drew1 HB.out)
  clear BK159
  clear BK160
  clear BK163
  clear HB
  have BK159 := n0_
  have BK160 := n1_
  have BK163 := n2_
  have HB := n3_
  clear n0_ n1_ n2_ n3_
  refine start_ (n := 9) (S := fun w' => w'.cell? ⟨gb163, 0, none⟩ = some (.int .u64 t161) ∧ w'.cell? ⟨gb163, 1, none⟩ = some (.int .u64 t162) ∧ w'.cell? ⟨gb159, 0, none⟩ = some (.int .u64 a0_0) ∧ w'.cell? ⟨gb159, 1, none⟩ = some (.int .u64 a0_1)) (ds := []) #[false, false, false, false, false, false, false, false, false] (by kernel_rfl) rfl rfl ⟨(blk_cell BK163.out 0).trans rfl, (blk_cell BK163.out 1).trans rfl, (blk_cell BK159.out 0).trans rfl, (blk_cell BK159.out 1).trans rfl⟩ (fun hHeld => ?_); refine with_tabW twin_Shr.tab5 twin_Shr.bits5 (fun HT_ HW_ => ?_)
  generalize w20.drew = w21 at BK159 BK160 BK163 HB hHeld ⊢
  refine pure_ (i := 2) (N := some 19) (v := ?_) (a' := ?_) #[false, false, true, false, false, false, false, false, false] rfl rfl (any_of HT_.out (by kernel_rfl)) (fun _ _ _ h => h) (Or.inl ⟨by rfl, ?_⟩) ?_ ?_
  rotate_left
  ·intro w'
   go_simp
   with_reducible rfl
  rotate_left
  ·simp only [Act.put, List.setIfInBounds_toArray, List.set_cons_zero, List.set_cons_succ, i64_w, i32_w]
   rfl
  refine take_ (i := 0) (N := some 17) (v := ?_) (a' := ?_) #[true, false, true, false, false, false, false, false, false] rfl rfl (take_ofW HT_.out HW_.out (by kernel_rfl)) (fun _ _ _ h => h) (Or.inl ⟨by rfl, ?_⟩) hHeld ?_ ?_
  rotate_left
  ·rintro w' ⟨s0, s1, s2, s3⟩
   go_simp
   with_reducible rfl
  rotate_left
  ·simp only [Act.put, List.setIfInBounds_toArray, List.set_cons_zero, List.set_cons_succ, i64_w, i32_w]
   rfl
  refine take_ (i := 1) (N := some 18) (v := ?_) (a' := ?_) #[true, true, true, false, false, false, false, false, false] rfl rfl (take_ofW HT_.out HW_.out (by kernel_rfl)) (fun _ _ _ h => h) (Or.inl ⟨by rfl, ?_⟩) hHeld ?_ ?_
  rotate_left
  ·rintro w' ⟨s0, s1, s2, s3⟩
   go_simp
   with_reducible rfl
  rotate_left
  ·simp only [Act.put, List.setIfInBounds_toArray, List.set_cons_zero, List.set_cons_succ, i64_w, i32_w]
   rfl
  refine take_ (i := 4) (N := some 21) (v := ?_) (a' := ?_) #[true, true, true, false, true, false, false, false, false] rfl rfl (take_ofW HT_.out HW_.out (by kernel_rfl)) (fun _ _ _ h => h) (Or.inl ⟨by rfl, ?_⟩) hHeld ?_ ?_
  rotate_left
  ·rintro w' ⟨s0, s1, s2, s3⟩
   go_simp
   with_reducible rfl
  rotate_left
  ·simp only [Act.put, List.setIfInBounds_toArray, List.set_cons_zero, List.set_cons_succ, i64_w, i32_w]
   rfl
  refine one_ (i := 3) (N := some 20) #[true, true, true, true, true, false, false, false, false] rfl rfl (one_of HT_.out (by kernel_rfl)) (by decide) (fun K hK => ?_)
  refine goes_ Try.func154 (by kernel_rfl) rfl #[.agg #[.int .u64 t161, .int .u64 t162], .int .i64 ji8] (by rfl) rfl rfl (by (try simp only [List.map_toArray, List.map_cons, List.map_nil]); first | done | (simp only [hji8]; rfl) | rfl | (simp only [List.length_drop, List.length_take]; rfl)) ?_
  with_reducible refine (twin_shl.calls t161 t162 ji8 t164 t165 _ A10.out).mono ?_
  rintro e w22 ⟨rfl, hb⟩
  refine ⟨_, rfl, ?_⟩
  have n0_ := bkB BK159 hb
  have n1_ := bkB BK160 hb
  have n2_ := bkB BK163 hb
  have n3_ := hbS hb
  clear BK159
  clear BK160
  clear BK163
  clear HB
  have BK159 := n0_
  have BK160 := n1_
  have BK163 := n2_
  have HB := n3_
  clear n0_ n1_ n2_ n3_
  (try clear hb)
  (try clear hb2)
  (try clear hk)
  (try clear hi)
  refine hK.out _ _ ⟨(blk_cell BK163.out 0).trans rfl, (blk_cell BK163.out 1).trans rfl, (blk_cell BK159.out 0).trans rfl, (blk_cell BK159.out 1).trans rfl⟩ (fun hHeld => ?_)
  clear hK K
  refine norm_ (a' := ?_) ?_ ?_
  rotate_left
  ·show Act.put _ (some 20) _ = _
   simp only [Act.put, List.setIfInBounds_toArray, List.set_cons_zero, List.set_cons_succ, i64_w, i32_w]
   rfl
  refine pure_ (i := 5) (N := some 22) (v := ?_) (a' := ?_) #[true, true, true, true, true, true, false, false, false] rfl rfl (any_of HT_.out (by kernel_rfl)) (fun _ _ _ h => h) (Or.inl ⟨by rfl, ?_⟩) ?_ ?_
  rotate_left
  ·intro w'
   go_simp
   with_reducible rfl
  rotate_left
  ·simp only [Act.put, List.setIfInBounds_toArray, List.set_cons_zero, List.set_cons_succ, i64_w, i32_w]
   rfl
  refine one_ (i := 6) (N := none) #[true, true, true, true, true, true, true, false, false] rfl rfl (one_of HT_.out (by kernel_rfl)) (by decide) (fun K hK => ?_)
  have hs23 : w22.cell? ⟨gb160, 0, none⟩ = some (.int .u64 0) := (blk_cell BK160.out 0).trans rfl
  have hfs23 := blk_frozen BK160.out 0
  have hns23_0 := NB159_160.out
  have hns23_2 := NB163_160.out
  have hms23_0 := NB160_159.out
  have hms23_2 := NB160_163.out
  have hs24 : w22.cell? ⟨gb160, 1, none⟩ = some (.int .u64 0) := (blk_cell BK160.out 1).trans rfl
  have hfs24 := blk_frozen BK160.out 1
  have hns24_0 := NB159_160.out
  have hns24_2 := NB163_160.out
  have hms24_0 := NB160_159.out
  have hms24_2 := NB160_163.out
  refine skip_ (w1 := ?_) (by rfl) rfl ?_ ?_
  rotate_left
  ·go_simp
   rfl
  refine hK.out _ _ ⟨((cell_far (p := ⟨gb160, _, none⟩) NB163_160.out _).trans (((cell_far (p := ⟨gb160, _, none⟩) NB163_160.out _).trans (hHeld.1)))), ((cell_far (p := ⟨gb160, _, none⟩) NB163_160.out _).trans (((cell_far (p := ⟨gb160, _, none⟩) NB163_160.out _).trans (hHeld.2.1)))), ((cell_far (p := ⟨gb160, _, none⟩) NB159_160.out _).trans (((cell_far (p := ⟨gb160, _, none⟩) NB159_160.out _).trans (hHeld.2.2.1)))), ((cell_far (p := ⟨gb160, _, none⟩) NB159_160.out _).trans (((cell_far (p := ⟨gb160, _, none⟩) NB159_160.out _).trans (hHeld.2.2.2))))⟩ (fun hHeld => ?_)
  clear hK K
  refine pure_ (i := 7) (N := some 5) (v := ?_) (a' := ?_) #[true, true, true, true, true, true, true, true, false] rfl rfl (any_of HT_.out (by kernel_rfl)) (fun _ _ _ h => h) (Or.inl ⟨by rfl, ?_⟩) ?_ ?_
  rotate_left
  ·intro w'
   go_simp
   with_reducible rfl
  rotate_left
  ·simp only [Act.put, List.setIfInBounds_toArray, List.set_cons_zero, List.set_cons_succ, i64_w, i32_w]
   rfl
  refine pure_ (i := 8) (N := some 6) (v := ?_) (a' := ?_) #[true, true, true, true, true, true, true, true, true] rfl rfl (any_of HT_.out (by kernel_rfl)) (fun _ _ _ h => h) (Or.inl ⟨by rfl, ?_⟩) ?_ ?_
  rotate_left
  ·intro w'
   go_simp
   with_reducible rfl
  rotate_left
  ·simp only [Act.put, List.setIfInBounds_toArray, List.set_cons_zero, List.set_cons_succ, i64_w, i32_w]
   rfl
  refine done_ (done_of HT_.out (by kernel_rfl)) ?_
  try go_wp2
  refine bodyPost_ret (results_ctt rfl _ _ gb160 155 #[.int .u64 t161, .int .u64 t162] (0, 0) _ rfl (bkT BK160) Try.underlying155 rfl (by kernel_rfl)) rfl ?_
  exact ⟨by first | rfl | (simp [errW_none, errW_some] <;> rfl) | (simp only [← hji8]; first | rfl | (simp [errW_none, errW_some] <;> rfl)) | (simp [*, errW_none, errW_some] <;> rfl), hbT⟩

end Go.Proofs.Ytnlbfomlfhigcaa.Q
namespace Go.Proofs.Ytnlbfomlfhigcaa.Q
open Go.RowKit Go.Proofs.YtnlbfomlfhigcaaW.PrintWords Go.Proofs.YtnlbfomlfhigcaaW.PrintLast Go.Proofs.YtnlbfomlfhigcaaW.PrintMore
attribute [local go_sem] max2_int min2_int max_two min_two max_three min_three max_four min_four
set_option linter.unusedVariables false
set_option linter.unusedSimpArgs false

def round_under.f (a0_0 : Int) (a0_1 : Int) (a1 : Int) (a2 : Int) (a3 : Bool) : Option (Int × Int × Bool) := (twin_Shr.f a0_0 a0_1 a2).bind fun bt168 => (if 0 ≤ (wrap64 (64 - a2)) then (if a3 = true then (some (Go.bits .or .u64 bt168.1 (shl .u64 a1 (wrap64 (64 - a2))), bt168.2.1, true)) else (some (Go.bits .or .u64 bt168.1 (shl .u64 a1 (wrap64 (64 - a2))), bt168.2.1, bt168.2.2.1))) else (none))
def round_under.T2 : Bool × List (List Nat × List Nat) := (true, [([], []), ([0], [0]), ([], []), ([], []), ([3], [3]), ([2, 4], [2, 4]), ([1, 5], [1, 5]), ([0, 1, 2, 3, 4, 5, 6], []), ([7, 6, 0, 1, 2, 3, 4, 5, 6], [6, 7])])
def round_under.B2 : List Nat := [0, 1, 0, 0, 8, 28, 63, 127, 255]
theorem round_under.tab2 : rtab .any (opsOf Try.f126 2) = round_under.T2 := by kernel_rfl
theorem round_under.bits2 : waitsOk round_under.T2.2 round_under.B2 = true := by kernel_rfl
set_option maxHeartbeats 8000000 in
set_option maxRecDepth 100000 in
theorem round_under.calls (a0_0 : Int) (a0_1 : Int) (a1 : Int) (a2 : Int) (a3 : Bool) (r1 : Int) (r2 : Int) (r3 : Bool) (w : World) (h : round_under.f a0_0 a0_1 a1 a2 a3 = some (r1, r2, r3)) :
  Calls Try.prog 126 #[.agg #[.int .u64 a0_0, .int .u64 a0_1], .int .u64 a1, .int .i64 a2, .bool a3] w fun e w' => e = .returned (.tuple #[.agg #[.int .u64 r1, .int .u64 r2], .bool r3]) ∧ Below w.heap.size w w' := by
 have hu155 := Try.underlying155
 have HB := Aside0.mk (Below.refl w.heap.size w)
 have H := h
 clear h
 unfold round_under.f at H
 replace H := Option.bind_eq_some_iff.mp H
 obtain ⟨⟨t168, t169, t170, t171⟩, A50, H⟩ := H
 try dsimp only at H
 have A5 := Aside0.mk A50
 clear A50
 obtain ⟨ji6, hji6⟩ : ∃ j_ : Int, (wrap64 (64 - a2)) = j_ := ⟨_, rfl⟩
 replace H : (if 0 ≤ (ji6) then (if a3 = true then (some (Go.bits .or .u64 t168 (shl .u64 a1 (ji6)), t169, true)) else (some (Go.bits .or .u64 t168 (shl .u64 a1 (ji6)), t169, t170))) else (none)) = some (r1, r2, r3) := by first | (rw [hji6] at H; exact H) | (simp only [hji6] at H ⊢; exact H)
 (try rw [hji6] at A5)
 have hji6w : (IntKind.i64.wrap (64 - a2)) = ji6 := (i64_w _).trans hji6
 by_cases c7 : 0 ≤ (ji6)
 ·rw [if_pos c7] at H
  have c7b0 := eq_true c7
  have c7b1 : decide (0 ≤ (ji6)) = true := decide_eq_true c7
  clear c7
  obtain ⟨ji8, hji8⟩ : ∃ j_ : Int, (shl .u64 a1 (ji6)) = j_ := ⟨_, rfl⟩
  replace H : (if a3 = true then (some (Go.bits .or .u64 t168 (ji8), t169, true)) else (some (Go.bits .or .u64 t168 (ji8), t169, t170))) = some (r1, r2, r3) := by first | (rw [hji8] at H; exact H) | (simp only [hji8] at H ⊢; exact H)
  (try rw [hji8] at A5)
  have hji8_ : (IntKind.u64.wrap (a1 * 2 ^ min (ji6).toNat 64)) = ji8 := hji8
  have hji8z : (ji6) ≤ 64 → (IntKind.u64.wrap (a1 * 2 ^ (ji6).toNat)) = ji8 := shl_small hji8
  by_cases c9 : a3 = true
  ·subst c9
   rw [if_pos rfl] at H
   simp only [Option.some.injEq, Prod.mk.injEq] at H
   obtain ⟨rfl, rfl, rfl⟩ := H
   go_enter Try.func126, Try.ntmps126
   try go_wp2_with (first | (refine boxA 4 (#[.int .u64 a0_0, .int .u64 a0_1]) 155 ?_; intro gb166 hg w10 BK166 hb; have GW166 := geT hg; have GE166 := GW166; replace HB := hbS hb; clear hb hg) | (refine boxA 8 (#[.int .u64 0, .int .u64 0]) 155 ?_; intro gb167 hg w11 BK167 hb; have GW167 := geT hg; have GE167 := GW167; obtain ⟨NB166_167, NB167_166⟩ := neT BK166 hg; replace BK166 := bkB BK166 hb; replace HB := hbS hb; clear hb hg; have hnb12 := NB166_167.out; have hnc12 := NB167_166.out; obtain ⟨z13_0, z13_1, y13_0, y13_1⟩ := cz2 BK166) | (refine goA (some 16) Try.func156 (twin_Shr.calls a0_0 a0_1 a2 t168 t169 t170 t171 _ A5.out) ?_; intro w14 hb; replace BK166 := bkB BK166 hb; replace BK167 := bkB BK167 hb; replace HB := hbS hb; clear hb; (try simp only [errW_none, errW_some])) | (refine boxA 10 (#[.int .u64 0, .int .u64 0]) 155 ?_; intro gb172 hg w15 BK172 hb; have GW172 := geT hg; have GE172 := GW172; obtain ⟨NB166_172, NB172_166⟩ := neT BK166 hg; obtain ⟨NB167_172, NB172_167⟩ := neT BK167 hg; replace BK166 := bkB BK166 hb; replace BK167 := bkB BK167 hb; replace HB := hbS hb; clear hb hg; have hnb16 := NB172_166.out; have hnc16 := NB166_172.out; have hnb17 := NB172_167.out; have hnc17 := NB167_172.out; obtain ⟨z18_0, z18_1, y18_0, y18_1⟩ := cz2 BK172))
   have n0_ : Aside0 (((w15.setCell ⟨gb172, 0, none⟩ (.int .u64 t168)).setCell ⟨gb172, 1, none⟩ (.int .u64 t169)).heap[gb166]? = some (.cells #[.int .u64 a0_0, .int .u64 a0_1] 155 (0, 0))) := ⟨bkT BK166⟩
   have n1_ : Aside0 (((w15.setCell ⟨gb172, 0, none⟩ (.int .u64 t168)).setCell ⟨gb172, 1, none⟩ (.int .u64 t169)).heap[gb167]? = some (.cells #[.int .u64 0, .int .u64 0] 155 (0, 0))) := ⟨bkT BK167⟩
   have n2_ : Aside0 (((w15.setCell ⟨gb172, 0, none⟩ (.int .u64 t168)).setCell ⟨gb172, 1, none⟩ (.int .u64 t169)).heap[gb172]? = some (.cells #[.int .u64 t168, .int .u64 t169] 155 (0, 0))) := ⟨bkT BK172⟩
   have n3_ : Aside0 (Below w.heap.size w ((w15.setCell ⟨gb172, 0, none⟩ (.int .u64 t168)).setCell ⟨gb172, 1, none⟩ (.int .u64 t169))) := ⟨hbT⟩
   (try clear BK166)
   (try clear BK167)
   (try clear BK172)
   (try clear HB)
   generalize ((w15.setCell ⟨gb172, 0, none⟩ (.int .u64 t168)).setCell ⟨gb172, 1, none⟩ (.int .u64 t169)) = w19 at n0_ n1_ n2_ n3_ ⊢
   have BK166 := n0_
   have BK167 := n1_
   have BK172 := n2_
   have HB := n3_
   clear n0_ n1_ n2_ n3_
   have n0_ := Aside0.mk (blk_drew BK166.out)
   have n1_ := Aside0.mk (blk_drew BK167.out)
   have n2_ := Aside0.mk (blk_drew BK172.out)
   have n3_ := Aside0.mk (below_drew1 HB.out)
   clear BK166
   clear BK167
   clear BK172
   clear HB
   have BK166 := n0_
   have BK167 := n1_
   have BK172 := n2_
   have HB := n3_
   clear n0_ n1_ n2_ n3_
   refine start_ (n := 9) (S := fun w' => w'.cell? ⟨gb172, 0, none⟩ = some (.int .u64 t168) ∧ w'.cell? ⟨gb172, 1, none⟩ = some (.int .u64 t169)) (ds := [8]) #[false, false, false, false, false, false, false, false, false] (by kernel_rfl) rfl rfl ⟨(blk_cell BK172.out 0).trans rfl, (blk_cell BK172.out 1).trans rfl⟩ (fun hHeld => ?_); refine with_tabW round_under.tab2 round_under.bits2 (fun HT_ HW_ => ?_)
   generalize w19.drew = w20 at BK166 BK167 BK172 HB hHeld ⊢
   refine pure_ (i := 0) (N := some 20) (v := ?_) (a' := ?_) #[true, false, false, false, false, false, false, false, false] rfl rfl (any_of HT_.out (by kernel_rfl)) (fun _ _ _ h => h) (Or.inl ⟨by rfl, ?_⟩) ?_ ?_
   rotate_left
   ·intro w'
    go_simp
    with_reducible rfl
   rotate_left
   ·simp only [Act.put, List.setIfInBounds_toArray, List.set_cons_zero, List.set_cons_succ, i64_w, i32_w]
    rfl
   refine pure_ (i := 2) (N := some 22) (v := ?_) (a' := ?_) #[true, false, true, false, false, false, false, false, false] rfl rfl (any_of HT_.out (by kernel_rfl)) (fun _ _ _ h => h) (Or.inl ⟨by rfl, ?_⟩) ?_ ?_
   rotate_left
   ·intro w'
    go_simp
    with_reducible rfl
   rotate_left
   ·simp only [Act.put, List.setIfInBounds_toArray, List.set_cons_zero, List.set_cons_succ, i64_w, i32_w]
    rfl
   refine pure_ (i := 3) (N := some 23) (v := ?_) (a' := ?_) #[true, false, true, true, false, false, false, false, false] rfl rfl (any_of HT_.out (by kernel_rfl)) (fun _ _ _ h => h) (Or.inl ⟨by rfl, ?_⟩) ?_ ?_
   rotate_left
   ·intro w'
    go_simp
    with_reducible rfl
   rotate_left
   ·simp only [Act.put, List.setIfInBounds_toArray, List.set_cons_zero, List.set_cons_succ, i64_w, i32_w]
    rfl
   refine pure_ (i := 4) (N := some 24) (v := ?_) (a' := ?_) #[true, false, true, true, true, false, false, false, false] rfl rfl (any_of HT_.out (by kernel_rfl)) (fun _ _ _ h => h) (Or.inl ⟨by rfl, ?_⟩) ?_ ?_
   rotate_left
   ·intro w'
    go_simp
    with_reducible rfl
   rotate_left
   ·simp only [Act.put, List.setIfInBounds_toArray, List.set_cons_zero, List.set_cons_succ, i64_w, i32_w]
    rfl
   refine pure_ (i := 5) (N := some 25) (v := ?_) (a' := ?_) #[true, false, true, true, true, true, false, false, false] rfl rfl (any_of HT_.out (by kernel_rfl)) (fun _ _ _ h => h) (Or.inl ⟨by rfl, ?_⟩) ?_ ?_
   rotate_left
   ·intro w'
    go_simp
    with_reducible rfl
   rotate_left
   ·simp only [Act.put, List.setIfInBounds_toArray, List.set_cons_zero, List.set_cons_succ, i64_w, i32_w]
    rfl
   refine take_ (i := 1) (N := some 21) (v := ?_) (a' := ?_) #[true, true, true, true, true, true, false, false, false] rfl rfl (take_ofW HT_.out HW_.out (by kernel_rfl)) (fun _ _ _ h => h) (Or.inl ⟨by rfl, ?_⟩) hHeld ?_ ?_
   rotate_left
   ·rintro w' ⟨s0, s1⟩
    go_simp
    with_reducible rfl
   rotate_left
   ·simp only [Act.put, List.setIfInBounds_toArray, List.set_cons_zero, List.set_cons_succ, i64_w, i32_w]
    rfl
   refine pure_ (i := 6) (N := some 26) (v := ?_) (a' := ?_) #[true, true, true, true, true, true, true, false, false] rfl rfl (any_of HT_.out (by kernel_rfl)) (fun _ _ _ h => h) (Or.inl ⟨by rfl, ?_⟩) ?_ ?_
   rotate_left
   ·intro w'
    go_simp
    with_reducible rfl
   rotate_left
   ·simp only [Act.put, List.setIfInBounds_toArray, List.set_cons_zero, List.set_cons_succ, i64_w, i32_w]
    rfl
   refine pure_ (i := 7) (N := some 27) (v := ?_) (a' := ?_) #[true, true, true, true, true, true, true, true, false] rfl rfl (any_of HT_.out (by kernel_rfl)) (fun _ _ _ h => h) (Or.inl ⟨by rfl, ?_⟩) ?_ ?_
   rotate_left
   ·intro w'
    go_simp
    with_reducible rfl
   rotate_left
   ·simp only [Act.put, List.setIfInBounds_toArray, List.set_cons_zero, List.set_cons_succ, i64_w, i32_w]
    rfl
   refine last_ (i := 8) (N := none) #[true, true, true, true, true, true, true, true, true] rfl rfl (one_of HT_.out (by kernel_rfl)) (by decide) (fun K hK => ?_)
   have hs21 : w20.cell? ⟨gb172, 0, none⟩ = some (.int .u64 t168) := (blk_cell BK172.out 0).trans rfl
   have hfs21 := blk_frozen BK172.out 0
   have hns21_0 := NB166_172.out
   have hns21_1 := NB167_172.out
   have hms21_0 := NB172_166.out
   have hms21_1 := NB172_167.out
   refine skip_ (w1 := ?_) (by rfl) rfl ?_ ?_
   rotate_left
   ·go_simp
    rfl
   refine hK.out _ _ ?_
   clear hK K
   refine done_ (done_of HT_.out (by kernel_rfl)) ?_
   obtain ⟨z22_0, z22_1, y22_0, y22_1⟩ := cz2 BK172
   obtain ⟨z23_0, z23_1, y23_0, y23_1⟩ := cz2 BK167
   try go_wp2
   refine bodyPost_ret (results_ct rfl _ _ gb167 155 #[.int .u64 (Go.bits .or .u64 t168 (ji8)), .int .u64 t169] (0, 0) _ rfl (bkT BK167) Try.underlying155 rfl (by kernel_rfl)) rfl ?_
   exact ⟨by first | rfl | (simp [errW_none, errW_some] <;> rfl) | (simp only [← hji6, ← hji8]; first | rfl | (simp [errW_none, errW_some] <;> rfl)) | (simp [*, errW_none, errW_some] <;> rfl), hbT⟩
  ·replace c9 := Bool.eq_false_iff.mpr c9
   subst c9
   rw [if_neg (show ¬ (false = true) by decide)] at H
   simp only [Option.some.injEq, Prod.mk.injEq] at H
   obtain ⟨rfl, rfl, rfl⟩ := H
   go_enter Try.func126, Try.ntmps126
   try go_wp2_with (first | (refine boxA 4 (#[.int .u64 a0_0, .int .u64 a0_1]) 155 ?_; intro gb166 hg w24 BK166 hb; have GW166 := geT hg; have GE166 := GW166; replace HB := hbS hb; clear hb hg) | (refine boxA 8 (#[.int .u64 0, .int .u64 0]) 155 ?_; intro gb167 hg w25 BK167 hb; have GW167 := geT hg; have GE167 := GW167; obtain ⟨NB166_167, NB167_166⟩ := neT BK166 hg; replace BK166 := bkB BK166 hb; replace HB := hbS hb; clear hb hg; have hnb26 := NB166_167.out; have hnc26 := NB167_166.out; obtain ⟨z27_0, z27_1, y27_0, y27_1⟩ := cz2 BK166) | (refine goA (some 16) Try.func156 (twin_Shr.calls a0_0 a0_1 a2 t168 t169 t170 t171 _ A5.out) ?_; intro w28 hb; replace BK166 := bkB BK166 hb; replace BK167 := bkB BK167 hb; replace HB := hbS hb; clear hb; (try simp only [errW_none, errW_some])) | (refine boxA 10 (#[.int .u64 0, .int .u64 0]) 155 ?_; intro gb172 hg w29 BK172 hb; have GW172 := geT hg; have GE172 := GW172; obtain ⟨NB166_172, NB172_166⟩ := neT BK166 hg; obtain ⟨NB167_172, NB172_167⟩ := neT BK167 hg; replace BK166 := bkB BK166 hb; replace BK167 := bkB BK167 hb; replace HB := hbS hb; clear hb hg; have hnb30 := NB172_166.out; have hnc30 := NB166_172.out; have hnb31 := NB172_167.out; have hnc31 := NB167_172.out; obtain ⟨z32_0, z32_1, y32_0, y32_1⟩ := cz2 BK172))
   have n0_ : Aside0 (((w29.setCell ⟨gb172, 0, none⟩ (.int .u64 t168)).setCell ⟨gb172, 1, none⟩ (.int .u64 t169)).heap[gb166]? = some (.cells #[.int .u64 a0_0, .int .u64 a0_1] 155 (0, 0))) := ⟨bkT BK166⟩
   have n1_ : Aside0 (((w29.setCell ⟨gb172, 0, none⟩ (.int .u64 t168)).setCell ⟨gb172, 1, none⟩ (.int .u64 t169)).heap[gb167]? = some (.cells #[.int .u64 0, .int .u64 0] 155 (0, 0))) := ⟨bkT BK167⟩
   have n2_ : Aside0 (((w29.setCell ⟨gb172, 0, none⟩ (.int .u64 t168)).setCell ⟨gb172, 1, none⟩ (.int .u64 t169)).heap[gb172]? = some (.cells #[.int .u64 t168, .int .u64 t169] 155 (0, 0))) := ⟨bkT BK172⟩
   have n3_ : Aside0 (Below w.heap.size w ((w29.setCell ⟨gb172, 0, none⟩ (.int .u64 t168)).setCell ⟨gb172, 1, none⟩ (.int .u64 t169))) := ⟨hbT⟩
   (try clear BK166)
   (try clear BK167)
   (try clear BK172)
   (try clear HB)
   generalize ((w29.setCell ⟨gb172, 0, none⟩ (.int .u64 t168)).setCell ⟨gb172, 1, none⟩ (.int .u64 t169)) = w33 at n0_ n1_ n2_ n3_ ⊢
   have BK166 := n0_
   have BK167 := n1_
   have BK172 := n2_
   have HB := n3_
   clear n0_ n1_ n2_ n3_
   have n0_ := Aside0.mk (blk_drew BK166.out)
   have n1_ := Aside0.mk (blk_drew BK167.out)
   have n2_ := Aside0.mk (blk_drew BK172.out)
   have n3_ := Aside0.mk (below_drew1 HB.out)
   clear BK166
   clear BK167
   clear BK172
   clear HB
   have BK166 := n0_
   have BK167 := n1_
   have BK172 := n2_
   have HB := n3_
   clear n0_ n1_ n2_ n3_
   refine start_ (n := 9) (S := fun w' => w'.cell? ⟨gb172, 0, none⟩ = some (.int .u64 t168) ∧ w'.cell? ⟨gb172, 1, none⟩ = some (.int .u64 t169)) (ds := [8]) #[false, false, false, false, false, false, false, false, false] (by kernel_rfl) rfl rfl ⟨(blk_cell BK172.out 0).trans rfl, (blk_cell BK172.out 1).trans rfl⟩ (fun hHeld => ?_); refine with_tabW round_under.tab2 round_under.bits2 (fun HT_ HW_ => ?_)
   generalize w33.drew = w34 at BK166 BK167 BK172 HB hHeld ⊢
   refine pure_ (i := 0) (N := some 20) (v := ?_) (a' := ?_) #[true, false, false, false, false, false, false, false, false] rfl rfl (any_of HT_.out (by kernel_rfl)) (fun _ _ _ h => h) (Or.inl ⟨by rfl, ?_⟩) ?_ ?_
   rotate_left
   ·intro w'
    go_simp
    with_reducible rfl
   rotate_left
   ·simp only [Act.put, List.setIfInBounds_toArray, List.set_cons_zero, List.set_cons_succ, i64_w, i32_w]
    rfl
   refine pure_ (i := 2) (N := some 22) (v := ?_) (a' := ?_) #[true, false, true, false, false, false, false, false, false] rfl rfl (any_of HT_.out (by kernel_rfl)) (fun _ _ _ h => h) (Or.inl ⟨by rfl, ?_⟩) ?_ ?_
   rotate_left
   ·intro w'
    go_simp
    with_reducible rfl
   rotate_left
   ·simp only [Act.put, List.setIfInBounds_toArray, List.set_cons_zero, List.set_cons_succ, i64_w, i32_w]
    rfl
   refine pure_ (i := 3) (N := some 23) (v := ?_) (a' := ?_) #[true, false, true, true, false, false, false, false, false] rfl rfl (any_of HT_.out (by kernel_rfl)) (fun _ _ _ h => h) (Or.inl ⟨by rfl, ?_⟩) ?_ ?_
   rotate_left
   ·intro w'
    go_simp
    with_reducible rfl
   rotate_left
   ·simp only [Act.put, List.setIfInBounds_toArray, List.set_cons_zero, List.set_cons_succ, i64_w, i32_w]
    rfl
   refine pure_ (i := 4) (N := some 24) (v := ?_) (a' := ?_) #[true, false, true, true, true, false, false, false, false] rfl rfl (any_of HT_.out (by kernel_rfl)) (fun _ _ _ h => h) (Or.inl ⟨by rfl, ?_⟩) ?_ ?_
   rotate_left
   ·intro w'
    go_simp
    with_reducible rfl
   rotate_left
   ·simp only [Act.put, List.setIfInBounds_toArray, List.set_cons_zero, List.set_cons_succ, i64_w, i32_w]
    rfl
   refine pure_ (i := 5) (N := some 25) (v := ?_) (a' := ?_) #[true, false, true, true, true, true, false, false, false] rfl rfl (any_of HT_.out (by kernel_rfl)) (fun _ _ _ h => h) (Or.inl ⟨by rfl, ?_⟩) ?_ ?_
   rotate_left
   ·intro w'
    go_simp
    with_reducible rfl
   rotate_left
   ·simp only [Act.put, List.setIfInBounds_toArray, List.set_cons_zero, List.set_cons_succ, i64_w, i32_w]
    rfl
   refine take_ (i := 1) (N := some 21) (v := ?_) (a' := ?_) #[true, true, true, true, true, true, false, false, false] rfl rfl (take_ofW HT_.out HW_.out (by kernel_rfl)) (fun _ _ _ h => h) (Or.inl ⟨by rfl, ?_⟩) hHeld ?_ ?_
   rotate_left
   ·rintro w' ⟨s0, s1⟩
    go_simp
    with_reducible rfl
   rotate_left
   ·simp only [Act.put, List.setIfInBounds_toArray, List.set_cons_zero, List.set_cons_succ, i64_w, i32_w]
    rfl
   refine pure_ (i := 6) (N := some 26) (v := ?_) (a' := ?_) #[true, true, true, true, true, true, true, false, false] rfl rfl (any_of HT_.out (by kernel_rfl)) (fun _ _ _ h => h) (Or.inl ⟨by rfl, ?_⟩) ?_ ?_
   rotate_left
   ·intro w'
    go_simp
    with_reducible rfl
   rotate_left
   ·simp only [Act.put, List.setIfInBounds_toArray, List.set_cons_zero, List.set_cons_succ, i64_w, i32_w]
    rfl
   refine pure_ (i := 7) (N := some 27) (v := ?_) (a' := ?_) #[true, true, true, true, true, true, true, true, false] rfl rfl (any_of HT_.out (by kernel_rfl)) (fun _ _ _ h => h) (Or.inl ⟨by rfl, ?_⟩) ?_ ?_
   rotate_left
   ·intro w'
    go_simp
    with_reducible rfl
   rotate_left
   ·simp only [Act.put, List.setIfInBounds_toArray, List.set_cons_zero, List.set_cons_succ, i64_w, i32_w]
    rfl
   refine last_ (i := 8) (N := none) #[true, true, true, true, true, true, true, true, true] rfl rfl (one_of HT_.out (by kernel_rfl)) (by decide) (fun K hK => ?_)
   have hs35 : w34.cell? ⟨gb172, 0, none⟩ = some (.int .u64 t168) := (blk_cell BK172.out 0).trans rfl
   have hfs35 := blk_frozen BK172.out 0
   have hns35_0 := NB166_172.out
   have hns35_1 := NB167_172.out
   have hms35_0 := NB172_166.out
   have hms35_1 := NB172_167.out
   refine skip_ (w1 := ?_) (by rfl) rfl ?_ ?_
   rotate_left
   ·go_simp
    rfl
   refine hK.out _ _ ?_
   clear hK K
   refine done_ (done_of HT_.out (by kernel_rfl)) ?_
   obtain ⟨z36_0, z36_1, y36_0, y36_1⟩ := cz2 BK172
   obtain ⟨z37_0, z37_1, y37_0, y37_1⟩ := cz2 BK167
   try go_wp2
   refine bodyPost_ret (results_ct rfl _ _ gb167 155 #[.int .u64 (Go.bits .or .u64 t168 (ji8)), .int .u64 t169] (0, 0) _ rfl (bkT BK167) Try.underlying155 rfl (by kernel_rfl)) rfl ?_
   exact ⟨by first | rfl | (simp [errW_none, errW_some] <;> rfl) | (simp only [← hji6, ← hji8]; first | rfl | (simp [errW_none, errW_some] <;> rfl)) | (simp [*, errW_none, errW_some] <;> rfl), hbT⟩
 ·rw [if_neg c7] at H
  exact absurd H (by simp)

end Go.Proofs.Ytnlbfomlfhigcaa.Q
namespace Go.Proofs.Ytnlbfomlfhigcaa.Q
open Go.RowKit Go.Proofs.YtnlbfomlfhigcaaW.PrintWords Go.Proofs.YtnlbfomlfhigcaaW.PrintLast Go.Proofs.YtnlbfomlfhigcaaW.PrintMore
attribute [local go_sem] max2_int min2_int max_two min_two max_three min_three max_four min_four
set_option linter.unusedVariables false
set_option linter.unusedSimpArgs false

def round_left.j0 : Nat → Int → Bool → Int → Bool → Option (Int)
 | 0, _, _, _, _ => none
 | k + 1, x0, x1, x5, x6 => if x6 = true then (some 3) else (if x0 = x5 then (some 2) else (if x0 > 0 then (some 1) else (if x1 = true then (some 1) else (some 0))))
def round_left.f (k : Nat) (a0 : Int) (a1 : Bool) : Option (Int) := if a0 > 9223372036854775808 then (round_left.j0 k a0 a1 9223372036854775808 (decide (a0 > 9223372036854775808))) else (if a0 = 9223372036854775808 then (round_left.j0 k a0 a1 9223372036854775808 a1) else (round_left.j0 k a0 a1 9223372036854775808 false))
theorem round_left.mono_l : ∀ k, (∀ y0 y1 y2 y3, LeO (round_left.j0 k y0 y1 y2 y3) (round_left.j0 (k + 1) y0 y1 y2 y3))
 | 0 => fun _ _ _ _ r h => by simp [round_left.j0] at h
 | k + 1 => by
  have ih0 := round_left.mono_l k
  ·intro y0 y1 y2 y3
   unfold round_left.j0
   repeat' first
   | (with_reducible exact ih0 _ _ _ _)
   | (with_reducible exact LeO.refl _)
   | (with_reducible exact LeO.none _)
   | (with_reducible refine LeO.ite ?_ ?_)
   | (with_reducible refine LeO.bind ?_ (fun _ => ?_))
   | exact ih0 _ _ _ _
   | exact LeO.none _
   | refine LeO.ite ?_ ?_
   | refine LeO.bind ?_ (fun _ => ?_)
theorem round_left.mono : ∀ a0 a1 k, LeO (round_left.f k a0 a1) (round_left.f (k + 1) a0 a1) := by
 intro a0 a1 k
 have ih0 := round_left.mono_l k
 unfold round_left.f
 repeat' first
   | (with_reducible exact ih0 _ _ _ _)
   | (with_reducible exact LeO.refl _)
   | (with_reducible exact LeO.none _)
   | (with_reducible refine LeO.ite ?_ ?_)
   | (with_reducible refine LeO.bind ?_ (fun _ => ?_))
   | exact ih0 _ _ _ _
   | exact LeO.none _
   | refine LeO.ite ?_ ?_
   | refine LeO.bind ?_ (fun _ => ?_)
set_option maxHeartbeats 8000000 in
set_option maxRecDepth 100000 in
theorem round_left.calls (k : Nat) (a0 : Int) (a1 : Bool) (r : Int) (w : World) (h : round_left.f k a0 a1 = some r) :
  Calls Try.prog 127 #[.int .u64 a0, .bool a1] w fun e w' => e = .returned (.int .i64 r) ∧ Drawn0 w w' := by
 have H := h
 clear h
 unfold round_left.f at H
 have HC3 := Aside0.mk H
 clear H
 go_enter Try.func127, Try.ntmps127
 go_upto_if 6 with (fail)
 go_cut [6] (fun v6 wc => ∃ (kq : Nat) (x6_2 : Bool), v6 = .bool x6_2 ∧ Aside0 (round_left.j0 kq a0 a1 9223372036854775808 x6_2 = some r) ∧ Aside0 (kq ≤ k) ∧ Drawn0 w wc)
 case first =>
  have H := HC3.out
  clear HC3
  by_cases c4 : a0 > 9223372036854775808
  ·rw [if_pos c4] at H
   have c4b0 : decide (9223372036854775808 < a0) = true := decide_eq_true c4
   clear c4
   (first | rw [c4b0] | (simp only [i64_w, i32_w]; rw [c4b0]) | rw [c4b1] | skip)
   have H' := Aside0.mk H
   clear H
   go_wp2
   go_meet
   case rel => exact ⟨_, (decide (a0 > 9223372036854775808)), okT, H', leT, by repeat (first | exact Drawn0.refl _ | apply Drawn0.step)⟩
  ·rw [if_neg c4] at H
   have c4b0 : decide (9223372036854775808 < a0) = false := decide_eq_false c4
   clear c4
   (first | rw [c4b0] | (simp only [i64_w, i32_w]; rw [c4b0]) | rw [c4b1] | skip)
   by_cases c5 : a0 = 9223372036854775808
   ·rw [if_pos c5] at H
    obtain ⟨c5b0, c5b1⟩ := eqY c5
    clear c5
    have H' := Aside0.mk H
    clear H
    go_wp2
    go_meet
    case rel => exact ⟨_, (a1), okT, H', leT, by repeat (first | exact Drawn0.refl _ | apply Drawn0.step)⟩
   ·rw [if_neg c5] at H
    obtain ⟨c5b0, c5b1⟩ := eqN c5
    have H' := Aside0.mk H
    clear H
    go_wp2
    go_meet
    case rel => exact ⟨_, (false), okT, H', leT, by repeat (first | exact Drawn0.refl _ | apply Drawn0.step)⟩
 case rest =>
  clear HC3
  obtain ⟨kq, x6_2, rfl, HA, HJ2, ⟨mc2, rfl⟩⟩ := hcut
  cases kq with
  | zero => exact absurd HA.out (by simp [round_left.j0])
  | succ kj2 =>
   have H := HA.out
   clear HA
   simp only [round_left.j0] at H
   by_cases c6 : x6_2 = true
   ·subst c6
    rw [if_pos rfl] at H
    obtain rfl := Option.some.inj H
    go_wp2
    go_ret
    exact ⟨okT, by repeat (first | exact Drawn0.refl _ | apply Drawn0.step)⟩
   ·replace c6 := Bool.eq_false_iff.mpr c6
    subst c6
    rw [if_neg (show ¬ (false = true) by decide)] at H
    by_cases c7 : a0 = 9223372036854775808
    ·rw [if_pos c7] at H
     obtain ⟨c7b0, c7b1⟩ := eqY c7
     clear c7
     obtain rfl := Option.some.inj H
     go_wp2
     go_ret
     exact ⟨okT, by repeat (first | exact Drawn0.refl _ | apply Drawn0.step)⟩
    ·rw [if_neg c7] at H
     obtain ⟨c7b0, c7b1⟩ := eqN c7
     by_cases c8 : a0 > 0
     ·rw [if_pos c8] at H
      have c8b0 : decide (0 < a0) = true := decide_eq_true c8
      clear c8
      obtain rfl := Option.some.inj H
      go_wp2
      go_ret
      exact ⟨okT, by repeat (first | exact Drawn0.refl _ | apply Drawn0.step)⟩
     ·rw [if_neg c8] at H
      have c8b0 : decide (0 < a0) = false := decide_eq_false c8
      clear c8
      by_cases c9 : a1 = true
      ·subst c9
       rw [if_pos rfl] at H
       obtain rfl := Option.some.inj H
       go_wp2
       go_ret
       exact ⟨okT, by repeat (first | exact Drawn0.refl _ | apply Drawn0.step)⟩
      ·replace c9 := Bool.eq_false_iff.mpr c9
       subst c9
       rw [if_neg (show ¬ (false = true) by decide)] at H
       obtain rfl := Option.some.inj H
       go_wp2
       go_ret
       exact ⟨okT, by repeat (first | exact Drawn0.refl _ | apply Drawn0.step)⟩

end Go.Proofs.Ytnlbfomlfhigcaa.Q
namespace Go.Proofs.Ytnlbfomlfhigcaa.Q
open Go.RowKit Go.Proofs.YtnlbfomlfhigcaaW.PrintWords Go.Proofs.YtnlbfomlfhigcaaW.PrintLast Go.Proofs.YtnlbfomlfhigcaaW.PrintMore
attribute [local go_sem] max2_int min2_int max_two min_two max_three min_three max_four min_four
set_option linter.unusedVariables false
set_option linter.unusedSimpArgs false

mutual
def round_Cut.j0 : Nat → Int → Int → Bool → Int → Int → Int → Bool → Option (Int × Int × Option Int)
 | 0, _, _, _, _, _, _, _ => none
 | k + 1, x0, x174000, x174001, x174002, x174003, x174004, x174005 => (twin_Shl.f x174003 x174004 1).bind fun bt183 => ((round_under.f bt183.1 bt183.2.1 (IntKind.u64.wrap (Go.bits .and .i64 x174002 3)) 2 x174005).bind fun bt188 => (if (x174002 / 4) ≥ 0 then ((round_under.f bt188.1 bt188.2.1 0 1 bt188.2.2).bind fun bt191 => (round_Cut.l0 k x0 bt191.2.2 (wrap64 ((x174002 / 4) + 1)) 0 bt191.1 bt191.2.1)) else ((round_under.f bt188.1 bt188.2.1 1 1 bt188.2.2).bind fun bt197 => (round_Cut.l1 k x0 bt197.2.2 (wrap64 (-(x174002 / 4))) 0 bt197.1 bt197.2.1))))
def round_Cut.j3 : Nat → Int → Bool → Int → Int → Option (Int × Int × Option Int)
 | 0, _, _, _, _ => none
 | k + 1, x0, x12, x188000, x188001 => if 0 ≤ (wrap64 (65 - x0)) then ((twin_Shl.f x188000 x188001 (wrap64 (x0 - 1))).bind fun bt203 => (if bt203.2.1 = 0 then ((round_left.f k bt203.1 x12).bind fun t208 => (some (shr .u64 x188000 (wrap64 (65 - x0)), t208, none))) else ((round_left.f k bt203.1 true).bind fun t209 => (some (shr .u64 x188000 (wrap64 (65 - x0)), t209, none))))) else (none)
def round_Cut.l0 : Nat → Int → Bool → Int → Int → Int → Int → Option (Int × Int × Option Int)
 | 0, _, _, _, _, _, _ => none
 | k + 1, x0, x12, x114, x115, x188000, x188001 => if x115 < x114 then ((round_under.f x188000 x188001 1 1 x12).bind fun bt194 => (round_Cut.l0 k x0 bt194.2.2 x114 (wrap64 (x115 + 1)) bt194.1 bt194.2.1)) else (round_Cut.j3 k x0 x12 x188000 x188001)
def round_Cut.l1 : Nat → Int → Bool → Int → Int → Int → Int → Option (Int × Int × Option Int)
 | 0, _, _, _, _, _, _ => none
 | k + 1, x0, x12, x131, x132, x188000, x188001 => if x132 < x131 then ((round_under.f x188000 x188001 0 1 x12).bind fun bt200 => (round_Cut.l1 k x0 bt200.2.2 x131 (wrap64 (x132 + 1)) bt200.1 bt200.2.1)) else (round_Cut.j3 k x0 x12 x188000 x188001)
end
def round_Cut.f (k : Nat) (a0 : Int) (a1_0 : Int) (a1_1 : Bool) (a1_2 : Int) (a1_3 : Int) (a1_4 : Int) (a1_5 : Bool) : Option (Int × Int × Option Int) := (shape_Of.f a0).bind fun bt174 => (if bt174.2.2.2.2.2.isNone = true then ((round_sound.f k a1_0 a1_1 a1_2 a1_3 a1_4 a1_5).bind fun t182 => (if t182 = true then (if a1_0 = 0 then (some (0, 0, none)) else (if a1_0 = 2 then (some (bt174.2.2.2.1, 0, none)) else (if a1_2 ≥ bt174.2.2.2.2.1 then (some (bt174.2.1, 0, none)) else (if a1_2 < (wrap64 (-bt174.2.2.2.2.1)) then (some (bt174.2.2.1, 0, none)) else (if a1_2 = (wrap64 (-bt174.2.2.2.2.1)) then (if a1_3 = 9223372036854775808 then (if a1_4 = 0 then (if a1_5 = true then (round_Cut.j0 k a0 a1_0 a1_1 a1_2 a1_3 a1_4 a1_5) else (some (bt174.2.2.1, 0, none))) else (round_Cut.j0 k a0 a1_0 a1_1 a1_2 a1_3 a1_4 a1_5)) else (round_Cut.j0 k a0 a1_0 a1_1 a1_2 a1_3 a1_4 a1_5)) else (round_Cut.j0 k a0 a1_0 a1_1 a1_2 a1_3 a1_4 a1_5)))))) else (some (0, 0, some 1)))) else (some (0, 0, some (bt174.2.2.2.2.2.getD 0))))
theorem round_Cut.mono_l : ∀ k, (∀ y0 y1 y2 y3 y4 y5 y6, LeO (round_Cut.j0 k y0 y1 y2 y3 y4 y5 y6) (round_Cut.j0 (k + 1) y0 y1 y2 y3 y4 y5 y6)) ∧ (∀ y0 y1 y2 y3, LeO (round_Cut.j3 k y0 y1 y2 y3) (round_Cut.j3 (k + 1) y0 y1 y2 y3)) ∧ (∀ y0 y1 y2 y3 y4 y5, LeO (round_Cut.l0 k y0 y1 y2 y3 y4 y5) (round_Cut.l0 (k + 1) y0 y1 y2 y3 y4 y5)) ∧ (∀ y0 y1 y2 y3 y4 y5, LeO (round_Cut.l1 k y0 y1 y2 y3 y4 y5) (round_Cut.l1 (k + 1) y0 y1 y2 y3 y4 y5))
 | 0 => ⟨fun _ _ _ _ _ _ _ r h => by simp [round_Cut.j0] at h, fun _ _ _ _ r h => by simp [round_Cut.j3] at h, fun _ _ _ _ _ _ r h => by simp [round_Cut.l0] at h, fun _ _ _ _ _ _ r h => by simp [round_Cut.l1] at h⟩
 | k + 1 => by
  obtain ⟨ih0, ih1, ih2, ih3⟩ := round_Cut.mono_l k
  refine ⟨?_, ?_, ?_, ?_⟩ <;> intros
  all_goals first | unfold round_Cut.j0 | unfold round_Cut.j3 | unfold round_Cut.l0 | unfold round_Cut.l1
  all_goals repeat' first
   | (with_reducible exact ih0 _ _ _ _ _ _ _)
   | (with_reducible exact ih1 _ _ _ _)
   | (with_reducible exact ih2 _ _ _ _ _ _)
   | (with_reducible exact ih3 _ _ _ _ _ _)
   | (with_reducible exact round_left.mono _ _ _)
   | (with_reducible exact round_sound.mono _ _ _ _ _ _ _)
   | (with_reducible exact LeO.refl _)
   | (with_reducible exact LeO.none _)
   | (with_reducible refine LeO.ite ?_ ?_)
   | (with_reducible refine LeO.bind ?_ (fun _ => ?_))
theorem round_Cut.mono : ∀ a0 a1 a2 a3 a4 a5 a6 k, LeO (round_Cut.f k a0 a1 a2 a3 a4 a5 a6) (round_Cut.f (k + 1) a0 a1 a2 a3 a4 a5 a6) := by
 intro a0 a1 a2 a3 a4 a5 a6 k
 obtain ⟨ih0, ih1, ih2, ih3⟩ := round_Cut.mono_l k
 unfold round_Cut.f
 repeat' first
   | (with_reducible exact ih0 _ _ _ _ _ _ _)
   | (with_reducible exact ih1 _ _ _ _)
   | (with_reducible exact ih2 _ _ _ _ _ _)
   | (with_reducible exact ih3 _ _ _ _ _ _)
   | (with_reducible exact round_left.mono _ _ _)
   | (with_reducible exact round_sound.mono _ _ _ _ _ _ _)
   | (with_reducible exact LeO.refl _)
   | (with_reducible exact LeO.none _)
   | (with_reducible refine LeO.ite ?_ ?_)
   | (with_reducible refine LeO.bind ?_ (fun _ => ?_))
set_option maxHeartbeats 8000000 in
set_option maxRecDepth 100000 in
theorem round_Cut.calls (k : Nat) (a0 : Int) (a1_0 : Int) (a1_1 : Bool) (a1_2 : Int) (a1_3 : Int) (a1_4 : Int) (a1_5 : Bool) (r1 : Int) (r2 : Int) (r3 : Option Int) (w : World) (h : round_Cut.f k a0 a1_0 a1_1 a1_2 a1_3 a1_4 a1_5 = some (r1, r2, r3)) :
  Calls Try.prog 98 #[.int .i64 a0, .agg #[.int .i64 a1_0, .bool a1_1, .int .i64 a1_2, .int .u64 a1_3, .int .u64 a1_4, .bool a1_5]] w fun e w' => e = .returned (.tuple #[.int .u64 r1, .int .i64 r2, errW r3]) ∧ Below w.heap.size w w' := by
 have hu86 := Try.underlying86
 have hu119 := Try.underlying119
 have hu155 := Try.underlying155
 have hu43 := Try.underlying43
 have hu82 := Try.underlying82
 have HB := Aside0.mk (Below.refl w.heap.size w)
 have H := h
 clear h
 unfold round_Cut.f at H
 replace H := Option.bind_eq_some_iff.mp H
 obtain ⟨⟨t174, t175, t176, t177, t178, t179⟩, A30, H⟩ := H
 try dsimp only at H
 have A3 := Aside0.mk A30
 clear A30
 have HC4 := Aside0.mk H
 clear H
 go_enter Try.func98, Try.ntmps98
 go_upto_block 0 with (first | (refine boxA 3 (#[.int .i64 a1_0, .bool a1_1, .int .i64 a1_2, .int .u64 a1_3, .int .u64 a1_4, .bool a1_5]) 86 ?_; intro gb173 hg w5 BK173 hb; have GW173 := geT hg; have GE173 := GW173; replace HB := hbS hb; clear hb hg) | (refine goA (some 20) Try.func87 (shape_Of.calls a0 t174 t175 t176 t177 t178 t179 _ A3.out) ?_; intro w6 hb; replace BK173 := bkB BK173 hb; replace HB := hbS hb; clear hb; (try simp only [errW_none, errW_some])) | (refine boxA 7 (#[.int .i64 0, .int .u64 0, .int .u64 0, .int .u64 0, .int .i64 0]) 119 ?_; intro gb180 hg w7 BK180 hb; have GW180 := geT hg; have GE180 := GW180; obtain ⟨NB173_180, NB180_173⟩ := neT BK173 hg; replace BK173 := bkB BK173 hb; replace HB := hbS hb; clear hb hg; have hnb8 := NB180_173.out; have hnc8 := NB173_180.out; obtain ⟨z9_0, z9_1, z9_2, z9_3, z9_4, y9_0, y9_1, y9_2, y9_3, y9_4⟩ := cz5 BK180))
 (try simp only [Act.put, List.setIfInBounds_toArray, List.set_cons_zero, List.set_cons_succ])
 go_cut [] (fun wc => ∃ (kq : Nat), Aside0 (round_Cut.j0 kq a0 a1_0 a1_1 a1_2 a1_3 a1_4 a1_5 = some (r1, r2, r3)) ∧ Aside0 (kq ≤ k) ∧ Aside0 (wc.heap[gb173]? = some (.cells #[.int .i64 a1_0, .bool a1_1, .int .i64 a1_2, .int .u64 a1_3, .int .u64 a1_4, .bool a1_5] 86 (0, 0))) ∧ Aside0 (wc.heap[gb180]? = some (.cells #[.int .i64 t174, .int .u64 t175, .int .u64 t176, .int .u64 t177, .int .i64 t178] 119 (0, 0))) ∧ Aside0 (Below w.heap.size w wc))
 case first =>
  have H := HC4.out
  clear HC4
  rcases t179 with _ | q181
  ·rw [if_pos (show (none : Option Int).isNone = true by rfl)] at H
   try simp only [errW_none, errW_some]
   replace H := Option.bind_eq_some_iff.mp H
   obtain ⟨t182, A100, H⟩ := H
   try dsimp only at H
   have A10 := Aside0.mk A100
   clear A100
   by_cases c11 : t182 = true
   ·subst c11
    rw [if_pos rfl] at H
    by_cases c12 : a1_0 = 0
    ·rw [if_pos c12] at H
     obtain ⟨c12b0, c12b1⟩ := eqY c12
     clear c12
     (first | rw [c12b0] | (simp only [i64_w, i32_w]; rw [c12b0]) | rw [c12b1] | skip)
     simp only [Option.some.injEq, Prod.mk.injEq] at H
     obtain ⟨rfl, rfl, rfl⟩ := H
     have hnb13 := NB173_180.out
     have hnc13 := NB180_173.out
     obtain ⟨z14_0, z14_1, z14_2, z14_3, z14_4, z14_5, y14_0, y14_1, y14_2, y14_3, y14_4, y14_5⟩ := cz6 BK173
     go_wp2_with (first | (refine goA (some 29) Try.func100 (round_sound.calls k a1_0 a1_1 a1_2 a1_3 a1_4 a1_5 true _ A10.out) ?_; intro w15 hb; replace BK173 := bkB BK173 hb; replace BK180 := bkB (o := .cells #[.int .i64 t174, .int .u64 t175, .int .u64 t176, .int .u64 t177, .int .i64 t178] 119 (0, 0)) BK180 hb; replace HB := hbS hb; clear hb; obtain ⟨z16_0, z16_1, z16_2, z16_3, z16_4, z16_5, y16_0, y16_1, y16_2, y16_3, y16_4, y16_5⟩ := cz6 BK173))
     go_ret3
     exact ⟨reT, hbT⟩
    ·rw [if_neg c12] at H
     obtain ⟨c12b0, c12b1⟩ := eqN c12
     (first | rw [c12b0] | (simp only [i64_w, i32_w]; rw [c12b0]) | rw [c12b1] | skip)
     by_cases c17 : a1_0 = 2
     ·rw [if_pos c17] at H
      obtain ⟨c17b0, c17b1⟩ := eqY c17
      clear c17
      simp only [Option.some.injEq, Prod.mk.injEq] at H
      obtain ⟨rfl, rfl, rfl⟩ := H
      have hnb18 := NB173_180.out
      have hnc18 := NB180_173.out
      obtain ⟨z19_0, z19_1, z19_2, z19_3, z19_4, z19_5, y19_0, y19_1, y19_2, y19_3, y19_4, y19_5⟩ := cz6 BK173
      go_wp2_with (first | (refine goA (some 29) Try.func100 (round_sound.calls k a1_0 a1_1 a1_2 a1_3 a1_4 a1_5 true _ A10.out) ?_; intro w20 hb; replace BK173 := bkB BK173 hb; replace BK180 := bkB (o := .cells #[.int .i64 t174, .int .u64 t175, .int .u64 t176, .int .u64 t177, .int .i64 t178] 119 (0, 0)) BK180 hb; replace HB := hbS hb; clear hb; obtain ⟨z21_0, z21_1, z21_2, z21_3, z21_4, z21_5, y21_0, y21_1, y21_2, y21_3, y21_4, y21_5⟩ := cz6 BK173; obtain ⟨z22_0, z22_1, z22_2, z22_3, z22_4, y22_0, y22_1, y22_2, y22_3, y22_4⟩ := cz5 BK180))
      go_ret3
      exact ⟨reT, hbT⟩
     ·rw [if_neg c17] at H
      obtain ⟨c17b0, c17b1⟩ := eqN c17
      by_cases c23 : a1_2 ≥ t178
      ·rw [if_pos c23] at H
       have c23b0 : decide (t178 ≤ a1_2) = true := decide_eq_true c23
       clear c23
       simp only [Option.some.injEq, Prod.mk.injEq] at H
       obtain ⟨rfl, rfl, rfl⟩ := H
       have hnb24 := NB173_180.out
       have hnc24 := NB180_173.out
       obtain ⟨z25_0, z25_1, z25_2, z25_3, z25_4, z25_5, y25_0, y25_1, y25_2, y25_3, y25_4, y25_5⟩ := cz6 BK173
       go_wp2_with (first | (refine goA (some 29) Try.func100 (round_sound.calls k a1_0 a1_1 a1_2 a1_3 a1_4 a1_5 true _ A10.out) ?_; intro w26 hb; replace BK173 := bkB BK173 hb; replace BK180 := bkB (o := .cells #[.int .i64 t174, .int .u64 t175, .int .u64 t176, .int .u64 t177, .int .i64 t178] 119 (0, 0)) BK180 hb; replace HB := hbS hb; clear hb; obtain ⟨z27_0, z27_1, z27_2, z27_3, z27_4, z27_5, y27_0, y27_1, y27_2, y27_3, y27_4, y27_5⟩ := cz6 BK173; obtain ⟨z28_0, z28_1, z28_2, z28_3, z28_4, y28_0, y28_1, y28_2, y28_3, y28_4⟩ := cz5 BK180))
       go_ret3
       exact ⟨reT, hbT⟩
      ·rw [if_neg c23] at H
       have c23b0 : decide (t178 ≤ a1_2) = false := decide_eq_false c23
       clear c23
       by_cases c29 : a1_2 < (wrap64 (-t178))
       ·rw [if_pos c29] at H
        have c29b0 : decide (a1_2 < (wrap64 (-t178))) = true := decide_eq_true c29
        clear c29
        simp only [Option.some.injEq, Prod.mk.injEq] at H
        obtain ⟨rfl, rfl, rfl⟩ := H
        have hnb30 := NB173_180.out
        have hnc30 := NB180_173.out
        obtain ⟨z31_0, z31_1, z31_2, z31_3, z31_4, z31_5, y31_0, y31_1, y31_2, y31_3, y31_4, y31_5⟩ := cz6 BK173
        go_wp2_with (first | (refine goA (some 29) Try.func100 (round_sound.calls k a1_0 a1_1 a1_2 a1_3 a1_4 a1_5 true _ A10.out) ?_; intro w32 hb; replace BK173 := bkB BK173 hb; replace BK180 := bkB (o := .cells #[.int .i64 t174, .int .u64 t175, .int .u64 t176, .int .u64 t177, .int .i64 t178] 119 (0, 0)) BK180 hb; replace HB := hbS hb; clear hb; obtain ⟨z33_0, z33_1, z33_2, z33_3, z33_4, z33_5, y33_0, y33_1, y33_2, y33_3, y33_4, y33_5⟩ := cz6 BK173; obtain ⟨z34_0, z34_1, z34_2, z34_3, z34_4, y34_0, y34_1, y34_2, y34_3, y34_4⟩ := cz5 BK180))
        go_ret3
        exact ⟨reT, hbT⟩
       ·rw [if_neg c29] at H
        have c29b0 : decide (a1_2 < (wrap64 (-t178))) = false := decide_eq_false c29
        clear c29
        by_cases c35 : a1_2 = (wrap64 (-t178))
        ·rw [if_pos c35] at H
         obtain ⟨c35b0, c35b1⟩ := eqY c35
         clear c35
         by_cases c36 : a1_3 = 9223372036854775808
         ·rw [if_pos c36] at H
          obtain ⟨c36b0, c36b1⟩ := eqY c36
          clear c36
          by_cases c37 : a1_4 = 0
          ·rw [if_pos c37] at H
           obtain ⟨c37b0, c37b1⟩ := eqY c37
           clear c37
           by_cases c38 : a1_5 = true
           ·subst c38
            rw [if_pos rfl] at H
            have H' := Aside0.mk H
            clear H
            have hnb39 := NB173_180.out
            have hnc39 := NB180_173.out
            obtain ⟨z40_0, z40_1, z40_2, z40_3, z40_4, z40_5, y40_0, y40_1, y40_2, y40_3, y40_4, y40_5⟩ := cz6 BK173
            go_wp2_with (first | (refine goA (some 29) Try.func100 (round_sound.calls k a1_0 a1_1 a1_2 a1_3 a1_4 true true _ A10.out) ?_; intro w41 hb; replace BK173 := bkB BK173 hb; replace BK180 := bkB (o := .cells #[.int .i64 t174, .int .u64 t175, .int .u64 t176, .int .u64 t177, .int .i64 t178] 119 (0, 0)) BK180 hb; replace HB := hbS hb; clear hb; obtain ⟨z42_0, z42_1, z42_2, z42_3, z42_4, z42_5, y42_0, y42_1, y42_2, y42_3, y42_4, y42_5⟩ := cz6 BK173; obtain ⟨z43_0, z43_1, z43_2, z43_3, z43_4, y43_0, y43_1, y43_2, y43_3, y43_4⟩ := cz5 BK180))
            go_meet
            case rel => exact ⟨_, H', leT, ⟨bkT BK173⟩, ⟨bkT BK180⟩, ⟨hbT⟩⟩
           ·replace c38 := Bool.eq_false_iff.mpr c38
            subst c38
            rw [if_neg (show ¬ (false = true) by decide)] at H
            simp only [Option.some.injEq, Prod.mk.injEq] at H
            obtain ⟨rfl, rfl, rfl⟩ := H
            have hnb44 := NB173_180.out
            have hnc44 := NB180_173.out
            obtain ⟨z45_0, z45_1, z45_2, z45_3, z45_4, z45_5, y45_0, y45_1, y45_2, y45_3, y45_4, y45_5⟩ := cz6 BK173
            go_wp2_with (first | (refine goA (some 29) Try.func100 (round_sound.calls k a1_0 a1_1 a1_2 a1_3 a1_4 false true _ A10.out) ?_; intro w46 hb; replace BK173 := bkB BK173 hb; replace BK180 := bkB (o := .cells #[.int .i64 t174, .int .u64 t175, .int .u64 t176, .int .u64 t177, .int .i64 t178] 119 (0, 0)) BK180 hb; replace HB := hbS hb; clear hb; obtain ⟨z47_0, z47_1, z47_2, z47_3, z47_4, z47_5, y47_0, y47_1, y47_2, y47_3, y47_4, y47_5⟩ := cz6 BK173; obtain ⟨z48_0, z48_1, z48_2, z48_3, z48_4, y48_0, y48_1, y48_2, y48_3, y48_4⟩ := cz5 BK180))
            go_ret3
            exact ⟨reT, hbT⟩
          ·rw [if_neg c37] at H
           obtain ⟨c37b0, c37b1⟩ := eqN c37
           have H' := Aside0.mk H
           clear H
           have hnb49 := NB173_180.out
           have hnc49 := NB180_173.out
           obtain ⟨z50_0, z50_1, z50_2, z50_3, z50_4, z50_5, y50_0, y50_1, y50_2, y50_3, y50_4, y50_5⟩ := cz6 BK173
           go_wp2_with (first | (refine goA (some 29) Try.func100 (round_sound.calls k a1_0 a1_1 a1_2 a1_3 a1_4 a1_5 true _ A10.out) ?_; intro w51 hb; replace BK173 := bkB BK173 hb; replace BK180 := bkB (o := .cells #[.int .i64 t174, .int .u64 t175, .int .u64 t176, .int .u64 t177, .int .i64 t178] 119 (0, 0)) BK180 hb; replace HB := hbS hb; clear hb; obtain ⟨z52_0, z52_1, z52_2, z52_3, z52_4, z52_5, y52_0, y52_1, y52_2, y52_3, y52_4, y52_5⟩ := cz6 BK173; obtain ⟨z53_0, z53_1, z53_2, z53_3, z53_4, y53_0, y53_1, y53_2, y53_3, y53_4⟩ := cz5 BK180))
           go_meet
           case rel => exact ⟨_, H', leT, ⟨bkT BK173⟩, ⟨bkT BK180⟩, ⟨hbT⟩⟩
         ·rw [if_neg c36] at H
          obtain ⟨c36b0, c36b1⟩ := eqN c36
          have H' := Aside0.mk H
          clear H
          have hnb54 := NB173_180.out
          have hnc54 := NB180_173.out
          obtain ⟨z55_0, z55_1, z55_2, z55_3, z55_4, z55_5, y55_0, y55_1, y55_2, y55_3, y55_4, y55_5⟩ := cz6 BK173
          go_wp2_with (first | (refine goA (some 29) Try.func100 (round_sound.calls k a1_0 a1_1 a1_2 a1_3 a1_4 a1_5 true _ A10.out) ?_; intro w56 hb; replace BK173 := bkB BK173 hb; replace BK180 := bkB (o := .cells #[.int .i64 t174, .int .u64 t175, .int .u64 t176, .int .u64 t177, .int .i64 t178] 119 (0, 0)) BK180 hb; replace HB := hbS hb; clear hb; obtain ⟨z57_0, z57_1, z57_2, z57_3, z57_4, z57_5, y57_0, y57_1, y57_2, y57_3, y57_4, y57_5⟩ := cz6 BK173; obtain ⟨z58_0, z58_1, z58_2, z58_3, z58_4, y58_0, y58_1, y58_2, y58_3, y58_4⟩ := cz5 BK180))
          go_meet
          case rel => exact ⟨_, H', leT, ⟨bkT BK173⟩, ⟨bkT BK180⟩, ⟨hbT⟩⟩
        ·rw [if_neg c35] at H
         obtain ⟨c35b0, c35b1⟩ := eqN c35
         have H' := Aside0.mk H
         clear H
         have hnb59 := NB173_180.out
         have hnc59 := NB180_173.out
         obtain ⟨z60_0, z60_1, z60_2, z60_3, z60_4, z60_5, y60_0, y60_1, y60_2, y60_3, y60_4, y60_5⟩ := cz6 BK173
         go_wp2_with (first | (refine goA (some 29) Try.func100 (round_sound.calls k a1_0 a1_1 a1_2 a1_3 a1_4 a1_5 true _ A10.out) ?_; intro w61 hb; replace BK173 := bkB BK173 hb; replace BK180 := bkB (o := .cells #[.int .i64 t174, .int .u64 t175, .int .u64 t176, .int .u64 t177, .int .i64 t178] 119 (0, 0)) BK180 hb; replace HB := hbS hb; clear hb; obtain ⟨z62_0, z62_1, z62_2, z62_3, z62_4, z62_5, y62_0, y62_1, y62_2, y62_3, y62_4, y62_5⟩ := cz6 BK173; obtain ⟨z63_0, z63_1, z63_2, z63_3, z63_4, y63_0, y63_1, y63_2, y63_3, y63_4⟩ := cz5 BK180))
         go_meet
         case rel => exact ⟨_, H', leT, ⟨bkT BK173⟩, ⟨bkT BK180⟩, ⟨hbT⟩⟩
   ·replace c11 := Bool.eq_false_iff.mpr c11
    subst c11
    rw [if_neg (show ¬ (false = true) by decide)] at H
    simp only [Option.some.injEq, Prod.mk.injEq] at H
    obtain ⟨rfl, rfl, rfl⟩ := H
    have hnb64 := NB173_180.out
    have hnc64 := NB180_173.out
    obtain ⟨z65_0, z65_1, z65_2, z65_3, z65_4, z65_5, y65_0, y65_1, y65_2, y65_3, y65_4, y65_5⟩ := cz6 BK173
    go_wp2_with (first | (refine goA (some 29) Try.func100 (round_sound.calls k a1_0 a1_1 a1_2 a1_3 a1_4 a1_5 false _ A10.out) ?_; intro w66 hb; replace BK173 := bkB BK173 hb; replace BK180 := bkB (o := .cells #[.int .i64 t174, .int .u64 t175, .int .u64 t176, .int .u64 t177, .int .i64 t178] 119 (0, 0)) BK180 hb; replace HB := hbS hb; clear hb))
    go_ret3
    exact ⟨reT, hbT⟩
  ·rw [if_neg (show ¬ (some q181).isNone = true by simp)] at H
   try simp only [errW_none, errW_some]
   simp only [Option.some.injEq, Prod.mk.injEq] at H
   obtain ⟨rfl, rfl, rfl⟩ := H
   go_wp2
   go_ret3
   exact ⟨reT, hbT⟩
 case rest =>
  clear HC4
  try clear z9_0 z9_1 z9_2 z9_3 z9_4 y9_0 y9_1 y9_2 y9_3 y9_4
  obtain ⟨kq, HA, HJ3, BK173, BK180, HB⟩ := hcut
  cases kq with
  | zero => exact absurd HA.out (by simp [round_Cut.j0])
  | succ kj3 =>
   have H := HA.out
   clear HA
   simp only [round_Cut.j0] at H
   replace H := Option.bind_eq_some_iff.mp H
   obtain ⟨⟨t183, t184, t185, t186⟩, A670, H⟩ := H
   try dsimp only at H
   have A67 := Aside0.mk A670
   clear A670
   replace H := Option.bind_eq_some_iff.mp H
   obtain ⟨⟨t188, t189, t190⟩, A680, H⟩ := H
   try dsimp only at H
   have A68 := Aside0.mk A680
   clear A680
   have HC69 := Aside0.mk H
   clear H
   have hnb70 := NB173_180.out
   have hnc70 := NB180_173.out
   obtain ⟨z71_0, z71_1, z71_2, z71_3, z71_4, z71_5, y71_0, y71_1, y71_2, y71_3, y71_4, y71_5⟩ := cz6 BK173
   go_upto_if 106 with (first | (refine goA (some 86) Try.func125 (twin_Shl.calls a1_3 a1_4 1 t183 t184 t185 t186 _ A67.out) ?_; intro w72 hb; replace BK173 := bkB BK173 hb; replace BK180 := bkB BK180 hb; replace HB := hbS hb; clear hb; (try simp only [errW_none, errW_some])) | (refine boxA 9 (#[.int .u64 0, .int .u64 0]) 155 ?_; intro gb187 hg w73 BK187 hb; have GW187 := geT hg; have GE187 := GW187; obtain ⟨NB173_187, NB187_173⟩ := neT BK173 hg; obtain ⟨NB180_187, NB187_180⟩ := neT BK180 hg; replace BK173 := bkB BK173 hb; replace BK180 := bkB BK180 hb; replace HB := hbS hb; clear hb hg; have hnb74 := NB187_173.out; have hnc74 := NB173_187.out; have hnb75 := NB187_180.out; have hnc75 := NB180_187.out; obtain ⟨z76_0, z76_1, y76_0, y76_1⟩ := cz2 BK187; obtain ⟨z77_0, z77_1, z77_2, z77_3, z77_4, z77_5, y77_0, y77_1, y77_2, y77_3, y77_4, y77_5⟩ := cz6 BK173) | (refine goA (some 102) Try.func126 (round_under.calls t183 t184 (IntKind.u64.wrap (Go.bits .and .i64 a1_2 3)) 2 a1_5 t188 t189 t190 _ A68.out) ?_; intro w78 hb; replace BK173 := bkB BK173 hb; replace BK180 := bkB BK180 hb; replace BK187 := bkB (o := .cells #[.int .u64 t183, .int .u64 t184] 155 (0, 0)) BK187 hb; replace HB := hbS hb; clear hb; obtain ⟨z79_0, z79_1, y79_0, y79_1⟩ := cz2 BK187))
   (try simp only [Act.put, List.setIfInBounds_toArray, List.set_cons_zero, List.set_cons_succ])
   go_cut [12] (fun v12 wc => ∃ (kq : Nat) (x12_68 : Bool) (x188000_68 : Int) (x188001_68 : Int), v12 = .bool x12_68 ∧ Aside0 (round_Cut.j3 kq a0 x12_68 x188000_68 x188001_68 = some (r1, r2, r3)) ∧ Aside0 (kq ≤ kj3) ∧ Aside0 (wc.heap[gb173]? = some (.cells #[.int .i64 a1_0, .bool a1_1, .int .i64 a1_2, .int .u64 a1_3, .int .u64 a1_4, .bool a1_5] 86 (0, 0))) ∧ Aside0 (wc.heap[gb180]? = some (.cells #[.int .i64 t174, .int .u64 t175, .int .u64 t176, .int .u64 t177, .int .i64 t178] 119 (0, 0))) ∧ Aside0 (wc.heap[gb187]? = some (.cells #[.int .u64 x188000_68, .int .u64 x188001_68] 155 (0, 0))) ∧ Aside0 (Below w.heap.size w wc))
   case first =>
    have H := HC69.out
    clear HC69
    by_cases c80 : (a1_2 / 4) ≥ 0
    ·rw [if_pos c80] at H
     have c80b0 : decide (0 ≤ (a1_2 / 4)) = true := decide_eq_true c80
     clear c80
     (first | rw [c80b0] | (simp only [i64_w, i32_w]; rw [c80b0]) | rw [c80b1] | skip)
     replace H := Option.bind_eq_some_iff.mp H
     obtain ⟨⟨t191, t192, t193⟩, A810, H⟩ := H
     try dsimp only at H
     have A81 := Aside0.mk A810
     clear A810
     have H' := Aside0.mk H
     clear H
     have hnb82 := NB187_173.out
     have hnc82 := NB173_187.out
     have hnb83 := NB187_180.out
     have hnc83 := NB180_187.out
     obtain ⟨z84_0, z84_1, y84_0, y84_1⟩ := cz2 BK187
     go_wp2_with (first | (refine goA (some 110) Try.func126 (round_under.calls t188 t189 0 1 t190 t191 t192 t193 _ A81.out) ?_; intro w85 hb; replace BK173 := bkB BK173 hb; replace BK180 := bkB BK180 hb; replace BK187 := bkB (o := .cells #[.int .u64 t188, .int .u64 t189] 155 (0, 0)) BK187 hb; replace HB := hbS hb; clear hb; obtain ⟨z86_0, z86_1, y86_0, y86_1⟩ := cz2 BK187))
     go_loopg [12, 115] kj3 (fun kq v12 v115 w' => ∃ (x12_2 : Bool) (x115_2 : Int) (x188000_2 : Int) (x188001_2 : Int), v12 = .bool x12_2 ∧ v115 = .int .i64 x115_2 ∧ Aside0 (round_Cut.l0 kq a0 x12_2 (wrap64 ((a1_2 / 4) + 1)) x115_2 x188000_2 x188001_2 = some (r1, r2, r3)) ∧ Aside0 (kq ≤ kj3) ∧ Aside0 (w'.heap[gb173]? = some (.cells #[.int .i64 a1_0, .bool a1_1, .int .i64 a1_2, .int .u64 a1_3, .int .u64 a1_4, .bool a1_5] 86 (0, 0))) ∧ Aside0 (w'.heap[gb180]? = some (.cells #[.int .i64 t174, .int .u64 t175, .int .u64 t176, .int .u64 t177, .int .i64 t178] 119 (0, 0))) ∧ Aside0 (w'.heap[gb187]? = some (.cells #[.int .u64 x188000_2, .int .u64 x188001_2] 155 (0, 0))) ∧ Aside0 (Below w.heap.size w w'))
     case atStart => exact ⟨(t193), (0), (t191), (t192), okT, okT, H', ⟨Nat.le_refl _⟩, ⟨bkT BK173⟩, ⟨bkT BK180⟩, ⟨bkT BK187⟩, ⟨hbT⟩⟩
     case round =>
      clear H'
      try clear c80
      try clear c80b0
      try clear z71_0 z71_1 z71_2 z71_3 z71_4 z71_5 y71_0 y71_1 y71_2 y71_3 y71_4 y71_5
      try clear z76_0 z76_1 y76_0 y76_1
      try clear z77_0 z77_1 z77_2 z77_3 z77_4 z77_5 y77_0 y77_1 y77_2 y77_3 y77_4 y77_5
      try clear z79_0 z79_1 y79_0 y79_1
      try clear z84_0 z84_1 y84_0 y84_1
      try clear z86_0 z86_1 y86_0 y86_1
      obtain ⟨x12_2, x115_2, x188000_2, x188001_2, rfl, rfl, HA, HK2, BK173, BK180, BK187, HB⟩ := hrel
      cases gk with
      | zero => exact absurd HA.out (by simp [round_Cut.l0])
      | succ k2 =>
       have H := HA.out
       clear HA
       simp only [round_Cut.l0] at H
       by_cases c87 : x115_2 < (wrap64 ((a1_2 / 4) + 1))
       ·rw [if_pos c87] at H
        have c87b0 : decide (x115_2 < (wrap64 ((a1_2 / 4) + 1))) = true := decide_eq_true c87
        clear c87
        replace H := Option.bind_eq_some_iff.mp H
        obtain ⟨⟨t194, t195, t196⟩, A880, H⟩ := H
        try dsimp only at H
        have A88 := Aside0.mk A880
        clear A880
        have H' := Aside0.mk H
        clear H
        have hnb89 := NB187_173.out
        have hnc89 := NB173_187.out
        have hnb90 := NB187_180.out
        have hnc90 := NB180_187.out
        obtain ⟨z91_0, z91_1, y91_0, y91_1⟩ := cz2 BK187
        go_wp2_with (first | (refine goA (some 120) Try.func126 (round_under.calls x188000_2 x188001_2 1 1 x12_2 t194 t195 t196 _ A88.out) ?_; intro w92 hb; replace BK173 := bkB BK173 hb; replace BK180 := bkB BK180 hb; replace BK187 := bkB BK187 hb; replace HB := hbS hb; clear hb; obtain ⟨z93_0, z93_1, y93_0, y93_1⟩ := cz2 BK187))
        go_roundg k2
        case measure => have := HJ3.out; have := HK2.out; omega
        case rel => exact ⟨(t196), (wrap64 (x115_2 + 1)), (t194), (t195), okT, okT, H', ⟨by have := HJ3.out; have := HK2.out; omega⟩, ⟨bkT BK173⟩, ⟨bkT BK180⟩, ⟨bkT BK187⟩, ⟨hbT⟩⟩
       ·rw [if_neg c87] at H
        have c87b0 : decide (x115_2 < (wrap64 ((a1_2 / 4) + 1))) = false := decide_eq_false c87
        clear c87
        have H' := Aside0.mk H
        clear H
        go_wp2
        go_meet
        case rel => exact ⟨_, (x12_2), (x188000_2), (x188001_2), okT, H', ⟨by have := HJ3.out; have := HK2.out; first | omega | exact Nat.le_refl _⟩, ⟨bkT BK173⟩, ⟨bkT BK180⟩, ⟨bkT BK187⟩, ⟨hbT⟩⟩
    ·rw [if_neg c80] at H
     have c80b0 : decide (0 ≤ (a1_2 / 4)) = false := decide_eq_false c80
     clear c80
     (first | rw [c80b0] | (simp only [i64_w, i32_w]; rw [c80b0]) | rw [c80b1] | skip)
     replace H := Option.bind_eq_some_iff.mp H
     obtain ⟨⟨t197, t198, t199⟩, A940, H⟩ := H
     try dsimp only at H
     have A94 := Aside0.mk A940
     clear A940
     have H' := Aside0.mk H
     clear H
     have hnb95 := NB187_173.out
     have hnc95 := NB173_187.out
     have hnb96 := NB187_180.out
     have hnc96 := NB180_187.out
     obtain ⟨z97_0, z97_1, y97_0, y97_1⟩ := cz2 BK187
     go_wp2_with (first | (refine goA (some 127) Try.func126 (round_under.calls t188 t189 1 1 t190 t197 t198 t199 _ A94.out) ?_; intro w98 hb; replace BK173 := bkB BK173 hb; replace BK180 := bkB BK180 hb; replace BK187 := bkB (o := .cells #[.int .u64 t188, .int .u64 t189] 155 (0, 0)) BK187 hb; replace HB := hbS hb; clear hb; obtain ⟨z99_0, z99_1, y99_0, y99_1⟩ := cz2 BK187))
     go_loopg [12, 132] kj3 (fun kq v12 v132 w' => ∃ (x12_2 : Bool) (x132_2 : Int) (x188000_2 : Int) (x188001_2 : Int), v12 = .bool x12_2 ∧ v132 = .int .i64 x132_2 ∧ Aside0 (round_Cut.l1 kq a0 x12_2 (wrap64 (-(a1_2 / 4))) x132_2 x188000_2 x188001_2 = some (r1, r2, r3)) ∧ Aside0 (kq ≤ kj3) ∧ Aside0 (w'.heap[gb173]? = some (.cells #[.int .i64 a1_0, .bool a1_1, .int .i64 a1_2, .int .u64 a1_3, .int .u64 a1_4, .bool a1_5] 86 (0, 0))) ∧ Aside0 (w'.heap[gb180]? = some (.cells #[.int .i64 t174, .int .u64 t175, .int .u64 t176, .int .u64 t177, .int .i64 t178] 119 (0, 0))) ∧ Aside0 (w'.heap[gb187]? = some (.cells #[.int .u64 x188000_2, .int .u64 x188001_2] 155 (0, 0))) ∧ Aside0 (Below w.heap.size w w'))
     case atStart => exact ⟨(t199), (0), (t197), (t198), okT, okT, H', ⟨Nat.le_refl _⟩, ⟨bkT BK173⟩, ⟨bkT BK180⟩, ⟨bkT BK187⟩, ⟨hbT⟩⟩
     case round =>
      clear H'
      try clear c80b0
      try clear z97_0 z97_1 y97_0 y97_1
      try clear z99_0 z99_1 y99_0 y99_1
      obtain ⟨x12_2, x132_2, x188000_2, x188001_2, rfl, rfl, HA, HK2, BK173, BK180, BK187, HB⟩ := hrel
      cases gk with
      | zero => exact absurd HA.out (by simp [round_Cut.l1])
      | succ k2 =>
       have H := HA.out
       clear HA
       simp only [round_Cut.l1] at H
       by_cases c100 : x132_2 < (wrap64 (-(a1_2 / 4)))
       ·rw [if_pos c100] at H
        have c100b0 : decide (x132_2 < (wrap64 (-(a1_2 / 4)))) = true := decide_eq_true c100
        clear c100
        replace H := Option.bind_eq_some_iff.mp H
        obtain ⟨⟨t200, t201, t202⟩, A1010, H⟩ := H
        try dsimp only at H
        have A101 := Aside0.mk A1010
        clear A1010
        have H' := Aside0.mk H
        clear H
        have hnb102 := NB187_173.out
        have hnc102 := NB173_187.out
        have hnb103 := NB187_180.out
        have hnc103 := NB180_187.out
        obtain ⟨z104_0, z104_1, y104_0, y104_1⟩ := cz2 BK187
        go_wp2_with (first | (refine goA (some 137) Try.func126 (round_under.calls x188000_2 x188001_2 0 1 x12_2 t200 t201 t202 _ A101.out) ?_; intro w105 hb; replace BK173 := bkB BK173 hb; replace BK180 := bkB BK180 hb; replace BK187 := bkB BK187 hb; replace HB := hbS hb; clear hb; obtain ⟨z106_0, z106_1, y106_0, y106_1⟩ := cz2 BK187))
        go_roundg k2
        case measure => have := HJ3.out; have := HK2.out; omega
        case rel => exact ⟨(t202), (wrap64 (x132_2 + 1)), (t200), (t201), okT, okT, H', ⟨by have := HJ3.out; have := HK2.out; omega⟩, ⟨bkT BK173⟩, ⟨bkT BK180⟩, ⟨bkT BK187⟩, ⟨hbT⟩⟩
       ·rw [if_neg c100] at H
        have c100b0 : decide (x132_2 < (wrap64 (-(a1_2 / 4)))) = false := decide_eq_false c100
        clear c100
        have H' := Aside0.mk H
        clear H
        go_wp2
        go_meet
        case rel => exact ⟨_, (x12_2), (x188000_2), (x188001_2), okT, H', ⟨by have := HJ3.out; have := HK2.out; first | omega | exact Nat.le_refl _⟩, ⟨bkT BK173⟩, ⟨bkT BK180⟩, ⟨bkT BK187⟩, ⟨hbT⟩⟩
   case rest =>
    clear HC69
    obtain ⟨kq, x12_68, x188000_68, x188001_68, rfl, HA, HJ68, BK173, BK180, BK187, HB⟩ := hcut
    cases kq with
    | zero => exact absurd HA.out (by simp [round_Cut.j3])
    | succ kj68 =>
     have H := HA.out
     clear HA
     simp only [round_Cut.j3] at H
     obtain ⟨ji107, hji107⟩ : ∃ j_ : Int, (wrap64 (65 - a0)) = j_ := ⟨_, rfl⟩
     replace H : (if 0 ≤ (ji107) then ((twin_Shl.f x188000_68 x188001_68 (wrap64 (a0 - 1))).bind fun bt203 => (if bt203.2.1 = 0 then ((round_left.f kj68 bt203.1 x12_68).bind fun t208 => (some (shr .u64 x188000_68 (ji107), t208, none))) else ((round_left.f kj68 bt203.1 true).bind fun t209 => (some (shr .u64 x188000_68 (ji107), t209, none))))) else (none)) = some (r1, r2, r3) := by first | (rw [hji107] at H; exact H) | (simp only [hji107] at H ⊢; exact H)
     have hji107w : (IntKind.i64.wrap (65 - a0)) = ji107 := (i64_w _).trans hji107
     by_cases c108 : 0 ≤ (ji107)
     ·rw [if_pos c108] at H
      have c108b0 := eq_true c108
      have c108b1 : decide (0 ≤ (ji107)) = true := decide_eq_true c108
      clear c108
      obtain ⟨ji109, hji109⟩ : ∃ j_ : Int, (shr .u64 x188000_68 (ji107)) = j_ := ⟨_, rfl⟩
      replace H : ((twin_Shl.f x188000_68 x188001_68 (wrap64 (a0 - 1))).bind fun bt203 => (if bt203.2.1 = 0 then ((round_left.f kj68 bt203.1 x12_68).bind fun t208 => (some (ji109, t208, none))) else ((round_left.f kj68 bt203.1 true).bind fun t209 => (some (ji109, t209, none))))) = some (r1, r2, r3) := by first | (rw [hji109] at H; exact H) | (simp only [hji109] at H ⊢; exact H)
      have hji109_ : (x188000_68 / 2 ^ min (ji107).toNat 64) = ji109 := hji109
      have hji109z : (ji107) ≤ 64 → (x188000_68 / 2 ^ (ji107).toNat) = ji109 := shr_small hji109
      replace H := Option.bind_eq_some_iff.mp H
      obtain ⟨⟨t203, t204, t205, t206⟩, A1100, H⟩ := H
      try dsimp only at H
      have A110 := Aside0.mk A1100
      clear A1100
      by_cases c111 : t204 = 0
      ·rw [if_pos c111] at H
       obtain ⟨c111b0, c111b1⟩ := eqY c111
       clear c111
       replace H := Option.bind_eq_some_iff.mp H
       obtain ⟨t208, A1120, H⟩ := H
       try dsimp only at H
       have A112 := Aside0.mk A1120
       clear A1120
       simp only [Option.some.injEq, Prod.mk.injEq] at H
       obtain ⟨rfl, rfl, rfl⟩ := H
       have hnb113 := NB187_173.out
       have hnc113 := NB173_187.out
       have hnb114 := NB187_180.out
       have hnc114 := NB180_187.out
       obtain ⟨z115_0, z115_1, y115_0, y115_1⟩ := cz2 BK187
       go_wp2_with (first | (refine goA (some 150) Try.func125 (twin_Shl.calls x188000_68 x188001_68 (wrap64 (a0 - 1)) t203 t204 t205 t206 _ A110.out) ?_; intro w116 hb; replace BK173 := bkB BK173 hb; replace BK180 := bkB BK180 hb; replace BK187 := bkB BK187 hb; replace HB := hbS hb; clear hb; (try simp only [errW_none, errW_some])) | (refine boxA 15 (#[.int .u64 0, .int .u64 0]) 155 ?_; intro gb207 hg w117 BK207 hb; have GW207 := geT hg; have GE207 := GW207; obtain ⟨NB173_207, NB207_173⟩ := neT BK173 hg; obtain ⟨NB180_207, NB207_180⟩ := neT BK180 hg; obtain ⟨NB187_207, NB207_187⟩ := neT BK187 hg; replace BK173 := bkB BK173 hb; replace BK180 := bkB BK180 hb; replace BK187 := bkB BK187 hb; replace HB := hbS hb; clear hb hg; have hnb118 := NB207_173.out; have hnc118 := NB173_207.out; have hnb119 := NB207_180.out; have hnc119 := NB180_207.out; have hnb120 := NB207_187.out; have hnc120 := NB187_207.out; obtain ⟨z121_0, z121_1, y121_0, y121_1⟩ := cz2 BK207) | ((with_reducible refine gate_callee (f := 127) rfl ?_); refine goesL_ (some 161) rfl rfl Try.func127 (by kernel_rfl) rfl #[.int .u64 t203, .bool x12_68] rfl (by (try simp only [List.map_toArray, List.map_cons, List.map_nil]); first | done | rfl | (simp only [List.length_drop, List.length_take]; rfl)) ?_; (with_reducible refine (round_left.calls kj68 t203 x12_68 t208 _ A112.out).mono ?_); rintro e w' ⟨rfl, ⟨nd, rfl⟩⟩; refine ⟨_, rfl, ?_⟩))
       go_ret3
       exact ⟨by first | rfl | (simp [errW_none, errW_some] <;> rfl) | (simp only [← hji107, ← hji109]; first | rfl | (simp [errW_none, errW_some] <;> rfl)) | (simp [*, errW_none, errW_some] <;> rfl), hbT⟩
      ·rw [if_neg c111] at H
       obtain ⟨c111b0, c111b1⟩ := eqN c111
       replace H := Option.bind_eq_some_iff.mp H
       obtain ⟨t209, A1220, H⟩ := H
       try dsimp only at H
       have A122 := Aside0.mk A1220
       clear A1220
       simp only [Option.some.injEq, Prod.mk.injEq] at H
       obtain ⟨rfl, rfl, rfl⟩ := H
       have hnb123 := NB187_173.out
       have hnc123 := NB173_187.out
       have hnb124 := NB187_180.out
       have hnc124 := NB180_187.out
       obtain ⟨z125_0, z125_1, y125_0, y125_1⟩ := cz2 BK187
       go_wp2_with (first | (refine goA (some 150) Try.func125 (twin_Shl.calls x188000_68 x188001_68 (wrap64 (a0 - 1)) t203 t204 t205 t206 _ A110.out) ?_; intro w126 hb; replace BK173 := bkB BK173 hb; replace BK180 := bkB BK180 hb; replace BK187 := bkB BK187 hb; replace HB := hbS hb; clear hb; (try simp only [errW_none, errW_some])) | (refine boxA 15 (#[.int .u64 0, .int .u64 0]) 155 ?_; intro gb207 hg w127 BK207 hb; have GW207 := geT hg; have GE207 := GW207; obtain ⟨NB173_207, NB207_173⟩ := neT BK173 hg; obtain ⟨NB180_207, NB207_180⟩ := neT BK180 hg; obtain ⟨NB187_207, NB207_187⟩ := neT BK187 hg; replace BK173 := bkB BK173 hb; replace BK180 := bkB BK180 hb; replace BK187 := bkB BK187 hb; replace HB := hbS hb; clear hb hg; have hnb128 := NB207_173.out; have hnc128 := NB173_207.out; have hnb129 := NB207_180.out; have hnc129 := NB180_207.out; have hnb130 := NB207_187.out; have hnc130 := NB187_207.out; obtain ⟨z131_0, z131_1, y131_0, y131_1⟩ := cz2 BK207) | ((with_reducible refine gate_callee (f := 127) rfl ?_); refine goesL_ (some 161) rfl rfl Try.func127 (by kernel_rfl) rfl #[.int .u64 t203, .bool true] rfl (by (try simp only [List.map_toArray, List.map_cons, List.map_nil]); first | done | rfl | (simp only [List.length_drop, List.length_take]; rfl)) ?_; (with_reducible refine (round_left.calls kj68 t203 true t209 _ A122.out).mono ?_); rintro e w' ⟨rfl, ⟨nd, rfl⟩⟩; refine ⟨_, rfl, ?_⟩))
       go_ret3
       exact ⟨by first | rfl | (simp [errW_none, errW_some] <;> rfl) | (simp only [← hji107, ← hji109]; first | rfl | (simp [errW_none, errW_some] <;> rfl)) | (simp [*, errW_none, errW_some] <;> rfl), hbT⟩
     ·rw [if_neg c108] at H
      exact absurd H (by simp)

end Go.Proofs.Ytnlbfomlfhigcaa.Q
