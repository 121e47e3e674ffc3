/- Walks and plain laws that the claim stands on: each theorem named calls says that a call of a function returns what its f computes; the others are plain laws of these f. -/
import Derived.Test.YtnlbfomlfhigcaaG0123456a
import Derived.Test.YtnlbfomlfhigcaaG0123456f
namespace Go.Proofs.Ytnlbfomlfhigcaa.Q
open Go.RowKit Go.Proofs.YtnlbfomlfhigcaaW.PrintWords Go.Proofs.YtnlbfomlfhigcaaW.PrintLast Go.Proofs.YtnlbfomlfhigcaaW.PrintMore
attribute [local go_sem] max2_int min2_int max_two min_two max_three min_three max_four min_four
set_option linter.unusedVariables false
set_option linter.unusedSimpArgs false

def sum_Sub.f (k : Nat) (a0 : Int) (a1 : Int) (a2 : Int) : Option (Int × Option Int) := (sum_Add.f k a0 a1 (IntKind.u64.wrap (-a2))).bind fun bt913 => (some (bt913.1, bt913.2))
theorem sum_Sub.mono : ∀ a0 a1 a2 k, LeO (sum_Sub.f k a0 a1 a2) (sum_Sub.f (k + 1) a0 a1 a2) := by
 intro a0 a1 a2 k
 unfold sum_Sub.f
 repeat' first
   | (with_reducible exact sum_Add.mono _ _ _ _)
   | (with_reducible exact LeO.refl _)
   | (with_reducible exact LeO.none _)
   | (with_reducible refine LeO.ite ?_ ?_)
   | (with_reducible refine LeO.bind ?_ (fun _ => ?_))
set_option maxHeartbeats 8000000 in
set_option maxRecDepth 100000 in
theorem sum_Sub.calls (k : Nat) (a0 : Int) (a1 : Int) (a2 : Int) (r1 : Int) (r2 : Option Int) (w : World) (h : sum_Sub.f k a0 a1 a2 = some (r1, r2)) :
  Calls Try.prog 52 #[.int .i64 a0, .int .u64 a1, .int .u64 a2] w fun e w' => e = .returned (.tuple #[.int .u64 r1, errW r2]) ∧ Below w.heap.size w w' := by
 have HB := Aside0.mk (Below.refl w.heap.size w)
 have H := h
 clear h
 unfold sum_Sub.f at H
 replace H := Option.bind_eq_some_iff.mp H
 obtain ⟨⟨t913, t914⟩, A40, H⟩ := H
 try dsimp only at H
 have A4 := Aside0.mk A40
 clear A40
 simp only [Option.some.injEq, Prod.mk.injEq] at H
 obtain ⟨rfl, rfl⟩ := H
 go_enter Try.func52, Try.ntmps52
 go_wp2_with (first | ((with_reducible refine gate_callee (f := 32) rfl ?_); refine goA (some 12) Try.func32 (sum_Add.calls k a0 a1 (IntKind.u64.wrap (-a2)) t913 t914 _ A4.out) ?_; intro w5 hb; replace HB := hbS hb; clear hb; (try simp only [errW_none, errW_some])))
 go_ret2
 exact ⟨reT, hbT⟩

end Go.Proofs.Ytnlbfomlfhigcaa.Q
