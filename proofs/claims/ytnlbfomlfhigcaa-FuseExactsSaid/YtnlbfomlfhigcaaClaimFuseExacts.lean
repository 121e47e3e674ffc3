/- Proves the row of FuseExacts: for all arguments the law answers true and does not panic; no condition. -/
import Derived.Test.YtnlbfomlfhigcaaRows
import Derived.WalkKit
import Derived.ProofKit
import Derived.OpenShut
import Derived.ShutString
import Derived.ChangeOld
import Derived.Below
import Derived.SizedLaws
import Derived.Test.YtnlbfomlfhigcaaFuseExactsV20
import Derived.Test.YtnlbfomlfhigcaaFuseExactsV24
namespace Go.Proofs.Ytnlbfomlfhigcaa.fuseExacts
open Go.ChangeShapes Go.WideShapes Go.ChangeAt Go.RowKit
open Go.ChangeMaps (open_string shut_string)
set_option linter.unusedVariables false
theorem own : ownKnob Try.prog.godebug = none := by kernel_rfl
theorem word {a : Int} (h : (Lit.int .u64 a).wf = true) : ∃ x : Nat, a = (x : Int) ∧ x < 2 ^ 64 := by
  simp [Lit.wf, IntKind.min, IntKind.max, IntKind.signed, IntKind.bits] at h
  exact ⟨a.toNat, by omega, by omega⟩
theorem calls (K : Int) (n : Bool) (s h l : Int) (b : Bool) (K' : Int) (n' : Bool) (s' h' l' : Int) (b' : Bool) (w : World) (g3 : (Lit.int .u64 h).wf = true) (g4 : (Lit.int .u64 l).wf = true) (g3' : (Lit.int .u64 h').wf = true) (g4' : (Lit.int .u64 l').wf = true) :
    Calls Try.prog 10 #[.agg #[.int .i64 K, .bool n, .int .i64 s, .int .u64 h, .int .u64 l, .bool b], .agg #[.int .i64 K', .bool n', .int .i64 s', .int .u64 h', .int .u64 l', .bool b']] w fun e w' => e = .returned (.bool true) ∧ Below w.heap.size w w' := by
  obtain ⟨h, rfl, hh⟩ := word g3
  obtain ⟨l, rfl, hl⟩ := word g4
  obtain ⟨h', rfl, hh'⟩ := word g3'
  obtain ⟨l', rfl, hl'⟩ := word g4'
  exact Q.vernierlaw13_FuseExacts.calls 300 K n s h l b K' n' s' h' l' b' true w (Pure.FuseExacts K n s h l b K' n' s' h' l' b' hh hl hh' hl')
set_option maxRecDepth 100000 in
theorem lifted (os : Os) (started : os.Started) (H : Type) (enc : TypeId × Value → H) :
    ReturnsInHanded {} Try.checked os 10 .any (Rows.fuseExactsSpec.pre6 enc Try.prog Try.f10 Rows.fuseExactsRow.domain false) (Rows.fuseExactsSpec.post enc Try.prog Try.f10 false true false false) := by
  refine returnsInHanded_of_change_sized (C := Try.checked) own started (by kernel_rfl) Try.func10
    (ChangeSpec.witness6 (enc := enc) (C := Try.checked) false ⟨#[], #[.agg #[.int .i64 0, .bool false, .int .i64 0, .int .u64 0, .int .u64 0, .bool false], .agg #[.int .i64 0, .bool false, .int .i64 0, .int .u64 0, .int .u64 0, .bool false]], []⟩ 8 (by kernel_rfl) (by kernel_rfl) (by kernel_rfl) (by kernel_rfl)) ?_
  intro W base args ds gs before hval0 hW hcnd hsz0 _
  have hsz : (DataW.weightsEach Try.prog (Try.f10.params.toList ++ Rows.fuseExactsSpec.plain.varTypes Try.prog) (ds ++ gs)).all (· ≤ reachBytes) = true := hsz0
  have hval : ∀ (j : Nat) t v, Try.f10.params[j]? = some t → args[j]? = some v → Value.okWide Try.prog W .any base t v := hval0
  have hW' := hW
  obtain ⟨p, q, hA0, hV, rfl, hfz, hnd⟩ := hW
  have hA : DataW.TrodAll enc Try.prog W 0 (fun _ => true) true Try.f10.params.toList args.toList ds p := hA0
  rw [Try.params10] at hA hval hsz
  obtain ⟨v0, vs0, d0, ds0, p0, q0, hargs, rfl, rfl, h0, r0⟩ := trodAll_cons hA
  obtain ⟨v1, vs1, d1, ds1, p1, q1, rfl, rfl, rfl, h1, r1⟩ := trodAll_cons r0
  obtain ⟨rfl, rfl, rfl⟩ := trodAll_nil r1
  obtain rfl : args = #[v0, v1] := by cases args; simp_all
  obtain ⟨rfl, rfl⟩ := trodVars_none hV
  obtain ⟨a0, a1, a2, a3, a4, a5, rfl, rfl, rfl, g0, g2, g3, g4⟩ := Six.open86 (hval 0 86 v0 rfl rfl) h0
  obtain ⟨c0, c1, c2, c3, c4, c5, rfl, rfl, rfl, k0, k2, k3, k4⟩ := Six.open86 (hval 1 86 v1 rfl rfl) h1
  clear hA0 hval0 hsz0 hsz
  refine (calls a0 a1 a2 a3 a4 a5 c0 c1 c2 c3 c4 c5 W g3 g4 k3 k4).mono fun e W' ⟨he, bel⟩ => ?_
  subst he
  exact ⟨_, rfl, _, _, _, [], _, [], hW', trodAll_mk1 (shut_bool Try.underlying4 _), (trodAll_cons_mk (Six.shut86 g0 g2 g3 g4) (trodAll_cons_mk (Six.shut86 k0 k2 k3 k4) trodAll_mk0)), rfl, bel.frame _, fun h => by cases h⟩
theorem over : Rows.fuseExactsRow.holds Try.pinned (OpenSpec.ofChange Rows.fuseExactsSpec) :=
  OpenClaim.holds_of_wide 10 Try.f10 rfl rfl rfl rfl rfl rfl rfl ⟨rfl, rfl, rfl, rfl, rfl⟩ rfl rfl rfl rfl rfl (by kernel_rfl) Try.func10 (by kernel_rfl)
    (of_decide_eq_true (by kernel_rfl)) (by unfold Func.isWrapper; first | (rw [if_pos (by decide +kernel)]; kernel_rfl) | (rw [if_neg (by decide +kernel)]; exact ⟨rfl, rfl⟩))
    (fun os started H enc _ => lifted os started H enc)
theorem proved : Rows.FuseExactsSaid := over
end Go.Proofs.Ytnlbfomlfhigcaa.fuseExacts
namespace Go.Proofs.Ytnlbfomlfhigcaa
theorem fuseExacts_holds : Rows.FuseExactsSaid := fuseExacts.proved
end Go.Proofs.Ytnlbfomlfhigcaa
