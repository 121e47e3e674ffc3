/- Walks and plain laws that the claim stands on: each theorem named calls says that a call of a function returns what its f computes; the others are plain laws of these f, and the words that the walks use. -/
import Derived.Test.YtnlbfomlfhigcaaProg
import Derived.LaidEql
import Derived.KernelRfl
import Derived.ChangeKeysEq
import Derived.WalkKit
import Derived.Laws.StructEq
import Derived.Test.YtnlbfomlfhigcaaTopRisesV2
import Derived.Test.YtnlbfomlfhigcaaTopRisesV4
namespace Go.Proofs.Ytnlbfomlfhigcaa.Q
open Go.RowKit Go.Proofs.YtnlbfomlfhigcaaW.PrintWords Go.Proofs.YtnlbfomlfhigcaaW.PrintLast Go.Proofs.YtnlbfomlfhigcaaW.PrintMore
attribute [local go_sem] max2_int min2_int max_two min_two max_three min_three max_four min_four
set_option linter.unusedVariables false
set_option linter.unusedSimpArgs false
def round_Of.f (k : Nat) (a0_0 : Int) (a0_1 : Bool) (a0_2 : Int) (a0_3 : Int) : Option (Int × Bool × Int × Int × Int × Bool × Option Int) := (round_sound.f k a0_0 a0_1 a0_2 a0_3 0 false).bind fun t234 => (if t234 = true then (if a0_2 < (-1073741824) then (some (0, false, 0, 0, 0, false, some 1)) else (if a0_2 > 1073741824 then (some (0, false, 0, 0, 0, false, some 1)) else (some (a0_0, a0_1, a0_2, a0_3, 0, false, none)))) else (some (0, false, 0, 0, 0, false, some 1)))
set_option maxHeartbeats 8000000 in
set_option maxRecDepth 100000 in
theorem round_Of.calls (k : Nat) (a0_0 : Int) (a0_1 : Bool) (a0_2 : Int) (a0_3 : Int) (r1 : Int) (r2 : Bool) (r3 : Int) (r4 : Int) (r5 : Int) (r6 : Bool) (r7 : Option Int) (w : World) (h : round_Of.f k a0_0 a0_1 a0_2 a0_3 = some (r1, r2, r3, r4, r5, r6, r7)) :
  Calls Try.prog 78 #[.agg #[.int .i64 a0_0, .bool a0_1, .int .i64 a0_2, .int .u64 a0_3]] w fun e w' => e = .returned (.tuple #[.agg #[.int .i64 r1, .bool r2, .int .i64 r3, .int .u64 r4, .int .u64 r5, .bool r6], errW r7]) ∧ Below w.heap.size w w' := by
 have hu103 := Try.underlying103
 have hu86 := Try.underlying86
 have hu43 := Try.underlying43
 have hu82 := Try.underlying82
 have HB := Aside0.mk (Below.refl w.heap.size w)
 have H := h
 clear h
 unfold round_Of.f at H
 replace H := Option.bind_eq_some_iff.mp H
 obtain ⟨t234, A20, H⟩ := H
 try dsimp only at H
 have A2 := Aside0.mk A20
 clear A20
 by_cases c3 : t234 = true
 ·subst c3
  rw [if_pos rfl] at H
  by_cases c4 : a0_2 < (-1073741824)
  ·rw [if_pos c4] at H
   have c4b0 : decide (a0_2 < (-1073741824)) = true := decide_eq_true c4
   clear c4
   simp only [Option.some.injEq, Prod.mk.injEq] at H
   obtain ⟨rfl, rfl, rfl, rfl, rfl, rfl, rfl⟩ := H
   go_enter Try.func78, Try.ntmps78
   go_wp2_with (first | ((with_reducible refine gate_dst (N := 1) rfl ?_); refine boxA 1 (#[.int .i64 a0_0, .bool a0_1, .int .i64 a0_2, .int .u64 a0_3]) 103 ?_; intro gb231 hg w5 BK231 hb; have GW231 := geT hg; have GE231 := GW231; replace HB := hbS hb; clear hb hg) | ((with_reducible refine gate_dst (N := 2) rfl ?_); refine boxA 2 (#[.int .i64 0, .bool false, .int .i64 0, .int .u64 0, .int .u64 0, .bool false]) 86 ?_; intro gb232 hg w6 BK232 hb; have GW232 := geT hg; have GE232 := GW232; obtain ⟨NB231_232, NB232_231⟩ := neT BK231 hg; replace BK231 := bkB BK231 hb; replace HB := hbS hb; clear hb hg; have hnb7 := NB231_232.out; have hnc7 := NB232_231.out; obtain ⟨z8_0, z8_1, z8_2, z8_3, y8_0, y8_1, y8_2, y8_3⟩ := cz4 BK231) | ((with_reducible refine gate_dst (N := 4) rfl ?_); refine boxA 4 (#[.int .i64 0, .bool false, .int .i64 0, .int .u64 0, .int .u64 0, .bool false]) 86 ?_; intro gb233 hg w9 BK233 hb; have GW233 := geT hg; have GE233 := GW233; obtain ⟨NB231_233, NB233_231⟩ := neT BK231 hg; obtain ⟨NB232_233, NB233_232⟩ := neT BK232 hg; replace BK231 := bkB BK231 hb; replace BK232 := bkB BK232 hb; replace HB := hbS hb; clear hb hg; have hnb10 := NB233_231.out; have hnc10 := NB231_233.out; have hnb11 := NB233_232.out; have hnc11 := NB232_233.out; obtain ⟨z12_0, z12_1, z12_2, z12_3, z12_4, z12_5, y12_0, y12_1, y12_2, y12_3, y12_4, y12_5⟩ := cz6 BK233) | ((with_reducible refine gate_callee (f := 100) rfl ?_); refine goA (some 15) Try.func100 (round_sound.calls k a0_0 a0_1 a0_2 a0_3 0 false true _ A2.out) ?_; intro w13 hb; replace BK231 := bkB BK231 hb; replace BK232 := bkB BK232 hb; replace BK233 := bkB (o := .cells #[.int .i64 a0_0, .bool a0_1, .int .i64 a0_2, .int .u64 a0_3, .int .u64 0, .bool false] 86 (0, 0)) BK233 hb; replace HB := hbS hb; clear hb; obtain ⟨z14_0, z14_1, z14_2, z14_3, y14_0, y14_1, y14_2, y14_3⟩ := cz4 BK231; obtain ⟨z15_0, z15_1, z15_2, z15_3, z15_4, z15_5, y15_0, y15_1, y15_2, y15_3, y15_4, y15_5⟩ := cz6 BK232))
   refine bodyPost_ret (results_ct rfl _ _ gb232 86 #[.int .i64 0, .bool false, .int .i64 0, .int .u64 0, .int .u64 0, .bool false] (0, 0) _ rfl (bkT BK232) Try.underlying86 rfl (by kernel_rfl)) rfl ?_
   exact ⟨reT, hbT⟩
  ·rw [if_neg c4] at H
   have c4b0 : decide (a0_2 < (-1073741824)) = false := decide_eq_false c4
   clear c4
   by_cases c16 : a0_2 > 1073741824
   ·rw [if_pos c16] at H
    have c16b0 : decide (1073741824 < a0_2) = true := decide_eq_true c16
    clear c16
    simp only [Option.some.injEq, Prod.mk.injEq] at H
    obtain ⟨rfl, rfl, rfl, rfl, rfl, rfl, rfl⟩ := H
    go_enter Try.func78, Try.ntmps78
    go_wp2_with (first | ((with_reducible refine gate_dst (N := 1) rfl ?_); refine boxA 1 (#[.int .i64 a0_0, .bool a0_1, .int .i64 a0_2, .int .u64 a0_3]) 103 ?_; intro gb231 hg w17 BK231 hb; have GW231 := geT hg; have GE231 := GW231; replace HB := hbS hb; clear hb hg) | ((with_reducible refine gate_dst (N := 2) rfl ?_); refine boxA 2 (#[.int .i64 0, .bool false, .int .i64 0, .int .u64 0, .int .u64 0, .bool false]) 86 ?_; intro gb232 hg w18 BK232 hb; have GW232 := geT hg; have GE232 := GW232; obtain ⟨NB231_232, NB232_231⟩ := neT BK231 hg; replace BK231 := bkB BK231 hb; replace HB := hbS hb; clear hb hg; have hnb19 := NB231_232.out; have hnc19 := NB232_231.out; obtain ⟨z20_0, z20_1, z20_2, z20_3, y20_0, y20_1, y20_2, y20_3⟩ := cz4 BK231) | ((with_reducible refine gate_dst (N := 4) rfl ?_); refine boxA 4 (#[.int .i64 0, .bool false, .int .i64 0, .int .u64 0, .int .u64 0, .bool false]) 86 ?_; intro gb233 hg w21 BK233 hb; have GW233 := geT hg; have GE233 := GW233; obtain ⟨NB231_233, NB233_231⟩ := neT BK231 hg; obtain ⟨NB232_233, NB233_232⟩ := neT BK232 hg; replace BK231 := bkB BK231 hb; replace BK232 := bkB BK232 hb; replace HB := hbS hb; clear hb hg; have hnb22 := NB233_231.out; have hnc22 := NB231_233.out; have hnb23 := NB233_232.out; have hnc23 := NB232_233.out; obtain ⟨z24_0, z24_1, z24_2, z24_3, z24_4, z24_5, y24_0, y24_1, y24_2, y24_3, y24_4, y24_5⟩ := cz6 BK233) | ((with_reducible refine gate_callee (f := 100) rfl ?_); refine goA (some 15) Try.func100 (round_sound.calls k a0_0 a0_1 a0_2 a0_3 0 false true _ A2.out) ?_; intro w25 hb; replace BK231 := bkB BK231 hb; replace BK232 := bkB BK232 hb; replace BK233 := bkB (o := .cells #[.int .i64 a0_0, .bool a0_1, .int .i64 a0_2, .int .u64 a0_3, .int .u64 0, .bool false] 86 (0, 0)) BK233 hb; replace HB := hbS hb; clear hb; obtain ⟨z26_0, z26_1, z26_2, z26_3, y26_0, y26_1, y26_2, y26_3⟩ := cz4 BK231; obtain ⟨z27_0, z27_1, z27_2, z27_3, z27_4, z27_5, y27_0, y27_1, y27_2, y27_3, y27_4, y27_5⟩ := cz6 BK232))
    refine bodyPost_ret (results_ct rfl _ _ gb232 86 #[.int .i64 0, .bool false, .int .i64 0, .int .u64 0, .int .u64 0, .bool false] (0, 0) _ rfl (bkT BK232) Try.underlying86 rfl (by kernel_rfl)) rfl ?_
    exact ⟨reT, hbT⟩
   ·rw [if_neg c16] at H
    have c16b0 : decide (1073741824 < a0_2) = false := decide_eq_false c16
    clear c16
    simp only [Option.some.injEq, Prod.mk.injEq] at H
    obtain ⟨rfl, rfl, rfl, rfl, rfl, rfl, rfl⟩ := H
    go_enter Try.func78, Try.ntmps78
    go_wp2_with (first | ((with_reducible refine gate_dst (N := 1) rfl ?_); refine boxA 1 (#[.int .i64 a0_0, .bool a0_1, .int .i64 a0_2, .int .u64 a0_3]) 103 ?_; intro gb231 hg w28 BK231 hb; have GW231 := geT hg; have GE231 := GW231; replace HB := hbS hb; clear hb hg) | ((with_reducible refine gate_dst (N := 2) rfl ?_); refine boxA 2 (#[.int .i64 0, .bool false, .int .i64 0, .int .u64 0, .int .u64 0, .bool false]) 86 ?_; intro gb232 hg w29 BK232 hb; have GW232 := geT hg; have GE232 := GW232; obtain ⟨NB231_232, NB232_231⟩ := neT BK231 hg; replace BK231 := bkB BK231 hb; replace HB := hbS hb; clear hb hg; have hnb30 := NB231_232.out; have hnc30 := NB232_231.out; obtain ⟨z31_0, z31_1, z31_2, z31_3, y31_0, y31_1, y31_2, y31_3⟩ := cz4 BK231) | ((with_reducible refine gate_dst (N := 4) rfl ?_); refine boxA 4 (#[.int .i64 0, .bool false, .int .i64 0, .int .u64 0, .int .u64 0, .bool false]) 86 ?_; intro gb233 hg w32 BK233 hb; have GW233 := geT hg; have GE233 := GW233; obtain ⟨NB231_233, NB233_231⟩ := neT BK231 hg; obtain ⟨NB232_233, NB233_232⟩ := neT BK232 hg; replace BK231 := bkB BK231 hb; replace BK232 := bkB BK232 hb; replace HB := hbS hb; clear hb hg; have hnb33 := NB233_231.out; have hnc33 := NB231_233.out; have hnb34 := NB233_232.out; have hnc34 := NB232_233.out; obtain ⟨z35_0, z35_1, z35_2, z35_3, z35_4, z35_5, y35_0, y35_1, y35_2, y35_3, y35_4, y35_5⟩ := cz6 BK233) | ((with_reducible refine gate_callee (f := 100) rfl ?_); refine goA (some 15) Try.func100 (round_sound.calls k a0_0 a0_1 a0_2 a0_3 0 false true _ A2.out) ?_; intro w36 hb; replace BK231 := bkB BK231 hb; replace BK232 := bkB BK232 hb; replace BK233 := bkB (o := .cells #[.int .i64 a0_0, .bool a0_1, .int .i64 a0_2, .int .u64 a0_3, .int .u64 0, .bool false] 86 (0, 0)) BK233 hb; replace HB := hbS hb; clear hb; obtain ⟨z37_0, z37_1, z37_2, z37_3, y37_0, y37_1, y37_2, y37_3⟩ := cz4 BK231; obtain ⟨z38_0, z38_1, z38_2, z38_3, z38_4, z38_5, y38_0, y38_1, y38_2, y38_3, y38_4, y38_5⟩ := cz6 BK233; obtain ⟨z39_0, z39_1, z39_2, z39_3, z39_4, z39_5, y39_0, y39_1, y39_2, y39_3, y39_4, y39_5⟩ := cz6 BK232))
    refine bodyPost_ret (results_ct rfl _ _ gb232 86 #[.int .i64 a0_0, .bool a0_1, .int .i64 a0_2, .int .u64 a0_3, .int .u64 0, .bool false] (0, 0) _ rfl (bkT BK232) Try.underlying86 rfl (by kernel_rfl)) rfl ?_
    exact ⟨reT, hbT⟩
 ·replace c3 := Bool.eq_false_iff.mpr c3
  subst c3
  rw [if_neg (show ¬ (false = true) by decide)] at H
  simp only [Option.some.injEq, Prod.mk.injEq] at H
  obtain ⟨rfl, rfl, rfl, rfl, rfl, rfl, rfl⟩ := H
  go_enter Try.func78, Try.ntmps78
  go_wp2_with (first | ((with_reducible refine gate_dst (N := 1) rfl ?_); refine boxA 1 (#[.int .i64 a0_0, .bool a0_1, .int .i64 a0_2, .int .u64 a0_3]) 103 ?_; intro gb231 hg w40 BK231 hb; have GW231 := geT hg; have GE231 := GW231; replace HB := hbS hb; clear hb hg) | ((with_reducible refine gate_dst (N := 2) rfl ?_); refine boxA 2 (#[.int .i64 0, .bool false, .int .i64 0, .int .u64 0, .int .u64 0, .bool false]) 86 ?_; intro gb232 hg w41 BK232 hb; have GW232 := geT hg; have GE232 := GW232; obtain ⟨NB231_232, NB232_231⟩ := neT BK231 hg; replace BK231 := bkB BK231 hb; replace HB := hbS hb; clear hb hg; have hnb42 := NB231_232.out; have hnc42 := NB232_231.out; obtain ⟨z43_0, z43_1, z43_2, z43_3, y43_0, y43_1, y43_2, y43_3⟩ := cz4 BK231) | ((with_reducible refine gate_dst (N := 4) rfl ?_); refine boxA 4 (#[.int .i64 0, .bool false, .int .i64 0, .int .u64 0, .int .u64 0, .bool false]) 86 ?_; intro gb233 hg w44 BK233 hb; have GW233 := geT hg; have GE233 := GW233; obtain ⟨NB231_233, NB233_231⟩ := neT BK231 hg; obtain ⟨NB232_233, NB233_232⟩ := neT BK232 hg; replace BK231 := bkB BK231 hb; replace BK232 := bkB BK232 hb; replace HB := hbS hb; clear hb hg; have hnb45 := NB233_231.out; have hnc45 := NB231_233.out; have hnb46 := NB233_232.out; have hnc46 := NB232_233.out; obtain ⟨z47_0, z47_1, z47_2, z47_3, z47_4, z47_5, y47_0, y47_1, y47_2, y47_3, y47_4, y47_5⟩ := cz6 BK233) | ((with_reducible refine gate_callee (f := 100) rfl ?_); refine goA (some 15) Try.func100 (round_sound.calls k a0_0 a0_1 a0_2 a0_3 0 false false _ A2.out) ?_; intro w48 hb; replace BK231 := bkB BK231 hb; replace BK232 := bkB BK232 hb; replace BK233 := bkB (o := .cells #[.int .i64 a0_0, .bool a0_1, .int .i64 a0_2, .int .u64 a0_3, .int .u64 0, .bool false] 86 (0, 0)) BK233 hb; replace HB := hbS hb; clear hb; obtain ⟨z49_0, z49_1, z49_2, z49_3, z49_4, z49_5, y49_0, y49_1, y49_2, y49_3, y49_4, y49_5⟩ := cz6 BK232))
  refine bodyPost_ret (results_ct rfl _ _ gb232 86 #[.int .i64 0, .bool false, .int .i64 0, .int .u64 0, .int .u64 0, .bool false] (0, 0) _ rfl (bkT BK232) Try.underlying86 rfl (by kernel_rfl)) rfl ?_
  exact ⟨reT, hbT⟩
end Go.Proofs.Ytnlbfomlfhigcaa.Q
namespace Go.Proofs.Ytnlbfomlfhigcaa
open Go
section
variable {P : Program} (w : World)
theorem run_equalIn_iface_int (d : Nat) {ti tn : TypeId} {ms : Array (String × TypeId)} {i : TypeInfo} {k : IntKind} (a b : Int)
    (hi : P.underlying ti = some (.interface ms)) (hn : P.underlying tn = some (.int k)) (hinfo : P.info? tn = some i) (hcomp : i.comparable = true) :
    (Op.equalIn (d + 2) ti (.iface tn (.int k a)) (.iface tn (.int k b))).run P w = .ok (a == b) w := by
  simp [Op.equalIn, run_underlying hi, run_underlying hn, typeInfo, hinfo, hcomp]
theorem run_eql_iface_int {ti tn : TypeId} {ms : Array (String × TypeId)} {i : TypeInfo} {k : IntKind} (a b : Int)
    (hi : P.underlying ti = some (.interface ms)) (hn : P.underlying tn = some (.int k)) (hinfo : P.info? tn = some i) (hcomp : i.comparable = true) :
    (binOp .eql ti (.iface tn (.int k a)) (.iface tn (.int k b))).run P w = .ok (.bool (a == b)) w := by
  simp only [binOp]
  simp [Op.equal, Op.maxDepth, run_equalIn_iface_int w 9998 a b hi hn hinfo hcomp]
end
theorem arr4_eq {P : Program} (d : Nat) (w : World) {t e : TypeId} (hu : P.underlying t = some (.array 4 e)) (he : P.underlying e = some (.int .u64)) (hs : (P.info? e).map (·.size) = some 1) (hg : ∀ w : World, (isAgg e).run P w = .ok false w) (x0 y0 x1 y1 x2 y2 x3 y3 : Int) :
    (Op.equalIn (d + 2) t (.agg #[.int .u64 x0, .int .u64 x1, .int .u64 x2, .int .u64 x3]) (.agg #[.int .u64 y0, .int .u64 y1, .int .u64 y2, .int .u64 y3])).run P w = .ok (x0 == y0 && (x1 == y1 && (x2 == y2 && (x3 == y3)))) w := by
  obtain ⟨i, hi, hz⟩ := Option.map_eq_some_iff.mp hs
  rw [run_equalIn_array w (d + 1) _ _ hu hi]
  have hc : P.cellsOf e = 1 := by simp [Program.cellsOf, hi, hz]
  have hp : ∀ (xs : Array Value) (i : Nat) (v : Value), xs[i]? = some v → (part e xs i).run P w = .ok v w := by
    intro xs i v h
    simp [part, hg, h]
  have hq := fun a b => run_equalIn_int (P := P) w d e .u64 .u64 a b he
  have p0 := fun (a b c d : Value) => hp #[a, b, c, d] 0 a rfl
  have p1 := fun (a b c d : Value) => hp #[a, b, c, d] 1 b rfl
  have p2 := fun (a b c d : Value) => hp #[a, b, c, d] 2 c rfl
  have p3 := fun (a b c d : Value) => hp #[a, b, c, d] 3 d rfl
  have q0 := hq x0 y0
  have q1 := hq x1 y1
  have q2 := hq x2 y2
  have q3 := hq x3 y3
  generalize (x0 == y0) = b0 at *
  generalize (x1 == y1) = b1 at *
  generalize (x2 == y2) = b2 at *
  generalize (x3 == y3) = b3 at *
  simp only [List.range, List.range.loop, Op.eqItems, hc, Nat.mul_one, Sem.run_bind, p0, q0, Result.andThen_ok]
  cases b0 <;> cases b1 <;> cases b2 <;> cases b3 <;> simp [p1, p2, p3, q1, q2, q3]
theorem comp82 : (Try.prog.info? 82).map (fun i => i.comparable) = some true := by kernel_rfl
theorem eqErr (w : World) (a b : Int) : (binOp .eql 43 (.iface 82 (.int .i64 a)) (.iface 82 (.int .i64 b))).run Try.prog w = .ok (.bool (a == b)) w := by
  obtain ⟨i, hi, hc⟩ := Option.map_eq_some_iff.mp comp82
  exact run_eql_iface_int w a b Try.underlying43 Try.underlying82 hi hc
theorem eqErrNil (w : World) (b : Int) : (binOp .eql 43 .nilIface (.iface 82 (.int .i64 b))).run Try.prog w = .ok (.bool false) w :=
  run_eql_iface_nil_left w 82 _ Try.underlying43
end Go.Proofs.Ytnlbfomlfhigcaa
namespace Go.Proofs.Ytnlbfomlfhigcaa.Q
open Go.RowKit Go.Proofs.YtnlbfomlfhigcaaW.PrintWords Go.Proofs.YtnlbfomlfhigcaaW.PrintLast Go.Proofs.YtnlbfomlfhigcaaW.PrintMore
attribute [local go_sem] max2_int min2_int max_two min_two max_three min_three max_four min_four
set_option linter.unusedVariables false
set_option linter.unusedSimpArgs false
theorem eqA137 (d : Nat) (w : World) (x0 y0 : Int) (x1 y1 : Int) (x2 y2 : Int) (x3 y3 : Int) :
    (Op.equalIn (d + 2) 137 (.agg #[.int .u64 x0, .int .u64 x1, .int .u64 x2, .int .u64 x3]) (.agg #[.int .u64 y0, .int .u64 y1, .int .u64 y2, .int .u64 y3])).run Try.prog w = .ok (x0 == y0 && (x1 == y1 && (x2 == y2 && (x3 == y3)))) w := by
  refine arr4_eq d w Try.underlying137 Try.underlying25 (by kernel_rfl) Try.isAgg25 x0 y0 x1 y1 x2 y2 x3 y3
end Go.Proofs.Ytnlbfomlfhigcaa.Q
