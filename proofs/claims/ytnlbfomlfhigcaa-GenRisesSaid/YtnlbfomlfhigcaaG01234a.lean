/- Walks and plain laws that the claim stands on: each theorem named calls says that a call of a function returns what its f computes; the others are plain laws of these f. -/
import Derived.Lib.Hide
import Derived.Test.YtnlbfomlfhigcaaG0123456a
import Derived.Test.YtnlbfomlfhigcaaG0123456b
import Derived.Test.YtnlbfomlfhigcaaG0123456c
import Derived.Test.YtnlbfomlfhigcaaG0123456f
import Derived.Test.YtnlbfomlfhigcaaG012346a
import Derived.Test.YtnlbfomlfhigcaaG012345a
namespace Go.Proofs.Ytnlbfomlfhigcaa.Q
open Go.RowKit Go.Proofs.YtnlbfomlfhigcaaW.PrintWords Go.Proofs.YtnlbfomlfhigcaaW.PrintLast Go.Proofs.YtnlbfomlfhigcaaW.PrintMore
attribute [local go_sem] max2_int min2_int max_two min_two max_three min_three max_four min_four
set_option linter.unusedVariables false
set_option linter.unusedSimpArgs false

def gen_Convert.f (k : Nat) (a0 : Int) (a1 : Int) (a2 : Int) : Option (Int × Option Int) := (shape_Of.f a1).bind fun bt235 => (if bt235.2.2.2.2.2.isNone = true then ((codec_Decode.f k a0 a2).bind fun bt243 => (if bt243.2.2.2.2.isNone = true then ((round_Of.f k bt243.1 bt243.2.1 bt243.2.2.1 bt243.2.2.2.1).bind fun bt250 => ((round_Round.f k a1 bt250.1 bt250.2.1 bt250.2.2.1 bt250.2.2.2.1 bt250.2.2.2.2.1 bt250.2.2.2.2.2.1).bind fun bt258 => (some (bt258.1, bt258.2)))) else (some (0, some (bt243.2.2.2.2.getD 0))))) else (some (0, some (bt235.2.2.2.2.2.getD 0))))
theorem gen_Convert.mono : ∀ a0 a1 a2 k, LeO (gen_Convert.f k a0 a1 a2) (gen_Convert.f (k + 1) a0 a1 a2) := by
 intro a0 a1 a2 k
 unfold gen_Convert.f
 repeat' first
   | (with_reducible exact codec_Decode.mono _ _ _)
   | (with_reducible exact round_Of.mono _ _ _ _ _)
   | (with_reducible exact round_Round.mono _ _ _ _ _ _ _ _)
   | (with_reducible exact LeO.refl _)
   | (with_reducible exact LeO.none _)
   | (with_reducible refine LeO.ite ?_ ?_)
   | (with_reducible refine LeO.bind ?_ (fun _ => ?_))
set_option maxHeartbeats 8000000 in
set_option maxRecDepth 100000 in
theorem gen_Convert.calls (k : Nat) (a0 : Int) (a1 : Int) (a2 : Int) (r1 : Int) (r2 : Option Int) (w : World) (h : gen_Convert.f k a0 a1 a2 = some (r1, r2)) :
  Calls Try.prog 45 #[.int .i64 a0, .int .i64 a1, .int .u64 a2] w fun e w' => e = .returned (.tuple #[.int .u64 r1, errW r2]) ∧ Below w.heap.size w w' := by
 have hu119 := Try.underlying119
 have hu103 := Try.underlying103
 have hu86 := Try.underlying86
 have hu43 := Try.underlying43
 have hu82 := Try.underlying82
 have HB := Aside0.mk (Below.refl w.heap.size w)
 have H := h
 clear h
 unfold gen_Convert.f at H
 replace H := Option.bind_eq_some_iff.mp H
 obtain ⟨⟨t235, t236, t237, t238, t239, t240⟩, A40, H⟩ := H
 try dsimp only at H
 have A4 := Aside0.mk A40
 clear A40
 rcases t240 with _ | q242
 ·rw [if_pos (show (none : Option Int).isNone = true by rfl)] at H
  try simp only [errW_none, errW_some]
  replace H := Option.bind_eq_some_iff.mp H
  obtain ⟨⟨t243, t244, t245, t246, t247⟩, A50, H⟩ := H
  try dsimp only at H
  have A5 := Aside0.mk A50
  clear A50
  rcases t247 with _ | q249
  ·rw [if_pos (show (none : Option Int).isNone = true by rfl)] at H
   try simp only [errW_none, errW_some]
   replace H := Option.bind_eq_some_iff.mp H
   obtain ⟨⟨t250, t251, t252, t253, t254, t255, t256⟩, A60, H⟩ := H
   try dsimp only at H
   have A6 := Aside0.mk A60
   clear A60
   replace H := Option.bind_eq_some_iff.mp H
   obtain ⟨⟨t258, t259⟩, A70, H⟩ := H
   try dsimp only at H
   have A7 := Aside0.mk A70
   clear A70
   simp only [Option.some.injEq, Prod.mk.injEq] at H
   obtain ⟨rfl, rfl⟩ := H
   go_enter Try.func45, Try.ntmps45
   go_wp2_with (first | ((with_reducible refine gate_callee (f := 87) rfl ?_); refine goA (some 16) Try.func87 (shape_Of.calls a1 t235 t236 t237 t238 t239 none _ A4.out) ?_; intro w8 hb; replace HB := hbS hb; clear hb; (try simp only [errW_none, errW_some])) | ((with_reducible refine gate_dst (N := 8) rfl ?_); refine boxA 8 (#[.int .i64 0, .int .u64 0, .int .u64 0, .int .u64 0, .int .i64 0]) 119 ?_; intro gb241 hg w9 BK241 hb; have GW241 := geT hg; have GE241 := GW241; replace HB := hbS hb; clear hb hg; obtain ⟨z10_0, z10_1, z10_2, z10_3, z10_4, y10_0, y10_1, y10_2, y10_3, y10_4⟩ := cz5 BK241) | ((with_reducible refine gate_callee (f := 72) rfl ?_); refine goA (some 25) Try.func72 (codec_Decode.calls k a0 a2 t243 t244 t245 t246 none _ A5.out) ?_; intro w11 hb; replace BK241 := bkB (o := .cells #[.int .i64 t235, .int .u64 t236, .int .u64 t237, .int .u64 t238, .int .i64 t239] 119 (0, 0)) BK241 hb; replace HB := hbS hb; clear hb; (try simp only [errW_none, errW_some])) | ((with_reducible refine gate_dst (N := 10) rfl ?_); refine boxA 10 (#[.int .i64 0, .bool false, .int .i64 0, .int .u64 0]) 103 ?_; intro gb248 hg w12 BK248 hb; have GW248 := geT hg; have GE248 := GW248; obtain ⟨NB241_248, NB248_241⟩ := neT BK241 hg; replace BK241 := bkB BK241 hb; replace HB := hbS hb; clear hb hg; have hnb13 := NB248_241.out; have hnc13 := NB241_248.out; obtain ⟨z14_0, z14_1, z14_2, z14_3, y14_0, y14_1, y14_2, y14_3⟩ := cz4 BK248) | ((with_reducible refine gate_callee (f := 78) rfl ?_); refine goA (some 33) Try.func78 (round_Of.calls k t243 t244 t245 t246 t250 t251 t252 t253 t254 t255 t256 _ A6.out) ?_; intro w15 hb; replace BK241 := bkB BK241 hb; replace BK248 := bkB (o := .cells #[.int .i64 t243, .bool t244, .int .i64 t245, .int .u64 t246] 103 (0, 0)) BK248 hb; replace HB := hbS hb; clear hb; (try simp only [errW_none, errW_some])) | ((with_reducible refine gate_dst (N := 12) rfl ?_); refine boxA 12 (#[.int .i64 0, .bool false, .int .i64 0, .int .u64 0, .int .u64 0, .bool false]) 86 ?_; intro gb257 hg w16 BK257 hb; have GW257 := geT hg; have GE257 := GW257; obtain ⟨NB241_257, NB257_241⟩ := neT BK241 hg; obtain ⟨NB248_257, NB257_248⟩ := neT BK248 hg; replace BK241 := bkB BK241 hb; replace BK248 := bkB BK248 hb; replace HB := hbS hb; clear hb hg; have hnb17 := NB257_241.out; have hnc17 := NB241_257.out; have hnb18 := NB257_248.out; have hnc18 := NB248_257.out; obtain ⟨z19_0, z19_1, z19_2, z19_3, z19_4, z19_5, y19_0, y19_1, y19_2, y19_3, y19_4, y19_5⟩ := cz6 BK257) | ((with_reducible refine gate_callee (f := 74) rfl ?_); refine goA (some 38) Try.func74 (round_Round.calls k a1 t250 t251 t252 t253 t254 t255 t258 t259 _ A7.out) ?_; intro w20 hb; replace BK241 := bkB BK241 hb; replace BK248 := bkB BK248 hb; replace BK257 := bkB (o := .cells #[.int .i64 t250, .bool t251, .int .i64 t252, .int .u64 t253, .int .u64 t254, .bool t255] 86 (0, 0)) BK257 hb; replace HB := hbS hb; clear hb; (try simp only [errW_none, errW_some])))
   go_ret2
   exact ⟨reT, hbT⟩
  ·rw [if_neg (show ¬ (some q249).isNone = true by simp)] at H
   try simp only [errW_none, errW_some]
   simp only [Option.some.injEq, Prod.mk.injEq] at H
   obtain ⟨rfl, rfl⟩ := H
   go_enter Try.func45, Try.ntmps45
   go_wp2_with (first | ((with_reducible refine gate_callee (f := 87) rfl ?_); refine goA (some 16) Try.func87 (shape_Of.calls a1 t235 t236 t237 t238 t239 none _ A4.out) ?_; intro w21 hb; replace HB := hbS hb; clear hb; (try simp only [errW_none, errW_some])) | ((with_reducible refine gate_dst (N := 8) rfl ?_); refine boxA 8 (#[.int .i64 0, .int .u64 0, .int .u64 0, .int .u64 0, .int .i64 0]) 119 ?_; intro gb241 hg w22 BK241 hb; have GW241 := geT hg; have GE241 := GW241; replace HB := hbS hb; clear hb hg; obtain ⟨z23_0, z23_1, z23_2, z23_3, z23_4, y23_0, y23_1, y23_2, y23_3, y23_4⟩ := cz5 BK241) | ((with_reducible refine gate_callee (f := 72) rfl ?_); refine goA (some 25) Try.func72 (codec_Decode.calls k a0 a2 t243 t244 t245 t246 (some q249) _ A5.out) ?_; intro w24 hb; replace BK241 := bkB (o := .cells #[.int .i64 t235, .int .u64 t236, .int .u64 t237, .int .u64 t238, .int .i64 t239] 119 (0, 0)) BK241 hb; replace HB := hbS hb; clear hb; (try simp only [errW_none, errW_some])) | ((with_reducible refine gate_dst (N := 10) rfl ?_); refine boxA 10 (#[.int .i64 0, .bool false, .int .i64 0, .int .u64 0]) 103 ?_; intro gb248 hg w25 BK248 hb; have GW248 := geT hg; have GE248 := GW248; obtain ⟨NB241_248, NB248_241⟩ := neT BK241 hg; replace BK241 := bkB BK241 hb; replace HB := hbS hb; clear hb hg; have hnb26 := NB248_241.out; have hnc26 := NB241_248.out; obtain ⟨z27_0, z27_1, z27_2, z27_3, y27_0, y27_1, y27_2, y27_3⟩ := cz4 BK248))
   go_ret2
   exact ⟨reT, hbT⟩
 ·rw [if_neg (show ¬ (some q242).isNone = true by simp)] at H
  try simp only [errW_none, errW_some]
  simp only [Option.some.injEq, Prod.mk.injEq] at H
  obtain ⟨rfl, rfl⟩ := H
  go_enter Try.func45, Try.ntmps45
  go_wp2_with (first | ((with_reducible refine gate_callee (f := 87) rfl ?_); refine goA (some 16) Try.func87 (shape_Of.calls a1 t235 t236 t237 t238 t239 (some q242) _ A4.out) ?_; intro w28 hb; replace HB := hbS hb; clear hb; (try simp only [errW_none, errW_some])) | ((with_reducible refine gate_dst (N := 8) rfl ?_); refine boxA 8 (#[.int .i64 0, .int .u64 0, .int .u64 0, .int .u64 0, .int .i64 0]) 119 ?_; intro gb241 hg w29 BK241 hb; have GW241 := geT hg; have GE241 := GW241; replace HB := hbS hb; clear hb hg; obtain ⟨z30_0, z30_1, z30_2, z30_3, z30_4, y30_0, y30_1, y30_2, y30_3, y30_4⟩ := cz5 BK241))
  go_ret2
  exact ⟨reT, hbT⟩

end Go.Proofs.Ytnlbfomlfhigcaa.Q
namespace Go.Proofs.Ytnlbfomlfhigcaa.Q
open Go.RowKit Go.Proofs.YtnlbfomlfhigcaaW.PrintWords Go.Proofs.YtnlbfomlfhigcaaW.PrintLast Go.Proofs.YtnlbfomlfhigcaaW.PrintMore
attribute [local go_sem] max2_int min2_int max_two min_two max_three min_three max_four min_four
set_option linter.unusedVariables false
set_option linter.unusedSimpArgs false

def prod_Mul.f (k : Nat) (a0 : Int) (a1 : Int) (a2 : Int) : Option (Int × Option Int) := (codec_Decode.f k a0 a1).bind fun bt915 => (if bt915.2.2.2.2.isNone = true then ((codec_Decode.f k a0 a2).bind fun bt922 => ((prod_Exact.f k bt915.1 bt915.2.1 bt915.2.2.1 bt915.2.2.2.1 bt922.1 bt922.2.1 bt922.2.2.1 bt922.2.2.2.1).bind fun bt928 => ((round_Round.f k a0 bt928.1 bt928.2.1 bt928.2.2.1 bt928.2.2.2.1 bt928.2.2.2.2.1 bt928.2.2.2.2.2.1).bind fun bt936 => (some (bt936.1, bt936.2))))) else (some (0, some (bt915.2.2.2.2.getD 0))))
theorem prod_Mul.mono : ∀ a0 a1 a2 k, LeO (prod_Mul.f k a0 a1 a2) (prod_Mul.f (k + 1) a0 a1 a2) := by
 intro a0 a1 a2 k
 unfold prod_Mul.f
 repeat' first
   | (with_reducible exact codec_Decode.mono _ _ _)
   | (with_reducible exact prod_Exact.mono _ _ _ _ _ _ _ _ _)
   | (with_reducible exact round_Round.mono _ _ _ _ _ _ _ _)
   | (with_reducible exact LeO.refl _)
   | (with_reducible exact LeO.none _)
   | (with_reducible refine LeO.ite ?_ ?_)
   | (with_reducible refine LeO.bind ?_ (fun _ => ?_))
set_option maxHeartbeats 8000000 in
set_option maxRecDepth 100000 in
theorem prod_Mul.calls (k : Nat) (a0 : Int) (a1 : Int) (a2 : Int) (r1 : Int) (r2 : Option Int) (w : World) (h : prod_Mul.f k a0 a1 a2 = some (r1, r2)) :
  Calls Try.prog 60 #[.int .i64 a0, .int .u64 a1, .int .u64 a2] w fun e w' => e = .returned (.tuple #[.int .u64 r1, errW r2]) ∧ Below w.heap.size w w' := by
 have hu103 := Try.underlying103
 have hu86 := Try.underlying86
 have hu43 := Try.underlying43
 have hu82 := Try.underlying82
 have HB := Aside0.mk (Below.refl w.heap.size w)
 have H := h
 clear h
 unfold prod_Mul.f at H
 replace H := Option.bind_eq_some_iff.mp H
 obtain ⟨⟨t915, t916, t917, t918, t919⟩, A40, H⟩ := H
 try dsimp only at H
 have A4 := Aside0.mk A40
 clear A40
 rcases t919 with _ | q921
 ·rw [if_pos (show (none : Option Int).isNone = true by rfl)] at H
  try simp only [errW_none, errW_some]
  replace H := Option.bind_eq_some_iff.mp H
  obtain ⟨⟨t922, t923, t924, t925, t926⟩, A50, H⟩ := H
  try dsimp only at H
  have A5 := Aside0.mk A50
  clear A50
  replace H := Option.bind_eq_some_iff.mp H
  obtain ⟨⟨t928, t929, t930, t931, t932, t933, t934⟩, A60, H⟩ := H
  try dsimp only at H
  have A6 := Aside0.mk A60
  clear A60
  replace H := Option.bind_eq_some_iff.mp H
  obtain ⟨⟨t936, t937⟩, A70, H⟩ := H
  try dsimp only at H
  have A7 := Aside0.mk A70
  clear A70
  simp only [Option.some.injEq, Prod.mk.injEq] at H
  obtain ⟨rfl, rfl⟩ := H
  go_enter Try.func60, Try.ntmps60
  go_wp2_with (first | ((with_reducible refine gate_callee (f := 72) rfl ?_); refine goA (some 17) Try.func72 (codec_Decode.calls k a0 a1 t915 t916 t917 t918 none _ A4.out) ?_; intro w8 hb; replace HB := hbS hb; clear hb; (try simp only [errW_none, errW_some])) | ((with_reducible refine gate_dst (N := 8) rfl ?_); refine boxA 8 (#[.int .i64 0, .bool false, .int .i64 0, .int .u64 0]) 103 ?_; intro gb920 hg w9 BK920 hb; have GW920 := geT hg; have GE920 := GW920; replace HB := hbS hb; clear hb hg; obtain ⟨z10_0, z10_1, z10_2, z10_3, y10_0, y10_1, y10_2, y10_3⟩ := cz4 BK920) | ((with_reducible refine gate_callee (f := 72) rfl ?_); refine goA (some 26) Try.func72 (codec_Decode.calls k a0 a2 t922 t923 t924 t925 t926 _ A5.out) ?_; intro w11 hb; replace BK920 := bkB (o := .cells #[.int .i64 t915, .bool t916, .int .i64 t917, .int .u64 t918] 103 (0, 0)) BK920 hb; replace HB := hbS hb; clear hb; (try simp only [errW_none, errW_some])) | ((with_reducible refine gate_dst (N := 10) rfl ?_); refine boxA 10 (#[.int .i64 0, .bool false, .int .i64 0, .int .u64 0]) 103 ?_; intro gb927 hg w12 BK927 hb; have GW927 := geT hg; have GE927 := GW927; obtain ⟨NB920_927, NB927_920⟩ := neT BK920 hg; replace BK920 := bkB BK920 hb; replace HB := hbS hb; clear hb hg; have hnb13 := NB927_920.out; have hnc13 := NB920_927.out; obtain ⟨z14_0, z14_1, z14_2, z14_3, y14_0, y14_1, y14_2, y14_3⟩ := cz4 BK927; obtain ⟨z15_0, z15_1, z15_2, z15_3, y15_0, y15_1, y15_2, y15_3⟩ := cz4 BK920) | ((with_reducible refine gate_callee (f := 94) rfl ?_); refine goA (some 32) Try.func94 (prod_Exact.calls k t915 t916 t917 t918 t922 t923 t924 t925 t928 t929 t930 t931 t932 t933 t934 _ A6.out) ?_; intro w16 hb; replace BK920 := bkB BK920 hb; replace BK927 := bkB (o := .cells #[.int .i64 t922, .bool t923, .int .i64 t924, .int .u64 t925] 103 (0, 0)) BK927 hb; replace HB := hbS hb; clear hb; (try simp only [errW_none, errW_some])) | ((with_reducible refine gate_dst (N := 12) rfl ?_); refine boxA 12 (#[.int .i64 0, .bool false, .int .i64 0, .int .u64 0, .int .u64 0, .bool false]) 86 ?_; intro gb935 hg w17 BK935 hb; have GW935 := geT hg; have GE935 := GW935; obtain ⟨NB920_935, NB935_920⟩ := neT BK920 hg; obtain ⟨NB927_935, NB935_927⟩ := neT BK927 hg; replace BK920 := bkB BK920 hb; replace BK927 := bkB BK927 hb; replace HB := hbS hb; clear hb hg; have hnb18 := NB935_920.out; have hnc18 := NB920_935.out; have hnb19 := NB935_927.out; have hnc19 := NB927_935.out; obtain ⟨z20_0, z20_1, z20_2, z20_3, z20_4, z20_5, y20_0, y20_1, y20_2, y20_3, y20_4, y20_5⟩ := cz6 BK935) | ((with_reducible refine gate_callee (f := 74) rfl ?_); refine goA (some 37) Try.func74 (round_Round.calls k a0 t928 t929 t930 t931 t932 t933 t936 t937 _ A7.out) ?_; intro w21 hb; replace BK920 := bkB BK920 hb; replace BK927 := bkB BK927 hb; replace BK935 := bkB (o := .cells #[.int .i64 t928, .bool t929, .int .i64 t930, .int .u64 t931, .int .u64 t932, .bool t933] 86 (0, 0)) BK935 hb; replace HB := hbS hb; clear hb; (try simp only [errW_none, errW_some])))
  go_ret2
  exact ⟨reT, hbT⟩
 ·rw [if_neg (show ¬ (some q921).isNone = true by simp)] at H
  try simp only [errW_none, errW_some]
  simp only [Option.some.injEq, Prod.mk.injEq] at H
  obtain ⟨rfl, rfl⟩ := H
  go_enter Try.func60, Try.ntmps60
  go_wp2_with (first | ((with_reducible refine gate_callee (f := 72) rfl ?_); refine goA (some 17) Try.func72 (codec_Decode.calls k a0 a1 t915 t916 t917 t918 (some q921) _ A4.out) ?_; intro w22 hb; replace HB := hbS hb; clear hb; (try simp only [errW_none, errW_some])) | ((with_reducible refine gate_dst (N := 8) rfl ?_); refine boxA 8 (#[.int .i64 0, .bool false, .int .i64 0, .int .u64 0]) 103 ?_; intro gb920 hg w23 BK920 hb; have GW920 := geT hg; have GE920 := GW920; replace HB := hbS hb; clear hb hg; obtain ⟨z24_0, z24_1, z24_2, z24_3, y24_0, y24_1, y24_2, y24_3⟩ := cz4 BK920))
  go_ret2
  exact ⟨reT, hbT⟩

end Go.Proofs.Ytnlbfomlfhigcaa.Q
namespace Go.Proofs.Ytnlbfomlfhigcaa.Q
open Go.RowKit Go.Proofs.YtnlbfomlfhigcaaW.PrintWords Go.Proofs.YtnlbfomlfhigcaaW.PrintLast Go.Proofs.YtnlbfomlfhigcaaW.PrintMore
def gen_P64_13.f (k : Nat) (a0 : Int) (a1 : Int) : Option (Int) := (sum_Add.f k 64 a0 a1).bind fun b => some b.1
theorem gen_P64_13.mono : ∀ a0 a1 k, LeO (gen_P64_13.f k a0 a1) (gen_P64_13.f (k + 1) a0 a1) := by
  intro a0 a1 k
  unfold gen_P64_13.f
  refine LeO.bind ?_ (fun _ => ?_)
  · exact sum_Add.mono _ _ _ _
  · exact LeO.refl _
set_option maxHeartbeats 2000000 in
theorem gen_P64_13.two (k : Nat) (a0 : Int) (a1 : Int) (r1 : Int) (r2 : Option Int) (w : World) (h : sum_Add.f k 64 a0 a1 = some (r1, r2)) :
    Calls Try.prog 58 #[.func (.func 32) #[] #[], .int .u64 a0, .int .u64 a1] w fun e w' => e = .returned (.int .u64 r1) ∧ Below w.heap.size w w' := by
  have hw : ∀ w : World, Calls Try.prog 22 #[] w fun e w' => e = .returned (.int .i64 64) ∧ Drawn0 w w' := fun w => gen_P64_22.calls 70 64 w (by decide +kernel)
  go_enter Try.func58, Try.ntmps58
  go_wp2_with (first | (go_at_call 22; refine (hw _).mono ?_; rintro e w' ⟨rfl, ⟨nd, rfl⟩⟩) | (go_at_call 32; refine (sum_Add.calls k 64 a0 a1 r1 r2 _ h).mono ?_; rintro e w' ⟨rfl, hb⟩))
  go_ret
  exact ⟨rfl, below_then (pw_below_drewN (Below.refl _ _) nd) (Nat.le_refl _) hb⟩
theorem gen_P64_13.calls (k : Nat) (a0 : Int) (a1 : Int) (r : Int) (w : World) (h : gen_P64_13.f k a0 a1 = some r) :
    Calls Try.prog 13 #[.int .u64 a0, .int .u64 a1] w fun e w' => e = .returned (.int .u64 r) ∧ Below w.heap.size w w' := by
  unfold gen_P64_13.f at h
  obtain ⟨⟨r1, r2⟩, h1, h2⟩ := Option.bind_eq_some_iff.mp h
  obtain rfl := Option.some.inj h2
  clear h h2
  have H := Lib.hid h1
  clear h1
  go_enter Try.func13, Try.ntmps13
  go_wp2_with (go_at_call 58; refine (gen_P64_13.two k a0 a1 r1 r2 _ H.out).mono ?_; rintro e w' ⟨rfl, hb⟩)
  go_ret
  exact ⟨rfl, hb⟩
def gen_P8_14.f (k : Nat) (a0 : Int) (a1 : Int) : Option (Int) := (sum_Add.f k 8 (IntKind.u64.wrap a0) (IntKind.u64.wrap a1)).bind fun b => some (b.1 % 256)
theorem gen_P8_14.mono : ∀ a0 a1 k, LeO (gen_P8_14.f k a0 a1) (gen_P8_14.f (k + 1) a0 a1) := by
  intro a0 a1 k
  unfold gen_P8_14.f
  refine LeO.bind ?_ (fun _ => ?_)
  · exact sum_Add.mono _ _ _ _
  · exact LeO.refl _
set_option maxHeartbeats 2000000 in
theorem gen_P8_14.two (k : Nat) (a0 : Int) (a1 : Int) (r1 : Int) (r2 : Option Int) (w : World) (h : sum_Add.f k 8 (IntKind.u64.wrap a0) (IntKind.u64.wrap a1) = some (r1, r2)) :
    Calls Try.prog 59 #[.func (.func 32) #[] #[], .int .u8 a0, .int .u8 a1] w fun e w' => e = .returned (.int .u8 (r1 % 256)) ∧ Below w.heap.size w w' := by
  have hw : ∀ w : World, Calls Try.prog 57 #[] w fun e w' => e = .returned (.int .i64 8) ∧ Drawn0 w w' := fun w => gen_P8_57.calls 70 8 w (by decide +kernel)
  go_enter Try.func59, Try.ntmps59
  go_wp2_with (first | (go_at_call 57; refine (hw _).mono ?_; rintro e w' ⟨rfl, ⟨nd, rfl⟩⟩) | (go_at_call 32; refine (sum_Add.calls k 8 (IntKind.u64.wrap a0) (IntKind.u64.wrap a1) r1 r2 _ h).mono ?_; rintro e w' ⟨rfl, hb⟩))
  go_ret
  exact ⟨rfl, below_then (pw_below_drewN (Below.refl _ _) nd) (Nat.le_refl _) hb⟩
theorem gen_P8_14.calls (k : Nat) (a0 : Int) (a1 : Int) (r : Int) (w : World) (h : gen_P8_14.f k a0 a1 = some r) :
    Calls Try.prog 14 #[.int .u8 a0, .int .u8 a1] w fun e w' => e = .returned (.int .u8 r) ∧ Below w.heap.size w w' := by
  unfold gen_P8_14.f at h
  obtain ⟨⟨r1, r2⟩, h1, h2⟩ := Option.bind_eq_some_iff.mp h
  obtain rfl := Option.some.inj h2
  clear h h2
  have H := Lib.hid h1
  clear h1
  go_enter Try.func14, Try.ntmps14
  go_wp2_with (go_at_call 59; refine (gen_P8_14.two k a0 a1 r1 r2 _ H.out).mono ?_; rintro e w' ⟨rfl, hb⟩)
  go_ret
  exact ⟨rfl, hb⟩
def gen_P64_15.f (k : Nat) (a0 : Int) (a1 : Int) : Option (Int) := (sum_Sub.f k 64 a0 a1).bind fun b => some b.1
theorem gen_P64_15.mono : ∀ a0 a1 k, LeO (gen_P64_15.f k a0 a1) (gen_P64_15.f (k + 1) a0 a1) := by
  intro a0 a1 k
  unfold gen_P64_15.f
  refine LeO.bind ?_ (fun _ => ?_)
  · exact sum_Sub.mono _ _ _ _
  · exact LeO.refl _
set_option maxHeartbeats 2000000 in
theorem gen_P64_15.two (k : Nat) (a0 : Int) (a1 : Int) (r1 : Int) (r2 : Option Int) (w : World) (h : sum_Sub.f k 64 a0 a1 = some (r1, r2)) :
    Calls Try.prog 58 #[.func (.func 52) #[] #[], .int .u64 a0, .int .u64 a1] w fun e w' => e = .returned (.int .u64 r1) ∧ Below w.heap.size w w' := by
  have hw : ∀ w : World, Calls Try.prog 22 #[] w fun e w' => e = .returned (.int .i64 64) ∧ Drawn0 w w' := fun w => gen_P64_22.calls 70 64 w (by decide +kernel)
  go_enter Try.func58, Try.ntmps58
  go_wp2_with (first | (go_at_call 22; refine (hw _).mono ?_; rintro e w' ⟨rfl, ⟨nd, rfl⟩⟩) | (go_at_call 52; refine (sum_Sub.calls k 64 a0 a1 r1 r2 _ h).mono ?_; rintro e w' ⟨rfl, hb⟩))
  go_ret
  exact ⟨rfl, below_then (pw_below_drewN (Below.refl _ _) nd) (Nat.le_refl _) hb⟩
theorem gen_P64_15.calls (k : Nat) (a0 : Int) (a1 : Int) (r : Int) (w : World) (h : gen_P64_15.f k a0 a1 = some r) :
    Calls Try.prog 15 #[.int .u64 a0, .int .u64 a1] w fun e w' => e = .returned (.int .u64 r) ∧ Below w.heap.size w w' := by
  unfold gen_P64_15.f at h
  obtain ⟨⟨r1, r2⟩, h1, h2⟩ := Option.bind_eq_some_iff.mp h
  obtain rfl := Option.some.inj h2
  clear h h2
  have H := Lib.hid h1
  clear h1
  go_enter Try.func15, Try.ntmps15
  go_wp2_with (go_at_call 58; refine (gen_P64_15.two k a0 a1 r1 r2 _ H.out).mono ?_; rintro e w' ⟨rfl, hb⟩)
  go_ret
  exact ⟨rfl, hb⟩
def gen_P8_16.f (k : Nat) (a0 : Int) (a1 : Int) : Option (Int) := (sum_Sub.f k 8 (IntKind.u64.wrap a0) (IntKind.u64.wrap a1)).bind fun b => some (b.1 % 256)
theorem gen_P8_16.mono : ∀ a0 a1 k, LeO (gen_P8_16.f k a0 a1) (gen_P8_16.f (k + 1) a0 a1) := by
  intro a0 a1 k
  unfold gen_P8_16.f
  refine LeO.bind ?_ (fun _ => ?_)
  · exact sum_Sub.mono _ _ _ _
  · exact LeO.refl _
set_option maxHeartbeats 2000000 in
theorem gen_P8_16.two (k : Nat) (a0 : Int) (a1 : Int) (r1 : Int) (r2 : Option Int) (w : World) (h : sum_Sub.f k 8 (IntKind.u64.wrap a0) (IntKind.u64.wrap a1) = some (r1, r2)) :
    Calls Try.prog 59 #[.func (.func 52) #[] #[], .int .u8 a0, .int .u8 a1] w fun e w' => e = .returned (.int .u8 (r1 % 256)) ∧ Below w.heap.size w w' := by
  have hw : ∀ w : World, Calls Try.prog 57 #[] w fun e w' => e = .returned (.int .i64 8) ∧ Drawn0 w w' := fun w => gen_P8_57.calls 70 8 w (by decide +kernel)
  go_enter Try.func59, Try.ntmps59
  go_wp2_with (first | (go_at_call 57; refine (hw _).mono ?_; rintro e w' ⟨rfl, ⟨nd, rfl⟩⟩) | (go_at_call 52; refine (sum_Sub.calls k 8 (IntKind.u64.wrap a0) (IntKind.u64.wrap a1) r1 r2 _ h).mono ?_; rintro e w' ⟨rfl, hb⟩))
  go_ret
  exact ⟨rfl, below_then (pw_below_drewN (Below.refl _ _) nd) (Nat.le_refl _) hb⟩
theorem gen_P8_16.calls (k : Nat) (a0 : Int) (a1 : Int) (r : Int) (w : World) (h : gen_P8_16.f k a0 a1 = some r) :
    Calls Try.prog 16 #[.int .u8 a0, .int .u8 a1] w fun e w' => e = .returned (.int .u8 r) ∧ Below w.heap.size w w' := by
  unfold gen_P8_16.f at h
  obtain ⟨⟨r1, r2⟩, h1, h2⟩ := Option.bind_eq_some_iff.mp h
  obtain rfl := Option.some.inj h2
  clear h h2
  have H := Lib.hid h1
  clear h1
  go_enter Try.func16, Try.ntmps16
  go_wp2_with (go_at_call 59; refine (gen_P8_16.two k a0 a1 r1 r2 _ H.out).mono ?_; rintro e w' ⟨rfl, hb⟩)
  go_ret
  exact ⟨rfl, hb⟩
def gen_P64_17.f (k : Nat) (a0 : Int) (a1 : Int) : Option (Int) := (prod_Mul.f k 64 a0 a1).bind fun b => some b.1
theorem gen_P64_17.mono : ∀ a0 a1 k, LeO (gen_P64_17.f k a0 a1) (gen_P64_17.f (k + 1) a0 a1) := by
  intro a0 a1 k
  unfold gen_P64_17.f
  refine LeO.bind ?_ (fun _ => ?_)
  · exact prod_Mul.mono _ _ _ _
  · exact LeO.refl _
set_option maxHeartbeats 2000000 in
theorem gen_P64_17.two (k : Nat) (a0 : Int) (a1 : Int) (r1 : Int) (r2 : Option Int) (w : World) (h : prod_Mul.f k 64 a0 a1 = some (r1, r2)) :
    Calls Try.prog 58 #[.func (.func 60) #[] #[], .int .u64 a0, .int .u64 a1] w fun e w' => e = .returned (.int .u64 r1) ∧ Below w.heap.size w w' := by
  have hw : ∀ w : World, Calls Try.prog 22 #[] w fun e w' => e = .returned (.int .i64 64) ∧ Drawn0 w w' := fun w => gen_P64_22.calls 70 64 w (by decide +kernel)
  go_enter Try.func58, Try.ntmps58
  go_wp2_with (first | (go_at_call 22; refine (hw _).mono ?_; rintro e w' ⟨rfl, ⟨nd, rfl⟩⟩) | (go_at_call 60; refine (prod_Mul.calls k 64 a0 a1 r1 r2 _ h).mono ?_; rintro e w' ⟨rfl, hb⟩))
  go_ret
  exact ⟨rfl, below_then (pw_below_drewN (Below.refl _ _) nd) (Nat.le_refl _) hb⟩
theorem gen_P64_17.calls (k : Nat) (a0 : Int) (a1 : Int) (r : Int) (w : World) (h : gen_P64_17.f k a0 a1 = some r) :
    Calls Try.prog 17 #[.int .u64 a0, .int .u64 a1] w fun e w' => e = .returned (.int .u64 r) ∧ Below w.heap.size w w' := by
  unfold gen_P64_17.f at h
  obtain ⟨⟨r1, r2⟩, h1, h2⟩ := Option.bind_eq_some_iff.mp h
  obtain rfl := Option.some.inj h2
  clear h h2
  have H := Lib.hid h1
  clear h1
  go_enter Try.func17, Try.ntmps17
  go_wp2_with (go_at_call 58; refine (gen_P64_17.two k a0 a1 r1 r2 _ H.out).mono ?_; rintro e w' ⟨rfl, hb⟩)
  go_ret
  exact ⟨rfl, hb⟩
def gen_P8_18.f (k : Nat) (a0 : Int) (a1 : Int) : Option (Int) := (prod_Mul.f k 8 (IntKind.u64.wrap a0) (IntKind.u64.wrap a1)).bind fun b => some (b.1 % 256)
theorem gen_P8_18.mono : ∀ a0 a1 k, LeO (gen_P8_18.f k a0 a1) (gen_P8_18.f (k + 1) a0 a1) := by
  intro a0 a1 k
  unfold gen_P8_18.f
  refine LeO.bind ?_ (fun _ => ?_)
  · exact prod_Mul.mono _ _ _ _
  · exact LeO.refl _
set_option maxHeartbeats 2000000 in
theorem gen_P8_18.two (k : Nat) (a0 : Int) (a1 : Int) (r1 : Int) (r2 : Option Int) (w : World) (h : prod_Mul.f k 8 (IntKind.u64.wrap a0) (IntKind.u64.wrap a1) = some (r1, r2)) :
    Calls Try.prog 59 #[.func (.func 60) #[] #[], .int .u8 a0, .int .u8 a1] w fun e w' => e = .returned (.int .u8 (r1 % 256)) ∧ Below w.heap.size w w' := by
  have hw : ∀ w : World, Calls Try.prog 57 #[] w fun e w' => e = .returned (.int .i64 8) ∧ Drawn0 w w' := fun w => gen_P8_57.calls 70 8 w (by decide +kernel)
  go_enter Try.func59, Try.ntmps59
  go_wp2_with (first | (go_at_call 57; refine (hw _).mono ?_; rintro e w' ⟨rfl, ⟨nd, rfl⟩⟩) | (go_at_call 60; refine (prod_Mul.calls k 8 (IntKind.u64.wrap a0) (IntKind.u64.wrap a1) r1 r2 _ h).mono ?_; rintro e w' ⟨rfl, hb⟩))
  go_ret
  exact ⟨rfl, below_then (pw_below_drewN (Below.refl _ _) nd) (Nat.le_refl _) hb⟩
theorem gen_P8_18.calls (k : Nat) (a0 : Int) (a1 : Int) (r : Int) (w : World) (h : gen_P8_18.f k a0 a1 = some r) :
    Calls Try.prog 18 #[.int .u8 a0, .int .u8 a1] w fun e w' => e = .returned (.int .u8 r) ∧ Below w.heap.size w w' := by
  unfold gen_P8_18.f at h
  obtain ⟨⟨r1, r2⟩, h1, h2⟩ := Option.bind_eq_some_iff.mp h
  obtain rfl := Option.some.inj h2
  clear h h2
  have H := Lib.hid h1
  clear h1
  go_enter Try.func18, Try.ntmps18
  go_wp2_with (go_at_call 59; refine (gen_P8_18.two k a0 a1 r1 r2 _ H.out).mono ?_; rintro e w' ⟨rfl, hb⟩)
  go_ret
  exact ⟨rfl, hb⟩
def gen_P16_21.f (k : Nat) (a0 : Int) (a1 : Int) : Option (Int) := (prod_Mul.f k 16 (IntKind.u64.wrap a0) (IntKind.u64.wrap a1)).bind fun b => some (IntKind.u16.wrap b.1)
theorem gen_P16_21.mono : ∀ a0 a1 k, LeO (gen_P16_21.f k a0 a1) (gen_P16_21.f (k + 1) a0 a1) := by
  intro a0 a1 k
  unfold gen_P16_21.f
  refine LeO.bind ?_ (fun _ => ?_)
  · exact prod_Mul.mono _ _ _ _
  · exact LeO.refl _
set_option maxHeartbeats 2000000 in
theorem gen_P16_21.two (k : Nat) (a0 : Int) (a1 : Int) (r1 : Int) (r2 : Option Int) (w : World) (h : prod_Mul.f k 16 (IntKind.u64.wrap a0) (IntKind.u64.wrap a1) = some (r1, r2)) :
    Calls Try.prog 62 #[.func (.func 60) #[] #[], .int .u16 a0, .int .u16 a1] w fun e w' => e = .returned (.int .u16 (IntKind.u16.wrap r1)) ∧ Below w.heap.size w w' := by
  have hw : ∀ w : World, Calls Try.prog 61 #[] w fun e w' => e = .returned (.int .i64 16) ∧ Drawn0 w w' := fun w => gen_P16_61.calls 70 16 w (by decide +kernel)
  go_enter Try.func62, Try.ntmps62
  go_wp2_with (first | (go_at_call 61; refine (hw _).mono ?_; rintro e w' ⟨rfl, ⟨nd, rfl⟩⟩) | (go_at_call 60; refine (prod_Mul.calls k 16 (IntKind.u64.wrap a0) (IntKind.u64.wrap a1) r1 r2 _ h).mono ?_; rintro e w' ⟨rfl, hb⟩))
  go_ret
  exact ⟨rfl, below_then (pw_below_drewN (Below.refl _ _) nd) (Nat.le_refl _) hb⟩
theorem gen_P16_21.calls (k : Nat) (a0 : Int) (a1 : Int) (r : Int) (w : World) (h : gen_P16_21.f k a0 a1 = some r) :
    Calls Try.prog 21 #[.int .u16 a0, .int .u16 a1] w fun e w' => e = .returned (.int .u16 r) ∧ Below w.heap.size w w' := by
  unfold gen_P16_21.f at h
  obtain ⟨⟨r1, r2⟩, h1, h2⟩ := Option.bind_eq_some_iff.mp h
  obtain rfl := Option.some.inj h2
  clear h h2
  have H := Lib.hid h1
  clear h1
  go_enter Try.func21, Try.ntmps21
  go_wp2_with (go_at_call 62; refine (gen_P16_21.two k a0 a1 r1 r2 _ H.out).mono ?_; rintro e w' ⟨rfl, hb⟩)
  go_ret
  exact ⟨rfl, hb⟩
end Go.Proofs.Ytnlbfomlfhigcaa.Q
