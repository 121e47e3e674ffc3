/- Walks and plain laws that the claim stands on: each theorem named calls says that a call of a function returns what its f computes; the others are plain laws of these f, and the words that the walks use. -/
import Derived.Test.YtnlbfomlfhigcaaTopWideV14
import Derived.Test.YtnlbfomlfhigcaaTopWideV13
import Derived.Test.YtnlbfomlfhigcaaTopWideV6
import Derived.Test.YtnlbfomlfhigcaaTopWideV7
namespace Go.Proofs.Ytnlbfomlfhigcaa.M
open Go.RowKit Go.Proofs.YtnlbfomlfhigcaaW.PrintWords Go.Proofs.YtnlbfomlfhigcaaW.PrintLast Go.Proofs.YtnlbfomlfhigcaaW.PrintMore Go.Proofs.Ytnlbfomlfhigcaa.Q
def hld (s : Int) : Int := mx (-1099511627776) (mn s 1099511627776)
def Sout (u Z : Int) (r : Option (Int × Bool × Int × Int × Int × Bool)) : Prop :=
  (Z = 0 ∧ r = some (0, false, 0, 0, 0, false)) ∨ (∃ j, Hi j Z.natAbs ∧ r = some (1, decide (Z < 0), hld (u + (j : Int)), ((tF j Z.natAbs / 2 ^ 64 : Nat) : Int), ((tF j Z.natAbs % 2 ^ 64 : Nat) : Int), tB j Z.natAbs))
theorem q4_parts {a b c d : Nat} (hb : b < 2 ^ 64) (hc : c < 2 ^ 64) (hd : d < 2 ^ 64) : q4 a b c d / 2 ^ 128 = a * 2 ^ 64 + b ∧ q4 a b c d % 2 ^ 128 = c * 2 ^ 64 + d ∧ q4 a b c d / 2 ^ 128 / 2 ^ 64 = a ∧ q4 a b c d / 2 ^ 128 % 2 ^ 64 = b := by
  have h1 : q4 a b c d / 2 ^ 128 = a * 2 ^ 64 + b := by
    unfold q4
    omega
  refine ⟨h1, by unfold q4; omega, ?_, ?_⟩
  · rw [h1]
    omega
  · rw [h1]
    omega
theorem j5_val {a b c d : Nat} (hb : b < 2 ^ 64) (hc : c < 2 ^ 64) (hd : d < 2 ^ 64) (rest neg : Bool) (s : Int) (k : Nat) :
    broad_Sum.j5 (k + 2) rest 1 neg s 0 0 false (a : Int) (b : Int) (c : Int) (d : Int) = some (1, neg, hld s, (a : Int), (b : Int), (rest || decide (q4 a b c d % 2 ^ 128 ≠ 0))) := by
  rw [(q4_parts hb hc hd).2.1, broad_Sum.j5]
  cases rest
  · rw [if_neg (by decide)]
    by_cases h : c = 0
    · subst h
      have e : (((d : Int) != 0) : Bool) = (false || decide (0 * 2 ^ 64 + d ≠ 0)) := by
        by_cases z : d = 0
        · subst z; rfl
        · rw [decide_eq_true (show 0 * 2 ^ 64 + d ≠ 0 by omega)]
          simp only [Bool.or_true, bne_iff_ne, ne_eq]
          omega
      rw [if_pos (by rfl), broad_Sum.j6, e]
      rfl
    · rw [if_neg (by omega), broad_Sum.j6, decide_eq_true (show c * 2 ^ 64 + d ≠ 0 by omega)]
      rfl
  · rw [if_pos rfl, broad_Sum.j6]
    rfl
theorem fin_val {a b c d N l u v cc : Nat} {Z u0 s : Int} {rest neg : Bool} (hb : b < 2 ^ 64) (hc : c < 2 ^ 64) (hd : d < 2 ^ 64) (hW : 2 ^ 255 ≤ q4 a b c d) (hW2 : q4 a b c d < 2 ^ 256)
    (he : N * 2 ^ u = q4 a b c d * 2 ^ v + l) (hl : l < 2 ^ (v + cc)) (hcc : q4 a b c d % 2 ^ cc = 0) (hcc2 : cc ≤ 128) (hZ : Z.natAbs = N) (hneg : neg = decide (Z < 0)) (hrest : rest = decide (l ≠ 0))
    (hs : s = u0 + 255 + (v : Int) - (u : Int)) (k : Nat) : Sout u0 Z (broad_Sum.j5 (k + 2) rest 1 neg s 0 0 false (a : Int) (b : Int) (c : Int) (d : Int)) := by
  obtain ⟨t1, t2, t3, t4⟩ := top_of he hl hcc hcc2 hW hW2
  have hq := q4_parts (a := a) hb hc hd
  refine .inr ⟨255 + v - u, by rw [hZ]; exact t2, ?_⟩
  rw [j5_val hb hc hd, hZ, t3, t4, hq.2.2.1, hq.2.2.2, ← hneg, hrest, Bool.or_comm]
  have e : u0 + ((255 + v - u : Nat) : Int) = s := by omega
  rw [e]
theorem or_top {x : Nat} (h : x < 2 ^ 63) : Go.bits .or .u64 (x : Int) 9223372036854775808 = ((x + 2 ^ 63 : Nat) : Int) := by
  have e := or_add (2 ^ 63) x 63 (by decide) h (by decide) (by decide)
  rw [or_nat _ _ (by decide) (by omega), Nat.or_comm, ← or_nat _ _ (by omega) (by decide)] at e
  have : ((2 ^ 63 : Nat) : Int) = 9223372036854775808 := by decide
  rw [this] at e
  rw [e, Nat.add_comm]
theorem and_one {x : Nat} (h : x < 2 ^ 64) : Go.bits .and .u64 (x : Int) 1 = ((x % 2 : Nat) : Int) := and_mask x 1 h (by decide)
theorem q4_top (a b c d : Nat) : q4 (a + 2 ^ 63) b c d = q4 a b c d + 2 ^ 255 := by
  unfold q4
  omega
theorem dbl_aux (h r p m : Nat) : (h * 2 + r) * p + m = h * (p * 2) + (r * p + m) := by rw [Nat.add_mul, Nat.mul_assoc, Nat.mul_comm 2 p, Nat.add_assoc]
theorem same_val {hx lx hy ly : Nat} {sx sy : Int} {n : Bool} (h1 : 2 ^ 63 ≤ hx) (h2 : hx < 2 ^ 64) (h3 : lx < 2 ^ 64) (h4 : hy < 2 ^ 64) (h5 : ly < 2 ^ 64) (b1 : -1099511627776 ≤ sx) (b2 : sx ≤ 1099511627776) (b3 : -1099511627776 ≤ sy) (hle : sy ≤ sx) (k : Nat) :
    ∀ Z : Int, Z.natAbs = (hx * 2 ^ 64 + lx) * 2 ^ (sx - sy).toNat + (hy * 2 ^ 64 + ly) → n = decide (Z < 0) →
    Sout (sy - 127) Z (broad_Sum.j1 (k + 5) 1 n sx (hx : Int) (lx : Int) false 1 n sy (hy : Int) (ly : Int) false) := by
  intro Z hZ hn
  generalize hd : (sx - sy).toNat = d at hZ
  have hw : wrap64 (sx - sy) = (d : Int) := by unfold wrap64; omega
  obtain ⟨b0, bb1, bb2, bb3, eu, u1, u2, u3, u4, u5⟩ := under_val (x := d) h4 h5 (show 0 < 2 ^ 64 by decide) (show 0 < 2 ^ 64 by decide) k
  obtain ⟨s0, s1, s2, s3, o, ep, p1, p2, p3, p4, p5, p6⟩ := plus_val h2 h3 (show 0 < 2 ^ 64 by decide) (show 0 < 2 ^ 64 by decide) u1 u2 u3 u4
  have h0 : ((0 : Nat) : Int) = 0 := rfl
  rw [h0] at eu ep
  have hpd := pow_pos d
  have hY : q4 hy ly 0 0 = (hy * 2 ^ 64 + ly) * 2 ^ 128 := by unfold q4; omega
  have hX : q4 hx lx 0 0 = (hx * 2 ^ 64 + lx) * 2 ^ 128 := by unfold q4; omega
  have hXlo : 2 ^ 255 ≤ q4 hx lx 0 0 := by unfold q4; omega
  have hdm := Nat.div_add_mod (q4 hy ly 0 0) (2 ^ d)
  have hml := Nat.mod_lt (q4 hy ly 0 0) hpd
  have hN : Z.natAbs * 2 ^ 128 = q4 hx lx 0 0 * 2 ^ d + q4 hy ly 0 0 := by
    rw [hZ, Nat.add_mul, hX, hY, Nat.mul_right_comm]
  have hq4s := q4_lt p1 p2 p3 p4
  rw [broad_Sum.j1, hw, eu, Option.bind_some, if_pos (by simp), ep, Option.bind_some]
  have hN2 : Z.natAbs * 2 ^ 128 = (q4 s0 s1 s2 s3 + o * 2 ^ 256) * 2 ^ d + q4 hy ly 0 0 % 2 ^ d := by
    rw [hN, p6, u5, Nat.add_mul, Nat.mul_comm (q4 hy ly 0 0 / 2 ^ d)]
    omega
  simp only
  by_cases ho : o = 1
  · subst ho
    obtain ⟨t0, t1, t2, t3, et, v1, v2, v3, v4, v5⟩ := under_val (x := 1) p1 p2 p3 p4 k
    rw [if_pos (by rfl)]
    have et' : broad_wide_under.f (k + 4) (s0 : Int) (s1 : Int) (s2 : Int) (s3 : Int) 1 = _ := et
    rw [et', Option.bind_some]
    have ht0 : t0 < 2 ^ 63 := by
      have : q4 t0 t1 t2 t3 < 2 ^ 255 := by rw [v5]; omega
      unfold q4 at this
      omega
    simp only
    rw [or_top ht0, and_one p4]
    have hodd : q4 s0 s1 s2 s3 % 2 = s3 % 2 := by unfold q4; omega
    have hW : q4 (t0 + 2 ^ 63) t1 t2 t3 = q4 s0 s1 s2 s3 / 2 + 2 ^ 255 := by
      rw [q4_top]
      exact congrArg (· + 2 ^ 255) v5
    have hlast : ∀ rest : Bool, rest = decide (s3 % 2 * 2 ^ d + q4 hy ly 0 0 % 2 ^ d ≠ 0) → Sout (sy - 127) Z (broad_Sum.j2 (k + 4) rest 1 n (wrap64 (sx + 1)) 0 0 false ((t0 + 2 ^ 63 : Nat) : Int) (t1 : Int) (t2 : Int) (t3 : Int)) := by
      intro rest hr
      rw [show k + 4 = (k + 3) + 1 from rfl, broad_Sum.j2]
      refine fin_val (N := Z.natAbs) (l := s3 % 2 * 2 ^ d + q4 hy ly 0 0 % 2 ^ d) (u := 128) (v := d + 1) (cc := 0) v2 v3 v4 ?_ ?_ ?_ ?_ (by rw [Nat.pow_zero, Nat.mod_one]) (by omega) rfl hn hr ?_ (k + 1)
      · rw [hW]; omega
      · rw [hW]; omega
      · rw [hN2, hW, ← hodd]
        have e2 := Nat.div_add_mod (q4 s0 s1 s2 s3) 2
        have e3 : q4 s0 s1 s2 s3 + 1 * 2 ^ 256 = (q4 s0 s1 s2 s3 / 2 + 2 ^ 255) * 2 + q4 s0 s1 s2 s3 % 2 := by omega
        rw [e3, Nat.pow_succ]
        exact dbl_aux _ _ _ _
      · rw [Nat.add_zero, Nat.pow_succ]
        have : s3 % 2 * 2 ^ d ≤ 1 * 2 ^ d := Nat.mul_le_mul_right _ (by omega)
        omega
      · unfold wrap64; omega
    by_cases hr : q4 hy ly 0 0 % 2 ^ d = 0
    · rw [decide_eq_false (show ¬ q4 hy ly 0 0 % 2 ^ d ≠ 0 by omega), if_neg (by decide)]
      refine hlast _ ?_
      rw [hr, Nat.add_zero]
      by_cases z : s3 % 2 = 0
      · rw [z, Nat.zero_mul]
        rfl
      · have e1 : s3 % 2 = 1 := by omega
        rw [e1, decide_eq_true (show 1 * 2 ^ d ≠ 0 by omega)]
        rfl
    · rw [decide_eq_true hr, if_pos rfl]
      exact hlast _ (decide_eq_true (by omega)).symm
  · have ho0 : o = 0 := by omega
    subst ho0
    rw [if_neg (by decide), show k + 4 = (k + 3) + 1 from rfl, broad_Sum.j2]
    rw [Nat.zero_mul, Nat.add_zero] at hN2 p6
    refine fin_val (N := Z.natAbs) (l := q4 hy ly 0 0 % 2 ^ d) (u := 128) (v := d) (cc := 0) p2 p3 p4 ?_ hq4s hN2 (by rw [Nat.add_zero]; exact hml) (by rw [Nat.pow_zero, Nat.mod_one]) (by omega) rfl hn rfl ?_ (k + 1)
    · rw [p6]
      exact Nat.le_trans hXlo (Nat.le_add_right _ _)
    · omega
theorem j4_zero {a b c d : Nat} (h : q4 a b c d = 0) (rest neg : Bool) (s : Int) (k : Nat) : broad_Sum.j4 (k + 1) rest 1 neg s 0 0 false (a : Int) (b : Int) (c : Int) (d : Int) = some (0, false, 0, 0, 0, false) := by
  have ha : a = 0 := by unfold q4 at h; omega
  have hb : b = 0 := by unfold q4 at h; omega
  have hc : c = 0 := by unfold q4 at h; omega
  have hd : d = 0 := by unfold q4 at h; omega
  subst ha hb hc hd
  rw [broad_Sum.j4, if_pos (by decide)]
theorem j4_some {a b c d : Nat} (ha : a < 2 ^ 64) (hb : b < 2 ^ 64) (hc : c < 2 ^ 64) (hd : d < 2 ^ 64) (h : q4 a b c d ≠ 0) (neg : Bool) {s : Int} (hs : -1099511627776 ≤ s) (hs2 : s ≤ 1099511627776) :
    ∃ a' b' c' d' t : Nat, a' < 2 ^ 64 ∧ b' < 2 ^ 64 ∧ c' < 2 ^ 64 ∧ d' < 2 ^ 64 ∧ t ≤ 255 ∧ 2 ^ 255 ≤ q4 a' b' c' d' ∧ q4 a' b' c' d' < 2 ^ 256 ∧ q4 a' b' c' d' = q4 a b c d * 2 ^ t ∧
      ∀ (rest : Bool) (k : Nat), broad_Sum.j4 (k + 1) rest 1 neg s 0 0 false (a : Int) (b : Int) (c : Int) (d : Int) = broad_Sum.j5 k rest 1 neg (s - (t : Int)) 0 0 false (a' : Int) (b' : Int) (c' : Int) (d' : Int) := by
  obtain ⟨a', b', c', d', t, e, r1, r2, r3, r4, r5, r6, r7⟩ := raised_val ha hb hc hd h
  refine ⟨a', b', c', d', t, r1, r2, r3, r4, r5, by unfold q4; omega, q4_lt r1 r2 r3 r4, r7, fun rest k => ?_⟩
  have hz : ¬ ((a : Int) == 0 && ((b : Int) == 0 && ((c : Int) == 0 && ((d : Int) == 0)))) = true := by
    simp only [Bool.and_eq_true, beq_iff_eq]
    intro hh
    apply h
    unfold q4
    omega
  have hw : wrap64 (s - (t : Int)) = s - (t : Int) := by unfold wrap64; omega
  rw [broad_Sum.j4, if_neg hz, e, Option.bind_some]
  simp only
  rw [hw]
theorem near_N {A B C : Nat} {n m : Bool} (hnm : n ≠ m) {Z : Int} (hZ : Z = if n then -(A : Int) + (B : Int) else (A : Int) - (B : Int)) (hD : C + A * 2 ^ 128 = B * 2 ^ 128) (hC : C ≠ 0) : Z.natAbs * 2 ^ 128 = C ∧ (Z < 0 ↔ m = true) := by
  cases n
  · have hm : m = true := by cases m <;> simp_all
    rw [if_neg (by decide)] at hZ
    subst hm
    simp only [iff_true]
    omega
  · have hm : m = false := by cases m <;> simp_all
    rw [if_pos rfl] at hZ
    subst hm
    simp only [Bool.false_eq_true, iff_false]
    omega
theorem far_N {A B C : Nat} {n : Bool} {Z : Int} (hZ : Z = if n then -(A : Int) + (B : Int) else (A : Int) - (B : Int)) (hD : A * 2 ^ 128 = C + B * 2 ^ 128) : Z.natAbs * 2 ^ 128 = C ∧ (Z ≠ 0 → (Z < 0 ↔ n = true)) := by
  cases n
  · rw [if_neg (by decide)] at hZ
    simp only [Bool.false_eq_true, iff_false]
    omega
  · rw [if_pos rfl] at hZ
    simp only [iff_true]
    omega
theorem neg_eq {Z : Int} {m : Bool} (h : Z < 0 ↔ m = true) : m = decide (Z < 0) := by
  by_cases hz : Z < 0
  · rw [decide_eq_true hz]; exact h.1 hz
  · rw [decide_eq_false hz]; exact Bool.eq_false_iff.mpr fun hm => hz (h.2 hm)
theorem q4_high (x y : Nat) : q4 x y 0 0 = (x * 2 ^ 64 + y) * 2 ^ 128 := by
  unfold q4
  omega
theorem q4_half {x : Nat} (y : Nat) (h : 2 ^ 63 ≤ x) : 2 ^ 255 ≤ q4 x y 0 0 := by
  unfold q4
  omega
theorem lost_far {x y d : Nat} (h1 : x < 2 ^ 64) (h2 : y < 2 ^ 64) (hr : q4 x y 0 0 % 2 ^ d ≠ 0) : q4 x y 0 0 / 2 ^ d < 2 ^ 127 := by
  have hd128 : 128 < d := by
    refine Nat.lt_of_not_le fun hh => hr ?_
    rw [q4_high, show (2 : Nat) ^ 128 = 2 ^ d * 2 ^ (128 - d) from pow_split hh, Nat.mul_left_comm]
    exact Nat.mul_mod_right _ _
  rw [Nat.div_lt_iff_lt_mul (pow_pos d)]
  have : 2 ^ 256 ≤ 2 ^ 127 * 2 ^ d := by rw [← Nat.pow_add]; exact pow_le (by omega)
  exact Nat.lt_of_lt_of_le (q4_lt h1 h2 (show 0 < 2 ^ 64 by decide) (show 0 < 2 ^ 64 by decide)) this
theorem near_half {x y d : Nat} (h1 : x < 2 ^ 64) (h2 : y < 2 ^ 64) (hd0 : d ≠ 0) : q4 x y 0 0 / 2 ^ d < 2 ^ 255 := by
  rw [Nat.div_lt_iff_lt_mul (pow_pos d)]
  have : 2 ^ 256 ≤ 2 ^ 255 * 2 ^ d := by rw [← Nat.pow_add]; exact pow_le (by omega)
  exact Nat.lt_of_lt_of_le (q4_lt h1 h2 (show 0 < 2 ^ 64 by decide) (show 0 < 2 ^ 64 by decide)) this
theorem turn_val {hx lx hy ly : Nat} {s : Int} {n m : Bool} (hnm : n ≠ m) (h2 : hx < 2 ^ 64) (h3 : lx < 2 ^ 64) (u1 : hy < 2 ^ 64) (u2 : ly < 2 ^ 64) (b1 : -1099511627776 ≤ s) (b2 : s ≤ 1099511627776) (hlt : q4 hx lx 0 0 < q4 hy ly 0 0)
    {Z : Int} (hZ : Z = (if n then -((hx * 2 ^ 64 + lx : Nat) : Int) + ((hy * 2 ^ 64 + ly : Nat) : Int) else ((hx * 2 ^ 64 + lx : Nat) : Int) - ((hy * 2 ^ 64 + ly : Nat) : Int))) (k : Nat) :
    ∃ g0 g1 g2 g3 : Nat, broad_wide_less.f (hy : Int) (ly : Int) 0 0 (hx : Int) (lx : Int) 0 0 0 = some ((g0 : Int), (g1 : Int), (g2 : Int), (g3 : Int), 0) ∧
      Sout (s - 127) Z (broad_Sum.j4 (k + 3) false 1 m s 0 0 false (g0 : Int) (g1 : Int) (g2 : Int) (g3 : Int)) := by
  obtain ⟨g0, g1, g2, g3, o, eg, q1, q2, q3, q4', q5, q6⟩ := less_val u1 u2 (show 0 < 2 ^ 64 by decide) (show 0 < 2 ^ 64 by decide) h2 h3 (show 0 < 2 ^ 64 by decide) (show 0 < 2 ^ 64 by decide) (show 0 ≤ 1 by decide)
  have hq4g := q4_lt q1 q2 q3 q4'
  have ho : o = 0 := by omega
  subst ho
  have h0 : ((0 : Nat) : Int) = 0 := rfl
  rw [h0] at eg
  refine ⟨g0, g1, g2, g3, eg, ?_⟩
  rw [Nat.zero_mul, Nat.add_zero, Nat.add_zero] at q6
  have hD : q4 g0 g1 g2 g3 + q4 hx lx 0 0 = q4 hy ly 0 0 := q6
  have hne : q4 g0 g1 g2 g3 ≠ 0 := fun h => by
    rw [h, Nat.zero_add] at hD
    exact absurd hD (Nat.ne_of_lt hlt)
  obtain ⟨a', b', c', d', t, r1, r2, r3, r4, r5, r6, r7, r8, r9⟩ := j4_some q1 q2 q3 q4' hne m b1 b2
  rw [show k + 3 = (k + 2) + 1 from rfl, r9]
  rw [q4_high, q4_high] at hD
  have hN := near_N hnm hZ hD hne
  refine fin_val (N := Z.natAbs) (l := 0) (u := 128 + t) (v := 0) (cc := 0) r2 r3 r4 r6 r7 ?_ (by decide) (by rw [Nat.pow_zero, Nat.mod_one]) (by decide) rfl (neg_eq hN.2) (by decide) ?_ k
  · rw [Nat.pow_add, ← Nat.mul_assoc, hN.1, r8, Nat.pow_zero, Nat.mul_one, Nat.add_zero]
  · omega
theorem less_left {hx lx hy ly d r e0 e1 e2 e3 : Nat} {sx u0 : Int} {n : Bool} (h1 : 2 ^ 63 ≤ hx) (h4 : hy < 2 ^ 64) (h5 : ly < 2 ^ 64) (b1 : -1099511627776 ≤ sx) (b2 : sx ≤ 1099511627776) (hu : sx = u0 + 127 + (d : Int))
    (p1 : e0 < 2 ^ 64) (p2 : e1 < 2 ^ 64) (p3 : e2 < 2 ^ 64) (p4 : e3 < 2 ^ 64) (hr1 : r ≤ 1) (hr : r = 1 ↔ q4 hy ly 0 0 % 2 ^ d ≠ 0) (p6 : q4 e0 e1 e2 e3 + q4 hy ly 0 0 / 2 ^ d + r = q4 hx lx 0 0)
    {Z : Int} (hZ : Z = (if n then -(((hx * 2 ^ 64 + lx) * 2 ^ d : Nat) : Int) + ((hy * 2 ^ 64 + ly : Nat) : Int) else (((hx * 2 ^ 64 + lx) * 2 ^ d : Nat) : Int) - ((hy * 2 ^ 64 + ly : Nat) : Int))) (k : Nat) :
    Sout u0 Z (broad_Sum.j4 (k + 3) (decide (q4 hy ly 0 0 % 2 ^ d ≠ 0)) 1 n sx 0 0 false (e0 : Int) (e1 : Int) (e2 : Int) (e3 : Int)) := by
  have hpd := pow_pos d
  have hXlo := q4_half lx h1
  have hdm := Nat.div_add_mod (q4 hy ly 0 0) (2 ^ d)
  have hml := Nat.mod_lt (q4 hy ly 0 0) hpd
  have hl0 : ∃ l0, l0 + q4 hy ly 0 0 % 2 ^ d = r * 2 ^ d ∧ l0 < 2 ^ d ∧ (l0 = 0 ↔ r = 0) := by
    by_cases hr0 : r = 0
    · subst hr0
      have : q4 hy ly 0 0 % 2 ^ d = 0 := Classical.byContradiction fun h => by have := hr.2 h; omega
      exact ⟨0, by rw [this, Nat.zero_mul], by omega, by simp⟩
    · have hr1' : r = 1 := by omega
      subst hr1'
      have := hr.1 rfl
      exact ⟨2 ^ d - q4 hy ly 0 0 % 2 ^ d, by omega, by omega, by omega⟩
  obtain ⟨l0, hl0, hl1, hl2⟩ := hl0
  have hNX : q4 hx lx 0 0 * 2 ^ d = q4 e0 e1 e2 e3 * 2 ^ d + l0 + q4 hy ly 0 0 := by
    rw [← p6, Nat.add_mul, Nat.add_mul, ← hl0, Nat.mul_comm (q4 hy ly 0 0 / 2 ^ d)]
    omega
  rw [q4_high hx, q4_high hy, Nat.mul_right_comm] at hNX
  have hN := far_N hZ hNX
  have hfar := fun h => lost_far (d := d) h4 h5 h
  by_cases hE : q4 e0 e1 e2 e3 = 0
  ·
    have hr0 : r = 0 := by
      refine Classical.byContradiction fun h => ?_
      have := hfar (hr.1 (by omega))
      omega
    have hl00 := hl2.2 hr0
    refine .inl ⟨?_, ?_⟩
    · have h3 := hN.1
      rw [hE, hl00, Nat.zero_mul] at h3
      omega
    · rw [show k + 3 = (k + 2) + 1 from rfl, j4_zero hE]
  · obtain ⟨a', b', c', d', t, r1, r2, r3, r4, r5, r6, r7, r8, r9⟩ := j4_some p1 p2 p3 p4 hE n b1 b2
    rw [show k + 3 = (k + 2) + 1 from rfl, r9]
    have hZ0 : Z ≠ 0 := by
      intro hz
      have h3 := hN.1
      have := Nat.mul_ne_zero hE (show 2 ^ d ≠ 0 by omega)
      rw [hz, Int.natAbs_zero, Nat.zero_mul] at h3
      omega
    have ht1 : r ≠ 0 → t ≤ 1 := by
      intro hr0
      have h3 := hfar (hr.1 (by omega))
      refine Nat.le_of_not_lt fun ht => ?_
      have h6 : 2 ^ 2 ≤ 2 ^ t := pow_le ht
      have h7 : 2 ^ 254 ≤ q4 e0 e1 e2 e3 := by omega
      have h8 := Nat.mul_le_mul h7 h6
      omega
    have heq : Z.natAbs * 2 ^ (128 + t) = q4 a' b' c' d' * 2 ^ d + l0 * 2 ^ t := by
      rw [Nat.pow_add, ← Nat.mul_assoc, hN.1, Nat.add_mul, r8, Nat.mul_right_comm]
    have hneg := neg_eq (hN.2 hZ0)
    have hpt := pow_pos t
    have hrest : decide (q4 hy ly 0 0 % 2 ^ d ≠ 0) = decide (l0 * 2 ^ t ≠ 0) := by
      refine decide_eq_decide.mpr ⟨fun h => Nat.mul_ne_zero (fun h' => ?_) (by omega), fun h => hr.1 ?_⟩
      · have := hr.2 h
        have := hl2.1 h'
        omega
      · refine Classical.byContradiction fun h' => h ?_
        rw [hl2.2 (by omega), Nat.zero_mul]
    by_cases hr0 : r = 0
    · have hl00 := hl2.2 hr0
      refine fin_val (N := Z.natAbs) (l := l0 * 2 ^ t) (u := 128 + t) (v := d) (cc := 0) r2 r3 r4 r6 r7 heq ?_ (by rw [Nat.pow_zero, Nat.mod_one]) (by decide) rfl hneg hrest ?_ k
      · rw [hl00, Nat.zero_mul]
        exact pow_pos _
      · omega
    · have := ht1 hr0
      refine fin_val (N := Z.natAbs) (l := l0 * 2 ^ t) (u := 128 + t) (v := d) (cc := t) r2 r3 r4 r6 r7 heq ?_ (by rw [r8]; exact Nat.mul_mod_left _ _) (by omega) rfl hneg hrest ?_ k
      · rw [Nat.pow_add]
        exact Nat.mul_lt_mul_of_pos_right hl1 hpt
      · omega
theorem diff_val {hx lx hy ly : Nat} {sx sy : Int} {n m : Bool} (hnm : n ≠ m) (h1 : 2 ^ 63 ≤ hx) (h2 : hx < 2 ^ 64) (h3 : lx < 2 ^ 64) (h4 : hy < 2 ^ 64) (h5 : ly < 2 ^ 64) (b1 : -1099511627776 ≤ sx) (b2 : sx ≤ 1099511627776) (b3 : -1099511627776 ≤ sy) (hle : sy ≤ sx) (k : Nat) :
    ∀ Z : Int, Z = (if n then -(((hx * 2 ^ 64 + lx) * 2 ^ (sx - sy).toNat : Nat) : Int) + ((hy * 2 ^ 64 + ly : Nat) : Int) else (((hx * 2 ^ 64 + lx) * 2 ^ (sx - sy).toNat : Nat) : Int) - ((hy * 2 ^ 64 + ly : Nat) : Int)) →
    Sout (sy - 127) Z (broad_Sum.j1 (k + 5) 1 n sx (hx : Int) (lx : Int) false 1 m sy (hy : Int) (ly : Int) false) := by
  intro Z hZ
  generalize hd : (sx - sy).toNat = d at hZ
  have hw : wrap64 (sx - sy) = (d : Int) := by unfold wrap64; omega
  obtain ⟨b0, bb1, bb2, bb3, eu, u1, u2, u3, u4, u5⟩ := under_val (x := d) h4 h5 (show 0 < 2 ^ 64 by decide) (show 0 < 2 ^ 64 by decide) k
  have h0 : ((0 : Nat) : Int) = 0 := rfl
  rw [h0] at eu
  have hXlo := q4_half lx h1
  have hbeq : ¬ ((n == m) = true) := by simpa using hnm
  rw [broad_Sum.j1, hw, eu, Option.bind_some, if_neg hbeq]
  simp only
  have step : ∀ (r : Nat), r ≤ 1 → (r = 1 ↔ q4 hy ly 0 0 % 2 ^ d ≠ 0) →
      Sout (sy - 127) Z (broad_Sum.j3 (k + 4) (decide (q4 hy ly 0 0 % 2 ^ d ≠ 0)) (r : Int) 1 m sy (hy : Int) (ly : Int) false (hx : Int) (lx : Int) 0 0 (b0 : Int) (bb1 : Int) (bb2 : Int) (bb3 : Int) 1 n sx 0 0 false) := by
    intro r hr1 hr
    obtain ⟨e0, e1, e2, e3, p, ep, p1, p2, p3, p4, p5, p6⟩ := less_val h2 h3 (show 0 < 2 ^ 64 by decide) (show 0 < 2 ^ 64 by decide) u1 u2 u3 u4 hr1
    rw [h0] at ep
    rw [show k + 4 = (k + 3) + 1 from rfl, broad_Sum.j3, ep, Option.bind_some]
    simp only
    have hq4e := q4_lt p1 p2 p3 p4
    rw [u5] at p6
    by_cases hp : p = 1
    · subst hp
      have hd0 : d = 0 := by
        refine Classical.byContradiction fun hd0 => ?_
        have := near_half h4 h5 hd0
        omega
      subst hd0
      have hr0 : r = 0 := by
        refine Classical.byContradiction fun h => ?_
        have := hr.1 (by omega)
        rw [Nat.pow_zero, Nat.mod_one] at this
        exact this rfl
      subst hr0
      have hss : sy = sx := by omega
      rw [Nat.pow_zero, Nat.div_one] at p6 u5

      have hb0 : b0 = hy ∧ bb1 = ly ∧ bb2 = 0 ∧ bb3 = 0 := by
        unfold q4 at u5
        omega
      obtain ⟨rfl, rfl, rfl, rfl⟩ := hb0
      rw [Nat.pow_zero, Nat.mul_one] at hZ
      obtain ⟨g0, g1, g2, g3, eg, hS⟩ := turn_val hnm h2 h3 h4 h5 b1 b2 (show q4 hx lx 0 0 < q4 b0 bb1 0 0 by omega) hZ k
      rw [if_pos (by rfl)]
      rw [h0, eg, Option.bind_some]
      simp only
      rw [hss, Nat.pow_zero, Nat.mod_one]
      exact hS
    · have hp0 : p = 0 := by omega
      subst hp0
      rw [if_neg (by decide)]
      rw [Nat.zero_mul, Nat.add_zero] at p6
      exact less_left h1 h4 h5 b1 b2 (by omega) p1 p2 p3 p4 hr1 hr p6 hZ k
  by_cases hr : q4 hy ly 0 0 % 2 ^ d = 0
  · have e := step 0 (by decide) ⟨fun h => by omega, fun h => absurd hr h⟩
    rw [if_neg (by rw [decide_eq_false (show ¬ q4 hy ly 0 0 % 2 ^ d ≠ 0 by omega)]; decide)]
    exact e
  · have e := step 1 (by decide) ⟨fun _ => hr, fun _ => rfl⟩
    rw [if_pos (by rw [decide_eq_true hr])]
    exact e
end Go.Proofs.Ytnlbfomlfhigcaa.M
namespace Go.Proofs.Ytnlbfomlfhigcaa.M
open Go.RowKit Go.Proofs.YtnlbfomlfhigcaaW.PrintWords Go.Proofs.YtnlbfomlfhigcaaW.PrintLast Go.Proofs.YtnlbfomlfhigcaaW.PrintMore Go.Proofs.Ytnlbfomlfhigcaa.Q
def sv (n : Bool) (x : Nat) : Int := if n then -(x : Int) else (x : Int)
def vl (u : Int) (n : Bool) (s : Int) (F : Nat) : Int := sv n (F * 2 ^ (s - 127 - u).toNat)
theorem sv_abs (n : Bool) (x : Nat) : (sv n x).natAbs = x := by
  unfold sv
  cases n
  · rw [if_neg (by decide)]; omega
  · rw [if_pos rfl]; omega
theorem sv_mul (n : Bool) (x y : Nat) : sv n (x * y) = sv n x * (y : Int) := by
  unfold sv
  cases n
  · rw [if_neg (by decide), if_neg (by decide), Int.natCast_mul]
  · rw [if_pos rfl, if_pos rfl, Int.natCast_mul, Int.neg_mul]
theorem sv_neg {n : Bool} {x : Nat} (h : x ≠ 0) : decide (sv n x < 0) = n := by
  unfold sv
  cases n
  · rw [if_neg (by decide)]; exact decide_eq_false (by omega)
  · rw [if_pos rfl]; exact decide_eq_true (by omega)
theorem mul_pow_neg {Z : Int} (c : Nat) : (Z * ((2 ^ c : Nat) : Int) < 0 ↔ Z < 0) ∧ (Z * ((2 ^ c : Nat) : Int) = 0 ↔ Z = 0) := by
  have hp := pow_pos c
  have hp' : (0 : Int) < ((2 ^ c : Nat) : Int) := by omega
  generalize ((2 ^ c : Nat) : Int) = p at *
  refine ⟨⟨fun h => ?_, fun h => Int.mul_neg_of_neg_of_pos h hp'⟩, ⟨fun h => ?_, fun h => by rw [h, Int.zero_mul]⟩⟩
  · refine Int.not_le.1 fun h' => ?_
    have := Int.mul_nonneg h' (Int.le_of_lt hp')
    omega
  · rcases Int.mul_eq_zero.1 h with h | h
    · exact h
    · omega
theorem Sout.shift {u Z : Int} {r : Option (Int × Bool × Int × Int × Int × Bool)} (h : Sout u Z r) (c : Nat) : Sout (u - (c : Int)) (Z * ((2 ^ c : Nat) : Int)) r := by
  rcases h with ⟨h1, h2⟩ | ⟨j, h1, h2⟩
  · exact .inl ⟨(mul_pow_neg c).2.2 h1, h2⟩
  · have e : (Z * ((2 ^ c : Nat) : Int)).natAbs = Z.natAbs * 2 ^ c := by rw [Int.natAbs_mul, Int.natAbs_natCast]
    refine .inr ⟨j + c, by rw [e]; exact h1.mul c, ?_⟩
    rw [e, tF_mul, tB_mul, h2]
    have e1 : u - (c : Int) + ((j + c : Nat) : Int) = u + (j : Int) := by omega
    have e2 : decide (Z * ((2 ^ c : Nat) : Int) < 0) = decide (Z < 0) := decide_eq_decide.mpr (mul_pow_neg c).1
    rw [e1, e2]
theorem vl_shift {u s : Int} {n : Bool} {F : Nat} (hu : u ≤ s - 127) (c : Nat) : vl (u - (c : Int)) n s F = vl u n s F * ((2 ^ c : Nat) : Int) := by
  unfold vl
  rw [← sv_mul, Nat.mul_assoc, ← Nat.pow_add]
  congr 3
  omega
theorem sv_same (n : Bool) (A B : Nat) : (sv n A + sv n B).natAbs = A + B := by
  unfold sv
  cases n
  · rw [if_neg (by decide), if_neg (by decide)]; omega
  · rw [if_pos rfl, if_pos rfl]; omega
theorem sv_same_neg {n : Bool} (A B : Nat) (h : A ≠ 0) : n = decide (sv n A + sv n B < 0) := by
  unfold sv
  cases n
  · rw [if_neg (by decide), if_neg (by decide)]; exact (decide_eq_false (by omega)).symm
  · rw [if_pos rfl, if_pos rfl]; exact (decide_eq_true (by omega)).symm
theorem sv_diff {n m : Bool} (h : n ≠ m) (A B : Nat) : sv n A + sv m B = if n then -(A : Int) + (B : Int) else (A : Int) - (B : Int) := by
  unfold sv
  cases n
  · have hm : m = true := by cases m <;> simp_all
    subst hm
    rw [if_neg (by decide), if_pos rfl, if_neg (by decide)]
    omega
  · have hm : m = false := by cases m <;> simp_all
    subst hm
    rw [if_pos rfl, if_neg (by decide), if_pos rfl]
theorem sum_ord {hx lx hy ly : Nat} {sx sy : Int} {n m : Bool} (h1 : 2 ^ 63 ≤ hx) (h2 : hx < 2 ^ 64) (h3 : lx < 2 ^ 64) (_ : 2 ^ 63 ≤ hy) (h4 : hy < 2 ^ 64) (h5 : ly < 2 ^ 64) (b1 : -1099511627776 ≤ sx) (b2 : sx ≤ 1099511627776) (b3 : -1099511627776 ≤ sy) (hle : sy ≤ sx) (k : Nat) :
    Sout (sy - 127) (vl (sy - 127) n sx (hx * 2 ^ 64 + lx) + vl (sy - 127) m sy (hy * 2 ^ 64 + ly)) (broad_Sum.j1 (k + 5) 1 n sx (hx : Int) (lx : Int) false 1 m sy (hy : Int) (ly : Int) false) := by
  have e1 : (sx - 127 - (sy - 127)).toNat = (sx - sy).toNat := by omega
  have e2 : (sy - 127 - (sy - 127)).toNat = 0 := by omega
  have hp := pow_pos (sx - sy).toNat
  have hX : (hx * 2 ^ 64 + lx) * 2 ^ (sx - sy).toNat ≠ 0 := Nat.mul_ne_zero (by omega) (by omega)
  unfold vl
  rw [e1, e2, Nat.pow_zero, Nat.mul_one]
  by_cases hnm : n = m
  · subst hnm
    exact same_val h1 h2 h3 h4 h5 b1 b2 b3 hle k _ (sv_same _ _ _) (sv_same_neg _ _ hX)
  · exact diff_val hnm h1 h2 h3 h4 h5 b1 b2 b3 hle k _ (sv_diff hnm _ _)
theorem sum_spec {hx lx hy ly : Nat} {sx sy : Int} {n m : Bool} (h1 : 2 ^ 63 ≤ hx) (h2 : hx < 2 ^ 64) (h3 : lx < 2 ^ 64) (h1y : 2 ^ 63 ≤ hy) (h4 : hy < 2 ^ 64) (h5 : ly < 2 ^ 64) (b1 : -1099511627776 ≤ sx) (b2 : sx ≤ 1099511627776) (b3 : -1099511627776 ≤ sy) (b4 : sy ≤ 1099511627776)
    {u : Int} (hu : u ≤ sx - 127) (hu' : u ≤ sy - 127) (k : Nat) :
    Sout u (vl u n sx (hx * 2 ^ 64 + lx) + vl u m sy (hy * 2 ^ 64 + ly)) (broad_Sum.f (k + 6) 1 n sx (hx : Int) (lx : Int) false 1 m sy (hy : Int) (ly : Int) false) := by
  unfold broad_Sum.f
  rw [if_neg (by decide), show k + 6 = (k + 5) + 1 from rfl, broad_Sum.j0, if_neg (by decide), if_neg (by decide), if_neg (by decide)]
  by_cases hlt : sx < sy
  · rw [if_pos hlt]
    have h := (sum_ord (n := m) (m := n) h1y h4 h5 h1 h2 h3 b3 b4 b1 (Int.le_of_lt hlt) k).shift (sx - 127 - u).toNat
    have e : sx - 127 - ((sx - 127 - u).toNat : Int) = u := by omega
    rw [Int.add_mul, ← vl_shift (by omega), ← vl_shift (by omega), e, Int.add_comm] at h
    exact h
  · rw [if_neg hlt]
    have h := (sum_ord (n := n) (m := m) h1 h2 h3 h1y h4 h5 b1 b2 b3 (by omega) k).shift (sy - 127 - u).toNat
    have e : sy - 127 - ((sy - 127 - u).toNat : Int) = u := by omega
    rw [Int.add_mul, ← vl_shift (by omega), ← vl_shift (by omega), e] at h
    exact h
theorem sum_zero_l (k : Nat) (n : Bool) (s h l : Int) (b : Bool) (kd : Int) (hk : kd = 0 ∨ kd = 1) : broad_Sum.f (k + 1) 0 false 0 0 0 false kd n s h l b = some (kd, n, s, h, l, b) := by
  unfold broad_Sum.f
  have e : (kd == 2) = false := by rcases hk with rfl | rfl <;> rfl
  rw [if_neg (by decide), e, broad_Sum.j0, if_neg (by decide), if_pos rfl]
theorem sum_zero_r (k : Nat) (n : Bool) (s h l : Int) (b : Bool) : broad_Sum.f (k + 1) 1 n s h l b 0 false 0 0 0 false = some (1, n, s, h, l, b) := by
  unfold broad_Sum.f
  rw [if_neg (by decide), show ((0 : Int) == 2) = false from rfl, broad_Sum.j0, if_neg (by decide), if_neg (by decide), if_pos rfl]
theorem sum_nar_l (k : Nat) (n : Bool) (s h l : Int) (b : Bool) (kd n' s' h' l' b') : broad_Sum.f (k + 1) 2 n s h l b kd n' s' h' l' b' = some (2, false, 0, 0, 0, false) := by
  unfold broad_Sum.f
  rw [if_pos rfl, broad_Sum.j0, if_pos rfl]
theorem sum_nar_r (k : Nat) (n : Bool) (s h l : Int) (b : Bool) (kd n' s' h' l' b') (hk : kd ≠ 2) : broad_Sum.f (k + 1) kd n s h l b 2 n' s' h' l' b' = some (2, false, 0, 0, 0, false) := by
  unfold broad_Sum.f
  rw [if_neg hk, show ((2 : Int) == 2) = true from rfl, broad_Sum.j0, if_pos rfl]
end Go.Proofs.Ytnlbfomlfhigcaa.M
namespace Go.Proofs.Ytnlbfomlfhigcaa.M
open Go.RowKit Go.Proofs.YtnlbfomlfhigcaaW.PrintWords Go.Proofs.YtnlbfomlfhigcaaW.PrintLast Go.Proofs.YtnlbfomlfhigcaaW.PrintMore Go.Proofs.Ytnlbfomlfhigcaa.Q
theorem knd_cases (n y : Nat) : (knd n y = 0 ∧ y = 0) ∨ knd n y = 1 ∨ (knd n y = 2 ∧ y = 2 ^ (n - 1)) := by
  unfold knd
  split
  · left; exact ⟨rfl, by assumption⟩
  · split
    · right; right; exact ⟨rfl, by assumption⟩
    · right; left; rfl
theorem decode_zero {n : Nat} (hn : Wd n) {p : Nat} (hp : p < 2 ^ 64) (hk : knd n (p % 2 ^ n) = 0) (k : Nat) : codec_Decode.f k (n : Int) (p : Int) = some (0, false, 0, 0, none) := by
  unfold codec_Decode.f
  rw [kind_yes hn hp, hk]
  rfl
theorem decode_nar {n : Nat} (hn : Wd n) {p : Nat} (hp : p < 2 ^ 64) (hk : knd n (p % 2 ^ n) = 2) (k : Nat) : codec_Decode.f k (n : Int) (p : Int) = some (2, false, 0, 0, none) := by
  unfold codec_Decode.f
  rw [kind_yes hn hp, hk]
  rfl
theorem decode_real {n : Nat} (hn : Wd n) {p : Nat} (hp : p < 2 ^ 64) (hk : knd n (p % 2 ^ n) = 1) : ∃ s : Int, ∃ f : Nat, Dec n (mag n (p % 2 ^ n)) s f ∧
    ∀ k, codec_Decode.f (k + 8) (n : Int) (p : Int) = some (1, sgn n (p % 2 ^ n), s, (f : Int), none) := by
  have hb := hn.bd
  have hmb := mag_bd hn (Nat.mod_lt p (pow_pos n)) hk
  obtain ⟨r, m, ones, x, hr, hm, hx, hs⟩ := split_real hn hp hk
  have hpd := parse_dec hn ones hmb.1 hmb.2 hr m (min m 2) (m - min m 2) _ _ hm rfl rfl rfl rfl
  have hmod : ∀ j, j ≤ n - 1 → x % 2 ^ j = mag n (p % 2 ^ n) % 2 ^ j := by
    intro j hj
    rw [← hx, show n - 1 = j + (n - 1 - j) by omega, Nat.pow_add, Nat.mod_mul_right_mod]
  have hfr : x % 2 ^ (m - min m 2) = mag n (p % 2 ^ n) % 2 ^ (m - min m 2) := hmod _ (by omega)
  have he : x / 2 ^ (m - min m 2) % 2 ^ (min m 2) = mag n (p % 2 ^ n) / 2 ^ (m - min m 2) % 2 ^ (min m 2) := by
    have := hmod (m - min m 2 + min m 2) (by omega)
    rw [Nat.pow_add] at this
    rw [← Nat.mod_mul_right_div_self, ← Nat.mod_mul_right_div_self, this]
  rw [← hfr, ← he] at hpd
  obtain ⟨hd, h61, h3, hf⟩ := hpd
  refine ⟨_, _, hd, fun k => ?_⟩
  unfold codec_Decode.f
  rw [kind_yes hn hp, hk]
  simp only [Option.bind_some, Option.isNone_none, if_true]
  rw [if_pos (by decide), hs k]
  simp only [Option.bind_some]
  generalize x / 2 ^ (m - min m 2) % 2 ^ (min m 2) * 2 ^ (2 - min m 2) = E at *
  generalize x % 2 ^ (m - min m 2) = fr at *
  generalize m - min m 2 = fb at *
  have hw : wrap64 (63 - (fb : Int)) = ((63 - fb : Nat) : Int) := by unfold wrap64; omega
  have hlt : fr * 2 ^ (63 - fb) < 2 ^ 63 := by
    have : fr * 2 ^ (63 - fb) < 2 ^ fb * 2 ^ (63 - fb) := Nat.mul_lt_mul_of_pos_right hf (pow_pos _)
    rw [← Nat.pow_add, show fb + (63 - fb) = 63 by omega] at this
    exact this
  rw [hw, if_pos (by omega), shl_nat fr (63 - fb) (by omega), Nat.mod_eq_of_lt (a := fr * 2 ^ (63 - fb)) (b := 2 ^ 64) (by omega)]
  have hor := or_add (2 ^ 63) (fr * 2 ^ (63 - fb)) 63 (by decide) hlt (by omega) (by decide)
  have e63 : (((2 ^ 63 : Nat)) : Int) = 9223372036854775808 := by decide
  rw [e63] at hor
  rw [hor]
  have hreg : -64 ≤ reg r ones ∧ reg r ones ≤ 64 := by
    obtain ⟨g1, g2, _⟩ := hr
    unfold reg
    split <;> omega
  have hsc : wrap64 (wrap64 (4 * reg r ones) + (E : Int)) = 4 * reg r ones + (E : Int) := by
    rw [wrap64_id (n := 4 * reg r ones) (by omega) (by omega), wrap64_id (by omega) (by omega)]
  rw [hsc]
  rfl
end Go.Proofs.Ytnlbfomlfhigcaa.M
namespace Go.Proofs.Ytnlbfomlfhigcaa.M
open Go.RowKit Go.Proofs.YtnlbfomlfhigcaaW.PrintWords Go.Proofs.YtnlbfomlfhigcaaW.PrintLast Go.Proofs.YtnlbfomlfhigcaaW.PrintMore Go.Proofs.Ytnlbfomlfhigcaa.Q
def hiY (Y : Nat) : Int := ((Y / 2 ^ 72 / 2 ^ 64 : Nat) : Int)
def loY (Y : Nat) : Int := ((Y / 2 ^ 72 % 2 ^ 64 : Nat) : Int)
def reY (b : Bool) (Y : Nat) : Bool := b || decide (Y % 2 ^ 72 ≠ 0)
set_option maxRecDepth 20000 in
theorem under_Y {Y m c : Nat} (b : Bool) (hY : Y < 2 ^ 200) (hm : m = 1 ∨ m = 2) (hc : c < 2 ^ m) (hd : Y % 2 ^ m = 0) :
    round_under.f (hiY Y) (loY Y) (c : Int) (m : Int) (reY b Y) = some (hiY (Y / 2 ^ m + c * 2 ^ (200 - m)), loY (Y / 2 ^ m + c * 2 ^ (200 - m)), reY b (Y / 2 ^ m + c * 2 ^ (200 - m))) := by
  unfold round_under.f hiY loY
  have hW : Y / 2 ^ 72 < 2 ^ 128 := by omega
  have hWd : Y / 2 ^ 72 / 2 ^ 64 * 2 ^ 64 + Y / 2 ^ 72 % 2 ^ 64 = Y / 2 ^ 72 := by rw [Nat.mul_comm]; exact Nat.div_add_mod _ _
  rw [Shr_tw (j := m) (by omega) (Nat.mod_lt _ (by decide)) (by omega), hWd]
  simp only [Option.bind_some]
  have hw : wrap64 (64 - (m : Int)) = ((64 - m : Nat) : Int) := by unfold wrap64; omega
  rw [hw, if_pos (by omega), shl_nat c (64 - m) (by omega)]
  have hcs : c * 2 ^ (64 - m) % 2 ^ 64 = c * 2 ^ (64 - m) := Nat.mod_eq_of_lt (by rcases hm with rfl | rfl <;> simp only [Nat.reduceSub] <;> omega)
  have hor : Go.bits .or .u64 ((Y / 2 ^ 72 / 2 ^ m / 2 ^ 64 : Nat) : Int) ((c * 2 ^ (64 - m) : Nat) : Int) = ((c * 2 ^ (64 - m) + Y / 2 ^ 72 / 2 ^ m / 2 ^ 64 : Nat) : Int) := by
    have h1 : Y / 2 ^ 72 / 2 ^ m / 2 ^ 64 < 2 ^ (64 - m) := by rcases hm with rfl | rfl <;> simp only [Nat.reduceSub] <;> omega
    have h2 : c * 2 ^ (64 - m) < 2 ^ 64 := by rcases hm with rfl | rfl <;> simp only [Nat.reduceSub] <;> omega
    have h3 := or_add (c * 2 ^ (64 - m)) (Y / 2 ^ 72 / 2 ^ m / 2 ^ 64) (64 - m) h2 h1 (by omega) (Nat.mul_mod_left _ _)
    rw [or_nat _ _ h2 (by have : 2 ^ (64 - m) ≤ 2 ^ 64 := pow_le (by omega); omega)] at h3
    rw [or_nat _ _ (by have : 2 ^ (64 - m) ≤ 2 ^ 64 := pow_le (by omega); omega) h2, Nat.or_comm, h3]
  rw [hcs, hor]
  have hC : c * 2 ^ (200 - m) = c * 2 ^ (64 - m) * 2 ^ 64 * 2 ^ 72 := by rw [Nat.mul_assoc, Nat.mul_assoc, ← Nat.pow_add, ← Nat.pow_add]; exact congrArg (fun z => c * 2 ^ z) (by omega)
  rw [hC]
  generalize c * 2 ^ (64 - m) = C at *
  have a1 : C + Y / 2 ^ 72 / 2 ^ m / 2 ^ 64 = (Y / 2 ^ m + C * 2 ^ 64 * 2 ^ 72) / 2 ^ 72 / 2 ^ 64 := by rcases hm with rfl | rfl <;> omega
  have a2 : Y / 2 ^ 72 / 2 ^ m % 2 ^ 64 = (Y / 2 ^ m + C * 2 ^ 64 * 2 ^ 72) / 2 ^ 72 % 2 ^ 64 := by rcases hm with rfl | rfl <;> omega
  have a3 : ((Y % 2 ^ 72 ≠ 0) ∨ (Y / 2 ^ 72 % 2 ^ m ≠ 0)) ↔ (Y / 2 ^ m + C * 2 ^ 64 * 2 ^ 72) % 2 ^ 72 ≠ 0 := by rcases hm with rfl | rfl <;> omega
  rw [a1, a2]
  unfold reY
  by_cases c1 : Y % 2 ^ 72 ≠ 0
  · rw [decide_eq_true c1, decide_eq_true (a3.1 (.inl c1)), Bool.or_true, if_pos rfl]
  · rw [decide_eq_false c1]
    by_cases c2 : Y / 2 ^ 72 % 2 ^ m ≠ 0
    · rw [decide_eq_true c2, decide_eq_true (a3.1 (.inr c2))]
      cases b <;> simp
    · have : ¬ (Y / 2 ^ m + C * 2 ^ 64 * 2 ^ 72) % 2 ^ 72 ≠ 0 := fun h => (a3.2 h).elim c1 c2
      rw [decide_eq_false c2, decide_eq_false this]
      cases b <;> simp
def lft (n Y : Nat) (b : Bool) : Nat :=
  if 2 ^ (201 - n) < 2 * (Y % 2 ^ (201 - n)) + b.toNat then 3 else if 2 ^ (201 - n) = 2 * (Y % 2 ^ (201 - n)) + b.toNat then 2 else if 0 < 2 * (Y % 2 ^ (201 - n)) + b.toNat then 1 else 0
theorem left_val (k : Nat) (x : Nat) (b : Bool) : round_left.f (k + 1) (x : Int) b = some (((if 9223372036854775808 < x ∨ (x = 9223372036854775808 ∧ b = true) then 3 else if x = 9223372036854775808 then 2 else if 0 < x ∨ b = true then 1 else 0 : Nat) : Nat) : Int) := by
  unfold round_left.f
  simp only [round_left.j0]
  have i1 : ((x : Int) > 9223372036854775808) ↔ 9223372036854775808 < x := by omega
  have i2 : ((x : Int) = 9223372036854775808) ↔ x = 9223372036854775808 := by omega
  have i3 : ((x : Int) > 0) ↔ 0 < x := by omega
  simp only [i1, i2, i3]
  by_cases c1 : 9223372036854775808 < x
  · simp [c1]
  · by_cases c2 : x = 9223372036854775808
    · subst c2
      cases b <;> simp
    · by_cases c3 : 0 < x <;> cases b <;> simp [c1, c2, c3]
theorem j3_Y {n Y : Nat} (hn : Wd n) (b : Bool) (hY : Y < 2 ^ 200) (k : Nat) :
    round_Cut.j3 (k + 2) (n : Int) (reY b Y) (hiY Y) (loY Y) = some (((Y / 2 ^ (201 - n) : Nat) : Int), ((lft n Y b : Nat) : Int), none) := by
  have hb := hn.bd
  simp only [round_Cut.j3]
  have hw1 : wrap64 (65 - (n : Int)) = ((65 - n : Nat) : Int) := by unfold wrap64; omega
  have hw2 : wrap64 ((n : Int) - 1) = ((n - 1 : Nat) : Int) := by unfold wrap64; omega
  rw [hw1, hw2, if_pos (by omega)]
  unfold hiY loY
  have hW : Y / 2 ^ 72 < 2 ^ 128 := by omega
  have hWd : Y / 2 ^ 72 / 2 ^ 64 * 2 ^ 64 + Y / 2 ^ 72 % 2 ^ 64 = Y / 2 ^ 72 := by rw [Nat.mul_comm]; exact Nat.div_add_mod _ _
  obtain ⟨bb, hS⟩ := Shl_tw (h := Y / 2 ^ 72 / 2 ^ 64) (l := Y / 2 ^ 72 % 2 ^ 64) (j := n - 1) (by omega) (Nat.mod_lt _ (by decide)) (by omega)
  rw [hS, hWd]
  simp only [Option.bind_some]
  rw [shr_nat _ (65 - n) (by omega)]
  have a1 : Y / 2 ^ 72 / 2 ^ 64 / 2 ^ (65 - n) = Y / 2 ^ (201 - n) := by
    rw [Nat.div_div_eq_div_mul, Nat.div_div_eq_div_mul, ← Nat.pow_add, ← Nat.pow_add]
    exact congrArg (fun z => Y / 2 ^ z) (by omega)
  rw [a1]
  have hbb := toNat_le b
  have hbt : b.toNat = 1 ↔ b = true := by cases b <;> simp
  have key : ∀ r : Bool, (r = true ↔ (b = true ∨ Y % 2 ^ 72 ≠ 0 ∨ Y / 2 ^ 72 * 2 ^ (n - 1) % 2 ^ 64 ≠ 0)) →
      (if 9223372036854775808 < Y / 2 ^ 72 * 2 ^ (n - 1) % 2 ^ 128 / 2 ^ 64 ∨ (Y / 2 ^ 72 * 2 ^ (n - 1) % 2 ^ 128 / 2 ^ 64 = 9223372036854775808 ∧ r = true) then 3 else if Y / 2 ^ 72 * 2 ^ (n - 1) % 2 ^ 128 / 2 ^ 64 = 9223372036854775808 then 2 else if 0 < Y / 2 ^ 72 * 2 ^ (n - 1) % 2 ^ 128 / 2 ^ 64 ∨ r = true then 1 else 0 : Nat) = lft n Y b := by
    intro r hr
    unfold lft
    simp only [hr, ← hbt]
    generalize b.toNat = t at *
    have b1 : (9223372036854775808 < Y / 2 ^ 72 * 2 ^ (n - 1) % 2 ^ 128 / 2 ^ 64 ∨ (Y / 2 ^ 72 * 2 ^ (n - 1) % 2 ^ 128 / 2 ^ 64 = 9223372036854775808 ∧ (t = 1 ∨ Y % 2 ^ 72 ≠ 0 ∨ Y / 2 ^ 72 * 2 ^ (n - 1) % 2 ^ 64 ≠ 0))) ↔ 2 ^ (201 - n) < 2 * (Y % 2 ^ (201 - n)) + t := by
      rcases hn with rfl | rfl | rfl | rfl <;> simp only [Nat.reduceSub] <;> omega
    have b2 : ¬ (2 ^ (201 - n) < 2 * (Y % 2 ^ (201 - n)) + t) → (Y / 2 ^ 72 * 2 ^ (n - 1) % 2 ^ 128 / 2 ^ 64 = 9223372036854775808 ↔ 2 ^ (201 - n) = 2 * (Y % 2 ^ (201 - n)) + t) := by
      rcases hn with rfl | rfl | rfl | rfl <;> simp only [Nat.reduceSub] <;> omega
    have b3 : (0 < Y / 2 ^ 72 * 2 ^ (n - 1) % 2 ^ 128 / 2 ^ 64 ∨ (t = 1 ∨ Y % 2 ^ 72 ≠ 0 ∨ Y / 2 ^ 72 * 2 ^ (n - 1) % 2 ^ 64 ≠ 0)) ↔ 0 < 2 * (Y % 2 ^ (201 - n)) + t := by
      rcases hn with rfl | rfl | rfl | rfl <;> simp only [Nat.reduceSub] <;> omega
    by_cases c1 : 2 ^ (201 - n) < 2 * (Y % 2 ^ (201 - n)) + t
    · rw [if_pos (b1.2 c1), if_pos c1]
    · rw [if_neg (fun h => c1 (b1.1 h)), if_neg c1]
      by_cases c2 : 2 ^ (201 - n) = 2 * (Y % 2 ^ (201 - n)) + t
      · rw [if_pos ((b2 c1).2 c2), if_pos c2]
      · rw [if_neg (fun h => c2 ((b2 c1).1 h)), if_neg c2]
        by_cases c3 : 0 < 2 * (Y % 2 ^ (201 - n)) + t
        · rw [if_pos (b3.2 c3), if_pos c3]
        · rw [if_neg (fun h => c3 (b3.1 h)), if_neg c3]
  unfold reY
  by_cases d : Y / 2 ^ 72 * 2 ^ (n - 1) % 2 ^ 64 = 0
  · rw [if_pos (by omega), left_val, key (b || decide (Y % 2 ^ 72 ≠ 0)) (by cases b <;> simp [d])]
    rfl
  · rw [if_neg (by omega), left_val, key true (by simp [d])]
    rfl
def yo (t i : Nat) : Nat := t * 2 ^ (70 - i) + (2 ^ 200 - 2 ^ (200 - i))
def yz (t i : Nat) : Nat := t * 2 ^ (70 - i) + 2 ^ (199 - i)
theorem yo_step {t i : Nat} (ht : t < 2 ^ 129) (hi : i < 70) : yo t i < 2 ^ 200 ∧ yo t i % 2 ^ 1 = 0 ∧ yo t i / 2 ^ 1 + 1 * 2 ^ (200 - 1) = yo t (i + 1) := by
  unfold yo
  have e1 : 2 ^ (70 - i) = 2 * 2 ^ (70 - (i + 1)) := by rw [← Nat.pow_succ']; exact congrArg (2 ^ ·) (by omega)
  have e2 : 2 ^ (200 - i) = 2 * 2 ^ (200 - (i + 1)) := by rw [← Nat.pow_succ']; exact congrArg (2 ^ ·) (by omega)
  have e3 : 2 ^ (200 - i) = 2 ^ 130 * 2 ^ (70 - i) := by rw [← Nat.pow_add]; exact congrArg (2 ^ ·) (by omega)
  have e4 : t * 2 ^ (70 - i) < 2 ^ 129 * 2 ^ (70 - i) := Nat.mul_lt_mul_of_pos_right ht (pow_pos _)
  have e5 : 2 ^ (200 - i) ≤ 2 ^ 200 := pow_le (by omega)
  have hA : t * 2 ^ (70 - i) = 2 * (t * 2 ^ (70 - (i + 1))) := by rw [e1]; exact Nat.mul_left_comm _ _ _
  have e7 : 2 ^ 130 * 2 ^ (70 - i) = 2 * (2 ^ 129 * 2 ^ (70 - i)) := by rw [← Nat.mul_assoc, ← Nat.pow_succ']
  generalize t * 2 ^ (70 - i) = v1 at *
  generalize t * 2 ^ (70 - (i + 1)) = v2 at *
  generalize 2 ^ (200 - (i + 1)) = u at *
  generalize 2 ^ (200 - i) = u2 at *
  generalize 2 ^ (70 - i) = u3 at *
  clear e1
  omega
theorem yz_step {t i : Nat} (ht : t < 2 ^ 129) (hi : i < 70) : yz t i < 2 ^ 200 ∧ yz t i % 2 ^ 1 = 0 ∧ yz t i / 2 ^ 1 + 0 * 2 ^ (200 - 1) = yz t (i + 1) := by
  unfold yz
  have e1 : 2 ^ (70 - i) = 2 * 2 ^ (70 - (i + 1)) := by rw [← Nat.pow_succ']; exact congrArg (2 ^ ·) (by omega)
  have e2 : 2 ^ (199 - i) = 2 * 2 ^ (199 - (i + 1)) := by rw [← Nat.pow_succ']; exact congrArg (2 ^ ·) (by omega)
  have e3 : 2 ^ (199 - i) = 2 ^ 129 * 2 ^ (70 - i) := by rw [← Nat.pow_add]; exact congrArg (2 ^ ·) (by omega)
  have e4 : t * 2 ^ (70 - i) < 2 ^ 129 * 2 ^ (70 - i) := Nat.mul_lt_mul_of_pos_right ht (pow_pos _)
  have e5 : 2 ^ (199 - i) ≤ 2 ^ 199 := pow_le (by omega)
  have hA : t * 2 ^ (70 - i) = 2 * (t * 2 ^ (70 - (i + 1))) := by rw [e1]; exact Nat.mul_left_comm _ _ _
  rw [Nat.zero_mul, Nat.add_zero, Nat.pow_one, hA, e2]
  have e7 : 2 ^ 129 * 2 ^ (70 - i) ≤ 2 ^ 199 := by rw [← e3]; exact e5
  rw [hA] at e4
  generalize t * 2 ^ (70 - (i + 1)) = v2 at *
  generalize 2 ^ (199 - (i + 1)) = u at *
  generalize 2 ^ (70 - i) = u3 at *
  have e8 : 2 * u ≤ 2 ^ 199 := by rw [← e2]; exact e5
  clear e1 e2 e3 e5 hA
  generalize 2 ^ 129 * u3 = q at *
  omega
theorem yo_lt {t i : Nat} (ht : t < 2 ^ 129) (hi : i ≤ 70) : yo t i < 2 ^ 200 := by
  unfold yo
  have e3 : 2 ^ (200 - i) = 2 ^ 130 * 2 ^ (70 - i) := by rw [← Nat.pow_add]; exact congrArg (2 ^ ·) (by omega)
  have e4 : t * 2 ^ (70 - i) < 2 ^ 129 * 2 ^ (70 - i) := Nat.mul_lt_mul_of_pos_right ht (pow_pos _)
  have e5 : 2 ^ (200 - i) ≤ 2 ^ 200 := pow_le (by omega)
  have e7 : 2 ^ 130 * 2 ^ (70 - i) = 2 * (2 ^ 129 * 2 ^ (70 - i)) := by rw [← Nat.mul_assoc, ← Nat.pow_succ']
  generalize t * 2 ^ (70 - i) = v at *
  omega
theorem yz_lt {t i : Nat} (ht : t < 2 ^ 129) (hi : i ≤ 70) : yz t i < 2 ^ 200 := by
  unfold yz
  have e3 : 2 ^ (199 - i) = 2 ^ 129 * 2 ^ (70 - i) := by rw [← Nat.pow_add]; exact congrArg (2 ^ ·) (by omega)
  have e4 : t * 2 ^ (70 - i) < 2 ^ 129 * 2 ^ (70 - i) := Nat.mul_lt_mul_of_pos_right ht (pow_pos _)
  have e5 : 2 ^ (199 - i) ≤ 2 ^ 199 := pow_le (by omega)
  generalize t * 2 ^ (70 - i) = v at *
  omega
theorem l0_Y {n t r : Nat} (b : Bool) (ht : t < 2 ^ 129) (hr : r ≤ 66) (k : Nat) : ∀ d i : Nat, i + d = r →
    round_Cut.l0 (k + d + 1) (n : Int) (reY b (yo t i)) (r : Int) (i : Int) (hiY (yo t i)) (loY (yo t i)) = round_Cut.j3 k (n : Int) (reY b (yo t r)) (hiY (yo t r)) (loY (yo t r)) := by
  intro d
  induction d with
  | zero =>
    intro i hi
    rw [show k + 0 + 1 = k + 1 from rfl, round_Cut.l0, if_neg (by omega), show i = r by omega]
  | succ d ih =>
    intro i hi
    rw [show k + (d + 1) + 1 = (k + d + 1) + 1 by omega, round_Cut.l0]
    obtain ⟨s1, s2, s3⟩ := yo_step (i := i) ht (by omega)
    have hu := under_Y (m := 1) (c := 1) b s1 (.inl rfl) (by decide) s2
    rw [s3] at hu
    have hw : wrap64 ((i : Int) + 1) = ((i + 1 : Nat) : Int) := by unfold wrap64; omega
    have hu' : round_under.f (hiY (yo t i)) (loY (yo t i)) 1 1 (reY b (yo t i)) = some (hiY (yo t (i + 1)), loY (yo t (i + 1)), reY b (yo t (i + 1))) := hu
    rw [if_pos (by omega), hu', hw]
    simp only [Option.bind_some]
    exact ih (i + 1) (by omega)
theorem l1_Y {n t r : Nat} (b : Bool) (ht : t < 2 ^ 129) (hr : r ≤ 66) (k : Nat) : ∀ d i : Nat, i + d = r →
    round_Cut.l1 (k + d + 1) (n : Int) (reY b (yz t i)) (r : Int) (i : Int) (hiY (yz t i)) (loY (yz t i)) = round_Cut.j3 k (n : Int) (reY b (yz t r)) (hiY (yz t r)) (loY (yz t r)) := by
  intro d
  induction d with
  | zero =>
    intro i hi
    rw [show k + 0 + 1 = k + 1 from rfl, round_Cut.l1, if_neg (by omega), show i = r by omega]
  | succ d ih =>
    intro i hi
    rw [show k + (d + 1) + 1 = (k + d + 1) + 1 by omega, round_Cut.l1]
    obtain ⟨s1, s2, s3⟩ := yz_step (i := i) ht (by omega)
    have hu := under_Y (m := 1) (c := 0) b s1 (.inl rfl) (by decide) s2
    rw [s3] at hu
    have hw : wrap64 ((i : Int) + 1) = ((i + 1 : Nat) : Int) := by unfold wrap64; omega
    have hu' : round_under.f (hiY (yz t i)) (loY (yz t i)) 0 1 (reY b (yz t i)) = some (hiY (yz t (i + 1)), loY (yz t (i + 1)), reY b (yz t (i + 1))) := hu
    rw [if_pos (by omega), hu', hw]
    simp only [Option.bind_some]
    exact ih (i + 1) (by omega)
end Go.Proofs.Ytnlbfomlfhigcaa.M
namespace Go.Proofs.Ytnlbfomlfhigcaa.M
open Go.RowKit Go.Proofs.YtnlbfomlfhigcaaW.PrintWords Go.Proofs.YtnlbfomlfhigcaaW.PrintLast Go.Proofs.YtnlbfomlfhigcaaW.PrintMore Go.Proofs.Ytnlbfomlfhigcaa.Q
theorem and3 (s : Int) : IntKind.u64.wrap (Go.bits .and .i64 s 3) = ((s % 4).toNat : Int) := by
  have h : (BitVec.ofInt 64 s &&& BitVec.ofInt 64 3).toNat = (s % 4).toNat := by
    rw [BitVec.toNat_and, BitVec.toNat_ofInt, BitVec.toNat_ofInt]
    have : ((3 : Int) % ((2 ^ 64 : Nat) : Int)).toNat = 2 ^ 2 - 1 := by decide
    rw [this, Nat.and_two_pow_sub_one_eq_mod, p64]
    omega
  have e : Go.bits .and .i64 s 3 = IntKind.i64.wrap ((BitVec.ofInt 64 s &&& BitVec.ofInt 64 3).toNat : Nat) := rfl
  rw [e, h, IntKind.wrap_i64, u64w]
  have : (s % 4).toNat ≤ 3 := by omega
  omega
theorem str_yo {s : Int} {F k : Nat} (h : s / 4 = (k : Int)) (hk : k ≤ 69) : str s F = yo (tl s F) (k + 1) := by
  rw [str_pos h]
  unfold yo
  have e1 : 2 ^ 130 * 2 ^ (69 - k) = 2 ^ (200 - (k + 1)) := by rw [← Nat.pow_add]; exact congrArg (2 ^ ·) (by omega)
  rw [e1, show 70 - (k + 1) = 69 - k by omega, Nat.add_comm]
theorem str_yz {s : Int} {F r : Nat} (h : s / 4 = -(r : Int)) (hr : 1 ≤ r) (hr2 : r ≤ 70) : str s F = yz (tl s F) r := by
  rw [str_neg h hr]
  unfold yz
  have e1 : 2 ^ 129 * 2 ^ (70 - r) = 2 ^ (199 - r) := by rw [← Nat.pow_add]; exact congrArg (2 ^ ·) (by omega)
  rw [e1, Nat.add_comm]
theorem str_lt200 {s : Int} {F : Nat} (h1 : -270 ≤ s) (h2 : s ≤ 270) (hF : F < 2 ^ 128) : str s F < 2 ^ 200 := by
  by_cases h0 : 0 ≤ s / 4
  · obtain ⟨k, hk⟩ := Int.eq_ofNat_of_zero_le h0
    rw [str_yo hk (by omega)]
    exact yo_lt (tl_lt hF) (by omega)
  · obtain ⟨r, hr⟩ : ∃ r : Nat, s / 4 = -(r : Int) := ⟨(-(s / 4)).toNat, by omega⟩
    rw [str_yz hr (by omega) (by omega)]
    exact yz_lt (tl_lt hF) (by omega)
theorem y_e1 (X e : Nat) : X * 2 ^ 73 / 2 ^ 2 + e * 2 ^ (200 - 2) = (e * 2 ^ 127 + X) * 2 ^ 71 := by omega
theorem y_half (t : Nat) : t * 2 ^ 71 / 2 ^ 1 = t * 2 ^ 70 := by omega
theorem y_e2 (t : Nat) : t * 2 ^ 71 / 2 ^ 1 + 0 * 2 ^ (200 - 1) = yo t 0 := by
  rw [y_half, Nat.zero_mul]
  unfold yo
  rw [Nat.sub_zero, Nat.sub_zero, Nat.sub_self]
theorem y_e3 (t : Nat) : t * 2 ^ 71 / 2 ^ 1 + 1 * 2 ^ (200 - 1) = yz t 0 := by
  rw [y_half, Nat.one_mul]
  rfl
theorem y_lt (t : Nat) (h : t < 2 ^ 129) : t * 2 ^ 71 < 2 ^ 200 ∧ t * 2 ^ 71 % 2 ^ 1 = 0 := by omega
theorem y_lt0 (X : Nat) (h : X < 2 ^ 127) : X * 2 ^ 73 < 2 ^ 200 ∧ X * 2 ^ 73 % 2 ^ 2 = 0 ∧ X * 2 ^ 73 % 2 ^ 72 = 0 := by omega
theorem under_end0 (b : Bool) {t : Nat} (h : t < 2 ^ 129) : round_under.f (hiY (t * 2 ^ 71)) (loY (t * 2 ^ 71)) 0 1 (reY b (t * 2 ^ 71)) = some (hiY (yo t 0), loY (yo t 0), reY b (yo t 0)) := by
  have hu := under_Y (Y := t * 2 ^ 71) (m := 1) (c := 0) b (y_lt t h).1 (.inl rfl) (by decide) (y_lt t h).2
  rw [y_e2] at hu
  exact hu
theorem under_end1 (b : Bool) {t : Nat} (h : t < 2 ^ 129) : round_under.f (hiY (t * 2 ^ 71)) (loY (t * 2 ^ 71)) 1 1 (reY b (t * 2 ^ 71)) = some (hiY (yz t 0), loY (yz t 0), reY b (yz t 0)) := by
  have hu := under_Y (Y := t * 2 ^ 71) (m := 1) (c := 1) b (y_lt t h).1 (.inl rfl) (by decide) (y_lt t h).2
  rw [y_e3] at hu
  exact hu
theorem under_exp (b : Bool) {X e : Nat} (h : X < 2 ^ 127) (he : e < 2 ^ 2) : round_under.f (hiY (X * 2 ^ 73)) (loY (X * 2 ^ 73)) (e : Int) 2 b = some (hiY ((e * 2 ^ 127 + X) * 2 ^ 71), loY ((e * 2 ^ 127 + X) * 2 ^ 71), reY b ((e * 2 ^ 127 + X) * 2 ^ 71)) := by
  have h0 := y_lt0 X h
  have hu := under_Y (Y := X * 2 ^ 73) (m := 2) (c := e) b h0.1 (.inr rfl) he h0.2.1
  rw [y_e1] at hu
  have hR : reY b (X * 2 ^ 73) = b := by
    unfold reY
    rw [decide_eq_false (by rw [h0.2.2]; simp), Bool.or_false]
  rw [hR] at hu
  exact hu
theorem shl_first {h l : Nat} (hh : 2 ^ 63 ≤ h) (hh2 : h < 2 ^ 64) (hl : l < 2 ^ 64) : ∃ bb, twin_Shl.f (h : Int) (l : Int) 1 = some (hiY ((h * 2 ^ 64 + l - 2 ^ 127) * 2 ^ 73), loY ((h * 2 ^ 64 + l - 2 ^ 127) * 2 ^ 73), bb, none) := by
  obtain ⟨bb, hS⟩ := Shl_tw (j := 1) hh2 hl (by omega)
  refine ⟨bb, ?_⟩
  unfold hiY loY
  rw [show ((h * 2 ^ 64 + l) * 2 ^ 1 % 2 ^ 128 / 2 ^ 64) = ((h * 2 ^ 64 + l - 2 ^ 127) * 2 ^ 73 / 2 ^ 72 / 2 ^ 64) by omega, show ((h * 2 ^ 64 + l) * 2 ^ 1 % 2 ^ 64) = ((h * 2 ^ 64 + l - 2 ^ 127) * 2 ^ 73 / 2 ^ 72 % 2 ^ 64) by omega] at hS
  exact hS
theorem lay_ones {n q : Nat} (hn : Wd n) (b : Bool) {s : Int} {F : Nat} (hF : F < 2 ^ 128) (hq : s / 4 = (q : Int)) (hq2 : q ≤ 65) (k : Nat) :
    round_Cut.l0 (k + 79) (n : Int) (reY b (yo (tl s F) 0)) (wrap64 ((q : Int) + 1)) 0 (hiY (yo (tl s F) 0)) (loY (yo (tl s F) 0)) = some (((str s F / 2 ^ (201 - n) : Nat) : Int), ((lft n (str s F) b : Nat) : Int), none) := by
  have ht := tl_lt (s := s) hF
  have hw : wrap64 ((q : Int) + 1) = ((q + 1 : Nat) : Int) := by unfold wrap64; omega
  have hl0 := l0_Y (n := n) (r := q + 1) b ht (by omega) (k + 77 - q) (q + 1) 0 (Nat.zero_add _)
  rw [show k + 77 - q + (q + 1) + 1 = k + 79 by omega] at hl0
  rw [hw]
  refine Eq.trans hl0 ?_
  rw [← str_yo hq (by omega), show k + 77 - q = (k + 75 - q) + 2 by omega]
  exact j3_Y hn b (str_lt200 (by omega) (by omega) hF) _
theorem lay_zeros {n r : Nat} (hn : Wd n) (b : Bool) {s : Int} {F : Nat} (hF : F < 2 ^ 128) (hr : s / 4 = -(r : Int)) (hr1 : 1 ≤ r) (hr2 : r ≤ 65) (k : Nat) :
    round_Cut.l1 (k + 79) (n : Int) (reY b (yz (tl s F) 0)) (wrap64 (-(-(r : Int)))) 0 (hiY (yz (tl s F) 0)) (loY (yz (tl s F) 0)) = some (((str s F / 2 ^ (201 - n) : Nat) : Int), ((lft n (str s F) b : Nat) : Int), none) := by
  have ht := tl_lt (s := s) hF
  have hw : wrap64 (-(-(r : Int))) = (r : Int) := by unfold wrap64; omega
  have hl1 := l1_Y (n := n) (r := r) b ht (by omega) (k + 78 - r) r 0 (Nat.zero_add _)
  rw [show k + 78 - r + r + 1 = k + 79 by omega] at hl1
  rw [hw]
  refine Eq.trans hl1 ?_
  rw [← str_yz hr (by omega) (by omega), show k + 78 - r = (k + 76 - r) + 2 by omega]
  exact j3_Y hn b (str_lt200 (by omega) (by omega) hF) _
end Go.Proofs.Ytnlbfomlfhigcaa.M
