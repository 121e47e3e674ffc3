/- Walks and plain laws that the claim stands on: each theorem named calls says that a call of a function returns what its f computes; the others are plain laws of these f, and the words that the walks use. -/
import Derived.Test.YtnlbfomlfhigcaaTopRisesV19
import Derived.Test.YtnlbfomlfhigcaaTopRisesV13
import Derived.Test.YtnlbfomlfhigcaaTopRisesV18
import Derived.Test.YtnlbfomlfhigcaaTopRisesV15
namespace Go.Proofs.Ytnlbfomlfhigcaa.M
open Go.RowKit Go.Proofs.YtnlbfomlfhigcaaW.PrintWords Go.Proofs.YtnlbfomlfhigcaaW.PrintLast Go.Proofs.YtnlbfomlfhigcaaW.PrintMore Go.Proofs.Ytnlbfomlfhigcaa.Q
theorem mul_words {a b : Nat} (ha : a < 2 ^ 64) (hb : b < 2 ^ 64) : twin_Mul.f (a : Int) (b : Int) = some (((a * b / 2 ^ 64 : Nat) : Int), ((a * b % 2 ^ 64 : Nat) : Int)) := by
  unfold twin_Mul.f bits_Mul64.f
  rw [if_pos ⟨by omega, by omega, by omega, by omega⟩, Option.bind_some, ← Int.natCast_mul]
  rfl
theorem norm_words {P : Nat} (h1 : 2 ^ 126 ≤ P) (h2 : P < 2 ^ 128) : ∃ t, t ≤ 1 ∧ Hi (127 - t) P ∧ twin_Norm.f ((P / 2 ^ 64 : Nat) : Int) ((P % 2 ^ 64 : Nat) : Int) = some (((P * 2 ^ t / 2 ^ 64 : Nat) : Int), ((P * 2 ^ t % 2 ^ 64 : Nat) : Int), (t : Int)) := by
  have hh : P / 2 ^ 64 < 2 ^ 64 := by omega
  have hl : P % 2 ^ 64 < 2 ^ 64 := Nat.mod_lt _ (by decide)
  have eP : P / 2 ^ 64 * 2 ^ 64 + P % 2 ^ 64 = P := by omega
  obtain ⟨b, hb, hf, hc⟩ := len_tw hh hl
  rw [eP] at hc
  have hb2 : b = 127 ∨ b = 128 := by
    rcases hc with ⟨h0, _⟩ | ⟨g1, g2, g3⟩
    · omega
    · have k1 : 126 < b := (Nat.pow_lt_pow_iff_right (show 1 < 2 by decide)).1 (Nat.lt_of_le_of_lt h1 g3)
      omega
  have g : 2 ^ (b - 1) ≤ P ∧ P < 2 ^ b := by
    rcases hc with ⟨h0, _⟩ | ⟨g1, g2, g3⟩
    · omega
    · exact ⟨g2, g3⟩
  refine ⟨128 - b, by omega, ?_, ?_⟩
  · rcases hb2 with rfl | rfl <;> exact g
  · have hz : ¬ (((P / 2 ^ 64 : Nat) : Int) == 0 && (((P % 2 ^ 64 : Nat) : Int) == 0)) = true := by
      simp only [Bool.and_eq_true, beq_iff_eq]
      omega
    have hw : wrap64 (128 - (b : Int)) = ((128 - b : Nat) : Int) := by unfold wrap64; omega
    have hs := shl_tw (h := P / 2 ^ 64) (j := 128 - b) hh hl (by omega)
    rw [eP] at hs
    have hlt : P * 2 ^ (128 - b) < 2 ^ 128 := by
      rcases hb2 with rfl | rfl
      · have := g.2
        omega
      · have := g.2
        omega
    rw [Nat.mod_eq_of_lt hlt] at hs
    unfold twin_Norm.f
    rw [if_neg hz, hf, Option.bind_some, hw, hs]
    rfl
theorem make_val {P : Nat} (h1 : 2 ^ 126 ≤ P) (h2 : P < 2 ^ 128) (neg : Bool) {e u : Int} (e1 : -1000000 ≤ e) (e2 : e ≤ 1000000) (hu : u ≤ e) (k : Nat) :
    ∃ t, round_Make.f (k + 1) neg ((P / 2 ^ 64 : Nat) : Int) ((P % 2 ^ 64 : Nat) : Int) e false = some (t.1, t.2.1, t.2.2.1, t.2.2.2.1, t.2.2.2.2.1, t.2.2.2.2.2, none) ∧ Sout u (sv neg (P * 2 ^ (e - u).toNat)) (some t) := by
  obtain ⟨t, ht, hH, hN⟩ := norm_words h1 h2
  have hP0 := hH.ne
  have hlt : P * 2 ^ t < 2 ^ 128 := by
    have := Nat.mul_lt_mul_of_pos_right hH.2 (pow_pos t)
    rw [← Nat.pow_add, show 127 - t + 1 + t = 128 by omega] at this
    exact this
  have hge : 2 ^ 127 ≤ P * 2 ^ t := by
    have := Nat.mul_le_mul_right (2 ^ t) hH.1
    rw [← Nat.pow_add, show 127 - t + t = 127 by omega] at this
    exact this
  have hpt : (2 : Nat) ^ 127 = 2 ^ t * 2 ^ (127 - t) := pow_split (by omega)
  have tf : tF (127 - t) P = P * 2 ^ t := by
    unfold tF
    rw [hpt, ← Nat.mul_assoc, Nat.mul_div_cancel _ (pow_pos _)]
  have tb : tB (127 - t) P = false := by
    unfold tB
    refine decide_eq_false ?_
    rw [hpt, ← Nat.mul_assoc, Nat.mul_mod_left]
    simp
  have hexp : mx (-4398046511104) (mn e 4398046511104) = e := by unfold mx mn; omega
  have hw1 : wrap64 (e + 127) = e + 127 := by unfold wrap64; omega
  have hw2 : wrap64 (e + 127 - (t : Int)) = e + 127 - (t : Int) := by unfold wrap64; omega
  have hheld : round_held.f (e + 127 - (t : Int)) = some (hld (e + ((127 - t : Nat) : Int))) := by
    rw [held_val]
    have : e + 127 - (t : Int) = e + ((127 - t : Nat) : Int) := by omega
    rw [this]
    refine congrArg some ?_
    unfold hld mx mn
    split <;> split <;> omega
  refine ⟨(1, neg, hld (e + ((127 - t : Nat) : Int)), ((P * 2 ^ t / 2 ^ 64 : Nat) : Int), ((P * 2 ^ t % 2 ^ 64 : Nat) : Int), false), ?_, ?_⟩
  · have hz : ¬ (((P * 2 ^ t / 2 ^ 64 : Nat) : Int) == 0 && (((P * 2 ^ t % 2 ^ 64 : Nat) : Int) == 0)) = true := by
      simp only [Bool.and_eq_true, beq_iff_eq]
      generalize P * 2 ^ t = F at *
      omega
    unfold round_Make.f
    rw [if_neg (by decide), round_Make.j0, if_neg (by decide), hN, Option.bind_some, if_neg hz, hexp, hw1, hw2, hheld, Option.bind_some]
  · have hS : Sout e (sv neg P) (some (1, neg, hld (e + ((127 - t : Nat) : Int)), ((P * 2 ^ t / 2 ^ 64 : Nat) : Int), ((P * 2 ^ t % 2 ^ 64 : Nat) : Int), false)) := by
      refine .inr ⟨127 - t, by rw [sv_abs]; exact hH, ?_⟩
      rw [sv_abs, tf, tb, sv_neg hP0]
    have := hS.shift (e - u).toNat
    rw [← sv_mul, show e - ((e - u).toNat : Int) = u by omega] at this
    exact this
def omul (u : Int) : Mn → Mn → Option Int
  | .nar, _ => none
  | _, .nar => none
  | .zero, _ => some 0
  | _, .zero => some 0
  | .real n s f, .real n' s' f' => some (sv (n != n') (f * f' * 2 ^ (s + s' - 126 - u).toNat))
theorem prod_mn {w y w' y' : Nat} (hw : Wd w) (hw' : Wd w') {m m' : Mn} (h : Means w y m) (h' : Means w' y' m') {u : Int} (hu : u ≤ -1000) (k : Nat) :
    ∃ t, prod_Exact.f (k + 6) m.k m.n m.s (m.f : Int) m'.k m'.n m'.s (m'.f : Int) = some (t.1, t.2.1, t.2.2.1, t.2.2.2.1, t.2.2.2.2.1, t.2.2.2.2.2, none) ∧ Xout u (omul u m m') (some t) := by
  have hb := hw.bd
  have hb' := hw'.bd
  have hloop : prod_Exact.f (k + 6) m.k m.n m.s (m.f : Int) m'.k m'.n m'.s (m'.f : Int) =
      (if m.k = 2 then prod_Exact.j1 (k + 3) (m.k == 2) m.k m.n m.s (m.f : Int) m'.k m'.n m'.s (m'.f : Int) else prod_Exact.j1 (k + 3) (m'.k == 2) m.k m.n m.s (m.f : Int) m'.k m'.n m'.s (m'.f : Int)) := by
    have q0 : rd_T103 [⟨m.k, m.n, m.s, (m.f : Int)⟩, ⟨m'.k, m'.n, m'.s, (m'.f : Int)⟩] 0 = ⟨m.k, m.n, m.s, (m.f : Int)⟩ := rfl
    have q1 : rd_T103 [⟨m.k, m.n, m.s, (m.f : Int)⟩, ⟨m'.k, m'.n, m'.s, (m'.f : Int)⟩] 1 = ⟨m'.k, m'.n, m'.s, (m'.f : Int)⟩ := rfl
    have w1 : wrap64 (0 + 1) = 1 := by unfold wrap64; omega
    have w2 : wrap64 (1 + 1) = 2 := by unfold wrap64; omega
    have len : (([⟨m.k, m.n, m.s, (m.f : Int)⟩, ⟨m'.k, m'.n, m'.s, (m'.f : Int)⟩] : List S103).length : Int) = 2 := rfl
    unfold prod_Exact.f
    rw [Option.bind_some, len, show k + 6 = (k + 5) + 1 from rfl, prod_Exact.l0, if_pos (by decide), if_pos (by decide), if_pos (by rw [len]; decide), q0]
    simp only
    rw [show k + 5 = (k + 4) + 1 from rfl, mn_of hw h (k + 4), Option.bind_some]
    simp only [Option.isNone_none, if_true]
    rw [w1, prod_Exact.l0, if_pos (by decide), if_pos (by decide), if_pos (by rw [len]; decide), q1]
    simp only
    rw [show k + 4 = (k + 3) + 1 from rfl, mn_of hw' h' (k + 3), Option.bind_some]
    simp only [Option.isNone_none, if_true]
    rw [w2, prod_Exact.l0, if_neg (by decide)]
  rw [hloop]
  cases m with
  | nar =>
    refine ⟨(2, false, 0, 0, 0, false), ?_, ?_⟩
    · show (if (2 : Int) = 2 then prod_Exact.j1 (k + 3) true _ _ _ _ _ _ _ _ else _) = _
      rw [if_pos rfl, show k + 3 = (k + 2) + 1 from rfl, prod_Exact.j1, if_pos rfl]
    · cases m' <;> rfl
  | zero =>
    cases m' with
    | nar =>
      refine ⟨(2, false, 0, 0, 0, false), ?_, rfl⟩
      show (if (0 : Int) = 2 then _ else prod_Exact.j1 (k + 3) true _ _ _ _ _ _ _ _) = _
      rw [if_neg (by decide), show k + 3 = (k + 2) + 1 from rfl, prod_Exact.j1, if_pos rfl]
    | zero =>
      refine ⟨(0, false, 0, 0, 0, false), ?_, .inl ⟨rfl, rfl⟩⟩
      show (if (0 : Int) = 2 then _ else prod_Exact.j1 (k + 3) false 0 _ _ _ 0 _ _ _) = _
      rw [if_neg (by decide), show k + 3 = (k + 2) + 1 from rfl, prod_Exact.j1, if_neg (by decide), if_pos rfl, show ((0 : Int) == 0) = true from rfl, show k + 2 = (k + 1) + 1 from rfl, prod_Exact.j2, if_pos rfl]
    | real n' s' f' =>
      refine ⟨(0, false, 0, 0, 0, false), ?_, .inl ⟨rfl, rfl⟩⟩
      show (if (0 : Int) = 2 then _ else prod_Exact.j1 (k + 3) false 0 _ _ _ 1 _ _ _) = _
      rw [if_neg (by decide), show k + 3 = (k + 2) + 1 from rfl, prod_Exact.j1, if_neg (by decide), if_pos rfl, show ((0 : Int) == 0) = true from rfl, show k + 2 = (k + 1) + 1 from rfl, prod_Exact.j2, if_pos rfl]
  | real n s f =>
    cases m' with
    | nar =>
      refine ⟨(2, false, 0, 0, 0, false), ?_, rfl⟩
      show (if (1 : Int) = 2 then _ else prod_Exact.j1 (k + 3) true _ _ _ _ _ _ _ _) = _
      rw [if_neg (by decide), show k + 3 = (k + 2) + 1 from rfl, prod_Exact.j1, if_pos rfl]
    | zero =>
      refine ⟨(0, false, 0, 0, 0, false), ?_, .inl ⟨rfl, rfl⟩⟩
      show (if (1 : Int) = 2 then _ else prod_Exact.j1 (k + 3) false 1 _ _ _ 0 _ _ _) = _
      rw [if_neg (by decide), show k + 3 = (k + 2) + 1 from rfl, prod_Exact.j1, if_neg (by decide), if_neg (by decide), show ((0 : Int) == 0) = true from rfl, show k + 2 = (k + 1) + 1 from rfl, prod_Exact.j2, if_pos rfl]
    | real n' s' f' =>
      obtain ⟨h1, h2, h3, h4⟩ := h.bd
      obtain ⟨h1', h2', h3', h4'⟩ := h'.bd
      have hlo : 2 ^ 126 ≤ f * f' := by
        have := Nat.mul_le_mul h1 h1'
        rw [← Nat.pow_add] at this
        exact this
      have hhi : f * f' < 2 ^ 128 := by
        have h5 := Nat.mul_lt_mul_of_lt_of_le h2 (Nat.le_of_lt h2') (by decide)
        rw [← Nat.pow_add] at h5
        exact h5
      have hw1 : wrap64 (s + s') = s + s' := by unfold wrap64; omega
      have hw2 : wrap64 (s + s' - 126) = s + s' - 126 := by unfold wrap64; omega
      obtain ⟨t, ht, hS⟩ := make_val hlo hhi (n != n') (e := s + s' - 126) (u := u) (by omega) (by omega) (by omega) k
      refine ⟨t, ?_, hS⟩
      show (if (1 : Int) = 2 then _ else prod_Exact.j1 (k + 3) false 1 n s (f : Int) 1 n' s' (f' : Int)) = _
      rw [if_neg (by decide), show k + 3 = (k + 2) + 1 from rfl, prod_Exact.j1, if_neg (by decide), if_neg (by decide), show ((1 : Int) == 0) = false from rfl, show k + 2 = (k + 1) + 1 from rfl, prod_Exact.j2, if_neg (by decide),
        mul_words h2 h2', Option.bind_some]
      simp only
      rw [hw1, hw2, ht, Option.bind_some]
end Go.Proofs.Ytnlbfomlfhigcaa.M
namespace Go.Proofs.Ytnlbfomlfhigcaa.M
open Go.RowKit Go.Proofs.YtnlbfomlfhigcaaW.PrintWords Go.Proofs.YtnlbfomlfhigcaaW.PrintLast Go.Proofs.YtnlbfomlfhigcaaW.PrintMore Go.Proofs.Ytnlbfomlfhigcaa.Q
theorem knd_zero (n : Nat) : knd n 0 = 0 := by
  unfold knd
  rw [if_pos rfl]
theorem knd_nar (n : Nat) : knd n (2 ^ (n - 1)) = 2 := by
  have := pow_pos (n - 1)
  unfold knd
  rw [if_neg (by omega), if_pos rfl]
theorem Means.uniq {n y : Nat} (hn : Wd n) {m m' : Mn} (h : Means n y m) (h' : Means n y m') : m = m' := by
  have hp := pow_pos (n - 1)
  cases m with
  | zero =>
    obtain rfl : y = 0 := h
    cases m' with
    | zero => rfl
    | nar => exact absurd (show 0 = 2 ^ (n - 1) from h') (by omega)
    | real n' s' f' => exact absurd h'.1 (by rw [knd_zero]; decide)
  | nar =>
    obtain rfl : y = 2 ^ (n - 1) := h
    cases m' with
    | zero => exact absurd (show 2 ^ (n - 1) = 0 from h') (by omega)
    | nar => rfl
    | real n' s' f' => exact absurd h'.1 (by rw [knd_nar]; decide)
  | real g s f =>
    cases m' with
    | zero =>
      obtain rfl : y = 0 := h'
      exact absurd h.1 (by rw [knd_zero]; decide)
    | nar =>
      obtain rfl : y = 2 ^ (n - 1) := h'
      exact absurd h.1 (by rw [knd_nar]; decide)
    | real g' s' f' =>
      obtain ⟨_, rfl, hd⟩ := h
      obtain ⟨_, rfl, hd'⟩ := h'
      obtain ⟨rfl, rfl⟩ := hd.uniq hn hd'
      rfl
theorem decode_of {n p : Nat} (hn : Wd n) (hp : p < 2 ^ 64) {m : Mn} (h : Means n (p % 2 ^ n) m) (k : Nat) : codec_Decode.f (k + 8) (n : Int) (p : Int) = some (m.k, m.n, m.s, (m.f : Int), none) := by
  obtain ⟨m', h1, h2⟩ := decodes hn hp
  rw [h.uniq hn h1]
  exact h2 k
def Mn.neg : Mn → Mn
  | .real g s f => .real (!g) s f
  | m => m
theorem Means.neg {n y : Nat} (hn : Wd n) (hy : y < 2 ^ n) {m : Mn} (h : Means n y m) : Means n ((2 ^ n - y) % 2 ^ n) m.neg := by
  have e2 := two_half hn
  cases m with
  | zero =>
    obtain rfl : y = 0 := h
    show (2 ^ n - 0) % 2 ^ n = 0
    rw [Nat.sub_zero, Nat.mod_self]
  | nar =>
    obtain rfl : y = 2 ^ (n - 1) := h
    show (2 ^ n - 2 ^ (n - 1)) % 2 ^ n = 2 ^ (n - 1)
    rw [Nat.mod_eq_of_lt (by omega)]
    omega
  | real g s f =>
    obtain ⟨h1, rfl, hd⟩ := h
    have h3 : y ≠ 0 ∧ y ≠ 2 ^ (n - 1) := by
      unfold knd at h1
      by_cases c1 : y = 0
      · rw [if_pos c1] at h1
        omega
      · rw [if_neg c1] at h1
        by_cases c2 : y = 2 ^ (n - 1)
        · rw [if_pos c2] at h1
          omega
        · exact ⟨c1, c2⟩
    rw [Nat.mod_eq_of_lt (by omega)]
    have hm : mag n (2 ^ n - y) = mag n y := by
      unfold mag
      by_cases c : 2 ^ (n - 1) ≤ y
      · rw [if_pos c, if_neg (by omega)]
      · rw [if_neg c, if_pos (by omega)]
        omega
    refine ⟨?_, ?_, by rw [hm]; exact hd⟩
    · unfold knd
      rw [if_neg (by omega), if_neg (by omega)]
    · unfold sgn
      rw [← decide_not]
      exact decide_eq_decide.mpr (by omega)
theorem hi_lt {j N c : Nat} (h : Hi j N) (hc : N < 2 ^ c) : j < c := (Nat.pow_lt_pow_iff_right (show 1 < 2 by decide)).1 (Nat.lt_of_le_of_lt h.1 hc)
theorem v_bd {B : Nat} (hB : B = 1249) {w y : Nat} (hw : Wd w) {m : Mn} (h : Means w y m) {Z : Int} (hZ : m.v (-1000) = some Z) : Z.natAbs < 2 ^ B := by
  have hb := hw.bd
  cases m with
  | zero =>
    obtain rfl : 0 = Z := Option.some.inj hZ
    exact pow_pos B
  | nar => cases hZ
  | real g s f =>
    obtain ⟨h1, h2, h3, h4⟩ := h.bd
    obtain rfl : vl (-1000) g s (f * 2 ^ 64) = Z := Option.some.inj hZ
    unfold vl
    rw [sv_abs]
    have e1 : f * 2 ^ 64 < 2 ^ 128 := by omega
    have e2 := Nat.mul_lt_mul_of_pos_right e1 (pow_pos (s - 127 - -1000).toNat)
    rw [← Nat.pow_add] at e2
    exact Nat.lt_of_lt_of_le e2 (pow_le (by omega))
theorem add_mn {n a b : Nat} (hn : Wd n) (ha : a < 2 ^ 64) (hb : b < 2 ^ 64) {m m' : Mn} (h : Means n (a % 2 ^ n) m) (h' : Means n (b % 2 ^ n) m') (k : Nat) :
    sum_Add.f (k + 100) (n : Int) (a : Int) (b : Int) = some (((RZ n (-1000) (oadd (m.v (-1000)) (m'.v (-1000))) : Nat) : Int), none) := by
  have hX := sum_mn hn hn h h' (u := -1000) (by omega) (k + 94)
  obtain ⟨B, hB⟩ : ∃ B : Nat, B = 1249 := ⟨_, rfl⟩
  obtain ⟨t, ht, hr⟩ := round_xout hn hX (by
    intro Z j hZ hj
    have hZb : Z.natAbs < 2 ^ (B + 1) := by
      cases hv : m.v (-1000) with
      | none => rw [hv] at hZ; cases hZ
      | some z =>
        cases hv' : m'.v (-1000) with
        | none => rw [hv, hv'] at hZ; cases hZ
        | some z' =>
          rw [hv, hv'] at hZ
          obtain rfl : z + z' = Z := Option.some.inj hZ
          have g1 := v_bd hB hn h hv
          have g2 := v_bd hB hn h' hv'
          rw [Nat.pow_succ]
          generalize 2 ^ B = p at *
          omega
    have := hi_lt hj hZb
    omega) (k + 20)
  unfold sum_Add.f
  rw [show k + 100 = (k + 92) + 8 from rfl, decode_of hn ha h, Option.bind_some]
  simp only [Option.isNone_none, if_true]
  rw [decode_of hn hb h', Option.bind_some]
  unfold sum_Exact.f
  simp only
  rw [show k + 92 + 8 = (k + 99) + 1 from rfl, mn_of hn h (k + 99), Option.bind_some]
  simp only [Option.isNone_none, if_true]
  rw [mn_of hn h' (k + 99), Option.bind_some]
  simp only [Option.isNone_none, if_true]
  rw [show k + 99 + 1 = (k + 94) + 6 from rfl, ht, Option.bind_some, Option.bind_some]
  simp only [Option.isNone_none, if_true]
  rw [show k + 94 + 6 = (k + 20) + 80 from rfl, hr, Option.bind_some]
theorem mul_bd {B : Nat} (hB : B = 1498) {w y w' y' : Nat} (hw : Wd w) (hw' : Wd w') {m m' : Mn} (h : Means w y m) (h' : Means w' y' m') {Z : Int} (hZ : omul (-1000) m m' = some Z) : Z.natAbs < 2 ^ B := by
  have hb := hw.bd
  have hb' := hw'.bd
  have zz : (0 : Int).natAbs < 2 ^ B := pow_pos B
  cases m with
  | nar => cases hZ
  | zero =>
    cases m' with
    | nar => cases hZ
    | zero =>
      obtain rfl : 0 = Z := Option.some.inj hZ
      exact zz
    | real n' s' f' =>
      obtain rfl : 0 = Z := Option.some.inj hZ
      exact zz
  | real n s f =>
    cases m' with
    | nar => cases hZ
    | zero =>
      obtain rfl : 0 = Z := Option.some.inj hZ
      exact zz
    | real n' s' f' =>
      obtain ⟨h1, h2, h3, h4⟩ := h.bd
      obtain ⟨h1', h2', h3', h4'⟩ := h'.bd
      obtain rfl := Option.some.inj hZ
      rw [sv_abs]
      have h5 := Nat.mul_lt_mul_of_lt_of_le h2 (Nat.le_of_lt h2') (by decide)
      rw [← Nat.pow_add] at h5
      have e2 := Nat.mul_lt_mul_of_pos_right h5 (pow_pos (s + s' - 126 - -1000).toNat)
      rw [← Nat.pow_add] at e2
      exact Nat.lt_of_lt_of_le e2 (pow_le (by omega))
theorem RZ_lt {n : Nat} (hn : Wd n) (u : Int) (κ : Option Int) : RZ n u κ < 2 ^ n := by
  have e2 := two_half hn
  have hp := pow_pos (n - 1)
  cases κ with
  | none =>
    show 2 ^ (n - 1) < 2 ^ n
    omega
  | some Z =>
    by_cases h : Z = 0
    · rw [h, RZ_zero]
      omega
    · rw [RZ_some h]
      have hN : Z.natAbs ≠ 0 := by omega
      have hb := tF_bd (j := Nat.log2 Z.natAbs) (N := Z.natAbs) ⟨Nat.log2_self_le hN, Nat.lt_log2_self⟩
      have hr := rpos_bd hn (u + (Nat.log2 Z.natAbs : Int)) (tB (Nat.log2 Z.natAbs) Z.natAbs) hb.2
      exact sg_lt hn _ hr.1 (by omega)
end Go.Proofs.Ytnlbfomlfhigcaa.M
namespace Go.Proofs.Ytnlbfomlfhigcaa.M
open Go.RowKit Go.Proofs.YtnlbfomlfhigcaaW.PrintWords Go.Proofs.YtnlbfomlfhigcaaW.PrintLast Go.Proofs.YtnlbfomlfhigcaaW.PrintMore Go.Proofs.Ytnlbfomlfhigcaa.Q
def qS (s s' : Int) (f f' : Nat) : Int := if f' ≤ f then s - s' else s - s' - 1
def qX (f f' : Nat) : Nat := if f' ≤ f then f * 2 ^ 63 else f * 2 ^ 64
def DQ (n : Nat) : Mn → Mn → Nat
  | .nar, _ => 2 ^ (n - 1)
  | .zero, .real _ _ _ => 0
  | .real g s f, .real g' s' f' => sg n (g != g') (rpos n (qS s s' f f') (qX f f' / f' * 2 ^ 64) (decide (qX f f' % f' > 0)))
  | _, _ => 2 ^ (n - 1)
theorem qX_bd {f f' : Nat} (h1 : 2 ^ 63 ≤ f) (h2 : f < 2 ^ 64) (h1' : 2 ^ 63 ≤ f') (h2' : f' < 2 ^ 64) : 2 ^ 63 ≤ qX f f' / f' ∧ qX f f' / f' < 2 ^ 64 := by
  unfold qX
  by_cases c : f' ≤ f
  · rw [if_pos c]
    refine ⟨?_, ?_⟩
    · rw [Nat.le_div_iff_mul_le (by omega), Nat.mul_comm]
      exact Nat.mul_le_mul_right _ c
    · rw [Nat.div_lt_iff_lt_mul (by omega)]
      omega
  · rw [if_neg c]
    refine ⟨?_, ?_⟩
    · rw [Nat.le_div_iff_mul_le (by omega)]
      omega
    · rw [Nat.div_lt_iff_lt_mul (by omega), Nat.mul_comm (2 ^ 64)]
      exact Nat.mul_lt_mul_of_pos_right (by omega) (by decide)
theorem quot_j2 {f f' : Nat} (h1 : 2 ^ 63 ≤ f) (h2 : f < 2 ^ 64) (h1' : 2 ^ 63 ≤ f') (h2' : f' < 2 ^ 64) (g g' : Bool) (s s' : Int) (b1 : -1000 ≤ s) (b2 : s ≤ 1000) (b3 : -1000 ≤ s') (b4 : s' ≤ 1000) (k : Nat) :
    quot_Exact.j1 (k + 22) false 1 g s (f : Int) 1 g' s' (f' : Int) = some (1, (g != g'), qS s s' f f', ((qX f f' / f' : Nat) : Int), 0, decide (qX f f' % f' > 0), none) := by
  have hw1 : wrap64 (wrap64 (s - s') - 1) = s - s' - 1 := by unfold wrap64; omega
  have hw2 : wrap64 (s - s' - 1 + 1) = s - s' := by unfold wrap64; omega
  have hdec : ∀ r : Nat, decide ((r : Int) > 0) = decide (r > 0) := fun r => decide_eq_decide.mpr (by omega)
  unfold qS qX
  rw [show k + 22 = (k + 21) + 1 from rfl, quot_Exact.j1, if_neg (by decide), if_neg (by decide), hw1]
  by_cases c : f' ≤ f
  · have c' : (f : Int) ≥ (f' : Int) := by omega
    have e1 : (f : Int) / 2 = ((f / 2 : Nat) : Int) := rfl
    have e2 : IntKind.u64.wrap ((f : Int) * 9223372036854775808) = ((f % 2 * 2 ^ 63 : Nat) : Int) := by rw [u64w]; omega
    have hp := part_div (hi := f / 2) (lo := f % 2 * 2 ^ 63) h1' h2' (by omega) (by omega) (by omega) (k + 0)
    have e3 : f / 2 * 2 ^ 64 + f % 2 * 2 ^ 63 = f * 2 ^ 63 := by omega
    rw [e3] at hp
    rw [if_pos c', hw2, e1, e2, if_pos c, if_pos c, show k + 21 = (k + 20) + 1 from rfl, quot_Exact.j2]
    have hp' : part_Div.f (k + 20) ((f / 2 : Nat) : Int) ((f % 2 * 2 ^ 63 : Nat) : Int) (f' : Int) = _ := hp
    rw [hp', Option.bind_some]
    simp only
    rw [hdec]
  · have c' : ¬ (f : Int) ≥ (f' : Int) := by omega
    have hp := part_div (hi := f) (lo := 0) h1' h2' (by omega) (by omega) (by decide) (k + 0)
    rw [Nat.add_zero (f * 2 ^ 64)] at hp
    rw [if_neg c', if_neg c, if_neg c, show k + 21 = (k + 20) + 1 from rfl, quot_Exact.j2]
    have hp' : part_Div.f (k + 20) (f : Int) 0 (f' : Int) = _ := hp
    rw [hp', Option.bind_some]
    simp only
    rw [hdec]
theorem quot_mn {n a b : Nat} (hn : Wd n) (ha : a < 2 ^ 64) (hb : b < 2 ^ 64) {m m' : Mn} (h : Means n (a % 2 ^ n) m) (h' : Means n (b % 2 ^ n) m') (k : Nat) :
    quot_Div.f (k + 100) (n : Int) (a : Int) (b : Int) = some (((DQ n m m' : Nat) : Int), none) := by
  have hbd := hn.bd
  have hloop : quot_Exact.f (k + 100) m.k m.n m.s (m.f : Int) m'.k m'.n m'.s (m'.f : Int) =
      (if m.k = 2 then quot_Exact.j1 (k + 97) (m.k == 2) m.k m.n m.s (m.f : Int) m'.k m'.n m'.s (m'.f : Int) else quot_Exact.j1 (k + 97) (m'.k != 1) m.k m.n m.s (m.f : Int) m'.k m'.n m'.s (m'.f : Int)) := by
    have q0 : rd_T103 [⟨m.k, m.n, m.s, (m.f : Int)⟩, ⟨m'.k, m'.n, m'.s, (m'.f : Int)⟩] 0 = ⟨m.k, m.n, m.s, (m.f : Int)⟩ := rfl
    have q1 : rd_T103 [⟨m.k, m.n, m.s, (m.f : Int)⟩, ⟨m'.k, m'.n, m'.s, (m'.f : Int)⟩] 1 = ⟨m'.k, m'.n, m'.s, (m'.f : Int)⟩ := rfl
    have w1 : wrap64 (0 + 1) = 1 := by unfold wrap64; omega
    have w2 : wrap64 (1 + 1) = 2 := by unfold wrap64; omega
    have len : (([⟨m.k, m.n, m.s, (m.f : Int)⟩, ⟨m'.k, m'.n, m'.s, (m'.f : Int)⟩] : List S103).length : Int) = 2 := rfl
    unfold quot_Exact.f
    rw [Option.bind_some, len, show k + 100 = (k + 99) + 1 from rfl, quot_Exact.l0, if_pos (by decide), if_pos (by decide), if_pos (by rw [len]; decide), q0]
    simp only
    rw [show k + 99 = (k + 98) + 1 from rfl, mn_of hn h (k + 98), Option.bind_some]
    simp only [Option.isNone_none, if_true]
    rw [w1, quot_Exact.l0, if_pos (by decide), if_pos (by decide), if_pos (by rw [len]; decide), q1]
    simp only
    rw [show k + 98 = (k + 97) + 1 from rfl, mn_of hn h' (k + 97), Option.bind_some]
    simp only [Option.isNone_none, if_true]
    rw [w2, quot_Exact.l0, if_neg (by decide)]

  have key : ∃ t : Int × Bool × Int × Int × Int × Bool, quot_Exact.f (k + 100) m.k m.n m.s (m.f : Int) m'.k m'.n m'.s (m'.f : Int) = some (t.1, t.2.1, t.2.2.1, t.2.2.2.1, t.2.2.2.2.1, t.2.2.2.2.2, none) ∧
      round_Round.f (k + 100) (n : Int) t.1 t.2.1 t.2.2.1 t.2.2.2.1 t.2.2.2.2.1 t.2.2.2.2.2 = some (((DQ n m m' : Nat) : Int), none) := by
    rw [hloop]
    have nar : ∀ (K : Int) (x : Bool) (a b c : Int) (d e f : _), quot_Exact.j1 (k + 97) true K x a b c d e f = some (2, false, 0, 0, 0, false, none) := by
      intro K x a b c d e f
      rw [show k + 97 = (k + 96) + 1 from rfl, quot_Exact.j1, if_pos rfl]
    cases m with
    | nar => exact ⟨(2, false, 0, 0, 0, false), by rw [if_pos (show Mn.nar.k = 2 from rfl)]; exact nar _ _ _ _ _ _ _ _, round_nar hn (k + 99)⟩
    | zero =>
      cases m' with
      | nar => exact ⟨(2, false, 0, 0, 0, false), by rw [if_neg (show ¬ Mn.zero.k = 2 by decide)]; exact nar _ _ _ _ _ _ _ _, round_nar hn (k + 99)⟩
      | zero => exact ⟨(2, false, 0, 0, 0, false), by rw [if_neg (show ¬ Mn.zero.k = 2 by decide)]; exact nar _ _ _ _ _ _ _ _, round_nar hn (k + 99)⟩
      | real g' s' f' =>
        refine ⟨(0, false, 0, 0, 0, false), ?_, round_zero hn (k + 99)⟩
        show (if (0 : Int) = 2 then _ else quot_Exact.j1 (k + 97) false 0 _ _ _ 1 _ _ _) = _
        rw [if_neg (by decide), show k + 97 = (k + 96) + 1 from rfl, quot_Exact.j1, if_neg (by decide), if_pos rfl]
    | real g s f =>
      cases m' with
      | nar => exact ⟨(2, false, 0, 0, 0, false), by rw [if_neg (show ¬ (Mn.real g s f).k = 2 by show ¬ (1 : Int) = 2; decide)]; exact nar _ _ _ _ _ _ _ _, round_nar hn (k + 99)⟩
      | zero => exact ⟨(2, false, 0, 0, 0, false), by rw [if_neg (show ¬ (Mn.real g s f).k = 2 by show ¬ (1 : Int) = 2; decide)]; exact nar _ _ _ _ _ _ _ _, round_nar hn (k + 99)⟩
      | real g' s' f' =>
        obtain ⟨h1, h2, h3, h4⟩ := h.bd
        obtain ⟨h1', h2', h3', h4'⟩ := h'.bd
        have hj := quot_j2 h1 h2 h1' h2' g g' s s' (by omega) (by omega) (by omega) (by omega) (k + 75)
        obtain ⟨q1, q2⟩ := qX_bd h1 h2 h1' h2'
        refine ⟨(1, (g != g'), qS s s' f f', ((qX f f' / f' : Nat) : Int), 0, decide (qX f f' % f' > 0)), ?_, ?_⟩
        · show (if (1 : Int) = 2 then _ else quot_Exact.j1 (k + 97) false 1 g s (f : Int) 1 g' s' (f' : Int)) = _
          rw [if_neg (by decide)]
          exact hj
        · have hs : -1099511627776 ≤ qS s s' f f' ∧ qS s s' f f' ≤ 1099511627776 := by
            unfold qS
            split <;> omega
          have hr := round_real hn (g != g') (decide (qX f f' % f' > 0)) (s := qS s s' f f') (l := 0) q1 q2 (by decide) hs.1 hs.2 (k + 20)
          rw [Nat.add_zero (qX f f' / f' * 2 ^ 64)] at hr
          exact hr
  obtain ⟨t, t1, t2⟩ := key
  unfold quot_Div.f
  have d1 : codec_Decode.f (k + 100) (n : Int) (a : Int) = _ := decode_of hn ha h (k + 92)
  have d2 : codec_Decode.f (k + 100) (n : Int) (b : Int) = _ := decode_of hn hb h' (k + 92)
  rw [d1, Option.bind_some]
  simp only [Option.isNone_none, if_true]
  rw [d2, Option.bind_some]
  simp only
  rw [t1, Option.bind_some]
  simp only [Option.isNone_none, if_true]
  rw [t2, Option.bind_some]
theorem lin_le {a b p : Nat} (h : a ≤ b) : a * p ≤ b * p := Nat.mul_le_mul_right _ h
theorem qX_le {f f₂ f' : Nat} (s s₂ s' : Int) (h2 : f < 2 ^ 64) (h1₂ : 2 ^ 63 ≤ f₂) (h : s < s₂ ∨ (s = s₂ ∧ f ≤ f₂)) :
    qS s s' f f' < qS s₂ s' f₂ f' ∨ (qS s s' f f' = qS s₂ s' f₂ f' ∧ qX f f' ≤ qX f₂ f') := by
  have e64 : (2 : Nat) ^ 64 = 2 * 2 ^ 63 := by decide
  unfold qS qX
  rw [e64] at h2 ⊢
  generalize (2 : Nat) ^ 63 = p at h2 h1₂ ⊢
  by_cases c : f' ≤ f
  · rw [if_pos c, if_pos c]
    by_cases c2 : f' ≤ f₂
    · rw [if_pos c2, if_pos c2]
      rcases h with h | ⟨h, h'⟩
      · exact .inl (by omega)
      · exact .inr ⟨by omega, lin_le h'⟩
    · rw [if_neg c2, if_neg c2]
      rcases h with h | ⟨_, h'⟩
      · by_cases z : s - s' = s₂ - s' - 1
        · exact .inr ⟨z, Nat.le_trans (lin_le (Nat.le_of_lt h2)) (by rw [Nat.mul_comm]; exact Nat.mul_le_mul h1₂ (Nat.le_refl _))⟩
        · exact .inl (by omega)
      · exact absurd (Nat.le_trans c h') c2
  · rw [if_neg c, if_neg c]
    by_cases c2 : f' ≤ f₂
    · rw [if_pos c2, if_pos c2]
      exact .inl (by omega)
    · rw [if_neg c2, if_neg c2]
      rcases h with h | ⟨h, h'⟩
      · exact .inl (by omega)
      · exact .inr ⟨by omega, lin_le h'⟩
theorem qr_le {X Y f' : Nat} (k2 : X ≤ Y) : 2 * (X / f' * 2 ^ 64) + (decide (X % f' > 0)).toNat ≤ 2 * (Y / f' * 2 ^ 64) + (decide (Y % f' > 0)).toNat := by
  have e1 := Nat.div_add_mod X f'
  have e2 := Nat.div_add_mod Y f'
  have h3 : X / f' ≤ Y / f' := Nat.div_le_div_right k2
  have t1 := Bool.toNat_le (decide (X % f' > 0))
  by_cases e : X / f' = Y / f'
  · rw [e] at e1 ⊢
    generalize f' * (Y / f') = q at e1 e2
    by_cases z : X % f' = 0
    · rw [z, decide_eq_false (by omega)]
      exact Nat.add_le_add_left (Nat.zero_le _) _
    · rw [decide_eq_true (show X % f' > 0 by omega), decide_eq_true (show Y % f' > 0 by omega)]
      exact Nat.le_refl _
  · have h4 : X / f' + 1 ≤ Y / f' := by omega
    have h5 := Nat.mul_le_mul_right (2 ^ 64) h4
    rw [Nat.add_mul, Nat.one_mul] at h5
    have h6 : (1 : Nat) ≤ 2 ^ 64 := by decide
    generalize (2 : Nat) ^ 64 = p at *
    generalize X / f' * p = u at *
    generalize Y / f' * p = w at *
    omega
theorem quot_mono {s s₂ s' : Int} {f f₂ f' : Nat} (h2 : f < 2 ^ 64) (h1₂ : 2 ^ 63 ≤ f₂) (h : s < s₂ ∨ (s = s₂ ∧ f ≤ f₂)) :
    leq (qS s s' f f') (qX f f' / f' * 2 ^ 64) (decide (qX f f' % f' > 0)) (qS s₂ s' f₂ f') (qX f₂ f' / f' * 2 ^ 64) (decide (qX f₂ f' % f' > 0)) := by
  unfold leq
  rcases qX_le s s₂ s' h2 h1₂ h with k1 | ⟨k1, k2⟩
  · exact .inl k1
  · exact .inr ⟨k1, qr_le k2⟩
end Go.Proofs.Ytnlbfomlfhigcaa.M
namespace Go.Proofs.Ytnlbfomlfhigcaa.M
open Go.RowKit Go.Proofs.YtnlbfomlfhigcaaW.PrintWords Go.Proofs.YtnlbfomlfhigcaaW.PrintLast Go.Proofs.YtnlbfomlfhigcaaW.PrintMore Go.Proofs.Ytnlbfomlfhigcaa.Q
def tv (P : Int → Nat → Nat) : Mn → Int
  | .real g s f => sv g (P s f)
  | _ => 0
theorem rk_zero (n : Nat) : rk n 0 = 0 := by
  unfold rk
  rw [if_pos (show 0 < 2 ^ (n - 1) from pow_pos _)]
  rfl
theorem rk_sg {n : Nat} (hn : Wd n) (g : Bool) {p : Nat} (_ : 1 ≤ p) (h2 : p < 2 ^ (n - 1)) : rk n (sg n g p) = sv g p := by
  have e := two_half hn
  unfold rk sv sg
  rw [e]
  generalize 2 ^ (n - 1) = h at *
  cases g
  · simp only [Bool.false_eq_true, if_false]
    rw [if_pos h2]
  · simp only [if_true]
    rw [if_neg (by omega)]
    omega
theorem rk_real {n y : Nat} (hn : Wd n) (hy : y < 2 ^ n) {g : Bool} {s : Int} {f : Nat} (h : Means n y (.real g s f)) : rk n y = sv g (mag n y) := by
  obtain ⟨h1, h2, _⟩ := h
  obtain ⟨m1, m2⟩ := mag_bd hn hy h1
  have := rk_sg hn g m1 m2
  rw [h2, sg_mag hy, ← h2] at this
  exact this
theorem sv_le {g g' : Bool} {a b : Nat} (h : match g, g' with | false, false => a ≤ b | true, true => b ≤ a | true, false => True | false, true => False) : sv g a ≤ sv g' b := by
  unfold sv
  cases g <;> cases g' <;> simp only at h ⊢ <;> simp only [if_true, Bool.false_eq_true, if_false] <;> omega
theorem tv_mono {n y z : Nat} (hn : Wd n) (hy : y < 2 ^ n) (hz : z < 2 ^ n) {m m' : Mn} (h : Means n y m) (h' : Means n z m') (e : m ≠ .nar) (e' : m' ≠ .nar) (P : Int → Nat → Nat)
    (hP : ∀ s f s' f', 2 ^ 63 ≤ f → f < 2 ^ 64 → 2 ^ 63 ≤ f' → f' < 2 ^ 64 → 8 - 4 * (n : Int) ≤ s → s ≤ 4 * (n : Int) - 8 → 8 - 4 * (n : Int) ≤ s' → s' ≤ 4 * (n : Int) - 8 → (s < s' ∨ (s = s' ∧ f ≤ f')) → P s f ≤ P s' f')
    (hr : rk n y ≤ rk n z) : tv P m ≤ tv P m' := by
  cases m with
  | nar => exact absurd rfl e
  | zero =>
    obtain rfl : y = 0 := h
    rw [rk_zero] at hr
    cases m' with
    | nar => exact absurd rfl e'
    | zero => exact Int.le_refl _
    | real g' s' f' =>
      rw [rk_real hn hz h'] at hr
      have m1 := (mag_bd hn hz h'.1).1
      show 0 ≤ sv g' _
      unfold sv at hr ⊢
      cases g'
      · rw [if_neg (by decide)]
        omega
      · rw [if_pos rfl] at hr
        omega
  | real g s f =>
    rw [rk_real hn hy h] at hr
    obtain ⟨m1, m2⟩ := mag_bd hn hy h.1
    have b1 := h.bd
    have d1 := h.2.2
    cases m' with
    | nar => exact absurd rfl e'
    | zero =>
      obtain rfl : z = 0 := h'
      rw [rk_zero] at hr
      show sv g _ ≤ 0
      unfold sv at hr ⊢
      cases g
      · rw [if_neg (by decide)] at hr
        omega
      · rw [if_pos rfl]
        omega
    | real g' s' f' =>
      rw [rk_real hn hz h'] at hr
      obtain ⟨n1, n2⟩ := mag_bd hn hz h'.1
      have b2 := h'.bd
      have d2 := h'.2.2
      refine sv_le ?_
      unfold sv at hr
      cases g <;> cases g' <;> simp only [if_true, Bool.false_eq_true, if_false] at hr ⊢
      · exact hP s f s' f' b1.1 b1.2.1 b2.1 b2.2.1 b1.2.2.1 b1.2.2.2 b2.2.2.1 b2.2.2.2 (d1.lt hn d2 (by omega))
      · omega
      · exact hP s' f' s f b2.1 b2.2.1 b1.1 b1.2.1 b2.2.2.1 b2.2.2.2 b1.2.2.1 b1.2.2.2 (d2.lt hn d1 (by omega))
def Pv (u : Int) (s : Int) (f : Nat) : Nat := f * 2 ^ 64 * 2 ^ (s - 127 - u).toNat
theorem v_tv {u : Int} {m : Mn} (h : m ≠ .nar) : m.v u = some (tv (Pv u) m) := by
  cases m with
  | nar => exact absurd rfl h
  | zero => rfl
  | real g s f => rfl
theorem pv_step {f f' i d : Nat} (h2 : f < 2 ^ 64) (h1' : 2 ^ 63 ≤ f') : f * 2 ^ 64 * 2 ^ i ≤ f' * 2 ^ 64 * 2 ^ (i + 1 + d) := by
  have e : f ≤ f' * 2 := by omega
  have g3 : 1 ≤ 2 ^ d := pow_pos d
  rw [show 2 ^ (i + 1 + d) = 2 ^ i * 2 * 2 ^ d by rw [Nat.pow_add, Nat.pow_succ]]
  generalize (2 : Nat) ^ 64 = w
  generalize 2 ^ i = p
  generalize 2 ^ d = q at *
  have g1 := Nat.mul_le_mul_right p (Nat.mul_le_mul_right w e)
  have g4 := Nat.mul_le_mul_left (f' * 2 * w * p) g3
  rw [Nat.mul_one] at g4
  have g5 : f' * w * (p * 2 * q) = f' * 2 * w * p * q := by
    rw [← Nat.mul_assoc, Nat.mul_comm p 2, ← Nat.mul_assoc, Nat.mul_assoc f' w 2, Nat.mul_comm w 2, Nat.mul_assoc f' 2 w]
  rw [g5]
  exact Nat.le_trans g1 g4
theorem Pv_mono {n : Nat} (hn : Wd n) {u : Int} (hu : u ≤ -1000) (s : Int) (f : Nat) (s' : Int) (f' : Nat) (_ : 2 ^ 63 ≤ f) (h2 : f < 2 ^ 64) (h1' : 2 ^ 63 ≤ f') (_ : f' < 2 ^ 64) (h3 : 8 - 4 * (n : Int) ≤ s) (_ : s ≤ 4 * (n : Int) - 8) (_ : 8 - 4 * (n : Int) ≤ s') (_ : s' ≤ 4 * (n : Int) - 8)
    (h : s < s' ∨ (s = s' ∧ f ≤ f')) : Pv u s f ≤ Pv u s' f' := by
  have hb := hn.bd
  unfold Pv
  rcases h with h | ⟨rfl, h⟩
  · obtain ⟨d, hd⟩ : ∃ d, (s' - 127 - u).toNat = (s - 127 - u).toNat + 1 + d := ⟨(s' - 127 - u).toNat - (s - 127 - u).toNat - 1, by omega⟩
    rw [hd]
    generalize (s - 127 - u).toNat = i
    exact pv_step h2 h1'
  · exact Nat.mul_le_mul_right _ (Nat.mul_le_mul_right _ h)
theorem RZ_mono {n : Nat} (hn : Wd n) {u Z W : Int} (h : Z ≤ W) : rk n (RZ n u (some Z)) ≤ rk n (RZ n u (some W)) := by
  have hsg : ∀ X : Int, X ≠ 0 → ∃ p : Nat, 1 ≤ p ∧ p < 2 ^ (n - 1) ∧ p = rpos n (u + (Nat.log2 X.natAbs : Int)) (tF (Nat.log2 X.natAbs) X.natAbs) (tB (Nat.log2 X.natAbs) X.natAbs) ∧ rk n (RZ n u (some X)) = sv (decide (X < 0)) p := by
    intro X hX
    have hN : X.natAbs ≠ 0 := by omega
    have hb := tF_bd (j := Nat.log2 X.natAbs) (N := X.natAbs) ⟨Nat.log2_self_le hN, Nat.lt_log2_self⟩
    have hr := rpos_bd hn (u + (Nat.log2 X.natAbs : Int)) (tB (Nat.log2 X.natAbs) X.natAbs) hb.2
    have hp := pow_pos (n - 1)
    refine ⟨_, hr.1, by omega, rfl, ?_⟩
    rw [RZ_some hX]
    exact rk_sg hn _ hr.1 (by omega)
  have hmono : ∀ X Y : Int, X ≠ 0 → X.natAbs ≤ Y.natAbs → rpos n (u + (Nat.log2 X.natAbs : Int)) (tF (Nat.log2 X.natAbs) X.natAbs) (tB (Nat.log2 X.natAbs) X.natAbs) ≤ rpos n (u + (Nat.log2 Y.natAbs : Int)) (tF (Nat.log2 Y.natAbs) Y.natAbs) (tB (Nat.log2 Y.natAbs) Y.natAbs) := by
    intro X Y hX hle
    have hN : X.natAbs ≠ 0 := by omega
    have hM : Y.natAbs ≠ 0 := by omega
    have i1 : Hi (Nat.log2 X.natAbs) X.natAbs := ⟨Nat.log2_self_le hN, Nat.lt_log2_self⟩
    have i2 : Hi (Nat.log2 Y.natAbs) Y.natAbs := ⟨Nat.log2_self_le hM, Nat.lt_log2_self⟩
    have b1 := tF_bd i1
    have b2 := tF_bd i2
    refine rpos_mono hn b1.1 b1.2 b2.1 b2.2 ?_
    rcases top_mono i1 i2 hle with c | ⟨c1, c2⟩
    · exact .inl (by omega)
    · exact .inr ⟨by omega, c2⟩
  by_cases z1 : Z = 0
  · by_cases z2 : W = 0
    · rw [z1, z2]
      exact Int.le_refl _
    · obtain ⟨p, p1, _, _, p4⟩ := hsg W z2
      rw [p4, z1, RZ_zero, rk_zero, decide_eq_false (by omega)]
      unfold sv
      rw [if_neg (by decide)]
      omega
  · obtain ⟨p, p1, _, p3, p4⟩ := hsg Z z1
    by_cases z2 : W = 0
    · rw [p4, z2, RZ_zero, rk_zero, decide_eq_true (by omega)]
      unfold sv
      rw [if_pos rfl]
      omega
    · obtain ⟨q, q1, _, q3, q4⟩ := hsg W z2
      rw [p4, q4]
      refine sv_le ?_
      by_cases c1 : Z < 0
      · by_cases c2 : W < 0
        · rw [decide_eq_true c1, decide_eq_true c2, p3, q3]
          exact hmono W Z z2 (by omega)
        · rw [decide_eq_true c1, decide_eq_false c2]
          exact trivial
      · have c2 : ¬ W < 0 := by omega
        rw [decide_eq_false c1, decide_eq_false c2, p3, q3]
        exact hmono Z W z1 (by omega)
end Go.Proofs.Ytnlbfomlfhigcaa.M
namespace Go.Proofs.Ytnlbfomlfhigcaa.M
open Go.RowKit Go.Proofs.YtnlbfomlfhigcaaW.PrintWords Go.Proofs.YtnlbfomlfhigcaaW.PrintLast Go.Proofs.YtnlbfomlfhigcaaW.PrintMore Go.Proofs.Ytnlbfomlfhigcaa.Q
theorem prod_digits {P e j N : Nat} (hN : N = P * 2 ^ e) (h : Hi j N) (h1 : 2 ^ 126 ≤ P) (h2 : P < 2 ^ 128) (he : 1 ≤ e) : tB j N = false ∧ tF j N * 2 ^ (j - 127) = N ∧ 127 ≤ j ∧ j ≤ e + 127 := by
  subst hN
  have g1 : j < 128 + e := by
    refine (Nat.pow_lt_pow_iff_right (show 1 < 2 by decide)).1 (Nat.lt_of_le_of_lt h.1 ?_)
    rw [Nat.pow_add]
    exact Nat.mul_lt_mul_of_pos_right h2 (pow_pos e)
  have g2 : 126 + e < j + 1 := by
    refine (Nat.pow_lt_pow_iff_right (show 1 < 2 by decide)).1 (Nat.lt_of_le_of_lt ?_ h.2)
    rw [Nat.pow_add]
    exact Nat.mul_le_mul_right _ h1
  have hs : P * 2 ^ e * 2 ^ 127 = P * 2 ^ (e + 127 - j) * 2 ^ j := by
    rw [Nat.mul_assoc, ← Nat.pow_add, Nat.mul_assoc, ← Nat.pow_add, show e + 127 - j + j = e + 127 by omega]
  have hF : tF j (P * 2 ^ e) = P * 2 ^ (e + 127 - j) := by
    unfold tF
    rw [hs, Nat.mul_div_cancel _ (pow_pos j)]
  refine ⟨?_, ?_, by omega, by omega⟩
  · unfold tB
    rw [hs, Nat.mul_mod_left]
    rfl
  · rw [hF, Nat.mul_assoc, ← Nat.pow_add, show e + 127 - j + (j - 127) = e by omega]
theorem sv_self {Z : Int} : sv (decide (Z < 0)) Z.natAbs = Z := by
  unfold sv
  by_cases c : Z < 0
  · rw [if_pos (decide_eq_true c)]
    omega
  · rw [if_neg (by rw [decide_eq_false c]; decide)]
    omega
theorem sum_pm {w y w' y' w'' y'' : Nat} (hw : Wd w) (hw' : Wd w') (hw'' : Wd w'') {m m' mc : Mn} (h : Means w y m) (h' : Means w' y' m') (h'' : Means w'' y'' mc) {u : Int} (hu : u ≤ -1000) (hu2 : -2000 ≤ u)
    {t : Int × Bool × Int × Int × Int × Bool} (ht : Xout u (omul u m m') (some t)) (k : Nat) :
    Xout u (oadd (omul u m m') (mc.v u)) (broad_Sum.f (k + 6) t.1 t.2.1 t.2.2.1 t.2.2.2.1 t.2.2.2.2.1 t.2.2.2.2.2 mc.k mc.n mc.s (mc.f : Int) 0 false) := by
  have hb := hw.bd
  have hb' := hw'.bd
  have hb'' := hw''.bd
  cases hκ : omul u m m' with
  | none =>
    rw [hκ] at ht
    obtain rfl : t = _ := Option.some.inj ht
    exact sum_nar_l (k + 5) _ _ _ _ _ _ _ _ _ _ _
  | some Z =>
    rw [hκ] at ht
    rcases ht with ⟨z0, ht⟩ | ⟨j, hj, ht⟩
    · obtain rfl : t = _ := Option.some.inj ht
      subst z0
      cases mc with
      | nar => exact sum_nar_r (k + 5) _ _ _ _ _ _ _ _ _ _ _ (by decide)
      | zero =>
        refine .inl ⟨rfl, ?_⟩
        exact sum_zero_l (k + 5) _ _ _ _ _ _ (.inl rfl)
      | real g s f =>
        obtain ⟨b1, b2, b3, b4⟩ := h''.bd
        have e := sum_zero_l (k + 5) g s (f : Int) 0 false 1 (.inr rfl)
        show Sout u (0 + vl u g s (f * 2 ^ 64)) (broad_Sum.f (k + 5 + 1) 0 false 0 0 0 false 1 g s (f : Int) 0 false)
        rw [e, Int.zero_add]
        have := sout_self (h := f) (l := 0) (s := s) (u := u) (n := g) b1 b2 (by decide) (by omega) (by omega) (by omega)
        rw [Nat.add_zero (f * 2 ^ 64)] at this
        exact this
    · obtain rfl : t = _ := Option.some.inj ht
      have hZ0 : Z.natAbs ≠ 0 := hj.ne
      cases mc with
      | nar => exact sum_nar_r (k + 5) _ _ _ _ _ _ _ _ _ _ _ (show ¬ (1 : Int) = 2 by decide)
      | zero =>
        have e := sum_zero_r (k + 5) (decide (Z < 0)) (hld (u + (j : Int))) ((tF j Z.natAbs / 2 ^ 64 : Nat) : Int) ((tF j Z.natAbs % 2 ^ 64 : Nat) : Int) (tB j Z.natAbs)
        show Sout u (Z + 0) (broad_Sum.f (k + 5 + 1) 1 _ _ _ _ _ 0 false 0 0 0 false)
        rw [e, Int.add_zero]
        exact .inr ⟨j, hj, rfl⟩
      | real g s f =>
        obtain ⟨b1, b2, b3, b4⟩ := h''.bd

        cases m with
        | nar => cases hκ
        | zero =>
          cases m' with
          | nar => cases hκ
          | zero =>
            obtain rfl : 0 = Z := Option.some.inj hκ
            exact absurd rfl hZ0
          | real g2 s2 f2 =>
            obtain rfl : 0 = Z := Option.some.inj hκ
            exact absurd rfl hZ0
        | real g1 s1 f1 =>
          cases m' with
          | nar => cases hκ
          | zero =>
            obtain rfl : 0 = Z := Option.some.inj hκ
            exact absurd rfl hZ0
          | real g2 s2 f2 =>
            obtain ⟨c1, c2, c3, c4⟩ := h.bd
            obtain ⟨d1, d2, d3, d4⟩ := h'.bd
            have hZ : sv (g1 != g2) (f1 * f2 * 2 ^ (s1 + s2 - 126 - u).toNat) = Z := Option.some.inj hκ
            have hN : Z.natAbs = f1 * f2 * 2 ^ (s1 + s2 - 126 - u).toNat := by rw [← hZ, sv_abs]
            have p1 : 2 ^ 126 ≤ f1 * f2 := by
              have := Nat.mul_le_mul c1 d1
              rw [← Nat.pow_add] at this
              exact this
            have p2 : f1 * f2 < 2 ^ 128 := by
              have := Nat.mul_lt_mul_of_lt_of_le c2 (Nat.le_of_lt d2) (by decide)
              rw [← Nat.pow_add] at this
              exact this
            obtain ⟨q1, q2, q3, q4⟩ := prod_digits hN hj p1 p2 (by omega)
            obtain ⟨r1, r2⟩ := tF_bd hj
            have hs : hld (u + (j : Int)) = u + (j : Int) := by unfold hld mx mn; omega
            have hv : vl u (decide (Z < 0)) (u + (j : Int)) (tF j Z.natAbs) = Z := by
              unfold vl
              rw [show (u + (j : Int) - 127 - u).toNat = j - 127 by omega, q2, sv_self]
            show Sout u (Z + vl u g s (f * 2 ^ 64)) (broad_Sum.f (k + 6) 1 (decide (Z < 0)) (hld (u + (j : Int))) ((tF j Z.natAbs / 2 ^ 64 : Nat) : Int) ((tF j Z.natAbs % 2 ^ 64 : Nat) : Int) (tB j Z.natAbs) 1 g s (f : Int) 0 false)
            rw [hs, q1]
            have hF : tF j Z.natAbs / 2 ^ 64 * 2 ^ 64 + tF j Z.natAbs % 2 ^ 64 = tF j Z.natAbs := by omega
            have := sum_spec (hx := tF j Z.natAbs / 2 ^ 64) (lx := tF j Z.natAbs % 2 ^ 64) (hy := f) (ly := 0) (sx := u + (j : Int)) (sy := s) (n := decide (Z < 0)) (m := g) (by omega) (by omega) (by omega) b1 b2 (by decide) (by omega) (by omega) (by omega) (by omega) (u := u) (by omega) (by omega) k
            rw [hF, hv, Nat.add_zero (f * 2 ^ 64)] at this
            exact this
theorem fma_mn {n a b c : Nat} (hn : Wd n) (ha : a < 2 ^ 64) (hb : b < 2 ^ 64) (hc : c < 2 ^ 64) {ma mb mc : Mn} (h : Means n (a % 2 ^ n) ma) (h' : Means n (b % 2 ^ n) mb) (h'' : Means n (c % 2 ^ n) mc) (k : Nat) :
    fuse_Fma.f (k + 100) (n : Int) (a : Int) (b : Int) (c : Int) = some (((RZ n (-1000) (oadd (omul (-1000) ma mb) (mc.v (-1000))) : Nat) : Int), none) := by
  obtain ⟨B, hB⟩ : ∃ B : Nat, B = 1498 := ⟨_, rfl⟩
  obtain ⟨B', hB'⟩ : ∃ B : Nat, B = 1249 := ⟨_, rfl⟩
  obtain ⟨t, ht, hX⟩ := prod_mn hn hn h h' (u := -1000) (by omega) (k + 94)
  have hS := sum_pm hn hn hn h h' h'' (by omega) (by omega) hX (k + 94)
  obtain ⟨t', ht', hr⟩ := round_xout hn hS (by
    intro Z j hZ hj
    have hZb : Z.natAbs < 2 ^ (B + 1) := by
      cases hv : omul (-1000) ma mb with
      | none => rw [hv] at hZ; cases hZ
      | some z =>
        cases hv' : mc.v (-1000) with
        | none => rw [hv, hv'] at hZ; cases hZ
        | some z' =>
          rw [hv, hv'] at hZ
          obtain rfl : z + z' = Z := Option.some.inj hZ
          have g1 := mul_bd hB hn hn h h' hv
          have g2 := v_bd hB' hn h'' hv'
          have g3 : 2 ^ B' ≤ 2 ^ B := pow_le (by omega)
          rw [Nat.pow_succ]
          generalize 2 ^ B = p at *
          generalize 2 ^ B' = q at *
          omega
    have := hi_lt hj hZb
    omega) (k + 20)
  have d1 : codec_Decode.f (k + 100) (n : Int) (a : Int) = _ := decode_of hn ha h (k + 92)
  have d2 : codec_Decode.f (k + 100) (n : Int) (b : Int) = _ := decode_of hn hb h' (k + 92)
  have d3 : codec_Decode.f (k + 100) (n : Int) (c : Int) = _ := decode_of hn hc h'' (k + 92)
  have ht2 : prod_Exact.f (k + 100) ma.k ma.n ma.s (ma.f : Int) mb.k mb.n mb.s (mb.f : Int) = _ := ht
  have e3 : broad_Sum.f (k + 100) t.1 t.2.1 t.2.2.1 t.2.2.2.1 t.2.2.2.2.1 t.2.2.2.2.2 mc.k mc.n mc.s (mc.f : Int) 0 false = some t' := ht'
  have e4 : round_Round.f (k + 100) (n : Int) t'.1 t'.2.1 t'.2.2.1 t'.2.2.2.1 t'.2.2.2.2.1 t'.2.2.2.2.2 = _ := hr
  have e5 : round_Of.f (k + 100) mc.k mc.n mc.s (mc.f : Int) = _ := mn_of hn h'' (k + 99)
  have hp : fuse_product.f (k + 100) (n : Int) (a : Int) (b : Int) = some (t.1, t.2.1, t.2.2.1, t.2.2.2.1, t.2.2.2.2.1, t.2.2.2.2.2, none) := by
    unfold fuse_product.f
    rw [d1, Option.bind_some]
    simp only [Option.isNone_none, if_true]
    rw [d2, Option.bind_some]
    simp only
    rw [ht2, Option.bind_some]
  unfold fuse_Fma.f
  rw [hp, Option.bind_some]
  simp only [Option.isNone_none, if_true]
  rw [d3, Option.bind_some]
  simp only
  rw [e5, Option.bind_some]
  simp only
  rw [e3, Option.bind_some, e4, Option.bind_some]
theorem fma_no {n : Int} (h : NoW n) (a b c : Int) (k : Nat) : fuse_Fma.f k n a b c = some (0, some 2) := by
  unfold fuse_Fma.f fuse_product.f
  rw [decode_no h]
  rfl
theorem quot_no {n : Int} (h : NoW n) (a b : Int) (k : Nat) : quot_Div.f k n a b = some (0, some 2) := by
  unfold quot_Div.f
  rw [decode_no h]
  rfl
theorem sub_no {n : Int} (h : NoW n) (a b : Int) (k : Nat) : sum_Sub.f k n a b = some (0, some 2) := by
  unfold sum_Sub.f sum_Add.f
  rw [decode_no h]
  rfl
theorem sub_mn {n a b : Nat} (hn : Wd n) (ha : a < 2 ^ 64) (hb : b < 2 ^ 64) {m m' : Mn} (h : Means n (a % 2 ^ n) m) (h' : Means n (b % 2 ^ n) m') (k : Nat) :
    sum_Sub.f (k + 100) (n : Int) (a : Int) (b : Int) = some (((RZ n (-1000) (oadd (m.v (-1000)) (m'.neg.v (-1000))) : Nat) : Int), none) := by
  have hbd := hn.bd
  have hw : IntKind.u64.wrap (-(b : Int)) = (((2 ^ 64 - b) % 2 ^ 64 : Nat) : Int) := by rw [u64w]; omega
  have hm : Means n ((2 ^ 64 - b) % 2 ^ 64 % 2 ^ n) m'.neg := by
    have := h'.neg hn (Nat.mod_lt _ (pow_pos n))
    have e : (2 ^ 64 - b) % 2 ^ 64 % 2 ^ n = (2 ^ n - b % 2 ^ n) % 2 ^ n := by
      have e64 : (2 : Nat) ^ 64 = 2 ^ n * 2 ^ (64 - n) := pow_split hbd.2
      rw [Nat.mod_mod_of_dvd _ ⟨2 ^ (64 - n), e64⟩]
      have h1 := Nat.div_add_mod b (2 ^ n)
      have h2 := Nat.mod_lt b (pow_pos n)
      have h3 : b / 2 ^ n < 2 ^ (64 - n) := Nat.div_lt_of_lt_mul (by rw [← e64]; exact hb)
      obtain ⟨z, hz⟩ : ∃ z, 2 ^ (64 - n) = b / 2 ^ n + 1 + z := ⟨2 ^ (64 - n) - b / 2 ^ n - 1, by omega⟩
      rw [e64, hz]
      generalize b / 2 ^ n = q at *
      generalize b % 2 ^ n = r at *
      generalize 2 ^ n = p at *
      rw [Nat.mul_add, Nat.mul_add, Nat.mul_one]
      have e5 : p * q + p + p * z - b = p - r + p * z := by omega
      rw [e5, Nat.add_mul_mod_self_left]
    rw [e]
    exact this
  unfold sum_Sub.f
  rw [hw, add_mn hn ha (Nat.mod_lt _ (by decide)) h hm k, Option.bind_some]
end Go.Proofs.Ytnlbfomlfhigcaa.M
namespace Go.Proofs.Ytnlbfomlfhigcaa.M
open Go.RowKit Go.Proofs.YtnlbfomlfhigcaaW.PrintWords Go.Proofs.YtnlbfomlfhigcaaW.PrintLast Go.Proofs.YtnlbfomlfhigcaaW.PrintMore Go.Proofs.Ytnlbfomlfhigcaa.Q
def Pm (u s' : Int) (f' : Nat) (s : Int) (f : Nat) : Nat := f * f' * 2 ^ (s + s' - 126 - u).toNat
noncomputable def Pq (n : Nat) (s' : Int) (f' : Nat) (s : Int) (f : Nat) : Nat := rpos n (qS s s' f f') (qX f f' / f' * 2 ^ 64) (decide (qX f f' % f' > 0))
def fl (g : Bool) (z : Int) : Int := if g then -z else z
theorem sv_fl (g g' : Bool) (x : Nat) : sv (g != g') x = fl g' (sv g x) := by
  unfold sv fl
  cases g <;> cases g' <;> simp
theorem fl_zero (g : Bool) : fl g 0 = 0 := by cases g <;> rfl
theorem omul_tv {u : Int} {m : Mn} (e : m ≠ .nar) (g' : Bool) (s' : Int) (f' : Nat) : omul u m (.real g' s' f') = some (fl g' (tv (Pm u s' f') m)) := by
  cases m with
  | nar => exact absurd rfl e
  | zero =>
    show some 0 = some (fl g' 0)
    rw [fl_zero]
  | real g s f =>
    show some (sv (g != g') (Pm u s' f' s f)) = some (fl g' (sv g (Pm u s' f' s f)))
    rw [sv_fl]
theorem neg_tv {u : Int} {m : Mn} (h : m ≠ .nar) : m.neg.v u = some (-(tv (Pv u) m)) := by
  cases m with
  | nar => exact absurd rfl h
  | zero => rfl
  | real g s f =>
    show some (sv (!g) (Pv u s f)) = some (-(sv g (Pv u s f)))
    refine congrArg some ?_
    unfold sv
    cases g <;> simp
theorem q_bd {f f' : Nat} (h1 : 2 ^ 63 ≤ f) (h2 : f < 2 ^ 64) (h1' : 2 ^ 63 ≤ f') (h2' : f' < 2 ^ 64) : 2 ^ 127 ≤ qX f f' / f' * 2 ^ 64 ∧ qX f f' / f' * 2 ^ 64 < 2 ^ 128 := by
  obtain ⟨a, b⟩ := qX_bd h1 h2 h1' h2'
  generalize qX f f' / f' = q at *
  omega
theorem rk_DQ {n y : Nat} (hn : Wd n) {m : Mn} (h : Means n y m) (e : m ≠ .nar) (g' : Bool) (s' : Int) {f' : Nat} (h1' : 2 ^ 63 ≤ f') (h2' : f' < 2 ^ 64) :
    DQ n m (.real g' s' f') < 2 ^ n ∧ rk n (DQ n m (.real g' s' f')) = fl g' (tv (Pq n s' f') m) := by
  have hp := pow_pos (n - 1)
  cases m with
  | nar => exact absurd rfl e
  | zero =>
    refine ⟨pow_pos n, ?_⟩
    show rk n 0 = fl g' 0
    rw [rk_zero, fl_zero]
  | real g s f =>
    obtain ⟨b1, b2, _, _⟩ := h.bd
    have hq := q_bd b1 b2 h1' h2'
    have hr := rpos_bd hn (qS s s' f f') (decide (qX f f' % f' > 0)) hq.2
    have hlt : Pq n s' f' s f < 2 ^ (n - 1) := Nat.lt_of_le_of_lt hr.2 (by omega)
    refine ⟨sg_lt hn _ hr.1 hlt, ?_⟩
    show rk n (sg n (g != g') (Pq n s' f' s f)) = fl g' (sv g (Pq n s' f' s f))
    rw [← sv_fl]
    exact rk_sg hn _ hr.1 hlt
theorem Pq_mono {n : Nat} (hn : Wd n) (s' : Int) {f' : Nat} (h1' : 2 ^ 63 ≤ f') (h2' : f' < 2 ^ 64) (s : Int) (f : Nat) (s₂ : Int) (f₂ : Nat) (h1 : 2 ^ 63 ≤ f) (h2 : f < 2 ^ 64) (h3 : 2 ^ 63 ≤ f₂) (h4 : f₂ < 2 ^ 64)
    (h : s < s₂ ∨ (s = s₂ ∧ f ≤ f₂)) : Pq n s' f' s f ≤ Pq n s' f' s₂ f₂ := by
  have b1 := q_bd h1 h2 h1' h2'
  have b2 := q_bd h3 h4 h1' h2'
  exact rpos_mono hn b1.1 b1.2 b2.1 b2.2 (quot_mono h2 h3 h)
theorem pm_step {f f₂ w i d : Nat} (h2 : f < 2 ^ 64) (h1' : 2 ^ 63 ≤ f₂) : f * w * 2 ^ i ≤ f₂ * w * 2 ^ (i + 1 + d) := by
  have e : f ≤ f₂ * 2 := by omega
  have g3 : 1 ≤ 2 ^ d := pow_pos d
  rw [show 2 ^ (i + 1 + d) = 2 ^ i * 2 * 2 ^ d by rw [Nat.pow_add, Nat.pow_succ]]
  generalize 2 ^ i = p
  generalize 2 ^ d = q at *
  have g1 := Nat.mul_le_mul_right p (Nat.mul_le_mul_right w e)
  have g4 := Nat.mul_le_mul_left (f₂ * 2 * w * p) g3
  rw [Nat.mul_one] at g4
  have g5 : f₂ * w * (p * 2 * q) = f₂ * 2 * w * p * q := by
    rw [← Nat.mul_assoc, Nat.mul_comm p 2, ← Nat.mul_assoc, Nat.mul_assoc f₂ w 2, Nat.mul_comm w 2, Nat.mul_assoc f₂ 2 w]
  rw [g5]
  exact Nat.le_trans g1 g4
theorem Pm_mono {u s' : Int} {f' : Nat} (s : Int) (f : Nat) (s₂ : Int) (f₂ : Nat) (h2 : f < 2 ^ 64) (h3 : 2 ^ 63 ≤ f₂) (hu : u ≤ s + s' - 126)
    (h : s < s₂ ∨ (s = s₂ ∧ f ≤ f₂)) : Pm u s' f' s f ≤ Pm u s' f' s₂ f₂ := by
  unfold Pm
  rcases h with h | ⟨rfl, h⟩
  · obtain ⟨d, hd⟩ : ∃ d, (s₂ + s' - 126 - u).toNat = (s + s' - 126 - u).toNat + 1 + d := ⟨(s₂ + s' - 126 - u).toNat - (s + s' - 126 - u).toNat - 1, by omega⟩
    rw [hd]
    exact pm_step h2 h3
  · exact Nat.mul_le_mul_right _ (Nat.mul_le_mul_right _ h)
theorem cmpI_cases (x y : Int) : cmpI x y = -1 ∨ cmpI x y = 0 ∨ cmpI x y = 1 := by
  unfold cmpI
  split
  · exact .inl rfl
  · split
    · exact .inr (.inr rfl)
    · exact .inr (.inl rfl)
theorem cmp_up {a b c d : Int} (h1 : a ≤ b → c ≤ d) (h2 : b ≤ a → d ≤ c) : 0 ≤ cmpI c d * cmpI a b := by
  have e1 := cmpI_cases c d
  have e2 := cmpI_cases a b
  by_cases z : a < b
  · have z1 : ¬ c > d := by have := h1 (Int.le_of_lt z); omega
    have z2 : cmpI a b = 1 ∨ cmpI a b = -1 := by unfold cmpI; rw [if_pos z]; exact .inr rfl
    have z3 : cmpI c d = -1 ∨ cmpI c d = 0 := by
      unfold cmpI
      by_cases y : c < d
      · rw [if_pos y]; exact .inl rfl
      · rw [if_neg y, if_neg z1]; exact .inr rfl
    have z4 : cmpI a b = -1 := by unfold cmpI; rw [if_pos z]
    rw [z4]
    rcases z3 with z3 | z3 <;> rw [z3] <;> decide
  · by_cases w : a > b
    · have z1 : ¬ c < d := by have := h2 (Int.le_of_lt w); omega
      have z4 : cmpI a b = 1 := by unfold cmpI; rw [if_neg z, if_pos w]
      have z3 : cmpI c d = 1 ∨ cmpI c d = 0 := by
        unfold cmpI
        rw [if_neg z1]
        split
        · exact .inl rfl
        · exact .inr rfl
      rw [z4]
      rcases z3 with z3 | z3 <;> rw [z3] <;> decide
    · have z4 : cmpI a b = 0 := by unfold cmpI; rw [if_neg z, if_neg w]
      rw [z4, Int.mul_zero]
      exact Int.le_refl 0
theorem cmpI_lt {c d : Int} (h : c < d) : cmpI c d = -1 := by
  unfold cmpI
  rw [if_pos h]
theorem cmpI_gt {c d : Int} (h : d < c) : cmpI c d = 1 := by
  unfold cmpI
  rw [if_neg (show ¬ c < d by omega), if_pos h]
theorem cmpI_eq {c d : Int} (h : c = d) : cmpI c d = 0 := by
  unfold cmpI
  rw [if_neg (show ¬ c < d by omega), if_neg (show ¬ c > d by omega)]
theorem cmp_flip (c d : Int) : cmpI d c = -cmpI c d := by
  rcases Int.lt_trichotomy c d with h | h | h
  · rw [cmpI_lt h, cmpI_gt h]
    rfl
  · rw [cmpI_eq h, cmpI_eq h.symm]
    rfl
  · rw [cmpI_lt h, cmpI_gt h]
theorem cmp_down {a b c d : Int} (h1 : a ≤ b → d ≤ c) (h2 : b ≤ a → c ≤ d) : cmpI c d * cmpI a b ≤ 0 := by
  have := cmp_up h1 h2
  rw [cmp_flip c d, Int.neg_mul] at this
  omega
theorem cmp_fl {a b c d : Int} {g : Bool} {r : Int → Int} (hr : ∀ x y, x ≤ y → r x ≤ r y) {x y : Int} (h1 : a ≤ b → x ≤ y) (h2 : b ≤ a → y ≤ x) (hc : c = r (fl g x)) (hd : d = r (fl g y)) : 0 ≤ cmpI c d * cmpI a b * (if g then -1 else 1) := by
  subst hc hd
  cases g
  · have := cmp_up (a := a) (b := b) (c := r (fl false x)) (d := r (fl false y)) (fun h => hr _ _ (h1 h)) (fun h => hr _ _ (h2 h))
    rw [if_neg (by decide), Int.mul_one]
    exact this
  · have := cmp_down (a := a) (b := b) (c := r (fl true x)) (d := r (fl true y)) (fun h => hr _ _ (by have := h1 h; unfold fl; rw [if_pos rfl, if_pos rfl]; omega)) (fun h => hr _ _ (by have := h2 h; unfold fl; rw [if_pos rfl, if_pos rfl]; omega))
    rw [if_pos rfl]
    omega
end Go.Proofs.Ytnlbfomlfhigcaa.M
