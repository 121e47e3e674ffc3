/- Walks and plain laws that the claim stands on: each theorem named calls says that a call of a function returns what its f computes; the others are plain laws of these f, and the words that the walks use. -/
import Derived.Test.YtnlbfomlfhigcaaGenTosV19
import Derived.Test.YtnlbfomlfhigcaaGenTosV15
import Derived.Test.YtnlbfomlfhigcaaGenTosV20
import Derived.Test.YtnlbfomlfhigcaaGenTosV7
import Derived.Test.YtnlbfomlfhigcaaGenTosV16
import Derived.Test.YtnlbfomlfhigcaaGenTosV17
import Derived.Test.YtnlbfomlfhigcaaGenTosV18
import Derived.Test.YtnlbfomlfhigcaaGenTosV12
namespace Go.Proofs.Ytnlbfomlfhigcaa.M
open Go.RowKit Go.Proofs.YtnlbfomlfhigcaaW.PrintWords Go.Proofs.YtnlbfomlfhigcaaW.PrintLast Go.Proofs.YtnlbfomlfhigcaaW.PrintMore Go.Proofs.Ytnlbfomlfhigcaa.Q
theorem isb_nil : IsBits (⟨#[]⟩ : ByteArray) 0 0 := ⟨rfl, by decide, fun i hi => absurd hi (Nat.not_lt_zero _)⟩
theorem isb_zz : IsBits (⟨#[48, 48]⟩ : ByteArray) 2 0 := ⟨rfl, by decide, fun i hi => by
  obtain rfl | rfl : i = 0 ∨ i = 1 := by omega
  · rfl
  · rfl⟩
theorem isb_z : IsBits (⟨#[48]⟩ : ByteArray) 1 0 := ⟨rfl, by decide, fun i hi => by
  obtain rfl : i = 0 := by omega
  rfl⟩
theorem isb_o : IsBits (⟨#[49]⟩ : ByteArray) 1 1 := ⟨rfl, by decide, fun i hi => by
  obtain rfl : i = 0 := by omega
  rfl⟩
theorem rsplit_j3 {b : ByteArray} {m q eb fb : Nat} (h : IsBits b m q) (hm : m ≤ 62) (heb : eb = min m 2) (hfb : fb = m - eb) (neg ones : Bool) (r rg : Int) (k : Nat) :
    vernierref06_Split.j3 (k + 67) b neg ones r rg (eb : Int) 0 0 0 = some (neg, ones, r, rg, (eb : Int), ((q / 2 ^ fb % 2 ^ eb * 2 ^ (2 - eb) : Nat) : Int), (fb : Int), ((q % 2 ^ fb : Nat) : Int), 0) := by
  have hA := h.extract (i := 0) (j := eb) (by omega) (by omega)
  have hB := hA.append isb_zz
  have hC := hB.extract (i := 0) (j := 2) (by omega) (by omega)
  have hD := h.extract (i := eb) (j := m) (by omega) (by omega)
  have hs := h.1
  rw [show k + 67 = (k + 66) + 1 from rfl, vernierref06_Split.j3, if_pos (by omega), if_pos (by omega), Int.toNat_natCast, if_pos (by rw [hA.1]; omega), if_pos (by decide), if_pos (by rw [hB.1]; omega), number_bits hC (by omega), Option.bind_some, hs, number_bits hD (by omega), Option.bind_some]
  have e1 : wrap64 ((m : Int) - (eb : Int)) = (fb : Int) := by unfold wrap64; omega
  have e2 : q / 2 ^ (m - m) % 2 ^ (m - eb) = q % 2 ^ fb := by rw [Nat.sub_self, Nat.pow_zero, Nat.div_one, hfb]
  have hx : q / 2 ^ fb % 2 ^ eb < 2 ^ eb := Nat.mod_lt _ (pow_pos _)
  have e3 : (q / 2 ^ (m - eb) % 2 ^ (eb - 0) * 2 ^ 2 + 0) / 2 ^ (eb - 0 + 2 - 2) % 2 ^ (2 - 0) = q / 2 ^ fb % 2 ^ eb * 2 ^ (2 - eb) := by
    rw [← hfb, Nat.sub_zero]
    generalize q / 2 ^ fb % 2 ^ eb = x at *
    have : eb = 0 ∨ eb = 1 ∨ eb = 2 := by omega
    rcases this with c | c | c <;> subst c
    · simp at hx
      subst hx
      rfl
    · simp at hx ⊢
      omega
    · simp at hx ⊢
      omega
  have e4 : q / 2 ^ fb % 2 ^ eb * 2 ^ (2 - eb) ≤ 3 := by
    generalize q / 2 ^ fb % 2 ^ eb = x at *
    have : eb = 0 ∨ eb = 1 ∨ eb = 2 := by omega
    rcases this with c | c | c <;> subst c <;> simp at hx ⊢ <;> omega
  rw [e1, e2, e3]
  rw [wrap64_id (by omega) (by omega)]
theorem rsplit_j2 {b : ByteArray} {m q eb fb : Nat} (h : IsBits b m q) (hm : m ≤ 62) (heb : eb = min m 2) (hfb : fb = m - eb) (neg ones : Bool) (r rg : Int) (k : Nat) :
    vernierref06_Split.j2 (k + 68) b neg ones r rg 0 0 0 0 = some (neg, ones, r, rg, (eb : Int), ((q / 2 ^ fb % 2 ^ eb * 2 ^ (2 - eb) : Nat) : Int), (fb : Int), ((q % 2 ^ fb : Nat) : Int), 0) := by
  have hs := h.1
  rw [show k + 68 = (k + 67) + 1 from rfl, vernierref06_Split.j2]
  by_cases c : m > 2
  · rw [if_pos (by omega)]
    have := rsplit_j3 h hm heb hfb neg ones r rg k
    rw [show eb = 2 by omega] at this ⊢
    exact this
  · rw [if_neg (by omega)]
    have := rsplit_j3 h hm heb hfb neg ones r rg k
    rw [hs]
    rw [show eb = m by omega] at this ⊢
    exact this
theorem parts_mod {v m eb fb : Nat} (hfm : fb + eb = m) : v % 2 ^ m / 2 ^ fb % 2 ^ eb = v / 2 ^ fb % 2 ^ eb ∧ v % 2 ^ m % 2 ^ fb = v % 2 ^ fb := by
  refine ⟨?_, Nat.mod_mod_of_dvd _ (Nat.pow_dvd_pow 2 (by omega))⟩
  rw [← hfm, Nat.pow_add, Nat.mod_mul_right_div_self, Nat.mod_mod]
theorem rsplit_j1 {b : ByteArray} {L v r m eb fb : Nat} (hB : IsBits b L v) (hL : L ≤ 63) (hr : r ≤ L) (hm : m = L - r - 1) (heb : eb = min m 2) (hfb : fb = m - eb) (neg ones : Bool) (rg : Int) (k : Nat) :
    vernierref06_Split.j1 (k + 69) b neg ones (r : Int) rg 0 0 0 0 = some (neg, ones, (r : Int), rg, (eb : Int), ((v / 2 ^ fb % 2 ^ eb * 2 ^ (2 - eb) : Nat) : Int), (fb : Int), ((v % 2 ^ fb : Nat) : Int), 0) := by
  have hBs := hB.1
  have hm62 : m ≤ 62 := by omega
  have hfm : fb + eb = m := by omega
  rw [show k + 69 = (k + 68) + 1 from rfl, vernierref06_Split.j1]
  by_cases c : r < L
  · have hw : wrap64 ((r : Int) + 1) = ((r + 1 : Nat) : Int) := by unfold wrap64; omega
    have hrL : r + 1 ≤ L := c
    have hmL : L - (r + 1) = m := by omega
    have i1 : (r : Int) < (b.size : Int) := by omega
    have i2 : (0 : Int) ≤ ((r + 1 : Nat) : Int) := by omega
    have i3 : ((r + 1 : Nat) : Int) ≤ (b.size : Int) := by omega
    have h2 := hB.extract hrL (Nat.le_refl L)
    rw [Nat.sub_self, Nat.pow_zero, Nat.div_one, hmL] at h2
    rw [if_pos i1, hw, if_pos i2, if_pos i3, Int.toNat_natCast, hBs, rsplit_j2 h2 hm62 heb hfb, (parts_mod hfm).1, (parts_mod hfm).2]
  · have i1 : ¬ (r : Int) < (b.size : Int) := by omega
    obtain rfl : m = 0 := by omega
    have e0 : v % 2 ^ 0 = 0 := by rw [Nat.pow_zero, Nat.mod_one]
    rw [if_neg i1, ← (parts_mod hfm).1, ← (parts_mod hfm).2, e0]
    exact rsplit_j2 isb_nil hm62 heb hfb _ _ _ _ _
theorem Runs.le {L y r r' : Nat} {o : Bool} (h : Runs L y r o) (h' : Runs L y r' o) : r' ≤ r := by
  obtain ⟨_, a2, a3⟩ := h
  obtain ⟨_, b2, b3⟩ := h'
  refine Nat.le_of_not_lt fun c => ?_
  have hp := pow_le (show L - r' ≤ L - r - 1 by omega)
  cases o
  · simp only [Bool.false_eq_true, if_false] at a3 b3
    omega
  · simp only [if_true] at a3 b3
    omega
theorem Runs.uniq {L y r r' : Nat} {o : Bool} (h : Runs L y r o) (h' : Runs L y r' o) : r = r' := Nat.le_antisymm (h'.le h) (h.le h')
theorem rsplit {n p : Nat} (hn : Wd n) (hp : p < 2 ^ 64) (hk : knd n (p % 2 ^ n) = 1) : ∃ r m eb fb : Nat, Runs (n - 1) (mag n (p % 2 ^ n)) r (decide (2 ^ (n - 1 - 1) ≤ mag n (p % 2 ^ n))) ∧ m = n - 1 - r - 1 ∧ eb = min m 2 ∧ fb = m - eb ∧
    ∀ k, vernierref06_Split.f (k + 70) (n : Int) (p : Int) = some (sgn n (p % 2 ^ n), decide (2 ^ (n - 1 - 1) ≤ mag n (p % 2 ^ n)), (r : Int), reg r (decide (2 ^ (n - 1 - 1) ≤ mag n (p % 2 ^ n))), (eb : Int),
      ((mag n (p % 2 ^ n) / 2 ^ fb % 2 ^ eb * 2 ^ (2 - eb) : Nat) : Int), (fb : Int), ((mag n (p % 2 ^ n) % 2 ^ fb : Nat) : Int), 0) := by
  have hb := hn.bd
  obtain ⟨b, _, hB⟩ := rstring hn hp hk 0
  obtain ⟨r, _, hR⟩ := rrun hB (by omega) (by omega) 0
  have hr := hR.2.1
  have hr1 := hR.1
  refine ⟨r, n - 1 - r - 1, min (n - 1 - r - 1) 2, n - 1 - r - 1 - min (n - 1 - r - 1) 2, hR, rfl, rfl, rfl, fun k => ?_⟩
  clear hB
  obtain ⟨b, hS, hB⟩ := rstring hn hp hk (k + 3)
  obtain ⟨t, hT, hTB⟩ := text_bits p hb.2 (k + 3)
  obtain ⟨r', hr', hR'⟩ := rrun hB (by omega) (by omega) (k + 3)
  obtain rfl := hR.uniq hR'
  clear hR'
  have hfb := first_bit hB (by omega)
  have hft := first_bit hTB (by omega)
  have hBs := hB.1
  unfold vernierref06_Split.f
  rw [show k + 70 = (k + 4) + 66 from rfl, rkind hn, hk, Option.bind_some]
  show (if (0 : Int) = 0 then vernierref06_Split.j0 ((k + 69) + 1) (n : Int) (p : Int) 0 (((1 : Nat) : Int) != 1) else _) = _
  rw [if_pos rfl, show (((1 : Nat) : Int) != 1) = false from rfl, vernierref06_Split.j0, if_neg (by decide), show k + 69 = k + 3 + 66 from rfl, hS, Option.bind_some, hT, Option.bind_some, if_pos (by rw [hTB.1]; omega), if_pos (by omega), hr', Option.bind_some]
  have e1 : (bt t 0 == 49) = sgn n (p % 2 ^ n) := by
    rw [hft]
    unfold sgn
    by_cases c : 2 ^ (n - 1) ≤ p % 2 ^ n
    · rw [if_pos c, decide_eq_true c]
      rfl
    · rw [if_neg c, decide_eq_false c]
      rfl
  have e2 : (bt b 0 == 49) = decide (2 ^ (n - 1 - 1) ≤ mag n (p % 2 ^ n)) := by
    rw [hfb]
    by_cases c : 2 ^ (n - 1 - 1) ≤ mag n (p % 2 ^ n)
    · rw [if_pos c, decide_eq_true c]
      rfl
    · rw [if_neg c, decide_eq_false c]
      rfl
  have hj : ∀ rg : Int, vernierref06_Split.j1 (k + 3 + 66) b (sgn n (p % 2 ^ n)) (decide (2 ^ (n - 1 - 1) ≤ mag n (p % 2 ^ n))) (r : Int) rg 0 0 0 0 = some (sgn n (p % 2 ^ n), decide (2 ^ (n - 1 - 1) ≤ mag n (p % 2 ^ n)), (r : Int), rg, ((min (n - 1 - r - 1) 2 : Nat) : Int),
      ((mag n (p % 2 ^ n) / 2 ^ (n - 1 - r - 1 - min (n - 1 - r - 1) 2) % 2 ^ min (n - 1 - r - 1) 2 * 2 ^ (2 - min (n - 1 - r - 1) 2) : Nat) : Int), ((n - 1 - r - 1 - min (n - 1 - r - 1) 2 : Nat) : Int), ((mag n (p % 2 ^ n) % 2 ^ (n - 1 - r - 1 - min (n - 1 - r - 1) 2) : Nat) : Int), 0) := by
    intro rg
    exact rsplit_j1 hB (by omega) hr rfl rfl rfl _ _ _ _
  rw [e1, e2]
  by_cases c : 2 ^ (n - 1 - 1) ≤ mag n (p % 2 ^ n)
  · have hw : wrap64 ((r : Int) - 1) = reg r (decide (2 ^ (n - 1 - 1) ≤ mag n (p % 2 ^ n))) := by
      rw [decide_eq_true c, wrap64_id (by omega) (by omega)]
      rfl
    rw [if_pos (by rw [hfb, if_pos c]), hw, hj]
  · have hw : wrap64 (-(r : Int)) = reg r (decide (2 ^ (n - 1 - 1) ≤ mag n (p % 2 ^ n))) := by
      rw [decide_eq_false c, wrap64_id (by omega) (by omega)]
      rfl
    rw [if_neg (by rw [hfb, if_neg c]; decide), hw, hj]
theorem pad_l0 (neg : Bool) (sc : Int) (k : Nat) : ∀ (d : Nat) (b : ByteArray) (j v : Nat), IsBits b j v → j + d = 64 → vernierref06_Decodes.l0 (k + d + 67) b 1 neg sc 0 = some (1, neg, sc, ((v * 2 ^ d : Nat) : Int), 0) := by
  intro d
  induction d with
  | zero =>
    intro b j v h hj
    have hs := h.1
    rw [show k + 0 + 67 = (k + 66) + 1 from rfl, vernierref06_Decodes.l0, if_neg (by omega), number_bits h (by omega), Option.bind_some, Nat.pow_zero, Nat.mul_one]
  | succ d ih =>
    intro b j v h hj
    have hs := h.1
    rw [show k + (d + 1) + 67 = (k + d + 67) + 1 by omega, vernierref06_Decodes.l0, if_pos (by omega), if_pos (by omega), ih _ (j + 1) _ (h.append isb_z) (by omega)]
    rw [Nat.pow_one, Nat.add_zero, Nat.mul_assoc, ← Nat.pow_succ']
theorem rdec_real {n p : Nat} (hn : Wd n) (hp : p < 2 ^ 64) (hk : knd n (p % 2 ^ n) = 1) : ∃ s : Int, ∃ f : Nat, Dec n (mag n (p % 2 ^ n)) s f ∧
    ∀ k, vernierref06_Decodes.f (k + 140) (n : Int) (p : Int) = some (1, sgn n (p % 2 ^ n), s, (f : Int), 0) := by
  have hb := hn.bd
  obtain ⟨r, m, eb, fb, hR, hm, heb, hfb, hS⟩ := rsplit hn hp hk
  have hy : p % 2 ^ n < 2 ^ n := Nat.mod_lt _ (pow_pos _)
  obtain ⟨m1, m2⟩ := mag_bd hn hy hk
  obtain ⟨hD, hfb61, he3, hfr⟩ := parse_dec hn _ m1 m2 hR m eb fb _ _ hm heb hfb rfl rfl
  refine ⟨_, _, hD, fun k => ?_⟩
  have hr := hR.2.1
  have hr1 := hR.1
  generalize hE : mag n (p % 2 ^ n) / 2 ^ fb % 2 ^ eb * 2 ^ (2 - eb) = E at *
  generalize hF : mag n (p % 2 ^ n) % 2 ^ fb = fr at *
  generalize hO : decide (2 ^ (n - 1 - 1) ≤ mag n (p % 2 ^ n)) = ones at *
  clear hR m1 m2 hD hE hO
  have hsc : wrap64 (wrap64 (4 * reg r ones) + (E : Int)) = 4 * reg r ones + (E : Int) := by
    unfold reg
    cases ones
    · simp only [Bool.false_eq_true, if_false]
      unfold wrap64
      omega
    · simp only [if_true]
      unfold wrap64
      omega
  obtain ⟨t, hT, hTB⟩ := text_bits fr (n := fb) (by omega) (k + 73)
  have hB := isb_o.append hTB
  have hts := hTB.1
  have hpad := pad_l0 (sgn n (p % 2 ^ n)) (4 * reg r ones + (E : Int)) (k + 139 - 67 - (64 - (1 + fb))) (64 - (1 + fb)) _ _ _ hB (by omega)
  rw [show k + 139 - 67 - (64 - (1 + fb)) + (64 - (1 + fb)) + 67 = k + 139 by omega] at hpad
  unfold vernierref06_Decodes.f
  rw [show k + 140 = (k + 74) + 66 from rfl, rkind hn, hk, Option.bind_some]
  show (if (0 : Int) = 0 then vernierref06_Decodes.j0 ((k + 139) + 1) (n : Int) (p : Int) ((1 : Nat) : Int) 0 (((1 : Nat) : Int) != 1) else _) = _
  rw [if_pos rfl, show (((1 : Nat) : Int) != 1) = false from rfl, vernierref06_Decodes.j0, if_neg (by decide), show k + 139 = (k + 69) + 70 from rfl, hS, Option.bind_some]
  show ((vernierref01_Text.f ((k + 73) + 66) (fr : Int) (fb : Int)).bind fun t423 => (if 1 + t423.size ≤ 9223372036854775807 then (vernierref06_Decodes.l0 (k + 139) ((⟨#[49]⟩ : ByteArray) ++ t423) ((1 : Nat) : Int) (sgn n (p % 2 ^ n)) (wrap64 ((wrap64 (4 * reg r ones)) + (E : Int))) 0) else (none))) = _
  rw [hT, Option.bind_some, if_pos (by omega), hsc]
  refine hpad.trans ?_
  have e : (1 * 2 ^ fb + fr % 2 ^ fb) * 2 ^ (64 - (1 + fb)) = 2 ^ 63 + fr * 2 ^ (63 - fb) := by
    rw [Nat.mod_eq_of_lt hfr, Nat.one_mul, Nat.add_mul, show 64 - (1 + fb) = 63 - fb by omega, ← Nat.pow_add, show fb + (63 - fb) = 63 by omega]
  rw [e]
theorem rdec_zero {n p : Nat} (hn : Wd n) (hk : knd n (p % 2 ^ n) = 0) (k : Nat) : vernierref06_Decodes.f (k + 140) (n : Int) (p : Int) = some (0, false, 0, 0, 0) := by
  unfold vernierref06_Decodes.f
  rw [show k + 140 = (k + 74) + 66 from rfl, rkind hn, hk, Option.bind_some]
  show (if (0 : Int) = 0 then vernierref06_Decodes.j0 ((k + 139) + 1) (n : Int) (p : Int) ((0 : Nat) : Int) 0 (((0 : Nat) : Int) != 1) else _) = _
  rw [if_pos rfl, show (((0 : Nat) : Int) != 1) = true from rfl, vernierref06_Decodes.j0, if_pos rfl]
  rfl
theorem rdec_nar {n p : Nat} (hn : Wd n) (hk : knd n (p % 2 ^ n) = 2) (k : Nat) : vernierref06_Decodes.f (k + 140) (n : Int) (p : Int) = some (2, false, 0, 0, 0) := by
  unfold vernierref06_Decodes.f
  rw [show k + 140 = (k + 74) + 66 from rfl, rkind hn, hk, Option.bind_some]
  show (if (0 : Int) = 0 then vernierref06_Decodes.j0 ((k + 139) + 1) (n : Int) (p : Int) ((2 : Nat) : Int) 0 (((2 : Nat) : Int) != 1) else _) = _
  rw [if_pos rfl, show (((2 : Nat) : Int) != 1) = true from rfl, vernierref06_Decodes.j0, if_pos rfl]
  rfl
end Go.Proofs.Ytnlbfomlfhigcaa.M
namespace Go.Proofs.Ytnlbfomlfhigcaa.M
open Go.RowKit Go.Proofs.YtnlbfomlfhigcaaW.PrintWords Go.Proofs.YtnlbfomlfhigcaaW.PrintLast Go.Proofs.YtnlbfomlfhigcaaW.PrintMore Go.Proofs.Ytnlbfomlfhigcaa.Q
theorem of_real (k : Nat) (neg : Bool) {s : Int} {f : Nat} (h1 : 2 ^ 63 ≤ f) (h2 : f < 2 ^ 64) (h3 : -1073741824 ≤ s) (h4 : s ≤ 1073741824) : round_Of.f (k + 1) 1 neg s (f : Int) = some (1, neg, s, (f : Int), 0, false, none) := by
  unfold round_Of.f
  have h := sound_real (l := 0) k neg false (s := s) h1 h2 (by omega) (by omega)
  have h' : round_sound.f (k + 1) 1 neg s (f : Int) 0 false = some true := h
  rw [h']
  simp only [Option.bind_some, if_true]
  rw [if_neg (by omega), if_neg (by omega)]
theorem of_zero (k : Nat) : round_Of.f (k + 1) 0 false 0 0 = some (0, false, 0, 0, 0, false, none) := by
  unfold round_Of.f
  rw [sound_zero]
  rfl
theorem of_nar (k : Nat) : round_Of.f (k + 1) 2 false 0 0 = some (2, false, 0, 0, 0, false, none) := by
  unfold round_Of.f
  rw [sound_nar]
  rfl
theorem convert_yes {n m p : Nat} (hn : Wd n) (hm : Wd m) (hp : p < 2 ^ 64) : ∃ q : Nat, (∀ k, gen_Convert.f (k + 80) (n : Int) (m : Int) (p : Int) = some ((q : Int), none)) ∧
    ((p % 2 ^ n = 0 ∧ q = 0) ∨ (p % 2 ^ n = 2 ^ (n - 1) ∧ q = 2 ^ (m - 1)) ∨ (knd n (p % 2 ^ n) = 1 ∧ ∃ s f, Dec n (mag n (p % 2 ^ n)) s f ∧ q = sg m (sgn n (p % 2 ^ n)) (rpos m s (f * 2 ^ 64) false))) := by
  rcases knd_cases n (p % 2 ^ n) with ⟨h0, h1⟩ | h1 | ⟨h0, h1⟩
  · refine ⟨0, fun k => ?_, .inl ⟨h1, rfl⟩⟩
    unfold gen_Convert.f
    rw [of_yes hm, decode_zero hn hp h0]
    simp only [Option.bind_some, Option.isNone_none, if_true]
    rw [of_zero (k + 79)]
    simp only [Option.bind_some]
    rw [round_zero hm (k + 79)]
    rfl
  · obtain ⟨s, f, hd, hf⟩ := decode_real hn hp h1
    refine ⟨_, fun k => ?_, .inr (.inr ⟨h1, s, f, hd, rfl⟩)⟩
    have hb := hn.bd
    obtain ⟨g1, g2, g3, g4, _⟩ := hd
    unfold gen_Convert.f
    rw [of_yes hm, hf (k + 72)]
    simp only [Option.bind_some, Option.isNone_none, if_true]
    rw [of_real (k + 79) _ g1 g2 (by omega) (by omega)]
    simp only [Option.bind_some]
    have hr := round_real hm (sgn n (p % 2 ^ n)) false (s := s) (l := 0) g1 g2 (by decide) (by omega) (by omega) k
    rw [Nat.add_zero (f * 2 ^ 64)] at hr
    have hr' : round_Round.f (k + 80) (m : Int) 1 (sgn n (p % 2 ^ n)) s (f : Int) 0 false = _ := hr
    rw [hr', Option.bind_some]
  · refine ⟨_, fun k => ?_, .inr (.inl ⟨h1, rfl⟩)⟩
    unfold gen_Convert.f
    rw [of_yes hm, decode_nar hn hp h0]
    simp only [Option.bind_some, Option.isNone_none, if_true]
    rw [of_nar (k + 79)]
    simp only [Option.bind_some]
    rw [round_nar hm (k + 79)]
    rfl
theorem sg_lt {n : Nat} (hn : Wd n) (neg : Bool) {p : Nat} (h1 : 1 ≤ p) (h2 : p < 2 ^ (n - 1)) : sg n neg p < 2 ^ n := by
  have := two_half hn
  unfold sg
  split <;> omega
theorem sg_mag {n y : Nat} (hy : y < 2 ^ n) : sg n (sgn n y) (mag n y) = y := by
  unfold sg sgn mag
  by_cases c : 2 ^ (n - 1) ≤ y
  · rw [if_pos c, decide_eq_true c, if_pos rfl]; omega
  · rw [if_neg c, decide_eq_false c, if_neg (by decide)]
theorem sg_mul {n j : Nat} (neg : Bool) {p : Nat} : sg n neg p * 2 ^ j = sg (n + j) neg (p * 2 ^ j) := by
  unfold sg
  split
  · rw [Nat.sub_mul, Nat.pow_add]
  · rfl
theorem convert_widen {n m p : Nat} (hn : Wd n) (hm : Wd m) (hnm : n ≤ m) (hp : p < 2 ^ 64) (k : Nat) :
    gen_Convert.f (k + 80) (n : Int) (m : Int) (p : Int) = some (((p % 2 ^ n * 2 ^ (m - n) : Nat) : Int), none) := by
  obtain ⟨q, hq, h⟩ := convert_yes hn hm hp
  rw [hq k]
  congr 3
  have hy : p % 2 ^ n < 2 ^ n := Nat.mod_lt _ (pow_pos _)
  rcases h with ⟨h1, h2⟩ | ⟨h1, h2⟩ | ⟨h1, s, f, hd, h2⟩
  · rw [h1, h2, Nat.zero_mul]
  · rw [h1, h2, ← Nat.pow_add]
    have := hn.bd
    exact congrArg (2 ^ ·) (by omega)
  · have hmb := mag_bd hn hy h1
    rw [h2, (hd.widen hn hm hnm hmb.2).1]
    have := sg_mul (n := n) (j := m - n) (sgn n (p % 2 ^ n)) (p := mag n (p % 2 ^ n))
    rw [sg_mag hy, show n + (m - n) = m by omega] at this
    exact this.symm
end Go.Proofs.Ytnlbfomlfhigcaa.M
namespace Go.Proofs.Ytnlbfomlfhigcaa.M
open Go.RowKit Go.Proofs.YtnlbfomlfhigcaaW.PrintWords Go.Proofs.YtnlbfomlfhigcaaW.PrintLast Go.Proofs.YtnlbfomlfhigcaaW.PrintMore Go.Proofs.Ytnlbfomlfhigcaa.Q
theorem lfv_lft {n L V : Nat} (hn : Wd n) (h1 : 4 ≤ L) (h2 : L ≤ 73) : lfv (L + 128 - n) (V % 2 ^ (L + 128 - n)) false = lft n (V * 2 ^ (73 - L)) false ∧ V * 2 ^ (73 - L) / 2 ^ (201 - n) = V / 2 ^ (L + 128 - n) := by
  have hb := hn.bd
  have e : 2 ^ (201 - n) = 2 ^ (L + 128 - n) * 2 ^ (73 - L) := by rw [← Nat.pow_add]; exact congrArg (2 ^ ·) (by omega)
  have hp := pow_pos (73 - L)
  refine ⟨?_, ?_⟩
  · unfold lfv lft
    rw [e, Nat.mul_mod_mul_right]
    generalize 2 ^ (73 - L) = c at *
    generalize 2 ^ (L + 128 - n) = D at *
    generalize V % D = x
    show (if D < 2 * x + 0 then 3 else if D = 2 * x + 0 then 2 else if 0 < 2 * x + 0 then 1 else 0) = (if D * c < 2 * (x * c) + 0 then 3 else if D * c = 2 * (x * c) + 0 then 2 else if 0 < 2 * (x * c) + 0 then 1 else 0)
    simp only [Nat.add_zero, ← Nat.mul_assoc]
    have i1 : (D * c < 2 * x * c) ↔ D < 2 * x := ⟨fun h => Nat.lt_of_mul_lt_mul_right h, fun h => Nat.mul_lt_mul_of_pos_right h hp⟩
    have i2 : (D * c = 2 * x * c) ↔ D = 2 * x := ⟨fun h => Nat.eq_of_mul_eq_mul_right hp h, fun h => by rw [h]⟩
    have i3 : (0 < 2 * x * c) ↔ 0 < 2 * x := ⟨fun h => Nat.pos_of_mul_pos_right h, fun h => Nat.mul_pos h hp⟩
    simp only [i1, i2, i3]
  · rw [e, Nat.mul_div_mul_right _ _ hp]
theorem rsound {neg : Bool} {s : Int} {f : Nat} (hf : 2 ^ 63 ≤ f) (h1 : -270 ≤ s) (h2 : s ≤ 270) : vernierref07_Sound.f 1 neg s (f : Int) 0 false = some true := by
  unfold vernierref07_Sound.f
  rw [if_neg (by decide), if_neg (by decide), if_pos rfl, if_pos (by omega), if_pos (by omega), decide_eq_true (by omega)]
theorem rcut_j1 {n : Nat} (hn : Wd n) (neg : Bool) {s : Int} {f : Nat} {g : ByteArray} (hf : 2 ^ 63 ≤ f) (hf2 : f < 2 ^ 64) (h1 : 8 - 4 * (n : Int) ≤ s) (h2 : s < 4 * (n : Int) - 8) (hg : IsBits g 127 ((f - 2 ^ 63) * 2 ^ 64)) (k : Nat) :
    ∃ q l : Nat, vernierref07_Cut.j1 (k + 399) (n : Int) g false 1 neg s (f : Int) 0 false = some ((q : Int), (l : Int), 0) ∧ rpos n s (f * 2 ^ 64) false = if l = 3 ∨ (l = 2 ∧ q % 2 = 1) then q + 1 else q := by
  have hb := hn.bd
  obtain ⟨b, L, v, hH, hB, hL4, hL73, hS⟩ := rhead (s := s) (by omega) (by omega) (k + 248)
  have hA := hB.append hg
  have hs := hB.1
  have hgs := hg.1
  have hAs := hA.1
  have hw : wrap64 ((n : Int) - 1) = ((n - 1 : Nat) : Int) := by unfold wrap64; omega
  have hN := hA.extract (i := 0) (j := n - 1) (by omega) (by omega)
  have hR := hA.extract (i := n - 1) (j := L + 127) (by omega) (by omega)
  have e1 : n - 1 - 0 = n - 1 := Nat.sub_zero _
  have e2 : L + 127 - (n - 1) = L + 128 - n := by omega
  rw [e1, e2] at hN
  rw [Nat.sub_self, Nat.pow_zero, Nat.div_one, e2] at hR
  have hlim := hA.2.1
  generalize hV : v * 2 ^ 127 + (f - 2 ^ 63) * 2 ^ 64 = V at *
  have hY : str s (f * 2 ^ 64) = V * 2 ^ (73 - L) := by
    have e : f * 2 ^ 64 - 2 ^ 127 = (f - 2 ^ 63) * 2 ^ 64 := by rw [Nat.sub_mul]
    rw [hS, ← hV, e]
  obtain ⟨hl, hq⟩ := lfv_lft (V := V) hn hL4 hL73
  have hsz : b.size + g.size ≤ 9223372036854775807 := by omega
  have i1 : (0 : Int) ≤ ((n - 1 : Nat) : Int) := by omega
  have i2 : ((n - 1 : Nat) : Int) ≤ ((b ++ g).size : Int) := by omega
  refine ⟨V / 2 ^ (L + 128 - n) % 2 ^ (n - 1), lfv (L + 128 - n) (V % 2 ^ (L + 128 - n)) false, ?_, ?_⟩
  · rw [show k + 399 = (k + 398) + 1 from rfl, vernierref07_Cut.j1, if_neg (by decide), show k + 398 = (k + 248) + 150 from rfl, hH, Option.bind_some, if_pos hsz, hw, if_pos i1, if_pos i2, Int.toNat_natCast, show k + 248 + 150 = (k + 332) + 66 from rfl, number_bits hN (by omega), Option.bind_some, hAs, show k + 332 + 66 = (k + 136) + 262 from rfl, rleft hR (by omega) (by omega), Option.bind_some]
  · have hmod : V / 2 ^ (L + 128 - n) % 2 ^ (n - 1) = V / 2 ^ (L + 128 - n) := by
      refine Nat.mod_eq_of_lt ?_
      rw [Nat.div_lt_iff_lt_mul (pow_pos _), ← Nat.pow_add]
      have : n - 1 + (L + 128 - n) = L + 127 := by omega
      rw [this]
      exact hlim
    unfold rpos
    rw [if_neg (by omega), if_neg (by omega), rnd_lft hn, hY, hmod, hl, hq]
theorem str_least {n : Nat} (hn : Wd n) : str (8 - 4 * (n : Int)) (2 ^ 127) = 2 ^ (201 - n) := by
  have hb := hn.bd
  rw [str_neg (r := n - 2) (by omega) (by omega), tl_least (by omega), Nat.zero_mul, Nat.add_zero, ← Nat.pow_add]
  exact congrArg (2 ^ ·) (by omega)
theorem rcut {n : Nat} (hn : Wd n) (neg : Bool) {s : Int} {f : Nat} (hf : 2 ^ 63 ≤ f) (hf2 : f < 2 ^ 64) (h1 : -270 ≤ s) (h2 : s ≤ 270) (k : Nat) :
    ∃ q l : Nat, vernierref07_Cut.f (k + 400) (n : Int) 1 neg s (f : Int) 0 false = some ((q : Int), (l : Int), 0) ∧ rpos n s (f * 2 ^ 64) false = if l = 3 ∨ (l = 2 ∧ q % 2 = 1) then q + 1 else q := by
  have hb := hn.bd
  obtain ⟨t1, hT1, hB1⟩ := text_bits f (n := 64) (by omega) (k + 334)
  obtain ⟨t2, hT2, hB2⟩ := text_bits 0 (n := 64) (by omega) (k + 334)
  have hT1' : vernierref01_Text.f (k + 400) (f : Int) 64 = some t1 := hT1
  have hT2' : vernierref01_Text.f (k + 400) 0 64 = some t2 := hT2
  rw [Nat.mod_eq_of_lt hf2] at hB1
  rw [Nat.zero_mod] at hB2
  have hx := hB1.extract (i := 1) (j := 64) (by omega) (by omega)
  have hfm : f / 2 ^ (64 - 64) % 2 ^ (64 - 1) = f - 2 ^ 63 := by
    rw [Nat.sub_self, Nat.pow_zero, Nat.div_one]
    omega
  rw [hfm] at hx
  have hD := hx.append hB2
  rw [show (f - 2 ^ 63) * 2 ^ 64 + 0 = (f - 2 ^ 63) * 2 ^ 64 from Nat.add_zero _, show 64 - 1 + 64 = 127 from rfl] at hD
  have hs1 := hB1.1
  have hs2 := hB2.1
  have hxs := hx.1
  have hw4 : wrap64 (wrap64 (4 * (n : Int)) - 8) = 4 * (n : Int) - 8 := by
    rw [wrap64_id (n := 4 * (n : Int)) (by omega) (by omega), wrap64_id (by omega) (by omega)]
  have hwn : wrap64 (-(4 * (n : Int) - 8)) = 8 - 4 * (n : Int) := by
    rw [wrap64_id (by omega) (by omega)]
    omega
  have hsz : (t1.extract 1 64).size + t2.size ≤ 9223372036854775807 := by omega
  have i1 : (1 : Int) ≤ (t1.size : Int) := by omega
  unfold vernierref07_Cut.f
  rw [isw_yes hn, Option.bind_some, rsound hf h1 h2, Option.bind_some, if_pos rfl, if_pos rfl, if_pos rfl, hT1', Option.bind_some, if_pos i1, hT2', Option.bind_some, hs1, if_pos hsz, if_neg (by decide), show k + 400 = (k + 140) + 260 from rfl, some_bits hD (by omega), Option.bind_some, show k + 140 + 260 = (k + 399) + 1 from rfl, vernierref07_Cut.j0, hw4, hwn]
  by_cases ca : s ≥ 4 * (n : Int) - 8
  · have hw : wrap64 ((n : Int) - 1) = ((n - 1 : Nat) : Int) := by unfold wrap64; omega
    have hp := pow_pos (n - 1)
    have hp2 : 2 ^ (n - 1) ≤ 2 ^ 63 := pow_le (by omega)
    have hu : IntKind.u64.wrap (((2 ^ (n - 1) : Nat) : Int) - 1) = ((2 ^ (n - 1) - 1 : Nat) : Int) := by
      rw [u64w]
      generalize 2 ^ (n - 1) = z at *
      omega
    rw [if_pos ca, hw, show k + 399 = (k + 333) + 66 from rfl, power_val (by omega), Option.bind_some, hu]
    refine ⟨_, 0, rfl, ?_⟩
    unfold rpos
    rw [if_pos (by omega), if_neg (by omega)]
  · rw [if_neg ca]
    have hone : ∃ q l : Nat, vernierref07_Cut.j1 (k + 399) (n : Int) (t1.extract 1 64 ++ t2) true 1 neg s (f : Int) 0 false = some ((q : Int), (l : Int), 0) ∧ q = 1 ∧ l = 0 := by
      refine ⟨1, 0, ?_, rfl, rfl⟩
      rw [show k + 399 = (k + 398) + 1 from rfl, vernierref07_Cut.j1, if_pos rfl]
      rfl
    by_cases cb : s < 8 - 4 * (n : Int)
    · rw [if_pos cb]
      obtain ⟨q, l, e, rfl, rfl⟩ := hone
      refine ⟨1, 0, e, ?_⟩
      unfold rpos
      rw [if_neg (by omega), if_pos cb, if_neg (by omega)]
    · rw [if_neg cb]
      by_cases cc : s = 8 - 4 * (n : Int)
      · rw [if_pos cc]
        by_cases cw : (f - 2 ^ 63) * 2 ^ 64 = 0
        · rw [decide_eq_false (p := (f - 2 ^ 63) * 2 ^ 64 ≠ 0) (fun h => h cw), Bool.not_false]
          obtain ⟨q, l, e, rfl, rfl⟩ := hone
          refine ⟨1, 0, e, ?_⟩
          have hf3 : f = 2 ^ 63 := by omega
          unfold rpos
          rw [if_neg (by omega), if_neg cb, if_neg (by omega), hf3, cc, show (2 : Nat) ^ 63 * 2 ^ 64 = 2 ^ 127 by decide, str_least hn, (unit_eq hn).2]
          show rnd (2 * 2 ^ (201 - n)) (2 * 2 ^ (201 - n) + 0) = 1
          have := rnd_mul (D := 2 * 2 ^ (201 - n)) (q := 1) (by have := pow_pos (201 - n); omega)
          rw [Nat.one_mul] at this
          rw [Nat.add_zero]
          exact this
        · rw [decide_eq_true (p := (f - 2 ^ 63) * 2 ^ 64 ≠ 0) cw, Bool.not_true]
          exact rcut_j1 hn neg hf hf2 (by omega) (by omega) hD k
      · rw [if_neg cc]
        exact rcut_j1 hn neg hf hf2 (by omega) (by omega) hD k
theorem rround {n : Nat} (hn : Wd n) (neg : Bool) {s : Int} {f : Nat} (hf : 2 ^ 63 ≤ f) (hf2 : f < 2 ^ 64) (h1 : -270 ≤ s) (h2 : s ≤ 270) (k : Nat) :
    vernierref07_Round.f (k + 400) (n : Int) 1 neg s (f : Int) 0 false = some ((sg n neg (rpos n s (f * 2 ^ 64) false) : Nat) : Int) := by
  have hb := hn.bd
  obtain ⟨q, l, hc, hr⟩ := rcut hn neg hf hf2 h1 h2 k
  have hbd := rpos_bd hn s (F := f * 2 ^ 64) false (by omega)
  have hN := two_half hn
  have h64 : 2 ^ n ≤ 2 ^ 64 := pow_le hb.2
  rw [p64] at h64
  generalize hp : rpos n s (f * 2 ^ 64) false = p at *
  have hneg : ∀ x : Nat, 1 ≤ x → x ≤ 2 ^ (n - 1) - 1 → vernierref06_Neg.f (k + 399) (n : Int) (x : Int) = some ((2 ^ n - x : Nat) : Int) := by
    intro x hx hx2
    unfold vernierref06_Neg.f
    have e : IntKind.u64.wrap (-(x : Int)) = ((2 ^ 64 - x : Nat) : Int) := by
      rw [u64w, p64]
      omega
    rw [e, show k + 399 = (k + 333) + 66 from rfl, rfold_yes hn, Option.bind_some]
    congr 2
    have hd : 2 ^ 64 = 2 ^ (64 - n) * 2 ^ n := by rw [← Nat.pow_add]; exact congrArg (2 ^ ·) (by omega)
    have hpA := pow_pos (64 - n)
    rw [hd]
    generalize 2 ^ (64 - n) = A at *
    generalize 2 ^ n = N at *
    obtain ⟨B, rfl⟩ : ∃ B, A = B + 1 := ⟨A - 1, by omega⟩
    rw [Nat.add_mul, Nat.one_mul, Nat.add_sub_assoc (by omega), Nat.add_comm, Nat.add_mul_mod_self_right, Nat.mod_eq_of_lt (by omega)]
  have hj : ∀ (x : Nat) (up : Bool), p = (if up = true then x + 1 else x) → vernierref07_Rounds.j0 (k + 400) (n : Int) (x : Int) up 1 neg s (f : Int) 0 false = some (((sg n neg p : Nat) : Int), 0) := by
    intro x up hx
    have hw : IntKind.u64.wrap ((x : Int) + 1) = ((x + 1 : Nat) : Int) ∨ up = false := by
      cases up
      · exact Or.inr rfl
      · left
        rw [if_pos rfl] at hx
        rw [u64w]
        omega
    rw [show k + 400 = (k + 399) + 1 from rfl, vernierref07_Rounds.j0]
    unfold sg
    cases up
    · rw [if_neg (by decide)] at hx ⊢
      subst hx
      cases neg
      · rw [if_neg (by decide), if_neg (by decide)]
      · rw [if_pos rfl, if_pos rfl, hneg p hbd.1 hbd.2, Option.bind_some]
    · rw [if_pos rfl] at hx ⊢
      rcases hw with hw | hw
      · rw [hw]
        subst hx
        cases neg
        · rw [if_neg (by decide), if_neg (by decide)]
        · rw [if_pos rfl, if_pos rfl, hneg _ hbd.1 hbd.2, Option.bind_some]
      · cases hw
  unfold vernierref07_Round.f vernierref07_Rounds.f
  rw [hc, Option.bind_some]
  show Option.bind (if (0 : Int) = 0 then (if (l : Int) = 3 then vernierref07_Rounds.j0 (k + 400) (n : Int) (q : Int) true 1 neg s (f : Int) 0 false else (if (l : Int) = 2 then vernierref07_Rounds.j0 (k + 400) (n : Int) (q : Int) ((Int.tmod (q : Int) 2) == 1) 1 neg s (f : Int) 0 false else vernierref07_Rounds.j0 (k + 400) (n : Int) (q : Int) false 1 neg s (f : Int) 0 false)) else some (0, 0)) _ = _
  rw [if_pos rfl]
  by_cases c3 : l = 3
  · rw [if_pos (by omega), hj q true (by rw [if_pos rfl, hr, if_pos (Or.inl c3)]), Option.bind_some]
  · rw [if_neg (by omega)]
    by_cases c2 : l = 2
    · rw [if_pos (by omega)]
      have ht : (Int.tmod (q : Int) 2 == 1) = decide (q % 2 = 1) := by
        rw [Int.tmod_eq_emod_of_nonneg (Int.natCast_nonneg _)]
        by_cases c : q % 2 = 1
        · rw [decide_eq_true c]
          exact beq_iff_eq.mpr (by omega)
        · rw [decide_eq_false c]
          exact beq_eq_false_iff_ne.mpr (by omega)
      rw [ht, hj q _ ?_, Option.bind_some]
      rw [hr]
      by_cases c : q % 2 = 1
      · rw [if_pos (Or.inr ⟨c2, c⟩), decide_eq_true c, if_pos rfl]
      · rw [if_neg (by omega), decide_eq_false c, if_neg (by decide)]
    · rw [if_neg (by omega), hj q false (by rw [if_neg (by decide), hr, if_neg (by omega)]), Option.bind_some]
end Go.Proofs.Ytnlbfomlfhigcaa.M
namespace Go.Proofs.Ytnlbfomlfhigcaa.M
open Go.RowKit Go.Proofs.YtnlbfomlfhigcaaW.PrintWords Go.Proofs.YtnlbfomlfhigcaaW.PrintLast Go.Proofs.YtnlbfomlfhigcaaW.PrintMore Go.Proofs.Ytnlbfomlfhigcaa.Q
theorem rround_zero {n : Nat} (hn : Wd n) (k : Nat) : vernierref07_Round.f (k + 400) (n : Int) 0 false 0 0 0 false = some 0 := by
  unfold vernierref07_Round.f vernierref07_Rounds.f vernierref07_Cut.f
  rw [isw_yes hn]
  rfl
theorem rround_nar {n : Nat} (hn : Wd n) (k : Nat) : vernierref07_Round.f (k + 400) (n : Int) 2 false 0 0 0 false = some ((2 ^ (n - 1) : Nat) : Int) := by
  have hb := hn.bd
  have hw : wrap64 ((n : Int) - 1) = ((n - 1 : Nat) : Int) := by unfold wrap64; omega
  unfold vernierref07_Round.f vernierref07_Rounds.f vernierref07_Cut.f
  rw [isw_yes hn, hw, show k + 400 = (k + 334) + 66 from rfl, power_val (by omega)]
  rfl
theorem rconvert {n m p : Nat} (hn : Wd n) (hm : Wd m) (hp : p < 2 ^ 64) : ∃ q : Nat, (∀ k, gen_Convert.f (k + 80) (n : Int) (m : Int) (p : Int) = some ((q : Int), none)) ∧ ∀ k, vernierref14_Convert.f (k + 400) (n : Int) (m : Int) (p : Int) = some (q : Int) := by
  obtain ⟨q, hq, hh⟩ := convert_yes hn hm hp
  refine ⟨q, hq, fun k => ?_⟩
  unfold vernierref14_Convert.f vernierref06_Decode.f
  rcases hh with ⟨h, rfl⟩ | ⟨h, rfl⟩ | ⟨h, s, f, hd, rfl⟩
  · have hk : knd n (p % 2 ^ n) = 0 := by unfold knd; rw [if_pos h]
    rw [show k + 400 = (k + 260) + 140 from rfl, rdec_zero hn hk]
    show ((vernierref07_Round.f (k + 400) (m : Int) 0 false 0 0 0 false).bind fun t => some t) = _
    rw [rround_zero hm]
    rfl
  · have hp1 := pow_pos (n - 1)
    have hk : knd n (p % 2 ^ n) = 2 := by unfold knd; rw [if_neg (by omega), if_pos h]
    rw [show k + 400 = (k + 260) + 140 from rfl, rdec_nar hn hk]
    show ((vernierref07_Round.f (k + 400) (m : Int) 2 false 0 0 0 false).bind fun t => some t) = _
    rw [rround_nar hm]
    rfl
  · obtain ⟨s', f', hd', hD⟩ := rdec_real hn hp h
    obtain ⟨rfl, rfl⟩ := hd.uniq hn hd'
    have hb := hn.bd
    have hd2 := hd
    unfold Dec at hd2
    rw [show k + 400 = (k + 260) + 140 from rfl, hD, Option.bind_some, Option.bind_some]
    have hof : vernierref07_Of.f 1 (sgn n (p % 2 ^ n)) s (f : Int) = some (1, sgn n (p % 2 ^ n), s, (f : Int), 0, false, 0) := by
      unfold vernierref07_Of.f vernierref06_Sound.f
      rw [if_neg (by decide), if_neg (by decide), if_pos rfl, if_pos (by omega), if_pos (by omega), decide_eq_true (by omega), Option.bind_some, if_pos rfl]
    show ((vernierref07_Of.f 1 (sgn n (p % 2 ^ n)) s (f : Int)).bind _) = _
    rw [hof, Option.bind_some]
    show ((vernierref07_Round.f (k + 400) (m : Int) 1 (sgn n (p % 2 ^ n)) s (f : Int) 0 false).bind fun t => some t) = _
    rw [rround hm _ hd2.1 hd2.2.1 (by omega) (by omega), Option.bind_some]
end Go.Proofs.Ytnlbfomlfhigcaa.M
namespace Go.Proofs.Ytnlbfomlfhigcaa.M
open Go.RowKit Go.Proofs.YtnlbfomlfhigcaaW.PrintWords Go.Proofs.YtnlbfomlfhigcaaW.PrintLast Go.Proofs.YtnlbfomlfhigcaaW.PrintMore Go.Proofs.Ytnlbfomlfhigcaa.Q
theorem to_val {n m x : Nat} (hn : Wd n) (hm : Wd m) (hx : x < 2 ^ 64) : ∃ q : Nat, q < 2 ^ m ∧ (∀ k, gen_Convert.f (k + 80) (n : Int) (m : Int) ((x % 2 ^ n : Nat) : Int) = some ((q : Int), none)) ∧ ∀ k, vernierref14_Convert.f (k + 400) (n : Int) (m : Int) (x : Int) = some (q : Int) := by
  have hbm := hm.bd
  have e := two_half hm
  have hpm := pow_pos (m - 1)
  have hy : x % 2 ^ n < 2 ^ 64 := Nat.lt_of_le_of_lt (Nat.mod_le _ _) hx
  obtain ⟨q, h1, h2⟩ := rconvert hn hm hx
  obtain ⟨q1, g1, d1⟩ := convert_yes hn hm hx
  obtain ⟨q2, g2, d2⟩ := convert_yes hn hm hy
  rw [Nat.mod_mod] at d2
  have hq : q = q1 := by
    have := (h1 0).symm.trans (g1 0)
    have h := congrArg (fun o => (o.getD (0, none)).1) this
    exact Int.ofNat.inj h
  subst hq
  have hqq : q = q2 ∧ q < 2 ^ m := by
    have hp1 := pow_pos (n - 1)
    have hk0 : x % 2 ^ n = 0 → knd n (x % 2 ^ n) = 0 := fun h => by unfold knd; rw [if_pos h]
    have hk2 : x % 2 ^ n = 2 ^ (n - 1) → knd n (x % 2 ^ n) = 2 := fun h => by unfold knd; rw [if_neg (by omega), if_pos h]
    rcases d1 with ⟨a, rfl⟩ | ⟨a, rfl⟩ | ⟨a, s, f, hd, rfl⟩
    · rcases d2 with ⟨b, rfl⟩ | ⟨b, rfl⟩ | ⟨b, _⟩
      · exact ⟨rfl, by omega⟩
      · omega
      · have := hk0 a
        omega
    · rcases d2 with ⟨b, rfl⟩ | ⟨b, rfl⟩ | ⟨b, _⟩
      · omega
      · exact ⟨rfl, by omega⟩
      · have := hk2 a
        omega
    · rcases d2 with ⟨b, rfl⟩ | ⟨b, rfl⟩ | ⟨b, s', f', hd', rfl⟩
      · have := hk0 b
        omega
      · have := hk2 b
        omega
      · obtain ⟨rfl, rfl⟩ := hd.uniq hn hd'
        have hr := rpos_bd hm s (F := f * 2 ^ 64) false hd.F.2
        exact ⟨rfl, sg_lt hm _ hr.1 (by omega)⟩
  obtain ⟨rfl, hlt⟩ := hqq
  exact ⟨q, hlt, g2, h2⟩
end Go.Proofs.Ytnlbfomlfhigcaa.M
namespace Go.Proofs.Ytnlbfomlfhigcaa.Pure
open Go.RowKit Go.Proofs.Ytnlbfomlfhigcaa.Q Go.Proofs.Ytnlbfomlfhigcaa.M Go.Proofs.YtnlbfomlfhigcaaW.PrintWords Go.Proofs.YtnlbfomlfhigcaaW.PrintLast
theorem u16w (n : Int) : IntKind.u16.wrap n = n % 65536 := by simp [IntKind.wrap, IntKind.bits, IntKind.signed]
theorem up_run410 : vernierlaw14_up.f 410 = some true := by decide +kernel
theorem w8_410 : gen_P8_57.f 410 = some 8 := by decide +kernel
theorem w16_410 : gen_P16_61.f 410 = some 16 := by decide +kernel
theorem w32_410 : gen_P32_63.f 410 = some 32 := by decide +kernel
theorem w64_410 : gen_P64_22.f 410 = some 64 := by decide +kernel
theorem w8_409 : gen_P8_57.f 409 = some 8 := by decide +kernel
theorem w16_409 : gen_P16_61.f 409 = some 16 := by decide +kernel
theorem w32_409 : gen_P32_63.f 409 = some 32 := by decide +kernel
theorem w64_409 : gen_P64_22.f 409 = some 64 := by decide +kernel
theorem w8_408 : gen_P8_57.f 408 = some 8 := by decide +kernel
theorem w32_408 : gen_P32_63.f 408 = some 32 := by decide +kernel
theorem w64_408 : gen_P64_22.f 408 = some 64 := by decide +kernel
theorem w8_407 : gen_P8_57.f 407 = some 8 := by decide +kernel
theorem w16_407 : gen_P16_61.f 407 = some 16 := by decide +kernel
theorem w64_407 : gen_P64_22.f 407 = some 64 := by decide +kernel
theorem own_408 : vernierlaw14_Own.f 408 = some 16 := by decide +kernel
theorem u32_407 : gen_Width_uint32.f 407 = some 32 := by decide +kernel
theorem t_gen_P8_36 (x : Nat) (hx : x < 2 ^ 64) : ∃ q : Nat, q < 2 ^ 16 ∧ gen_P8_36.f 410 ((x % 2 ^ 8 : Nat) : Int) = some (q : Int) ∧ vernierref14_Convert.f 410 8 16 (x : Int) = some (q : Int) ∧ IntKind.u64.wrap (q : Int) = (q : Int) := by
  obtain ⟨q, hq, h1, h2⟩ := to_val (n := 8) (m := 16) (x := x) (by unfold Wd; omega) (by unfold Wd; omega) hx
  have hu : IntKind.u64.wrap (q : Int) = (q : Int) := by rw [u64w]; omega
  have ha : IntKind.u64.wrap ((x % 2 ^ 8 : Nat) : Int) = ((x % 2 ^ 8 : Nat) : Int) := by rw [u64w]; omega
  refine ⟨q, hq, ?_, h2 10, hu⟩
  unfold gen_P8_36.f
  rw [w8_410, Option.bind_some, w16_410, Option.bind_some, ha]
  have h1' : gen_Convert.f 410 8 16 ((x % 2 ^ 8 : Nat) : Int) = some ((q : Int), none) := h1 330
  rw [h1', Option.bind_some]
  refine congrArg some ?_
  first | rfl | (show (q : Int) % _ = (q : Int); omega) | (show IntKind.u16.wrap (q : Int) = (q : Int); rw [u16w]; omega)
theorem t_gen_P8_38 (x : Nat) (hx : x < 2 ^ 64) : ∃ q : Nat, q < 2 ^ 32 ∧ gen_P8_38.f 410 ((x % 2 ^ 8 : Nat) : Int) = some (q : Int) ∧ vernierref14_Convert.f 410 8 32 (x : Int) = some (q : Int) ∧ IntKind.u64.wrap (q : Int) = (q : Int) := by
  obtain ⟨q, hq, h1, h2⟩ := to_val (n := 8) (m := 32) (x := x) (by unfold Wd; omega) (by unfold Wd; omega) hx
  have hu : IntKind.u64.wrap (q : Int) = (q : Int) := by rw [u64w]; omega
  have ha : IntKind.u64.wrap ((x % 2 ^ 8 : Nat) : Int) = ((x % 2 ^ 8 : Nat) : Int) := by rw [u64w]; omega
  refine ⟨q, hq, ?_, h2 10, hu⟩
  unfold gen_P8_38.f
  rw [w8_410, Option.bind_some, w32_410, Option.bind_some, ha]
  have h1' : gen_Convert.f 410 8 32 ((x % 2 ^ 8 : Nat) : Int) = some ((q : Int), none) := h1 330
  rw [h1', Option.bind_some]
  refine congrArg some ?_
  first | rfl | (show (q : Int) % _ = (q : Int); omega) | (show IntKind.u16.wrap (q : Int) = (q : Int); rw [u16w]; omega)
theorem t_gen_P8_11 (x : Nat) (hx : x < 2 ^ 64) : ∃ q : Nat, q < 2 ^ 64 ∧ gen_P8_11.f 410 ((x % 2 ^ 8 : Nat) : Int) = some (q : Int) ∧ vernierref14_Convert.f 410 8 64 (x : Int) = some (q : Int) ∧ IntKind.u64.wrap (q : Int) = (q : Int) := by
  obtain ⟨q, hq, h1, h2⟩ := to_val (n := 8) (m := 64) (x := x) (by unfold Wd; omega) (by unfold Wd; omega) hx
  have hu : IntKind.u64.wrap (q : Int) = (q : Int) := by rw [u64w]; omega
  have ha : IntKind.u64.wrap ((x % 2 ^ 8 : Nat) : Int) = ((x % 2 ^ 8 : Nat) : Int) := by rw [u64w]; omega
  refine ⟨q, hq, ?_, h2 10, hu⟩
  unfold gen_P8_11.f
  rw [w8_410, Option.bind_some, w64_410, Option.bind_some, ha]
  have h1' : gen_Convert.f 410 8 64 ((x % 2 ^ 8 : Nat) : Int) = some ((q : Int), none) := h1 330
  rw [h1', Option.bind_some]
theorem t_gen_P16_39 (x : Nat) (hx : x < 2 ^ 64) : ∃ q : Nat, q < 2 ^ 8 ∧ gen_P16_39.f 409 ((x % 2 ^ 16 : Nat) : Int) = some (q : Int) ∧ vernierref14_Convert.f 409 16 8 (x : Int) = some (q : Int) ∧ IntKind.u64.wrap (q : Int) = (q : Int) := by
  obtain ⟨q, hq, h1, h2⟩ := to_val (n := 16) (m := 8) (x := x) (by unfold Wd; omega) (by unfold Wd; omega) hx
  have hu : IntKind.u64.wrap (q : Int) = (q : Int) := by rw [u64w]; omega
  have ha : IntKind.u64.wrap ((x % 2 ^ 16 : Nat) : Int) = ((x % 2 ^ 16 : Nat) : Int) := by rw [u64w]; omega
  refine ⟨q, hq, ?_, h2 9, hu⟩
  unfold gen_P16_39.f
  rw [w16_409, Option.bind_some, w8_409, Option.bind_some, ha]
  have h1' : gen_Convert.f 409 16 8 ((x % 2 ^ 16 : Nat) : Int) = some ((q : Int), none) := h1 329
  rw [h1', Option.bind_some]
  refine congrArg some ?_
  first | rfl | (show (q : Int) % _ = (q : Int); omega) | (show IntKind.u16.wrap (q : Int) = (q : Int); rw [u16w]; omega)
theorem t_gen_P16_24 (x : Nat) (hx : x < 2 ^ 64) : ∃ q : Nat, q < 2 ^ 32 ∧ gen_P16_24.f 409 ((x % 2 ^ 16 : Nat) : Int) = some (q : Int) ∧ vernierref14_Convert.f 409 16 32 (x : Int) = some (q : Int) ∧ IntKind.u64.wrap (q : Int) = (q : Int) := by
  obtain ⟨q, hq, h1, h2⟩ := to_val (n := 16) (m := 32) (x := x) (by unfold Wd; omega) (by unfold Wd; omega) hx
  have hu : IntKind.u64.wrap (q : Int) = (q : Int) := by rw [u64w]; omega
  have ha : IntKind.u64.wrap ((x % 2 ^ 16 : Nat) : Int) = ((x % 2 ^ 16 : Nat) : Int) := by rw [u64w]; omega
  refine ⟨q, hq, ?_, h2 9, hu⟩
  unfold gen_P16_24.f
  rw [w16_409, Option.bind_some, w32_409, Option.bind_some, ha]
  have h1' : gen_Convert.f 409 16 32 ((x % 2 ^ 16 : Nat) : Int) = some ((q : Int), none) := h1 329
  rw [h1', Option.bind_some]
  refine congrArg some ?_
  first | rfl | (show (q : Int) % _ = (q : Int); omega) | (show IntKind.u16.wrap (q : Int) = (q : Int); rw [u16w]; omega)
theorem t_gen_P16_20 (x : Nat) (hx : x < 2 ^ 64) : ∃ q : Nat, q < 2 ^ 64 ∧ gen_P16_20.f 409 ((x % 2 ^ 16 : Nat) : Int) = some (q : Int) ∧ vernierref14_Convert.f 409 16 64 (x : Int) = some (q : Int) ∧ IntKind.u64.wrap (q : Int) = (q : Int) := by
  obtain ⟨q, hq, h1, h2⟩ := to_val (n := 16) (m := 64) (x := x) (by unfold Wd; omega) (by unfold Wd; omega) hx
  have hu : IntKind.u64.wrap (q : Int) = (q : Int) := by rw [u64w]; omega
  have ha : IntKind.u64.wrap ((x % 2 ^ 16 : Nat) : Int) = ((x % 2 ^ 16 : Nat) : Int) := by rw [u64w]; omega
  refine ⟨q, hq, ?_, h2 9, hu⟩
  unfold gen_P16_20.f
  rw [w16_409, Option.bind_some, w64_409, Option.bind_some, ha]
  have h1' : gen_Convert.f 409 16 64 ((x % 2 ^ 16 : Nat) : Int) = some ((q : Int), none) := h1 329
  rw [h1', Option.bind_some]
theorem t_gen_P32_40 (x : Nat) (hx : x < 2 ^ 64) : ∃ q : Nat, q < 2 ^ 8 ∧ gen_P32_40.f 408 ((x % 2 ^ 32 : Nat) : Int) = some (q : Int) ∧ vernierref14_Convert.f 408 32 8 (x : Int) = some (q : Int) ∧ IntKind.u64.wrap (q : Int) = (q : Int) := by
  obtain ⟨q, hq, h1, h2⟩ := to_val (n := 32) (m := 8) (x := x) (by unfold Wd; omega) (by unfold Wd; omega) hx
  have hu : IntKind.u64.wrap (q : Int) = (q : Int) := by rw [u64w]; omega
  have ha : IntKind.u64.wrap ((x % 2 ^ 32 : Nat) : Int) = ((x % 2 ^ 32 : Nat) : Int) := by rw [u64w]; omega
  refine ⟨q, hq, ?_, h2 8, hu⟩
  unfold gen_P32_40.f
  rw [w32_408, Option.bind_some, w8_408, Option.bind_some, ha]
  have h1' : gen_Convert.f 408 32 8 ((x % 2 ^ 32 : Nat) : Int) = some ((q : Int), none) := h1 328
  rw [h1', Option.bind_some]
  refine congrArg some ?_
  first | rfl | (show (q : Int) % _ = (q : Int); omega) | (show IntKind.u16.wrap (q : Int) = (q : Int); rw [u16w]; omega)
theorem t_gen_P32_41 (x : Nat) (hx : x < 2 ^ 64) : ∃ q : Nat, q < 2 ^ 16 ∧ gen_P32_41.f 408 ((x % 2 ^ 32 : Nat) : Int) = some (q : Int) ∧ vernierref14_Convert.f 408 32 16 (x : Int) = some (q : Int) ∧ IntKind.u64.wrap (q : Int) = (q : Int) := by
  obtain ⟨q, hq, h1, h2⟩ := to_val (n := 32) (m := 16) (x := x) (by unfold Wd; omega) (by unfold Wd; omega) hx
  have hu : IntKind.u64.wrap (q : Int) = (q : Int) := by rw [u64w]; omega
  have ha : IntKind.u64.wrap ((x % 2 ^ 32 : Nat) : Int) = ((x % 2 ^ 32 : Nat) : Int) := by rw [u64w]; omega
  refine ⟨q, hq, ?_, h2 8, hu⟩
  unfold gen_P32_41.f
  rw [w32_408, Option.bind_some, own_408, Option.bind_some, ha]
  have h1' : gen_Convert.f 408 32 16 ((x % 2 ^ 32 : Nat) : Int) = some ((q : Int), none) := h1 328
  rw [h1', Option.bind_some]
  refine congrArg some ?_
  first | rfl | (show (q : Int) % _ = (q : Int); omega) | (show IntKind.u16.wrap (q : Int) = (q : Int); rw [u16w]; omega)
theorem t_gen_P32_42 (x : Nat) (hx : x < 2 ^ 64) : ∃ q : Nat, q < 2 ^ 64 ∧ gen_P32_42.f 408 ((x % 2 ^ 32 : Nat) : Int) = some (q : Int) ∧ vernierref14_Convert.f 408 32 64 (x : Int) = some (q : Int) ∧ IntKind.u64.wrap (q : Int) = (q : Int) := by
  obtain ⟨q, hq, h1, h2⟩ := to_val (n := 32) (m := 64) (x := x) (by unfold Wd; omega) (by unfold Wd; omega) hx
  have hu : IntKind.u64.wrap (q : Int) = (q : Int) := by rw [u64w]; omega
  have ha : IntKind.u64.wrap ((x % 2 ^ 32 : Nat) : Int) = ((x % 2 ^ 32 : Nat) : Int) := by rw [u64w]; omega
  refine ⟨q, hq, ?_, h2 8, hu⟩
  unfold gen_P32_42.f
  rw [w32_408, Option.bind_some, w64_408, Option.bind_some, ha]
  have h1' : gen_Convert.f 408 32 64 ((x % 2 ^ 32 : Nat) : Int) = some ((q : Int), none) := h1 328
  rw [h1', Option.bind_some]
theorem t_gen_P64_12 (x : Nat) (hx : x < 2 ^ 64) : ∃ q : Nat, q < 2 ^ 8 ∧ gen_P64_12.f 407 ((x % 2 ^ 64 : Nat) : Int) = some (q : Int) ∧ vernierref14_Convert.f 407 64 8 (x : Int) = some (q : Int) ∧ IntKind.u64.wrap (q : Int) = (q : Int) := by
  obtain ⟨q, hq, h1, h2⟩ := to_val (n := 64) (m := 8) (x := x) (by unfold Wd; omega) (by unfold Wd; omega) hx
  have hu : IntKind.u64.wrap (q : Int) = (q : Int) := by rw [u64w]; omega
  have ha : IntKind.u64.wrap ((x % 2 ^ 64 : Nat) : Int) = ((x % 2 ^ 64 : Nat) : Int) := by rw [u64w]; omega
  refine ⟨q, hq, ?_, h2 7, hu⟩
  unfold gen_P64_12.f
  rw [w64_407, Option.bind_some, w8_407, Option.bind_some]
  have h1' : gen_Convert.f 407 64 8 ((x % 2 ^ 64 : Nat) : Int) = some ((q : Int), none) := h1 327
  rw [h1', Option.bind_some]
  refine congrArg some ?_
  first | rfl | (show (q : Int) % _ = (q : Int); omega) | (show IntKind.u16.wrap (q : Int) = (q : Int); rw [u16w]; omega)
theorem t_gen_P64_19 (x : Nat) (hx : x < 2 ^ 64) : ∃ q : Nat, q < 2 ^ 16 ∧ gen_P64_19.f 407 ((x % 2 ^ 64 : Nat) : Int) = some (q : Int) ∧ vernierref14_Convert.f 407 64 16 (x : Int) = some (q : Int) ∧ IntKind.u64.wrap (q : Int) = (q : Int) := by
  obtain ⟨q, hq, h1, h2⟩ := to_val (n := 64) (m := 16) (x := x) (by unfold Wd; omega) (by unfold Wd; omega) hx
  have hu : IntKind.u64.wrap (q : Int) = (q : Int) := by rw [u64w]; omega
  have ha : IntKind.u64.wrap ((x % 2 ^ 64 : Nat) : Int) = ((x % 2 ^ 64 : Nat) : Int) := by rw [u64w]; omega
  refine ⟨q, hq, ?_, h2 7, hu⟩
  unfold gen_P64_19.f
  rw [w64_407, Option.bind_some, w16_407, Option.bind_some]
  have h1' : gen_Convert.f 407 64 16 ((x % 2 ^ 64 : Nat) : Int) = some ((q : Int), none) := h1 327
  rw [h1', Option.bind_some]
  refine congrArg some ?_
  first | rfl | (show (q : Int) % _ = (q : Int); omega) | (show IntKind.u16.wrap (q : Int) = (q : Int); rw [u16w]; omega)
theorem t_gen_P64_43 (x : Nat) (hx : x < 2 ^ 64) : ∃ q : Nat, q < 2 ^ 32 ∧ gen_P64_43.f 407 ((x % 2 ^ 64 : Nat) : Int) = some (q : Int) ∧ vernierref14_Convert.f 407 64 32 (x : Int) = some (q : Int) ∧ IntKind.u64.wrap (q : Int) = (q : Int) := by
  obtain ⟨q, hq, h1, h2⟩ := to_val (n := 64) (m := 32) (x := x) (by unfold Wd; omega) (by unfold Wd; omega) hx
  have hu : IntKind.u64.wrap (q : Int) = (q : Int) := by rw [u64w]; omega
  have ha : IntKind.u64.wrap ((x % 2 ^ 64 : Nat) : Int) = ((x % 2 ^ 64 : Nat) : Int) := by rw [u64w]; omega
  refine ⟨q, hq, ?_, h2 7, hu⟩
  unfold gen_P64_43.f
  rw [w64_407, Option.bind_some, u32_407, Option.bind_some]
  have h1' : gen_Convert.f 407 64 32 ((x % 2 ^ 64 : Nat) : Int) = some ((q : Int), none) := h1 327
  rw [h1', Option.bind_some]
  refine congrArg some ?_
  first | rfl | (show (q : Int) % _ = (q : Int); omega) | (show IntKind.u16.wrap (q : Int) = (q : Int); rw [u16w]; omega)
theorem t_same (x : Nat) (hx : x < 2 ^ 64) : gen_P64_44.f 407 (x : Int) = some (x : Int) := by
  have h := convert_widen (n := 64) (m := 64) (p := x) (by unfold Wd; omega) (by unfold Wd; omega) (Nat.le_refl _) hx 327
  rw [Nat.mod_eq_of_lt hx, Nat.sub_self, Nat.pow_zero, Nat.mul_one] at h
  have h' : gen_Convert.f 407 64 64 (x : Int) = some ((x : Int), none) := h
  unfold gen_P64_44.f
  rw [w64_407, Option.bind_some, Option.bind_some, h', Option.bind_some]
theorem GenTos : vernierlaw14_GenTos.Pure := by
  intro a0 w0
  obtain ⟨x, rfl, hx⟩ : ∃ x : Nat, a0 = (x : Int) ∧ x < 2 ^ 64 := by
    simp [Lit.wf, IntKind.min, IntKind.max, IntKind.signed, IntKind.bits] at w0
    exact ⟨a0.toNat, by omega, by omega⟩
  refine ⟨410, ?_⟩
  have e8 : (x : Int) % 256 = ((x % 2 ^ 8 : Nat) : Int) := by omega
  have e16 : IntKind.u16.wrap (x : Int) = ((x % 2 ^ 16 : Nat) : Int) := by rw [u16w]; omega
  have e32 : (x : Int) % 4294967296 = ((x % 2 ^ 32 : Nat) : Int) := by omega
  have e64 : ((x % 2 ^ 64 : Nat) : Int) = (x : Int) := by omega
  obtain ⟨q1, _, a1, b1, u1⟩ := t_gen_P8_36 x hx
  obtain ⟨q2, _, a2, b2, u2⟩ := t_gen_P8_38 x hx
  obtain ⟨q3, _, a3, b3, u3⟩ := t_gen_P8_11 x hx
  obtain ⟨q4, _, a4, b4, u4⟩ := t_gen_P16_39 x hx
  obtain ⟨q5, _, a5, b5, u5⟩ := t_gen_P16_24 x hx
  obtain ⟨q6, _, a6, b6, u6⟩ := t_gen_P16_20 x hx
  obtain ⟨q7, _, a7, b7, u7⟩ := t_gen_P32_40 x hx
  obtain ⟨q8, _, a8, b8, u8⟩ := t_gen_P32_41 x hx
  obtain ⟨q9, _, a9, b9, u9⟩ := t_gen_P32_42 x hx
  obtain ⟨q10, _, a10, b10, u10⟩ := t_gen_P64_12 x hx
  obtain ⟨q11, _, a11, b11, u11⟩ := t_gen_P64_19 x hx
  obtain ⟨q12, _, a12, b12, u12⟩ := t_gen_P64_43 x hx
  rw [e64] at a10 a11 a12
  unfold vernierlaw14_GenTos.f
  rw [up_run410, Option.bind_some, e8, e16, e32, a1, Option.bind_some, b1, Option.bind_some, u1, if_pos rfl, a2, Option.bind_some, b2, Option.bind_some, u2, if_pos rfl, a3, Option.bind_some, b3, Option.bind_some, beq_self_eq_true]
  rw [show 410 = 409 + 1 from rfl, vernierlaw14_GenTos.j0, a4, Option.bind_some, b4, Option.bind_some, u4, if_pos rfl, a5, Option.bind_some, b5, Option.bind_some, u5, if_pos rfl, a6, Option.bind_some, b6, Option.bind_some, beq_self_eq_true]
  rw [show 409 = 408 + 1 from rfl, vernierlaw14_GenTos.j1, a7, Option.bind_some, b7, Option.bind_some, u7, if_pos rfl, a8, Option.bind_some, b8, Option.bind_some, u8, if_pos rfl, a9, Option.bind_some, b9, Option.bind_some, beq_self_eq_true]
  rw [show 408 = 407 + 1 from rfl, vernierlaw14_GenTos.j2, a10, Option.bind_some, b10, Option.bind_some, u10, if_pos rfl, a11, Option.bind_some, b11, Option.bind_some, u11, if_pos rfl, a12, Option.bind_some, b12, Option.bind_some, if_pos rfl, if_pos rfl, if_pos rfl, if_pos rfl, u12, if_pos rfl, t_same x hx, Option.bind_some, beq_self_eq_true]
end Go.Proofs.Ytnlbfomlfhigcaa.Pure
