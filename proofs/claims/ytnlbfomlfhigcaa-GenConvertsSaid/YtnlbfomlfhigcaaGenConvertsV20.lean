/- Walks and plain laws that the claim stands on: each theorem named calls says that a call of a function returns what its f computes; the others are plain laws of these f, and the words that the walks use. -/
import Derived.Test.YtnlbfomlfhigcaaGenConvertsV18
import Derived.Test.YtnlbfomlfhigcaaGenConvertsV19
import Derived.Test.YtnlbfomlfhigcaaGenConvertsV7
import Derived.Test.YtnlbfomlfhigcaaGenConvertsV16
import Derived.Test.YtnlbfomlfhigcaaGenConvertsV17
import Derived.Test.YtnlbfomlfhigcaaGenConvertsV12
namespace Go.Proofs.Ytnlbfomlfhigcaa.M
open Go.RowKit Go.Proofs.YtnlbfomlfhigcaaW.PrintWords Go.Proofs.YtnlbfomlfhigcaaW.PrintLast Go.Proofs.YtnlbfomlfhigcaaW.PrintMore Go.Proofs.Ytnlbfomlfhigcaa.Q
def NoW (n : Int) : Prop := ¬ (n = 8 ∨ n = 16 ∨ n = 32 ∨ n = 64)
theorem wd_or (n : Int) : (∃ m : Nat, n = (m : Int) ∧ Wd m) ∨ NoW n := by
  unfold NoW Wd
  by_cases h : n = 8 ∨ n = 16 ∨ n = 32 ∨ n = 64
  · left; exact ⟨n.toNat, by omega, by omega⟩
  · right; exact h
theorem of_real (k : Nat) (neg : Bool) {s : Int} {f : Nat} (h1 : 2 ^ 63 ≤ f) (h2 : f < 2 ^ 64) (h3 : -1073741824 ≤ s) (h4 : s ≤ 1073741824) : round_Of.f (k + 1) 1 neg s (f : Int) = some (1, neg, s, (f : Int), 0, false, none) := by
  unfold round_Of.f
  have h := sound_real (l := 0) k neg false (s := s) h1 h2 (by omega) (by omega)
  have h' : round_sound.f (k + 1) 1 neg s (f : Int) 0 false = some true := h
  rw [h']
  simp only [Option.bind_some, if_true]
  rw [if_neg (by omega), if_neg (by omega)]
theorem of_zero (k : Nat) : round_Of.f (k + 1) 0 false 0 0 = some (0, false, 0, 0, 0, false, none) := by
  unfold round_Of.f
  rw [sound_zero]
  rfl
theorem of_nar (k : Nat) : round_Of.f (k + 1) 2 false 0 0 = some (2, false, 0, 0, 0, false, none) := by
  unfold round_Of.f
  rw [sound_nar]
  rfl
theorem convert_no (k : Nat) {n m : Int} (h : NoW n ∨ NoW m) (p : Int) : gen_Convert.f k n m p = some (0, some 2) := by
  unfold gen_Convert.f
  rcases wd_or m with ⟨m, rfl, hm⟩ | hm
  · rw [of_yes hm]
    simp only [Option.bind_some, Option.isNone_none, if_true]
    rw [decode_no (h.resolve_right (fun h2 => h2 (by unfold Wd at hm; omega)))]
    rfl
  · rw [of_no hm]
    rfl
theorem convert_yes {n m p : Nat} (hn : Wd n) (hm : Wd m) (hp : p < 2 ^ 64) : ∃ q : Nat, (∀ k, gen_Convert.f (k + 80) (n : Int) (m : Int) (p : Int) = some ((q : Int), none)) ∧
    ((p % 2 ^ n = 0 ∧ q = 0) ∨ (p % 2 ^ n = 2 ^ (n - 1) ∧ q = 2 ^ (m - 1)) ∨ (knd n (p % 2 ^ n) = 1 ∧ ∃ s f, Dec n (mag n (p % 2 ^ n)) s f ∧ q = sg m (sgn n (p % 2 ^ n)) (rpos m s (f * 2 ^ 64) false))) := by
  rcases knd_cases n (p % 2 ^ n) with ⟨h0, h1⟩ | h1 | ⟨h0, h1⟩
  · refine ⟨0, fun k => ?_, .inl ⟨h1, rfl⟩⟩
    unfold gen_Convert.f
    rw [of_yes hm, decode_zero hn hp h0]
    simp only [Option.bind_some, Option.isNone_none, if_true]
    rw [of_zero (k + 79)]
    simp only [Option.bind_some]
    rw [round_zero hm (k + 79)]
    rfl
  · obtain ⟨s, f, hd, hf⟩ := decode_real hn hp h1
    refine ⟨_, fun k => ?_, .inr (.inr ⟨h1, s, f, hd, rfl⟩)⟩
    have hb := hn.bd
    obtain ⟨g1, g2, g3, g4, _⟩ := hd
    unfold gen_Convert.f
    rw [of_yes hm, hf (k + 72)]
    simp only [Option.bind_some, Option.isNone_none, if_true]
    rw [of_real (k + 79) _ g1 g2 (by omega) (by omega)]
    simp only [Option.bind_some]
    have hr := round_real hm (sgn n (p % 2 ^ n)) false (s := s) (l := 0) g1 g2 (by decide) (by omega) (by omega) k
    rw [Nat.add_zero (f * 2 ^ 64)] at hr
    have hr' : round_Round.f (k + 80) (m : Int) 1 (sgn n (p % 2 ^ n)) s (f : Int) 0 false = _ := hr
    rw [hr', Option.bind_some]
  · refine ⟨_, fun k => ?_, .inr (.inl ⟨h1, rfl⟩)⟩
    unfold gen_Convert.f
    rw [of_yes hm, decode_nar hn hp h0]
    simp only [Option.bind_some, Option.isNone_none, if_true]
    rw [of_nar (k + 79)]
    simp only [Option.bind_some]
    rw [round_nar hm (k + 79)]
    rfl
end Go.Proofs.Ytnlbfomlfhigcaa.M
namespace Go.Proofs.Ytnlbfomlfhigcaa.M
open Go.RowKit Go.Proofs.YtnlbfomlfhigcaaW.PrintWords Go.Proofs.YtnlbfomlfhigcaaW.PrintLast Go.Proofs.YtnlbfomlfhigcaaW.PrintMore Go.Proofs.Ytnlbfomlfhigcaa.Q
theorem lfv_lft {n L V : Nat} (hn : Wd n) (h1 : 4 ≤ L) (h2 : L ≤ 73) : lfv (L + 128 - n) (V % 2 ^ (L + 128 - n)) false = lft n (V * 2 ^ (73 - L)) false ∧ V * 2 ^ (73 - L) / 2 ^ (201 - n) = V / 2 ^ (L + 128 - n) := by
  have hb := hn.bd
  have e : 2 ^ (201 - n) = 2 ^ (L + 128 - n) * 2 ^ (73 - L) := by rw [← Nat.pow_add]; exact congrArg (2 ^ ·) (by omega)
  have hp := pow_pos (73 - L)
  refine ⟨?_, ?_⟩
  · unfold lfv lft
    rw [e, Nat.mul_mod_mul_right]
    generalize 2 ^ (73 - L) = c at *
    generalize 2 ^ (L + 128 - n) = D at *
    generalize V % D = x
    show (if D < 2 * x + 0 then 3 else if D = 2 * x + 0 then 2 else if 0 < 2 * x + 0 then 1 else 0) = (if D * c < 2 * (x * c) + 0 then 3 else if D * c = 2 * (x * c) + 0 then 2 else if 0 < 2 * (x * c) + 0 then 1 else 0)
    simp only [Nat.add_zero, ← Nat.mul_assoc]
    have i1 : (D * c < 2 * x * c) ↔ D < 2 * x := ⟨fun h => Nat.lt_of_mul_lt_mul_right h, fun h => Nat.mul_lt_mul_of_pos_right h hp⟩
    have i2 : (D * c = 2 * x * c) ↔ D = 2 * x := ⟨fun h => Nat.eq_of_mul_eq_mul_right hp h, fun h => by rw [h]⟩
    have i3 : (0 < 2 * x * c) ↔ 0 < 2 * x := ⟨fun h => Nat.pos_of_mul_pos_right h, fun h => Nat.mul_pos h hp⟩
    simp only [i1, i2, i3]
  · rw [e, Nat.mul_div_mul_right _ _ hp]
theorem rsound {neg : Bool} {s : Int} {f : Nat} (hf : 2 ^ 63 ≤ f) (h1 : -270 ≤ s) (h2 : s ≤ 270) : vernierref07_Sound.f 1 neg s (f : Int) 0 false = some true := by
  unfold vernierref07_Sound.f
  rw [if_neg (by decide), if_neg (by decide), if_pos rfl, if_pos (by omega), if_pos (by omega), decide_eq_true (by omega)]
theorem rcut_j1 {n : Nat} (hn : Wd n) (neg : Bool) {s : Int} {f : Nat} {g : ByteArray} (hf : 2 ^ 63 ≤ f) (hf2 : f < 2 ^ 64) (h1 : 8 - 4 * (n : Int) ≤ s) (h2 : s < 4 * (n : Int) - 8) (hg : IsBits g 127 ((f - 2 ^ 63) * 2 ^ 64)) (k : Nat) :
    ∃ q l : Nat, vernierref07_Cut.j1 (k + 399) (n : Int) g false 1 neg s (f : Int) 0 false = some ((q : Int), (l : Int), 0) ∧ rpos n s (f * 2 ^ 64) false = if l = 3 ∨ (l = 2 ∧ q % 2 = 1) then q + 1 else q := by
  have hb := hn.bd
  obtain ⟨b, L, v, hH, hB, hL4, hL73, hS⟩ := rhead (s := s) (by omega) (by omega) (k + 248)
  have hA := hB.append hg
  have hs := hB.1
  have hgs := hg.1
  have hAs := hA.1
  have hw : wrap64 ((n : Int) - 1) = ((n - 1 : Nat) : Int) := by unfold wrap64; omega
  have hN := hA.extract (i := 0) (j := n - 1) (by omega) (by omega)
  have hR := hA.extract (i := n - 1) (j := L + 127) (by omega) (by omega)
  have e1 : n - 1 - 0 = n - 1 := Nat.sub_zero _
  have e2 : L + 127 - (n - 1) = L + 128 - n := by omega
  rw [e1, e2] at hN
  rw [Nat.sub_self, Nat.pow_zero, Nat.div_one, e2] at hR
  have hlim := hA.2.1
  generalize hV : v * 2 ^ 127 + (f - 2 ^ 63) * 2 ^ 64 = V at *
  have hY : str s (f * 2 ^ 64) = V * 2 ^ (73 - L) := by
    have e : f * 2 ^ 64 - 2 ^ 127 = (f - 2 ^ 63) * 2 ^ 64 := by rw [Nat.sub_mul]
    rw [hS, ← hV, e]
  obtain ⟨hl, hq⟩ := lfv_lft (V := V) hn hL4 hL73
  have hsz : b.size + g.size ≤ 9223372036854775807 := by omega
  have i1 : (0 : Int) ≤ ((n - 1 : Nat) : Int) := by omega
  have i2 : ((n - 1 : Nat) : Int) ≤ ((b ++ g).size : Int) := by omega
  refine ⟨V / 2 ^ (L + 128 - n) % 2 ^ (n - 1), lfv (L + 128 - n) (V % 2 ^ (L + 128 - n)) false, ?_, ?_⟩
  · rw [show k + 399 = (k + 398) + 1 from rfl, vernierref07_Cut.j1, if_neg (by decide), show k + 398 = (k + 248) + 150 from rfl, hH, Option.bind_some, if_pos hsz, hw, if_pos i1, if_pos i2, Int.toNat_natCast, show k + 248 + 150 = (k + 332) + 66 from rfl, number_bits hN (by omega), Option.bind_some, hAs, show k + 332 + 66 = (k + 136) + 262 from rfl, rleft hR (by omega) (by omega), Option.bind_some]
  · have hmod : V / 2 ^ (L + 128 - n) % 2 ^ (n - 1) = V / 2 ^ (L + 128 - n) := by
      refine Nat.mod_eq_of_lt ?_
      rw [Nat.div_lt_iff_lt_mul (pow_pos _), ← Nat.pow_add]
      have : n - 1 + (L + 128 - n) = L + 127 := by omega
      rw [this]
      exact hlim
    unfold rpos
    rw [if_neg (by omega), if_neg (by omega), rnd_lft hn, hY, hmod, hl, hq]
theorem str_least {n : Nat} (hn : Wd n) : str (8 - 4 * (n : Int)) (2 ^ 127) = 2 ^ (201 - n) := by
  have hb := hn.bd
  rw [str_neg (r := n - 2) (by omega) (by omega), tl_least (by omega), Nat.zero_mul, Nat.add_zero, ← Nat.pow_add]
  exact congrArg (2 ^ ·) (by omega)
theorem rcut {n : Nat} (hn : Wd n) (neg : Bool) {s : Int} {f : Nat} (hf : 2 ^ 63 ≤ f) (hf2 : f < 2 ^ 64) (h1 : -270 ≤ s) (h2 : s ≤ 270) (k : Nat) :
    ∃ q l : Nat, vernierref07_Cut.f (k + 400) (n : Int) 1 neg s (f : Int) 0 false = some ((q : Int), (l : Int), 0) ∧ rpos n s (f * 2 ^ 64) false = if l = 3 ∨ (l = 2 ∧ q % 2 = 1) then q + 1 else q := by
  have hb := hn.bd
  obtain ⟨t1, hT1, hB1⟩ := text_bits f (n := 64) (by omega) (k + 334)
  obtain ⟨t2, hT2, hB2⟩ := text_bits 0 (n := 64) (by omega) (k + 334)
  have hT1' : vernierref01_Text.f (k + 400) (f : Int) 64 = some t1 := hT1
  have hT2' : vernierref01_Text.f (k + 400) 0 64 = some t2 := hT2
  rw [Nat.mod_eq_of_lt hf2] at hB1
  rw [Nat.zero_mod] at hB2
  have hx := hB1.extract (i := 1) (j := 64) (by omega) (by omega)
  have hfm : f / 2 ^ (64 - 64) % 2 ^ (64 - 1) = f - 2 ^ 63 := by
    rw [Nat.sub_self, Nat.pow_zero, Nat.div_one]
    omega
  rw [hfm] at hx
  have hD := hx.append hB2
  rw [show (f - 2 ^ 63) * 2 ^ 64 + 0 = (f - 2 ^ 63) * 2 ^ 64 from Nat.add_zero _, show 64 - 1 + 64 = 127 from rfl] at hD
  have hs1 := hB1.1
  have hs2 := hB2.1
  have hxs := hx.1
  have hw4 : wrap64 (wrap64 (4 * (n : Int)) - 8) = 4 * (n : Int) - 8 := by
    rw [wrap64_id (n := 4 * (n : Int)) (by omega) (by omega), wrap64_id (by omega) (by omega)]
  have hwn : wrap64 (-(4 * (n : Int) - 8)) = 8 - 4 * (n : Int) := by
    rw [wrap64_id (by omega) (by omega)]
    omega
  have hsz : (t1.extract 1 64).size + t2.size ≤ 9223372036854775807 := by omega
  have i1 : (1 : Int) ≤ (t1.size : Int) := by omega
  unfold vernierref07_Cut.f
  rw [isw_yes hn, Option.bind_some, rsound hf h1 h2, Option.bind_some, if_pos rfl, if_pos rfl, if_pos rfl, hT1', Option.bind_some, if_pos i1, hT2', Option.bind_some, hs1, if_pos hsz, if_neg (by decide), show k + 400 = (k + 140) + 260 from rfl, some_bits hD (by omega), Option.bind_some, show k + 140 + 260 = (k + 399) + 1 from rfl, vernierref07_Cut.j0, hw4, hwn]
  by_cases ca : s ≥ 4 * (n : Int) - 8
  · have hw : wrap64 ((n : Int) - 1) = ((n - 1 : Nat) : Int) := by unfold wrap64; omega
    have hp := pow_pos (n - 1)
    have hp2 : 2 ^ (n - 1) ≤ 2 ^ 63 := pow_le (by omega)
    have hu : IntKind.u64.wrap (((2 ^ (n - 1) : Nat) : Int) - 1) = ((2 ^ (n - 1) - 1 : Nat) : Int) := by
      rw [u64w]
      generalize 2 ^ (n - 1) = z at *
      omega
    rw [if_pos ca, hw, show k + 399 = (k + 333) + 66 from rfl, power_val (by omega), Option.bind_some, hu]
    refine ⟨_, 0, rfl, ?_⟩
    unfold rpos
    rw [if_pos (by omega), if_neg (by omega)]
  · rw [if_neg ca]
    have hone : ∃ q l : Nat, vernierref07_Cut.j1 (k + 399) (n : Int) (t1.extract 1 64 ++ t2) true 1 neg s (f : Int) 0 false = some ((q : Int), (l : Int), 0) ∧ q = 1 ∧ l = 0 := by
      refine ⟨1, 0, ?_, rfl, rfl⟩
      rw [show k + 399 = (k + 398) + 1 from rfl, vernierref07_Cut.j1, if_pos rfl]
      rfl
    by_cases cb : s < 8 - 4 * (n : Int)
    · rw [if_pos cb]
      obtain ⟨q, l, e, rfl, rfl⟩ := hone
      refine ⟨1, 0, e, ?_⟩
      unfold rpos
      rw [if_neg (by omega), if_pos cb, if_neg (by omega)]
    · rw [if_neg cb]
      by_cases cc : s = 8 - 4 * (n : Int)
      · rw [if_pos cc]
        by_cases cw : (f - 2 ^ 63) * 2 ^ 64 = 0
        · rw [decide_eq_false (p := (f - 2 ^ 63) * 2 ^ 64 ≠ 0) (fun h => h cw), Bool.not_false]
          obtain ⟨q, l, e, rfl, rfl⟩ := hone
          refine ⟨1, 0, e, ?_⟩
          have hf3 : f = 2 ^ 63 := by omega
          unfold rpos
          rw [if_neg (by omega), if_neg cb, if_neg (by omega), hf3, cc, show (2 : Nat) ^ 63 * 2 ^ 64 = 2 ^ 127 by decide, str_least hn, (unit_eq hn).2]
          show rnd (2 * 2 ^ (201 - n)) (2 * 2 ^ (201 - n) + 0) = 1
          have := rnd_mul (D := 2 * 2 ^ (201 - n)) (q := 1) (by have := pow_pos (201 - n); omega)
          rw [Nat.one_mul] at this
          rw [Nat.add_zero]
          exact this
        · rw [decide_eq_true (p := (f - 2 ^ 63) * 2 ^ 64 ≠ 0) cw, Bool.not_true]
          exact rcut_j1 hn neg hf hf2 (by omega) (by omega) hD k
      · rw [if_neg cc]
        exact rcut_j1 hn neg hf hf2 (by omega) (by omega) hD k
theorem rround {n : Nat} (hn : Wd n) (neg : Bool) {s : Int} {f : Nat} (hf : 2 ^ 63 ≤ f) (hf2 : f < 2 ^ 64) (h1 : -270 ≤ s) (h2 : s ≤ 270) (k : Nat) :
    vernierref07_Round.f (k + 400) (n : Int) 1 neg s (f : Int) 0 false = some ((sg n neg (rpos n s (f * 2 ^ 64) false) : Nat) : Int) := by
  have hb := hn.bd
  obtain ⟨q, l, hc, hr⟩ := rcut hn neg hf hf2 h1 h2 k
  have hbd := rpos_bd hn s (F := f * 2 ^ 64) false (by omega)
  have hN := two_half hn
  have h64 : 2 ^ n ≤ 2 ^ 64 := pow_le hb.2
  rw [p64] at h64
  generalize hp : rpos n s (f * 2 ^ 64) false = p at *
  have hneg : ∀ x : Nat, 1 ≤ x → x ≤ 2 ^ (n - 1) - 1 → vernierref06_Neg.f (k + 399) (n : Int) (x : Int) = some ((2 ^ n - x : Nat) : Int) := by
    intro x hx hx2
    unfold vernierref06_Neg.f
    have e : IntKind.u64.wrap (-(x : Int)) = ((2 ^ 64 - x : Nat) : Int) := by
      rw [u64w, p64]
      omega
    rw [e, show k + 399 = (k + 333) + 66 from rfl, rfold_yes hn, Option.bind_some]
    congr 2
    have hd : 2 ^ 64 = 2 ^ (64 - n) * 2 ^ n := by rw [← Nat.pow_add]; exact congrArg (2 ^ ·) (by omega)
    have hpA := pow_pos (64 - n)
    rw [hd]
    generalize 2 ^ (64 - n) = A at *
    generalize 2 ^ n = N at *
    obtain ⟨B, rfl⟩ : ∃ B, A = B + 1 := ⟨A - 1, by omega⟩
    rw [Nat.add_mul, Nat.one_mul, Nat.add_sub_assoc (by omega), Nat.add_comm, Nat.add_mul_mod_self_right, Nat.mod_eq_of_lt (by omega)]
  have hj : ∀ (x : Nat) (up : Bool), p = (if up = true then x + 1 else x) → vernierref07_Rounds.j0 (k + 400) (n : Int) (x : Int) up 1 neg s (f : Int) 0 false = some (((sg n neg p : Nat) : Int), 0) := by
    intro x up hx
    have hw : IntKind.u64.wrap ((x : Int) + 1) = ((x + 1 : Nat) : Int) ∨ up = false := by
      cases up
      · exact Or.inr rfl
      · left
        rw [if_pos rfl] at hx
        rw [u64w]
        omega
    rw [show k + 400 = (k + 399) + 1 from rfl, vernierref07_Rounds.j0]
    unfold sg
    cases up
    · rw [if_neg (by decide)] at hx ⊢
      subst hx
      cases neg
      · rw [if_neg (by decide), if_neg (by decide)]
      · rw [if_pos rfl, if_pos rfl, hneg p hbd.1 hbd.2, Option.bind_some]
    · rw [if_pos rfl] at hx ⊢
      rcases hw with hw | hw
      · rw [hw]
        subst hx
        cases neg
        · rw [if_neg (by decide), if_neg (by decide)]
        · rw [if_pos rfl, if_pos rfl, hneg _ hbd.1 hbd.2, Option.bind_some]
      · cases hw
  unfold vernierref07_Round.f vernierref07_Rounds.f
  rw [hc, Option.bind_some]
  show Option.bind (if (0 : Int) = 0 then (if (l : Int) = 3 then vernierref07_Rounds.j0 (k + 400) (n : Int) (q : Int) true 1 neg s (f : Int) 0 false else (if (l : Int) = 2 then vernierref07_Rounds.j0 (k + 400) (n : Int) (q : Int) ((Int.tmod (q : Int) 2) == 1) 1 neg s (f : Int) 0 false else vernierref07_Rounds.j0 (k + 400) (n : Int) (q : Int) false 1 neg s (f : Int) 0 false)) else some (0, 0)) _ = _
  rw [if_pos rfl]
  by_cases c3 : l = 3
  · rw [if_pos (by omega), hj q true (by rw [if_pos rfl, hr, if_pos (Or.inl c3)]), Option.bind_some]
  · rw [if_neg (by omega)]
    by_cases c2 : l = 2
    · rw [if_pos (by omega)]
      have ht : (Int.tmod (q : Int) 2 == 1) = decide (q % 2 = 1) := by
        rw [Int.tmod_eq_emod_of_nonneg (Int.natCast_nonneg _)]
        by_cases c : q % 2 = 1
        · rw [decide_eq_true c]
          exact beq_iff_eq.mpr (by omega)
        · rw [decide_eq_false c]
          exact beq_eq_false_iff_ne.mpr (by omega)
      rw [ht, hj q _ ?_, Option.bind_some]
      rw [hr]
      by_cases c : q % 2 = 1
      · rw [if_pos (Or.inr ⟨c2, c⟩), decide_eq_true c, if_pos rfl]
      · rw [if_neg (by omega), decide_eq_false c, if_neg (by decide)]
    · rw [if_neg (by omega), hj q false (by rw [if_neg (by decide), hr, if_neg (by omega)]), Option.bind_some]
end Go.Proofs.Ytnlbfomlfhigcaa.M
namespace Go.Proofs.Ytnlbfomlfhigcaa.M
open Go.RowKit Go.Proofs.YtnlbfomlfhigcaaW.PrintWords Go.Proofs.YtnlbfomlfhigcaaW.PrintLast Go.Proofs.YtnlbfomlfhigcaaW.PrintMore Go.Proofs.Ytnlbfomlfhigcaa.Q
theorem rround_zero {n : Nat} (hn : Wd n) (k : Nat) : vernierref07_Round.f (k + 400) (n : Int) 0 false 0 0 0 false = some 0 := by
  unfold vernierref07_Round.f vernierref07_Rounds.f vernierref07_Cut.f
  rw [isw_yes hn]
  rfl
theorem rround_nar {n : Nat} (hn : Wd n) (k : Nat) : vernierref07_Round.f (k + 400) (n : Int) 2 false 0 0 0 false = some ((2 ^ (n - 1) : Nat) : Int) := by
  have hb := hn.bd
  have hw : wrap64 ((n : Int) - 1) = ((n - 1 : Nat) : Int) := by unfold wrap64; omega
  unfold vernierref07_Round.f vernierref07_Rounds.f vernierref07_Cut.f
  rw [isw_yes hn, hw, show k + 400 = (k + 334) + 66 from rfl, power_val (by omega)]
  rfl
theorem rconvert {n m p : Nat} (hn : Wd n) (hm : Wd m) (hp : p < 2 ^ 64) : ∃ q : Nat, (∀ k, gen_Convert.f (k + 80) (n : Int) (m : Int) (p : Int) = some ((q : Int), none)) ∧ ∀ k, vernierref14_Convert.f (k + 400) (n : Int) (m : Int) (p : Int) = some (q : Int) := by
  obtain ⟨q, hq, hh⟩ := convert_yes hn hm hp
  refine ⟨q, hq, fun k => ?_⟩
  unfold vernierref14_Convert.f vernierref06_Decode.f
  rcases hh with ⟨h, rfl⟩ | ⟨h, rfl⟩ | ⟨h, s, f, hd, rfl⟩
  · have hk : knd n (p % 2 ^ n) = 0 := by unfold knd; rw [if_pos h]
    rw [show k + 400 = (k + 260) + 140 from rfl, rdec_zero hn hk]
    show ((vernierref07_Round.f (k + 400) (m : Int) 0 false 0 0 0 false).bind fun t => some t) = _
    rw [rround_zero hm]
    rfl
  · have hp1 := pow_pos (n - 1)
    have hk : knd n (p % 2 ^ n) = 2 := by unfold knd; rw [if_neg (by omega), if_pos h]
    rw [show k + 400 = (k + 260) + 140 from rfl, rdec_nar hn hk]
    show ((vernierref07_Round.f (k + 400) (m : Int) 2 false 0 0 0 false).bind fun t => some t) = _
    rw [rround_nar hm]
    rfl
  · obtain ⟨s', f', hd', hD⟩ := rdec_real hn hp h
    obtain ⟨rfl, rfl⟩ := hd.uniq hn hd'
    have hb := hn.bd
    have hd2 := hd
    unfold Dec at hd2
    rw [show k + 400 = (k + 260) + 140 from rfl, hD, Option.bind_some, Option.bind_some]
    have hof : vernierref07_Of.f 1 (sgn n (p % 2 ^ n)) s (f : Int) = some (1, sgn n (p % 2 ^ n), s, (f : Int), 0, false, 0) := by
      unfold vernierref07_Of.f vernierref06_Sound.f
      rw [if_neg (by decide), if_neg (by decide), if_pos rfl, if_pos (by omega), if_pos (by omega), decide_eq_true (by omega), Option.bind_some, if_pos rfl]
    show ((vernierref07_Of.f 1 (sgn n (p % 2 ^ n)) s (f : Int)).bind _) = _
    rw [hof, Option.bind_some]
    show ((vernierref07_Round.f (k + 400) (m : Int) 1 (sgn n (p % 2 ^ n)) s (f : Int) 0 false).bind fun t => some t) = _
    rw [rround hm _ hd2.1 hd2.2.1 (by omega) (by omega), Option.bind_some]
end Go.Proofs.Ytnlbfomlfhigcaa.M
namespace Go.Proofs.Ytnlbfomlfhigcaa.M
open Go.RowKit Go.Proofs.YtnlbfomlfhigcaaW.PrintWords Go.Proofs.YtnlbfomlfhigcaaW.PrintLast Go.Proofs.YtnlbfomlfhigcaaW.PrintMore Go.Proofs.Ytnlbfomlfhigcaa.Q
theorem rconverts (n m : Int) {p : Nat} (hp : p < 2 ^ 64) (k : Nat) : ∃ q : Int, ∃ e : Option Int, ∃ c : Int, gen_Convert.f (k + 400) n m (p : Int) = some (q, e) ∧ vernierref14_Converts.f (k + 400) n m (p : Int) = some (q, c) ∧ vernierlaw00_Code.f e = some c := by
  have no : NoW n ∨ NoW m → ∃ q : Int, ∃ e : Option Int, ∃ c : Int, gen_Convert.f (k + 400) n m (p : Int) = some (q, e) ∧ vernierref14_Converts.f (k + 400) n m (p : Int) = some (q, c) ∧ vernierlaw00_Code.f e = some c := by
    intro h
    refine ⟨0, some 2, 2, convert_no _ h _, ?_, rfl⟩
    unfold vernierref14_Converts.f
    rcases h with h | h
    · rw [isw_no h, Option.bind_some]
      rcases wd_or m with ⟨m', rfl, hm⟩ | hm
      · rw [isw_yes hm]
        rfl
      · rw [isw_no hm]
        rfl
    · rw [isw_no h]
      rcases wd_or n with ⟨n', rfl, hn⟩ | hn
      · rw [isw_yes hn]
        rfl
      · rw [isw_no hn]
        rfl
  rcases wd_or n with ⟨n', rfl, hn⟩ | hn
  · rcases wd_or m with ⟨m', rfl, hm⟩ | hm
    · obtain ⟨q, h1, h2⟩ := rconvert hn hm hp
      refine ⟨(q : Int), none, 0, h1 (k + 320), ?_, rfl⟩
      unfold vernierref14_Converts.f
      rw [isw_yes hn, isw_yes hm, Option.bind_some, Option.bind_some, if_pos rfl, if_pos rfl, h2, Option.bind_some]
    · exact no (Or.inr hm)
  · exact no (Or.inl hn)
end Go.Proofs.Ytnlbfomlfhigcaa.M
namespace Go.Proofs.Ytnlbfomlfhigcaa.Pure
open Go.RowKit Go.Proofs.Ytnlbfomlfhigcaa.Q Go.Proofs.Ytnlbfomlfhigcaa.M Go.Proofs.YtnlbfomlfhigcaaW.PrintWords Go.Proofs.YtnlbfomlfhigcaaW.PrintLast
theorem up_run400 : vernierlaw14_up.f 400 = some true := by decide +kernel
theorem GenConverts : vernierlaw14_GenConverts.Pure := by
  intro a0 a1 a2 _ _ w2
  obtain ⟨p, rfl, hp⟩ : ∃ x : Nat, a2 = (x : Int) ∧ x < 2 ^ 64 := by
    simp [Lit.wf, IntKind.min, IntKind.max, IntKind.signed, IntKind.bits] at w2
    exact ⟨a2.toNat, by omega, by omega⟩
  obtain ⟨q, e, c, h1, h2, h3⟩ := rconverts a0 a1 hp 0
  refine ⟨0 + 400, ?_⟩
  unfold vernierlaw14_GenConverts.f
  rw [show vernierlaw14_up.f (0 + 400) = some true from up_run400, h1, h2, Option.bind_some, Option.bind_some, Option.bind_some, if_pos rfl, if_pos rfl]
  show ((vernierlaw00_Code.f e).bind fun t => some (t == c)) = _
  rw [h3, Option.bind_some, beq_self_eq_true]
end Go.Proofs.Ytnlbfomlfhigcaa.Pure
