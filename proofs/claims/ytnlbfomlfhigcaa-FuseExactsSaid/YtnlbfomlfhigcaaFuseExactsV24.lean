/- Walks and plain laws that the claim stands on: each theorem named calls says that a call of a function returns what its f computes; the others are plain laws of these f, and the words that the walks use. -/
import Derived.Lib.SmallJoins
import Derived.Test.YtnlbfomlfhigcaaProg
import Derived.Test.YtnlbfomlfhigcaaFuseExactsV23
import Derived.Test.YtnlbfomlfhigcaaFuseExactsV19
import Derived.Test.YtnlbfomlfhigcaaFuseExactsV20
namespace Go.Proofs.Ytnlbfomlfhigcaa.M
open Go.RowKit Go.Proofs.YtnlbfomlfhigcaaW.PrintWords Go.Proofs.YtnlbfomlfhigcaaW.PrintLast Go.Proofs.YtnlbfomlfhigcaaW.PrintMore Go.Proofs.Ytnlbfomlfhigcaa.Q
theorem Sout.uniq {u Z : Int} {r r' : Option (Int × Bool × Int × Int × Int × Bool)} (h : Sout u Z r) (h' : Sout u Z r') : r = r' := by
  rcases h with ⟨h1, h2⟩ | ⟨j, h1, h2⟩
  · rcases h' with ⟨h3, h4⟩ | ⟨i, h3, h4⟩
    · rw [h2, h4]
    · rw [h1] at h3
      exact absurd rfl h3.ne
  · rcases h' with ⟨h3, h4⟩ | ⟨i, h3, h4⟩
    · rw [h3] at h1
      exact absurd rfl h1.ne
    · obtain rfl := h1.uniq h3
      rw [h2, h4]
theorem bind_id6 (o : Option (Int × Bool × Int × Int × Int × Bool)) : (o.bind fun b => some (b.1, b.2.1, b.2.2.1, b.2.2.2.1, b.2.2.2.2.1, b.2.2.2.2.2)) = o := by
  cases o <;> rfl
theorem sv_diff_le {n m : Bool} (h : n ≠ m) {A B : Nat} (hle : B ≤ A) : (sv n A + sv m B).natAbs = A - B ∧ (sv n A + sv m B ≠ 0 → n = decide (sv n A + sv m B < 0)) := by
  rw [sv_diff h]
  cases n
  · rw [if_neg (by decide)]
    exact ⟨by omega, fun _ => (decide_eq_false (by omega)).symm⟩
  · rw [if_pos rfl]
    exact ⟨by omega, fun _ => (decide_eq_true (by omega)).symm⟩
theorem sv_diff_lt {n m : Bool} (h : n ≠ m) {A B : Nat} (hlt : A < B) : (sv n A + sv m B).natAbs = B - A ∧ (sv n A + sv m B ≠ 0 → m = decide (sv n A + sv m B < 0)) := by
  have := sv_diff_le (fun e => h e.symm) (Nat.le_of_lt hlt)
  rw [Int.add_comm (sv m B)] at this
  exact this
theorem rsum_j1 {la lb : List Int} {A B d : Nat} {n m : Bool} {sx sy hx lx hy ly : Int} {bx by' : Bool} (ha : Dg la A) (hb : Dg lb B) (hla : la.length ≤ 6) (hlb : lb.length ≤ 6) (hA : A ≠ 0) (hd : d ≤ 400) (b1 : -1099511627776 ≤ sx) (b2 : sx ≤ 1099511627776) (k : Nat) :
    Sout (sx - 127 - (d : Int)) (sv n (A * 2 ^ d) + sv m B) (vernierref09_Sum.j1 (k + 201) la lb (d : Int) 1 n sx hx lx bx 1 m sy hy ly by') := by
  obtain ⟨r, s1, s2, s3⟩ := shl_list (n := d) ha (by omega) (by omega) (k + 150)
  have hX : A * 2 ^ d ≠ 0 := Nat.mul_ne_zero hA (by have := pow_pos d; omega)
  have hw : wrap64 (wrap64 (sx - 127) - (d : Int)) = sx - 127 - (d : Int) := by unfold wrap64; omega
  have e1 : -4000000000000 ≤ sx - 127 - (d : Int) := by omega
  have e2 : sx - 127 - (d : Int) ≤ 4000000000000 := by omega
  have hr41 : r.length ≤ 27 := by omega
  have s1' : vernierref04_Shl.f (k + 200) la (d : Int) = some r := s1
  rw [show k + 201 = (k + 200) + 1 from rfl, vernierref09_Sum.j1, s1', Option.bind_some]
  generalize A * 2 ^ d = X at *
  by_cases hnm : n = m
  · subst hnm
    obtain ⟨t, t1, t2, t3⟩ := add_list s2 hb (by omega) (by omega) (k + 100)
    have t1' : vernierref04_Add.f (k + 200) r lb = some t := t1
    rw [if_pos (by simp), t1', Option.bind_some, hw, bind_id6]
    have h := exactly_val (Z := sv n X + sv n B) (neg := n) (by rw [sv_same]; exact t2) (by omega) e1 e2 (fun _ => sv_same_neg X B hX) (k + 40)
    exact h
  · have hbeq : ¬ ((n == m) = true) := by simpa using hnm
    have hc : vernierref04_Cmp.f (k + 200) r lb = _ := cmp_list s2 hb (by omega) (by omega) (k + 150)
    rw [if_neg hbeq, hc, Option.bind_some]
    by_cases hlt : X < B
    · obtain ⟨t, t1, t2, t3⟩ := sub_list hb s2 (Nat.le_of_lt hlt) (by omega) (k + 100)
      obtain ⟨g1, g2⟩ := sv_diff_lt hnm hlt
      have t1' : vernierref04_Sub.f (k + 200) lb r = some t := t1
      rw [if_pos hlt, if_neg (by decide), t1', Option.bind_some, hw, bind_id6]
      exact exactly_val (Z := sv n X + sv m B) (neg := m) (by rw [g1]; exact t2) (by omega) e1 e2 g2 (k + 40)
    · obtain ⟨t, t1, t2, t3⟩ := sub_list s2 hb (Nat.le_of_not_lt hlt) (by omega) (k + 100)
      obtain ⟨g1, g2⟩ := sv_diff_le hnm (Nat.le_of_not_lt hlt)
      have t1' : vernierref04_Sub.f (k + 200) r lb = some t := t1
      have hge : (if X < B then (-1 : Int) else if X > B then 1 else 0) ≥ 0 := by
        rw [if_neg hlt]
        split <;> decide
      rw [if_pos hge, t1', Option.bind_some, hw, bind_id6]
      exact exactly_val (Z := sv n X + sv m B) (neg := n) (by rw [g1]; exact t2) (by omega) e1 e2 g2 (k + 40)
theorem far_top {F E c : Nat} (h1 : 2 ^ 127 ≤ F) (h2 : F < 2 ^ 128) (hc : 0 < c) (hc2 : c < 2 ^ E) : Hi (E + 127) (F * 2 ^ E + c) ∧ tF (E + 127) (F * 2 ^ E + c) = F ∧ tB (E + 127) (F * 2 ^ E + c) = true := by
  have hp := pow_pos E
  have p127 := pow_pos 127
  refine ⟨⟨?_, ?_⟩, ?_, ?_⟩
  · rw [Nat.add_comm E, Nat.pow_add]
    exact Nat.le_trans (Nat.mul_le_mul_right _ h1) (Nat.le_add_right _ _)
  · rw [show E + 127 + 1 = 128 + E by omega, Nat.pow_add]
    have := Nat.mul_le_mul_right (2 ^ E) (show F + 1 ≤ 2 ^ 128 by omega)
    rw [Nat.add_mul, Nat.one_mul] at this
    omega
  · unfold tF
    rw [Nat.pow_add, Nat.mul_div_mul_right _ _ p127, Nat.mul_comm, Nat.mul_add_div hp, Nat.div_eq_of_lt hc2, Nat.add_zero]
  · unfold tB
    refine decide_eq_true ?_
    rw [Nat.pow_add, Nat.mul_mod_mul_right, Nat.mul_comm F, Nat.mul_add_mod, Nat.mod_eq_of_lt hc2]
    exact Nat.mul_ne_zero (by omega) (by omega)
theorem far_out {n m : Bool} {Fx E c : Nat} {u : Int} {r : Option (Int × Bool × Int × Int × Int × Bool)} (h1 : 2 ^ 127 ≤ Fx) (h2 : Fx < 2 ^ 128) (hE : 130 ≤ E) (hc : 0 < c) (hc2 : c < 2 ^ 128) (h : Sout u (sv n (Fx * 2 ^ E) + sv m c) r) :
    r = some (1, n, (if n = m then (hld (u + (E : Int) + 127), ((Fx / 2 ^ 64 : Nat) : Int), ((Fx % 2 ^ 64 : Nat) : Int), true) else if Fx = 2 ^ 127 then (hld (u + (E : Int) + 126), (((2 ^ 128 - 1) / 2 ^ 64 : Nat) : Int), (((2 ^ 128 - 1) % 2 ^ 64 : Nat) : Int), true) else (hld (u + (E : Int) + 127), (((Fx - 1) / 2 ^ 64 : Nat) : Int), (((Fx - 1) % 2 ^ 64 : Nat) : Int), true))) := by
  have hE128 : 2 ^ 129 ≤ 2 ^ (E - 1) := pow_le (by omega)
  have hEE : 2 ^ E = 2 * 2 ^ (E - 1) := by rw [← Nat.pow_succ']; exact congrArg (2 ^ ·) (by omega)
  have hcE : c < 2 ^ E := by omega
  have hX0 : Fx * 2 ^ E ≠ 0 := Nat.mul_ne_zero (by omega) (by omega)

  have fin : ∀ (F e c' : Nat) (Z : Int), Z.natAbs = F * 2 ^ e + c' → decide (Z < 0) = n → 2 ^ 127 ≤ F → F < 2 ^ 128 → 0 < c' → c' < 2 ^ e → Sout u Z r → r = some (1, n, hld (u + (e : Int) + 127), ((F / 2 ^ 64 : Nat) : Int), ((F % 2 ^ 64 : Nat) : Int), true) := by
    intro F e c' Z hZ hn f1 f2 f3 f4 hS
    obtain ⟨t1, t2, t3⟩ := far_top f1 f2 f3 f4
    rcases hS with ⟨g1, g2⟩ | ⟨j, g1, g2⟩
    · rw [g1] at hZ
      simp at hZ
      omega
    · rw [hZ] at g1 g2
      obtain rfl := g1.uniq t1
      rw [t2, t3, hn] at g2
      rw [g2, show u + ((e + 127 : Nat) : Int) = u + (e : Int) + 127 by omega]
  by_cases hnm : n = m
  · subst hnm
    rw [if_pos rfl]
    exact fin Fx E c _ (sv_same _ _ _) (sv_same_neg _ _ hX0).symm h1 h2 hc hcE h
  · rw [if_neg hnm]
    have hle : c ≤ Fx * 2 ^ E := by
      have := Nat.le_mul_of_pos_left (2 ^ E) (show 0 < Fx by omega)
      omega
    obtain ⟨g1, g2⟩ := sv_diff_le hnm hle
    have hne : sv n (Fx * 2 ^ E) + sv m c ≠ 0 := by
      intro h0
      rw [h0] at g1
      have := Nat.le_mul_of_pos_left (2 ^ E) (show 0 < Fx by omega)
      simp at g1
      omega
    have hn := (g2 hne).symm
    by_cases hF : Fx = 2 ^ 127
    · rw [if_pos hF]
      have e1 : Fx * 2 ^ E - c = (2 ^ 128 - 1) * 2 ^ (E - 1) + (2 ^ (E - 1) - c) := by
        rw [hF, hEE, Nat.sub_mul, Nat.one_mul]
        have : (2 : Nat) ^ 127 * (2 * 2 ^ (E - 1)) = 2 ^ 128 * 2 ^ (E - 1) := by rw [← Nat.mul_assoc, ← Nat.pow_succ]
        rw [this]
        have h128 : 2 ^ (E - 1) ≤ 2 ^ 128 * 2 ^ (E - 1) := Nat.le_mul_of_pos_left _ (pow_pos 128)
        generalize 2 ^ 128 * 2 ^ (E - 1) = Y at *
        omega
      have := fin (2 ^ 128 - 1) (E - 1) (2 ^ (E - 1) - c) _ (g1.trans e1) hn (by decide) (by decide) (by omega) (by omega) h
      rw [this, show u + ((E - 1 : Nat) : Int) + 127 = u + (E : Int) + 126 by omega]
    · rw [if_neg hF]
      have e1 : Fx * 2 ^ E - c = (Fx - 1) * 2 ^ E + (2 ^ E - c) := by
        rw [Nat.sub_mul, Nat.one_mul]
        have := Nat.le_mul_of_pos_left (2 ^ E) (show 0 < Fx by omega)
        generalize Fx * 2 ^ E = Y at *
        omega
      exact fin (Fx - 1) E (2 ^ E - c) _ (g1.trans e1) hn (by omega) (by omega) (by omega) (by omega) h
theorem dg_one : Dg [1] 1 := by
  refine ⟨⟨by decide, fun i hi => ?_⟩, .inr (by decide)⟩
  obtain rfl : i = 0 := by simpa using hi
  rfl
theorem rsum_ord {hx lx hy ly : Nat} {sx sy : Int} {n m : Bool} (h1 : 2 ^ 63 ≤ hx) (h2 : hx < 2 ^ 64) (h3 : lx < 2 ^ 64) (h1y : 2 ^ 63 ≤ hy) (h4 : hy < 2 ^ 64) (h5 : ly < 2 ^ 64) (b1 : -1099511627776 ≤ sx) (b2 : sx ≤ 1099511627776) (b3 : -1099511627776 ≤ sy) (hle : sy ≤ sx) (k k' : Nat) :
    vernierref09_Sum.j0 (k + 202) false 1 n sx (hx : Int) (lx : Int) false 1 m sy (hy : Int) (ly : Int) false = broad_Sum.j1 (k' + 5) 1 n sx (hx : Int) (lx : Int) false 1 m sy (hy : Int) (ly : Int) false := by
  have hP := sum_ord (n := n) (m := m) h1 h2 h3 h1y h4 h5 b1 b2 b3 hle k'
  obtain ⟨la, a1, a2, a3⟩ := of_twin h2 h3 (k + 101)
  obtain ⟨lb, c1, c2, c3⟩ := of_twin h4 h5 (k + 101)
  have hFx : 2 ^ 127 ≤ hx * 2 ^ 64 + lx ∧ hx * 2 ^ 64 + lx < 2 ^ 128 := by omega
  have hFy : 0 < hy * 2 ^ 64 + ly ∧ hy * 2 ^ 64 + ly < 2 ^ 128 := by omega
  have hFx0 : hx * 2 ^ 64 + lx ≠ 0 := by omega
  have q1 : (sx - 127 - (sy - 127)).toNat = (sx - sy).toNat := by omega
  have q2 : (sy - 127 - (sy - 127)).toNat = 0 := by omega
  unfold vl at hP
  rw [q1, q2, Nat.pow_zero, Nat.mul_one] at hP
  obtain ⟨d, hd⟩ : ∃ d : Nat, sx = sy + (d : Int) := ⟨(sx - sy).toNat, by omega⟩
  have hdn : (sx - sy).toNat = d := by omega
  have hw : wrap64 (sx - sy) = (d : Int) := by unfold wrap64; omega
  have hns : ¬ sx < sy := by omega
  rw [hdn] at hP
  have a1' : vernierref02_Of.f (k + 201) (hx : Int) (lx : Int) = some la := a1
  have c1' : vernierref02_Of.f (k + 201) (hy : Int) (ly : Int) = some lb := c1
  rw [show k + 202 = (k + 201) + 1 from rfl, vernierref09_Sum.j0, if_neg (by decide), if_neg (by decide), if_neg (by decide), if_neg hns, a1', Option.bind_some, c1', Option.bind_some, hw]
  obtain ⟨Fx, hFxe⟩ : ∃ F, hx * 2 ^ 64 + lx = F := ⟨_, rfl⟩
  obtain ⟨Fy, hFye⟩ : ∃ F, hy * 2 ^ 64 + ly = F := ⟨_, rfl⟩
  rw [hFxe] at hP a2 hFx hFx0
  rw [hFye] at hP c2 hFy
  clear hFxe hFye
  by_cases hfar : d ≤ 400
  · rw [if_neg (by omega)]
    have hR := rsum_j1 (sx := sx) (sy := sy) (hx := (hx : Int)) (lx := (lx : Int)) (hy := (hy : Int)) (ly := (ly : Int)) (bx := false) (by' := false) (n := n) (m := m) a2 c2 a3 c3 hFx0 hfar b1 b2 k
    have e : sx - 127 - (d : Int) = sy - 127 := by omega
    rw [e] at hR
    exact hR.uniq hP
  · rw [if_pos (by omega)]
    have hR := rsum_j1 (d := 400) (sx := sx) (sy := sy) (hx := (hx : Int)) (lx := (lx : Int)) (hy := (hy : Int)) (ly := (ly : Int)) (bx := false) (by' := false) (n := n) (m := m) a2 dg_one a3 (by decide) hFx0 (by decide) b1 b2 k
    have r1 := far_out hFx.1 hFx.2 (by decide) (by decide) (by decide) hR
    have r2 := far_out hFx.1 hFx.2 (by omega) hFy.1 hFy.2 hP
    have e1 : sx - 127 - ((400 : Nat) : Int) + ((400 : Nat) : Int) + 127 = sy - 127 + (d : Int) + 127 := by omega
    have e2 : sx - 127 - ((400 : Nat) : Int) + ((400 : Nat) : Int) + 126 = sy - 127 + (d : Int) + 126 := by omega
    rw [e1, e2] at r1
    exact r1.trans r2.symm
theorem rsum_eq {hx lx hy ly : Nat} {sx sy : Int} {n m : Bool} (h1 : 2 ^ 63 ≤ hx) (h2 : hx < 2 ^ 64) (h3 : lx < 2 ^ 64) (h1y : 2 ^ 63 ≤ hy) (h4 : hy < 2 ^ 64) (h5 : ly < 2 ^ 64) (b1 : -1099511627776 ≤ sx) (b2 : sx ≤ 1099511627776) (b3 : -1099511627776 ≤ sy) (b4 : sy ≤ 1099511627776) (k k' : Nat) :
    vernierref09_Sum.f (k + 205) 1 n sx (hx : Int) (lx : Int) false 1 m sy (hy : Int) (ly : Int) false = broad_Sum.f (k' + 6) 1 n sx (hx : Int) (lx : Int) false 1 m sy (hy : Int) (ly : Int) false := by
  unfold broad_Sum.f
  have e0 : ((1 : Int) == 2) = false := rfl
  rw [if_neg (by decide), e0, show k' + 6 = (k' + 5) + 1 from rfl, broad_Sum.j0, if_neg (by decide), if_neg (by decide), if_neg (by decide)]
  rw [show k + 205 = (k + 204) + 1 from rfl, vernierref09_Sum.f, if_neg (by decide), e0]
  by_cases hlt : sx < sy
  · rw [if_pos hlt, show k + 204 = (k + 203) + 1 from rfl, vernierref09_Sum.j0, if_neg (by decide), if_neg (by decide), if_neg (by decide), if_pos hlt, bind_id6, show k + 203 = (k + 202) + 1 from rfl, vernierref09_Sum.f, if_neg (by decide), e0]
    exact rsum_ord h1y h4 h5 h1 h2 h3 b3 b4 b1 (Int.le_of_lt hlt) k k'
  · rw [if_neg hlt]
    exact rsum_ord h1 h2 h3 h1y h4 h5 b1 b2 b3 (by omega) (k + 2) k'
end Go.Proofs.Ytnlbfomlfhigcaa.M
namespace Go.Proofs.Ytnlbfomlfhigcaa.Pure
open Go.RowKit Go.Proofs.Ytnlbfomlfhigcaa.Q Go.Proofs.Ytnlbfomlfhigcaa.M Go.Proofs.YtnlbfomlfhigcaaW.PrintWords Go.Proofs.YtnlbfomlfhigcaaW.PrintLast Go.Proofs.YtnlbfomlfhigcaaW.PrintMore
def Snd (K : Int) (n : Bool) (s : Int) (h l : Nat) (b : Bool) : Prop :=
  (K = 0 ∧ n = false ∧ s = 0 ∧ h = 0 ∧ l = 0 ∧ b = false) ∨ (K = 2 ∧ n = false ∧ s = 0 ∧ h = 0 ∧ l = 0 ∧ b = false) ∨ (K = 1 ∧ 2 ^ 63 ≤ h ∧ -1099511627776 ≤ s ∧ s ≤ 1099511627776)
theorem plain_iff (n : Bool) (s : Int) (h l : Nat) (b : Bool) : (!n && (s == 0 && (((h : Int) == 0) && (((l : Int) == 0) && (!b))))) = true ↔ n = false ∧ s = 0 ∧ h = 0 ∧ l = 0 ∧ b = false := by
  simp only [Bool.and_eq_true, Bool.not_eq_true', beq_iff_eq]
  exact ⟨fun ⟨a, b, c, d, e⟩ => ⟨a, b, by omega, by omega, e⟩, fun ⟨a, b, c, d, e⟩ => ⟨a, b, by omega, by omega, e⟩⟩
theorem sound_both (K : Int) (n : Bool) (s : Int) (h l : Nat) (b : Bool) (hh : h < 2 ^ 64) (k : Nat) : ∃ B : Bool, vernierref07_Sound.f K n s (h : Int) (l : Int) b = some B ∧ round_sound.f (k + 1) K n s (h : Int) (l : Int) b = some B ∧ (B = true → Snd K n s h l b) := by
  unfold vernierref07_Sound.f round_sound.f
  by_cases c0 : K = 0
  · subst c0
    refine ⟨_, if_pos rfl, ?_, fun hB => .inl ⟨rfl, (plain_iff n s h l b).1 hB⟩⟩
    rw [if_pos rfl, round_sound.j0, if_pos (show ((0 : Int) == 0) = true from rfl)]
  · rw [if_neg c0, if_neg c0]
    by_cases c2 : K = 2
    · subst c2
      refine ⟨_, if_pos rfl, ?_, fun hB => .inr (.inl ⟨rfl, (plain_iff n s h l b).1 hB⟩)⟩
      rw [round_sound.j0, if_pos (show ((2 : Int) == 2) = true from rfl)]
    · have e2 : (K == 2) = false := by simpa using c2
      rw [if_neg c2, e2, round_sound.j0, if_neg (show ¬ (false : Bool) = true by decide)]
      by_cases c1 : K = 1
      · subst c1
        rw [if_pos rfl, if_pos rfl]
        by_cases ch : 2 ^ 63 ≤ h
        · have ch1 : (h : Int) ≥ 9223372036854775808 := by omega
          have ch2 : (h : Int) / 9223372036854775808 = 1 := by omega
          rw [if_pos ch1, if_pos ch2, held_val, Option.bind_some]
          by_cases cs : -1099511627776 ≤ s
          · have cs1 : s ≥ -1099511627776 := cs
            rw [if_pos cs1]
            refine ⟨_, rfl, ?_, fun hB => .inr (.inr ⟨rfl, ch, cs, of_decide_eq_true hB⟩)⟩
            rw [if_neg (by omega)]
            by_cases cs2 : 1099511627776 < s
            · rw [if_pos cs2, decide_eq_false (by omega)]
              refine congrArg some ?_
              simp only [beq_eq_false_iff_ne]
              omega
            · rw [if_neg cs2, decide_eq_true (by omega)]
              simp
          · have cs1 : ¬ s ≥ -1099511627776 := cs
            rw [if_neg cs1]
            refine ⟨false, rfl, ?_, fun hB => by cases hB⟩
            rw [if_pos (by omega)]
            refine congrArg some ?_
            simp only [beq_eq_false_iff_ne]
            omega
        · have ch1 : ¬ (h : Int) ≥ 9223372036854775808 := by omega
          have ch2 : ¬ (h : Int) / 9223372036854775808 = 1 := by omega
          rw [if_neg ch1, if_neg ch2]
          exact ⟨false, rfl, rfl, fun hB => by cases hB⟩
      · rw [if_neg c1, if_neg c1]
        exact ⟨false, rfl, rfl, fun hB => by cases hB⟩
theorem round8_bad {K : Int} {n : Bool} {s : Int} {h l : Nat} {b : Bool} (k : Nat) (hB : round_sound.f k K n s (h : Int) (l : Int) b = some false) : round_Round.f k 8 K n s (h : Int) (l : Int) b = some (0, some 1) := by
  have e8 : shape_Of.f 8 = _ := of_yes (n := 8) (by unfold Wd; omega)
  unfold round_Round.f round_Cut.f
  rw [e8]
  simp only [Option.bind_some, Option.isNone_none, if_true]
  rw [hB]
  rfl
theorem round8_good {K : Int} {n : Bool} {s : Int} {h l : Nat} {b : Bool} (hS : Snd K n s h l b) (hh : h < 2 ^ 64) (hl : l < 2 ^ 64) (k : Nat) : ∃ p, round_Round.f (k + 80) 8 K n s (h : Int) (l : Int) b = some (p, none) := by
  have w8 : Wd 8 := by unfold Wd; omega
  rcases hS with ⟨rfl, rfl, rfl, rfl, rfl, rfl⟩ | ⟨rfl, rfl, rfl, rfl, rfl, rfl⟩ | ⟨rfl, h1, h2, h3⟩
  · exact ⟨_, round_zero w8 (k + 79)⟩
  · exact ⟨_, round_nar w8 (k + 79)⟩
  · exact ⟨_, round_real w8 n b h1 hh hl h2 h3 k⟩
theorem sums_alike {K K' : Int} {n n' : Bool} {s s' : Int} {h l h' l' : Nat} (hS : Snd K n s h l false) (hS' : Snd K' n' s' h' l' false) (hh : h < 2 ^ 64) (hl : l < 2 ^ 64) (hh' : h' < 2 ^ 64) (hl' : l' < 2 ^ 64) (k k' : Nat) :
    ∃ r, vernierref09_Sum.f (k + 205) K n s (h : Int) (l : Int) false K' n' s' (h' : Int) (l' : Int) false = some r ∧ broad_Sum.f (k' + 6) K n s (h : Int) (l : Int) false K' n' s' (h' : Int) (l' : Int) false = some r := by
  have hk2 : ∀ {K n s h l}, Snd K n s h l false → K = 2 ∨ K = 0 ∨ K = 1 := by
    intro K n s h l hS
    rcases hS with ⟨h, _⟩ | ⟨h, _⟩ | ⟨h, _⟩
    · exact .inr (.inl h)
    · exact .inl h
    · exact .inr (.inr h)
  by_cases c2 : K = 2
  · refine ⟨(2, false, 0, 0, 0, false), ?_, ?_⟩
    · rw [show k + 205 = (k + 204) + 1 from rfl, vernierref09_Sum.f, if_pos c2, show k + 204 = (k + 203) + 1 from rfl, vernierref09_Sum.j0, if_pos rfl]
    · unfold broad_Sum.f
      rw [if_pos c2, show k' + 6 = (k' + 5) + 1 from rfl, broad_Sum.j0, if_pos rfl]
  · by_cases c2' : K' = 2
    · have e : (K' == 2) = true := by simpa using c2'
      refine ⟨(2, false, 0, 0, 0, false), ?_, ?_⟩
      · rw [show k + 205 = (k + 204) + 1 from rfl, vernierref09_Sum.f, if_neg c2, e, show k + 204 = (k + 203) + 1 from rfl, vernierref09_Sum.j0, if_pos rfl]
      · unfold broad_Sum.f
        rw [if_neg c2, e, show k' + 6 = (k' + 5) + 1 from rfl, broad_Sum.j0, if_pos rfl]
    · have e : (K' == 2) = false := by simpa using c2'
      by_cases c0 : K = 0
      · refine ⟨(K', n', s', (h' : Int), (l' : Int), false), ?_, ?_⟩
        · rw [show k + 205 = (k + 204) + 1 from rfl, vernierref09_Sum.f, if_neg c2, e, show k + 204 = (k + 203) + 1 from rfl, vernierref09_Sum.j0, if_neg (by decide), if_pos c0]
        · unfold broad_Sum.f
          rw [if_neg c2, e, show k' + 6 = (k' + 5) + 1 from rfl, broad_Sum.j0, if_neg (by decide), if_pos c0]
      · by_cases c0' : K' = 0
        · refine ⟨(K, n, s, (h : Int), (l : Int), false), ?_, ?_⟩
          · rw [show k + 205 = (k + 204) + 1 from rfl, vernierref09_Sum.f, if_neg c2, e, show k + 204 = (k + 203) + 1 from rfl, vernierref09_Sum.j0, if_neg (by decide), if_neg c0, if_pos c0']
          · unfold broad_Sum.f
            rw [if_neg c2, e, show k' + 6 = (k' + 5) + 1 from rfl, broad_Sum.j0, if_neg (by decide), if_neg c0, if_pos c0']
        · rcases hS with ⟨g, _⟩ | ⟨g, _⟩ | ⟨rfl, h1, h2, h3⟩
          · exact absurd g c0
          · exact absurd g c2
          · rcases hS' with ⟨g, _⟩ | ⟨g, _⟩ | ⟨rfl, h1', h2', h3'⟩
            · exact absurd g c0'
            · exact absurd g c2'
            · have hsum := sum_spec (n := n) (m := n') (u := min s s' - 127) h1 hh hl h1' hh' hl' h2 h3 h2' h3' (by omega) (by omega) k'
              have heq := rsum_eq (n := n) (m := n') h1 hh hl h1' hh' hl' h2 h3 h2' h3' k k'
              rcases hsum with ⟨_, g⟩ | ⟨_, _, g⟩
              · exact ⟨_, heq.trans g, g⟩
              · exact ⟨_, heq.trans g, g⟩
theorem up13_run : vernierlaw13_up.f 300 = some true := by decide +kernel
def FusePure : Prop := ∀ (K : Int) (n : Bool) (s : Int) (h l : Nat) (b : Bool) (K' : Int) (n' : Bool) (s' : Int) (h' l' : Nat) (b' : Bool), h < 2 ^ 64 → l < 2 ^ 64 → h' < 2 ^ 64 → l' < 2 ^ 64 →
  vernierlaw13_FuseExacts.f 300 K n s (h : Int) (l : Int) b K' n' s' (h' : Int) (l' : Int) b' = some true
theorem FuseExacts : FusePure := by
  intro K n s h l b K' n' s' h' l' b' hh hl hh' hl'
  obtain ⟨B, r1, r2, r3⟩ := sound_both K n s h l b hh 298
  obtain ⟨B', r1', r2', r3'⟩ := sound_both K' n' s' h' l' b' hh' 297

  have key : ∃ (t : Int × Bool × Int × Int × Int × Bool) (e : Option Int) (c : Int), fuse_Exact.f 300 K n s (h : Int) (l : Int) b K' n' s' (h' : Int) (l' : Int) b' = some (t.1, t.2.1, t.2.2.1, t.2.2.2.1, t.2.2.2.2.1, t.2.2.2.2.2, e) ∧
      vernierref13_Exact.f 300 K n s (h : Int) (l : Int) b K' n' s' (h' : Int) (l' : Int) b' = some (t.1, t.2.1, t.2.2.1, t.2.2.2.1, t.2.2.2.2.1, t.2.2.2.2.2, c) ∧ vernierlaw00_Code.f e = some c := by
    have q0 : rd_T86 [⟨K, n, s, (h : Int), (l : Int), b⟩, ⟨K', n', s', (h' : Int), (l' : Int), b'⟩] 0 = ⟨K, n, s, (h : Int), (l : Int), b⟩ := rfl
    have q1 : rd_T86 [⟨K, n, s, (h : Int), (l : Int), b⟩, ⟨K', n', s', (h' : Int), (l' : Int), b'⟩] 1 = ⟨K', n', s', (h' : Int), (l' : Int), b'⟩ := rfl
    have w1 : wrap64 (0 + 1) = 1 := by unfold wrap64; omega
    have w2 : wrap64 (1 + 1) = 2 := by unfold wrap64; omega
    have len : (([⟨K, n, s, (h : Int), (l : Int), b⟩, ⟨K', n', s', (h' : Int), (l' : Int), b'⟩] : List S86).length : Int) = 2 := rfl
    have bad : ∀ {F : Option (Int × Bool × Int × Int × Int × Bool × Option Int)}, F = some (0, false, 0, 0, 0, false, some 1) → ∀ {G : Option (Int × Bool × Int × Int × Int × Bool × Int)}, G = some (0, false, 0, 0, 0, false, 1) → ∃ (t : Int × Bool × Int × Int × Int × Bool) (e : Option Int) (c : Int), F = some (t.1, t.2.1, t.2.2.1, t.2.2.2.1, t.2.2.2.2.1, t.2.2.2.2.2, e) ∧
        G = some (t.1, t.2.1, t.2.2.1, t.2.2.2.1, t.2.2.2.2.1, t.2.2.2.2.2, c) ∧ vernierlaw00_Code.f e = some c := by
      intro F hF G hG
      exact ⟨((0 : Int), false, (0 : Int), (0 : Int), (0 : Int), false), some 1, 1, hF, hG, by decide⟩
    unfold fuse_Exact.f vernierref13_Exact.f
    rw [Option.bind_some, len, show (300 : Nat) = 299 + 1 from rfl, fuse_Exact.l0, if_pos (by decide), if_pos (by decide), if_pos (by rw [len]; decide), q0]
    simp only
    rw [r1, r1', Option.bind_some, Option.bind_some]
    cases B with
    | false =>
      refine bad ?_ (if_neg (by decide))
      rw [round8_bad 299 r2]
      rfl
    | true =>
      have hS := r3 rfl
      obtain ⟨p, hp⟩ := round8_good hS hh hl 219
      have hp' : round_Round.f 299 8 K n s (h : Int) (l : Int) b = some (p, none) := hp
      rw [hp', Option.bind_some, if_pos rfl]
      simp only [Option.isNone_none, if_true]
      cases b with
      | true =>
        refine bad (if_pos rfl) ?_
        cases B' <;> rfl
      | false =>
        rw [if_neg (by decide), w1, show (299 : Nat) = 298 + 1 from rfl, fuse_Exact.l0, if_pos (by decide), if_pos (by decide), if_pos (by rw [len]; decide), q1]
        simp only
        cases B' with
        | false =>
          refine bad ?_ (if_neg (by decide))
          rw [round8_bad 298 r2']
          rfl
        | true =>
          have hS' := r3' rfl
          obtain ⟨p', hp2⟩ := round8_good hS' hh' hl' 218
          have hp2' : round_Round.f 298 8 K' n' s' (h' : Int) (l' : Int) b' = some (p', none) := hp2
          rw [hp2', Option.bind_some, if_pos rfl]
          simp only [Option.isNone_none, if_true]
          cases b' with
          | true => exact bad (if_pos rfl) (by rw [if_neg (show ¬ (false : Bool) = true by decide), if_pos rfl])
          | false =>
            obtain ⟨r, g1, g2⟩ := sums_alike hS hS' hh hl hh' hl' 95 291
            have g1' : vernierref09_Sum.f (299 + 1) K n s (h : Int) (l : Int) false K' n' s' (h' : Int) (l' : Int) false = some r := g1
            have g2' : broad_Sum.f 297 K n s (h : Int) (l : Int) false K' n' s' (h' : Int) (l' : Int) false = some r := g2
            simp only [Bool.false_eq_true, if_false]
            rw [w2, show (298 : Nat) = 297 + 1 from rfl, fuse_Exact.l0, if_neg (by decide), g2', Option.bind_some]
            refine ⟨r, none, 0, rfl, ?_, by decide⟩
            rw [show 297 + 1 + 1 + 1 = 299 + 1 from rfl, g1', Option.bind_some]
  obtain ⟨t, e, c, f1, f2, f3⟩ := key
  unfold vernierlaw13_FuseExacts.f
  rw [up13_run, Option.bind_some, f1, Option.bind_some, f2, Option.bind_some, if_pos rfl]
  simp only [beq_self_eq_true, Bool.and_true, if_true]
  rw [f3, Option.bind_some]
  simp
end Go.Proofs.Ytnlbfomlfhigcaa.Pure
namespace Go.Proofs.Ytnlbfomlfhigcaa.Six
open Go.Joins Go.ChangeShapes Go.WideShapes Go.RowKit Go.Deep
section
variable {H : Type} {enc : TypeId × Value → H} {w : World} {base : Nat} {spare : Nat → Bool} {held : Bool}
set_option maxRecDepth 100000 in
theorem cells86 : Try.prog.cellsOf 86 = 6 := by kernel_rfl
theorem array6 {α : Type} {cs : Array α} (h : cs.size = 6) : ∃ c0 c1 c2 c3 c4 c5, cs = #[c0, c1, c2, c3, c4, c5] := by
  obtain ⟨l⟩ := cs
  match l, h with
  | [c0, c1, c2, c3, c4, c5], _ => exact ⟨c0, c1, c2, c3, c4, c5, rfl⟩
theorem open6 {r : Reach} {b0 : Nat} {t : TypeId} {f0 f1 f2 f3 f4 f5 : Field} {v : Value} {d : DataW H} {p : List MemPlace} {P : Program} (hs : P.underlying t = some (.struct #[f0, f1, f2, f3, f4, f5])) (hone : oneCellFields P #[f0, f1, f2, f3, f4, f5] = true) (hC : P.cellsOf t = 6)
    (hv : Value.okWide P w r b0 t v) (h : DataW.Trod enc P w base spare held t v d p) :
    ∃ (c0 c1 c2 c3 c4 c5 : Value) (y0 y1 y2 y3 y4 y5 : DataW H × List MemPlace) (n : Nat), v = .agg #[c0, c1, c2, c3, c4, c5] ∧ d = .agg [y0.1, y1.1, y2.1, y3.1, y4.1, y5.1] ∧ p = y0.2 ++ (y1.2 ++ (y2.2 ++ (y3.2 ++ (y4.2 ++ y5.2)))) ∧
      DataW.trod enc P w base spare held n f0.type [c0] = some y0 ∧ DataW.trod enc P w base spare held n f1.type [c1] = some y1 ∧ DataW.trod enc P w base spare held n f2.type [c2] = some y2 ∧ DataW.trod enc P w base spare held n f3.type [c3] = some y3 ∧ DataW.trod enc P w base spare held n f4.type [c4] = some y4 ∧ DataW.trod enc P w base spare held n f5.type [c5] = some y5 := by
  obtain ⟨cs, rfl, hsz⟩ := okWide_struct hs hv
  obtain ⟨c0, c1, c2, c3, c4, c5, rfl⟩ := array6 (hsz.trans hC)
  obtain ⟨fuel, hf⟩ := h
  obtain ⟨xs, n, _, hx, _, hlen, hg⟩ := DataW.trod_struct hs hf
  obtain ⟨o0, k0⟩ := hone_of hone 0 f0 rfl
  obtain ⟨o1, k1⟩ := hone_of hone 1 f1 rfl
  obtain ⟨o2, k2⟩ := hone_of hone 2 f2 rfl
  obtain ⟨o3, k3⟩ := hone_of hone 3 f3 rfl
  obtain ⟨o4, k4⟩ := hone_of hone 4 f4 rfl
  obtain ⟨o5, k5⟩ := hone_of hone 5 f5 rfl
  match xs, hlen with
  | [y0, y1, y2, y3, y4, y5], _ =>
    simp only [Prod.mk.injEq] at hx
    exact ⟨c0, c1, c2, c3, c4, c5, y0, y1, y2, y3, y4, y5, n, rfl, by simpa using hx.1, by simpa using hx.2, by simpa [Value.cells, o0, k0] using hg 0 f0 rfl, by simpa [Value.cells, o1, k1] using hg 1 f1 rfl, by simpa [Value.cells, o2, k2] using hg 2 f2 rfl, by simpa [Value.cells, o3, k3] using hg 3 f3 rfl, by simpa [Value.cells, o4, k4] using hg 4 f4 rfl, by simpa [Value.cells, o5, k5] using hg 5 f5 rfl⟩
theorem shut6 {t : TypeId} {f0 f1 f2 f3 f4 f5 : Field} {v0 v1 v2 v3 v4 v5 : Value} {y0 y1 y2 y3 y4 y5 : DataW H × List MemPlace} {P : Program} (hs : P.underlying t = some (.struct #[f0, f1, f2, f3, f4, f5])) (hone : oneCellFields P #[f0, f1, f2, f3, f4, f5] = true) (hC : P.cellsOf t = 6)
    (t0 : ∃ n, DataW.trod enc P w base spare held n f0.type [v0] = some y0) (t1 : ∃ n, DataW.trod enc P w base spare held n f1.type [v1] = some y1) (t2 : ∃ n, DataW.trod enc P w base spare held n f2.type [v2] = some y2) (t3 : ∃ n, DataW.trod enc P w base spare held n f3.type [v3] = some y3) (t4 : ∃ n, DataW.trod enc P w base spare held n f4.type [v4] = some y4) (t5 : ∃ n, DataW.trod enc P w base spare held n f5.type [v5] = some y5) :
    DataW.Trod enc P w base spare held t (.agg #[v0, v1, v2, v3, v4, v5]) (.agg [y0.1, y1.1, y2.1, y3.1, y4.1, y5.1]) (y0.2 ++ (y1.2 ++ (y2.2 ++ (y3.2 ++ (y4.2 ++ y5.2))))) := by
  obtain ⟨n0, t0⟩ := t0
  obtain ⟨n1, t1⟩ := t1
  obtain ⟨n2, t2⟩ := t2
  obtain ⟨n3, t3⟩ := t3
  obtain ⟨n4, t4⟩ := t4
  obtain ⟨n5, t5⟩ := t5
  obtain ⟨o0, k0⟩ := hone_of hone 0 f0 rfl
  obtain ⟨o1, k1⟩ := hone_of hone 1 f1 rfl
  obtain ⟨o2, k2⟩ := hone_of hone 2 f2 rfl
  obtain ⟨o3, k3⟩ := hone_of hone 3 f3 rfl
  obtain ⟨o4, k4⟩ := hone_of hone 4 f4 rfl
  obtain ⟨o5, k5⟩ := hone_of hone 5 f5 rfl
  have h0 := DataW.trod_le (show n0 ≤ n0 + n1 + n2 + n3 + n4 + n5 by omega) t0
  have h1 := DataW.trod_le (show n1 ≤ n0 + n1 + n2 + n3 + n4 + n5 by omega) t1
  have h2 := DataW.trod_le (show n2 ≤ n0 + n1 + n2 + n3 + n4 + n5 by omega) t2
  have h3 := DataW.trod_le (show n3 ≤ n0 + n1 + n2 + n3 + n4 + n5 by omega) t3
  have h4 := DataW.trod_le (show n4 ≤ n0 + n1 + n2 + n3 + n4 + n5 by omega) t4
  have h5 := DataW.trod_le (show n5 ≤ n0 + n1 + n2 + n3 + n4 + n5 by omega) t5
  have ts := trod_struct_mk (enc := enc) (w := w) (base := base) (spare := spare) (held := held) (n := n0 + n1 + n2 + n3 + n4 + n5) (xs := [y0, y1, y2, y3, y4, y5]) (cs := [v0, v1, v2, v3, v4, v5]) hs (by simp [hC])
    (by simp [o0, k0, o1, k1, o2, k2, o3, k3, o4, k4, o5, k5, h0, h1, h2, h3, h4, h5])
  exact ⟨_, by simpa [Value.cells] using ts⟩
def dat (K : Int) (n : Bool) (s h l : Int) (b : Bool) : DataW H := .agg [.lit (.int .i64 K), .lit (.bool n), .lit (.int .i64 s), .lit (.int .u64 h), .lit (.int .u64 l), .lit (.bool b)]
set_option maxRecDepth 100000 in
theorem open86 {r : Reach} {b0 : Nat} {v : Value} {d : DataW H} {p : List MemPlace} (hv : Value.okWide Try.prog w r b0 86 v) (h : DataW.Trod enc Try.prog w base spare held 86 v d p) :
    ∃ (K : Int) (n : Bool) (s h l : Int) (b : Bool), v = .agg #[.int .i64 K, .bool n, .int .i64 s, .int .u64 h, .int .u64 l, .bool b] ∧ d = dat K n s h l b ∧ p = [] ∧ (Lit.int .i64 K).wf = true ∧ (Lit.int .i64 s).wf = true ∧ (Lit.int .u64 h).wf = true ∧ (Lit.int .u64 l).wf = true := by
  obtain ⟨c0, c1, c2, c3, c4, c5, y0, y1, y2, y3, y4, y5, n, rfl, rfl, rfl, t0, t1, t2, t3, t4, t5⟩ := open6 Try.underlying86 (by kernel_rfl) cells86 hv h
  obtain ⟨K, e0, rfl, g0⟩ := DataW.trod_int Try.underlying3 t0
  obtain ⟨nb, e1, rfl⟩ := DataW.trod_bool Try.underlying4 t1
  obtain ⟨s, e2, rfl, g2⟩ := DataW.trod_int Try.underlying3 t2
  obtain ⟨hh, e3, rfl, g3⟩ := DataW.trod_int Try.underlying25 t3
  obtain ⟨l, e4, rfl, g4⟩ := DataW.trod_int Try.underlying25 t4
  obtain ⟨b, e5, rfl⟩ := DataW.trod_bool Try.underlying4 t5
  simp only [List.cons.injEq, and_true] at e0 e1 e2 e3 e4 e5
  subst e0 e1 e2 e3 e4 e5
  exact ⟨K, nb, s, hh, l, b, rfl, rfl, rfl, g0, g2, g3, g4⟩
set_option maxRecDepth 100000 in
theorem shut86 {K : Int} {n : Bool} {s h l : Int} {b : Bool} (w0 : (Lit.int .i64 K).wf = true) (w2 : (Lit.int .i64 s).wf = true) (w3 : (Lit.int .u64 h).wf = true) (w4 : (Lit.int .u64 l).wf = true) :
    DataW.Trod enc Try.prog w base spare held 86 (.agg #[.int .i64 K, .bool n, .int .i64 s, .int .u64 h, .int .u64 l, .bool b]) (dat K n s h l b) [] :=
  shut6 Try.underlying86 (by kernel_rfl) cells86 (field_of_Trod (shut_int Try.underlying3 w0) rfl) (field_of_Trod (shut_bool Try.underlying4 n) rfl) (field_of_Trod (shut_int Try.underlying3 w2) rfl)
    (field_of_Trod (shut_int Try.underlying25 w3) rfl) (field_of_Trod (shut_int Try.underlying25 w4) rfl) (field_of_Trod (shut_bool Try.underlying4 b) rfl)
end
end Go.Proofs.Ytnlbfomlfhigcaa.Six
