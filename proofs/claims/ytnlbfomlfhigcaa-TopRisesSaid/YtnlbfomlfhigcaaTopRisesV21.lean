/- Walks and plain laws that the claim stands on: each theorem named calls says that a call of a function returns what its f computes; the others are plain laws of these f, and the words that the walks use. -/
import Derived.Test.YtnlbfomlfhigcaaTopRisesV16
import Derived.Test.YtnlbfomlfhigcaaTopRisesV20
namespace Go.Proofs.Ytnlbfomlfhigcaa.Pure
open Go.RowKit Go.Proofs.Ytnlbfomlfhigcaa.Q Go.Proofs.Ytnlbfomlfhigcaa.M Go.Proofs.YtnlbfomlfhigcaaW.PrintWords Go.Proofs.YtnlbfomlfhigcaaW.PrintLast Go.Proofs.YtnlbfomlfhigcaaW.PrintMore
theorem tr_u64 {a : Int} (h : (Lit.int .u64 a).wf = true) : ∃ x : Nat, a = (x : Int) ∧ x < 2 ^ 64 := by
  simp [Lit.wf, IntKind.min, IntKind.max, IntKind.signed, IntKind.bits] at h
  exact ⟨a.toNat, by omega, by omega⟩
theorem w_tri {p q : Int} (hp : p = -1 ∨ p = 0 ∨ p = 1) (hq : q = -1 ∨ q = 0 ∨ q = 1) : wrap64 (p * q) = p * q ∧ (p * q = -1 ∨ p * q = 0 ∨ p * q = 1) := by
  have h : p * q = -1 ∨ p * q = 0 ∨ p * q = 1 := by
    rcases hp with rfl | rfl | rfl <;> rcases hq with rfl | rfl | rfl <;> decide
  refine ⟨?_, h⟩
  generalize p * q = z at *
  unfold wrap64
  omega
theorem tr_j2 {W BY T1 T2 T3 : Int} (k : Nat) (hW : W = -1 ∨ W = 0 ∨ W = 1) (hB : BY = -1 ∨ BY = 0 ∨ BY = 1) (h1 : T1 = -1 ∨ T1 = 0 ∨ T1 = 1) (h2 : T2 = -1 ∨ T2 = 0 ∨ T2 = 1)
    (g1 : 0 ≤ T1 * W * BY) (g2 : 0 ≤ T2 * W * BY) (_ : T3 = T3) : verniertop_TopRises.j2 (k + 1) W BY T1 T2 false = some true := by
  rw [verniertop_TopRises.j2, if_neg (by decide)]
  by_cases z : BY = 0
  · rw [if_pos z]
  · obtain ⟨a1, a2⟩ := w_tri h1 hW
    obtain ⟨b1, b2⟩ := w_tri h2 hW
    obtain ⟨c1, _⟩ := w_tri a2 hB
    obtain ⟨d1, _⟩ := w_tri b2 hB
    rw [if_neg z, a1, c1, if_pos g1, b1, d1, decide_eq_true g2]
theorem tr_facts {n a b x c : Nat} (hn : Wd n) {ma mb mx mc : Mn} (hma : Means n (a % 2 ^ n) ma) (hmb : Means n (b % 2 ^ n) mb) (hmx : Means n (x % 2 ^ n) mx) (_ : Means n (c % 2 ^ n) mc)
    (ea : ma ≠ .nar) (eb : mb ≠ .nar) (ex : mx ≠ .nar) (ec : mc ≠ .nar) :
    DQ n ma mx < 2 ^ n ∧ DQ n mb mx < 2 ^ n ∧
    cmpI (rk n (RZ n (-1000) (oadd (mc.v (-1000)) (ma.neg.v (-1000))))) (rk n (RZ n (-1000) (oadd (mc.v (-1000)) (mb.neg.v (-1000))))) * cmpI (rk n (a % 2 ^ n)) (rk n (b % 2 ^ n)) ≤ 0 ∧
    ((cmpI (rk n (x % 2 ^ n)) 0 = 0 ∧ cmpI (rk n (RZ n (-1000) (oadd (omul (-1000) ma mx) (mc.v (-1000))))) (rk n (RZ n (-1000) (oadd (omul (-1000) mb mx) (mc.v (-1000))))) = 0 ∧ DQ n ma mx = 2 ^ (n - 1) ∧ DQ n mb mx = 2 ^ (n - 1)) ∨
     (cmpI (rk n (x % 2 ^ n)) 0 ≠ 0 ∧
      0 ≤ cmpI (rk n (RZ n (-1000) (oadd (omul (-1000) ma mx) (mc.v (-1000))))) (rk n (RZ n (-1000) (oadd (omul (-1000) mb mx) (mc.v (-1000))))) * cmpI (rk n (a % 2 ^ n)) (rk n (b % 2 ^ n)) * cmpI (rk n (x % 2 ^ n)) 0 ∧
      0 ≤ cmpI (rk n (DQ n ma mx)) (rk n (DQ n mb mx)) * cmpI (rk n (a % 2 ^ n)) (rk n (b % 2 ^ n)) * cmpI (rk n (x % 2 ^ n)) 0)) := by
  have hbd := hn.bd
  have la := Nat.mod_lt a (pow_pos n)
  have lb := Nat.mod_lt b (pow_pos n)
  have lx := Nat.mod_lt x (pow_pos n)
  have e2 := two_half hn
  have hp := pow_pos (n - 1)
  have hS : cmpI (rk n (RZ n (-1000) (oadd (mc.v (-1000)) (ma.neg.v (-1000))))) (rk n (RZ n (-1000) (oadd (mc.v (-1000)) (mb.neg.v (-1000))))) * cmpI (rk n (a % 2 ^ n)) (rk n (b % 2 ^ n)) ≤ 0 := by
    rw [neg_tv ea, neg_tv eb, v_tv ec]
    refine cmp_down (fun h => ?_) (fun h => ?_)
    · refine RZ_mono hn ?_
      have := tv_mono hn la lb hma hmb ea eb (Pv (-1000)) (Pv_mono hn (by omega)) h
      omega
    · refine RZ_mono hn ?_
      have := tv_mono hn lb la hmb hma eb ea (Pv (-1000)) (Pv_mono hn (by omega)) h
      omega
  cases mx with
  | nar => exact absurd rfl ex
  | zero =>
    have q : ∀ m : Mn, DQ n m .zero = 2 ^ (n - 1) := fun m => by cases m <;> rfl
    have o : ∀ m : Mn, m ≠ .nar → omul (-1000) m .zero = some 0 := fun m e => by
      cases m with
      | nar => exact absurd rfl e
      | zero => rfl
      | real _ _ _ => rfl
    have z : x % 2 ^ n = 0 := hmx
    refine ⟨by rw [q]; omega, by rw [q]; omega, hS, .inl ⟨?_, ?_, q _, q _⟩⟩
    · rw [z, rk_zero]
      rfl
    · rw [o ma ea, o mb eb]
      exact cmpI_eq rfl
  | real g' s' f' =>
    obtain ⟨b1, b2, b3, b4⟩ := hmx.bd
    obtain ⟨m1, _⟩ := mag_bd hn lx hmx.1
    have hBY : cmpI (rk n (x % 2 ^ n)) 0 = if g' then -1 else 1 := by
      rw [rk_real hn lx hmx]
      unfold sv
      cases g'
      · rw [if_neg (by decide), if_neg (by decide)]
        exact cmpI_gt (by omega)
      · rw [if_pos rfl, if_pos rfl]
        exact cmpI_lt (by omega)
    have qa := rk_DQ hn hma ea g' s' b1 b2
    have qb := rk_DQ hn hmb eb g' s' b1 b2
    refine ⟨qa.1, qb.1, hS, .inr ⟨by rw [hBY]; cases g' <;> decide, ?_, ?_⟩⟩
    · rw [hBY, omul_tv ea, omul_tv eb, v_tv ec]
      have mono : ∀ s f s₂ f₂, 2 ^ 63 ≤ f → f < 2 ^ 64 → 2 ^ 63 ≤ f₂ → f₂ < 2 ^ 64 → 8 - 4 * (n : Int) ≤ s → s ≤ 4 * (n : Int) - 8 → 8 - 4 * (n : Int) ≤ s₂ → s₂ ≤ 4 * (n : Int) - 8 → (s < s₂ ∨ (s = s₂ ∧ f ≤ f₂)) → Pm (-1000) s' f' s f ≤ Pm (-1000) s' f' s₂ f₂ :=
        fun s f s₂ f₂ _ h2 h3 _ h5 _ _ _ h => Pm_mono s f s₂ f₂ h2 h3 (by omega) h
      refine cmp_fl (r := fun z => rk n (RZ n (-1000) (some (z + tv (Pv (-1000)) mc)))) (fun p q h => RZ_mono hn (by omega)) (x := tv (Pm (-1000) s' f') ma) (y := tv (Pm (-1000) s' f') mb) (fun h => ?_) (fun h => ?_) rfl rfl
      · exact tv_mono hn la lb hma hmb ea eb _ mono h
      · exact tv_mono hn lb la hmb hma eb ea _ mono h
    · rw [hBY]
      have mono : ∀ s f s₂ f₂, 2 ^ 63 ≤ f → f < 2 ^ 64 → 2 ^ 63 ≤ f₂ → f₂ < 2 ^ 64 → 8 - 4 * (n : Int) ≤ s → s ≤ 4 * (n : Int) - 8 → 8 - 4 * (n : Int) ≤ s₂ → s₂ ≤ 4 * (n : Int) - 8 → (s < s₂ ∨ (s = s₂ ∧ f ≤ f₂)) → Pq n s' f' s f ≤ Pq n s' f' s₂ f₂ :=
        fun s f s₂ f₂ h1 h2 h3 h4 _ _ _ _ h => Pq_mono hn s' b1 b2 s f s₂ f₂ h1 h2 h3 h4 h
      refine cmp_fl (r := fun z => z) (fun p q h => h) (x := tv (Pq n s' f') ma) (y := tv (Pq n s' f') mb) (fun h => ?_) (fun h => ?_) qa.2 qb.2
      · exact tv_mono hn la lb hma hmb ea eb _ mono h
      · exact tv_mono hn lb la hmb hma eb ea _ mono h
theorem tr_j0 {n a b x c : Nat} (hn : Wd n) {ma mb mx mc : Mn} (hma : Means n (a % 2 ^ n) ma) (hmb : Means n (b % 2 ^ n) mb) (hmx : Means n (x % 2 ^ n) mx) (hmc : Means n (c % 2 ^ n) mc) :
    verniertop_TopRises.j0 200 (n : Int) (a : Int) (b : Int) (x : Int) (c : Int) ((RZ n (-1000) (oadd (omul (-1000) ma mx) (mc.v (-1000))) : Nat) : Int) ((RZ n (-1000) (oadd (omul (-1000) mb mx) (mc.v (-1000))) : Nat) : Int)
      ((DQ n ma mx : Nat) : Int) ((DQ n mb mx : Nat) : Int) ((RZ n (-1000) (oadd (mc.v (-1000)) (ma.neg.v (-1000))) : Nat) : Int) ((RZ n (-1000) (oadd (mc.v (-1000)) (mb.neg.v (-1000))) : Nat) : Int) false = some true := by
  have hbd := hn.bd
  have hw : wrap64 ((n : Int) - 1) = ((n - 1 : Nat) : Int) := by unfold wrap64; omega
  have hP : vernierref05_Power.f 199 ((n - 1 : Nat) : Int) = _ := power_val (n := n - 1) (by omega) 133
  have hF : ∀ y : Nat, vernierref06_Fold.f 199 (n : Int) (y : Int) = _ := fun y => rfold_yes hn y 133
  have out : ∀ (A B C D E F G H I J K : Int), verniertop_TopRises.j1 199 A B C D E F G H I J K true = some true := by
    intro A B C D E F G H I J K
    rw [show 199 = 198 + 1 from rfl, verniertop_TopRises.j1, if_pos rfl]
  have cst : ∀ y : Nat, (((y % 2 ^ n : Nat) : Int) = ((2 ^ (n - 1) : Nat) : Int)) ↔ y % 2 ^ n = 2 ^ (n - 1) := fun y => Int.ofNat_inj
  rw [show 200 = 199 + 1 from rfl, verniertop_TopRises.j0, if_neg (by decide), hw, hP, Option.bind_some, hF, Option.bind_some]
  by_cases ca : a % 2 ^ n = 2 ^ (n - 1)
  · rw [if_pos ((cst a).2 ca), out]
  rw [if_neg (fun h => ca ((cst a).1 h)), hF, Option.bind_some]
  by_cases cx : x % 2 ^ n = 2 ^ (n - 1)
  · rw [if_pos ((cst x).2 cx), out]
  rw [if_neg (fun h => cx ((cst x).1 h)), hF, Option.bind_some]
  by_cases cc : c % 2 ^ n = 2 ^ (n - 1)
  · rw [if_pos ((cst c).2 cc), out]
  rw [if_neg (fun h => cc ((cst c).1 h)), hF, Option.bind_some]
  by_cases cb : b % 2 ^ n = 2 ^ (n - 1)
  · rw [show (((b % 2 ^ n : Nat) : Int) == ((2 ^ (n - 1) : Nat) : Int)) = true from beq_iff_eq.mpr ((cst b).2 cb), out]
  rw [show (((b % 2 ^ n : Nat) : Int) == ((2 ^ (n - 1) : Nat) : Int)) = false from beq_eq_false_iff_ne.mpr (fun h => cb ((cst b).1 h))]
  have ea : ma ≠ .nar := fun h => ca (by rw [h] at hma; exact hma)
  have eb : mb ≠ .nar := fun h => cb (by rw [h] at hmb; exact hmb)
  have ex : mx ≠ .nar := fun h => cx (by rw [h] at hmx; exact hmx)
  have ec : mc ≠ .nar := fun h => cc (by rw [h] at hmc; exact hmc)
  obtain ⟨l1, l2, hS, hB⟩ := tr_facts hn hma hmb hmx hmc ea eb ex ec
  have l3 := RZ_lt hn (-1000) (oadd (omul (-1000) ma mx) (mc.v (-1000)))
  have l4 := RZ_lt hn (-1000) (oadd (omul (-1000) mb mx) (mc.v (-1000)))
  have l5 := RZ_lt hn (-1000) (oadd (mc.v (-1000)) (ma.neg.v (-1000)))
  have l6 := RZ_lt hn (-1000) (oadd (mc.v (-1000)) (mb.neg.v (-1000)))
  generalize RZ n (-1000) (oadd (omul (-1000) ma mx) (mc.v (-1000))) = F1 at *
  generalize RZ n (-1000) (oadd (omul (-1000) mb mx) (mc.v (-1000))) = F2 at *
  generalize RZ n (-1000) (oadd (mc.v (-1000)) (ma.neg.v (-1000))) = S1 at *
  generalize RZ n (-1000) (oadd (mc.v (-1000)) (mb.neg.v (-1000))) = S2 at *
  generalize DQ n ma mx = D1 at *
  generalize DQ n mb mx = D2 at *
  have hC : ∀ p q : Nat, vernierref08_Cmp.f 198 (n : Int) (p : Int) (q : Int) = _ := fun p q => rcmp_yes hn p q 128
  have hC0 : vernierref08_Cmp.f 198 (n : Int) (x : Int) 0 = some (cmpI (rk n (x % 2 ^ n)) 0) := by
    have := hC x 0
    rw [Nat.zero_mod, rk_zero] at this
    exact this
  rw [show 199 = 198 + 1 from rfl, verniertop_TopRises.j1, if_neg (by decide), hC, Option.bind_some, hC0, Option.bind_some, hC, Option.bind_some, hC, Option.bind_some, hC, Option.bind_some,
    Nat.mod_eq_of_lt l1, Nat.mod_eq_of_lt l2, Nat.mod_eq_of_lt l3, Nat.mod_eq_of_lt l4, Nat.mod_eq_of_lt l5, Nat.mod_eq_of_lt l6]
  have tW := cmpI_cases (rk n (a % 2 ^ n)) (rk n (b % 2 ^ n))
  have tB := cmpI_cases (rk n (x % 2 ^ n)) 0
  have t1 := cmpI_cases (rk n F1) (rk n F2)
  have t2 := cmpI_cases (rk n D1) (rk n D2)
  have t3 := cmpI_cases (rk n S1) (rk n S2)
  have e5 := (w_tri t3 tW).1
  rw [e5, if_neg (by omega)]
  rcases hB with ⟨z1, z2, z3, z4⟩ | ⟨z1, z2, z3⟩
  · have y1 : ((D1 : Nat) : Int) = ((2 ^ (n - 1) : Nat) : Int) := by rw [z3]
    have y2 : (((D2 : Nat) : Int) != ((2 ^ (n - 1) : Nat) : Int)) = false := by rw [z4]; simp
    rw [if_pos z1, if_pos z2, if_pos y1, y2]
    exact tr_j2 (T3 := 0) 197 tW tB t1 t2 (by rw [z1, Int.mul_zero]; exact Int.le_refl 0) (by rw [z1, Int.mul_zero]; exact Int.le_refl 0) rfl
  · rw [if_neg z1]
    exact tr_j2 (T3 := 0) 197 tW tB t1 t2 z2 z3 rfl
theorem TopRises : verniertop_TopRises.Pure := by
  intro a0 a1 a2 a3 a4 _ w1 w2 w3 w4
  obtain ⟨a, rfl, ha⟩ := tr_u64 w1
  obtain ⟨b, rfl, hb⟩ := tr_u64 w2
  obtain ⟨x, rfl, hx⟩ := tr_u64 w3
  obtain ⟨c, rfl, hc⟩ := tr_u64 w4
  refine ⟨200, ?_⟩
  rcases wd_or a0 with ⟨n, rfl, hn⟩ | hn
  · obtain ⟨ma, hma, _⟩ := decodes hn ha
    obtain ⟨mb, hmb, _⟩ := decodes hn hb
    obtain ⟨mx, hmx, _⟩ := decodes hn hx
    obtain ⟨mc, hmc, _⟩ := decodes hn hc
    have f1 : fuse_Fma.f 200 (n : Int) (a : Int) (x : Int) (c : Int) = _ := fma_mn hn ha hx hc hma hmx hmc 100
    have f2 : fuse_Fma.f 200 (n : Int) (b : Int) (x : Int) (c : Int) = _ := fma_mn hn hb hx hc hmb hmx hmc 100
    have f3 : quot_Div.f 200 (n : Int) (a : Int) (x : Int) = _ := quot_mn hn ha hx hma hmx 100
    have f4 : quot_Div.f 200 (n : Int) (b : Int) (x : Int) = _ := quot_mn hn hb hx hmb hmx 100
    have f5 : sum_Sub.f 200 (n : Int) (c : Int) (a : Int) = _ := sub_mn hn hc ha hmc hma 100
    have f6 : sum_Sub.f 200 (n : Int) (c : Int) (b : Int) = _ := sub_mn hn hc hb hmc hmb 100
    have key : ∀ (o : Option (Int × Option Int)) (v : Int), o = some (v, none) → ∀ (t : Bool) (y : Int) (e : Option Int), vernierref05_Is.f (n : Int) = some t → o = some (y, e) → e = if t = true then none else some 2 := by
      intro o v h t y e ht h'
      rw [isw_yes hn] at ht
      obtain rfl : true = t := Option.some.inj ht
      rw [h] at h'
      have := Option.some.inj h'
      rw [if_pos rfl]
      exact (congrArg Prod.snd this).symm
    refine ⟨⟨key _ _ f1, key _ _ f2, key _ _ f3, key _ _ f4, key _ _ f5, key _ _ f6⟩, ?_⟩
    unfold verniertop_TopRises.f
    rw [isw_yes hn, Option.bind_some, f1, Option.bind_some, f2, Option.bind_some, f3, Option.bind_some, f4, Option.bind_some, f5, Option.bind_some, f6, Option.bind_some]
    simp only [Option.isNone_none, if_true]
    exact tr_j0 hn hma hmb hmx hmc
  · have key : ∀ (o : Option (Int × Option Int)), o = some (0, some 2) → ∀ (t : Bool) (y : Int) (e : Option Int), vernierref05_Is.f a0 = some t → o = some (y, e) → e = if t = true then none else some 2 := by
      intro o h t y e ht h'
      rw [isw_no hn] at ht
      obtain rfl : false = t := Option.some.inj ht
      rw [h] at h'
      have := Option.some.inj h'
      rw [if_neg (by decide)]
      exact (congrArg Prod.snd this).symm
    have f1 : ∀ p q r : Int, fuse_Fma.f 200 a0 p q r = _ := fun p q r => fma_no hn p q r 200
    have f3 : ∀ p q : Int, quot_Div.f 200 a0 p q = _ := fun p q => quot_no hn p q 200
    have f5 : ∀ p q : Int, sum_Sub.f 200 a0 p q = _ := fun p q => sub_no hn p q 200
    refine ⟨⟨key _ (f1 _ _ _), key _ (f1 _ _ _), key _ (f3 _ _), key _ (f3 _ _), key _ (f5 _ _), key _ (f5 _ _)⟩, ?_⟩
    unfold verniertop_TopRises.f
    rw [isw_no hn, Option.bind_some, f1, Option.bind_some, f1, Option.bind_some, f3, Option.bind_some, f3, Option.bind_some, f5, Option.bind_some, f5, Option.bind_some]
    rfl
end Go.Proofs.Ytnlbfomlfhigcaa.Pure
