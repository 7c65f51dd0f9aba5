import Derived.Test.YtgngbbkaghmnpaaDE
namespace Go.Proofs.Ytgngbbkaghmnpaa.Ck
open Go Go.RowKit Go.Proofs Go.Proofs.Ytgngbbkaghmnpaa.X
set_option linter.unusedVariables false
set_option linter.unusedSimpArgs false
noncomputable section
theorem alive (k : Nat) : f8 (k + 60) ((), ()) = some (((true, ()), ()), ()) := by kernel_rfl
theorem dead_at (k : Nat) (hk : 2000 ≤ k) (m : Int) (d : List Int) (l : Fs) (mo : List (Int × Int)) (hmo : mo.length ≤ 1000000000000000) (w : Int) : f6 (k + 60) ((((m, d, l), ()), (mo, ()), (w, ()), ()), ()) = some (((true, ()), ()), ()) := by
  rw [e6_eq, alive, Option.bind_some]
  simp only [Bool.not_true, cond_false]
  generalize hK : k + 60 = K
  have hK2 : 2000 ≤ K := by omega
  obtain ⟨a, b, c, g1, g2⟩ := check_tot K hK2 m d l
  rw [g1, Option.bind_some]
  simp only []
  by_cases hc : c = 0
  · obtain ⟨rfl, rfl, hG⟩ := g2 hc
    subst hc
    simp only [beq_self_eq_true, Bool.and_self, Bool.not_true, cond_false]
    have hn := hG.ok.n
    obtain ⟨x0, x1⟩ := fx_in w l hn.1 (by omega)
    rw [cpos (by omega), cpos ⟨x0, x1⟩]
    obtain ⟨F, hF⟩ : ∃ F : Nat, fx w l = (F : Int) := ⟨(fx w l).toNat, by omega⟩
    rw [hF, Int.toNat_natCast]
    have hFl : F < l.length := by omega
    have hFn := (hG.ok.f F hFl).n
    by_cases h300 : IntKind.i64.wrap (((fa l F).2.2.2.length : Int) + (mo.length : Int)) > 300
    · rw [cpos h300]
    · rw [cneg h300]
      rw [wrapId (by omega) (by omega)] at h300
      obtain ⟨_, r, hr⟩ := hG.f F hFl
      rw [heights_good K m d l g1 F (by omega) (by omega) hr, Option.bind_some]
      simp only [List.nil_append, List.length_nil, Nat.zero_add]
      rw [blt (by omega), cpos (by omega), blt (by omega)]
      obtain ⟨more, u1, u2, L, u3⟩ := build_loop K hK2 m m d d l l mo mo w (F : Int) ((fa l F).2.2.2.length : Int) l r (by omega) mo.length 0 K (fa l F).2.2.2 (by omega) (by omega) (by omega)
      refine Eq.trans u3 ?_
      rw [e6_1]
      simp only []
      rw [cneg (by omega), cpos (by omega), Int.toNat_natCast]
      obtain ⟨by_, x, v1, v2⟩ := enc_tot K (by omega) m d (l.set F ((fa l F).1, (fa l F).2.1, (fa l F).2.2.1, (fa l F).2.2.2 ++ more))
      rw [v1, Option.bind_some]
      simp only []
      by_cases hx : x = 0
      · rw [nneg hx, cond_false]
        obtain ⟨hO, r2, y1, y2, y3⟩ := good_more hK2 hG hFl (by omega) u2 (v2 hx)
        have hr2 : r2 = r := by
          rw [y1] at hr
          simp only [R21, Option.some.injEq, Prod.mk.injEq, true_and, and_true] at hr
          exact hr
        subst hr2
        have hc2 := check_good K hK2 _ _ _ hO (hx ▸ v1)
        rw [heights_good K _ _ _ hc2 F (by omega) (by rw [List.length_set]; omega) y3, Option.bind_some, hc2, Option.bind_some]
        simp only [beq_self_eq_true, Bool.and_self, Bool.not_true, cond_false]
        have hpl := pad_len r2 more.length
        rw [wrapId (by omega) (by omega), nneg (by omega), cond_false, hpl]
        exact same_loop (fa l F).2.2.2.length _ r2 y2 more.length (by omega) (by omega) _ 0 K (Nat.le_refl _) (by omega)
      · rw [npos hx, cond_true]
  · have : (c == (0 : Int)) = false := bneg hc
    simp only [this, Bool.false_and, Bool.and_false, Bool.not_false, cond_true]
theorem law6 (k : Nat) : ∀ e ∈ [Fm.entry Try.prog F8 8 (f8 k), Fm.entry Try.prog F9 9 (f9 k), Fm.entry Try.prog F11 11 (f11 k), Fm.entry Try.prog F15 15 (f15 k), Fm.entry Try.prog F17 17 (f17 k), Fm.entry Try.prog F18 18 (f18 k)], EGood Try.prog e := goods_cons (g8 k) (goods_cons (g9 k) (goods_cons (g11 k) (goods_cons (g15 k) (goods_cons (g17 k) (goods_cons (g18 k) goods_nil)))))
theorem checkDead {P : Prop} (m : Int × List Int × Fs) (mo : List (Int × Int)) (w : Int) (_ : P) (hmo : mo.length * 16 ≤ 140737488351232) : f6 (2000 + 60) (((m, ()), (mo, ()), (w, ()), ()), ()) = some (((true, ()), ()), ()) :=
  dead_at 2000 (Nat.le_refl _) m.1 m.2.1 m.2.2 mo (by omega) w
end
end Go.Proofs.Ytgngbbkaghmnpaa.Ck
