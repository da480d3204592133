/- The abstract machine computes what was printed. No conditions -/
import Derived.Test.YthgolelddficaaaGreatDoorXd1
import Derived.KernelRfl
set_option linter.unusedVariables false
set_option linter.unusedSimpArgs false
set_option maxRecDepth 100000
set_option maxHeartbeats 0
namespace Go.Ev
open Go Go.RowKit Go.Proofs
variable {W0 : World}
theorem St6_0_0_ok (next : KS) (K : KX) (n0 : Int) (l1 l2 : PL) (n3 : Int) (l4 l5 : PL) : roundK [5, 6, 8, 10, 12] [] [4] Rn6_0 next (T6_0_0 n0 l1 l2 n3 l4 l5) (S6_0_0 n0 l1 l2 n3 l4 l5) K = St6_0_0 (fun y0 y1 y2 y3 y4 y5 => next (T6_0_0 y0 y1 y2 y3 y4 y5) (S6_0_0 y0 y1 y2 y3 y4 y5)) (X6_0_0 K) (X6_0_1 K) n0 l1 l2 n3 l4 l5 := by kernel_rfl
theorem ind6_0 (K : KX) : ∀ n : Nat, (∀ (n0 : Int) (l1 l2 : PL) (n3 : Int) (l4 l5 : PL), loopN [5, 6, 8, 10, 12] [] [4] Rn6_0 n (T6_0_0 n0 l1 l2 n3 l4 l5) (S6_0_0 n0 l1 l2 n3 l4 l5) K = L6_0_0 (X6_0_0 K) (X6_0_1 K) n n0 l1 l2 n3 l4 l5)
 | 0 => by intros; rfl
 | n + 1 => by
  have ih := ind6_0 K n
  intro n0 l1 l2 n3 l4 l5
  show roundK _ _ _ Rn6_0 _ _ _ K = _
  rw [St6_0_0_ok]; simp only [ih]; rfl
theorem Ent6_0_ok (hΓ : Sd W0 Γ148) : EntOk Tryz.prog W0 Ent6_0 B6_0 := finE (ex := []) (res := [4]) (Λ := Λ6_0) hΓ (nlL (by kernel_rfl)) fun T σ K h => by
 obtain ⟨⟨x0, x1, x2, x3, _⟩, ⟨⟨x4, x5, _⟩, _⟩, rfl, rfl, h1⟩ := wT_f h
 exact (ind6_0 K fuel x0 x1 x2 x3 x4 x5).trans h1
theorem g6 (a0_0 : Bool) (a0_1 a0_2 a0_3 a0_4 a0_5 a0_6 a0_7 a0_8 a0_9 a0_10 a0_11 a0_12 a0_13 a0_14 a0_15 a0_16 a0_17 a0_18 a0_19 a0_20 a0_21 a0_22 a0_23 a0_24 a0_25 a0_26 a1 : Int) (K : RRes -> Bool) : runFn E Γ148 (mkΛ [Ent6_0]) false Tryz.f6 [(xA [(xB a0_0), (xJ .u8 a0_1), (xJ .u8 a0_2), (xJ .i8 a0_3), (xJ .i8 a0_4), (xJ .i8 a0_5), (xJ .i8 a0_6), (xJ .i8 a0_7), (xJ .i8 a0_8), (xJ .i8 a0_9), (xJ .i8 a0_10), (xJ .i8 a0_11), (xJ .i8 a0_12), (xJ .i8 a0_13), (xJ .i8 a0_14), (xJ .i8 a0_15), (xJ .i8 a0_16), (xJ .i8 a0_17), (xJ .i8 a0_18), (xJ .i8 a0_19), (xJ .i8 a0_20), (xJ .i8 a0_21), (xJ .i8 a0_22), (xJ .i8 a0_23), (xJ .i8 a0_24), (xJ .i8 a0_25), (xJ .i8 a0_26)]), (xJ .u8 a1)] K = G6 a0_0 a0_1 a0_2 a0_3 a0_4 a0_5 a0_6 a0_7 a0_8 a0_9 a0_10 a0_11 a0_12 a0_13 a0_14 a0_15 a0_16 a0_17 a0_18 a0_19 a0_20 a0_21 a0_22 a0_23 a0_24 a0_25 a0_26 a1 (fun z0 => K (.one (.p (xB z0)))) := by kernel_rfl
theorem snd6 (hΓ : Sd W0 Γ148) : Sd W0 Γ149 := sound_add hΓ fun l K h => by
 obtain ⟨⟨⟨a0_0, a0_1, a0_2, a0_3, a0_4, a0_5, a0_6, a0_7, a0_8, a0_9, a0_10, a0_11, a0_12, a0_13, a0_14, a0_15, a0_16, a0_17, a0_18, a0_19, a0_20, a0_21, a0_22, a0_23, a0_24, a0_25, a0_26, _⟩, a1, _⟩, rfl, h1⟩ := wA_f h
 rw [Q6_def] at h1
 exact finF hΓ (mkL (xs := [(Ent6_0, B6_0)]) (by kernel_rfl) (by kernel_rfl) ⟨Ent6_0_ok hΓ, trivial⟩) Tryz.func6 (by kernel_rfl) ((g6 _ _ _ _ _ _ _ _ _ _ _ _ _ _ _ _ _ _ _ _ _ _ _ _ _ _ _ _ K).trans h1)
end Go.Ev
