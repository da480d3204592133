/- The abstract machine computes what was printed. No conditions -/
import Derived.Test.YthgolelddficaaaGreatDoorXd1
import Derived.KernelRfl
set_option linter.unusedVariables false
set_option linter.unusedSimpArgs false
set_option maxRecDepth 100000
set_option maxHeartbeats 0
namespace Go.Ev
open Go Go.RowKit Go.Proofs
variable {W0 : World}
theorem St26_0_0_ok (next : KS) (K : KX) (l0 l1 : PL) (n2 : Int) : roundK [7, 8, 9, 10] [9] [6] Rn26_0 next (T26_0_0 l0 l1 n2) (S26_0_0 l0 l1 n2) K = St26_0_0 (fun y0 y1 y2 => next (T26_0_0 y0 y1 y2) (S26_0_0 y0 y1 y2)) (fun y0 y1 y2 y3 => next (T26_0_1 y0 y1 y2 y3) (S26_0_1 y0 y1 y2 y3)) (X26_0_0 K) (X26_0_1 K) l0 l1 n2 := by kernel_rfl
theorem St26_0_1_ok (next : KS) (K : KX) (l0 l1 : PL) (n2 : Int) (l3 : PL) : roundK [7, 8, 9, 10] [9] [6] Rn26_0 next (T26_0_1 l0 l1 n2 l3) (S26_0_1 l0 l1 n2 l3) K = St26_0_1 (fun y0 y1 y2 => next (T26_0_0 y0 y1 y2) (S26_0_0 y0 y1 y2)) (fun y0 y1 y2 y3 => next (T26_0_1 y0 y1 y2 y3) (S26_0_1 y0 y1 y2 y3)) (X26_0_0 K) (X26_0_1 K) l0 l1 n2 l3 := by kernel_rfl
theorem ind26_0 (K : KX) : ∀ n : Nat, (∀ (l0 l1 : PL) (n2 : Int), loopN [7, 8, 9, 10] [9] [6] Rn26_0 n (T26_0_0 l0 l1 n2) (S26_0_0 l0 l1 n2) K = L26_0_0 (X26_0_0 K) (X26_0_1 K) n l0 l1 n2) /\ (∀ (l0 l1 : PL) (n2 : Int) (l3 : PL), loopN [7, 8, 9, 10] [9] [6] Rn26_0 n (T26_0_1 l0 l1 n2 l3) (S26_0_1 l0 l1 n2 l3) K = L26_0_1 (X26_0_0 K) (X26_0_1 K) n l0 l1 n2 l3)
 | 0 => ⟨by intros; rfl, by intros; rfl⟩
 | n + 1 => by
  have ih := ind26_0 K n
  refine ⟨?_, ?_⟩
  ·intro l0 l1 n2
   show roundK _ _ _ Rn26_0 _ _ _ K = _
   rw [St26_0_0_ok]; simp only [ih.1, ih.2]; rfl
  ·intro l0 l1 n2 l3
   show roundK _ _ _ Rn26_0 _ _ _ K = _
   rw [St26_0_1_ok]; simp only [ih.1, ih.2]; rfl
theorem Ent26_0_ok (hΓ : Sd W0 Γ151) : EntOk Tryz.prog W0 Ent26_0 B26_0 := finE (ex := [9]) (res := [6]) (Λ := Λ26_0) hΓ (nlL (by kernel_rfl)) fun T σ K h => by
 rcases wT_or h with ⟨⟨x0, x1, _, x2, _⟩, _, rfl, rfl, h1⟩ | h1
 ·exact ((ind26_0 K fuel).1 x0 x1 x2).trans h1
 obtain ⟨⟨x0, x1, x2, _⟩, ⟨x3, _⟩, rfl, rfl, h2⟩ := wT_f h1
 exact ((ind26_0 K fuel).2 x0 x1 x2 x3).trans h2
theorem g26 (a0_0 a0_1 : PL) (a1 a2 : Int) (K : RRes -> Bool) : runFn E Γ151 (mkΛ [Ent26_0]) false Tryz.f26 [(xA [(xV a0_0), (xV a0_1)]), (xI a1), (xI a2)] K = G26 a0_0 a0_1 a1 a2 (fun z0 => K (.one (.p (xV z0)))) := by kernel_rfl
theorem snd26 (hΓ : Sd W0 Γ151) : Sd W0 Γ152 := sound_add hΓ fun l K h => by
 obtain ⟨⟨⟨a0_0, a0_1, _⟩, a1, a2, _⟩, rfl, h1⟩ := wA_f h
 rw [Q26_def] at h1
 exact finF hΓ (mkL (xs := [(Ent26_0, B26_0)]) (by kernel_rfl) (by kernel_rfl) ⟨Ent26_0_ok hΓ, trivial⟩) Tryz.func26 (by kernel_rfl) ((g26 _ _ _ _ K).trans h1)
theorem St17_0_0_ok (next : KS) (K : KX) (l0 l1 : PL) (n2 : Int) : roundK [0, 1, 5] [] [4] Rn17_0 next (T17_0_0 l0 l1 n2) (S17_0_0 l0 l1 n2) K = St17_0_0 (fun y0 y1 y2 => next (T17_0_0 y0 y1 y2) (S17_0_0 y0 y1 y2)) (X17_0_0 K) (X17_0_1 K) l0 l1 n2 := by kernel_rfl
theorem ind17_0 (K : KX) : ∀ n : Nat, (∀ (l0 l1 : PL) (n2 : Int), loopN [0, 1, 5] [] [4] Rn17_0 n (T17_0_0 l0 l1 n2) (S17_0_0 l0 l1 n2) K = L17_0_0 (X17_0_0 K) (X17_0_1 K) n l0 l1 n2)
 | 0 => by intros; rfl
 | n + 1 => by
  have ih := ind17_0 K n
  intro l0 l1 n2
  show roundK _ _ _ Rn17_0 _ _ _ K = _
  rw [St17_0_0_ok]; simp only [ih]; rfl
theorem Ent17_0_ok (hΓ : Sd W0 Γ152) : EntOk Tryz.prog W0 Ent17_0 B17_0 := finE (ex := []) (res := [4]) (Λ := Λ17_0) hΓ (nlL (by kernel_rfl)) fun T σ K h => by
 obtain ⟨⟨x0, x1, x2, _⟩, _, rfl, rfl, h1⟩ := wT_f h
 exact (ind17_0 K fuel x0 x1 x2).trans h1
theorem g17 (a0 a1 : PL) (K : RRes -> Bool) : runFn E Γ152 (mkΛ [Ent17_0]) false Tryz.f17 [(xV a0), (xV a1)] K = G17 a0 a1 (fun z0 => K (.one (.p (xB z0)))) := by kernel_rfl
theorem snd17 (hΓ : Sd W0 Γ152) : Sd W0 Γ153 := sound_add hΓ fun l K h => by
 obtain ⟨⟨a0, a1, _⟩, rfl, h1⟩ := wA_f h
 rw [Q17_def] at h1
 exact finF hΓ (mkL (xs := [(Ent17_0, B17_0)]) (by kernel_rfl) (by kernel_rfl) ⟨Ent17_0_ok hΓ, trivial⟩) Tryz.func17 (by kernel_rfl) ((g17 _ _ K).trans h1)
theorem St7_2_0_ok (next : KS) (K : KX) (l0 : PL) (n1 n2 : Int) (l3 l4 : PL) : roundK [3, 4, 6, 7] [3, 4, 6] [2] Rn7_2 next (T7_2_0 l0 n1 n2 l3 l4) (S7_2_0 l0 n1 n2 l3 l4) K = St7_2_0 (fun y0 y1 y2 y3 y4 => next (T7_2_0 y0 y1 y2 y3 y4) (S7_2_0 y0 y1 y2 y3 y4)) (X7_2_0 K) (X7_2_1 K) l0 n1 n2 l3 l4 := by kernel_rfl
theorem ind7_2 (K : KX) : ∀ n : Nat, (∀ (l0 : PL) (n1 n2 : Int) (l3 l4 : PL), loopN [3, 4, 6, 7] [3, 4, 6] [2] Rn7_2 n (T7_2_0 l0 n1 n2 l3 l4) (S7_2_0 l0 n1 n2 l3 l4) K = L7_2_0 (X7_2_0 K) (X7_2_1 K) n l0 n1 n2 l3 l4)
 | 0 => by intros; rfl
 | n + 1 => by
  have ih := ind7_2 K n
  intro l0 n1 n2 l3 l4
  show roundK _ _ _ Rn7_2 _ _ _ K = _
  rw [St7_2_0_ok]; simp only [ih]; rfl
theorem Ent7_2_ok (hΓ : Sd W0 Γ153) : EntOk Tryz.prog W0 Ent7_2 B7_2 := finE (ex := [3, 4, 6]) (res := [2]) (Λ := Λ7_2) hΓ (nlL (by kernel_rfl)) fun T σ K h => by
 obtain ⟨⟨x0, x1, x2, _⟩, ⟨⟨x3, x4, _⟩, _⟩, rfl, rfl, h1⟩ := wT_f h
 exact (ind7_2 K fuel x0 x1 x2 x3 x4).trans h1
theorem St7_0_0_ok (next : KS) (K : KX) (l0 : PL) (n1 : Int) (l2 l3 : PL) : roundK [3, 4, 6] [] [2] Rn7_0 next (T7_0_0 l0 n1 l2 l3) (S7_0_0 l0 n1 l2 l3) K = St7_0_0 (fun y0 y1 y2 y3 => next (T7_0_0 y0 y1 y2 y3) (S7_0_0 y0 y1 y2 y3)) (X7_0_0 K) (X7_0_1 K) l0 n1 l2 l3 := by kernel_rfl
theorem ind7_0 (K : KX) : ∀ n : Nat, (∀ (l0 : PL) (n1 : Int) (l2 l3 : PL), loopN [3, 4, 6] [] [2] Rn7_0 n (T7_0_0 l0 n1 l2 l3) (S7_0_0 l0 n1 l2 l3) K = L7_0_0 (X7_0_0 K) (X7_0_1 K) n l0 n1 l2 l3)
 | 0 => by intros; rfl
 | n + 1 => by
  have ih := ind7_0 K n
  intro l0 n1 l2 l3
  show roundK _ _ _ Rn7_0 _ _ _ K = _
  rw [St7_0_0_ok]; simp only [ih]; rfl
theorem Ent7_0_ok (hΓ : Sd W0 Γ153) : EntOk Tryz.prog W0 Ent7_0 B7_0 := finE (ex := []) (res := [2]) (Λ := Λ7_0) hΓ (mkL (xs := [(Ent7_2, B7_2)]) (by kernel_rfl) (by kernel_rfl) ⟨Ent7_2_ok hΓ, trivial⟩) fun T σ K h => by
 obtain ⟨⟨x0, x1, _⟩, ⟨⟨x2, x3, _⟩, _⟩, rfl, rfl, h1⟩ := wT_f h
 exact (ind7_0 K fuel x0 x1 x2 x3).trans h1
theorem g7 (a0_0 : Bool) (a0_1 a0_2 a0_3 a0_4 a0_5 a0_6 a0_7 a0_8 a0_9 a0_10 a0_11 a0_12 a0_13 a0_14 a0_15 a0_16 a0_17 a0_18 a0_19 a0_20 a0_21 a0_22 a0_23 a0_24 a0_25 a0_26 : Int) (K : RRes -> Bool) : runFn E Γ153 (mkΛ [Ent7_0]) false Tryz.f7 [(xA [(xB a0_0), (xJ .u8 a0_1), (xJ .u8 a0_2), (xJ .i8 a0_3), (xJ .i8 a0_4), (xJ .i8 a0_5), (xJ .i8 a0_6), (xJ .i8 a0_7), (xJ .i8 a0_8), (xJ .i8 a0_9), (xJ .i8 a0_10), (xJ .i8 a0_11), (xJ .i8 a0_12), (xJ .i8 a0_13), (xJ .i8 a0_14), (xJ .i8 a0_15), (xJ .i8 a0_16), (xJ .i8 a0_17), (xJ .i8 a0_18), (xJ .i8 a0_19), (xJ .i8 a0_20), (xJ .i8 a0_21), (xJ .i8 a0_22), (xJ .i8 a0_23), (xJ .i8 a0_24), (xJ .i8 a0_25), (xJ .i8 a0_26)])] K = G7 a0_0 a0_1 a0_2 a0_3 a0_4 a0_5 a0_6 a0_7 a0_8 a0_9 a0_10 a0_11 a0_12 a0_13 a0_14 a0_15 a0_16 a0_17 a0_18 a0_19 a0_20 a0_21 a0_22 a0_23 a0_24 a0_25 a0_26 (fun z0 => K (.one (.p (xB z0)))) := by kernel_rfl
theorem snd7 (hΓ : Sd W0 Γ153) : Sd W0 Γ154 := sound_add hΓ fun l K h => by
 obtain ⟨⟨⟨a0_0, a0_1, a0_2, a0_3, a0_4, a0_5, a0_6, a0_7, a0_8, a0_9, a0_10, a0_11, a0_12, a0_13, a0_14, a0_15, a0_16, a0_17, a0_18, a0_19, a0_20, a0_21, a0_22, a0_23, a0_24, a0_25, a0_26, _⟩, _⟩, rfl, h1⟩ := wA_f h
 rw [Q7_def] at h1
 exact finF hΓ (mkL (xs := [(Ent7_0, B7_0)]) (by kernel_rfl) (by kernel_rfl) ⟨Ent7_0_ok hΓ, trivial⟩) Tryz.func7 (by kernel_rfl) ((g7 _ _ _ _ _ _ _ _ _ _ _ _ _ _ _ _ _ _ _ _ _ _ _ _ _ _ _ K).trans h1)
end Go.Ev
