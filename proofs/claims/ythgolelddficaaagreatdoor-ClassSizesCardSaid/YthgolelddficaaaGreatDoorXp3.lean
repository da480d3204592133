/- The abstract machine computes what was printed. No conditions -/
import Derived.Test.YthgolelddficaaaGreatDoorXd1
import Derived.KernelRfl
set_option linter.unusedVariables false
set_option linter.unusedSimpArgs false
set_option maxRecDepth 100000
set_option maxHeartbeats 0
namespace Go.Ev
open Go Go.RowKit Go.Proofs
variable {W0 : World}
theorem g90 (a0_0 a0_1 : ByteArray) (K : RRes -> Bool) : runFn E Γ150 (mkΛ []) false Tryz.f90 [(xA [(xZ a0_0), (xZ a0_1)])] K = G90 a0_0 a0_1 (fun z0_0 z0_1 => K (.one (.p (xA [(xZ z0_0), (xZ z0_1)])))) := by kernel_rfl
theorem snd90 (hΓ : Sd W0 Γ150) : Sd W0 Γ151 := sound_add hΓ fun l K h => by
 obtain ⟨⟨⟨a0_0, a0_1, _⟩, _⟩, rfl, h1⟩ := wA_f h
 rw [Q90_def] at h1
 exact finN hΓ Tryz.func90 (by kernel_rfl) ((g90 _ _ K).trans h1)
theorem g57 (a0_0 a0_1 a1_0 a1_1 : ByteArray) (K : RRes -> Bool) : runFn E Γ151 (mkΛ []) false Tryz.f57 [(xA [(xZ a0_0), (xZ a0_1)]), (xA [(xZ a1_0), (xZ a1_1)])] K = G57 a0_0 a0_1 a1_0 a1_1 (fun z0_0 z0_1 => K (.one (.p (xA [(xZ z0_0), (xZ z0_1)])))) := by kernel_rfl
theorem snd57 (hΓ : Sd W0 Γ151) : Sd W0 Γ152 := sound_add hΓ fun l K h => by
 obtain ⟨⟨⟨a0_0, a0_1, _⟩, ⟨a1_0, a1_1, _⟩, _⟩, rfl, h1⟩ := wA_f h
 rw [Q57_def] at h1
 exact finN hΓ Tryz.func57 (by kernel_rfl) ((g57 _ _ _ _ K).trans h1)
theorem St26_0_0_ok (next : KS) (K : KX) (l0 l1 : PL) (n2 : Int) : roundK [7, 8, 9, 10] [9] [6] Rn26_0 next (T26_0_0 l0 l1 n2) (S26_0_0 l0 l1 n2) K = St26_0_0 (fun y0 y1 y2 => next (T26_0_0 y0 y1 y2) (S26_0_0 y0 y1 y2)) (fun y0 y1 y2 y3 => next (T26_0_1 y0 y1 y2 y3) (S26_0_1 y0 y1 y2 y3)) (X26_0_0 K) (X26_0_1 K) l0 l1 n2 := by kernel_rfl
theorem St26_0_1_ok (next : KS) (K : KX) (l0 l1 : PL) (n2 : Int) (l3 : PL) : roundK [7, 8, 9, 10] [9] [6] Rn26_0 next (T26_0_1 l0 l1 n2 l3) (S26_0_1 l0 l1 n2 l3) K = St26_0_1 (fun y0 y1 y2 => next (T26_0_0 y0 y1 y2) (S26_0_0 y0 y1 y2)) (fun y0 y1 y2 y3 => next (T26_0_1 y0 y1 y2 y3) (S26_0_1 y0 y1 y2 y3)) (X26_0_0 K) (X26_0_1 K) l0 l1 n2 l3 := by kernel_rfl
theorem ind26_0 (K : KX) : ∀ n : Nat, (∀ (l0 l1 : PL) (n2 : Int), loopN [7, 8, 9, 10] [9] [6] Rn26_0 n (T26_0_0 l0 l1 n2) (S26_0_0 l0 l1 n2) K = L26_0_0 (X26_0_0 K) (X26_0_1 K) n l0 l1 n2) /\ (∀ (l0 l1 : PL) (n2 : Int) (l3 : PL), loopN [7, 8, 9, 10] [9] [6] Rn26_0 n (T26_0_1 l0 l1 n2 l3) (S26_0_1 l0 l1 n2 l3) K = L26_0_1 (X26_0_0 K) (X26_0_1 K) n l0 l1 n2 l3)
 | 0 => ⟨by intros; rfl, by intros; rfl⟩
 | n + 1 => by
  have ih := ind26_0 K n
  refine ⟨?_, ?_⟩
  ·intro l0 l1 n2
   show roundK _ _ _ Rn26_0 _ _ _ K = _
   rw [St26_0_0_ok]; simp only [ih.1, ih.2]; rfl
  ·intro l0 l1 n2 l3
   show roundK _ _ _ Rn26_0 _ _ _ K = _
   rw [St26_0_1_ok]; simp only [ih.1, ih.2]; rfl
theorem Ent26_0_ok (hΓ : Sd W0 Γ152) : EntOk Tryz.prog W0 Ent26_0 B26_0 := finE (ex := [9]) (res := [6]) (Λ := Λ26_0) hΓ (nlL (by kernel_rfl)) fun T σ K h => by
 rcases wT_or h with ⟨⟨x0, x1, _, x2, _⟩, _, rfl, rfl, h1⟩ | h1
 ·exact ((ind26_0 K fuel).1 x0 x1 x2).trans h1
 obtain ⟨⟨x0, x1, x2, _⟩, ⟨x3, _⟩, rfl, rfl, h2⟩ := wT_f h1
 exact ((ind26_0 K fuel).2 x0 x1 x2 x3).trans h2
theorem g26 (a0_0 a0_1 : PL) (a1 a2 : Int) (K : RRes -> Bool) : runFn E Γ152 (mkΛ [Ent26_0]) false Tryz.f26 [(xA [(xV a0_0), (xV a0_1)]), (xI a1), (xI a2)] K = G26 a0_0 a0_1 a1 a2 (fun z0 => K (.one (.p (xV z0)))) := by kernel_rfl
theorem snd26 (hΓ : Sd W0 Γ152) : Sd W0 Γ153 := sound_add hΓ fun l K h => by
 obtain ⟨⟨⟨a0_0, a0_1, _⟩, a1, a2, _⟩, rfl, h1⟩ := wA_f h
 rw [Q26_def] at h1
 exact finF hΓ (mkL (xs := [(Ent26_0, B26_0)]) (by kernel_rfl) (by kernel_rfl) ⟨Ent26_0_ok hΓ, trivial⟩) Tryz.func26 (by kernel_rfl) ((g26 _ _ _ _ K).trans h1)
theorem g22 (a0_0 a0_1 a1 a2 : PL) (K : RRes -> Bool) : runFn E Γ153 (mkΛ []) false Tryz.f22 [(xA [(xV a0_0), (xV a0_1)]), (xV a1), (xV a2)] K = G22 a0_0 a0_1 a1 a2 (fun z0 => K (.one (.p (xB z0)))) := by kernel_rfl
theorem snd22 (hΓ : Sd W0 Γ153) : Sd W0 Γ154 := sound_add hΓ fun l K h => by
 obtain ⟨⟨⟨a0_0, a0_1, _⟩, a1, a2, _⟩, rfl, h1⟩ := wA_f h
 rw [Q22_def] at h1
 exact finN hΓ Tryz.func22 (by kernel_rfl) ((g22 _ _ _ _ K).trans h1)
theorem St17_0_0_ok (next : KS) (K : KX) (l0 l1 : PL) (n2 : Int) : roundK [0, 1, 5] [] [4] Rn17_0 next (T17_0_0 l0 l1 n2) (S17_0_0 l0 l1 n2) K = St17_0_0 (fun y0 y1 y2 => next (T17_0_0 y0 y1 y2) (S17_0_0 y0 y1 y2)) (X17_0_0 K) (X17_0_1 K) l0 l1 n2 := by kernel_rfl
theorem ind17_0 (K : KX) : ∀ n : Nat, (∀ (l0 l1 : PL) (n2 : Int), loopN [0, 1, 5] [] [4] Rn17_0 n (T17_0_0 l0 l1 n2) (S17_0_0 l0 l1 n2) K = L17_0_0 (X17_0_0 K) (X17_0_1 K) n l0 l1 n2)
 | 0 => by intros; rfl
 | n + 1 => by
  have ih := ind17_0 K n
  intro l0 l1 n2
  show roundK _ _ _ Rn17_0 _ _ _ K = _
  rw [St17_0_0_ok]; simp only [ih]; rfl
theorem Ent17_0_ok (hΓ : Sd W0 Γ154) : EntOk Tryz.prog W0 Ent17_0 B17_0 := finE (ex := []) (res := [4]) (Λ := Λ17_0) hΓ (nlL (by kernel_rfl)) fun T σ K h => by
 obtain ⟨⟨x0, x1, x2, _⟩, _, rfl, rfl, h1⟩ := wT_f h
 exact (ind17_0 K fuel x0 x1 x2).trans h1
theorem g17 (a0 a1 : PL) (K : RRes -> Bool) : runFn E Γ154 (mkΛ [Ent17_0]) false Tryz.f17 [(xV a0), (xV a1)] K = G17 a0 a1 (fun z0 => K (.one (.p (xB z0)))) := by kernel_rfl
theorem snd17 (hΓ : Sd W0 Γ154) : Sd W0 Γ155 := sound_add hΓ fun l K h => by
 obtain ⟨⟨a0, a1, _⟩, rfl, h1⟩ := wA_f h
 rw [Q17_def] at h1
 exact finF hΓ (mkL (xs := [(Ent17_0, B17_0)]) (by kernel_rfl) (by kernel_rfl) ⟨Ent17_0_ok hΓ, trivial⟩) Tryz.func17 (by kernel_rfl) ((g17 _ _ K).trans h1)
theorem St15_2_0_ok (next : KS) (K : KX) (n0 n1 : Int) (l2 : PL) (n3 : Int) (l4 l5 : PL) : roundK [1, 2, 5, 6, 7, 8] [1, 2, 5, 6, 7, 8] [4] Rn15_2 next (T15_2_0 n0 n1 l2 n3 l4 l5) (S15_2_0 n0 n1 l2 n3 l4 l5) K = St15_2_0 (fun y0 y1 y2 y3 y4 y5 => next (T15_2_0 y0 y1 y2 y3 y4 y5) (S15_2_0 y0 y1 y2 y3 y4 y5)) (fun y0 y1 y2 y3 y4 y5 y6 => next (T15_2_1 y0 y1 y2 y3 y4 y5 y6) (S15_2_1 y0 y1 y2 y3 y4 y5 y6)) (X15_2_0 K) (X15_2_1 K) n0 n1 l2 n3 l4 l5 := by kernel_rfl
theorem St15_2_1_ok (next : KS) (K : KX) (n0 n1 : Int) (l2 : PL) (n3 : Int) (l4 l5 l6 : PL) : roundK [1, 2, 5, 6, 7, 8] [1, 2, 5, 6, 7, 8] [4] Rn15_2 next (T15_2_1 n0 n1 l2 n3 l4 l5 l6) (S15_2_1 n0 n1 l2 n3 l4 l5 l6) K = St15_2_1 (fun y0 y1 y2 y3 y4 y5 => next (T15_2_0 y0 y1 y2 y3 y4 y5) (S15_2_0 y0 y1 y2 y3 y4 y5)) (fun y0 y1 y2 y3 y4 y5 y6 => next (T15_2_1 y0 y1 y2 y3 y4 y5 y6) (S15_2_1 y0 y1 y2 y3 y4 y5 y6)) (X15_2_0 K) (X15_2_1 K) n0 n1 l2 n3 l4 l5 l6 := by kernel_rfl
theorem ind15_2 (K : KX) : ∀ n : Nat, (∀ (n0 n1 : Int) (l2 : PL) (n3 : Int) (l4 l5 : PL), loopN [1, 2, 5, 6, 7, 8] [1, 2, 5, 6, 7, 8] [4] Rn15_2 n (T15_2_0 n0 n1 l2 n3 l4 l5) (S15_2_0 n0 n1 l2 n3 l4 l5) K = L15_2_0 (X15_2_0 K) (X15_2_1 K) n n0 n1 l2 n3 l4 l5) /\ (∀ (n0 n1 : Int) (l2 : PL) (n3 : Int) (l4 l5 l6 : PL), loopN [1, 2, 5, 6, 7, 8] [1, 2, 5, 6, 7, 8] [4] Rn15_2 n (T15_2_1 n0 n1 l2 n3 l4 l5 l6) (S15_2_1 n0 n1 l2 n3 l4 l5 l6) K = L15_2_1 (X15_2_0 K) (X15_2_1 K) n n0 n1 l2 n3 l4 l5 l6)
 | 0 => ⟨by intros; rfl, by intros; rfl⟩
 | n + 1 => by
  have ih := ind15_2 K n
  refine ⟨?_, ?_⟩
  ·intro n0 n1 l2 n3 l4 l5
   show roundK _ _ _ Rn15_2 _ _ _ K = _
   rw [St15_2_0_ok]; simp only [ih.1, ih.2]; rfl
  ·intro n0 n1 l2 n3 l4 l5 l6
   show roundK _ _ _ Rn15_2 _ _ _ K = _
   rw [St15_2_1_ok]; simp only [ih.1, ih.2]; rfl
theorem Ent15_2_ok (hΓ : Sd W0 Γ155) : EntOk Tryz.prog W0 Ent15_2 B15_2 := finE (ex := [1, 2, 5, 6, 7, 8]) (res := [4]) (Λ := Λ15_2) hΓ (nlL (by kernel_rfl)) fun T σ K h => by
 rcases wT_or h with ⟨⟨x0, _, x1, x2, x3, _⟩, ⟨⟨x4, x5, _⟩, _⟩, rfl, rfl, h1⟩ | h1
 ·exact ((ind15_2 K fuel).1 x0 x1 x2 x3 x4 x5).trans h1
 obtain ⟨⟨x0, x1, x2, x3, _⟩, ⟨⟨x4, x5, _⟩, x6, _⟩, rfl, rfl, h2⟩ := wT_f h1
 exact ((ind15_2 K fuel).2 x0 x1 x2 x3 x4 x5 x6).trans h2
theorem St15_0_0_ok (next : KS) (K : KX) (n0 n1 : Int) (l2 l3 : PL) : roundK [1, 2, 5, 6] [5] [4] Rn15_0 next (T15_0_0 n0 n1 l2 l3) (S15_0_0 n0 n1 l2 l3) K = St15_0_0 (fun y0 y1 y2 y3 => next (T15_0_0 y0 y1 y2 y3) (S15_0_0 y0 y1 y2 y3)) (fun y0 y1 y2 y3 y4 => next (T15_0_1 y0 y1 y2 y3 y4) (S15_0_1 y0 y1 y2 y3 y4)) (X15_0_0 K) (X15_0_1 K) n0 n1 l2 l3 := by kernel_rfl
theorem St15_0_1_ok (next : KS) (K : KX) (n0 n1 : Int) (l2 l3 l4 : PL) : roundK [1, 2, 5, 6] [5] [4] Rn15_0 next (T15_0_1 n0 n1 l2 l3 l4) (S15_0_1 n0 n1 l2 l3 l4) K = St15_0_1 (fun y0 y1 y2 y3 => next (T15_0_0 y0 y1 y2 y3) (S15_0_0 y0 y1 y2 y3)) (fun y0 y1 y2 y3 y4 => next (T15_0_1 y0 y1 y2 y3 y4) (S15_0_1 y0 y1 y2 y3 y4)) (X15_0_0 K) (X15_0_1 K) n0 n1 l2 l3 l4 := by kernel_rfl
theorem ind15_0 (K : KX) : ∀ n : Nat, (∀ (n0 n1 : Int) (l2 l3 : PL), loopN [1, 2, 5, 6] [5] [4] Rn15_0 n (T15_0_0 n0 n1 l2 l3) (S15_0_0 n0 n1 l2 l3) K = L15_0_0 (X15_0_0 K) (X15_0_1 K) n n0 n1 l2 l3) /\ (∀ (n0 n1 : Int) (l2 l3 l4 : PL), loopN [1, 2, 5, 6] [5] [4] Rn15_0 n (T15_0_1 n0 n1 l2 l3 l4) (S15_0_1 n0 n1 l2 l3 l4) K = L15_0_1 (X15_0_0 K) (X15_0_1 K) n n0 n1 l2 l3 l4)
 | 0 => ⟨by intros; rfl, by intros; rfl⟩
 | n + 1 => by
  have ih := ind15_0 K n
  refine ⟨?_, ?_⟩
  ·intro n0 n1 l2 l3
   show roundK _ _ _ Rn15_0 _ _ _ K = _
   rw [St15_0_0_ok]; simp only [ih.1, ih.2]; rfl
  ·intro n0 n1 l2 l3 l4
   show roundK _ _ _ Rn15_0 _ _ _ K = _
   rw [St15_0_1_ok]; simp only [ih.1, ih.2]; rfl
theorem Ent15_0_ok (hΓ : Sd W0 Γ155) : EntOk Tryz.prog W0 Ent15_0 B15_0 := finE (ex := [5]) (res := [4]) (Λ := Λ15_0) hΓ (mkL (xs := [(Ent15_2, B15_2)]) (by kernel_rfl) (by kernel_rfl) ⟨Ent15_2_ok hΓ, trivial⟩) fun T σ K h => by
 rcases wT_or h with ⟨⟨x0, _, x1, _⟩, ⟨⟨x2, x3, _⟩, _⟩, rfl, rfl, h1⟩ | h1
 ·exact ((ind15_0 K fuel).1 x0 x1 x2 x3).trans h1
 obtain ⟨⟨x0, x1, _⟩, ⟨⟨x2, x3, _⟩, x4, _⟩, rfl, rfl, h2⟩ := wT_f h1
 exact ((ind15_0 K fuel).2 x0 x1 x2 x3 x4).trans h2
theorem g15 (a0_0 a0_1 : PL) (a1 : Int) (K : RRes -> Bool) : runFn E Γ155 (mkΛ [Ent15_0]) false Tryz.f15 [(xA [(xV a0_0), (xV a0_1)]), (xI a1)] K = G15 a0_0 a0_1 a1 (fun z0 => K (.one (.p (xV z0)))) := by kernel_rfl
theorem snd15 (hΓ : Sd W0 Γ155) : Sd W0 Γ156 := sound_add hΓ fun l K h => by
 obtain ⟨⟨⟨a0_0, a0_1, _⟩, a1, _⟩, rfl, h1⟩ := wA_f h
 rw [Q15_def] at h1
 exact finF hΓ (mkL (xs := [(Ent15_0, B15_0)]) (by kernel_rfl) (by kernel_rfl) ⟨Ent15_0_ok hΓ, trivial⟩) Tryz.func15 (by kernel_rfl) ((g15 _ _ _ K).trans h1)
theorem St28_0_0_ok (next : KS) (K : KX) (l0 l1 : PL) (n2 : Int) : roundK [0, 1, 5] [] [4] Rn28_0 next (T28_0_0 l0 l1 n2) (S28_0_0 l0 l1 n2) K = St28_0_0 (fun y0 y1 y2 => next (T28_0_0 y0 y1 y2) (S28_0_0 y0 y1 y2)) (X28_0_0 K) (X28_0_1 K) l0 l1 n2 := by kernel_rfl
theorem ind28_0 (K : KX) : ∀ n : Nat, (∀ (l0 l1 : PL) (n2 : Int), loopN [0, 1, 5] [] [4] Rn28_0 n (T28_0_0 l0 l1 n2) (S28_0_0 l0 l1 n2) K = L28_0_0 (X28_0_0 K) (X28_0_1 K) n l0 l1 n2)
 | 0 => by intros; rfl
 | n + 1 => by
  have ih := ind28_0 K n
  intro l0 l1 n2
  show roundK _ _ _ Rn28_0 _ _ _ K = _
  rw [St28_0_0_ok]; simp only [ih]; rfl
theorem Ent28_0_ok (hΓ : Sd W0 Γ156) : EntOk Tryz.prog W0 Ent28_0 B28_0 := finE (ex := []) (res := [4]) (Λ := Λ28_0) hΓ (nlL (by kernel_rfl)) fun T σ K h => by
 obtain ⟨⟨x0, x1, x2, _⟩, _, rfl, rfl, h1⟩ := wT_f h
 exact (ind28_0 K fuel x0 x1 x2).trans h1
theorem g28 (a0 a1 : PL) (K : RRes -> Bool) : runFn E Γ156 (mkΛ [Ent28_0]) false Tryz.f28 [(xV a0), (xV a1)] K = G28 a0 a1 (fun z0 => K (.one (.p (xB z0)))) := by kernel_rfl
theorem snd28 (hΓ : Sd W0 Γ156) : Sd W0 Γ157 := sound_add hΓ fun l K h => by
 obtain ⟨⟨a0, a1, _⟩, rfl, h1⟩ := wA_f h
 rw [Q28_def] at h1
 exact finF hΓ (mkL (xs := [(Ent28_0, B28_0)]) (by kernel_rfl) (by kernel_rfl) ⟨Ent28_0_ok hΓ, trivial⟩) Tryz.func28 (by kernel_rfl) ((g28 _ _ K).trans h1)
theorem snd29 (hH : Hand29 W0) (hΓ : Sd W0 Γ157) : Sd W0 Γ158 := sound_add hΓ fun l K h => by
 obtain ⟨⟨⟨a0_0, a0_1, _⟩, a1, a2, _⟩, rfl, h1⟩ := wA_f h
 exact hH _ _ _ _ K h1
theorem St9_2_0_ok (next : KS) (K : KX) (n0 : Int) (l1 : PL) (n2 n3 n4 n5 n6 n7 : Int) (l8 l9 : PL) : roundK [5, 6, 7, 9, 10, 11, 12, 13, 14] [5, 6, 7, 9, 10, 11, 12, 13] [4] Rn9_2 next (T9_2_0 n0 l1 n2 n3 n4 n5 n6 n7 l8 l9) (S9_2_0 n0 l1 n2 n3 n4 n5 n6 n7 l8 l9) K = St9_2_0 (fun y0 y1 y2 y3 y4 y5 y6 y7 y8 y9 => next (T9_2_0 y0 y1 y2 y3 y4 y5 y6 y7 y8 y9) (S9_2_0 y0 y1 y2 y3 y4 y5 y6 y7 y8 y9)) (X9_2_0 K) n0 l1 n2 n3 n4 n5 n6 n7 l8 l9 := by kernel_rfl
theorem ind9_2 (K : KX) : ∀ n : Nat, (∀ (n0 : Int) (l1 : PL) (n2 n3 n4 n5 n6 n7 : Int) (l8 l9 : PL), loopN [5, 6, 7, 9, 10, 11, 12, 13, 14] [5, 6, 7, 9, 10, 11, 12, 13] [4] Rn9_2 n (T9_2_0 n0 l1 n2 n3 n4 n5 n6 n7 l8 l9) (S9_2_0 n0 l1 n2 n3 n4 n5 n6 n7 l8 l9) K = L9_2_0 (X9_2_0 K) n n0 l1 n2 n3 n4 n5 n6 n7 l8 l9)
 | 0 => by intros; rfl
 | n + 1 => by
  have ih := ind9_2 K n
  intro n0 l1 n2 n3 n4 n5 n6 n7 l8 l9
  show roundK _ _ _ Rn9_2 _ _ _ K = _
  rw [St9_2_0_ok]; simp only [ih]; rfl
theorem Ent9_2_ok (hΓ : Sd W0 Γ158) : EntOk Tryz.prog W0 Ent9_2 B9_2 := finE (ex := [5, 6, 7, 9, 10, 11, 12, 13]) (res := [4]) (Λ := Λ9_2) hΓ (nlL (by kernel_rfl)) fun T σ K h => by
 obtain ⟨⟨x0, x1, x2, x3, x4, x5, x6, x7, _⟩, ⟨⟨x8, x9, _⟩, _⟩, rfl, rfl, h1⟩ := wT_f h
 exact (ind9_2 K fuel x0 x1 x2 x3 x4 x5 x6 x7 x8 x9).trans h1
theorem St9_0_0_ok (next : KS) (K : KX) (n0 : Int) (l1 : PL) (n2 n3 : Int) (l4 l5 : PL) : roundK [5, 6, 7, 9, 10] [5, 9] [4] Rn9_0 next (T9_0_0 n0 l1 n2 n3 l4 l5) (S9_0_0 n0 l1 n2 n3 l4 l5) K = St9_0_0 (fun y0 y1 y2 y3 y4 y5 => next (T9_0_0 y0 y1 y2 y3 y4 y5) (S9_0_0 y0 y1 y2 y3 y4 y5)) (X9_0_0 K) (X9_0_1 K) n0 l1 n2 n3 l4 l5 := by kernel_rfl
theorem ind9_0 (K : KX) : ∀ n : Nat, (∀ (n0 : Int) (l1 : PL) (n2 n3 : Int) (l4 l5 : PL), loopN [5, 6, 7, 9, 10] [5, 9] [4] Rn9_0 n (T9_0_0 n0 l1 n2 n3 l4 l5) (S9_0_0 n0 l1 n2 n3 l4 l5) K = L9_0_0 (X9_0_0 K) (X9_0_1 K) n n0 l1 n2 n3 l4 l5)
 | 0 => by intros; rfl
 | n + 1 => by
  have ih := ind9_0 K n
  intro n0 l1 n2 n3 l4 l5
  show roundK _ _ _ Rn9_0 _ _ _ K = _
  rw [St9_0_0_ok]; simp only [ih]; rfl
theorem Ent9_0_ok (hΓ : Sd W0 Γ158) : EntOk Tryz.prog W0 Ent9_0 B9_0 := finE (ex := [5, 9]) (res := [4]) (Λ := Λ9_0) hΓ (mkL (xs := [(Ent9_2, B9_2)]) (by kernel_rfl) (by kernel_rfl) ⟨Ent9_2_ok hΓ, trivial⟩) fun T σ K h => by
 obtain ⟨⟨x0, x1, x2, x3, _⟩, ⟨⟨x4, x5, _⟩, _⟩, rfl, rfl, h1⟩ := wT_f h
 exact (ind9_0 K fuel x0 x1 x2 x3 x4 x5).trans h1
theorem g9 (a0_0 : Bool) (a0_1 a0_2 a0_3 a0_4 a0_5 a0_6 a0_7 a0_8 a0_9 a0_10 a0_11 a0_12 a0_13 a0_14 a0_15 a0_16 a0_17 a0_18 a0_19 a0_20 a0_21 a0_22 a0_23 a0_24 a0_25 a0_26 a1 : Int) (K : RRes -> Bool) : runFn E Γ158 (mkΛ [Ent9_0]) false Tryz.f9 [(xA [(xB a0_0), (xJ .u8 a0_1), (xJ .u8 a0_2), (xJ .i8 a0_3), (xJ .i8 a0_4), (xJ .i8 a0_5), (xJ .i8 a0_6), (xJ .i8 a0_7), (xJ .i8 a0_8), (xJ .i8 a0_9), (xJ .i8 a0_10), (xJ .i8 a0_11), (xJ .i8 a0_12), (xJ .i8 a0_13), (xJ .i8 a0_14), (xJ .i8 a0_15), (xJ .i8 a0_16), (xJ .i8 a0_17), (xJ .i8 a0_18), (xJ .i8 a0_19), (xJ .i8 a0_20), (xJ .i8 a0_21), (xJ .i8 a0_22), (xJ .i8 a0_23), (xJ .i8 a0_24), (xJ .i8 a0_25), (xJ .i8 a0_26)]), (xJ .u8 a1)] K = G9 a0_0 a0_1 a0_2 a0_3 a0_4 a0_5 a0_6 a0_7 a0_8 a0_9 a0_10 a0_11 a0_12 a0_13 a0_14 a0_15 a0_16 a0_17 a0_18 a0_19 a0_20 a0_21 a0_22 a0_23 a0_24 a0_25 a0_26 a1 (fun z0 => K (.one (.p (xB z0)))) := by kernel_rfl
theorem snd9 (hΓ : Sd W0 Γ158) : Sd W0 Γ159 := sound_add hΓ fun l K h => by
 obtain ⟨⟨⟨a0_0, a0_1, a0_2, a0_3, a0_4, a0_5, a0_6, a0_7, a0_8, a0_9, a0_10, a0_11, a0_12, a0_13, a0_14, a0_15, a0_16, a0_17, a0_18, a0_19, a0_20, a0_21, a0_22, a0_23, a0_24, a0_25, a0_26, _⟩, a1, _⟩, rfl, h1⟩ := wA_f h
 rw [Q9_def] at h1
 exact finF hΓ (mkL (xs := [(Ent9_0, B9_0)]) (by kernel_rfl) (by kernel_rfl) ⟨Ent9_0_ok hΓ, trivial⟩) Tryz.func9 (by kernel_rfl) ((g9 _ _ _ _ _ _ _ _ _ _ _ _ _ _ _ _ _ _ _ _ _ _ _ _ _ _ _ _ K).trans h1)
end Go.Ev
