/- The abstract machine computes what was printed. No conditions -/
import Derived.Test.YthgolelddficaaaGreatDoorXd1
import Derived.KernelRfl
set_option linter.unusedVariables false
set_option linter.unusedSimpArgs false
set_option maxRecDepth 100000
set_option maxHeartbeats 0
namespace Go.Ev
open Go Go.RowKit Go.Proofs
variable {W0 : World}
theorem St101_2_0_ok (next : KS) (K : KX) (n0 n1 n2 : Int) (b3 : Bool) (l4 : PL) (b5 : Bool) (l6 : PL) (b7 : Bool) (l8 : PL) : roundK [2, 3, 4, 5, 6, 7, 8] [2, 3, 4, 5, 6] [4] Rn101_2 next (T101_2_0 n0 n1 n2 b3 l4 b5 l6 b7 l8) (S101_2_0 n0 n1 n2 b3 l4 b5 l6 b7 l8) K = St101_2_0 (fun y0 y1 y2 y3 y4 y5 y6 y7 y8 => next (T101_2_0 y0 y1 y2 y3 y4 y5 y6 y7 y8) (S101_2_0 y0 y1 y2 y3 y4 y5 y6 y7 y8)) (X101_2_0 K) n0 n1 n2 b3 l4 b5 l6 b7 l8 := by kernel_rfl
theorem ind101_2 (K : KX) : ∀ n : Nat, (∀ (n0 n1 n2 : Int) (b3 : Bool) (l4 : PL) (b5 : Bool) (l6 : PL) (b7 : Bool) (l8 : PL), loopN [2, 3, 4, 5, 6, 7, 8] [2, 3, 4, 5, 6] [4] Rn101_2 n (T101_2_0 n0 n1 n2 b3 l4 b5 l6 b7 l8) (S101_2_0 n0 n1 n2 b3 l4 b5 l6 b7 l8) K = L101_2_0 (X101_2_0 K) n n0 n1 n2 b3 l4 b5 l6 b7 l8)
 | 0 => by intros; rfl
 | n + 1 => by
  have ih := ind101_2 K n
  intro n0 n1 n2 b3 l4 b5 l6 b7 l8
  show roundK _ _ _ Rn101_2 _ _ _ K = _
  rw [St101_2_0_ok]; simp only [ih]; rfl
theorem Ent101_2_ok (hΓ : Sd W0 Γ114) : EntOk Tryz.prog W0 Ent101_2 B101_2 := finE (ex := [2, 3, 4, 5, 6]) (res := [4]) (Λ := Λ101_2) hΓ (nlL (by kernel_rfl)) fun T σ K h => by
 obtain ⟨⟨x0, x1, x2, _⟩, ⟨⟨x3, x4, _⟩, ⟨x5, x6, _⟩, ⟨x7, _, _⟩, x8, _⟩, rfl, rfl, h1⟩ := wT_f h
 exact (ind101_2 K fuel x0 x1 x2 x3 x4 x5 x6 x7 x8).trans h1
theorem St101_0_0_ok (next : KS) (K : KX) (n0 : Int) (b1 : Bool) (l2 : PL) (b3 : Bool) (l4 : PL) (b5 : Bool) (l6 : PL) : roundK [2, 3, 4, 5, 6] [2, 3, 4, 5] [4] Rn101_0 next (T101_0_0 n0 b1 l2 b3 l4 b5 l6) (S101_0_0 n0 b1 l2 b3 l4 b5 l6) K = St101_0_0 (fun y0 y1 y2 y3 y4 y5 y6 => next (T101_0_0 y0 y1 y2 y3 y4 y5 y6) (S101_0_0 y0 y1 y2 y3 y4 y5 y6)) (X101_0_0 K) n0 b1 l2 b3 l4 b5 l6 := by kernel_rfl
theorem ind101_0 (K : KX) : ∀ n : Nat, (∀ (n0 : Int) (b1 : Bool) (l2 : PL) (b3 : Bool) (l4 : PL) (b5 : Bool) (l6 : PL), loopN [2, 3, 4, 5, 6] [2, 3, 4, 5] [4] Rn101_0 n (T101_0_0 n0 b1 l2 b3 l4 b5 l6) (S101_0_0 n0 b1 l2 b3 l4 b5 l6) K = L101_0_0 (X101_0_0 K) n n0 b1 l2 b3 l4 b5 l6)
 | 0 => by intros; rfl
 | n + 1 => by
  have ih := ind101_0 K n
  intro n0 b1 l2 b3 l4 b5 l6
  show roundK _ _ _ Rn101_0 _ _ _ K = _
  rw [St101_0_0_ok]; simp only [ih]; rfl
theorem Ent101_0_ok (hΓ : Sd W0 Γ114) : EntOk Tryz.prog W0 Ent101_0 B101_0 := finE (ex := [2, 3, 4, 5]) (res := [4]) (Λ := Λ101_0) hΓ (mkL (xs := [(Ent101_2, B101_2)]) (by kernel_rfl) (by kernel_rfl) ⟨Ent101_2_ok hΓ, trivial⟩) fun T σ K h => by
 obtain ⟨⟨x0, _⟩, ⟨⟨x1, x2, _⟩, ⟨x3, x4, _⟩, ⟨x5, _, _⟩, x6, _⟩, rfl, rfl, h1⟩ := wT_f h
 exact (ind101_0 K fuel x0 x1 x2 x3 x4 x5 x6).trans h1
theorem g101 (a0_0 : Bool) (a0_1 : PL) (a1_0 : Bool) (a1_1 : PL) (K : RRes -> Bool) : runFn E Γ114 (mkΛ [Ent101_0]) false Tryz.f101 [(xA [(xB a0_0), (xV a0_1)]), (xA [(xB a1_0), (xV a1_1)])] K = G101 a0_0 a0_1 a1_0 a1_1 (fun z0_0 z0_1 => K (.one (.p (xA [(xB z0_0), (xV z0_1)])))) := by kernel_rfl
theorem snd101 (hΓ : Sd W0 Γ114) : Sd W0 Γ115 := sound_add hΓ fun l K h => by
 obtain ⟨⟨⟨a0_0, a0_1, _⟩, ⟨a1_0, a1_1, _⟩, _⟩, rfl, h1⟩ := wA_f h
 rw [Q101_def] at h1
 exact finF hΓ (mkL (xs := [(Ent101_0, B101_0)]) (by kernel_rfl) (by kernel_rfl) ⟨Ent101_0_ok hΓ, trivial⟩) Tryz.func101 (by kernel_rfl) ((g101 _ _ _ _ K).trans h1)
theorem g73 (a0_0 a0_1 a1_0 a1_1 : ByteArray) (K : RRes -> Bool) : runFn E Γ115 (mkΛ []) false Tryz.f73 [(xA [(xZ a0_0), (xZ a0_1)]), (xA [(xZ a1_0), (xZ a1_1)])] K = G73 a0_0 a0_1 a1_0 a1_1 (fun z0_0 z0_1 => K (.one (.p (xA [(xZ z0_0), (xZ z0_1)])))) := by kernel_rfl
theorem snd73 (hΓ : Sd W0 Γ115) : Sd W0 Γ116 := sound_add hΓ fun l K h => by
 obtain ⟨⟨⟨a0_0, a0_1, _⟩, ⟨a1_0, a1_1, _⟩, _⟩, rfl, h1⟩ := wA_f h
 rw [Q73_def] at h1
 exact finN hΓ Tryz.func73 (by kernel_rfl) ((g73 _ _ _ _ K).trans h1)
theorem St38_0_0_ok (next : KS) (K : KX) (l0 : PL) (n1 n2 : Int) (s3 s4 : ByteArray) : roundK [0, 3, 5, 8, 9] [5] [4] Rn38_0 next (T38_0_0 l0 n1 n2 s3 s4) (S38_0_0 l0 n1 n2 s3 s4) K = St38_0_0 (fun y0 y1 y2 y3 y4 => next (T38_0_0 y0 y1 y2 y3 y4) (S38_0_0 y0 y1 y2 y3 y4)) (fun y0 y1 y2 y3 y4 y5 => next (T38_0_1 y0 y1 y2 y3 y4 y5) (S38_0_1 y0 y1 y2 y3 y4 y5)) (X38_0_0 K) (X38_0_1 K) l0 n1 n2 s3 s4 := by kernel_rfl
theorem St38_0_1_ok (next : KS) (K : KX) (l0 : PL) (n1 n2 : Int) (s3 s4 : ByteArray) (l5 : PL) : roundK [0, 3, 5, 8, 9] [5] [4] Rn38_0 next (T38_0_1 l0 n1 n2 s3 s4 l5) (S38_0_1 l0 n1 n2 s3 s4 l5) K = St38_0_1 (fun y0 y1 y2 y3 y4 => next (T38_0_0 y0 y1 y2 y3 y4) (S38_0_0 y0 y1 y2 y3 y4)) (fun y0 y1 y2 y3 y4 y5 => next (T38_0_1 y0 y1 y2 y3 y4 y5) (S38_0_1 y0 y1 y2 y3 y4 y5)) (X38_0_0 K) (X38_0_1 K) l0 n1 n2 s3 s4 l5 := by kernel_rfl
theorem ind38_0 (K : KX) : ∀ n : Nat, (∀ (l0 : PL) (n1 n2 : Int) (s3 s4 : ByteArray), loopN [0, 3, 5, 8, 9] [5] [4] Rn38_0 n (T38_0_0 l0 n1 n2 s3 s4) (S38_0_0 l0 n1 n2 s3 s4) K = L38_0_0 (X38_0_0 K) (X38_0_1 K) n l0 n1 n2 s3 s4) /\ (∀ (l0 : PL) (n1 n2 : Int) (s3 s4 : ByteArray) (l5 : PL), loopN [0, 3, 5, 8, 9] [5] [4] Rn38_0 n (T38_0_1 l0 n1 n2 s3 s4 l5) (S38_0_1 l0 n1 n2 s3 s4 l5) K = L38_0_1 (X38_0_0 K) (X38_0_1 K) n l0 n1 n2 s3 s4 l5)
 | 0 => ⟨by intros; rfl, by intros; rfl⟩
 | n + 1 => by
  have ih := ind38_0 K n
  refine ⟨?_, ?_⟩
  ·intro l0 n1 n2 s3 s4
   show roundK _ _ _ Rn38_0 _ _ _ K = _
   rw [St38_0_0_ok]; simp only [ih.1, ih.2]; rfl
  ·intro l0 n1 n2 s3 s4 l5
   show roundK _ _ _ Rn38_0 _ _ _ K = _
   rw [St38_0_1_ok]; simp only [ih.1, ih.2]; rfl
theorem Ent38_0_ok (hΓ : Sd W0 Γ116) : EntOk Tryz.prog W0 Ent38_0 B38_0 := finE (ex := [5]) (res := [4]) (Λ := Λ38_0) hΓ (nlL (by kernel_rfl)) fun T σ K h => by
 rcases wT_or h with ⟨⟨x0, _, x1, x2, _⟩, ⟨⟨x3, x4, _⟩, _⟩, rfl, rfl, h1⟩ | h1
 ·exact ((ind38_0 K fuel).1 x0 x1 x2 x3 x4).trans h1
 obtain ⟨⟨x0, x1, x2, _⟩, ⟨⟨x3, x4, _⟩, x5, _⟩, rfl, rfl, h2⟩ := wT_f h1
 exact ((ind38_0 K fuel).2 x0 x1 x2 x3 x4 x5).trans h2
theorem g38 (a0 : PL) (a1_0 a1_1 : ByteArray) (K : RRes -> Bool) : runFn E Γ116 (mkΛ [Ent38_0]) false Tryz.f38 [(xV a0), (xA [(xZ a1_0), (xZ a1_1)])] K = G38 a0 a1_0 a1_1 (fun z0 => K (.one (.p (xV z0)))) := by kernel_rfl
theorem snd38 (hΓ : Sd W0 Γ116) : Sd W0 Γ117 := sound_add hΓ fun l K h => by
 obtain ⟨⟨a0, ⟨a1_0, a1_1, _⟩, _⟩, rfl, h1⟩ := wA_f h
 rw [Q38_def] at h1
 exact finF hΓ (mkL (xs := [(Ent38_0, B38_0)]) (by kernel_rfl) (by kernel_rfl) ⟨Ent38_0_ok hΓ, trivial⟩) Tryz.func38 (by kernel_rfl) ((g38 _ _ _ K).trans h1)
theorem St37_0_0_ok (next : KS) (K : KX) (l0 : PL) (n1 n2 : Int) : roundK [0, 2, 7, 8] [7] [6] Rn37_0 next (T37_0_0 l0 n1 n2) (S37_0_0 l0 n1 n2) K = St37_0_0 (fun y0 y1 y2 => next (T37_0_0 y0 y1 y2) (S37_0_0 y0 y1 y2)) (fun y0 y1 y2 y3 => next (T37_0_1 y0 y1 y2 y3) (S37_0_1 y0 y1 y2 y3)) (X37_0_0 K) (X37_0_1 K) l0 n1 n2 := by kernel_rfl
theorem St37_0_1_ok (next : KS) (K : KX) (l0 : PL) (n1 n2 : Int) (l3 : PL) : roundK [0, 2, 7, 8] [7] [6] Rn37_0 next (T37_0_1 l0 n1 n2 l3) (S37_0_1 l0 n1 n2 l3) K = St37_0_1 (fun y0 y1 y2 => next (T37_0_0 y0 y1 y2) (S37_0_0 y0 y1 y2)) (fun y0 y1 y2 y3 => next (T37_0_1 y0 y1 y2 y3) (S37_0_1 y0 y1 y2 y3)) (X37_0_0 K) (X37_0_1 K) l0 n1 n2 l3 := by kernel_rfl
theorem ind37_0 (K : KX) : ∀ n : Nat, (∀ (l0 : PL) (n1 n2 : Int), loopN [0, 2, 7, 8] [7] [6] Rn37_0 n (T37_0_0 l0 n1 n2) (S37_0_0 l0 n1 n2) K = L37_0_0 (X37_0_0 K) (X37_0_1 K) n l0 n1 n2) /\ (∀ (l0 : PL) (n1 n2 : Int) (l3 : PL), loopN [0, 2, 7, 8] [7] [6] Rn37_0 n (T37_0_1 l0 n1 n2 l3) (S37_0_1 l0 n1 n2 l3) K = L37_0_1 (X37_0_0 K) (X37_0_1 K) n l0 n1 n2 l3)
 | 0 => ⟨by intros; rfl, by intros; rfl⟩
 | n + 1 => by
  have ih := ind37_0 K n
  refine ⟨?_, ?_⟩
  ·intro l0 n1 n2
   show roundK _ _ _ Rn37_0 _ _ _ K = _
   rw [St37_0_0_ok]; simp only [ih.1, ih.2]; rfl
  ·intro l0 n1 n2 l3
   show roundK _ _ _ Rn37_0 _ _ _ K = _
   rw [St37_0_1_ok]; simp only [ih.1, ih.2]; rfl
theorem Ent37_0_ok (hΓ : Sd W0 Γ117) : EntOk Tryz.prog W0 Ent37_0 B37_0 := finE (ex := [7]) (res := [6]) (Λ := Λ37_0) hΓ (nlL (by kernel_rfl)) fun T σ K h => by
 rcases wT_or h with ⟨⟨x0, x1, _, x2, _⟩, _, rfl, rfl, h1⟩ | h1
 ·exact ((ind37_0 K fuel).1 x0 x1 x2).trans h1
 obtain ⟨⟨x0, x1, x2, _⟩, ⟨x3, _⟩, rfl, rfl, h2⟩ := wT_f h1
 exact ((ind37_0 K fuel).2 x0 x1 x2 x3).trans h2
theorem g37 (a0 : PL) (a1 a2 : Int) (K : RRes -> Bool) : runFn E Γ117 (mkΛ [Ent37_0]) false Tryz.f37 [(xV a0), (xI a1), (xI a2)] K = G37 a0 a1 a2 (fun z0 => K (.one (.p (xV z0)))) := by kernel_rfl
theorem snd37 (hΓ : Sd W0 Γ117) : Sd W0 Γ118 := sound_add hΓ fun l K h => by
 obtain ⟨⟨a0, a1, a2, _⟩, rfl, h1⟩ := wA_f h
 rw [Q37_def] at h1
 exact finF hΓ (mkL (xs := [(Ent37_0, B37_0)]) (by kernel_rfl) (by kernel_rfl) ⟨Ent37_0_ok hΓ, trivial⟩) Tryz.func37 (by kernel_rfl) ((g37 _ _ _ K).trans h1)
theorem g69 (a0 a1 : PL) (K : RRes -> Bool) : runFn E Γ118 (mkΛ []) false Tryz.f69 [(xV a0), (.adr [(xA [(xV a1)])] 0 0)] K = G69 a0 a1 (fun z0 => K (.one (.p (xB z0)))) := by kernel_rfl
theorem snd69 (hΓ : Sd W0 Γ118) : Sd W0 Γ119 := sound_add hΓ fun l K h => by
 obtain ⟨⟨a0, ⟨a1, _⟩, _⟩, rfl, h1⟩ := wA_f h
 rw [Q69_def] at h1
 exact finN hΓ Tryz.func69 (by kernel_rfl) ((g69 _ _ K).trans h1)
theorem St83_69_0_0_ok (next : KS) (K : KX) (l0 l1 : PL) (n2 n3 : Int) : roundK [0, 1, 7, 8] [] [4] Rn83_69_0 next (T83_69_0_0 l0 l1 n2 n3) (S83_69_0_0 l0 l1 n2 n3) K = St83_69_0_0 (fun y0 y1 y2 y3 => next (T83_69_0_0 y0 y1 y2 y3) (S83_69_0_0 y0 y1 y2 y3)) (X83_69_0_0 K) (X83_69_0_1 K) l0 l1 n2 n3 := by kernel_rfl
theorem ind83_69_0 (K : KX) : ∀ n : Nat, (∀ (l0 l1 : PL) (n2 n3 : Int), loopN [0, 1, 7, 8] [] [4] Rn83_69_0 n (T83_69_0_0 l0 l1 n2 n3) (S83_69_0_0 l0 l1 n2 n3) K = L83_69_0_0 (X83_69_0_0 K) (X83_69_0_1 K) n l0 l1 n2 n3)
 | 0 => by intros; rfl
 | n + 1 => by
  have ih := ind83_69_0 K n
  intro l0 l1 n2 n3
  show roundK _ _ _ Rn83_69_0 _ _ _ K = _
  rw [St83_69_0_0_ok]; simp only [ih]; rfl
theorem Ent83_69_0_ok (hΓ : Sd W0 Γ119) : EntOk Tryz.prog W0 Ent83_69_0 B83_69_0 := finE (ex := []) (res := [4]) (Λ := Λ83_69_0) hΓ (nlL (by kernel_rfl)) fun T σ K h => by
 obtain ⟨⟨x0, ⟨_, ⟨⟨x1, _⟩, _⟩⟩, x2, x3, _⟩, _, rfl, rfl, h1⟩ := wT_f h
 exact (ind83_69_0 K fuel x0 x1 x2 x3).trans h1
theorem g83_69 (a0 a1 : PL) (K : RRes -> Bool) : runFn E Γ119 (mkΛ [Ent83_69_0]) false Tryz.f83 [(xV a0), (.clo 69 [] [(.adr [(xA [(xV a1)])] 0 0)])] K = G83_69 a0 a1 (fun z0 => K (.one (.p (xI z0)))) := by kernel_rfl
theorem snd83_69 (hΓ : Sd W0 Γ119) : Sd W0 Γ120 := sound_add hΓ fun l K h => by
 rcases wA_or h with ⟨⟨a0, ⟨_, ⟨⟨a1, _⟩, _⟩⟩, _⟩, rfl, h1⟩ | h1
 ·rw [Q83_69_def] at h1
  exact finF hΓ (mkL (xs := [(Ent83_69_0, B83_69_0)]) (by kernel_rfl) (by kernel_rfl) ⟨Ent83_69_0_ok hΓ, trivial⟩) Tryz.func83 (by kernel_rfl) ((g83_69 _ _ K).trans h1)
 ·exact hΓ false 83 _ K h1
theorem g46_69 (a0 a1 : PL) (K : RRes -> Bool) : runFn E Γ120 (mkΛ []) false Tryz.f46 [(xV a0), (.clo 69 [] [(.adr [(xA [(xV a1)])] 0 0)])] K = G46_69 a0 a1 (fun z0 => K (.one (.p (xB z0)))) := by kernel_rfl
theorem snd46_69 (hΓ : Sd W0 Γ120) : Sd W0 Γ121 := sound_add hΓ fun l K h => by
 rcases wA_or h with ⟨⟨a0, ⟨_, ⟨⟨a1, _⟩, _⟩⟩, _⟩, rfl, h1⟩ | h1
 ·rw [Q46_69_def] at h1
  exact finN hΓ Tryz.func46 (by kernel_rfl) ((g46_69 _ _ K).trans h1)
 ·exact hΓ false 46 _ K h1
theorem g72 (a0 a1 a2 : PL) (K : RRes -> Bool) : runFn E Γ121 (mkΛ []) false Tryz.f72 [(xV a0), (xV a1), (xV a2)] K = G72 a0 a1 a2 (fun z0 => K (.one (.p (xI z0)))) := by kernel_rfl
theorem snd72 (hΓ : Sd W0 Γ121) : Sd W0 Γ122 := sound_add hΓ fun l K h => by
 obtain ⟨⟨a0, a1, a2, _⟩, rfl, h1⟩ := wA_f h
 rw [Q72_def] at h1
 exact finN hΓ Tryz.func72 (by kernel_rfl) ((g72 _ _ _ K).trans h1)
theorem g71 (a0 a1 a2 : PL) (K : RRes -> Bool) : runFn E Γ122 (mkΛ []) false Tryz.f71 [(xV a0), (xV a1), (.adr [(xA [(xV a2)])] 0 0)] K = G71 a0 a1 a2 (fun z0 => K (.one (.p (xI z0)))) := by kernel_rfl
theorem snd71 (hΓ : Sd W0 Γ122) : Sd W0 Γ123 := sound_add hΓ fun l K h => by
 obtain ⟨⟨a0, a1, ⟨a2, _⟩, _⟩, rfl, h1⟩ := wA_f h
 rw [Q71_def] at h1
 exact finN hΓ Tryz.func71 (by kernel_rfl) ((g71 _ _ _ K).trans h1)
theorem St131_71_2_0_ok (next : KS) (K : KX) (n0 n1 : Int) (l2 : PL) (n3 n4 : Int) (l5 : PL) : roundK [0, 1, 2, 3, 8, 9] [0, 1, 2, 3, 8] [0] Rn131_71_2 next (T131_71_2_0 n0 n1 l2 n3 n4 l5) (S131_71_2_0 n0 n1 l2 n3 n4 l5) K = St131_71_2_0 (fun y0 y1 y2 y3 y4 y5 => next (T131_71_2_0 y0 y1 y2 y3 y4 y5) (S131_71_2_0 y0 y1 y2 y3 y4 y5)) (X131_71_2_0 K) n0 n1 l2 n3 n4 l5 := by kernel_rfl
theorem ind131_71_2 (K : KX) : ∀ n : Nat, (∀ (n0 n1 : Int) (l2 : PL) (n3 n4 : Int) (l5 : PL), loopN [0, 1, 2, 3, 8, 9] [0, 1, 2, 3, 8] [0] Rn131_71_2 n (T131_71_2_0 n0 n1 l2 n3 n4 l5) (S131_71_2_0 n0 n1 l2 n3 n4 l5) K = L131_71_2_0 (X131_71_2_0 K) n n0 n1 l2 n3 n4 l5)
 | 0 => by intros; rfl
 | n + 1 => by
  have ih := ind131_71_2 K n
  intro n0 n1 l2 n3 n4 l5
  show roundK _ _ _ Rn131_71_2 _ _ _ K = _
  rw [St131_71_2_0_ok]; simp only [ih]; rfl
theorem Ent131_71_2_ok (hΓ : Sd W0 Γ123) : EntOk Tryz.prog W0 Ent131_71_2 B131_71_2 := finE (ex := [0, 1, 2, 3, 8]) (res := [0]) (Λ := Λ131_71_2) hΓ (nlL (by kernel_rfl)) fun T σ K h => by
 obtain ⟨⟨x0, x1, ⟨_, ⟨⟨x2, _⟩, _⟩⟩, x3, x4, _⟩, ⟨x5, _⟩, rfl, rfl, h1⟩ := wT_f h
 exact (ind131_71_2 K fuel x0 x1 x2 x3 x4 x5).trans h1
theorem St131_71_0_0_ok (next : KS) (K : KX) (n0 n1 : Int) (l2 : PL) (n3 : Int) (l4 : PL) : roundK [0, 1, 2, 3, 8] [0] [0] Rn131_71_0 next (T131_71_0_0 n0 n1 l2 n3 l4) (S131_71_0_0 n0 n1 l2 n3 l4) K = St131_71_0_0 (fun y0 y1 y2 y3 y4 => next (T131_71_0_0 y0 y1 y2 y3 y4) (S131_71_0_0 y0 y1 y2 y3 y4)) (X131_71_0_0 K) n0 n1 l2 n3 l4 := by kernel_rfl
theorem ind131_71_0 (K : KX) : ∀ n : Nat, (∀ (n0 n1 : Int) (l2 : PL) (n3 : Int) (l4 : PL), loopN [0, 1, 2, 3, 8] [0] [0] Rn131_71_0 n (T131_71_0_0 n0 n1 l2 n3 l4) (S131_71_0_0 n0 n1 l2 n3 l4) K = L131_71_0_0 (X131_71_0_0 K) n n0 n1 l2 n3 l4)
 | 0 => by intros; rfl
 | n + 1 => by
  have ih := ind131_71_0 K n
  intro n0 n1 l2 n3 l4
  show roundK _ _ _ Rn131_71_0 _ _ _ K = _
  rw [St131_71_0_0_ok]; simp only [ih]; rfl
theorem Ent131_71_0_ok (hΓ : Sd W0 Γ123) : EntOk Tryz.prog W0 Ent131_71_0 B131_71_0 := finE (ex := [0]) (res := [0]) (Λ := Λ131_71_0) hΓ (mkL (xs := [(Ent131_71_2, B131_71_2)]) (by kernel_rfl) (by kernel_rfl) ⟨Ent131_71_2_ok hΓ, trivial⟩) fun T σ K h => by
 obtain ⟨⟨x0, x1, ⟨_, ⟨⟨x2, _⟩, _⟩⟩, x3, _⟩, ⟨x4, _⟩, rfl, rfl, h1⟩ := wT_f h
 exact (ind131_71_0 K fuel x0 x1 x2 x3 x4).trans h1
theorem g131_71 (a0 : PL) (a1 a2 : Int) (a3 : PL) (K : RRes -> Bool) : runFnW E Γ123 (mkΛ [Ent131_71_0]) Tryz.f131 41 1 a0 [(xI a1), (xI a2), (.clo 71 [] [(.adr [(xA [(xV a3)])] 0 0)])] K = G131_71 a0 a1 a2 a3 (fun z => K (.one (.p (.sl z)))) := by kernel_rfl
theorem snd131_71 (hΓ : Sd W0 Γ123) : Sd W0 Γ124 := sound_addW hΓ fun l K h => by
 rcases wA_or h with ⟨⟨a0, a1, a2, ⟨_, ⟨⟨a3, _⟩, _⟩⟩, _⟩, rfl, h1⟩ | h1
 ·rw [Q131_71_def] at h1
  exact finW hΓ (mkL (xs := [(Ent131_71_0, B131_71_0)]) (by kernel_rfl) (by kernel_rfl) ⟨Ent131_71_0_ok hΓ, trivial⟩) Tryz.func131 (by kernel_rfl) (by kernel_rfl) (by kernel_rfl) ((g131_71 _ _ _ _ K).trans h1)
 ·exact hΓ true 131 _ K h1
theorem St98_71_0_0_ok (next : KS) (K : KX) (n0 n1 n2 : Int) (l3 : PL) (b4 b5 : Bool) (l6 : PL) : roundK [0, 1, 2, 3, 4, 10, 11] [] [0] Rn98_71_0 next (T98_71_0_0 n0 n1 n2 l3 b4 b5 l6) (S98_71_0_0 n0 n1 n2 l3 b4 b5 l6) K = St98_71_0_0 (fun y0 y1 y2 y3 y4 y5 y6 => next (T98_71_0_0 y0 y1 y2 y3 y4 y5 y6) (S98_71_0_0 y0 y1 y2 y3 y4 y5 y6)) (X98_71_0_0 K) n0 n1 n2 l3 b4 b5 l6 := by kernel_rfl
theorem ind98_71_0 (K : KX) : ∀ n : Nat, (∀ (n0 n1 n2 : Int) (l3 : PL) (b4 b5 : Bool) (l6 : PL), loopN [0, 1, 2, 3, 4, 10, 11] [] [0] Rn98_71_0 n (T98_71_0_0 n0 n1 n2 l3 b4 b5 l6) (S98_71_0_0 n0 n1 n2 l3 b4 b5 l6) K = L98_71_0_0 (X98_71_0_0 K) n n0 n1 n2 l3 b4 b5 l6)
 | 0 => by intros; rfl
 | n + 1 => by
  have ih := ind98_71_0 K n
  intro n0 n1 n2 l3 b4 b5 l6
  show roundK _ _ _ Rn98_71_0 _ _ _ K = _
  rw [St98_71_0_0_ok]; simp only [ih]; rfl
theorem Ent98_71_0_ok (hΓ : Sd W0 Γ124) : EntOk Tryz.prog W0 Ent98_71_0 B98_71_0 := finE (ex := []) (res := [0]) (Λ := Λ98_71_0) hΓ (nlL (by kernel_rfl)) fun T σ K h => by
 obtain ⟨⟨x0, x1, x2, ⟨_, ⟨⟨x3, _⟩, _⟩⟩, x4, x5, _⟩, ⟨x6, _⟩, rfl, rfl, h1⟩ := wT_f h
 exact (ind98_71_0 K fuel x0 x1 x2 x3 x4 x5 x6).trans h1
theorem g98_71 (a0 : PL) (a1 a2 a3 : Int) (a4 : PL) (K : RRes -> Bool) : runFnW E Γ124 (mkΛ [Ent98_71_0]) Tryz.f98 41 1 a0 [(xI a1), (xI a2), (xI a3), (.clo 71 [] [(.adr [(xA [(xV a4)])] 0 0)])] K = G98_71 a0 a1 a2 a3 a4 (fun z => K (.one (.p (.sl z)))) := by kernel_rfl
theorem snd98_71 (hΓ : Sd W0 Γ124) : Sd W0 Γ125 := sound_addW hΓ fun l K h => by
 rcases wA_or h with ⟨⟨a0, a1, a2, a3, ⟨_, ⟨⟨a4, _⟩, _⟩⟩, _⟩, rfl, h1⟩ | h1
 ·rw [Q98_71_def] at h1
  exact finW hΓ (mkL (xs := [(Ent98_71_0, B98_71_0)]) (by kernel_rfl) (by kernel_rfl) ⟨Ent98_71_0_ok hΓ, trivial⟩) Tryz.func98 (by kernel_rfl) (by kernel_rfl) (by kernel_rfl) ((g98_71 _ _ _ _ _ K).trans h1)
 ·exact hΓ true 98 _ K h1
theorem g70_71 (a0 a1 : PL) (K : RRes -> Bool) : runFnW E Γ125 (mkΛ []) Tryz.f70 41 1 a0 [(.clo 71 [] [(.adr [(xA [(xV a1)])] 0 0)])] K = G70_71 a0 a1 (fun z => K (.one (.p (.sl z)))) := by kernel_rfl
theorem snd70_71 (hΓ : Sd W0 Γ125) : Sd W0 Γ126 := sound_addW hΓ fun l K h => by
 rcases wA_or h with ⟨⟨a0, ⟨_, ⟨⟨a1, _⟩, _⟩⟩, _⟩, rfl, h1⟩ | h1
 ·rw [Q70_71_def] at h1
  exact finW hΓ (nlL (by kernel_rfl)) Tryz.func70 (by kernel_rfl) (by kernel_rfl) (by kernel_rfl) ((g70_71 _ _ K).trans h1)
 ·exact hΓ true 70 _ K h1
theorem g128 (a0 a1 a2 : PL) (K : RRes -> Bool) : runFn E Γ126 (mkΛ []) false Tryz.f128 [(xV a0), (xV a1), (xV a2)] K = G128 a0 a1 a2 (fun z0 => K (.one (.p (xI z0)))) := by kernel_rfl
theorem snd128 (hΓ : Sd W0 Γ126) : Sd W0 Γ127 := sound_add hΓ fun l K h => by
 obtain ⟨⟨a0, a1, a2, _⟩, rfl, h1⟩ := wA_f h
 rw [Q128_def] at h1
 exact finN hΓ Tryz.func128 (by kernel_rfl) ((g128 _ _ _ K).trans h1)
theorem g232 (a0_0 a0_1 : ByteArray) (K : RRes -> Bool) : runFn E Γ127 (mkΛ []) false Tryz.f232 [(xA [(xZ a0_0), (xZ a0_1)])] K = G232 a0_0 a0_1 (fun z0 => K (.one (.p (xI z0)))) := by kernel_rfl
theorem snd232 (hΓ : Sd W0 Γ127) : Sd W0 Γ128 := sound_add hΓ fun l K h => by
 obtain ⟨⟨⟨a0_0, a0_1, _⟩, _⟩, rfl, h1⟩ := wA_f h
 rw [Q232_def] at h1
 exact finN hΓ Tryz.func232 (by kernel_rfl) ((g232 _ _ K).trans h1)
theorem g204 (a0_0 a0_1 a1_0 a1_1 : ByteArray) (K : RRes -> Bool) : runFn E Γ128 (mkΛ []) false Tryz.f204 [(xA [(xZ a0_0), (xZ a0_1)]), (xA [(xZ a1_0), (xZ a1_1)])] K = G204 a0_0 a0_1 a1_0 a1_1 (fun z0_0 z0_1 z1 => K (.tup [(.p (xA [(xZ z0_0), (xZ z0_1)])), (.p (xI z1))])) := by kernel_rfl
theorem snd204 (hΓ : Sd W0 Γ128) : Sd W0 Γ129 := sound_add hΓ fun l K h => by
 obtain ⟨⟨⟨a0_0, a0_1, _⟩, ⟨a1_0, a1_1, _⟩, _⟩, rfl, h1⟩ := wA_f h
 rw [Q204_def] at h1
 exact finN hΓ Tryz.func204 (by kernel_rfl) ((g204 _ _ _ _ K).trans h1)
theorem St171_0_0_ok (next : KS) (K : KX) (l0 l1 l2 : PL) (n3 n4 : Int) (s5 s6 s7 s8 : ByteArray) : roundK [0, 1, 4, 6, 12, 13, 14] [0, 1, 4, 6] [4, 5] Rn171_0 next (T171_0_0 l0 l1 l2 n3 n4 s5 s6 s7 s8) (S171_0_0 l0 l1 l2 n3 n4 s5 s6 s7 s8) K = St171_0_0 (fun y0 y1 y2 y3 y4 y5 y6 y7 y8 => next (T171_0_0 y0 y1 y2 y3 y4 y5 y6 y7 y8) (S171_0_0 y0 y1 y2 y3 y4 y5 y6 y7 y8)) (X171_0_0 K) l0 l1 l2 n3 n4 s5 s6 s7 s8 := by kernel_rfl
theorem ind171_0 (K : KX) : ∀ n : Nat, (∀ (l0 l1 l2 : PL) (n3 n4 : Int) (s5 s6 s7 s8 : ByteArray), loopN [0, 1, 4, 6, 12, 13, 14] [0, 1, 4, 6] [4, 5] Rn171_0 n (T171_0_0 l0 l1 l2 n3 n4 s5 s6 s7 s8) (S171_0_0 l0 l1 l2 n3 n4 s5 s6 s7 s8) K = L171_0_0 (X171_0_0 K) n l0 l1 l2 n3 n4 s5 s6 s7 s8)
 | 0 => by intros; rfl
 | n + 1 => by
  have ih := ind171_0 K n
  intro l0 l1 l2 n3 n4 s5 s6 s7 s8
  show roundK _ _ _ Rn171_0 _ _ _ K = _
  rw [St171_0_0_ok]; simp only [ih]; rfl
theorem Ent171_0_ok (hΓ : Sd W0 Γ129) : EntOk Tryz.prog W0 Ent171_0 B171_0 := finE (ex := [0, 1, 4, 6]) (res := [4, 5]) (Λ := Λ171_0) hΓ (nlL (by kernel_rfl)) fun T σ K h => by
 obtain ⟨⟨x0, x1, x2, x3, x4, _⟩, ⟨⟨x5, x6, _⟩, ⟨x7, x8, _⟩, _⟩, rfl, rfl, h1⟩ := wT_f h
 exact (ind171_0 K fuel x0 x1 x2 x3 x4 x5 x6 x7 x8).trans h1
theorem St171_2_0_ok (next : KS) (K : KX) (l0 l1 : PL) (n2 n3 : Int) (s4 s5 s6 s7 : ByteArray) : roundK [0, 4, 6, 32, 33, 34] [4, 6] [4, 5] Rn171_2 next (T171_2_0 l0 l1 n2 n3 s4 s5 s6 s7) (S171_2_0 l0 l1 n2 n3 s4 s5 s6 s7) K = St171_2_0 (fun y0 y1 y2 y3 y4 y5 y6 y7 => next (T171_2_0 y0 y1 y2 y3 y4 y5 y6 y7) (S171_2_0 y0 y1 y2 y3 y4 y5 y6 y7)) (X171_2_0 K) (X171_2_1 K) l0 l1 n2 n3 s4 s5 s6 s7 := by kernel_rfl
theorem ind171_2 (K : KX) : ∀ n : Nat, (∀ (l0 l1 : PL) (n2 n3 : Int) (s4 s5 s6 s7 : ByteArray), loopN [0, 4, 6, 32, 33, 34] [4, 6] [4, 5] Rn171_2 n (T171_2_0 l0 l1 n2 n3 s4 s5 s6 s7) (S171_2_0 l0 l1 n2 n3 s4 s5 s6 s7) K = L171_2_0 (X171_2_0 K) (X171_2_1 K) n l0 l1 n2 n3 s4 s5 s6 s7)
 | 0 => by intros; rfl
 | n + 1 => by
  have ih := ind171_2 K n
  intro l0 l1 n2 n3 s4 s5 s6 s7
  show roundK _ _ _ Rn171_2 _ _ _ K = _
  rw [St171_2_0_ok]; simp only [ih]; rfl
theorem Ent171_2_ok (hΓ : Sd W0 Γ129) : EntOk Tryz.prog W0 Ent171_2 B171_2 := finE (ex := [4, 6]) (res := [4, 5]) (Λ := Λ171_2) hΓ (nlL (by kernel_rfl)) fun T σ K h => by
 obtain ⟨⟨x0, x1, x2, x3, _⟩, ⟨⟨x4, x5, _⟩, ⟨x6, x7, _⟩, _⟩, rfl, rfl, h1⟩ := wT_f h
 exact (ind171_2 K fuel x0 x1 x2 x3 x4 x5 x6 x7).trans h1
theorem g171 (a0 a1 : PL) (K : RRes -> Bool) : runFn E Γ129 (mkΛ [Ent171_0, Ent171_2]) false Tryz.f171 [(xV a0), (xV a1)] K = G171 a0 a1 (fun z0_0 z0_1 z1 => K (.tup [(.p (xA [(xZ z0_0), (xZ z0_1)])), (.p (xB z1))])) := by kernel_rfl
theorem snd171 (hΓ : Sd W0 Γ129) : Sd W0 Γ130 := sound_add hΓ fun l K h => by
 obtain ⟨⟨a0, a1, _⟩, rfl, h1⟩ := wA_f h
 rw [Q171_def] at h1
 exact finF hΓ (mkL (xs := [(Ent171_0, B171_0), (Ent171_2, B171_2)]) (by kernel_rfl) (by kernel_rfl) ⟨Ent171_0_ok hΓ, Ent171_2_ok hΓ, trivial⟩) Tryz.func171 (by kernel_rfl) ((g171 _ _ K).trans h1)
theorem g172 (a0_0 a0_1 : ByteArray) (K : RRes -> Bool) : runFn E Γ130 (mkΛ []) false Tryz.f172 [(xA [(xZ a0_0), (xZ a0_1)])] K = G172 a0_0 a0_1 (fun z0 => K (.one (.p (xZ z0)))) := by kernel_rfl
theorem snd172 (hΓ : Sd W0 Γ130) : Sd W0 Γ131 := sound_add hΓ fun l K h => by
 obtain ⟨⟨⟨a0_0, a0_1, _⟩, _⟩, rfl, h1⟩ := wA_f h
 rw [Q172_def] at h1
 exact finN hΓ Tryz.func172 (by kernel_rfl) ((g172 _ _ K).trans h1)
theorem g206 (a0 a1 : Int) (K : RRes -> Bool) : runFn E Γ131 (mkΛ []) false Tryz.f206 [(xI a0), (xI a1)] K = G206 a0 a1 (fun z0 => K (.one (.p (xI z0)))) := by kernel_rfl
theorem snd206 (hΓ : Sd W0 Γ131) : Sd W0 Γ132 := sound_add hΓ fun l K h => by
 obtain ⟨⟨a0, a1, _⟩, rfl, h1⟩ := wA_f h
 rw [Q206_def] at h1
 exact finN hΓ Tryz.func206 (by kernel_rfl) ((g206 _ _ K).trans h1)
theorem g173 (a0_0 a0_1 : PL) (a0_2 : ByteArray) (a1_0 a1_1 : PL) (a1_2 : ByteArray) (K : RRes -> Bool) : runFn E Γ132 (mkΛ []) false Tryz.f173 [(xA [(xV a0_0), (xV a0_1), (xZ a0_2)]), (xA [(xV a1_0), (xV a1_1), (xZ a1_2)])] K = G173 a0_0 a0_1 a0_2 a1_0 a1_1 a1_2 (fun z0 z1 => K (.tup [(.p (xI z0)), (.p (xB z1))])) := by kernel_rfl
theorem snd173 (hΓ : Sd W0 Γ132) : Sd W0 Γ133 := sound_add hΓ fun l K h => by
 obtain ⟨⟨⟨a0_0, a0_1, a0_2, _⟩, ⟨a1_0, a1_1, a1_2, _⟩, _⟩, rfl, h1⟩ := wA_f h
 rw [Q173_def] at h1
 exact finN hΓ Tryz.func173 (by kernel_rfl) ((g173 _ _ _ _ _ _ K).trans h1)
theorem St129_0_0_ok (next : KS) (K : KX) (n0 : Int) (l1 l2 : PL) (s3 : ByteArray) (l4 l5 : PL) (s6 : ByteArray) : roundK [9, 10, 13] [] [6] Rn129_0 next (T129_0_0 n0 l1 l2 s3 l4 l5 s6) (S129_0_0 n0 l1 l2 s3 l4 l5 s6) K = St129_0_0 (fun y0 y1 y2 y3 y4 y5 y6 => next (T129_0_0 y0 y1 y2 y3 y4 y5 y6) (S129_0_0 y0 y1 y2 y3 y4 y5 y6)) n0 l1 l2 s3 l4 l5 s6 := by kernel_rfl
theorem ind129_0 (K : KX) : ∀ n : Nat, (∀ (n0 : Int) (l1 l2 : PL) (s3 : ByteArray) (l4 l5 : PL) (s6 : ByteArray), loopN [9, 10, 13] [] [6] Rn129_0 n (T129_0_0 n0 l1 l2 s3 l4 l5 s6) (S129_0_0 n0 l1 l2 s3 l4 l5 s6) K = L129_0_0 n n0 l1 l2 s3 l4 l5 s6)
 | 0 => by intros; rfl
 | n + 1 => by
  have ih := ind129_0 K n
  intro n0 l1 l2 s3 l4 l5 s6
  show roundK _ _ _ Rn129_0 _ _ _ K = _
  rw [St129_0_0_ok]; simp only [ih]; rfl
theorem Ent129_0_ok (hΓ : Sd W0 Γ133) : EntOk Tryz.prog W0 Ent129_0 B129_0 := finE (ex := []) (res := [6]) (Λ := Λ129_0) hΓ (nlL (by kernel_rfl)) fun T σ K h => by
 obtain ⟨⟨x0, _⟩, ⟨⟨x1, x2, x3, _⟩, ⟨x4, x5, x6, _⟩, _⟩, rfl, rfl, h1⟩ := wT_f h
 exact (ind129_0 K fuel x0 x1 x2 x3 x4 x5 x6).trans h1
theorem g129 (a0 a1 a2 : PL) (K : RRes -> Bool) : runFn E Γ133 (mkΛ [Ent129_0]) false Tryz.f129 [(xV a0), (xV a1), (xV a2)] K = G129 a0 a1 a2 (fun z0 => K (.one (.p (xZ z0)))) := by kernel_rfl
theorem snd129 (hΓ : Sd W0 Γ133) : Sd W0 Γ134 := sound_add hΓ fun l K h => by
 obtain ⟨⟨a0, a1, a2, _⟩, rfl, h1⟩ := wA_f h
 rw [Q129_def] at h1
 exact finF hΓ (mkL (xs := [(Ent129_0, B129_0)]) (by kernel_rfl) (by kernel_rfl) ⟨Ent129_0_ok hΓ, trivial⟩) Tryz.func129 (by kernel_rfl) ((g129 _ _ _ K).trans h1)
theorem g96 (a0 a1 a2 : PL) (K : RRes -> Bool) : runFn E Γ134 (mkΛ []) false Tryz.f96 [(xV a0), (xV a1), (xV a2)] K = G96 a0 a1 a2 (fun z0 z1 => K (.tup [(.p (xZ z0)), (.p (xI z1))])) := by kernel_rfl
theorem snd96 (hΓ : Sd W0 Γ134) : Sd W0 Γ135 := sound_add hΓ fun l K h => by
 obtain ⟨⟨a0, a1, a2, _⟩, rfl, h1⟩ := wA_f h
 rw [Q96_def] at h1
 exact finN hΓ Tryz.func96 (by kernel_rfl) ((g96 _ _ _ K).trans h1)
theorem St207_0_0_ok (next : KS) (K : KX) (l0 l1 : PL) (n2 n3 : Int) : roundK [0, 1, 5, 6, 7] [5] [4] Rn207_0 next (T207_0_0 l0 l1 n2 n3) (S207_0_0 l0 l1 n2 n3) K = St207_0_0 (fun y0 y1 y2 y3 => next (T207_0_0 y0 y1 y2 y3) (S207_0_0 y0 y1 y2 y3)) (fun y0 y1 y2 y3 y4 => next (T207_0_1 y0 y1 y2 y3 y4) (S207_0_1 y0 y1 y2 y3 y4)) (X207_0_0 K) (X207_0_1 K) l0 l1 n2 n3 := by kernel_rfl
theorem St207_0_1_ok (next : KS) (K : KX) (l0 l1 : PL) (n2 n3 : Int) (l4 : PL) : roundK [0, 1, 5, 6, 7] [5] [4] Rn207_0 next (T207_0_1 l0 l1 n2 n3 l4) (S207_0_1 l0 l1 n2 n3 l4) K = St207_0_1 (fun y0 y1 y2 y3 => next (T207_0_0 y0 y1 y2 y3) (S207_0_0 y0 y1 y2 y3)) (fun y0 y1 y2 y3 y4 => next (T207_0_1 y0 y1 y2 y3 y4) (S207_0_1 y0 y1 y2 y3 y4)) (X207_0_0 K) (X207_0_1 K) l0 l1 n2 n3 l4 := by kernel_rfl
theorem ind207_0 (K : KX) : ∀ n : Nat, (∀ (l0 l1 : PL) (n2 n3 : Int), loopN [0, 1, 5, 6, 7] [5] [4] Rn207_0 n (T207_0_0 l0 l1 n2 n3) (S207_0_0 l0 l1 n2 n3) K = L207_0_0 (X207_0_0 K) (X207_0_1 K) n l0 l1 n2 n3) /\ (∀ (l0 l1 : PL) (n2 n3 : Int) (l4 : PL), loopN [0, 1, 5, 6, 7] [5] [4] Rn207_0 n (T207_0_1 l0 l1 n2 n3 l4) (S207_0_1 l0 l1 n2 n3 l4) K = L207_0_1 (X207_0_0 K) (X207_0_1 K) n l0 l1 n2 n3 l4)
 | 0 => ⟨by intros; rfl, by intros; rfl⟩
 | n + 1 => by
  have ih := ind207_0 K n
  refine ⟨?_, ?_⟩
  ·intro l0 l1 n2 n3
   show roundK _ _ _ Rn207_0 _ _ _ K = _
   rw [St207_0_0_ok]; simp only [ih.1, ih.2]; rfl
  ·intro l0 l1 n2 n3 l4
   show roundK _ _ _ Rn207_0 _ _ _ K = _
   rw [St207_0_1_ok]; simp only [ih.1, ih.2]; rfl
theorem Ent207_0_ok (hΓ : Sd W0 Γ135) : EntOk Tryz.prog W0 Ent207_0 B207_0 := finE (ex := [5]) (res := [4]) (Λ := Λ207_0) hΓ (nlL (by kernel_rfl)) fun T σ K h => by
 rcases wT_or h with ⟨⟨x0, x1, _, x2, x3, _⟩, _, rfl, rfl, h1⟩ | h1
 ·exact ((ind207_0 K fuel).1 x0 x1 x2 x3).trans h1
 obtain ⟨⟨x0, x1, x2, x3, _⟩, ⟨x4, _⟩, rfl, rfl, h2⟩ := wT_f h1
 exact ((ind207_0 K fuel).2 x0 x1 x2 x3 x4).trans h2
theorem g207 (a0 a1 : PL) (K : RRes -> Bool) : runFn E Γ135 (mkΛ [Ent207_0]) false Tryz.f207 [(xV a0), (xV a1)] K = G207 a0 a1 (fun z0 => K (.one (.p (xV z0)))) := by kernel_rfl
theorem snd207 (hΓ : Sd W0 Γ135) : Sd W0 Γ136 := sound_add hΓ fun l K h => by
 obtain ⟨⟨a0, a1, _⟩, rfl, h1⟩ := wA_f h
 rw [Q207_def] at h1
 exact finF hΓ (mkL (xs := [(Ent207_0, B207_0)]) (by kernel_rfl) (by kernel_rfl) ⟨Ent207_0_ok hΓ, trivial⟩) Tryz.func207 (by kernel_rfl) ((g207 _ _ K).trans h1)
theorem St180_0_0_ok (next : KS) (K : KX) (l0 l1 : PL) (n2 : Int) : roundK [0, 1, 5] [] [4] Rn180_0 next (T180_0_0 l0 l1 n2) (S180_0_0 l0 l1 n2) K = St180_0_0 (fun y0 y1 y2 => next (T180_0_0 y0 y1 y2) (S180_0_0 y0 y1 y2)) (X180_0_0 K) (X180_0_1 K) l0 l1 n2 := by kernel_rfl
theorem ind180_0 (K : KX) : ∀ n : Nat, (∀ (l0 l1 : PL) (n2 : Int), loopN [0, 1, 5] [] [4] Rn180_0 n (T180_0_0 l0 l1 n2) (S180_0_0 l0 l1 n2) K = L180_0_0 (X180_0_0 K) (X180_0_1 K) n l0 l1 n2)
 | 0 => by intros; rfl
 | n + 1 => by
  have ih := ind180_0 K n
  intro l0 l1 n2
  show roundK _ _ _ Rn180_0 _ _ _ K = _
  rw [St180_0_0_ok]; simp only [ih]; rfl
theorem Ent180_0_ok (hΓ : Sd W0 Γ136) : EntOk Tryz.prog W0 Ent180_0 B180_0 := finE (ex := []) (res := [4]) (Λ := Λ180_0) hΓ (nlL (by kernel_rfl)) fun T σ K h => by
 obtain ⟨⟨x0, x1, x2, _⟩, _, rfl, rfl, h1⟩ := wT_f h
 exact (ind180_0 K fuel x0 x1 x2).trans h1
theorem g180 (a0 a1 : PL) (K : RRes -> Bool) : runFn E Γ136 (mkΛ [Ent180_0]) false Tryz.f180 [(xV a0), (xV a1)] K = G180 a0 a1 (fun z0 => K (.one (.p (xI z0)))) := by kernel_rfl
theorem snd180 (hΓ : Sd W0 Γ136) : Sd W0 Γ137 := sound_add hΓ fun l K h => by
 obtain ⟨⟨a0, a1, _⟩, rfl, h1⟩ := wA_f h
 rw [Q180_def] at h1
 exact finF hΓ (mkL (xs := [(Ent180_0, B180_0)]) (by kernel_rfl) (by kernel_rfl) ⟨Ent180_0_ok hΓ, trivial⟩) Tryz.func180 (by kernel_rfl) ((g180 _ _ K).trans h1)
theorem St182_0_0_ok (next : KS) (K : KX) (l0 l1 : PL) (n2 n3 : Int) : roundK [0, 1, 5, 6, 7] [5] [4] Rn182_0 next (T182_0_0 l0 l1 n2 n3) (S182_0_0 l0 l1 n2 n3) K = St182_0_0 (fun y0 y1 y2 y3 => next (T182_0_0 y0 y1 y2 y3) (S182_0_0 y0 y1 y2 y3)) (fun y0 y1 y2 y3 y4 => next (T182_0_1 y0 y1 y2 y3 y4) (S182_0_1 y0 y1 y2 y3 y4)) (X182_0_0 K) (X182_0_1 K) l0 l1 n2 n3 := by kernel_rfl
theorem St182_0_1_ok (next : KS) (K : KX) (l0 l1 : PL) (n2 n3 : Int) (l4 : PL) : roundK [0, 1, 5, 6, 7] [5] [4] Rn182_0 next (T182_0_1 l0 l1 n2 n3 l4) (S182_0_1 l0 l1 n2 n3 l4) K = St182_0_1 (fun y0 y1 y2 y3 => next (T182_0_0 y0 y1 y2 y3) (S182_0_0 y0 y1 y2 y3)) (fun y0 y1 y2 y3 y4 => next (T182_0_1 y0 y1 y2 y3 y4) (S182_0_1 y0 y1 y2 y3 y4)) (X182_0_0 K) (X182_0_1 K) l0 l1 n2 n3 l4 := by kernel_rfl
theorem ind182_0 (K : KX) : ∀ n : Nat, (∀ (l0 l1 : PL) (n2 n3 : Int), loopN [0, 1, 5, 6, 7] [5] [4] Rn182_0 n (T182_0_0 l0 l1 n2 n3) (S182_0_0 l0 l1 n2 n3) K = L182_0_0 (X182_0_0 K) (X182_0_1 K) n l0 l1 n2 n3) /\ (∀ (l0 l1 : PL) (n2 n3 : Int) (l4 : PL), loopN [0, 1, 5, 6, 7] [5] [4] Rn182_0 n (T182_0_1 l0 l1 n2 n3 l4) (S182_0_1 l0 l1 n2 n3 l4) K = L182_0_1 (X182_0_0 K) (X182_0_1 K) n l0 l1 n2 n3 l4)
 | 0 => ⟨by intros; rfl, by intros; rfl⟩
 | n + 1 => by
  have ih := ind182_0 K n
  refine ⟨?_, ?_⟩
  ·intro l0 l1 n2 n3
   show roundK _ _ _ Rn182_0 _ _ _ K = _
   rw [St182_0_0_ok]; simp only [ih.1, ih.2]; rfl
  ·intro l0 l1 n2 n3 l4
   show roundK _ _ _ Rn182_0 _ _ _ K = _
   rw [St182_0_1_ok]; simp only [ih.1, ih.2]; rfl
theorem Ent182_0_ok (hΓ : Sd W0 Γ137) : EntOk Tryz.prog W0 Ent182_0 B182_0 := finE (ex := [5]) (res := [4]) (Λ := Λ182_0) hΓ (nlL (by kernel_rfl)) fun T σ K h => by
 rcases wT_or h with ⟨⟨x0, x1, _, x2, x3, _⟩, _, rfl, rfl, h1⟩ | h1
 ·exact ((ind182_0 K fuel).1 x0 x1 x2 x3).trans h1
 obtain ⟨⟨x0, x1, x2, x3, _⟩, ⟨x4, _⟩, rfl, rfl, h2⟩ := wT_f h1
 exact ((ind182_0 K fuel).2 x0 x1 x2 x3 x4).trans h2
theorem g182 (a0 a1 : PL) (K : RRes -> Bool) : runFn E Γ137 (mkΛ [Ent182_0]) false Tryz.f182 [(xV a0), (xV a1)] K = G182 a0 a1 (fun z0 => K (.one (.p (xV z0)))) := by kernel_rfl
theorem snd182 (hΓ : Sd W0 Γ137) : Sd W0 Γ138 := sound_add hΓ fun l K h => by
 obtain ⟨⟨a0, a1, _⟩, rfl, h1⟩ := wA_f h
 rw [Q182_def] at h1
 exact finF hΓ (mkL (xs := [(Ent182_0, B182_0)]) (by kernel_rfl) (by kernel_rfl) ⟨Ent182_0_ok hΓ, trivial⟩) Tryz.func182 (by kernel_rfl) ((g182 _ _ K).trans h1)
theorem g174 (a0_0 : Bool) (a0_1 : PL) (a1_0 : Bool) (a1_1 : PL) (K : RRes -> Bool) : runFn E Γ138 (mkΛ []) false Tryz.f174 [(xA [(xB a0_0), (xV a0_1)]), (xA [(xB a1_0), (xV a1_1)])] K = G174 a0_0 a0_1 a1_0 a1_1 (fun z0_0 z0_1 => K (.one (.p (xA [(xB z0_0), (xV z0_1)])))) := by kernel_rfl
theorem snd174 (hΓ : Sd W0 Γ138) : Sd W0 Γ139 := sound_add hΓ fun l K h => by
 obtain ⟨⟨⟨a0_0, a0_1, _⟩, ⟨a1_0, a1_1, _⟩, _⟩, rfl, h1⟩ := wA_f h
 rw [Q174_def] at h1
 exact finN hΓ Tryz.func174 (by kernel_rfl) ((g174 _ _ _ _ K).trans h1)
theorem g130 (a0_0 a0_1 a1_0 a1_1 : ByteArray) (K : RRes -> Bool) : runFn E Γ139 (mkΛ []) false Tryz.f130 [(xA [(xZ a0_0), (xZ a0_1)]), (xA [(xZ a1_0), (xZ a1_1)])] K = G130 a0_0 a0_1 a1_0 a1_1 (fun z0_0 z0_1 => K (.one (.p (xA [(xZ z0_0), (xZ z0_1)])))) := by kernel_rfl
theorem snd130 (hΓ : Sd W0 Γ139) : Sd W0 Γ140 := sound_add hΓ fun l K h => by
 obtain ⟨⟨⟨a0_0, a0_1, _⟩, ⟨a1_0, a1_1, _⟩, _⟩, rfl, h1⟩ := wA_f h
 rw [Q130_def] at h1
 exact finN hΓ Tryz.func130 (by kernel_rfl) ((g130 _ _ _ _ K).trans h1)
theorem St97_0_0_ok (next : KS) (K : KX) (l0 l1 : PL) (n2 n3 : Int) : roundK [0, 1, 5, 8, 9] [5] [4] Rn97_0 next (T97_0_0 l0 l1 n2 n3) (S97_0_0 l0 l1 n2 n3) K = St97_0_0 (fun y0 y1 y2 y3 => next (T97_0_0 y0 y1 y2 y3) (S97_0_0 y0 y1 y2 y3)) (fun y0 y1 y2 y3 y4 => next (T97_0_1 y0 y1 y2 y3 y4) (S97_0_1 y0 y1 y2 y3 y4)) (X97_0_0 K) (X97_0_1 K) l0 l1 n2 n3 := by kernel_rfl
theorem St97_0_1_ok (next : KS) (K : KX) (l0 l1 : PL) (n2 n3 : Int) (l4 : PL) : roundK [0, 1, 5, 8, 9] [5] [4] Rn97_0 next (T97_0_1 l0 l1 n2 n3 l4) (S97_0_1 l0 l1 n2 n3 l4) K = St97_0_1 (fun y0 y1 y2 y3 => next (T97_0_0 y0 y1 y2 y3) (S97_0_0 y0 y1 y2 y3)) (fun y0 y1 y2 y3 y4 => next (T97_0_1 y0 y1 y2 y3 y4) (S97_0_1 y0 y1 y2 y3 y4)) (X97_0_0 K) (X97_0_1 K) l0 l1 n2 n3 l4 := by kernel_rfl
theorem ind97_0 (K : KX) : ∀ n : Nat, (∀ (l0 l1 : PL) (n2 n3 : Int), loopN [0, 1, 5, 8, 9] [5] [4] Rn97_0 n (T97_0_0 l0 l1 n2 n3) (S97_0_0 l0 l1 n2 n3) K = L97_0_0 (X97_0_0 K) (X97_0_1 K) n l0 l1 n2 n3) /\ (∀ (l0 l1 : PL) (n2 n3 : Int) (l4 : PL), loopN [0, 1, 5, 8, 9] [5] [4] Rn97_0 n (T97_0_1 l0 l1 n2 n3 l4) (S97_0_1 l0 l1 n2 n3 l4) K = L97_0_1 (X97_0_0 K) (X97_0_1 K) n l0 l1 n2 n3 l4)
 | 0 => ⟨by intros; rfl, by intros; rfl⟩
 | n + 1 => by
  have ih := ind97_0 K n
  refine ⟨?_, ?_⟩
  ·intro l0 l1 n2 n3
   show roundK _ _ _ Rn97_0 _ _ _ K = _
   rw [St97_0_0_ok]; simp only [ih.1, ih.2]; rfl
  ·intro l0 l1 n2 n3 l4
   show roundK _ _ _ Rn97_0 _ _ _ K = _
   rw [St97_0_1_ok]; simp only [ih.1, ih.2]; rfl
theorem Ent97_0_ok (hΓ : Sd W0 Γ140) : EntOk Tryz.prog W0 Ent97_0 B97_0 := finE (ex := [5]) (res := [4]) (Λ := Λ97_0) hΓ (nlL (by kernel_rfl)) fun T σ K h => by
 rcases wT_or h with ⟨⟨x0, x1, _, x2, x3, _⟩, _, rfl, rfl, h1⟩ | h1
 ·exact ((ind97_0 K fuel).1 x0 x1 x2 x3).trans h1
 obtain ⟨⟨x0, x1, x2, x3, _⟩, ⟨x4, _⟩, rfl, rfl, h2⟩ := wT_f h1
 exact ((ind97_0 K fuel).2 x0 x1 x2 x3 x4).trans h2
theorem g97 (a0 a1 : PL) (K : RRes -> Bool) : runFn E Γ140 (mkΛ [Ent97_0]) false Tryz.f97 [(xV a0), (xV a1)] K = G97 a0 a1 (fun z0 => K (.one (.p (xV z0)))) := by kernel_rfl
theorem snd97 (hΓ : Sd W0 Γ140) : Sd W0 Γ141 := sound_add hΓ fun l K h => by
 obtain ⟨⟨a0, a1, _⟩, rfl, h1⟩ := wA_f h
 rw [Q97_def] at h1
 exact finF hΓ (mkL (xs := [(Ent97_0, B97_0)]) (by kernel_rfl) (by kernel_rfl) ⟨Ent97_0_ok hΓ, trivial⟩) Tryz.func97 (by kernel_rfl) ((g97 _ _ K).trans h1)
theorem g68 (a0 a1 : PL) (K : RRes -> Bool) : runFn E Γ141 (mkΛ []) false Tryz.f68 [(xV a0), (xV a1)] K = G68 a0 a1 (fun z0 => K (.one (.p (xV z0)))) := by kernel_rfl
theorem snd68 (hΓ : Sd W0 Γ141) : Sd W0 Γ142 := sound_add hΓ fun l K h => by
 obtain ⟨⟨a0, a1, _⟩, rfl, h1⟩ := wA_f h
 rw [Q68_def] at h1
 exact finN hΓ Tryz.func68 (by kernel_rfl) ((g68 _ _ K).trans h1)
theorem g67 (a0 a1 a2 : PL) (K : RRes -> Bool) : runFn E Γ142 (mkΛ []) false Tryz.f67 [(xV a0), (xV a1), (xV a2)] K = G67 a0 a1 a2 (fun z0 z1 => K (.tup [(.p (xV z0)), (.p (xZ z1))])) := by kernel_rfl
theorem snd67 (hΓ : Sd W0 Γ142) : Sd W0 Γ143 := sound_add hΓ fun l K h => by
 obtain ⟨⟨a0, a1, a2, _⟩, rfl, h1⟩ := wA_f h
 rw [Q67_def] at h1
 exact finN hΓ Tryz.func67 (by kernel_rfl) ((g67 _ _ _ K).trans h1)
theorem St35_0_0_ok (next : KS) (K : KX) (l0 l1 : PL) (n2 n3 : Int) (l4 l5 : PL) : roundK [1, 3, 6, 7, 14, 15, 16] [3, 6, 7] [6] Rn35_0 next (T35_0_0 l0 l1 n2 n3 l4 l5) (S35_0_0 l0 l1 n2 n3 l4 l5) K = St35_0_0 (fun y0 y1 y2 y3 y4 y5 => next (T35_0_0 y0 y1 y2 y3 y4 y5) (S35_0_0 y0 y1 y2 y3 y4 y5)) (X35_0_0 K) l0 l1 n2 n3 l4 l5 := by kernel_rfl
theorem ind35_0 (K : KX) : ∀ n : Nat, (∀ (l0 l1 : PL) (n2 n3 : Int) (l4 l5 : PL), loopN [1, 3, 6, 7, 14, 15, 16] [3, 6, 7] [6] Rn35_0 n (T35_0_0 l0 l1 n2 n3 l4 l5) (S35_0_0 l0 l1 n2 n3 l4 l5) K = L35_0_0 (X35_0_0 K) n l0 l1 n2 n3 l4 l5)
 | 0 => by intros; rfl
 | n + 1 => by
  have ih := ind35_0 K n
  intro l0 l1 n2 n3 l4 l5
  show roundK _ _ _ Rn35_0 _ _ _ K = _
  rw [St35_0_0_ok]; simp only [ih]; rfl
theorem Ent35_0_ok (hΓ : Sd W0 Γ143) : EntOk Tryz.prog W0 Ent35_0 B35_0 := finE (ex := [3, 6, 7]) (res := [6]) (Λ := Λ35_0) hΓ (nlL (by kernel_rfl)) fun T σ K h => by
 obtain ⟨⟨x0, x1, x2, x3, _⟩, ⟨⟨x4, _⟩, ⟨_, _, _⟩, x5, _⟩, rfl, rfl, h1⟩ := wT_f h
 exact (ind35_0 K fuel x0 x1 x2 x3 x4 x5).trans h1
theorem g35 (a0 a1 a2 : PL) (K : RRes -> Bool) : runFn E Γ143 (mkΛ [Ent35_0]) false Tryz.f35 [(xV a0), (xV a1), (xV a2)] K = G35 a0 a1 a2 (fun z0_0 z0_1 => K (.one (.p (xA [(xV z0_0), (xV z0_1)])))) := by kernel_rfl
theorem snd35 (hΓ : Sd W0 Γ143) : Sd W0 Γ144 := sound_add hΓ fun l K h => by
 obtain ⟨⟨a0, a1, a2, _⟩, rfl, h1⟩ := wA_f h
 rw [Q35_def] at h1
 exact finF hΓ (mkL (xs := [(Ent35_0, B35_0)]) (by kernel_rfl) (by kernel_rfl) ⟨Ent35_0_ok hΓ, trivial⟩) Tryz.func35 (by kernel_rfl) ((g35 _ _ _ K).trans h1)
theorem St40_0_0_ok (next : KS) (K : KX) (n0 n1 n2 n3 n4 : Int) : roundK [3, 5, 9, 10] [5] [4] Rn40_0 next (T40_0_0 n0 n1 n2 n3 n4) (S40_0_0 n0 n1 n2 n3 n4) K = St40_0_0 (fun y0 y1 y2 y3 y4 => next (T40_0_0 y0 y1 y2 y3 y4) (S40_0_0 y0 y1 y2 y3 y4)) (fun y0 y1 y2 y3 y4 y5 => next (T40_0_1 y0 y1 y2 y3 y4 y5) (S40_0_1 y0 y1 y2 y3 y4 y5)) (X40_0_0 K) (X40_0_1 K) n0 n1 n2 n3 n4 := by kernel_rfl
theorem St40_0_1_ok (next : KS) (K : KX) (n0 n1 n2 n3 n4 : Int) (l5 : PL) : roundK [3, 5, 9, 10] [5] [4] Rn40_0 next (T40_0_1 n0 n1 n2 n3 n4 l5) (S40_0_1 n0 n1 n2 n3 n4 l5) K = St40_0_1 (fun y0 y1 y2 y3 y4 => next (T40_0_0 y0 y1 y2 y3 y4) (S40_0_0 y0 y1 y2 y3 y4)) (fun y0 y1 y2 y3 y4 y5 => next (T40_0_1 y0 y1 y2 y3 y4 y5) (S40_0_1 y0 y1 y2 y3 y4 y5)) (X40_0_0 K) (X40_0_1 K) n0 n1 n2 n3 n4 l5 := by kernel_rfl
theorem ind40_0 (K : KX) : ∀ n : Nat, (∀ (n0 n1 n2 n3 n4 : Int), loopN [3, 5, 9, 10] [5] [4] Rn40_0 n (T40_0_0 n0 n1 n2 n3 n4) (S40_0_0 n0 n1 n2 n3 n4) K = L40_0_0 (X40_0_0 K) (X40_0_1 K) n n0 n1 n2 n3 n4) /\ (∀ (n0 n1 n2 n3 n4 : Int) (l5 : PL), loopN [3, 5, 9, 10] [5] [4] Rn40_0 n (T40_0_1 n0 n1 n2 n3 n4 l5) (S40_0_1 n0 n1 n2 n3 n4 l5) K = L40_0_1 (X40_0_0 K) (X40_0_1 K) n n0 n1 n2 n3 n4 l5)
 | 0 => ⟨by intros; rfl, by intros; rfl⟩
 | n + 1 => by
  have ih := ind40_0 K n
  refine ⟨?_, ?_⟩
  ·intro n0 n1 n2 n3 n4
   show roundK _ _ _ Rn40_0 _ _ _ K = _
   rw [St40_0_0_ok]; simp only [ih.1, ih.2]; rfl
  ·intro n0 n1 n2 n3 n4 l5
   show roundK _ _ _ Rn40_0 _ _ _ K = _
   rw [St40_0_1_ok]; simp only [ih.1, ih.2]; rfl
theorem Ent40_0_ok (hΓ : Sd W0 Γ144) : EntOk Tryz.prog W0 Ent40_0 B40_0 := finE (ex := [5]) (res := [4]) (Λ := Λ40_0) hΓ (nlL (by kernel_rfl)) fun T σ K h => by
 rcases wT_or h with ⟨⟨_, x0, x1, _⟩, ⟨⟨x2, x3, x4, _⟩, _⟩, rfl, rfl, h1⟩ | h1
 ·exact ((ind40_0 K fuel).1 x0 x1 x2 x3 x4).trans h1
 obtain ⟨⟨x0, x1, _⟩, ⟨⟨x2, x3, x4, _⟩, x5, _⟩, rfl, rfl, h2⟩ := wT_f h1
 exact ((ind40_0 K fuel).2 x0 x1 x2 x3 x4 x5).trans h2
theorem g40 (a0 : PL) (a1_0 a1_1 a1_2 : Int) (K : RRes -> Bool) : runFn E Γ144 (mkΛ [Ent40_0]) false Tryz.f40 [(xV a0), (xA [(xJ .i8 a1_0), (xJ .i8 a1_1), (xJ .i8 a1_2)])] K = G40 a0 a1_0 a1_1 a1_2 (fun z0 => K (.one (.p (xV z0)))) := by kernel_rfl
theorem snd40 (hΓ : Sd W0 Γ144) : Sd W0 Γ145 := sound_add hΓ fun l K h => by
 obtain ⟨⟨a0, ⟨a1_0, a1_1, a1_2, _⟩, _⟩, rfl, h1⟩ := wA_f h
 rw [Q40_def] at h1
 exact finF hΓ (mkL (xs := [(Ent40_0, B40_0)]) (by kernel_rfl) (by kernel_rfl) ⟨Ent40_0_ok hΓ, trivial⟩) Tryz.func40 (by kernel_rfl) ((g40 _ _ _ _ K).trans h1)
theorem St12_1_0_ok (next : KS) (K : KX) (l0 : PL) (n1 n2 : Int) (b3 : Bool) (n4 n5 n6 n7 n8 n9 n10 n11 n12 n13 n14 n15 n16 n17 n18 n19 n20 n21 n22 n23 n24 n25 n26 n27 n28 n29 : Int) : roundK [1, 2, 3, 5, 45, 46] [2, 3, 5] [2] Rn12_1 next (T12_1_0 l0 n1 n2 b3 n4 n5 n6 n7 n8 n9 n10 n11 n12 n13 n14 n15 n16 n17 n18 n19 n20 n21 n22 n23 n24 n25 n26 n27 n28 n29) (S12_1_0 l0 n1 n2 b3 n4 n5 n6 n7 n8 n9 n10 n11 n12 n13 n14 n15 n16 n17 n18 n19 n20 n21 n22 n23 n24 n25 n26 n27 n28 n29) K = St12_1_0 (fun y0 y1 y2 y3 y4 y5 y6 y7 y8 y9 y10 y11 y12 y13 y14 y15 y16 y17 y18 y19 y20 y21 y22 y23 y24 y25 y26 y27 y28 y29 => next (T12_1_0 y0 y1 y2 y3 y4 y5 y6 y7 y8 y9 y10 y11 y12 y13 y14 y15 y16 y17 y18 y19 y20 y21 y22 y23 y24 y25 y26 y27 y28 y29) (S12_1_0 y0 y1 y2 y3 y4 y5 y6 y7 y8 y9 y10 y11 y12 y13 y14 y15 y16 y17 y18 y19 y20 y21 y22 y23 y24 y25 y26 y27 y28 y29)) (fun y0 y1 y2 y3 y4 y5 y6 y7 y8 y9 y10 y11 y12 y13 y14 y15 y16 y17 y18 y19 y20 y21 y22 y23 y24 y25 y26 y27 y28 y29 y30 => next (T12_1_1 y0 y1 y2 y3 y4 y5 y6 y7 y8 y9 y10 y11 y12 y13 y14 y15 y16 y17 y18 y19 y20 y21 y22 y23 y24 y25 y26 y27 y28 y29 y30) (S12_1_1 y0 y1 y2 y3 y4 y5 y6 y7 y8 y9 y10 y11 y12 y13 y14 y15 y16 y17 y18 y19 y20 y21 y22 y23 y24 y25 y26 y27 y28 y29 y30)) (X12_1_0 K) (X12_1_1 K) l0 n1 n2 b3 n4 n5 n6 n7 n8 n9 n10 n11 n12 n13 n14 n15 n16 n17 n18 n19 n20 n21 n22 n23 n24 n25 n26 n27 n28 n29 := by kernel_rfl
theorem St12_1_1_ok (next : KS) (K : KX) (l0 : PL) (n1 n2 : Int) (b3 : Bool) (n4 n5 n6 n7 n8 n9 n10 n11 n12 n13 n14 n15 n16 n17 n18 n19 n20 n21 n22 n23 n24 n25 n26 n27 n28 n29 : Int) (l30 : PL) : roundK [1, 2, 3, 5, 45, 46] [2, 3, 5] [2] Rn12_1 next (T12_1_1 l0 n1 n2 b3 n4 n5 n6 n7 n8 n9 n10 n11 n12 n13 n14 n15 n16 n17 n18 n19 n20 n21 n22 n23 n24 n25 n26 n27 n28 n29 l30) (S12_1_1 l0 n1 n2 b3 n4 n5 n6 n7 n8 n9 n10 n11 n12 n13 n14 n15 n16 n17 n18 n19 n20 n21 n22 n23 n24 n25 n26 n27 n28 n29 l30) K = St12_1_1 (fun y0 y1 y2 y3 y4 y5 y6 y7 y8 y9 y10 y11 y12 y13 y14 y15 y16 y17 y18 y19 y20 y21 y22 y23 y24 y25 y26 y27 y28 y29 => next (T12_1_0 y0 y1 y2 y3 y4 y5 y6 y7 y8 y9 y10 y11 y12 y13 y14 y15 y16 y17 y18 y19 y20 y21 y22 y23 y24 y25 y26 y27 y28 y29) (S12_1_0 y0 y1 y2 y3 y4 y5 y6 y7 y8 y9 y10 y11 y12 y13 y14 y15 y16 y17 y18 y19 y20 y21 y22 y23 y24 y25 y26 y27 y28 y29)) (fun y0 y1 y2 y3 y4 y5 y6 y7 y8 y9 y10 y11 y12 y13 y14 y15 y16 y17 y18 y19 y20 y21 y22 y23 y24 y25 y26 y27 y28 y29 y30 => next (T12_1_1 y0 y1 y2 y3 y4 y5 y6 y7 y8 y9 y10 y11 y12 y13 y14 y15 y16 y17 y18 y19 y20 y21 y22 y23 y24 y25 y26 y27 y28 y29 y30) (S12_1_1 y0 y1 y2 y3 y4 y5 y6 y7 y8 y9 y10 y11 y12 y13 y14 y15 y16 y17 y18 y19 y20 y21 y22 y23 y24 y25 y26 y27 y28 y29 y30)) (X12_1_0 K) (X12_1_1 K) l0 n1 n2 b3 n4 n5 n6 n7 n8 n9 n10 n11 n12 n13 n14 n15 n16 n17 n18 n19 n20 n21 n22 n23 n24 n25 n26 n27 n28 n29 l30 := by kernel_rfl
theorem ind12_1 (K : KX) : ∀ n : Nat, (∀ (l0 : PL) (n1 n2 : Int) (b3 : Bool) (n4 n5 n6 n7 n8 n9 n10 n11 n12 n13 n14 n15 n16 n17 n18 n19 n20 n21 n22 n23 n24 n25 n26 n27 n28 n29 : Int), loopN [1, 2, 3, 5, 45, 46] [2, 3, 5] [2] Rn12_1 n (T12_1_0 l0 n1 n2 b3 n4 n5 n6 n7 n8 n9 n10 n11 n12 n13 n14 n15 n16 n17 n18 n19 n20 n21 n22 n23 n24 n25 n26 n27 n28 n29) (S12_1_0 l0 n1 n2 b3 n4 n5 n6 n7 n8 n9 n10 n11 n12 n13 n14 n15 n16 n17 n18 n19 n20 n21 n22 n23 n24 n25 n26 n27 n28 n29) K = L12_1_0 (X12_1_0 K) (X12_1_1 K) n l0 n1 n2 b3 n4 n5 n6 n7 n8 n9 n10 n11 n12 n13 n14 n15 n16 n17 n18 n19 n20 n21 n22 n23 n24 n25 n26 n27 n28 n29) /\ (∀ (l0 : PL) (n1 n2 : Int) (b3 : Bool) (n4 n5 n6 n7 n8 n9 n10 n11 n12 n13 n14 n15 n16 n17 n18 n19 n20 n21 n22 n23 n24 n25 n26 n27 n28 n29 : Int) (l30 : PL), loopN [1, 2, 3, 5, 45, 46] [2, 3, 5] [2] Rn12_1 n (T12_1_1 l0 n1 n2 b3 n4 n5 n6 n7 n8 n9 n10 n11 n12 n13 n14 n15 n16 n17 n18 n19 n20 n21 n22 n23 n24 n25 n26 n27 n28 n29 l30) (S12_1_1 l0 n1 n2 b3 n4 n5 n6 n7 n8 n9 n10 n11 n12 n13 n14 n15 n16 n17 n18 n19 n20 n21 n22 n23 n24 n25 n26 n27 n28 n29 l30) K = L12_1_1 (X12_1_0 K) (X12_1_1 K) n l0 n1 n2 b3 n4 n5 n6 n7 n8 n9 n10 n11 n12 n13 n14 n15 n16 n17 n18 n19 n20 n21 n22 n23 n24 n25 n26 n27 n28 n29 l30)
 | 0 => ⟨by intros; rfl, by intros; rfl⟩
 | n + 1 => by
  have ih := ind12_1 K n
  refine ⟨?_, ?_⟩
  ·intro l0 n1 n2 b3 n4 n5 n6 n7 n8 n9 n10 n11 n12 n13 n14 n15 n16 n17 n18 n19 n20 n21 n22 n23 n24 n25 n26 n27 n28 n29
   show roundK _ _ _ Rn12_1 _ _ _ K = _
   rw [St12_1_0_ok]; simp only [ih.1, ih.2]; rfl
  ·intro l0 n1 n2 b3 n4 n5 n6 n7 n8 n9 n10 n11 n12 n13 n14 n15 n16 n17 n18 n19 n20 n21 n22 n23 n24 n25 n26 n27 n28 n29 l30
   show roundK _ _ _ Rn12_1 _ _ _ K = _
   rw [St12_1_1_ok]; simp only [ih.1, ih.2]; rfl
theorem Ent12_1_ok (hΓ : Sd W0 Γ145) : EntOk Tryz.prog W0 Ent12_1 B12_1 := finE (ex := [2, 3, 5]) (res := [2]) (Λ := Λ12_1) hΓ (nlL (by kernel_rfl)) fun T σ K h => by
 rcases wT_or h with ⟨⟨x0, _, x1, x2, _⟩, ⟨⟨x3, x4, x5, x6, x7, x8, x9, x10, x11, x12, x13, x14, x15, x16, x17, x18, x19, x20, x21, x22, x23, x24, x25, x26, x27, x28, x29, _⟩, ⟨_, _, _⟩, _⟩, rfl, rfl, h1⟩ | h1
 ·exact ((ind12_1 K fuel).1 x0 x1 x2 x3 x4 x5 x6 x7 x8 x9 x10 x11 x12 x13 x14 x15 x16 x17 x18 x19 x20 x21 x22 x23 x24 x25 x26 x27 x28 x29).trans h1
 obtain ⟨⟨x0, x1, x2, _⟩, ⟨⟨x3, x4, x5, x6, x7, x8, x9, x10, x11, x12, x13, x14, x15, x16, x17, x18, x19, x20, x21, x22, x23, x24, x25, x26, x27, x28, x29, _⟩, ⟨_, _, _⟩, x30, _⟩, rfl, rfl, h2⟩ := wT_f h1
 exact ((ind12_1 K fuel).2 x0 x1 x2 x3 x4 x5 x6 x7 x8 x9 x10 x11 x12 x13 x14 x15 x16 x17 x18 x19 x20 x21 x22 x23 x24 x25 x26 x27 x28 x29 x30).trans h2
theorem g12 (a0_0 : Bool) (a0_1 a0_2 a0_3 a0_4 a0_5 a0_6 a0_7 a0_8 a0_9 a0_10 a0_11 a0_12 a0_13 a0_14 a0_15 a0_16 a0_17 a0_18 a0_19 a0_20 a0_21 a0_22 a0_23 a0_24 a0_25 a0_26 : Int) (K : RRes -> Bool) : runFn E Γ145 (mkΛ [Ent12_1]) false Tryz.f12 [(xA [(xB a0_0), (xJ .u8 a0_1), (xJ .u8 a0_2), (xJ .i8 a0_3), (xJ .i8 a0_4), (xJ .i8 a0_5), (xJ .i8 a0_6), (xJ .i8 a0_7), (xJ .i8 a0_8), (xJ .i8 a0_9), (xJ .i8 a0_10), (xJ .i8 a0_11), (xJ .i8 a0_12), (xJ .i8 a0_13), (xJ .i8 a0_14), (xJ .i8 a0_15), (xJ .i8 a0_16), (xJ .i8 a0_17), (xJ .i8 a0_18), (xJ .i8 a0_19), (xJ .i8 a0_20), (xJ .i8 a0_21), (xJ .i8 a0_22), (xJ .i8 a0_23), (xJ .i8 a0_24), (xJ .i8 a0_25), (xJ .i8 a0_26)])] K = G12 a0_0 a0_1 a0_2 a0_3 a0_4 a0_5 a0_6 a0_7 a0_8 a0_9 a0_10 a0_11 a0_12 a0_13 a0_14 a0_15 a0_16 a0_17 a0_18 a0_19 a0_20 a0_21 a0_22 a0_23 a0_24 a0_25 a0_26 (fun z0_0 z0_1 => K (.one (.p (xA [(xV z0_0), (xV z0_1)])))) := by kernel_rfl
theorem snd12 (hΓ : Sd W0 Γ145) : Sd W0 Γ146 := sound_add hΓ fun l K h => by
 obtain ⟨⟨⟨a0_0, a0_1, a0_2, a0_3, a0_4, a0_5, a0_6, a0_7, a0_8, a0_9, a0_10, a0_11, a0_12, a0_13, a0_14, a0_15, a0_16, a0_17, a0_18, a0_19, a0_20, a0_21, a0_22, a0_23, a0_24, a0_25, a0_26, _⟩, _⟩, rfl, h1⟩ := wA_f h
 rw [Q12_def] at h1
 exact finF hΓ (mkL (xs := [(Ent12_1, B12_1)]) (by kernel_rfl) (by kernel_rfl) ⟨Ent12_1_ok hΓ, trivial⟩) Tryz.func12 (by kernel_rfl) ((g12 _ _ _ _ _ _ _ _ _ _ _ _ _ _ _ _ _ _ _ _ _ _ _ _ _ _ _ K).trans h1)
theorem g51 (a0_0 a0_1 : PL) (a1 : Int) (K : RRes -> Bool) : runFn E Γ146 (mkΛ []) false Tryz.f51 [(xA [(xV a0_0), (xV a0_1)]), (xI a1)] K = G51 a0_0 a0_1 a1 (fun z1 => K (.tup [(.p (.lit (.pointer Option.none))), (.p (xI z1))])) (fun z0_0 z0_1 z0_2 z1 => K (.tup [(.p (.adr [(xA [(xV z0_0), (xV z0_1), (xV z0_2)])] 0 0)), (.p (xI z1))])) := by kernel_rfl
theorem snd51 (hΓ : Sd W0 Γ146) : Sd W0 Γ147 := sound_add hΓ fun l K h => by
 obtain ⟨⟨⟨a0_0, a0_1, _⟩, a1, _⟩, rfl, h1⟩ := wA_f h
 rw [Q51_def] at h1
 exact finN hΓ Tryz.func51 (by kernel_rfl) ((g51 _ _ _ K).trans h1)
theorem g23 (a0_0 a0_1 : PL) (a1 : Int) (K : RRes -> Bool) : runFn E Γ147 (mkΛ []) false Tryz.f23 [(xA [(xV a0_0), (xV a0_1)]), (xI a1)] K = G23 a0_0 a0_1 a1 (fun z0 z1 => K (.tup [(.p (xV z0)), (.p (xI z1))])) := by kernel_rfl
theorem snd23 (hΓ : Sd W0 Γ147) : Sd W0 Γ148 := sound_add hΓ fun l K h => by
 obtain ⟨⟨⟨a0_0, a0_1, _⟩, a1, _⟩, rfl, h1⟩ := wA_f h
 rw [Q23_def] at h1
 exact finN hΓ Tryz.func23 (by kernel_rfl) ((g23 _ _ _ K).trans h1)
theorem g88 (a0_0 a0_1 : PL) (a1 : Int) (K : RRes -> Bool) : runFn E Γ148 (mkΛ []) false Tryz.f88 [(xA [(xV a0_0), (xV a0_1)]), (xI a1)] K = G88 a0_0 a0_1 a1 (fun z0 => K (.one (.p (xV z0)))) := by kernel_rfl
theorem snd88 (hΓ : Sd W0 Γ148) : Sd W0 Γ149 := sound_add hΓ fun l K h => by
 obtain ⟨⟨⟨a0_0, a0_1, _⟩, a1, _⟩, rfl, h1⟩ := wA_f h
 rw [Q88_def] at h1
 exact finN hΓ Tryz.func88 (by kernel_rfl) ((g88 _ _ _ K).trans h1)
theorem g56 (a0_0 a0_1 : PL) (a1 : Int) (K : RRes -> Bool) : runFn E Γ149 (mkΛ []) false Tryz.f56 [(xA [(xV a0_0), (xV a0_1)]), (xI a1)] K = G56 a0_0 a0_1 a1 (fun z0 => K (.one (.p (xV z0)))) := by kernel_rfl
theorem snd56 (hΓ : Sd W0 Γ149) : Sd W0 Γ150 := sound_add hΓ fun l K h => by
 obtain ⟨⟨⟨a0_0, a0_1, _⟩, a1, _⟩, rfl, h1⟩ := wA_f h
 rw [Q56_def] at h1
 exact finN hΓ Tryz.func56 (by kernel_rfl) ((g56 _ _ _ K).trans h1)
end Go.Ev
