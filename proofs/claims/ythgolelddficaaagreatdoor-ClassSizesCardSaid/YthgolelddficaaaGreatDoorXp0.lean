/- The abstract machine computes what was printed. No conditions -/
import Derived.Test.YthgolelddficaaaGreatDoorXd1
import Derived.KernelRfl
set_option linter.unusedVariables false
set_option linter.unusedSimpArgs false
set_option maxRecDepth 100000
set_option maxHeartbeats 0
namespace Go.Ev
open Go Go.RowKit Go.Proofs
variable {W0 : World}
theorem snd112 (hH : Hand112 W0) (hΓ : Sd W0 Γ0) : Sd W0 Γ1 := sound_add hΓ fun l K h => by
 obtain ⟨⟨a0, _⟩, rfl, h1⟩ := wA_f h
 exact hH _ K h1
theorem g150 (a0 : Int) (K : RRes -> Bool) : runFn E Γ1 (mkΛ []) false Tryz.f150 [(xI a0)] K = G150 a0 (fun z0 => K (.one (.p (xZ z0)))) := by kernel_rfl
theorem snd150 (hΓ : Sd W0 Γ1) : Sd W0 Γ2 := sound_add hΓ fun l K h => by
 obtain ⟨⟨a0, _⟩, rfl, h1⟩ := wA_f h
 rw [Q150_def] at h1
 exact finN hΓ Tryz.func150 (by kernel_rfl) ((g150 _ K).trans h1)
theorem g184 (a0 a1 : ByteArray) (K : RRes -> Bool) : runFn E Γ2 (mkΛ []) false Tryz.f184 [(xZ a0), (xZ a1)] K = G184 a0 a1 (fun z0 => K (.one (.p (xB z0)))) := by kernel_rfl
theorem snd184 (hΓ : Sd W0 Γ2) : Sd W0 Γ3 := sound_add hΓ fun l K h => by
 obtain ⟨⟨a0, a1, _⟩, rfl, h1⟩ := wA_f h
 rw [Q184_def] at h1
 exact finN hΓ Tryz.func184 (by kernel_rfl) ((g184 _ _ K).trans h1)
theorem g148 (a0 a1 : ByteArray) (K : RRes -> Bool) : runFn E Γ3 (mkΛ []) false Tryz.f148 [(xZ a0), (xZ a1)] K = G148 a0 a1 (fun z0 => K (.one (.p (xB z0)))) := by kernel_rfl
theorem snd148 (hΓ : Sd W0 Γ3) : Sd W0 Γ4 := sound_add hΓ fun l K h => by
 obtain ⟨⟨a0, a1, _⟩, rfl, h1⟩ := wA_f h
 rw [Q148_def] at h1
 exact finN hΓ Tryz.func148 (by kernel_rfl) ((g148 _ _ K).trans h1)
theorem snd149 (hH : Hand149 W0) (hΓ : Sd W0 Γ4) : Sd W0 Γ5 := sound_add hΓ fun l K h => by
 obtain ⟨⟨a0, _⟩, rfl, h1⟩ := wA_f h
 exact hH _ K h1
theorem St147_0_0_ok (next : KS) (K : KX) (b0 : Bool) (l1 : PL) (b2 : Bool) : roundK [1, 2] [1, 2] [2] Rn147_0 next (T147_0_0 b0 l1 b2) (S147_0_0 b0 l1 b2) K = St147_0_0 (fun y0 y1 y2 => next (T147_0_0 y0 y1 y2) (S147_0_0 y0 y1 y2)) (X147_0_0 K) b0 l1 b2 := by kernel_rfl
theorem ind147_0 (K : KX) : ∀ n : Nat, (∀ (b0 : Bool) (l1 : PL) (b2 : Bool), loopN [1, 2] [1, 2] [2] Rn147_0 n (T147_0_0 b0 l1 b2) (S147_0_0 b0 l1 b2) K = L147_0_0 (X147_0_0 K) n b0 l1 b2)
 | 0 => by intros; rfl
 | n + 1 => by
  have ih := ind147_0 K n
  intro b0 l1 b2
  show roundK _ _ _ Rn147_0 _ _ _ K = _
  rw [St147_0_0_ok]; simp only [ih]; rfl
theorem Ent147_0_ok (hΓ : Sd W0 Γ5) : EntOk Tryz.prog W0 Ent147_0 B147_0 := finE (ex := [1, 2]) (res := [2]) (Λ := Λ147_0) hΓ (nlL (by kernel_rfl)) fun T σ K h => by
 obtain ⟨_, ⟨⟨x0, x1, _⟩, ⟨x2, _, _⟩, _⟩, rfl, rfl, h1⟩ := wT_f h
 exact (ind147_0 K fuel x0 x1 x2).trans h1
theorem g147 (a0_0 : Bool) (a0_1 : PL) (K : RRes -> Bool) : runFn E Γ5 (mkΛ [Ent147_0]) false Tryz.f147 [(xA [(xB a0_0), (xV a0_1)])] K = G147 a0_0 a0_1 (fun z0_0 z0_1 => K (.one (.p (xA [(xB z0_0), (xV z0_1)])))) := by kernel_rfl
theorem snd147 (hΓ : Sd W0 Γ5) : Sd W0 Γ6 := sound_add hΓ fun l K h => by
 obtain ⟨⟨⟨a0_0, a0_1, _⟩, _⟩, rfl, h1⟩ := wA_f h
 rw [Q147_def] at h1
 exact finF hΓ (mkL (xs := [(Ent147_0, B147_0)]) (by kernel_rfl) (by kernel_rfl) ⟨Ent147_0_ok hΓ, trivial⟩) Tryz.func147 (by kernel_rfl) ((g147 _ _ K).trans h1)
theorem St102_0_0_ok (next : KS) (K : KX) (s0 : ByteArray) (b1 b2 : Bool) : roundK [2, 3, 4] [2, 4] [2] Rn102_0 next (T102_0_0 s0 b1 b2) (S102_0_0 s0 b1 b2) K = St102_0_0 (fun y0 y1 y2 => next (T102_0_0 y0 y1 y2) (S102_0_0 y0 y1 y2)) (fun y0 y1 y2 y3 => next (T102_0_1 y0 y1 y2 y3) (S102_0_1 y0 y1 y2 y3)) (X102_0_0 K) (X102_0_1 K) s0 b1 b2 := by kernel_rfl
theorem St102_0_1_ok (next : KS) (K : KX) (s0 : ByteArray) (b1 b2 : Bool) (l3 : PL) : roundK [2, 3, 4] [2, 4] [2] Rn102_0 next (T102_0_1 s0 b1 b2 l3) (S102_0_1 s0 b1 b2 l3) K = St102_0_1 (fun y0 y1 y2 => next (T102_0_0 y0 y1 y2) (S102_0_0 y0 y1 y2)) (fun y0 y1 y2 y3 => next (T102_0_1 y0 y1 y2 y3) (S102_0_1 y0 y1 y2 y3)) (X102_0_0 K) (X102_0_1 K) s0 b1 b2 l3 := by kernel_rfl
theorem ind102_0 (K : KX) : ∀ n : Nat, (∀ (s0 : ByteArray) (b1 b2 : Bool), loopN [2, 3, 4] [2, 4] [2] Rn102_0 n (T102_0_0 s0 b1 b2) (S102_0_0 s0 b1 b2) K = L102_0_0 (X102_0_0 K) (X102_0_1 K) n s0 b1 b2) /\ (∀ (s0 : ByteArray) (b1 b2 : Bool) (l3 : PL), loopN [2, 3, 4] [2, 4] [2] Rn102_0 n (T102_0_1 s0 b1 b2 l3) (S102_0_1 s0 b1 b2 l3) K = L102_0_1 (X102_0_0 K) (X102_0_1 K) n s0 b1 b2 l3)
 | 0 => ⟨by intros; rfl, by intros; rfl⟩
 | n + 1 => by
  have ih := ind102_0 K n
  refine ⟨?_, ?_⟩
  ·intro s0 b1 b2
   show roundK _ _ _ Rn102_0 _ _ _ K = _
   rw [St102_0_0_ok]; simp only [ih.1, ih.2]; rfl
  ·intro s0 b1 b2 l3
   show roundK _ _ _ Rn102_0 _ _ _ K = _
   rw [St102_0_1_ok]; simp only [ih.1, ih.2]; rfl
theorem Ent102_0_ok (hΓ : Sd W0 Γ6) : EntOk Tryz.prog W0 Ent102_0 B102_0 := finE (ex := [2, 4]) (res := [2]) (Λ := Λ102_0) hΓ (nlL (by kernel_rfl)) fun T σ K h => by
 rcases wT_or h with ⟨⟨x0, _⟩, ⟨⟨x1, _, _⟩, ⟨x2, _, _⟩, _⟩, rfl, rfl, h1⟩ | h1
 ·exact ((ind102_0 K fuel).1 x0 x1 x2).trans h1
 obtain ⟨⟨x0, _⟩, ⟨⟨x1, _, _⟩, ⟨x2, _⟩, x3, _⟩, rfl, rfl, h2⟩ := wT_f h1
 exact ((ind102_0 K fuel).2 x0 x1 x2 x3).trans h2
theorem g102 (a0 : ByteArray) (K : RRes -> Bool) : runFn E Γ6 (mkΛ [Ent102_0]) false Tryz.f102 [(xZ a0)] K = G102 a0 (fun z0_0 z0_1 => K (.one (.p (xA [(xB z0_0), (xV z0_1)])))) := by kernel_rfl
theorem snd102 (hΓ : Sd W0 Γ6) : Sd W0 Γ7 := sound_add hΓ fun l K h => by
 obtain ⟨⟨a0, _⟩, rfl, h1⟩ := wA_f h
 rw [Q102_def] at h1
 exact finF hΓ (mkL (xs := [(Ent102_0, B102_0)]) (by kernel_rfl) (by kernel_rfl) ⟨Ent102_0_ok hΓ, trivial⟩) Tryz.func102 (by kernel_rfl) ((g102 _ K).trans h1)
theorem g103 (a0 : Int) (K : RRes -> Bool) : runFn E Γ7 (mkΛ []) false Tryz.f103 [(xI a0)] K = G103 a0 (fun z0_0 z0_1 => K (.one (.p (xA [(xB z0_0), (xV z0_1)])))) := by kernel_rfl
theorem snd103 (hΓ : Sd W0 Γ7) : Sd W0 Γ8 := sound_add hΓ fun l K h => by
 obtain ⟨⟨a0, _⟩, rfl, h1⟩ := wA_f h
 rw [Q103_def] at h1
 exact finN hΓ Tryz.func103 (by kernel_rfl) ((g103 _ K).trans h1)
theorem g141 (a0_0 : Bool) (a0_1 : PL) (K : RRes -> Bool) : runFn E Γ8 (mkΛ []) false Tryz.f141 [(xA [(xB a0_0), (xV a0_1)])] K = G141 a0_0 a0_1 (fun z0 => K (.one (.p (xI z0)))) := by kernel_rfl
theorem snd141 (hΓ : Sd W0 Γ8) : Sd W0 Γ9 := sound_add hΓ fun l K h => by
 obtain ⟨⟨⟨a0_0, a0_1, _⟩, _⟩, rfl, h1⟩ := wA_f h
 rw [Q141_def] at h1
 exact finN hΓ Tryz.func141 (by kernel_rfl) ((g141 _ _ K).trans h1)
theorem g142 (a0_0 : Bool) (a0_1 : PL) (K : RRes -> Bool) : runFn E Γ9 (mkΛ []) false Tryz.f142 [(xA [(xB a0_0), (xV a0_1)])] K = G142 a0_0 a0_1 (fun z0_0 z0_1 => K (.one (.p (xA [(xB z0_0), (xV z0_1)])))) := by kernel_rfl
theorem snd142 (hΓ : Sd W0 Γ9) : Sd W0 Γ10 := sound_add hΓ fun l K h => by
 obtain ⟨⟨⟨a0_0, a0_1, _⟩, _⟩, rfl, h1⟩ := wA_f h
 rw [Q142_def] at h1
 exact finN hΓ Tryz.func142 (by kernel_rfl) ((g142 _ _ K).trans h1)
theorem St143_0_0_ok (next : KS) (K : KX) (n0 n1 n2 n3 : Int) (b4 : Bool) (l5 : PL) (s6 s7 : ByteArray) : roundK [1, 2, 4, 5, 6, 7] [1, 2, 4, 5, 6] [4] Rn143_0 next (T143_0_0 n0 n1 n2 n3 b4 l5 s6 s7) (S143_0_0 n0 n1 n2 n3 b4 l5 s6 s7) K = St143_0_0 (fun y0 y1 y2 y3 y4 y5 y6 y7 => next (T143_0_0 y0 y1 y2 y3 y4 y5 y6 y7) (S143_0_0 y0 y1 y2 y3 y4 y5 y6 y7)) (X143_0_0 K) n0 n1 n2 n3 b4 l5 s6 s7 := by kernel_rfl
theorem ind143_0 (K : KX) : ∀ n : Nat, (∀ (n0 n1 n2 n3 : Int) (b4 : Bool) (l5 : PL) (s6 s7 : ByteArray), loopN [1, 2, 4, 5, 6, 7] [1, 2, 4, 5, 6] [4] Rn143_0 n (T143_0_0 n0 n1 n2 n3 b4 l5 s6 s7) (S143_0_0 n0 n1 n2 n3 b4 l5 s6 s7) K = L143_0_0 (X143_0_0 K) n n0 n1 n2 n3 b4 l5 s6 s7)
 | 0 => by intros; rfl
 | n + 1 => by
  have ih := ind143_0 K n
  intro n0 n1 n2 n3 b4 l5 s6 s7
  show roundK _ _ _ Rn143_0 _ _ _ K = _
  rw [St143_0_0_ok]; simp only [ih]; rfl
theorem Ent143_0_ok (hΓ : Sd W0 Γ10) : EntOk Tryz.prog W0 Ent143_0 B143_0 := finE (ex := [1, 2, 4, 5, 6]) (res := [4]) (Λ := Λ143_0) hΓ (nlL (by kernel_rfl)) fun T σ K h => by
 obtain ⟨⟨x0, x1, x2, x3, _⟩, ⟨⟨x4, x5, _⟩, ⟨x6, x7, _⟩, _⟩, rfl, rfl, h1⟩ := wT_f h
 exact (ind143_0 K fuel x0 x1 x2 x3 x4 x5 x6 x7).trans h1
theorem g143 (a0_0 : Bool) (a0_1 : PL) (a1 : Int) (K : RRes -> Bool) : runFn E Γ10 (mkΛ [Ent143_0]) false Tryz.f143 [(xA [(xB a0_0), (xV a0_1)]), (xI a1)] K = G143 a0_0 a0_1 a1 (fun z0_0 z0_1 => K (.one (.p (xA [(xZ z0_0), (xZ z0_1)])))) := by kernel_rfl
theorem snd143 (hΓ : Sd W0 Γ10) : Sd W0 Γ11 := sound_add hΓ fun l K h => by
 obtain ⟨⟨⟨a0_0, a0_1, _⟩, a1, _⟩, rfl, h1⟩ := wA_f h
 rw [Q143_def] at h1
 exact finF hΓ (mkL (xs := [(Ent143_0, B143_0)]) (by kernel_rfl) (by kernel_rfl) ⟨Ent143_0_ok hΓ, trivial⟩) Tryz.func143 (by kernel_rfl) ((g143 _ _ _ K).trans h1)
theorem g100 (a0_0 : Bool) (a0_1 : PL) (a1_0 : Bool) (a1_1 : PL) (K : RRes -> Bool) : runFn E Γ11 (mkΛ []) false Tryz.f100 [(xA [(xB a0_0), (xV a0_1)]), (xA [(xB a1_0), (xV a1_1)])] K = G100 a0_0 a0_1 a1_0 a1_1 (fun z0_0 z0_1 => K (.one (.p (xA [(xZ z0_0), (xZ z0_1)])))) := by kernel_rfl
theorem snd100 (hΓ : Sd W0 Γ11) : Sd W0 Γ12 := sound_add hΓ fun l K h => by
 obtain ⟨⟨⟨a0_0, a0_1, _⟩, ⟨a1_0, a1_1, _⟩, _⟩, rfl, h1⟩ := wA_f h
 rw [Q100_def] at h1
 exact finN hΓ Tryz.func100 (by kernel_rfl) ((g100 _ _ _ _ K).trans h1)
theorem g74 (a0 a1 : Int) (K : RRes -> Bool) : runFn E Γ12 (mkΛ []) false Tryz.f74 [(xI a0), (xI a1)] K = G74 a0 a1 (fun z0_0 z0_1 => K (.one (.p (xA [(xZ z0_0), (xZ z0_1)])))) := by kernel_rfl
theorem snd74 (hΓ : Sd W0 Γ12) : Sd W0 Γ13 := sound_add hΓ fun l K h => by
 obtain ⟨⟨a0, a1, _⟩, rfl, h1⟩ := wA_f h
 rw [Q74_def] at h1
 exact finN hΓ Tryz.func74 (by kernel_rfl) ((g74 _ _ K).trans h1)
theorem g39 (a0 a1 : Int) (K : RRes -> Bool) : runFn E Γ13 (mkΛ []) false Tryz.f39 [(xI a0), (xI a1)] K = G39 a0 a1 (fun z0_0 z0_1 => K (.one (.p (xA [(xZ z0_0), (xZ z0_1)])))) := by kernel_rfl
theorem snd39 (hΓ : Sd W0 Γ13) : Sd W0 Γ14 := sound_add hΓ fun l K h => by
 obtain ⟨⟨a0, a1, _⟩, rfl, h1⟩ := wA_f h
 rw [Q39_def] at h1
 exact finN hΓ Tryz.func39 (by kernel_rfl) ((g39 _ _ K).trans h1)
theorem St66_0_0_ok (next : KS) (K : KX) (l0 : PL) (n1 n2 : Int) : roundK [3, 6, 7, 8] [3] [2] Rn66_0 next (T66_0_0 l0 n1 n2) (S66_0_0 l0 n1 n2) K = St66_0_0 (fun y0 y1 y2 => next (T66_0_0 y0 y1 y2) (S66_0_0 y0 y1 y2)) (fun y0 y1 y2 y3 => next (T66_0_1 y0 y1 y2 y3) (S66_0_1 y0 y1 y2 y3)) (X66_0_0 K) (X66_0_1 K) l0 n1 n2 := by kernel_rfl
theorem St66_0_1_ok (next : KS) (K : KX) (l0 : PL) (n1 n2 : Int) (l3 : PL) : roundK [3, 6, 7, 8] [3] [2] Rn66_0 next (T66_0_1 l0 n1 n2 l3) (S66_0_1 l0 n1 n2 l3) K = St66_0_1 (fun y0 y1 y2 => next (T66_0_0 y0 y1 y2) (S66_0_0 y0 y1 y2)) (fun y0 y1 y2 y3 => next (T66_0_1 y0 y1 y2 y3) (S66_0_1 y0 y1 y2 y3)) (X66_0_0 K) (X66_0_1 K) l0 n1 n2 l3 := by kernel_rfl
theorem ind66_0 (K : KX) : ∀ n : Nat, (∀ (l0 : PL) (n1 n2 : Int), loopN [3, 6, 7, 8] [3] [2] Rn66_0 n (T66_0_0 l0 n1 n2) (S66_0_0 l0 n1 n2) K = L66_0_0 (X66_0_0 K) (X66_0_1 K) n l0 n1 n2) /\ (∀ (l0 : PL) (n1 n2 : Int) (l3 : PL), loopN [3, 6, 7, 8] [3] [2] Rn66_0 n (T66_0_1 l0 n1 n2 l3) (S66_0_1 l0 n1 n2 l3) K = L66_0_1 (X66_0_0 K) (X66_0_1 K) n l0 n1 n2 l3)
 | 0 => ⟨by intros; rfl, by intros; rfl⟩
 | n + 1 => by
  have ih := ind66_0 K n
  refine ⟨?_, ?_⟩
  ·intro l0 n1 n2
   show roundK _ _ _ Rn66_0 _ _ _ K = _
   rw [St66_0_0_ok]; simp only [ih.1, ih.2]; rfl
  ·intro l0 n1 n2 l3
   show roundK _ _ _ Rn66_0 _ _ _ K = _
   rw [St66_0_1_ok]; simp only [ih.1, ih.2]; rfl
theorem Ent66_0_ok (hΓ : Sd W0 Γ14) : EntOk Tryz.prog W0 Ent66_0 B66_0 := finE (ex := [3]) (res := [2]) (Λ := Λ66_0) hΓ (nlL (by kernel_rfl)) fun T σ K h => by
 rcases wT_or h with ⟨⟨_, x0, x1, x2, _⟩, _, rfl, rfl, h1⟩ | h1
 ·exact ((ind66_0 K fuel).1 x0 x1 x2).trans h1
 obtain ⟨⟨x0, x1, x2, _⟩, ⟨x3, _⟩, rfl, rfl, h2⟩ := wT_f h1
 exact ((ind66_0 K fuel).2 x0 x1 x2 x3).trans h2
theorem g66 (a0 : PL) (K : RRes -> Bool) : runFn E Γ14 (mkΛ [Ent66_0]) true Tryz.f66 [(xV a0)] K = G66 a0 (fun z0 => K (.one (.p (xV z0)))) (fun z0 => K (.one (.fresh 78 2 z0))) := by kernel_rfl
theorem snd66 (hΓ : Sd W0 Γ14) : Sd W0 Γ15 := sound_add hΓ fun l K h => by
 obtain ⟨⟨a0, _⟩, rfl, h1⟩ := wA_f h
 rw [Q66_def] at h1
 exact finF hΓ (mkL (xs := [(Ent66_0, B66_0)]) (by kernel_rfl) (by kernel_rfl) ⟨Ent66_0_ok hΓ, trivial⟩) Tryz.func66 (by kernel_rfl) ((g66 _ K).trans h1)
theorem g33  (K : RRes -> Bool) : runFn E Γ15 (mkΛ []) false Tryz.f33 [] K = G33  (fun z0_0 z0_1 => K (.one (.p (xA [(xV z0_0), (xV z0_1)])))) := by kernel_rfl
theorem snd33 (hΓ : Sd W0 Γ15) : Sd W0 Γ16 := sound_add hΓ fun l K h => by
 obtain ⟨_, rfl, h1⟩ := wA_f h
 rw [Q33_def] at h1
 exact finN hΓ Tryz.func33 (by kernel_rfl) ((g33  K).trans h1)
theorem St94_0_0_ok (next : KS) (K : KX) (n0 n1 : Int) : roundK [0, 3] [] [2] Rn94_0 next (T94_0_0 n0 n1) (S94_0_0 n0 n1) K = St94_0_0 (fun y0 y1 => next (T94_0_0 y0 y1) (S94_0_0 y0 y1)) (X94_0_0 K) (X94_0_1 K) n0 n1 := by kernel_rfl
theorem ind94_0 (K : KX) : ∀ n : Nat, (∀ (n0 n1 : Int), loopN [0, 3] [] [2] Rn94_0 n (T94_0_0 n0 n1) (S94_0_0 n0 n1) K = L94_0_0 (X94_0_0 K) (X94_0_1 K) n n0 n1)
 | 0 => by intros; rfl
 | n + 1 => by
  have ih := ind94_0 K n
  intro n0 n1
  show roundK _ _ _ Rn94_0 _ _ _ K = _
  rw [St94_0_0_ok]; simp only [ih]; rfl
theorem Ent94_0_ok (hΓ : Sd W0 Γ16) : EntOk Tryz.prog W0 Ent94_0 B94_0 := finE (ex := []) (res := [2]) (Λ := Λ94_0) hΓ (nlL (by kernel_rfl)) fun T σ K h => by
 obtain ⟨⟨x0, x1, _⟩, _, rfl, rfl, h1⟩ := wT_f h
 exact (ind94_0 K fuel x0 x1).trans h1
theorem g94 (a0 : Int) (K : RRes -> Bool) : runFn E Γ16 (mkΛ [Ent94_0]) false Tryz.f94 [(xI a0)] K = G94 a0 (fun z0 => K (.one (.p (xB z0)))) := by kernel_rfl
theorem snd94 (hΓ : Sd W0 Γ16) : Sd W0 Γ17 := sound_add hΓ fun l K h => by
 obtain ⟨⟨a0, _⟩, rfl, h1⟩ := wA_f h
 rw [Q94_def] at h1
 exact finF hΓ (mkL (xs := [(Ent94_0, B94_0)]) (by kernel_rfl) (by kernel_rfl) ⟨Ent94_0_ok hΓ, trivial⟩) Tryz.func94 (by kernel_rfl) ((g94 _ K).trans h1)
theorem St64_1_0_ok (next : KS) (K : KX) (l0 l1 : PL) (n2 n3 : Int) : roundK [0, 13, 14, 15] [] [2] Rn64_1 next (T64_1_0 l0 l1 n2 n3) (S64_1_0 l0 l1 n2 n3) K = St64_1_0 (fun y0 y1 y2 y3 => next (T64_1_0 y0 y1 y2 y3) (S64_1_0 y0 y1 y2 y3)) (X64_1_0 K) (X64_1_1 K) l0 l1 n2 n3 := by kernel_rfl
theorem ind64_1 (K : KX) : ∀ n : Nat, (∀ (l0 l1 : PL) (n2 n3 : Int), loopN [0, 13, 14, 15] [] [2] Rn64_1 n (T64_1_0 l0 l1 n2 n3) (S64_1_0 l0 l1 n2 n3) K = L64_1_0 (X64_1_0 K) (X64_1_1 K) n l0 l1 n2 n3)
 | 0 => by intros; rfl
 | n + 1 => by
  have ih := ind64_1 K n
  intro l0 l1 n2 n3
  show roundK _ _ _ Rn64_1 _ _ _ K = _
  rw [St64_1_0_ok]; simp only [ih]; rfl
theorem Ent64_1_ok (hΓ : Sd W0 Γ17) : EntOk Tryz.prog W0 Ent64_1 B64_1 := finE (ex := []) (res := [2]) (Λ := Λ64_1) hΓ (nlL (by kernel_rfl)) fun T σ K h => by
 obtain ⟨⟨x0, x1, x2, x3, _⟩, _, rfl, rfl, h1⟩ := wT_f h
 exact (ind64_1 K fuel x0 x1 x2 x3).trans h1
theorem g64 (a0 : PL) (K : RRes -> Bool) : runFn E Γ17 (mkΛ [Ent64_1]) false Tryz.f64 [(xV a0)] K = G64 a0 (fun z0 => K (.one (.p (xI z0)))) := by kernel_rfl
theorem snd64 (hΓ : Sd W0 Γ17) : Sd W0 Γ18 := sound_add hΓ fun l K h => by
 obtain ⟨⟨a0, _⟩, rfl, h1⟩ := wA_f h
 rw [Q64_def] at h1
 exact finF hΓ (mkL (xs := [(Ent64_1, B64_1)]) (by kernel_rfl) (by kernel_rfl) ⟨Ent64_1_ok hΓ, trivial⟩) Tryz.func64 (by kernel_rfl) ((g64 _ K).trans h1)
theorem g82 (a0 : Int) (K : RRes -> Bool) : runFn E Γ18 (mkΛ []) false Tryz.f82 [(xI a0)] K = G82 a0 (fun z0 => K (.one (.p (xZ z0)))) := by kernel_rfl
theorem snd82 (hΓ : Sd W0 Γ18) : Sd W0 Γ19 := sound_add hΓ fun l K h => by
 obtain ⟨⟨a0, _⟩, rfl, h1⟩ := wA_f h
 rw [Q82_def] at h1
 exact finN hΓ Tryz.func82 (by kernel_rfl) ((g82 _ K).trans h1)
theorem g45 (a0 : Int) (K : RRes -> Bool) : runFn E Γ19 (mkΛ []) false Tryz.f45 [(xI a0)] K = G45 a0 (fun z0_0 z0_1 => K (.one (.p (xA [(xZ z0_0), (xZ z0_1)])))) := by kernel_rfl
theorem snd45 (hΓ : Sd W0 Γ19) : Sd W0 Γ20 := sound_add hΓ fun l K h => by
 obtain ⟨⟨a0, _⟩, rfl, h1⟩ := wA_f h
 rw [Q45_def] at h1
 exact finN hΓ Tryz.func45 (by kernel_rfl) ((g45 _ K).trans h1)
theorem St110_0_0_ok (next : KS) (K : KX) (n0 n1 : Int) (l2 : PL) : roundK [3, 8, 9] [3] [2] Rn110_0 next (T110_0_0 n0 n1 l2) (S110_0_0 n0 n1 l2) K = St110_0_0 (fun y0 y1 y2 => next (T110_0_0 y0 y1 y2) (S110_0_0 y0 y1 y2)) (X110_0_0 K) n0 n1 l2 := by kernel_rfl
theorem ind110_0 (K : KX) : ∀ n : Nat, (∀ (n0 n1 : Int) (l2 : PL), loopN [3, 8, 9] [3] [2] Rn110_0 n (T110_0_0 n0 n1 l2) (S110_0_0 n0 n1 l2) K = L110_0_0 (X110_0_0 K) n n0 n1 l2)
 | 0 => by intros; rfl
 | n + 1 => by
  have ih := ind110_0 K n
  intro n0 n1 l2
  show roundK _ _ _ Rn110_0 _ _ _ K = _
  rw [St110_0_0_ok]; simp only [ih]; rfl
theorem Ent110_0_ok (hΓ : Sd W0 Γ20) : EntOk Tryz.prog W0 Ent110_0 B110_0 := finE (ex := [3]) (res := [2]) (Λ := Λ110_0) hΓ (nlL (by kernel_rfl)) fun T σ K h => by
 obtain ⟨⟨x0, x1, _⟩, ⟨x2, _⟩, rfl, rfl, h1⟩ := wT_f h
 exact (ind110_0 K fuel x0 x1 x2).trans h1
theorem g110 (a0 : Int) (K : RRes -> Bool) : runFn E Γ20 (mkΛ [Ent110_0]) true Tryz.f110 [(xI a0)] K = G110 a0 (fun z0 => K (.one (.fresh 78 2 z0))) := by kernel_rfl
theorem snd110 (hΓ : Sd W0 Γ20) : Sd W0 Γ21 := sound_add hΓ fun l K h => by
 obtain ⟨⟨a0, _⟩, rfl, h1⟩ := wA_f h
 rw [Q110_def] at h1
 exact finF hΓ (mkL (xs := [(Ent110_0, B110_0)]) (by kernel_rfl) (by kernel_rfl) ⟨Ent110_0_ok hΓ, trivial⟩) Tryz.func110 (by kernel_rfl) ((g110 _ K).trans h1)
theorem g91 (a0 : PL) (K : RRes -> Bool) : runFn E Γ21 (mkΛ []) false Tryz.f91 [(xV a0)] K = G91 a0 (fun z0 z1 => K (.tup [(.p (xV z0)), (.p (xI z1))])) := by kernel_rfl
theorem snd91 (hΓ : Sd W0 Γ21) : Sd W0 Γ22 := sound_add hΓ fun l K h => by
 obtain ⟨⟨a0, _⟩, rfl, h1⟩ := wA_f h
 rw [Q91_def] at h1
 exact finN hΓ Tryz.func91 (by kernel_rfl) ((g91 _ K).trans h1)
theorem g151 (a0 : ByteArray) (K : RRes -> Bool) : runFn E Γ22 (mkΛ []) false Tryz.f151 [(xZ a0)] K = G151 a0 (fun z0 z1 => K (.tup [(.p (xB z0)), (.p (xZ z1))])) := by kernel_rfl
theorem snd151 (hΓ : Sd W0 Γ22) : Sd W0 Γ23 := sound_add hΓ fun l K h => by
 obtain ⟨⟨a0, _⟩, rfl, h1⟩ := wA_f h
 rw [Q151_def] at h1
 exact finN hΓ Tryz.func151 (by kernel_rfl) ((g151 _ K).trans h1)
theorem snd187 (hH : Hand187 W0) (hΓ : Sd W0 Γ23) : Sd W0 Γ24 := sound_add hΓ fun l K h => by
 obtain ⟨⟨a0, _⟩, rfl, h1⟩ := wA_f h
 exact hH _ K h1
theorem g152 (a0 : ByteArray) (K : RRes -> Bool) : runFn E Γ24 (mkΛ []) false Tryz.f152 [(xZ a0)] K = G152 a0 (fun z0 => K (.one (.p (xI z0)))) := by kernel_rfl
theorem snd152 (hΓ : Sd W0 Γ24) : Sd W0 Γ25 := sound_add hΓ fun l K h => by
 obtain ⟨⟨a0, _⟩, rfl, h1⟩ := wA_f h
 rw [Q152_def] at h1
 exact finN hΓ Tryz.func152 (by kernel_rfl) ((g152 _ K).trans h1)
theorem g105 (a0 : ByteArray) (K : RRes -> Bool) : runFn E Γ25 (mkΛ []) false Tryz.f105 [(xZ a0)] K = G105 a0 (fun z0 => K (.one (.p (xI z0)))) := by kernel_rfl
theorem snd105 (hΓ : Sd W0 Γ25) : Sd W0 Γ26 := sound_add hΓ fun l K h => by
 obtain ⟨⟨a0, _⟩, rfl, h1⟩ := wA_f h
 rw [Q105_def] at h1
 exact finN hΓ Tryz.func105 (by kernel_rfl) ((g105 _ K).trans h1)
theorem g106 (a0 : ByteArray) (K : RRes -> Bool) : runFn E Γ26 (mkΛ []) false Tryz.f106 [(xZ a0)] K = G106 a0 (fun z0 => K (.one (.p (xI z0)))) := by kernel_rfl
theorem snd106 (hΓ : Sd W0 Γ26) : Sd W0 Γ27 := sound_add hΓ fun l K h => by
 obtain ⟨⟨a0, _⟩, rfl, h1⟩ := wA_f h
 rw [Q106_def] at h1
 exact finN hΓ Tryz.func106 (by kernel_rfl) ((g106 _ K).trans h1)
theorem g127 (a0 : ByteArray) (K : RRes -> Bool) : runFn E Γ27 (mkΛ []) false Tryz.f127 [(xZ a0)] K = G127 a0 (fun z0 => K (.one (.p (xZ z0)))) := by kernel_rfl
theorem snd127 (hΓ : Sd W0 Γ27) : Sd W0 Γ28 := sound_add hΓ fun l K h => by
 obtain ⟨⟨a0, _⟩, rfl, h1⟩ := wA_f h
 rw [Q127_def] at h1
 exact finN hΓ Tryz.func127 (by kernel_rfl) ((g127 _ K).trans h1)
theorem g153 (a0 : ByteArray) (a1 : Int) (K : RRes -> Bool) : runFn E Γ28 (mkΛ []) false Tryz.f153 [(xZ a0), (xI a1)] K = G153 a0 a1 (fun z0 z1 => K (.tup [(.p (xI z0)), (.p (xB z1))])) := by kernel_rfl
theorem snd153 (hΓ : Sd W0 Γ28) : Sd W0 Γ29 := sound_add hΓ fun l K h => by
 obtain ⟨⟨a0, a1, _⟩, rfl, h1⟩ := wA_f h
 rw [Q153_def] at h1
 exact finN hΓ Tryz.func153 (by kernel_rfl) ((g153 _ _ K).trans h1)
theorem St154_0_0_ok (next : KS) (K : KX) (n0 n1 : Int) : roundK [0, 1] [0] [4] Rn154_0 next (T154_0_0 n0 n1) (S154_0_0 n0 n1) K = St154_0_0 (fun y0 y1 => next (T154_0_0 y0 y1) (S154_0_0 y0 y1)) (X154_0_0 K) n0 n1 := by kernel_rfl
theorem ind154_0 (K : KX) : ∀ n : Nat, (∀ (n0 n1 : Int), loopN [0, 1] [0] [4] Rn154_0 n (T154_0_0 n0 n1) (S154_0_0 n0 n1) K = L154_0_0 (X154_0_0 K) n n0 n1)
 | 0 => by intros; rfl
 | n + 1 => by
  have ih := ind154_0 K n
  intro n0 n1
  show roundK _ _ _ Rn154_0 _ _ _ K = _
  rw [St154_0_0_ok]; simp only [ih]; rfl
theorem Ent154_0_ok (hΓ : Sd W0 Γ29) : EntOk Tryz.prog W0 Ent154_0 B154_0 := finE (ex := [0]) (res := [4]) (Λ := Λ154_0) hΓ (nlL (by kernel_rfl)) fun T σ K h => by
 obtain ⟨⟨x0, x1, _⟩, _, rfl, rfl, h1⟩ := wT_f h
 exact (ind154_0 K fuel x0 x1).trans h1
theorem g154 (a0 a1 : Int) (K : RRes -> Bool) : runFn E Γ29 (mkΛ [Ent154_0]) false Tryz.f154 [(xI a0), (xI a1)] K = G154 a0 a1 (fun z0 => K (.one (.p (xI z0)))) := by kernel_rfl
theorem snd154 (hΓ : Sd W0 Γ29) : Sd W0 Γ30 := sound_add hΓ fun l K h => by
 obtain ⟨⟨a0, a1, _⟩, rfl, h1⟩ := wA_f h
 rw [Q154_def] at h1
 exact finF hΓ (mkL (xs := [(Ent154_0, B154_0)]) (by kernel_rfl) (by kernel_rfl) ⟨Ent154_0_ok hΓ, trivial⟩) Tryz.func154 (by kernel_rfl) ((g154 _ _ K).trans h1)
theorem snd246 (hH : Hand246 W0) (hΓ : Sd W0 Γ30) : Sd W0 Γ31 := sound_add hΓ fun l K h => by
 obtain ⟨⟨a0, a1, a2, _⟩, rfl, h1⟩ := wA_f h
 exact hH _ _ _ K h1
theorem g229 (a0 : ByteArray) (K : RRes -> Bool) : runFn E Γ31 (mkΛ []) false Tryz.f229 [(xZ a0)] K = G229 a0 (fun z0 z1 => K (.tup [(.p (xJ .u64 z0)), (.p (xB z1))])) := by kernel_rfl
theorem snd229 (hΓ : Sd W0 Γ31) : Sd W0 Γ32 := sound_add hΓ fun l K h => by
 obtain ⟨⟨a0, _⟩, rfl, h1⟩ := wA_f h
 rw [Q229_def] at h1
 exact finN hΓ Tryz.func229 (by kernel_rfl) ((g229 _ K).trans h1)
theorem g196 (a0 a1 : ByteArray) (K : RRes -> Bool) : runFn E Γ32 (mkΛ []) false Tryz.f196 [(xZ a0), (xZ a1)] K = G196 a0 a1 (fun z0 z1 z2 => K (.tup [(.p (xJ .u64 z0)), (.p (xJ .u64 z1)), (.p (xB z2))])) := by kernel_rfl
theorem snd196 (hΓ : Sd W0 Γ32) : Sd W0 Γ33 := sound_add hΓ fun l K h => by
 obtain ⟨⟨a0, a1, _⟩, rfl, h1⟩ := wA_f h
 rw [Q196_def] at h1
 exact finN hΓ Tryz.func196 (by kernel_rfl) ((g196 _ _ K).trans h1)
theorem snd230 (hH : Hand230 W0) (hΓ : Sd W0 Γ33) : Sd W0 Γ34 := sound_add hΓ fun l K h => by
 obtain ⟨⟨a0, a1, _⟩, rfl, h1⟩ := wA_f h
 exact hH _ _ K h1
theorem g197 (a0 : Int) (K : RRes -> Bool) : runFn E Γ34 (mkΛ []) false Tryz.f197 [(xJ .u64 a0)] K = G197 a0 (fun z0 => K (.one (.p (xZ z0)))) := by kernel_rfl
theorem snd197 (hΓ : Sd W0 Γ34) : Sd W0 Γ35 := sound_add hΓ fun l K h => by
 obtain ⟨⟨a0, _⟩, rfl, h1⟩ := wA_f h
 rw [Q197_def] at h1
 exact finN hΓ Tryz.func197 (by kernel_rfl) ((g197 _ K).trans h1)
theorem g188 (a0 a1 : ByteArray) (K : RRes -> Bool) : runFn E Γ35 (mkΛ []) false Tryz.f188 [(xZ a0), (xZ a1)] K = G188 a0 a1 (fun z0 z1 z2 => K (.tup [(.p (xZ z0)), (.p (xZ z1)), (.p (xI z2))])) := by kernel_rfl
theorem snd188 (hΓ : Sd W0 Γ35) : Sd W0 Γ36 := sound_add hΓ fun l K h => by
 obtain ⟨⟨a0, a1, _⟩, rfl, h1⟩ := wA_f h
 rw [Q188_def] at h1
 exact finN hΓ Tryz.func188 (by kernel_rfl) ((g188 _ _ K).trans h1)
theorem St155_0_0_ok (next : KS) (K : KX) (s0 s1 : ByteArray) : roundK [0, 1] [0] [4] Rn155_0 next (T155_0_0 s0 s1) (S155_0_0 s0 s1) K = St155_0_0 (fun y0 y1 => next (T155_0_0 y0 y1) (S155_0_0 y0 y1)) (X155_0_0 K) (X155_0_1 K) s0 s1 := by kernel_rfl
theorem ind155_0 (K : KX) : ∀ n : Nat, (∀ (s0 s1 : ByteArray), loopN [0, 1] [0] [4] Rn155_0 n (T155_0_0 s0 s1) (S155_0_0 s0 s1) K = L155_0_0 (X155_0_0 K) (X155_0_1 K) n s0 s1)
 | 0 => by intros; rfl
 | n + 1 => by
  have ih := ind155_0 K n
  intro s0 s1
  show roundK _ _ _ Rn155_0 _ _ _ K = _
  rw [St155_0_0_ok]; simp only [ih]; rfl
theorem Ent155_0_ok (hΓ : Sd W0 Γ36) : EntOk Tryz.prog W0 Ent155_0 B155_0 := finE (ex := [0]) (res := [4]) (Λ := Λ155_0) hΓ (nlL (by kernel_rfl)) fun T σ K h => by
 obtain ⟨⟨x0, x1, _⟩, _, rfl, rfl, h1⟩ := wT_f h
 exact (ind155_0 K fuel x0 x1).trans h1
theorem g155 (a0 a1 : ByteArray) (K : RRes -> Bool) : runFn E Γ36 (mkΛ [Ent155_0]) false Tryz.f155 [(xZ a0), (xZ a1)] K = G155 a0 a1 (fun z0 => K (.one (.p (xZ z0)))) := by kernel_rfl
theorem snd155 (hΓ : Sd W0 Γ36) : Sd W0 Γ37 := sound_add hΓ fun l K h => by
 obtain ⟨⟨a0, a1, _⟩, rfl, h1⟩ := wA_f h
 rw [Q155_def] at h1
 exact finF hΓ (mkL (xs := [(Ent155_0, B155_0)]) (by kernel_rfl) (by kernel_rfl) ⟨Ent155_0_ok hΓ, trivial⟩) Tryz.func155 (by kernel_rfl) ((g155 _ _ K).trans h1)
theorem g107 (a0 a1 : ByteArray) (K : RRes -> Bool) : runFn E Γ37 (mkΛ []) false Tryz.f107 [(xZ a0), (xZ a1)] K = G107 a0 a1 (fun z0 => K (.one (.p (xZ z0)))) := by kernel_rfl
theorem snd107 (hΓ : Sd W0 Γ37) : Sd W0 Γ38 := sound_add hΓ fun l K h => by
 obtain ⟨⟨a0, a1, _⟩, rfl, h1⟩ := wA_f h
 rw [Q107_def] at h1
 exact finN hΓ Tryz.func107 (by kernel_rfl) ((g107 _ _ K).trans h1)
theorem g79 (a0_0 a0_1 : ByteArray) (K : RRes -> Bool) : runFn E Γ38 (mkΛ []) false Tryz.f79 [(xA [(xZ a0_0), (xZ a0_1)])] K = G79 a0_0 a0_1 (fun z0 => K (.one (.p (xI z0)))) := by kernel_rfl
theorem snd79 (hΓ : Sd W0 Γ38) : Sd W0 Γ39 := sound_add hΓ fun l K h => by
 obtain ⟨⟨⟨a0_0, a0_1, _⟩, _⟩, rfl, h1⟩ := wA_f h
 rw [Q79_def] at h1
 exact finN hΓ Tryz.func79 (by kernel_rfl) ((g79 _ _ K).trans h1)
theorem g95 (a0_0 a0_1 : ByteArray) (K : RRes -> Bool) : runFn E Γ39 (mkΛ []) false Tryz.f95 [(xA [(xZ a0_0), (xZ a0_1)])] K = G95 a0_0 a0_1 (fun z0 => K (.one (.p (xB z0)))) := by kernel_rfl
theorem snd95 (hΓ : Sd W0 Γ39) : Sd W0 Γ40 := sound_add hΓ fun l K h => by
 obtain ⟨⟨⟨a0_0, a0_1, _⟩, _⟩, rfl, h1⟩ := wA_f h
 rw [Q95_def] at h1
 exact finN hΓ Tryz.func95 (by kernel_rfl) ((g95 _ _ K).trans h1)
theorem St65_0_0_ok (next : KS) (K : KX) (l0 : PL) (n1 n2 : Int) : roundK [12, 13, 14] [] [4] Rn65_0 next (T65_0_0 l0 n1 n2) (S65_0_0 l0 n1 n2) K = St65_0_0 (fun y0 y1 y2 => next (T65_0_0 y0 y1 y2) (S65_0_0 y0 y1 y2)) (X65_0_0 K) (X65_0_1 K) l0 n1 n2 := by kernel_rfl
theorem ind65_0 (K : KX) : ∀ n : Nat, (∀ (l0 : PL) (n1 n2 : Int), loopN [12, 13, 14] [] [4] Rn65_0 n (T65_0_0 l0 n1 n2) (S65_0_0 l0 n1 n2) K = L65_0_0 (X65_0_0 K) (X65_0_1 K) n l0 n1 n2)
 | 0 => by intros; rfl
 | n + 1 => by
  have ih := ind65_0 K n
  intro l0 n1 n2
  show roundK _ _ _ Rn65_0 _ _ _ K = _
  rw [St65_0_0_ok]; simp only [ih]; rfl
theorem Ent65_0_ok (hΓ : Sd W0 Γ40) : EntOk Tryz.prog W0 Ent65_0 B65_0 := finE (ex := []) (res := [4]) (Λ := Λ65_0) hΓ (nlL (by kernel_rfl)) fun T σ K h => by
 obtain ⟨⟨x0, x1, x2, _⟩, _, rfl, rfl, h1⟩ := wT_f h
 exact (ind65_0 K fuel x0 x1 x2).trans h1
theorem g65 (a0 a1 : PL) (K : RRes -> Bool) : runFn E Γ40 (mkΛ [Ent65_0]) false Tryz.f65 [(xV a0), (xV a1)] K = G65 a0 a1 (fun z0 => K (.one (.p (xI z0)))) := by kernel_rfl
theorem snd65 (hΓ : Sd W0 Γ40) : Sd W0 Γ41 := sound_add hΓ fun l K h => by
 obtain ⟨⟨a0, a1, _⟩, rfl, h1⟩ := wA_f h
 rw [Q65_def] at h1
 exact finF hΓ (mkL (xs := [(Ent65_0, B65_0)]) (by kernel_rfl) (by kernel_rfl) ⟨Ent65_0_ok hΓ, trivial⟩) Tryz.func65 (by kernel_rfl) ((g65 _ _ K).trans h1)
theorem g32 (a0 a1 : PL) (K : RRes -> Bool) : runFn E Γ41 (mkΛ []) false Tryz.f32 [(xV a0), (xV a1)] K = G32 a0 a1 (fun z0 => K (.one (.p (xI z0)))) := by kernel_rfl
theorem snd32 (hΓ : Sd W0 Γ41) : Sd W0 Γ42 := sound_add hΓ fun l K h => by
 obtain ⟨⟨a0, a1, _⟩, rfl, h1⟩ := wA_f h
 rw [Q32_def] at h1
 exact finN hΓ Tryz.func32 (by kernel_rfl) ((g32 _ _ K).trans h1)
theorem St76_0_0_ok (next : KS) (K : KX) (l0 l1 : PL) (n2 n3 : Int) : roundK [0, 14, 15, 16] [] [4] Rn76_0 next (T76_0_0 l0 l1 n2 n3) (S76_0_0 l0 l1 n2 n3) K = St76_0_0 (fun y0 y1 y2 y3 => next (T76_0_0 y0 y1 y2 y3) (S76_0_0 y0 y1 y2 y3)) (X76_0_0 K) (X76_0_1 K) l0 l1 n2 n3 := by kernel_rfl
theorem ind76_0 (K : KX) : ∀ n : Nat, (∀ (l0 l1 : PL) (n2 n3 : Int), loopN [0, 14, 15, 16] [] [4] Rn76_0 n (T76_0_0 l0 l1 n2 n3) (S76_0_0 l0 l1 n2 n3) K = L76_0_0 (X76_0_0 K) (X76_0_1 K) n l0 l1 n2 n3)
 | 0 => by intros; rfl
 | n + 1 => by
  have ih := ind76_0 K n
  intro l0 l1 n2 n3
  show roundK _ _ _ Rn76_0 _ _ _ K = _
  rw [St76_0_0_ok]; simp only [ih]; rfl
theorem Ent76_0_ok (hΓ : Sd W0 Γ42) : EntOk Tryz.prog W0 Ent76_0 B76_0 := finE (ex := []) (res := [4]) (Λ := Λ76_0) hΓ (nlL (by kernel_rfl)) fun T σ K h => by
 obtain ⟨⟨x0, x1, x2, x3, _⟩, _, rfl, rfl, h1⟩ := wT_f h
 exact (ind76_0 K fuel x0 x1 x2 x3).trans h1
theorem g76 (a0 a1 : PL) (K : RRes -> Bool) : runFn E Γ42 (mkΛ [Ent76_0]) false Tryz.f76 [(xV a0), (xV a1)] K = G76 a0 a1 (fun z0 => K (.one (.p (xI z0)))) := by kernel_rfl
theorem snd76 (hΓ : Sd W0 Γ42) : Sd W0 Γ43 := sound_add hΓ fun l K h => by
 obtain ⟨⟨a0, a1, _⟩, rfl, h1⟩ := wA_f h
 rw [Q76_def] at h1
 exact finF hΓ (mkL (xs := [(Ent76_0, B76_0)]) (by kernel_rfl) (by kernel_rfl) ⟨Ent76_0_ok hΓ, trivial⟩) Tryz.func76 (by kernel_rfl) ((g76 _ _ K).trans h1)
theorem g169 (a0 : ByteArray) (K : RRes -> Bool) : runFn E Γ43 (mkΛ []) false Tryz.f169 [(xZ a0)] K = G169 a0 (fun z0 z1 => K (.tup [(.p (xI z0)), (.p (xB z1))])) := by kernel_rfl
theorem snd169 (hΓ : Sd W0 Γ43) : Sd W0 Γ44 := sound_add hΓ fun l K h => by
 obtain ⟨⟨a0, _⟩, rfl, h1⟩ := wA_f h
 rw [Q169_def] at h1
 exact finN hΓ Tryz.func169 (by kernel_rfl) ((g169 _ K).trans h1)
theorem g118 (a0_0 a0_1 : ByteArray) (K : RRes -> Bool) : runFn E Γ44 (mkΛ []) false Tryz.f118 [(xA [(xZ a0_0), (xZ a0_1)])] K = G118 a0_0 a0_1 (fun z0 z1 z2 => K (.tup [(.p (xI z0)), (.p (xI z1)), (.p (xB z2))])) := by kernel_rfl
theorem snd118 (hΓ : Sd W0 Γ44) : Sd W0 Γ45 := sound_add hΓ fun l K h => by
 obtain ⟨⟨⟨a0_0, a0_1, _⟩, _⟩, rfl, h1⟩ := wA_f h
 rw [Q118_def] at h1
 exact finN hΓ Tryz.func118 (by kernel_rfl) ((g118 _ _ K).trans h1)
theorem St119_0_0_ok (next : KS) (K : KX) (n0 n1 n2 n3 : Int) (s4 s5 : ByteArray) : roundK [0, 1, 4, 5, 6] [0, 1, 4, 5] [4] Rn119_0 next (T119_0_0 n0 n1 n2 n3 s4 s5) (S119_0_0 n0 n1 n2 n3 s4 s5) K = St119_0_0 (fun y0 y1 y2 y3 y4 y5 => next (T119_0_0 y0 y1 y2 y3 y4 y5) (S119_0_0 y0 y1 y2 y3 y4 y5)) (X119_0_0 K) n0 n1 n2 n3 s4 s5 := by kernel_rfl
theorem ind119_0 (K : KX) : ∀ n : Nat, (∀ (n0 n1 n2 n3 : Int) (s4 s5 : ByteArray), loopN [0, 1, 4, 5, 6] [0, 1, 4, 5] [4] Rn119_0 n (T119_0_0 n0 n1 n2 n3 s4 s5) (S119_0_0 n0 n1 n2 n3 s4 s5) K = L119_0_0 (X119_0_0 K) n n0 n1 n2 n3 s4 s5)
 | 0 => by intros; rfl
 | n + 1 => by
  have ih := ind119_0 K n
  intro n0 n1 n2 n3 s4 s5
  show roundK _ _ _ Rn119_0 _ _ _ K = _
  rw [St119_0_0_ok]; simp only [ih]; rfl
theorem Ent119_0_ok (hΓ : Sd W0 Γ45) : EntOk Tryz.prog W0 Ent119_0 B119_0 := finE (ex := [0, 1, 4, 5]) (res := [4]) (Λ := Λ119_0) hΓ (nlL (by kernel_rfl)) fun T σ K h => by
 obtain ⟨⟨x0, x1, x2, x3, _⟩, ⟨⟨x4, x5, _⟩, _⟩, rfl, rfl, h1⟩ := wT_f h
 exact (ind119_0 K fuel x0 x1 x2 x3 x4 x5).trans h1
theorem g119 (a0 a1 : Int) (K : RRes -> Bool) : runFn E Γ45 (mkΛ [Ent119_0]) false Tryz.f119 [(xI a0), (xI a1)] K = G119 a0 a1 (fun z0_0 z0_1 => K (.one (.p (xA [(xZ z0_0), (xZ z0_1)])))) := by kernel_rfl
theorem snd119 (hΓ : Sd W0 Γ45) : Sd W0 Γ46 := sound_add hΓ fun l K h => by
 obtain ⟨⟨a0, a1, _⟩, rfl, h1⟩ := wA_f h
 rw [Q119_def] at h1
 exact finF hΓ (mkL (xs := [(Ent119_0, B119_0)]) (by kernel_rfl) (by kernel_rfl) ⟨Ent119_0_ok hΓ, trivial⟩) Tryz.func119 (by kernel_rfl) ((g119 _ _ K).trans h1)
theorem g170 (a0 a1 : ByteArray) (K : RRes -> Bool) : runFn E Γ46 (mkΛ []) false Tryz.f170 [(xZ a0), (xZ a1)] K = G170 a0 a1 (fun z0 => K (.one (.p (xZ z0)))) := by kernel_rfl
theorem snd170 (hΓ : Sd W0 Γ46) : Sd W0 Γ47 := sound_add hΓ fun l K h => by
 obtain ⟨⟨a0, a1, _⟩, rfl, h1⟩ := wA_f h
 rw [Q170_def] at h1
 exact finN hΓ Tryz.func170 (by kernel_rfl) ((g170 _ _ K).trans h1)
theorem g165 (a0 : Bool) (a1 : ByteArray) (K : RRes -> Bool) : runFn E Γ47 (mkΛ []) false Tryz.f165 [(xB a0), (xZ a1)] K = G165 a0 a1 (fun z0 => K (.one (.p (xZ z0)))) := by kernel_rfl
theorem snd165 (hΓ : Sd W0 Γ47) : Sd W0 Γ48 := sound_add hΓ fun l K h => by
 obtain ⟨⟨a0, a1, _⟩, rfl, h1⟩ := wA_f h
 rw [Q165_def] at h1
 exact finN hΓ Tryz.func165 (by kernel_rfl) ((g165 _ _ K).trans h1)
theorem g121 (a0 a1 : ByteArray) (K : RRes -> Bool) : runFn E Γ48 (mkΛ []) false Tryz.f121 [(xZ a0), (xZ a1)] K = G121 a0 a1 (fun z0 => K (.one (.p (xZ z0)))) := by kernel_rfl
theorem snd121 (hΓ : Sd W0 Γ48) : Sd W0 Γ49 := sound_add hΓ fun l K h => by
 obtain ⟨⟨a0, a1, _⟩, rfl, h1⟩ := wA_f h
 rw [Q121_def] at h1
 exact finN hΓ Tryz.func121 (by kernel_rfl) ((g121 _ _ K).trans h1)
theorem g122 (a0 : ByteArray) (K : RRes -> Bool) : runFn E Γ49 (mkΛ []) false Tryz.f122 [(xZ a0)] K = G122 a0 (fun z0 => K (.one (.p (xZ z0)))) := by kernel_rfl
theorem snd122 (hΓ : Sd W0 Γ49) : Sd W0 Γ50 := sound_add hΓ fun l K h => by
 obtain ⟨⟨a0, _⟩, rfl, h1⟩ := wA_f h
 rw [Q122_def] at h1
 exact finN hΓ Tryz.func122 (by kernel_rfl) ((g122 _ K).trans h1)
theorem g159 (a0 a1 : ByteArray) (K : RRes -> Bool) : runFn E Γ50 (mkΛ []) false Tryz.f159 [(xZ a0), (xZ a1)] K = G159 a0 a1 (fun z0 z1 z2 => K (.tup [(.p (xZ z0)), (.p (xZ z1)), (.p (xI z2))])) := by kernel_rfl
theorem snd159 (hΓ : Sd W0 Γ50) : Sd W0 Γ51 := sound_add hΓ fun l K h => by
 obtain ⟨⟨a0, a1, _⟩, rfl, h1⟩ := wA_f h
 rw [Q159_def] at h1
 exact finN hΓ Tryz.func159 (by kernel_rfl) ((g159 _ _ K).trans h1)
theorem g120 (a0 a1 : ByteArray) (K : RRes -> Bool) : runFn E Γ51 (mkΛ []) false Tryz.f120 [(xZ a0), (xZ a1)] K = G120 a0 a1 (fun z0_0 z0_1 => K (.one (.p (xA [(xZ z0_0), (xZ z0_1)])))) := by kernel_rfl
theorem snd120 (hΓ : Sd W0 Γ51) : Sd W0 Γ52 := sound_add hΓ fun l K h => by
 obtain ⟨⟨a0, a1, _⟩, rfl, h1⟩ := wA_f h
 rw [Q120_def] at h1
 exact finN hΓ Tryz.func120 (by kernel_rfl) ((g120 _ _ K).trans h1)
theorem g111 (a0_0 a0_1 a1_0 a1_1 : ByteArray) (K : RRes -> Bool) : runFn E Γ52 (mkΛ []) false Tryz.f111 [(xA [(xZ a0_0), (xZ a0_1)]), (xA [(xZ a1_0), (xZ a1_1)])] K = G111 a0_0 a0_1 a1_0 a1_1 (fun z0_0 z0_1 => K (.one (.p (xA [(xZ z0_0), (xZ z0_1)])))) := by kernel_rfl
theorem snd111 (hΓ : Sd W0 Γ52) : Sd W0 Γ53 := sound_add hΓ fun l K h => by
 obtain ⟨⟨⟨a0_0, a0_1, _⟩, ⟨a1_0, a1_1, _⟩, _⟩, rfl, h1⟩ := wA_f h
 rw [Q111_def] at h1
 exact finN hΓ Tryz.func111 (by kernel_rfl) ((g111 _ _ _ _ K).trans h1)
theorem g117 (a0 a1 : ByteArray) (K : RRes -> Bool) : runFn E Γ53 (mkΛ []) false Tryz.f117 [(xZ a0), (xZ a1)] K = G117 a0 a1 (fun z0 => K (.one (.p (xZ z0)))) := by kernel_rfl
theorem snd117 (hΓ : Sd W0 Γ53) : Sd W0 Γ54 := sound_add hΓ fun l K h => by
 obtain ⟨⟨a0, a1, _⟩, rfl, h1⟩ := wA_f h
 rw [Q117_def] at h1
 exact finN hΓ Tryz.func117 (by kernel_rfl) ((g117 _ _ K).trans h1)
theorem g89 (a0_0 a0_1 a1_0 a1_1 : ByteArray) (K : RRes -> Bool) : runFn E Γ54 (mkΛ []) false Tryz.f89 [(xA [(xZ a0_0), (xZ a0_1)]), (xA [(xZ a1_0), (xZ a1_1)])] K = G89 a0_0 a0_1 a1_0 a1_1 (fun z0_0 z0_1 => K (.one (.p (xA [(xZ z0_0), (xZ z0_1)])))) := by kernel_rfl
theorem snd89 (hΓ : Sd W0 Γ54) : Sd W0 Γ55 := sound_add hΓ fun l K h => by
 obtain ⟨⟨⟨a0_0, a0_1, _⟩, ⟨a1_0, a1_1, _⟩, _⟩, rfl, h1⟩ := wA_f h
 rw [Q89_def] at h1
 exact finN hΓ Tryz.func89 (by kernel_rfl) ((g89 _ _ _ _ K).trans h1)
theorem St81_2_0_ok (next : KS) (K : KX) (l0 : PL) (n1 : Int) (l2 : PL) (n3 n4 : Int) (l5 : PL) (n6 n7 : Int) (l8 : PL) : roundK [2, 7, 8, 14, 15, 16, 21, 22, 23] [2, 7, 14, 15, 16] [6] Rn81_2 next (T81_2_0 l0 n1 l2 n3 n4 l5 n6 n7 l8) (S81_2_0 l0 n1 l2 n3 n4 l5 n6 n7 l8) K = St81_2_0 (fun y0 y1 y2 y3 y4 y5 y6 y7 y8 => next (T81_2_0 y0 y1 y2 y3 y4 y5 y6 y7 y8) (S81_2_0 y0 y1 y2 y3 y4 y5 y6 y7 y8)) (X81_2_0 K) l0 n1 l2 n3 n4 l5 n6 n7 l8 := by kernel_rfl
theorem ind81_2 (K : KX) : ∀ n : Nat, (∀ (l0 : PL) (n1 : Int) (l2 : PL) (n3 n4 : Int) (l5 : PL) (n6 n7 : Int) (l8 : PL), loopN [2, 7, 8, 14, 15, 16, 21, 22, 23] [2, 7, 14, 15, 16] [6] Rn81_2 n (T81_2_0 l0 n1 l2 n3 n4 l5 n6 n7 l8) (S81_2_0 l0 n1 l2 n3 n4 l5 n6 n7 l8) K = L81_2_0 (X81_2_0 K) n l0 n1 l2 n3 n4 l5 n6 n7 l8)
 | 0 => by intros; rfl
 | n + 1 => by
  have ih := ind81_2 K n
  intro l0 n1 l2 n3 n4 l5 n6 n7 l8
  show roundK _ _ _ Rn81_2 _ _ _ K = _
  rw [St81_2_0_ok]; simp only [ih]; rfl
theorem Ent81_2_ok (hΓ : Sd W0 Γ55) : EntOk Tryz.prog W0 Ent81_2 B81_2 := finE (ex := [2, 7, 14, 15, 16]) (res := [6]) (Λ := Λ81_2) hΓ (nlL (by kernel_rfl)) fun T σ K h => by
 obtain ⟨⟨x0, x1, x2, x3, x4, x5, x6, x7, _⟩, ⟨x8, _⟩, rfl, rfl, h1⟩ := wT_f h
 exact (ind81_2 K fuel x0 x1 x2 x3 x4 x5 x6 x7 x8).trans h1
theorem St81_0_0_ok (next : KS) (K : KX) (l0 l1 : PL) (n2 n3 : Int) (l4 : PL) : roundK [2, 7, 14, 15, 16] [7] [6] Rn81_0 next (T81_0_0 l0 l1 n2 n3 l4) (S81_0_0 l0 l1 n2 n3 l4) K = St81_0_0 (fun y0 y1 y2 y3 y4 => next (T81_0_0 y0 y1 y2 y3 y4) (S81_0_0 y0 y1 y2 y3 y4)) (X81_0_0 K) l0 l1 n2 n3 l4 := by kernel_rfl
theorem ind81_0 (K : KX) : ∀ n : Nat, (∀ (l0 l1 : PL) (n2 n3 : Int) (l4 : PL), loopN [2, 7, 14, 15, 16] [7] [6] Rn81_0 n (T81_0_0 l0 l1 n2 n3 l4) (S81_0_0 l0 l1 n2 n3 l4) K = L81_0_0 (X81_0_0 K) n l0 l1 n2 n3 l4)
 | 0 => by intros; rfl
 | n + 1 => by
  have ih := ind81_0 K n
  intro l0 l1 n2 n3 l4
  show roundK _ _ _ Rn81_0 _ _ _ K = _
  rw [St81_0_0_ok]; simp only [ih]; rfl
theorem Ent81_0_ok (hΓ : Sd W0 Γ55) : EntOk Tryz.prog W0 Ent81_0 B81_0 := finE (ex := [7]) (res := [6]) (Λ := Λ81_0) hΓ (mkL (xs := [(Ent81_2, B81_2)]) (by kernel_rfl) (by kernel_rfl) ⟨Ent81_2_ok hΓ, trivial⟩) fun T σ K h => by
 obtain ⟨⟨x0, x1, x2, x3, _⟩, ⟨x4, _⟩, rfl, rfl, h1⟩ := wT_f h
 exact (ind81_0 K fuel x0 x1 x2 x3 x4).trans h1
theorem g81 (a0 : Int) (a1 a2 : PL) (K : RRes -> Bool) : runFn E Γ55 (mkΛ [Ent81_0]) false Tryz.f81 [(xI a0), (xV a1), (xV a2)] K = G81 a0 a1 a2 (fun z0 => K (.one (.p (xV z0)))) := by kernel_rfl
theorem snd81 (hΓ : Sd W0 Γ55) : Sd W0 Γ56 := sound_add hΓ fun l K h => by
 obtain ⟨⟨a0, a1, a2, _⟩, rfl, h1⟩ := wA_f h
 rw [Q81_def] at h1
 exact finF hΓ (mkL (xs := [(Ent81_0, B81_0)]) (by kernel_rfl) (by kernel_rfl) ⟨Ent81_0_ok hΓ, trivial⟩) Tryz.func81 (by kernel_rfl) ((g81 _ _ _ K).trans h1)
theorem g190 (a0 a1 : ByteArray) (K : RRes -> Bool) : runFn E Γ56 (mkΛ []) false Tryz.f190 [(xZ a0), (xZ a1)] K = G190 a0 a1 (fun z0 => K (.one (.p (xZ z0)))) := by kernel_rfl
theorem snd190 (hΓ : Sd W0 Γ56) : Sd W0 Γ57 := sound_add hΓ fun l K h => by
 obtain ⟨⟨a0, a1, _⟩, rfl, h1⟩ := wA_f h
 rw [Q190_def] at h1
 exact finN hΓ Tryz.func190 (by kernel_rfl) ((g190 _ _ K).trans h1)
theorem g158 (a0 a1 : ByteArray) (K : RRes -> Bool) : runFn E Γ57 (mkΛ []) false Tryz.f158 [(xZ a0), (xZ a1)] K = G158 a0 a1 (fun z0 => K (.one (.p (xZ z0)))) := by kernel_rfl
theorem snd158 (hΓ : Sd W0 Γ57) : Sd W0 Γ58 := sound_add hΓ fun l K h => by
 obtain ⟨⟨a0, a1, _⟩, rfl, h1⟩ := wA_f h
 rw [Q158_def] at h1
 exact finN hΓ Tryz.func158 (by kernel_rfl) ((g158 _ _ K).trans h1)
theorem St113_0_0_ok (next : KS) (K : KX) (l0 l1 l2 : PL) (n3 n4 : Int) (s5 s6 : ByteArray) : roundK [0, 1, 4, 5, 14, 15, 16] [0, 1, 4, 5] [4] Rn113_0 next (T113_0_0 l0 l1 l2 n3 n4 s5 s6) (S113_0_0 l0 l1 l2 n3 n4 s5 s6) K = St113_0_0 (fun y0 y1 y2 y3 y4 y5 y6 => next (T113_0_0 y0 y1 y2 y3 y4 y5 y6) (S113_0_0 y0 y1 y2 y3 y4 y5 y6)) (X113_0_0 K) l0 l1 l2 n3 n4 s5 s6 := by kernel_rfl
theorem ind113_0 (K : KX) : ∀ n : Nat, (∀ (l0 l1 l2 : PL) (n3 n4 : Int) (s5 s6 : ByteArray), loopN [0, 1, 4, 5, 14, 15, 16] [0, 1, 4, 5] [4] Rn113_0 n (T113_0_0 l0 l1 l2 n3 n4 s5 s6) (S113_0_0 l0 l1 l2 n3 n4 s5 s6) K = L113_0_0 (X113_0_0 K) n l0 l1 l2 n3 n4 s5 s6)
 | 0 => by intros; rfl
 | n + 1 => by
  have ih := ind113_0 K n
  intro l0 l1 l2 n3 n4 s5 s6
  show roundK _ _ _ Rn113_0 _ _ _ K = _
  rw [St113_0_0_ok]; simp only [ih]; rfl
theorem Ent113_0_ok (hΓ : Sd W0 Γ58) : EntOk Tryz.prog W0 Ent113_0 B113_0 := finE (ex := [0, 1, 4, 5]) (res := [4]) (Λ := Λ113_0) hΓ (nlL (by kernel_rfl)) fun T σ K h => by
 obtain ⟨⟨x0, x1, x2, x3, x4, _⟩, ⟨⟨_, _, x5, _⟩, ⟨_, _, x6, _⟩, _⟩, rfl, rfl, h1⟩ := wT_f h
 exact (ind113_0 K fuel x0 x1 x2 x3 x4 x5 x6).trans h1
theorem St113_2_0_ok (next : KS) (K : KX) (l0 l1 : PL) (n2 n3 : Int) (s4 s5 : ByteArray) : roundK [0, 4, 5, 27, 28, 29] [4, 5] [4] Rn113_2 next (T113_2_0 l0 l1 n2 n3 s4 s5) (S113_2_0 l0 l1 n2 n3 s4 s5) K = St113_2_0 (fun y0 y1 y2 y3 y4 y5 => next (T113_2_0 y0 y1 y2 y3 y4 y5) (S113_2_0 y0 y1 y2 y3 y4 y5)) (fun y0 y1 y2 y3 y4 y5 y6 y7 => next (T113_2_1 y0 y1 y2 y3 y4 y5 y6 y7) (S113_2_1 y0 y1 y2 y3 y4 y5 y6 y7)) (X113_2_0 K) (X113_2_1 K) l0 l1 n2 n3 s4 s5 := by kernel_rfl
theorem St113_2_1_ok (next : KS) (K : KX) (l0 l1 : PL) (n2 n3 : Int) (s4 s5 : ByteArray) (l6 l7 : PL) : roundK [0, 4, 5, 27, 28, 29] [4, 5] [4] Rn113_2 next (T113_2_1 l0 l1 n2 n3 s4 s5 l6 l7) (S113_2_1 l0 l1 n2 n3 s4 s5 l6 l7) K = St113_2_1 (fun y0 y1 y2 y3 y4 y5 => next (T113_2_0 y0 y1 y2 y3 y4 y5) (S113_2_0 y0 y1 y2 y3 y4 y5)) (fun y0 y1 y2 y3 y4 y5 y6 y7 => next (T113_2_1 y0 y1 y2 y3 y4 y5 y6 y7) (S113_2_1 y0 y1 y2 y3 y4 y5 y6 y7)) (X113_2_0 K) (X113_2_1 K) l0 l1 n2 n3 s4 s5 l6 l7 := by kernel_rfl
theorem ind113_2 (K : KX) : ∀ n : Nat, (∀ (l0 l1 : PL) (n2 n3 : Int) (s4 s5 : ByteArray), loopN [0, 4, 5, 27, 28, 29] [4, 5] [4] Rn113_2 n (T113_2_0 l0 l1 n2 n3 s4 s5) (S113_2_0 l0 l1 n2 n3 s4 s5) K = L113_2_0 (X113_2_0 K) (X113_2_1 K) n l0 l1 n2 n3 s4 s5) /\ (∀ (l0 l1 : PL) (n2 n3 : Int) (s4 s5 : ByteArray) (l6 l7 : PL), loopN [0, 4, 5, 27, 28, 29] [4, 5] [4] Rn113_2 n (T113_2_1 l0 l1 n2 n3 s4 s5 l6 l7) (S113_2_1 l0 l1 n2 n3 s4 s5 l6 l7) K = L113_2_1 (X113_2_0 K) (X113_2_1 K) n l0 l1 n2 n3 s4 s5 l6 l7)
 | 0 => ⟨by intros; rfl, by intros; rfl⟩
 | n + 1 => by
  have ih := ind113_2 K n
  refine ⟨?_, ?_⟩
  ·intro l0 l1 n2 n3 s4 s5
   show roundK _ _ _ Rn113_2 _ _ _ K = _
   rw [St113_2_0_ok]; simp only [ih.1, ih.2]; rfl
  ·intro l0 l1 n2 n3 s4 s5 l6 l7
   show roundK _ _ _ Rn113_2 _ _ _ K = _
   rw [St113_2_1_ok]; simp only [ih.1, ih.2]; rfl
theorem Ent113_2_ok (hΓ : Sd W0 Γ58) : EntOk Tryz.prog W0 Ent113_2 B113_2 := finE (ex := [4, 5]) (res := [4]) (Λ := Λ113_2) hΓ (nlL (by kernel_rfl)) fun T σ K h => by
 rcases wT_or h with ⟨⟨x0, x1, x2, x3, _⟩, ⟨⟨_, _, x4, _⟩, ⟨_, _, x5, _⟩, _⟩, rfl, rfl, h1⟩ | h1
 ·exact ((ind113_2 K fuel).1 x0 x1 x2 x3 x4 x5).trans h1
 obtain ⟨⟨x0, x1, x2, x3, _⟩, ⟨⟨_, _, x4, _⟩, ⟨x5, _⟩, x6, x7, _⟩, rfl, rfl, h2⟩ := wT_f h1
 exact ((ind113_2 K fuel).2 x0 x1 x2 x3 x4 x5 x6 x7).trans h2
theorem g113 (a0 a1 : PL) (K : RRes -> Bool) : runFn E Γ58 (mkΛ [Ent113_0, Ent113_2]) false Tryz.f113 [(xV a0), (xV a1)] K = G113 a0 a1 (fun z0_0 z0_1 z0_2 => K (.one (.p (xA [(xV z0_0), (xV z0_1), (xZ z0_2)])))) := by kernel_rfl
theorem snd113 (hΓ : Sd W0 Γ58) : Sd W0 Γ59 := sound_add hΓ fun l K h => by
 obtain ⟨⟨a0, a1, _⟩, rfl, h1⟩ := wA_f h
 rw [Q113_def] at h1
 exact finF hΓ (mkL (xs := [(Ent113_0, B113_0), (Ent113_2, B113_2)]) (by kernel_rfl) (by kernel_rfl) ⟨Ent113_0_ok hΓ, Ent113_2_ok hΓ, trivial⟩) Tryz.func113 (by kernel_rfl) ((g113 _ _ K).trans h1)
theorem snd233 (hH : Hand233 W0) (hΓ : Sd W0 Γ59) : Sd W0 Γ60 := sound_add hΓ fun l K h => by
 obtain ⟨⟨a0, a1, a2, _⟩, rfl, h1⟩ := wA_f h
 exact hH _ _ _ K h1
theorem g205 (a0 : ByteArray) (K : RRes -> Bool) : runFn E Γ60 (mkΛ []) false Tryz.f205 [(xZ a0)] K = G205 a0 (fun z0 z1 => K (.tup [(.p (xI z0)), (.p (xB z1))])) := by kernel_rfl
theorem snd205 (hΓ : Sd W0 Γ60) : Sd W0 Γ61 := sound_add hΓ fun l K h => by
 obtain ⟨⟨a0, _⟩, rfl, h1⟩ := wA_f h
 rw [Q205_def] at h1
 exact finN hΓ Tryz.func205 (by kernel_rfl) ((g205 _ K).trans h1)
theorem snd99 (hH : Hand99 W0) (hΓ : Sd W0 Γ61) : Sd W0 Γ62 := sound_add hΓ fun l K h => by
 obtain ⟨⟨a0, _⟩, rfl, h1⟩ := wA_f h
 exact hH _ K h1
theorem snd235 (hH : Hand235 W0) (hΓ : Sd W0 Γ62) : Sd W0 Γ63 := sound_add hΓ fun l K h => by
 obtain ⟨⟨a0, a1, _⟩, rfl, h1⟩ := wA_f h
 exact hH _ _ K h1
theorem St223_0_0_ok (next : KS) (K : KX) (n0 n1 n2 n3 : Int) : roundK [5, 6, 7, 21] [7] [2, 3] Rn223_0 next (T223_0_0 n0 n1 n2 n3) (S223_0_0 n0 n1 n2 n3) K = St223_0_0 (fun y0 y1 y2 y3 => next (T223_0_0 y0 y1 y2 y3) (S223_0_0 y0 y1 y2 y3)) (X223_0_0 K) (X223_0_1 K) n0 n1 n2 n3 := by kernel_rfl
theorem ind223_0 (K : KX) : ∀ n : Nat, (∀ (n0 n1 n2 n3 : Int), loopN [5, 6, 7, 21] [7] [2, 3] Rn223_0 n (T223_0_0 n0 n1 n2 n3) (S223_0_0 n0 n1 n2 n3) K = L223_0_0 (X223_0_0 K) (X223_0_1 K) n n0 n1 n2 n3)
 | 0 => by intros; rfl
 | n + 1 => by
  have ih := ind223_0 K n
  intro n0 n1 n2 n3
  show roundK _ _ _ Rn223_0 _ _ _ K = _
  rw [St223_0_0_ok]; simp only [ih]; rfl
theorem Ent223_0_ok (hΓ : Sd W0 Γ63) : EntOk Tryz.prog W0 Ent223_0 B223_0 := finE (ex := [7]) (res := [2, 3]) (Λ := Λ223_0) hΓ (nlL (by kernel_rfl)) fun T σ K h => by
 obtain ⟨⟨x0, x1, x2, x3, _⟩, _, rfl, rfl, h1⟩ := wT_f h
 exact (ind223_0 K fuel x0 x1 x2 x3).trans h1
theorem g223 (a0 : Int) (K : RRes -> Bool) : runFn E Γ63 (mkΛ [Ent223_0]) false Tryz.f223 [(xI a0)] K = G223 a0 (fun z0 z1 => K (.tup [(.p (xI z0)), (.p (xB z1))])) := by kernel_rfl
theorem snd223 (hΓ : Sd W0 Γ63) : Sd W0 Γ64 := sound_add hΓ fun l K h => by
 obtain ⟨⟨a0, _⟩, rfl, h1⟩ := wA_f h
 rw [Q223_def] at h1
 exact finF hΓ (mkL (xs := [(Ent223_0, B223_0)]) (by kernel_rfl) (by kernel_rfl) ⟨Ent223_0_ok hΓ, trivial⟩) Tryz.func223 (by kernel_rfl) ((g223 _ K).trans h1)
theorem snd191 (hH : Hand191 W0) (hΓ : Sd W0 Γ64) : Sd W0 Γ65 := sound_add hΓ fun l K h => by
 obtain ⟨⟨⟨a0_0, a0_1, a0_2, _⟩, a1, _⟩, rfl, h1⟩ := wA_f h
 exact hH _ _ _ _ K h1
theorem g160 (a0_0 a0_1 : PL) (a0_2 : ByteArray) (K : RRes -> Bool) : runFn E Γ65 (mkΛ []) false Tryz.f160 [(xA [(xV a0_0), (xV a0_1), (xZ a0_2)])] K = G160 a0_0 a0_1 a0_2 (fun z0 => K (.one (.p (xI z0)))) := by kernel_rfl
theorem snd160 (hΓ : Sd W0 Γ65) : Sd W0 Γ66 := sound_add hΓ fun l K h => by
 obtain ⟨⟨⟨a0_0, a0_1, a0_2, _⟩, _⟩, rfl, h1⟩ := wA_f h
 rw [Q160_def] at h1
 exact finN hΓ Tryz.func160 (by kernel_rfl) ((g160 _ _ _ K).trans h1)
theorem St114_0_0_ok (next : KS) (K : KX) (n0 : Int) (l1 l2 : PL) (s3 : ByteArray) : roundK [1, 4] [] [2] Rn114_0 next (T114_0_0 n0 l1 l2 s3) (S114_0_0 n0 l1 l2 s3) K = St114_0_0 (fun y0 y1 y2 y3 => next (T114_0_0 y0 y1 y2 y3) (S114_0_0 y0 y1 y2 y3)) n0 l1 l2 s3 := by kernel_rfl
theorem ind114_0 (K : KX) : ∀ n : Nat, (∀ (n0 : Int) (l1 l2 : PL) (s3 : ByteArray), loopN [1, 4] [] [2] Rn114_0 n (T114_0_0 n0 l1 l2 s3) (S114_0_0 n0 l1 l2 s3) K = L114_0_0 n n0 l1 l2 s3)
 | 0 => by intros; rfl
 | n + 1 => by
  have ih := ind114_0 K n
  intro n0 l1 l2 s3
  show roundK _ _ _ Rn114_0 _ _ _ K = _
  rw [St114_0_0_ok]; simp only [ih]; rfl
theorem Ent114_0_ok (hΓ : Sd W0 Γ66) : EntOk Tryz.prog W0 Ent114_0 B114_0 := finE (ex := []) (res := [2]) (Λ := Λ114_0) hΓ (nlL (by kernel_rfl)) fun T σ K h => by
 obtain ⟨⟨x0, _⟩, ⟨⟨x1, x2, x3, _⟩, _⟩, rfl, rfl, h1⟩ := wT_f h
 exact (ind114_0 K fuel x0 x1 x2 x3).trans h1
theorem g114 (a0_0 a0_1 : PL) (a0_2 : ByteArray) (K : RRes -> Bool) : runFn E Γ66 (mkΛ [Ent114_0]) false Tryz.f114 [(xA [(xV a0_0), (xV a0_1), (xZ a0_2)])] K = G114 a0_0 a0_1 a0_2 (fun z0 => K (.one (.p (xI z0)))) := by kernel_rfl
theorem snd114 (hΓ : Sd W0 Γ66) : Sd W0 Γ67 := sound_add hΓ fun l K h => by
 obtain ⟨⟨⟨a0_0, a0_1, a0_2, _⟩, _⟩, rfl, h1⟩ := wA_f h
 rw [Q114_def] at h1
 exact finF hΓ (mkL (xs := [(Ent114_0, B114_0)]) (by kernel_rfl) (by kernel_rfl) ⟨Ent114_0_ok hΓ, trivial⟩) Tryz.func114 (by kernel_rfl) ((g114 _ _ _ K).trans h1)
theorem g85 (a0 a1 a2 : PL) (K : RRes -> Bool) : runFn E Γ67 (mkΛ []) false Tryz.f85 [(xV a0), (xV a1), (xV a2)] K = G85 a0 a1 a2 (fun z0 => K (.one (.p (xI z0)))) := by kernel_rfl
theorem snd85 (hΓ : Sd W0 Γ67) : Sd W0 Γ68 := sound_add hΓ fun l K h => by
 obtain ⟨⟨a0, a1, a2, _⟩, rfl, h1⟩ := wA_f h
 rw [Q85_def] at h1
 exact finN hΓ Tryz.func85 (by kernel_rfl) ((g85 _ _ _ K).trans h1)
theorem g50 (a0 a1 a2 : PL) (K : RRes -> Bool) : runFn E Γ68 (mkΛ []) false Tryz.f50 [(xV a0), (xV a1), (xV a2)] K = G50 a0 a1 a2 (fun z0 z1 => K (.tup [(.p (xI z0)), (.p (xI z1))])) := by kernel_rfl
theorem snd50 (hΓ : Sd W0 Γ68) : Sd W0 Γ69 := sound_add hΓ fun l K h => by
 obtain ⟨⟨a0, a1, a2, _⟩, rfl, h1⟩ := wA_f h
 rw [Q50_def] at h1
 exact finN hΓ Tryz.func50 (by kernel_rfl) ((g50 _ _ _ K).trans h1)
end Go.Ev
