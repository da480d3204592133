/- The abstract machine computes what was printed. No conditions -/
import Derived.Test.YthgolelddficaaaGreatDoorXd1
import Derived.KernelRfl
set_option linter.unusedVariables false
set_option linter.unusedSimpArgs false
set_option maxRecDepth 100000
set_option maxHeartbeats 0
namespace Go.Ev
open Go Go.RowKit Go.Proofs
variable {W0 : World}
theorem St58_1_0_ok (next : KS) (K : KX) (l0 l1 : PL) (n2 n3 : Int) (l4 l5 : PL) : roundK [1, 4, 34, 35, 36] [] [2] Rn58_1 next (T58_1_0 l0 l1 n2 n3 l4 l5) (S58_1_0 l0 l1 n2 n3 l4 l5) K = St58_1_0 (fun y0 y1 y2 y3 y4 y5 => next (T58_1_0 y0 y1 y2 y3 y4 y5) (S58_1_0 y0 y1 y2 y3 y4 y5)) (X58_1_0 K) (X58_1_1 K) l0 l1 n2 n3 l4 l5 := by kernel_rfl
theorem ind58_1 (K : KX) : ∀ n : Nat, (∀ (l0 l1 : PL) (n2 n3 : Int) (l4 l5 : PL), loopN [1, 4, 34, 35, 36] [] [2] Rn58_1 n (T58_1_0 l0 l1 n2 n3 l4 l5) (S58_1_0 l0 l1 n2 n3 l4 l5) K = L58_1_0 (X58_1_0 K) (X58_1_1 K) n l0 l1 n2 n3 l4 l5)
 | 0 => by intros; rfl
 | n + 1 => by
  have ih := ind58_1 K n
  intro l0 l1 n2 n3 l4 l5
  show roundK _ _ _ Rn58_1 _ _ _ K = _
  rw [St58_1_0_ok]; simp only [ih]; rfl
theorem Ent58_1_ok (hΓ : Sd W0 Γ69) : EntOk Tryz.prog W0 Ent58_1 B58_1 := finE (ex := []) (res := [2]) (Λ := Λ58_1) hΓ (nlL (by kernel_rfl)) fun T σ K h => by
 obtain ⟨⟨x0, x1, x2, x3, _⟩, ⟨⟨x4, x5, _⟩, _⟩, rfl, rfl, h1⟩ := wT_f h
 exact (ind58_1 K fuel x0 x1 x2 x3 x4 x5).trans h1
theorem g58 (a0_0 a0_1 : PL) (K : RRes -> Bool) : runFn E Γ69 (mkΛ [Ent58_1]) false Tryz.f58 [(xA [(xV a0_0), (xV a0_1)])] K = G58 a0_0 a0_1 (fun z0 => K (.one (.p (xI z0)))) := by kernel_rfl
theorem snd58 (hΓ : Sd W0 Γ69) : Sd W0 Γ70 := sound_add hΓ fun l K h => by
 obtain ⟨⟨⟨a0_0, a0_1, _⟩, _⟩, rfl, h1⟩ := wA_f h
 rw [Q58_def] at h1
 exact finF hΓ (mkL (xs := [(Ent58_1, B58_1)]) (by kernel_rfl) (by kernel_rfl) ⟨Ent58_1_ok hΓ, trivial⟩) Tryz.func58 (by kernel_rfl) ((g58 _ _ K).trans h1)
theorem g124 (a0_0 a0_1 : PL) (K : RRes -> Bool) : runFn E Γ70 (mkΛ []) false Tryz.f124 [(xA [(xV a0_0), (xV a0_1)])] K = G124 a0_0 a0_1 (fun z0 => K (.one (.p (xV z0)))) := by kernel_rfl
theorem snd124 (hΓ : Sd W0 Γ70) : Sd W0 Γ71 := sound_add hΓ fun l K h => by
 obtain ⟨⟨⟨a0_0, a0_1, _⟩, _⟩, rfl, h1⟩ := wA_f h
 rw [Q124_def] at h1
 exact finN hΓ Tryz.func124 (by kernel_rfl) ((g124 _ _ K).trans h1)
theorem g125 (a0 : Int) (K : RRes -> Bool) : runFn E Γ71 (mkΛ []) false Tryz.f125 [(xI a0)] K = G125 a0 (fun z0_0 z0_1 => K (.one (.p (xA [(xZ z0_0), (xZ z0_1)])))) := by kernel_rfl
theorem snd125 (hΓ : Sd W0 Γ71) : Sd W0 Γ72 := sound_add hΓ fun l K h => by
 obtain ⟨⟨a0, _⟩, rfl, h1⟩ := wA_f h
 rw [Q125_def] at h1
 exact finN hΓ Tryz.func125 (by kernel_rfl) ((g125 _ K).trans h1)
theorem g78 (a0_0 a0_1 : ByteArray) (K : RRes -> Bool) : runFn E Γ72 (mkΛ []) false Tryz.f78 [(xA [(xZ a0_0), (xZ a0_1)])] K = G78 a0_0 a0_1 (fun z0 => K (.one (.p (xB z0)))) := by kernel_rfl
theorem snd78 (hΓ : Sd W0 Γ72) : Sd W0 Γ73 := sound_add hΓ fun l K h => by
 obtain ⟨⟨⟨a0_0, a0_1, _⟩, _⟩, rfl, h1⟩ := wA_f h
 rw [Q78_def] at h1
 exact finN hΓ Tryz.func78 (by kernel_rfl) ((g78 _ _ K).trans h1)
theorem St104_78_0_0_ok (next : KS) (K : KX) (l0 : PL) (n1 n2 : Int) : roundK [0, 1, 7, 8] [] [4] Rn104_78_0 next (T104_78_0_0 l0 n1 n2) (S104_78_0_0 l0 n1 n2) K = St104_78_0_0 (fun y0 y1 y2 => next (T104_78_0_0 y0 y1 y2) (S104_78_0_0 y0 y1 y2)) (X104_78_0_0 K) (X104_78_0_1 K) l0 n1 n2 := by kernel_rfl
theorem ind104_78_0 (K : KX) : ∀ n : Nat, (∀ (l0 : PL) (n1 n2 : Int), loopN [0, 1, 7, 8] [] [4] Rn104_78_0 n (T104_78_0_0 l0 n1 n2) (S104_78_0_0 l0 n1 n2) K = L104_78_0_0 (X104_78_0_0 K) (X104_78_0_1 K) n l0 n1 n2)
 | 0 => by intros; rfl
 | n + 1 => by
  have ih := ind104_78_0 K n
  intro l0 n1 n2
  show roundK _ _ _ Rn104_78_0 _ _ _ K = _
  rw [St104_78_0_0_ok]; simp only [ih]; rfl
theorem Ent104_78_0_ok (hΓ : Sd W0 Γ73) : EntOk Tryz.prog W0 Ent104_78_0 B104_78_0 := finE (ex := []) (res := [4]) (Λ := Λ104_78_0) hΓ (nlL (by kernel_rfl)) fun T σ K h => by
 obtain ⟨⟨x0, ⟨_, _⟩, x1, x2, _⟩, _, rfl, rfl, h1⟩ := wT_f h
 exact (ind104_78_0 K fuel x0 x1 x2).trans h1
theorem g104_78 (a0 : PL) (K : RRes -> Bool) : runFn E Γ73 (mkΛ [Ent104_78_0]) false Tryz.f104 [(xV a0), (.clo 78 [] [])] K = G104_78 a0 (fun z0 => K (.one (.p (xI z0)))) := by kernel_rfl
theorem snd104_78 (hΓ : Sd W0 Γ73) : Sd W0 Γ74 := sound_add hΓ fun l K h => by
 rcases wA_or h with ⟨⟨a0, ⟨_, _⟩, _⟩, rfl, h1⟩ | h1
 ·rw [Q104_78_def] at h1
  exact finF hΓ (mkL (xs := [(Ent104_78_0, B104_78_0)]) (by kernel_rfl) (by kernel_rfl) ⟨Ent104_78_0_ok hΓ, trivial⟩) Tryz.func104 (by kernel_rfl) ((g104_78 _ K).trans h1)
 ·exact hΓ false 104 _ K h1
theorem g77_78 (a0 : PL) (K : RRes -> Bool) : runFn E Γ74 (mkΛ []) false Tryz.f77 [(xV a0), (.clo 78 [] [])] K = G77_78 a0 (fun z0 => K (.one (.p (xB z0)))) := by kernel_rfl
theorem snd77_78 (hΓ : Sd W0 Γ74) : Sd W0 Γ75 := sound_add hΓ fun l K h => by
 rcases wA_or h with ⟨⟨a0, ⟨_, _⟩, _⟩, rfl, h1⟩ | h1
 ·rw [Q77_78_def] at h1
  exact finN hΓ Tryz.func77 (by kernel_rfl) ((g77_78 _ K).trans h1)
 ·exact hΓ false 77 _ K h1
theorem g109 (a0_0 a0_1 : ByteArray) (K : RRes -> Bool) : runFn E Γ75 (mkΛ []) false Tryz.f109 [(xA [(xZ a0_0), (xZ a0_1)])] K = G109 a0_0 a0_1 (fun z0 => K (.one (.p (xB z0)))) := by kernel_rfl
theorem snd109 (hΓ : Sd W0 Γ75) : Sd W0 Γ76 := sound_add hΓ fun l K h => by
 obtain ⟨⟨⟨a0_0, a0_1, _⟩, _⟩, rfl, h1⟩ := wA_f h
 rw [Q109_def] at h1
 exact finN hΓ Tryz.func109 (by kernel_rfl) ((g109 _ _ K).trans h1)
theorem St156_109_0_0_ok (next : KS) (K : KX) (l0 : PL) (n1 n2 : Int) : roundK [0, 1, 7, 8] [] [4] Rn156_109_0 next (T156_109_0_0 l0 n1 n2) (S156_109_0_0 l0 n1 n2) K = St156_109_0_0 (fun y0 y1 y2 => next (T156_109_0_0 y0 y1 y2) (S156_109_0_0 y0 y1 y2)) (X156_109_0_0 K) (X156_109_0_1 K) l0 n1 n2 := by kernel_rfl
theorem ind156_109_0 (K : KX) : ∀ n : Nat, (∀ (l0 : PL) (n1 n2 : Int), loopN [0, 1, 7, 8] [] [4] Rn156_109_0 n (T156_109_0_0 l0 n1 n2) (S156_109_0_0 l0 n1 n2) K = L156_109_0_0 (X156_109_0_0 K) (X156_109_0_1 K) n l0 n1 n2)
 | 0 => by intros; rfl
 | n + 1 => by
  have ih := ind156_109_0 K n
  intro l0 n1 n2
  show roundK _ _ _ Rn156_109_0 _ _ _ K = _
  rw [St156_109_0_0_ok]; simp only [ih]; rfl
theorem Ent156_109_0_ok (hΓ : Sd W0 Γ76) : EntOk Tryz.prog W0 Ent156_109_0 B156_109_0 := finE (ex := []) (res := [4]) (Λ := Λ156_109_0) hΓ (nlL (by kernel_rfl)) fun T σ K h => by
 obtain ⟨⟨x0, ⟨_, _⟩, x1, x2, _⟩, _, rfl, rfl, h1⟩ := wT_f h
 exact (ind156_109_0 K fuel x0 x1 x2).trans h1
theorem g156_109 (a0 : PL) (K : RRes -> Bool) : runFn E Γ76 (mkΛ [Ent156_109_0]) false Tryz.f156 [(xV a0), (.clo 109 [] [])] K = G156_109 a0 (fun z0 => K (.one (.p (xI z0)))) := by kernel_rfl
theorem snd156_109 (hΓ : Sd W0 Γ76) : Sd W0 Γ77 := sound_add hΓ fun l K h => by
 rcases wA_or h with ⟨⟨a0, ⟨_, _⟩, _⟩, rfl, h1⟩ | h1
 ·rw [Q156_109_def] at h1
  exact finF hΓ (mkL (xs := [(Ent156_109_0, B156_109_0)]) (by kernel_rfl) (by kernel_rfl) ⟨Ent156_109_0_ok hΓ, trivial⟩) Tryz.func156 (by kernel_rfl) ((g156_109 _ K).trans h1)
 ·exact hΓ false 156 _ K h1
theorem g108_109 (a0 : PL) (K : RRes -> Bool) : runFn E Γ77 (mkΛ []) false Tryz.f108 [(xV a0), (.clo 109 [] [])] K = G108_109 a0 (fun z0 => K (.one (.p (xB z0)))) := by kernel_rfl
theorem snd108_109 (hΓ : Sd W0 Γ77) : Sd W0 Γ78 := sound_add hΓ fun l K h => by
 rcases wA_or h with ⟨⟨a0, ⟨_, _⟩, _⟩, rfl, h1⟩ | h1
 ·rw [Q108_109_def] at h1
  exact finN hΓ Tryz.func108 (by kernel_rfl) ((g108_109 _ K).trans h1)
 ·exact hΓ false 108 _ K h1
theorem g80 (a0 : PL) (K : RRes -> Bool) : runFn E Γ78 (mkΛ []) false Tryz.f80 [(xV a0)] K = G80 a0 (fun z0 z1 => K (.tup [(.p (xV z0)), (.p (xI z1))])) := by kernel_rfl
theorem snd80 (hΓ : Sd W0 Γ78) : Sd W0 Γ79 := sound_add hΓ fun l K h => by
 obtain ⟨⟨a0, _⟩, rfl, h1⟩ := wA_f h
 rw [Q80_def] at h1
 exact finN hΓ Tryz.func80 (by kernel_rfl) ((g80 _ K).trans h1)
theorem g44 (a0 a1 a2 : PL) (K : RRes -> Bool) : runFn E Γ79 (mkΛ []) false Tryz.f44 [(xV a0), (xV a1), (xV a2)] K = G44 a0 a1 a2 (fun z0 z1 => K (.tup [(.p (xV z0)), (.p (xI z1))])) := by kernel_rfl
theorem snd44 (hΓ : Sd W0 Γ79) : Sd W0 Γ80 := sound_add hΓ fun l K h => by
 obtain ⟨⟨a0, a1, a2, _⟩, rfl, h1⟩ := wA_f h
 rw [Q44_def] at h1
 exact finN hΓ Tryz.func44 (by kernel_rfl) ((g44 _ _ _ K).trans h1)
theorem g123 (a0 a1 : PL) (a2_0 a2_1 : ByteArray) (K : RRes -> Bool) : runFn E Γ80 (mkΛ []) false Tryz.f123 [(xV a0), (xV a1), (xA [(xZ a2_0), (xZ a2_1)])] K = G123 a0 a1 a2_0 a2_1 (fun z0 z1 => K (.tup [(.p (xV z0)), (.p (xI z1))])) := by kernel_rfl
theorem snd123 (hΓ : Sd W0 Γ80) : Sd W0 Γ81 := sound_add hΓ fun l K h => by
 obtain ⟨⟨a0, a1, ⟨a2_0, a2_1, _⟩, _⟩, rfl, h1⟩ := wA_f h
 rw [Q123_def] at h1
 exact finN hΓ Tryz.func123 (by kernel_rfl) ((g123 _ _ _ _ K).trans h1)
theorem g126 (a0 a1 a2 : PL) (K : RRes -> Bool) : runFn E Γ81 (mkΛ []) false Tryz.f126 [(xV a0), (xV a1), (xV a2)] K = G126 a0 a1 a2 (fun z0 z1 => K (.tup [(.p (xV z0)), (.p (xI z1))])) := by kernel_rfl
theorem snd126 (hΓ : Sd W0 Γ81) : Sd W0 Γ82 := sound_add hΓ fun l K h => by
 obtain ⟨⟨a0, a1, a2, _⟩, rfl, h1⟩ := wA_f h
 rw [Q126_def] at h1
 exact finN hΓ Tryz.func126 (by kernel_rfl) ((g126 _ _ _ K).trans h1)
theorem g92 (a0_0 a0_1 : PL) (a1 : Int) (K : RRes -> Bool) : runFn E Γ82 (mkΛ []) false Tryz.f92 [(xA [(xV a0_0), (xV a0_1)]), (xI a1)] K = G92 a0_0 a0_1 a1 (fun z0 z1 => K (.tup [(.p (xV z0)), (.p (xI z1))])) := by kernel_rfl
theorem snd92 (hΓ : Sd W0 Γ82) : Sd W0 Γ83 := sound_add hΓ fun l K h => by
 obtain ⟨⟨⟨a0_0, a0_1, _⟩, a1, _⟩, rfl, h1⟩ := wA_f h
 rw [Q92_def] at h1
 exact finN hΓ Tryz.func92 (by kernel_rfl) ((g92 _ _ _ K).trans h1)
theorem g87 (a0_0 a0_1 : PL) (a1 : Int) (K : RRes -> Bool) : runFn E Γ83 (mkΛ []) false Tryz.f87 [(xA [(xV a0_0), (xV a0_1)]), (xI a1)] K = G87 a0_0 a0_1 a1 (fun z0 z1 => K (.tup [(.p (xV z0)), (.p (xI z1))])) := by kernel_rfl
theorem snd87 (hΓ : Sd W0 Γ83) : Sd W0 Γ84 := sound_add hΓ fun l K h => by
 obtain ⟨⟨⟨a0_0, a0_1, _⟩, a1, _⟩, rfl, h1⟩ := wA_f h
 rw [Q87_def] at h1
 exact finN hΓ Tryz.func87 (by kernel_rfl) ((g87 _ _ _ K).trans h1)
theorem St54_0_0_ok (next : KS) (K : KX) (n0 n1 : Int) (l2 l3 l4 l5 : PL) : roundK [1, 5, 21, 22] [5] [2, 3] Rn54_0 next (T54_0_0 n0 n1 l2 l3 l4 l5) (S54_0_0 n0 n1 l2 l3 l4 l5) K = St54_0_0 (fun y0 y1 y2 y3 y4 y5 => next (T54_0_0 y0 y1 y2 y3 y4 y5) (S54_0_0 y0 y1 y2 y3 y4 y5)) (fun y0 y1 y2 y3 y4 y5 y6 => next (T54_0_1 y0 y1 y2 y3 y4 y5 y6) (S54_0_1 y0 y1 y2 y3 y4 y5 y6)) (X54_0_0 K) (X54_0_1 K) (X54_0_2 K) n0 n1 l2 l3 l4 l5 := by kernel_rfl
theorem St54_0_1_ok (next : KS) (K : KX) (n0 n1 : Int) (l2 l3 l4 l5 l6 : PL) : roundK [1, 5, 21, 22] [5] [2, 3] Rn54_0 next (T54_0_1 n0 n1 l2 l3 l4 l5 l6) (S54_0_1 n0 n1 l2 l3 l4 l5 l6) K = St54_0_1 (fun y0 y1 y2 y3 y4 y5 => next (T54_0_0 y0 y1 y2 y3 y4 y5) (S54_0_0 y0 y1 y2 y3 y4 y5)) (fun y0 y1 y2 y3 y4 y5 y6 => next (T54_0_1 y0 y1 y2 y3 y4 y5 y6) (S54_0_1 y0 y1 y2 y3 y4 y5 y6)) (X54_0_0 K) (X54_0_1 K) (X54_0_2 K) n0 n1 l2 l3 l4 l5 l6 := by kernel_rfl
theorem ind54_0 (K : KX) : ∀ n : Nat, (∀ (n0 n1 : Int) (l2 l3 l4 l5 : PL), loopN [1, 5, 21, 22] [5] [2, 3] Rn54_0 n (T54_0_0 n0 n1 l2 l3 l4 l5) (S54_0_0 n0 n1 l2 l3 l4 l5) K = L54_0_0 (X54_0_0 K) (X54_0_1 K) (X54_0_2 K) n n0 n1 l2 l3 l4 l5) /\ (∀ (n0 n1 : Int) (l2 l3 l4 l5 l6 : PL), loopN [1, 5, 21, 22] [5] [2, 3] Rn54_0 n (T54_0_1 n0 n1 l2 l3 l4 l5 l6) (S54_0_1 n0 n1 l2 l3 l4 l5 l6) K = L54_0_1 (X54_0_0 K) (X54_0_1 K) (X54_0_2 K) n n0 n1 l2 l3 l4 l5 l6)
 | 0 => ⟨by intros; rfl, by intros; rfl⟩
 | n + 1 => by
  have ih := ind54_0 K n
  refine ⟨?_, ?_⟩
  ·intro n0 n1 l2 l3 l4 l5
   show roundK _ _ _ Rn54_0 _ _ _ K = _
   rw [St54_0_0_ok]; simp only [ih.1, ih.2]; rfl
  ·intro n0 n1 l2 l3 l4 l5 l6
   show roundK _ _ _ Rn54_0 _ _ _ K = _
   rw [St54_0_1_ok]; simp only [ih.1, ih.2]; rfl
theorem Ent54_0_ok (hΓ : Sd W0 Γ84) : EntOk Tryz.prog W0 Ent54_0 B54_0 := finE (ex := [5]) (res := [2, 3]) (Λ := Λ54_0) hΓ (nlL (by kernel_rfl)) fun T σ K h => by
 rcases wT_or h with ⟨⟨x0, x1, _⟩, ⟨⟨x2, x3, _⟩, ⟨x4, x5, _, _⟩, _⟩, rfl, rfl, h1⟩ | h1
 ·exact ((ind54_0 K fuel).1 x0 x1 x2 x3 x4 x5).trans h1
 obtain ⟨⟨x0, x1, _⟩, ⟨⟨x2, x3, _⟩, ⟨x4, x5, _⟩, x6, _⟩, rfl, rfl, h2⟩ := wT_f h1
 exact ((ind54_0 K fuel).2 x0 x1 x2 x3 x4 x5 x6).trans h2
theorem g54 (a0_0 a0_1 : PL) (K : RRes -> Bool) : runFn E Γ84 (mkΛ [Ent54_0]) false Tryz.f54 [(xA [(xV a0_0), (xV a0_1)])] K = G54 a0_0 a0_1 (fun z1 => K (.tup [(.p (.lit (.pointer Option.none))), (.p (xI z1))])) (fun z0_0 z0_1 z0_2 z1 => K (.tup [(.p (.adr [(xA [(xV z0_0), (xV z0_1), (xV z0_2)])] 0 0)), (.p (xI z1))])) := by kernel_rfl
theorem snd54 (hΓ : Sd W0 Γ84) : Sd W0 Γ85 := sound_add hΓ fun l K h => by
 obtain ⟨⟨⟨a0_0, a0_1, _⟩, _⟩, rfl, h1⟩ := wA_f h
 rw [Q54_def] at h1
 exact finF hΓ (mkL (xs := [(Ent54_0, B54_0)]) (by kernel_rfl) (by kernel_rfl) ⟨Ent54_0_ok hΓ, trivial⟩) Tryz.func54 (by kernel_rfl) ((g54 _ _ K).trans h1)
theorem g84 (a0_0 a0_1 a0_2 a1 a2 : PL) (K : RRes -> Bool) : runFn E Γ85 (mkΛ []) false Tryz.f84 [(.adr [(xA [(xV a0_0), (xV a0_1), (xV a0_2)])] 0 0), (xV a1), (xV a2)] K = G84 a0_0 a0_1 a0_2 a1 a2 (fun z0 => K (.one (.p (xI z0)))) := by kernel_rfl
theorem snd84 (hΓ : Sd W0 Γ85) : Sd W0 Γ86 := sound_add hΓ fun l K h => by
 obtain ⟨⟨⟨a0_0, a0_1, a0_2, _⟩, a1, a2, _⟩, rfl, h1⟩ := wA_f h
 rw [Q84_def] at h1
 exact finN hΓ Tryz.func84 (by kernel_rfl) ((g84 _ _ _ _ _ K).trans h1)
theorem St131_84_2_0_ok (next : KS) (K : KX) (n0 n1 : Int) (l2 l3 l4 : PL) (n5 n6 : Int) (l7 : PL) : roundK [0, 1, 2, 3, 8, 9] [0, 1, 2, 3, 8] [0] Rn131_84_2 next (T131_84_2_0 n0 n1 l2 l3 l4 n5 n6 l7) (S131_84_2_0 n0 n1 l2 l3 l4 n5 n6 l7) K = St131_84_2_0 (fun y0 y1 y2 y3 y4 y5 y6 y7 => next (T131_84_2_0 y0 y1 y2 y3 y4 y5 y6 y7) (S131_84_2_0 y0 y1 y2 y3 y4 y5 y6 y7)) (X131_84_2_0 K) n0 n1 l2 l3 l4 n5 n6 l7 := by kernel_rfl
theorem ind131_84_2 (K : KX) : ∀ n : Nat, (∀ (n0 n1 : Int) (l2 l3 l4 : PL) (n5 n6 : Int) (l7 : PL), loopN [0, 1, 2, 3, 8, 9] [0, 1, 2, 3, 8] [0] Rn131_84_2 n (T131_84_2_0 n0 n1 l2 l3 l4 n5 n6 l7) (S131_84_2_0 n0 n1 l2 l3 l4 n5 n6 l7) K = L131_84_2_0 (X131_84_2_0 K) n n0 n1 l2 l3 l4 n5 n6 l7)
 | 0 => by intros; rfl
 | n + 1 => by
  have ih := ind131_84_2 K n
  intro n0 n1 l2 l3 l4 n5 n6 l7
  show roundK _ _ _ Rn131_84_2 _ _ _ K = _
  rw [St131_84_2_0_ok]; simp only [ih]; rfl
theorem Ent131_84_2_ok (hΓ : Sd W0 Γ86) : EntOk Tryz.prog W0 Ent131_84_2 B131_84_2 := finE (ex := [0, 1, 2, 3, 8]) (res := [0]) (Λ := Λ131_84_2) hΓ (nlL (by kernel_rfl)) fun T σ K h => by
 obtain ⟨⟨x0, x1, ⟨⟨⟨x2, x3, x4, _⟩, _⟩, _⟩, x5, x6, _⟩, ⟨x7, _⟩, rfl, rfl, h1⟩ := wT_f h
 exact (ind131_84_2 K fuel x0 x1 x2 x3 x4 x5 x6 x7).trans h1
theorem St131_84_0_0_ok (next : KS) (K : KX) (n0 n1 : Int) (l2 l3 l4 : PL) (n5 : Int) (l6 : PL) : roundK [0, 1, 2, 3, 8] [0] [0] Rn131_84_0 next (T131_84_0_0 n0 n1 l2 l3 l4 n5 l6) (S131_84_0_0 n0 n1 l2 l3 l4 n5 l6) K = St131_84_0_0 (fun y0 y1 y2 y3 y4 y5 y6 => next (T131_84_0_0 y0 y1 y2 y3 y4 y5 y6) (S131_84_0_0 y0 y1 y2 y3 y4 y5 y6)) (X131_84_0_0 K) n0 n1 l2 l3 l4 n5 l6 := by kernel_rfl
theorem ind131_84_0 (K : KX) : ∀ n : Nat, (∀ (n0 n1 : Int) (l2 l3 l4 : PL) (n5 : Int) (l6 : PL), loopN [0, 1, 2, 3, 8] [0] [0] Rn131_84_0 n (T131_84_0_0 n0 n1 l2 l3 l4 n5 l6) (S131_84_0_0 n0 n1 l2 l3 l4 n5 l6) K = L131_84_0_0 (X131_84_0_0 K) n n0 n1 l2 l3 l4 n5 l6)
 | 0 => by intros; rfl
 | n + 1 => by
  have ih := ind131_84_0 K n
  intro n0 n1 l2 l3 l4 n5 l6
  show roundK _ _ _ Rn131_84_0 _ _ _ K = _
  rw [St131_84_0_0_ok]; simp only [ih]; rfl
theorem Ent131_84_0_ok (hΓ : Sd W0 Γ86) : EntOk Tryz.prog W0 Ent131_84_0 B131_84_0 := finE (ex := [0]) (res := [0]) (Λ := Λ131_84_0) hΓ (mkL (xs := [(Ent131_84_2, B131_84_2)]) (by kernel_rfl) (by kernel_rfl) ⟨Ent131_84_2_ok hΓ, trivial⟩) fun T σ K h => by
 obtain ⟨⟨x0, x1, ⟨⟨⟨x2, x3, x4, _⟩, _⟩, _⟩, x5, _⟩, ⟨x6, _⟩, rfl, rfl, h1⟩ := wT_f h
 exact (ind131_84_0 K fuel x0 x1 x2 x3 x4 x5 x6).trans h1
theorem g131_84 (a0 : PL) (a1 a2 : Int) (a3_0 a3_1 a3_2 : PL) (K : RRes -> Bool) : runFnW E Γ86 (mkΛ [Ent131_84_0]) Tryz.f131 41 1 a0 [(xI a1), (xI a2), (.clo 84 [(.adr [(xA [(xV a3_0), (xV a3_1), (xV a3_2)])] 0 0)] [])] K = G131_84 a0 a1 a2 a3_0 a3_1 a3_2 (fun z => K (.one (.p (.sl z)))) := by kernel_rfl
theorem snd131_84 (hΓ : Sd W0 Γ86) : Sd W0 Γ87 := sound_addW hΓ fun l K h => by
 rcases wA_or h with ⟨⟨a0, a1, a2, ⟨⟨⟨a3_0, a3_1, a3_2, _⟩, _⟩, _⟩, _⟩, rfl, h1⟩ | h1
 ·rw [Q131_84_def] at h1
  exact finW hΓ (mkL (xs := [(Ent131_84_0, B131_84_0)]) (by kernel_rfl) (by kernel_rfl) ⟨Ent131_84_0_ok hΓ, trivial⟩) Tryz.func131 (by kernel_rfl) (by kernel_rfl) (by kernel_rfl) ((g131_84 _ _ _ _ _ _ K).trans h1)
 ·exact hΓ true 131 _ K h1
theorem St98_84_0_0_ok (next : KS) (K : KX) (n0 n1 n2 : Int) (l3 l4 l5 : PL) (b6 b7 : Bool) (l8 : PL) : roundK [0, 1, 2, 3, 4, 10, 11] [] [0] Rn98_84_0 next (T98_84_0_0 n0 n1 n2 l3 l4 l5 b6 b7 l8) (S98_84_0_0 n0 n1 n2 l3 l4 l5 b6 b7 l8) K = St98_84_0_0 (fun y0 y1 y2 y3 y4 y5 y6 y7 y8 => next (T98_84_0_0 y0 y1 y2 y3 y4 y5 y6 y7 y8) (S98_84_0_0 y0 y1 y2 y3 y4 y5 y6 y7 y8)) (X98_84_0_0 K) n0 n1 n2 l3 l4 l5 b6 b7 l8 := by kernel_rfl
theorem ind98_84_0 (K : KX) : ∀ n : Nat, (∀ (n0 n1 n2 : Int) (l3 l4 l5 : PL) (b6 b7 : Bool) (l8 : PL), loopN [0, 1, 2, 3, 4, 10, 11] [] [0] Rn98_84_0 n (T98_84_0_0 n0 n1 n2 l3 l4 l5 b6 b7 l8) (S98_84_0_0 n0 n1 n2 l3 l4 l5 b6 b7 l8) K = L98_84_0_0 (X98_84_0_0 K) n n0 n1 n2 l3 l4 l5 b6 b7 l8)
 | 0 => by intros; rfl
 | n + 1 => by
  have ih := ind98_84_0 K n
  intro n0 n1 n2 l3 l4 l5 b6 b7 l8
  show roundK _ _ _ Rn98_84_0 _ _ _ K = _
  rw [St98_84_0_0_ok]; simp only [ih]; rfl
theorem Ent98_84_0_ok (hΓ : Sd W0 Γ87) : EntOk Tryz.prog W0 Ent98_84_0 B98_84_0 := finE (ex := []) (res := [0]) (Λ := Λ98_84_0) hΓ (nlL (by kernel_rfl)) fun T σ K h => by
 obtain ⟨⟨x0, x1, x2, ⟨⟨⟨x3, x4, x5, _⟩, _⟩, _⟩, x6, x7, _⟩, ⟨x8, _⟩, rfl, rfl, h1⟩ := wT_f h
 exact (ind98_84_0 K fuel x0 x1 x2 x3 x4 x5 x6 x7 x8).trans h1
theorem g98_84 (a0 : PL) (a1 a2 a3 : Int) (a4_0 a4_1 a4_2 : PL) (K : RRes -> Bool) : runFnW E Γ87 (mkΛ [Ent98_84_0]) Tryz.f98 41 1 a0 [(xI a1), (xI a2), (xI a3), (.clo 84 [(.adr [(xA [(xV a4_0), (xV a4_1), (xV a4_2)])] 0 0)] [])] K = G98_84 a0 a1 a2 a3 a4_0 a4_1 a4_2 (fun z => K (.one (.p (.sl z)))) := by kernel_rfl
theorem snd98_84 (hΓ : Sd W0 Γ87) : Sd W0 Γ88 := sound_addW hΓ fun l K h => by
 rcases wA_or h with ⟨⟨a0, a1, a2, a3, ⟨⟨⟨a4_0, a4_1, a4_2, _⟩, _⟩, _⟩, _⟩, rfl, h1⟩ | h1
 ·rw [Q98_84_def] at h1
  exact finW hΓ (mkL (xs := [(Ent98_84_0, B98_84_0)]) (by kernel_rfl) (by kernel_rfl) ⟨Ent98_84_0_ok hΓ, trivial⟩) Tryz.func98 (by kernel_rfl) (by kernel_rfl) (by kernel_rfl) ((g98_84 _ _ _ _ _ _ _ K).trans h1)
 ·exact hΓ true 98 _ K h1
theorem g70_84 (a0 a1_0 a1_1 a1_2 : PL) (K : RRes -> Bool) : runFnW E Γ88 (mkΛ []) Tryz.f70 41 1 a0 [(.clo 84 [(.adr [(xA [(xV a1_0), (xV a1_1), (xV a1_2)])] 0 0)] [])] K = G70_84 a0 a1_0 a1_1 a1_2 (fun z => K (.one (.p (.sl z)))) := by kernel_rfl
theorem snd70_84 (hΓ : Sd W0 Γ88) : Sd W0 Γ89 := sound_addW hΓ fun l K h => by
 rcases wA_or h with ⟨⟨a0, ⟨⟨⟨a1_0, a1_1, a1_2, _⟩, _⟩, _⟩, _⟩, rfl, h1⟩ | h1
 ·rw [Q70_84_def] at h1
  exact finW hΓ (nlL (by kernel_rfl)) Tryz.func70 (by kernel_rfl) (by kernel_rfl) (by kernel_rfl) ((g70_84 _ _ _ _ K).trans h1)
 ·exact hΓ true 70 _ K h1
theorem g16 (a0 a1 a2 : PL) (K : RRes -> Bool) : runFn E Γ89 (mkΛ []) false Tryz.f16 [(xV a0), (xV a1), (xV a2)] K = G16 a0 a1 a2 (fun z0 z1 => K (.tup [(.p (xV z0)), (.p (xI z1))])) := by kernel_rfl
theorem snd16 (hΓ : Sd W0 Γ89) : Sd W0 Γ90 := sound_add hΓ fun l K h => by
 obtain ⟨⟨a0, a1, a2, _⟩, rfl, h1⟩ := wA_f h
 rw [Q16_def] at h1
 exact finN hΓ Tryz.func16 (by kernel_rfl) ((g16 _ _ _ K).trans h1)
theorem St55_0_0_ok (next : KS) (K : KX) (l0 l1 l2 : PL) (n3 n4 n5 : Int) : roundK [0, 1, 6, 15, 16] [6] [4, 5] Rn55_0 next (T55_0_0 l0 l1 l2 n3 n4 n5) (S55_0_0 l0 l1 l2 n3 n4 n5) K = St55_0_0 (fun y0 y1 y2 y3 y4 y5 => next (T55_0_0 y0 y1 y2 y3 y4 y5) (S55_0_0 y0 y1 y2 y3 y4 y5)) (fun y0 y1 y2 y3 y4 y5 y6 => next (T55_0_1 y0 y1 y2 y3 y4 y5 y6) (S55_0_1 y0 y1 y2 y3 y4 y5 y6)) (X55_0_0 K) (X55_0_1 K) (X55_0_2 K) l0 l1 l2 n3 n4 n5 := by kernel_rfl
theorem St55_0_1_ok (next : KS) (K : KX) (l0 l1 l2 : PL) (n3 n4 n5 : Int) (l6 : PL) : roundK [0, 1, 6, 15, 16] [6] [4, 5] Rn55_0 next (T55_0_1 l0 l1 l2 n3 n4 n5 l6) (S55_0_1 l0 l1 l2 n3 n4 n5 l6) K = St55_0_1 (fun y0 y1 y2 y3 y4 y5 => next (T55_0_0 y0 y1 y2 y3 y4 y5) (S55_0_0 y0 y1 y2 y3 y4 y5)) (fun y0 y1 y2 y3 y4 y5 y6 => next (T55_0_1 y0 y1 y2 y3 y4 y5 y6) (S55_0_1 y0 y1 y2 y3 y4 y5 y6)) (X55_0_0 K) (X55_0_1 K) (X55_0_2 K) l0 l1 l2 n3 n4 n5 l6 := by kernel_rfl
theorem ind55_0 (K : KX) : ∀ n : Nat, (∀ (l0 l1 l2 : PL) (n3 n4 n5 : Int), loopN [0, 1, 6, 15, 16] [6] [4, 5] Rn55_0 n (T55_0_0 l0 l1 l2 n3 n4 n5) (S55_0_0 l0 l1 l2 n3 n4 n5) K = L55_0_0 (X55_0_0 K) (X55_0_1 K) (X55_0_2 K) n l0 l1 l2 n3 n4 n5) /\ (∀ (l0 l1 l2 : PL) (n3 n4 n5 : Int) (l6 : PL), loopN [0, 1, 6, 15, 16] [6] [4, 5] Rn55_0 n (T55_0_1 l0 l1 l2 n3 n4 n5 l6) (S55_0_1 l0 l1 l2 n3 n4 n5 l6) K = L55_0_1 (X55_0_0 K) (X55_0_1 K) (X55_0_2 K) n l0 l1 l2 n3 n4 n5 l6)
 | 0 => ⟨by intros; rfl, by intros; rfl⟩
 | n + 1 => by
  have ih := ind55_0 K n
  refine ⟨?_, ?_⟩
  ·intro l0 l1 l2 n3 n4 n5
   show roundK _ _ _ Rn55_0 _ _ _ K = _
   rw [St55_0_0_ok]; simp only [ih.1, ih.2]; rfl
  ·intro l0 l1 l2 n3 n4 n5 l6
   show roundK _ _ _ Rn55_0 _ _ _ K = _
   rw [St55_0_1_ok]; simp only [ih.1, ih.2]; rfl
theorem Ent55_0_ok (hΓ : Sd W0 Γ90) : EntOk Tryz.prog W0 Ent55_0 B55_0 := finE (ex := [6]) (res := [4, 5]) (Λ := Λ55_0) hΓ (nlL (by kernel_rfl)) fun T σ K h => by
 rcases wT_or h with ⟨⟨⟨x0, x1, x2, _⟩, x3, _, x4, x5, _⟩, _, rfl, rfl, h1⟩ | h1
 ·exact ((ind55_0 K fuel).1 x0 x1 x2 x3 x4 x5).trans h1
 obtain ⟨⟨⟨x0, x1, x2, _⟩, x3, x4, x5, _⟩, ⟨x6, _⟩, rfl, rfl, h2⟩ := wT_f h1
 exact ((ind55_0 K fuel).2 x0 x1 x2 x3 x4 x5 x6).trans h2
theorem g55 (a0_0 a0_1 a0_2 : PL) (a1 : Int) (K : RRes -> Bool) : runFn E Γ90 (mkΛ [Ent55_0]) false Tryz.f55 [(.adr [(xA [(xV a0_0), (xV a0_1), (xV a0_2)])] 0 0), (xI a1)] K = G55 a0_0 a0_1 a0_2 a1 (fun z0 z1 => K (.tup [(.p (xV z0)), (.p (xI z1))])) := by kernel_rfl
theorem snd55 (hΓ : Sd W0 Γ90) : Sd W0 Γ91 := sound_add hΓ fun l K h => by
 obtain ⟨⟨⟨a0_0, a0_1, a0_2, _⟩, a1, _⟩, rfl, h1⟩ := wA_f h
 rw [Q55_def] at h1
 exact finF hΓ (mkL (xs := [(Ent55_0, B55_0)]) (by kernel_rfl) (by kernel_rfl) ⟨Ent55_0_ok hΓ, trivial⟩) Tryz.func55 (by kernel_rfl) ((g55 _ _ _ _ K).trans h1)
theorem g115 (a0_0 a0_1 : ByteArray) (K : RRes -> Bool) : runFn E Γ91 (mkΛ []) false Tryz.f115 [(xA [(xZ a0_0), (xZ a0_1)])] K = G115 a0_0 a0_1 (fun z0 => K (.one (.p (xZ z0)))) := by kernel_rfl
theorem snd115 (hΓ : Sd W0 Γ91) : Sd W0 Γ92 := sound_add hΓ fun l K h => by
 obtain ⟨⟨⟨a0_0, a0_1, _⟩, _⟩, rfl, h1⟩ := wA_f h
 rw [Q115_def] at h1
 exact finN hΓ Tryz.func115 (by kernel_rfl) ((g115 _ _ K).trans h1)
theorem snd116 (hH : Hand116 W0) (hΓ : Sd W0 Γ92) : Sd W0 Γ93 := sound_add hΓ fun l K h => by
 obtain ⟨⟨a0, a1, _⟩, rfl, h1⟩ := wA_f h
 exact hH _ _ K h1
theorem St86_0_0_ok (next : KS) (K : KX) (l0 l1 : PL) (n2 n3 : Int) : roundK [0, 7, 17, 18, 19] [7] [4, 5] Rn86_0 next (T86_0_0 l0 l1 n2 n3) (S86_0_0 l0 l1 n2 n3) K = St86_0_0 (fun y0 y1 y2 y3 => next (T86_0_0 y0 y1 y2 y3) (S86_0_0 y0 y1 y2 y3)) (fun y0 y1 y2 y3 y4 => next (T86_0_1 y0 y1 y2 y3 y4) (S86_0_1 y0 y1 y2 y3 y4)) (X86_0_0 K) (X86_0_1 K) l0 l1 n2 n3 := by kernel_rfl
theorem St86_0_1_ok (next : KS) (K : KX) (l0 l1 : PL) (n2 n3 : Int) (l4 : PL) : roundK [0, 7, 17, 18, 19] [7] [4, 5] Rn86_0 next (T86_0_1 l0 l1 n2 n3 l4) (S86_0_1 l0 l1 n2 n3 l4) K = St86_0_1 (fun y0 y1 y2 y3 => next (T86_0_0 y0 y1 y2 y3) (S86_0_0 y0 y1 y2 y3)) (fun y0 y1 y2 y3 y4 => next (T86_0_1 y0 y1 y2 y3 y4) (S86_0_1 y0 y1 y2 y3 y4)) (X86_0_0 K) (X86_0_1 K) l0 l1 n2 n3 l4 := by kernel_rfl
theorem ind86_0 (K : KX) : ∀ n : Nat, (∀ (l0 l1 : PL) (n2 n3 : Int), loopN [0, 7, 17, 18, 19] [7] [4, 5] Rn86_0 n (T86_0_0 l0 l1 n2 n3) (S86_0_0 l0 l1 n2 n3) K = L86_0_0 (X86_0_0 K) (X86_0_1 K) n l0 l1 n2 n3) /\ (∀ (l0 l1 : PL) (n2 n3 : Int) (l4 : PL), loopN [0, 7, 17, 18, 19] [7] [4, 5] Rn86_0 n (T86_0_1 l0 l1 n2 n3 l4) (S86_0_1 l0 l1 n2 n3 l4) K = L86_0_1 (X86_0_0 K) (X86_0_1 K) n l0 l1 n2 n3 l4)
 | 0 => ⟨by intros; rfl, by intros; rfl⟩
 | n + 1 => by
  have ih := ind86_0 K n
  refine ⟨?_, ?_⟩
  ·intro l0 l1 n2 n3
   show roundK _ _ _ Rn86_0 _ _ _ K = _
   rw [St86_0_0_ok]; simp only [ih.1, ih.2]; rfl
  ·intro l0 l1 n2 n3 l4
   show roundK _ _ _ Rn86_0 _ _ _ K = _
   rw [St86_0_1_ok]; simp only [ih.1, ih.2]; rfl
theorem Ent86_0_ok (hΓ : Sd W0 Γ93) : EntOk Tryz.prog W0 Ent86_0 B86_0 := finE (ex := [7]) (res := [4, 5]) (Λ := Λ86_0) hΓ (nlL (by kernel_rfl)) fun T σ K h => by
 rcases wT_or h with ⟨⟨x0, _, x1, x2, x3, _⟩, _, rfl, rfl, h1⟩ | h1
 ·exact ((ind86_0 K fuel).1 x0 x1 x2 x3).trans h1
 obtain ⟨⟨x0, x1, x2, x3, _⟩, ⟨x4, _⟩, rfl, rfl, h2⟩ := wT_f h1
 exact ((ind86_0 K fuel).2 x0 x1 x2 x3 x4).trans h2
theorem g86 (a0 a1 : PL) (K : RRes -> Bool) : runFn E Γ93 (mkΛ [Ent86_0]) false Tryz.f86 [(xV a0), (xV a1)] K = G86 a0 a1 (fun z0 z1 => K (.tup [(.p (xZ z0)), (.p (xI z1))])) := by kernel_rfl
theorem snd86 (hΓ : Sd W0 Γ93) : Sd W0 Γ94 := sound_add hΓ fun l K h => by
 obtain ⟨⟨a0, a1, _⟩, rfl, h1⟩ := wA_f h
 rw [Q86_def] at h1
 exact finF hΓ (mkL (xs := [(Ent86_0, B86_0)]) (by kernel_rfl) (by kernel_rfl) ⟨Ent86_0_ok hΓ, trivial⟩) Tryz.func86 (by kernel_rfl) ((g86 _ _ K).trans h1)
theorem snd52 (hH : Hand52 W0) (hΓ : Sd W0 Γ94) : Sd W0 Γ95 := sound_add hΓ fun l K h => by
 obtain ⟨⟨⟨a0_0, a0_1, a0_2, _⟩, a1, _⟩, rfl, h1⟩ := wA_f h
 exact hH _ _ _ _ K h1
theorem St62_0_0_ok (next : KS) (K : KX) (l0 l1 l2 : PL) (n3 n4 : Int) : roundK [0, 4, 14, 15] [4] [2, 3] Rn62_0 next (T62_0_0 l0 l1 l2 n3 n4) (S62_0_0 l0 l1 l2 n3 n4) K = St62_0_0 (fun y0 y1 y2 y3 y4 => next (T62_0_0 y0 y1 y2 y3 y4) (S62_0_0 y0 y1 y2 y3 y4)) (fun y0 y1 y2 y3 y4 y5 => next (T62_0_1 y0 y1 y2 y3 y4 y5) (S62_0_1 y0 y1 y2 y3 y4 y5)) (X62_0_0 K) (X62_0_1 K) (X62_0_2 K) l0 l1 l2 n3 n4 := by kernel_rfl
theorem St62_0_1_ok (next : KS) (K : KX) (l0 l1 l2 : PL) (n3 n4 : Int) (l5 : PL) : roundK [0, 4, 14, 15] [4] [2, 3] Rn62_0 next (T62_0_1 l0 l1 l2 n3 n4 l5) (S62_0_1 l0 l1 l2 n3 n4 l5) K = St62_0_1 (fun y0 y1 y2 y3 y4 => next (T62_0_0 y0 y1 y2 y3 y4) (S62_0_0 y0 y1 y2 y3 y4)) (fun y0 y1 y2 y3 y4 y5 => next (T62_0_1 y0 y1 y2 y3 y4 y5) (S62_0_1 y0 y1 y2 y3 y4 y5)) (X62_0_0 K) (X62_0_1 K) (X62_0_2 K) l0 l1 l2 n3 n4 l5 := by kernel_rfl
theorem ind62_0 (K : KX) : ∀ n : Nat, (∀ (l0 l1 l2 : PL) (n3 n4 : Int), loopN [0, 4, 14, 15] [4] [2, 3] Rn62_0 n (T62_0_0 l0 l1 l2 n3 n4) (S62_0_0 l0 l1 l2 n3 n4) K = L62_0_0 (X62_0_0 K) (X62_0_1 K) (X62_0_2 K) n l0 l1 l2 n3 n4) /\ (∀ (l0 l1 l2 : PL) (n3 n4 : Int) (l5 : PL), loopN [0, 4, 14, 15] [4] [2, 3] Rn62_0 n (T62_0_1 l0 l1 l2 n3 n4 l5) (S62_0_1 l0 l1 l2 n3 n4 l5) K = L62_0_1 (X62_0_0 K) (X62_0_1 K) (X62_0_2 K) n l0 l1 l2 n3 n4 l5)
 | 0 => ⟨by intros; rfl, by intros; rfl⟩
 | n + 1 => by
  have ih := ind62_0 K n
  refine ⟨?_, ?_⟩
  ·intro l0 l1 l2 n3 n4
   show roundK _ _ _ Rn62_0 _ _ _ K = _
   rw [St62_0_0_ok]; simp only [ih.1, ih.2]; rfl
  ·intro l0 l1 l2 n3 n4 l5
   show roundK _ _ _ Rn62_0 _ _ _ K = _
   rw [St62_0_1_ok]; simp only [ih.1, ih.2]; rfl
theorem Ent62_0_ok (hΓ : Sd W0 Γ95) : EntOk Tryz.prog W0 Ent62_0 B62_0 := finE (ex := [4]) (res := [2, 3]) (Λ := Λ62_0) hΓ (nlL (by kernel_rfl)) fun T σ K h => by
 rcases wT_or h with ⟨⟨⟨x0, x1, x2, _⟩, _, x3, x4, _⟩, _, rfl, rfl, h1⟩ | h1
 ·exact ((ind62_0 K fuel).1 x0 x1 x2 x3 x4).trans h1
 obtain ⟨⟨⟨x0, x1, x2, _⟩, x3, x4, _⟩, ⟨x5, _⟩, rfl, rfl, h2⟩ := wT_f h1
 exact ((ind62_0 K fuel).2 x0 x1 x2 x3 x4 x5).trans h2
theorem g62 (a0_0 a0_1 a0_2 : PL) (K : RRes -> Bool) : runFn E Γ95 (mkΛ [Ent62_0]) false Tryz.f62 [(.adr [(xA [(xV a0_0), (xV a0_1), (xV a0_2)])] 0 0)] K = G62 a0_0 a0_1 a0_2 (fun z0 z1 => K (.tup [(.p (xV z0)), (.p (xI z1))])) := by kernel_rfl
theorem snd62 (hΓ : Sd W0 Γ95) : Sd W0 Γ96 := sound_add hΓ fun l K h => by
 obtain ⟨⟨⟨a0_0, a0_1, a0_2, _⟩, _⟩, rfl, h1⟩ := wA_f h
 rw [Q62_def] at h1
 exact finF hΓ (mkL (xs := [(Ent62_0, B62_0)]) (by kernel_rfl) (by kernel_rfl) ⟨Ent62_0_ok hΓ, trivial⟩) Tryz.func62 (by kernel_rfl) ((g62 _ _ _ K).trans h1)
theorem g41 (a0_0 a0_1 : PL) (K : RRes -> Bool) : runFn E Γ96 (mkΛ []) false Tryz.f41 [(xA [(xV a0_0), (xV a0_1)])] K = G41 a0_0 a0_1 (fun z1 z2 => K (.tup [(.p (.lit (.pointer Option.none))), (.p (xV z1)), (.p (xI z2))])) (fun z0_0 z0_1 z0_2 z1 z2 => K (.tup [(.p (.adr [(xA [(xV z0_0), (xV z0_1), (xV z0_2)])] 0 0)), (.p (xV z1)), (.p (xI z2))])) := by kernel_rfl
theorem snd41 (hΓ : Sd W0 Γ96) : Sd W0 Γ97 := sound_add hΓ fun l K h => by
 obtain ⟨⟨⟨a0_0, a0_1, _⟩, _⟩, rfl, h1⟩ := wA_f h
 rw [Q41_def] at h1
 exact finN hΓ Tryz.func41 (by kernel_rfl) ((g41 _ _ K).trans h1)
theorem St13_0_0_ok (next : KS) (K : KX) (l0 : PL) (n1 n2 : Int) : roundK [7, 23, 24, 25] [7] [2, 3] Rn13_0 next (T13_0_0 l0 n1 n2) (S13_0_0 l0 n1 n2) K = St13_0_0 (fun y0 y1 y2 => next (T13_0_0 y0 y1 y2) (S13_0_0 y0 y1 y2)) (fun y0 y1 y2 y3 => next (T13_0_1 y0 y1 y2 y3) (S13_0_1 y0 y1 y2 y3)) (X13_0_0 K) (X13_0_1 K) l0 n1 n2 := by kernel_rfl
theorem St13_0_1_ok (next : KS) (K : KX) (l0 : PL) (n1 n2 : Int) (l3 : PL) : roundK [7, 23, 24, 25] [7] [2, 3] Rn13_0 next (T13_0_1 l0 n1 n2 l3) (S13_0_1 l0 n1 n2 l3) K = St13_0_1 (fun y0 y1 y2 => next (T13_0_0 y0 y1 y2) (S13_0_0 y0 y1 y2)) (fun y0 y1 y2 y3 => next (T13_0_1 y0 y1 y2 y3) (S13_0_1 y0 y1 y2 y3)) (X13_0_0 K) (X13_0_1 K) l0 n1 n2 l3 := by kernel_rfl
theorem ind13_0 (K : KX) : ∀ n : Nat, (∀ (l0 : PL) (n1 n2 : Int), loopN [7, 23, 24, 25] [7] [2, 3] Rn13_0 n (T13_0_0 l0 n1 n2) (S13_0_0 l0 n1 n2) K = L13_0_0 (X13_0_0 K) (X13_0_1 K) n l0 n1 n2) /\ (∀ (l0 : PL) (n1 n2 : Int) (l3 : PL), loopN [7, 23, 24, 25] [7] [2, 3] Rn13_0 n (T13_0_1 l0 n1 n2 l3) (S13_0_1 l0 n1 n2 l3) K = L13_0_1 (X13_0_0 K) (X13_0_1 K) n l0 n1 n2 l3)
 | 0 => ⟨by intros; rfl, by intros; rfl⟩
 | n + 1 => by
  have ih := ind13_0 K n
  refine ⟨?_, ?_⟩
  ·intro l0 n1 n2
   show roundK _ _ _ Rn13_0 _ _ _ K = _
   rw [St13_0_0_ok]; simp only [ih.1, ih.2]; rfl
  ·intro l0 n1 n2 l3
   show roundK _ _ _ Rn13_0 _ _ _ K = _
   rw [St13_0_1_ok]; simp only [ih.1, ih.2]; rfl
theorem Ent13_0_ok (hΓ : Sd W0 Γ97) : EntOk Tryz.prog W0 Ent13_0 B13_0 := finE (ex := [7]) (res := [2, 3]) (Λ := Λ13_0) hΓ (nlL (by kernel_rfl)) fun T σ K h => by
 rcases wT_or h with ⟨⟨_, x0, x1, x2, _⟩, _, rfl, rfl, h1⟩ | h1
 ·exact ((ind13_0 K fuel).1 x0 x1 x2).trans h1
 obtain ⟨⟨x0, x1, x2, _⟩, ⟨x3, _⟩, rfl, rfl, h2⟩ := wT_f h1
 exact ((ind13_0 K fuel).2 x0 x1 x2 x3).trans h2
theorem g13 (a0_0 a0_1 : PL) (K : RRes -> Bool) : runFn E Γ97 (mkΛ [Ent13_0]) false Tryz.f13 [(xA [(xV a0_0), (xV a0_1)])] K = G13 a0_0 a0_1 (fun z0 z1 => K (.tup [(.p (xV z0)), (.p (xI z1))])) := by kernel_rfl
theorem snd13 (hΓ : Sd W0 Γ97) : Sd W0 Γ98 := sound_add hΓ fun l K h => by
 obtain ⟨⟨⟨a0_0, a0_1, _⟩, _⟩, rfl, h1⟩ := wA_f h
 rw [Q13_def] at h1
 exact finF hΓ (mkL (xs := [(Ent13_0, B13_0)]) (by kernel_rfl) (by kernel_rfl) ⟨Ent13_0_ok hΓ, trivial⟩) Tryz.func13 (by kernel_rfl) ((g13 _ _ K).trans h1)
theorem g43 (a0 : PL) (K : RRes -> Bool) : runFn E Γ98 (mkΛ []) false Tryz.f43 [(xV a0)] K = G43 a0 (fun z0 => K (.one (.p (xB z0)))) := by kernel_rfl
theorem snd43 (hΓ : Sd W0 Γ98) : Sd W0 Γ99 := sound_add hΓ fun l K h => by
 obtain ⟨⟨a0, _⟩, rfl, h1⟩ := wA_f h
 rw [Q43_def] at h1
 exact finN hΓ Tryz.func43 (by kernel_rfl) ((g43 _ K).trans h1)
theorem St75_43_0_0_ok (next : KS) (K : KX) (l0 : PL) (n1 n2 : Int) : roundK [0, 1, 7, 8] [] [4] Rn75_43_0 next (T75_43_0_0 l0 n1 n2) (S75_43_0_0 l0 n1 n2) K = St75_43_0_0 (fun y0 y1 y2 => next (T75_43_0_0 y0 y1 y2) (S75_43_0_0 y0 y1 y2)) (X75_43_0_0 K) (X75_43_0_1 K) l0 n1 n2 := by kernel_rfl
theorem ind75_43_0 (K : KX) : ∀ n : Nat, (∀ (l0 : PL) (n1 n2 : Int), loopN [0, 1, 7, 8] [] [4] Rn75_43_0 n (T75_43_0_0 l0 n1 n2) (S75_43_0_0 l0 n1 n2) K = L75_43_0_0 (X75_43_0_0 K) (X75_43_0_1 K) n l0 n1 n2)
 | 0 => by intros; rfl
 | n + 1 => by
  have ih := ind75_43_0 K n
  intro l0 n1 n2
  show roundK _ _ _ Rn75_43_0 _ _ _ K = _
  rw [St75_43_0_0_ok]; simp only [ih]; rfl
theorem Ent75_43_0_ok (hΓ : Sd W0 Γ99) : EntOk Tryz.prog W0 Ent75_43_0 B75_43_0 := finE (ex := []) (res := [4]) (Λ := Λ75_43_0) hΓ (nlL (by kernel_rfl)) fun T σ K h => by
 obtain ⟨⟨x0, ⟨_, _⟩, x1, x2, _⟩, _, rfl, rfl, h1⟩ := wT_f h
 exact (ind75_43_0 K fuel x0 x1 x2).trans h1
theorem g75_43 (a0 : PL) (K : RRes -> Bool) : runFn E Γ99 (mkΛ [Ent75_43_0]) false Tryz.f75 [(xV a0), (.clo 43 [] [])] K = G75_43 a0 (fun z0 => K (.one (.p (xI z0)))) := by kernel_rfl
theorem snd75_43 (hΓ : Sd W0 Γ99) : Sd W0 Γ100 := sound_add hΓ fun l K h => by
 rcases wA_or h with ⟨⟨a0, ⟨_, _⟩, _⟩, rfl, h1⟩ | h1
 ·rw [Q75_43_def] at h1
  exact finF hΓ (mkL (xs := [(Ent75_43_0, B75_43_0)]) (by kernel_rfl) (by kernel_rfl) ⟨Ent75_43_0_ok hΓ, trivial⟩) Tryz.func75 (by kernel_rfl) ((g75_43 _ K).trans h1)
 ·exact hΓ false 75 _ K h1
theorem g42_43 (a0 : PL) (K : RRes -> Bool) : runFn E Γ100 (mkΛ []) false Tryz.f42 [(xV a0), (.clo 43 [] [])] K = G42_43 a0 (fun z0 => K (.one (.p (xB z0)))) := by kernel_rfl
theorem snd42_43 (hΓ : Sd W0 Γ100) : Sd W0 Γ101 := sound_add hΓ fun l K h => by
 rcases wA_or h with ⟨⟨a0, ⟨_, _⟩, _⟩, rfl, h1⟩ | h1
 ·rw [Q42_43_def] at h1
  exact finN hΓ Tryz.func42 (by kernel_rfl) ((g42_43 _ K).trans h1)
 ·exact hΓ false 42 _ K h1
theorem g14 (a0_0 a0_1 : PL) (K : RRes -> Bool) : runFn E Γ101 (mkΛ []) false Tryz.f14 [(xA [(xV a0_0), (xV a0_1)])] K = G14 a0_0 a0_1 (fun z0 z1 => K (.tup [(.p (xI z0)), (.p (xI z1))])) := by kernel_rfl
theorem snd14 (hΓ : Sd W0 Γ101) : Sd W0 Γ102 := sound_add hΓ fun l K h => by
 obtain ⟨⟨⟨a0_0, a0_1, _⟩, _⟩, rfl, h1⟩ := wA_f h
 rw [Q14_def] at h1
 exact finN hΓ Tryz.func14 (by kernel_rfl) ((g14 _ _ K).trans h1)
theorem St49_0_0_ok (next : KS) (K : KX) (n0 : Int) (l1 : PL) (n2 n3 n4 n5 : Int) : roundK [1, 4, 7, 8, 24, 25] [4] [4, 5, 6] Rn49_0 next (T49_0_0 n0 l1 n2 n3 n4 n5) (S49_0_0 n0 l1 n2 n3 n4 n5) K = St49_0_0 (fun y0 y1 y2 y3 y4 y5 => next (T49_0_0 y0 y1 y2 y3 y4 y5) (S49_0_0 y0 y1 y2 y3 y4 y5)) (fun y0 y1 y2 y3 y4 y5 y6 y7 y8 => next (T49_0_1 y0 y1 y2 y3 y4 y5 y6 y7 y8) (S49_0_1 y0 y1 y2 y3 y4 y5 y6 y7 y8)) (X49_0_0 K) (X49_0_1 K) n0 l1 n2 n3 n4 n5 := by kernel_rfl
theorem St49_0_1_ok (next : KS) (K : KX) (n0 : Int) (l1 l2 l3 l4 : PL) (n5 n6 n7 n8 : Int) : roundK [1, 4, 7, 8, 24, 25] [4] [4, 5, 6] Rn49_0 next (T49_0_1 n0 l1 l2 l3 l4 n5 n6 n7 n8) (S49_0_1 n0 l1 l2 l3 l4 n5 n6 n7 n8) K = St49_0_1 (fun y0 y1 y2 y3 y4 y5 => next (T49_0_0 y0 y1 y2 y3 y4 y5) (S49_0_0 y0 y1 y2 y3 y4 y5)) (fun y0 y1 y2 y3 y4 y5 y6 y7 y8 => next (T49_0_1 y0 y1 y2 y3 y4 y5 y6 y7 y8) (S49_0_1 y0 y1 y2 y3 y4 y5 y6 y7 y8)) (X49_0_0 K) (X49_0_1 K) n0 l1 l2 l3 l4 n5 n6 n7 n8 := by kernel_rfl
theorem ind49_0 (K : KX) : ∀ n : Nat, (∀ (n0 : Int) (l1 : PL) (n2 n3 n4 n5 : Int), loopN [1, 4, 7, 8, 24, 25] [4] [4, 5, 6] Rn49_0 n (T49_0_0 n0 l1 n2 n3 n4 n5) (S49_0_0 n0 l1 n2 n3 n4 n5) K = L49_0_0 (X49_0_0 K) (X49_0_1 K) n n0 l1 n2 n3 n4 n5) /\ (∀ (n0 : Int) (l1 l2 l3 l4 : PL) (n5 n6 n7 n8 : Int), loopN [1, 4, 7, 8, 24, 25] [4] [4, 5, 6] Rn49_0 n (T49_0_1 n0 l1 l2 l3 l4 n5 n6 n7 n8) (S49_0_1 n0 l1 l2 l3 l4 n5 n6 n7 n8) K = L49_0_1 (X49_0_0 K) (X49_0_1 K) n n0 l1 l2 l3 l4 n5 n6 n7 n8)
 | 0 => ⟨by intros; rfl, by intros; rfl⟩
 | n + 1 => by
  have ih := ind49_0 K n
  refine ⟨?_, ?_⟩
  ·intro n0 l1 n2 n3 n4 n5
   show roundK _ _ _ Rn49_0 _ _ _ K = _
   rw [St49_0_0_ok]; simp only [ih.1, ih.2]; rfl
  ·intro n0 l1 l2 l3 l4 n5 n6 n7 n8
   show roundK _ _ _ Rn49_0 _ _ _ K = _
   rw [St49_0_1_ok]; simp only [ih.1, ih.2]; rfl
theorem Ent49_0_ok (hΓ : Sd W0 Γ102) : EntOk Tryz.prog W0 Ent49_0 B49_0 := finE (ex := [4]) (res := [4, 5, 6]) (Λ := Λ49_0) hΓ (nlL (by kernel_rfl)) fun T σ K h => by
 rcases wT_or h with ⟨⟨x0, _, x1, x2, x3, _⟩, ⟨⟨x4, x5, _, _, _⟩, _⟩, rfl, rfl, h1⟩ | h1
 ·exact ((ind49_0 K fuel).1 x0 x1 x2 x3 x4 x5).trans h1
 obtain ⟨⟨x0, ⟨x1, x2, x3, _⟩, x4, x5, x6, _⟩, ⟨⟨x7, x8, _, _, _⟩, _⟩, rfl, rfl, h2⟩ := wT_f h1
 exact ((ind49_0 K fuel).2 x0 x1 x2 x3 x4 x5 x6 x7 x8).trans h2
theorem g49 (a0_0 a0_1 : PL) (a1 : Int) (K : RRes -> Bool) : runFn E Γ102 (mkΛ [Ent49_0]) false Tryz.f49 [(xA [(xV a0_0), (xV a0_1)]), (xI a1)] K = G49 a0_0 a0_1 a1 (fun z0_0 z0_1 z0_2 z0_3 z1 z2 => K (.tup [(.p (xA [(xI z0_0), (xI z0_1), (xV z0_2), (xV z0_3)])), (.p (xB z1)), (.p (xI z2))])) := by kernel_rfl
theorem snd49 (hΓ : Sd W0 Γ102) : Sd W0 Γ103 := sound_add hΓ fun l K h => by
 obtain ⟨⟨⟨a0_0, a0_1, _⟩, a1, _⟩, rfl, h1⟩ := wA_f h
 rw [Q49_def] at h1
 exact finF hΓ (mkL (xs := [(Ent49_0, B49_0)]) (by kernel_rfl) (by kernel_rfl) ⟨Ent49_0_ok hΓ, trivial⟩) Tryz.func49 (by kernel_rfl) ((g49 _ _ _ K).trans h1)
theorem g20 (a0_0 a0_1 : PL) (K : RRes -> Bool) : runFn E Γ103 (mkΛ []) false Tryz.f20 [(xA [(xV a0_0), (xV a0_1)])] K = G20 a0_0 a0_1 (fun z0_0 z0_1 z0_2 z0_3 z1 z2 => K (.tup [(.p (xA [(xI z0_0), (xI z0_1), (xV z0_2), (xV z0_3)])), (.p (xB z1)), (.p (xI z2))])) := by kernel_rfl
theorem snd20 (hΓ : Sd W0 Γ103) : Sd W0 Γ104 := sound_add hΓ fun l K h => by
 obtain ⟨⟨⟨a0_0, a0_1, _⟩, _⟩, rfl, h1⟩ := wA_f h
 rw [Q20_def] at h1
 exact finN hΓ Tryz.func20 (by kernel_rfl) ((g20 _ _ K).trans h1)
theorem St53_0_0_ok (next : KS) (K : KX) (l0 l1 : PL) (n2 n3 : Int) : roundK [0, 1, 12, 13] [] [4] Rn53_0 next (T53_0_0 l0 l1 n2 n3) (S53_0_0 l0 l1 n2 n3) K = St53_0_0 (fun y0 y1 y2 y3 => next (T53_0_0 y0 y1 y2 y3) (S53_0_0 y0 y1 y2 y3)) (X53_0_0 K) (X53_0_1 K) l0 l1 n2 n3 := by kernel_rfl
theorem ind53_0 (K : KX) : ∀ n : Nat, (∀ (l0 l1 : PL) (n2 n3 : Int), loopN [0, 1, 12, 13] [] [4] Rn53_0 n (T53_0_0 l0 l1 n2 n3) (S53_0_0 l0 l1 n2 n3) K = L53_0_0 (X53_0_0 K) (X53_0_1 K) n l0 l1 n2 n3)
 | 0 => by intros; rfl
 | n + 1 => by
  have ih := ind53_0 K n
  intro l0 l1 n2 n3
  show roundK _ _ _ Rn53_0 _ _ _ K = _
  rw [St53_0_0_ok]; simp only [ih]; rfl
theorem Ent53_0_ok (hΓ : Sd W0 Γ104) : EntOk Tryz.prog W0 Ent53_0 B53_0 := finE (ex := []) (res := [4]) (Λ := Λ53_0) hΓ (nlL (by kernel_rfl)) fun T σ K h => by
 obtain ⟨⟨x0, x1, x2, x3, _⟩, _, rfl, rfl, h1⟩ := wT_f h
 exact (ind53_0 K fuel x0 x1 x2 x3).trans h1
theorem g53 (a0 a1 : PL) (K : RRes -> Bool) : runFn E Γ104 (mkΛ [Ent53_0]) false Tryz.f53 [(xV a0), (xV a1)] K = G53 a0 a1 (fun z0 => K (.one (.p (xB z0)))) := by kernel_rfl
theorem snd53 (hΓ : Sd W0 Γ104) : Sd W0 Γ105 := sound_add hΓ fun l K h => by
 obtain ⟨⟨a0, a1, _⟩, rfl, h1⟩ := wA_f h
 rw [Q53_def] at h1
 exact finF hΓ (mkL (xs := [(Ent53_0, B53_0)]) (by kernel_rfl) (by kernel_rfl) ⟨Ent53_0_ok hΓ, trivial⟩) Tryz.func53 (by kernel_rfl) ((g53 _ _ K).trans h1)
theorem g24 (a0 a1 : PL) (K : RRes -> Bool) : runFn E Γ105 (mkΛ []) false Tryz.f24 [(xV a0), (xV a1)] K = G24 a0 a1 (fun z0 => K (.one (.p (xB z0)))) := by kernel_rfl
theorem snd24 (hΓ : Sd W0 Γ105) : Sd W0 Γ106 := sound_add hΓ fun l K h => by
 obtain ⟨⟨a0, a1, _⟩, rfl, h1⟩ := wA_f h
 rw [Q24_def] at h1
 exact finN hΓ Tryz.func24 (by kernel_rfl) ((g24 _ _ K).trans h1)
theorem g47 (a0 a1 : PL) (K : RRes -> Bool) : runFn E Γ106 (mkΛ []) false Tryz.f47 [(xV a0), (.adr [(xA [(xV a1)])] 0 0)] K = G47 a0 a1 (fun z0 => K (.one (.p (xB z0)))) := by kernel_rfl
theorem snd47 (hΓ : Sd W0 Γ106) : Sd W0 Γ107 := sound_add hΓ fun l K h => by
 obtain ⟨⟨a0, ⟨a1, _⟩, _⟩, rfl, h1⟩ := wA_f h
 rw [Q47_def] at h1
 exact finN hΓ Tryz.func47 (by kernel_rfl) ((g47 _ _ K).trans h1)
theorem St83_47_0_0_ok (next : KS) (K : KX) (l0 l1 : PL) (n2 n3 : Int) : roundK [0, 1, 7, 8] [] [4] Rn83_47_0 next (T83_47_0_0 l0 l1 n2 n3) (S83_47_0_0 l0 l1 n2 n3) K = St83_47_0_0 (fun y0 y1 y2 y3 => next (T83_47_0_0 y0 y1 y2 y3) (S83_47_0_0 y0 y1 y2 y3)) (X83_47_0_0 K) (X83_47_0_1 K) l0 l1 n2 n3 := by kernel_rfl
theorem ind83_47_0 (K : KX) : ∀ n : Nat, (∀ (l0 l1 : PL) (n2 n3 : Int), loopN [0, 1, 7, 8] [] [4] Rn83_47_0 n (T83_47_0_0 l0 l1 n2 n3) (S83_47_0_0 l0 l1 n2 n3) K = L83_47_0_0 (X83_47_0_0 K) (X83_47_0_1 K) n l0 l1 n2 n3)
 | 0 => by intros; rfl
 | n + 1 => by
  have ih := ind83_47_0 K n
  intro l0 l1 n2 n3
  show roundK _ _ _ Rn83_47_0 _ _ _ K = _
  rw [St83_47_0_0_ok]; simp only [ih]; rfl
theorem Ent83_47_0_ok (hΓ : Sd W0 Γ107) : EntOk Tryz.prog W0 Ent83_47_0 B83_47_0 := finE (ex := []) (res := [4]) (Λ := Λ83_47_0) hΓ (nlL (by kernel_rfl)) fun T σ K h => by
 obtain ⟨⟨x0, ⟨_, ⟨⟨x1, _⟩, _⟩⟩, x2, x3, _⟩, _, rfl, rfl, h1⟩ := wT_f h
 exact (ind83_47_0 K fuel x0 x1 x2 x3).trans h1
theorem g83_47 (a0 a1 : PL) (K : RRes -> Bool) : runFn E Γ107 (mkΛ [Ent83_47_0]) false Tryz.f83 [(xV a0), (.clo 47 [] [(.adr [(xA [(xV a1)])] 0 0)])] K = G83_47 a0 a1 (fun z0 => K (.one (.p (xI z0)))) := by kernel_rfl
theorem snd83_47 (hΓ : Sd W0 Γ107) : Sd W0 Γ108 := sound_add hΓ fun l K h => by
 rcases wA_or h with ⟨⟨a0, ⟨_, ⟨⟨a1, _⟩, _⟩⟩, _⟩, rfl, h1⟩ | h1
 ·rw [Q83_47_def] at h1
  exact finF hΓ (mkL (xs := [(Ent83_47_0, B83_47_0)]) (by kernel_rfl) (by kernel_rfl) ⟨Ent83_47_0_ok hΓ, trivial⟩) Tryz.func83 (by kernel_rfl) ((g83_47 _ _ K).trans h1)
 ·exact hΓ false 83 _ K h1
theorem g46_47 (a0 a1 : PL) (K : RRes -> Bool) : runFn E Γ108 (mkΛ []) false Tryz.f46 [(xV a0), (.clo 47 [] [(.adr [(xA [(xV a1)])] 0 0)])] K = G46_47 a0 a1 (fun z0 => K (.one (.p (xB z0)))) := by kernel_rfl
theorem snd46_47 (hΓ : Sd W0 Γ108) : Sd W0 Γ109 := sound_add hΓ fun l K h => by
 rcases wA_or h with ⟨⟨a0, ⟨_, ⟨⟨a1, _⟩, _⟩⟩, _⟩, rfl, h1⟩ | h1
 ·rw [Q46_47_def] at h1
  exact finN hΓ Tryz.func46 (by kernel_rfl) ((g46_47 _ _ K).trans h1)
 ·exact hΓ false 46 _ K h1
theorem g48 (a0 : PL) (K : RRes -> Bool) : runFn E Γ109 (mkΛ []) false Tryz.f48 [(xV a0)] K = G48 a0 (fun z0 => K (.one (.p (xV z0)))) := by cases a0 <;> kernel_rfl
theorem snd48 (hΓ : Sd W0 Γ109) : Sd W0 Γ110 := sound_add hΓ fun l K h => by
 obtain ⟨⟨a0, _⟩, rfl, h1⟩ := wA_f h
 rw [Q48_def] at h1
 exact finN hΓ Tryz.func48 (by kernel_rfl) ((g48 _ K).trans h1)
theorem St18_4_0_ok (next : KS) (K : KX) (l0 : PL) (n1 n2 n3 n4 : Int) (l5 : PL) (n6 n7 n8 n9 : Int) : roundK [2, 6, 7, 8, 22, 23, 37, 38, 39] [2, 6, 7, 8, 22, 23] [2, 3, 4] Rn18_4 next (T18_4_0 l0 n1 n2 n3 n4 l5 n6 n7 n8 n9) (S18_4_0 l0 n1 n2 n3 n4 l5 n6 n7 n8 n9) K = St18_4_0 (fun y0 y1 y2 y3 y4 y5 y6 y7 y8 y9 => next (T18_4_0 y0 y1 y2 y3 y4 y5 y6 y7 y8 y9) (S18_4_0 y0 y1 y2 y3 y4 y5 y6 y7 y8 y9)) (X18_4_0 K) (X18_4_1 K) l0 n1 n2 n3 n4 l5 n6 n7 n8 n9 := by kernel_rfl
theorem ind18_4 (K : KX) : ∀ n : Nat, (∀ (l0 : PL) (n1 n2 n3 n4 : Int) (l5 : PL) (n6 n7 n8 n9 : Int), loopN [2, 6, 7, 8, 22, 23, 37, 38, 39] [2, 6, 7, 8, 22, 23] [2, 3, 4] Rn18_4 n (T18_4_0 l0 n1 n2 n3 n4 l5 n6 n7 n8 n9) (S18_4_0 l0 n1 n2 n3 n4 l5 n6 n7 n8 n9) K = L18_4_0 (X18_4_0 K) (X18_4_1 K) n l0 n1 n2 n3 n4 l5 n6 n7 n8 n9)
 | 0 => by intros; rfl
 | n + 1 => by
  have ih := ind18_4 K n
  intro l0 n1 n2 n3 n4 l5 n6 n7 n8 n9
  show roundK _ _ _ Rn18_4 _ _ _ K = _
  rw [St18_4_0_ok]; simp only [ih]; rfl
theorem Ent18_4_ok (hΓ : Sd W0 Γ110) : EntOk Tryz.prog W0 Ent18_4 B18_4 := finE (ex := [2, 6, 7, 8, 22, 23]) (res := [2, 3, 4]) (Λ := Λ18_4) hΓ (nlL (by kernel_rfl)) fun T σ K h => by
 obtain ⟨⟨x0, x1, x2, x3, x4, x5, x6, x7, _⟩, ⟨⟨x8, x9, _, _, _⟩, _⟩, rfl, rfl, h1⟩ := wT_f h
 exact (ind18_4 K fuel x0 x1 x2 x3 x4 x5 x6 x7 x8 x9).trans h1
theorem St18_2_0_ok (next : KS) (K : KX) (l0 : PL) (n1 n2 n3 n4 n5 n6 : Int) : roundK [2, 6, 7, 8, 22, 23] [2, 6, 22, 23] [2, 3, 4] Rn18_2 next (T18_2_0 l0 n1 n2 n3 n4 n5 n6) (S18_2_0 l0 n1 n2 n3 n4 n5 n6) K = St18_2_0 (fun y0 y1 y2 y3 y4 y5 y6 => next (T18_2_0 y0 y1 y2 y3 y4 y5 y6) (S18_2_0 y0 y1 y2 y3 y4 y5 y6)) (X18_2_0 K) (X18_2_1 K) l0 n1 n2 n3 n4 n5 n6 := by kernel_rfl
theorem ind18_2 (K : KX) : ∀ n : Nat, (∀ (l0 : PL) (n1 n2 n3 n4 n5 n6 : Int), loopN [2, 6, 7, 8, 22, 23] [2, 6, 22, 23] [2, 3, 4] Rn18_2 n (T18_2_0 l0 n1 n2 n3 n4 n5 n6) (S18_2_0 l0 n1 n2 n3 n4 n5 n6) K = L18_2_0 (X18_2_0 K) (X18_2_1 K) n l0 n1 n2 n3 n4 n5 n6)
 | 0 => by intros; rfl
 | n + 1 => by
  have ih := ind18_2 K n
  intro l0 n1 n2 n3 n4 n5 n6
  show roundK _ _ _ Rn18_2 _ _ _ K = _
  rw [St18_2_0_ok]; simp only [ih]; rfl
theorem Ent18_2_ok (hΓ : Sd W0 Γ110) : EntOk Tryz.prog W0 Ent18_2 B18_2 := finE (ex := [2, 6, 22, 23]) (res := [2, 3, 4]) (Λ := Λ18_2) hΓ (mkL (xs := [(Ent18_4, B18_4)]) (by kernel_rfl) (by kernel_rfl) ⟨Ent18_4_ok hΓ, trivial⟩) fun T σ K h => by
 obtain ⟨⟨x0, x1, x2, x3, x4, _⟩, ⟨⟨x5, x6, _, _, _⟩, _⟩, rfl, rfl, h1⟩ := wT_f h
 exact (ind18_2 K fuel x0 x1 x2 x3 x4 x5 x6).trans h1
theorem St18_0_0_ok (next : KS) (K : KX) (l0 : PL) (n1 n2 n3 n4 : Int) : roundK [2, 6, 22, 23] [2] [2, 3, 4] Rn18_0 next (T18_0_0 l0 n1 n2 n3 n4) (S18_0_0 l0 n1 n2 n3 n4) K = St18_0_0 (fun y0 y1 y2 y3 y4 => next (T18_0_0 y0 y1 y2 y3 y4) (S18_0_0 y0 y1 y2 y3 y4)) (X18_0_0 K) (X18_0_1 K) l0 n1 n2 n3 n4 := by kernel_rfl
theorem ind18_0 (K : KX) : ∀ n : Nat, (∀ (l0 : PL) (n1 n2 n3 n4 : Int), loopN [2, 6, 22, 23] [2] [2, 3, 4] Rn18_0 n (T18_0_0 l0 n1 n2 n3 n4) (S18_0_0 l0 n1 n2 n3 n4) K = L18_0_0 (X18_0_0 K) (X18_0_1 K) n l0 n1 n2 n3 n4)
 | 0 => by intros; rfl
 | n + 1 => by
  have ih := ind18_0 K n
  intro l0 n1 n2 n3 n4
  show roundK _ _ _ Rn18_0 _ _ _ K = _
  rw [St18_0_0_ok]; simp only [ih]; rfl
theorem Ent18_0_ok (hΓ : Sd W0 Γ110) : EntOk Tryz.prog W0 Ent18_0 B18_0 := finE (ex := [2]) (res := [2, 3, 4]) (Λ := Λ18_0) hΓ (mkL (xs := [(Ent18_2, B18_2)]) (by kernel_rfl) (by kernel_rfl) ⟨Ent18_2_ok hΓ, trivial⟩) fun T σ K h => by
 obtain ⟨⟨x0, x1, x2, _⟩, ⟨⟨x3, x4, _, _, _⟩, _⟩, rfl, rfl, h1⟩ := wT_f h
 exact (ind18_0 K fuel x0 x1 x2 x3 x4).trans h1
theorem g18 (a0_0 a0_1 : PL) (K : RRes -> Bool) : runFn E Γ110 (mkΛ [Ent18_0]) false Tryz.f18 [(xA [(xV a0_0), (xV a0_1)])] K = G18 a0_0 a0_1 (fun z0_0 z0_1 z0_2 z0_3 z1 z2 => K (.tup [(.p (xA [(xI z0_0), (xI z0_1), (xV z0_2), (xV z0_3)])), (.p (xB z1)), (.p (xI z2))])) := by kernel_rfl
theorem snd18 (hΓ : Sd W0 Γ110) : Sd W0 Γ111 := sound_add hΓ fun l K h => by
 obtain ⟨⟨⟨a0_0, a0_1, _⟩, _⟩, rfl, h1⟩ := wA_f h
 rw [Q18_def] at h1
 exact finF hΓ (mkL (xs := [(Ent18_0, B18_0)]) (by kernel_rfl) (by kernel_rfl) ⟨Ent18_0_ok hΓ, trivial⟩) Tryz.func18 (by kernel_rfl) ((g18 _ _ K).trans h1)
theorem g11  (K : RRes -> Bool) : runFn E Γ111 (mkΛ []) false Tryz.f11 [] K = G11  (fun z0 => K (.one (.p (xB z0)))) := by kernel_rfl
theorem snd11 (hΓ : Sd W0 Γ111) : Sd W0 Γ112 := sound_add hΓ fun l K h => by
 obtain ⟨_, rfl, h1⟩ := wA_f h
 rw [Q11_def] at h1
 exact finN hΓ Tryz.func11 (by kernel_rfl) ((g11  K).trans h1)
theorem g34 (a0_0 : Bool) (a0_1 a0_2 a0_3 a0_4 a0_5 a0_6 a0_7 a0_8 a0_9 a0_10 a0_11 a0_12 a0_13 a0_14 a0_15 a0_16 a0_17 a0_18 a0_19 a0_20 a0_21 a0_22 a0_23 a0_24 a0_25 a0_26 : Int) (K : RRes -> Bool) : runFn E Γ112 (mkΛ []) false Tryz.f34 [(xA [(xB a0_0), (xJ .u8 a0_1), (xJ .u8 a0_2), (xJ .i8 a0_3), (xJ .i8 a0_4), (xJ .i8 a0_5), (xJ .i8 a0_6), (xJ .i8 a0_7), (xJ .i8 a0_8), (xJ .i8 a0_9), (xJ .i8 a0_10), (xJ .i8 a0_11), (xJ .i8 a0_12), (xJ .i8 a0_13), (xJ .i8 a0_14), (xJ .i8 a0_15), (xJ .i8 a0_16), (xJ .i8 a0_17), (xJ .i8 a0_18), (xJ .i8 a0_19), (xJ .i8 a0_20), (xJ .i8 a0_21), (xJ .i8 a0_22), (xJ .i8 a0_23), (xJ .i8 a0_24), (xJ .i8 a0_25), (xJ .i8 a0_26)])] K = G34 a0_0 a0_1 a0_2 a0_3 a0_4 a0_5 a0_6 a0_7 a0_8 a0_9 a0_10 a0_11 a0_12 a0_13 a0_14 a0_15 a0_16 a0_17 a0_18 a0_19 a0_20 a0_21 a0_22 a0_23 a0_24 a0_25 a0_26 (fun z0 => K (.one (.p (xV z0)))) := by kernel_rfl
theorem snd34 (hΓ : Sd W0 Γ112) : Sd W0 Γ113 := sound_add hΓ fun l K h => by
 obtain ⟨⟨⟨a0_0, a0_1, a0_2, a0_3, a0_4, a0_5, a0_6, a0_7, a0_8, a0_9, a0_10, a0_11, a0_12, a0_13, a0_14, a0_15, a0_16, a0_17, a0_18, a0_19, a0_20, a0_21, a0_22, a0_23, a0_24, a0_25, a0_26, _⟩, _⟩, rfl, h1⟩ := wA_f h
 rw [Q34_def] at h1
 exact finN hΓ Tryz.func34 (by kernel_rfl) ((g34 _ _ _ _ _ _ _ _ _ _ _ _ _ _ _ _ _ _ _ _ _ _ _ _ _ _ _ K).trans h1)
theorem g36 (a0 : PL) (K : RRes -> Bool) : runFn E Γ113 (mkΛ []) false Tryz.f36 [(xV a0)] K = G36 a0 (fun z0 => K (.one (.p (xV z0)))) := by kernel_rfl
theorem snd36 (hΓ : Sd W0 Γ113) : Sd W0 Γ114 := sound_add hΓ fun l K h => by
 obtain ⟨⟨a0, _⟩, rfl, h1⟩ := wA_f h
 rw [Q36_def] at h1
 exact finN hΓ Tryz.func36 (by kernel_rfl) ((g36 _ K).trans h1)
end Go.Ev
