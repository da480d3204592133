/- What the functions of the program come to, as printed by a program of ours: definitions. No conditions -/
import Derived.Test.YthgolelddficaaaGreatDoorXa1
import Derived.Test.YthgolelddficaaaGreatDoorProg
import Derived.KernelRfl
set_option linter.unusedVariables false
set_option linter.unusedSimpArgs false
set_option maxRecDepth 100000
set_option maxHeartbeats 0
namespace Go.Ev
open Go Go.RowKit Go.Proofs
variable {W0 : World}
noncomputable def s_e : ByteArray := ⟨#[]⟩
noncomputable def s_20 : ByteArray := ⟨#[32]⟩
noncomputable def s_29 : ByteArray := ⟨#[41]⟩
noncomputable def s_2d : ByteArray := ⟨#[45]⟩
noncomputable def s_2f : ByteArray := ⟨#[47]⟩
noncomputable def s_30 : ByteArray := ⟨#[48]⟩
noncomputable def s_31 : ByteArray := ⟨#[49]⟩
noncomputable def s_5e : ByteArray := ⟨#[94]⟩
noncomputable def s_5e28 : ByteArray := ⟨#[94, 40]⟩
noncomputable def tbl : Tbl :=
 ⟨[(28, 3, 1), (29, 3, 1), (30, 41, 1), (40, 78, 2), (41, 78, 2), (55, 30, 1), (146, 76, 1), (151, 9, 1)],
 [(3, false, 1), (4, false, 1), (5, false, 1), (22, false, 1), (23, true, 3), (26, true, 27), (28, false, 1), (29, false, 1), (30, false, 1), (32, true, 2), (41, false, 1), (47, true, 4), (76, false, 1), (78, true, 2), (135, true, 2), (146, false, 1), (148, true, 3)],
 [(26, 0, 0), (26, 1, 1), (26, 2, 2), (26, 3, 3), (32, 0, 0), (32, 1, 1), (47, 0, 0), (47, 1, 1), (78, 0, 0), (78, 1, 1), (123, 0, 0), (123, 1, 2), (135, 0, 0), (135, 1, 1), (148, 0, 0), (148, 1, 1), (148, 2, 2)],
 [(32, [(0, 1), (1, 1)]), (47, [(0, 1), (1, 1), (2, 1), (3, 1)]), (78, [(0, 1), (1, 1)]), (123, [(0, 2), (2, 1)]), (135, [(0, 1), (1, 1)]), (148, [(0, 1), (1, 1), (2, 1)])],
 [(23, 3, 22, 1), (24, 8, 23, 3)],
 [3, 32, 41, 47, 78, 123, 135, 148],
 [(3, 109, .toInt .u64), (3, 173, .toInt .u64), (5, 3, .toInt .i64), (22, 3, .toInt .i64), (22, 5, .toInt .u8)],
 [9, 76],
 [78],
 [(3, (.int .i64)), (4, .bool), (9, .str), (30, .sl), (41, .sl), (76, .str), (78, .agg [.str, .str])],
 [], [70, 98, 131], [(148, 0, 0)], [182]⟩
noncomputable def E : TEnv := tbl.env Tryz.prog
theorem tok : TOk Tryz.prog E := Tbl.tok (by kernel_rfl)
theorem mixed : Tryz.prog.follows .mixedOrders = true := by kernel_rfl
noncomputable def Γ0 : Oracle := fun _ _ _ _ => false
abbrev Sd (W0 : World) (Γ : Oracle) : Prop := SoundΓ Tryz.prog W0 Γ
theorem finF {W0 : World} {Γ : Oracle} {Λ : LOracle} {f : Nat} {fn : Func} {fr : Bool} {l : PL} {K : RRes -> Bool} (hΓ : Sd W0 Γ) (hL : LOk Tryz.prog W0 Λ (loops 0 (bdF fn))) (h1 : Tryz.prog.funcs[f]? = some fn) (h2 : fnOk fn = true) (h : runFn E Γ Λ fr fn l K = true) : ∃ r, Pure Tryz.prog W0 f l r /\ K r = true := runFn_ok tok hΓ mixed h1 (fnOk_ok h2).1 (fnOk_ok h2).2 hL h
theorem finN {W0 : World} {Γ : Oracle} {f : Nat} {fn : Func} {fr : Bool} {l : PL} {K : RRes -> Bool} (hΓ : Sd W0 Γ) (h1 : Tryz.prog.funcs[f]? = some fn) (h2 : (fnOk fn && (loops 0 (bdF fn)).isEmpty) = true) (h : runFn E Γ (mkΛ []) fr fn l K = true) : ∃ r, Pure Tryz.prog W0 f l r /\ K r = true := finF hΓ (nlL (List.isEmpty_iff.1 (Bool.and_eq_true_iff.1 h2).2)) h1 (Bool.and_eq_true_iff.1 h2).1 h
theorem finW {W0 : World} {Γ : Oracle} {Λ : LOracle} {f : Nat} {fn : Func} {ty k : Nat} {es l : PL} {K : RRes -> Bool} (hΓ : Sd W0 Γ) (hL : LOk Tryz.prog W0 Λ (loops 0 (bdF fn))) (h1 : Tryz.prog.funcs[f]? = some fn) (h2 : fnOk fn = true) (h4 : fn.results = #[]) (h5 : noDst0 (bdF fn) = true) (h : runFnW E Γ Λ fn ty k es l K = true) : ∃ r, Does Tryz.prog W0 true f (.adr es ty k :: l) r /\ K r = true := runFnW_ok tok hΓ mixed h1 (fnOk_ok h2).1 (fnOk_ok h2).2 h4 h5 hL h
theorem finE {W0 : World} {Γ : Oracle} {Λ : LOracle} {e : LEnt} {B : Code} {ex res : List Nat} (hΓ : Sd W0 Γ) (hL : LOk Tryz.prog W0 Λ (loops e.k B)) (hO : ∀ T σ K, e.go T σ K = true -> loopN e.live ex res (run E Γ Λ e.k B) fuel T σ K = true) : EntOk Tryz.prog W0 e B := fun T σ K h hc =>
 loopN_ok (fun T σ K h hc => run_ok tok hΓ mixed B e.k T σ K hL h hc) (hO T σ K h) hc
noncomputable def Hand112 (W0 : World) : Prop := ∀ (a0 : Int) (K : RRes -> Bool), H112 a0 (fun z0 => K (.one (.p (xZ z0)))) = true -> ∃ r, Pure Tryz.prog W0 112 [(xI a0)] r /\ K r = true
noncomputable def F112 : FT := fun l K => wA (.ps (.pi .i64) .pe) (fun (a0, _) => H112 a0 (fun z0 => K (.one (.p (xZ z0))))) false l
noncomputable def Γ1 : Oracle := addF 112 F112 Γ0
noncomputable def G150 (a0 : Int) (K0 : ByteArray -> Bool) : Bool :=
 (H112 a0 (fun z1 => (K0 z1)))
noncomputable def Q150 := hide G150
theorem Q150_def : Q150 = G150 := hide_eq _
noncomputable def F150 : FT := fun l K => wA (.ps (.pi .i64) .pe) (fun (a0, _) => Q150 a0 (fun z0 => K (.one (.p (xZ z0))))) false l
noncomputable def Γ2 : Oracle := addF 150 F150 Γ1
noncomputable def G184 (a0 a1 : ByteArray) (K0 : Bool -> Bool) : Bool :=
 (bif (decide ((nI a0.size) >= (nI a1.size))) then (gd (decide (0 <= (nI a1.size))) (gd (decide (0 <= ((nI a1.size)).toNat) && decide (((nI a1.size)).toNat <= a0.size)) (K0 ((a0.extract 0 ((nI a1.size)).toNat).toList == a1.toList)))) else (K0 false))
noncomputable def Q184 := hide G184
theorem Q184_def : Q184 = G184 := hide_eq _
noncomputable def F184 : FT := fun l K => wA (.ps .pz (.ps .pz .pe)) (fun (a0, a1, _) => Q184 a0 a1 (fun z0 => K (.one (.p (xB z0))))) false l
noncomputable def Γ3 : Oracle := addF 184 F184 Γ2
noncomputable def G148 (a0 a1 : ByteArray) (K0 : Bool -> Bool) : Bool :=
 (Q184 a0 a1 (fun z1 => (K0 z1)))
noncomputable def Q148 := hide G148
theorem Q148_def : Q148 = G148 := hide_eq _
noncomputable def F148 : FT := fun l K => wA (.ps .pz (.ps .pz .pe)) (fun (a0, a1, _) => Q148 a0 a1 (fun z0 => K (.one (.p (xB z0))))) false l
noncomputable def Γ4 : Oracle := addF 148 F148 Γ3
noncomputable def Hand149 (W0 : World) : Prop := ∀ (a0 : ByteArray) (K : RRes -> Bool), H149 a0 (fun z0 => K (.tup [(.p (xI z0)), (.p (.lit .nilIface))])) = true -> ∃ r, Pure Tryz.prog W0 149 [(xZ a0)] r /\ K r = true
noncomputable def F149 : FT := fun l K => wA (.ps .pz .pe) (fun (a0, _) => H149 a0 (fun z0 => K (.tup [(.p (xI z0)), (.p (.lit .nilIface))]))) false l
noncomputable def Γ5 : Oracle := addF 149 F149 Γ4
noncomputable def B147_0 : Code := bdL 0 (loops 0 (bdF Tryz.f147))
noncomputable def St147_0_0 (r0 : Bool -> PL -> Bool -> Bool) (e0 : Bool -> PL -> Bool -> Bool) (b0 : Bool) (l1 : PL) (b2 : Bool) : Bool := (bif (decide ((nI l1.length) > 0)) then (gd (decide (0 <= (wI ((nI l1.length) - 1)))) (oOpt (l1[((wI ((nI l1.length) - 1))).toNat]?) fun u1 => (oInt .i64 u1 fun n2v => (bif (n2v == 0) then (gd (decide (0 <= (wI ((nI l1.length) - 1)))) (gd (decide (0 <= ((wI ((nI l1.length) - 1))).toNat) && decide (((wI ((nI l1.length) - 1))).toNat <= l1.length)) (r0 b0 (l1.take ((wI ((nI l1.length) - 1))).toNat) b2))) else (e0 b0 l1 b2))))) else (e0 b0 l1 b2))
noncomputable def LP147_0 (e0 : Bool -> PL -> Bool -> Bool) : Nat -> (Bool -> PL -> Bool -> Bool)
 | 0 => ((fun _ _ _ => false))
 | n + 1 => (St147_0_0 ((LP147_0 e0 n)) e0)
noncomputable def L147_0_0 (e0 : Bool -> PL -> Bool -> Bool) (n : Nat) : Bool -> PL -> Bool -> Bool := (LP147_0 e0 n)
noncomputable def Λ147_0 : LOracle := mkΛ []
noncomputable def Rn147_0 : List LVal -> List LObj -> KX -> Bool := run E Γ5 Λ147_0 0 B147_0
noncomputable def X147_0_0 (K : KX) (y0 : Bool) (y1 : PL) (y2 : Bool) : Bool := K (.exit 0) (tl 36 [(1, (.adr 0 0 0)), (2, (.adr 1 0 0))]) [(.box false [(.p (xB y0)), (.p (xV y1))]), (.box false [(.p (xB y2)), (.p xN)])]
noncomputable def T147_0_0 (b0 : Bool) (l1 : PL) (b2 : Bool) : List LVal := (tl 36 [(1, (.adr 0 0 0)), (2, (.adr 1 0 0))])
noncomputable def S147_0_0 (b0 : Bool) (l1 : PL) (b2 : Bool) : List LObj := [(.box false [(.p (xB b0)), (.p (xV l1))]), (.box false [(.p (xB b2)), (.p xN)])]
noncomputable def Ent147_0 : LEnt := ⟨0, [1, 2], fun T σ K => (wT (.tu 1 (.td 0 0 0 (.td 1 0 0 (.tu 33 .te)))) (.sx false (.tp .pb (.tp .pl .te)) (.sx false (.tp .pb (.tp .pn .te)) .se)) (fun _ ((x0, x1, _), (x2, _, _), _) => L147_0_0 (X147_0_0 K) fuel x0 x1 x2) false T σ)⟩
noncomputable def G147 (a0_0 : Bool) (a0_1 : PL) (K0 : Bool -> PL -> Bool) : Bool :=
 (L147_0_0 (fun y3 y4 y5 => (bif y3 then (K0 (decide ((nI y4.length) > 0)) y4) else (K0 false y4))) fuel a0_0 a0_1 false)
noncomputable def Q147 := hide G147
theorem Q147_def : Q147 = G147 := hide_eq _
noncomputable def F147 : FT := fun l K => wA (.ps (.pa (.ps .pb (.ps .pl .pe))) .pe) (fun ((a0_0, a0_1, _), _) => Q147 a0_0 a0_1 (fun z0_0 z0_1 => K (.one (.p (xA [(xB z0_0), (xV z0_1)]))))) false l
noncomputable def Γ6 : Oracle := addF 147 F147 Γ5
noncomputable def B102_0 : Code := bdL 0 (loops 0 (bdF Tryz.f102))
noncomputable def St102_0_0 (r0 : ByteArray -> Bool -> Bool -> Bool) (r1 : ByteArray -> Bool -> Bool -> PL -> Bool) (e0 : Bool -> Bool -> Bool) (e1 : Bool -> Bool -> PL -> Bool) (s0 : ByteArray) (b1 b2 : Bool) : Bool := (bif (decide ((nI s0.size) > 0)) then (gd (decide (0 <= (if (wI ((nI s0.size) - 9)) > 0 then (wI ((nI s0.size) - 9)) else 0))) (gd (decide (((if (wI ((nI s0.size) - 9)) > 0 then (wI ((nI s0.size) - 9)) else 0)).toNat <= s0.size) && decide (s0.size <= s0.size)) (H149 (s0.extract ((if (wI ((nI s0.size) - 9)) > 0 then (wI ((nI s0.size) - 9)) else 0)).toNat s0.size) (fun z2 => (gd (decide (0 <= (if (wI ((nI s0.size) - 9)) > 0 then (wI ((nI s0.size) - 9)) else 0))) (gd (decide (0 <= ((if (wI ((nI s0.size) - 9)) > 0 then (wI ((nI s0.size) - 9)) else 0)).toNat) && decide (((if (wI ((nI s0.size) - 9)) > 0 then (wI ((nI s0.size) - 9)) else 0)).toNat <= s0.size)) (r1 (s0.extract 0 ((if (wI ((nI s0.size) - 9)) > 0 then (wI ((nI s0.size) - 9)) else 0)).toNat) b1 b2 [(xI z2)]))))))) else (e0 b1 b2))
noncomputable def St102_0_1 (r0 : ByteArray -> Bool -> Bool -> Bool) (r1 : ByteArray -> Bool -> Bool -> PL -> Bool) (e0 : Bool -> Bool -> Bool) (e1 : Bool -> Bool -> PL -> Bool) (s0 : ByteArray) (b1 b2 : Bool) (l3 : PL) : Bool := (bif (decide ((nI s0.size) > 0)) then (gd (decide (0 <= (if (wI ((nI s0.size) - 9)) > 0 then (wI ((nI s0.size) - 9)) else 0))) (gd (decide (((if (wI ((nI s0.size) - 9)) > 0 then (wI ((nI s0.size) - 9)) else 0)).toNat <= s0.size) && decide (s0.size <= s0.size)) (H149 (s0.extract ((if (wI ((nI s0.size) - 9)) > 0 then (wI ((nI s0.size) - 9)) else 0)).toNat s0.size) (fun z3 => (gd (decide (l3.length + 1 <= maxElems)) (gd (decide (0 <= (if (wI ((nI s0.size) - 9)) > 0 then (wI ((nI s0.size) - 9)) else 0))) (gd (decide (0 <= ((if (wI ((nI s0.size) - 9)) > 0 then (wI ((nI s0.size) - 9)) else 0)).toNat) && decide (((if (wI ((nI s0.size) - 9)) > 0 then (wI ((nI s0.size) - 9)) else 0)).toNat <= s0.size)) (r1 (s0.extract 0 ((if (wI ((nI s0.size) - 9)) > 0 then (wI ((nI s0.size) - 9)) else 0)).toNat) b1 b2 (l3 ++ [(xI z3)]))))))))) else (e1 b1 b2 l3))
noncomputable def LP102_0 (e0 : Bool -> Bool -> Bool) (e1 : Bool -> Bool -> PL -> Bool) : Nat -> (ByteArray -> Bool -> Bool -> Bool) × (ByteArray -> Bool -> Bool -> PL -> Bool)
 | 0 => ((fun _ _ _ => false), (fun _ _ _ _ => false))
 | n + 1 => (St102_0_0 ((LP102_0 e0 e1 n).1) ((LP102_0 e0 e1 n).2) e0 e1, St102_0_1 ((LP102_0 e0 e1 n).1) ((LP102_0 e0 e1 n).2) e0 e1)
noncomputable def L102_0_0 (e0 : Bool -> Bool -> Bool) (e1 : Bool -> Bool -> PL -> Bool) (n : Nat) : ByteArray -> Bool -> Bool -> Bool := (LP102_0 e0 e1 n).1
noncomputable def L102_0_1 (e0 : Bool -> Bool -> Bool) (e1 : Bool -> Bool -> PL -> Bool) (n : Nat) : ByteArray -> Bool -> Bool -> PL -> Bool := (LP102_0 e0 e1 n).2
noncomputable def Λ102_0 : LOracle := mkΛ []
noncomputable def Rn102_0 : List LVal -> List LObj -> KX -> Bool := run E Γ6 Λ102_0 0 B102_0
noncomputable def X102_0_0 (K : KX) (y0 y1 : Bool) : Bool := K (.exit 0) (tl 41 [(2, (.adr 0 0 0)), (4, (.adr 1 0 0))]) [(.box false [(.p (xB y0)), (.p xN)]), (.box false [(.p (xB y1)), (.p xN)])]
noncomputable def X102_0_1 (K : KX) (y0 y1 : Bool) (y2 : PL) : Bool := K (.exit 0) (tl 41 [(2, (.adr 0 0 0)), (4, (.adr 1 0 0))]) [(.box false [(.p (xB y0)), (.p xN)]), (.box false [(.p (xB y1)), (.own 2)]), (.buf false 3 1 y2)]
noncomputable def T102_0_0 (s0 : ByteArray) (b1 b2 : Bool) : List LVal := (tl 41 [(2, (.adr 0 0 0)), (3, (.p (xZ s0))), (4, (.adr 1 0 0))])
noncomputable def S102_0_0 (s0 : ByteArray) (b1 b2 : Bool) : List LObj := [(.box false [(.p (xB b1)), (.p xN)]), (.box false [(.p (xB b2)), (.p xN)])]
noncomputable def T102_0_1 (s0 : ByteArray) (b1 b2 : Bool) (l3 : PL) : List LVal := (tl 41 [(2, (.adr 0 0 0)), (3, (.p (xZ s0))), (4, (.adr 1 0 0))])
noncomputable def S102_0_1 (s0 : ByteArray) (b1 b2 : Bool) (l3 : PL) : List LObj := [(.box false [(.p (xB b1)), (.p xN)]), (.box false [(.p (xB b2)), (.own 2)]), (.buf false 3 1 l3)]
noncomputable def Ent102_0 : LEnt := ⟨0, [2, 3, 4], fun T σ K => (wT (.tu 2 (.td 0 0 0 (.tp .pz (.td 1 0 0 (.tu 36 .te))))) (.sx false (.tp .pb (.tp .pn .te)) (.sx false (.tp .pb (.tp .pn .te)) .se)) (fun (x0, _) ((x1, _, _), (x2, _, _), _) => L102_0_0 (X102_0_0 K) (X102_0_1 K) fuel x0 x1 x2) (wT (.tu 2 (.td 0 0 0 (.tp .pz (.td 1 0 0 (.tu 36 .te))))) (.sx false (.tp .pb (.tp .pn .te)) (.sx false (.tp .pb (.to 2 .te)) (.sf false 3 1 .se))) (fun (x0, _) ((x1, _, _), (x2, _), x3, _) => L102_0_1 (X102_0_0 K) (X102_0_1 K) fuel x0 x1 x2 x3) false T σ) T σ)⟩
noncomputable def G102 (a0 : ByteArray) (K0 : Bool -> PL -> Bool) : Bool :=
 (Q148 a0 s_2d (fun z1 => (bif z1 then (gd (decide (1 <= a0.size) && decide (a0.size <= a0.size)) (L102_0_0 (fun y4 y5 => (Q147 y5 [] (fun z6 z7 => (K0 z6 z7)))) (fun y8 y9 y10 => (Q147 y9 y10 (fun z11 z12 => (K0 z11 z12)))) fuel (a0.extract 1 a0.size) false z1)) else (L102_0_0 (fun y13 y14 => (Q147 y14 [] (fun z15 z16 => (K0 z15 z16)))) (fun y17 y18 y19 => (Q147 y18 y19 (fun z20 z21 => (K0 z20 z21)))) fuel a0 false z1))))
noncomputable def Q102 := hide G102
theorem Q102_def : Q102 = G102 := hide_eq _
noncomputable def F102 : FT := fun l K => wA (.ps .pz .pe) (fun (a0, _) => Q102 a0 (fun z0_0 z0_1 => K (.one (.p (xA [(xB z0_0), (xV z0_1)]))))) false l
noncomputable def Γ7 : Oracle := addF 102 F102 Γ6
noncomputable def G103 (a0 : Int) (K0 : Bool -> PL -> Bool) : Bool :=
 (Q150 a0 (fun z1 => (Q102 z1 (fun z2 z3 => (K0 z2 z3)))))
noncomputable def Q103 := hide G103
theorem Q103_def : Q103 = G103 := hide_eq _
noncomputable def F103 : FT := fun l K => wA (.ps (.pi .i64) .pe) (fun (a0, _) => Q103 a0 (fun z0_0 z0_1 => K (.one (.p (xA [(xB z0_0), (xV z0_1)]))))) false l
noncomputable def Γ8 : Oracle := addF 103 F103 Γ7
noncomputable def G141 (a0_0 : Bool) (a0_1 : PL) (K0 : Int -> Bool) : Bool :=
 (bif ((nI a0_1.length) == 0) then (K0 0) else (bif a0_0 then (K0 (-1)) else (K0 1)))
noncomputable def Q141 := hide G141
theorem Q141_def : Q141 = G141 := hide_eq _
noncomputable def F141 : FT := fun l K => wA (.ps (.pa (.ps .pb (.ps .pl .pe))) .pe) (fun ((a0_0, a0_1, _), _) => Q141 a0_0 a0_1 (fun z0 => K (.one (.p (xI z0))))) false l
noncomputable def Γ9 : Oracle := addF 141 F141 Γ8
noncomputable def G142 (a0_0 : Bool) (a0_1 : PL) (K0 : Bool -> PL -> Bool) : Bool :=
 (Q147 (!a0_0) a0_1 (fun z1 z2 => (K0 z1 z2)))
noncomputable def Q142 := hide G142
theorem Q142_def : Q142 = G142 := hide_eq _
noncomputable def F142 : FT := fun l K => wA (.ps (.pa (.ps .pb (.ps .pl .pe))) .pe) (fun ((a0_0, a0_1, _), _) => Q142 a0_0 a0_1 (fun z0_0 z0_1 => K (.one (.p (xA [(xB z0_0), (xV z0_1)]))))) false l
noncomputable def Γ10 : Oracle := addF 142 F142 Γ9
noncomputable def B143_0 : Code := bdL 0 (loops 0 (bdF Tryz.f143))
noncomputable def St143_0_0 (r0 : Int -> Int -> Int -> Int -> Bool -> PL -> ByteArray -> ByteArray -> Bool) (e0 : Int -> Int -> Int -> Bool -> PL -> ByteArray -> ByteArray -> Bool) (n0 n1 n2 n3 : Int) (b4 : Bool) (l5 : PL) (s6 s7 : ByteArray) : Bool := (bif (decide (n3 > 0)) then (bif (n3 == 0) then false else (r0 n0 n1 n3 (Int.tmod n2 n3) b4 l5 s6 s7)) else (e0 n0 n1 n2 b4 l5 s6 s7))
noncomputable def LP143_0 (e0 : Int -> Int -> Int -> Bool -> PL -> ByteArray -> ByteArray -> Bool) : Nat -> (Int -> Int -> Int -> Int -> Bool -> PL -> ByteArray -> ByteArray -> Bool)
 | 0 => ((fun _ _ _ _ _ _ _ _ => false))
 | n + 1 => (St143_0_0 ((LP143_0 e0 n)) e0)
noncomputable def L143_0_0 (e0 : Int -> Int -> Int -> Bool -> PL -> ByteArray -> ByteArray -> Bool) (n : Nat) : Int -> Int -> Int -> Int -> Bool -> PL -> ByteArray -> ByteArray -> Bool := (LP143_0 e0 n)
noncomputable def Λ143_0 : LOracle := mkΛ []
noncomputable def Rn143_0 : List LVal -> List LObj -> KX -> Bool := run E Γ10 Λ143_0 0 B143_0
noncomputable def X143_0_0 (K : KX) (y0 y1 y2 : Int) (y3 : Bool) (y4 : PL) (y5 y6 : ByteArray) : Bool := K (.exit 0) (tl 39 [(1, (.p (xI y0))), (2, (.adr 0 0 0)), (4, (.adr 1 0 0)), (5, (.p (xI y1))), (6, (.p (xI y2)))]) [(.box false [(.p (xB y3)), (.p (xV y4))]), (.box false [(.p (xZ y5)), (.p (xZ y6))])]
noncomputable def T143_0_0 (n0 n1 n2 n3 : Int) (b4 : Bool) (l5 : PL) (s6 s7 : ByteArray) : List LVal := (tl 39 [(1, (.p (xI n0))), (2, (.adr 0 0 0)), (4, (.adr 1 0 0)), (5, (.p (xI n1))), (6, (.p (xI n2))), (7, (.p (xI n3)))])
noncomputable def S143_0_0 (n0 n1 n2 n3 : Int) (b4 : Bool) (l5 : PL) (s6 s7 : ByteArray) : List LObj := [(.box false [(.p (xB b4)), (.p (xV l5))]), (.box false [(.p (xZ s6)), (.p (xZ s7))])]
noncomputable def Ent143_0 : LEnt := ⟨0, [1, 2, 4, 5, 6, 7], fun T σ K => (wT (.tu 1 (.tp (.pi .i64) (.td 0 0 0 (.tu 1 (.td 1 0 0 (.tp (.pi .i64) (.tp (.pi .i64) (.tp (.pi .i64) (.tu 31 .te))))))))) (.sx false (.tp .pb (.tp .pl .te)) (.sx false (.tp .pz (.tp .pz .te)) .se)) (fun (x0, x1, x2, x3, _) ((x4, x5, _), (x6, x7, _), _) => L143_0_0 (X143_0_0 K) fuel x0 x1 x2 x3 x4 x5 x6 x7) false T σ)⟩
noncomputable def G143 (a0_0 : Bool) (a0_1 : PL) (a1 : Int) (K0 : ByteArray -> ByteArray -> Bool) : Bool :=
 (bif (decide ((nI a0_1.length) > 0)) then (oOpt (a0_1[0]?) fun u1 => (oInt .i64 u1 fun n2v => (L143_0_0 (fun y3 y4 y5 y6 y7 y8 y9 => (bif (y5 == 0) then false else (bif (y5 == 0) then false else (bif y6 then (Q150 (wI (0 - (wI (Int.tdiv y4 y5)))) (fun z10 => (Q150 (wI (Int.tdiv y3 y5)) (fun z11 => (K0 z10 z11))))) else (Q150 (wI (Int.tdiv y4 y5)) (fun z12 => (Q150 (wI (Int.tdiv y3 y5)) (fun z13 => (K0 z12 z13))))))))) fuel a1 n2v n2v a1 a0_0 a0_1 s_e s_e))) else (L143_0_0 (fun y14 y15 y16 y17 y18 y19 y20 => (bif (y16 == 0) then false else (bif (y16 == 0) then false else (bif y17 then (Q150 (wI (0 - (wI (Int.tdiv y15 y16)))) (fun z21 => (Q150 (wI (Int.tdiv y14 y16)) (fun z22 => (K0 z21 z22))))) else (Q150 (wI (Int.tdiv y15 y16)) (fun z23 => (Q150 (wI (Int.tdiv y14 y16)) (fun z24 => (K0 z23 z24))))))))) fuel a1 0 0 a1 a0_0 a0_1 s_e s_e))
noncomputable def Q143 := hide G143
theorem Q143_def : Q143 = G143 := hide_eq _
noncomputable def F143 : FT := fun l K => wA (.ps (.pa (.ps .pb (.ps .pl .pe))) (.ps (.pi .i64) .pe)) (fun ((a0_0, a0_1, _), a1, _) => Q143 a0_0 a0_1 a1 (fun z0_0 z0_1 => K (.one (.p (xA [(xZ z0_0), (xZ z0_1)]))))) false l
noncomputable def Γ11 : Oracle := addF 143 F143 Γ10
noncomputable def G100 (a0_0 : Bool) (a0_1 : PL) (a1_0 : Bool) (a1_1 : PL) (K0 : ByteArray -> ByteArray -> Bool) : Bool :=
 (Q141 a1_0 a1_1 (fun z1 => (bif (decide (z1 < 0)) then (Q142 a0_0 a0_1 (fun z2 z3 => (Q142 a1_0 a1_1 (fun z4 z5 => (bif (decide ((nI z3.length) <= 1)) then (bif ((nI z5.length) == 1) then (oOpt (z5[0]?) fun u6 => (oInt .i64 u6 fun n7v => (Q143 z2 z3 n7v (fun z8 z9 => (K0 z8 z9))))) else false) else false))))) else (bif (decide ((nI a0_1.length) <= 1)) then (bif ((nI a1_1.length) == 1) then (oOpt (a1_1[0]?) fun u10 => (oInt .i64 u10 fun n11v => (Q143 a0_0 a0_1 n11v (fun z12 z13 => (K0 z12 z13))))) else false) else false))))
noncomputable def Q100 := hide G100
theorem Q100_def : Q100 = G100 := hide_eq _
noncomputable def F100 : FT := fun l K => wA (.ps (.pa (.ps .pb (.ps .pl .pe))) (.ps (.pa (.ps .pb (.ps .pl .pe))) .pe)) (fun ((a0_0, a0_1, _), (a1_0, a1_1, _), _) => Q100 a0_0 a0_1 a1_0 a1_1 (fun z0_0 z0_1 => K (.one (.p (xA [(xZ z0_0), (xZ z0_1)]))))) false l
noncomputable def Γ12 : Oracle := addF 100 F100 Γ11
noncomputable def G74 (a0 a1 : Int) (K0 : ByteArray -> ByteArray -> Bool) : Bool :=
 (Q103 a0 (fun z1 z2 => (Q103 a1 (fun z3 z4 => (Q100 z1 z2 z3 z4 (fun z5 z6 => (K0 z5 z6)))))))
noncomputable def Q74 := hide G74
theorem Q74_def : Q74 = G74 := hide_eq _
noncomputable def F74 : FT := fun l K => wA (.ps (.pi .i64) (.ps (.pi .i64) .pe)) (fun (a0, a1, _) => Q74 a0 a1 (fun z0_0 z0_1 => K (.one (.p (xA [(xZ z0_0), (xZ z0_1)]))))) false l
noncomputable def Γ13 : Oracle := addF 74 F74 Γ12
noncomputable def G39 (a0 a1 : Int) (K0 : ByteArray -> ByteArray -> Bool) : Bool :=
 (Q74 a0 a1 (fun z1 z2 => (K0 z1 z2)))
noncomputable def Q39 := hide G39
theorem Q39_def : Q39 = G39 := hide_eq _
noncomputable def F39 : FT := fun l K => wA (.ps (.pi .i64) (.ps (.pi .i64) .pe)) (fun (a0, a1, _) => Q39 a0 a1 (fun z0_0 z0_1 => K (.one (.p (xA [(xZ z0_0), (xZ z0_1)]))))) false l
noncomputable def Γ14 : Oracle := addF 39 F39 Γ13
noncomputable def B66_0 : Code := bdL 0 (loops 0 (bdF Tryz.f66))
noncomputable def St66_0_0 (r0 : PL -> Int -> Int -> Bool) (r1 : PL -> Int -> Int -> PL -> Bool) (e0 : Bool) (e1 : PL -> Bool) (l0 : PL) (n1 n2 : Int) : Bool := (bif (decide (n2 < n1)) then (gd (decide (0 <= n2)) (oOpt (l0[(n2).toNat]?) fun u1 => (oInt .i64 u1 fun n2v => (Q39 n2v 1 (fun z3 z4 => (r1 l0 n1 (wI (n2 + 1)) [(xA [(xZ z3), (xZ z4)])])))))) else e0)
noncomputable def St66_0_1 (r0 : PL -> Int -> Int -> Bool) (r1 : PL -> Int -> Int -> PL -> Bool) (e0 : Bool) (e1 : PL -> Bool) (l0 : PL) (n1 n2 : Int) (l3 : PL) : Bool := (bif (decide (n2 < n1)) then (gd (decide (0 <= n2)) (oOpt (l0[(n2).toNat]?) fun u5 => (oInt .i64 u5 fun n6v => (Q39 n6v 1 (fun z7 z8 => (gd (decide (l3.length + 1 <= maxElems)) (r1 l0 n1 (wI (n2 + 1)) (l3 ++ [(xA [(xZ z7), (xZ z8)])])))))))) else (e1 l3))
noncomputable def LP66_0 (e0 : Bool) (e1 : PL -> Bool) : Nat -> (PL -> Int -> Int -> Bool) × (PL -> Int -> Int -> PL -> Bool)
 | 0 => ((fun _ _ _ => false), (fun _ _ _ _ => false))
 | n + 1 => (St66_0_0 ((LP66_0 e0 e1 n).1) ((LP66_0 e0 e1 n).2) e0 e1, St66_0_1 ((LP66_0 e0 e1 n).1) ((LP66_0 e0 e1 n).2) e0 e1)
noncomputable def L66_0_0 (e0 : Bool) (e1 : PL -> Bool) (n : Nat) : PL -> Int -> Int -> Bool := (LP66_0 e0 e1 n).1
noncomputable def L66_0_1 (e0 : Bool) (e1 : PL -> Bool) (n : Nat) : PL -> Int -> Int -> PL -> Bool := (LP66_0 e0 e1 n).2
noncomputable def Λ66_0 : LOracle := mkΛ []
noncomputable def Rn66_0 : List LVal -> List LObj -> KX -> Bool := run E Γ14 Λ66_0 0 B66_0
noncomputable def X66_0_0 (K : KX)  : Bool := K (.exit 0) (tl 19 [(3, (.p xN))]) []
noncomputable def X66_0_1 (K : KX) (y0 : PL) : Bool := K (.exit 0) (tl 19 [(3, (.own 0))]) [(.buf false 78 2 y0)]
noncomputable def T66_0_0 (l0 : PL) (n1 n2 : Int) : List LVal := (tl 19 [(3, (.p xN)), (6, (.p (xV l0))), (7, (.p (xI n1))), (8, (.p (xI n2)))])
noncomputable def S66_0_0 (l0 : PL) (n1 n2 : Int) : List LObj := []
noncomputable def T66_0_1 (l0 : PL) (n1 n2 : Int) (l3 : PL) : List LVal := (tl 19 [(3, (.own 0)), (6, (.p (xV l0))), (7, (.p (xI n1))), (8, (.p (xI n2)))])
noncomputable def S66_0_1 (l0 : PL) (n1 n2 : Int) (l3 : PL) : List LObj := [(.buf false 78 2 l3)]
noncomputable def Ent66_0 : LEnt := ⟨0, [3, 6, 7, 8], fun T σ K => (wT (.tu 3 (.tp .pn (.tu 2 (.tp .pl (.tp (.pi .i64) (.tp (.pi .i64) (.tu 10 .te))))))) .se (fun (_, x0, x1, x2, _) _ => L66_0_0 (X66_0_0 K) (X66_0_1 K) fuel x0 x1 x2) (wT (.tu 3 (.to 0 (.tu 2 (.tp .pl (.tp (.pi .i64) (.tp (.pi .i64) (.tu 10 .te))))))) (.sf false 78 2 .se) (fun (x0, x1, x2, _) (x3, _) => L66_0_1 (X66_0_0 K) (X66_0_1 K) fuel x0 x1 x2 x3) false T σ) T σ)⟩
noncomputable def G66 (a0 : PL) (K0 : PL -> Bool) (K1 : PL -> Bool) : Bool :=
 (L66_0_0 ((K0 [])) (fun y9 => (K1 y9)) fuel a0 (nI a0.length) 0)
noncomputable def Q66 := hide G66
theorem Q66_def : Q66 = G66 := hide_eq _
noncomputable def F66 : FT := fun l K => wA (.ps .pl .pe) (fun (a0, _) => Q66 a0 (fun z0 => K (.one (.p (xV z0)))) (fun z0 => K (.one (.fresh 78 2 z0)))) false l
noncomputable def Γ15 : Oracle := addF 66 F66 Γ14
noncomputable def G33  (K0 : PL -> PL -> Bool) : Bool :=
 (Q66 [(xI (-3)), (xI 2)] (fun z1 => (Q66 [(xI (-6)), (xI 4)] (fun z2 => (Q66 [(xI 2), (xI (-1))] (fun z3 => (Q66 [(xI (-1)), (xI 1)] (fun z4 => (Q66 [(xI (-4)), (xI 3)] (fun z5 => (Q66 [(xI (-7)), (xI 5)] (fun z6 => (Q66 [(xI 1), (xI 0)] (fun z7 => (K0 [(xI 2), (xI 3)] [(xV z1), (xV z2), (xV z3), (xV z4), (xV z5), (xV z6), (xV z7)])) (fun z8 => (K0 [(xI 2), (xI 3)] [(xV z1), (xV z2), (xV z3), (xV z4), (xV z5), (xV z6), (xV z8)])))) (fun z9 => (Q66 [(xI 1), (xI 0)] (fun z10 => (K0 [(xI 2), (xI 3)] [(xV z1), (xV z2), (xV z3), (xV z4), (xV z5), (xV z9), (xV z10)])) (fun z11 => (K0 [(xI 2), (xI 3)] [(xV z1), (xV z2), (xV z3), (xV z4), (xV z5), (xV z9), (xV z11)])))))) (fun z12 => (Q66 [(xI (-7)), (xI 5)] (fun z13 => (Q66 [(xI 1), (xI 0)] (fun z14 => (K0 [(xI 2), (xI 3)] [(xV z1), (xV z2), (xV z3), (xV z4), (xV z12), (xV z13), (xV z14)])) (fun z15 => (K0 [(xI 2), (xI 3)] [(xV z1), (xV z2), (xV z3), (xV z4), (xV z12), (xV z13), (xV z15)])))) (fun z16 => (Q66 [(xI 1), (xI 0)] (fun z17 => (K0 [(xI 2), (xI 3)] [(xV z1), (xV z2), (xV z3), (xV z4), (xV z12), (xV z16), (xV z17)])) (fun z18 => (K0 [(xI 2), (xI 3)] [(xV z1), (xV z2), (xV z3), (xV z4), (xV z12), (xV z16), (xV z18)])))))))) (fun z19 => (Q66 [(xI (-4)), (xI 3)] (fun z20 => (Q66 [(xI (-7)), (xI 5)] (fun z21 => (Q66 [(xI 1), (xI 0)] (fun z22 => (K0 [(xI 2), (xI 3)] [(xV z1), (xV z2), (xV z3), (xV z19), (xV z20), (xV z21), (xV z22)])) (fun z23 => (K0 [(xI 2), (xI 3)] [(xV z1), (xV z2), (xV z3), (xV z19), (xV z20), (xV z21), (xV z23)])))) (fun z24 => (Q66 [(xI 1), (xI 0)] (fun z25 => (K0 [(xI 2), (xI 3)] [(xV z1), (xV z2), (xV z3), (xV z19), (xV z20), (xV z24), (xV z25)])) (fun z26 => (K0 [(xI 2), (xI 3)] [(xV z1), (xV z2), (xV z3), (xV z19), (xV z20), (xV z24), (xV z26)])))))) (fun z27 => (Q66 [(xI (-7)), (xI 5)] (fun z28 => (Q66 [(xI 1), (xI 0)] (fun z29 => (K0 [(xI 2), (xI 3)] [(xV z1), (xV z2), (xV z3), (xV z19), (xV z27), (xV z28), (xV z29)])) (fun z30 => (K0 [(xI 2), (xI 3)] [(xV z1), (xV z2), (xV z3), (xV z19), (xV z27), (xV z28), (xV z30)])))) (fun z31 => (Q66 [(xI 1), (xI 0)] (fun z32 => (K0 [(xI 2), (xI 3)] [(xV z1), (xV z2), (xV z3), (xV z19), (xV z27), (xV z31), (xV z32)])) (fun z33 => (K0 [(xI 2), (xI 3)] [(xV z1), (xV z2), (xV z3), (xV z19), (xV z27), (xV z31), (xV z33)])))))))))) (fun z34 => (Q66 [(xI (-1)), (xI 1)] (fun z35 => (Q66 [(xI (-4)), (xI 3)] (fun z36 => (Q66 [(xI (-7)), (xI 5)] (fun z37 => (Q66 [(xI 1), (xI 0)] (fun z38 => (K0 [(xI 2), (xI 3)] [(xV z1), (xV z2), (xV z34), (xV z35), (xV z36), (xV z37), (xV z38)])) (fun z39 => (K0 [(xI 2), (xI 3)] [(xV z1), (xV z2), (xV z34), (xV z35), (xV z36), (xV z37), (xV z39)])))) (fun z40 => (Q66 [(xI 1), (xI 0)] (fun z41 => (K0 [(xI 2), (xI 3)] [(xV z1), (xV z2), (xV z34), (xV z35), (xV z36), (xV z40), (xV z41)])) (fun z42 => (K0 [(xI 2), (xI 3)] [(xV z1), (xV z2), (xV z34), (xV z35), (xV z36), (xV z40), (xV z42)])))))) (fun z43 => (Q66 [(xI (-7)), (xI 5)] (fun z44 => (Q66 [(xI 1), (xI 0)] (fun z45 => (K0 [(xI 2), (xI 3)] [(xV z1), (xV z2), (xV z34), (xV z35), (xV z43), (xV z44), (xV z45)])) (fun z46 => (K0 [(xI 2), (xI 3)] [(xV z1), (xV z2), (xV z34), (xV z35), (xV z43), (xV z44), (xV z46)])))) (fun z47 => (Q66 [(xI 1), (xI 0)] (fun z48 => (K0 [(xI 2), (xI 3)] [(xV z1), (xV z2), (xV z34), (xV z35), (xV z43), (xV z47), (xV z48)])) (fun z49 => (K0 [(xI 2), (xI 3)] [(xV z1), (xV z2), (xV z34), (xV z35), (xV z43), (xV z47), (xV z49)])))))))) (fun z50 => (Q66 [(xI (-4)), (xI 3)] (fun z51 => (Q66 [(xI (-7)), (xI 5)] (fun z52 => (Q66 [(xI 1), (xI 0)] (fun z53 => (K0 [(xI 2), (xI 3)] [(xV z1), (xV z2), (xV z34), (xV z50), (xV z51), (xV z52), (xV z53)])) (fun z54 => (K0 [(xI 2), (xI 3)] [(xV z1), (xV z2), (xV z34), (xV z50), (xV z51), (xV z52), (xV z54)])))) (fun z55 => (Q66 [(xI 1), (xI 0)] (fun z56 => (K0 [(xI 2), (xI 3)] [(xV z1), (xV z2), (xV z34), (xV z50), (xV z51), (xV z55), (xV z56)])) (fun z57 => (K0 [(xI 2), (xI 3)] [(xV z1), (xV z2), (xV z34), (xV z50), (xV z51), (xV z55), (xV z57)])))))) (fun z58 => (Q66 [(xI (-7)), (xI 5)] (fun z59 => (Q66 [(xI 1), (xI 0)] (fun z60 => (K0 [(xI 2), (xI 3)] [(xV z1), (xV z2), (xV z34), (xV z50), (xV z58), (xV z59), (xV z60)])) (fun z61 => (K0 [(xI 2), (xI 3)] [(xV z1), (xV z2), (xV z34), (xV z50), (xV z58), (xV z59), (xV z61)])))) (fun z62 => (Q66 [(xI 1), (xI 0)] (fun z63 => (K0 [(xI 2), (xI 3)] [(xV z1), (xV z2), (xV z34), (xV z50), (xV z58), (xV z62), (xV z63)])) (fun z64 => (K0 [(xI 2), (xI 3)] [(xV z1), (xV z2), (xV z34), (xV z50), (xV z58), (xV z62), (xV z64)])))))))))))) (fun z65 => (Q66 [(xI 2), (xI (-1))] (fun z66 => (Q66 [(xI (-1)), (xI 1)] (fun z67 => (Q66 [(xI (-4)), (xI 3)] (fun z68 => (Q66 [(xI (-7)), (xI 5)] (fun z69 => (Q66 [(xI 1), (xI 0)] (fun z70 => (K0 [(xI 2), (xI 3)] [(xV z1), (xV z65), (xV z66), (xV z67), (xV z68), (xV z69), (xV z70)])) (fun z71 => (K0 [(xI 2), (xI 3)] [(xV z1), (xV z65), (xV z66), (xV z67), (xV z68), (xV z69), (xV z71)])))) (fun z72 => (Q66 [(xI 1), (xI 0)] (fun z73 => (K0 [(xI 2), (xI 3)] [(xV z1), (xV z65), (xV z66), (xV z67), (xV z68), (xV z72), (xV z73)])) (fun z74 => (K0 [(xI 2), (xI 3)] [(xV z1), (xV z65), (xV z66), (xV z67), (xV z68), (xV z72), (xV z74)])))))) (fun z75 => (Q66 [(xI (-7)), (xI 5)] (fun z76 => (Q66 [(xI 1), (xI 0)] (fun z77 => (K0 [(xI 2), (xI 3)] [(xV z1), (xV z65), (xV z66), (xV z67), (xV z75), (xV z76), (xV z77)])) (fun z78 => (K0 [(xI 2), (xI 3)] [(xV z1), (xV z65), (xV z66), (xV z67), (xV z75), (xV z76), (xV z78)])))) (fun z79 => (Q66 [(xI 1), (xI 0)] (fun z80 => (K0 [(xI 2), (xI 3)] [(xV z1), (xV z65), (xV z66), (xV z67), (xV z75), (xV z79), (xV z80)])) (fun z81 => (K0 [(xI 2), (xI 3)] [(xV z1), (xV z65), (xV z66), (xV z67), (xV z75), (xV z79), (xV z81)])))))))) (fun z82 => (Q66 [(xI (-4)), (xI 3)] (fun z83 => (Q66 [(xI (-7)), (xI 5)] (fun z84 => (Q66 [(xI 1), (xI 0)] (fun z85 => (K0 [(xI 2), (xI 3)] [(xV z1), (xV z65), (xV z66), (xV z82), (xV z83), (xV z84), (xV z85)])) (fun z86 => (K0 [(xI 2), (xI 3)] [(xV z1), (xV z65), (xV z66), (xV z82), (xV z83), (xV z84), (xV z86)])))) (fun z87 => (Q66 [(xI 1), (xI 0)] (fun z88 => (K0 [(xI 2), (xI 3)] [(xV z1), (xV z65), (xV z66), (xV z82), (xV z83), (xV z87), (xV z88)])) (fun z89 => (K0 [(xI 2), (xI 3)] [(xV z1), (xV z65), (xV z66), (xV z82), (xV z83), (xV z87), (xV z89)])))))) (fun z90 => (Q66 [(xI (-7)), (xI 5)] (fun z91 => (Q66 [(xI 1), (xI 0)] (fun z92 => (K0 [(xI 2), (xI 3)] [(xV z1), (xV z65), (xV z66), (xV z82), (xV z90), (xV z91), (xV z92)])) (fun z93 => (K0 [(xI 2), (xI 3)] [(xV z1), (xV z65), (xV z66), (xV z82), (xV z90), (xV z91), (xV z93)])))) (fun z94 => (Q66 [(xI 1), (xI 0)] (fun z95 => (K0 [(xI 2), (xI 3)] [(xV z1), (xV z65), (xV z66), (xV z82), (xV z90), (xV z94), (xV z95)])) (fun z96 => (K0 [(xI 2), (xI 3)] [(xV z1), (xV z65), (xV z66), (xV z82), (xV z90), (xV z94), (xV z96)])))))))))) (fun z97 => (Q66 [(xI (-1)), (xI 1)] (fun z98 => (Q66 [(xI (-4)), (xI 3)] (fun z99 => (Q66 [(xI (-7)), (xI 5)] (fun z100 => (Q66 [(xI 1), (xI 0)] (fun z101 => (K0 [(xI 2), (xI 3)] [(xV z1), (xV z65), (xV z97), (xV z98), (xV z99), (xV z100), (xV z101)])) (fun z102 => (K0 [(xI 2), (xI 3)] [(xV z1), (xV z65), (xV z97), (xV z98), (xV z99), (xV z100), (xV z102)])))) (fun z103 => (Q66 [(xI 1), (xI 0)] (fun z104 => (K0 [(xI 2), (xI 3)] [(xV z1), (xV z65), (xV z97), (xV z98), (xV z99), (xV z103), (xV z104)])) (fun z105 => (K0 [(xI 2), (xI 3)] [(xV z1), (xV z65), (xV z97), (xV z98), (xV z99), (xV z103), (xV z105)])))))) (fun z106 => (Q66 [(xI (-7)), (xI 5)] (fun z107 => (Q66 [(xI 1), (xI 0)] (fun z108 => (K0 [(xI 2), (xI 3)] [(xV z1), (xV z65), (xV z97), (xV z98), (xV z106), (xV z107), (xV z108)])) (fun z109 => (K0 [(xI 2), (xI 3)] [(xV z1), (xV z65), (xV z97), (xV z98), (xV z106), (xV z107), (xV z109)])))) (fun z110 => (Q66 [(xI 1), (xI 0)] (fun z111 => (K0 [(xI 2), (xI 3)] [(xV z1), (xV z65), (xV z97), (xV z98), (xV z106), (xV z110), (xV z111)])) (fun z112 => (K0 [(xI 2), (xI 3)] [(xV z1), (xV z65), (xV z97), (xV z98), (xV z106), (xV z110), (xV z112)])))))))) (fun z113 => (Q66 [(xI (-4)), (xI 3)] (fun z114 => (Q66 [(xI (-7)), (xI 5)] (fun z115 => (Q66 [(xI 1), (xI 0)] (fun z116 => (K0 [(xI 2), (xI 3)] [(xV z1), (xV z65), (xV z97), (xV z113), (xV z114), (xV z115), (xV z116)])) (fun z117 => (K0 [(xI 2), (xI 3)] [(xV z1), (xV z65), (xV z97), (xV z113), (xV z114), (xV z115), (xV z117)])))) (fun z118 => (Q66 [(xI 1), (xI 0)] (fun z119 => (K0 [(xI 2), (xI 3)] [(xV z1), (xV z65), (xV z97), (xV z113), (xV z114), (xV z118), (xV z119)])) (fun z120 => (K0 [(xI 2), (xI 3)] [(xV z1), (xV z65), (xV z97), (xV z113), (xV z114), (xV z118), (xV z120)])))))) (fun z121 => (Q66 [(xI (-7)), (xI 5)] (fun z122 => (Q66 [(xI 1), (xI 0)] (fun z123 => (K0 [(xI 2), (xI 3)] [(xV z1), (xV z65), (xV z97), (xV z113), (xV z121), (xV z122), (xV z123)])) (fun z124 => (K0 [(xI 2), (xI 3)] [(xV z1), (xV z65), (xV z97), (xV z113), (xV z121), (xV z122), (xV z124)])))) (fun z125 => (Q66 [(xI 1), (xI 0)] (fun z126 => (K0 [(xI 2), (xI 3)] [(xV z1), (xV z65), (xV z97), (xV z113), (xV z121), (xV z125), (xV z126)])) (fun z127 => (K0 [(xI 2), (xI 3)] [(xV z1), (xV z65), (xV z97), (xV z113), (xV z121), (xV z125), (xV z127)])))))))))))))) (fun z128 => (Q66 [(xI (-6)), (xI 4)] (fun z129 => (Q66 [(xI 2), (xI (-1))] (fun z130 => (Q66 [(xI (-1)), (xI 1)] (fun z131 => (Q66 [(xI (-4)), (xI 3)] (fun z132 => (Q66 [(xI (-7)), (xI 5)] (fun z133 => (Q66 [(xI 1), (xI 0)] (fun z134 => (K0 [(xI 2), (xI 3)] [(xV z128), (xV z129), (xV z130), (xV z131), (xV z132), (xV z133), (xV z134)])) (fun z135 => (K0 [(xI 2), (xI 3)] [(xV z128), (xV z129), (xV z130), (xV z131), (xV z132), (xV z133), (xV z135)])))) (fun z136 => (Q66 [(xI 1), (xI 0)] (fun z137 => (K0 [(xI 2), (xI 3)] [(xV z128), (xV z129), (xV z130), (xV z131), (xV z132), (xV z136), (xV z137)])) (fun z138 => (K0 [(xI 2), (xI 3)] [(xV z128), (xV z129), (xV z130), (xV z131), (xV z132), (xV z136), (xV z138)])))))) (fun z139 => (Q66 [(xI (-7)), (xI 5)] (fun z140 => (Q66 [(xI 1), (xI 0)] (fun z141 => (K0 [(xI 2), (xI 3)] [(xV z128), (xV z129), (xV z130), (xV z131), (xV z139), (xV z140), (xV z141)])) (fun z142 => (K0 [(xI 2), (xI 3)] [(xV z128), (xV z129), (xV z130), (xV z131), (xV z139), (xV z140), (xV z142)])))) (fun z143 => (Q66 [(xI 1), (xI 0)] (fun z144 => (K0 [(xI 2), (xI 3)] [(xV z128), (xV z129), (xV z130), (xV z131), (xV z139), (xV z143), (xV z144)])) (fun z145 => (K0 [(xI 2), (xI 3)] [(xV z128), (xV z129), (xV z130), (xV z131), (xV z139), (xV z143), (xV z145)])))))))) (fun z146 => (Q66 [(xI (-4)), (xI 3)] (fun z147 => (Q66 [(xI (-7)), (xI 5)] (fun z148 => (Q66 [(xI 1), (xI 0)] (fun z149 => (K0 [(xI 2), (xI 3)] [(xV z128), (xV z129), (xV z130), (xV z146), (xV z147), (xV z148), (xV z149)])) (fun z150 => (K0 [(xI 2), (xI 3)] [(xV z128), (xV z129), (xV z130), (xV z146), (xV z147), (xV z148), (xV z150)])))) (fun z151 => (Q66 [(xI 1), (xI 0)] (fun z152 => (K0 [(xI 2), (xI 3)] [(xV z128), (xV z129), (xV z130), (xV z146), (xV z147), (xV z151), (xV z152)])) (fun z153 => (K0 [(xI 2), (xI 3)] [(xV z128), (xV z129), (xV z130), (xV z146), (xV z147), (xV z151), (xV z153)])))))) (fun z154 => (Q66 [(xI (-7)), (xI 5)] (fun z155 => (Q66 [(xI 1), (xI 0)] (fun z156 => (K0 [(xI 2), (xI 3)] [(xV z128), (xV z129), (xV z130), (xV z146), (xV z154), (xV z155), (xV z156)])) (fun z157 => (K0 [(xI 2), (xI 3)] [(xV z128), (xV z129), (xV z130), (xV z146), (xV z154), (xV z155), (xV z157)])))) (fun z158 => (Q66 [(xI 1), (xI 0)] (fun z159 => (K0 [(xI 2), (xI 3)] [(xV z128), (xV z129), (xV z130), (xV z146), (xV z154), (xV z158), (xV z159)])) (fun z160 => (K0 [(xI 2), (xI 3)] [(xV z128), (xV z129), (xV z130), (xV z146), (xV z154), (xV z158), (xV z160)])))))))))) (fun z161 => (Q66 [(xI (-1)), (xI 1)] (fun z162 => (Q66 [(xI (-4)), (xI 3)] (fun z163 => (Q66 [(xI (-7)), (xI 5)] (fun z164 => (Q66 [(xI 1), (xI 0)] (fun z165 => (K0 [(xI 2), (xI 3)] [(xV z128), (xV z129), (xV z161), (xV z162), (xV z163), (xV z164), (xV z165)])) (fun z166 => (K0 [(xI 2), (xI 3)] [(xV z128), (xV z129), (xV z161), (xV z162), (xV z163), (xV z164), (xV z166)])))) (fun z167 => (Q66 [(xI 1), (xI 0)] (fun z168 => (K0 [(xI 2), (xI 3)] [(xV z128), (xV z129), (xV z161), (xV z162), (xV z163), (xV z167), (xV z168)])) (fun z169 => (K0 [(xI 2), (xI 3)] [(xV z128), (xV z129), (xV z161), (xV z162), (xV z163), (xV z167), (xV z169)])))))) (fun z170 => (Q66 [(xI (-7)), (xI 5)] (fun z171 => (Q66 [(xI 1), (xI 0)] (fun z172 => (K0 [(xI 2), (xI 3)] [(xV z128), (xV z129), (xV z161), (xV z162), (xV z170), (xV z171), (xV z172)])) (fun z173 => (K0 [(xI 2), (xI 3)] [(xV z128), (xV z129), (xV z161), (xV z162), (xV z170), (xV z171), (xV z173)])))) (fun z174 => (Q66 [(xI 1), (xI 0)] (fun z175 => (K0 [(xI 2), (xI 3)] [(xV z128), (xV z129), (xV z161), (xV z162), (xV z170), (xV z174), (xV z175)])) (fun z176 => (K0 [(xI 2), (xI 3)] [(xV z128), (xV z129), (xV z161), (xV z162), (xV z170), (xV z174), (xV z176)])))))))) (fun z177 => (Q66 [(xI (-4)), (xI 3)] (fun z178 => (Q66 [(xI (-7)), (xI 5)] (fun z179 => (Q66 [(xI 1), (xI 0)] (fun z180 => (K0 [(xI 2), (xI 3)] [(xV z128), (xV z129), (xV z161), (xV z177), (xV z178), (xV z179), (xV z180)])) (fun z181 => (K0 [(xI 2), (xI 3)] [(xV z128), (xV z129), (xV z161), (xV z177), (xV z178), (xV z179), (xV z181)])))) (fun z182 => (Q66 [(xI 1), (xI 0)] (fun z183 => (K0 [(xI 2), (xI 3)] [(xV z128), (xV z129), (xV z161), (xV z177), (xV z178), (xV z182), (xV z183)])) (fun z184 => (K0 [(xI 2), (xI 3)] [(xV z128), (xV z129), (xV z161), (xV z177), (xV z178), (xV z182), (xV z184)])))))) (fun z185 => (Q66 [(xI (-7)), (xI 5)] (fun z186 => (Q66 [(xI 1), (xI 0)] (fun z187 => (K0 [(xI 2), (xI 3)] [(xV z128), (xV z129), (xV z161), (xV z177), (xV z185), (xV z186), (xV z187)])) (fun z188 => (K0 [(xI 2), (xI 3)] [(xV z128), (xV z129), (xV z161), (xV z177), (xV z185), (xV z186), (xV z188)])))) (fun z189 => (Q66 [(xI 1), (xI 0)] (fun z190 => (K0 [(xI 2), (xI 3)] [(xV z128), (xV z129), (xV z161), (xV z177), (xV z185), (xV z189), (xV z190)])) (fun z191 => (K0 [(xI 2), (xI 3)] [(xV z128), (xV z129), (xV z161), (xV z177), (xV z185), (xV z189), (xV z191)])))))))))))) (fun z192 => (Q66 [(xI 2), (xI (-1))] (fun z193 => (Q66 [(xI (-1)), (xI 1)] (fun z194 => (Q66 [(xI (-4)), (xI 3)] (fun z195 => (Q66 [(xI (-7)), (xI 5)] (fun z196 => (Q66 [(xI 1), (xI 0)] (fun z197 => (K0 [(xI 2), (xI 3)] [(xV z128), (xV z192), (xV z193), (xV z194), (xV z195), (xV z196), (xV z197)])) (fun z198 => (K0 [(xI 2), (xI 3)] [(xV z128), (xV z192), (xV z193), (xV z194), (xV z195), (xV z196), (xV z198)])))) (fun z199 => (Q66 [(xI 1), (xI 0)] (fun z200 => (K0 [(xI 2), (xI 3)] [(xV z128), (xV z192), (xV z193), (xV z194), (xV z195), (xV z199), (xV z200)])) (fun z201 => (K0 [(xI 2), (xI 3)] [(xV z128), (xV z192), (xV z193), (xV z194), (xV z195), (xV z199), (xV z201)])))))) (fun z202 => (Q66 [(xI (-7)), (xI 5)] (fun z203 => (Q66 [(xI 1), (xI 0)] (fun z204 => (K0 [(xI 2), (xI 3)] [(xV z128), (xV z192), (xV z193), (xV z194), (xV z202), (xV z203), (xV z204)])) (fun z205 => (K0 [(xI 2), (xI 3)] [(xV z128), (xV z192), (xV z193), (xV z194), (xV z202), (xV z203), (xV z205)])))) (fun z206 => (Q66 [(xI 1), (xI 0)] (fun z207 => (K0 [(xI 2), (xI 3)] [(xV z128), (xV z192), (xV z193), (xV z194), (xV z202), (xV z206), (xV z207)])) (fun z208 => (K0 [(xI 2), (xI 3)] [(xV z128), (xV z192), (xV z193), (xV z194), (xV z202), (xV z206), (xV z208)])))))))) (fun z209 => (Q66 [(xI (-4)), (xI 3)] (fun z210 => (Q66 [(xI (-7)), (xI 5)] (fun z211 => (Q66 [(xI 1), (xI 0)] (fun z212 => (K0 [(xI 2), (xI 3)] [(xV z128), (xV z192), (xV z193), (xV z209), (xV z210), (xV z211), (xV z212)])) (fun z213 => (K0 [(xI 2), (xI 3)] [(xV z128), (xV z192), (xV z193), (xV z209), (xV z210), (xV z211), (xV z213)])))) (fun z214 => (Q66 [(xI 1), (xI 0)] (fun z215 => (K0 [(xI 2), (xI 3)] [(xV z128), (xV z192), (xV z193), (xV z209), (xV z210), (xV z214), (xV z215)])) (fun z216 => (K0 [(xI 2), (xI 3)] [(xV z128), (xV z192), (xV z193), (xV z209), (xV z210), (xV z214), (xV z216)])))))) (fun z217 => (Q66 [(xI (-7)), (xI 5)] (fun z218 => (Q66 [(xI 1), (xI 0)] (fun z219 => (K0 [(xI 2), (xI 3)] [(xV z128), (xV z192), (xV z193), (xV z209), (xV z217), (xV z218), (xV z219)])) (fun z220 => (K0 [(xI 2), (xI 3)] [(xV z128), (xV z192), (xV z193), (xV z209), (xV z217), (xV z218), (xV z220)])))) (fun z221 => (Q66 [(xI 1), (xI 0)] (fun z222 => (K0 [(xI 2), (xI 3)] [(xV z128), (xV z192), (xV z193), (xV z209), (xV z217), (xV z221), (xV z222)])) (fun z223 => (K0 [(xI 2), (xI 3)] [(xV z128), (xV z192), (xV z193), (xV z209), (xV z217), (xV z221), (xV z223)])))))))))) (fun z224 => (Q66 [(xI (-1)), (xI 1)] (fun z225 => (Q66 [(xI (-4)), (xI 3)] (fun z226 => (Q66 [(xI (-7)), (xI 5)] (fun z227 => (Q66 [(xI 1), (xI 0)] (fun z228 => (K0 [(xI 2), (xI 3)] [(xV z128), (xV z192), (xV z224), (xV z225), (xV z226), (xV z227), (xV z228)])) (fun z229 => (K0 [(xI 2), (xI 3)] [(xV z128), (xV z192), (xV z224), (xV z225), (xV z226), (xV z227), (xV z229)])))) (fun z230 => (Q66 [(xI 1), (xI 0)] (fun z231 => (K0 [(xI 2), (xI 3)] [(xV z128), (xV z192), (xV z224), (xV z225), (xV z226), (xV z230), (xV z231)])) (fun z232 => (K0 [(xI 2), (xI 3)] [(xV z128), (xV z192), (xV z224), (xV z225), (xV z226), (xV z230), (xV z232)])))))) (fun z233 => (Q66 [(xI (-7)), (xI 5)] (fun z234 => (Q66 [(xI 1), (xI 0)] (fun z235 => (K0 [(xI 2), (xI 3)] [(xV z128), (xV z192), (xV z224), (xV z225), (xV z233), (xV z234), (xV z235)])) (fun z236 => (K0 [(xI 2), (xI 3)] [(xV z128), (xV z192), (xV z224), (xV z225), (xV z233), (xV z234), (xV z236)])))) (fun z237 => (Q66 [(xI 1), (xI 0)] (fun z238 => (K0 [(xI 2), (xI 3)] [(xV z128), (xV z192), (xV z224), (xV z225), (xV z233), (xV z237), (xV z238)])) (fun z239 => (K0 [(xI 2), (xI 3)] [(xV z128), (xV z192), (xV z224), (xV z225), (xV z233), (xV z237), (xV z239)])))))))) (fun z240 => (Q66 [(xI (-4)), (xI 3)] (fun z241 => (Q66 [(xI (-7)), (xI 5)] (fun z242 => (Q66 [(xI 1), (xI 0)] (fun z243 => (K0 [(xI 2), (xI 3)] [(xV z128), (xV z192), (xV z224), (xV z240), (xV z241), (xV z242), (xV z243)])) (fun z244 => (K0 [(xI 2), (xI 3)] [(xV z128), (xV z192), (xV z224), (xV z240), (xV z241), (xV z242), (xV z244)])))) (fun z245 => (Q66 [(xI 1), (xI 0)] (fun z246 => (K0 [(xI 2), (xI 3)] [(xV z128), (xV z192), (xV z224), (xV z240), (xV z241), (xV z245), (xV z246)])) (fun z247 => (K0 [(xI 2), (xI 3)] [(xV z128), (xV z192), (xV z224), (xV z240), (xV z241), (xV z245), (xV z247)])))))) (fun z248 => (Q66 [(xI (-7)), (xI 5)] (fun z249 => (Q66 [(xI 1), (xI 0)] (fun z250 => (K0 [(xI 2), (xI 3)] [(xV z128), (xV z192), (xV z224), (xV z240), (xV z248), (xV z249), (xV z250)])) (fun z251 => (K0 [(xI 2), (xI 3)] [(xV z128), (xV z192), (xV z224), (xV z240), (xV z248), (xV z249), (xV z251)])))) (fun z252 => (Q66 [(xI 1), (xI 0)] (fun z253 => (K0 [(xI 2), (xI 3)] [(xV z128), (xV z192), (xV z224), (xV z240), (xV z248), (xV z252), (xV z253)])) (fun z254 => (K0 [(xI 2), (xI 3)] [(xV z128), (xV z192), (xV z224), (xV z240), (xV z248), (xV z252), (xV z254)])))))))))))))))
noncomputable def Q33 := hide G33
theorem Q33_def : Q33 = G33 := hide_eq _
noncomputable def F33 : FT := fun l K => wA .pe (fun _ => Q33  (fun z0_0 z0_1 => K (.one (.p (xA [(xV z0_0), (xV z0_1)]))))) false l
noncomputable def Γ16 : Oracle := addF 33 F33 Γ15
noncomputable def B94_0 : Code := bdL 0 (loops 0 (bdF Tryz.f94))
noncomputable def St94_0_0 (r0 : Int -> Int -> Bool) (e0 : Bool -> Bool) (e1 : Bool) (n0 n1 : Int) : Bool := (bif (decide ((wI (n1 * n1)) <= n0)) then (bif (n1 == 0) then false else (bif ((Int.tmod n0 n1) == 0) then (e0 false) else (r0 n0 (wI (n1 + 1))))) else e1)
noncomputable def LP94_0 (e0 : Bool -> Bool) (e1 : Bool) : Nat -> (Int -> Int -> Bool)
 | 0 => ((fun _ _ => false))
 | n + 1 => (St94_0_0 ((LP94_0 e0 e1 n)) e0 e1)
noncomputable def L94_0_0 (e0 : Bool -> Bool) (e1 : Bool) (n : Nat) : Int -> Int -> Bool := (LP94_0 e0 e1 n)
noncomputable def Λ94_0 : LOracle := mkΛ []
noncomputable def Rn94_0 : List LVal -> List LObj -> KX -> Bool := run E Γ16 Λ94_0 0 B94_0
noncomputable def X94_0_0 (K : KX) (y0 : Bool) : Bool := K .ret (tl 21 [(2, (.p (xB y0)))]) []
noncomputable def X94_0_1 (K : KX)  : Bool := K (.exit 0) (tl 21 []) []
noncomputable def T94_0_0 (n0 n1 : Int) : List LVal := (tl 21 [(0, (.p (xI n0))), (3, (.p (xI n1)))])
noncomputable def S94_0_0 (n0 n1 : Int) : List LObj := []
noncomputable def Ent94_0 : LEnt := ⟨0, [0, 3], fun T σ K => (wT (.tp (.pi .i64) (.tu 2 (.tp (.pi .i64) (.tu 17 .te)))) .se (fun (x0, x1, _) _ => L94_0_0 (X94_0_0 K) (X94_0_1 K) fuel x0 x1) false T σ)⟩
noncomputable def G94 (a0 : Int) (K0 : Bool -> Bool) : Bool :=
 (bif (decide (a0 < 2)) then (K0 false) else (bif (decide (a0 > 97)) then (K0 false) else (L94_0_0 (fun y1 => (K0 y1)) ((K0 true)) fuel a0 2)))
noncomputable def Q94 := hide G94
theorem Q94_def : Q94 = G94 := hide_eq _
noncomputable def F94 : FT := fun l K => wA (.ps (.pi .i64) .pe) (fun (a0, _) => Q94 a0 (fun z0 => K (.one (.p (xB z0))))) false l
noncomputable def Γ17 : Oracle := addF 94 F94 Γ16
noncomputable def B64_1 : Code := bdL 1 (loops 0 (bdF Tryz.f64))
noncomputable def St64_1_0 (r0 : PL -> PL -> Int -> Int -> Bool) (e0 : Int -> Bool) (e1 : Bool) (l0 l1 : PL) (n2 n3 : Int) : Bool := (bif (decide (n3 < n2)) then (gd (decide (0 <= n3)) (oOpt (l1[(n3).toNat]?) fun u1 => (oInt .i64 u1 fun n2v => (Q94 n2v (fun z3 => (bif (!z3) then (e0 25) else (bif (decide (n3 > 0)) then (gd (decide (0 <= (wI (n3 - 1)))) (oOpt (l0[((wI (n3 - 1))).toNat]?) fun u4 => (oInt .i64 u4 fun n5v => (bif (decide (n2v <= n5v)) then (e0 6) else (r0 l0 l1 n2 (wI (n3 + 1))))))) else (r0 l0 l1 n2 (wI (n3 + 1)))))))))) else e1)
noncomputable def LP64_1 (e0 : Int -> Bool) (e1 : Bool) : Nat -> (PL -> PL -> Int -> Int -> Bool)
 | 0 => ((fun _ _ _ _ => false))
 | n + 1 => (St64_1_0 ((LP64_1 e0 e1 n)) e0 e1)
noncomputable def L64_1_0 (e0 : Int -> Bool) (e1 : Bool) (n : Nat) : PL -> PL -> Int -> Int -> Bool := (LP64_1 e0 e1 n)
noncomputable def Λ64_1 : LOracle := mkΛ []
noncomputable def Rn64_1 : List LVal -> List LObj -> KX -> Bool := run E Γ17 Λ64_1 1 B64_1
noncomputable def X64_1_0 (K : KX) (y0 : Int) : Bool := K .ret (tl 35 [(2, (.p (xI y0)))]) []
noncomputable def X64_1_1 (K : KX)  : Bool := K (.exit 1) (tl 35 []) []
noncomputable def T64_1_0 (l0 l1 : PL) (n2 n3 : Int) : List LVal := (tl 35 [(0, (.p (xV l0))), (13, (.p (xV l1))), (14, (.p (xI n2))), (15, (.p (xI n3)))])
noncomputable def S64_1_0 (l0 l1 : PL) (n2 n3 : Int) : List LObj := []
noncomputable def Ent64_1 : LEnt := ⟨1, [0, 13, 14, 15], fun T σ K => (wT (.tp .pl (.tu 12 (.tp .pl (.tp (.pi .i64) (.tp (.pi .i64) (.tu 19 .te)))))) .se (fun (x0, x1, x2, x3, _) _ => L64_1_0 (X64_1_0 K) (X64_1_1 K) fuel x0 x1 x2 x3) false T σ)⟩
noncomputable def G64 (a0 : PL) (K0 : Int -> Bool) : Bool :=
 (bif ((nI a0.length) == 0) then (K0 13) else (bif (decide ((nI a0.length) > 6)) then (K0 4) else (L64_1_0 (fun y6 => (K0 y6)) ((K0 0)) fuel a0 a0 (nI a0.length) 0)))
noncomputable def Q64 := hide G64
theorem Q64_def : Q64 = G64 := hide_eq _
noncomputable def F64 : FT := fun l K => wA (.ps .pl .pe) (fun (a0, _) => Q64 a0 (fun z0 => K (.one (.p (xI z0))))) false l
noncomputable def Γ18 : Oracle := addF 64 F64 Γ17
noncomputable def G82 (a0 : Int) (K0 : ByteArray -> Bool) : Bool :=
 (H112 a0 (fun z1 => (K0 z1)))
noncomputable def Q82 := hide G82
theorem Q82_def : Q82 = G82 := hide_eq _
noncomputable def F82 : FT := fun l K => wA (.ps (.pi .i64) .pe) (fun (a0, _) => Q82 a0 (fun z0 => K (.one (.p (xZ z0))))) false l
noncomputable def Γ19 : Oracle := addF 82 F82 Γ18
noncomputable def G45 (a0 : Int) (K0 : ByteArray -> ByteArray -> Bool) : Bool :=
 (Q82 a0 (fun z1 => (K0 z1 s_31)))
noncomputable def Q45 := hide G45
theorem Q45_def : Q45 = G45 := hide_eq _
noncomputable def F45 : FT := fun l K => wA (.ps (.pi .i64) .pe) (fun (a0, _) => Q45 a0 (fun z0_0 z0_1 => K (.one (.p (xA [(xZ z0_0), (xZ z0_1)]))))) false l
noncomputable def Γ20 : Oracle := addF 45 F45 Γ19
noncomputable def B110_0 : Code := bdL 0 (loops 0 (bdF Tryz.f110))
noncomputable def St110_0_0 (r0 : Int -> Int -> PL -> Bool) (e0 : PL -> Bool) (n0 n1 : Int) (l2 : PL) : Bool := (bif (decide (n1 < n0)) then (Q45 0 (fun z1 z2 => (gd (decide (0 <= n1) && decide (n1 < (nI l2.length))) (gd (decide ((n1).toNat < l2.length)) (r0 n0 (wI (n1 + 1)) (l2.set (n1).toNat (xA [(xZ z1), (xZ z2)]))))))) else (e0 l2))
noncomputable def LP110_0 (e0 : PL -> Bool) : Nat -> (Int -> Int -> PL -> Bool)
 | 0 => ((fun _ _ _ => false))
 | n + 1 => (St110_0_0 ((LP110_0 e0 n)) e0)
noncomputable def L110_0_0 (e0 : PL -> Bool) (n : Nat) : Int -> Int -> PL -> Bool := (LP110_0 e0 n)
noncomputable def Λ110_0 : LOracle := mkΛ []
noncomputable def Rn110_0 : List LVal -> List LObj -> KX -> Bool := run E Γ20 Λ110_0 0 B110_0
noncomputable def X110_0_0 (K : KX) (y0 : PL) : Bool := K (.exit 0) (tl 18 [(3, (.own 0))]) [(.buf false 78 2 y0)]
noncomputable def T110_0_0 (n0 n1 : Int) (l2 : PL) : List LVal := (tl 18 [(3, (.own 0)), (8, (.p (xI n0))), (9, (.p (xI n1)))])
noncomputable def S110_0_0 (n0 n1 : Int) (l2 : PL) : List LObj := [(.buf false 78 2 l2)]
noncomputable def Ent110_0 : LEnt := ⟨0, [3, 8, 9], fun T σ K => (wT (.tu 3 (.to 0 (.tu 4 (.tp (.pi .i64) (.tp (.pi .i64) (.tu 8 .te)))))) (.sf false 78 2 .se) (fun (x0, x1, _) (x2, _) => L110_0_0 (X110_0_0 K) fuel x0 x1 x2) false T σ)⟩
noncomputable def G110 (a0 : Int) (K0 : PL -> Bool) : Bool :=
 (gd (decide (0 <= a0) && decide (a0 <= a0) && decide (a0 <= 1073741824)) (L110_0_0 (fun y3 => (K0 y3)) fuel (nI ((List.replicate (a0).toNat (xA [(xZ s_e), (xZ s_e)])).length)) 0 (List.replicate (a0).toNat (xA [(xZ s_e), (xZ s_e)]))))
noncomputable def Q110 := hide G110
theorem Q110_def : Q110 = G110 := hide_eq _
noncomputable def F110 : FT := fun l K => wA (.ps (.pi .i64) .pe) (fun (a0, _) => Q110 a0 (fun z0 => K (.one (.fresh 78 2 z0)))) false l
noncomputable def Γ21 : Oracle := addF 110 F110 Γ20
noncomputable def G91 (a0 : PL) (K0 : PL -> Int -> Bool) : Bool :=
 (Q64 a0 (fun z1 => (bif (z1 != 0) then (K0 [] z1) else (Q110 (nI a0.length) (fun z2 => (K0 z2 0))))))
noncomputable def Q91 := hide G91
theorem Q91_def : Q91 = G91 := hide_eq _
noncomputable def F91 : FT := fun l K => wA (.ps .pl .pe) (fun (a0, _) => Q91 a0 (fun z0 z1 => K (.tup [(.p (xV z0)), (.p (xI z1))]))) false l
noncomputable def Γ22 : Oracle := addF 91 F91 Γ21
noncomputable def G151 (a0 : ByteArray) (K0 : Bool -> ByteArray -> Bool) : Bool :=
 (bif (decide ((nI a0.size) > 0)) then (oByte (a0[0]?) fun u1v => (bif (((u1v.toNat : Nat) : Int) == 45) then (gd (decide (1 <= a0.size) && decide (a0.size <= a0.size)) (K0 true (a0.extract 1 a0.size))) else (K0 false a0))) else (K0 false a0))
noncomputable def Q151 := hide G151
theorem Q151_def : Q151 = G151 := hide_eq _
noncomputable def F151 : FT := fun l K => wA (.ps .pz .pe) (fun (a0, _) => Q151 a0 (fun z0 z1 => K (.tup [(.p (xB z0)), (.p (xZ z1))]))) false l
noncomputable def Γ23 : Oracle := addF 151 F151 Γ22
noncomputable def Hand187 (W0 : World) : Prop := ∀ (a0 : ByteArray) (K : RRes -> Bool), H187 a0 (fun z0 => K (.one (.p (xB z0)))) = true -> ∃ r, Pure Tryz.prog W0 187 [(xZ a0)] r /\ K r = true
noncomputable def F187 : FT := fun l K => wA (.ps .pz .pe) (fun (a0, _) => H187 a0 (fun z0 => K (.one (.p (xB z0))))) false l
noncomputable def Γ24 : Oracle := addF 187 F187 Γ23
noncomputable def G152 (a0 : ByteArray) (K0 : Int -> Bool) : Bool :=
 (H187 a0 (fun z1 => (bif (!z1) then (K0 2) else (bif (decide ((nI a0.size) > 400)) then (K0 2) else (K0 0)))))
noncomputable def Q152 := hide G152
theorem Q152_def : Q152 = G152 := hide_eq _
noncomputable def F152 : FT := fun l K => wA (.ps .pz .pe) (fun (a0, _) => Q152 a0 (fun z0 => K (.one (.p (xI z0))))) false l
noncomputable def Γ25 : Oracle := addF 152 F152 Γ24
noncomputable def G105 (a0 : ByteArray) (K0 : Int -> Bool) : Bool :=
 (Q151 a0 (fun z1 z2 => (bif z1 then (bif (z2.toList == s_30.toList) then (K0 2) else (Q152 z2 (fun z3 => (bif (z3 != 0) then (K0 2) else (K0 0))))) else (Q152 z2 (fun z4 => (bif (z4 != 0) then (K0 2) else (K0 0)))))))
noncomputable def Q105 := hide G105
theorem Q105_def : Q105 = G105 := hide_eq _
noncomputable def F105 : FT := fun l K => wA (.ps .pz .pe) (fun (a0, _) => Q105 a0 (fun z0 => K (.one (.p (xI z0))))) false l
noncomputable def Γ26 : Oracle := addF 105 F105 Γ25
noncomputable def G106 (a0 : ByteArray) (K0 : Int -> Bool) : Bool :=
 (bif (a0.toList == s_30.toList) then (K0 0) else (oByte (a0[0]?) fun u1v => (bif (((u1v.toNat : Nat) : Int) == 45) then (K0 (-1)) else (K0 1))))
noncomputable def Q106 := hide G106
theorem Q106_def : Q106 = G106 := hide_eq _
noncomputable def F106 : FT := fun l K => wA (.ps .pz .pe) (fun (a0, _) => Q106 a0 (fun z0 => K (.one (.p (xI z0))))) false l
noncomputable def Γ27 : Oracle := addF 106 F106 Γ26
noncomputable def G127 (a0 : ByteArray) (K0 : ByteArray -> Bool) : Bool :=
 (Q151 a0 (fun z1 z2 => (K0 z2)))
noncomputable def Q127 := hide G127
theorem Q127_def : Q127 = G127 := hide_eq _
noncomputable def F127 : FT := fun l K => wA (.ps .pz .pe) (fun (a0, _) => Q127 a0 (fun z0 => K (.one (.p (xZ z0))))) false l
noncomputable def Γ28 : Oracle := addF 127 F127 Γ27
noncomputable def G153 (a0 : ByteArray) (a1 : Int) (K0 : Int -> Bool -> Bool) : Bool :=
 (bif (decide ((nI a0.size) > a1)) then (K0 0 false) else (H149 a0 (fun z1 => (K0 z1 true))))
noncomputable def Q153 := hide G153
theorem Q153_def : Q153 = G153 := hide_eq _
noncomputable def F153 : FT := fun l K => wA (.ps .pz (.ps (.pi .i64) .pe)) (fun (a0, a1, _) => Q153 a0 a1 (fun z0 z1 => K (.tup [(.p (xI z0)), (.p (xB z1))]))) false l
noncomputable def Γ29 : Oracle := addF 153 F153 Γ28
noncomputable def B154_0 : Code := bdL 0 (loops 0 (bdF Tryz.f154))
noncomputable def St154_0_0 (r0 : Int -> Int -> Bool) (e0 : Int -> Bool) (n0 n1 : Int) : Bool := (bif (n1 != 0) then (bif (n1 == 0) then false else (r0 n1 (Int.tmod n0 n1))) else (e0 n0))
noncomputable def LP154_0 (e0 : Int -> Bool) : Nat -> (Int -> Int -> Bool)
 | 0 => ((fun _ _ => false))
 | n + 1 => (St154_0_0 ((LP154_0 e0 n)) e0)
noncomputable def L154_0_0 (e0 : Int -> Bool) (n : Nat) : Int -> Int -> Bool := (LP154_0 e0 n)
noncomputable def Λ154_0 : LOracle := mkΛ []
noncomputable def Rn154_0 : List LVal -> List LObj -> KX -> Bool := run E Γ29 Λ154_0 0 B154_0
noncomputable def X154_0_0 (K : KX) (y0 : Int) : Bool := K (.exit 0) (tl 12 [(0, (.p (xI y0)))]) []
noncomputable def T154_0_0 (n0 n1 : Int) : List LVal := (tl 12 [(0, (.p (xI n0))), (1, (.p (xI n1)))])
noncomputable def S154_0_0 (n0 n1 : Int) : List LObj := []
noncomputable def Ent154_0 : LEnt := ⟨0, [0, 1], fun T σ K => (wT (.tp (.pi .i64) (.tp (.pi .i64) (.tu 10 .te))) .se (fun (x0, x1, _) _ => L154_0_0 (X154_0_0 K) fuel x0 x1) false T σ)⟩
noncomputable def G154 (a0 a1 : Int) (K0 : Int -> Bool) : Bool :=
 (L154_0_0 (fun y1 => (K0 y1)) fuel a0 a1)
noncomputable def Q154 := hide G154
theorem Q154_def : Q154 = G154 := hide_eq _
noncomputable def F154 : FT := fun l K => wA (.ps (.pi .i64) (.ps (.pi .i64) .pe)) (fun (a0, a1, _) => Q154 a0 a1 (fun z0 => K (.one (.p (xI z0))))) false l
noncomputable def Γ30 : Oracle := addF 154 F154 Γ29
noncomputable def Hand246 (W0 : World) : Prop := ∀ (a0 : ByteArray) (a1 a2 : Int) (K : RRes -> Bool), H246 a0 a1 a2 (fun z0 => K (.tup [(.p (xJ .u64 z0)), (.p (.lit .nilIface))])) = true -> ∃ r, Pure Tryz.prog W0 246 [(xZ a0), (xI a1), (xI a2)] r /\ K r = true
noncomputable def F246 : FT := fun l K => wA (.ps .pz (.ps (.pi .i64) (.ps (.pi .i64) .pe))) (fun (a0, a1, a2, _) => H246 a0 a1 a2 (fun z0 => K (.tup [(.p (xJ .u64 z0)), (.p (.lit .nilIface))]))) false l
noncomputable def Γ31 : Oracle := addF 246 F246 Γ30
noncomputable def G229 (a0 : ByteArray) (K0 : Int -> Bool -> Bool) : Bool :=
 (H246 a0 10 64 (fun z1 => (K0 z1 true)))
noncomputable def Q229 := hide G229
theorem Q229_def : Q229 = G229 := hide_eq _
noncomputable def F229 : FT := fun l K => wA (.ps .pz .pe) (fun (a0, _) => Q229 a0 (fun z0 z1 => K (.tup [(.p (xJ .u64 z0)), (.p (xB z1))]))) false l
noncomputable def Γ32 : Oracle := addF 229 F229 Γ31
noncomputable def G196 (a0 a1 : ByteArray) (K0 : Int -> Int -> Bool -> Bool) : Bool :=
 (bif (decide ((nI a0.size) > 18)) then (K0 0 0 false) else (bif (decide ((nI a1.size) > 18)) then (K0 0 0 false) else (Q229 a0 (fun z1 z2 => (Q229 a1 (fun z3 z4 => (K0 z1 z3 true)))))))
noncomputable def Q196 := hide G196
theorem Q196_def : Q196 = G196 := hide_eq _
noncomputable def F196 : FT := fun l K => wA (.ps .pz (.ps .pz .pe)) (fun (a0, a1, _) => Q196 a0 a1 (fun z0 z1 z2 => K (.tup [(.p (xJ .u64 z0)), (.p (xJ .u64 z1)), (.p (xB z2))]))) false l
noncomputable def Γ33 : Oracle := addF 196 F196 Γ32
noncomputable def Hand230 (W0 : World) : Prop := ∀ (a0 a1 : Int) (K : RRes -> Bool), H230 a0 a1 (fun z0 => K (.one (.p (xZ z0)))) = true -> ∃ r, Pure Tryz.prog W0 230 [(xJ .u64 a0), (xI a1)] r /\ K r = true
noncomputable def F230 : FT := fun l K => wA (.ps (.pi .u64) (.ps (.pi .i64) .pe)) (fun (a0, a1, _) => H230 a0 a1 (fun z0 => K (.one (.p (xZ z0))))) false l
noncomputable def Γ34 : Oracle := addF 230 F230 Γ33
noncomputable def G197 (a0 : Int) (K0 : ByteArray -> Bool) : Bool :=
 (H230 a0 10 (fun z1 => (K0 z1)))
noncomputable def Q197 := hide G197
theorem Q197_def : Q197 = G197 := hide_eq _
noncomputable def F197 : FT := fun l K => wA (.ps (.pi .u64) .pe) (fun (a0, _) => Q197 a0 (fun z0 => K (.one (.p (xZ z0))))) false l
noncomputable def Γ35 : Oracle := addF 197 F197 Γ34
noncomputable def G188 (a0 a1 : ByteArray) (K0 : ByteArray -> ByteArray -> Int -> Bool) : Bool :=
 (bif (a1.toList == s_30.toList) then (K0 s_e s_e 17) else (Q196 a0 a1 (fun z1 z2 z3 => (bif z3 then (bif (z2 == 0) then false else (Q197 (IntKind.u64.wrap (Int.tdiv z1 z2)) (fun z4 => (bif (z2 == 0) then false else (Q197 (Int.tmod z1 z2) (fun z5 => (K0 z4 z5 0))))))) else false))))
noncomputable def Q188 := hide G188
theorem Q188_def : Q188 = G188 := hide_eq _
noncomputable def F188 : FT := fun l K => wA (.ps .pz (.ps .pz .pe)) (fun (a0, a1, _) => Q188 a0 a1 (fun z0 z1 z2 => K (.tup [(.p (xZ z0)), (.p (xZ z1)), (.p (xI z2))]))) false l
noncomputable def Γ36 : Oracle := addF 188 F188 Γ35
noncomputable def B155_0 : Code := bdL 0 (loops 0 (bdF Tryz.f155))
noncomputable def St155_0_0 (r0 : ByteArray -> ByteArray -> Bool) (e0 : ByteArray -> Bool) (e1 : ByteArray -> Bool) (s0 s1 : ByteArray) : Bool := (bif (!(s1.toList == s_30.toList)) then (Q188 s0 s1 (fun z1 z2 z3 => (bif (z3 != 0) then (e0 s_e) else (r0 s1 z2)))) else (e1 s0))
noncomputable def LP155_0 (e0 : ByteArray -> Bool) (e1 : ByteArray -> Bool) : Nat -> (ByteArray -> ByteArray -> Bool)
 | 0 => ((fun _ _ => false))
 | n + 1 => (St155_0_0 ((LP155_0 e0 e1 n)) e0 e1)
noncomputable def L155_0_0 (e0 : ByteArray -> Bool) (e1 : ByteArray -> Bool) (n : Nat) : ByteArray -> ByteArray -> Bool := (LP155_0 e0 e1 n)
noncomputable def Λ155_0 : LOracle := mkΛ []
noncomputable def Rn155_0 : List LVal -> List LObj -> KX -> Bool := run E Γ36 Λ155_0 0 B155_0
noncomputable def X155_0_0 (K : KX) (y0 : ByteArray) : Bool := K .ret (tl 22 [(4, (.p (xZ y0)))]) []
noncomputable def X155_0_1 (K : KX) (y0 : ByteArray) : Bool := K (.exit 0) (tl 22 [(0, (.p (xZ y0)))]) []
noncomputable def T155_0_0 (s0 s1 : ByteArray) : List LVal := (tl 22 [(0, (.p (xZ s0))), (1, (.p (xZ s1)))])
noncomputable def S155_0_0 (s0 s1 : ByteArray) : List LObj := []
noncomputable def Ent155_0 : LEnt := ⟨0, [0, 1], fun T σ K => (wT (.tp .pz (.tp .pz (.tu 20 .te))) .se (fun (x0, x1, _) _ => L155_0_0 (X155_0_0 K) (X155_0_1 K) fuel x0 x1) false T σ)⟩
noncomputable def G155 (a0 a1 : ByteArray) (K0 : ByteArray -> Bool) : Bool :=
 (L155_0_0 (fun y4 => (K0 y4)) (fun y5 => (K0 y5)) fuel a0 a1)
noncomputable def Q155 := hide G155
theorem Q155_def : Q155 = G155 := hide_eq _
noncomputable def F155 : FT := fun l K => wA (.ps .pz (.ps .pz .pe)) (fun (a0, a1, _) => Q155 a0 a1 (fun z0 => K (.one (.p (xZ z0))))) false l
noncomputable def Γ37 : Oracle := addF 155 F155 Γ36
noncomputable def G107 (a0 a1 : ByteArray) (K0 : ByteArray -> Bool) : Bool :=
 (Q127 a0 (fun z1 => (Q127 a1 (fun z2 => (Q153 z1 18 (fun z3 z4 => (bif z4 then (Q153 z2 18 (fun z5 z6 => (bif z6 then (Q154 z3 z5 (fun z7 => (Q82 z7 (fun z8 => (K0 z8))))) else (Q155 z1 z2 (fun z9 => (K0 z9)))))) else (Q155 z1 z2 (fun z10 => (K0 z10))))))))))
noncomputable def Q107 := hide G107
theorem Q107_def : Q107 = G107 := hide_eq _
noncomputable def F107 : FT := fun l K => wA (.ps .pz (.ps .pz .pe)) (fun (a0, a1, _) => Q107 a0 a1 (fun z0 => K (.one (.p (xZ z0))))) false l
noncomputable def Γ38 : Oracle := addF 107 F107 Γ37
noncomputable def G79 (a0_0 a0_1 : ByteArray) (K0 : Int -> Bool) : Bool :=
 (Q105 a0_0 (fun z1 => (bif (z1 != 0) then (bif (z1 != 0) then (K0 2) else (Q106 a0_1 (fun z2 => (bif (decide (z2 <= 0)) then (bif (decide (z2 <= 0)) then (K0 2) else (K0 0)) else (Q107 a0_0 a0_1 (fun z3 => (bif (!(z3.toList == s_31.toList)) then (K0 2) else (K0 0)))))))) else (Q105 a0_1 (fun z4 => (bif (z4 != 0) then (K0 2) else (Q106 a0_1 (fun z5 => (bif (decide (z5 <= 0)) then (bif (decide (z5 <= 0)) then (K0 2) else (K0 0)) else (Q107 a0_0 a0_1 (fun z6 => (bif (!(z6.toList == s_31.toList)) then (K0 2) else (K0 0)))))))))))))
noncomputable def Q79 := hide G79
theorem Q79_def : Q79 = G79 := hide_eq _
noncomputable def F79 : FT := fun l K => wA (.ps (.pa (.ps .pz (.ps .pz .pe))) .pe) (fun ((a0_0, a0_1, _), _) => Q79 a0_0 a0_1 (fun z0 => K (.one (.p (xI z0))))) false l
noncomputable def Γ39 : Oracle := addF 79 F79 Γ38
noncomputable def G95 (a0_0 a0_1 : ByteArray) (K0 : Bool -> Bool) : Bool :=
 (Q127 a0_0 (fun z1 => (bif (decide ((nI z1.size) <= 30)) then (K0 (decide ((nI a0_1.size) <= 30))) else (K0 false))))
noncomputable def Q95 := hide G95
theorem Q95_def : Q95 = G95 := hide_eq _
noncomputable def F95 : FT := fun l K => wA (.ps (.pa (.ps .pz (.ps .pz .pe))) .pe) (fun ((a0_0, a0_1, _), _) => Q95 a0_0 a0_1 (fun z0 => K (.one (.p (xB z0))))) false l
noncomputable def Γ40 : Oracle := addF 95 F95 Γ39
noncomputable def B65_0 : Code := bdL 0 (loops 0 (bdF Tryz.f65))
noncomputable def St65_0_0 (r0 : PL -> Int -> Int -> Bool) (e0 : Int -> Bool) (e1 : Bool) (l0 : PL) (n1 n2 : Int) : Bool := (bif (decide (n2 < n1)) then (gd (decide (0 <= n2)) (oOpt (l0[(n2).toNat]?) fun u1 => (oR u1 fun s2v s3v => (Q79 s2v s3v (fun z4 => (bif (z4 != 0) then (e0 2) else (Q95 s2v s3v (fun z5 => (bif (!z5) then (e0 4) else (r0 l0 n1 (wI (n2 + 1)))))))))))) else e1)
noncomputable def LP65_0 (e0 : Int -> Bool) (e1 : Bool) : Nat -> (PL -> Int -> Int -> Bool)
 | 0 => ((fun _ _ _ => false))
 | n + 1 => (St65_0_0 ((LP65_0 e0 e1 n)) e0 e1)
noncomputable def L65_0_0 (e0 : Int -> Bool) (e1 : Bool) (n : Nat) : PL -> Int -> Int -> Bool := (LP65_0 e0 e1 n)
noncomputable def Λ65_0 : LOracle := mkΛ []
noncomputable def Rn65_0 : List LVal -> List LObj -> KX -> Bool := run E Γ40 Λ65_0 0 B65_0
noncomputable def X65_0_0 (K : KX) (y0 : Int) : Bool := K .ret (tl 25 [(4, (.p (xI y0)))]) []
noncomputable def X65_0_1 (K : KX)  : Bool := K (.exit 0) (tl 25 []) []
noncomputable def T65_0_0 (l0 : PL) (n1 n2 : Int) : List LVal := (tl 25 [(12, (.p (xV l0))), (13, (.p (xI n1))), (14, (.p (xI n2)))])
noncomputable def S65_0_0 (l0 : PL) (n1 n2 : Int) : List LObj := []
noncomputable def Ent65_0 : LEnt := ⟨0, [12, 13, 14], fun T σ K => (wT (.tu 12 (.tp .pl (.tp (.pi .i64) (.tp (.pi .i64) (.tu 10 .te))))) .se (fun (x0, x1, x2, _) _ => L65_0_0 (X65_0_0 K) (X65_0_1 K) fuel x0 x1 x2) false T σ)⟩
noncomputable def G65 (a0 a1 : PL) (K0 : Int -> Bool) : Bool :=
 (bif ((nI a1.length) != (nI a0.length)) then (K0 5) else (L65_0_0 (fun y6 => (K0 y6)) ((K0 0)) fuel a1 (nI a1.length) 0))
noncomputable def Q65 := hide G65
theorem Q65_def : Q65 = G65 := hide_eq _
noncomputable def F65 : FT := fun l K => wA (.ps .pl (.ps .pl .pe)) (fun (a0, a1, _) => Q65 a0 a1 (fun z0 => K (.one (.p (xI z0))))) false l
noncomputable def Γ41 : Oracle := addF 65 F65 Γ40
noncomputable def G32 (a0 a1 : PL) (K0 : Int -> Bool) : Bool :=
 (Q64 a0 (fun z1 => (bif (z1 != 0) then (K0 z1) else (Q65 a0 a1 (fun z2 => (K0 z2))))))
noncomputable def Q32 := hide G32
theorem Q32_def : Q32 = G32 := hide_eq _
noncomputable def F32 : FT := fun l K => wA (.ps .pl (.ps .pl .pe)) (fun (a0, a1, _) => Q32 a0 a1 (fun z0 => K (.one (.p (xI z0))))) false l
noncomputable def Γ42 : Oracle := addF 32 F32 Γ41
noncomputable def B76_0 : Code := bdL 0 (loops 0 (bdF Tryz.f76))
noncomputable def St76_0_0 (r0 : PL -> PL -> Int -> Int -> Bool) (e0 : Int -> Bool) (e1 : Bool) (l0 l1 : PL) (n2 n3 : Int) : Bool := (bif (decide (n3 < n2)) then (gd (decide (0 <= n3)) (oOpt (l1[(n3).toNat]?) fun u2 => (oSl u2 fun p3 => (Q65 l0 p3 (fun z4 => (bif (z4 != 0) then (e0 z4) else (r0 l0 l1 n2 (wI (n3 + 1))))))))) else e1)
noncomputable def LP76_0 (e0 : Int -> Bool) (e1 : Bool) : Nat -> (PL -> PL -> Int -> Int -> Bool)
 | 0 => ((fun _ _ _ _ => false))
 | n + 1 => (St76_0_0 ((LP76_0 e0 e1 n)) e0 e1)
noncomputable def L76_0_0 (e0 : Int -> Bool) (e1 : Bool) (n : Nat) : PL -> PL -> Int -> Int -> Bool := (LP76_0 e0 e1 n)
noncomputable def Λ76_0 : LOracle := mkΛ []
noncomputable def Rn76_0 : List LVal -> List LObj -> KX -> Bool := run E Γ42 Λ76_0 0 B76_0
noncomputable def X76_0_0 (K : KX) (y0 : Int) : Bool := K .ret (tl 27 [(4, (.p (xI y0)))]) []
noncomputable def X76_0_1 (K : KX)  : Bool := K (.exit 0) (tl 27 []) []
noncomputable def T76_0_0 (l0 l1 : PL) (n2 n3 : Int) : List LVal := (tl 27 [(0, (.p (xV l0))), (14, (.p (xV l1))), (15, (.p (xI n2))), (16, (.p (xI n3)))])
noncomputable def S76_0_0 (l0 l1 : PL) (n2 n3 : Int) : List LObj := []
noncomputable def Ent76_0 : LEnt := ⟨0, [0, 14, 15, 16], fun T σ K => (wT (.tp .pl (.tu 13 (.tp .pl (.tp (.pi .i64) (.tp (.pi .i64) (.tu 10 .te)))))) .se (fun (x0, x1, x2, x3, _) _ => L76_0_0 (X76_0_0 K) (X76_0_1 K) fuel x0 x1 x2 x3) false T σ)⟩
noncomputable def G76 (a0 a1 : PL) (K0 : Int -> Bool) : Bool :=
 (Q64 a0 (fun z1 => (bif (z1 != 0) then (K0 z1) else (L76_0_0 (fun y5 => (K0 y5)) ((K0 0)) fuel a0 a1 (nI a1.length) 0))))
noncomputable def Q76 := hide G76
theorem Q76_def : Q76 = G76 := hide_eq _
noncomputable def F76 : FT := fun l K => wA (.ps .pl (.ps .pl .pe)) (fun (a0, a1, _) => Q76 a0 a1 (fun z0 => K (.one (.p (xI z0))))) false l
noncomputable def Γ43 : Oracle := addF 76 F76 Γ42
noncomputable def G169 (a0 : ByteArray) (K0 : Int -> Bool -> Bool) : Bool :=
 (bif (decide ((nI a0.size) > 9)) then (K0 0 false) else (H149 a0 (fun z1 => (K0 z1 true))))
noncomputable def Q169 := hide G169
theorem Q169_def : Q169 = G169 := hide_eq _
noncomputable def F169 : FT := fun l K => wA (.ps .pz .pe) (fun (a0, _) => Q169 a0 (fun z0 z1 => K (.tup [(.p (xI z0)), (.p (xB z1))]))) false l
noncomputable def Γ44 : Oracle := addF 169 F169 Γ43
noncomputable def G118 (a0_0 a0_1 : ByteArray) (K0 : Int -> Int -> Bool -> Bool) : Bool :=
 (Q169 a0_0 (fun z1 z2 => (Q169 a0_1 (fun z3 z4 => (bif z2 then (bif z4 then (K0 z1 z3 true) else (K0 z1 z3 false)) else (K0 z1 z3 false))))))
noncomputable def Q118 := hide G118
theorem Q118_def : Q118 = G118 := hide_eq _
noncomputable def F118 : FT := fun l K => wA (.ps (.pa (.ps .pz (.ps .pz .pe))) .pe) (fun ((a0_0, a0_1, _), _) => Q118 a0_0 a0_1 (fun z0 z1 z2 => K (.tup [(.p (xI z0)), (.p (xI z1)), (.p (xB z2))]))) false l
noncomputable def Γ45 : Oracle := addF 118 F118 Γ44
noncomputable def B119_0 : Code := bdL 0 (loops 0 (bdF Tryz.f119))
noncomputable def St119_0_0 (r0 : Int -> Int -> Int -> Int -> ByteArray -> ByteArray -> Bool) (e0 : Int -> Int -> Int -> ByteArray -> ByteArray -> Bool) (n0 n1 n2 n3 : Int) (s4 s5 : ByteArray) : Bool := (bif (n3 != 0) then (bif (n3 == 0) then false else (r0 n0 n1 n3 (Int.tmod n2 n3) s4 s5)) else (e0 n0 n1 n2 s4 s5))
noncomputable def LP119_0 (e0 : Int -> Int -> Int -> ByteArray -> ByteArray -> Bool) : Nat -> (Int -> Int -> Int -> Int -> ByteArray -> ByteArray -> Bool)
 | 0 => ((fun _ _ _ _ _ _ => false))
 | n + 1 => (St119_0_0 ((LP119_0 e0 n)) e0)
noncomputable def L119_0_0 (e0 : Int -> Int -> Int -> ByteArray -> ByteArray -> Bool) (n : Nat) : Int -> Int -> Int -> Int -> ByteArray -> ByteArray -> Bool := (LP119_0 e0 n)
noncomputable def Λ119_0 : LOracle := mkΛ []
noncomputable def Rn119_0 : List LVal -> List LObj -> KX -> Bool := run E Γ45 Λ119_0 0 B119_0
noncomputable def X119_0_0 (K : KX) (y0 y1 y2 : Int) (y3 y4 : ByteArray) : Bool := K (.exit 0) (tl 28 [(0, (.p (xI y0))), (1, (.p (xI y1))), (4, (.adr 0 0 0)), (5, (.p (xI y2)))]) [(.box false [(.p (xZ y3)), (.p (xZ y4))])]
noncomputable def T119_0_0 (n0 n1 n2 n3 : Int) (s4 s5 : ByteArray) : List LVal := (tl 28 [(0, (.p (xI n0))), (1, (.p (xI n1))), (4, (.adr 0 0 0)), (5, (.p (xI n2))), (6, (.p (xI n3)))])
noncomputable def S119_0_0 (n0 n1 n2 n3 : Int) (s4 s5 : ByteArray) : List LObj := [(.box false [(.p (xZ s4)), (.p (xZ s5))])]
noncomputable def Ent119_0 : LEnt := ⟨0, [0, 1, 4, 5, 6], fun T σ K => (wT (.tp (.pi .i64) (.tp (.pi .i64) (.tu 2 (.td 0 0 0 (.tp (.pi .i64) (.tp (.pi .i64) (.tu 21 .te))))))) (.sx false (.tp .pz (.tp .pz .te)) .se) (fun (x0, x1, x2, x3, _) ((x4, x5, _), _) => L119_0_0 (X119_0_0 K) fuel x0 x1 x2 x3 x4 x5) false T σ)⟩
noncomputable def G119 (a0 a1 : Int) (K0 : ByteArray -> ByteArray -> Bool) : Bool :=
 (L119_0_0 (fun y1 y2 y3 y4 y5 => (bif (decide (y3 < 0)) then (bif ((wI (0 - y3)) == 0) then false else (H112 (wI (Int.tdiv y1 (wI (0 - y3)))) (fun z6 => (bif ((wI (0 - y3)) == 0) then false else (H112 (wI (Int.tdiv y2 (wI (0 - y3)))) (fun z7 => (K0 z6 z7))))))) else (bif (y3 == 0) then false else (H112 (wI (Int.tdiv y1 y3)) (fun z8 => (bif (y3 == 0) then false else (H112 (wI (Int.tdiv y2 y3)) (fun z9 => (K0 z8 z9))))))))) fuel a0 a1 a0 a1 s_e s_e)
noncomputable def Q119 := hide G119
theorem Q119_def : Q119 = G119 := hide_eq _
noncomputable def F119 : FT := fun l K => wA (.ps (.pi .i64) (.ps (.pi .i64) .pe)) (fun (a0, a1, _) => Q119 a0 a1 (fun z0_0 z0_1 => K (.one (.p (xA [(xZ z0_0), (xZ z0_1)]))))) false l
noncomputable def Γ46 : Oracle := addF 119 F119 Γ45
noncomputable def G170 (a0 a1 : ByteArray) (K0 : ByteArray -> Bool) : Bool :=
 (bif (decide ((wI ((nI a0.size) + (nI a1.size))) <= 18)) then (Q196 a0 a1 (fun z1 z2 z3 => (Q197 (IntKind.u64.wrap (z1 * z2)) (fun z4 => (K0 z4))))) else false)
noncomputable def Q170 := hide G170
theorem Q170_def : Q170 = G170 := hide_eq _
noncomputable def F170 : FT := fun l K => wA (.ps .pz (.ps .pz .pe)) (fun (a0, a1, _) => Q170 a0 a1 (fun z0 => K (.one (.p (xZ z0))))) false l
noncomputable def Γ47 : Oracle := addF 170 F170 Γ46
noncomputable def G165 (a0 : Bool) (a1 : ByteArray) (K0 : ByteArray -> Bool) : Bool :=
 (bif a0 then (bif (!(a1.toList == s_30.toList)) then (gd (decide (s_2d.size + a1.size <= 1099511627776)) (K0 (s_2d ++ a1))) else (K0 a1)) else (K0 a1))
noncomputable def Q165 := hide G165
theorem Q165_def : Q165 = G165 := hide_eq _
noncomputable def F165 : FT := fun l K => wA (.ps .pb (.ps .pz .pe)) (fun (a0, a1, _) => Q165 a0 a1 (fun z0 => K (.one (.p (xZ z0))))) false l
noncomputable def Γ48 : Oracle := addF 165 F165 Γ47
noncomputable def G121 (a0 a1 : ByteArray) (K0 : ByteArray -> Bool) : Bool :=
 (Q153 a0 9 (fun z1 z2 => (bif z2 then (Q153 a1 9 (fun z3 z4 => (bif z4 then (Q82 (wI (z1 * z3)) (fun z5 => (K0 z5))) else (Q151 a0 (fun z6 z7 => (Q151 a1 (fun z8 z9 => (bif z6 then (bif z8 then (Q170 z7 z9 (fun z10 => (Q165 (!(true == true)) z10 (fun z11 => (K0 z11))))) else (Q170 z7 z9 (fun z12 => (Q165 (!(true == false)) z12 (fun z13 => (K0 z13)))))) else (bif z8 then (Q170 z7 z9 (fun z14 => (Q165 (!(false == true)) z14 (fun z15 => (K0 z15))))) else (Q170 z7 z9 (fun z16 => (Q165 (!(false == false)) z16 (fun z17 => (K0 z17)))))))))))))) else (Q151 a0 (fun z18 z19 => (Q151 a1 (fun z20 z21 => (bif z18 then (bif z20 then (Q170 z19 z21 (fun z22 => (Q165 (!(true == true)) z22 (fun z23 => (K0 z23))))) else (Q170 z19 z21 (fun z24 => (Q165 (!(true == false)) z24 (fun z25 => (K0 z25)))))) else (bif z20 then (Q170 z19 z21 (fun z26 => (Q165 (!(false == true)) z26 (fun z27 => (K0 z27))))) else (Q170 z19 z21 (fun z28 => (Q165 (!(false == false)) z28 (fun z29 => (K0 z29))))))))))))))
noncomputable def Q121 := hide G121
theorem Q121_def : Q121 = G121 := hide_eq _
noncomputable def F121 : FT := fun l K => wA (.ps .pz (.ps .pz .pe)) (fun (a0, a1, _) => Q121 a0 a1 (fun z0 => K (.one (.p (xZ z0))))) false l
noncomputable def Γ49 : Oracle := addF 121 F121 Γ48
noncomputable def G122 (a0 : ByteArray) (K0 : ByteArray -> Bool) : Bool :=
 (Q151 a0 (fun z1 z2 => (bif z1 then (Q165 false z2 (fun z3 => (K0 z3))) else (Q165 true z2 (fun z4 => (K0 z4))))))
noncomputable def Q122 := hide G122
theorem Q122_def : Q122 = G122 := hide_eq _
noncomputable def F122 : FT := fun l K => wA (.ps .pz .pe) (fun (a0, _) => Q122 a0 (fun z0 => K (.one (.p (xZ z0))))) false l
noncomputable def Γ50 : Oracle := addF 122 F122 Γ49
noncomputable def G159 (a0 a1 : ByteArray) (K0 : ByteArray -> ByteArray -> Int -> Bool) : Bool :=
 (bif (a1.toList == s_30.toList) then (K0 s_e s_e 17) else (Q153 a0 18 (fun z1 z2 => (bif z2 then (Q153 a1 18 (fun z3 z4 => (bif z4 then (bif (z3 == 0) then false else (bif (z3 == 0) then false else (bif ((Int.tmod z1 z3) != 0) then (bif (!((decide ((Int.tmod z1 z3) < 0)) == (decide (z3 < 0)))) then (Q82 (wI ((wI (Int.tdiv z1 z3)) - 1)) (fun z5 => (Q82 (wI ((Int.tmod z1 z3) + z3)) (fun z6 => (K0 z5 z6 0))))) else (Q82 (wI (Int.tdiv z1 z3)) (fun z7 => (Q82 (Int.tmod z1 z3) (fun z8 => (K0 z7 z8 0)))))) else (Q82 (wI (Int.tdiv z1 z3)) (fun z9 => (Q82 (Int.tmod z1 z3) (fun z10 => (K0 z9 z10 0)))))))) else (Q151 a0 (fun z11 z12 => (Q151 a1 (fun z13 z14 => (Q188 z12 z14 (fun z15 z16 z17 => (bif (z17 != 0) then (K0 s_e s_e z17) else (bif z11 then (bif z13 then (bif (!(true == true)) then (bif (!(z16.toList == s_30.toList)) then false else (bif z11 then (bif z13 then (Q165 (!(true == true)) z15 (fun z18 => (bif z13 then (Q165 true z16 (fun z19 => (K0 z18 z19 0))) else (Q165 false z16 (fun z20 => (K0 z18 z20 0)))))) else (Q165 (!(true == false)) z15 (fun z21 => (bif z13 then (Q165 true z16 (fun z22 => (K0 z21 z22 0))) else (Q165 false z16 (fun z23 => (K0 z21 z23 0))))))) else (bif z13 then (Q165 (!(false == true)) z15 (fun z24 => (bif z13 then (Q165 true z16 (fun z25 => (K0 z24 z25 0))) else (Q165 false z16 (fun z26 => (K0 z24 z26 0)))))) else (Q165 (!(false == false)) z15 (fun z27 => (bif z13 then (Q165 true z16 (fun z28 => (K0 z27 z28 0))) else (Q165 false z16 (fun z29 => (K0 z27 z29 0))))))))) else (bif z11 then (bif z13 then (Q165 (!(true == true)) z15 (fun z30 => (bif z13 then (Q165 true z16 (fun z31 => (K0 z30 z31 0))) else (Q165 false z16 (fun z32 => (K0 z30 z32 0)))))) else (Q165 (!(true == false)) z15 (fun z33 => (bif z13 then (Q165 true z16 (fun z34 => (K0 z33 z34 0))) else (Q165 false z16 (fun z35 => (K0 z33 z35 0))))))) else (bif z13 then (Q165 (!(false == true)) z15 (fun z36 => (bif z13 then (Q165 true z16 (fun z37 => (K0 z36 z37 0))) else (Q165 false z16 (fun z38 => (K0 z36 z38 0)))))) else (Q165 (!(false == false)) z15 (fun z39 => (bif z13 then (Q165 true z16 (fun z40 => (K0 z39 z40 0))) else (Q165 false z16 (fun z41 => (K0 z39 z41 0))))))))) else (bif (!(true == false)) then (bif (!(z16.toList == s_30.toList)) then false else (bif z11 then (bif z13 then (Q165 (!(true == true)) z15 (fun z42 => (bif z13 then (Q165 true z16 (fun z43 => (K0 z42 z43 0))) else (Q165 false z16 (fun z44 => (K0 z42 z44 0)))))) else (Q165 (!(true == false)) z15 (fun z45 => (bif z13 then (Q165 true z16 (fun z46 => (K0 z45 z46 0))) else (Q165 false z16 (fun z47 => (K0 z45 z47 0))))))) else (bif z13 then (Q165 (!(false == true)) z15 (fun z48 => (bif z13 then (Q165 true z16 (fun z49 => (K0 z48 z49 0))) else (Q165 false z16 (fun z50 => (K0 z48 z50 0)))))) else (Q165 (!(false == false)) z15 (fun z51 => (bif z13 then (Q165 true z16 (fun z52 => (K0 z51 z52 0))) else (Q165 false z16 (fun z53 => (K0 z51 z53 0))))))))) else (bif z11 then (bif z13 then (Q165 (!(true == true)) z15 (fun z54 => (bif z13 then (Q165 true z16 (fun z55 => (K0 z54 z55 0))) else (Q165 false z16 (fun z56 => (K0 z54 z56 0)))))) else (Q165 (!(true == false)) z15 (fun z57 => (bif z13 then (Q165 true z16 (fun z58 => (K0 z57 z58 0))) else (Q165 false z16 (fun z59 => (K0 z57 z59 0))))))) else (bif z13 then (Q165 (!(false == true)) z15 (fun z60 => (bif z13 then (Q165 true z16 (fun z61 => (K0 z60 z61 0))) else (Q165 false z16 (fun z62 => (K0 z60 z62 0)))))) else (Q165 (!(false == false)) z15 (fun z63 => (bif z13 then (Q165 true z16 (fun z64 => (K0 z63 z64 0))) else (Q165 false z16 (fun z65 => (K0 z63 z65 0)))))))))) else (bif z13 then (bif (!(false == true)) then (bif (!(z16.toList == s_30.toList)) then false else (bif z11 then (bif z13 then (Q165 (!(true == true)) z15 (fun z66 => (bif z13 then (Q165 true z16 (fun z67 => (K0 z66 z67 0))) else (Q165 false z16 (fun z68 => (K0 z66 z68 0)))))) else (Q165 (!(true == false)) z15 (fun z69 => (bif z13 then (Q165 true z16 (fun z70 => (K0 z69 z70 0))) else (Q165 false z16 (fun z71 => (K0 z69 z71 0))))))) else (bif z13 then (Q165 (!(false == true)) z15 (fun z72 => (bif z13 then (Q165 true z16 (fun z73 => (K0 z72 z73 0))) else (Q165 false z16 (fun z74 => (K0 z72 z74 0)))))) else (Q165 (!(false == false)) z15 (fun z75 => (bif z13 then (Q165 true z16 (fun z76 => (K0 z75 z76 0))) else (Q165 false z16 (fun z77 => (K0 z75 z77 0))))))))) else (bif z11 then (bif z13 then (Q165 (!(true == true)) z15 (fun z78 => (bif z13 then (Q165 true z16 (fun z79 => (K0 z78 z79 0))) else (Q165 false z16 (fun z80 => (K0 z78 z80 0)))))) else (Q165 (!(true == false)) z15 (fun z81 => (bif z13 then (Q165 true z16 (fun z82 => (K0 z81 z82 0))) else (Q165 false z16 (fun z83 => (K0 z81 z83 0))))))) else (bif z13 then (Q165 (!(false == true)) z15 (fun z84 => (bif z13 then (Q165 true z16 (fun z85 => (K0 z84 z85 0))) else (Q165 false z16 (fun z86 => (K0 z84 z86 0)))))) else (Q165 (!(false == false)) z15 (fun z87 => (bif z13 then (Q165 true z16 (fun z88 => (K0 z87 z88 0))) else (Q165 false z16 (fun z89 => (K0 z87 z89 0))))))))) else (bif (!(false == false)) then (bif (!(z16.toList == s_30.toList)) then false else (bif z11 then (bif z13 then (Q165 (!(true == true)) z15 (fun z90 => (bif z13 then (Q165 true z16 (fun z91 => (K0 z90 z91 0))) else (Q165 false z16 (fun z92 => (K0 z90 z92 0)))))) else (Q165 (!(true == false)) z15 (fun z93 => (bif z13 then (Q165 true z16 (fun z94 => (K0 z93 z94 0))) else (Q165 false z16 (fun z95 => (K0 z93 z95 0))))))) else (bif z13 then (Q165 (!(false == true)) z15 (fun z96 => (bif z13 then (Q165 true z16 (fun z97 => (K0 z96 z97 0))) else (Q165 false z16 (fun z98 => (K0 z96 z98 0)))))) else (Q165 (!(false == false)) z15 (fun z99 => (bif z13 then (Q165 true z16 (fun z100 => (K0 z99 z100 0))) else (Q165 false z16 (fun z101 => (K0 z99 z101 0))))))))) else (bif z11 then (bif z13 then (Q165 (!(true == true)) z15 (fun z102 => (bif z13 then (Q165 true z16 (fun z103 => (K0 z102 z103 0))) else (Q165 false z16 (fun z104 => (K0 z102 z104 0)))))) else (Q165 (!(true == false)) z15 (fun z105 => (bif z13 then (Q165 true z16 (fun z106 => (K0 z105 z106 0))) else (Q165 false z16 (fun z107 => (K0 z105 z107 0))))))) else (bif z13 then (Q165 (!(false == true)) z15 (fun z108 => (bif z13 then (Q165 true z16 (fun z109 => (K0 z108 z109 0))) else (Q165 false z16 (fun z110 => (K0 z108 z110 0)))))) else (Q165 (!(false == false)) z15 (fun z111 => (bif z13 then (Q165 true z16 (fun z112 => (K0 z111 z112 0))) else (Q165 false z16 (fun z113 => (K0 z111 z113 0))))))))))))))))))))) else (Q151 a0 (fun z114 z115 => (Q151 a1 (fun z116 z117 => (Q188 z115 z117 (fun z118 z119 z120 => (bif (z120 != 0) then (K0 s_e s_e z120) else (bif z114 then (bif z116 then (bif (!(true == true)) then (bif (!(z119.toList == s_30.toList)) then false else (bif z114 then (bif z116 then (Q165 (!(true == true)) z118 (fun z121 => (bif z116 then (Q165 true z119 (fun z122 => (K0 z121 z122 0))) else (Q165 false z119 (fun z123 => (K0 z121 z123 0)))))) else (Q165 (!(true == false)) z118 (fun z124 => (bif z116 then (Q165 true z119 (fun z125 => (K0 z124 z125 0))) else (Q165 false z119 (fun z126 => (K0 z124 z126 0))))))) else (bif z116 then (Q165 (!(false == true)) z118 (fun z127 => (bif z116 then (Q165 true z119 (fun z128 => (K0 z127 z128 0))) else (Q165 false z119 (fun z129 => (K0 z127 z129 0)))))) else (Q165 (!(false == false)) z118 (fun z130 => (bif z116 then (Q165 true z119 (fun z131 => (K0 z130 z131 0))) else (Q165 false z119 (fun z132 => (K0 z130 z132 0))))))))) else (bif z114 then (bif z116 then (Q165 (!(true == true)) z118 (fun z133 => (bif z116 then (Q165 true z119 (fun z134 => (K0 z133 z134 0))) else (Q165 false z119 (fun z135 => (K0 z133 z135 0)))))) else (Q165 (!(true == false)) z118 (fun z136 => (bif z116 then (Q165 true z119 (fun z137 => (K0 z136 z137 0))) else (Q165 false z119 (fun z138 => (K0 z136 z138 0))))))) else (bif z116 then (Q165 (!(false == true)) z118 (fun z139 => (bif z116 then (Q165 true z119 (fun z140 => (K0 z139 z140 0))) else (Q165 false z119 (fun z141 => (K0 z139 z141 0)))))) else (Q165 (!(false == false)) z118 (fun z142 => (bif z116 then (Q165 true z119 (fun z143 => (K0 z142 z143 0))) else (Q165 false z119 (fun z144 => (K0 z142 z144 0))))))))) else (bif (!(true == false)) then (bif (!(z119.toList == s_30.toList)) then false else (bif z114 then (bif z116 then (Q165 (!(true == true)) z118 (fun z145 => (bif z116 then (Q165 true z119 (fun z146 => (K0 z145 z146 0))) else (Q165 false z119 (fun z147 => (K0 z145 z147 0)))))) else (Q165 (!(true == false)) z118 (fun z148 => (bif z116 then (Q165 true z119 (fun z149 => (K0 z148 z149 0))) else (Q165 false z119 (fun z150 => (K0 z148 z150 0))))))) else (bif z116 then (Q165 (!(false == true)) z118 (fun z151 => (bif z116 then (Q165 true z119 (fun z152 => (K0 z151 z152 0))) else (Q165 false z119 (fun z153 => (K0 z151 z153 0)))))) else (Q165 (!(false == false)) z118 (fun z154 => (bif z116 then (Q165 true z119 (fun z155 => (K0 z154 z155 0))) else (Q165 false z119 (fun z156 => (K0 z154 z156 0))))))))) else (bif z114 then (bif z116 then (Q165 (!(true == true)) z118 (fun z157 => (bif z116 then (Q165 true z119 (fun z158 => (K0 z157 z158 0))) else (Q165 false z119 (fun z159 => (K0 z157 z159 0)))))) else (Q165 (!(true == false)) z118 (fun z160 => (bif z116 then (Q165 true z119 (fun z161 => (K0 z160 z161 0))) else (Q165 false z119 (fun z162 => (K0 z160 z162 0))))))) else (bif z116 then (Q165 (!(false == true)) z118 (fun z163 => (bif z116 then (Q165 true z119 (fun z164 => (K0 z163 z164 0))) else (Q165 false z119 (fun z165 => (K0 z163 z165 0)))))) else (Q165 (!(false == false)) z118 (fun z166 => (bif z116 then (Q165 true z119 (fun z167 => (K0 z166 z167 0))) else (Q165 false z119 (fun z168 => (K0 z166 z168 0)))))))))) else (bif z116 then (bif (!(false == true)) then (bif (!(z119.toList == s_30.toList)) then false else (bif z114 then (bif z116 then (Q165 (!(true == true)) z118 (fun z169 => (bif z116 then (Q165 true z119 (fun z170 => (K0 z169 z170 0))) else (Q165 false z119 (fun z171 => (K0 z169 z171 0)))))) else (Q165 (!(true == false)) z118 (fun z172 => (bif z116 then (Q165 true z119 (fun z173 => (K0 z172 z173 0))) else (Q165 false z119 (fun z174 => (K0 z172 z174 0))))))) else (bif z116 then (Q165 (!(false == true)) z118 (fun z175 => (bif z116 then (Q165 true z119 (fun z176 => (K0 z175 z176 0))) else (Q165 false z119 (fun z177 => (K0 z175 z177 0)))))) else (Q165 (!(false == false)) z118 (fun z178 => (bif z116 then (Q165 true z119 (fun z179 => (K0 z178 z179 0))) else (Q165 false z119 (fun z180 => (K0 z178 z180 0))))))))) else (bif z114 then (bif z116 then (Q165 (!(true == true)) z118 (fun z181 => (bif z116 then (Q165 true z119 (fun z182 => (K0 z181 z182 0))) else (Q165 false z119 (fun z183 => (K0 z181 z183 0)))))) else (Q165 (!(true == false)) z118 (fun z184 => (bif z116 then (Q165 true z119 (fun z185 => (K0 z184 z185 0))) else (Q165 false z119 (fun z186 => (K0 z184 z186 0))))))) else (bif z116 then (Q165 (!(false == true)) z118 (fun z187 => (bif z116 then (Q165 true z119 (fun z188 => (K0 z187 z188 0))) else (Q165 false z119 (fun z189 => (K0 z187 z189 0)))))) else (Q165 (!(false == false)) z118 (fun z190 => (bif z116 then (Q165 true z119 (fun z191 => (K0 z190 z191 0))) else (Q165 false z119 (fun z192 => (K0 z190 z192 0))))))))) else (bif (!(false == false)) then (bif (!(z119.toList == s_30.toList)) then false else (bif z114 then (bif z116 then (Q165 (!(true == true)) z118 (fun z193 => (bif z116 then (Q165 true z119 (fun z194 => (K0 z193 z194 0))) else (Q165 false z119 (fun z195 => (K0 z193 z195 0)))))) else (Q165 (!(true == false)) z118 (fun z196 => (bif z116 then (Q165 true z119 (fun z197 => (K0 z196 z197 0))) else (Q165 false z119 (fun z198 => (K0 z196 z198 0))))))) else (bif z116 then (Q165 (!(false == true)) z118 (fun z199 => (bif z116 then (Q165 true z119 (fun z200 => (K0 z199 z200 0))) else (Q165 false z119 (fun z201 => (K0 z199 z201 0)))))) else (Q165 (!(false == false)) z118 (fun z202 => (bif z116 then (Q165 true z119 (fun z203 => (K0 z202 z203 0))) else (Q165 false z119 (fun z204 => (K0 z202 z204 0))))))))) else (bif z114 then (bif z116 then (Q165 (!(true == true)) z118 (fun z205 => (bif z116 then (Q165 true z119 (fun z206 => (K0 z205 z206 0))) else (Q165 false z119 (fun z207 => (K0 z205 z207 0)))))) else (Q165 (!(true == false)) z118 (fun z208 => (bif z116 then (Q165 true z119 (fun z209 => (K0 z208 z209 0))) else (Q165 false z119 (fun z210 => (K0 z208 z210 0))))))) else (bif z116 then (Q165 (!(false == true)) z118 (fun z211 => (bif z116 then (Q165 true z119 (fun z212 => (K0 z211 z212 0))) else (Q165 false z119 (fun z213 => (K0 z211 z213 0)))))) else (Q165 (!(false == false)) z118 (fun z214 => (bif z116 then (Q165 true z119 (fun z215 => (K0 z214 z215 0))) else (Q165 false z119 (fun z216 => (K0 z214 z216 0))))))))))))))))))))))
noncomputable def Q159 := hide G159
theorem Q159_def : Q159 = G159 := hide_eq _
noncomputable def F159 : FT := fun l K => wA (.ps .pz (.ps .pz .pe)) (fun (a0, a1, _) => Q159 a0 a1 (fun z0 z1 z2 => K (.tup [(.p (xZ z0)), (.p (xZ z1)), (.p (xI z2))]))) false l
noncomputable def Γ51 : Oracle := addF 159 F159 Γ50
noncomputable def G120 (a0 a1 : ByteArray) (K0 : ByteArray -> ByteArray -> Bool) : Bool :=
 (Q106 a1 (fun z1 => (bif (decide (z1 < 0)) then (Q122 a0 (fun z2 => (Q122 a1 (fun z3 => (Q107 z2 z3 (fun z4 => (bif (!(z4.toList == s_31.toList)) then (Q159 z2 z4 (fun z5 z6 z7 => (Q159 z3 z4 (fun z8 z9 z10 => (K0 z5 z8))))) else (K0 z2 z3)))))))) else (Q107 a0 a1 (fun z11 => (bif (!(z11.toList == s_31.toList)) then (Q159 a0 z11 (fun z12 z13 z14 => (Q159 a1 z11 (fun z15 z16 z17 => (K0 z12 z15))))) else (K0 a0 a1)))))))
noncomputable def Q120 := hide G120
theorem Q120_def : Q120 = G120 := hide_eq _
noncomputable def F120 : FT := fun l K => wA (.ps .pz (.ps .pz .pe)) (fun (a0, a1, _) => Q120 a0 a1 (fun z0_0 z0_1 => K (.one (.p (xA [(xZ z0_0), (xZ z0_1)]))))) false l
noncomputable def Γ52 : Oracle := addF 120 F120 Γ51
noncomputable def G111 (a0_0 a0_1 a1_0 a1_1 : ByteArray) (K0 : ByteArray -> ByteArray -> Bool) : Bool :=
 (Q118 a0_0 a0_1 (fun z1 z2 z3 => (bif z3 then (Q118 a1_0 a1_1 (fun z4 z5 z6 => (bif z6 then (Q119 (wI (z1 * z4)) (wI (z2 * z5)) (fun z7 z8 => (K0 z7 z8))) else (Q121 a0_0 a1_0 (fun z9 => (Q121 a0_1 a1_1 (fun z10 => (Q120 z9 z10 (fun z11 z12 => (K0 z11 z12)))))))))) else (Q121 a0_0 a1_0 (fun z13 => (Q121 a0_1 a1_1 (fun z14 => (Q120 z13 z14 (fun z15 z16 => (K0 z15 z16))))))))))
noncomputable def Q111 := hide G111
theorem Q111_def : Q111 = G111 := hide_eq _
noncomputable def F111 : FT := fun l K => wA (.ps (.pa (.ps .pz (.ps .pz .pe))) (.ps (.pa (.ps .pz (.ps .pz .pe))) .pe)) (fun ((a0_0, a0_1, _), (a1_0, a1_1, _), _) => Q111 a0_0 a0_1 a1_0 a1_1 (fun z0_0 z0_1 => K (.one (.p (xA [(xZ z0_0), (xZ z0_1)]))))) false l
noncomputable def Γ53 : Oracle := addF 111 F111 Γ52
noncomputable def G117 (a0 a1 : ByteArray) (K0 : ByteArray -> Bool) : Bool :=
 (Q153 a0 18 (fun z1 z2 => (bif z2 then (Q153 a1 18 (fun z3 z4 => (bif z4 then (Q82 (wI (z1 + z3)) (fun z5 => (K0 z5))) else (Q151 a0 (fun z6 z7 => (Q151 a1 (fun z8 z9 => (bif z6 then (bif z8 then (bif (true == true) then (bif z6 then false else false) else false) else (bif (true == false) then (bif z6 then false else false) else false)) else (bif z8 then (bif (false == true) then (bif z6 then false else false) else false) else (bif (false == false) then (bif z6 then false else false) else false)))))))))) else (Q151 a0 (fun z10 z11 => (Q151 a1 (fun z12 z13 => (bif z10 then (bif z12 then (bif (true == true) then (bif z10 then false else false) else false) else (bif (true == false) then (bif z10 then false else false) else false)) else (bif z12 then (bif (false == true) then (bif z10 then false else false) else false) else (bif (false == false) then (bif z10 then false else false) else false))))))))))
noncomputable def Q117 := hide G117
theorem Q117_def : Q117 = G117 := hide_eq _
noncomputable def F117 : FT := fun l K => wA (.ps .pz (.ps .pz .pe)) (fun (a0, a1, _) => Q117 a0 a1 (fun z0 => K (.one (.p (xZ z0))))) false l
noncomputable def Γ54 : Oracle := addF 117 F117 Γ53
noncomputable def G89 (a0_0 a0_1 a1_0 a1_1 : ByteArray) (K0 : ByteArray -> ByteArray -> Bool) : Bool :=
 (bif (a0_1.toList == s_31.toList) then (bif (a1_1.toList == s_31.toList) then (Q117 a0_0 a1_0 (fun z1 => (K0 z1 s_31))) else (Q118 a0_0 a0_1 (fun z2 z3 z4 => (bif z4 then (Q118 a1_0 a1_1 (fun z5 z6 z7 => (bif z7 then (Q119 (wI ((wI (z2 * z6)) + (wI (z5 * z3)))) (wI (z3 * z6)) (fun z8 z9 => (K0 z8 z9))) else (Q121 a0_0 a1_1 (fun z10 => (Q121 a1_0 a0_1 (fun z11 => (Q117 z10 z11 (fun z12 => (Q121 a0_1 a1_1 (fun z13 => (Q120 z12 z13 (fun z14 z15 => (K0 z14 z15)))))))))))))) else (Q121 a0_0 a1_1 (fun z16 => (Q121 a1_0 a0_1 (fun z17 => (Q117 z16 z17 (fun z18 => (Q121 a0_1 a1_1 (fun z19 => (Q120 z18 z19 (fun z20 z21 => (K0 z20 z21))))))))))))))) else (Q118 a0_0 a0_1 (fun z22 z23 z24 => (bif z24 then (Q118 a1_0 a1_1 (fun z25 z26 z27 => (bif z27 then (Q119 (wI ((wI (z22 * z26)) + (wI (z25 * z23)))) (wI (z23 * z26)) (fun z28 z29 => (K0 z28 z29))) else (Q121 a0_0 a1_1 (fun z30 => (Q121 a1_0 a0_1 (fun z31 => (Q117 z30 z31 (fun z32 => (Q121 a0_1 a1_1 (fun z33 => (Q120 z32 z33 (fun z34 z35 => (K0 z34 z35)))))))))))))) else (Q121 a0_0 a1_1 (fun z36 => (Q121 a1_0 a0_1 (fun z37 => (Q117 z36 z37 (fun z38 => (Q121 a0_1 a1_1 (fun z39 => (Q120 z38 z39 (fun z40 z41 => (K0 z40 z41)))))))))))))))
noncomputable def Q89 := hide G89
theorem Q89_def : Q89 = G89 := hide_eq _
noncomputable def F89 : FT := fun l K => wA (.ps (.pa (.ps .pz (.ps .pz .pe))) (.ps (.pa (.ps .pz (.ps .pz .pe))) .pe)) (fun ((a0_0, a0_1, _), (a1_0, a1_1, _), _) => Q89 a0_0 a0_1 a1_0 a1_1 (fun z0_0 z0_1 => K (.one (.p (xA [(xZ z0_0), (xZ z0_1)]))))) false l
noncomputable def Γ55 : Oracle := addF 89 F89 Γ54
noncomputable def B81_0 : Code := bdL 0 (loops 0 (bdF Tryz.f81))
noncomputable def B81_2 : Code := bdL 2 (loops 0 B81_0)
noncomputable def St81_2_0 (r0 : PL -> Int -> PL -> Int -> Int -> PL -> Int -> Int -> PL -> Bool) (e0 : PL -> PL -> Int -> Int -> PL -> Bool) (l0 : PL) (n1 : Int) (l2 : PL) (n3 n4 : Int) (l5 : PL) (n6 n7 : Int) (l8 : PL) : Bool := (bif (decide (n7 < n6)) then (gd (decide (0 <= n7)) (oOpt (l5[(n7).toNat]?) fun u4 => (oR u4 fun s5v s6v => (gd (decide (0 <= n7) && decide (n7 < (nI l8.length))) (oOpt (l8[(n7).toNat]?) fun u7 => (oR u7 fun s8v s9v => (gd (decide (0 <= n1)) (oOpt (l0[(n1).toNat]?) fun u10 => (oR u10 fun s11v s12v => (Q111 s5v s6v s11v s12v (fun z13 z14 => (Q89 s8v s9v z13 z14 (fun z15 z16 => (gd (decide (0 <= n7) && decide (n7 < (nI l8.length))) (gd (decide ((n7).toNat < l8.length)) (r0 l0 n1 l2 n3 n4 l5 n6 (wI (n7 + 1)) (l8.set (n7).toNat (xA [(xZ z15), (xZ z16)])))))))))))))))))) else (e0 l0 l2 n3 n4 l8))
noncomputable def LP81_2 (e0 : PL -> PL -> Int -> Int -> PL -> Bool) : Nat -> (PL -> Int -> PL -> Int -> Int -> PL -> Int -> Int -> PL -> Bool)
 | 0 => ((fun _ _ _ _ _ _ _ _ _ => false))
 | n + 1 => (St81_2_0 ((LP81_2 e0 n)) e0)
noncomputable def L81_2_0 (e0 : PL -> PL -> Int -> Int -> PL -> Bool) (n : Nat) : PL -> Int -> PL -> Int -> Int -> PL -> Int -> Int -> PL -> Bool := (LP81_2 e0 n)
noncomputable def Λ81_2 : LOracle := mkΛ []
noncomputable def Rn81_2 : List LVal -> List LObj -> KX -> Bool := run E Γ55 Λ81_2 2 B81_2
noncomputable def X81_2_0 (K : KX) (y0 y1 : PL) (y2 y3 : Int) (y4 : PL) : Bool := K (.exit 2) (tl 45 [(2, (.p (xV y0))), (7, (.own 0)), (14, (.p (xV y1))), (15, (.p (xI y2))), (16, (.p (xI y3)))]) [(.buf false 78 2 y4)]
noncomputable def T81_2_0 (l0 : PL) (n1 : Int) (l2 : PL) (n3 n4 : Int) (l5 : PL) (n6 n7 : Int) (l8 : PL) : List LVal := (tl 45 [(2, (.p (xV l0))), (7, (.own 0)), (8, (.p (xI n1))), (14, (.p (xV l2))), (15, (.p (xI n3))), (16, (.p (xI n4))), (21, (.p (xV l5))), (22, (.p (xI n6))), (23, (.p (xI n7)))])
noncomputable def S81_2_0 (l0 : PL) (n1 : Int) (l2 : PL) (n3 n4 : Int) (l5 : PL) (n6 n7 : Int) (l8 : PL) : List LObj := [(.buf false 78 2 l8)]
noncomputable def Ent81_2 : LEnt := ⟨2, [2, 7, 8, 14, 15, 16, 21, 22, 23], fun T σ K => (wT (.tu 2 (.tp .pl (.tu 4 (.to 0 (.tp (.pi .i64) (.tu 5 (.tp .pl (.tp (.pi .i64) (.tp (.pi .i64) (.tu 4 (.tp .pl (.tp (.pi .i64) (.tp (.pi .i64) (.tu 21 .te)))))))))))))) (.sf false 78 2 .se) (fun (x0, x1, x2, x3, x4, x5, x6, x7, _) (x8, _) => L81_2_0 (X81_2_0 K) fuel x0 x1 x2 x3 x4 x5 x6 x7 x8) false T σ)⟩
noncomputable def St81_0_0 (r0 : PL -> PL -> Int -> Int -> PL -> Bool) (e0 : PL -> Bool) (l0 l1 : PL) (n2 n3 : Int) (l4 : PL) : Bool := (bif (decide (n3 < n2)) then (gd (decide (0 <= n3)) (oOpt (l1[(n3).toNat]?) fun u2 => (oSl u2 fun p3 => (L81_2_0 (fun y17 y18 y19 y20 y21 => (r0 y17 y18 y19 (wI (y20 + 1)) y21)) fuel l0 n3 l1 n2 n3 p3 (nI p3.length) 0 l4)))) else (e0 l4))
noncomputable def LP81_0 (e0 : PL -> Bool) : Nat -> (PL -> PL -> Int -> Int -> PL -> Bool)
 | 0 => ((fun _ _ _ _ _ => false))
 | n + 1 => (St81_0_0 ((LP81_0 e0 n)) e0)
noncomputable def L81_0_0 (e0 : PL -> Bool) (n : Nat) : PL -> PL -> Int -> Int -> PL -> Bool := (LP81_0 e0 n)
noncomputable def Λ81_0 : LOracle := mkΛ [Ent81_2]
noncomputable def Rn81_0 : List LVal -> List LObj -> KX -> Bool := run E Γ55 Λ81_0 0 B81_0
noncomputable def X81_0_0 (K : KX) (y0 : PL) : Bool := K (.exit 0) (tl 45 [(7, (.own 0))]) [(.buf false 78 2 y0)]
noncomputable def T81_0_0 (l0 l1 : PL) (n2 n3 : Int) (l4 : PL) : List LVal := (tl 45 [(2, (.p (xV l0))), (7, (.own 0)), (14, (.p (xV l1))), (15, (.p (xI n2))), (16, (.p (xI n3)))])
noncomputable def S81_0_0 (l0 l1 : PL) (n2 n3 : Int) (l4 : PL) : List LObj := [(.buf false 78 2 l4)]
noncomputable def Ent81_0 : LEnt := ⟨0, [2, 7, 14, 15, 16], fun T σ K => (wT (.tu 2 (.tp .pl (.tu 4 (.to 0 (.tu 6 (.tp .pl (.tp (.pi .i64) (.tp (.pi .i64) (.tu 28 .te))))))))) (.sf false 78 2 .se) (fun (x0, x1, x2, x3, _) (x4, _) => L81_0_0 (X81_0_0 K) fuel x0 x1 x2 x3 x4) false T σ)⟩
noncomputable def G81 (a0 : Int) (a1 a2 : PL) (K0 : PL -> Bool) : Bool :=
 (Q110 a0 (fun z1 => (L81_0_0 (fun y22 => (K0 y22)) fuel a2 a1 (nI a1.length) 0 z1)))
noncomputable def Q81 := hide G81
theorem Q81_def : Q81 = G81 := hide_eq _
noncomputable def F81 : FT := fun l K => wA (.ps (.pi .i64) (.ps .pl (.ps .pl .pe))) (fun (a0, a1, a2, _) => Q81 a0 a1 a2 (fun z0 => K (.one (.p (xV z0))))) false l
noncomputable def Γ56 : Oracle := addF 81 F81 Γ55
noncomputable def G190 (a0 a1 : ByteArray) (K0 : ByteArray -> Bool) : Bool :=
 (bif (a0.toList == s_30.toList) then (K0 s_30) else (bif (a1.toList == s_30.toList) then (K0 s_30) else (Q155 a0 a1 (fun z1 => (Q188 a0 z1 (fun z2 z3 z4 => (bif (z4 != 0) then (K0 s_e) else (Q170 z2 a1 (fun z5 => (K0 z5))))))))))
noncomputable def Q190 := hide G190
theorem Q190_def : Q190 = G190 := hide_eq _
noncomputable def F190 : FT := fun l K => wA (.ps .pz (.ps .pz .pe)) (fun (a0, a1, _) => Q190 a0 a1 (fun z0 => K (.one (.p (xZ z0))))) false l
noncomputable def Γ57 : Oracle := addF 190 F190 Γ56
noncomputable def G158 (a0 a1 : ByteArray) (K0 : ByteArray -> Bool) : Bool :=
 (Q127 a0 (fun z1 => (Q127 a1 (fun z2 => (Q190 z1 z2 (fun z3 => (K0 z3)))))))
noncomputable def Q158 := hide G158
theorem Q158_def : Q158 = G158 := hide_eq _
noncomputable def F158 : FT := fun l K => wA (.ps .pz (.ps .pz .pe)) (fun (a0, a1, _) => Q158 a0 a1 (fun z0 => K (.one (.p (xZ z0))))) false l
noncomputable def Γ58 : Oracle := addF 158 F158 Γ57
noncomputable def B113_0 : Code := bdL 0 (loops 0 (bdF Tryz.f113))
noncomputable def B113_2 : Code := bdL 2 (loops 0 (bdF Tryz.f113))
noncomputable def St113_0_0 (r0 : PL -> PL -> PL -> Int -> Int -> ByteArray -> ByteArray -> Bool) (e0 : PL -> PL -> ByteArray -> ByteArray -> Bool) (l0 l1 l2 : PL) (n3 n4 : Int) (s5 s6 : ByteArray) : Bool := (bif (decide (n4 < n3)) then (gd (decide (0 <= n4)) (oOpt (l2[(n4).toNat]?) fun u1 => (oR u1 fun s2v s3v => (Q158 s6 s3v (fun z4 => (r0 l0 l1 l2 n3 (wI (n4 + 1)) s5 z4)))))) else (e0 l0 l1 s5 s6))
noncomputable def LP113_0 (e0 : PL -> PL -> ByteArray -> ByteArray -> Bool) : Nat -> (PL -> PL -> PL -> Int -> Int -> ByteArray -> ByteArray -> Bool)
 | 0 => ((fun _ _ _ _ _ _ _ => false))
 | n + 1 => (St113_0_0 ((LP113_0 e0 n)) e0)
noncomputable def L113_0_0 (e0 : PL -> PL -> ByteArray -> ByteArray -> Bool) (n : Nat) : PL -> PL -> PL -> Int -> Int -> ByteArray -> ByteArray -> Bool := (LP113_0 e0 n)
noncomputable def Λ113_0 : LOracle := mkΛ []
noncomputable def Rn113_0 : List LVal -> List LObj -> KX -> Bool := run E Γ58 Λ113_0 0 B113_0
noncomputable def X113_0_0 (K : KX) (y0 y1 : PL) (y2 y3 : ByteArray) : Bool := K (.exit 0) (tl 66 [(0, (.p (xV y0))), (1, (.p (xV y1))), (4, (.adr 0 0 0)), (5, (.adr 1 0 0))]) [(.box false [(.p xN), (.p xN), (.p (xZ y2))]), (.box false [(.p xN), (.p xN), (.p (xZ y3))])]
noncomputable def T113_0_0 (l0 l1 l2 : PL) (n3 n4 : Int) (s5 s6 : ByteArray) : List LVal := (tl 66 [(0, (.p (xV l0))), (1, (.p (xV l1))), (4, (.adr 0 0 0)), (5, (.adr 1 0 0)), (14, (.p (xV l2))), (15, (.p (xI n3))), (16, (.p (xI n4)))])
noncomputable def S113_0_0 (l0 l1 l2 : PL) (n3 n4 : Int) (s5 s6 : ByteArray) : List LObj := [(.box false [(.p xN), (.p xN), (.p (xZ s5))]), (.box false [(.p xN), (.p xN), (.p (xZ s6))])]
noncomputable def Ent113_0 : LEnt := ⟨0, [0, 1, 4, 5, 14, 15, 16], fun T σ K => (wT (.tp .pl (.tp .pl (.tu 2 (.td 0 0 0 (.td 1 0 0 (.tu 8 (.tp .pl (.tp (.pi .i64) (.tp (.pi .i64) (.tu 49 .te)))))))))) (.sx false (.tp .pn (.tp .pn (.tp .pz .te))) (.sx false (.tp .pn (.tp .pn (.tp .pz .te))) .se)) (fun (x0, x1, x2, x3, x4, _) ((_, _, x5, _), (_, _, x6, _), _) => L113_0_0 (X113_0_0 K) fuel x0 x1 x2 x3 x4 x5 x6) false T σ)⟩
noncomputable def St113_2_0 (r0 : PL -> PL -> Int -> Int -> ByteArray -> ByteArray -> Bool) (r1 : PL -> PL -> Int -> Int -> ByteArray -> ByteArray -> PL -> PL -> Bool) (e0 : ByteArray -> ByteArray -> Bool) (e1 : ByteArray -> ByteArray -> PL -> PL -> Bool) (l0 l1 : PL) (n2 n3 : Int) (s4 s5 : ByteArray) : Bool := (bif (decide (n3 < n2)) then (gd (decide (0 <= n3)) (oOpt (l1[(n3).toNat]?) fun u9 => (oR u9 fun s10v s11v => (bif (!(s10v.toList == s_30.toList)) then (Q159 s5 s11v (fun z12 z13 z14 => (gd (decide (0 <= n3)) (oOpt (l0[(n3).toNat]?) fun u15 => (oInt .i64 u15 fun n16v => (Q121 s10v z12 (fun z17 => (r1 l0 l1 n2 (wI (n3 + 1)) s4 s5 [(xI n16v)] [(xZ z17)])))))))) else (r0 l0 l1 n2 (wI (n3 + 1)) s4 s5))))) else (e0 s4 s5))
noncomputable def St113_2_1 (r0 : PL -> PL -> Int -> Int -> ByteArray -> ByteArray -> Bool) (r1 : PL -> PL -> Int -> Int -> ByteArray -> ByteArray -> PL -> PL -> Bool) (e0 : ByteArray -> ByteArray -> Bool) (e1 : ByteArray -> ByteArray -> PL -> PL -> Bool) (l0 l1 : PL) (n2 n3 : Int) (s4 s5 : ByteArray) (l6 l7 : PL) : Bool := (bif (decide (n3 < n2)) then (gd (decide (0 <= n3)) (oOpt (l1[(n3).toNat]?) fun u18 => (oR u18 fun s19v s20v => (bif (!(s19v.toList == s_30.toList)) then (Q159 s5 s20v (fun z21 z22 z23 => (gd (decide (0 <= n3)) (oOpt (l0[(n3).toNat]?) fun u24 => (oInt .i64 u24 fun n25v => (gd (decide (l6.length + 1 <= maxElems)) (Q121 s19v z21 (fun z26 => (gd (decide (l7.length + 1 <= maxElems)) (r1 l0 l1 n2 (wI (n3 + 1)) s4 s5 (l6 ++ [(xI n25v)]) (l7 ++ [(xZ z26)]))))))))))) else (r1 l0 l1 n2 (wI (n3 + 1)) s4 s5 l6 l7))))) else (e1 s4 s5 l6 l7))
noncomputable def LP113_2 (e0 : ByteArray -> ByteArray -> Bool) (e1 : ByteArray -> ByteArray -> PL -> PL -> Bool) : Nat -> (PL -> PL -> Int -> Int -> ByteArray -> ByteArray -> Bool) × (PL -> PL -> Int -> Int -> ByteArray -> ByteArray -> PL -> PL -> Bool)
 | 0 => ((fun _ _ _ _ _ _ => false), (fun _ _ _ _ _ _ _ _ => false))
 | n + 1 => (St113_2_0 ((LP113_2 e0 e1 n).1) ((LP113_2 e0 e1 n).2) e0 e1, St113_2_1 ((LP113_2 e0 e1 n).1) ((LP113_2 e0 e1 n).2) e0 e1)
noncomputable def L113_2_0 (e0 : ByteArray -> ByteArray -> Bool) (e1 : ByteArray -> ByteArray -> PL -> PL -> Bool) (n : Nat) : PL -> PL -> Int -> Int -> ByteArray -> ByteArray -> Bool := (LP113_2 e0 e1 n).1
noncomputable def L113_2_1 (e0 : ByteArray -> ByteArray -> Bool) (e1 : ByteArray -> ByteArray -> PL -> PL -> Bool) (n : Nat) : PL -> PL -> Int -> Int -> ByteArray -> ByteArray -> PL -> PL -> Bool := (LP113_2 e0 e1 n).2
noncomputable def Λ113_2 : LOracle := mkΛ []
noncomputable def Rn113_2 : List LVal -> List LObj -> KX -> Bool := run E Γ58 Λ113_2 2 B113_2
noncomputable def X113_2_0 (K : KX) (y0 y1 : ByteArray) : Bool := K (.exit 2) (tl 66 [(4, (.adr 0 0 0)), (5, (.adr 1 0 0))]) [(.box false [(.p xN), (.p xN), (.p (xZ y0))]), (.box false [(.p xN), (.p xN), (.p (xZ y1))])]
noncomputable def X113_2_1 (K : KX) (y0 y1 : ByteArray) (y2 y3 : PL) : Bool := K (.exit 2) (tl 66 [(4, (.adr 0 0 0)), (5, (.adr 1 0 0))]) [(.box false [(.p xN), (.p xN), (.p (xZ y0))]), (.box false [(.own 2), (.own 3), (.p (xZ y1))]), (.buf false 3 1 y2), (.buf false 76 1 y3)]
noncomputable def T113_2_0 (l0 l1 : PL) (n2 n3 : Int) (s4 s5 : ByteArray) : List LVal := (tl 66 [(0, (.p (xV l0))), (4, (.adr 0 0 0)), (5, (.adr 1 0 0)), (27, (.p (xV l1))), (28, (.p (xI n2))), (29, (.p (xI n3)))])
noncomputable def S113_2_0 (l0 l1 : PL) (n2 n3 : Int) (s4 s5 : ByteArray) : List LObj := [(.box false [(.p xN), (.p xN), (.p (xZ s4))]), (.box false [(.p xN), (.p xN), (.p (xZ s5))])]
noncomputable def T113_2_1 (l0 l1 : PL) (n2 n3 : Int) (s4 s5 : ByteArray) (l6 l7 : PL) : List LVal := (tl 66 [(0, (.p (xV l0))), (4, (.adr 0 0 0)), (5, (.adr 1 0 0)), (27, (.p (xV l1))), (28, (.p (xI n2))), (29, (.p (xI n3)))])
noncomputable def S113_2_1 (l0 l1 : PL) (n2 n3 : Int) (s4 s5 : ByteArray) (l6 l7 : PL) : List LObj := [(.box false [(.p xN), (.p xN), (.p (xZ s4))]), (.box false [(.own 2), (.own 3), (.p (xZ s5))]), (.buf false 3 1 l6), (.buf false 76 1 l7)]
noncomputable def Ent113_2 : LEnt := ⟨2, [0, 4, 5, 27, 28, 29], fun T σ K => (wT (.tp .pl (.tu 3 (.td 0 0 0 (.td 1 0 0 (.tu 21 (.tp .pl (.tp (.pi .i64) (.tp (.pi .i64) (.tu 36 .te))))))))) (.sx false (.tp .pn (.tp .pn (.tp .pz .te))) (.sx false (.tp .pn (.tp .pn (.tp .pz .te))) .se)) (fun (x0, x1, x2, x3, _) ((_, _, x4, _), (_, _, x5, _), _) => L113_2_0 (X113_2_0 K) (X113_2_1 K) fuel x0 x1 x2 x3 x4 x5) (wT (.tp .pl (.tu 3 (.td 0 0 0 (.td 1 0 0 (.tu 21 (.tp .pl (.tp (.pi .i64) (.tp (.pi .i64) (.tu 36 .te))))))))) (.sx false (.tp .pn (.tp .pn (.tp .pz .te))) (.sx false (.to 2 (.to 3 (.tp .pz .te))) (.sf false 3 1 (.sf false 76 1 .se)))) (fun (x0, x1, x2, x3, _) ((_, _, x4, _), (x5, _), x6, x7, _) => L113_2_1 (X113_2_0 K) (X113_2_1 K) fuel x0 x1 x2 x3 x4 x5 x6 x7) false T σ) T σ)⟩
noncomputable def G113 (a0 a1 : PL) (K0 : PL -> PL -> ByteArray -> Bool) : Bool :=
 (L113_0_0 (fun y5 y6 y7 y8 => (L113_2_0 (fun y27 y28 => (K0 [] [] y28)) (fun y29 y30 y31 y32 => (K0 y31 y32 y30)) fuel y5 y6 (nI y6.length) 0 y7 y8)) fuel a0 a1 a1 (nI a1.length) 0 s_e s_31)
noncomputable def Q113 := hide G113
theorem Q113_def : Q113 = G113 := hide_eq _
noncomputable def F113 : FT := fun l K => wA (.ps .pl (.ps .pl .pe)) (fun (a0, a1, _) => Q113 a0 a1 (fun z0_0 z0_1 z0_2 => K (.one (.p (xA [(xV z0_0), (xV z0_1), (xZ z0_2)]))))) false l
noncomputable def Γ59 : Oracle := addF 113 F113 Γ58
noncomputable def Hand233 (W0 : World) : Prop := ∀ (a0 : ByteArray) (a1 a2 : Int) (K : RRes -> Bool), H233 a0 a1 a2 (fun z0 => K (.tup [(.p (xI z0)), (.p (.lit .nilIface))])) = true -> ∃ r, Pure Tryz.prog W0 233 [(xZ a0), (xI a1), (xI a2)] r /\ K r = true
noncomputable def F233 : FT := fun l K => wA (.ps .pz (.ps (.pi .i64) (.ps (.pi .i64) .pe))) (fun (a0, a1, a2, _) => H233 a0 a1 a2 (fun z0 => K (.tup [(.p (xI z0)), (.p (.lit .nilIface))]))) false l
noncomputable def Γ60 : Oracle := addF 233 F233 Γ59
noncomputable def G205 (a0 : ByteArray) (K0 : Int -> Bool -> Bool) : Bool :=
 (H233 a0 10 64 (fun z1 => (K0 z1 true)))
noncomputable def Q205 := hide G205
theorem Q205_def : Q205 = G205 := hide_eq _
noncomputable def F205 : FT := fun l K => wA (.ps .pz .pe) (fun (a0, _) => Q205 a0 (fun z0 z1 => K (.tup [(.p (xI z0)), (.p (xB z1))]))) false l
noncomputable def Γ61 : Oracle := addF 205 F205 Γ60
noncomputable def Hand99 (W0 : World) : Prop := ∀ (a0 : Int) (K : RRes -> Bool), H99 a0 (fun z0 => K (.one (.p (xI z0)))) = true -> ∃ r, Pure Tryz.prog W0 99 [(xJ .u64 a0)] r /\ K r = true
noncomputable def F99 : FT := fun l K => wA (.ps (.pi .u64) .pe) (fun (a0, _) => H99 a0 (fun z0 => K (.one (.p (xI z0))))) false l
noncomputable def Γ62 : Oracle := addF 99 F99 Γ61
noncomputable def Hand235 (W0 : World) : Prop := ∀ (a0 a1 : Int) (K : RRes -> Bool), H235 a0 a1 (fun z0 z1 => K (.tup [(.p (xJ .u64 z0)), (.p (xJ .u64 z1))])) = true -> ∃ r, Pure Tryz.prog W0 235 [(xJ .u64 a0), (xJ .u64 a1)] r /\ K r = true
noncomputable def F235 : FT := fun l K => wA (.ps (.pi .u64) (.ps (.pi .u64) .pe)) (fun (a0, a1, _) => H235 a0 a1 (fun z0 z1 => K (.tup [(.p (xJ .u64 z0)), (.p (xJ .u64 z1))]))) false l
noncomputable def Γ63 : Oracle := addF 235 F235 Γ62
noncomputable def B223_0 : Code := bdL 0 (loops 0 (bdF Tryz.f223))
noncomputable def St223_0_0 (r0 : Int -> Int -> Int -> Int -> Bool) (e0 : Int -> Bool -> Bool) (e1 : Int -> Bool) (n0 n1 n2 n3 : Int) : Bool := (bif (decide (n3 < 26)) then (H235 n0 n0 (fun z2 z3 => (H235 n1 n1 (fun z4 z5 => (bif (decide ((IntKind.u64.wrap (BitVec.ofInt 64 (IntKind.u64.wrap (z2 * 2 ^ 2)) ||| BitVec.ofInt 64 (Int.fdiv z3 (2 ^ 62))).toNat) >= 9223372036854775808)) then (r0 (Int.fdiv (IntKind.u64.wrap (BitVec.ofInt 64 (IntKind.u64.wrap (z2 * 2 ^ 2)) ||| BitVec.ofInt 64 (Int.fdiv z3 (2 ^ 62))).toNat) (2 ^ 1)) (IntKind.u64.wrap ((Int.fdiv (IntKind.u64.wrap ((IntKind.u64.wrap (BitVec.ofInt 64 (IntKind.u64.wrap (z4 * 2 ^ 2)) ||| BitVec.ofInt 64 (Int.fdiv z5 (2 ^ 62))).toNat) + 1)) (2 ^ 1)) + 1)) (wI ((wI (n2 * 2)) + 1)) (wI (n3 + 1))) else (bif (decide ((IntKind.u64.wrap ((IntKind.u64.wrap (BitVec.ofInt 64 (IntKind.u64.wrap (z4 * 2 ^ 2)) ||| BitVec.ofInt 64 (Int.fdiv z5 (2 ^ 62))).toNat) + 1)) >= 9223372036854775808)) then (e0 0 false) else (r0 (IntKind.u64.wrap (BitVec.ofInt 64 (IntKind.u64.wrap (z2 * 2 ^ 2)) ||| BitVec.ofInt 64 (Int.fdiv z3 (2 ^ 62))).toNat) (IntKind.u64.wrap ((IntKind.u64.wrap (BitVec.ofInt 64 (IntKind.u64.wrap (z4 * 2 ^ 2)) ||| BitVec.ofInt 64 (Int.fdiv z5 (2 ^ 62))).toNat) + 1)) (wI (n2 * 2)) (wI (n3 + 1))))))))) else (e1 n2))
noncomputable def LP223_0 (e0 : Int -> Bool -> Bool) (e1 : Int -> Bool) : Nat -> (Int -> Int -> Int -> Int -> Bool)
 | 0 => ((fun _ _ _ _ => false))
 | n + 1 => (St223_0_0 ((LP223_0 e0 e1 n)) e0 e1)
noncomputable def L223_0_0 (e0 : Int -> Bool -> Bool) (e1 : Int -> Bool) (n : Nat) : Int -> Int -> Int -> Int -> Bool := (LP223_0 e0 e1 n)
noncomputable def Λ223_0 : LOracle := mkΛ []
noncomputable def Rn223_0 : List LVal -> List LObj -> KX -> Bool := run E Γ63 Λ223_0 0 B223_0
noncomputable def X223_0_0 (K : KX) (y0 : Int) (y1 : Bool) : Bool := K .ret (tl 61 [(2, (.p (xI y0))), (3, (.p (xB y1)))]) []
noncomputable def X223_0_1 (K : KX) (y0 : Int) : Bool := K (.exit 0) (tl 61 [(7, (.p (xI y0)))]) []
noncomputable def T223_0_0 (n0 n1 n2 n3 : Int) : List LVal := (tl 61 [(5, (.p (xJ .u64 n0))), (6, (.p (xJ .u64 n1))), (7, (.p (xI n2))), (21, (.p (xI n3)))])
noncomputable def S223_0_0 (n0 n1 n2 n3 : Int) : List LObj := []
noncomputable def Ent223_0 : LEnt := ⟨0, [5, 6, 7, 21], fun T σ K => (wT (.tu 5 (.tp (.pi .u64) (.tp (.pi .u64) (.tp (.pi .i64) (.tu 13 (.tp (.pi .i64) (.tu 39 .te))))))) .se (fun (x0, x1, x2, x3, _) _ => L223_0_0 (X223_0_0 K) (X223_0_1 K) fuel x0 x1 x2 x3) false T σ)⟩
noncomputable def G223 (a0 : Int) (K0 : Int -> Bool -> Bool) : Bool :=
 (H99 (IntKind.u64.wrap (a0)) (fun z1 => (gd (decide (0 <= (wI (62 - (wI (z1 - 1)))))) (L223_0_0 (fun y6 y7 => (K0 y6 y7)) (fun y8 => (K0 y8 true)) fuel (IntKind.u64.wrap ((IntKind.u64.wrap (a0)) * 2 ^ (min ((wI (62 - (wI (z1 - 1))))).toNat 64))) (IntKind.u64.wrap ((IntKind.u64.wrap (a0)) * 2 ^ (min ((wI (62 - (wI (z1 - 1))))).toNat 64))) (wI (z1 - 1)) 0))))
noncomputable def Q223 := hide G223
theorem Q223_def : Q223 = G223 := hide_eq _
noncomputable def F223 : FT := fun l K => wA (.ps (.pi .i64) .pe) (fun (a0, _) => Q223 a0 (fun z0 z1 => K (.tup [(.p (xI z0)), (.p (xB z1))]))) false l
noncomputable def Γ64 : Oracle := addF 223 F223 Γ63
noncomputable def Hand191 (W0 : World) : Prop := ∀ (a0_0 a0_1 : PL) (a0_2 : ByteArray) (a1 : Int) (K : RRes -> Bool), H191 a0_0 a0_1 a0_2 a1 (fun z0 z1 z2 => K (.tup [(.p (xI z0)), (.p (xI z1)), (.p (xB z2))])) = true -> ∃ r, Pure Tryz.prog W0 191 [(xA [(xV a0_0), (xV a0_1), (xZ a0_2)]), (xI a1)] r /\ K r = true
noncomputable def F191 : FT := fun l K => wA (.ps (.pa (.ps .pl (.ps .pl (.ps .pz .pe)))) (.ps (.pi .i64) .pe)) (fun ((a0_0, a0_1, a0_2, _), a1, _) => H191 a0_0 a0_1 a0_2 a1 (fun z0 z1 z2 => K (.tup [(.p (xI z0)), (.p (xI z1)), (.p (xB z2))]))) false l
noncomputable def Γ65 : Oracle := addF 191 F191 Γ64
noncomputable def G160 (a0_0 a0_1 : PL) (a0_2 : ByteArray) (K0 : Int -> Bool) : Bool :=
 (H191 a0_0 a0_1 a0_2 10000000 (fun z1 z2 z3 => (bif z3 then (bif (decide (z1 >= 0)) then (K0 1) else (bif (decide (z2 <= 0)) then (K0 (-1)) else (K0 0))) else (K0 0))))
noncomputable def Q160 := hide G160
theorem Q160_def : Q160 = G160 := hide_eq _
noncomputable def F160 : FT := fun l K => wA (.ps (.pa (.ps .pl (.ps .pl (.ps .pz .pe)))) .pe) (fun ((a0_0, a0_1, a0_2, _), _) => Q160 a0_0 a0_1 a0_2 (fun z0 => K (.one (.p (xI z0))))) false l
noncomputable def Γ66 : Oracle := addF 160 F160 Γ65
noncomputable def B114_0 : Code := bdL 0 (loops 0 (bdF Tryz.f114))
noncomputable def St114_0_0 (r0 : Int -> PL -> PL -> ByteArray -> Bool)  (n0 : Int) (l1 l2 : PL) (s3 : ByteArray) : Bool := false
noncomputable def LP114_0  : Nat -> (Int -> PL -> PL -> ByteArray -> Bool)
 | 0 => ((fun _ _ _ _ => false))
 | n + 1 => (St114_0_0 ((LP114_0  n)))
noncomputable def L114_0_0  (n : Nat) : Int -> PL -> PL -> ByteArray -> Bool := (LP114_0  n)
noncomputable def Λ114_0 : LOracle := mkΛ []
noncomputable def Rn114_0 : List LVal -> List LObj -> KX -> Bool := run E Γ66 Λ114_0 0 B114_0
noncomputable def T114_0_0 (n0 : Int) (l1 l2 : PL) (s3 : ByteArray) : List LVal := (tl 32 [(1, (.adr 0 0 0)), (4, (.p (xI n0)))])
noncomputable def S114_0_0 (n0 : Int) (l1 l2 : PL) (s3 : ByteArray) : List LObj := [(.box false [(.p (xV l1)), (.p (xV l2)), (.p (xZ s3))])]
noncomputable def Ent114_0 : LEnt := ⟨0, [1, 4], fun T σ K => (wT (.tu 1 (.td 0 0 0 (.tu 2 (.tp (.pi .i64) (.tu 27 .te))))) (.sx false (.tp .pl (.tp .pl (.tp .pz .te))) .se) (fun (x0, _) ((x1, x2, x3, _), _) => L114_0_0 fuel x0 x1 x2 x3) false T σ)⟩
noncomputable def G114 (a0_0 a0_1 : PL) (a0_2 : ByteArray) (K0 : Int -> Bool) : Bool :=
 (bif ((nI a0_0.length) == 0) then (K0 0) else (Q160 a0_0 a0_1 a0_2 (fun z1 => (bif (z1 != 0) then (K0 z1) else (L114_0_0 fuel 64 a0_0 a0_1 a0_2)))))
noncomputable def Q114 := hide G114
theorem Q114_def : Q114 = G114 := hide_eq _
noncomputable def F114 : FT := fun l K => wA (.ps (.pa (.ps .pl (.ps .pl (.ps .pz .pe)))) .pe) (fun ((a0_0, a0_1, a0_2, _), _) => Q114 a0_0 a0_1 a0_2 (fun z0 => K (.one (.p (xI z0))))) false l
noncomputable def Γ67 : Oracle := addF 114 F114 Γ66
noncomputable def G85 (a0 a1 a2 : PL) (K0 : Int -> Bool) : Bool :=
 (Q45 1 (fun z1 z2 => (Q45 (-1) (fun z3 z4 => (Q81 (nI a0.length) [(xV a1), (xV a2)] [(xA [(xZ z1), (xZ z2)]), (xA [(xZ z3), (xZ z4)])] (fun z5 => (Q113 a0 z5 (fun z6 z7 z8 => (Q114 z6 z7 z8 (fun z9 => (K0 z9)))))))))))
noncomputable def Q85 := hide G85
theorem Q85_def : Q85 = G85 := hide_eq _
noncomputable def F85 : FT := fun l K => wA (.ps .pl (.ps .pl (.ps .pl .pe))) (fun (a0, a1, a2, _) => Q85 a0 a1 a2 (fun z0 => K (.one (.p (xI z0))))) false l
noncomputable def Γ68 : Oracle := addF 85 F85 Γ67
noncomputable def G50 (a0 a1 a2 : PL) (K0 : Int -> Int -> Bool) : Bool :=
 (Q76 a0 [(xV a1), (xV a2)] (fun z1 => (bif (z1 != 0) then (K0 0 z1) else (Q85 a0 a1 a2 (fun z2 => (K0 z2 0))))))
noncomputable def Q50 := hide G50
theorem Q50_def : Q50 = G50 := hide_eq _
noncomputable def F50 : FT := fun l K => wA (.ps .pl (.ps .pl (.ps .pl .pe))) (fun (a0, a1, a2, _) => Q50 a0 a1 a2 (fun z0 z1 => K (.tup [(.p (xI z0)), (.p (xI z1))]))) false l
noncomputable def Γ69 : Oracle := addF 50 F50 Γ68
noncomputable def B58_1 : Code := bdL 1 (loops 0 (bdF Tryz.f58))
noncomputable def St58_1_0 (r0 : PL -> PL -> Int -> Int -> PL -> PL -> Bool) (e0 : Int -> Bool) (e1 : Bool) (l0 l1 : PL) (n2 n3 : Int) (l4 l5 : PL) : Bool := (bif (decide (n3 < n2)) then (gd (decide (0 <= n3)) (oOpt (l1[(n3).toNat]?) fun u4 => (oSl u4 fun p5 => (Q32 l4 p5 (fun z6 => (bif (z6 != 0) then (e0 z6) else (Q50 l4 l0 p5 (fun z7 z8 => (bif (z8 != 0) then (e0 z8) else (bif (decide (z7 >= 0)) then (e0 6) else (r0 p5 l1 n2 (wI (n3 + 1)) l4 l5))))))))))) else e1)
noncomputable def LP58_1 (e0 : Int -> Bool) (e1 : Bool) : Nat -> (PL -> PL -> Int -> Int -> PL -> PL -> Bool)
 | 0 => ((fun _ _ _ _ _ _ => false))
 | n + 1 => (St58_1_0 ((LP58_1 e0 e1 n)) e0 e1)
noncomputable def L58_1_0 (e0 : Int -> Bool) (e1 : Bool) (n : Nat) : PL -> PL -> Int -> Int -> PL -> PL -> Bool := (LP58_1 e0 e1 n)
noncomputable def Λ58_1 : LOracle := mkΛ []
noncomputable def Rn58_1 : List LVal -> List LObj -> KX -> Bool := run E Γ69 Λ58_1 1 B58_1
noncomputable def X58_1_0 (K : KX) (y0 : Int) : Bool := K .ret (tl 62 [(2, (.p (xI y0)))]) []
noncomputable def X58_1_1 (K : KX)  : Bool := K (.exit 1) (tl 62 []) []
noncomputable def T58_1_0 (l0 l1 : PL) (n2 n3 : Int) (l4 l5 : PL) : List LVal := (tl 62 [(1, (.adr 0 0 0)), (4, (.p (xV l0))), (34, (.p (xV l1))), (35, (.p (xI n2))), (36, (.p (xI n3)))])
noncomputable def S58_1_0 (l0 l1 : PL) (n2 n3 : Int) (l4 l5 : PL) : List LObj := [(.box false [(.p (xV l4)), (.p (xV l5))])]
noncomputable def Ent58_1 : LEnt := ⟨1, [1, 4, 34, 35, 36], fun T σ K => (wT (.tu 1 (.td 0 0 0 (.tu 2 (.tp .pl (.tu 29 (.tp .pl (.tp (.pi .i64) (.tp (.pi .i64) (.tu 25 .te))))))))) (.sx false (.tp .pl (.tp .pl .te)) .se) (fun (x0, x1, x2, x3, _) ((x4, x5, _), _) => L58_1_0 (X58_1_0 K) (X58_1_1 K) fuel x0 x1 x2 x3 x4 x5) false T σ)⟩
noncomputable def G58 (a0_0 a0_1 : PL) (K0 : Int -> Bool) : Bool :=
 (Q64 a0_0 (fun z1 => (bif (z1 != 0) then (K0 z1) else (bif ((nI a0_1.length) == 0) then (K0 13) else (bif (decide ((nI a0_1.length) > 60)) then (K0 4) else (Q91 a0_0 (fun z2 z3 => (L58_1_0 (fun y9 => (K0 y9)) ((K0 0)) fuel z2 a0_1 (nI a0_1.length) 0 a0_0 a0_1))))))))
noncomputable def Q58 := hide G58
theorem Q58_def : Q58 = G58 := hide_eq _
noncomputable def F58 : FT := fun l K => wA (.ps (.pa (.ps .pl (.ps .pl .pe))) .pe) (fun ((a0_0, a0_1, _), _) => Q58 a0_0 a0_1 (fun z0 => K (.one (.p (xI z0))))) false l
noncomputable def Γ70 : Oracle := addF 58 F58 Γ69
noncomputable def G124 (a0_0 a0_1 : PL) (K0 : PL -> Bool) : Bool :=
 (gd (decide (0 <= (wI ((nI a0_1.length) - 1)))) (oOpt (a0_1[((wI ((nI a0_1.length) - 1))).toNat]?) fun u1 => (oSl u1 fun p2 => (K0 p2))))
noncomputable def Q124 := hide G124
theorem Q124_def : Q124 = G124 := hide_eq _
noncomputable def F124 : FT := fun l K => wA (.ps (.pa (.ps .pl (.ps .pl .pe))) .pe) (fun ((a0_0, a0_1, _), _) => Q124 a0_0 a0_1 (fun z0 => K (.one (.p (xV z0))))) false l
noncomputable def Γ71 : Oracle := addF 124 F124 Γ70
noncomputable def G125 (a0 : Int) (K0 : ByteArray -> ByteArray -> Bool) : Bool :=
 (Q82 a0 (fun z1 => (K0 z1 s_31)))
noncomputable def Q125 := hide G125
theorem Q125_def : Q125 = G125 := hide_eq _
noncomputable def F125 : FT := fun l K => wA (.ps (.pi .i64) .pe) (fun (a0, _) => Q125 a0 (fun z0_0 z0_1 => K (.one (.p (xA [(xZ z0_0), (xZ z0_1)]))))) false l
noncomputable def Γ72 : Oracle := addF 125 F125 Γ71
noncomputable def G78 (a0_0 a0_1 : ByteArray) (K0 : Bool -> Bool) : Bool :=
 (Q79 a0_0 a0_1 (fun z1 => (K0 (z1 != 0))))
noncomputable def Q78 := hide G78
theorem Q78_def : Q78 = G78 := hide_eq _
noncomputable def F78 : FT := fun l K => wA (.ps (.pa (.ps .pz (.ps .pz .pe))) .pe) (fun ((a0_0, a0_1, _), _) => Q78 a0_0 a0_1 (fun z0 => K (.one (.p (xB z0))))) false l
noncomputable def Γ73 : Oracle := addF 78 F78 Γ72
noncomputable def B104_78_0 : Code := bdL 0 (loops 0 (bdF Tryz.f104))
noncomputable def St104_78_0_0 (r0 : PL -> Int -> Int -> Bool) (e0 : Int -> Bool) (e1 : Bool) (l0 : PL) (n1 n2 : Int) : Bool := (bif (decide (n2 < n1)) then (gd (decide (0 <= n2)) (oOpt (l0[(n2).toNat]?) fun u1 => (oR u1 fun s2v s3v => (Q78 s2v s3v (fun z4 => (bif z4 then (e0 n2) else (r0 l0 n1 (wI (n2 + 1))))))))) else e1)
noncomputable def LP104_78_0 (e0 : Int -> Bool) (e1 : Bool) : Nat -> (PL -> Int -> Int -> Bool)
 | 0 => ((fun _ _ _ => false))
 | n + 1 => (St104_78_0_0 ((LP104_78_0 e0 e1 n)) e0 e1)
noncomputable def L104_78_0_0 (e0 : Int -> Bool) (e1 : Bool) (n : Nat) : PL -> Int -> Int -> Bool := (LP104_78_0 e0 e1 n)
noncomputable def Λ104_78_0 : LOracle := mkΛ []
noncomputable def Rn104_78_0 : List LVal -> List LObj -> KX -> Bool := run E Γ73 Λ104_78_0 0 B104_78_0
noncomputable def X104_78_0_0 (K : KX) (y0 : Int) : Bool := K .ret (tl 19 [(4, (.p (xI y0)))]) []
noncomputable def X104_78_0_1 (K : KX)  : Bool := K (.exit 0) (tl 19 []) []
noncomputable def T104_78_0_0 (l0 : PL) (n1 n2 : Int) : List LVal := (tl 19 [(0, (.p (xV l0))), (1, (.p (.clo 78 [] []))), (7, (.p (xI n1))), (8, (.p (xI n2)))])
noncomputable def S104_78_0_0 (l0 : PL) (n1 n2 : Int) : List LObj := []
noncomputable def Ent104_78_0 : LEnt := ⟨0, [0, 1, 7, 8], fun T σ K => (wT (.tp .pl (.tp (.pc 78 .pe .pe) (.tu 5 (.tp (.pi .i64) (.tp (.pi .i64) (.tu 10 .te)))))) .se (fun (x0, (_, _), x1, x2, _) _ => L104_78_0_0 (X104_78_0_0 K) (X104_78_0_1 K) fuel x0 x1 x2) false T σ)⟩
noncomputable def G104_78 (a0 : PL) (K0 : Int -> Bool) : Bool :=
 (L104_78_0_0 (fun y5 => (K0 y5)) ((K0 (-1))) fuel a0 (nI a0.length) 0)
noncomputable def Q104_78 := hide G104_78
theorem Q104_78_def : Q104_78 = G104_78 := hide_eq _
noncomputable def F104_78 : FT := fun l K => wA (.ps .pl (.ps (.pc 78 .pe .pe) .pe)) (fun (a0, (_, _), _) => Q104_78 a0 (fun z0 => K (.one (.p (xI z0))))) (Γ73 false 104 l K) l
noncomputable def Γ74 : Oracle := addF 104 F104_78 Γ73
noncomputable def G77_78 (a0 : PL) (K0 : Bool -> Bool) : Bool :=
 (Q104_78 a0 (fun z1 => (K0 (decide (z1 >= 0)))))
noncomputable def Q77_78 := hide G77_78
theorem Q77_78_def : Q77_78 = G77_78 := hide_eq _
noncomputable def F77_78 : FT := fun l K => wA (.ps .pl (.ps (.pc 78 .pe .pe) .pe)) (fun (a0, (_, _), _) => Q77_78 a0 (fun z0 => K (.one (.p (xB z0))))) (Γ74 false 77 l K) l
noncomputable def Γ75 : Oracle := addF 77 F77_78 Γ74
noncomputable def G109 (a0_0 a0_1 : ByteArray) (K0 : Bool -> Bool) : Bool :=
 (Q95 a0_0 a0_1 (fun z1 => (K0 (!z1))))
noncomputable def Q109 := hide G109
theorem Q109_def : Q109 = G109 := hide_eq _
noncomputable def F109 : FT := fun l K => wA (.ps (.pa (.ps .pz (.ps .pz .pe))) .pe) (fun ((a0_0, a0_1, _), _) => Q109 a0_0 a0_1 (fun z0 => K (.one (.p (xB z0))))) false l
noncomputable def Γ76 : Oracle := addF 109 F109 Γ75
noncomputable def B156_109_0 : Code := bdL 0 (loops 0 (bdF Tryz.f156))
noncomputable def St156_109_0_0 (r0 : PL -> Int -> Int -> Bool) (e0 : Int -> Bool) (e1 : Bool) (l0 : PL) (n1 n2 : Int) : Bool := (bif (decide (n2 < n1)) then (gd (decide (0 <= n2)) (oOpt (l0[(n2).toNat]?) fun u1 => (oR u1 fun s2v s3v => (Q109 s2v s3v (fun z4 => (bif z4 then (e0 n2) else (r0 l0 n1 (wI (n2 + 1))))))))) else e1)
noncomputable def LP156_109_0 (e0 : Int -> Bool) (e1 : Bool) : Nat -> (PL -> Int -> Int -> Bool)
 | 0 => ((fun _ _ _ => false))
 | n + 1 => (St156_109_0_0 ((LP156_109_0 e0 e1 n)) e0 e1)
noncomputable def L156_109_0_0 (e0 : Int -> Bool) (e1 : Bool) (n : Nat) : PL -> Int -> Int -> Bool := (LP156_109_0 e0 e1 n)
noncomputable def Λ156_109_0 : LOracle := mkΛ []
noncomputable def Rn156_109_0 : List LVal -> List LObj -> KX -> Bool := run E Γ76 Λ156_109_0 0 B156_109_0
noncomputable def X156_109_0_0 (K : KX) (y0 : Int) : Bool := K .ret (tl 19 [(4, (.p (xI y0)))]) []
noncomputable def X156_109_0_1 (K : KX)  : Bool := K (.exit 0) (tl 19 []) []
noncomputable def T156_109_0_0 (l0 : PL) (n1 n2 : Int) : List LVal := (tl 19 [(0, (.p (xV l0))), (1, (.p (.clo 109 [] []))), (7, (.p (xI n1))), (8, (.p (xI n2)))])
noncomputable def S156_109_0_0 (l0 : PL) (n1 n2 : Int) : List LObj := []
noncomputable def Ent156_109_0 : LEnt := ⟨0, [0, 1, 7, 8], fun T σ K => (wT (.tp .pl (.tp (.pc 109 .pe .pe) (.tu 5 (.tp (.pi .i64) (.tp (.pi .i64) (.tu 10 .te)))))) .se (fun (x0, (_, _), x1, x2, _) _ => L156_109_0_0 (X156_109_0_0 K) (X156_109_0_1 K) fuel x0 x1 x2) false T σ)⟩
noncomputable def G156_109 (a0 : PL) (K0 : Int -> Bool) : Bool :=
 (L156_109_0_0 (fun y5 => (K0 y5)) ((K0 (-1))) fuel a0 (nI a0.length) 0)
noncomputable def Q156_109 := hide G156_109
theorem Q156_109_def : Q156_109 = G156_109 := hide_eq _
noncomputable def F156_109 : FT := fun l K => wA (.ps .pl (.ps (.pc 109 .pe .pe) .pe)) (fun (a0, (_, _), _) => Q156_109 a0 (fun z0 => K (.one (.p (xI z0))))) (Γ76 false 156 l K) l
noncomputable def Γ77 : Oracle := addF 156 F156_109 Γ76
noncomputable def G108_109 (a0 : PL) (K0 : Bool -> Bool) : Bool :=
 (Q156_109 a0 (fun z1 => (K0 (decide (z1 >= 0)))))
noncomputable def Q108_109 := hide G108_109
theorem Q108_109_def : Q108_109 = G108_109 := hide_eq _
noncomputable def F108_109 : FT := fun l K => wA (.ps .pl (.ps (.pc 109 .pe .pe) .pe)) (fun (a0, (_, _), _) => Q108_109 a0 (fun z0 => K (.one (.p (xB z0))))) (Γ77 false 108 l K) l
noncomputable def Γ78 : Oracle := addF 108 F108_109 Γ77
noncomputable def G80 (a0 : PL) (K0 : PL -> Int -> Bool) : Bool :=
 (Q108_109 a0 (fun z1 => (bif z1 then (K0 [] 4) else (K0 a0 0))))
noncomputable def Q80 := hide G80
theorem Q80_def : Q80 = G80 := hide_eq _
noncomputable def F80 : FT := fun l K => wA (.ps .pl .pe) (fun (a0, _) => Q80 a0 (fun z0 z1 => K (.tup [(.p (xV z0)), (.p (xI z1))]))) false l
noncomputable def Γ79 : Oracle := addF 80 F80 Γ78
noncomputable def G44 (a0 a1 a2 : PL) (K0 : PL -> Int -> Bool) : Bool :=
 (Q76 a0 a1 (fun z1 => (bif (z1 != 0) then (K0 [] z1) else (bif ((nI a2.length) != (nI a1.length)) then (K0 [] 5) else (Q77_78 a2 (fun z2 => (bif z2 then (K0 [] 2) else (Q81 (nI a0.length) a1 a2 (fun z3 => (Q80 z3 (fun z4 z5 => (K0 z4 z5))))))))))))
noncomputable def Q44 := hide G44
theorem Q44_def : Q44 = G44 := hide_eq _
noncomputable def F44 : FT := fun l K => wA (.ps .pl (.ps .pl (.ps .pl .pe))) (fun (a0, a1, a2, _) => Q44 a0 a1 a2 (fun z0 z1 => K (.tup [(.p (xV z0)), (.p (xI z1))]))) false l
noncomputable def Γ80 : Oracle := addF 44 F44 Γ79
noncomputable def G123 (a0 a1 : PL) (a2_0 a2_1 : ByteArray) (K0 : PL -> Int -> Bool) : Bool :=
 (Q44 a0 [(xV a1)] [(xA [(xZ a2_0), (xZ a2_1)])] (fun z1 z2 => (K0 z1 z2)))
noncomputable def Q123 := hide G123
theorem Q123_def : Q123 = G123 := hide_eq _
noncomputable def F123 : FT := fun l K => wA (.ps .pl (.ps .pl (.ps (.pa (.ps .pz (.ps .pz .pe))) .pe))) (fun (a0, a1, (a2_0, a2_1, _), _) => Q123 a0 a1 a2_0 a2_1 (fun z0 z1 => K (.tup [(.p (xV z0)), (.p (xI z1))]))) false l
noncomputable def Γ81 : Oracle := addF 123 F123 Γ80
noncomputable def G126 (a0 a1 a2 : PL) (K0 : PL -> Int -> Bool) : Bool :=
 (Q45 1 (fun z1 z2 => (Q45 1 (fun z3 z4 => (Q44 a0 [(xV a1), (xV a2)] [(xA [(xZ z1), (xZ z2)]), (xA [(xZ z3), (xZ z4)])] (fun z5 z6 => (K0 z5 z6)))))))
noncomputable def Q126 := hide G126
theorem Q126_def : Q126 = G126 := hide_eq _
noncomputable def F126 : FT := fun l K => wA (.ps .pl (.ps .pl (.ps .pl .pe))) (fun (a0, a1, a2, _) => Q126 a0 a1 a2 (fun z0 z1 => K (.tup [(.p (xV z0)), (.p (xI z1))]))) false l
noncomputable def Γ82 : Oracle := addF 126 F126 Γ81
noncomputable def G92 (a0_0 a0_1 : PL) (a1 : Int) (K0 : PL -> Int -> Bool) : Bool :=
 (bif ((nI a0_1.length) == 0) then false else (bif ((nI a0_1.length) == 0) then false else (bif (decide ((Int.tmod a1 (nI a0_1.length)) < 0)) then (Q124 a0_0 a0_1 (fun z1 => (Q125 (wI ((wI (Int.tdiv a1 (nI a0_1.length))) - 1)) (fun z2 z3 => (Q123 a0_0 z1 z2 z3 (fun z4 z5 => (bif (z5 != 0) then (K0 z4 z5) else (bif ((wI ((Int.tmod a1 (nI a0_1.length)) + (nI a0_1.length))) == 0) then (K0 z4 z5) else (gd (decide (0 <= (wI ((wI ((Int.tmod a1 (nI a0_1.length)) + (nI a0_1.length))) - 1)))) (oOpt (a0_1[((wI ((wI ((Int.tmod a1 (nI a0_1.length)) + (nI a0_1.length))) - 1))).toNat]?) fun u6 => (oSl u6 fun p7 => (Q126 a0_0 z4 p7 (fun z8 z9 => (K0 z8 z9)))))))))))))) else (Q124 a0_0 a0_1 (fun z10 => (Q125 (wI (Int.tdiv a1 (nI a0_1.length))) (fun z11 z12 => (Q123 a0_0 z10 z11 z12 (fun z13 z14 => (bif (z14 != 0) then (K0 z13 z14) else (bif ((Int.tmod a1 (nI a0_1.length)) == 0) then (K0 z13 z14) else (gd (decide (0 <= (wI ((Int.tmod a1 (nI a0_1.length)) - 1)))) (oOpt (a0_1[((wI ((Int.tmod a1 (nI a0_1.length)) - 1))).toNat]?) fun u15 => (oSl u15 fun p16 => (Q126 a0_0 z13 p16 (fun z17 z18 => (K0 z17 z18)))))))))))))))))
noncomputable def Q92 := hide G92
theorem Q92_def : Q92 = G92 := hide_eq _
noncomputable def F92 : FT := fun l K => wA (.ps (.pa (.ps .pl (.ps .pl .pe))) (.ps (.pi .i64) .pe)) (fun ((a0_0, a0_1, _), a1, _) => Q92 a0_0 a0_1 a1 (fun z0 z1 => K (.tup [(.p (xV z0)), (.p (xI z1))]))) false l
noncomputable def Γ83 : Oracle := addF 92 F92 Γ82
noncomputable def G87 (a0_0 a0_1 : PL) (a1 : Int) (K0 : PL -> Int -> Bool) : Bool :=
 (Q58 a0_0 a0_1 (fun z1 => (bif (z1 != 0) then (K0 [] z1) else (bif (decide (a1 < (-1000000))) then (K0 [] 3) else (bif (decide (a1 > 1000000)) then (K0 [] 3) else (Q92 a0_0 a0_1 a1 (fun z2 z3 => (K0 z2 z3))))))))
noncomputable def Q87 := hide G87
theorem Q87_def : Q87 = G87 := hide_eq _
noncomputable def F87 : FT := fun l K => wA (.ps (.pa (.ps .pl (.ps .pl .pe))) (.ps (.pi .i64) .pe)) (fun ((a0_0, a0_1, _), a1, _) => Q87 a0_0 a0_1 a1 (fun z0 z1 => K (.tup [(.p (xV z0)), (.p (xI z1))]))) false l
noncomputable def Γ84 : Oracle := addF 87 F87 Γ83
noncomputable def B54_0 : Code := bdL 0 (loops 0 (bdF Tryz.f54))
noncomputable def St54_0_0 (r0 : Int -> Int -> PL -> PL -> PL -> PL -> Bool) (r1 : Int -> Int -> PL -> PL -> PL -> PL -> PL -> Bool) (e0 : Int -> Bool) (e1 : PL -> PL -> Bool) (e2 : PL -> PL -> PL -> Bool) (n0 n1 : Int) (l2 l3 l4 l5 : PL) : Bool := (bif (decide (n1 < n0)) then (Q87 l2 l3 n1 (fun z2 z3 => (bif (z3 != 0) then (e0 z3) else (r1 n0 (wI (n1 + 1)) l2 l3 l4 l5 [(xV z2)])))) else (e1 l4 l5))
noncomputable def St54_0_1 (r0 : Int -> Int -> PL -> PL -> PL -> PL -> Bool) (r1 : Int -> Int -> PL -> PL -> PL -> PL -> PL -> Bool) (e0 : Int -> Bool) (e1 : PL -> PL -> Bool) (e2 : PL -> PL -> PL -> Bool) (n0 n1 : Int) (l2 l3 l4 l5 l6 : PL) : Bool := (bif (decide (n1 < n0)) then (Q87 l2 l3 n1 (fun z4 z5 => (bif (z5 != 0) then (e0 z5) else (gd (decide (l6.length + 1 <= maxElems)) (r1 n0 (wI (n1 + 1)) l2 l3 l4 l5 (l6 ++ [(xV z4)])))))) else (e2 l4 l5 l6))
noncomputable def LP54_0 (e0 : Int -> Bool) (e1 : PL -> PL -> Bool) (e2 : PL -> PL -> PL -> Bool) : Nat -> (Int -> Int -> PL -> PL -> PL -> PL -> Bool) × (Int -> Int -> PL -> PL -> PL -> PL -> PL -> Bool)
 | 0 => ((fun _ _ _ _ _ _ => false), (fun _ _ _ _ _ _ _ => false))
 | n + 1 => (St54_0_0 ((LP54_0 e0 e1 e2 n).1) ((LP54_0 e0 e1 e2 n).2) e0 e1 e2, St54_0_1 ((LP54_0 e0 e1 e2 n).1) ((LP54_0 e0 e1 e2 n).2) e0 e1 e2)
noncomputable def L54_0_0 (e0 : Int -> Bool) (e1 : PL -> PL -> Bool) (e2 : PL -> PL -> PL -> Bool) (n : Nat) : Int -> Int -> PL -> PL -> PL -> PL -> Bool := (LP54_0 e0 e1 e2 n).1
noncomputable def L54_0_1 (e0 : Int -> Bool) (e1 : PL -> PL -> Bool) (e2 : PL -> PL -> PL -> Bool) (n : Nat) : Int -> Int -> PL -> PL -> PL -> PL -> PL -> Bool := (LP54_0 e0 e1 e2 n).2
noncomputable def Λ54_0 : LOracle := mkΛ []
noncomputable def Rn54_0 : List LVal -> List LObj -> KX -> Bool := run E Γ84 Λ54_0 0 B54_0
noncomputable def X54_0_0 (K : KX) (y0 : Int) : Bool := K .ret (tl 46 [(2, (.p (.lit (.pointer Option.none)))), (3, (.p (xI y0)))]) []
noncomputable def X54_0_1 (K : KX) (y0 y1 : PL) : Bool := K (.exit 0) (tl 46 [(5, (.adr 0 0 0))]) [(.box false [(.p (xV y0)), (.p (xV y1)), (.p xN)])]
noncomputable def X54_0_2 (K : KX) (y0 y1 y2 : PL) : Bool := K (.exit 0) (tl 46 [(5, (.adr 0 0 0))]) [(.box false [(.p (xV y0)), (.p (xV y1)), (.own 1)]), (.buf false 41 1 y2)]
noncomputable def T54_0_0 (n0 n1 : Int) (l2 l3 l4 l5 : PL) : List LVal := (tl 46 [(1, (.adr 0 0 0)), (5, (.adr 1 0 0)), (21, (.p (xI n0))), (22, (.p (xI n1)))])
noncomputable def S54_0_0 (n0 n1 : Int) (l2 l3 l4 l5 : PL) : List LObj := [(.box false [(.p (xV l2)), (.p (xV l3))]), (.box false [(.p (xV l4)), (.p (xV l5)), (.p xN)])]
noncomputable def T54_0_1 (n0 n1 : Int) (l2 l3 l4 l5 l6 : PL) : List LVal := (tl 46 [(1, (.adr 0 0 0)), (5, (.adr 1 0 0)), (21, (.p (xI n0))), (22, (.p (xI n1)))])
noncomputable def S54_0_1 (n0 n1 : Int) (l2 l3 l4 l5 l6 : PL) : List LObj := [(.box false [(.p (xV l2)), (.p (xV l3))]), (.box false [(.p (xV l4)), (.p (xV l5)), (.own 2)]), (.buf false 41 1 l6)]
noncomputable def Ent54_0 : LEnt := ⟨0, [1, 5, 21, 22], fun T σ K => (wT (.tu 1 (.td 0 0 0 (.tu 3 (.td 1 0 0 (.tu 15 (.tp (.pi .i64) (.tp (.pi .i64) (.tu 23 .te)))))))) (.sx false (.tp .pl (.tp .pl .te)) (.sx false (.tp .pl (.tp .pl (.tp .pn .te))) .se)) (fun (x0, x1, _) ((x2, x3, _), (x4, x5, _, _), _) => L54_0_0 (X54_0_0 K) (X54_0_1 K) (X54_0_2 K) fuel x0 x1 x2 x3 x4 x5) (wT (.tu 1 (.td 0 0 0 (.tu 3 (.td 1 0 0 (.tu 15 (.tp (.pi .i64) (.tp (.pi .i64) (.tu 23 .te)))))))) (.sx false (.tp .pl (.tp .pl .te)) (.sx false (.tp .pl (.tp .pl (.to 2 .te))) (.sf false 41 1 .se))) (fun (x0, x1, _) ((x2, x3, _), (x4, x5, _), x6, _) => L54_0_1 (X54_0_0 K) (X54_0_1 K) (X54_0_2 K) fuel x0 x1 x2 x3 x4 x5 x6) false T σ) T σ)⟩
noncomputable def G54 (a0_0 a0_1 : PL) (K0 : Int -> Bool) (K1 : PL -> PL -> PL -> Int -> Bool) : Bool :=
 (Q58 a0_0 a0_1 (fun z1 => (bif (z1 != 0) then (K0 z1) else (L54_0_0 (fun y6 => (K0 y6)) (fun y7 y8 => (K1 y7 y8 [] 0)) (fun y9 y10 y11 => (K1 y9 y10 y11 0)) fuel (wI ((wI (2 * (nI a0_1.length))) + 1)) 0 a0_0 a0_1 a0_0 a0_1))))
noncomputable def Q54 := hide G54
theorem Q54_def : Q54 = G54 := hide_eq _
noncomputable def F54 : FT := fun l K => wA (.ps (.pa (.ps .pl (.ps .pl .pe))) .pe) (fun ((a0_0, a0_1, _), _) => Q54 a0_0 a0_1 (fun z1 => K (.tup [(.p (.lit (.pointer Option.none))), (.p (xI z1))])) (fun z0_0 z0_1 z0_2 z1 => K (.tup [(.p (.adr [(xA [(xV z0_0), (xV z0_1), (xV z0_2)])] 0 0)), (.p (xI z1))]))) false l
noncomputable def Γ85 : Oracle := addF 54 F54 Γ84
noncomputable def G84 (a0_0 a0_1 a0_2 a1 a2 : PL) (K0 : Int -> Bool) : Bool :=
 (Q50 a0_0 a1 a2 (fun z1 z2 => (K0 z1)))
noncomputable def Q84 := hide G84
theorem Q84_def : Q84 = G84 := hide_eq _
noncomputable def F84 : FT := fun l K => wA (.ps (.pd 0 0 (.pa (.ps .pl (.ps .pl (.ps .pl .pe))))) (.ps .pl (.ps .pl .pe))) (fun ((a0_0, a0_1, a0_2, _), a1, a2, _) => Q84 a0_0 a0_1 a0_2 a1 a2 (fun z0 => K (.one (.p (xI z0))))) false l
noncomputable def Γ86 : Oracle := addF 84 F84 Γ85
noncomputable def B131_84_0 : Code := bdL 0 (loops 0 (bdF Tryz.f131))
noncomputable def B131_84_2 : Code := bdL 2 (loops 0 B131_84_0)
noncomputable def St131_84_2_0 (r0 : Int -> Int -> PL -> PL -> PL -> Int -> Int -> PL -> Bool) (e0 : Int -> Int -> PL -> PL -> PL -> Int -> PL -> Bool) (n0 n1 : Int) (l2 l3 l4 : PL) (n5 n6 : Int) (l7 : PL) : Bool := (bif (decide (n6 > n0)) then (gd (decide (0 <= n6) && decide (n6 < (nI l7.length))) (oOpt (l7[(n6).toNat]?) fun u1 => (oSl u1 fun p2 => (gd (decide (0 <= (wI (n6 - 1))) && decide ((wI (n6 - 1)) < (nI l7.length))) (oOpt (l7[((wI (n6 - 1))).toNat]?) fun u3 => (oSl u3 fun p4 => (Q84 l2 l3 l4 p2 p4 (fun z5 => (bif (decide (z5 < 0)) then (gd (decide (0 <= (wI (n6 - 1))) && decide ((wI (n6 - 1)) < (nI l7.length))) (oOpt (l7[((wI (n6 - 1))).toNat]?) fun u6 => (oSl u6 fun p7 => (gd (decide (0 <= n6) && decide (n6 < (nI l7.length))) (oOpt (l7[(n6).toNat]?) fun u8 => (oSl u8 fun p9 => (gd (decide (0 <= n6) && decide (n6 < (nI l7.length))) (gd (decide ((n6).toNat < l7.length)) (gd (decide (0 <= (wI (n6 - 1))) && decide ((wI (n6 - 1)) < (nI ((l7.set (n6).toNat (xV p7)).length)))) (gd (decide (((wI (n6 - 1))).toNat < (l7.set (n6).toNat (xV p7)).length)) (r0 n0 n1 l2 l3 l4 n5 (wI (n6 - 1)) ((l7.set (n6).toNat (xV p7)).set ((wI (n6 - 1))).toNat (xV p9))))))))))))) else (e0 n0 n1 l2 l3 l4 n5 l7)))))))))) else (e0 n0 n1 l2 l3 l4 n5 l7))
noncomputable def LP131_84_2 (e0 : Int -> Int -> PL -> PL -> PL -> Int -> PL -> Bool) : Nat -> (Int -> Int -> PL -> PL -> PL -> Int -> Int -> PL -> Bool)
 | 0 => ((fun _ _ _ _ _ _ _ _ => false))
 | n + 1 => (St131_84_2_0 ((LP131_84_2 e0 n)) e0)
noncomputable def L131_84_2_0 (e0 : Int -> Int -> PL -> PL -> PL -> Int -> PL -> Bool) (n : Nat) : Int -> Int -> PL -> PL -> PL -> Int -> Int -> PL -> Bool := (LP131_84_2 e0 n)
noncomputable def Λ131_84_2 : LOracle := mkΛ []
noncomputable def Rn131_84_2 : List LVal -> List LObj -> KX -> Bool := run E Γ86 Λ131_84_2 2 B131_84_2
noncomputable def X131_84_2_0 (K : KX) (y0 y1 : Int) (y2 y3 y4 : PL) (y5 : Int) (y6 : PL) : Bool := K (.exit 2) (tl 53 [(0, (.own 0)), (1, (.p (xI y0))), (2, (.p (xI y1))), (3, (.p (.clo 84 [(.adr [(xA [(xV y2), (xV y3), (xV y4)])] 0 0)] []))), (8, (.p (xI y5)))]) [(.buf false 41 1 y6)]
noncomputable def T131_84_2_0 (n0 n1 : Int) (l2 l3 l4 : PL) (n5 n6 : Int) (l7 : PL) : List LVal := (tl 53 [(0, (.own 0)), (1, (.p (xI n0))), (2, (.p (xI n1))), (3, (.p (.clo 84 [(.adr [(xA [(xV l2), (xV l3), (xV l4)])] 0 0)] []))), (8, (.p (xI n5))), (9, (.p (xI n6)))])
noncomputable def S131_84_2_0 (n0 n1 : Int) (l2 l3 l4 : PL) (n5 n6 : Int) (l7 : PL) : List LObj := [(.buf false 41 1 l7)]
noncomputable def Ent131_84_2 : LEnt := ⟨2, [0, 1, 2, 3, 8, 9], fun T σ K => (wT (.to 0 (.tp (.pi .i64) (.tp (.pi .i64) (.tp (.pc 84 (.ps (.pd 0 0 (.pa (.ps .pl (.ps .pl (.ps .pl .pe))))) .pe) .pe) (.tu 4 (.tp (.pi .i64) (.tp (.pi .i64) (.tu 43 .te)))))))) (.sf false 41 1 .se) (fun (x0, x1, (((x2, x3, x4, _), _), _), x5, x6, _) (x7, _) => L131_84_2_0 (X131_84_2_0 K) fuel x0 x1 x2 x3 x4 x5 x6 x7) false T σ)⟩
noncomputable def St131_84_0_0 (r0 : Int -> Int -> PL -> PL -> PL -> Int -> PL -> Bool) (e0 : PL -> Bool) (n0 n1 : Int) (l2 l3 l4 : PL) (n5 : Int) (l6 : PL) : Bool := (bif (decide (n5 < n1)) then (L131_84_2_0 (fun y10 y11 y12 y13 y14 y15 y16 => (r0 y10 y11 y12 y13 y14 (wI (y15 + 1)) y16)) fuel n0 n1 l2 l3 l4 n5 n5 l6) else (e0 l6))
noncomputable def LP131_84_0 (e0 : PL -> Bool) : Nat -> (Int -> Int -> PL -> PL -> PL -> Int -> PL -> Bool)
 | 0 => ((fun _ _ _ _ _ _ _ => false))
 | n + 1 => (St131_84_0_0 ((LP131_84_0 e0 n)) e0)
noncomputable def L131_84_0_0 (e0 : PL -> Bool) (n : Nat) : Int -> Int -> PL -> PL -> PL -> Int -> PL -> Bool := (LP131_84_0 e0 n)
noncomputable def Λ131_84_0 : LOracle := mkΛ [Ent131_84_2]
noncomputable def Rn131_84_0 : List LVal -> List LObj -> KX -> Bool := run E Γ86 Λ131_84_0 0 B131_84_0
noncomputable def X131_84_0_0 (K : KX) (y0 : PL) : Bool := K (.exit 0) (tl 53 [(0, (.own 0))]) [(.buf false 41 1 y0)]
noncomputable def T131_84_0_0 (n0 n1 : Int) (l2 l3 l4 : PL) (n5 : Int) (l6 : PL) : List LVal := (tl 53 [(0, (.own 0)), (1, (.p (xI n0))), (2, (.p (xI n1))), (3, (.p (.clo 84 [(.adr [(xA [(xV l2), (xV l3), (xV l4)])] 0 0)] []))), (8, (.p (xI n5)))])
noncomputable def S131_84_0_0 (n0 n1 : Int) (l2 l3 l4 : PL) (n5 : Int) (l6 : PL) : List LObj := [(.buf false 41 1 l6)]
noncomputable def Ent131_84_0 : LEnt := ⟨0, [0, 1, 2, 3, 8], fun T σ K => (wT (.to 0 (.tp (.pi .i64) (.tp (.pi .i64) (.tp (.pc 84 (.ps (.pd 0 0 (.pa (.ps .pl (.ps .pl (.ps .pl .pe))))) .pe) .pe) (.tu 4 (.tp (.pi .i64) (.tu 44 .te))))))) (.sf false 41 1 .se) (fun (x0, x1, (((x2, x3, x4, _), _), _), x5, _) (x6, _) => L131_84_0_0 (X131_84_0_0 K) fuel x0 x1 x2 x3 x4 x5 x6) false T σ)⟩
noncomputable def G131_84 (a0 : PL) (a1 a2 : Int) (a3_0 a3_1 a3_2 : PL) (K0 : PL -> Bool) : Bool :=
 (L131_84_0_0 (fun y17 => (K0 y17)) fuel a1 a2 a3_0 a3_1 a3_2 (wI (a1 + 1)) a0)
noncomputable def Q131_84 := hide G131_84
theorem Q131_84_def : Q131_84 = G131_84 := hide_eq _
noncomputable def F131_84 : FT := fun l K => wA (.ps (.pr 41 1) (.ps (.pi .i64) (.ps (.pi .i64) (.ps (.pc 84 (.ps (.pd 0 0 (.pa (.ps .pl (.ps .pl (.ps .pl .pe))))) .pe) .pe) .pe)))) (fun (a0, a1, a2, (((a3_0, a3_1, a3_2, _), _), _), _) => Q131_84 a0 a1 a2 a3_0 a3_1 a3_2 (fun z => K (.one (.p (.sl z))))) (Γ86 true 131 l K) l
noncomputable def Γ87 : Oracle := addW 131 F131_84 Γ86
noncomputable def B98_84_0 : Code := bdL 0 (loops 0 (bdF Tryz.f98))
noncomputable def St98_84_0_0 (r0 : Int -> Int -> Int -> PL -> PL -> PL -> Bool -> Bool -> PL -> Bool) (e0 : PL -> Bool) (n0 n1 n2 : Int) (l3 l4 l5 : PL) (b6 b7 : Bool) (l8 : PL) : Bool := (bif (decide ((wI (n1 - n0)) <= 12)) then (Q131_84 l8 n0 n1 l3 l4 l5 (fun z1 => (e0 z1))) else (bif (n2 == 0) then false else (bif b6 then false else false)))
noncomputable def LP98_84_0 (e0 : PL -> Bool) : Nat -> (Int -> Int -> Int -> PL -> PL -> PL -> Bool -> Bool -> PL -> Bool)
 | 0 => ((fun _ _ _ _ _ _ _ _ _ => false))
 | n + 1 => (St98_84_0_0 ((LP98_84_0 e0 n)) e0)
noncomputable def L98_84_0_0 (e0 : PL -> Bool) (n : Nat) : Int -> Int -> Int -> PL -> PL -> PL -> Bool -> Bool -> PL -> Bool := (LP98_84_0 e0 n)
noncomputable def Λ98_84_0 : LOracle := mkΛ []
noncomputable def Rn98_84_0 : List LVal -> List LObj -> KX -> Bool := run E Γ87 Λ98_84_0 0 B98_84_0
noncomputable def X98_84_0_0 (K : KX) (y0 : PL) : Bool := K .ret (tl 148 [(0, (.own 0))]) [(.buf false 41 1 y0)]
noncomputable def T98_84_0_0 (n0 n1 n2 : Int) (l3 l4 l5 : PL) (b6 b7 : Bool) (l8 : PL) : List LVal := (tl 148 [(0, (.own 0)), (1, (.p (xI n0))), (2, (.p (xI n1))), (3, (.p (xI n2))), (4, (.p (.clo 84 [(.adr [(xA [(xV l3), (xV l4), (xV l5)])] 0 0)] []))), (10, (.p (xB b6))), (11, (.p (xB b7)))])
noncomputable def S98_84_0_0 (n0 n1 n2 : Int) (l3 l4 l5 : PL) (b6 b7 : Bool) (l8 : PL) : List LObj := [(.buf false 41 1 l8)]
noncomputable def Ent98_84_0 : LEnt := ⟨0, [0, 1, 2, 3, 4, 10, 11], fun T σ K => (wT (.to 0 (.tp (.pi .i64) (.tp (.pi .i64) (.tp (.pi .i64) (.tp (.pc 84 (.ps (.pd 0 0 (.pa (.ps .pl (.ps .pl (.ps .pl .pe))))) .pe) .pe) (.tu 5 (.tp .pb (.tp .pb (.tu 136 .te))))))))) (.sf false 41 1 .se) (fun (x0, x1, x2, (((x3, x4, x5, _), _), _), x6, x7, _) (x8, _) => L98_84_0_0 (X98_84_0_0 K) fuel x0 x1 x2 x3 x4 x5 x6 x7 x8) false T σ)⟩
noncomputable def G98_84 (a0 : PL) (a1 a2 a3 : Int) (a4_0 a4_1 a4_2 : PL) (K0 : PL -> Bool) : Bool :=
 (L98_84_0_0 (fun y2 => (K0 y2)) fuel a1 a2 a3 a4_0 a4_1 a4_2 true true a0)
noncomputable def Q98_84 := hide G98_84
theorem Q98_84_def : Q98_84 = G98_84 := hide_eq _
noncomputable def F98_84 : FT := fun l K => wA (.ps (.pr 41 1) (.ps (.pi .i64) (.ps (.pi .i64) (.ps (.pi .i64) (.ps (.pc 84 (.ps (.pd 0 0 (.pa (.ps .pl (.ps .pl (.ps .pl .pe))))) .pe) .pe) .pe))))) (fun (a0, a1, a2, a3, (((a4_0, a4_1, a4_2, _), _), _), _) => Q98_84 a0 a1 a2 a3 a4_0 a4_1 a4_2 (fun z => K (.one (.p (.sl z))))) (Γ87 true 98 l K) l
noncomputable def Γ88 : Oracle := addW 98 F98_84 Γ87
noncomputable def G70_84 (a0 a1_0 a1_1 a1_2 : PL) (K0 : PL -> Bool) : Bool :=
 (H99 (IntKind.u64.wrap (nI a0.length)) (fun z1 => (Q98_84 a0 0 (nI a0.length) z1 a1_0 a1_1 a1_2 (fun z2 => (K0 z2)))))
noncomputable def Q70_84 := hide G70_84
theorem Q70_84_def : Q70_84 = G70_84 := hide_eq _
noncomputable def F70_84 : FT := fun l K => wA (.ps (.pr 41 1) (.ps (.pc 84 (.ps (.pd 0 0 (.pa (.ps .pl (.ps .pl (.ps .pl .pe))))) .pe) .pe) .pe)) (fun (a0, (((a1_0, a1_1, a1_2, _), _), _), _) => Q70_84 a0 a1_0 a1_1 a1_2 (fun z => K (.one (.p (.sl z))))) (Γ88 true 70 l K) l
noncomputable def Γ89 : Oracle := addW 70 F70_84 Γ88
noncomputable def G16 (a0 a1 a2 : PL) (K0 : PL -> Int -> Bool) : Bool :=
 (Q45 1 (fun z1 z2 => (Q45 (-1) (fun z3 z4 => (Q44 a0 [(xV a1), (xV a2)] [(xA [(xZ z1), (xZ z2)]), (xA [(xZ z3), (xZ z4)])] (fun z5 z6 => (K0 z5 z6)))))))
noncomputable def Q16 := hide G16
theorem Q16_def : Q16 = G16 := hide_eq _
noncomputable def F16 : FT := fun l K => wA (.ps .pl (.ps .pl (.ps .pl .pe))) (fun (a0, a1, a2, _) => Q16 a0 a1 a2 (fun z0 z1 => K (.tup [(.p (xV z0)), (.p (xI z1))]))) false l
noncomputable def Γ90 : Oracle := addF 16 F16 Γ89
noncomputable def B55_0 : Code := bdL 0 (loops 0 (bdF Tryz.f55))
noncomputable def St55_0_0 (r0 : PL -> PL -> PL -> Int -> Int -> Int -> Bool) (r1 : PL -> PL -> PL -> Int -> Int -> Int -> PL -> Bool) (e0 : Int -> Bool) (e1 : Bool) (e2 : PL -> Bool) (l0 l1 l2 : PL) (n3 n4 n5 : Int) : Bool := (bif (decide (n5 < n4)) then (gd (decide (0 <= (wI (n5 + n3)))) (oOpt (l2[((wI (n5 + n3))).toNat]?) fun u1 => (oSl u1 fun p2 => (gd (decide (0 <= n5)) (oOpt (l2[(n5).toNat]?) fun u3 => (oSl u3 fun p4 => (Q16 l0 p2 p4 (fun z5 z6 => (bif (z6 != 0) then (e0 z6) else (r1 l0 l1 l2 n3 n4 (wI (n5 + 1)) [(xV z5)])))))))))) else e1)
noncomputable def St55_0_1 (r0 : PL -> PL -> PL -> Int -> Int -> Int -> Bool) (r1 : PL -> PL -> PL -> Int -> Int -> Int -> PL -> Bool) (e0 : Int -> Bool) (e1 : Bool) (e2 : PL -> Bool) (l0 l1 l2 : PL) (n3 n4 n5 : Int) (l6 : PL) : Bool := (bif (decide (n5 < n4)) then (gd (decide (0 <= (wI (n5 + n3)))) (oOpt (l2[((wI (n5 + n3))).toNat]?) fun u7 => (oSl u7 fun p8 => (gd (decide (0 <= n5)) (oOpt (l2[(n5).toNat]?) fun u9 => (oSl u9 fun p10 => (Q16 l0 p8 p10 (fun z11 z12 => (bif (z12 != 0) then (e0 z12) else (gd (decide (l6.length + 1 <= maxElems)) (r1 l0 l1 l2 n3 n4 (wI (n5 + 1)) (l6 ++ [(xV z11)])))))))))))) else (e2 l6))
noncomputable def LP55_0 (e0 : Int -> Bool) (e1 : Bool) (e2 : PL -> Bool) : Nat -> (PL -> PL -> PL -> Int -> Int -> Int -> Bool) × (PL -> PL -> PL -> Int -> Int -> Int -> PL -> Bool)
 | 0 => ((fun _ _ _ _ _ _ => false), (fun _ _ _ _ _ _ _ => false))
 | n + 1 => (St55_0_0 ((LP55_0 e0 e1 e2 n).1) ((LP55_0 e0 e1 e2 n).2) e0 e1 e2, St55_0_1 ((LP55_0 e0 e1 e2 n).1) ((LP55_0 e0 e1 e2 n).2) e0 e1 e2)
noncomputable def L55_0_0 (e0 : Int -> Bool) (e1 : Bool) (e2 : PL -> Bool) (n : Nat) : PL -> PL -> PL -> Int -> Int -> Int -> Bool := (LP55_0 e0 e1 e2 n).1
noncomputable def L55_0_1 (e0 : Int -> Bool) (e1 : Bool) (e2 : PL -> Bool) (n : Nat) : PL -> PL -> PL -> Int -> Int -> Int -> PL -> Bool := (LP55_0 e0 e1 e2 n).2
noncomputable def Λ55_0 : LOracle := mkΛ []
noncomputable def Rn55_0 : List LVal -> List LObj -> KX -> Bool := run E Γ90 Λ55_0 0 B55_0
noncomputable def X55_0_0 (K : KX) (y0 : Int) : Bool := K .ret (tl 53 [(4, (.p xN)), (5, (.p (xI y0)))]) []
noncomputable def X55_0_1 (K : KX)  : Bool := K (.exit 0) (tl 53 [(6, (.p xN))]) []
noncomputable def X55_0_2 (K : KX) (y0 : PL) : Bool := K (.exit 0) (tl 53 [(6, (.own 0))]) [(.buf false 41 1 y0)]
noncomputable def T55_0_0 (l0 l1 l2 : PL) (n3 n4 n5 : Int) : List LVal := (tl 53 [(0, (.p (.adr [(xA [(xV l0), (xV l1), (xV l2)])] 0 0))), (1, (.p (xI n3))), (6, (.p xN)), (15, (.p (xI n4))), (16, (.p (xI n5)))])
noncomputable def S55_0_0 (l0 l1 l2 : PL) (n3 n4 n5 : Int) : List LObj := []
noncomputable def T55_0_1 (l0 l1 l2 : PL) (n3 n4 n5 : Int) (l6 : PL) : List LVal := (tl 53 [(0, (.p (.adr [(xA [(xV l0), (xV l1), (xV l2)])] 0 0))), (1, (.p (xI n3))), (6, (.own 0)), (15, (.p (xI n4))), (16, (.p (xI n5)))])
noncomputable def S55_0_1 (l0 l1 l2 : PL) (n3 n4 n5 : Int) (l6 : PL) : List LObj := [(.buf false 41 1 l6)]
noncomputable def Ent55_0 : LEnt := ⟨0, [0, 1, 6, 15, 16], fun T σ K => (wT (.tp (.pd 0 0 (.pa (.ps .pl (.ps .pl (.ps .pl .pe))))) (.tp (.pi .i64) (.tu 4 (.tp .pn (.tu 8 (.tp (.pi .i64) (.tp (.pi .i64) (.tu 36 .te)))))))) .se (fun ((x0, x1, x2, _), x3, _, x4, x5, _) _ => L55_0_0 (X55_0_0 K) (X55_0_1 K) (X55_0_2 K) fuel x0 x1 x2 x3 x4 x5) (wT (.tp (.pd 0 0 (.pa (.ps .pl (.ps .pl (.ps .pl .pe))))) (.tp (.pi .i64) (.tu 4 (.to 0 (.tu 8 (.tp (.pi .i64) (.tp (.pi .i64) (.tu 36 .te)))))))) (.sf false 41 1 .se) (fun ((x0, x1, x2, _), x3, x4, x5, _) (x6, _) => L55_0_1 (X55_0_0 K) (X55_0_1 K) (X55_0_2 K) fuel x0 x1 x2 x3 x4 x5 x6) false T σ) T σ)⟩
noncomputable def G55 (a0_0 a0_1 a0_2 : PL) (a1 : Int) (K0 : PL -> Int -> Bool) : Bool :=
 (L55_0_0 (fun y13 => (K0 [] y13)) ((K0 [] 0)) (fun y14 => (K0 y14 0)) fuel a0_0 a0_1 a0_2 a1 (nI a0_1.length) 0)
noncomputable def Q55 := hide G55
theorem Q55_def : Q55 = G55 := hide_eq _
noncomputable def F55 : FT := fun l K => wA (.ps (.pd 0 0 (.pa (.ps .pl (.ps .pl (.ps .pl .pe))))) (.ps (.pi .i64) .pe)) (fun ((a0_0, a0_1, a0_2, _), a1, _) => Q55 a0_0 a0_1 a0_2 a1 (fun z0 z1 => K (.tup [(.p (xV z0)), (.p (xI z1))]))) false l
noncomputable def Γ91 : Oracle := addF 55 F55 Γ90
noncomputable def G115 (a0_0 a0_1 : ByteArray) (K0 : ByteArray -> Bool) : Bool :=
 (bif (a0_1.toList == s_31.toList) then (K0 a0_0) else (gd (decide (a0_0.size + s_2f.size <= 1099511627776)) (gd (decide ((a0_0 ++ s_2f).size + a0_1.size <= 1099511627776)) (K0 ((a0_0 ++ s_2f) ++ a0_1)))))
noncomputable def Q115 := hide G115
theorem Q115_def : Q115 = G115 := hide_eq _
noncomputable def F115 : FT := fun l K => wA (.ps (.pa (.ps .pz (.ps .pz .pe))) .pe) (fun ((a0_0, a0_1, _), _) => Q115 a0_0 a0_1 (fun z0 => K (.one (.p (xZ z0))))) false l
noncomputable def Γ92 : Oracle := addF 115 F115 Γ91
noncomputable def Hand116 (W0 : World) : Prop := ∀ (a0 : PL) (a1 : ByteArray) (K : RRes -> Bool), H116 a0 a1 (fun z0 => K (.one (.p (xZ z0)))) = true -> ∃ r, Pure Tryz.prog W0 116 [(xV a0), (xZ a1)] r /\ K r = true
noncomputable def F116 : FT := fun l K => wA (.ps .pl (.ps .pz .pe)) (fun (a0, a1, _) => H116 a0 a1 (fun z0 => K (.one (.p (xZ z0))))) false l
noncomputable def Γ93 : Oracle := addF 116 F116 Γ92
noncomputable def B86_0 : Code := bdL 0 (loops 0 (bdF Tryz.f86))
noncomputable def St86_0_0 (r0 : PL -> PL -> Int -> Int -> Bool) (r1 : PL -> PL -> Int -> Int -> PL -> Bool) (e0 : Bool) (e1 : PL -> Bool) (l0 l1 : PL) (n2 n3 : Int) : Bool := (bif (decide (n3 < n2)) then (gd (decide (0 <= n3)) (oOpt (l1[(n3).toNat]?) fun u2 => (oR u2 fun s3v s4v => (gd (decide (0 <= n3)) (oOpt (l0[(n3).toNat]?) fun u5 => (oInt .i64 u5 fun n6v => (H112 n6v (fun z7 => (bif (s3v.toList == s_30.toList) then (r0 l0 l1 n2 (wI (n3 + 1))) else (Q45 1 (fun z8 z9 => (bif (s3v == z8 && s4v == z9) then (r1 l0 l1 n2 (wI (n3 + 1)) [(xZ z7)]) else (bif (s4v.toList == s_31.toList) then (Q106 s3v (fun z10 => (bif (decide (z10 > 0)) then (Q115 s3v s4v (fun z11 => (gd (decide (s_5e.size + z11.size <= 1099511627776)) (gd (decide (z7.size + (s_5e ++ z11).size <= 1099511627776)) (r1 l0 l1 n2 (wI (n3 + 1)) [(xZ (z7 ++ (s_5e ++ z11)))]))))) else (Q115 s3v s4v (fun z12 => (gd (decide (s_5e28.size + z12.size <= 1099511627776)) (gd (decide ((s_5e28 ++ z12).size + s_29.size <= 1099511627776)) (gd (decide (z7.size + ((s_5e28 ++ z12) ++ s_29).size <= 1099511627776)) (r1 l0 l1 n2 (wI (n3 + 1)) [(xZ (z7 ++ ((s_5e28 ++ z12) ++ s_29)))]))))))))) else (Q115 s3v s4v (fun z13 => (gd (decide (s_5e28.size + z13.size <= 1099511627776)) (gd (decide ((s_5e28 ++ z13).size + s_29.size <= 1099511627776)) (gd (decide (z7.size + ((s_5e28 ++ z13) ++ s_29).size <= 1099511627776)) (r1 l0 l1 n2 (wI (n3 + 1)) [(xZ (z7 ++ ((s_5e28 ++ z13) ++ s_29)))]))))))))))))))))))) else e0)
noncomputable def St86_0_1 (r0 : PL -> PL -> Int -> Int -> Bool) (r1 : PL -> PL -> Int -> Int -> PL -> Bool) (e0 : Bool) (e1 : PL -> Bool) (l0 l1 : PL) (n2 n3 : Int) (l4 : PL) : Bool := (bif (decide (n3 < n2)) then (gd (decide (0 <= n3)) (oOpt (l1[(n3).toNat]?) fun u14 => (oR u14 fun s15v s16v => (gd (decide (0 <= n3)) (oOpt (l0[(n3).toNat]?) fun u17 => (oInt .i64 u17 fun n18v => (H112 n18v (fun z19 => (bif (s15v.toList == s_30.toList) then (r1 l0 l1 n2 (wI (n3 + 1)) l4) else (Q45 1 (fun z20 z21 => (bif (s15v == z20 && s16v == z21) then (gd (decide (l4.length + 1 <= maxElems)) (r1 l0 l1 n2 (wI (n3 + 1)) (l4 ++ [(xZ z19)]))) else (bif (s16v.toList == s_31.toList) then (Q106 s15v (fun z22 => (bif (decide (z22 > 0)) then (Q115 s15v s16v (fun z23 => (gd (decide (s_5e.size + z23.size <= 1099511627776)) (gd (decide (z19.size + (s_5e ++ z23).size <= 1099511627776)) (gd (decide (l4.length + 1 <= maxElems)) (r1 l0 l1 n2 (wI (n3 + 1)) (l4 ++ [(xZ (z19 ++ (s_5e ++ z23)))]))))))) else (Q115 s15v s16v (fun z24 => (gd (decide (s_5e28.size + z24.size <= 1099511627776)) (gd (decide ((s_5e28 ++ z24).size + s_29.size <= 1099511627776)) (gd (decide (z19.size + ((s_5e28 ++ z24) ++ s_29).size <= 1099511627776)) (gd (decide (l4.length + 1 <= maxElems)) (r1 l0 l1 n2 (wI (n3 + 1)) (l4 ++ [(xZ (z19 ++ ((s_5e28 ++ z24) ++ s_29)))]))))))))))) else (Q115 s15v s16v (fun z25 => (gd (decide (s_5e28.size + z25.size <= 1099511627776)) (gd (decide ((s_5e28 ++ z25).size + s_29.size <= 1099511627776)) (gd (decide (z19.size + ((s_5e28 ++ z25) ++ s_29).size <= 1099511627776)) (gd (decide (l4.length + 1 <= maxElems)) (r1 l0 l1 n2 (wI (n3 + 1)) (l4 ++ [(xZ (z19 ++ ((s_5e28 ++ z25) ++ s_29)))]))))))))))))))))))))) else (e1 l4))
noncomputable def LP86_0 (e0 : Bool) (e1 : PL -> Bool) : Nat -> (PL -> PL -> Int -> Int -> Bool) × (PL -> PL -> Int -> Int -> PL -> Bool)
 | 0 => ((fun _ _ _ _ => false), (fun _ _ _ _ _ => false))
 | n + 1 => (St86_0_0 ((LP86_0 e0 e1 n).1) ((LP86_0 e0 e1 n).2) e0 e1, St86_0_1 ((LP86_0 e0 e1 n).1) ((LP86_0 e0 e1 n).2) e0 e1)
noncomputable def L86_0_0 (e0 : Bool) (e1 : PL -> Bool) (n : Nat) : PL -> PL -> Int -> Int -> Bool := (LP86_0 e0 e1 n).1
noncomputable def L86_0_1 (e0 : Bool) (e1 : PL -> Bool) (n : Nat) : PL -> PL -> Int -> Int -> PL -> Bool := (LP86_0 e0 e1 n).2
noncomputable def Λ86_0 : LOracle := mkΛ []
noncomputable def Rn86_0 : List LVal -> List LObj -> KX -> Bool := run E Γ93 Λ86_0 0 B86_0
noncomputable def X86_0_0 (K : KX)  : Bool := K (.exit 0) (tl 68 [(7, (.p xN))]) []
noncomputable def X86_0_1 (K : KX) (y0 : PL) : Bool := K (.exit 0) (tl 68 [(7, (.own 0))]) [(.buf false 9 1 y0)]
noncomputable def T86_0_0 (l0 l1 : PL) (n2 n3 : Int) : List LVal := (tl 68 [(0, (.p (xV l0))), (7, (.p xN)), (17, (.p (xV l1))), (18, (.p (xI n2))), (19, (.p (xI n3)))])
noncomputable def S86_0_0 (l0 l1 : PL) (n2 n3 : Int) : List LObj := []
noncomputable def T86_0_1 (l0 l1 : PL) (n2 n3 : Int) (l4 : PL) : List LVal := (tl 68 [(0, (.p (xV l0))), (7, (.own 0)), (17, (.p (xV l1))), (18, (.p (xI n2))), (19, (.p (xI n3)))])
noncomputable def S86_0_1 (l0 l1 : PL) (n2 n3 : Int) (l4 : PL) : List LObj := [(.buf false 9 1 l4)]
noncomputable def Ent86_0 : LEnt := ⟨0, [0, 7, 17, 18, 19], fun T σ K => (wT (.tp .pl (.tu 6 (.tp .pn (.tu 9 (.tp .pl (.tp (.pi .i64) (.tp (.pi .i64) (.tu 48 .te)))))))) .se (fun (x0, _, x1, x2, x3, _) _ => L86_0_0 (X86_0_0 K) (X86_0_1 K) fuel x0 x1 x2 x3) (wT (.tp .pl (.tu 6 (.to 0 (.tu 9 (.tp .pl (.tp (.pi .i64) (.tp (.pi .i64) (.tu 48 .te)))))))) (.sf false 9 1 .se) (fun (x0, x1, x2, x3, _) (x4, _) => L86_0_1 (X86_0_0 K) (X86_0_1 K) fuel x0 x1 x2 x3 x4) false T σ) T σ)⟩
noncomputable def G86 (a0 a1 : PL) (K0 : ByteArray -> Int -> Bool) : Bool :=
 (Q32 a0 a1 (fun z1 => (bif (z1 != 0) then (K0 s_e z1) else (L86_0_0 ((K0 s_31 0)) (fun y26 => (bif ((nI y26.length) == 0) then (K0 s_31 0) else (H116 y26 s_20 (fun z27 => (K0 z27 0))))) fuel a0 a1 (nI a1.length) 0))))
noncomputable def Q86 := hide G86
theorem Q86_def : Q86 = G86 := hide_eq _
noncomputable def F86 : FT := fun l K => wA (.ps .pl (.ps .pl .pe)) (fun (a0, a1, _) => Q86 a0 a1 (fun z0 z1 => K (.tup [(.p (xZ z0)), (.p (xI z1))]))) false l
noncomputable def Γ94 : Oracle := addF 86 F86 Γ93
noncomputable def Hand52 (W0 : World) : Prop := ∀ (a0_0 a0_1 a0_2 : PL) (a1 : Int) (K : RRes -> Bool), H52 a0_0 a0_1 a0_2 a1 (fun z0 z1 => K (.tup [(.p (xV z0)), (.p (xI z1))])) = true -> ∃ r, Pure Tryz.prog W0 52 [(.adr [(xA [(xV a0_0), (xV a0_1), (xV a0_2)])] 0 0), (xI a1)] r /\ K r = true
noncomputable def F52 : FT := fun l K => wA (.ps (.pd 0 0 (.pa (.ps .pl (.ps .pl (.ps .pl .pe))))) (.ps (.pi .i64) .pe)) (fun ((a0_0, a0_1, a0_2, _), a1, _) => H52 a0_0 a0_1 a0_2 a1 (fun z0 z1 => K (.tup [(.p (xV z0)), (.p (xI z1))]))) false l
noncomputable def Γ95 : Oracle := addF 52 F52 Γ94
noncomputable def B62_0 : Code := bdL 0 (loops 0 (bdF Tryz.f62))
noncomputable def St62_0_0 (r0 : PL -> PL -> PL -> Int -> Int -> Bool) (r1 : PL -> PL -> PL -> Int -> Int -> PL -> Bool) (e0 : Int -> Bool) (e1 : Bool) (e2 : PL -> Bool) (l0 l1 l2 : PL) (n3 n4 : Int) : Bool := (bif (decide (n4 < n3)) then (H52 l0 l1 l2 n4 (fun z1 z2 => (bif (z2 != 0) then (e0 z2) else (r1 l0 l1 l2 n3 (wI (n4 + 1)) [(xV z1)])))) else e1)
noncomputable def St62_0_1 (r0 : PL -> PL -> PL -> Int -> Int -> Bool) (r1 : PL -> PL -> PL -> Int -> Int -> PL -> Bool) (e0 : Int -> Bool) (e1 : Bool) (e2 : PL -> Bool) (l0 l1 l2 : PL) (n3 n4 : Int) (l5 : PL) : Bool := (bif (decide (n4 < n3)) then (H52 l0 l1 l2 n4 (fun z3 z4 => (bif (z4 != 0) then (e0 z4) else (gd (decide (l5.length + 1 <= maxElems)) (r1 l0 l1 l2 n3 (wI (n4 + 1)) (l5 ++ [(xV z3)])))))) else (e2 l5))
noncomputable def LP62_0 (e0 : Int -> Bool) (e1 : Bool) (e2 : PL -> Bool) : Nat -> (PL -> PL -> PL -> Int -> Int -> Bool) × (PL -> PL -> PL -> Int -> Int -> PL -> Bool)
 | 0 => ((fun _ _ _ _ _ => false), (fun _ _ _ _ _ _ => false))
 | n + 1 => (St62_0_0 ((LP62_0 e0 e1 e2 n).1) ((LP62_0 e0 e1 e2 n).2) e0 e1 e2, St62_0_1 ((LP62_0 e0 e1 e2 n).1) ((LP62_0 e0 e1 e2 n).2) e0 e1 e2)
noncomputable def L62_0_0 (e0 : Int -> Bool) (e1 : Bool) (e2 : PL -> Bool) (n : Nat) : PL -> PL -> PL -> Int -> Int -> Bool := (LP62_0 e0 e1 e2 n).1
noncomputable def L62_0_1 (e0 : Int -> Bool) (e1 : Bool) (e2 : PL -> Bool) (n : Nat) : PL -> PL -> PL -> Int -> Int -> PL -> Bool := (LP62_0 e0 e1 e2 n).2
noncomputable def Λ62_0 : LOracle := mkΛ []
noncomputable def Rn62_0 : List LVal -> List LObj -> KX -> Bool := run E Γ95 Λ62_0 0 B62_0
noncomputable def X62_0_0 (K : KX) (y0 : Int) : Bool := K .ret (tl 33 [(2, (.p xN)), (3, (.p (xI y0)))]) []
noncomputable def X62_0_1 (K : KX)  : Bool := K (.exit 0) (tl 33 [(4, (.p xN))]) []
noncomputable def X62_0_2 (K : KX) (y0 : PL) : Bool := K (.exit 0) (tl 33 [(4, (.own 0))]) [(.buf false 30 1 y0)]
noncomputable def T62_0_0 (l0 l1 l2 : PL) (n3 n4 : Int) : List LVal := (tl 33 [(0, (.p (.adr [(xA [(xV l0), (xV l1), (xV l2)])] 0 0))), (4, (.p xN)), (14, (.p (xI n3))), (15, (.p (xI n4)))])
noncomputable def S62_0_0 (l0 l1 l2 : PL) (n3 n4 : Int) : List LObj := []
noncomputable def T62_0_1 (l0 l1 l2 : PL) (n3 n4 : Int) (l5 : PL) : List LVal := (tl 33 [(0, (.p (.adr [(xA [(xV l0), (xV l1), (xV l2)])] 0 0))), (4, (.own 0)), (14, (.p (xI n3))), (15, (.p (xI n4)))])
noncomputable def S62_0_1 (l0 l1 l2 : PL) (n3 n4 : Int) (l5 : PL) : List LObj := [(.buf false 30 1 l5)]
noncomputable def Ent62_0 : LEnt := ⟨0, [0, 4, 14, 15], fun T σ K => (wT (.tp (.pd 0 0 (.pa (.ps .pl (.ps .pl (.ps .pl .pe))))) (.tu 3 (.tp .pn (.tu 9 (.tp (.pi .i64) (.tp (.pi .i64) (.tu 17 .te))))))) .se (fun ((x0, x1, x2, _), _, x3, x4, _) _ => L62_0_0 (X62_0_0 K) (X62_0_1 K) (X62_0_2 K) fuel x0 x1 x2 x3 x4) (wT (.tp (.pd 0 0 (.pa (.ps .pl (.ps .pl (.ps .pl .pe))))) (.tu 3 (.to 0 (.tu 9 (.tp (.pi .i64) (.tp (.pi .i64) (.tu 17 .te))))))) (.sf false 30 1 .se) (fun ((x0, x1, x2, _), x3, x4, _) (x5, _) => L62_0_1 (X62_0_0 K) (X62_0_1 K) (X62_0_2 K) fuel x0 x1 x2 x3 x4 x5) false T σ) T σ)⟩
noncomputable def G62 (a0_0 a0_1 a0_2 : PL) (K0 : PL -> Int -> Bool) : Bool :=
 (L62_0_0 (fun y5 => (K0 [] y5)) ((K0 [] 0)) (fun y6 => (K0 y6 0)) fuel a0_0 a0_1 a0_2 (wI ((nI a0_1.length) + 1)) 0)
noncomputable def Q62 := hide G62
theorem Q62_def : Q62 = G62 := hide_eq _
noncomputable def F62 : FT := fun l K => wA (.ps (.pd 0 0 (.pa (.ps .pl (.ps .pl (.ps .pl .pe))))) .pe) (fun ((a0_0, a0_1, a0_2, _), _) => Q62 a0_0 a0_1 a0_2 (fun z0 z1 => K (.tup [(.p (xV z0)), (.p (xI z1))]))) false l
noncomputable def Γ96 : Oracle := addF 62 F62 Γ95
noncomputable def G41 (a0_0 a0_1 : PL) (K0 : PL -> Int -> Bool) (K1 : PL -> PL -> PL -> PL -> Int -> Bool) : Bool :=
 (Q54 a0_0 a0_1 (fun z1 => (bif (z1 != 0) then (K0 [] z1) else false)) (fun z2 z3 z4 z5 => (bif (z5 != 0) then (K0 [] z5) else (Q62 z2 z3 z4 (fun z6 z7 => (K1 z2 z3 z4 z6 z7))))))
noncomputable def Q41 := hide G41
theorem Q41_def : Q41 = G41 := hide_eq _
noncomputable def F41 : FT := fun l K => wA (.ps (.pa (.ps .pl (.ps .pl .pe))) .pe) (fun ((a0_0, a0_1, _), _) => Q41 a0_0 a0_1 (fun z1 z2 => K (.tup [(.p (.lit (.pointer Option.none))), (.p (xV z1)), (.p (xI z2))])) (fun z0_0 z0_1 z0_2 z1 z2 => K (.tup [(.p (.adr [(xA [(xV z0_0), (xV z0_1), (xV z0_2)])] 0 0)), (.p (xV z1)), (.p (xI z2))]))) false l
noncomputable def Γ97 : Oracle := addF 41 F41 Γ96
noncomputable def B13_0 : Code := bdL 0 (loops 0 (bdF Tryz.f13))
noncomputable def St13_0_0 (r0 : PL -> Int -> Int -> Bool) (r1 : PL -> Int -> Int -> PL -> Bool) (e0 : Bool) (e1 : PL -> Bool) (l0 : PL) (n1 n2 : Int) : Bool := (bif (decide (n2 < n1)) then (gd (decide (0 <= n2)) (oOpt (l0[(n2).toNat]?) fun u4 => (oSl u4 fun p5 => (r1 l0 n1 (wI (n2 + 1)) [(xI (nI p5.length))])))) else e0)
noncomputable def St13_0_1 (r0 : PL -> Int -> Int -> Bool) (r1 : PL -> Int -> Int -> PL -> Bool) (e0 : Bool) (e1 : PL -> Bool) (l0 : PL) (n1 n2 : Int) (l3 : PL) : Bool := (bif (decide (n2 < n1)) then (gd (decide (0 <= n2)) (oOpt (l0[(n2).toNat]?) fun u6 => (oSl u6 fun p7 => (gd (decide (l3.length + 1 <= maxElems)) (r1 l0 n1 (wI (n2 + 1)) (l3 ++ [(xI (nI p7.length))])))))) else (e1 l3))
noncomputable def LP13_0 (e0 : Bool) (e1 : PL -> Bool) : Nat -> (PL -> Int -> Int -> Bool) × (PL -> Int -> Int -> PL -> Bool)
 | 0 => ((fun _ _ _ => false), (fun _ _ _ _ => false))
 | n + 1 => (St13_0_0 ((LP13_0 e0 e1 n).1) ((LP13_0 e0 e1 n).2) e0 e1, St13_0_1 ((LP13_0 e0 e1 n).1) ((LP13_0 e0 e1 n).2) e0 e1)
noncomputable def L13_0_0 (e0 : Bool) (e1 : PL -> Bool) (n : Nat) : PL -> Int -> Int -> Bool := (LP13_0 e0 e1 n).1
noncomputable def L13_0_1 (e0 : Bool) (e1 : PL -> Bool) (n : Nat) : PL -> Int -> Int -> PL -> Bool := (LP13_0 e0 e1 n).2
noncomputable def Λ13_0 : LOracle := mkΛ []
noncomputable def Rn13_0 : List LVal -> List LObj -> KX -> Bool := run E Γ97 Λ13_0 0 B13_0
noncomputable def X13_0_0 (K : KX)  : Bool := K (.exit 0) (tl 36 [(7, (.p xN))]) []
noncomputable def X13_0_1 (K : KX) (y0 : PL) : Bool := K (.exit 0) (tl 36 [(7, (.own 0))]) [(.buf false 3 1 y0)]
noncomputable def T13_0_0 (l0 : PL) (n1 n2 : Int) : List LVal := (tl 36 [(7, (.p xN)), (23, (.p (xV l0))), (24, (.p (xI n1))), (25, (.p (xI n2)))])
noncomputable def S13_0_0 (l0 : PL) (n1 n2 : Int) : List LObj := []
noncomputable def T13_0_1 (l0 : PL) (n1 n2 : Int) (l3 : PL) : List LVal := (tl 36 [(7, (.own 0)), (23, (.p (xV l0))), (24, (.p (xI n1))), (25, (.p (xI n2)))])
noncomputable def S13_0_1 (l0 : PL) (n1 n2 : Int) (l3 : PL) : List LObj := [(.buf false 3 1 l3)]
noncomputable def Ent13_0 : LEnt := ⟨0, [7, 23, 24, 25], fun T σ K => (wT (.tu 7 (.tp .pn (.tu 15 (.tp .pl (.tp (.pi .i64) (.tp (.pi .i64) (.tu 10 .te))))))) .se (fun (_, x0, x1, x2, _) _ => L13_0_0 (X13_0_0 K) (X13_0_1 K) fuel x0 x1 x2) (wT (.tu 7 (.to 0 (.tu 15 (.tp .pl (.tp (.pi .i64) (.tp (.pi .i64) (.tu 10 .te))))))) (.sf false 3 1 .se) (fun (x0, x1, x2, _) (x3, _) => L13_0_1 (X13_0_0 K) (X13_0_1 K) fuel x0 x1 x2 x3) false T σ) T σ)⟩
noncomputable def G13 (a0_0 a0_1 : PL) (K0 : PL -> Int -> Bool) : Bool :=
 (Q41 a0_0 a0_1 (fun z1 z2 => (bif (z2 != 0) then (K0 [] z2) else (gd (decide (0 <= (wI ((nI z1.length) - 1)))) (gd (decide (1 <= ((wI ((nI z1.length) - 1))).toNat) && decide (((wI ((nI z1.length) - 1))).toNat <= z1.length)) (sliceK (z1[1]?) ((L13_0_0 ((K0 [] 0)) (fun y8 => (K0 y8 0)) fuel [] 0 0)) fun u3 => (oSl u3 fun p9 => (L13_0_0 ((K0 [] 0)) (fun y10 => (K0 y10 0)) fuel ((z1.drop 1).take (((wI ((nI z1.length) - 1))).toNat - 1)) (nI (((z1.drop 1).take (((wI ((nI z1.length) - 1))).toNat - 1)).length)) 0))))))) (fun z11 z12 z13 z14 z15 => (bif (z15 != 0) then (K0 [] z15) else (gd (decide (0 <= (wI ((nI z14.length) - 1)))) (gd (decide (1 <= ((wI ((nI z14.length) - 1))).toNat) && decide (((wI ((nI z14.length) - 1))).toNat <= z14.length)) (sliceK (z14[1]?) ((L13_0_0 ((K0 [] 0)) (fun y17 => (K0 y17 0)) fuel [] 0 0)) fun u16 => (oSl u16 fun p18 => (L13_0_0 ((K0 [] 0)) (fun y19 => (K0 y19 0)) fuel ((z14.drop 1).take (((wI ((nI z14.length) - 1))).toNat - 1)) (nI (((z14.drop 1).take (((wI ((nI z14.length) - 1))).toNat - 1)).length)) 0))))))))
noncomputable def Q13 := hide G13
theorem Q13_def : Q13 = G13 := hide_eq _
noncomputable def F13 : FT := fun l K => wA (.ps (.pa (.ps .pl (.ps .pl .pe))) .pe) (fun ((a0_0, a0_1, _), _) => Q13 a0_0 a0_1 (fun z0 z1 => K (.tup [(.p (xV z0)), (.p (xI z1))]))) false l
noncomputable def Γ98 : Oracle := addF 13 F13 Γ97
noncomputable def G43 (a0 : PL) (K0 : Bool -> Bool) : Bool :=
 (K0 (decide ((nI a0.length) > 2)))
noncomputable def Q43 := hide G43
theorem Q43_def : Q43 = G43 := hide_eq _
noncomputable def F43 : FT := fun l K => wA (.ps .pl .pe) (fun (a0, _) => Q43 a0 (fun z0 => K (.one (.p (xB z0))))) false l
noncomputable def Γ99 : Oracle := addF 43 F43 Γ98
noncomputable def B75_43_0 : Code := bdL 0 (loops 0 (bdF Tryz.f75))
noncomputable def St75_43_0_0 (r0 : PL -> Int -> Int -> Bool) (e0 : Int -> Bool) (e1 : Bool) (l0 : PL) (n1 n2 : Int) : Bool := (bif (decide (n2 < n1)) then (gd (decide (0 <= n2)) (oOpt (l0[(n2).toNat]?) fun u1 => (oSl u1 fun p2 => (Q43 p2 (fun z3 => (bif z3 then (e0 n2) else (r0 l0 n1 (wI (n2 + 1))))))))) else e1)
noncomputable def LP75_43_0 (e0 : Int -> Bool) (e1 : Bool) : Nat -> (PL -> Int -> Int -> Bool)
 | 0 => ((fun _ _ _ => false))
 | n + 1 => (St75_43_0_0 ((LP75_43_0 e0 e1 n)) e0 e1)
noncomputable def L75_43_0_0 (e0 : Int -> Bool) (e1 : Bool) (n : Nat) : PL -> Int -> Int -> Bool := (LP75_43_0 e0 e1 n)
noncomputable def Λ75_43_0 : LOracle := mkΛ []
noncomputable def Rn75_43_0 : List LVal -> List LObj -> KX -> Bool := run E Γ99 Λ75_43_0 0 B75_43_0
noncomputable def X75_43_0_0 (K : KX) (y0 : Int) : Bool := K .ret (tl 19 [(4, (.p (xI y0)))]) []
noncomputable def X75_43_0_1 (K : KX)  : Bool := K (.exit 0) (tl 19 []) []
noncomputable def T75_43_0_0 (l0 : PL) (n1 n2 : Int) : List LVal := (tl 19 [(0, (.p (xV l0))), (1, (.p (.clo 43 [] []))), (7, (.p (xI n1))), (8, (.p (xI n2)))])
noncomputable def S75_43_0_0 (l0 : PL) (n1 n2 : Int) : List LObj := []
noncomputable def Ent75_43_0 : LEnt := ⟨0, [0, 1, 7, 8], fun T σ K => (wT (.tp .pl (.tp (.pc 43 .pe .pe) (.tu 5 (.tp (.pi .i64) (.tp (.pi .i64) (.tu 10 .te)))))) .se (fun (x0, (_, _), x1, x2, _) _ => L75_43_0_0 (X75_43_0_0 K) (X75_43_0_1 K) fuel x0 x1 x2) false T σ)⟩
noncomputable def G75_43 (a0 : PL) (K0 : Int -> Bool) : Bool :=
 (L75_43_0_0 (fun y4 => (K0 y4)) ((K0 (-1))) fuel a0 (nI a0.length) 0)
noncomputable def Q75_43 := hide G75_43
theorem Q75_43_def : Q75_43 = G75_43 := hide_eq _
noncomputable def F75_43 : FT := fun l K => wA (.ps .pl (.ps (.pc 43 .pe .pe) .pe)) (fun (a0, (_, _), _) => Q75_43 a0 (fun z0 => K (.one (.p (xI z0))))) (Γ99 false 75 l K) l
noncomputable def Γ100 : Oracle := addF 75 F75_43 Γ99
noncomputable def G42_43 (a0 : PL) (K0 : Bool -> Bool) : Bool :=
 (Q75_43 a0 (fun z1 => (K0 (decide (z1 >= 0)))))
noncomputable def Q42_43 := hide G42_43
theorem Q42_43_def : Q42_43 = G42_43 := hide_eq _
noncomputable def F42_43 : FT := fun l K => wA (.ps .pl (.ps (.pc 43 .pe .pe) .pe)) (fun (a0, (_, _), _) => Q42_43 a0 (fun z0 => K (.one (.p (xB z0))))) (Γ100 false 42 l K) l
noncomputable def Γ101 : Oracle := addF 42 F42_43 Γ100
noncomputable def G14 (a0_0 a0_1 : PL) (K0 : Int -> Int -> Bool) : Bool :=
 (Q41 a0_0 a0_1 (fun z1 z2 => (bif (z2 != 0) then (K0 0 z2) else (oOpt (z1[1]?) fun u3 => (oSl u3 fun p4 => (bif ((nI p4.length) == 1) then (K0 1 0) else (oOpt (z1[1]?) fun u5 => (oSl u5 fun p6 => (bif (decide ((nI p6.length) > 2)) then (K0 3 0) else (gd (decide (0 <= (wI ((nI z1.length) - 1)))) (gd (decide (1 <= ((wI ((nI z1.length) - 1))).toNat) && decide (((wI ((nI z1.length) - 1))).toNat <= z1.length)) (sliceK (z1[1]?) ((Q42_43 [] (fun z8 => (bif z8 then (K0 3 0) else (K0 2 0))))) fun u7 => (oSl u7 fun p9 => (Q42_43 ((z1.drop 1).take (((wI ((nI z1.length) - 1))).toNat - 1)) (fun z10 => (bif z10 then (K0 3 0) else (K0 2 0)))))))))))))))) (fun z11 z12 z13 z14 z15 => (bif (z15 != 0) then (K0 0 z15) else (oOpt (z14[1]?) fun u16 => (oSl u16 fun p17 => (bif ((nI p17.length) == 1) then (K0 1 0) else (oOpt (z14[1]?) fun u18 => (oSl u18 fun p19 => (bif (decide ((nI p19.length) > 2)) then (K0 3 0) else (gd (decide (0 <= (wI ((nI z14.length) - 1)))) (gd (decide (1 <= ((wI ((nI z14.length) - 1))).toNat) && decide (((wI ((nI z14.length) - 1))).toNat <= z14.length)) (sliceK (z14[1]?) ((Q42_43 [] (fun z21 => (bif z21 then (K0 3 0) else (K0 2 0))))) fun u20 => (oSl u20 fun p22 => (Q42_43 ((z14.drop 1).take (((wI ((nI z14.length) - 1))).toNat - 1)) (fun z23 => (bif z23 then (K0 3 0) else (K0 2 0)))))))))))))))))
noncomputable def Q14 := hide G14
theorem Q14_def : Q14 = G14 := hide_eq _
noncomputable def F14 : FT := fun l K => wA (.ps (.pa (.ps .pl (.ps .pl .pe))) .pe) (fun ((a0_0, a0_1, _), _) => Q14 a0_0 a0_1 (fun z0 z1 => K (.tup [(.p (xI z0)), (.p (xI z1))]))) false l
noncomputable def Γ102 : Oracle := addF 14 F14 Γ101
noncomputable def B49_0 : Code := bdL 0 (loops 0 (bdF Tryz.f49))
noncomputable def St49_0_0 (r0 : Int -> PL -> Int -> Int -> Int -> Int -> Bool) (r1 : Int -> PL -> PL -> PL -> PL -> Int -> Int -> Int -> Int -> Bool) (e0 : Int -> Int -> Bool) (e1 : Bool -> Int -> Int -> Int -> PL -> PL -> Bool) (n0 : Int) (l1 : PL) (n2 n3 n4 n5 : Int) : Bool := (bif (decide (n3 < n2)) then (gd (decide (0 <= n3)) (oOpt (l1[(n3).toNat]?) fun u3 => (oSl u3 fun p4 => (gd (decide (0 <= n3)) (oOpt (l1[(n3).toNat]?) fun u5 => (oSl u5 fun p6 => (gd (decide (0 <= (wI ((nI p6.length) - 1)))) (oOpt (p4[((wI ((nI p6.length) - 1))).toNat]?) fun u7 => (oSl u7 fun p8 => (gd (decide (0 <= (wI (n3 + 1)))) (oOpt (l1[((wI (n3 + 1))).toNat]?) fun u9 => (oSl u9 fun p10 => (oOpt (p10[0]?) fun u11 => (oSl u11 fun p12 => false)))))))))))))) else (e0 n4 n5))
noncomputable def St49_0_1 (r0 : Int -> PL -> Int -> Int -> Int -> Int -> Bool) (r1 : Int -> PL -> PL -> PL -> PL -> Int -> Int -> Int -> Int -> Bool) (e0 : Int -> Int -> Bool) (e1 : Bool -> Int -> Int -> Int -> PL -> PL -> Bool) (n0 : Int) (l1 l2 l3 l4 : PL) (n5 n6 n7 n8 : Int) : Bool := (bif (decide (n6 < n5)) then (gd (decide (0 <= n6)) (oOpt (l4[(n6).toNat]?) fun u13 => (oSl u13 fun p14 => (gd (decide (0 <= n6)) (oOpt (l4[(n6).toNat]?) fun u15 => (oSl u15 fun p16 => (gd (decide (0 <= (wI ((nI p16.length) - 1)))) (oOpt (p14[((wI ((nI p16.length) - 1))).toNat]?) fun u17 => (oSl u17 fun p18 => (gd (decide (0 <= (wI (n6 + 1)))) (oOpt (l4[((wI (n6 + 1))).toNat]?) fun u19 => (oSl u19 fun p20 => (oOpt (p20[0]?) fun u21 => (oSl u21 fun p22 => (Q84 l1 l2 l3 p18 p22 (fun z23 => (bif (decide (z23 >= n0)) then (e1 false 0 n6 (wI (n6 + 1)) p22 p18) else (r1 n0 l1 l2 l3 l4 n5 (wI (n6 + 1)) n7 n8)))))))))))))))))) else (e0 n7 n8))
noncomputable def LP49_0 (e0 : Int -> Int -> Bool) (e1 : Bool -> Int -> Int -> Int -> PL -> PL -> Bool) : Nat -> (Int -> PL -> Int -> Int -> Int -> Int -> Bool) × (Int -> PL -> PL -> PL -> PL -> Int -> Int -> Int -> Int -> Bool)
 | 0 => ((fun _ _ _ _ _ _ => false), (fun _ _ _ _ _ _ _ _ _ => false))
 | n + 1 => (St49_0_0 ((LP49_0 e0 e1 n).1) ((LP49_0 e0 e1 n).2) e0 e1, St49_0_1 ((LP49_0 e0 e1 n).1) ((LP49_0 e0 e1 n).2) e0 e1)
noncomputable def L49_0_0 (e0 : Int -> Int -> Bool) (e1 : Bool -> Int -> Int -> Int -> PL -> PL -> Bool) (n : Nat) : Int -> PL -> Int -> Int -> Int -> Int -> Bool := (LP49_0 e0 e1 n).1
noncomputable def L49_0_1 (e0 : Int -> Int -> Bool) (e1 : Bool -> Int -> Int -> Int -> PL -> PL -> Bool) (n : Nat) : Int -> PL -> PL -> PL -> PL -> Int -> Int -> Int -> Int -> Bool := (LP49_0 e0 e1 n).2
noncomputable def Λ49_0 : LOracle := mkΛ []
noncomputable def Rn49_0 : List LVal -> List LObj -> KX -> Bool := run E Γ102 Λ49_0 0 B49_0
noncomputable def X49_0_0 (K : KX) (y0 y1 : Int) : Bool := K (.exit 0) (tl 61 [(4, (.adr 0 0 0))]) [(.box false [(.p (xI y0)), (.p (xI y1)), (.p xN), (.p xN)])]
noncomputable def X49_0_1 (K : KX) (y0 : Bool) (y1 y2 y3 : Int) (y4 y5 : PL) : Bool := K .ret (tl 61 [(4, (.adr 0 0 0)), (5, (.p (xB y0))), (6, (.p (xI y1)))]) [(.box false [(.p (xI y2)), (.p (xI y3)), (.p (xV y4)), (.p (xV y5))])]
noncomputable def T49_0_0 (n0 : Int) (l1 : PL) (n2 n3 n4 n5 : Int) : List LVal := (tl 61 [(1, (.p (xI n0))), (4, (.adr 0 0 0)), (7, (.p (.lit (.pointer Option.none)))), (8, (.p (xV l1))), (24, (.p (xI n2))), (25, (.p (xI n3)))])
noncomputable def S49_0_0 (n0 : Int) (l1 : PL) (n2 n3 n4 n5 : Int) : List LObj := [(.box false [(.p (xI n4)), (.p (xI n5)), (.p xN), (.p xN)])]
noncomputable def T49_0_1 (n0 : Int) (l1 l2 l3 l4 : PL) (n5 n6 n7 n8 : Int) : List LVal := (tl 61 [(1, (.p (xI n0))), (4, (.adr 0 0 0)), (7, (.p (.adr [(xA [(xV l1), (xV l2), (xV l3)])] 0 0))), (8, (.p (xV l4))), (24, (.p (xI n5))), (25, (.p (xI n6)))])
noncomputable def S49_0_1 (n0 : Int) (l1 l2 l3 l4 : PL) (n5 n6 n7 n8 : Int) : List LObj := [(.box false [(.p (xI n7)), (.p (xI n8)), (.p xN), (.p xN)])]
noncomputable def Ent49_0 : LEnt := ⟨0, [1, 4, 7, 8, 24, 25], fun T σ K => (wT (.tu 1 (.tp (.pi .i64) (.tu 2 (.td 0 0 0 (.tu 2 (.tp .pm (.tp .pl (.tu 15 (.tp (.pi .i64) (.tp (.pi .i64) (.tu 35 .te))))))))))) (.sx false (.tp (.pi .i64) (.tp (.pi .i64) (.tp .pn (.tp .pn .te)))) .se) (fun (x0, _, x1, x2, x3, _) ((x4, x5, _, _, _), _) => L49_0_0 (X49_0_0 K) (X49_0_1 K) fuel x0 x1 x2 x3 x4 x5) (wT (.tu 1 (.tp (.pi .i64) (.tu 2 (.td 0 0 0 (.tu 2 (.tp (.pd 0 0 (.pa (.ps .pl (.ps .pl (.ps .pl .pe))))) (.tp .pl (.tu 15 (.tp (.pi .i64) (.tp (.pi .i64) (.tu 35 .te))))))))))) (.sx false (.tp (.pi .i64) (.tp (.pi .i64) (.tp .pn (.tp .pn .te)))) .se) (fun (x0, (x1, x2, x3, _), x4, x5, x6, _) ((x7, x8, _, _, _), _) => L49_0_1 (X49_0_0 K) (X49_0_1 K) fuel x0 x1 x2 x3 x4 x5 x6 x7 x8) false T σ) T σ)⟩
noncomputable def G49 (a0_0 a0_1 : PL) (a1 : Int) (K0 : Int -> Int -> PL -> PL -> Bool -> Int -> Bool) : Bool :=
 (Q41 a0_0 a0_1 (fun z1 z2 => (bif (z2 != 0) then (K0 0 0 [] [] false z2) else (L49_0_0 (fun y24 y25 => (K0 0 0 [] [] true 0)) (fun y26 y27 y28 y29 y30 y31 => (K0 y28 y29 y30 y31 y26 y27)) fuel a1 z1 (wI ((nI z1.length) - 1)) 0 0 0))) (fun z32 z33 z34 z35 z36 => (bif (z36 != 0) then (K0 0 0 [] [] false z36) else (L49_0_1 (fun y37 y38 => (K0 0 0 [] [] true 0)) (fun y39 y40 y41 y42 y43 y44 => (K0 y41 y42 y43 y44 y39 y40)) fuel a1 z32 z33 z34 z35 (wI ((nI z35.length) - 1)) 0 0 0))))
noncomputable def Q49 := hide G49
theorem Q49_def : Q49 = G49 := hide_eq _
noncomputable def F49 : FT := fun l K => wA (.ps (.pa (.ps .pl (.ps .pl .pe))) (.ps (.pi .i64) .pe)) (fun ((a0_0, a0_1, _), a1, _) => Q49 a0_0 a0_1 a1 (fun z0_0 z0_1 z0_2 z0_3 z1 z2 => K (.tup [(.p (xA [(xI z0_0), (xI z0_1), (xV z0_2), (xV z0_3)])), (.p (xB z1)), (.p (xI z2))]))) false l
noncomputable def Γ103 : Oracle := addF 49 F49 Γ102
noncomputable def G20 (a0_0 a0_1 : PL) (K0 : Int -> Int -> PL -> PL -> Bool -> Int -> Bool) : Bool :=
 (Q49 a0_0 a0_1 1 (fun z1 z2 z3 z4 z5 z6 => (K0 z1 z2 z3 z4 z5 z6)))
noncomputable def Q20 := hide G20
theorem Q20_def : Q20 = G20 := hide_eq _
noncomputable def F20 : FT := fun l K => wA (.ps (.pa (.ps .pl (.ps .pl .pe))) .pe) (fun ((a0_0, a0_1, _), _) => Q20 a0_0 a0_1 (fun z0_0 z0_1 z0_2 z0_3 z1 z2 => K (.tup [(.p (xA [(xI z0_0), (xI z0_1), (xV z0_2), (xV z0_3)])), (.p (xB z1)), (.p (xI z2))]))) false l
noncomputable def Γ104 : Oracle := addF 20 F20 Γ103
noncomputable def B53_0 : Code := bdL 0 (loops 0 (bdF Tryz.f53))
noncomputable def St53_0_0 (r0 : PL -> PL -> Int -> Int -> Bool) (e0 : Bool -> Bool) (e1 : Bool) (l0 l1 : PL) (n2 n3 : Int) : Bool := (bif (decide (n3 < n2)) then (gd (decide (0 <= n3)) (oOpt (l0[(n3).toNat]?) fun u1 => (oR u1 fun s2v s3v => (gd (decide (0 <= n3)) (oOpt (l1[(n3).toNat]?) fun u4 => (oR u4 fun s5v s6v => (bif (!(s2v == s5v && s3v == s6v)) then (e0 false) else (r0 l0 l1 n2 (wI (n3 + 1)))))))))) else e1)
noncomputable def LP53_0 (e0 : Bool -> Bool) (e1 : Bool) : Nat -> (PL -> PL -> Int -> Int -> Bool)
 | 0 => ((fun _ _ _ _ => false))
 | n + 1 => (St53_0_0 ((LP53_0 e0 e1 n)) e0 e1)
noncomputable def L53_0_0 (e0 : Bool -> Bool) (e1 : Bool) (n : Nat) : PL -> PL -> Int -> Int -> Bool := (LP53_0 e0 e1 n)
noncomputable def Λ53_0 : LOracle := mkΛ []
noncomputable def Rn53_0 : List LVal -> List LObj -> KX -> Bool := run E Γ104 Λ53_0 0 B53_0
noncomputable def X53_0_0 (K : KX) (y0 : Bool) : Bool := K .ret (tl 26 [(4, (.p (xB y0)))]) []
noncomputable def X53_0_1 (K : KX)  : Bool := K (.exit 0) (tl 26 []) []
noncomputable def T53_0_0 (l0 l1 : PL) (n2 n3 : Int) : List LVal := (tl 26 [(0, (.p (xV l0))), (1, (.p (xV l1))), (12, (.p (xI n2))), (13, (.p (xI n3)))])
noncomputable def S53_0_0 (l0 l1 : PL) (n2 n3 : Int) : List LObj := []
noncomputable def Ent53_0 : LEnt := ⟨0, [0, 1, 12, 13], fun T σ K => (wT (.tp .pl (.tp .pl (.tu 10 (.tp (.pi .i64) (.tp (.pi .i64) (.tu 12 .te)))))) .se (fun (x0, x1, x2, x3, _) _ => L53_0_0 (X53_0_0 K) (X53_0_1 K) fuel x0 x1 x2 x3) false T σ)⟩
noncomputable def G53 (a0 a1 : PL) (K0 : Bool -> Bool) : Bool :=
 (bif ((nI a0.length) != (nI a1.length)) then (K0 false) else (L53_0_0 (fun y7 => (K0 y7)) ((K0 true)) fuel a0 a1 (nI a0.length) 0))
noncomputable def Q53 := hide G53
theorem Q53_def : Q53 = G53 := hide_eq _
noncomputable def F53 : FT := fun l K => wA (.ps .pl (.ps .pl .pe)) (fun (a0, a1, _) => Q53 a0 a1 (fun z0 => K (.one (.p (xB z0))))) false l
noncomputable def Γ105 : Oracle := addF 53 F53 Γ104
noncomputable def G24 (a0 a1 : PL) (K0 : Bool -> Bool) : Bool :=
 (Q53 a0 a1 (fun z1 => (K0 z1)))
noncomputable def Q24 := hide G24
theorem Q24_def : Q24 = G24 := hide_eq _
noncomputable def F24 : FT := fun l K => wA (.ps .pl (.ps .pl .pe)) (fun (a0, a1, _) => Q24 a0 a1 (fun z0 => K (.one (.p (xB z0))))) false l
noncomputable def Γ106 : Oracle := addF 24 F24 Γ105
noncomputable def G47 (a0 a1 : PL) (K0 : Bool -> Bool) : Bool :=
 (Q24 a1 a0 (fun z1 => (K0 z1)))
noncomputable def Q47 := hide G47
theorem Q47_def : Q47 = G47 := hide_eq _
noncomputable def F47 : FT := fun l K => wA (.ps .pl (.ps (.pd 0 0 (.pa (.ps .pl .pe))) .pe)) (fun (a0, (a1, _), _) => Q47 a0 a1 (fun z0 => K (.one (.p (xB z0))))) false l
noncomputable def Γ107 : Oracle := addF 47 F47 Γ106
noncomputable def B83_47_0 : Code := bdL 0 (loops 0 (bdF Tryz.f83))
noncomputable def St83_47_0_0 (r0 : PL -> PL -> Int -> Int -> Bool) (e0 : Int -> Bool) (e1 : Bool) (l0 l1 : PL) (n2 n3 : Int) : Bool := (bif (decide (n3 < n2)) then (gd (decide (0 <= n3)) (oOpt (l0[(n3).toNat]?) fun u1 => (oSl u1 fun p2 => (Q47 p2 l1 (fun z3 => (bif z3 then (e0 n3) else (r0 l0 l1 n2 (wI (n3 + 1))))))))) else e1)
noncomputable def LP83_47_0 (e0 : Int -> Bool) (e1 : Bool) : Nat -> (PL -> PL -> Int -> Int -> Bool)
 | 0 => ((fun _ _ _ _ => false))
 | n + 1 => (St83_47_0_0 ((LP83_47_0 e0 e1 n)) e0 e1)
noncomputable def L83_47_0_0 (e0 : Int -> Bool) (e1 : Bool) (n : Nat) : PL -> PL -> Int -> Int -> Bool := (LP83_47_0 e0 e1 n)
noncomputable def Λ83_47_0 : LOracle := mkΛ []
noncomputable def Rn83_47_0 : List LVal -> List LObj -> KX -> Bool := run E Γ107 Λ83_47_0 0 B83_47_0
noncomputable def X83_47_0_0 (K : KX) (y0 : Int) : Bool := K .ret (tl 19 [(4, (.p (xI y0)))]) []
noncomputable def X83_47_0_1 (K : KX)  : Bool := K (.exit 0) (tl 19 []) []
noncomputable def T83_47_0_0 (l0 l1 : PL) (n2 n3 : Int) : List LVal := (tl 19 [(0, (.p (xV l0))), (1, (.p (.clo 47 [] [(.adr [(xA [(xV l1)])] 0 0)]))), (7, (.p (xI n2))), (8, (.p (xI n3)))])
noncomputable def S83_47_0_0 (l0 l1 : PL) (n2 n3 : Int) : List LObj := []
noncomputable def Ent83_47_0 : LEnt := ⟨0, [0, 1, 7, 8], fun T σ K => (wT (.tp .pl (.tp (.pc 47 .pe (.ps (.pd 0 0 (.pa (.ps .pl .pe))) .pe)) (.tu 5 (.tp (.pi .i64) (.tp (.pi .i64) (.tu 10 .te)))))) .se (fun (x0, (_, ((x1, _), _)), x2, x3, _) _ => L83_47_0_0 (X83_47_0_0 K) (X83_47_0_1 K) fuel x0 x1 x2 x3) false T σ)⟩
noncomputable def G83_47 (a0 a1 : PL) (K0 : Int -> Bool) : Bool :=
 (L83_47_0_0 (fun y4 => (K0 y4)) ((K0 (-1))) fuel a0 a1 (nI a0.length) 0)
noncomputable def Q83_47 := hide G83_47
theorem Q83_47_def : Q83_47 = G83_47 := hide_eq _
noncomputable def F83_47 : FT := fun l K => wA (.ps .pl (.ps (.pc 47 .pe (.ps (.pd 0 0 (.pa (.ps .pl .pe))) .pe)) .pe)) (fun (a0, (_, ((a1, _), _)), _) => Q83_47 a0 a1 (fun z0 => K (.one (.p (xI z0))))) (Γ107 false 83 l K) l
noncomputable def Γ108 : Oracle := addF 83 F83_47 Γ107
noncomputable def G46_47 (a0 a1 : PL) (K0 : Bool -> Bool) : Bool :=
 (Q83_47 a0 a1 (fun z1 => (K0 (decide (z1 >= 0)))))
noncomputable def Q46_47 := hide G46_47
theorem Q46_47_def : Q46_47 = G46_47 := hide_eq _
noncomputable def F46_47 : FT := fun l K => wA (.ps .pl (.ps (.pc 47 .pe (.ps (.pd 0 0 (.pa (.ps .pl .pe))) .pe)) .pe)) (fun (a0, (_, ((a1, _), _)), _) => Q46_47 a0 a1 (fun z0 => K (.one (.p (xB z0))))) (Γ108 false 46 l K) l
noncomputable def Γ109 : Oracle := addF 46 F46_47 Γ108
noncomputable def G48 (a0 : PL) (K0 : PL -> Bool) : Bool :=
 (elemsK a0 false fun _ _ => (elemsK a0 ((K0 [])) fun u1 r2v => (oR u1 fun s3v s4v => (gd (decide (0 + ((xA [(xZ s3v), (xZ s4v)]) :: r2v).length <= maxElems)) (K0 ([] ++ ((xA [(xZ s3v), (xZ s4v)]) :: r2v)))))))
noncomputable def Q48 := hide G48
theorem Q48_def : Q48 = G48 := hide_eq _
noncomputable def F48 : FT := fun l K => wA (.ps .pl .pe) (fun (a0, _) => Q48 a0 (fun z0 => K (.one (.p (xV z0))))) false l
noncomputable def Γ110 : Oracle := addF 48 F48 Γ109
noncomputable def B18_0 : Code := bdL 0 (loops 0 (bdF Tryz.f18))
noncomputable def B18_2 : Code := bdL 2 (loops 0 B18_0)
noncomputable def B18_4 : Code := bdL 4 (loops 2 B18_2)
noncomputable def St18_4_0 (r0 : PL -> Int -> Int -> Int -> Int -> PL -> Int -> Int -> Int -> Int -> Bool) (e0 : Bool -> Int -> Int -> Int -> PL -> PL -> Bool) (e1 : PL -> Int -> Int -> Int -> Int -> Int -> Int -> Bool) (l0 : PL) (n1 n2 n3 n4 : Int) (l5 : PL) (n6 n7 n8 n9 : Int) : Bool := (bif (decide (n7 < n6)) then (gd (decide (0 <= n7)) (oOpt (l5[(n7).toNat]?) fun u5 => (oSl u5 fun p6 => (gd (decide (0 <= n2)) (oOpt (l0[(n2).toNat]?) fun u7 => (oSl u7 fun p8 => (Q46_47 p8 p6 (fun z9 => (bif z9 then (Q48 p6 (fun z10 => (e0 false 0 n1 n2 p6 z10))) else (r0 l0 n1 n2 n3 n4 l5 n6 (wI (n7 + 1)) n8 n9)))))))))) else (e1 l0 n1 n2 n3 n4 n8 n9))
noncomputable def LP18_4 (e0 : Bool -> Int -> Int -> Int -> PL -> PL -> Bool) (e1 : PL -> Int -> Int -> Int -> Int -> Int -> Int -> Bool) : Nat -> (PL -> Int -> Int -> Int -> Int -> PL -> Int -> Int -> Int -> Int -> Bool)
 | 0 => ((fun _ _ _ _ _ _ _ _ _ _ => false))
 | n + 1 => (St18_4_0 ((LP18_4 e0 e1 n)) e0 e1)
noncomputable def L18_4_0 (e0 : Bool -> Int -> Int -> Int -> PL -> PL -> Bool) (e1 : PL -> Int -> Int -> Int -> Int -> Int -> Int -> Bool) (n : Nat) : PL -> Int -> Int -> Int -> Int -> PL -> Int -> Int -> Int -> Int -> Bool := (LP18_4 e0 e1 n)
noncomputable def Λ18_4 : LOracle := mkΛ []
noncomputable def Rn18_4 : List LVal -> List LObj -> KX -> Bool := run E Γ110 Λ18_4 4 B18_4
noncomputable def X18_4_0 (K : KX) (y0 : Bool) (y1 y2 y3 : Int) (y4 y5 : PL) : Bool := K .ret (tl 58 [(2, (.adr 0 0 0)), (3, (.p (xB y0))), (4, (.p (xI y1)))]) [(.box false [(.p (xI y2)), (.p (xI y3)), (.p (xV y4)), (.p (xV y5))])]
noncomputable def X18_4_1 (K : KX) (y0 : PL) (y1 y2 y3 y4 y5 y6 : Int) : Bool := K (.exit 4) (tl 58 [(2, (.adr 0 0 0)), (6, (.p (xV y0))), (7, (.p (xI y1))), (8, (.p (xI y2))), (22, (.p (xI y3))), (23, (.p (xI y4)))]) [(.box false [(.p (xI y5)), (.p (xI y6)), (.p xN), (.p xN)])]
noncomputable def T18_4_0 (l0 : PL) (n1 n2 n3 n4 : Int) (l5 : PL) (n6 n7 n8 n9 : Int) : List LVal := (tl 58 [(2, (.adr 0 0 0)), (6, (.p (xV l0))), (7, (.p (xI n1))), (8, (.p (xI n2))), (22, (.p (xI n3))), (23, (.p (xI n4))), (37, (.p (xV l5))), (38, (.p (xI n6))), (39, (.p (xI n7)))])
noncomputable def S18_4_0 (l0 : PL) (n1 n2 n3 n4 : Int) (l5 : PL) (n6 n7 n8 n9 : Int) : List LObj := [(.box false [(.p (xI n8)), (.p (xI n9)), (.p xN), (.p xN)])]
noncomputable def Ent18_4 : LEnt := ⟨4, [2, 6, 7, 8, 22, 23, 37, 38, 39], fun T σ K => (wT (.tu 2 (.td 0 0 0 (.tu 3 (.tp .pl (.tp (.pi .i64) (.tp (.pi .i64) (.tu 13 (.tp (.pi .i64) (.tp (.pi .i64) (.tu 13 (.tp .pl (.tp (.pi .i64) (.tp (.pi .i64) (.tu 18 .te)))))))))))))) (.sx false (.tp (.pi .i64) (.tp (.pi .i64) (.tp .pn (.tp .pn .te)))) .se) (fun (x0, x1, x2, x3, x4, x5, x6, x7, _) ((x8, x9, _, _, _), _) => L18_4_0 (X18_4_0 K) (X18_4_1 K) fuel x0 x1 x2 x3 x4 x5 x6 x7 x8 x9) false T σ)⟩
noncomputable def St18_2_0 (r0 : PL -> Int -> Int -> Int -> Int -> Int -> Int -> Bool) (e0 : Bool -> Int -> Int -> Int -> PL -> PL -> Bool) (e1 : PL -> Int -> Int -> Int -> Int -> Bool) (l0 : PL) (n1 n2 n3 n4 n5 n6 : Int) : Bool := (bif (decide (n2 < (nI l0.length))) then (gd (decide (0 <= n1)) (oOpt (l0[(n1).toNat]?) fun u3 => (oSl u3 fun p4 => (L18_4_0 (fun y11 y12 y13 y14 y15 y16 => (e0 y11 y12 y13 y14 y15 y16)) (fun y17 y18 y19 y20 y21 y22 y23 => (r0 y17 y18 (wI (y19 + 1)) y20 y21 y22 y23)) fuel l0 n1 n2 n3 n4 p4 (nI p4.length) 0 n5 n6)))) else (e1 l0 n3 n4 n5 n6))
noncomputable def LP18_2 (e0 : Bool -> Int -> Int -> Int -> PL -> PL -> Bool) (e1 : PL -> Int -> Int -> Int -> Int -> Bool) : Nat -> (PL -> Int -> Int -> Int -> Int -> Int -> Int -> Bool)
 | 0 => ((fun _ _ _ _ _ _ _ => false))
 | n + 1 => (St18_2_0 ((LP18_2 e0 e1 n)) e0 e1)
noncomputable def L18_2_0 (e0 : Bool -> Int -> Int -> Int -> PL -> PL -> Bool) (e1 : PL -> Int -> Int -> Int -> Int -> Bool) (n : Nat) : PL -> Int -> Int -> Int -> Int -> Int -> Int -> Bool := (LP18_2 e0 e1 n)
noncomputable def Λ18_2 : LOracle := mkΛ [Ent18_4]
noncomputable def Rn18_2 : List LVal -> List LObj -> KX -> Bool := run E Γ110 Λ18_2 2 B18_2
noncomputable def X18_2_0 (K : KX) (y0 : Bool) (y1 y2 y3 : Int) (y4 y5 : PL) : Bool := K .ret (tl 58 [(2, (.adr 0 0 0)), (3, (.p (xB y0))), (4, (.p (xI y1)))]) [(.box false [(.p (xI y2)), (.p (xI y3)), (.p (xV y4)), (.p (xV y5))])]
noncomputable def X18_2_1 (K : KX) (y0 : PL) (y1 y2 y3 y4 : Int) : Bool := K (.exit 2) (tl 58 [(2, (.adr 0 0 0)), (6, (.p (xV y0))), (22, (.p (xI y1))), (23, (.p (xI y2)))]) [(.box false [(.p (xI y3)), (.p (xI y4)), (.p xN), (.p xN)])]
noncomputable def T18_2_0 (l0 : PL) (n1 n2 n3 n4 n5 n6 : Int) : List LVal := (tl 58 [(2, (.adr 0 0 0)), (6, (.p (xV l0))), (7, (.p (xI n1))), (8, (.p (xI n2))), (22, (.p (xI n3))), (23, (.p (xI n4)))])
noncomputable def S18_2_0 (l0 : PL) (n1 n2 n3 n4 n5 n6 : Int) : List LObj := [(.box false [(.p (xI n5)), (.p (xI n6)), (.p xN), (.p xN)])]
noncomputable def Ent18_2 : LEnt := ⟨2, [2, 6, 7, 8, 22, 23], fun T σ K => (wT (.tu 2 (.td 0 0 0 (.tu 3 (.tp .pl (.tp (.pi .i64) (.tp (.pi .i64) (.tu 13 (.tp (.pi .i64) (.tp (.pi .i64) (.tu 34 .te)))))))))) (.sx false (.tp (.pi .i64) (.tp (.pi .i64) (.tp .pn (.tp .pn .te)))) .se) (fun (x0, x1, x2, x3, x4, _) ((x5, x6, _, _, _), _) => L18_2_0 (X18_2_0 K) (X18_2_1 K) fuel x0 x1 x2 x3 x4 x5 x6) false T σ)⟩
noncomputable def St18_0_0 (r0 : PL -> Int -> Int -> Int -> Int -> Bool) (e0 : Bool -> Int -> Int -> Int -> PL -> PL -> Bool) (e1 : Int -> Int -> Bool) (l0 : PL) (n1 n2 n3 n4 : Int) : Bool := (bif (decide (n2 < n1)) then (L18_2_0 (fun y24 y25 y26 y27 y28 y29 => (e0 y24 y25 y26 y27 y28 y29)) (fun y30 y31 y32 y33 y34 => (r0 y30 y31 (wI (y32 + 1)) y33 y34)) fuel l0 n2 (wI (n2 + 1)) n1 n2 n3 n4) else (e1 n3 n4))
noncomputable def LP18_0 (e0 : Bool -> Int -> Int -> Int -> PL -> PL -> Bool) (e1 : Int -> Int -> Bool) : Nat -> (PL -> Int -> Int -> Int -> Int -> Bool)
 | 0 => ((fun _ _ _ _ _ => false))
 | n + 1 => (St18_0_0 ((LP18_0 e0 e1 n)) e0 e1)
noncomputable def L18_0_0 (e0 : Bool -> Int -> Int -> Int -> PL -> PL -> Bool) (e1 : Int -> Int -> Bool) (n : Nat) : PL -> Int -> Int -> Int -> Int -> Bool := (LP18_0 e0 e1 n)
noncomputable def Λ18_0 : LOracle := mkΛ [Ent18_2]
noncomputable def Rn18_0 : List LVal -> List LObj -> KX -> Bool := run E Γ110 Λ18_0 0 B18_0
noncomputable def X18_0_0 (K : KX) (y0 : Bool) (y1 y2 y3 : Int) (y4 y5 : PL) : Bool := K .ret (tl 58 [(2, (.adr 0 0 0)), (3, (.p (xB y0))), (4, (.p (xI y1)))]) [(.box false [(.p (xI y2)), (.p (xI y3)), (.p (xV y4)), (.p (xV y5))])]
noncomputable def X18_0_1 (K : KX) (y0 y1 : Int) : Bool := K (.exit 0) (tl 58 [(2, (.adr 0 0 0))]) [(.box false [(.p (xI y0)), (.p (xI y1)), (.p xN), (.p xN)])]
noncomputable def T18_0_0 (l0 : PL) (n1 n2 n3 n4 : Int) : List LVal := (tl 58 [(2, (.adr 0 0 0)), (6, (.p (xV l0))), (22, (.p (xI n1))), (23, (.p (xI n2)))])
noncomputable def S18_0_0 (l0 : PL) (n1 n2 n3 n4 : Int) : List LObj := [(.box false [(.p (xI n3)), (.p (xI n4)), (.p xN), (.p xN)])]
noncomputable def Ent18_0 : LEnt := ⟨0, [2, 6, 22, 23], fun T σ K => (wT (.tu 2 (.td 0 0 0 (.tu 3 (.tp .pl (.tu 15 (.tp (.pi .i64) (.tp (.pi .i64) (.tu 34 .te)))))))) (.sx false (.tp (.pi .i64) (.tp (.pi .i64) (.tp .pn (.tp .pn .te)))) .se) (fun (x0, x1, x2, _) ((x3, x4, _, _, _), _) => L18_0_0 (X18_0_0 K) (X18_0_1 K) fuel x0 x1 x2 x3 x4) false T σ)⟩
noncomputable def G18 (a0_0 a0_1 : PL) (K0 : Int -> Int -> PL -> PL -> Bool -> Int -> Bool) : Bool :=
 (Q41 a0_0 a0_1 (fun z1 z2 => (bif (z2 != 0) then (K0 0 0 [] [] false z2) else (L18_0_0 (fun y35 y36 y37 y38 y39 y40 => (K0 y37 y38 y39 y40 y35 y36)) (fun y41 y42 => (K0 0 0 [] [] true 0)) fuel z1 (nI z1.length) 0 0 0))) (fun z43 z44 z45 z46 z47 => (bif (z47 != 0) then (K0 0 0 [] [] false z47) else (L18_0_0 (fun y48 y49 y50 y51 y52 y53 => (K0 y50 y51 y52 y53 y48 y49)) (fun y54 y55 => (K0 0 0 [] [] true 0)) fuel z46 (nI z46.length) 0 0 0))))
noncomputable def Q18 := hide G18
theorem Q18_def : Q18 = G18 := hide_eq _
noncomputable def F18 : FT := fun l K => wA (.ps (.pa (.ps .pl (.ps .pl .pe))) .pe) (fun ((a0_0, a0_1, _), _) => Q18 a0_0 a0_1 (fun z0_0 z0_1 z0_2 z0_3 z1 z2 => K (.tup [(.p (xA [(xI z0_0), (xI z0_1), (xV z0_2), (xV z0_3)])), (.p (xB z1)), (.p (xI z2))]))) false l
noncomputable def Γ111 : Oracle := addF 18 F18 Γ110
noncomputable def G11  (K0 : Bool -> Bool) : Bool :=
 (Q33 (fun z1 z2 => (Q13 z1 z2 (fun z3 z4 => (Q14 z1 z2 (fun z5 z6 => (Q20 z1 z2 (fun z7 z8 z9 z10 z11 z12 => (Q18 z1 z2 (fun z13 z14 z15 z16 z17 z18 => (bif (z4 == 0) then (bif ((nI z3.length) == 6) then (oOpt (z3[0]?) fun u19 => (oInt .i64 u19 fun n20v => (bif (n20v == 2) then (oOpt (z3[5]?) fun u21 => (oInt .i64 u21 fun n22v => (bif (n22v == 2) then (bif (z5 == 2) then (bif (z6 == 0) then (bif z11 then (K0 false) else (bif (z7 == 3) then (bif (z8 == 4) then (bif (z12 == 0) then (bif z17 then (K0 (z18 == 0)) else (K0 false)) else (K0 false)) else (K0 false)) else (K0 false))) else (K0 false)) else (K0 false)) else (K0 false)))) else (K0 false)))) else (K0 false)) else (K0 false))))))))))))
noncomputable def Q11 := hide G11
theorem Q11_def : Q11 = G11 := hide_eq _
noncomputable def F11 : FT := fun l K => wA .pe (fun _ => Q11  (fun z0 => K (.one (.p (xB z0))))) false l
noncomputable def Γ112 : Oracle := addF 11 F11 Γ111
noncomputable def G34 (a0_0 : Bool) (a0_1 a0_2 a0_3 a0_4 a0_5 a0_6 a0_7 a0_8 a0_9 a0_10 a0_11 a0_12 a0_13 a0_14 a0_15 a0_16 a0_17 a0_18 a0_19 a0_20 a0_21 a0_22 a0_23 a0_24 a0_25 a0_26 : Int) (K0 : PL -> Bool) : Bool :=
 (bif a0_0 then (K0 [(xI 2), (xI 3), (xI 5)]) else (K0 [(xI 2), (xI 3)]))
noncomputable def Q34 := hide G34
theorem Q34_def : Q34 = G34 := hide_eq _
noncomputable def F34 : FT := fun l K => wA (.ps (.pa (.ps .pb (.ps (.pi .u8) (.ps (.pi .u8) (.ps (.pi .i8) (.ps (.pi .i8) (.ps (.pi .i8) (.ps (.pi .i8) (.ps (.pi .i8) (.ps (.pi .i8) (.ps (.pi .i8) (.ps (.pi .i8) (.ps (.pi .i8) (.ps (.pi .i8) (.ps (.pi .i8) (.ps (.pi .i8) (.ps (.pi .i8) (.ps (.pi .i8) (.ps (.pi .i8) (.ps (.pi .i8) (.ps (.pi .i8) (.ps (.pi .i8) (.ps (.pi .i8) (.ps (.pi .i8) (.ps (.pi .i8) (.ps (.pi .i8) (.ps (.pi .i8) (.ps (.pi .i8) .pe)))))))))))))))))))))))))))) .pe) (fun ((a0_0, a0_1, a0_2, a0_3, a0_4, a0_5, a0_6, a0_7, a0_8, a0_9, a0_10, a0_11, a0_12, a0_13, a0_14, a0_15, a0_16, a0_17, a0_18, a0_19, a0_20, a0_21, a0_22, a0_23, a0_24, a0_25, a0_26, _), _) => Q34 a0_0 a0_1 a0_2 a0_3 a0_4 a0_5 a0_6 a0_7 a0_8 a0_9 a0_10 a0_11 a0_12 a0_13 a0_14 a0_15 a0_16 a0_17 a0_18 a0_19 a0_20 a0_21 a0_22 a0_23 a0_24 a0_25 a0_26 (fun z0 => K (.one (.p (xV z0))))) false l
noncomputable def Γ113 : Oracle := addF 34 F34 Γ112
noncomputable def G36 (a0 : PL) (K0 : PL -> Bool) : Bool :=
 (gd (decide (0 <= (nI a0.length)) && decide ((nI a0.length) <= (nI a0.length)) && decide ((nI a0.length) <= 1073741824)) (Q66 (List.replicate ((nI a0.length)).toNat (xI 0)) (fun z1 => (Q39 1 1 (fun z2 z3 => (oOpt (z1[0]?) fun u4 => (oR u4 fun s5v s6v => false))))) (fun z7 => (Q39 1 1 (fun z8 z9 => (gd (true && decide (0 < (nI z7.length))) (gd (decide (0 < z7.length)) (K0 (z7.set 0 (xA [(xZ z8), (xZ z9)]))))))))))
noncomputable def Q36 := hide G36
theorem Q36_def : Q36 = G36 := hide_eq _
noncomputable def F36 : FT := fun l K => wA (.ps .pl .pe) (fun (a0, _) => Q36 a0 (fun z0 => K (.one (.p (xV z0))))) false l
noncomputable def Γ114 : Oracle := addF 36 F36 Γ113
noncomputable def B101_0 : Code := bdL 0 (loops 0 (bdF Tryz.f101))
noncomputable def B101_2 : Code := bdL 2 (loops 0 B101_0)
noncomputable def St101_2_0 (r0 : Int -> Int -> Int -> Bool -> PL -> Bool -> PL -> Bool -> PL -> Bool) (e0 : Int -> Bool -> PL -> Bool -> PL -> Bool -> PL -> Bool) (n0 n1 n2 : Int) (b3 : Bool) (l4 : PL) (b5 : Bool) (l6 : PL) (b7 : Bool) (l8 : PL) : Bool := (bif (decide (n2 < (nI l6.length))) then (gd (decide (0 <= (wI (n0 + n2))) && decide ((wI (n0 + n2)) < (nI l8.length))) (oOpt (l8[((wI (n0 + n2))).toNat]?) fun u1 => (oInt .i64 u1 fun n2v => (bif (decide (n2 < (nI l6.length))) then (gd (decide (0 <= n0)) (oOpt (l4[(n0).toNat]?) fun u3 => (oInt .i64 u3 fun n4v => (gd (decide (0 <= n2)) (oOpt (l6[(n2).toNat]?) fun u5 => (oInt .i64 u5 fun n6v => (gd (decide (0 <= (wI (n0 + n2))) && decide ((wI (n0 + n2)) < (nI l8.length))) (gd (decide (((wI (n0 + n2))).toNat < l8.length)) (r0 n0 (wI (Int.tdiv (wI ((wI (n1 + n2v)) + (wI (n4v * n6v)))) 1000000000)) (wI (n2 + 1)) b3 l4 b5 l6 b7 (l8.set ((wI (n0 + n2))).toNat (xI (Int.tmod (wI ((wI (n1 + n2v)) + (wI (n4v * n6v)))) 1000000000)))))))))))) else (gd (decide (0 <= (wI (n0 + n2))) && decide ((wI (n0 + n2)) < (nI l8.length))) (gd (decide (((wI (n0 + n2))).toNat < l8.length)) (r0 n0 (wI (Int.tdiv (wI (n1 + n2v)) 1000000000)) (wI (n2 + 1)) b3 l4 b5 l6 b7 (l8.set ((wI (n0 + n2))).toNat (xI (Int.tmod (wI (n1 + n2v)) 1000000000)))))))))) else (bif (decide (n1 > 0)) then (gd (decide (0 <= (wI (n0 + n2))) && decide ((wI (n0 + n2)) < (nI l8.length))) (oOpt (l8[((wI (n0 + n2))).toNat]?) fun u7 => (oInt .i64 u7 fun n8v => (bif (decide (n2 < (nI l6.length))) then (gd (decide (0 <= n0)) (oOpt (l4[(n0).toNat]?) fun u9 => (oInt .i64 u9 fun n10v => (gd (decide (0 <= n2)) (oOpt (l6[(n2).toNat]?) fun u11 => (oInt .i64 u11 fun n12v => (gd (decide (0 <= (wI (n0 + n2))) && decide ((wI (n0 + n2)) < (nI l8.length))) (gd (decide (((wI (n0 + n2))).toNat < l8.length)) (r0 n0 (wI (Int.tdiv (wI ((wI (n1 + n8v)) + (wI (n10v * n12v)))) 1000000000)) (wI (n2 + 1)) b3 l4 b5 l6 b7 (l8.set ((wI (n0 + n2))).toNat (xI (Int.tmod (wI ((wI (n1 + n8v)) + (wI (n10v * n12v)))) 1000000000)))))))))))) else (gd (decide (0 <= (wI (n0 + n2))) && decide ((wI (n0 + n2)) < (nI l8.length))) (gd (decide (((wI (n0 + n2))).toNat < l8.length)) (r0 n0 (wI (Int.tdiv (wI (n1 + n8v)) 1000000000)) (wI (n2 + 1)) b3 l4 b5 l6 b7 (l8.set ((wI (n0 + n2))).toNat (xI (Int.tmod (wI (n1 + n8v)) 1000000000)))))))))) else (e0 n0 b3 l4 b5 l6 b7 l8)))
noncomputable def LP101_2 (e0 : Int -> Bool -> PL -> Bool -> PL -> Bool -> PL -> Bool) : Nat -> (Int -> Int -> Int -> Bool -> PL -> Bool -> PL -> Bool -> PL -> Bool)
 | 0 => ((fun _ _ _ _ _ _ _ _ _ => false))
 | n + 1 => (St101_2_0 ((LP101_2 e0 n)) e0)
noncomputable def L101_2_0 (e0 : Int -> Bool -> PL -> Bool -> PL -> Bool -> PL -> Bool) (n : Nat) : Int -> Int -> Int -> Bool -> PL -> Bool -> PL -> Bool -> PL -> Bool := (LP101_2 e0 n)
noncomputable def Λ101_2 : LOracle := mkΛ []
noncomputable def Rn101_2 : List LVal -> List LObj -> KX -> Bool := run E Γ114 Λ101_2 2 B101_2
noncomputable def X101_2_0 (K : KX) (y0 : Int) (y1 : Bool) (y2 : PL) (y3 : Bool) (y4 : PL) (y5 : Bool) (y6 : PL) : Bool := K (.exit 2) (tl 79 [(2, (.adr 0 0 0)), (3, (.adr 1 0 0)), (4, (.adr 2 0 0)), (5, (.own 3)), (6, (.p (xI y0)))]) [(.box false [(.p (xB y1)), (.p (xV y2))]), (.box false [(.p (xB y3)), (.p (xV y4))]), (.box false [(.p (xB y5)), (.p xN)]), (.buf false 3 1 y6)]
noncomputable def T101_2_0 (n0 n1 n2 : Int) (b3 : Bool) (l4 : PL) (b5 : Bool) (l6 : PL) (b7 : Bool) (l8 : PL) : List LVal := (tl 79 [(2, (.adr 0 0 0)), (3, (.adr 1 0 0)), (4, (.adr 2 0 0)), (5, (.own 3)), (6, (.p (xI n0))), (7, (.p (xI n1))), (8, (.p (xI n2)))])
noncomputable def S101_2_0 (n0 n1 n2 : Int) (b3 : Bool) (l4 : PL) (b5 : Bool) (l6 : PL) (b7 : Bool) (l8 : PL) : List LObj := [(.box false [(.p (xB b3)), (.p (xV l4))]), (.box false [(.p (xB b5)), (.p (xV l6))]), (.box false [(.p (xB b7)), (.p xN)]), (.buf false 3 1 l8)]
noncomputable def Ent101_2 : LEnt := ⟨2, [2, 3, 4, 5, 6, 7, 8], fun T σ K => (wT (.tu 2 (.td 0 0 0 (.td 1 0 0 (.td 2 0 0 (.to 3 (.tp (.pi .i64) (.tp (.pi .i64) (.tp (.pi .i64) (.tu 70 .te))))))))) (.sx false (.tp .pb (.tp .pl .te)) (.sx false (.tp .pb (.tp .pl .te)) (.sx false (.tp .pb (.tp .pn .te)) (.sf false 3 1 .se)))) (fun (x0, x1, x2, _) ((x3, x4, _), (x5, x6, _), (x7, _, _), x8, _) => L101_2_0 (X101_2_0 K) fuel x0 x1 x2 x3 x4 x5 x6 x7 x8) false T σ)⟩
noncomputable def St101_0_0 (r0 : Int -> Bool -> PL -> Bool -> PL -> Bool -> PL -> Bool) (e0 : Bool -> PL -> Bool -> PL -> Bool -> PL -> Bool) (n0 : Int) (b1 : Bool) (l2 : PL) (b3 : Bool) (l4 : PL) (b5 : Bool) (l6 : PL) : Bool := (bif (decide (n0 < (nI l2.length))) then (L101_2_0 (fun y13 y14 y15 y16 y17 y18 y19 => (r0 (wI (y13 + 1)) y14 y15 y16 y17 y18 y19)) fuel n0 0 0 b1 l2 b3 l4 b5 l6) else (e0 b1 l2 b3 l4 b5 l6))
noncomputable def LP101_0 (e0 : Bool -> PL -> Bool -> PL -> Bool -> PL -> Bool) : Nat -> (Int -> Bool -> PL -> Bool -> PL -> Bool -> PL -> Bool)
 | 0 => ((fun _ _ _ _ _ _ _ => false))
 | n + 1 => (St101_0_0 ((LP101_0 e0 n)) e0)
noncomputable def L101_0_0 (e0 : Bool -> PL -> Bool -> PL -> Bool -> PL -> Bool) (n : Nat) : Int -> Bool -> PL -> Bool -> PL -> Bool -> PL -> Bool := (LP101_0 e0 n)
noncomputable def Λ101_0 : LOracle := mkΛ [Ent101_2]
noncomputable def Rn101_0 : List LVal -> List LObj -> KX -> Bool := run E Γ114 Λ101_0 0 B101_0
noncomputable def X101_0_0 (K : KX) (y0 : Bool) (y1 : PL) (y2 : Bool) (y3 : PL) (y4 : Bool) (y5 : PL) : Bool := K (.exit 0) (tl 79 [(2, (.adr 0 0 0)), (3, (.adr 1 0 0)), (4, (.adr 2 0 0)), (5, (.own 3))]) [(.box false [(.p (xB y0)), (.p (xV y1))]), (.box false [(.p (xB y2)), (.p (xV y3))]), (.box false [(.p (xB y4)), (.p xN)]), (.buf false 3 1 y5)]
noncomputable def T101_0_0 (n0 : Int) (b1 : Bool) (l2 : PL) (b3 : Bool) (l4 : PL) (b5 : Bool) (l6 : PL) : List LVal := (tl 79 [(2, (.adr 0 0 0)), (3, (.adr 1 0 0)), (4, (.adr 2 0 0)), (5, (.own 3)), (6, (.p (xI n0)))])
noncomputable def S101_0_0 (n0 : Int) (b1 : Bool) (l2 : PL) (b3 : Bool) (l4 : PL) (b5 : Bool) (l6 : PL) : List LObj := [(.box false [(.p (xB b1)), (.p (xV l2))]), (.box false [(.p (xB b3)), (.p (xV l4))]), (.box false [(.p (xB b5)), (.p xN)]), (.buf false 3 1 l6)]
noncomputable def Ent101_0 : LEnt := ⟨0, [2, 3, 4, 5, 6], fun T σ K => (wT (.tu 2 (.td 0 0 0 (.td 1 0 0 (.td 2 0 0 (.to 3 (.tp (.pi .i64) (.tu 72 .te))))))) (.sx false (.tp .pb (.tp .pl .te)) (.sx false (.tp .pb (.tp .pl .te)) (.sx false (.tp .pb (.tp .pn .te)) (.sf false 3 1 .se)))) (fun (x0, _) ((x1, x2, _), (x3, x4, _), (x5, _, _), x6, _) => L101_0_0 (X101_0_0 K) fuel x0 x1 x2 x3 x4 x5 x6) false T σ)⟩
noncomputable def G101 (a0_0 : Bool) (a0_1 : PL) (a1_0 : Bool) (a1_1 : PL) (K0 : Bool -> PL -> Bool) : Bool :=
 (gd (decide (0 <= (wI ((wI ((nI a0_1.length) + (nI a1_1.length))) + 1))) && decide ((wI ((wI ((nI a0_1.length) + (nI a1_1.length))) + 1)) <= (wI ((wI ((nI a0_1.length) + (nI a1_1.length))) + 1))) && decide ((wI ((wI ((nI a0_1.length) + (nI a1_1.length))) + 1)) <= 1073741824)) (L101_0_0 (fun y20 y21 y22 y23 y24 y25 => (Q147 (!(y20 == y22)) y25 (fun z26 z27 => (K0 z26 z27)))) fuel 0 a0_0 a0_1 a1_0 a1_1 false (List.replicate ((wI ((wI ((nI a0_1.length) + (nI a1_1.length))) + 1))).toNat (xI 0))))
noncomputable def Q101 := hide G101
theorem Q101_def : Q101 = G101 := hide_eq _
noncomputable def F101 : FT := fun l K => wA (.ps (.pa (.ps .pb (.ps .pl .pe))) (.ps (.pa (.ps .pb (.ps .pl .pe))) .pe)) (fun ((a0_0, a0_1, _), (a1_0, a1_1, _), _) => Q101 a0_0 a0_1 a1_0 a1_1 (fun z0_0 z0_1 => K (.one (.p (xA [(xB z0_0), (xV z0_1)]))))) false l
noncomputable def Γ115 : Oracle := addF 101 F101 Γ114
noncomputable def G73 (a0_0 a0_1 a1_0 a1_1 : ByteArray) (K0 : ByteArray -> ByteArray -> Bool) : Bool :=
 (Q102 a0_0 (fun z1 z2 => (Q102 a1_0 (fun z3 z4 => (Q101 z1 z2 z3 z4 (fun z5 z6 => (Q102 a0_1 (fun z7 z8 => (Q102 a1_1 (fun z9 z10 => (Q101 z7 z8 z9 z10 (fun z11 z12 => (Q100 z5 z6 z11 z12 (fun z13 z14 => (K0 z13 z14)))))))))))))))
noncomputable def Q73 := hide G73
theorem Q73_def : Q73 = G73 := hide_eq _
noncomputable def F73 : FT := fun l K => wA (.ps (.pa (.ps .pz (.ps .pz .pe))) (.ps (.pa (.ps .pz (.ps .pz .pe))) .pe)) (fun ((a0_0, a0_1, _), (a1_0, a1_1, _), _) => Q73 a0_0 a0_1 a1_0 a1_1 (fun z0_0 z0_1 => K (.one (.p (xA [(xZ z0_0), (xZ z0_1)]))))) false l
noncomputable def Γ116 : Oracle := addF 73 F73 Γ115
noncomputable def B38_0 : Code := bdL 0 (loops 0 (bdF Tryz.f38))
noncomputable def St38_0_0 (r0 : PL -> Int -> Int -> ByteArray -> ByteArray -> Bool) (r1 : PL -> Int -> Int -> ByteArray -> ByteArray -> PL -> Bool) (e0 : Bool) (e1 : PL -> Bool) (l0 : PL) (n1 n2 : Int) (s3 s4 : ByteArray) : Bool := (bif (decide (n2 < n1)) then (gd (decide (0 <= n2)) (oOpt (l0[(n2).toNat]?) fun u1 => (oR u1 fun s2v s3v => (Q73 s2v s3v s3 s4 (fun z4 z5 => (r1 l0 n1 (wI (n2 + 1)) s3 s4 [(xA [(xZ z4), (xZ z5)])])))))) else e0)
noncomputable def St38_0_1 (r0 : PL -> Int -> Int -> ByteArray -> ByteArray -> Bool) (r1 : PL -> Int -> Int -> ByteArray -> ByteArray -> PL -> Bool) (e0 : Bool) (e1 : PL -> Bool) (l0 : PL) (n1 n2 : Int) (s3 s4 : ByteArray) (l5 : PL) : Bool := (bif (decide (n2 < n1)) then (gd (decide (0 <= n2)) (oOpt (l0[(n2).toNat]?) fun u6 => (oR u6 fun s7v s8v => (Q73 s7v s8v s3 s4 (fun z9 z10 => (gd (decide (l5.length + 1 <= maxElems)) (r1 l0 n1 (wI (n2 + 1)) s3 s4 (l5 ++ [(xA [(xZ z9), (xZ z10)])])))))))) else (e1 l5))
noncomputable def LP38_0 (e0 : Bool) (e1 : PL -> Bool) : Nat -> (PL -> Int -> Int -> ByteArray -> ByteArray -> Bool) × (PL -> Int -> Int -> ByteArray -> ByteArray -> PL -> Bool)
 | 0 => ((fun _ _ _ _ _ => false), (fun _ _ _ _ _ _ => false))
 | n + 1 => (St38_0_0 ((LP38_0 e0 e1 n).1) ((LP38_0 e0 e1 n).2) e0 e1, St38_0_1 ((LP38_0 e0 e1 n).1) ((LP38_0 e0 e1 n).2) e0 e1)
noncomputable def L38_0_0 (e0 : Bool) (e1 : PL -> Bool) (n : Nat) : PL -> Int -> Int -> ByteArray -> ByteArray -> Bool := (LP38_0 e0 e1 n).1
noncomputable def L38_0_1 (e0 : Bool) (e1 : PL -> Bool) (n : Nat) : PL -> Int -> Int -> ByteArray -> ByteArray -> PL -> Bool := (LP38_0 e0 e1 n).2
noncomputable def Λ38_0 : LOracle := mkΛ []
noncomputable def Rn38_0 : List LVal -> List LObj -> KX -> Bool := run E Γ116 Λ38_0 0 B38_0
noncomputable def X38_0_0 (K : KX)  : Bool := K (.exit 0) (tl 23 [(5, (.p xN))]) []
noncomputable def X38_0_1 (K : KX) (y0 : PL) : Bool := K (.exit 0) (tl 23 [(5, (.own 0))]) [(.buf false 78 2 y0)]
noncomputable def T38_0_0 (l0 : PL) (n1 n2 : Int) (s3 s4 : ByteArray) : List LVal := (tl 23 [(0, (.p (xV l0))), (3, (.adr 0 0 0)), (5, (.p xN)), (8, (.p (xI n1))), (9, (.p (xI n2)))])
noncomputable def S38_0_0 (l0 : PL) (n1 n2 : Int) (s3 s4 : ByteArray) : List LObj := [(.box false [(.p (xZ s3)), (.p (xZ s4))])]
noncomputable def T38_0_1 (l0 : PL) (n1 n2 : Int) (s3 s4 : ByteArray) (l5 : PL) : List LVal := (tl 23 [(0, (.p (xV l0))), (3, (.adr 0 0 0)), (5, (.own 1)), (8, (.p (xI n1))), (9, (.p (xI n2)))])
noncomputable def S38_0_1 (l0 : PL) (n1 n2 : Int) (s3 s4 : ByteArray) (l5 : PL) : List LObj := [(.box false [(.p (xZ s3)), (.p (xZ s4))]), (.buf false 78 2 l5)]
noncomputable def Ent38_0 : LEnt := ⟨0, [0, 3, 5, 8, 9], fun T σ K => (wT (.tp .pl (.tu 2 (.td 0 0 0 (.tu 1 (.tp .pn (.tu 2 (.tp (.pi .i64) (.tp (.pi .i64) (.tu 13 .te))))))))) (.sx false (.tp .pz (.tp .pz .te)) .se) (fun (x0, _, x1, x2, _) ((x3, x4, _), _) => L38_0_0 (X38_0_0 K) (X38_0_1 K) fuel x0 x1 x2 x3 x4) (wT (.tp .pl (.tu 2 (.td 0 0 0 (.tu 1 (.to 1 (.tu 2 (.tp (.pi .i64) (.tp (.pi .i64) (.tu 13 .te))))))))) (.sx false (.tp .pz (.tp .pz .te)) (.sf false 78 2 .se)) (fun (x0, x1, x2, _) ((x3, x4, _), x5, _) => L38_0_1 (X38_0_0 K) (X38_0_1 K) fuel x0 x1 x2 x3 x4 x5) false T σ) T σ)⟩
noncomputable def G38 (a0 : PL) (a1_0 a1_1 : ByteArray) (K0 : PL -> Bool) : Bool :=
 (L38_0_0 ((K0 [])) (fun y11 => (K0 y11)) fuel a0 (nI a0.length) 0 a1_0 a1_1)
noncomputable def Q38 := hide G38
theorem Q38_def : Q38 = G38 := hide_eq _
noncomputable def F38 : FT := fun l K => wA (.ps .pl (.ps (.pa (.ps .pz (.ps .pz .pe))) .pe)) (fun (a0, (a1_0, a1_1, _), _) => Q38 a0 a1_0 a1_1 (fun z0 => K (.one (.p (xV z0))))) false l
noncomputable def Γ117 : Oracle := addF 38 F38 Γ116
noncomputable def B37_0 : Code := bdL 0 (loops 0 (bdF Tryz.f37))
noncomputable def St37_0_0 (r0 : PL -> Int -> Int -> Bool) (r1 : PL -> Int -> Int -> PL -> Bool) (e0 : Bool) (e1 : PL -> Bool) (l0 : PL) (n1 n2 : Int) : Bool := (bif (decide (n2 <= n1)) then (Q39 n2 1 (fun z1 z2 => (Q38 l0 z1 z2 (fun z3 => (r1 l0 n1 (wI (n2 + 1)) [(xV z3)]))))) else e0)
noncomputable def St37_0_1 (r0 : PL -> Int -> Int -> Bool) (r1 : PL -> Int -> Int -> PL -> Bool) (e0 : Bool) (e1 : PL -> Bool) (l0 : PL) (n1 n2 : Int) (l3 : PL) : Bool := (bif (decide (n2 <= n1)) then (Q39 n2 1 (fun z4 z5 => (Q38 l0 z4 z5 (fun z6 => (gd (decide (l3.length + 1 <= maxElems)) (r1 l0 n1 (wI (n2 + 1)) (l3 ++ [(xV z6)]))))))) else (e1 l3))
noncomputable def LP37_0 (e0 : Bool) (e1 : PL -> Bool) : Nat -> (PL -> Int -> Int -> Bool) × (PL -> Int -> Int -> PL -> Bool)
 | 0 => ((fun _ _ _ => false), (fun _ _ _ _ => false))
 | n + 1 => (St37_0_0 ((LP37_0 e0 e1 n).1) ((LP37_0 e0 e1 n).2) e0 e1, St37_0_1 ((LP37_0 e0 e1 n).1) ((LP37_0 e0 e1 n).2) e0 e1)
noncomputable def L37_0_0 (e0 : Bool) (e1 : PL -> Bool) (n : Nat) : PL -> Int -> Int -> Bool := (LP37_0 e0 e1 n).1
noncomputable def L37_0_1 (e0 : Bool) (e1 : PL -> Bool) (n : Nat) : PL -> Int -> Int -> PL -> Bool := (LP37_0 e0 e1 n).2
noncomputable def Λ37_0 : LOracle := mkΛ []
noncomputable def Rn37_0 : List LVal -> List LObj -> KX -> Bool := run E Γ117 Λ37_0 0 B37_0
noncomputable def X37_0_0 (K : KX)  : Bool := K (.exit 0) (tl 23 [(7, (.p xN))]) []
noncomputable def X37_0_1 (K : KX) (y0 : PL) : Bool := K (.exit 0) (tl 23 [(7, (.own 0))]) [(.buf false 41 1 y0)]
noncomputable def T37_0_0 (l0 : PL) (n1 n2 : Int) : List LVal := (tl 23 [(0, (.p (xV l0))), (2, (.p (xI n1))), (7, (.p xN)), (8, (.p (xI n2)))])
noncomputable def S37_0_0 (l0 : PL) (n1 n2 : Int) : List LObj := []
noncomputable def T37_0_1 (l0 : PL) (n1 n2 : Int) (l3 : PL) : List LVal := (tl 23 [(0, (.p (xV l0))), (2, (.p (xI n1))), (7, (.own 0)), (8, (.p (xI n2)))])
noncomputable def S37_0_1 (l0 : PL) (n1 n2 : Int) (l3 : PL) : List LObj := [(.buf false 41 1 l3)]
noncomputable def Ent37_0 : LEnt := ⟨0, [0, 2, 7, 8], fun T σ K => (wT (.tp .pl (.tu 1 (.tp (.pi .i64) (.tu 4 (.tp .pn (.tp (.pi .i64) (.tu 14 .te))))))) .se (fun (x0, x1, _, x2, _) _ => L37_0_0 (X37_0_0 K) (X37_0_1 K) fuel x0 x1 x2) (wT (.tp .pl (.tu 1 (.tp (.pi .i64) (.tu 4 (.to 0 (.tp (.pi .i64) (.tu 14 .te))))))) (.sf false 41 1 .se) (fun (x0, x1, x2, _) (x3, _) => L37_0_1 (X37_0_0 K) (X37_0_1 K) fuel x0 x1 x2 x3) false T σ) T σ)⟩
noncomputable def G37 (a0 : PL) (a1 a2 : Int) (K0 : PL -> Bool) : Bool :=
 (L37_0_0 ((K0 [])) (fun y7 => (K0 y7)) fuel a0 a2 a1)
noncomputable def Q37 := hide G37
theorem Q37_def : Q37 = G37 := hide_eq _
noncomputable def F37 : FT := fun l K => wA (.ps .pl (.ps (.pi .i64) (.ps (.pi .i64) .pe))) (fun (a0, a1, a2, _) => Q37 a0 a1 a2 (fun z0 => K (.one (.p (xV z0))))) false l
noncomputable def Γ118 : Oracle := addF 37 F37 Γ117
noncomputable def G69 (a0 a1 : PL) (K0 : Bool -> Bool) : Bool :=
 (Q24 a1 a0 (fun z1 => (K0 z1)))
noncomputable def Q69 := hide G69
theorem Q69_def : Q69 = G69 := hide_eq _
noncomputable def F69 : FT := fun l K => wA (.ps .pl (.ps (.pd 0 0 (.pa (.ps .pl .pe))) .pe)) (fun (a0, (a1, _), _) => Q69 a0 a1 (fun z0 => K (.one (.p (xB z0))))) false l
noncomputable def Γ119 : Oracle := addF 69 F69 Γ118
noncomputable def B83_69_0 : Code := bdL 0 (loops 0 (bdF Tryz.f83))
noncomputable def St83_69_0_0 (r0 : PL -> PL -> Int -> Int -> Bool) (e0 : Int -> Bool) (e1 : Bool) (l0 l1 : PL) (n2 n3 : Int) : Bool := (bif (decide (n3 < n2)) then (gd (decide (0 <= n3)) (oOpt (l0[(n3).toNat]?) fun u1 => (oSl u1 fun p2 => (Q69 p2 l1 (fun z3 => (bif z3 then (e0 n3) else (r0 l0 l1 n2 (wI (n3 + 1))))))))) else e1)
noncomputable def LP83_69_0 (e0 : Int -> Bool) (e1 : Bool) : Nat -> (PL -> PL -> Int -> Int -> Bool)
 | 0 => ((fun _ _ _ _ => false))
 | n + 1 => (St83_69_0_0 ((LP83_69_0 e0 e1 n)) e0 e1)
noncomputable def L83_69_0_0 (e0 : Int -> Bool) (e1 : Bool) (n : Nat) : PL -> PL -> Int -> Int -> Bool := (LP83_69_0 e0 e1 n)
noncomputable def Λ83_69_0 : LOracle := mkΛ []
noncomputable def Rn83_69_0 : List LVal -> List LObj -> KX -> Bool := run E Γ119 Λ83_69_0 0 B83_69_0
noncomputable def X83_69_0_0 (K : KX) (y0 : Int) : Bool := K .ret (tl 19 [(4, (.p (xI y0)))]) []
noncomputable def X83_69_0_1 (K : KX)  : Bool := K (.exit 0) (tl 19 []) []
noncomputable def T83_69_0_0 (l0 l1 : PL) (n2 n3 : Int) : List LVal := (tl 19 [(0, (.p (xV l0))), (1, (.p (.clo 69 [] [(.adr [(xA [(xV l1)])] 0 0)]))), (7, (.p (xI n2))), (8, (.p (xI n3)))])
noncomputable def S83_69_0_0 (l0 l1 : PL) (n2 n3 : Int) : List LObj := []
noncomputable def Ent83_69_0 : LEnt := ⟨0, [0, 1, 7, 8], fun T σ K => (wT (.tp .pl (.tp (.pc 69 .pe (.ps (.pd 0 0 (.pa (.ps .pl .pe))) .pe)) (.tu 5 (.tp (.pi .i64) (.tp (.pi .i64) (.tu 10 .te)))))) .se (fun (x0, (_, ((x1, _), _)), x2, x3, _) _ => L83_69_0_0 (X83_69_0_0 K) (X83_69_0_1 K) fuel x0 x1 x2 x3) false T σ)⟩
noncomputable def G83_69 (a0 a1 : PL) (K0 : Int -> Bool) : Bool :=
 (L83_69_0_0 (fun y4 => (K0 y4)) ((K0 (-1))) fuel a0 a1 (nI a0.length) 0)
noncomputable def Q83_69 := hide G83_69
theorem Q83_69_def : Q83_69 = G83_69 := hide_eq _
noncomputable def F83_69 : FT := fun l K => wA (.ps .pl (.ps (.pc 69 .pe (.ps (.pd 0 0 (.pa (.ps .pl .pe))) .pe)) .pe)) (fun (a0, (_, ((a1, _), _)), _) => Q83_69 a0 a1 (fun z0 => K (.one (.p (xI z0))))) (Γ119 false 83 l K) l
noncomputable def Γ120 : Oracle := addF 83 F83_69 Γ119
noncomputable def G46_69 (a0 a1 : PL) (K0 : Bool -> Bool) : Bool :=
 (Q83_69 a0 a1 (fun z1 => (K0 (decide (z1 >= 0)))))
noncomputable def Q46_69 := hide G46_69
theorem Q46_69_def : Q46_69 = G46_69 := hide_eq _
noncomputable def F46_69 : FT := fun l K => wA (.ps .pl (.ps (.pc 69 .pe (.ps (.pd 0 0 (.pa (.ps .pl .pe))) .pe)) .pe)) (fun (a0, (_, ((a1, _), _)), _) => Q46_69 a0 a1 (fun z0 => K (.one (.p (xB z0))))) (Γ120 false 46 l K) l
noncomputable def Γ121 : Oracle := addF 46 F46_69 Γ120
noncomputable def G72 (a0 a1 a2 : PL) (K0 : Int -> Bool) : Bool :=
 (Q50 a0 a1 a2 (fun z1 z2 => (K0 z1)))
noncomputable def Q72 := hide G72
theorem Q72_def : Q72 = G72 := hide_eq _
noncomputable def F72 : FT := fun l K => wA (.ps .pl (.ps .pl (.ps .pl .pe))) (fun (a0, a1, a2, _) => Q72 a0 a1 a2 (fun z0 => K (.one (.p (xI z0))))) false l
noncomputable def Γ122 : Oracle := addF 72 F72 Γ121
noncomputable def G71 (a0 a1 a2 : PL) (K0 : Int -> Bool) : Bool :=
 (Q72 a2 a0 a1 (fun z1 => (K0 z1)))
noncomputable def Q71 := hide G71
theorem Q71_def : Q71 = G71 := hide_eq _
noncomputable def F71 : FT := fun l K => wA (.ps .pl (.ps .pl (.ps (.pd 0 0 (.pa (.ps .pl .pe))) .pe))) (fun (a0, a1, (a2, _), _) => Q71 a0 a1 a2 (fun z0 => K (.one (.p (xI z0))))) false l
noncomputable def Γ123 : Oracle := addF 71 F71 Γ122
noncomputable def B131_71_0 : Code := bdL 0 (loops 0 (bdF Tryz.f131))
noncomputable def B131_71_2 : Code := bdL 2 (loops 0 B131_71_0)
noncomputable def St131_71_2_0 (r0 : Int -> Int -> PL -> Int -> Int -> PL -> Bool) (e0 : Int -> Int -> PL -> Int -> PL -> Bool) (n0 n1 : Int) (l2 : PL) (n3 n4 : Int) (l5 : PL) : Bool := (bif (decide (n4 > n0)) then (gd (decide (0 <= n4) && decide (n4 < (nI l5.length))) (oOpt (l5[(n4).toNat]?) fun u1 => (oSl u1 fun p2 => (gd (decide (0 <= (wI (n4 - 1))) && decide ((wI (n4 - 1)) < (nI l5.length))) (oOpt (l5[((wI (n4 - 1))).toNat]?) fun u3 => (oSl u3 fun p4 => (Q71 p2 p4 l2 (fun z5 => (bif (decide (z5 < 0)) then (gd (decide (0 <= (wI (n4 - 1))) && decide ((wI (n4 - 1)) < (nI l5.length))) (oOpt (l5[((wI (n4 - 1))).toNat]?) fun u6 => (oSl u6 fun p7 => (gd (decide (0 <= n4) && decide (n4 < (nI l5.length))) (oOpt (l5[(n4).toNat]?) fun u8 => (oSl u8 fun p9 => (gd (decide (0 <= n4) && decide (n4 < (nI l5.length))) (gd (decide ((n4).toNat < l5.length)) (gd (decide (0 <= (wI (n4 - 1))) && decide ((wI (n4 - 1)) < (nI ((l5.set (n4).toNat (xV p7)).length)))) (gd (decide (((wI (n4 - 1))).toNat < (l5.set (n4).toNat (xV p7)).length)) (r0 n0 n1 l2 n3 (wI (n4 - 1)) ((l5.set (n4).toNat (xV p7)).set ((wI (n4 - 1))).toNat (xV p9))))))))))))) else (e0 n0 n1 l2 n3 l5)))))))))) else (e0 n0 n1 l2 n3 l5))
noncomputable def LP131_71_2 (e0 : Int -> Int -> PL -> Int -> PL -> Bool) : Nat -> (Int -> Int -> PL -> Int -> Int -> PL -> Bool)
 | 0 => ((fun _ _ _ _ _ _ => false))
 | n + 1 => (St131_71_2_0 ((LP131_71_2 e0 n)) e0)
noncomputable def L131_71_2_0 (e0 : Int -> Int -> PL -> Int -> PL -> Bool) (n : Nat) : Int -> Int -> PL -> Int -> Int -> PL -> Bool := (LP131_71_2 e0 n)
noncomputable def Λ131_71_2 : LOracle := mkΛ []
noncomputable def Rn131_71_2 : List LVal -> List LObj -> KX -> Bool := run E Γ123 Λ131_71_2 2 B131_71_2
noncomputable def X131_71_2_0 (K : KX) (y0 y1 : Int) (y2 : PL) (y3 : Int) (y4 : PL) : Bool := K (.exit 2) (tl 53 [(0, (.own 0)), (1, (.p (xI y0))), (2, (.p (xI y1))), (3, (.p (.clo 71 [] [(.adr [(xA [(xV y2)])] 0 0)]))), (8, (.p (xI y3)))]) [(.buf false 41 1 y4)]
noncomputable def T131_71_2_0 (n0 n1 : Int) (l2 : PL) (n3 n4 : Int) (l5 : PL) : List LVal := (tl 53 [(0, (.own 0)), (1, (.p (xI n0))), (2, (.p (xI n1))), (3, (.p (.clo 71 [] [(.adr [(xA [(xV l2)])] 0 0)]))), (8, (.p (xI n3))), (9, (.p (xI n4)))])
noncomputable def S131_71_2_0 (n0 n1 : Int) (l2 : PL) (n3 n4 : Int) (l5 : PL) : List LObj := [(.buf false 41 1 l5)]
noncomputable def Ent131_71_2 : LEnt := ⟨2, [0, 1, 2, 3, 8, 9], fun T σ K => (wT (.to 0 (.tp (.pi .i64) (.tp (.pi .i64) (.tp (.pc 71 .pe (.ps (.pd 0 0 (.pa (.ps .pl .pe))) .pe)) (.tu 4 (.tp (.pi .i64) (.tp (.pi .i64) (.tu 43 .te)))))))) (.sf false 41 1 .se) (fun (x0, x1, (_, ((x2, _), _)), x3, x4, _) (x5, _) => L131_71_2_0 (X131_71_2_0 K) fuel x0 x1 x2 x3 x4 x5) false T σ)⟩
noncomputable def St131_71_0_0 (r0 : Int -> Int -> PL -> Int -> PL -> Bool) (e0 : PL -> Bool) (n0 n1 : Int) (l2 : PL) (n3 : Int) (l4 : PL) : Bool := (bif (decide (n3 < n1)) then (L131_71_2_0 (fun y10 y11 y12 y13 y14 => (r0 y10 y11 y12 (wI (y13 + 1)) y14)) fuel n0 n1 l2 n3 n3 l4) else (e0 l4))
noncomputable def LP131_71_0 (e0 : PL -> Bool) : Nat -> (Int -> Int -> PL -> Int -> PL -> Bool)
 | 0 => ((fun _ _ _ _ _ => false))
 | n + 1 => (St131_71_0_0 ((LP131_71_0 e0 n)) e0)
noncomputable def L131_71_0_0 (e0 : PL -> Bool) (n : Nat) : Int -> Int -> PL -> Int -> PL -> Bool := (LP131_71_0 e0 n)
noncomputable def Λ131_71_0 : LOracle := mkΛ [Ent131_71_2]
noncomputable def Rn131_71_0 : List LVal -> List LObj -> KX -> Bool := run E Γ123 Λ131_71_0 0 B131_71_0
noncomputable def X131_71_0_0 (K : KX) (y0 : PL) : Bool := K (.exit 0) (tl 53 [(0, (.own 0))]) [(.buf false 41 1 y0)]
noncomputable def T131_71_0_0 (n0 n1 : Int) (l2 : PL) (n3 : Int) (l4 : PL) : List LVal := (tl 53 [(0, (.own 0)), (1, (.p (xI n0))), (2, (.p (xI n1))), (3, (.p (.clo 71 [] [(.adr [(xA [(xV l2)])] 0 0)]))), (8, (.p (xI n3)))])
noncomputable def S131_71_0_0 (n0 n1 : Int) (l2 : PL) (n3 : Int) (l4 : PL) : List LObj := [(.buf false 41 1 l4)]
noncomputable def Ent131_71_0 : LEnt := ⟨0, [0, 1, 2, 3, 8], fun T σ K => (wT (.to 0 (.tp (.pi .i64) (.tp (.pi .i64) (.tp (.pc 71 .pe (.ps (.pd 0 0 (.pa (.ps .pl .pe))) .pe)) (.tu 4 (.tp (.pi .i64) (.tu 44 .te))))))) (.sf false 41 1 .se) (fun (x0, x1, (_, ((x2, _), _)), x3, _) (x4, _) => L131_71_0_0 (X131_71_0_0 K) fuel x0 x1 x2 x3 x4) false T σ)⟩
noncomputable def G131_71 (a0 : PL) (a1 a2 : Int) (a3 : PL) (K0 : PL -> Bool) : Bool :=
 (L131_71_0_0 (fun y15 => (K0 y15)) fuel a1 a2 a3 (wI (a1 + 1)) a0)
noncomputable def Q131_71 := hide G131_71
theorem Q131_71_def : Q131_71 = G131_71 := hide_eq _
noncomputable def F131_71 : FT := fun l K => wA (.ps (.pr 41 1) (.ps (.pi .i64) (.ps (.pi .i64) (.ps (.pc 71 .pe (.ps (.pd 0 0 (.pa (.ps .pl .pe))) .pe)) .pe)))) (fun (a0, a1, a2, (_, ((a3, _), _)), _) => Q131_71 a0 a1 a2 a3 (fun z => K (.one (.p (.sl z))))) (Γ123 true 131 l K) l
noncomputable def Γ124 : Oracle := addW 131 F131_71 Γ123
noncomputable def B98_71_0 : Code := bdL 0 (loops 0 (bdF Tryz.f98))
noncomputable def St98_71_0_0 (r0 : Int -> Int -> Int -> PL -> Bool -> Bool -> PL -> Bool) (e0 : PL -> Bool) (n0 n1 n2 : Int) (l3 : PL) (b4 b5 : Bool) (l6 : PL) : Bool := (bif (decide ((wI (n1 - n0)) <= 12)) then (Q131_71 l6 n0 n1 l3 (fun z1 => (e0 z1))) else (bif (n2 == 0) then false else (bif b4 then false else false)))
noncomputable def LP98_71_0 (e0 : PL -> Bool) : Nat -> (Int -> Int -> Int -> PL -> Bool -> Bool -> PL -> Bool)
 | 0 => ((fun _ _ _ _ _ _ _ => false))
 | n + 1 => (St98_71_0_0 ((LP98_71_0 e0 n)) e0)
noncomputable def L98_71_0_0 (e0 : PL -> Bool) (n : Nat) : Int -> Int -> Int -> PL -> Bool -> Bool -> PL -> Bool := (LP98_71_0 e0 n)
noncomputable def Λ98_71_0 : LOracle := mkΛ []
noncomputable def Rn98_71_0 : List LVal -> List LObj -> KX -> Bool := run E Γ124 Λ98_71_0 0 B98_71_0
noncomputable def X98_71_0_0 (K : KX) (y0 : PL) : Bool := K .ret (tl 148 [(0, (.own 0))]) [(.buf false 41 1 y0)]
noncomputable def T98_71_0_0 (n0 n1 n2 : Int) (l3 : PL) (b4 b5 : Bool) (l6 : PL) : List LVal := (tl 148 [(0, (.own 0)), (1, (.p (xI n0))), (2, (.p (xI n1))), (3, (.p (xI n2))), (4, (.p (.clo 71 [] [(.adr [(xA [(xV l3)])] 0 0)]))), (10, (.p (xB b4))), (11, (.p (xB b5)))])
noncomputable def S98_71_0_0 (n0 n1 n2 : Int) (l3 : PL) (b4 b5 : Bool) (l6 : PL) : List LObj := [(.buf false 41 1 l6)]
noncomputable def Ent98_71_0 : LEnt := ⟨0, [0, 1, 2, 3, 4, 10, 11], fun T σ K => (wT (.to 0 (.tp (.pi .i64) (.tp (.pi .i64) (.tp (.pi .i64) (.tp (.pc 71 .pe (.ps (.pd 0 0 (.pa (.ps .pl .pe))) .pe)) (.tu 5 (.tp .pb (.tp .pb (.tu 136 .te))))))))) (.sf false 41 1 .se) (fun (x0, x1, x2, (_, ((x3, _), _)), x4, x5, _) (x6, _) => L98_71_0_0 (X98_71_0_0 K) fuel x0 x1 x2 x3 x4 x5 x6) false T σ)⟩
noncomputable def G98_71 (a0 : PL) (a1 a2 a3 : Int) (a4 : PL) (K0 : PL -> Bool) : Bool :=
 (L98_71_0_0 (fun y2 => (K0 y2)) fuel a1 a2 a3 a4 true true a0)
noncomputable def Q98_71 := hide G98_71
theorem Q98_71_def : Q98_71 = G98_71 := hide_eq _
noncomputable def F98_71 : FT := fun l K => wA (.ps (.pr 41 1) (.ps (.pi .i64) (.ps (.pi .i64) (.ps (.pi .i64) (.ps (.pc 71 .pe (.ps (.pd 0 0 (.pa (.ps .pl .pe))) .pe)) .pe))))) (fun (a0, a1, a2, a3, (_, ((a4, _), _)), _) => Q98_71 a0 a1 a2 a3 a4 (fun z => K (.one (.p (.sl z))))) (Γ124 true 98 l K) l
noncomputable def Γ125 : Oracle := addW 98 F98_71 Γ124
noncomputable def G70_71 (a0 a1 : PL) (K0 : PL -> Bool) : Bool :=
 (H99 (IntKind.u64.wrap (nI a0.length)) (fun z1 => (Q98_71 a0 0 (nI a0.length) z1 a1 (fun z2 => (K0 z2)))))
noncomputable def Q70_71 := hide G70_71
theorem Q70_71_def : Q70_71 = G70_71 := hide_eq _
noncomputable def F70_71 : FT := fun l K => wA (.ps (.pr 41 1) (.ps (.pc 71 .pe (.ps (.pd 0 0 (.pa (.ps .pl .pe))) .pe)) .pe)) (fun (a0, (_, ((a1, _), _)), _) => Q70_71 a0 a1 (fun z => K (.one (.p (.sl z))))) (Γ125 true 70 l K) l
noncomputable def Γ126 : Oracle := addW 70 F70_71 Γ125
noncomputable def G128 (a0 a1 a2 : PL) (K0 : Int -> Bool) : Bool :=
 (Q76 a0 [(xV a1), (xV a2)] (fun z1 => (bif (z1 != 0) then (K0 z1) else (Q113 a0 a2 (fun z2 z3 z4 => (bif ((nI z2.length) == 0) then (K0 17) else (K0 0)))))))
noncomputable def Q128 := hide G128
theorem Q128_def : Q128 = G128 := hide_eq _
noncomputable def F128 : FT := fun l K => wA (.ps .pl (.ps .pl (.ps .pl .pe))) (fun (a0, a1, a2, _) => Q128 a0 a1 a2 (fun z0 => K (.one (.p (xI z0))))) false l
noncomputable def Γ127 : Oracle := addF 128 F128 Γ126
noncomputable def G232 (a0_0 a0_1 : ByteArray) (K0 : Int -> Bool) : Bool :=
 (Q106 a0_0 (fun z1 => (K0 z1)))
noncomputable def Q232 := hide G232
theorem Q232_def : Q232 = G232 := hide_eq _
noncomputable def F232 : FT := fun l K => wA (.ps (.pa (.ps .pz (.ps .pz .pe))) .pe) (fun ((a0_0, a0_1, _), _) => Q232 a0_0 a0_1 (fun z0 => K (.one (.p (xI z0))))) false l
noncomputable def Γ128 : Oracle := addF 232 F232 Γ127
noncomputable def G204 (a0_0 a0_1 a1_0 a1_1 : ByteArray) (K0 : ByteArray -> ByteArray -> Int -> Bool) : Bool :=
 (Q232 a1_0 a1_1 (fun z1 => (bif (z1 == 0) then (K0 s_e s_e 17) else (Q121 a0_0 a1_1 (fun z2 => (Q121 a0_1 a1_0 (fun z3 => (Q120 z2 z3 (fun z4 z5 => (K0 z4 z5 0))))))))))
noncomputable def Q204 := hide G204
theorem Q204_def : Q204 = G204 := hide_eq _
noncomputable def F204 : FT := fun l K => wA (.ps (.pa (.ps .pz (.ps .pz .pe))) (.ps (.pa (.ps .pz (.ps .pz .pe))) .pe)) (fun ((a0_0, a0_1, _), (a1_0, a1_1, _), _) => Q204 a0_0 a0_1 a1_0 a1_1 (fun z0_0 z0_1 z1 => K (.tup [(.p (xA [(xZ z0_0), (xZ z0_1)])), (.p (xI z1))]))) false l
noncomputable def Γ129 : Oracle := addF 204 F204 Γ128
noncomputable def B171_0 : Code := bdL 0 (loops 0 (bdF Tryz.f171))
noncomputable def B171_2 : Code := bdL 2 (loops 0 (bdF Tryz.f171))
noncomputable def St171_0_0 (r0 : PL -> PL -> PL -> Int -> Int -> ByteArray -> ByteArray -> ByteArray -> ByteArray -> Bool) (e0 : PL -> PL -> ByteArray -> ByteArray -> ByteArray -> ByteArray -> Bool) (l0 l1 l2 : PL) (n3 n4 : Int) (s5 s6 s7 s8 : ByteArray) : Bool := (bif (decide (n4 < n3)) then (gd (decide (0 <= n4)) (oOpt (l2[(n4).toNat]?) fun u3 => (oR u3 fun s4v s5v => (bif (!(s4v.toList == s_30.toList)) then (gd (decide (0 <= n4)) (oOpt (l0[(n4).toNat]?) fun u6 => (oR u6 fun s7v s8v => (Q204 s7v s8v s4v s5v (fun z9 z10 z11 => (r0 l0 l1 l2 n3 (wI (n4 + 1)) s5 s6 z9 z10)))))) else (r0 l0 l1 l2 n3 (wI (n4 + 1)) s5 s6 s7 s8))))) else (e0 l0 l1 s5 s6 s7 s8))
noncomputable def LP171_0 (e0 : PL -> PL -> ByteArray -> ByteArray -> ByteArray -> ByteArray -> Bool) : Nat -> (PL -> PL -> PL -> Int -> Int -> ByteArray -> ByteArray -> ByteArray -> ByteArray -> Bool)
 | 0 => ((fun _ _ _ _ _ _ _ _ _ => false))
 | n + 1 => (St171_0_0 ((LP171_0 e0 n)) e0)
noncomputable def L171_0_0 (e0 : PL -> PL -> ByteArray -> ByteArray -> ByteArray -> ByteArray -> Bool) (n : Nat) : PL -> PL -> PL -> Int -> Int -> ByteArray -> ByteArray -> ByteArray -> ByteArray -> Bool := (LP171_0 e0 n)
noncomputable def Λ171_0 : LOracle := mkΛ []
noncomputable def Rn171_0 : List LVal -> List LObj -> KX -> Bool := run E Γ129 Λ171_0 0 B171_0
noncomputable def X171_0_0 (K : KX) (y0 y1 : PL) (y2 y3 y4 y5 : ByteArray) : Bool := K (.exit 0) (tl 50 [(0, (.p (xV y0))), (1, (.p (xV y1))), (4, (.adr 0 0 0)), (6, (.adr 1 0 0))]) [(.box false [(.p (xZ y2)), (.p (xZ y3))]), (.box false [(.p (xZ y4)), (.p (xZ y5))])]
noncomputable def T171_0_0 (l0 l1 l2 : PL) (n3 n4 : Int) (s5 s6 s7 s8 : ByteArray) : List LVal := (tl 50 [(0, (.p (xV l0))), (1, (.p (xV l1))), (4, (.adr 0 0 0)), (6, (.adr 1 0 0)), (12, (.p (xV l2))), (13, (.p (xI n3))), (14, (.p (xI n4)))])
noncomputable def S171_0_0 (l0 l1 l2 : PL) (n3 n4 : Int) (s5 s6 s7 s8 : ByteArray) : List LObj := [(.box false [(.p (xZ s5)), (.p (xZ s6))]), (.box false [(.p (xZ s7)), (.p (xZ s8))])]
noncomputable def Ent171_0 : LEnt := ⟨0, [0, 1, 4, 6, 12, 13, 14], fun T σ K => (wT (.tp .pl (.tp .pl (.tu 2 (.td 0 0 0 (.tu 1 (.td 1 0 0 (.tu 5 (.tp .pl (.tp (.pi .i64) (.tp (.pi .i64) (.tu 35 .te))))))))))) (.sx false (.tp .pz (.tp .pz .te)) (.sx false (.tp .pz (.tp .pz .te)) .se)) (fun (x0, x1, x2, x3, x4, _) ((x5, x6, _), (x7, x8, _), _) => L171_0_0 (X171_0_0 K) fuel x0 x1 x2 x3 x4 x5 x6 x7 x8) false T σ)⟩
noncomputable def St171_2_0 (r0 : PL -> PL -> Int -> Int -> ByteArray -> ByteArray -> ByteArray -> ByteArray -> Bool) (e0 : Bool -> ByteArray -> ByteArray -> Bool) (e1 : ByteArray -> ByteArray -> ByteArray -> ByteArray -> Bool) (l0 l1 : PL) (n2 n3 : Int) (s4 s5 s6 s7 : ByteArray) : Bool := (bif (decide (n3 < n2)) then (gd (decide (0 <= n3)) (oOpt (l1[(n3).toNat]?) fun u18 => (oR u18 fun s19v s20v => (Q111 s6 s7 s19v s20v (fun z21 z22 => (gd (decide (0 <= n3)) (oOpt (l0[(n3).toNat]?) fun u23 => (oR u23 fun s24v s25v => (bif (!(z21 == s24v && z22 == s25v)) then (e0 false s6 s7) else (r0 l0 l1 n2 (wI (n3 + 1)) s4 s5 s6 s7)))))))))) else (e1 s4 s5 s6 s7))
noncomputable def LP171_2 (e0 : Bool -> ByteArray -> ByteArray -> Bool) (e1 : ByteArray -> ByteArray -> ByteArray -> ByteArray -> Bool) : Nat -> (PL -> PL -> Int -> Int -> ByteArray -> ByteArray -> ByteArray -> ByteArray -> Bool)
 | 0 => ((fun _ _ _ _ _ _ _ _ => false))
 | n + 1 => (St171_2_0 ((LP171_2 e0 e1 n)) e0 e1)
noncomputable def L171_2_0 (e0 : Bool -> ByteArray -> ByteArray -> Bool) (e1 : ByteArray -> ByteArray -> ByteArray -> ByteArray -> Bool) (n : Nat) : PL -> PL -> Int -> Int -> ByteArray -> ByteArray -> ByteArray -> ByteArray -> Bool := (LP171_2 e0 e1 n)
noncomputable def Λ171_2 : LOracle := mkΛ []
noncomputable def Rn171_2 : List LVal -> List LObj -> KX -> Bool := run E Γ129 Λ171_2 2 B171_2
noncomputable def X171_2_0 (K : KX) (y0 : Bool) (y1 y2 : ByteArray) : Bool := K .ret (tl 50 [(4, (.adr 0 0 0)), (5, (.p (xB y0)))]) [(.box false [(.p (xZ y1)), (.p (xZ y2))])]
noncomputable def X171_2_1 (K : KX) (y0 y1 y2 y3 : ByteArray) : Bool := K (.exit 2) (tl 50 [(4, (.adr 0 0 0)), (6, (.adr 1 0 0))]) [(.box false [(.p (xZ y0)), (.p (xZ y1))]), (.box false [(.p (xZ y2)), (.p (xZ y3))])]
noncomputable def T171_2_0 (l0 l1 : PL) (n2 n3 : Int) (s4 s5 s6 s7 : ByteArray) : List LVal := (tl 50 [(0, (.p (xV l0))), (4, (.adr 0 0 0)), (6, (.adr 1 0 0)), (32, (.p (xV l1))), (33, (.p (xI n2))), (34, (.p (xI n3)))])
noncomputable def S171_2_0 (l0 l1 : PL) (n2 n3 : Int) (s4 s5 s6 s7 : ByteArray) : List LObj := [(.box false [(.p (xZ s4)), (.p (xZ s5))]), (.box false [(.p (xZ s6)), (.p (xZ s7))])]
noncomputable def Ent171_2 : LEnt := ⟨2, [0, 4, 6, 32, 33, 34], fun T σ K => (wT (.tp .pl (.tu 3 (.td 0 0 0 (.tu 1 (.td 1 0 0 (.tu 25 (.tp .pl (.tp (.pi .i64) (.tp (.pi .i64) (.tu 15 .te)))))))))) (.sx false (.tp .pz (.tp .pz .te)) (.sx false (.tp .pz (.tp .pz .te)) .se)) (fun (x0, x1, x2, x3, _) ((x4, x5, _), (x6, x7, _), _) => L171_2_0 (X171_2_0 K) (X171_2_1 K) fuel x0 x1 x2 x3 x4 x5 x6 x7) false T σ)⟩
noncomputable def G171 (a0 a1 : PL) (K0 : ByteArray -> ByteArray -> Bool -> Bool) : Bool :=
 (Q45 0 (fun z1 z2 => (L171_0_0 (fun y12 y13 y14 y15 y16 y17 => (L171_2_0 (fun y26 y27 y28 => (K0 y27 y28 y26)) (fun y29 y30 y31 y32 => (K0 y31 y32 true)) fuel y12 y13 (nI y13.length) 0 y14 y15 y16 y17)) fuel a0 a1 a1 (nI a1.length) 0 s_e s_e z1 z2)))
noncomputable def Q171 := hide G171
theorem Q171_def : Q171 = G171 := hide_eq _
noncomputable def F171 : FT := fun l K => wA (.ps .pl (.ps .pl .pe)) (fun (a0, a1, _) => Q171 a0 a1 (fun z0_0 z0_1 z1 => K (.tup [(.p (xA [(xZ z0_0), (xZ z0_1)])), (.p (xB z1))]))) false l
noncomputable def Γ130 : Oracle := addF 171 F171 Γ129
noncomputable def G172 (a0_0 a0_1 : ByteArray) (K0 : ByteArray -> Bool) : Bool :=
 (Q159 a0_0 a0_1 (fun z1 z2 z3 => (K0 z1)))
noncomputable def Q172 := hide G172
theorem Q172_def : Q172 = G172 := hide_eq _
noncomputable def F172 : FT := fun l K => wA (.ps (.pa (.ps .pz (.ps .pz .pe))) .pe) (fun ((a0_0, a0_1, _), _) => Q172 a0_0 a0_1 (fun z0 => K (.one (.p (xZ z0))))) false l
noncomputable def Γ131 : Oracle := addF 172 F172 Γ130
noncomputable def G206 (a0 a1 : Int) (K0 : Int -> Bool) : Bool :=
 (bif (decide (a0 < 0)) then (bif (a1 == 0) then false else (K0 (wI (0 - (wI (Int.tdiv (wI ((wI ((wI (0 - a0)) + a1)) - 1)) a1)))))) else (bif (a1 == 0) then false else (K0 (wI (Int.tdiv a0 a1)))))
noncomputable def Q206 := hide G206
theorem Q206_def : Q206 = G206 := hide_eq _
noncomputable def F206 : FT := fun l K => wA (.ps (.pi .i64) (.ps (.pi .i64) .pe)) (fun (a0, a1, _) => Q206 a0 a1 (fun z0 => K (.one (.p (xI z0))))) false l
noncomputable def Γ132 : Oracle := addF 206 F206 Γ131
noncomputable def G173 (a0_0 a0_1 : PL) (a0_2 : ByteArray) (a1_0 a1_1 : PL) (a1_2 : ByteArray) (K0 : Int -> Bool -> Bool) : Bool :=
 (H191 a0_0 a0_1 a0_2 100000 (fun z1 z2 z3 => (H191 a1_0 a1_1 a1_2 100000 (fun z4 z5 z6 => (Q205 a0_2 (fun z7 z8 => (Q205 a1_2 (fun z9 z10 => (bif z3 then (bif z6 then (bif z8 then (bif z10 then (bif (decide (z7 > 10000)) then (K0 0 false) else (bif (decide (z9 > 10000)) then (K0 0 false) else (bif (decide (z5 <= 0)) then (bif (decide ((wI (0 - z5)) <= 0)) then (K0 0 false) else (bif (decide ((wI (0 - z2)) < 0)) then (bif (decide ((wI (0 - z1)) < 0)) then (Q206 (wI ((wI (0 - z2)) * z9)) (wI ((wI (0 - z5)) * z7)) (fun z11 => (Q206 (wI ((wI (0 - z1)) * z9)) (wI ((wI (0 - z4)) * z7)) (fun z12 => (K0 z11 (z11 == z12)))))) else (Q206 (wI ((wI (0 - z2)) * z9)) (wI ((wI (0 - z5)) * z7)) (fun z13 => (Q206 (wI ((wI (0 - z1)) * z9)) (wI ((wI (0 - z5)) * z7)) (fun z14 => (K0 z13 (z13 == z14))))))) else (bif (decide ((wI (0 - z1)) < 0)) then (Q206 (wI ((wI (0 - z2)) * z9)) (wI ((wI (0 - z4)) * z7)) (fun z15 => (Q206 (wI ((wI (0 - z1)) * z9)) (wI ((wI (0 - z4)) * z7)) (fun z16 => (K0 z15 (z15 == z16)))))) else (Q206 (wI ((wI (0 - z2)) * z9)) (wI ((wI (0 - z4)) * z7)) (fun z17 => (Q206 (wI ((wI (0 - z1)) * z9)) (wI ((wI (0 - z5)) * z7)) (fun z18 => (K0 z17 (z17 == z18))))))))) else (bif (decide (z4 <= 0)) then (K0 0 false) else (bif (decide (z1 < 0)) then (bif (decide (z2 < 0)) then (Q206 (wI (z1 * z9)) (wI (z4 * z7)) (fun z19 => (Q206 (wI (z2 * z9)) (wI (z5 * z7)) (fun z20 => (K0 z19 (z19 == z20)))))) else (Q206 (wI (z1 * z9)) (wI (z4 * z7)) (fun z21 => (Q206 (wI (z2 * z9)) (wI (z4 * z7)) (fun z22 => (K0 z21 (z21 == z22))))))) else (bif (decide (z2 < 0)) then (Q206 (wI (z1 * z9)) (wI (z5 * z7)) (fun z23 => (Q206 (wI (z2 * z9)) (wI (z5 * z7)) (fun z24 => (K0 z23 (z23 == z24)))))) else (Q206 (wI (z1 * z9)) (wI (z5 * z7)) (fun z25 => (Q206 (wI (z2 * z9)) (wI (z4 * z7)) (fun z26 => (K0 z25 (z25 == z26)))))))))))) else (K0 0 false)) else (K0 0 false)) else (K0 0 false)) else (K0 0 false))))))))))
noncomputable def Q173 := hide G173
theorem Q173_def : Q173 = G173 := hide_eq _
noncomputable def F173 : FT := fun l K => wA (.ps (.pa (.ps .pl (.ps .pl (.ps .pz .pe)))) (.ps (.pa (.ps .pl (.ps .pl (.ps .pz .pe)))) .pe)) (fun ((a0_0, a0_1, a0_2, _), (a1_0, a1_1, a1_2, _), _) => Q173 a0_0 a0_1 a0_2 a1_0 a1_1 a1_2 (fun z0 z1 => K (.tup [(.p (xI z0)), (.p (xB z1))]))) false l
noncomputable def Γ133 : Oracle := addF 173 F173 Γ132
noncomputable def B129_0 : Code := bdL 0 (loops 0 (bdF Tryz.f129))
noncomputable def St129_0_0 (r0 : Int -> PL -> PL -> ByteArray -> PL -> PL -> ByteArray -> Bool)  (n0 : Int) (l1 l2 : PL) (s3 : ByteArray) (l4 l5 : PL) (s6 : ByteArray) : Bool := false
noncomputable def LP129_0  : Nat -> (Int -> PL -> PL -> ByteArray -> PL -> PL -> ByteArray -> Bool)
 | 0 => ((fun _ _ _ _ _ _ _ => false))
 | n + 1 => (St129_0_0 ((LP129_0  n)))
noncomputable def L129_0_0  (n : Nat) : Int -> PL -> PL -> ByteArray -> PL -> PL -> ByteArray -> Bool := (LP129_0  n)
noncomputable def Λ129_0 : LOracle := mkΛ []
noncomputable def Rn129_0 : List LVal -> List LObj -> KX -> Bool := run E Γ133 Λ129_0 0 B129_0
noncomputable def T129_0_0 (n0 : Int) (l1 l2 : PL) (s3 : ByteArray) (l4 l5 : PL) (s6 : ByteArray) : List LVal := (tl 118 [(9, (.adr 0 0 0)), (10, (.adr 1 0 0)), (13, (.p (xI n0)))])
noncomputable def S129_0_0 (n0 : Int) (l1 l2 : PL) (s3 : ByteArray) (l4 l5 : PL) (s6 : ByteArray) : List LObj := [(.box false [(.p (xV l1)), (.p (xV l2)), (.p (xZ s3))]), (.box false [(.p (xV l4)), (.p (xV l5)), (.p (xZ s6))])]
noncomputable def Ent129_0 : LEnt := ⟨0, [9, 10, 13], fun T σ K => (wT (.tu 9 (.td 0 0 0 (.td 1 0 0 (.tu 2 (.tp (.pi .i64) (.tu 104 .te)))))) (.sx false (.tp .pl (.tp .pl (.tp .pz .te))) (.sx false (.tp .pl (.tp .pl (.tp .pz .te))) .se)) (fun (x0, _) ((x1, x2, x3, _), (x4, x5, x6, _), _) => L129_0_0 fuel x0 x1 x2 x3 x4 x5 x6) false T σ)⟩
noncomputable def G129 (a0 a1 a2 : PL) (K0 : ByteArray -> Bool) : Bool :=
 (Q171 a1 a2 (fun z1 z2 z3 => (bif z3 then (Q172 z1 z2 (fun z4 => (K0 z4))) else (Q113 a0 a1 (fun z5 z6 z7 => (Q113 a0 a2 (fun z8 z9 z10 => (Q173 z5 z6 z7 z8 z9 z10 (fun z11 z12 => (bif z12 then (Q82 z11 (fun z13 => (K0 z13))) else (L129_0_0 fuel 64 z5 z6 z7 z8 z9 z10)))))))))))
noncomputable def Q129 := hide G129
theorem Q129_def : Q129 = G129 := hide_eq _
noncomputable def F129 : FT := fun l K => wA (.ps .pl (.ps .pl (.ps .pl .pe))) (fun (a0, a1, a2, _) => Q129 a0 a1 a2 (fun z0 => K (.one (.p (xZ z0))))) false l
noncomputable def Γ134 : Oracle := addF 129 F129 Γ133
noncomputable def G96 (a0 a1 a2 : PL) (K0 : ByteArray -> Int -> Bool) : Bool :=
 (Q128 a0 a1 a2 (fun z1 => (bif (z1 != 0) then (K0 s_e z1) else (Q129 a0 a1 a2 (fun z2 => (K0 z2 0))))))
noncomputable def Q96 := hide G96
theorem Q96_def : Q96 = G96 := hide_eq _
noncomputable def F96 : FT := fun l K => wA (.ps .pl (.ps .pl (.ps .pl .pe))) (fun (a0, a1, a2, _) => Q96 a0 a1 a2 (fun z0 z1 => K (.tup [(.p (xZ z0)), (.p (xI z1))]))) false l
noncomputable def Γ135 : Oracle := addF 96 F96 Γ134
noncomputable def B207_0 : Code := bdL 0 (loops 0 (bdF Tryz.f207))
noncomputable def St207_0_0 (r0 : PL -> PL -> Int -> Int -> Bool) (r1 : PL -> PL -> Int -> Int -> PL -> Bool) (e0 : Bool) (e1 : PL -> Bool) (l0 l1 : PL) (n2 n3 : Int) : Bool := (bif (decide (n3 < (nI l0.length))) then (bif (decide (n3 < (nI l0.length))) then (gd (decide (0 <= n3)) (oOpt (l0[(n3).toNat]?) fun u1 => (oInt .i64 u1 fun n2v => (bif (decide (n3 < (nI l1.length))) then (gd (decide (0 <= n3)) (oOpt (l1[(n3).toNat]?) fun u3 => (oInt .i64 u3 fun n4v => (r1 l0 l1 (wI (Int.tdiv (wI ((wI (n2 + n2v)) + n4v)) 1000000000)) (wI (n3 + 1)) [(xI (Int.tmod (wI ((wI (n2 + n2v)) + n4v)) 1000000000))])))) else (r1 l0 l1 (wI (Int.tdiv (wI (n2 + n2v)) 1000000000)) (wI (n3 + 1)) [(xI (Int.tmod (wI (n2 + n2v)) 1000000000))]))))) else (bif (decide (n3 < (nI l1.length))) then (gd (decide (0 <= n3)) (oOpt (l1[(n3).toNat]?) fun u5 => (oInt .i64 u5 fun n6v => (r1 l0 l1 (wI (Int.tdiv (wI (n2 + n6v)) 1000000000)) (wI (n3 + 1)) [(xI (Int.tmod (wI (n2 + n6v)) 1000000000))])))) else (r1 l0 l1 (wI (Int.tdiv n2 1000000000)) (wI (n3 + 1)) [(xI (Int.tmod n2 1000000000))]))) else (bif (decide (n3 < (nI l1.length))) then (bif (decide (n3 < (nI l0.length))) then (gd (decide (0 <= n3)) (oOpt (l0[(n3).toNat]?) fun u7 => (oInt .i64 u7 fun n8v => (bif (decide (n3 < (nI l1.length))) then (gd (decide (0 <= n3)) (oOpt (l1[(n3).toNat]?) fun u9 => (oInt .i64 u9 fun n10v => (r1 l0 l1 (wI (Int.tdiv (wI ((wI (n2 + n8v)) + n10v)) 1000000000)) (wI (n3 + 1)) [(xI (Int.tmod (wI ((wI (n2 + n8v)) + n10v)) 1000000000))])))) else (r1 l0 l1 (wI (Int.tdiv (wI (n2 + n8v)) 1000000000)) (wI (n3 + 1)) [(xI (Int.tmod (wI (n2 + n8v)) 1000000000))]))))) else (bif (decide (n3 < (nI l1.length))) then (gd (decide (0 <= n3)) (oOpt (l1[(n3).toNat]?) fun u11 => (oInt .i64 u11 fun n12v => (r1 l0 l1 (wI (Int.tdiv (wI (n2 + n12v)) 1000000000)) (wI (n3 + 1)) [(xI (Int.tmod (wI (n2 + n12v)) 1000000000))])))) else (r1 l0 l1 (wI (Int.tdiv n2 1000000000)) (wI (n3 + 1)) [(xI (Int.tmod n2 1000000000))]))) else (bif (decide (n2 > 0)) then (bif (decide (n3 < (nI l0.length))) then (gd (decide (0 <= n3)) (oOpt (l0[(n3).toNat]?) fun u13 => (oInt .i64 u13 fun n14v => (bif (decide (n3 < (nI l1.length))) then (gd (decide (0 <= n3)) (oOpt (l1[(n3).toNat]?) fun u15 => (oInt .i64 u15 fun n16v => (r1 l0 l1 (wI (Int.tdiv (wI ((wI (n2 + n14v)) + n16v)) 1000000000)) (wI (n3 + 1)) [(xI (Int.tmod (wI ((wI (n2 + n14v)) + n16v)) 1000000000))])))) else (r1 l0 l1 (wI (Int.tdiv (wI (n2 + n14v)) 1000000000)) (wI (n3 + 1)) [(xI (Int.tmod (wI (n2 + n14v)) 1000000000))]))))) else (bif (decide (n3 < (nI l1.length))) then (gd (decide (0 <= n3)) (oOpt (l1[(n3).toNat]?) fun u17 => (oInt .i64 u17 fun n18v => (r1 l0 l1 (wI (Int.tdiv (wI (n2 + n18v)) 1000000000)) (wI (n3 + 1)) [(xI (Int.tmod (wI (n2 + n18v)) 1000000000))])))) else (r1 l0 l1 (wI (Int.tdiv n2 1000000000)) (wI (n3 + 1)) [(xI (Int.tmod n2 1000000000))]))) else e0)))
noncomputable def St207_0_1 (r0 : PL -> PL -> Int -> Int -> Bool) (r1 : PL -> PL -> Int -> Int -> PL -> Bool) (e0 : Bool) (e1 : PL -> Bool) (l0 l1 : PL) (n2 n3 : Int) (l4 : PL) : Bool := (bif (decide (n3 < (nI l0.length))) then (bif (decide (n3 < (nI l0.length))) then (gd (decide (0 <= n3)) (oOpt (l0[(n3).toNat]?) fun u19 => (oInt .i64 u19 fun n20v => (bif (decide (n3 < (nI l1.length))) then (gd (decide (0 <= n3)) (oOpt (l1[(n3).toNat]?) fun u21 => (oInt .i64 u21 fun n22v => (gd (decide (l4.length + 1 <= maxElems)) (r1 l0 l1 (wI (Int.tdiv (wI ((wI (n2 + n20v)) + n22v)) 1000000000)) (wI (n3 + 1)) (l4 ++ [(xI (Int.tmod (wI ((wI (n2 + n20v)) + n22v)) 1000000000))])))))) else (gd (decide (l4.length + 1 <= maxElems)) (r1 l0 l1 (wI (Int.tdiv (wI (n2 + n20v)) 1000000000)) (wI (n3 + 1)) (l4 ++ [(xI (Int.tmod (wI (n2 + n20v)) 1000000000))]))))))) else (bif (decide (n3 < (nI l1.length))) then (gd (decide (0 <= n3)) (oOpt (l1[(n3).toNat]?) fun u23 => (oInt .i64 u23 fun n24v => (gd (decide (l4.length + 1 <= maxElems)) (r1 l0 l1 (wI (Int.tdiv (wI (n2 + n24v)) 1000000000)) (wI (n3 + 1)) (l4 ++ [(xI (Int.tmod (wI (n2 + n24v)) 1000000000))])))))) else (gd (decide (l4.length + 1 <= maxElems)) (r1 l0 l1 (wI (Int.tdiv n2 1000000000)) (wI (n3 + 1)) (l4 ++ [(xI (Int.tmod n2 1000000000))]))))) else (bif (decide (n3 < (nI l1.length))) then (bif (decide (n3 < (nI l0.length))) then (gd (decide (0 <= n3)) (oOpt (l0[(n3).toNat]?) fun u25 => (oInt .i64 u25 fun n26v => (bif (decide (n3 < (nI l1.length))) then (gd (decide (0 <= n3)) (oOpt (l1[(n3).toNat]?) fun u27 => (oInt .i64 u27 fun n28v => (gd (decide (l4.length + 1 <= maxElems)) (r1 l0 l1 (wI (Int.tdiv (wI ((wI (n2 + n26v)) + n28v)) 1000000000)) (wI (n3 + 1)) (l4 ++ [(xI (Int.tmod (wI ((wI (n2 + n26v)) + n28v)) 1000000000))])))))) else (gd (decide (l4.length + 1 <= maxElems)) (r1 l0 l1 (wI (Int.tdiv (wI (n2 + n26v)) 1000000000)) (wI (n3 + 1)) (l4 ++ [(xI (Int.tmod (wI (n2 + n26v)) 1000000000))]))))))) else (bif (decide (n3 < (nI l1.length))) then (gd (decide (0 <= n3)) (oOpt (l1[(n3).toNat]?) fun u29 => (oInt .i64 u29 fun n30v => (gd (decide (l4.length + 1 <= maxElems)) (r1 l0 l1 (wI (Int.tdiv (wI (n2 + n30v)) 1000000000)) (wI (n3 + 1)) (l4 ++ [(xI (Int.tmod (wI (n2 + n30v)) 1000000000))])))))) else (gd (decide (l4.length + 1 <= maxElems)) (r1 l0 l1 (wI (Int.tdiv n2 1000000000)) (wI (n3 + 1)) (l4 ++ [(xI (Int.tmod n2 1000000000))]))))) else (bif (decide (n2 > 0)) then (bif (decide (n3 < (nI l0.length))) then (gd (decide (0 <= n3)) (oOpt (l0[(n3).toNat]?) fun u31 => (oInt .i64 u31 fun n32v => (bif (decide (n3 < (nI l1.length))) then (gd (decide (0 <= n3)) (oOpt (l1[(n3).toNat]?) fun u33 => (oInt .i64 u33 fun n34v => (gd (decide (l4.length + 1 <= maxElems)) (r1 l0 l1 (wI (Int.tdiv (wI ((wI (n2 + n32v)) + n34v)) 1000000000)) (wI (n3 + 1)) (l4 ++ [(xI (Int.tmod (wI ((wI (n2 + n32v)) + n34v)) 1000000000))])))))) else (gd (decide (l4.length + 1 <= maxElems)) (r1 l0 l1 (wI (Int.tdiv (wI (n2 + n32v)) 1000000000)) (wI (n3 + 1)) (l4 ++ [(xI (Int.tmod (wI (n2 + n32v)) 1000000000))]))))))) else (bif (decide (n3 < (nI l1.length))) then (gd (decide (0 <= n3)) (oOpt (l1[(n3).toNat]?) fun u35 => (oInt .i64 u35 fun n36v => (gd (decide (l4.length + 1 <= maxElems)) (r1 l0 l1 (wI (Int.tdiv (wI (n2 + n36v)) 1000000000)) (wI (n3 + 1)) (l4 ++ [(xI (Int.tmod (wI (n2 + n36v)) 1000000000))])))))) else (gd (decide (l4.length + 1 <= maxElems)) (r1 l0 l1 (wI (Int.tdiv n2 1000000000)) (wI (n3 + 1)) (l4 ++ [(xI (Int.tmod n2 1000000000))]))))) else (e1 l4))))
noncomputable def LP207_0 (e0 : Bool) (e1 : PL -> Bool) : Nat -> (PL -> PL -> Int -> Int -> Bool) × (PL -> PL -> Int -> Int -> PL -> Bool)
 | 0 => ((fun _ _ _ _ => false), (fun _ _ _ _ _ => false))
 | n + 1 => (St207_0_0 ((LP207_0 e0 e1 n).1) ((LP207_0 e0 e1 n).2) e0 e1, St207_0_1 ((LP207_0 e0 e1 n).1) ((LP207_0 e0 e1 n).2) e0 e1)
noncomputable def L207_0_0 (e0 : Bool) (e1 : PL -> Bool) (n : Nat) : PL -> PL -> Int -> Int -> Bool := (LP207_0 e0 e1 n).1
noncomputable def L207_0_1 (e0 : Bool) (e1 : PL -> Bool) (n : Nat) : PL -> PL -> Int -> Int -> PL -> Bool := (LP207_0 e0 e1 n).2
noncomputable def Λ207_0 : LOracle := mkΛ []
noncomputable def Rn207_0 : List LVal -> List LObj -> KX -> Bool := run E Γ135 Λ207_0 0 B207_0
noncomputable def X207_0_0 (K : KX)  : Bool := K (.exit 0) (tl 52 [(5, (.p xN))]) []
noncomputable def X207_0_1 (K : KX) (y0 : PL) : Bool := K (.exit 0) (tl 52 [(5, (.own 0))]) [(.buf false 3 1 y0)]
noncomputable def T207_0_0 (l0 l1 : PL) (n2 n3 : Int) : List LVal := (tl 52 [(0, (.p (xV l0))), (1, (.p (xV l1))), (5, (.p xN)), (6, (.p (xI n2))), (7, (.p (xI n3)))])
noncomputable def S207_0_0 (l0 l1 : PL) (n2 n3 : Int) : List LObj := []
noncomputable def T207_0_1 (l0 l1 : PL) (n2 n3 : Int) (l4 : PL) : List LVal := (tl 52 [(0, (.p (xV l0))), (1, (.p (xV l1))), (5, (.own 0)), (6, (.p (xI n2))), (7, (.p (xI n3)))])
noncomputable def S207_0_1 (l0 l1 : PL) (n2 n3 : Int) (l4 : PL) : List LObj := [(.buf false 3 1 l4)]
noncomputable def Ent207_0 : LEnt := ⟨0, [0, 1, 5, 6, 7], fun T σ K => (wT (.tp .pl (.tp .pl (.tu 3 (.tp .pn (.tp (.pi .i64) (.tp (.pi .i64) (.tu 44 .te))))))) .se (fun (x0, x1, _, x2, x3, _) _ => L207_0_0 (X207_0_0 K) (X207_0_1 K) fuel x0 x1 x2 x3) (wT (.tp .pl (.tp .pl (.tu 3 (.to 0 (.tp (.pi .i64) (.tp (.pi .i64) (.tu 44 .te))))))) (.sf false 3 1 .se) (fun (x0, x1, x2, x3, _) (x4, _) => L207_0_1 (X207_0_0 K) (X207_0_1 K) fuel x0 x1 x2 x3 x4) false T σ) T σ)⟩
noncomputable def G207 (a0 a1 : PL) (K0 : PL -> Bool) : Bool :=
 (L207_0_0 ((K0 [])) (fun y37 => (K0 y37)) fuel a0 a1 0 0)
noncomputable def Q207 := hide G207
theorem Q207_def : Q207 = G207 := hide_eq _
noncomputable def F207 : FT := fun l K => wA (.ps .pl (.ps .pl .pe)) (fun (a0, a1, _) => Q207 a0 a1 (fun z0 => K (.one (.p (xV z0))))) false l
noncomputable def Γ136 : Oracle := addF 207 F207 Γ135
noncomputable def B180_0 : Code := bdL 0 (loops 0 (bdF Tryz.f180))
noncomputable def St180_0_0 (r0 : PL -> PL -> Int -> Bool) (e0 : Int -> Bool) (e1 : Bool) (l0 l1 : PL) (n2 : Int) : Bool := (bif (decide (n2 >= 0)) then (gd (decide (0 <= n2)) (oOpt (l0[(n2).toNat]?) fun u1 => (oInt .i64 u1 fun n2v => (gd (decide (0 <= n2)) (oOpt (l1[(n2).toNat]?) fun u3 => (oInt .i64 u3 fun n4v => (bif (decide (n2v < n4v)) then (e0 (-1)) else (gd (decide (0 <= n2)) (oOpt (l0[(n2).toNat]?) fun u5 => (oInt .i64 u5 fun n6v => (gd (decide (0 <= n2)) (oOpt (l1[(n2).toNat]?) fun u7 => (oInt .i64 u7 fun n8v => (bif (decide (n6v > n8v)) then (e0 1) else (r0 l0 l1 (wI (n2 - 1))))))))))))))))) else e1)
noncomputable def LP180_0 (e0 : Int -> Bool) (e1 : Bool) : Nat -> (PL -> PL -> Int -> Bool)
 | 0 => ((fun _ _ _ => false))
 | n + 1 => (St180_0_0 ((LP180_0 e0 e1 n)) e0 e1)
noncomputable def L180_0_0 (e0 : Int -> Bool) (e1 : Bool) (n : Nat) : PL -> PL -> Int -> Bool := (LP180_0 e0 e1 n)
noncomputable def Λ180_0 : LOracle := mkΛ []
noncomputable def Rn180_0 : List LVal -> List LObj -> KX -> Bool := run E Γ136 Λ180_0 0 B180_0
noncomputable def X180_0_0 (K : KX) (y0 : Int) : Bool := K .ret (tl 41 [(4, (.p (xI y0)))]) []
noncomputable def X180_0_1 (K : KX)  : Bool := K (.exit 0) (tl 41 []) []
noncomputable def T180_0_0 (l0 l1 : PL) (n2 : Int) : List LVal := (tl 41 [(0, (.p (xV l0))), (1, (.p (xV l1))), (5, (.p (xI n2)))])
noncomputable def S180_0_0 (l0 l1 : PL) (n2 : Int) : List LObj := []
noncomputable def Ent180_0 : LEnt := ⟨0, [0, 1, 5], fun T σ K => (wT (.tp .pl (.tp .pl (.tu 3 (.tp (.pi .i64) (.tu 35 .te))))) .se (fun (x0, x1, x2, _) _ => L180_0_0 (X180_0_0 K) (X180_0_1 K) fuel x0 x1 x2) false T σ)⟩
noncomputable def G180 (a0 a1 : PL) (K0 : Int -> Bool) : Bool :=
 (bif ((nI a0.length) != (nI a1.length)) then (bif (decide ((nI a0.length) < (nI a1.length))) then (K0 (-1)) else (K0 1)) else (L180_0_0 (fun y9 => (K0 y9)) ((K0 0)) fuel a0 a1 (wI ((nI a0.length) - 1))))
noncomputable def Q180 := hide G180
theorem Q180_def : Q180 = G180 := hide_eq _
noncomputable def F180 : FT := fun l K => wA (.ps .pl (.ps .pl .pe)) (fun (a0, a1, _) => Q180 a0 a1 (fun z0 => K (.one (.p (xI z0))))) false l
noncomputable def Γ137 : Oracle := addF 180 F180 Γ136
noncomputable def B182_0 : Code := bdL 0 (loops 0 (bdF Tryz.f182))
noncomputable def St182_0_0 (r0 : PL -> PL -> Int -> Int -> Bool) (r1 : PL -> PL -> Int -> Int -> PL -> Bool) (e0 : Bool) (e1 : PL -> Bool) (l0 l1 : PL) (n2 n3 : Int) : Bool := (bif (decide (n3 < (nI l0.length))) then (gd (decide (0 <= n3)) (oOpt (l0[(n3).toNat]?) fun u1 => (oInt .i64 u1 fun n2v => (bif (decide (n3 < (nI l1.length))) then (gd (decide (0 <= n3)) (oOpt (l1[(n3).toNat]?) fun u3 => (oInt .i64 u3 fun n4v => (bif (decide ((wI ((wI (n2v - n2)) - n4v)) < 0)) then (r1 l0 l1 1 (wI (n3 + 1)) [(xI (wI ((wI ((wI (n2v - n2)) - n4v)) + 1000000000)))]) else (r1 l0 l1 0 (wI (n3 + 1)) [(xI (wI ((wI (n2v - n2)) - n4v)))]))))) else (bif (decide ((wI (n2v - n2)) < 0)) then (r1 l0 l1 1 (wI (n3 + 1)) [(xI (wI ((wI (n2v - n2)) + 1000000000)))]) else (r1 l0 l1 0 (wI (n3 + 1)) [(xI (wI (n2v - n2)))])))))) else e0)
noncomputable def St182_0_1 (r0 : PL -> PL -> Int -> Int -> Bool) (r1 : PL -> PL -> Int -> Int -> PL -> Bool) (e0 : Bool) (e1 : PL -> Bool) (l0 l1 : PL) (n2 n3 : Int) (l4 : PL) : Bool := (bif (decide (n3 < (nI l0.length))) then (gd (decide (0 <= n3)) (oOpt (l0[(n3).toNat]?) fun u5 => (oInt .i64 u5 fun n6v => (bif (decide (n3 < (nI l1.length))) then (gd (decide (0 <= n3)) (oOpt (l1[(n3).toNat]?) fun u7 => (oInt .i64 u7 fun n8v => (bif (decide ((wI ((wI (n6v - n2)) - n8v)) < 0)) then (gd (decide (l4.length + 1 <= maxElems)) (r1 l0 l1 1 (wI (n3 + 1)) (l4 ++ [(xI (wI ((wI ((wI (n6v - n2)) - n8v)) + 1000000000)))]))) else (gd (decide (l4.length + 1 <= maxElems)) (r1 l0 l1 0 (wI (n3 + 1)) (l4 ++ [(xI (wI ((wI (n6v - n2)) - n8v)))]))))))) else (bif (decide ((wI (n6v - n2)) < 0)) then (gd (decide (l4.length + 1 <= maxElems)) (r1 l0 l1 1 (wI (n3 + 1)) (l4 ++ [(xI (wI ((wI (n6v - n2)) + 1000000000)))]))) else (gd (decide (l4.length + 1 <= maxElems)) (r1 l0 l1 0 (wI (n3 + 1)) (l4 ++ [(xI (wI (n6v - n2)))])))))))) else (e1 l4))
noncomputable def LP182_0 (e0 : Bool) (e1 : PL -> Bool) : Nat -> (PL -> PL -> Int -> Int -> Bool) × (PL -> PL -> Int -> Int -> PL -> Bool)
 | 0 => ((fun _ _ _ _ => false), (fun _ _ _ _ _ => false))
 | n + 1 => (St182_0_0 ((LP182_0 e0 e1 n).1) ((LP182_0 e0 e1 n).2) e0 e1, St182_0_1 ((LP182_0 e0 e1 n).1) ((LP182_0 e0 e1 n).2) e0 e1)
noncomputable def L182_0_0 (e0 : Bool) (e1 : PL -> Bool) (n : Nat) : PL -> PL -> Int -> Int -> Bool := (LP182_0 e0 e1 n).1
noncomputable def L182_0_1 (e0 : Bool) (e1 : PL -> Bool) (n : Nat) : PL -> PL -> Int -> Int -> PL -> Bool := (LP182_0 e0 e1 n).2
noncomputable def Λ182_0 : LOracle := mkΛ []
noncomputable def Rn182_0 : List LVal -> List LObj -> KX -> Bool := run E Γ137 Λ182_0 0 B182_0
noncomputable def X182_0_0 (K : KX)  : Bool := K (.exit 0) (tl 40 [(5, (.p xN))]) []
noncomputable def X182_0_1 (K : KX) (y0 : PL) : Bool := K (.exit 0) (tl 40 [(5, (.own 0))]) [(.buf false 3 1 y0)]
noncomputable def T182_0_0 (l0 l1 : PL) (n2 n3 : Int) : List LVal := (tl 40 [(0, (.p (xV l0))), (1, (.p (xV l1))), (5, (.p xN)), (6, (.p (xI n2))), (7, (.p (xI n3)))])
noncomputable def S182_0_0 (l0 l1 : PL) (n2 n3 : Int) : List LObj := []
noncomputable def T182_0_1 (l0 l1 : PL) (n2 n3 : Int) (l4 : PL) : List LVal := (tl 40 [(0, (.p (xV l0))), (1, (.p (xV l1))), (5, (.own 0)), (6, (.p (xI n2))), (7, (.p (xI n3)))])
noncomputable def S182_0_1 (l0 l1 : PL) (n2 n3 : Int) (l4 : PL) : List LObj := [(.buf false 3 1 l4)]
noncomputable def Ent182_0 : LEnt := ⟨0, [0, 1, 5, 6, 7], fun T σ K => (wT (.tp .pl (.tp .pl (.tu 3 (.tp .pn (.tp (.pi .i64) (.tp (.pi .i64) (.tu 32 .te))))))) .se (fun (x0, x1, _, x2, x3, _) _ => L182_0_0 (X182_0_0 K) (X182_0_1 K) fuel x0 x1 x2 x3) (wT (.tp .pl (.tp .pl (.tu 3 (.to 0 (.tp (.pi .i64) (.tp (.pi .i64) (.tu 32 .te))))))) (.sf false 3 1 .se) (fun (x0, x1, x2, x3, _) (x4, _) => L182_0_1 (X182_0_0 K) (X182_0_1 K) fuel x0 x1 x2 x3 x4) false T σ) T σ)⟩
noncomputable def G182 (a0 a1 : PL) (K0 : PL -> Bool) : Bool :=
 (L182_0_0 ((K0 [])) (fun y9 => (K0 y9)) fuel a0 a1 0 0)
noncomputable def Q182 := hide G182
theorem Q182_def : Q182 = G182 := hide_eq _
noncomputable def F182 : FT := fun l K => wA (.ps .pl (.ps .pl .pe)) (fun (a0, a1, _) => Q182 a0 a1 (fun z0 => K (.one (.p (xV z0))))) false l
noncomputable def Γ138 : Oracle := addF 182 F182 Γ137
noncomputable def G174 (a0_0 : Bool) (a0_1 : PL) (a1_0 : Bool) (a1_1 : PL) (K0 : Bool -> PL -> Bool) : Bool :=
 (bif (a0_0 == a1_0) then (Q207 a0_1 a1_1 (fun z1 => (Q147 a0_0 z1 (fun z2 z3 => (K0 z2 z3))))) else (Q180 a0_1 a1_1 (fun z4 => (bif (decide (z4 >= 0)) then (Q182 a0_1 a1_1 (fun z5 => (Q147 a0_0 z5 (fun z6 z7 => (K0 z6 z7))))) else (Q182 a1_1 a0_1 (fun z8 => (Q147 a1_0 z8 (fun z9 z10 => (K0 z9 z10)))))))))
noncomputable def Q174 := hide G174
theorem Q174_def : Q174 = G174 := hide_eq _
noncomputable def F174 : FT := fun l K => wA (.ps (.pa (.ps .pb (.ps .pl .pe))) (.ps (.pa (.ps .pb (.ps .pl .pe))) .pe)) (fun ((a0_0, a0_1, _), (a1_0, a1_1, _), _) => Q174 a0_0 a0_1 a1_0 a1_1 (fun z0_0 z0_1 => K (.one (.p (xA [(xB z0_0), (xV z0_1)]))))) false l
noncomputable def Γ139 : Oracle := addF 174 F174 Γ138
noncomputable def G130 (a0_0 a0_1 a1_0 a1_1 : ByteArray) (K0 : ByteArray -> ByteArray -> Bool) : Bool :=
 (bif (a0_1.toList == a1_1.toList) then (Q102 a0_0 (fun z1 z2 => (Q102 a1_0 (fun z3 z4 => (Q174 z1 z2 z3 z4 (fun z5 z6 => (Q102 a0_1 (fun z7 z8 => (Q100 z5 z6 z7 z8 (fun z9 z10 => (K0 z9 z10))))))))))) else (Q102 a0_0 (fun z11 z12 => (Q102 a1_1 (fun z13 z14 => (Q101 z11 z12 z13 z14 (fun z15 z16 => (Q102 a1_0 (fun z17 z18 => (Q102 a0_1 (fun z19 z20 => (Q101 z17 z18 z19 z20 (fun z21 z22 => (Q174 z15 z16 z21 z22 (fun z23 z24 => (Q102 a0_1 (fun z25 z26 => (Q102 a1_1 (fun z27 z28 => (Q101 z25 z26 z27 z28 (fun z29 z30 => (Q100 z23 z24 z29 z30 (fun z31 z32 => (K0 z31 z32))))))))))))))))))))))))
noncomputable def Q130 := hide G130
theorem Q130_def : Q130 = G130 := hide_eq _
noncomputable def F130 : FT := fun l K => wA (.ps (.pa (.ps .pz (.ps .pz .pe))) (.ps (.pa (.ps .pz (.ps .pz .pe))) .pe)) (fun ((a0_0, a0_1, _), (a1_0, a1_1, _), _) => Q130 a0_0 a0_1 a1_0 a1_1 (fun z0_0 z0_1 => K (.one (.p (xA [(xZ z0_0), (xZ z0_1)]))))) false l
noncomputable def Γ140 : Oracle := addF 130 F130 Γ139
noncomputable def B97_0 : Code := bdL 0 (loops 0 (bdF Tryz.f97))
noncomputable def St97_0_0 (r0 : PL -> PL -> Int -> Int -> Bool) (r1 : PL -> PL -> Int -> Int -> PL -> Bool) (e0 : Bool) (e1 : PL -> Bool) (l0 l1 : PL) (n2 n3 : Int) : Bool := (bif (decide (n3 < n2)) then (gd (decide (0 <= n3)) (oOpt (l0[(n3).toNat]?) fun u1 => (oR u1 fun s2v s3v => (gd (decide (0 <= n3)) (oOpt (l1[(n3).toNat]?) fun u4 => (oR u4 fun s5v s6v => (Q130 s2v s3v s5v s6v (fun z7 z8 => (r1 l0 l1 n2 (wI (n3 + 1)) [(xA [(xZ z7), (xZ z8)])]))))))))) else e0)
noncomputable def St97_0_1 (r0 : PL -> PL -> Int -> Int -> Bool) (r1 : PL -> PL -> Int -> Int -> PL -> Bool) (e0 : Bool) (e1 : PL -> Bool) (l0 l1 : PL) (n2 n3 : Int) (l4 : PL) : Bool := (bif (decide (n3 < n2)) then (gd (decide (0 <= n3)) (oOpt (l0[(n3).toNat]?) fun u9 => (oR u9 fun s10v s11v => (gd (decide (0 <= n3)) (oOpt (l1[(n3).toNat]?) fun u12 => (oR u12 fun s13v s14v => (Q130 s10v s11v s13v s14v (fun z15 z16 => (gd (decide (l4.length + 1 <= maxElems)) (r1 l0 l1 n2 (wI (n3 + 1)) (l4 ++ [(xA [(xZ z15), (xZ z16)])]))))))))))) else (e1 l4))
noncomputable def LP97_0 (e0 : Bool) (e1 : PL -> Bool) : Nat -> (PL -> PL -> Int -> Int -> Bool) × (PL -> PL -> Int -> Int -> PL -> Bool)
 | 0 => ((fun _ _ _ _ => false), (fun _ _ _ _ _ => false))
 | n + 1 => (St97_0_0 ((LP97_0 e0 e1 n).1) ((LP97_0 e0 e1 n).2) e0 e1, St97_0_1 ((LP97_0 e0 e1 n).1) ((LP97_0 e0 e1 n).2) e0 e1)
noncomputable def L97_0_0 (e0 : Bool) (e1 : PL -> Bool) (n : Nat) : PL -> PL -> Int -> Int -> Bool := (LP97_0 e0 e1 n).1
noncomputable def L97_0_1 (e0 : Bool) (e1 : PL -> Bool) (n : Nat) : PL -> PL -> Int -> Int -> PL -> Bool := (LP97_0 e0 e1 n).2
noncomputable def Λ97_0 : LOracle := mkΛ []
noncomputable def Rn97_0 : List LVal -> List LObj -> KX -> Bool := run E Γ140 Λ97_0 0 B97_0
noncomputable def X97_0_0 (K : KX)  : Bool := K (.exit 0) (tl 26 [(5, (.p xN))]) []
noncomputable def X97_0_1 (K : KX) (y0 : PL) : Bool := K (.exit 0) (tl 26 [(5, (.own 0))]) [(.buf false 78 2 y0)]
noncomputable def T97_0_0 (l0 l1 : PL) (n2 n3 : Int) : List LVal := (tl 26 [(0, (.p (xV l0))), (1, (.p (xV l1))), (5, (.p xN)), (8, (.p (xI n2))), (9, (.p (xI n3)))])
noncomputable def S97_0_0 (l0 l1 : PL) (n2 n3 : Int) : List LObj := []
noncomputable def T97_0_1 (l0 l1 : PL) (n2 n3 : Int) (l4 : PL) : List LVal := (tl 26 [(0, (.p (xV l0))), (1, (.p (xV l1))), (5, (.own 0)), (8, (.p (xI n2))), (9, (.p (xI n3)))])
noncomputable def S97_0_1 (l0 l1 : PL) (n2 n3 : Int) (l4 : PL) : List LObj := [(.buf false 78 2 l4)]
noncomputable def Ent97_0 : LEnt := ⟨0, [0, 1, 5, 8, 9], fun T σ K => (wT (.tp .pl (.tp .pl (.tu 3 (.tp .pn (.tu 2 (.tp (.pi .i64) (.tp (.pi .i64) (.tu 16 .te)))))))) .se (fun (x0, x1, _, x2, x3, _) _ => L97_0_0 (X97_0_0 K) (X97_0_1 K) fuel x0 x1 x2 x3) (wT (.tp .pl (.tp .pl (.tu 3 (.to 0 (.tu 2 (.tp (.pi .i64) (.tp (.pi .i64) (.tu 16 .te)))))))) (.sf false 78 2 .se) (fun (x0, x1, x2, x3, _) (x4, _) => L97_0_1 (X97_0_0 K) (X97_0_1 K) fuel x0 x1 x2 x3 x4) false T σ) T σ)⟩
noncomputable def G97 (a0 a1 : PL) (K0 : PL -> Bool) : Bool :=
 (L97_0_0 ((K0 [])) (fun y17 => (K0 y17)) fuel a0 a1 (nI a0.length) 0)
noncomputable def Q97 := hide G97
theorem Q97_def : Q97 = G97 := hide_eq _
noncomputable def F97 : FT := fun l K => wA (.ps .pl (.ps .pl .pe)) (fun (a0, a1, _) => Q97 a0 a1 (fun z0 => K (.one (.p (xV z0))))) false l
noncomputable def Γ141 : Oracle := addF 97 F97 Γ140
noncomputable def G68 (a0 a1 : PL) (K0 : PL -> Bool) : Bool :=
 (Q39 (-1) 1 (fun z1 z2 => (Q38 a1 z1 z2 (fun z3 => (Q97 a0 z3 (fun z4 => (K0 z4)))))))
noncomputable def Q68 := hide G68
theorem Q68_def : Q68 = G68 := hide_eq _
noncomputable def F68 : FT := fun l K => wA (.ps .pl (.ps .pl .pe)) (fun (a0, a1, _) => Q68 a0 a1 (fun z0 => K (.one (.p (xV z0))))) false l
noncomputable def Γ142 : Oracle := addF 68 F68 Γ141
noncomputable def G67 (a0 a1 a2 : PL) (K0 : PL -> ByteArray -> Bool) : Bool :=
 (Q96 a0 a2 a1 (fun z1 z2 => (bif (z1.toList == s_e.toList) then (Q38 a1 s_30 s_31 (fun z3 => (Q68 a2 z3 (fun z4 => (K0 z4 s_30))))) else (Q38 a1 z1 s_31 (fun z5 => (Q68 a2 z5 (fun z6 => (K0 z6 z1))))))))
noncomputable def Q67 := hide G67
theorem Q67_def : Q67 = G67 := hide_eq _
noncomputable def F67 : FT := fun l K => wA (.ps .pl (.ps .pl (.ps .pl .pe))) (fun (a0, a1, a2, _) => Q67 a0 a1 a2 (fun z0 z1 => K (.tup [(.p (xV z0)), (.p (xZ z1))]))) false l
noncomputable def Γ143 : Oracle := addF 67 F67 Γ142
noncomputable def B35_0 : Code := bdL 0 (loops 0 (bdF Tryz.f35))
noncomputable def St35_0_0 (r0 : PL -> PL -> Int -> Int -> PL -> PL -> Bool) (e0 : PL -> PL -> Bool) (l0 l1 : PL) (n2 n3 : Int) (l4 l5 : PL) : Bool := (bif (decide (n3 < n2)) then (gd (decide (0 <= n3)) (oOpt (l1[(n3).toNat]?) fun u1 => (oSl u1 fun p2 => (Q67 l4 l0 p2 (fun z3 z4 => (Q68 z3 z3 (fun z5 => (Q24 z3 z5 (fun z6 => (bif (!z6) then (Q46_69 l5 z3 (fun z7 => (bif (!z7) then (gd (decide (l5.length + 1 <= maxElems)) (r0 l0 l1 n2 (wI (n3 + 1)) l4 (l5 ++ [(xV z3)]))) else (r0 l0 l1 n2 (wI (n3 + 1)) l4 l5)))) else (r0 l0 l1 n2 (wI (n3 + 1)) l4 l5))))))))))) else (e0 l4 l5))
noncomputable def LP35_0 (e0 : PL -> PL -> Bool) : Nat -> (PL -> PL -> Int -> Int -> PL -> PL -> Bool)
 | 0 => ((fun _ _ _ _ _ _ => false))
 | n + 1 => (St35_0_0 ((LP35_0 e0 n)) e0)
noncomputable def L35_0_0 (e0 : PL -> PL -> Bool) (n : Nat) : PL -> PL -> Int -> Int -> PL -> PL -> Bool := (LP35_0 e0 n)
noncomputable def Λ35_0 : LOracle := mkΛ []
noncomputable def Rn35_0 : List LVal -> List LObj -> KX -> Bool := run E Γ143 Λ35_0 0 B35_0
noncomputable def X35_0_0 (K : KX) (y0 y1 : PL) : Bool := K (.exit 0) (tl 50 [(3, (.adr 0 0 0)), (6, (.adr 1 0 0)), (7, (.own 2))]) [(.box false [(.p (xV y0))]), (.box false [(.p xN), (.p xN)]), (.buf false 41 1 y1)]
noncomputable def T35_0_0 (l0 l1 : PL) (n2 n3 : Int) (l4 l5 : PL) : List LVal := (tl 50 [(1, (.p (xV l0))), (3, (.adr 0 0 0)), (6, (.adr 1 0 0)), (7, (.own 2)), (14, (.p (xV l1))), (15, (.p (xI n2))), (16, (.p (xI n3)))])
noncomputable def S35_0_0 (l0 l1 : PL) (n2 n3 : Int) (l4 l5 : PL) : List LObj := [(.box false [(.p (xV l4))]), (.box false [(.p xN), (.p xN)]), (.buf false 41 1 l5)]
noncomputable def Ent35_0 : LEnt := ⟨0, [1, 3, 6, 7, 14, 15, 16], fun T σ K => (wT (.tu 1 (.tp .pl (.tu 1 (.td 0 0 0 (.tu 2 (.td 1 0 0 (.to 2 (.tu 6 (.tp .pl (.tp (.pi .i64) (.tp (.pi .i64) (.tu 33 .te)))))))))))) (.sx false (.tp .pl .te) (.sx false (.tp .pn (.tp .pn .te)) (.sf false 41 1 .se))) (fun (x0, x1, x2, x3, _) ((x4, _), (_, _, _), x5, _) => L35_0_0 (X35_0_0 K) fuel x0 x1 x2 x3 x4 x5) false T σ)⟩
noncomputable def G35 (a0 a1 a2 : PL) (K0 : PL -> PL -> Bool) : Bool :=
 (L35_0_0 (fun y8 y9 => (Q70_71 y9 y8 (fun z10 => (K0 y8 z10)))) fuel a1 a2 (nI a2.length) 0 a0 [(xV a1)])
noncomputable def Q35 := hide G35
theorem Q35_def : Q35 = G35 := hide_eq _
noncomputable def F35 : FT := fun l K => wA (.ps .pl (.ps .pl (.ps .pl .pe))) (fun (a0, a1, a2, _) => Q35 a0 a1 a2 (fun z0_0 z0_1 => K (.one (.p (xA [(xV z0_0), (xV z0_1)]))))) false l
noncomputable def Γ144 : Oracle := addF 35 F35 Γ143
noncomputable def B40_0 : Code := bdL 0 (loops 0 (bdF Tryz.f40))
noncomputable def St40_0_0 (r0 : Int -> Int -> Int -> Int -> Int -> Bool) (r1 : Int -> Int -> Int -> Int -> Int -> PL -> Bool) (e0 : Bool) (e1 : PL -> Bool) (n0 n1 n2 n3 n4 : Int) : Bool := (bif (decide (n1 < n0)) then (gd (decide (0 <= n1) && decide (n1 < 3)) (bif (Nat.beq (0 + (n1).toNat * 1) 0) then (gd (decide (0 <= n1) && decide (n1 < 3)) (bif (Nat.beq (0 + (n1).toNat * 1) 0) then (Q39 (Int.tmod (wI (n2)) 9) (wI (1 + (wI ((Int.tmod n1 2) * (wI (Int.fdiv (IntKind.u8.wrap (n2)) (2 ^ 7))))))) (fun z1 z2 => (r1 n0 (wI (n1 + 1)) n2 n3 n4 [(xA [(xZ z1), (xZ z2)])]))) else (bif (Nat.beq ((0 + (n1).toNat * 1) - 1) 0) then (Q39 (Int.tmod (wI (n2)) 9) (wI (1 + (wI ((Int.tmod n1 2) * (wI (Int.fdiv (IntKind.u8.wrap (n3)) (2 ^ 7))))))) (fun z3 z4 => (r1 n0 (wI (n1 + 1)) n2 n3 n4 [(xA [(xZ z3), (xZ z4)])]))) else (bif (Nat.beq (((0 + (n1).toNat * 1) - 1) - 1) 0) then (Q39 (Int.tmod (wI (n2)) 9) (wI (1 + (wI ((Int.tmod n1 2) * (wI (Int.fdiv (IntKind.u8.wrap (n4)) (2 ^ 7))))))) (fun z5 z6 => (r1 n0 (wI (n1 + 1)) n2 n3 n4 [(xA [(xZ z5), (xZ z6)])]))) else false)))) else (bif (Nat.beq ((0 + (n1).toNat * 1) - 1) 0) then (gd (decide (0 <= n1) && decide (n1 < 3)) (bif (Nat.beq (0 + (n1).toNat * 1) 0) then (Q39 (Int.tmod (wI (n3)) 9) (wI (1 + (wI ((Int.tmod n1 2) * (wI (Int.fdiv (IntKind.u8.wrap (n2)) (2 ^ 7))))))) (fun z7 z8 => (r1 n0 (wI (n1 + 1)) n2 n3 n4 [(xA [(xZ z7), (xZ z8)])]))) else (bif (Nat.beq ((0 + (n1).toNat * 1) - 1) 0) then (Q39 (Int.tmod (wI (n3)) 9) (wI (1 + (wI ((Int.tmod n1 2) * (wI (Int.fdiv (IntKind.u8.wrap (n3)) (2 ^ 7))))))) (fun z9 z10 => (r1 n0 (wI (n1 + 1)) n2 n3 n4 [(xA [(xZ z9), (xZ z10)])]))) else (bif (Nat.beq (((0 + (n1).toNat * 1) - 1) - 1) 0) then (Q39 (Int.tmod (wI (n3)) 9) (wI (1 + (wI ((Int.tmod n1 2) * (wI (Int.fdiv (IntKind.u8.wrap (n4)) (2 ^ 7))))))) (fun z11 z12 => (r1 n0 (wI (n1 + 1)) n2 n3 n4 [(xA [(xZ z11), (xZ z12)])]))) else false)))) else (bif (Nat.beq (((0 + (n1).toNat * 1) - 1) - 1) 0) then (gd (decide (0 <= n1) && decide (n1 < 3)) (bif (Nat.beq (0 + (n1).toNat * 1) 0) then (Q39 (Int.tmod (wI (n4)) 9) (wI (1 + (wI ((Int.tmod n1 2) * (wI (Int.fdiv (IntKind.u8.wrap (n2)) (2 ^ 7))))))) (fun z13 z14 => (r1 n0 (wI (n1 + 1)) n2 n3 n4 [(xA [(xZ z13), (xZ z14)])]))) else (bif (Nat.beq ((0 + (n1).toNat * 1) - 1) 0) then (Q39 (Int.tmod (wI (n4)) 9) (wI (1 + (wI ((Int.tmod n1 2) * (wI (Int.fdiv (IntKind.u8.wrap (n3)) (2 ^ 7))))))) (fun z15 z16 => (r1 n0 (wI (n1 + 1)) n2 n3 n4 [(xA [(xZ z15), (xZ z16)])]))) else (bif (Nat.beq (((0 + (n1).toNat * 1) - 1) - 1) 0) then (Q39 (Int.tmod (wI (n4)) 9) (wI (1 + (wI ((Int.tmod n1 2) * (wI (Int.fdiv (IntKind.u8.wrap (n4)) (2 ^ 7))))))) (fun z17 z18 => (r1 n0 (wI (n1 + 1)) n2 n3 n4 [(xA [(xZ z17), (xZ z18)])]))) else false)))) else false)))) else e0)
noncomputable def St40_0_1 (r0 : Int -> Int -> Int -> Int -> Int -> Bool) (r1 : Int -> Int -> Int -> Int -> Int -> PL -> Bool) (e0 : Bool) (e1 : PL -> Bool) (n0 n1 n2 n3 n4 : Int) (l5 : PL) : Bool := (bif (decide (n1 < n0)) then (gd (decide (0 <= n1) && decide (n1 < 3)) (bif (Nat.beq (0 + (n1).toNat * 1) 0) then (gd (decide (0 <= n1) && decide (n1 < 3)) (bif (Nat.beq (0 + (n1).toNat * 1) 0) then (Q39 (Int.tmod (wI (n2)) 9) (wI (1 + (wI ((Int.tmod n1 2) * (wI (Int.fdiv (IntKind.u8.wrap (n2)) (2 ^ 7))))))) (fun z19 z20 => (gd (decide (l5.length + 1 <= maxElems)) (r1 n0 (wI (n1 + 1)) n2 n3 n4 (l5 ++ [(xA [(xZ z19), (xZ z20)])]))))) else (bif (Nat.beq ((0 + (n1).toNat * 1) - 1) 0) then (Q39 (Int.tmod (wI (n2)) 9) (wI (1 + (wI ((Int.tmod n1 2) * (wI (Int.fdiv (IntKind.u8.wrap (n3)) (2 ^ 7))))))) (fun z21 z22 => (gd (decide (l5.length + 1 <= maxElems)) (r1 n0 (wI (n1 + 1)) n2 n3 n4 (l5 ++ [(xA [(xZ z21), (xZ z22)])]))))) else (bif (Nat.beq (((0 + (n1).toNat * 1) - 1) - 1) 0) then (Q39 (Int.tmod (wI (n2)) 9) (wI (1 + (wI ((Int.tmod n1 2) * (wI (Int.fdiv (IntKind.u8.wrap (n4)) (2 ^ 7))))))) (fun z23 z24 => (gd (decide (l5.length + 1 <= maxElems)) (r1 n0 (wI (n1 + 1)) n2 n3 n4 (l5 ++ [(xA [(xZ z23), (xZ z24)])]))))) else false)))) else (bif (Nat.beq ((0 + (n1).toNat * 1) - 1) 0) then (gd (decide (0 <= n1) && decide (n1 < 3)) (bif (Nat.beq (0 + (n1).toNat * 1) 0) then (Q39 (Int.tmod (wI (n3)) 9) (wI (1 + (wI ((Int.tmod n1 2) * (wI (Int.fdiv (IntKind.u8.wrap (n2)) (2 ^ 7))))))) (fun z25 z26 => (gd (decide (l5.length + 1 <= maxElems)) (r1 n0 (wI (n1 + 1)) n2 n3 n4 (l5 ++ [(xA [(xZ z25), (xZ z26)])]))))) else (bif (Nat.beq ((0 + (n1).toNat * 1) - 1) 0) then (Q39 (Int.tmod (wI (n3)) 9) (wI (1 + (wI ((Int.tmod n1 2) * (wI (Int.fdiv (IntKind.u8.wrap (n3)) (2 ^ 7))))))) (fun z27 z28 => (gd (decide (l5.length + 1 <= maxElems)) (r1 n0 (wI (n1 + 1)) n2 n3 n4 (l5 ++ [(xA [(xZ z27), (xZ z28)])]))))) else (bif (Nat.beq (((0 + (n1).toNat * 1) - 1) - 1) 0) then (Q39 (Int.tmod (wI (n3)) 9) (wI (1 + (wI ((Int.tmod n1 2) * (wI (Int.fdiv (IntKind.u8.wrap (n4)) (2 ^ 7))))))) (fun z29 z30 => (gd (decide (l5.length + 1 <= maxElems)) (r1 n0 (wI (n1 + 1)) n2 n3 n4 (l5 ++ [(xA [(xZ z29), (xZ z30)])]))))) else false)))) else (bif (Nat.beq (((0 + (n1).toNat * 1) - 1) - 1) 0) then (gd (decide (0 <= n1) && decide (n1 < 3)) (bif (Nat.beq (0 + (n1).toNat * 1) 0) then (Q39 (Int.tmod (wI (n4)) 9) (wI (1 + (wI ((Int.tmod n1 2) * (wI (Int.fdiv (IntKind.u8.wrap (n2)) (2 ^ 7))))))) (fun z31 z32 => (gd (decide (l5.length + 1 <= maxElems)) (r1 n0 (wI (n1 + 1)) n2 n3 n4 (l5 ++ [(xA [(xZ z31), (xZ z32)])]))))) else (bif (Nat.beq ((0 + (n1).toNat * 1) - 1) 0) then (Q39 (Int.tmod (wI (n4)) 9) (wI (1 + (wI ((Int.tmod n1 2) * (wI (Int.fdiv (IntKind.u8.wrap (n3)) (2 ^ 7))))))) (fun z33 z34 => (gd (decide (l5.length + 1 <= maxElems)) (r1 n0 (wI (n1 + 1)) n2 n3 n4 (l5 ++ [(xA [(xZ z33), (xZ z34)])]))))) else (bif (Nat.beq (((0 + (n1).toNat * 1) - 1) - 1) 0) then (Q39 (Int.tmod (wI (n4)) 9) (wI (1 + (wI ((Int.tmod n1 2) * (wI (Int.fdiv (IntKind.u8.wrap (n4)) (2 ^ 7))))))) (fun z35 z36 => (gd (decide (l5.length + 1 <= maxElems)) (r1 n0 (wI (n1 + 1)) n2 n3 n4 (l5 ++ [(xA [(xZ z35), (xZ z36)])]))))) else false)))) else false)))) else (e1 l5))
noncomputable def LP40_0 (e0 : Bool) (e1 : PL -> Bool) : Nat -> (Int -> Int -> Int -> Int -> Int -> Bool) × (Int -> Int -> Int -> Int -> Int -> PL -> Bool)
 | 0 => ((fun _ _ _ _ _ => false), (fun _ _ _ _ _ _ => false))
 | n + 1 => (St40_0_0 ((LP40_0 e0 e1 n).1) ((LP40_0 e0 e1 n).2) e0 e1, St40_0_1 ((LP40_0 e0 e1 n).1) ((LP40_0 e0 e1 n).2) e0 e1)
noncomputable def L40_0_0 (e0 : Bool) (e1 : PL -> Bool) (n : Nat) : Int -> Int -> Int -> Int -> Int -> Bool := (LP40_0 e0 e1 n).1
noncomputable def L40_0_1 (e0 : Bool) (e1 : PL -> Bool) (n : Nat) : Int -> Int -> Int -> Int -> Int -> PL -> Bool := (LP40_0 e0 e1 n).2
noncomputable def Λ40_0 : LOracle := mkΛ []
noncomputable def Rn40_0 : List LVal -> List LObj -> KX -> Bool := run E Γ144 Λ40_0 0 B40_0
noncomputable def X40_0_0 (K : KX)  : Bool := K (.exit 0) (tl 35 [(5, (.p xN))]) []
noncomputable def X40_0_1 (K : KX) (y0 : PL) : Bool := K (.exit 0) (tl 35 [(5, (.own 0))]) [(.buf false 78 2 y0)]
noncomputable def T40_0_0 (n0 n1 n2 n3 n4 : Int) : List LVal := (tl 35 [(3, (.adr 0 0 0)), (5, (.p xN)), (9, (.p (xI n0))), (10, (.p (xI n1)))])
noncomputable def S40_0_0 (n0 n1 n2 n3 n4 : Int) : List LObj := [(.box false [(.p (xJ .i8 n2)), (.p (xJ .i8 n3)), (.p (xJ .i8 n4))])]
noncomputable def T40_0_1 (n0 n1 n2 n3 n4 : Int) (l5 : PL) : List LVal := (tl 35 [(3, (.adr 0 0 0)), (5, (.own 1)), (9, (.p (xI n0))), (10, (.p (xI n1)))])
noncomputable def S40_0_1 (n0 n1 n2 n3 n4 : Int) (l5 : PL) : List LObj := [(.box false [(.p (xJ .i8 n2)), (.p (xJ .i8 n3)), (.p (xJ .i8 n4))]), (.buf false 78 2 l5)]
noncomputable def Ent40_0 : LEnt := ⟨0, [3, 5, 9, 10], fun T σ K => (wT (.tu 3 (.td 0 0 0 (.tu 1 (.tp .pn (.tu 3 (.tp (.pi .i64) (.tp (.pi .i64) (.tu 24 .te)))))))) (.sx false (.tp (.pi .i8) (.tp (.pi .i8) (.tp (.pi .i8) .te))) .se) (fun (_, x0, x1, _) ((x2, x3, x4, _), _) => L40_0_0 (X40_0_0 K) (X40_0_1 K) fuel x0 x1 x2 x3 x4) (wT (.tu 3 (.td 0 0 0 (.tu 1 (.to 1 (.tu 3 (.tp (.pi .i64) (.tp (.pi .i64) (.tu 24 .te)))))))) (.sx false (.tp (.pi .i8) (.tp (.pi .i8) (.tp (.pi .i8) .te))) (.sf false 78 2 .se)) (fun (x0, x1, _) ((x2, x3, x4, _), x5, _) => L40_0_1 (X40_0_0 K) (X40_0_1 K) fuel x0 x1 x2 x3 x4 x5) false T σ) T σ)⟩
noncomputable def G40 (a0 : PL) (a1_0 a1_1 a1_2 : Int) (K0 : PL -> Bool) : Bool :=
 (L40_0_0 ((K0 [])) (fun y37 => (K0 y37)) fuel (nI a0.length) 0 a1_0 a1_1 a1_2)
noncomputable def Q40 := hide G40
theorem Q40_def : Q40 = G40 := hide_eq _
noncomputable def F40 : FT := fun l K => wA (.ps .pl (.ps (.pa (.ps (.pi .i8) (.ps (.pi .i8) (.ps (.pi .i8) .pe)))) .pe)) (fun (a0, (a1_0, a1_1, a1_2, _), _) => Q40 a0 a1_0 a1_1 a1_2 (fun z0 => K (.one (.p (xV z0))))) false l
noncomputable def Γ145 : Oracle := addF 40 F40 Γ144
end Go.Ev
