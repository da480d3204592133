/- ClassSizes: for every world and every number the law hands back true; what was there stays as it was. Conditions: the listed variables hold what the program lays. -/
import Derived.SevenTiedAt
import Derived.Test.YthgolelddficaaaGreatDoorTie
import Derived.Test.YthgolelddficaaaGreatDoorCards
import Derived.Test.YthgolelddficaaaGreatDoorXp0
import Derived.Test.YthgolelddficaaaGreatDoorXp1
import Derived.Test.YthgolelddficaaaGreatDoorXp2
import Derived.Test.YthgolelddficaaaGreatDoorXp3
import Derived.Test.YthgolelddficaaaGreatDoorXl1
set_option linter.unusedVariables false
set_option linter.unusedSimpArgs false
set_option maxRecDepth 100000
set_option maxHeartbeats 4000000
namespace Go.Proofs.YthgolelddficaaaGreatDoor
open Go Go.Ev Go.RowKit Go.ChangeShapes Go.WideShapes
theorem snd_all {W0 : World} (ht : Tab W0) : SoundΓ Tryz.prog W0 Γ159 := by
 have s0 : SoundΓ Tryz.prog W0 Γ0 := sound_none _ _
 have s1 := snd112 (fun n K h => pure112 ht n K h) s0
 have s2 := snd150 s1
 have s3 := snd184 s2
 have s4 := snd148 s3
 have s5 := snd149 (fun s K h => pure149 s K h) s4
 have s6 := snd147 s5
 have s7 := snd102 s6
 have s8 := snd103 s7
 have s9 := snd141 s8
 have s10 := snd142 s9
 have s11 := snd143 s10
 have s12 := snd100 s11
 have s13 := snd74 s12
 have s14 := snd39 s13
 have s15 := snd66 s14
 have s16 := snd33 s15
 have s17 := snd94 s16
 have s18 := snd64 s17
 have s19 := snd82 s18
 have s20 := snd45 s19
 have s21 := snd110 s20
 have s22 := snd91 s21
 have s23 := snd151 s22
 have s24 := snd187 (fun s K h => pure187 s K h) s23
 have s25 := snd152 s24
 have s26 := snd105 s25
 have s27 := snd106 s26
 have s28 := snd127 s27
 have s29 := snd153 s28
 have s30 := snd154 s29
 have s31 := snd246 (fun s b c K h => pure246 s b c K h) s30
 have s32 := snd229 s31
 have s33 := snd196 s32
 have s34 := snd230 (fun n b K h => pure230 ht n b K h) s33
 have s35 := snd197 s34
 have s36 := snd188 s35
 have s37 := snd155 s36
 have s38 := snd107 s37
 have s39 := snd79 s38
 have s40 := snd95 s39
 have s41 := snd65 s40
 have s42 := snd32 s41
 have s43 := snd76 s42
 have s44 := snd169 s43
 have s45 := snd118 s44
 have s46 := snd119 s45
 have s47 := snd170 s46
 have s48 := snd165 s47
 have s49 := snd121 s48
 have s50 := snd122 s49
 have s51 := snd159 s50
 have s52 := snd120 s51
 have s53 := snd111 s52
 have s54 := snd117 s53
 have s55 := snd89 s54
 have s56 := snd81 s55
 have s57 := snd190 s56
 have s58 := snd158 s57
 have s59 := snd113 s58
 have s60 := snd233 (fun s b c K h => pure233 s b c K h) s59
 have s61 := snd205 s60
 have s62 := snd99 (fun n K h => pure99 n K h) s61
 have s63 := snd235 (fun a b K h => pure235 a b K h) s62
 have s64 := snd223 s63
 have s65 := snd191 (hand191 s64) s64
 have s66 := snd160 s65
 have s67 := snd114 s66
 have s68 := snd85 s67
 have s69 := snd50 s68
 have s70 := snd58 s69
 have s71 := snd124 s70
 have s72 := snd125 s71
 have s73 := snd78 s72
 have s74 := snd104_78 s73
 have s75 := snd77_78 s74
 have s76 := snd109 s75
 have s77 := snd156_109 s76
 have s78 := snd108_109 s77
 have s79 := snd80 s78
 have s80 := snd44 s79
 have s81 := snd123 s80
 have s82 := snd126 s81
 have s83 := snd92 s82
 have s84 := snd87 s83
 have s85 := snd54 s84
 have s86 := snd84 s85
 have s87 := snd131_84 s86
 have s88 := snd98_84 s87
 have s89 := snd70_84 s88
 have s90 := snd16 s89
 have s91 := snd55 s90
 have s92 := snd115 s91
 have s93 := snd116 (fun l s K h => pure116 l s K h) s92
 have s94 := snd86 s93
 have s95 := snd52 (hand52 s94) s94
 have s96 := snd62 s95
 have s97 := snd41 s96
 have s98 := snd13 s97
 have s99 := snd43 s98
 have s100 := snd75_43 s99
 have s101 := snd42_43 s100
 have s102 := snd14 s101
 have s103 := snd49 s102
 have s104 := snd20 s103
 have s105 := snd53 s104
 have s106 := snd24 s105
 have s107 := snd47 s106
 have s108 := snd83_47 s107
 have s109 := snd46_47 s108
 have s110 := snd48 s109
 have s111 := snd18 s110
 have s112 := snd11 s111
 have s113 := snd34 s112
 have s114 := snd36 s113
 have s115 := snd101 s114
 have s116 := snd73 s115
 have s117 := snd38 s116
 have s118 := snd37 s117
 have s119 := snd69 s118
 have s120 := snd83_69 s119
 have s121 := snd46_69 s120
 have s122 := snd72 s121
 have s123 := snd71 s122
 have s124 := snd131_71 s123
 have s125 := snd98_71 s124
 have s126 := snd70_71 s125
 have s127 := snd128 s126
 have s128 := snd232 s127
 have s129 := snd204 s128
 have s130 := snd171 s129
 have s131 := snd172 s130
 have s132 := snd206 s131
 have s133 := snd173 s132
 have s134 := snd129 s133
 have s135 := snd96 s134
 have s136 := snd207 s135
 have s137 := snd180 s136
 have s138 := snd182 s137
 have s139 := snd174 s138
 have s140 := snd130 s139
 have s141 := snd97 s140
 have s142 := snd68 s141
 have s143 := snd67 s142
 have s144 := snd35 s143
 have s145 := snd40 s144
 have s146 := snd12 s145
 have s147 := snd51 s146
 have s148 := snd23 s147
 have s149 := snd88 s148
 have s150 := snd56 s149
 have s151 := snd90 s150
 have s152 := snd57 s151
 have s153 := snd26 s152
 have s154 := snd22 s153
 have s155 := snd17 s154
 have s156 := snd15 s155
 have s157 := snd28 s156
 have s158 := snd29 (hand29 ⟨s157, fun _ _ _ => by kernel_rfl, fun _ _ _ => by kernel_rfl, fun _ _ _ _ => by kernel_rfl⟩ s90) s157
 have s159 := snd9 s158
 exact s159
theorem gΓ (th : Bool) (kd nm n0 n1 n2 n3 n4 n5 n6 n7 n8 n9 n10 n11 n12 n13 n14 n15 n16 n17 n18 n19 n20 n21 n22 n23 x : Int) (K : RRes -> Bool) : Γ159 false 9 [.agg [xB th, xJ .u8 kd, xJ .u8 nm, xJ .i8 n0, xJ .i8 n1, xJ .i8 n2, xJ .i8 n3, xJ .i8 n4, xJ .i8 n5, xJ .i8 n6, xJ .i8 n7, xJ .i8 n8, xJ .i8 n9, xJ .i8 n10, xJ .i8 n11, xJ .i8 n12, xJ .i8 n13, xJ .i8 n14, xJ .i8 n15, xJ .i8 n16, xJ .i8 n17, xJ .i8 n18, xJ .i8 n19, xJ .i8 n20, xJ .i8 n21, xJ .i8 n22, xJ .i8 n23], xJ .u8 x] K = Q9 th kd nm n0 n1 n2 n3 n4 n5 n6 n7 n8 n9 n10 n11 n12 n13 n14 n15 n16 n17 n18 n19 n20 n21 n22 n23 x (fun z => K (.one (.p (xB z)))) := by kernel_rfl
theorem list24 : ∀ {ns : List Int}, ns.length = 24 -> ∃ n0 n1 n2 n3 n4 n5 n6 n7 n8 n9 n10 n11 n12 n13 n14 n15 n16 n17 n18 n19 n20 n21 n22 n23, ns = [n0, n1, n2, n3, n4, n5, n6, n7, n8, n9, n10, n11, n12, n13, n14, n15, n16, n17, n18, n19, n20, n21, n22, n23]
 | [n0, n1, n2, n3, n4, n5, n6, n7, n8, n9, n10, n11, n12, n13, n14, n15, n16, n17, n18, n19, n20, n21, n22, n23], _ => ⟨n0, n1, n2, n3, n4, n5, n6, n7, n8, n9, n10, n11, n12, n13, n14, n15, n16, n17, n18, n19, n20, n21, n22, n23, rfl⟩
theorem rep_lits {w : World} {S : PSet} (l : List Value) : RepP w S (.agg (l.map .lit)) (.agg l.toArray) := .agg _ _ (by simp) fun i hi => by
 simp only [List.getElem_map, List.getElem_toArray]
 exact .lit _
theorem law_calls {W : World} (ht : Tab W) {th : Bool} {kd nm : Int} {ns : List Int} {x : Int} (hk : 0 <= kd) (hn : 0 <= nm) (hl : ns.length = 24) (hb : ∀ n, n ∈ ns -> -128 <= n /\ n <= 127) (hx : 0 <= x /\ x <= 255) :
  Calls Tryz.prog 9 #[.agg (.bool th :: .int .u8 kd :: .int .u8 nm :: ns.map (.int .i8)).toArray, .int .u8 x] W fun e W' => e = .returned (.bool true) /\ Below W.heap.size W W' := by
 obtain ⟨n0, n1, n2, n3, n4, n5, n6, n7, n8, n9, n10, n11, n12, n13, n14, n15, n16, n17, n18, n19, n20, n21, n22, n23, rfl⟩ := list24 hl
 have hp : Pure Tryz.prog W 9 [.agg ((.bool th :: .int .u8 kd :: .int .u8 nm :: [n0, n1, n2, n3, n4, n5, n6, n7, n8, n9, n10, n11, n12, n13, n14, n15, n16, n17, n18, n19, n20, n21, n22, n23].map (.int .i8)).map .lit), .lit (.int .u8 x)] (.one (.p (.lit (.bool true)))) :=
  pure_of (snd_all ht) fun K => by
   show Γ159 false 9 [.agg [xB th, xJ .u8 kd, xJ .u8 nm, xJ .i8 n0, xJ .i8 n1, xJ .i8 n2, xJ .i8 n3, xJ .i8 n4, xJ .i8 n5, xJ .i8 n6, xJ .i8 n7, xJ .i8 n8, xJ .i8 n9, xJ .i8 n10, xJ .i8 n11, xJ .i8 n12, xJ .i8 n13, xJ .i8 n14, xJ .i8 n15, xJ .i8 n16, xJ .i8 n17, xJ .i8 n18, xJ .i8 n19, xJ .i8 n20, xJ .i8 n21, xJ .i8 n22, xJ .i8 n23], xJ .u8 x] K = _
   rw [gΓ, l9 th hk hn (fun i hi => by
    match i, hi with
    | 0, _ => exact ⟨hb n0 (by simp), hb n1 (by simp), hb n2 (by simp)⟩
    | 1, _ => exact ⟨hb n3 (by simp), hb n4 (by simp), hb n5 (by simp)⟩
    | 2, _ => exact ⟨hb n6 (by simp), hb n7 (by simp), hb n8 (by simp)⟩
    | 3, _ => exact ⟨hb n9 (by simp), hb n10 (by simp), hb n11 (by simp)⟩
    | 4, _ => exact ⟨hb n12 (by simp), hb n13 (by simp), hb n14 (by simp)⟩
    | 5, _ => exact ⟨hb n15 (by simp), hb n16 (by simp), hb n17 (by simp)⟩
    | 6, _ => exact ⟨hb n18 (by simp), hb n19 (by simp), hb n20 (by simp)⟩
    | 7, _ => exact ⟨hb n21 (by simp), hb n22 (by simp), hb n23 (by simp)⟩) hx]
 refine (hp.2 W (fun _ _ => False) #[_, .int .u8 x] (Below.refl _ _) (fun _ _ h => h.elim) rfl (fun i hi => ?_)).mono ?_
 ·simp only [List.length_cons, List.length_nil] at hi
  rcases i with _ | _ | i
  ·exact rep_lits (.bool th :: .int .u8 kd :: .int .u8 nm :: [n0, n1, n2, n3, n4, n5, n6, n7, n8, n9, n10, n11, n12, n13, n14, n15, n16, n17, n18, n19, n20, n21, n22, n23].map (.int .i8))
  ·exact .lit _
  ·omega
 ·rintro e w' ⟨v, S', rfl, h1, _, _, _, h2⟩
  have h2 : RepP w' S' (.lit (.bool true)) v := h2
  rw [repP_lit h2]
  exact ⟨rfl, h1⟩
theorem lifted (os : Os) (started : os.Started) (H : Type) (enc : TypeId × Value -> H) :
  ReturnsInHanded {} Tryz.checked os 9 .any (fun w args => (Rows.classSizesSpec.pre enc Tryz.prog Tryz.f9 [] false w args /\ laidMetH Tryz.prog laid5 w) /\ sizedMet enc Tryz.prog Tryz.f9 (OpenSpec.ofChange Rows.classSizesSpec) false w args)
   (Rows.classSizesSpec.post enc Tryz.prog Tryz.f9 false true false false) := by
 refine returnsInHanded_of_change_and (C := Tryz.checked) (X := fun w _ => laidMetH Tryz.prog laid5 w) (fun _ _ _ hh h => h.of_heap hh) ownK started (by kernel_rfl) Tryz.func9
  (ChangeSpec.witness_shaped (enc := enc) (C := Tryz.checked) (os := os) (X := fun w _ => laidMetH Tryz.prog laid5 w) false (World.doorLaid Tryz.prog 62 os) #[.agg #[.bool false, .int .u8 0, .int .u8 0, .int .i8 0, .int .i8 0, .int .i8 0, .int .i8 0, .int .i8 0, .int .i8 0, .int .i8 0, .int .i8 0, .int .i8 0, .int .i8 0, .int .i8 0, .int .i8 0, .int .i8 0, .int .i8 0, .int .i8 0, .int .i8 0, .int .i8 0, .int .i8 0, .int .i8 0, .int .i8 0, .int .i8 0, .int .i8 0, .int .i8 0, .int .i8 0], .int .u8 0] 8 rfl (World.shaped_of_RefB (by kernel_rfl) (by kernel_rfl)) (by kernel_rfl) (by kernel_rfl) (by kernel_rfl) (door_met os _)) ?_
 intro W base args ds gs before hval0 hW _ _ hL _
 have hval : ∀ (j : Nat) t v, Tryz.f9.params[j]? = some t -> args[j]? = some v -> Value.okWide Tryz.prog W .any base t v := hval0
 have hW' := hW
 obtain ⟨p, q, hA0, hV, rfl, hfz, hnd⟩ := hW
 have hA : DataW.TrodAll enc Tryz.prog W 0 (fun _ => true) true Tryz.f9.params.toList args.toList ds p := hA0
 rw [Tryz.params9] at hA hval
 obtain ⟨v0, v1, d0, d1, p0, p1, rfl, rfl, rfl, h0, h1⟩ := trodAll_two hA
 obtain ⟨rfl, rfl⟩ := trodVars_none hV
 obtain ⟨th, kd, nm, ns, rfl, hk, hn, hl, hb⟩ := world_open (hval 0 26 v0 rfl rfl) h0
 obtain ⟨x, rfl, rfl, rfl, wx⟩ := open_int Tryz.underlying5 (hval 1 5 v1 rfl rfl) h1
 clear hA0 hval0
 simp only [List.append_nil] at hW'
 have hlt : ∀ x ∈ p0, x.block < W.heap.size := fun x hx => by simpa using hW'.lt x (by simpa using hx)
 refine (law_calls (tab_of_laid hL) hk hn hl hb (bounds_u8 wx)).mono fun e W' ⟨he, hB⟩ => ?_
 subst he
 exact ⟨_, rfl, _, _, _, [], _, [], hW', trodAll_mk1 (shut_bool Tryz.underlying4 true), trodAll_mk2 (Below.trod (show laidOutB Tryz.prog = true by kernel_rfl) (by kernel_rfl) (of_decide_eq_true (by kernel_rfl)) h0 hB hlt) (shut_int Tryz.underlying5 wx), rfl, hB.frame _, fun h => by cases h⟩
theorem classSizes_said : Rows.ClassSizesSaid :=
 OpenClaim.holds_of_wide 9 Tryz.f9 rfl rfl rfl rfl rfl rfl rfl ⟨rfl, rfl, rfl, rfl, rfl⟩ rfl rfl rfl rfl rfl (by kernel_rfl) Tryz.func9 (by kernel_rfl)
  (of_decide_eq_true (by kernel_rfl)) (by unfold Func.isWrapper; first | (rw [if_pos (by decide +kernel)]; kernel_rfl) | (rw [if_neg (by decide +kernel)]; exact ⟨rfl, rfl⟩))
  (fun os started H enc _ => lifted os started H enc)
theorem classSizes_card : Rows.ClassSizesCardSaid :=
 Claim7.holds_tied_plain_at .later [] [.data, .data, .data, .sentinel, .sentinel] true (true, "8066b70ae9237ca6cc4d483285894cec1f61ce83132adfaa1550370c8d1585aa") true
  classSizes_said (fun _ h => by cases h) (by kernel_rfl) (fun _ h => by cases h) classSizes_row_tie rfl ⟨rfl, rfl⟩ (by kernel_rfl) rfl
  (fun f fn hf hfn => by
   obtain rfl : f = 9 := Option.some.inj ((show Tryz.prog.funcNamed "schisma/schismalaw32.ClassSizes" = some 9 by kernel_rfl).symm.trans hf) |>.symm
   obtain rfl : fn = Tryz.f9 := (Option.some.inj (Tryz.func9.symm.trans hfn)).symm
   exact ⟨by kernel_rfl, fun j t ht => by
    rw [Tryz.params9] at ht
    have hm : t ∈ [26, 5] := by simpa using Array.mem_of_getElem? ht
    have hall : ([26, 5].all fun u => !Tryz.prog.wantsStandIn u) = true := by kernel_rfl
    exact (show Tryz.prog.wantsStandIn t = false by simpa using List.all_eq_true.1 hall t hm)⟩)
  (by kernel_rfl)
#print axioms classSizes_card
end Go.Proofs.YthgolelddficaaaGreatDoor
