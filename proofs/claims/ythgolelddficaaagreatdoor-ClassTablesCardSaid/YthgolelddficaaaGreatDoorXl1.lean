/- What the printed functions come to at small numbers, and the mathematics of scales and classes. No conditions but those of each -/
import Derived.Maps.RangeWalk
import Derived.Sort.KeysCollected
import Derived.Sort.OwnSorted
import Derived.OwnWalk
import Derived.StringKeys
import Derived.ChangeSame
import Derived.ChangeVars
import Derived.JoinedOf
import Derived.RowKitTokens
import Derived.LaidLaws
import Derived.LaidHandle
import Derived.Stop.Joined
import Derived.LaidMore
import Derived.OpenShut
import Derived.Lib.SmallJoins
import Derived.Lib.LaidTab
import Derived.ProofKit
import Derived.Maps.AppendAt
import Derived.Deep.OwnRows
import Derived.Test.YthgolelddficaaaGreatDoorRows
import Derived.Test.YthgolelddficaaaGreatDoorXl0
set_option linter.unusedVariables false
set_option linter.unusedSimpArgs false
namespace Go.Ev
open Go Go.RowKit
theorem l17 {a b : List Rat} (ha : SV a) (hb : SV b) (hl : a.length < 1000) (hl' : b.length < 1000) (K : Bool -> Bool) : Q17 (encS a) (encS b) K = K (decide (a = b)) := by
 rw [Q17_def]; unfold G17 L17_0_0
 rw [encS_len, encS_len]
 by_cases h : a.length = b.length
 ·have e0 : ((nI a.length) != (nI b.length)) = false := by rw [h]; simp
  rw [e0, cond_false]
  have key := any_loop (F := fun n i => LP17_0 (fun y7v => K y7v) (K true) n (encS a) (encS b) (i : Int)) (m := a.length) (p := fun i => !decide (a.getD i 0 = b.getD i 0))
   (R := fun _ => K false) (T := K false) (R' := K true) (fun i hi hp n => ?_) (fun _ _ => rfl) (fun i hi hp n => ?_) (fun n => ?_) fuel (fuel_gt (by omega))
  ·refine key.trans ?_
   by_cases he : a = b
   ·subst he
    have : ((List.range a.length).any fun i => !decide (a.getD i 0 = a.getD i 0)) = false := by simp
    rw [this, decide_eq_true rfl]; rfl
   ·have : ((List.range a.length).any fun i => !decide (a.getD i 0 = b.getD i 0)) = true := by
     cases hx : ((List.range a.length).any fun i => !decide (a.getD i 0 = b.getD i 0)) with
     | true => rfl
     | false =>
      rw [List.any_eq_false] at hx
      refine absurd (List.ext_getElem h fun i h1 h2 => ?_) he
      have := hx i (List.mem_range.2 h1)
      rw [List.getD_eq_getElem?_getD, List.getD_eq_getElem?_getD, List.getElem?_eq_getElem h1, List.getElem?_eq_getElem h2] at this
      simpa using this
    rw [this, decide_eq_false he]; rfl
  ·simp only [LP17_0, St17_0_0, encS_len, lt_nI hi, cond_true, ge0, gd_true, Int.toNat_natCast, get_encS' hi, get_encS' (v := b) (show i < b.length by omega), oOpt, oR_xQ]
   rw [SQ.eqs (ha _ (getD_memR hi)) (hb _ (getD_memR (by omega))), hp, cond_true]
  ·have hp : decide (a.getD i 0 = b.getD i 0) = true := by simpa using hp
   simp only [LP17_0, St17_0_0, encS_len, lt_nI hi, cond_true, ge0, gd_true, Int.toNat_natCast, get_encS' hi, get_encS' (v := b) (show i < b.length by omega), oOpt, oR_xQ]
   rw [SQ.eqs (ha _ (getD_memR hi)) (hb _ (getD_memR (by omega))), hp, Bool.not_true, cond_false, wI_succ (by omega)]
  ·simp only [LP17_0, St17_0_0, encS_len, lt_nI', cond_false]
 ·have e0 : ((nI a.length) != (nI b.length)) = true := by simp [nI]; omega
  rw [e0, cond_true, decide_eq_false (fun e => h (by rw [e]))]
theorem l122 (n : Int) (h : -1000000000000000000 < n /\ n < 1000000000000000000) (K : ByteArray -> Bool) : Q122 (itoaB n) K = K (itoaB (-n)) := by
 rw [Q122_def]; unfold G122
 rw [l151]
 by_cases hn : n < 0
 ·rw [decide_eq_true hn]
  show Q165 false _ _ = _
  rw [Q165_def]; unfold G165
  have : (n.natAbs : Int) = -n := by omega
  rw [this]; rfl
 ·rw [decide_eq_false hn]
  show Q165 true _ _ = _
  rw [Q165_def]; unfold G165
  rw [eq30 (by omega)]
  by_cases h0 : n = 0
  ·subst h0; rfl
  ·rw [decide_eq_false (by omega)]
   have hsz : decide (s_2d.size + (itoaB (n.natAbs : Int)).size <= 1099511627776) = true := by
    have := size_le18 (n := (n.natAbs : Int)) 
    have h2 : (itoaB (n.natAbs : Int)).size <= 18 := size_le18 (by omega)
    have h3 : s_2d.size = 1 := rfl
    simp; omega
   show gd _ _ = _
   rw [hsz, gd_true]
   have : s_2d ++ itoaB (n.natAbs : Int) = itoaB (-(n.natAbs : Int)) := itoaB_neg (by omega)
   rw [this]
   congr 2; omega
theorem l57 {a b : Rat} (ha : SQ a) (hb : SQ b) (K : ByteArray -> ByteArray -> Bool) : Q57 (itoaB a.num) (itoaB a.den) (itoaB b.num) (itoaB b.den) K = K (itoaB (a - b).num) (itoaB (a - b).den) := by
 have hbn := hb.1
 rw [Q57_def]; unfold G57
 rw [Q90_def]; unfold G90
 rw [l122 _ (by omega)]
 have hn := SQ_neg hb
 have := l89 ha hn K
 rw [Rat.neg_num, Rat.neg_den] at this
 rw [Rat.sub_eq_add_neg]
 exact this
section
variable {ps : List Int} {D : Nat} {notes : List (List Int)}
theorem l17z (hps : PsOk ps) (hD : 0 < D /\ D < 3000) {a b : List Int} (la : a.length = ps.length) (lb : b.length = ps.length) (ha : ZS 30000 a) (hb : ZS 30000 b) (K : Bool -> Bool) : Q17 (encZ D a) (encZ D b) K = K (decide (a = b)) := by
 have := hps.len
 rw [l17 (zR_SV (by omega) ha) (zR_SV (by omega) hb) (by simp; omega) (by simp; omega)]
 congr 1
 exact decide_eq_decide.2 ⟨fun e => zR_inj hD.1 e, fun e => by rw [e]⟩
theorem l56 (h : Sc ps D notes) {i : Nat} (hi : i <= 2 * notes.length) (K : List PVal -> Bool) : Q56 (encPs ps) (encZs D notes) (i : Int) K = K (encZ D (noteZ notes i)) := by
 have hne := h.ne
 have hle := h.len
 have hl := last_vec h
 rw [Q56_def]; unfold G56
 rw [Q88_def]; unfold G88
 rw [encZs_len]
 have e0 : ((nI notes.length) == 0) = false := beq_eq_false_iff_ne.2 (by simp [nI]; exact List.length_pos_iff.1 hne)
 have et : Int.tmod (i : Int) (nI notes.length) = ((i % notes.length : Nat) : Int) := (Int.ofNat_tmod i notes.length).symm
 have ed : Int.tdiv (i : Int) (nI notes.length) = ((i / notes.length : Nat) : Int) := (Int.ofNat_tdiv i notes.length).symm
 have hq : i / notes.length <= 2 := by
  have := Nat.div_le_div_right (c := notes.length) hi
  rw [Nat.mul_div_cancel _ hne] at this
  exact this
 have hm := Nat.mod_lt i hne
 have en : noteZ notes i = if i % notes.length = 0 then zscale (notes.getD (notes.length - 1) []) (i / notes.length : Nat) else zadd (zscale (notes.getD (notes.length - 1) []) (i / notes.length : Nat)) (notes.getD (i % notes.length - 1) []) := rfl
 rw [en]
 generalize i / notes.length = q at *
 generalize i % notes.length = r at *
 have hw1 : wI ((nI notes.length) - 1) = ((notes.length - 1 : Nat) : Int) := by
  show wI ((notes.length : Int) - 1) = _
  rw [wI_eq (by omega)]; omega
 rw [e0, et, ed, decide_eq_false (show ¬ (((r : Nat) : Int) < 0) by omega)]
 simp only [cond_false]
 rw [hw1, ge0, gd_true, Int.toNat_natCast, get_encZs (by omega)]
 simp only [oOpt, oSl]
 rw [wI_eq (by omega)]
 have h39 := l39 (n := ((q : Nat) : Int)) (d := 1) (by omega) (by omega) (by omega)
 refine (h39 _).trans ?_
 rw [mkRat1]
 have h38 := l38z h.psok h.dok (k := ((q : Nat) : Int)) hl.1 (hl.2.mono (by omega)) (by omega)
 refine (h38 _).trans ?_
 by_cases hz : r = 0
 ·rw [if_pos hz, hz]
  rfl
 ·rw [if_neg hz, decide_eq_true (show ((r : Nat) : Int) > 0 by omega), cond_true]
  have hw2 : wI (((r : Nat) : Int) - 1) = ((r - 1 : Nat) : Int) := by rw [wI_eq (by omega)]; omega
  rw [hw2, ge0, gd_true, Int.toNat_natCast, get_encZs (by omega)]
  simp only [oOpt, oSl]
  have hv := h.vec _ (getD_mem (l := notes) (i := r - 1) (by omega))
  have hsc : ZS 3000 (zscale (notes.getD (notes.length - 1) []) ((q : Nat) : Int)) := (hl.2.scale (m := 3) (by omega) (by omega)).mono (by omega)
  rw [l97z h.psok h.dok (by rw [zscale_len, hl.1]) hv.1 (hsc.mono (by omega)) (hv.2.mono (by omega))]
theorem l26 (h : Sc ps D notes) {c i : Nat} (hc : c <= notes.length) (hi : i < notes.length) (K : List PVal -> Bool) : Q26 (encPs ps) (encZs D notes) (i : Int) (c : Int) K = K (encZ D (dif notes c i)) := by
 have hne := h.ne
 have hle := h.len
 have hpl := h.psok.len
 have hD := h.dok
 rw [Q26_def]; unfold G26
 have ew : wI ((i : Int) + (c : Int)) = ((i + c : Nat) : Int) := by rw [wI_eq (by omega)]; simp
 rw [l56 h (by omega), ew, l56 h (by omega)]
 obtain ⟨a1, a2⟩ := noteZ_ok h (i := i + c) (by omega)
 obtain ⟨b1, b2⟩ := noteZ_ok h (i := i) (by omega)
 have e1 : zR D (dif notes c i) = vsub (zR D (noteZ notes (i + c))) (zR D (noteZ notes i)) := by rw [zR_sub hD.1]; rfl
 have sa : SV (zR D (noteZ notes (i + c))) := zR_SV (by omega) (a2.mono (by omega))
 have sb : SV (zR D (noteZ notes i)) := zR_SV (by omega) (b2.mono (by omega))
 have lab : (zR D (noteZ notes (i + c))).length = (zR D (noteZ notes i)).length := by rw [zR_len, zR_len, a1, b1]
 have la : (zR D (noteZ notes i)).length = ps.length := by rw [zR_len, b1]
 show L26_0_0 (K []) (fun y19v => (K y19v)) fuel (encS (zR D (noteZ notes i))) (encS (zR D (noteZ notes (i + c)))) 0 = K (encS (zR D (dif notes c i)))
 rw [e1]
 generalize zR D (noteZ notes (i + c)) = b at *
 generalize zR D (noteZ notes i) = a at *
 unfold L26_0_0
 have key := append_loop (A := fun n j => (LP26_0 (K []) (fun y19v => K y19v) n).1 (encS a) (encS b) j) (B := fun n j acc => (LP26_0 (K []) (fun y19v => K y19v) n).2 (encS a) (encS b) j acc)
  (m := a.length) (f := fun j => xQ (b.getD j 0 - a.getD j 0)) (R := fun acc => K acc) (by omega) (fun n => ?_) (fun j h0 hj n acc hacc => ?_) (fun n acc ha => ?_) fuel (fuel_gt (by omega))
 ·rw [show encS (vsub b a) = (List.range a.length).map fun j => xQ (b.getD j 0 - a.getD j 0) by
   apply List.ext_getElem
   ·simp [vsub, lab]
   ·intro j h1 h2
    have hj : j < a.length := by simpa using h2
    have hj' : j < b.length := by omega
    simp [vsub, hj, hj']]
  exact key
 ·have hm : decide ((0 : Int) < nI a.length) = true := lt_nI (i := 0) (by omega)
  simp only [LP26_0, St26_0_0]
  rw [encS_len, hm, cond_true, show ((0 : Int)).toNat = 0 from rfl, get_encS' (v := b) (by omega), get_encS' (v := a) (by omega)]
  show Q57 _ _ _ _ _ = _
  rw [l57 (sa _ (getD_memR (by omega))) (sb _ (getD_memR (by omega))), wI_eq (by omega)]
  rfl
 ·simp only [LP26_0, St26_0_1, encS_len, lt_nI hj, cond_true, ge0, gd_true, Int.toNat_natCast, get_encS' hj, get_encS' (v := b) (show j < b.length by omega), oOpt, oR_xQ]
  rw [l57 (sa _ (getD_memR (by omega))) (sb _ (getD_memR (by omega))), wI_succ (by omega)]
  simp only [maxE hacc (by omega), gd_true]
 ·simp only [LP26_0, St26_0_1, encS_len, lt_nI', cond_false]
end
end Go.Ev

namespace Go.Ev
open Go Go.RowKit
section
variable {ps : List Int} {D : Nat} {notes : List (List Int)}
theorem dif_cmp (h : Sc ps D notes) {c d : Nat} (hc : c <= notes.length) (hd : d <= notes.length) {x y : List Int} (hx : x ∈ (List.range notes.length).map (dif notes c)) (hy : y ∈ (List.range notes.length).map (dif notes d)) :
  (cmpZ ps (zsub x y) < 0 ↔ phi ps x < phi ps y) /\ (0 < cmpZ ps (zsub x y) ↔ phi ps y < phi ps x) /\ (phi ps x = phi ps y ↔ x = y) /\ (cmpZ ps (zsub x y) = 0 ↔ x = y) := by
 have ox := difs_ok h hc hx
 have oy := difs_ok h hd hy
 obtain ⟨i, hi, rfl⟩ := List.mem_map.1 hx
 obtain ⟨j, hj, rfl⟩ := List.mem_map.1 hy
 exact cmp_phi h.psok ox.1 oy.1 (h.dec c d i j hc hd (List.mem_range.1 hi) (List.mem_range.1 hj))
theorem sizesZ_sorted (h : Sc ps D notes) {c : Nat} (hc : c <= notes.length) : (sizesZ ps notes c).Pairwise (fun a b => phi ps a < phi ps b) := by
 unfold sizesZ
 refine strict_of _ (gsort_sorted _ fun a ha b hb => ?_) (gsort_nodup _ (dd_nodup _)) fun a ha b hb => ?_
 ·exact (dif_cmp h hc hc ((dd_mem _ _).1 ha) ((dd_mem _ _).1 hb)).1
 ·exact (dif_cmp h hc hc ((dd_mem _ _).1 ((gsort_mem _ _ _).1 ha)) ((dd_mem _ _).1 ((gsort_mem _ _ _).1 hb))).2.2.1.1
end
end Go.Ev

namespace Go.Ev
open Go Go.RowKit
section
variable {ps : List Int} {D : Nat} {notes : List (List Int)} {T : Nat -> List Int -> Prop}
theorem noteZ_T0 (F : Fam ps T) (hps : PsOk ps) (hn : 0 < notes.length) (hT : ∀ z, z ∈ notes -> T 1 z) (hlast : notes.getD (notes.length - 1) [] = octZ D ps) (i : Nat) : T 1 (noteZ notes i) := by
 unfold noteZ
 dsimp only
 rw [hlast]
 have h0 := octq_T (D := D) F hps (i / notes.length : Nat)
 split
 ·exact F.mono (by omega) h0
 ·refine F.add h0 (hT _ (getD_mem ?_))
  have := Nat.mod_lt i hn
  omega
end
def majorZ : List (List Int) := [[-3, 2], [-6, 4], [2, -1], [-1, 1], [-4, 3], [-7, 5], [1, 0]]
theorem major_Sc : Sc [2, 3] 1 majorZ := by
 have F := fam_B (ps := [2, 3]) (.inl rfl)
 have hT : ∀ z, z ∈ majorZ -> TB [2, 3] 1 z := by
  intro z hz
  simp only [majorZ, List.mem_cons, List.not_mem_nil, or_false] at hz
  rcases hz with rfl | rfl | rfl | rfl | rfl | rfl | rfl <;> exact ⟨rfl, by simp⟩
 have nT := noteZ_T0 (D := 1) F (.inl rfl) (by decide) hT rfl
 refine ⟨.inl rfl, by omega, by decide, by decide, ?_, fun c d i j _ _ _ _ => dec_T F (.inl rfl) (F.sub (nT _) (nT _)) (F.sub (nT _) (nT _)) (by omega), ?_⟩
 ·intro z hz
  simp only [majorZ, List.mem_cons, List.not_mem_nil, or_false] at hz
  rcases hz with rfl | rfl | rfl | rfl | rfl | rfl | rfl <;> exact ⟨rfl, by intro x hx; simp at hx; omega⟩
 ·intro i hi
  have h7 : majorZ.length = 7 := rfl
  rw [h7] at hi
  match i, hi with
  | 0, _ => exact ⟨.inr (.inr (by decide)), by decide⟩
  | 1, _ => exact ⟨.inr (.inr (by decide)), by decide⟩
  | 2, _ => exact ⟨.inr (.inr (by decide)), by decide⟩
  | 3, _ => exact ⟨.inr (.inr (by decide)), by decide⟩
  | 4, _ => exact ⟨.inr (.inr (by decide)), by decide⟩
  | 5, _ => exact ⟨.inr (.inr (by decide)), by decide⟩
  | 6, _ => exact ⟨.inr (.inr (by decide)), by decide⟩
theorem major_vars : varsZ [2, 3] majorZ = [2, 2, 2, 2, 2, 2] := by decide +kernel
theorem major_kind : kindZ [2, 3] majorZ = 2 := by decide +kernel
theorem major_const : constZ [2, 3] majorZ = Option.none := by decide +kernel
theorem major_ord : ordZ [2, 3] majorZ 1 = some 3 := by decide +kernel
theorem l33 (K : List PVal -> List PVal -> Bool) : Q33 K = K (encPs [2, 3]) (encZs 1 majorZ) := by
 have q : ∀ (a b : Int), -100 < a /\ a < 100 -> -100 < b /\ b < 100 -> ∀ K0 K1 : List PVal -> Bool, Q66 [xI a, xI b] K0 K1 = K1 (encZ 1 [a, b]) := by
  intro a b ha hb K0 K1
  exact l66 (l := [a, b]) (fun x hx => by simp at hx; omega) (by simp) (by simp) K0 K1
 rw [Q33_def]; unfold G33
 rw [q (-3) 2 (by omega) (by omega), q (-6) 4 (by omega) (by omega), q 2 (-1) (by omega) (by omega), q (-1) 1 (by omega) (by omega), q (-4) 3 (by omega) (by omega), q (-7) 5 (by omega) (by omega), q 1 0 (by omega) (by omega)]
 rfl
theorem l11 (K : Bool -> Bool) : Q11 K = K true := by
 rw [Q11_def]; unfold G11
 rw [l33, l13 major_Sc, l14 major_Sc, l20 major_Sc, major_ord]
 dsimp only
 rw [l18 major_Sc, major_const, major_vars, major_kind]
 rfl
end Go.Ev

namespace Go.Ev
open Go Go.RowKit
section
variable {ps : List Int} {D : Nat} {notes : List (List Int)}
end
end Go.Ev

namespace Go.Ev
open Go Go.RowKit
theorem itoa_byte {n : Int} {c : UInt8} (h : c ∈ Lib.itoa n) : c.toNat = 45 ∨ (48 <= c.toNat /\ c.toNat <= 57) := by
 unfold Lib.itoa at h
 split at h
 ·rcases List.mem_cons.1 h with rfl | h
  ·exact .inl rfl
  ·exact .inr (decDigits_dig _ _ h)
 ·exact .inr (decDigits_dig _ _ h)
theorem itoa_no {n : Int} {c : UInt8} (h : c.toNat = 32 ∨ c.toNat = 40 ∨ c.toNat = 41 ∨ c.toNat = 47 ∨ c.toNat = 94) : c ∉ Lib.itoa n := fun hm => by
 have := itoa_byte hm
 omega
theorem itoa_inj {n m : Int} (h1 : -1000000000000000000 < n) (h2 : n < 1000000000000000000) (h3 : -1000000000000000000 < m) (h4 : m < 1000000000000000000) (h : Lib.itoa n = Lib.itoa m) : n = m :=
 itoaB_inj h1 h2 h3 h4 (by unfold itoaB; rw [h])
theorem cut_inj {α : Type} {c : α} : ∀ {a b x y : List α}, c ∉ a -> c ∉ b -> a ++ c :: x = b ++ c :: y -> a = b /\ x = y
 | [], [], x, y, _, _, h => ⟨rfl, by simpa using h⟩
 | [], d :: b, x, y, _, hb, h => by
  simp only [List.nil_append, List.cons_append, List.cons.injEq] at h
  exact absurd h.1 (fun e => hb (by simp [e]))
 | d :: a, [], x, y, ha, _, h => by
  simp only [List.nil_append, List.cons_append, List.cons.injEq] at h
  exact absurd h.1.symm (fun e => ha (by simp [e]))
 | d :: a, e :: b, x, y, ha, hb, h => by
  simp only [List.cons_append, List.cons.injEq] at h
  obtain ⟨h1, h2⟩ := cut_inj (fun hm => ha (List.mem_cons_of_mem _ hm)) (fun hm => hb (List.mem_cons_of_mem _ hm)) h.2
  exact ⟨by rw [h.1, h1], h2⟩
def fracL (q : Rat) : List UInt8 := if q.den = 1 then Lib.itoa q.num else Lib.itoa q.num ++ 47 :: Lib.itoa q.den
def segL (p : Int) (q : Rat) : List UInt8 := if q = 1 then Lib.itoa p else if q.den = 1 /\ 0 < q.num then Lib.itoa p ++ 94 :: fracL q else Lib.itoa p ++ 94 :: (40 :: fracL q ++ [41])
def segsL (ps : List Int) (v : List Rat) : List (List UInt8) := ((ps.zip v).filter fun x => decide (x.2 ≠ 0)).map fun x => segL x.1 x.2
def txtL (ps : List Int) (v : List Rat) : List UInt8 := if segsL ps v = [] then [49] else joinL [32] (segsL ps v)
theorem frac_no {q : Rat} {c : UInt8} (h : c.toNat = 32 ∨ c.toNat = 40 ∨ c.toNat = 41 ∨ c.toNat = 94) : c ∉ fracL q := by
 have h1 : ∀ n : Int, c ∉ Lib.itoa n := fun n => itoa_no (by omega)
 have h2 : c ≠ 47 := by rintro rfl; revert h; decide
 unfold fracL
 split
 ·exact h1 _
 ·simp [h1, h2]
theorem frac_inj {q r : Rat} (hq : SQ q) (hr : SQ r) (h : fracL q = fracL r) : q = r := by
 obtain ⟨⟨a1, a2⟩, a3⟩ := hq
 obtain ⟨⟨b1, b2⟩, b3⟩ := hr
 have n47 : ∀ n : Int, (47 : UInt8) ∉ Lib.itoa n := fun n => itoa_no (by decide)
 unfold fracL at h
 by_cases hq1 : q.den = 1 <;> by_cases hr1 : r.den = 1
 ·rw [if_pos hq1, if_pos hr1] at h
  exact Rat.ext (itoa_inj (by omega) (by omega) (by omega) (by omega) h) (by omega)
 ·rw [if_pos hq1, if_neg hr1] at h
  exact absurd (show (47 : UInt8) ∈ Lib.itoa q.num by rw [h]; simp) (n47 _)
 ·rw [if_neg hq1, if_pos hr1] at h
  exact absurd (show (47 : UInt8) ∈ Lib.itoa r.num by rw [<- h]; simp) (n47 _)
 ·rw [if_neg hq1, if_neg hr1] at h
  obtain ⟨h1, h2⟩ := cut_inj (n47 _) (n47 _) h
  have e1 := itoa_inj (by omega) (by omega) (by omega) (by omega) h1
  have e2 := itoa_inj (by omega) (by omega) (by omega) (by omega) h2
  exact Rat.ext e1 (by omega)
theorem seg_inj {p p' : Int} {q r : Rat} (hp : 0 <= p /\ p < 1000) (hp' : 0 <= p' /\ p' < 1000) (hq : SQ q) (hr : SQ r) (h : segL p q = segL p' r) : p = p' /\ q = r := by
 have n94 : ∀ n : Int, (94 : UInt8) ∉ Lib.itoa n := fun n => itoa_no (by decide)
 have f40 : ∀ q : Rat, (40 : UInt8) ∉ fracL q := fun q => frac_no (by decide)
 have ip : ∀ {a b : List UInt8}, Lib.itoa p ++ 94 :: a = Lib.itoa p' ++ 94 :: b -> p = p' /\ a = b := fun h => by
  obtain ⟨h1, h2⟩ := cut_inj (n94 _) (n94 _) h
  exact ⟨itoa_inj (by omega) (by omega) (by omega) (by omega) h1, h2⟩
 unfold segL at h
 by_cases hq1 : q = 1 <;> by_cases hr1 : r = 1
 ·rw [if_pos hq1, if_pos hr1] at h
  exact ⟨itoa_inj (by omega) (by omega) (by omega) (by omega) h, by rw [hq1, hr1]⟩
 ·rw [if_pos hq1, if_neg hr1] at h
  exfalso
  split at h <;> exact n94 p (by rw [h]; simp)
 ·rw [if_neg hq1, if_pos hr1] at h
  exfalso
  split at h <;> exact n94 p' (by rw [<- h]; simp)
 ·rw [if_neg hq1, if_neg hr1] at h
  by_cases hq2 : q.den = 1 /\ 0 < q.num <;> by_cases hr2 : r.den = 1 /\ 0 < r.num
  ·rw [if_pos hq2, if_pos hr2] at h
   obtain ⟨h1, h2⟩ := ip h
   exact ⟨h1, frac_inj hq hr h2⟩
  ·rw [if_pos hq2, if_neg hr2] at h
   obtain ⟨h1, h2⟩ := ip h
   exact absurd (show (40 : UInt8) ∈ fracL q by rw [h2]; simp) (f40 _)
  ·rw [if_neg hq2, if_pos hr2] at h
   obtain ⟨h1, h2⟩ := ip h
   exact absurd (show (40 : UInt8) ∈ fracL r by rw [<- h2]; simp) (f40 _)
  ·rw [if_neg hq2, if_neg hr2] at h
   obtain ⟨h1, h2⟩ := ip h
   simp only [List.cons_append, List.cons.injEq, true_and, List.append_cancel_right_eq] at h2
   exact ⟨h1, frac_inj hq hr h2⟩
theorem seg_no {p : Int} {q : Rat} : (32 : UInt8) ∉ segL p q := by
 have h1 : ∀ n : Int, (32 : UInt8) ∉ Lib.itoa n := fun n => itoa_no (by decide)
 have h2 : (32 : UInt8) ∉ fracL q := frac_no (by decide)
 unfold segL
 split
 ·exact h1 _
 ·split <;> simp [h1, h2]
theorem join_inj {c : UInt8} : ∀ {l m : List (List UInt8)}, l ≠ [] -> m ≠ [] -> (∀ a, a ∈ l -> c ∉ a) -> (∀ a, a ∈ m -> c ∉ a) -> joinL [c] l = joinL [c] m -> l = m
 | [a], [b], _, _, _, _, h => by simpa [joinL] using h
 | [a], b :: b2 :: m, _, _, hl, _, h => by
  simp only [joinL] at h
  exact absurd (show c ∈ a by rw [h]; simp) (hl a (by simp))
 | a :: a2 :: l, [b], _, _, _, hm, h => by
  simp only [joinL] at h
  exact absurd (show c ∈ b by rw [<- h]; simp) (hm b (by simp))
 | a :: a2 :: l, b :: b2 :: m, _, _, hl, hm, h => by
  have e : ∀ (a a2 : List UInt8) l, joinL [c] (a :: a2 :: l) = a ++ c :: joinL [c] (a2 :: l) := fun a a2 l => by simp [joinL]
  rw [e, e] at h
  obtain ⟨h1, h2⟩ := cut_inj (hl a (by simp)) (hm b (by simp)) h
  rw [h1, join_inj (by simp) (by simp) (fun x hx => hl x (List.mem_cons_of_mem _ hx)) (fun x hx => hm x (List.mem_cons_of_mem _ hx)) h2]
 | [], _, h, _, _, _, _ => absurd rfl h
 | _ :: _, [], _, h, _, _, _ => absurd rfl h
theorem seg_head {p : Int} (hp : p = 2 ∨ p = 3 ∨ p = 5) {q : Rat} : ∃ c r, segL p q = c :: r /\ c ≠ 49 := by
 have h1 : ∃ c, Lib.itoa p = [c] /\ c ≠ 49 := by
  rcases hp with rfl | rfl | rfl
  ·exact ⟨50, by unfold Lib.itoa; rw [if_neg (by omega)]; rw [Lib.decDigits, dif_pos (by decide)]; rfl, by decide⟩
  ·exact ⟨51, by unfold Lib.itoa; rw [if_neg (by omega)]; rw [Lib.decDigits, dif_pos (by decide)]; rfl, by decide⟩
  ·exact ⟨53, by unfold Lib.itoa; rw [if_neg (by omega)]; rw [Lib.decDigits, dif_pos (by decide)]; rfl, by decide⟩
 obtain ⟨c, e, hc⟩ := h1
 unfold segL
 rw [e]
 split
 ·exact ⟨c, [], rfl, hc⟩
 ·split
  ·exact ⟨c, _, rfl, hc⟩
  ·exact ⟨c, _, rfl, hc⟩
theorem segs_vec : ∀ {ps : List Int} {v w : List Rat}, v.length = ps.length -> w.length = ps.length -> ps.Nodup -> (∀ p, p ∈ ps -> 0 <= p /\ p < 1000) -> SV v -> SV w -> segsL ps v = segsL ps w -> v = w
 | [], [], [], _, _, _, _, _, _, _ => rfl
 | p :: ps, x :: v, y :: w, hv, hw, hn, hp, sv, sw, h => by
  simp only [List.length_cons, Nat.add_right_cancel_iff] at hv hw
  obtain ⟨hn1, hn2⟩ := List.nodup_cons.1 hn
  have hp' : ∀ r, r ∈ ps -> 0 <= r /\ r < 1000 := fun r hr => hp r (by simp [hr])
  have sv' : SV v := fun q hq => sv q (by simp [hq])
  have sw' : SV w := fun q hq => sw q (by simp [hq])
  have h0 := hp p (by simp)
  have none : ∀ {u : List Rat} {z : Rat}, u.length = ps.length -> SV u -> SQ z -> segL p z ∉ segsL ps u := fun {u z} hu su hz hm => by
   unfold segsL at hm
   obtain ⟨⟨r, t⟩, hx, e⟩ := List.mem_map.1 hm
   have hx := (List.mem_filter.1 hx).1
   have hr := (List.of_mem_zip hx).1
   have ht := su t (List.of_mem_zip hx).2
   have := (seg_inj (hp' r hr) h0 ht hz e).1
   subst this
   exact hn1 hr
  have sx := sv x (by simp)
  have sy := sw y (by simp)
  have step : ∀ (z : Rat) (u : List Rat), segsL (p :: ps) (z :: u) = if z = 0 then segsL ps u else segL p z :: segsL ps u := fun z u => by
   unfold segsL
   by_cases hz : z = 0
   ·simp [hz]
   ·simp [hz]
  rw [step, step] at h
  by_cases hx : x = 0 <;> by_cases hy : y = 0
  ·rw [if_pos hx, if_pos hy] at h
   rw [hx, hy, segs_vec hv hw hn2 hp' sv' sw' h]
  ·rw [if_pos hx, if_neg hy] at h
   exact absurd (show segL p y ∈ segsL ps v by rw [h]; simp) (none hv sv' sy)
  ·rw [if_neg hx, if_pos hy] at h
   exact absurd (show segL p x ∈ segsL ps w by rw [<- h]; simp) (none hw sw' sx)
  ·rw [if_neg hx, if_neg hy] at h
   simp only [List.cons.injEq] at h
   rw [(seg_inj h0 h0 sx sy h.1).2, segs_vec hv hw hn2 hp' sv' sw' h.2]
 | [], _ :: _, _, h, _, _, _, _, _, _ => by simp at h
 | [], [], _ :: _, _, h, _, _, _, _, _ => by simp at h
 | _ :: _, [], _, h, _, _, _, _, _, _ => by simp at h
 | _ :: _, _ :: _, [], _, h, _, _, _, _, _ => by simp at h
theorem txt_inj {ps : List Int} (hps : PsOk ps) {v w : List Rat} (hv : v.length = ps.length) (hw : w.length = ps.length) (sv : SV v) (sw : SV w) (h : txtL ps v = txtL ps w) : v = w := by
 have hn : ps.Nodup := by rcases hps with rfl | rfl <;> decide
 have hp : ∀ p, p ∈ ps -> 0 <= p /\ p < 1000 := fun p hp => by rcases hps.mem p hp with rfl | rfl | rfl <;> omega
 refine segs_vec hv hw hn hp sv sw ?_
 have no : ∀ (u : List Rat) a, a ∈ segsL ps u -> (32 : UInt8) ∉ a := fun u a ha => by
  unfold segsL at ha
  obtain ⟨x, _, rfl⟩ := List.mem_map.1 ha
  exact seg_no
 have hd : ∀ (u : List Rat), segsL ps u ≠ [] -> joinL [32] (segsL ps u) ≠ [49] := fun u hu => by
  cases he : segsL ps u with
  | nil => exact absurd he hu
  | cons a r =>
   have ha : a ∈ segsL ps u := by rw [he]; simp
   unfold segsL at ha
   obtain ⟨⟨p, q⟩, hx, rfl⟩ := List.mem_map.1 ha
   have hx := (List.mem_filter.1 hx).1
   obtain ⟨c, t, e, hc⟩ := seg_head (hps.mem p (List.of_mem_zip hx).1) (q := q)
   intro h
   dsimp only at h
   rw [e] at h
   cases r with
   | nil => simp only [joinL, List.cons.injEq] at h; exact hc h.1
   | cons b r => simp only [joinL, List.cons_append, List.cons.injEq] at h; exact hc h.1
 unfold txtL at h
 by_cases h1 : segsL ps v = [] <;> by_cases h2 : segsL ps w = []
 ·rw [h1, h2]
 ·rw [if_pos h1, if_neg h2] at h
  exact absurd h.symm (hd w h2)
 ·rw [if_neg h1, if_pos h2] at h
  exact absurd h (hd v h1)
 ·rw [if_neg h1, if_neg h2] at h
  exact join_inj h1 h2 (no v) (no w) h
end Go.Ev

namespace Go.Ev
open Go Go.RowKit Go.Proofs
theorem pure_of {P : Program} {W0 : World} {Γ : Oracle} (hΓ : SoundΓ P W0 Γ) {f : Nat} {args : List PVal} {r : RRes} (h : ∀ K, Γ false f args K = K r) : Pure P W0 f args r := by
 obtain ⟨r', hd, hk⟩ := hΓ false f args (fun x => @decide (x = r) (Classical.propDecidable _)) (by rw [h]; simp)
 have : r' = r := by simpa using hk
 subst this
 exact hd
theorem lits_rep {w : World} {S : PSet} {l : List Value} : ∀ i (hi : i < (l.map PVal.lit).length) (hs : l.toArray.size = (l.map PVal.lit).length), RepP w S (l.map PVal.lit)[i] (l.toArray[i]'(hs ▸ hi)) := fun i hi hs => by
 simp only [List.getElem_map, List.getElem_toArray]
 exact .lit _
theorem Pure.lits2 {P : Program} {W0 : World} {f : Nat} {l : List Value} {a b : Value} (h : Pure P W0 f (l.map .lit) (.tup [.p (.lit a), .p (.lit b)])) {w : World} (hb : Below W0.heap.size W0 w) :
  Calls P f l.toArray w fun e w' => e = .returned (.tuple #[a, b]) /\ Below w.heap.size w w' := by
 refine (h.2 w (fun _ _ => False) l.toArray hb (fun _ _ h => h.elim) (by simp) (fun i hi => lits_rep i hi (by simp))).mono ?_
 rintro e w' ⟨v, S', rfl, h1, _, _, _, us, rfl, hs, h2, _⟩
 refine ⟨?_, h1⟩
 have e0 := repP_lit (h2 0 (by simp))
 have e1 := repP_lit (h2 1 (by simp))
 congr 2
 apply Array.ext
 ·simpa using hs
 ·intro i h1 h2
  simp only [List.size_toArray, List.length_cons, List.length_nil] at h2
  rcases i with _ | _ | i
  ·exact e0
  ·exact e1
  ·omega
def sqF (n : Int) : Int := IntKind.u64.wrap (BitVec.ofInt 64 (IntKind.u64.wrap (n * n / 18446744073709551616 * 2 ^ 2)) ||| BitVec.ofInt 64 (Int.fdiv (n * n % 18446744073709551616) (2 ^ 62))).toNat
def stF (s : Int × Int × Int) : Int × Int × Int :=
 if sqF s.1 >= 9223372036854775808 then (Int.fdiv (sqF s.1) (2 ^ 1), IntKind.u64.wrap ((Int.fdiv (IntKind.u64.wrap (sqF s.2.1 + 1)) (2 ^ 1)) + 1), IntKind.i64.wrap (IntKind.i64.wrap (s.2.2 * 2) + 1))
 else (sqF s.1, IntKind.u64.wrap (sqF s.2.1 + 1), IntKind.i64.wrap (s.2.2 * 2))
def itF (s : Int × Int × Int) : Nat -> Int × Int × Int
 | 0 => s
 | n + 1 => stF (itF s n)
def okF (s : Int × Int × Int) : Bool := decide (0 <= s.1) && decide (s.1 < 18446744073709551616) && decide (0 <= s.2.1) && decide (s.2.1 < 18446744073709551616) && (decide (sqF s.1 >= 9223372036854775808) || !decide (IntKind.u64.wrap (sqF s.2.1 + 1) >= 9223372036854775808))
theorem st223 {r0 : Int -> Int -> Int -> Int -> Bool} {e0 : Int -> Bool -> Bool} {e1 : Int -> Bool} {s : Int × Int × Int} (h : okF s = true) {i : Int} (hi : i < 26) :
  St223_0_0 r0 e0 e1 s.1 s.2.1 s.2.2 i = r0 (stF s).1 (stF s).2.1 (stF s).2.2 (wI (i + 1)) := by
 obtain ⟨a, b, c⟩ := s
 unfold okF at h
 simp only [Bool.and_eq_true, decide_eq_true_eq] at h
 obtain ⟨⟨⟨⟨h1, h2⟩, h3⟩, h4⟩, h5⟩ := h
 have q : ∀ (n : Int), 0 <= n -> n < 18446744073709551616 -> ∀ K : Int -> Int -> Bool, H235 n n K = K (n * n / 18446744073709551616) (n * n % 18446744073709551616) := fun n k1 k2 K => by
  rw [H235_def]; unfold D235; simp [k1, k2]
 unfold St223_0_0
 rw [decide_eq_true hi, cond_true, q a h1 h2, q b h3 h4]
 unfold stF
 by_cases hg : sqF a >= 9223372036854775808
 ·rw [if_pos hg]
  show (bif decide (sqF a >= 9223372036854775808) then _ else _) = _
  rw [decide_eq_true hg]; rfl
 ·rw [if_neg hg]
  show (bif decide (sqF a >= 9223372036854775808) then _ else (bif decide (IntKind.u64.wrap (sqF b + 1) >= 9223372036854775808) then _ else _)) = _
  rw [decide_eq_false hg] at h5 ⊢
  simp only [Bool.false_or, Bool.not_eq_true'] at h5
  rw [h5]; rfl
theorem lp223 {e0 : Int -> Bool -> Bool} {e1 : Int -> Bool} {s : Int × Int × Int} (h : (List.range 26).all (fun i => okF (itF s i)) = true) : LP223_0 e0 e1 fuel s.1 s.2.1 s.2.2 0 = e1 (itF s 26).2.2 := by
 have h' : ∀ i, i < 26 -> okF (itF s i) = true := fun i hi => List.all_eq_true.1 h i (List.mem_range.2 hi)
 refine loop_iter (fun n (i : Nat) => LP223_0 e0 e1 n (itF s i).1 (itF s i).2.1 (itF s i).2.2 (i : Int)) 26 (fun i => i) (fun i hi n => ?_) (fun n => ?_) fuel (fuel_gt (by omega))
 ·show St223_0_0 _ e0 e1 _ _ _ _ = _
  rw [st223 (h' i hi) (by omega), wI_succ (by omega)]
  rfl
 ·show St223_0_0 _ e0 e1 _ _ _ _ = _
  unfold St223_0_0
  rw [show decide (((26 : Nat) : Int) < 26) = false by decide, cond_false]
theorem l223 {p : Int} (hp : p = 2 ∨ p = 3 ∨ p = 5) (K : Int -> Bool -> Bool) : Q223 p K = K (logc p) true := by
 have q : ∀ (n : Int), 0 <= n -> n < 18446744073709551616 -> ∀ K : Int -> Bool, H99 n K = K (Lib.bitLen n.toNat : Nat) := fun n k1 k2 K => by
  rw [H99_def]; unfold D99; simp [k1, k2]
 rw [Q223_def]; unfold G223 L223_0_0
 rcases hp with rfl | rfl | rfl
 ·rw [wU_eq (by omega), q _ (by omega) (by omega)]
  have e : Lib.bitLen (2 : Int).toNat = 2 := by decide +kernel
  rw [e]
  have := lp223 (e0 := fun y6v y7v => K y6v y7v) (e1 := fun y8v => K y8v true) (s := (4611686018427387904, 4611686018427387904, 1)) (by decide +kernel)
  have f : (itF (4611686018427387904, 4611686018427387904, 1) 26).2.2 = logc 2 := by decide +kernel
  rw [f] at this
  exact this
 ·rw [wU_eq (by omega), q _ (by omega) (by omega)]
  have e : Lib.bitLen (3 : Int).toNat = 2 := by decide +kernel
  rw [e]
  have := lp223 (e0 := fun y6v y7v => K y6v y7v) (e1 := fun y8v => K y8v true) (s := (6917529027641081856, 6917529027641081856, 1)) (by decide +kernel)
  have f : (itF (6917529027641081856, 6917529027641081856, 1) 26).2.2 = logc 3 := by decide +kernel
  rw [f] at this
  exact this
 ·rw [wU_eq (by omega), q _ (by omega) (by omega)]
  have e : Lib.bitLen (5 : Int).toNat = 3 := by decide +kernel
  rw [e]
  have := lp223 (e0 := fun y6v y7v => K y6v y7v) (e1 := fun y8v => K y8v true) (s := (5764607523034234880, 5764607523034234880, 2)) (by decide +kernel)
  have f : (itF (5764607523034234880, 5764607523034234880, 2) 26).2.2 = logc 5 := by decide +kernel
  rw [f] at this
  exact this
theorem l205 {n : Int} (h1 : -1000000000000000000 < n) (h2 : n < 1000000000000000000) (X : Int -> Bool -> Bool) : Q205 (itoaB n) X = X n true := by
 rw [Q205_def]; unfold G205; rw [H233_num h1 h2]
theorem dec191_some : ∀ {ps fs : List PVal} {l : List (Int × Int)}, dec191 ps fs = some l -> ps = encP l /\ fs = encF l /\ ∀ x, x ∈ l -> (x.1 = 2 ∨ x.1 = 3 ∨ x.1 = 5) /\ -10000000 <= x.2 /\ x.2 <= 10000000
 | [], [], l, h => by
  simp only [dec191, Option.some.injEq] at h
  subst h
  exact ⟨rfl, rfl, fun x hx => by cases hx⟩
 | p :: ps, f :: fs, l, h => by
  unfold dec191 at h
  split at h
  ·next heq _ => cases heq
  ·next p' ps' s fs' e1 e2 =>
   cases e1; cases e2
   split at h
   ·next k l' hk hl' =>
    split at h
    ·next hc =>
     simp only [Option.some.injEq] at h
     subst h
     obtain ⟨i1, i2, i3⟩ := dec191_some hl'
     refine ⟨by rw [i1]; rfl, by rw [i2, (numOf_some hk).2.2]; rfl, fun x hx => ?_⟩
     rcases List.mem_cons.1 hx with rfl | hx
     ·exact hc
     ·exact i3 x hx
    ·cases h
   ·cases h
  ·cases h
 | [], _ :: _, l, h => by simp [dec191] at h
 | _ :: _, [], l, h => by simp [dec191] at h
theorem row_at {w : World} {S : PSet} {es : List PVal} {v : Value} {g : Nat -> Value} (h : RepP w S (.sl es) v) (hlt : ∀ b o, S b o -> b < w.heap.size) (hg : ∀ j (hj : j < es.length), es[j] = .lit (g j)) (hc : ∀ j, j < es.length -> (g j).cells = #[g j]) :
  RowAt w.heap.size w v es.length g /\ v.oneCell' = true := by
 cases h with
 | nil => exact ⟨.inl ⟨rfl, rfl⟩, rfl⟩
 | sl _ b o cap k V hcap hV hrow =>
  refine ⟨.inr ⟨b, o, cap, rfl, fun h0 => ?_, fun j hj => ?_⟩, rfl⟩
  ·have h1 := hrow 0 h0
   have hk : 0 < k := by
    have hv := hV 0 h0
    rw [hg 0 h0] at hv
    have := repP_lit hv
    rw [this, hc 0 h0] at h1
    have := h1.1
    simp at this
    omega
   exact hlt _ _ (h1.2 0 hk).1
  ·have hv := hV j hj
   rw [hg j hj] at hv
   have hv := repP_lit hv
   obtain ⟨h1, h2⟩ := hrow j hj
   rw [hv, hc j hj] at h1
   have hk : k = 1 := by simpa using h1.symm
   subst hk
   obtain ⟨_, u, h3, _, h5⟩ := h2 0 (by omega)
   rw [hv, hc j hj] at h3
   have : u = g j := by simpa using h3.symm
   rw [this] at h5
   simpa using h5
theorem args2 {w : World} {S : PSet} {vs : Array Value} {p0 p1 : PVal} (hs : vs.size = [p0, p1].length) (hr : ∀ i (hi : i < [p0, p1].length), RepP w S [p0, p1][i] (vs[i]'(hs ▸ hi))) :
  ∃ v0 v1, vs = #[v0, v1] /\ RepP w S p0 v0 /\ RepP w S p1 v1 := by
 have h2 : vs.size = 2 := by simpa using hs
 refine ⟨vs[0], vs[1], ?_, hr 0 (by simp), hr 1 (by simp)⟩
 apply Array.ext
 ·simpa using h2
 ·intro i h1 h3
  simp only [List.size_toArray, List.length_cons, List.length_nil] at h3
  rcases i with _ | _ | i
  ·rfl
  ·rfl
  ·omega
theorem agg3 {w : World} {S : PSet} {p0 p1 p2 : PVal} {v : Value} (h : RepP w S (.agg [p0, p1, p2]) v) : ∃ u0 u1 u2, v = .agg #[u0, u1, u2] /\ RepP w S p0 u0 /\ RepP w S p1 u1 /\ RepP w S p2 u2 := by
 cases h with
 | agg cs us hsz hcs =>
  have h3 : us.size = 3 := by simpa using hsz
  refine ⟨us[0], us[1], us[2], ?_, hcs 0 (by simp), hcs 1 (by simp), hcs 2 (by simp)⟩
  congr 1
  apply Array.ext
  ·simpa using h3
  ·intro i h1 h2
   simp only [List.size_toArray, List.length_cons, List.length_nil] at h2
   rcases i with _ | _ | _ | i
   ·rfl
   ·rfl
   ·rfl
   ·omega
theorem g205Γ (k : Int) (K : RRes -> Bool) : Γ64 false 205 ([Value.string (itoaB k)].map PVal.lit) K = Q205 (itoaB k) (fun z0_0 z1_0 => K (.tup [(.p (xI z0_0)), (.p (xB z1_0))])) := by kernel_rfl
theorem g223Γ (k : Int) (K : RRes -> Bool) : Γ64 false 223 ([Value.int .i64 k].map PVal.lit) K = Q223 k (fun z0_0 z1_0 => K (.tup [(.p (xI z0_0)), (.p (xB z1_0))])) := by kernel_rfl
theorem pure205 {W0 : World} (hΓ : SoundΓ Tryz.prog W0 Γ64) {k : Int} (h1 : -1000000000000000000 < k) (h2 : k < 1000000000000000000) : Pure Tryz.prog W0 205 ([Value.string (itoaB k)].map PVal.lit) (.tup [.p (.lit (.int .i64 k)), .p (.lit (.bool true))]) :=
 pure_of hΓ fun K => by rw [g205Γ, l205 h1 h2]
theorem pure223 {W0 : World} (hΓ : SoundΓ Tryz.prog W0 Γ64) {p : Int} (hp : p = 2 ∨ p = 3 ∨ p = 5) : Pure Tryz.prog W0 223 ([Value.int .i64 p].map PVal.lit) (.tup [.p (.lit (.int .i64 (logc p))), .p (.lit (.bool true))]) :=
 pure_of hΓ fun K => by rw [g223Γ, l223 hp]
theorem hand191 {W0 : World} (hΓ : SoundΓ Tryz.prog W0 Γ64) : Hand191 W0 := fun ps fs den most K h => by
 rw [H191_def] at h; unfold D191 at h
 split at h
 ·next l hl =>
  obtain ⟨rfl, rfl, hbd⟩ := dec191_some hl
  by_cases hb : (l.all (fun x => decide (-most <= x.2) && decide (x.2 <= most)) && decide (l.length <= 6) && decide (0 <= most) && decide (most <= 10000000)) = true
  ·rw [hb, cond_true] at h
   simp only [Bool.and_eq_true, List.all_eq_true, decide_eq_true_eq] at hb
   obtain ⟨⟨⟨hb1, hb2⟩, hb3⟩, hb4⟩ := hb
   refine ⟨_, ⟨enters Tryz.func191 (by kernel_rfl) (by kernel_rfl), fun w S vs hbw hlt hs hr => ?_⟩, h⟩
   obtain ⟨v0, v1, rfl, r0, r1⟩ := args2 hs hr
   obtain ⟨sp, sf, u2, rfl, u0, u1, u2'⟩ := agg3 r0
   obtain rfl := repP_lit r1
   obtain rfl := repP_lit u2'
   have dflt : ((2 : Int) = 2 ∨ (2 : Int) = 3 ∨ (2 : Int) = 5) /\ (-most <= 0 /\ (0 : Int) <= most) /\ (-10000000 <= (0 : Int) /\ (0 : Int) <= 10000000) := by omega
   let f : Nat -> PF most := fun j => if hj : j < l.length then ⟨l[j], (hbd l[j] (List.getElem_mem hj)).1, hb1 l[j] (List.getElem_mem hj), (hbd l[j] (List.getElem_mem hj)).2⟩ else ⟨(2, 0), dflt⟩
   have hf : ∀ j (hj : j < l.length), (f j).1 = l[j] := fun j hj => congrArg Subtype.val (show f j = _ from dif_pos hj)
   have hp : pairs (uptoF f l.length) = l := by
    apply List.ext_getElem
    ·simp [pairs, uptoF]
    ·intro j h1 h2
     simp only [pairs, uptoF, List.map_map, List.getElem_map, List.getElem_range, Function.comp]
     exact hf j h2
   have ra := row_at (g := fun j => .int .i64 (f j).1.1) u0 hlt (fun j hj => by
    have hj' : j < l.length := by simpa using hj
    simp only [List.getElem_map, hf j hj']) (fun j hj => rfl)
   have rb := row_at (g := fun j => .string (itoaB (f j).1.2)) u1 hlt (fun j hj => by
    have hj' : j < l.length := by simpa using hj
    simp only [List.getElem_map, hf j hj']) (fun j hj => rfl)
   simp only [List.length_map] at ra rb
   have key := near_any (most := most) ⟨hb3, hb4⟩ sp sf den l.length hb2 f ra.2 rb.2 w ra.1 rb.1
    (fun k k1 k2 W hW => (pure205 hΓ (k := k) (by omega) (by omega)).lits2 (hbw.trans (hW.mono hbw.size)))
    (fun p hp W hW => (pure223 hΓ hp).lits2 (hbw.trans (hW.mono hbw.size)))
   rw [hp] at key
   refine key.mono ?_
   rintro e w' ⟨rfl, hB⟩
   refine ⟨_, S, rfl, hB, fun _ _ h => h, fun _ _ h => .inl h, fun b o h => Nat.lt_of_lt_of_le (hlt b o h) hB.size, _, rfl, rfl, fun i hi => ?_, fun i j hi hj h1 => ?_⟩
   ·simp only [List.length_cons, List.length_nil] at hi
    rcases i with _ | _ | _ | i
    ·exact .lit _
    ·exact .lit _
    ·exact .lit _
    ·omega
   ·simp only [List.length_cons, List.length_nil] at hi
    rcases i with _ | _ | _ | i
    ·cases h1
    ·cases h1
    ·cases h1
    ·omega
  ·rw [Bool.not_eq_true] at hb
   rw [hb] at h; cases h
 ·cases h
end Go.Ev

namespace Go.Ev
open Go Go.RowKit
abbrev bL (l : List UInt8) : ByteArray := ⟨l.toArray⟩
theorem bL_append (a b : List UInt8) : bL a ++ bL b = bL (a ++ b) := by
 apply ByteArray.ext
 apply Array.toList_inj.1
 simp [ByteArray.data_append]
theorem bL_size (a : List UInt8) : (bL a).size = a.length := by simp [bL, ByteArray.size]
theorem itoaB_bL (n : Int) : itoaB n = bL (Lib.itoa n) := rfl
theorem itoa_len {n : Int} (h1 : -1000000000000000000 < n) (h2 : n < 1000000000000000000) : (Lib.itoa n).length <= 19 := by
 have := itoaB_size h1 h2
 rw [itoaB_bL, bL_size] at this
 exact this
theorem frac_len {q : Rat} (hq : SQ q) : (fracL q).length <= 39 := by
 obtain ⟨⟨a1, a2⟩, a3⟩ := hq
 have h1 := itoa_len (n := q.num) (by omega) (by omega)
 have h2 := itoa_len (n := (q.den : Int)) (by omega) (by omega)
 unfold fracL
 split
 ·omega
 ·simp only [List.length_append, List.length_cons]; omega
theorem gdE {n : Nat} (h : n <= 1000000000) (x : Bool) : gd (decide (n <= 1099511627776)) x = x := by
 rw [decide_eq_true (by omega), gd_true]
theorem l115 {q : Rat} (hq : SQ q) (K : ByteArray -> Bool) : Q115 (itoaB q.num) (itoaB q.den) K = K (bL (fracL q)) := by
 obtain ⟨⟨a1, a2⟩, a3⟩ := hq
 have h1 := itoa_len (n := q.num) (by omega) (by omega)
 have h2 := itoa_len (n := (q.den : Int)) (by omega) (by omega)
 have e : s_2f = bL [47] := rfl
 rw [Q115_def]; unfold G115
 rw [eq31 (by omega), e, itoaB_bL, itoaB_bL, bL_append, bL_append]
 unfold fracL
 by_cases hd : q.den = 1
 ·have : ((q.den : Int) = 1) := by omega
  rw [if_pos hd, decide_eq_true this, cond_true]
 ·have : ¬ ((q.den : Int) = 1) := by omega
  rw [if_neg hd, decide_eq_false this, cond_false]
  simp only [bL_size, List.length_append, List.length_cons, List.length_nil]
  rw [gdE (by omega), gdE (by omega)]
  simp
theorem seg_branch {p : Int} (hp : 0 <= p /\ p < 1000) {q : Rat} (hq : SQ q) (A : Bool) (R : ByteArray -> Bool) :
  (H112 p (fun z7v => (bif ((itoaB q.num).toList == s_30.toList) then A else (Q45 1 (fun z8v z9v => (bif (itoaB q.num == z8v && itoaB q.den == z9v) then (R z7v) else (bif ((itoaB q.den).toList == s_31.toList) then (Q106 (itoaB q.num) (fun z10v => (bif (decide (z10v > 0)) then (Q115 (itoaB q.num) (itoaB q.den) (fun z11v => (gd (decide (s_5e.size + z11v.size <= 1099511627776)) (gd (decide (z7v.size + (s_5e ++ z11v).size <= 1099511627776)) (R (z7v ++ (s_5e ++ z11v))))))) else (Q115 (itoaB q.num) (itoaB q.den) (fun z12v => (gd (decide (s_5e28.size + z12v.size <= 1099511627776)) (gd (decide ((s_5e28 ++ z12v).size + s_29.size <= 1099511627776)) (gd (decide (z7v.size + ((s_5e28 ++ z12v) ++ s_29).size <= 1099511627776)) (R (z7v ++ ((s_5e28 ++ z12v) ++ s_29))))))))))) else (Q115 (itoaB q.num) (itoaB q.den) (fun z13v => (gd (decide (s_5e28.size + z13v.size <= 1099511627776)) (gd (decide ((s_5e28 ++ z13v).size + s_29.size <= 1099511627776)) (gd (decide (z7v.size + ((s_5e28 ++ z13v) ++ s_29).size <= 1099511627776)) (R (z7v ++ ((s_5e28 ++ z13v) ++ s_29)))))))))))))))
   = if q = 0 then A else R (bL (segL p q)) := by
 obtain ⟨⟨a1, a2⟩, a3⟩ := hq
 have hq : SQ q := ⟨⟨a1, a2⟩, a3⟩
 have h0 := itoa_len (n := p) (by omega) (by omega)
 have hf := frac_len hq
 have e1 : s_5e = bL [94] := rfl
 have e2 : s_5e28 = bL [94, 40] := rfl
 have e3 : s_29 = bL [41] := rfl
 have e0 : ((itoaB q.num).toList == s_30.toList) = decide (q = 0) := by
  have := itoa_txt_ne hq
  simpa using congrArg (!·) this
 rw [H112_num (by omega), e0]
 by_cases hz : q = 0
 ·rw [decide_eq_true hz, cond_true, if_pos hz]
 ·rw [decide_eq_false hz, cond_false, if_neg hz, l45 (by omega)]
  have e4 : (itoaB q.num == itoaB 1 && itoaB q.den == itoaB 1) = decide (q = 1) := hq.eqs (r := 1) ⟨by decide, by decide⟩
  rw [e4]
  unfold segL
  by_cases h1 : q = 1
  ·rw [decide_eq_true h1, cond_true, if_pos h1]; rfl
  ·rw [decide_eq_false h1, cond_false, if_neg h1, eq31 (by omega), e1, e2, e3]
   simp only [l115 hq, itoaB_bL p, bL_append, bL_size, List.length_append, List.length_cons, List.length_nil]
   rw [gdE (by omega), gdE (by omega), gdE (by omega), gdE (by omega), gdE (by omega)]
   by_cases hd : q.den = 1
   ·have : ((q.den : Int) = 1) := by omega
    rw [decide_eq_true this, cond_true, l106 (by omega)]
    have hn0 : q.num ≠ 0 := fun e => hz (Rat.num_eq_zero.1 e)
    by_cases hn : 0 < q.num
    ·rw [if_neg hn0, if_neg (by omega), show decide ((1 : Int) > 0) = true by decide, cond_true, if_pos ⟨hd, hn⟩]
     rfl
    ·rw [if_neg hn0, if_pos (by omega), show decide ((-1 : Int) > 0) = false by decide, cond_false, if_neg (fun h => hn h.2)]
     simp
   ·have : ¬ ((q.den : Int) = 1) := by omega
    rw [decide_eq_false this, cond_false, if_neg (fun h => hd h.1)]
    simp
def sgU (z : List (Int × Rat)) (i : Nat) : List PVal := ((z.take i).filter fun x => decide (x.2 ≠ 0)).map fun x => xZ (bL (segL x.1 x.2))
theorem sgU_succ {z : List (Int × Rat)} {i : Nat} (h : i < z.length) : sgU z (i + 1) = if z[i].2 = 0 then sgU z i else sgU z i ++ [xZ (bL (segL z[i].1 z[i].2))] := by
 unfold sgU
 rw [List.take_add_one, List.getElem?_eq_getElem h, List.filter_append, List.map_append]
 by_cases h0 : z[i].2 = 0
 ·rw [if_pos h0]; simp [h0]
 ·rw [if_neg h0]; simp [h0]
theorem sgU_len (z : List (Int × Rat)) (i : Nat) : (sgU z i).length <= i := by
 unfold sgU
 rw [List.length_map]
 exact Nat.le_trans (List.length_filter_le _ _) (by rw [List.length_take]; omega)
theorem strs_map : ∀ (l : List (List UInt8)), strsOf (l.map fun s => xZ (bL s)) = some l
 | [] => rfl
 | a :: l => by
  show (strsOf (l.map fun s => xZ (bL s))).map _ = _
  rw [strs_map l]; rfl
theorem joinL_len (c : List UInt8) (hc : c.length = 1) {m : Nat} : ∀ (l : List (List UInt8)), (∀ a, a ∈ l -> a.length <= m) -> (joinL c l).length <= l.length * (m + 1)
 | [], _ => by simp [joinL]
 | [a], h => by have := h a (by simp); simp [joinL]; omega
 | a :: b :: l, h => by
  have h1 := h a (by simp)
  have h2 := joinL_len c hc (b :: l) (fun x hx => h x (by simp [hx]))
  simp only [joinL, List.length_append, List.length_cons] at h2 ⊢
  rw [hc, Nat.add_mul (l.length + 1) 1 (m + 1)]
  omega
theorem l86 {ps : List Int} (hps : PsOk ps) {v : List Rat} (hv : SV v) (hl : v.length = ps.length) (K : ByteArray -> Int -> Bool) : Q86 (encPs ps) (encS v) K = K (bL (txtL ps v)) 0 := by
 have hlen := hps.len
 have hpm := hps.mem
 rw [Q86_def]; unfold G86
 rw [l32 hps.pr hv (by simpa using hl)]
 rw [show ((0 : Int) != 0) = false by decide, cond_false, encS_len]
 unfold L86_0_0
 have hz : (ps.zip v).length = v.length := by rw [List.length_zip, hl, Nat.min_self]
 let F : Nat -> Nat -> Bool := fun n i => match sgU (ps.zip v) i with
  | [] => (LP86_0 (K s_31 0) (fun y26v => (bif ((nI y26v.length) == 0) then (K s_31 0) else (H116 y26v s_20 (fun z27v => (K z27v 0))))) n).1 (encPs ps) (encS v) (nI v.length) (i : Int)
  | a :: r => (LP86_0 (K s_31 0) (fun y26v => (bif ((nI y26v.length) == 0) then (K s_31 0) else (H116 y26v s_20 (fun z27v => (K z27v 0))))) n).2 (encPs ps) (encS v) (nI v.length) (i : Int) (a :: r)
 have key := loop_iter F v.length (fun i => i) (R := K (bL (txtL ps v)) 0) (fun i hi n => ?_) (fun n => ?_) fuel (fuel_gt (by omega))
 ·exact key
 ·have hzi : i < (ps.zip v).length := by omega
  have hpi : i < ps.length := by omega
  have ez : (ps.zip v)[i] = (ps[i], v[i]) := List.getElem_zip
  have hq : SQ v[i] := hv _ (List.getElem_mem hi)
  have hp : 0 <= ps[i] /\ ps[i] < 1000 := by rcases hpm _ (List.getElem_mem hpi) with e | e | e <;> rw [e] <;> omega
  have gp : (encPs ps)[i]? = some (xI ps[i]) := by simp [encPs, hpi]
  have hsl := sgU_len (ps.zip v) i
  have hs := sgU_succ hzi
  rw [ez] at hs
  dsimp only at hs
  show F (n + 1) i = F n (i + 1)
  simp only [F]
  rw [hs]
  cases hU : sgU (ps.zip v) i with
  | nil =>
   simp only [LP86_0, St86_0_0, lt_nI hi, cond_true, ge0, gd_true, Int.toNat_natCast, get_encS hi, gp, oOpt, oR_xQ, oInt_xI]
   rw [seg_branch hp hq _ (fun s => (LP86_0 _ _ n).2 (encPs ps) (encS v) (nI v.length) (wI ((i : Int) + 1)) [xZ s])]
   rw [wI_succ (by omega)]
   by_cases h0 : v[i] = 0
   ·rw [if_pos h0, if_pos h0]
   ·rw [if_neg h0, if_neg h0]; rfl
  | cons a r =>
   rw [hU] at hsl
   simp only [LP86_0, St86_0_1, lt_nI hi, cond_true, ge0, gd_true, Int.toNat_natCast, get_encS hi, gp, oOpt, oR_xQ, oInt_xI]
   rw [seg_branch hp hq _ (fun s => gd (decide ((a :: r).length + 1 <= maxElems)) ((LP86_0 _ _ n).2 (encPs ps) (encS v) (nI v.length) (wI ((i : Int) + 1)) ((a :: r) ++ [xZ s])))]
   rw [wI_succ (by omega), maxE (l := a :: r) rfl (by omega), gd_true]
   by_cases h0 : v[i] = 0
   ·rw [if_pos h0, if_pos h0]
   ·rw [if_neg h0, if_neg h0]; rfl
 ·show F (n + 1) v.length = _
  have eU : sgU (ps.zip v) v.length = (segsL ps v).map fun s => xZ (bL s) := by
   unfold sgU segsL
   rw [<- hz, List.take_length, List.map_map]; rfl
  have hle := sgU_len (ps.zip v) v.length
  simp only [F]
  cases hU : sgU (ps.zip v) v.length with
  | nil =>
   simp only [LP86_0, St86_0_0, lt_nI', cond_false]
   have : segsL ps v = [] := by
    rw [hU] at eU
    exact List.map_eq_nil_iff.1 eU.symm
   unfold txtL
   rw [if_pos this]; rfl
  | cons a r =>
   have hne : segsL ps v ≠ [] := fun e => by rw [e, hU] at eU; cases eU
   simp only [LP86_0, St86_0_1, lt_nI', cond_false]
   rw [show ((nI (a :: r).length) == 0) = false from beq_eq_false_iff_ne.2 (by simp only [nI, List.length_cons]; omega), cond_false, <- hU, eU, H116_def]
   unfold D116 txtL
   rw [strs_map, if_neg hne]
   have hsl : (segsL ps v).length <= 3 := by
    rw [eU, List.length_map] at hle
    omega
   have hs : ∀ a, a ∈ segsL ps v -> a.length <= 100 := fun a ha => by
    unfold segsL at ha
    obtain ⟨⟨p, q⟩, hx, rfl⟩ := List.mem_map.1 ha
    have hx := (List.mem_filter.1 hx).1
    have hp := hpm _ (List.of_mem_zip hx).1
    have hf := frac_len (hv _ (List.of_mem_zip hx).2)
    have h0 := itoa_len (n := p) (by omega) (by omega)
    dsimp only
    unfold segL
    split
    ·omega
    ·split <;> simp only [List.length_append, List.length_cons, List.length_nil] <;> omega
   have hj := joinL_len [32] rfl (m := 100) (segsL ps v) hs
   have e20 : s_20.data.toList = [32] := rfl
   rw [e20]
   simp only
   rw [decide_eq_true (by omega), decide_eq_true (by omega)]
   rfl
end Go.Ev

namespace Go.Ev
open Go Go.RowKit Go.Proofs Go.Maps
def Rh : Value -> Option (DataW Value × List MemPlace) := fun v => some (.held v, [])
theorem keyed9 : Keyed Tryz.prog 9 := string_keyed Tryz.underlying9
section
variable {α : Type}
structure MI (T : α -> List UInt8) (G : α -> Value -> Prop) (D : DataW Value) (zs : List α) : Prop where
 isMap : IsMap D
 has : ∀ x, Maps.has D (.string x) = true ↔ ∃ z, z ∈ zs /\ T z = x
 val : ∀ z, z ∈ zs -> ∃ v, (∀ zd, D.atKey (.string (T z)) zd = .held v) /\ G z v
theorem MI.start (T : α -> List UInt8) (G : α -> Value -> Prop) : MI T G (.map []) [] := ⟨⟨[], rfl⟩, fun x => by simp [Maps.has], fun z hz => by cases hz⟩
theorem MI.put {T : α -> List UInt8} {G : α -> Value -> Prop} {D : DataW Value} {zs : List α} (h : MI T G D zs) {z : α} {v : Value} (hi : ∀ y, y ∈ zs -> T y = T z -> y = z) (hg : G z v) : MI T G (D.put (.string (T z)) (.held v)) (zs ++ [z]) := by
 refine ⟨h.isMap.put _ _, fun x => ?_, fun y hy => ?_⟩
 ·by_cases hx : x = T z
  ·subst hx
   rw [has_put_same h.isMap (show WideAt.IsKeyLit (.string (T z)) from trivial)]
   simp
  ·rw [has_put_other (by intro e; exact hx (by injection e)), h.has x]
   constructor
   ·rintro ⟨y, hy, e⟩; exact ⟨y, by simp [hy], e⟩
   ·rintro ⟨y, hy, e⟩
    rcases List.mem_append.1 hy with hy | hy
    ·exact ⟨y, hy, e⟩
    ·simp only [List.mem_singleton] at hy
     subst hy
     exact absurd e.symm hx
 ·by_cases he : T y = T z
  ·have : y = z := by
    rcases List.mem_append.1 hy with hy | hy
    ·exact hi y hy he
    ·simpa using hy
   subst this
   exact ⟨v, fun zd => atKey_put_same h.isMap (show WideAt.IsKeyLit (.string (T y)) from trivial) _ _, hg⟩
  ·have hy' : y ∈ zs := by
    rcases List.mem_append.1 hy with hy | hy
    ·exact hy
    ·simp only [List.mem_singleton] at hy
     subst hy; exact absurd rfl he
   obtain ⟨u, h1, h2⟩ := h.val y hy'
   exact ⟨u, fun zd => by rw [atKey_put_other (by intro e; exact he (by injection e))]; exact h1 zd, h2⟩
structure LI (P : Program) (T : α -> List UInt8) (G : α -> Value -> Prop) (wb : World) (B r n : Nat) (D0 : DataW Value) (zs : List α) (v : Value) (left : Lit -> Bool) (cnt : Nat) (us : List α) (vals : List Value) (wr : World) : Prop where
 rg : wr.ranges P 9 Rh B r n D0 left cnt
 cn : us.length + cnt <= n
 row : wr.ownsRow (B + 1) 41 1 v us.length vals
 col : Collected D0 left (us.map T)
 len : vals.length = us.length
 val : ∀ i (h : i < us.length) (h' : i < vals.length), G us[i] vals[i]
 mem : ∀ u, u ∈ us -> u ∈ zs
 below : Below wb.heap.size wb wr
 lo : wb.heap.size <= B
 hi : B + 1 <= wr.heap.size
theorem LI.step {P : Program} {T : α -> List UInt8} {G : α -> Value -> Prop} {wb : World} {B r n : Nat} {D0 : DataW Value} {zs : List α} {v v' : Value} {left : Lit -> Bool} {cnt cnt2 : Nat} {us : List α} {vals : List Value} {wr w2 w3 : World}
  (h : LI P T G wb B r n D0 zs v left cnt us vals wr) (hM : MI T G D0 zs) {x : List UInt8} {c : Value} (hlk : left (.string x) = true) (hat : ∀ zd, D0.atKey (.string x) zd = .held c)
  (hrg2 : w2.ranges P 9 Rh B r n D0 (fun z => left z && !z.sameKey (.string x)) cnt2) (hlt : cnt2 < cnt) (hg2 : wr.grownBy w2 (some r)) (hr : wb.heap.size <= r) {o : Obj}
  (hown : w3.ownsRow (B + 1) 41 1 v' (us.length + 1) (vals ++ [c])) (hg3 : (w2.alloc o).grownBy w3 v.ownBlock) :
  ∃ u, LI P T G wb B r n D0 zs v' (fun z => left z && !z.sameKey (.string x)) cnt2 (us ++ [u]) (vals ++ [c]) w3 := by
 obtain ⟨u, hu, e⟩ := (hM.has x).1 (has_true_of_atKey hat)
 subst e
 obtain ⟨c', h1, h2⟩ := hM.val u hu
 have hc : c = c' := by
  have := (hat .nil).symm.trans (h1 .nil)
  injection this
 subst hc
 have hne : some r ≠ v.ownBlock := row_ne_iter h.row h.rg
 have hnb : some B ≠ v.ownBlock := row_ne_low h.row (by omega)
 refine ⟨u, ⟨((hrg2.alloc o).kept hg3 hnb hne), ?_, by simpa using hown, ?_, by simp [h.len], fun i hi hi' => ?_, fun y hy => ?_, ?_, h.lo, ?_⟩⟩
 ·have := h.cn; simp; omega
 ·have := h.col.step hlk hat
  simpa using this
 ·by_cases hx : i < us.length
  ·rw [List.getElem_append_left hx, List.getElem_append_left (by rw [h.len]; exact hx)]
   exact h.val i hx _
  ·have hi2 : i = us.length := by simp at hi; omega
   subst hi2
   have e1 : (us ++ [u])[us.length] = u := by simp
   have e2 : (vals ++ [c])[us.length] = c := by simp [<- h.len]
   rw [e1, e2]
   exact h2
 ·rcases List.mem_append.1 hy with hy | hy
  ·exact h.mem y hy
  ·simp only [List.mem_singleton] at hy
   subst hy; exact hu
 ·have hs := h.below.size
  have h3 := hg2.size
  refine ((h.below.grown hg2 hs (fun j hj => by cases hj; exact hr)).alloc (by omega) o).grown hg3 (by simp; omega) (fun j hj => ?_)
  have := (h.row.lt j hj).1
  have := h.lo
  omega
 ·have h3 := hg2.size
  have h4 := hg3.size
  have := h.hi
  simp at h4
  omega
end
abbrev vw (ps : List Int) (D : Nat) (notes : List (List Int)) : PVal := .adr [xA [xV (encPs ps), xV (encZs D notes), xV (encZs D (notes2 notes))]] 0 0
theorem g55Γ (p n1 n2 : List PVal) (c : Int) (K : RRes -> Bool) : Γ94 false 55 [.adr [xA [xV p, xV n1, xV n2]] 0 0, xI c] K = Q55 p n1 n2 c (fun z0 z1 => K (.tup [.p (xV z0), .p (xI z1)])) := by kernel_rfl
theorem g86Γ (p v : List PVal) (K : RRes -> Bool) : Γ94 false 86 [xV p, xV v] K = Q86 p v (fun z0 z1 => K (.tup [.p (xZ z0), .p (xI z1)])) := by kernel_rfl
theorem g70Γ (l p n1 n2 : List PVal) (K : RRes -> Bool) : Γ94 true 70 [.adr l 41 1, .clo 84 [.adr [xA [xV p, xV n1, xV n2]] 0 0] []] K = Q70_84 l p n1 n2 (fun z => K (.one (.p (.sl z)))) := by kernel_rfl
theorem pureW_of {P : Program} {W0 : World} {Γ : Oracle} (hΓ : SoundΓ P W0 Γ) {f ty k : Nat} {es ps es' : List PVal} (h : ∀ K, Γ true f (.adr es ty k :: ps) K = K (.one (.p (.sl es')))) : PureW P W0 f es ty k ps es' := by
 obtain ⟨r, hd, hk⟩ := hΓ true f (.adr es ty k :: ps) (fun x => @decide (x = .one (.p (.sl es'))) (Classical.propDecidable _)) (by rw [h]; simp)
 have : r = .one (.p (.sl es')) := by simpa using hk
 subst this
 obtain ⟨es1, ty1, k1, ps1, es2, e1, e2, h1⟩ := hd
 cases e1; cases e2
 exact h1
section
variable {ps : List Int} {D : Nat} {notes : List (List Int)} {W0 : World}
theorem pure55 (hΓ : SoundΓ Tryz.prog W0 Γ94) (h : Sc ps D notes) {c : Nat} (hc : c <= notes.length) : Pure Tryz.prog W0 55 [vw ps D notes, xI c] (.tup [.p (xV (encZs D ((List.range notes.length).map (dif notes c)))), .p (xI 0)]) :=
 pure_of hΓ fun K => by rw [g55Γ, l55 h hc]
theorem pure86 (hΓ : SoundΓ Tryz.prog W0 Γ94) (hps : PsOk ps) {v : List Rat} (hv : SV v) (hl : v.length = ps.length) : Pure Tryz.prog W0 86 [xV (encPs ps), xV (encS v)] (.tup [.p (xZ (bL (txtL ps v))), .p (xI 0)]) :=
 pure_of hΓ fun K => by rw [g86Γ, l86 hps hv hl]
theorem pure70 (hΓ : SoundΓ Tryz.prog W0 Γ94) (h : Sc ps D notes) {c : Nat} (hc : c <= notes.length) {us : List (List Int)} (hl : us.length <= 12) (hu : ∀ u, u ∈ us -> u ∈ (List.range notes.length).map (dif notes c)) :
  PureW Tryz.prog W0 70 (encZs D us) 41 1 [.clo 84 [vw ps D notes] []] (encZs D (gsort (fun a b => cmpZ ps (zsub a b)) us)) :=
 pureW_of hΓ fun K => by
  rw [g70Γ]
  refine (l70_84 (f := fun z => encZ D z) (c := fun a b => cmpZ ps (zsub a b)) hl (fun a ha b hb K => ?_) _)
  have o1 := difs_ok h hc (hu a ha)
  have o2 := difs_ok h hc (hu b hb)
  obtain ⟨i, hi, rfl⟩ := List.mem_map.1 (hu a ha)
  obtain ⟨j, hj, rfl⟩ := List.mem_map.1 (hu b hb)
  rw [Q84_def]; unfold G84
  rw [l50z h.psok h.dok o1.1 o2.1 (o1.2.mono (by omega)) (o2.2.mono (by omega)) (h.dec c c i j hc hc (List.mem_range.1 hi) (List.mem_range.1 hj))]
theorem gsort_any (h : Sc ps D notes) {c : Nat} (hc : c <= notes.length) {us : List (List Int)} (hn : us.Nodup) (hm : ∀ u, u ∈ us ↔ u ∈ (List.range notes.length).map (dif notes c)) : gsort (fun a b => cmpZ ps (zsub a b)) us = sizesZ ps notes c := by
 refine sorted_unique (f := phi ps) _ _ (strict_of _ (gsort_sorted _ fun a ha b hb => ?_) (gsort_nodup _ hn) fun a ha b hb => ?_) (sizesZ_sorted h hc) fun a => ?_
 ·exact (dif_cmp h hc hc ((hm a).1 ha) ((hm b).1 hb)).1
 ·exact (dif_cmp h hc hc ((hm a).1 ((gsort_mem _ _ _).1 ha)) ((hm b).1 ((gsort_mem _ _ _).1 hb))).2.2.1.1
 ·rw [gsort_mem, sizesZ_mem, hm]
theorem Pure.txt {P : Program} {f : Nat} {p0 p1 : PVal} {a b : Value} (h : Pure P W0 f [p0, p1] (.tup [.p (.lit a), .p (.lit b)])) {w : World} (hb : Below W0.heap.size W0 w) {S : PSet} (hlt : ∀ b o, S b o -> b < w.heap.size) {v0 v1 : Value} (h0 : RepP w S p0 v0) (h1 : RepP w S p1 v1) :
  Calls P f #[v0, v1] w fun e w' => e = .returned (.tuple #[a, b]) /\ Below w.heap.size w w' := by
 refine (h.2 w S #[v0, v1] hb hlt rfl (fun i hi => ?_)).mono ?_
 ·simp only [List.length_cons, List.length_nil] at hi
  rcases i with _ | _ | i
  ·exact h0
  ·exact h1
  ·omega
 ·rintro e w' ⟨v, S', rfl, h1, _, _, _, us, rfl, hs, h2, _⟩
  refine ⟨?_, h1⟩
  have e0 := repP_lit (h2 0 (by simp))
  have e1 := repP_lit (h2 1 (by simp))
  congr 2
  apply Array.ext
  ·simpa using hs
  ·intro i h1 h2
   simp only [List.size_toArray, List.length_cons, List.length_nil] at h2
   rcases i with _ | _ | i
   ·exact e0
   ·exact e1
   ·omega
theorem Pure.row {P : Program} {f : Nat} {p0 p1 : PVal} {es : List PVal} {b : Value} (h : Pure P W0 f [p0, p1] (.tup [.p (.sl es), .p (.lit b)])) {w : World} (hb : Below W0.heap.size W0 w) {S : PSet} (hlt : ∀ b o, S b o -> b < w.heap.size) {v0 v1 : Value} (h0 : RepP w S p0 v0) (h1 : RepP w S p1 v1) :
  Calls P f #[v0, v1] w fun e w' => ∃ v S', e = .returned (.tuple #[v, b]) /\ Below w.heap.size w w' /\ (∀ b o, S b o -> S' b o) /\ (∀ b o, S' b o -> S b o ∨ w.heap.size <= b) /\ (∀ b o, S' b o -> b < w'.heap.size) /\ RepP w' S' (.sl es) v := by
 refine (h.2 w S #[v0, v1] hb hlt rfl (fun i hi => ?_)).mono ?_
 ·simp only [List.length_cons, List.length_nil] at hi
  rcases i with _ | _ | i
  ·exact h0
  ·exact h1
  ·omega
 ·rintro e w' ⟨v, S', rfl, h1, k1, k2, k3, us, rfl, hs, h2, _⟩
  have e0 := h2 0 (by simp)
  have e1 := repP_lit (h2 1 (by simp))
  have hs2 : us.size = 2 := by simpa using hs
  refine ⟨us[0], S', ?_, h1, k1, k2, k3, e0⟩
  congr 2
  apply Array.ext
  ·simpa using hs
  ·intro i h1 h2
   simp only [List.size_toArray, List.length_cons, List.length_nil] at h2
   rcases i with _ | _ | i
   ·rfl
   ·exact e1
   ·omega
end
end Go.Ev

namespace Go.Ev
open Go Go.RowKit Go.Proofs Go.Maps
theorem info41 : (Tryz.prog.info? 41).map (fun i => (i.zero, i.size, i.bytes)) = some (some (.slice none 0 0), 1, 24) := by kernel_rfl
theorem below_grown {w w' : World} (h : Below w.heap.size w w') : w.grownBy w' none := ⟨h.os, h.tape, h.output, h.size, fun k hk _ => h.block k hk⟩
theorem rows_at {w : World} {S : PSet} {α : Type} {f : α -> List PVal} {zs : List α} {v : Value} (h : RepP w S (.sl (zs.map fun z => xV (f z))) v) (hne : 0 < zs.length) (hlt : ∀ b o, S b o -> b < w.heap.size) :
  ∃ (b o cap : Nat) (V : Nat -> Value), v = .slice (some ⟨b, o, none⟩) zs.length cap /\ b < w.heap.size /\ ∀ j (hj : j < zs.length), w.cell? ⟨b, o + j, none⟩ = some (V j) /\ RepP w S (xV (f zs[j])) (V j) := by
 generalize he : zs.map (fun z => xV (f z)) = es at h
 cases h with
 | nil => simp at he; subst he; simp at hne
 | sl _ b o cap k V hcap hV hrow =>
  have hlen : es.length = zs.length := by rw [<- he]; simp
  have hVj : ∀ j (hj : j < zs.length), RepP w S (xV (f zs[j])) (V j) := fun j hj => by
   have := hV j (by omega)
   have e : es[j]'(by omega) = xV (f zs[j]) := by subst he; simp
   rw [e] at this
   exact this
  have hcl : ∀ j, j < zs.length -> (V j).cells = #[V j] := fun j hj => by
   have := hVj j hj
   generalize V j = u at this
   generalize f zs[j] = es at this
   cases this <;> rfl
  have hk : k = 1 := by
   have := (hrow 0 (by omega)).1
   rw [hcl 0 hne] at this
   exact this.symm
  subst hk
  refine ⟨b, o, cap, V, by rw [hlen], ?_, fun j hj => ⟨?_, hVj j hj⟩⟩
  ·exact hlt _ _ ((hrow 0 (by omega)).2 0 (by omega)).1
  ·obtain ⟨_, u, h3, _, h5⟩ := (hrow j (by omega)).2 0 (by omega)
   rw [hcl j hj] at h3
   have : u = V j := by simpa using h3.symm
   rw [this] at h5
   simpa using h5
theorem rep_later {w w' : World} {S : PSet} {p : PVal} {v : Value} (h : RepP w S p v) (hlt : ∀ b o, S b o -> b < w.heap.size) (hb : Below w.heap.size w w') : RepP w' S p v :=
 h.mono (.of_blocks fun b c hs => hb.block b (hlt b c hs)) (fun _ _ h => h)
section
variable {ps : List Int} {D : Nat} {notes : List (List Int)} {W0 : World}
def GV (w1 : World) (S1 : PSet) (D : Nat) (z : List Int) (v : Value) : Prop := RepP w1 S1 (xV (encZ D z)) v
def TX (ps : List Int) (D : Nat) (z : List Int) : List UInt8 := txtL ps (zR D z)
theorem GV.one {w1 : World} {S1 : PSet} {z : List Int} {v : Value} (h : GV w1 S1 D z v) : v.oneCell' = true /\ v.cells = #[v] := by
 unfold GV at h
 generalize encZ D z = es at h
 cases h <;> exact ⟨rfl, rfl⟩
theorem GV.slice {w1 : World} {S1 : PSet} {z : List Int} {v : Value} (h : GV w1 S1 D z v) : ∃ a n c, v = .slice a n c := by
 unfold GV at h
 generalize encZ D z = es at h
 cases h with
 | nil => exact ⟨_, _, _, rfl⟩
 | sl => exact ⟨_, _, _, rfl⟩
theorem txt_len {ps : List Int} (hps : PsOk ps) {v : List Rat} (hv : SV v) : (txtL ps v).length <= 1000 := by
 have hlen := hps.len
 have hs : ∀ a, a ∈ segsL ps v -> a.length <= 100 := fun a ha => by
  unfold segsL at ha
  obtain ⟨⟨p, q⟩, hx, rfl⟩ := List.mem_map.1 ha
  have hx := (List.mem_filter.1 hx).1
  have hp := hps.mem _ (List.of_mem_zip hx).1
  have hf := frac_len (hv _ (List.of_mem_zip hx).2)
  have h0 := itoa_len (n := p) (by omega) (by omega)
  dsimp only
  unfold segL
  split
  ·omega
  ·split <;> simp only [List.length_append, List.length_cons, List.length_nil] <;> omega
 have hj := joinL_len [32] rfl (m := 100) (segsL ps v) hs
 have hsl : (segsL ps v).length <= 3 := by
  unfold segsL
  rw [List.length_map]
  refine Nat.le_trans (List.length_filter_le _ _) ?_
  rw [List.length_zip]
  omega
 unfold txtL
 split
 ·simp
 ·omega
theorem repO_of {w1 w : World} {S1 : PSet} {g : Nat} {cur : Array Value} {us : List (List Int)} {vals : List Value} (hg : w.heap[g]? = some (.cells cur 41 (0, 0))) (hcur : cur.toList.take (us.length * 1) = vals) (hl : vals.length = us.length)
  (hv : ∀ i (h : i < us.length) (h' : i < vals.length), GV w1 S1 D us[i] vals[i]) (hb : Below w1.heap.size w1 w) (k3 : ∀ b o, S1 b o -> b < w1.heap.size) (hg1 : w1.heap.size <= g) :
  RepO w S1 ⟨fun _ => g, fun _ => 1, fun _ => us.length⟩ 0 (.buf false 41 1 (encZs D us)) := by
 refine ⟨rfl, by simp, cur, hg, fun i => vals.getD i undef, fun i hi => ?_, fun i hi => ?_, fun h => (by cases h), fun c _ hs => ?_⟩
 all_goals dsimp only at *
 ·have hi' : i < us.length := by simpa using hi
  have e : (encZs D us)[i] = xV (encZ D us[i]) := by simp
  have e2 : vals.getD i undef = vals[i]'(by omega) := by simp [show i < vals.length by omega]
  rw [e, e2]
  exact rep_later (hv i hi' (by omega)) k3 hb
 ·have hi' : i < us.length := by simpa using hi
  have e2 : vals.getD i undef = vals[i]'(by omega) := by simp [show i < vals.length by omega]
  rw [e2]
  obtain ⟨o1, o2⟩ := (hv i hi' (by omega)).one
  rw [o2]
  refine ⟨rfl, fun j hj => ⟨_, by obtain rfl : j = 0 := (by omega); rfl, o1, ?_⟩⟩
  have h0 : j = 0 := by omega
  subst h0
  have h1 : (cur.toList.take (us.length * 1))[i]? = vals[i]? := by rw [hcur]
  rw [List.getElem?_take_of_lt (by omega), Array.getElem?_toList, List.getElem?_eq_getElem (show i < vals.length by omega)] at h1
  simpa using h1
 ·have := k3 _ _ hs
  omega
theorem repP_of {w : World} {S : PSet} {x : Ix} {es : List PVal} {cap : Nat} (h : RepO w S x 0 (.buf false 41 1 es)) (hc : es.length <= cap) :
  RepP w (fun b c => S b c ∨ (b = x.m 0 /\ c < es.length)) (.sl es) (.slice (some ⟨x.m 0, 0, none⟩) es.length cap) := by
 obtain ⟨h1, h2, cur, h3, V, h4, h5, _, _⟩ := h
 refine .sl es _ 0 cap 1 V hc (fun i hi => (h4 i hi).mono (keeps_refl _ _) (fun _ _ h => .inl h)) fun i hi => ⟨(h5 i hi).1, fun j hj => ⟨.inr ⟨rfl, by omega⟩, ?_⟩⟩
 obtain ⟨u, q1, q2, q3⟩ := (h5 i hi).2 j hj
 refine ⟨u, q1, q2, ?_⟩
 simp only [World.cell?, h3]
 simpa using q3
set_option maxRecDepth 100000 in
set_option maxHeartbeats 4000000 in
theorem sizes_walk (hΓ : SoundΓ Tryz.prog W0 Γ94) (h : Sc ps D notes) {c : Nat} (hc : c <= notes.length) (w : World) (hbw : Below W0.heap.size W0 w) (S : PSet) (hlt : ∀ b o, S b o -> b < w.heap.size) (b o : Nat)
  (hview : RepP w S (vw ps D notes) (.pointer (some ⟨b, o, none⟩))) (pv : Value) (hbl : b < w.heap.size) (hpc : w.cell? ⟨b, o, none⟩ = some pv) (u0 : RepP w S (xV (encPs ps)) pv) :
  Calls Tryz.prog 52 #[.pointer (some ⟨b, o, none⟩), .int .i64 c] w fun e w' => ∃ v S', e = .returned (.tuple #[v, .int .i64 0]) /\ Below w.heap.size w w' /\ (∀ b o, S b o -> S' b o) /\ (∀ b o, S' b o -> S b o ∨ w.heap.size <= b) /\ (∀ b o, S' b o -> b < w'.heap.size) /\ RepP w' S' (.sl (encZs D (sizesZ ps notes c))) v := by
 have hn9 := h.len
 have hne := h.ne
 obtain ⟨i0, hi, hz0, hz1, hz2⟩ := info_parts info41
 have hmm := @run_makeMap Tryz.prog
 obtain ⟨zs, hzs⟩ : ∃ zs, zs = (List.range notes.length).map (dif notes c) := ⟨_, rfl⟩
 have hzl : zs.length = notes.length := by rw [hzs]; simp
 have hzo : ∀ z, z ∈ zs -> z.length = ps.length /\ ZS 6000 z := fun z hz => difs_ok h hc (by rw [<- hzs]; exact hz)
 have hzm : Hid (zs = (List.range notes.length).map (dif notes c)) := hzs
 have h55 : Calls Tryz.prog 55 #[.pointer (some ⟨b, o, none⟩), .int .i64 c] w fun e w1 => ∃ (lb lo cap : Nat) (V : Nat -> Value) (S1 : PSet), e = .returned (.tuple #[.slice (some ⟨lb, lo, none⟩) notes.length cap, .int .i64 0]) /\ Below w.heap.size w w1 /\ (∀ b o, S b o -> S1 b o) /\ (∀ b o, S1 b o -> S b o ∨ w.heap.size <= b) /\ (∀ b o, S1 b o -> b < w1.heap.size) /\
   lb < w1.heap.size /\ ∀ j (hj : j < zs.length), w1.cell? ⟨lb, lo + j, none⟩ = some (V j) /\ GV w1 S1 D zs[j] (V j) := by
  refine ((pure55 hΓ h hc).row hbw hlt hview (.lit _)).mono ?_
  rintro e w1 ⟨lv, S1, rfl, hB1, k1, k2, k3, hlv⟩
  rw [<- hzs] at hlv
  obtain ⟨lb, lo, cap, V, rfl, hlb, hVV⟩ := rows_at (f := fun z => encZ D z) hlv (by omega) k3
  exact ⟨lb, lo, cap, V, S1, by rw [hzl], hB1, k1, k2, k3, hlb, hVV⟩
 clear hzs
 go_enter Tryz.func52, Tryz.ntmps52
 go_wp2_with (go_at_call 55; refine h55.mono ?_; rintro e w1 ⟨lb, lo, cap, V, S1, rfl, hB1, k1, k2, k3, hlb, hVV⟩)
 have hu1 := rep_later u0 hlt hB1
 have hu1 : RepP w1 S1 (xV (encPs ps)) pv := hu1.mono (keeps_refl _ _) k1
 have hbw1 := hbw.trans (hB1.mono hbw.size)
 have hs1 := hB1.size
 have hpc1 := (hB1.cell (p := ⟨b, o, none⟩) hbl).trans hpc
 go_loopw [28] (fun i wr => ∃ k : Nat, k <= notes.length /\ i = .int .i64 k /\ ∃ Dm, wr.ownsMap Tryz.prog 9 Rh w1.heap.size k Dm /\ MI (TX ps D) (GV w1 S1 D) Dm (zs.take k) /\ Below w1.heap.size w1 wr /\ w1.heap.size + 1 <= wr.heap.size)
  (fun i _ => notes.length - (intOf i).toNat)
 case atStart => exact ⟨0, Nat.zero_le _, rfl, _, World.ownsMap_made _ _ _ _, MI.start _ _, (Below.refl _ _).alloc (Nat.le_refl _) _, by simp⟩
 case round =>
  obtain ⟨k, hk, rfl, Dm, hown, hM, hnx, hsz⟩ := hrel
  have hpcr := (hnx.cell (p := ⟨b, o, none⟩) (show b < w1.heap.size by omega)).trans hpc1
  by_cases hkn : k < notes.length
  ·obtain ⟨hVk, hGk⟩ := hVV k (by omega)
   have hVr := (hnx.cell (p := ⟨lb, lo + k, none⟩) hlb).trans hVk
   have hzk := hzo zs[k] (List.getElem_mem _)
   have hsv : SV (zR D zs[k]) := zR_SV (by have := h.dok; omega) (hzk.2.mono (by omega))
   have hlr : ∀ b o, S1 b o -> b < wr.heap.size := fun b o hs => Nat.lt_of_lt_of_le (k3 b o hs) hnx.size
   have h86 := (pure86 hΓ h.psok hsv (by rw [zR_len]; exact hzk.1)).txt (hbw1.trans (hnx.mono hbw1.size)) hlr (rep_later hu1 k3 hnx) (rep_later hGk k3 hnx)
   have hkey : keyOf Tryz.prog 9 (.string (bL (txtL ps (zR D zs[k])))) = some (.string (TX ps D zs[k])) := Go.WideMaps.keyOf_string_mk Tryz.underlying9 (by have := txt_len h.psok hsv; rw [bL_size]; unfold maxLen; omega)
   have hM' : ∀ v, v = V k -> MI (TX ps D) (GV w1 S1 D) (Dm.put (.string (TX ps D zs[k])) (.held v)) (zs.take (k + 1)) := by
    rintro v rfl
    rw [List.take_add_one, List.getElem?_eq_getElem (show k < zs.length by omega)]
    refine hM.put (fun y hy he => ?_) hGk
    have hyo := hzo y (List.mem_of_mem_take hy)
    exact zR_inj h.dok.1 (txt_inj h.psok (by rw [zR_len]; exact hyo.1) (by rw [zR_len]; exact hzk.1) (zR_SV (by have := h.dok; omega) (hyo.2.mono (by omega))) hsv he)
   clear hGk hM hzk hsv
   go_wp2_with (first
    | (go_at_call 86; refine h86.mono ?_; rintro e w2 ⟨rfl, hB2⟩; have hown2 := hown.kept (below_grown hB2) (by simp))
    | (at_mapUpdate; refine wpList_mapUpdate_own _ rfl _ _ _ 119 rfl 9 41 keyed9 Tryz.underlying119 Rh w1.heap.size k Dm rfl hown2 (by unfold maxLen; omega) _ _ _ rfl rfl hkey (.held (V k)) [] rfl ?_; intro w3 hown3 hg3)
    | go_in)
   go_roundw
   case rel =>
    have hb2 := hB2.size
    exact ⟨k + 1, by omega, by go_num, _, hown3, hM' _ rfl, (hnx.trans (hB2.mono hnx.size)).grown hg3 (by omega) (fun j hj => by cases hj; exact Nat.le_refl _), by have := hg3.size; omega⟩
   case measure => simp [intOf]; omega
  ·obtain rfl : k = notes.length := by omega
   obtain ⟨wm, hwm⟩ : ∃ wm, wm = wr := ⟨wr, rfl⟩
   subst hwm
   rw [List.take_of_length_le (by omega)] at hM
   have hsz0 := hown.size_le
   go_wp2_with (first
    | (at_range; refine wpList_range_own _ rfl _ 119 rfl 9 41 keyed9 Tryz.underlying119 Rh w1.heap.size notes.length Dm rfl hown ?_; intro w2 hrg2 hg2 hs2)
    | go_in)
   go_frame
   go_loopw [13] (fun v wq => ∃ left cnt us vals, LI Tryz.prog (TX ps D) (GV w1 S1 D) w1 w1.heap.size wm.heap.size notes.length Dm zs v left cnt us vals wq) (fun _ wq => wq.rangeLeft w1.heap.size wm.heap.size)
   case atStart =>
    exact ⟨_, _, [], [], { rg := hrg2, cn := by simpa using hsz0, row := World.ownsRow_nil _ _ _ _, col := Collected.start Dm, len := rfl, val := fun i hi => by simp at hi, mem := fun u hu => by simp at hu, below := hnx.grown hg2 hnx.size (fun j hj => by cases hj), lo := Nat.le_refl _, hi := by have := hg2.size; omega }⟩
   case round =>
    obtain ⟨left, cnt, us, vals, hI⟩ := hrel
    go_wp2_with (first
     | (at_next; refine wpList_next_ranges _ rfl _ rfl 9 keyed9 Rh encStr (fun v : Value => v) (fun key kl hk => by obtain ⟨x, hx, _⟩ := Maps.keyOf_str Tryz.underlying9 hk; exact ⟨x, hx⟩) (fun v y _ => ⟨v, rfl⟩) w1.heap.size wm.heap.size notes.length _ _ _ rfl hI.rg ?_ ?_)
     | go_in)
    ·intro hc0 hl0
     have hzm' := hzm.out
     have hcol := hI.col
     have hcn := hI.cn
     have hus : ∀ u, u ∈ us ↔ u ∈ zs := fun u => ⟨hI.mem u, fun hu => by
      have : TX ps D u ∈ us.map (TX ps D) := (hcol.2 _).2 ⟨(hM.has _).2 ⟨u, hu, rfl⟩, hl0 _⟩
      obtain ⟨u', hu', e⟩ := List.mem_map.1 this
      have o1 := hzo u' (hI.mem _ hu')
      have o2 := hzo u hu
      have : u' = u := zR_inj h.dok.1 (txt_inj h.psok (by rw [zR_len]; exact o1.1) (by rw [zR_len]; exact o2.1) (zR_SV (by have := h.dok; omega) (o1.2.mono (by omega))) (zR_SV (by have := h.dok; omega) (o2.2.mono (by omega))) e)
      rwa [<- this]⟩
     have hnd : us.Nodup := List.Pairwise.of_map (TX ps D) (fun a b hab e => hab (congrArg _ e)) hcol.1
     have hpos : 0 < us.length := by
      have : zs[0]'(by omega) ∈ us := (hus _).2 (List.getElem_mem _)
      exact List.length_pos_of_mem this
     rcases hI.row.2 with ⟨_, h0⟩ | ⟨g, cp, cur, rfl, hbase, hg, q1, q2, q3, q4⟩
     ·omega
     have hO := repO_of hg q4 hI.len hI.val hI.below k3 (by omega)
     have hbr := hbw1.trans (hI.below.mono hbw1.size)
     have hlr : ∀ b o, S1 b o -> b < wr.heap.size := fun b o hs => Nat.lt_of_lt_of_le (k3 b o hs) hI.below.size
     have hgl : g < wr.heap.size := (Array.getElem?_eq_some_iff.1 hg).1
     have hvr := rep_later ((rep_later hview hlt hB1).mono (keeps_refl _ _) k1) k3 hI.below
     have hbs := hbw1.size
     have h70 := (pure70 hΓ h hc (us := us) (by omega) (fun u hu => by rw [<- hzm']; exact hI.mem u hu)).2 wr S1 ⟨fun _ => g, fun _ => 1, fun _ => us.length⟩ #[.slice (some ⟨g, 0, none⟩) us.length cp, .func (.func 84) #[.pointer (some ⟨b, o, none⟩)] #[]] hbr hlr hgl (by show W0.heap.size <= g; omega) hO rfl
      (RepL.own 0 cp q1 q2 ⟨cur, 41, (0, 0), hg, q3⟩) (fun i hi => by
       have : i = 0 := by simpa using hi
       subst this
       refine .clo 84 [vw ps D notes] [] _ _ rfl rfl (fun i hi => ?_) (fun i hi => by simp at hi)
       have : i = 0 := by simpa using hi
       subst this
       exact hvr)
     rw [gsort_any h hc hnd (fun u => by rw [hus, hzm'])] at h70
     have hbf : Below w.heap.size w wr := hB1.trans (hI.below.mono hs1)
     have hrs := hI.below.size
     clear hI hM hO hcol hus hnd hl0 hvr hg
     go_wp2_with (go_at_call 70; refine h70.mono ?_; rintro e w5 ⟨S5, rfl, hX, s1, s2, s3, hz, hO5⟩)
     refine bodyPost_ret (results_tmp2 rfl _ _ _) rfl ?_
     have hel : us.length = (encZs D (sizesZ ps notes c)).length := hO5.2.1
     have hrep := repP_of hO5 (cap := cp) (by omega)
     rw [<- hel] at hrep
     refine ⟨_, _, rfl, hbf.trans ⟨hX.os, hX.tape, hX.output, hX.size, fun k hk => hX.block k (by omega) (by omega)⟩, fun b o hs => .inl (s1 _ _ (k1 _ _ hs)), fun b o hs => ?_, fun b o hs => ?_, hrep⟩
     ·rcases hs with hs | ⟨rfl, _⟩
      ·rcases s2 _ _ hs with hs | hs
       ·exact k2 _ _ hs
       ·right; omega
      ·right; omega
     ·rcases hs with hs | ⟨rfl, _⟩
      ·exact s3 _ _ hs
      ·have := hX.size
       omega
    ·intro x cv kl yd yp w3 cnt3 hkey hlk hv hat hrg3 hlt3 hg3 hs3 hen
     obtain ⟨x', ex, rfl, _⟩ := Maps.keyOf_str Tryz.underlying9 hkey
     obtain rfl : x = x' := encStr_inj ex
     have hat' : ∀ zd, Dm.atKey (.string x) zd = .held cv := fun zd => (hat zd).trans (by have := Option.some.inj hv; exact (congrArg Prod.fst this).symm)
     have hrow3 := hI.row.kept hg3 (Or.inr (row_ne_iter hI.row hI.rg).symm)
     have hcv : ∃ a n c, cv = .slice a n c := by
      obtain ⟨u, hu, e⟩ := (hM.has x).1 (has_true_of_atKey hat')
      subst e
      obtain ⟨c', h1, h2⟩ := hM.val u hu
      have hc : cv = c' := by
       have := (hat' .nil).symm.trans (h1 .nil)
       injection this
      rw [hc]
      exact h2.slice
     obtain ⟨ca, cn, cc, rfl⟩ := hcv
     have HM := Lib.hid hM
     have HI := Lib.hid hI
     have HA := Lib.hid hat'
     have hcn := hI.cn
     have hih := hI.hi
     have hgs := hg3.size
     clear hs3 hat hat' hM hI hv hkey ex
     go_wp2_with (first
      | (at_builtin; refine wpList_append_own _ rfl _ _ 30 rfl (w1.heap.size + 1) 41 i0 (.slice none 0 0) 1 24 Tryz.underlying30 hi hz0 hz1 hz2 rfl (by decide) _ _ _ rfl (hrow3.alloc _) ⟨w3.heap.size, 0, none⟩ 1 1 [.slice ca cn cc] rfl rfl (cell_one_new _ _ _) (by simp [Value.oneCell']) (by unfold maxLen; omega) (by omega) (by simp; omega) ?_; intro v' w4 hown' hg4 hnil4; go_frame)
      | go_in)
     obtain ⟨u, hI'⟩ := HI.out.step HM.out hlk HA.out hrg3 hlt3 hg3 (by omega) hown' hg4
     have hI0 := HI.out
     clear HI HM HA hown' hg4 hrow3 hnil4
     go_roundw
     case rel => exact ⟨_, _, _, _, hI'⟩
     case measure => rw [hI'.rg.left_eq, hI0.rg.left_eq]; exact hlt3
theorem hand52 (hΓ : SoundΓ Tryz.prog W0 Γ94) : Hand52 W0 := fun p n1 n2 d K hK => by
 rw [H52_def] at hK; unfold D52 at hK
 split at hK
 ·next ps l1 l2 hp h1 h2 =>
  split at hK
  ·next hx =>
   obtain ⟨D, notes, h, rfl, rfl, rfl, rfl, rfl, h0, hd⟩ := hx
   obtain ⟨c, rfl⟩ := Int.eq_ofNat_of_zero_le h0
   have hc : c <= notes.length := by omega
   rw [List.length_map, Int.toNat_natCast, sizes_zR h hc, <- encZs_L] at hK
   refine ⟨_, ⟨enters Tryz.func52 (by kernel_rfl) (by kernel_rfl), fun w S vs hbw hlt hs hr => ?_⟩, hK⟩
   obtain ⟨v0, v1, rfl, r0, r1⟩ := args2 hs hr
   obtain rfl := repP_lit r1
   rw [<- encZs_L, <- encZs_L] at r0
   have r0 : RepP w S (vw ps D notes) v0 := r0
   have r0' := r0
   cases r0 with
   | adr es i j b o k V hi hj hV hrow =>
    obtain ⟨hk, hcells⟩ := hrow 0 (by simp)
    obtain ⟨pv, m1, m2, hV0, u0, u1, u2⟩ := agg3 (hV 0 (by simp))
    rw [hV0] at hk hcells
    obtain ⟨hS0, u, e1, e2, e3⟩ := hcells 0 hj
    have : u = pv := by
     have e1' : some pv = some u := e1
     exact (Option.some.inj e1').symm
    subst this
    simp only [Nat.zero_mul, Nat.add_zero] at hS0 e3 r0' ⊢
    refine (sizes_walk hΓ h hc w hbw S hlt b o r0' _ (hlt _ _ hS0) e3 u0).mono ?_
    rintro e w' ⟨v, S', rfl, q1, q2, q3, q4, q5⟩
    refine ⟨_, S', rfl, q1, q2, q3, q4, _, rfl, rfl, fun i hi => ?_, fun i j hi hj h1 => ?_⟩
    ·simp only [List.length_cons, List.length_nil] at hi
     rcases i with _ | _ | i
     ·exact q5
     ·exact .lit _
     ·omega
    ·simp only [List.length_cons, List.length_nil] at hi
     rcases i with _ | _ | i
     ·cases h1
     ·cases h1
     ·omega
  ·cases hK
 ·cases hK
end
end Go.Ev

namespace Go.Ev
open Go Go.RowKit Go.Proofs Go.ChangeShapes Go.WideShapes
open Go.Proofs.YthgolelddficaaaGreatDoor
abbrev laid5 : List (String × DataW Unit) := [("math/bits.deBruijn32tab", Rows.laid_math_bits_deBruijn32tab), ("math/bits.deBruijn64tab", Rows.laid_math_bits_deBruijn64tab), ("internal/strconv.uint64pow10", Rows.laid_internal_strconv_uint64pow10), ("strconv.ErrRange", Rows.laid_strconv_ErrRange), ("strconv.ErrSyntax", Rows.laid_strconv_ErrSyntax)]
theorem ownK : ownKnob Tryz.prog.godebug = none := by kernel_rfl
theorem door_met (os : Os) (args : Array Value) : laidMetH Tryz.prog laid5 ((World.doorLaid Tryz.prog 62 os).forCall (fun _ _ => 0) ⟨#[], args, []⟩).memory :=
 laidMetH_of_parts3 (fuel := 8) (laidMet_of_run' 8 (by kernel_rfl) (by kernel_rfl)) (by kernel_rfl) (by kernel_rfl)
theorem tab_of_laid {W : World} (h : laidMetH Tryz.prog laid5 W) : Tab W := by
 rw [MakeChecks.laidMetH_plain _ _ _ (by kernel_rfl)] at h
 obtain ⟨ps, ⟨g0, t0, cs0, f0, p0, q0, hg0, ht0, hv0, hd0, ⟨g1, t1, cs1, f1, p1, q1, hg1, ht1, hv1, hd1, ⟨g2, t2, cs2, f2, p2, q2, hg2, ht2, hv2, hd2, _⟩, _⟩, _⟩, _, _⟩ := h
 have e : (Rows.laid_internal_strconv_uint64pow10 : DataW Unit) = Lib.tabData .u64 Lib.pow10Tab := rfl
 rw [e] at hd2
 have hn : Tryz.prog.globalNamed "internal/strconv.uint64pow10" = some 2 := by kernel_rfl
 obtain rfl := Option.some.inj (hn.symm.trans hg2)
 obtain rfl := Option.some.inj ((show (Tryz.prog.globals[2]?).map (·.type) = some 286 by kernel_rfl).symm.trans ht2)
 have hc := Lib.cells_of_tab (n := 20) Tryz.underlying286 Tryz.underlying173 (by kernel_rfl) (by kernel_rfl) hd2
 intro w hb
 have hv : W.var? Tryz.prog "internal/strconv.uint64pow10" = some (Lib.pow10Tab.map fun z => Value.int .u64 z).toArray := by rw [hv2, <- hc]
 unfold Lib.TabIs
 rw [<- hv]
 unfold World.var?
 rw [hn]
 simp only [Option.bind_some]
 have hlt : 2 < W.heap.size := by
  rcases Nat.lt_or_ge 2 W.heap.size with h | h
  ·exact h
  ·unfold World.var? at hv
   rw [hn] at hv
   simp only [Option.bind_some, Array.getElem?_eq_none h] at hv
   cases hv
 rw [hb.block 2 hlt]
def A8 (cs : List Value) : Prop := ∀ x, x ∈ cs -> ∃ n, x = .int .i8 n /\ -128 <= n /\ n <= 127
theorem a8_chunks {cs : List Value} {n m : Nat} (hm : 0 < m) (hl : cs.length = n * m) (h : ∀ i, i < n -> A8 ((cs.drop (i * m)).take m)) : A8 cs := fun x hx => by
 obtain ⟨j, hj, rfl⟩ := List.getElem_of_mem hx
 have hd : j / m < n := by rw [Nat.div_lt_iff_lt_mul hm]; omega
 refine h (j / m) hd _ ?_
 have h1 := Nat.div_add_mod j m
 have h2 := Nat.mod_lt j hm
 rw [Nat.mul_comm] at h1
 have h3 : j % m < ((cs.drop (j / m * m)).take m).length := by
  rw [List.length_take, List.length_drop]
  have : j / m * m + m <= cs.length := by
   rw [hl]
   have := Nat.mul_le_mul_right m (show j / m + 1 <= n by omega)
   rw [Nat.add_mul] at this
   omega
  omega
 have : ((cs.drop (j / m * m)).take m)[j % m] = cs[j] := by
  rw [List.getElem_take, List.getElem_drop]
  congr 1
 rw [<- this]
 exact List.getElem_mem h3
section
variable {H : Type} {enc : TypeId × Value -> H} {w : World} {base : Nat} {spare : Nat -> Bool} {held : Bool}
set_option maxRecDepth 100000
theorem a8_one {fuel : Nat} {cs : List Value} {x : DataW H × List MemPlace} (h : DataW.trod enc Tryz.prog w base spare held fuel 22 cs = some x) : A8 cs := by
 obtain ⟨n, rfl, _, hw⟩ := DataW.trod_int Tryz.underlying22 h
 intro y hy
 simp only [List.mem_singleton] at hy
 exact ⟨n, hy, bounds_i8 hw⟩
theorem a8_three {fuel : Nat} {cs : List Value} {x : DataW H × List MemPlace} (h : DataW.trod enc Tryz.prog w base spare held fuel 23 cs = some x) : A8 cs := by
 obtain ⟨xs, m, _, _, hl, hx, hi⟩ := DataW.trod_array Tryz.underlying23 h
 have hl : cs.length = 3 := hl.trans (by kernel_rfl)
 have h1 : Tryz.prog.cellsOf 22 = 1 := by kernel_rfl
 refine a8_chunks (n := 3) (m := 1) (by omega) hl fun i hi' => ?_
 have := hi i hi'
 rw [h1, List.getElem?_eq_getElem (by omega)] at this
 exact a8_one this
theorem a8_all {fuel : Nat} {cs : List Value} {x : DataW H × List MemPlace} (h : DataW.trod enc Tryz.prog w base spare held fuel 24 cs = some x) : A8 cs /\ cs.length = 24 := by
 obtain ⟨xs, m, _, _, hl, hx, hi⟩ := DataW.trod_array Tryz.underlying24 h
 have hl : cs.length = 24 := hl.trans (by kernel_rfl)
 have h1 : Tryz.prog.cellsOf 23 = 3 := by kernel_rfl
 refine ⟨a8_chunks (n := 8) (m := 3) (by omega) hl fun i hi' => ?_, hl⟩
 have := hi i hi'
 rw [h1, List.getElem?_eq_getElem (by omega)] at this
 exact a8_three this
theorem world_open {r : Reach} {b0 : Nat} {v : Value} {d : DataW H} {p : List MemPlace} (hv : Value.okWide Tryz.prog w r b0 26 v) (h : DataW.Trod enc Tryz.prog w base spare held 26 v d p) :
  ∃ (th : Bool) (kd nm : Int) (ns : List Int), v = .agg (.bool th :: .int .u8 kd :: .int .u8 nm :: ns.map (.int .i8)).toArray /\ 0 <= kd /\ 0 <= nm /\ ns.length = 24 /\ ∀ n, n ∈ ns -> -128 <= n /\ n <= 127 := by
 obtain ⟨cs, rfl, hsz⟩ := okWide_struct Tryz.underlying26 hv
 obtain ⟨fuel, hf⟩ := h
 obtain ⟨y0, y1, y2, y3, n, hx, hl, h0, h1, h2, h3⟩ := Joins.trod_struct4 Tryz.underlying26 hf
 have hl : cs.toList.length = 27 := hl.trans (by kernel_rfl)
 have hcs : (Value.agg cs).cells = cs := rfl
 rw [hcs] at h0 h1 h2 h3
 have c4 : Tryz.prog.cellsOf 4 = 1 := by kernel_rfl
 have c5 : Tryz.prog.cellsOf 5 = 1 := by kernel_rfl
 have c24 : Tryz.prog.cellsOf 24 = 24 := by kernel_rfl
 obtain ⟨th, e0, _⟩ := DataW.trod_bool Tryz.underlying4 h0
 obtain ⟨kd, e1, _, w1⟩ := DataW.trod_int Tryz.underlying5 h1
 obtain ⟨nm, e2, _, w2⟩ := DataW.trod_int Tryz.underlying5 h2
 obtain ⟨ha, _⟩ := a8_all h3
 simp only [c4, c5, c24] at e0 e1 e2 ha
 obtain ⟨l⟩ := cs
 simp only at hl e0 e1 e2 ha
 match l, hl with
 | a :: b :: c :: r, hl =>
  have hr : r.length = 24 := by simpa using hl
  simp only [List.drop_zero, List.take_succ_cons, List.take_zero, List.cons.injEq, and_true, List.drop_succ_cons] at e0 e1 e2
  subst e0; subst e1; subst e2
  have ha : A8 r := by
   have e : (r.take 24) = r := List.take_of_length_le (by omega)
   simpa [e] using ha
  refine ⟨th, kd, nm, r.map (fun x => match x with | .int _ n => n | _ => 0), ?_, by have := bounds_u8 w1; omega, by have := bounds_u8 w2; omega, by simpa using hr, fun n hn => ?_⟩
  ·congr 1
   congr 1
   congr 3
   rw [List.map_map]
   refine ((List.map_congr_left (g := id) fun x hx => ?_).trans (List.map_id r)).symm
   obtain ⟨m, rfl, _⟩ := ha x hx
   rfl
  ·obtain ⟨x, hx, rfl⟩ := List.mem_map.1 hn
   obtain ⟨m, rfl, h1⟩ := ha x hx
   exact h1
end
end Go.Ev

namespace Go.Ev
open Go Go.RowKit Go.Proofs Go.Maps Go.Deep
theorem sl_one {w : World} {S : PSet} {es : List PVal} {v : Value} (h : RepP w S (.sl es) v) : v.oneCell' = true /\ v.cells = #[v] := by
 cases h <;> exact ⟨rfl, rfl⟩
structure TI (w : World) (S0 : PSet) (g n : Nat) (E : Nat -> Nat -> List PVal) (reps : List (PVal × Value)) (len : Nat -> Nat) (R : Nat -> Value) (X : Nat -> List Value) (S : PSet) (wr : World) : Prop where
 below : Below w.heap.size w wr
 glo : w.heap.size <= g
 top : wr.rowIs g 30 n R
 own : ∀ r, r < n -> wr.ownsRow (g + 1) 41 1 (R r) (len r) (X r)
 sep : ∀ r r', r < n -> r' < n -> r ≠ r' -> ∀ b, (R r).ownBlock = some b -> (R r').ownBlock ≠ some b
 val : ∀ r, r < n -> ∀ d v, (X r)[d]? = some v -> RepP wr S (.sl (E r d)) v
 rep : ∀ q, q ∈ reps -> RepP wr S q.1 q.2
 sup : ∀ b o, S0 b o -> S b o
 sub : ∀ b o, S b o -> S0 b o ∨ w.heap.size <= b
 slt : ∀ b o, S b o -> b < wr.heap.size
 sne : ∀ b o, S b o -> b ≠ g /\ ∀ r, r < n -> (R r).ownBlock ≠ some b
section
variable {w wr w1 w2 w3 : World} {S0 S S1 S2 : PSet} {g n : Nat} {E : Nat -> Nat -> List PVal} {reps : List (PVal × Value)} {len : Nat -> Nat} {R : Nat -> Value} {X : Nat -> List Value}
theorem TI.start (hb : Below w.heap.size w w1) (sup : ∀ b o, S0 b o -> S1 b o) (sub : ∀ b o, S1 b o -> S0 b o ∨ w.heap.size <= b) (slt : ∀ b o, S1 b o -> b < w1.heap.size) (hrep : ∀ q, q ∈ reps -> RepP w1 S1 q.1 q.2) :
  TI w S0 w1.heap.size n E reps (fun _ => 0) (fun _ => .slice none 0 0) (fun _ => []) S1 (w1.alloc (.cells (madeCells #[.slice none 0 0] n) 30)) := by
 refine ⟨hb.alloc hb.size _, hb.size, World.rowIs_made w1 _ n 30, fun r _ => World.ownsRow_nil _ _ _ _, fun r r' _ _ _ b h => (by cases h), fun r _ d v h => (by simp at h), fun q hq => ?_, sup, sub, fun b o h => ?_, fun b o h => ⟨?_, fun r _ h => (by cases h)⟩⟩
 ·exact rep_later (hrep q hq) slt ((Below.refl _ _).alloc (Nat.le_refl _) _)
 ·have := slt b o h
  rw [nblk_alloc]; omega
 ·have := slt b o h
  omega
theorem TI.call (h : TI w S0 g n E reps len R X S wr) (hB : Below wr.heap.size wr w2) (k1 : ∀ b o, S b o -> S2 b o) (k2 : ∀ b o, S2 b o -> S b o ∨ wr.heap.size <= b) (k3 : ∀ b o, S2 b o -> b < w2.heap.size) {q : PVal × Value} (hq : RepP w2 S2 q.1 q.2) :
  TI w S0 g n E (q :: reps) len R X S2 w2 := by
 have hgl := h.top.lt
 have hs := h.below.size
 refine ⟨h.below.trans (hB.mono hs), h.glo, h.top.of_block (hB.block g hgl), fun r hr => (h.own r hr).kept (below_grown hB) (by cases hv : (R r).ownBlock <;> simp), h.sep,
  fun r hr d v hv => (rep_later (h.val r hr d v hv) h.slt hB).mono (keeps_refl _ _) k1, fun q' hq' => ?_, fun b o hb => k1 b o (h.sup b o hb), fun b o hb => ?_, k3, fun b o hb => ?_⟩
 ·rcases List.mem_cons.1 hq' with rfl | hq'
  ·exact hq
  ·exact (rep_later (h.rep q' hq') h.slt hB).mono (keeps_refl _ _) k1
 ·rcases k2 b o hb with hb | hb
  ·exact h.sub b o hb
  ·right; omega
 ·rcases k2 b o hb with hb | hb
  ·exact h.sne b o hb
  ·refine ⟨by omega, fun r hr e => ?_⟩
   have := ((h.own r hr).lt b e).2
   omega
theorem TI.drop {q : PVal × Value} (h : TI w S0 g n E (q :: reps) len R X S wr) : TI w S0 g n E reps len R X S wr :=
 { h with rep := fun q' hq' => h.rep q' (List.mem_cons_of_mem _ hq') }
theorem TI.lens {len' : Nat -> Nat} (h : TI w S0 g n E reps len R X S wr) (e : ∀ r, r < n -> len r = len' r) : TI w S0 g n E reps len' R X S wr :=
 { h with own := fun r hr => by rw [<- e r hr]; exact h.own r hr }
theorem own_set {v u : Value} {m i : Nat} {xs : List Value} (h : w.ownsRow (g + 1) 41 1 v m xs) : (w.setCell ⟨g, i, none⟩ u).ownsRow (g + 1) 41 1 v m xs := by
 refine ⟨h.1, ?_⟩
 rcases h.2 with hn | ⟨b, cap, cur, rfl, hb, hg, rest⟩
 ·exact .inl hn
 ·refine .inr ⟨b, cap, cur, rfl, hb, ?_, rest⟩
  rw [blk_setCell_other _ _ _ _ (show b ≠ g by omega)]
  exact hg
theorem TI.app (h : TI w S0 g n E reps len R X S wr) {i : Nat} (hi : i < n) {o : Obj} {v' x : Value} (hown : w3.ownsRow (g + 1) 41 1 v' (len i + 1) (X i ++ [x])) (hg : (wr.alloc o).grownBy w3 (R i).ownBlock)
  (hat : v'.ownBlock = (R i).ownBlock ∨ v'.ownBlock = some (wr.alloc o).heap.size) (hx : RepP wr S (.sl (E i (len i))) x) :
  TI w S0 g n E reps (fun r => if r = i then len i + 1 else len r) (fun j => if j = i then v' else R j) (fun j => if j = i then X i ++ [x] else X j) S (w3.setCell ⟨g, i, none⟩ v') := by
 have hgl := h.top.lt
 have hs := h.below.size
 have hglo := h.glo
 have hRi := (h.own i hi).lt
 have hXi : (X i).length = len i := by simpa using (h.own i hi).1
 have hne : ∀ k, (R i).ownBlock = some k -> k ≠ g := fun k e => by have := (hRi k e).1; omega
 have hsz : wr.heap.size <= w3.heap.size := by have := hg.size; rw [nblk_alloc] at this; omega
 have blk : ∀ k, k < wr.heap.size -> some k ≠ (R i).ownBlock -> k ≠ g -> (w3.setCell ⟨g, i, none⟩ v').heap[k]? = wr.heap[k]? := fun k hk h1 h2 =>
  (blk_setCell_other _ _ _ _ h2).trans ((hg.block k (by rw [nblk_alloc]; omega) h1).trans (blk_alloc_lt _ _ _ hk))
 have keep : Keeps S wr (w3.setCell ⟨g, i, none⟩ v') := .of_blocks fun b c hb => blk b (h.slt b c hb) (fun e => (h.sne b c hb).2 i hi e.symm) (h.sne b c hb).1
 refine ⟨⟨?_, ?_, ?_, ?_, fun k hk => ?_⟩, hglo, ?_, fun r hr => ?_, fun r r' hr hr' hrr b e => ?_, fun r hr d v hv => ?_, fun q hq => (h.rep q hq).mono keep (fun _ _ h => h), h.sup, h.sub, fun b o hb => ?_, fun b o hb => ⟨(h.sne b o hb).1, fun r hr => ?_⟩⟩
 ·exact hg.os.trans h.below.os
 ·exact hg.tape.trans h.below.tape
 ·exact hg.output.trans h.below.output
 ·rw [nblk_setCell]; omega
 ·exact (blk k (by omega) (fun e => by have := (hRi k e.symm).1; omega) (by omega)).trans (h.below.block k hk)
 ·exact ((h.top.alloc o).of_block (hg.block g (by rw [nblk_alloc]; omega) (fun e => hne g e.symm rfl))).set i v'
 ·by_cases e : r = i
  ·subst e
   simp only [if_pos]
   exact own_set hown
  ·simp only [if_neg e]
   refine own_set (((h.own r hr).alloc o).kept hg ?_)
   cases hb : (R r).ownBlock with
   | none => exact .inl rfl
   | some b => exact .inr fun e' => h.sep r i hr hi e b hb e'.symm
 ·by_cases e1 : r = i
  ·subst e1
   have e2 : ¬ r' = r := fun e => hrr e.symm
   simp only [if_pos] at e
   simp only [if_neg e2]
   rcases hat with hat | hat
   ·exact h.sep r r' hr hr' hrr b (hat.symm.trans e)
   ·intro e3
    have := ((h.own r' hr').lt b e3).2
    have e4 : b = (wr.alloc o).heap.size := Option.some.inj (e.symm.trans hat)
    rw [nblk_alloc] at e4
    omega
  ·simp only [if_neg e1] at e
   by_cases e2 : r' = i
   ·subst e2
    simp only [if_pos]
    rcases hat with hat | hat
    ·rw [hat]; exact h.sep r r' hr hr' hrr b e
    ·intro e3
     have := ((h.own r hr).lt b e).2
     have e4 : b = (wr.alloc o).heap.size := Option.some.inj (e3.symm.trans hat)
     rw [nblk_alloc] at e4
     omega
   ·simp only [if_neg e2]
    exact h.sep r r' hr hr' hrr b e
 ·by_cases e : r = i
  ·subst e
   simp only [if_pos] at hv
   by_cases hd : d < len r
   ·rw [List.getElem?_append_left (by omega)] at hv
    exact (h.val r hr d v hv).mono keep (fun _ _ h => h)
   ·have hd2 : d = len r := by
     have := (List.getElem?_eq_some_iff.1 hv).1
     simp only [List.length_append, List.length_singleton] at this
     omega
    subst hd2
    rw [List.getElem?_append_right (by omega), hXi, Nat.sub_self] at hv
    have : x = v := by simpa using hv
    subst this
    exact hx.mono keep (fun _ _ h => h)
  ·simp only [if_neg e] at hv
   exact (h.val r hr d v hv).mono keep (fun _ _ h => h)
 ·have := h.slt b o hb
  rw [nblk_setCell]; omega
 ·by_cases e : r = i
  ·subst e
   simp only [if_pos]
   rcases hat with hat | hat
   ·rw [hat]; exact (h.sne b o hb).2 r hr
   ·intro e3
    have := h.slt b o hb
    have e4 : b = (wr.alloc _).heap.size := Option.some.inj (e3.symm.trans hat)
    rw [nblk_alloc] at e4
    omega
  ·simp only [if_neg e]
   exact (h.sne b o hb).2 r hr
theorem TI.done (h : TI w S0 g n E reps (fun _ => n) R X S wr) (hn : 0 < n) :
  ∃ S', RepP wr S' (.sl ((List.range n).map fun r => xV ((List.range n).map fun d => xV (E r d)))) (.slice (some ⟨g, 0, none⟩) n n) /\ (∀ b o, S0 b o -> S' b o) /\ (∀ b o, S' b o -> S0 b o ∨ w.heap.size <= b) /\ (∀ b o, S' b o -> b < wr.heap.size) := by
 have hglo := h.glo
 let S' : PSet := fun b o => S b o ∨ b = g ∨ ∃ r, r < n /\ (R r).ownBlock = some b
 have hsub : ∀ b o, S b o -> S' b o := fun b o hb => .inl hb
 have rowrep : ∀ r, r < n -> RepP wr S' (.sl ((List.range n).map fun d => xV (E r d))) (R r) := by
  intro r hr
  obtain ⟨hl, hc⟩ := h.own r hr
  rcases hc with ⟨_, h0⟩ | ⟨b, cap, cur, hv, hbg, hcur, hcap, _, hsz, htake⟩
  ·omega
  ·have key : ∀ d (hd : d < n), (X r)[d]? = some ((X r)[d]'(by omega)) := fun d hd => List.getElem?_eq_getElem (by omega)
   have hlen : ((List.range n).map fun d => xV (E r d)).length = n := by simp
   have := RepP.sl (w := wr) (S := S') ((List.range n).map fun d => xV (E r d)) b 0 cap 1 (fun d => (X r).getD d undef) (by rw [hlen]; exact hcap) (fun d hd => ?_) (fun d hd => ?_)
   ·rw [hlen] at this
    rw [hv]; exact this
   ·rw [hlen] at hd
    have e1 : ((List.range n).map fun d => xV (E r d))[d]'(by simpa using hd) = xV (E r d) := by simp
    rw [e1, List.getD_eq_getElem?_getD, key d hd]
    exact (h.val r hr d _ (key d hd)).mono (keeps_refl _ _) hsub
   ·rw [hlen] at hd
    have e2 : (X r).getD d undef = (X r)[d]'(by omega) := by rw [List.getD_eq_getElem?_getD, key d hd]; rfl
    have ho := sl_one (h.val r hr d _ (key d hd))
    dsimp only
    rw [e2]
    refine ⟨by rw [ho.2]; rfl, fun j hj => ⟨.inr (.inr ⟨r, hr, by rw [hv]; rfl⟩), _, ?_, ho.1, ?_⟩⟩
    ·have : j = 0 := by omega
     subst this
     rw [ho.2]; rfl
    ·have : j = 0 := by omega
     subst this
     have h1 : (cur.toList.take (n * 1))[d]? = some ((X r)[d]'(by omega)) := by rw [htake]; exact key d hd
     rw [List.getElem?_take_of_lt (by omega), Array.getElem?_toList] at h1
     simp only [World.cell?, hcur]
     simpa using h1
 refine ⟨S', ?_, fun b o hb => hsub b o (h.sup b o hb), fun b o hb => ?_, fun b o hb => ?_⟩
 ·have hlen : ((List.range n).map fun r => xV ((List.range n).map fun d => xV (E r d))).length = n := by simp
  have := RepP.sl (w := wr) (S := S') ((List.range n).map fun r => xV ((List.range n).map fun d => xV (E r d))) g 0 n 1 R (by rw [hlen]; exact Nat.le_refl _) (fun r hr => ?_) (fun r hr => ?_)
  ·rw [hlen] at this
   exact this
  ·rw [hlen] at hr
   have e1 : ((List.range n).map fun r => xV ((List.range n).map fun d => xV (E r d)))[r]'(by simpa using hr) = xV ((List.range n).map fun d => xV (E r d)) := by simp
   rw [e1]
   exact rowrep r hr
  ·rw [hlen] at hr
   have ho := sl_one (rowrep r hr)
   refine ⟨by rw [ho.2]; rfl, fun j hj => ⟨.inr (.inl rfl), R r, ?_, ho.1, ?_⟩⟩
   ·have : j = 0 := by omega
    subst this
    rw [ho.2]; rfl
   ·have : j = 0 := by omega
    subst this
    have := h.top.cell hr
    simpa using this
 ·rcases hb with hb | rfl | ⟨r, hr, e⟩
  ·exact h.sub b o hb
  ·right; omega
  ·have := ((h.own r hr).lt b e).1
   right; omega
 ·rcases hb with hb | rfl | ⟨r, hr, e⟩
  ·exact h.slt b o hb
  ·exact h.top.lt
  ·exact ((h.own r hr).lt b e).2
end
end Go.Ev

namespace Go.Ev
open Go Go.RowKit Go.Proofs Go.Maps Go.Deep
theorem info30 : (Tryz.prog.info? 30).map (fun i => (i.zero, i.size, i.bytes)) = some (some (.slice none 0 0), 1, 24) := by kernel_rfl
theorem g54Γ (p n : List PVal) (K : RRes -> Bool) : Γ94 false 54 [xA [xV p, xV n]] K = Q54 p n (fun z1 => K (.tup [.p (.lit (.pointer Option.none)), .p (xI z1)])) (fun z0_0 z0_1 z0_2 z1 => K (.tup [.p (.adr [xA [xV z0_0, xV z0_1, xV z0_2]] 0 0), .p (xI z1)])) := by kernel_rfl
section
variable {ps : List Int} {D : Nat} {notes : List (List Int)} {W0 : World}
theorem pure54 (hΓ : SoundΓ Tryz.prog W0 Γ94) (h : Sc ps D notes) : Pure Tryz.prog W0 54 [xA [xV (encPs ps), xV (encZs D notes)]] (.tup [.p (vw ps D notes), .p (xI 0)]) :=
 pure_of hΓ fun K => by rw [g54Γ, l54 h]
theorem Pure.one1 {P : Program} {f : Nat} {p0 q : PVal} {b : Value} (h : Pure P W0 f [p0] (.tup [.p q, .p (.lit b)])) {w : World} (hb : Below W0.heap.size W0 w) {S : PSet} (hlt : ∀ b o, S b o -> b < w.heap.size) {v0 : Value} (h0 : RepP w S p0 v0) :
  Calls P f #[v0] w fun e w' => ∃ v S', e = .returned (.tuple #[v, b]) /\ Below w.heap.size w w' /\ (∀ b o, S b o -> S' b o) /\ (∀ b o, S' b o -> S b o ∨ w.heap.size <= b) /\ (∀ b o, S' b o -> b < w'.heap.size) /\ RepP w' S' q v := by
 refine (h.2 w S #[v0] hb hlt rfl (fun i hi => ?_)).mono ?_
 ·simp only [List.length_cons, List.length_nil] at hi
  rcases i with _ | i
  ·exact h0
  ·omega
 ·rintro e w' ⟨v, S', rfl, h1, k1, k2, k3, us, rfl, hs, h2, _⟩
  have e0 := h2 0 (by simp)
  have e1 := repP_lit (h2 1 (by simp))
  have hs2 : us.size = 2 := by simpa using hs
  refine ⟨us[0], S', ?_, h1, k1, k2, k3, e0⟩
  congr 2
  apply Array.ext
  ·simpa using hs
  ·intro i h1 h2
   simp only [List.size_toArray, List.length_cons, List.length_nil] at h2
   rcases i with _ | _ | i
   ·rfl
   ·exact e1
   ·omega
theorem agg_mk2 {w : World} {S : PSet} {p0 p1 : PVal} {v0 v1 : Value} (h0 : RepP w S p0 v0) (h1 : RepP w S p1 v1) : RepP w S (.agg [p0, p1]) (.agg #[v0, v1]) := by
 refine .agg _ _ rfl fun i hi => ?_
 simp only [List.length_cons, List.length_nil] at hi
 rcases i with _ | _ | i
 ·exact h0
 ·exact h1
 ·omega
theorem box_cell {w w1 : World} {a b : Value} {t : TypeId} (h : Below (w.alloc (.cells #[a, b] t)).heap.size (w.alloc (.cells #[a, b] t)) w1) : w1.cell? ⟨w.heap.size, 1, none⟩ = some b := by
 refine (h.cell (p := ⟨w.heap.size, 1, none⟩) (by rw [nblk_alloc]; exact Nat.lt_succ_self _)).trans ?_
 simp only [World.cell?, heap_alloc_new]
 rfl
theorem TI.topg {w wr w3 : World} {S0 S : PSet} {g n : Nat} {E : Nat -> Nat -> List PVal} {reps : List (PVal × Value)} {len : Nat -> Nat} {R : Nat -> Value} {X : Nat -> List Value} (h : TI w S0 g n E reps len R X S wr) {i : Nat} (hi : i < n) {o : Obj}
  (hg : (wr.alloc o).grownBy w3 (R i).ownBlock) : w3.cell? ⟨g, i, none⟩ = some (R i) /\ w3.frozen? ⟨g, i, none⟩ = false := by
 have hgl := h.top.lt
 have := (h.top.alloc o).of_block (hg.block g (by rw [nblk_alloc]; omega) (fun e => by have := ((h.own i hi).lt g e.symm).1; omega))
 exact ⟨this.cell hi, this.frozen i⟩
theorem len_step (i r k : Nat) : (if r = i then (if i < i then k + 1 else k) + 1 else if r < i then k + 1 else k) = if r < i + 1 then k + 1 else k := by
 rw [if_neg (Nat.lt_irrefl i)]
 by_cases e1 : r = i
 ·rw [if_pos e1, if_pos (by omega)]
 ·rw [if_neg e1]
  by_cases e2 : r < i
  ·rw [if_pos e2, if_pos (by omega)]
  ·rw [if_neg e2, if_neg (by omega)]
theorem own_slice {w : World} {base : Nat} {e : TypeId} {size n : Nat} {v : Value} {xs : List Value} (h : w.ownsRow base e size v n xs) : ∃ a n c, v = .slice a n c := by
 rcases h.2 with ⟨rfl, _⟩ | ⟨_, _, _, rfl, _⟩ <;> exact ⟨_, _, _, rfl⟩
def tabZ (D : Nat) (notes : List (List Int)) : List PVal := (List.range notes.length).map fun r => xV ((List.range notes.length).map fun d => xV (encZ D (dif notes (d + 1) r)))
set_option maxRecDepth 100000 in
set_option maxHeartbeats 4000000 in
theorem table_walk (hΓ : SoundΓ Tryz.prog W0 Γ94) (h : Sc ps D notes) (w : World) (hbw : Below W0.heap.size W0 w) (S : PSet) (hlt : ∀ b o, S b o -> b < w.heap.size) (v0 v1 : Value)
  (u0 : RepP w S (xV (encPs ps)) v0) (u1 : RepP w S (xV (encZs D notes)) v1) :
  Calls Tryz.prog 25 #[.agg #[v0, v1]] w fun e w' => ∃ v S', e = .returned (.tuple #[v, .int .i64 0]) /\ Below w.heap.size w w' /\ (∀ b o, S b o -> S' b o) /\ (∀ b o, S' b o -> S b o ∨ w.heap.size <= b) /\ (∀ b o, S' b o -> b < w'.heap.size) /\ RepP w' S' (xV (tabZ D notes)) v := by
 have hn9 := h.len
 have hne := h.ne
 obtain ⟨i0, hi, hz0, hz1, hz2⟩ := info_parts info41
 obtain ⟨nb, no, ncap, NV, rfl, hnb, _⟩ := rows_at (f := fun z => encZ D z) u1 hne hlt
 have h54 : ∀ wa, Below w.heap.size w wa -> Calls Tryz.prog 54 #[.agg #[v0, .slice (some ⟨nb, no, none⟩) notes.length ncap]] wa fun e w1 => ∃ pv S1, e = .returned (.tuple #[pv, .int .i64 0]) /\ Below wa.heap.size wa w1 /\ Below w.heap.size w w1 /\ (∀ b o, S b o -> S1 b o) /\
   (∀ b o, S1 b o -> S b o ∨ w.heap.size <= b) /\ (∀ b o, S1 b o -> b < w1.heap.size) /\ RepP w1 S1 (vw ps D notes) pv := by
  intro wa hwa
  refine ((pure54 hΓ h).one1 (hbw.trans (hwa.mono hbw.size)) (fun b o hb => Nat.lt_of_lt_of_le (hlt b o hb) hwa.size) (agg_mk2 (rep_later u0 hlt hwa) (rep_later u1 hlt hwa))).mono ?_
  rintro e w1 ⟨pv, S1, rfl, hB, k1, k2, k3, hr⟩
  have hs := hwa.size
  exact ⟨pv, S1, rfl, hB, hwa.trans (hB.mono hs), k1, fun b o hb => (k2 b o hb).imp_right fun x => by omega, k3, hr⟩
 have hmk := run_make_row' (P := Tryz.prog) 55 30 (.slice none 0 0) 24 Tryz.underlying55 info30 rfl .i64 .i64 notes.length (by omega) (by omega)
 go_enter Tryz.func25, Tryz.ntmps25
 go_wp2_with (first
  | (go_at_call 54; refine (h54 _ ((Below.refl _ _).alloc (Nat.le_refl _) _)).mono ?_; rintro e w1 ⟨pv, S1, rfl, hB0, hB1, k1, k2, k3, hpv⟩; have hbx := box_cell hB0; have hbx2 := fun ob => box_cell (hB0.alloc hB0.size ob))
  | go_in)
 go_loopw [27] (fun i wr => ∃ k : Nat, k <= notes.length /\ i = .int .i64 k /\ ∃ R X Sx, TI w S w1.heap.size notes.length (fun r d => encZ D (dif notes (d + 1) r)) [(vw ps D notes, pv)] (fun _ => k) R X Sx wr)
  (fun i _ => notes.length - (intOf i).toNat)
 case atStart =>
  refine ⟨0, Nat.zero_le _, rfl, _, _, S1, TI.start hB1 k1 k2 k3 fun q hq => ?_⟩
  obtain rfl : q = (vw ps D notes, pv) := by simpa using hq
  exact hpv
 case round =>
  obtain ⟨k, hk, rfl, R, X, Sx, hT⟩ := hrel
  clear hbx hbx2 hmk h54 hB0
  by_cases hkn : k < notes.length
  ·have hbr := hbw.trans (hT.below.mono hbw.size)
   have hpr := hT.rep (vw ps D notes, pv) (by simp)
   have h55 : ∀ z : Int, z = ((k + 1 : Nat) : Int) -> Calls Tryz.prog 55 #[pv, .int .i64 z] wr fun e w2 => ∃ lb lo cap S2, e = .returned (.tuple #[.slice (some ⟨lb, lo, none⟩) notes.length cap, .int .i64 0]) /\
     TI w S w1.heap.size notes.length (fun r d => encZ D (dif notes (d + 1) r)) [(xV (encZs D ((List.range notes.length).map (dif notes (k + 1)))), .slice (some ⟨lb, lo, none⟩) notes.length cap), (vw ps D notes, pv)] (fun _ => k) R X S2 w2 := by
    rintro z rfl
    refine ((pure55 hΓ h (c := k + 1) (by omega)).row hbr hT.slt hpr (.lit _)).mono ?_
    rintro e w2 ⟨lv, S2, rfl, hB, q1, q2, q3, hlv⟩
    obtain ⟨lb, lo, cap, V, rfl, _, _⟩ := rows_at (f := fun z => encZ D z) hlv (by simpa using hne) q3
    have hl : ((List.range notes.length).map (dif notes (k + 1))).length = notes.length := by simp
    rw [hl] at hlv ⊢
    exact ⟨lb, lo, cap, S2, rfl, hT.call hB q1 q2 q3 (q := (_, _)) hlv⟩
   clear hpr hbr
   go_wp2_with (first
    | (go_at_call 55; refine (h55 _ (by go_num)).mono ?_; rintro e w2 ⟨lb, lo, cap, S2, rfl, hT2⟩)
    | go_in)
   go_loopw [42] (fun iv wi => ∃ i : Nat, i <= notes.length /\ iv = .int .i64 i /\ ∃ R X, TI w S w1.heap.size notes.length (fun r d => encZ D (dif notes (d + 1) r)) [(xV (encZs D ((List.range notes.length).map (dif notes (k + 1)))), .slice (some ⟨lb, lo, none⟩) notes.length cap), (vw ps D notes, pv)] (fun r => if r < i then k + 1 else k) R X S2 wi)
    (fun iv _ => notes.length - (intOf iv).toNat)
   case atStart => exact ⟨0, Nat.zero_le _, rfl, R, X, hT2.lens (fun r _ => by simp)⟩
   case round =>
    clear hT2 hT h55
    obtain ⟨i, hik, rfl, R', X', hT'⟩ := hrel
    by_cases hin : i < notes.length
    ·have hlv := hT'.rep (_, _) (List.mem_cons_self ..)
     obtain ⟨lb', lo', cap', V, hv, hlb, hVV⟩ := rows_at (f := fun z => encZ D z) hlv (by simpa using hne) hT'.slt
     have hv1 : lb = lb' /\ lo = lo' := by
      injection hv with hv
      injection hv with hv
      injection hv with h1 h2
      exact ⟨h1, h2⟩
     obtain ⟨rfl, rfl⟩ := hv1
     obtain ⟨hVi, hGi⟩ := hVV i (by simpa using hin)
     have hGi : RepP wr S2 (.sl (encZ D (dif notes (k + 1) i))) (V i) := by simpa using hGi
     obtain ⟨ca, cn, cc, hVs⟩ : ∃ a n c, V i = .slice a n c := by
      generalize V i = u at hGi ⊢
      generalize encZ D (dif notes (k + 1) i) = es at hGi
      cases hGi <;> exact ⟨_, _, _, rfl⟩
     rw [hVs] at hVi hGi
     have hri : wr.ownsRow (w1.heap.size + 1) 41 1 (R' i) k (X' i) := by
      have := hT'.own i hin
      rw [if_neg (Nat.lt_irrefl i)] at this
      exact this
     have hst := hT'.top.cell hin
     have hgl := hT'.top.lt
     have HT := Lib.hid hT'
     have HG := Lib.hid hGi
     have htg := fun (w4 : World) (o : Obj) (hg : (wr.alloc o).grownBy w4 (R' i).ownBlock) => hT'.topg hin hg
     clear hVV hT' hGi hlv hv
     go_wp2_with (first
      | (at_builtin; refine wpList_append_own_at _ rfl _ _ 30 rfl (w1.heap.size + 1) 41 i0 (.slice none 0 0) 1 24 Tryz.underlying30 hi hz0 hz1 hz2 rfl (by decide) _ _ _ rfl (hri.alloc _) ⟨wr.heap.size, 0, none⟩ 1 1 [.slice ca cn cc] rfl rfl (cell_one_new _ _ _) (by simp [Value.oneCell']) (by unfold maxLen; omega) (by omega) (by simp; omega) ?_; intro v' w4 hown' hg4 hnil4 hat4; obtain ⟨va, vn, vc, rfl⟩ := own_slice hown'; have htg4 := htg _ _ hg4; have hst4 := htg4.1; have hfz4 := htg4.2; go_frame)
      | go_in)
     have hT2 := HT.out.app hin (v' := .slice va vn vc) (x := .slice ca cn cc) (by rw [if_neg (Nat.lt_irrefl i)]; exact hown') hg4 hat4 (by rw [if_neg (Nat.lt_irrefl i)]; exact HG.out)
     clear HT HG hown' hg4 htg hst hri
     go_roundw
     case rel => exact ⟨i + 1, by omega, by go_num, _, _, hT2.lens (fun r _ => len_step i r k)⟩
     case measure => simp [intOf]; omega
    ·obtain rfl : i = notes.length := by omega
     go_wp2
     go_roundw
     case rel => exact ⟨k + 1, by omega, by go_num, _, _, S2, (hT'.lens (fun r hr => by rw [if_pos hr])).drop⟩
     case measure => simp [intOf]; omega
  ·obtain rfl : k = notes.length := by omega
   go_wp2
   refine bodyPost_ret (results_tmp2 rfl _ _ _) rfl ?_
   obtain ⟨S', r1, r2, r3, r4⟩ := hT.done hne
   exact ⟨_, S', rfl, hT.below, r2, r3, r4, r1⟩
end
end Go.Ev

namespace Go.Ev
open Go Go.RowKit Go.Proofs
section
variable {ps : List Int} {D : Nat} {notes : List (List Int)} {W0 : World}
theorem getD_zR (notes : List (List Int)) (j : Nat) : (notes.map (zR D)).getD j [] = zR D (notes.getD j []) := by
 rw [List.getD_eq_getElem?_getD, List.getElem?_map, List.getD_eq_getElem?_getD]
 cases notes[j]? <;> rfl
theorem noteQ_zR (hD : 0 < D) (i : Nat) : noteQ (notes.map (zR D)) i = zR D (noteZ notes i) := by
 unfold noteQ noteZ
 rw [List.length_map, getD_zR, getD_zR, zR_scale]
 dsimp only
 split
 ·rfl
 ·rw [zR_add hD]
theorem tabQ_zR (hD : 0 < D) : tabQ (notes.map (zR D)) = tabZ D notes := by
 unfold tabQ tabZ
 rw [List.length_map]
 apply List.map_congr_left
 intro r _
 congr 1
 apply List.map_congr_left
 intro d _
 rw [noteQ_zR hD, noteQ_zR hD, zR_sub hD]
 rfl
theorem decLs_sc (h : Sc ps D notes) : decLs (encZs D notes) = some (notes.map (zR D)) := by
 have hD := h.dok
 rw [encZs_L]
 refine decLs_ok fun v hv => ?_
 obtain ⟨z, hz, rfl⟩ := List.mem_map.1 hv
 exact zR_SV (by omega) ((h.vec z hz).2.mono (by omega))
theorem l25 (h : Sc ps D notes) (K : List PVal -> Int -> Bool) : H25 (encPs ps) (encZs D notes) K = K (tabZ D notes) 0 := by
 rw [H25_def]; unfold D25
 rw [decPs_ok, decLs_sc h]
 simp only
 rw [if_pos ⟨D, notes, h, rfl, rfl, encZs_L _ _⟩, tabQ_zR h.dok.1]
theorem arg1_agg2 {w : World} {S : PSet} {vs : Array Value} {p0 p1 : PVal} (hs : vs.size = [PVal.agg [p0, p1]].length) (hr : ∀ i (hi : i < [PVal.agg [p0, p1]].length), RepP w S [PVal.agg [p0, p1]][i] (vs[i]'(hs ▸ hi))) :
  ∃ v0 v1, vs = #[.agg #[v0, v1]] /\ RepP w S p0 v0 /\ RepP w S p1 v1 := by
 have h1 : vs.size = 1 := by simpa using hs
 have h0 := hr 0 (by simp)
 have e : vs = #[vs[0]] := by
  apply Array.ext
  ·simpa using h1
  ·intro i h1 h3
   have : i = 0 := by simpa using h3
   subst this
   rfl
 generalize vs[0] = v at h0 e
 subst e
 have h0 : RepP w S (.agg [p0, p1]) v := h0
 cases h0 with
 | agg cs us hsz hcs =>
  have h2 : us.size = 2 := by simpa using hsz
  refine ⟨us[0], us[1], congrArg (fun u => #[Value.agg u]) ?_, hcs 0 (by simp), hcs 1 (by simp)⟩
  apply Array.ext
  ·simpa using h2
  ·intro i h1 h3
   simp only [List.size_toArray, List.length_cons, List.length_nil] at h3
   rcases i with _ | _ | i
   ·rfl
   ·rfl
   ·omega
theorem hand25 (hΓ : SoundΓ Tryz.prog W0 Γ94) : Hand25 W0 := fun p n1 K hK => by
 rw [H25_def] at hK; unfold D25 at hK
 split at hK
 ·next ps l1 hp h1 =>
  split at hK
  ·next hx =>
   obtain ⟨D, notes, h, rfl, rfl, rfl⟩ := hx
   rw [tabQ_zR h.dok.1] at hK
   refine ⟨_, ⟨enters Tryz.func25 (by kernel_rfl) (by kernel_rfl), fun w S vs hbw hlt hs hr => ?_⟩, hK⟩
   obtain ⟨v0, v1, rfl, r0, r1⟩ := arg1_agg2 hs hr
   rw [<- encZs_L] at r1
   refine (table_walk hΓ h w hbw S hlt v0 v1 r0 r1).mono ?_
   rintro e w' ⟨v, S', rfl, q1, q2, q3, q4, q5⟩
   refine ⟨_, S', rfl, q1, q2, q3, q4, _, rfl, rfl, fun i hi => ?_, fun i j hi hj h1 => ?_⟩
   ·simp only [List.length_cons, List.length_nil] at hi
    rcases i with _ | _ | i
    ·exact q5
    ·exact .lit _
    ·omega
   ·simp only [List.length_cons, List.length_nil] at hi
    rcases i with _ | _ | i
    ·cases h1
    ·cases h1
    ·omega
  ·cases hK
 ·cases hK
def rowZ (D : Nat) (notes : List (List Int)) (r : Nat) : List PVal := (List.range notes.length).map fun d => xV (encZ D (dif notes (d + 1) r))
theorem tabZ_len : (tabZ D notes).length = notes.length := by simp [tabZ]
theorem tabZ_at {r : Nat} (hr : r < notes.length) : (tabZ D notes)[r]? = some (xV (rowZ D notes r)) := by
 unfold tabZ rowZ
 rw [List.getElem?_map, List.getElem?_range hr]; rfl
theorem rowZ_len {r : Nat} : (rowZ D notes r).length = notes.length := by simp [rowZ]
theorem rowZ_at {r d : Nat} (hd : d < notes.length) : (rowZ D notes r)[d]? = some (xV (encZ D (dif notes (d + 1) r))) := by
 unfold rowZ
 rw [List.getElem?_map, List.getElem?_range hd]; rfl
theorem tables (h : Sc ps D notes) (K : Bool -> Bool) :
  (H25 (encPs ps) (encZs D notes) (fun z4v z5v => (bif (z5v != 0) then (K false) else (bif ((nI z4v.length) != (nI (encZs D notes).length)) then (K false) else (L7_0_0 (fun y21v => (K y21v)) ((K true)) fuel z4v 0 (encPs ps) (encZs D notes)))))) = K true := by
 have hne := h.ne
 have hle := h.len
 rw [l25 h]
 simp only [bne_self_eq_false, cond_false, tabZ_len, encZs_len]
 have key := loop_iter (fun n (i : Nat) => LP7_0 (fun y21v => (K y21v)) ((K true)) n (tabZ D notes) (i : Int) (encPs ps) (encZs D notes)) notes.length (fun i => i) (R := K true) (fun i hi n => ?_) (fun n => ?_) fuel (fuel_gt (by omega))
 ·exact key
 ·simp only [LP7_0, St7_0_0, tabZ_len, lt_nI hi, cond_true, ge0, gd_true, Int.toNat_natCast, tabZ_at hi, oOpt, oSl, rowZ_len, encZs_len, bne_self_eq_false, cond_false]
  have key2 := loop_iter (fun m (d : Nat) => LP7_2 (fun y16v => K y16v) (fun y17v y18v y19v y20v => (LP7_0 (fun y21v => (K y21v)) ((K true)) n y17v (wI (y18v + 1)) y19v y20v)) m (tabZ D notes) (i : Int) ((d + 1 : Nat) : Int) (encPs ps) (encZs D notes)) notes.length (fun d => d)
   (R := LP7_0 (fun y21v => (K y21v)) ((K true)) n (tabZ D notes) ((i + 1 : Nat) : Int) (encPs ps) (encZs D notes)) (fun d hd m => ?_) (fun m => ?_) fuel (fuel_gt (by omega))
  ·exact key2
  ·have hl : decide (((d + 1 : Nat) : Int) <= nI notes.length) = true := by simp [nI]; omega
   have hw : wI (((d + 1 : Nat) : Int) - 1) = (d : Int) := by rw [wI_eq (by omega)]; omega
   have o := dif_ok h (c := d + 1) (by omega) hi
   simp only [LP7_2, St7_2_0, ge0, gd_true, Int.toNat_natCast, tabZ_at hi, oOpt, oSl, rowZ_len, hl, cond_true, hw, rowZ_at hd]
   rw [l26 h (by omega) hi, l17z h.psok h.dok o.1 o.1 (o.2.mono (by omega)) (o.2.mono (by omega)), decide_eq_true rfl]
   simp only [Bool.not_true, cond_false]
   rw [wI_succ (by omega)]
  ·have hl : decide (((notes.length + 1 : Nat) : Int) <= nI notes.length) = false := by simp [nI]; omega
   simp only [LP7_2, St7_2_0, ge0, gd_true, Int.toNat_natCast, tabZ_at hi, oOpt, oSl, rowZ_len, hl, cond_false]
   rw [wI_succ (by omega)]
 ·simp only [LP7_0, St7_0_0, tabZ_len, lt_nI', cond_false]
end
theorem l7 (th : Bool) {kd nm : Int} {n0 n1 n2 n3 n4 n5 n6 n7 n8 n9 n10 n11 n12 n13 n14 n15 n16 n17 n18 n19 n20 n21 n22 n23 : Int} (hk : 0 <= kd) (hn : 0 <= nm) (h : ∀ i, i < 8 -> (-128 <= (sAt n0 n1 n2 n3 n4 n5 n6 n7 n8 n9 n10 n11 n12 n13 n14 n15 n16 n17 n18 n19 n20 n21 n22 n23 i).1 /\ (sAt n0 n1 n2 n3 n4 n5 n6 n7 n8 n9 n10 n11 n12 n13 n14 n15 n16 n17 n18 n19 n20 n21 n22 n23 i).1 <= 127) /\ (-128 <= (sAt n0 n1 n2 n3 n4 n5 n6 n7 n8 n9 n10 n11 n12 n13 n14 n15 n16 n17 n18 n19 n20 n21 n22 n23 i).2.1 /\ (sAt n0 n1 n2 n3 n4 n5 n6 n7 n8 n9 n10 n11 n12 n13 n14 n15 n16 n17 n18 n19 n20 n21 n22 n23 i).2.1 <= 127) /\ (-128 <= (sAt n0 n1 n2 n3 n4 n5 n6 n7 n8 n9 n10 n11 n12 n13 n14 n15 n16 n17 n18 n19 n20 n21 n22 n23 i).2.2 /\ (sAt n0 n1 n2 n3 n4 n5 n6 n7 n8 n9 n10 n11 n12 n13 n14 n15 n16 n17 n18 n19 n20 n21 n22 n23 i).2.2 <= 127)) (K : Bool -> Bool) :
  Q7 th kd nm n0 n1 n2 n3 n4 n5 n6 n7 n8 n9 n10 n11 n12 n13 n14 n15 n16 n17 n18 n19 n20 n21 n22 n23 K = K true := by
 obtain ⟨D, notes, hs, h12⟩ := l12 th hk hn h
 rw [Q7_def]; unfold G7
 rw [l11]
 simp only [Bool.not_true, cond_false]
 rw [h12]
 exact tables hs K
end Go.Ev
