/- What the printed functions come to at small numbers, and the mathematics of scales and classes. No conditions but those of each -/
import Derived.Maps.RangeWalk
import Derived.Sort.KeysCollected
import Derived.Sort.OwnSorted
import Derived.OwnWalk
import Derived.StringKeys
import Derived.ChangeSame
import Derived.ChangeVars
import Derived.JoinedOf
import Derived.RowKitTokens
import Derived.LaidLaws
import Derived.LaidHandle
import Derived.Stop.Joined
import Derived.LaidMore
import Derived.OpenShut
import Derived.Lib.SmallJoins
import Derived.Lib.LaidTab
import Derived.ProofKit
import Derived.Maps.AppendAt
import Derived.Deep.OwnRows
import Derived.Lib.SliceRun
import Derived.Test.YthgolelddficaaaGreatDoorRows
import Derived.Test.YthgolelddficaaaGreatDoorXp0
import Derived.Test.YthgolelddficaaaGreatDoorXp1
import Derived.Test.YthgolelddficaaaGreatDoorXp2
import Derived.Test.YthgolelddficaaaGreatDoorXp3
import Derived.Test.YthgolelddficaaaGreatDoorXl0
set_option linter.unusedVariables false
set_option linter.unusedSimpArgs false
namespace Go.Ev
open Go Go.RowKit
theorem l17 {a b : List Rat} (ha : SV a) (hb : SV b) (hl : a.length < 1000) (hl' : b.length < 1000) (K : Bool -> Bool) : Q17 (encS a) (encS b) K = K (decide (a = b)) := by
 rw [Q17_def]; unfold G17 L17_0_0
 rw [encS_len, encS_len]
 by_cases h : a.length = b.length
 ·have e0 : ((nI a.length) != (nI b.length)) = false := by rw [h]; simp
  rw [e0, cond_false]
  have key := any_loop (F := fun n i => LP17_0 (fun y7v => K y7v) (K true) n (encS a) (encS b) (i : Int)) (m := a.length) (p := fun i => !decide (a.getD i 0 = b.getD i 0))
   (R := fun _ => K false) (T := K false) (R' := K true) (fun i hi hp n => ?_) (fun _ _ => rfl) (fun i hi hp n => ?_) (fun n => ?_) fuel (fuel_gt (by omega))
  ·refine key.trans ?_
   by_cases he : a = b
   ·subst he
    have : ((List.range a.length).any fun i => !decide (a.getD i 0 = a.getD i 0)) = false := by simp
    rw [this, decide_eq_true rfl]; rfl
   ·have : ((List.range a.length).any fun i => !decide (a.getD i 0 = b.getD i 0)) = true := by
     cases hx : ((List.range a.length).any fun i => !decide (a.getD i 0 = b.getD i 0)) with
     | true => rfl
     | false =>
      rw [List.any_eq_false] at hx
      refine absurd (List.ext_getElem h fun i h1 h2 => ?_) he
      have := hx i (List.mem_range.2 h1)
      rw [List.getD_eq_getElem?_getD, List.getD_eq_getElem?_getD, List.getElem?_eq_getElem h1, List.getElem?_eq_getElem h2] at this
      simpa using this
    rw [this, decide_eq_false he]; rfl
  ·simp only [LP17_0, St17_0_0, encS_len, lt_nI hi, cond_true, ge0, gd_true, Int.toNat_natCast, get_encS' hi, get_encS' (v := b) (show i < b.length by omega), oOpt, oR_xQ]
   rw [SQ.eqs (ha _ (getD_memR hi)) (hb _ (getD_memR (by omega))), hp, cond_true]
  ·have hp : decide (a.getD i 0 = b.getD i 0) = true := by simpa using hp
   simp only [LP17_0, St17_0_0, encS_len, lt_nI hi, cond_true, ge0, gd_true, Int.toNat_natCast, get_encS' hi, get_encS' (v := b) (show i < b.length by omega), oOpt, oR_xQ]
   rw [SQ.eqs (ha _ (getD_memR hi)) (hb _ (getD_memR (by omega))), hp, Bool.not_true, cond_false, wI_succ (by omega)]
  ·simp only [LP17_0, St17_0_0, encS_len, lt_nI', cond_false]
 ·have e0 : ((nI a.length) != (nI b.length)) = true := by simp [nI]; omega
  rw [e0, cond_true, decide_eq_false (fun e => h (by rw [e]))]
theorem l122 (n : Int) (h : -1000000000000000000 < n /\ n < 1000000000000000000) (K : ByteArray -> Bool) : Q122 (itoaB n) K = K (itoaB (-n)) := by
 rw [Q122_def]; unfold G122
 rw [l151]
 by_cases hn : n < 0
 ·rw [decide_eq_true hn]
  show Q165 false _ _ = _
  rw [Q165_def]; unfold G165
  have : (n.natAbs : Int) = -n := by omega
  rw [this]; rfl
 ·rw [decide_eq_false hn]
  show Q165 true _ _ = _
  rw [Q165_def]; unfold G165
  rw [eq30 (by omega)]
  by_cases h0 : n = 0
  ·subst h0; rfl
  ·rw [decide_eq_false (by omega)]
   have hsz : decide (s_2d.size + (itoaB (n.natAbs : Int)).size <= 1099511627776) = true := by
    have := size_le18 (n := (n.natAbs : Int)) 
    have h2 : (itoaB (n.natAbs : Int)).size <= 18 := size_le18 (by omega)
    have h3 : s_2d.size = 1 := rfl
    simp; omega
   show gd _ _ = _
   rw [hsz, gd_true]
   have : s_2d ++ itoaB (n.natAbs : Int) = itoaB (-(n.natAbs : Int)) := itoaB_neg (by omega)
   rw [this]
   congr 2; omega
theorem l57 {a b : Rat} (ha : SQ a) (hb : SQ b) (K : ByteArray -> ByteArray -> Bool) : Q57 (itoaB a.num) (itoaB a.den) (itoaB b.num) (itoaB b.den) K = K (itoaB (a - b).num) (itoaB (a - b).den) := by
 have hbn := hb.1
 rw [Q57_def]; unfold G57
 rw [Q90_def]; unfold G90
 rw [l122 _ (by omega)]
 have hn := SQ_neg hb
 have := l89 ha hn K
 rw [Rat.neg_num, Rat.neg_den] at this
 rw [Rat.sub_eq_add_neg]
 exact this
section
variable {ps : List Int} {D : Nat} {notes : List (List Int)}
theorem l17z (hps : PsOk ps) (hD : 0 < D /\ D < 3000) {a b : List Int} (la : a.length = ps.length) (lb : b.length = ps.length) (ha : ZS 30000 a) (hb : ZS 30000 b) (K : Bool -> Bool) : Q17 (encZ D a) (encZ D b) K = K (decide (a = b)) := by
 have := hps.len
 rw [l17 (zR_SV (by omega) ha) (zR_SV (by omega) hb) (by simp; omega) (by simp; omega)]
 congr 1
 exact decide_eq_decide.2 ⟨fun e => zR_inj hD.1 e, fun e => by rw [e]⟩
theorem l22z (hps : PsOk ps) (hD : 0 < D /\ D < 3000) {ns : List PVal} {a b : List Int} (la : a.length = ps.length) (lb : b.length = ps.length) (ha : ZS 15000 a) (hb : ZS 15000 b) (hd : decZ ps (zsub a b)) (K : Bool -> Bool) :
  Q22 (encPs ps) ns (encZ D a) (encZ D b) K = K (decide (cmpZ ps (zsub a b) < 0)) := by
 rw [Q22_def]; unfold G22; rw [l50z hps hD la lb ha hb hd]
theorem l56 (h : Sc ps D notes) {i : Nat} (hi : i <= 2 * notes.length) (K : List PVal -> Bool) : Q56 (encPs ps) (encZs D notes) (i : Int) K = K (encZ D (noteZ notes i)) := by
 have hne := h.ne
 have hle := h.len
 have hl := last_vec h
 rw [Q56_def]; unfold G56
 rw [Q88_def]; unfold G88
 rw [encZs_len]
 have e0 : ((nI notes.length) == 0) = false := beq_eq_false_iff_ne.2 (by simp [nI]; exact List.length_pos_iff.1 hne)
 have et : Int.tmod (i : Int) (nI notes.length) = ((i % notes.length : Nat) : Int) := (Int.ofNat_tmod i notes.length).symm
 have ed : Int.tdiv (i : Int) (nI notes.length) = ((i / notes.length : Nat) : Int) := (Int.ofNat_tdiv i notes.length).symm
 have hq : i / notes.length <= 2 := by
  have := Nat.div_le_div_right (c := notes.length) hi
  rw [Nat.mul_div_cancel _ hne] at this
  exact this
 have hm := Nat.mod_lt i hne
 have en : noteZ notes i = if i % notes.length = 0 then zscale (notes.getD (notes.length - 1) []) (i / notes.length : Nat) else zadd (zscale (notes.getD (notes.length - 1) []) (i / notes.length : Nat)) (notes.getD (i % notes.length - 1) []) := rfl
 rw [en]
 generalize i / notes.length = q at *
 generalize i % notes.length = r at *
 have hw1 : wI ((nI notes.length) - 1) = ((notes.length - 1 : Nat) : Int) := by
  show wI ((notes.length : Int) - 1) = _
  rw [wI_eq (by omega)]; omega
 rw [e0, et, ed, decide_eq_false (show ¬ (((r : Nat) : Int) < 0) by omega)]
 simp only [cond_false]
 rw [hw1, ge0, gd_true, Int.toNat_natCast, get_encZs (by omega)]
 simp only [oOpt, oSl]
 rw [wI_eq (by omega)]
 have h39 := l39 (n := ((q : Nat) : Int)) (d := 1) (by omega) (by omega) (by omega)
 refine (h39 _).trans ?_
 rw [mkRat1]
 have h38 := l38z h.psok h.dok (k := ((q : Nat) : Int)) hl.1 (hl.2.mono (by omega)) (by omega)
 refine (h38 _).trans ?_
 by_cases hz : r = 0
 ·rw [if_pos hz, hz]
  rfl
 ·rw [if_neg hz, decide_eq_true (show ((r : Nat) : Int) > 0 by omega), cond_true]
  have hw2 : wI (((r : Nat) : Int) - 1) = ((r - 1 : Nat) : Int) := by rw [wI_eq (by omega)]; omega
  rw [hw2, ge0, gd_true, Int.toNat_natCast, get_encZs (by omega)]
  simp only [oOpt, oSl]
  have hv := h.vec _ (getD_mem (l := notes) (i := r - 1) (by omega))
  have hsc : ZS 3000 (zscale (notes.getD (notes.length - 1) []) ((q : Nat) : Int)) := (hl.2.scale (m := 3) (by omega) (by omega)).mono (by omega)
  rw [l97z h.psok h.dok (by rw [zscale_len, hl.1]) hv.1 (hsc.mono (by omega)) (hv.2.mono (by omega))]
theorem l26 (h : Sc ps D notes) {c i : Nat} (hc : c <= notes.length) (hi : i < notes.length) (K : List PVal -> Bool) : Q26 (encPs ps) (encZs D notes) (i : Int) (c : Int) K = K (encZ D (dif notes c i)) := by
 have hne := h.ne
 have hle := h.len
 have hpl := h.psok.len
 have hD := h.dok
 rw [Q26_def]; unfold G26
 have ew : wI ((i : Int) + (c : Int)) = ((i + c : Nat) : Int) := by rw [wI_eq (by omega)]; simp
 rw [l56 h (by omega), ew, l56 h (by omega)]
 obtain ⟨a1, a2⟩ := noteZ_ok h (i := i + c) (by omega)
 obtain ⟨b1, b2⟩ := noteZ_ok h (i := i) (by omega)
 have e1 : zR D (dif notes c i) = vsub (zR D (noteZ notes (i + c))) (zR D (noteZ notes i)) := by rw [zR_sub hD.1]; rfl
 have sa : SV (zR D (noteZ notes (i + c))) := zR_SV (by omega) (a2.mono (by omega))
 have sb : SV (zR D (noteZ notes i)) := zR_SV (by omega) (b2.mono (by omega))
 have lab : (zR D (noteZ notes (i + c))).length = (zR D (noteZ notes i)).length := by rw [zR_len, zR_len, a1, b1]
 have la : (zR D (noteZ notes i)).length = ps.length := by rw [zR_len, b1]
 show L26_0_0 (K []) (fun y19v => (K y19v)) fuel (encS (zR D (noteZ notes i))) (encS (zR D (noteZ notes (i + c)))) 0 = K (encS (zR D (dif notes c i)))
 rw [e1]
 generalize zR D (noteZ notes (i + c)) = b at *
 generalize zR D (noteZ notes i) = a at *
 unfold L26_0_0
 have key := append_loop (A := fun n j => (LP26_0 (K []) (fun y19v => K y19v) n).1 (encS a) (encS b) j) (B := fun n j acc => (LP26_0 (K []) (fun y19v => K y19v) n).2 (encS a) (encS b) j acc)
  (m := a.length) (f := fun j => xQ (b.getD j 0 - a.getD j 0)) (R := fun acc => K acc) (by omega) (fun n => ?_) (fun j h0 hj n acc hacc => ?_) (fun n acc ha => ?_) fuel (fuel_gt (by omega))
 ·rw [show encS (vsub b a) = (List.range a.length).map fun j => xQ (b.getD j 0 - a.getD j 0) by
   apply List.ext_getElem
   ·simp [vsub, lab]
   ·intro j h1 h2
    have hj : j < a.length := by simpa using h2
    have hj' : j < b.length := by omega
    simp [vsub, hj, hj']]
  exact key
 ·have hm : decide ((0 : Int) < nI a.length) = true := lt_nI (i := 0) (by omega)
  simp only [LP26_0, St26_0_0]
  rw [encS_len, hm, cond_true, show ((0 : Int)).toNat = 0 from rfl, get_encS' (v := b) (by omega), get_encS' (v := a) (by omega)]
  show Q57 _ _ _ _ _ = _
  rw [l57 (sa _ (getD_memR (by omega))) (sb _ (getD_memR (by omega))), wI_eq (by omega)]
  rfl
 ·simp only [LP26_0, St26_0_1, encS_len, lt_nI hj, cond_true, ge0, gd_true, Int.toNat_natCast, get_encS' hj, get_encS' (v := b) (show j < b.length by omega), oOpt, oR_xQ]
  rw [l57 (sa _ (getD_memR (by omega))) (sb _ (getD_memR (by omega))), wI_succ (by omega)]
  simp only [maxE hacc (by omega), gd_true]
 ·simp only [LP26_0, St26_0_1, encS_len, lt_nI', cond_false]
end
end Go.Ev

namespace Go.Ev
open Go Go.RowKit
def insS (ps : List Int) (x : List Int) : List (List Int) -> List (List Int)
 | [] => [x]
 | y :: ys => if cmpZ ps (zsub y x) < 0 then y :: insS ps x ys else if y = x then y :: ys else x :: y :: ys
def idx (ps : List Int) (x : List Int) : List (List Int) -> Nat
 | [] => 0
 | y :: ys => if cmpZ ps (zsub y x) < 0 then idx ps x ys + 1 else 0
section
variable {ps : List Int} {D : Nat} {notes : List (List Int)}
theorem idx_le (x : List Int) : ∀ l, idx ps x l <= l.length
 | [] => Nat.le_refl _
 | y :: ys => by
  unfold idx
  have := idx_le x ys
  split <;> simp <;> omega
theorem idx_lt (x : List Int) : ∀ (l : List (List Int)) (i : Nat), i < idx ps x l -> cmpZ ps (zsub (l.getD i []) x) < 0
 | [], i, h => by simp [idx] at h
 | y :: ys, i, h => by
  unfold idx at h
  split at h
  ·next hc =>
   match i with
   | 0 => exact hc
   | i + 1 =>
    have := idx_lt x ys i (by omega)
    simpa using this
  ·omega
theorem idx_at (x : List Int) : ∀ (l : List (List Int)), idx ps x l < l.length -> ¬ cmpZ ps (zsub (l.getD (idx ps x l) []) x) < 0
 | [], h => by simp at h
 | y :: ys, h => by
  unfold idx at h ⊢
  split
  ·next hc =>
   rw [if_pos hc] at h
   have := idx_at x ys (by simpa using h)
   simpa using this
  ·next hc => simpa using hc
theorem insS_idx (x : List Int) : ∀ (l : List (List Int)), insS ps x l = if idx ps x l < l.length /\ l.getD (idx ps x l) [] = x then l else l.take (idx ps x l) ++ x :: l.drop (idx ps x l)
 | [] => by simp [insS, idx]
 | y :: ys => by
  have ih := insS_idx x ys
  unfold insS idx
  by_cases hc : cmpZ ps (zsub y x) < 0
  ·rw [if_pos hc, if_pos hc, ih]
   simp only [List.length_cons, Nat.add_lt_add_iff_right, List.getD_cons_succ, List.take_succ_cons, List.drop_succ_cons, List.cons_append]
   split <;> rfl
  ·rw [if_neg hc, if_neg hc]
   simp
theorem insS_mem (x : List Int) : ∀ (l : List (List Int)) (a : List Int), a ∈ insS ps x l ↔ a = x ∨ a ∈ l
 | [], a => by simp [insS]
 | y :: ys, a => by
  unfold insS
  split
  ·rw [List.mem_cons, insS_mem x ys, List.mem_cons]
   constructor
   ·rintro (h | h | h)
    ·exact .inr (.inl h)
    ·exact .inl h
    ·exact .inr (.inr h)
   ·rintro (h | h | h)
    ·exact .inr (.inl h)
    ·exact .inl h
    ·exact .inr (.inr h)
  ·split
   ·next he =>
    subst he
    rw [List.mem_cons]
    constructor
    ·exact .inr
    ·rintro (h | h)
     ·exact .inl h
     ·exact h
   ·rw [List.mem_cons]
theorem insS_sorted (x : List Int) : ∀ (l : List (List Int)), (∀ y, y ∈ l -> (cmpZ ps (zsub y x) < 0 ↔ phi ps y < phi ps x) /\ (phi ps y = phi ps x ↔ y = x)) -> l.Pairwise (fun a b => phi ps a < phi ps b) -> (insS ps x l).Pairwise (fun a b => phi ps a < phi ps b)
 | [], _, _ => by simp [insS]
 | y :: ys, h, hp => by
  obtain ⟨h1, h2⟩ := List.pairwise_cons.1 hp
  obtain ⟨hy1, hy2⟩ := h y (by simp)
  unfold insS
  split
  ·next hc =>
   refine List.pairwise_cons.2 ⟨fun a ha => ?_, insS_sorted x ys (fun z hz => h z (by simp [hz])) h2⟩
   rcases (insS_mem x ys a).1 ha with rfl | ha
   ·exact hy1.1 hc
   ·exact h1 a ha
  ·next hc =>
   split
   ·exact hp
   ·next he =>
    have h3 : ¬ phi ps y < phi ps x := fun e => hc (hy1.2 e)
    have h4 : ¬ phi ps y = phi ps x := fun e => he (hy2.1 e)
    refine List.pairwise_cons.2 ⟨fun a ha => ?_, hp⟩
    rcases List.mem_cons.1 ha with rfl | ha
    ·omega
    ·have := h1 a ha; omega
theorem insS_len (x : List Int) (l : List (List Int)) : (insS ps x l).length <= l.length + 1 := by
 induction l with
 | nil => simp [insS]
 | cons y ys ih =>
  unfold insS
  split
  ·simp; omega
  ·split <;> simp
def sizesL (ps : List Int) (notes : List (List Int)) (c m : Nat) : List (List Int) := (List.range m).foldl (fun acc i => insS ps (dif notes c i) acc) []
theorem sizesL_succ (c m : Nat) : sizesL ps notes c (m + 1) = insS ps (dif notes c m) (sizesL ps notes c m) := by
 unfold sizesL
 rw [List.range_succ, List.foldl_append]; rfl
theorem sizesL_len (c : Nat) : ∀ m, (sizesL ps notes c m).length <= m
 | 0 => Nat.le_refl _
 | m + 1 => by
  rw [sizesL_succ]
  have h1 := insS_len (ps := ps) (dif notes c m) (sizesL ps notes c m)
  have h2 := sizesL_len c m
  omega
theorem sizesL_mem (c : Nat) : ∀ m a, a ∈ sizesL ps notes c m ↔ a ∈ (List.range m).map (dif notes c)
 | 0, a => by simp [sizesL]
 | m + 1, a => by
  rw [sizesL_succ, insS_mem, sizesL_mem c m, List.range_succ, List.map_append, List.mem_append]
  simp only [List.map_cons, List.map_nil, List.mem_singleton]
  exact or_comm
theorem dif_cmp (h : Sc ps D notes) {c d : Nat} (hc : c <= notes.length) (hd : d <= notes.length) {x y : List Int} (hx : x ∈ (List.range notes.length).map (dif notes c)) (hy : y ∈ (List.range notes.length).map (dif notes d)) :
  (cmpZ ps (zsub x y) < 0 ↔ phi ps x < phi ps y) /\ (0 < cmpZ ps (zsub x y) ↔ phi ps y < phi ps x) /\ (phi ps x = phi ps y ↔ x = y) /\ (cmpZ ps (zsub x y) = 0 ↔ x = y) := by
 have ox := difs_ok h hc hx
 have oy := difs_ok h hd hy
 obtain ⟨i, hi, rfl⟩ := List.mem_map.1 hx
 obtain ⟨j, hj, rfl⟩ := List.mem_map.1 hy
 exact cmp_phi h.psok ox.1 oy.1 (h.dec c d i j hc hd (List.mem_range.1 hi) (List.mem_range.1 hj))
theorem sizesL_sorted (h : Sc ps D notes) {c : Nat} (hc : c <= notes.length) : ∀ m, m <= notes.length -> (sizesL ps notes c m).Pairwise (fun a b => phi ps a < phi ps b)
 | 0, _ => List.Pairwise.nil
 | m + 1, hm => by
  rw [sizesL_succ]
  refine insS_sorted _ _ (fun y hy => ?_) (sizesL_sorted h hc m (by omega))
  have hy := (sizesL_mem _ _ _).1 hy
  obtain ⟨j, hj, rfl⟩ := List.mem_map.1 hy
  have hj := List.mem_range.1 hj
  have := dif_cmp h hc hc (x := dif notes c j) (y := dif notes c m) (List.mem_map.2 ⟨j, List.mem_range.2 (by omega), rfl⟩) (List.mem_map.2 ⟨m, List.mem_range.2 (by omega), rfl⟩)
  exact ⟨this.1, this.2.2.1⟩
theorem sizesZ_sorted (h : Sc ps D notes) {c : Nat} (hc : c <= notes.length) : (sizesZ ps notes c).Pairwise (fun a b => phi ps a < phi ps b) := by
 unfold sizesZ
 refine strict_of _ (gsort_sorted _ fun a ha b hb => ?_) (gsort_nodup _ (dd_nodup _)) fun a ha b hb => ?_
 ·exact (dif_cmp h hc hc ((dd_mem _ _).1 ha) ((dd_mem _ _).1 hb)).1
 ·exact (dif_cmp h hc hc ((dd_mem _ _).1 ((gsort_mem _ _ _).1 ha)) ((dd_mem _ _).1 ((gsort_mem _ _ _).1 hb))).2.2.1.1
theorem sizesL_eq (h : Sc ps D notes) {c : Nat} (hc : c <= notes.length) : sizesL ps notes c notes.length = sizesZ ps notes c :=
 sorted_unique _ _ (sizesL_sorted h hc _ (Nat.le_refl _)) (sizesZ_sorted h hc) fun a => by rw [sizesL_mem, sizesZ_mem]
theorem loop15 (h : Sc ps D notes) {x : List Int} {acc : List (List Int)} {n0 n1 : Int} {e0 : Int -> Int -> List PVal -> Int -> List PVal -> List PVal -> Bool} {e1 : Int -> Int -> List PVal -> Int -> List PVal -> List PVal -> List PVal -> Bool}
  (hx : x.length = ps.length /\ ZS 6000 x) (ha : ∀ y, y ∈ acc -> (y.length = ps.length /\ ZS 6000 y) /\ decZ ps (zsub y x)) (hl : acc.length < 100) :
  L15_2_1 e0 e1 fuel n0 n1 (encZ D x) 0 (encPs ps) (encZs D notes) (encZs D acc) = e1 n0 n1 (encZ D x) (idx ps x acc : Int) (encPs ps) (encZs D notes) (encZs D acc) := by
 have hi := idx_le (ps := ps) x acc
 unfold L15_2_1
 have step : ∀ i, i < acc.length -> ∀ n, (LP15_2 e0 e1 (n + 1)).2 n0 n1 (encZ D x) (i : Int) (encPs ps) (encZs D notes) (encZs D acc) =
   bif decide (cmpZ ps (zsub (acc.getD i []) x) < 0) then (LP15_2 e0 e1 n).2 n0 n1 (encZ D x) ((i + 1 : Nat) : Int) (encPs ps) (encZs D notes) (encZs D acc) else e1 n0 n1 (encZ D x) (i : Int) (encPs ps) (encZs D notes) (encZs D acc) := by
  intro i hia n
  have hy := ha _ (getD_mem hia)
  simp only [LP15_2, St15_2_1, encZs_len, lt_nI hia, cond_true, ge0, Bool.and_self, gd_true, Int.toNat_natCast, get_encZs hia, oOpt, oSl]
  rw [l22z h.psok h.dok hy.1.1 hx.1 (hy.1.2.mono (by omega)) (hx.2.mono (by omega)) hy.2, wI_succ (by omega)]
 have key := loop_iter (fun n (i : Nat) => (LP15_2 e0 e1 n).2 n0 n1 (encZ D x) (i : Int) (encPs ps) (encZs D notes) (encZs D acc)) (idx ps x acc) (fun i => i) (R := e1 n0 n1 (encZ D x) (idx ps x acc : Int) (encPs ps) (encZs D notes) (encZs D acc))
  (fun i hil n => ?_) (fun n => ?_) fuel (fuel_gt (by omega))
 ·exact key
 ·rw [step i (by omega), decide_eq_true (idx_lt x acc i hil), cond_true]
 ·by_cases he : idx ps x acc < acc.length
  ·rw [step _ he, decide_eq_false (idx_at x acc he), cond_false]
  ·have : idx ps x acc = acc.length := by omega
   rw [this]
   simp only [LP15_2, St15_2_1, encZs_len, lt_nI', cond_false]
theorem l15 (h : Sc ps D notes) {c : Nat} (hc : c <= notes.length) (K : List PVal -> Bool) : Q15 (encPs ps) (encZs D notes) (c : Int) K = K (encZs D (sizesZ ps notes c)) := by
 have hne := h.ne
 have hle := h.len
 rw [<- sizesL_eq h hc]
 rw [Q15_def]; unfold G15 L15_0_0
 have dok : ∀ i, i < notes.length -> (dif notes c i).length = ps.length /\ ZS 6000 (dif notes c i) := fun i hi => dif_ok h hc hi
 have key := loop_iter (fun n (s : Nat × List (List Int)) => (LP15_0 (K []) (fun y38v => K y38v) n).2 (c : Int) (s.1 : Int) (encPs ps) (encZs D notes) (encZs D s.2)) (notes.length - 1)
  (fun i => (i + 1, sizesL ps notes c (i + 1))) (R := K (encZs D (sizesL ps notes c notes.length)))
  (fun i hi n => ?_) (fun n => ?_)
 ·obtain ⟨f, hf⟩ := fuel_add 1
  have hk := key f (by have := fuel_eq; omega)
  rw [hf]
  show St15_0_0 (LP15_0 (K []) (fun y38v => K y38v) f).1 (LP15_0 (K []) (fun y38v => K y38v) f).2 (K []) (fun y38v => K y38v) (c : Int) 0 (encPs ps) (encZs D notes) = _
  have h0 : decide ((0 : Int) < nI notes.length) = true := lt_nI (i := 0) hne
  unfold St15_0_0
  rw [encZs_len, h0, cond_true]
  have h26 := l26 h hc (i := 0) hne
  rw [Int.natCast_zero] at h26
  rw [h26]
  unfold L15_2_0
  obtain ⟨f2, hf2⟩ := fuel_add 1
  rw [hf2]
  have hw : wI (0 + 1) = ((1 : Nat) : Int) := by decide
  show (LP15_0 (K []) (fun y38v => K y38v) f).2 (c : Int) (wI (0 + 1)) (encPs ps) (encZs D notes) [xV (encZ D (dif notes c 0))] = _
  rw [hw]
  have e1 : sizesL ps notes c 1 = [dif notes c 0] := rfl
  rw [show (0 : Nat) + 1 = 1 from rfl, e1] at hk
  exact hk
 ·dsimp only
  have hi1 : i + 1 < notes.length := by omega
  have hacc := sizesL_len (ps := ps) (notes := notes) c (i + 1)
  have hmem := fun y hy => (sizesL_mem (ps := ps) (notes := notes) c (i + 1) y).1 hy
  rw [sizesL_succ c (i + 1)]
  generalize sizesL ps notes c (i + 1) = acc at *
  have hx := dok (i + 1) hi1
  have ha : ∀ y, y ∈ acc -> (y.length = ps.length /\ ZS 6000 y) /\ decZ ps (zsub y (dif notes c (i + 1))) := by
   intro y hy
   obtain ⟨j, hj, rfl⟩ := List.mem_map.1 (hmem y hy)
   have hj := List.mem_range.1 hj
   exact ⟨dok j (by omega), h.dec c c j (i + 1) hc hc (by omega) hi1⟩
  simp only [LP15_0, St15_0_1, encZs_len, lt_nI hi1, cond_true]
  rw [l26 h hc hi1, loop15 h hx ha (by omega)]
  generalize dif notes c (i + 1) = x at *
  have hil := idx_le (ps := ps) x acc
  have hins := insS_idx (ps := ps) x acc
  have hat : ∀ a, a ∈ acc -> (a.length = ps.length /\ ZS 6000 a) := fun a h => (ha a h).1
  generalize idx ps x acc = k at *
  have ecat : ([] ++ (((encZs D acc).drop 0).take (k - 0)) ++ [xV (encZ D x)]) ++ (((encZs D acc).drop k).take ((encZs D acc).length - k)) = encZs D (acc.take k ++ x :: acc.drop k) := by
   have h2 : ((encZs D acc).drop k).take (acc.length - k) = (encZs D acc).drop k := List.take_of_length_le (by simp)
   rw [encZs_len, h2]
   simp only [List.nil_append, List.drop_zero, Nat.sub_zero, encZs, List.map_append, List.map_cons, List.map_take, List.map_drop]
   rw [List.append_assoc]
   rfl
  have lt1 : ((encZs D acc).take k).length = k := by simp; omega
  have lt2 : (((encZs D acc).drop k).take (acc.length - k)).length = acc.length - k := by simp
  have hmax : ∀ m, m <= 100 -> decide (m <= maxElems) = true := fun m hm => decide_eq_true (by unfold maxElems; omega)
  have guards : ∀ X : Bool, (gd (decide (0 <= (k : Int))) (gd (decide (0 <= ((k : Int)).toNat) && decide (((k : Int)).toNat <= (encZs D acc).length) && true) (gd (true && decide (0 + (((k : Int)).toNat - 0) <= (encZs D acc).length)) (gd (decide (0 + (((encZs D acc).drop 0).take (((k : Int)).toNat - 0)).length <= maxElems)) (gd (decide (([] ++ (((encZs D acc).drop 0).take (((k : Int)).toNat - 0))).length + 1 <= maxElems)) (gd (decide (0 <= (k : Int))) (gd (decide (((k : Int)).toNat <= (encZs D acc).length) && decide ((encZs D acc).length <= (encZs D acc).length) && true) (gd (true && decide (((k : Int)).toNat + ((encZs D acc).length - ((k : Int)).toNat) <= (encZs D acc).length)) (gd (decide ((([] ++ (((encZs D acc).drop 0).take (((k : Int)).toNat - 0))) ++ [(xV (encZ D x))]).length + (((encZs D acc).drop ((k : Int)).toNat).take ((encZs D acc).length - ((k : Int)).toNat)).length <= maxElems)) X))))))))) = X := by
   intro X
   simp only [Int.toNat_natCast, encZs_len, ge0, Nat.zero_le, decide_true, Bool.true_and, Bool.and_true, Nat.sub_zero, Nat.zero_add, List.drop_zero, List.nil_append, List.length_append, List.length_singleton, lt1, lt2, Nat.le_refl, gd_true, decide_eq_true hil]
   rw [hmax _ (by omega), hmax _ (by omega), hmax _ (by omega), decide_eq_true (show k + (acc.length - k) <= acc.length by omega)]
   rfl
  have fin : ∀ X : List PVal -> Bool, (gd (decide (0 <= (k : Int))) (gd (decide (0 <= ((k : Int)).toNat) && decide (((k : Int)).toNat <= (encZs D acc).length) && true) (gd (true && decide (0 + (((k : Int)).toNat - 0) <= (encZs D acc).length)) (gd (decide (0 + (((encZs D acc).drop 0).take (((k : Int)).toNat - 0)).length <= maxElems)) (gd (decide (([] ++ (((encZs D acc).drop 0).take (((k : Int)).toNat - 0))).length + 1 <= maxElems)) (gd (decide (0 <= (k : Int))) (gd (decide (((k : Int)).toNat <= (encZs D acc).length) && decide ((encZs D acc).length <= (encZs D acc).length) && true) (gd (true && decide (((k : Int)).toNat + ((encZs D acc).length - ((k : Int)).toNat) <= (encZs D acc).length)) (gd (decide ((([] ++ (((encZs D acc).drop 0).take (((k : Int)).toNat - 0))) ++ [(xV (encZ D x))]).length + (((encZs D acc).drop ((k : Int)).toNat).take ((encZs D acc).length - ((k : Int)).toNat)).length <= maxElems)) (X ((([] ++ (((encZs D acc).drop 0).take (((k : Int)).toNat - 0))) ++ [(xV (encZ D x))]) ++ (((encZs D acc).drop ((k : Int)).toNat).take ((encZs D acc).length - ((k : Int)).toNat))))))))))))) = X (encZs D (acc.take k ++ x :: acc.drop k)) := by
   intro X
   rw [guards, Int.toNat_natCast, ecat]
  by_cases hk : k < acc.length
  ·rw [encZs_len, lt_nI hk, cond_true, ge0, Int.toNat_natCast, get_encZs hk]
   simp only [Bool.and_self, gd_true, oOpt, oSl]
   have hy := hat _ (getD_mem hk)
   rw [l17z h.psok h.dok hy.1 hx.1 (hy.2.mono (by omega)) (hx.2.mono (by omega))]
   by_cases he : acc.getD k [] = x
   ·rw [decide_eq_true he, hins, if_pos ⟨hk, he⟩]
    rw [cond_true, wI_succ (by omega)]
   ·rw [decide_eq_false he, hins, if_neg (fun e => he e.2), wI_succ (by omega)]
    rw [cond_false]
    have := fin (fun l => (LP15_0 (K []) (fun y38v => K y38v) n).2 (c : Int) ((i + 1 + 1 : Nat) : Int) (encPs ps) (encZs D notes) l)
    rw [encZs_len, Int.toNat_natCast] at this
    exact this
  ·have hke : k = acc.length := by omega
   have hlt : decide ((k : Int) < nI (encZs D acc).length) = false := by rw [encZs_len, hke]; exact lt_nI' _
   rw [hlt, hins, if_neg (fun e => hk e.1), wI_succ (by omega), cond_false]
   exact fin (fun l => (LP15_0 (K []) (fun y38v => K y38v) n).2 (c : Int) ((i + 1 + 1 : Nat) : Int) (encPs ps) (encZs D notes) l)
 ·dsimp only
  have : notes.length - 1 + 1 = notes.length := by omega
  rw [this]
  simp only [LP15_0, St15_0_1, encZs_len, lt_nI', cond_false]
end
end Go.Ev

namespace Go.Ev
open Go Go.RowKit
section
variable {ps : List Int} {D : Nat} {notes : List (List Int)} {T : Nat -> List Int -> Prop}
theorem noteZ_T0 (F : Fam ps T) (hps : PsOk ps) (hn : 0 < notes.length) (hT : ∀ z, z ∈ notes -> T 1 z) (hlast : notes.getD (notes.length - 1) [] = octZ D ps) (i : Nat) : T 1 (noteZ notes i) := by
 unfold noteZ
 dsimp only
 rw [hlast]
 have h0 := octq_T (D := D) F hps (i / notes.length : Nat)
 split
 ·exact F.mono (by omega) h0
 ·refine F.add h0 (hT _ (getD_mem ?_))
  have := Nat.mod_lt i hn
  omega
end
def majorZ : List (List Int) := [[-3, 2], [-6, 4], [2, -1], [-1, 1], [-4, 3], [-7, 5], [1, 0]]
theorem major_Sc : Sc [2, 3] 1 majorZ := by
 have F := fam_B (ps := [2, 3]) (.inl rfl)
 have hT : ∀ z, z ∈ majorZ -> TB [2, 3] 1 z := by
  intro z hz
  simp only [majorZ, List.mem_cons, List.not_mem_nil, or_false] at hz
  rcases hz with rfl | rfl | rfl | rfl | rfl | rfl | rfl <;> exact ⟨rfl, by simp⟩
 have nT := noteZ_T0 (D := 1) F (.inl rfl) (by decide) hT rfl
 refine ⟨.inl rfl, by omega, by decide, by decide, ?_, fun c d i j _ _ _ _ => dec_T F (.inl rfl) (F.sub (nT _) (nT _)) (F.sub (nT _) (nT _)) (by omega), ?_⟩
 ·intro z hz
  simp only [majorZ, List.mem_cons, List.not_mem_nil, or_false] at hz
  rcases hz with rfl | rfl | rfl | rfl | rfl | rfl | rfl <;> exact ⟨rfl, by intro x hx; simp at hx; omega⟩
 ·intro i hi
  have h7 : majorZ.length = 7 := rfl
  rw [h7] at hi
  match i, hi with
  | 0, _ => exact ⟨.inr (.inr (by decide)), by decide⟩
  | 1, _ => exact ⟨.inr (.inr (by decide)), by decide⟩
  | 2, _ => exact ⟨.inr (.inr (by decide)), by decide⟩
  | 3, _ => exact ⟨.inr (.inr (by decide)), by decide⟩
  | 4, _ => exact ⟨.inr (.inr (by decide)), by decide⟩
  | 5, _ => exact ⟨.inr (.inr (by decide)), by decide⟩
  | 6, _ => exact ⟨.inr (.inr (by decide)), by decide⟩
theorem major_vars : varsZ [2, 3] majorZ = [2, 2, 2, 2, 2, 2] := by decide +kernel
theorem major_kind : kindZ [2, 3] majorZ = 2 := by decide +kernel
theorem major_const : constZ [2, 3] majorZ = Option.none := by decide +kernel
theorem major_ord : ordZ [2, 3] majorZ 1 = some 3 := by decide +kernel
theorem l33 (K : List PVal -> List PVal -> Bool) : Q33 K = K (encPs [2, 3]) (encZs 1 majorZ) := by
 have q : ∀ (a b : Int), -100 < a /\ a < 100 -> -100 < b /\ b < 100 -> ∀ K0 K1 : List PVal -> Bool, Q66 [xI a, xI b] K0 K1 = K1 (encZ 1 [a, b]) := by
  intro a b ha hb K0 K1
  exact l66 (l := [a, b]) (fun x hx => by simp at hx; omega) (by simp) (by simp) K0 K1
 rw [Q33_def]; unfold G33
 rw [q (-3) 2 (by omega) (by omega), q (-6) 4 (by omega) (by omega), q 2 (-1) (by omega) (by omega), q (-1) 1 (by omega) (by omega), q (-4) 3 (by omega) (by omega), q (-7) 5 (by omega) (by omega), q 1 0 (by omega) (by omega)]
 rfl
theorem l11 (K : Bool -> Bool) : Q11 K = K true := by
 rw [Q11_def]; unfold G11
 rw [l33, l13 major_Sc, l14 major_Sc, l20 major_Sc, major_ord]
 dsimp only
 rw [l18 major_Sc, major_const, major_vars, major_kind]
 rfl
end Go.Ev

namespace Go.Ev
open Go Go.RowKit
section
variable {ps : List Int} {D : Nat} {notes : List (List Int)}
end
end Go.Ev

namespace Go.Ev
open Go Go.RowKit
theorem itoa_byte {n : Int} {c : UInt8} (h : c ∈ Lib.itoa n) : c.toNat = 45 ∨ (48 <= c.toNat /\ c.toNat <= 57) := by
 unfold Lib.itoa at h
 split at h
 ·rcases List.mem_cons.1 h with rfl | h
  ·exact .inl rfl
  ·exact .inr (decDigits_dig _ _ h)
 ·exact .inr (decDigits_dig _ _ h)
theorem itoa_no {n : Int} {c : UInt8} (h : c.toNat = 32 ∨ c.toNat = 40 ∨ c.toNat = 41 ∨ c.toNat = 47 ∨ c.toNat = 94) : c ∉ Lib.itoa n := fun hm => by
 have := itoa_byte hm
 omega
theorem itoa_inj {n m : Int} (h1 : -1000000000000000000 < n) (h2 : n < 1000000000000000000) (h3 : -1000000000000000000 < m) (h4 : m < 1000000000000000000) (h : Lib.itoa n = Lib.itoa m) : n = m :=
 itoaB_inj h1 h2 h3 h4 (by unfold itoaB; rw [h])
theorem cut_inj {α : Type} {c : α} : ∀ {a b x y : List α}, c ∉ a -> c ∉ b -> a ++ c :: x = b ++ c :: y -> a = b /\ x = y
 | [], [], x, y, _, _, h => ⟨rfl, by simpa using h⟩
 | [], d :: b, x, y, _, hb, h => by
  simp only [List.nil_append, List.cons_append, List.cons.injEq] at h
  exact absurd h.1 (fun e => hb (by simp [e]))
 | d :: a, [], x, y, ha, _, h => by
  simp only [List.nil_append, List.cons_append, List.cons.injEq] at h
  exact absurd h.1.symm (fun e => ha (by simp [e]))
 | d :: a, e :: b, x, y, ha, hb, h => by
  simp only [List.cons_append, List.cons.injEq] at h
  obtain ⟨h1, h2⟩ := cut_inj (fun hm => ha (List.mem_cons_of_mem _ hm)) (fun hm => hb (List.mem_cons_of_mem _ hm)) h.2
  exact ⟨by rw [h.1, h1], h2⟩
def fracL (q : Rat) : List UInt8 := if q.den = 1 then Lib.itoa q.num else Lib.itoa q.num ++ 47 :: Lib.itoa q.den
def segL (p : Int) (q : Rat) : List UInt8 := if q = 1 then Lib.itoa p else if q.den = 1 /\ 0 < q.num then Lib.itoa p ++ 94 :: fracL q else Lib.itoa p ++ 94 :: (40 :: fracL q ++ [41])
def segsL (ps : List Int) (v : List Rat) : List (List UInt8) := ((ps.zip v).filter fun x => decide (x.2 ≠ 0)).map fun x => segL x.1 x.2
def txtL (ps : List Int) (v : List Rat) : List UInt8 := if segsL ps v = [] then [49] else joinL [32] (segsL ps v)
theorem frac_no {q : Rat} {c : UInt8} (h : c.toNat = 32 ∨ c.toNat = 40 ∨ c.toNat = 41 ∨ c.toNat = 94) : c ∉ fracL q := by
 have h1 : ∀ n : Int, c ∉ Lib.itoa n := fun n => itoa_no (by omega)
 have h2 : c ≠ 47 := by rintro rfl; revert h; decide
 unfold fracL
 split
 ·exact h1 _
 ·simp [h1, h2]
theorem frac_inj {q r : Rat} (hq : SQ q) (hr : SQ r) (h : fracL q = fracL r) : q = r := by
 obtain ⟨⟨a1, a2⟩, a3⟩ := hq
 obtain ⟨⟨b1, b2⟩, b3⟩ := hr
 have n47 : ∀ n : Int, (47 : UInt8) ∉ Lib.itoa n := fun n => itoa_no (by decide)
 unfold fracL at h
 by_cases hq1 : q.den = 1 <;> by_cases hr1 : r.den = 1
 ·rw [if_pos hq1, if_pos hr1] at h
  exact Rat.ext (itoa_inj (by omega) (by omega) (by omega) (by omega) h) (by omega)
 ·rw [if_pos hq1, if_neg hr1] at h
  exact absurd (show (47 : UInt8) ∈ Lib.itoa q.num by rw [h]; simp) (n47 _)
 ·rw [if_neg hq1, if_pos hr1] at h
  exact absurd (show (47 : UInt8) ∈ Lib.itoa r.num by rw [<- h]; simp) (n47 _)
 ·rw [if_neg hq1, if_neg hr1] at h
  obtain ⟨h1, h2⟩ := cut_inj (n47 _) (n47 _) h
  have e1 := itoa_inj (by omega) (by omega) (by omega) (by omega) h1
  have e2 := itoa_inj (by omega) (by omega) (by omega) (by omega) h2
  exact Rat.ext e1 (by omega)
theorem seg_inj {p p' : Int} {q r : Rat} (hp : 0 <= p /\ p < 1000) (hp' : 0 <= p' /\ p' < 1000) (hq : SQ q) (hr : SQ r) (h : segL p q = segL p' r) : p = p' /\ q = r := by
 have n94 : ∀ n : Int, (94 : UInt8) ∉ Lib.itoa n := fun n => itoa_no (by decide)
 have f40 : ∀ q : Rat, (40 : UInt8) ∉ fracL q := fun q => frac_no (by decide)
 have ip : ∀ {a b : List UInt8}, Lib.itoa p ++ 94 :: a = Lib.itoa p' ++ 94 :: b -> p = p' /\ a = b := fun h => by
  obtain ⟨h1, h2⟩ := cut_inj (n94 _) (n94 _) h
  exact ⟨itoa_inj (by omega) (by omega) (by omega) (by omega) h1, h2⟩
 unfold segL at h
 by_cases hq1 : q = 1 <;> by_cases hr1 : r = 1
 ·rw [if_pos hq1, if_pos hr1] at h
  exact ⟨itoa_inj (by omega) (by omega) (by omega) (by omega) h, by rw [hq1, hr1]⟩
 ·rw [if_pos hq1, if_neg hr1] at h
  exfalso
  split at h <;> exact n94 p (by rw [h]; simp)
 ·rw [if_neg hq1, if_pos hr1] at h
  exfalso
  split at h <;> exact n94 p' (by rw [<- h]; simp)
 ·rw [if_neg hq1, if_neg hr1] at h
  by_cases hq2 : q.den = 1 /\ 0 < q.num <;> by_cases hr2 : r.den = 1 /\ 0 < r.num
  ·rw [if_pos hq2, if_pos hr2] at h
   obtain ⟨h1, h2⟩ := ip h
   exact ⟨h1, frac_inj hq hr h2⟩
  ·rw [if_pos hq2, if_neg hr2] at h
   obtain ⟨h1, h2⟩ := ip h
   exact absurd (show (40 : UInt8) ∈ fracL q by rw [h2]; simp) (f40 _)
  ·rw [if_neg hq2, if_pos hr2] at h
   obtain ⟨h1, h2⟩ := ip h
   exact absurd (show (40 : UInt8) ∈ fracL r by rw [<- h2]; simp) (f40 _)
  ·rw [if_neg hq2, if_neg hr2] at h
   obtain ⟨h1, h2⟩ := ip h
   simp only [List.cons_append, List.cons.injEq, true_and, List.append_cancel_right_eq] at h2
   exact ⟨h1, frac_inj hq hr h2⟩
theorem seg_no {p : Int} {q : Rat} : (32 : UInt8) ∉ segL p q := by
 have h1 : ∀ n : Int, (32 : UInt8) ∉ Lib.itoa n := fun n => itoa_no (by decide)
 have h2 : (32 : UInt8) ∉ fracL q := frac_no (by decide)
 unfold segL
 split
 ·exact h1 _
 ·split <;> simp [h1, h2]
theorem join_inj {c : UInt8} : ∀ {l m : List (List UInt8)}, l ≠ [] -> m ≠ [] -> (∀ a, a ∈ l -> c ∉ a) -> (∀ a, a ∈ m -> c ∉ a) -> joinL [c] l = joinL [c] m -> l = m
 | [a], [b], _, _, _, _, h => by simpa [joinL] using h
 | [a], b :: b2 :: m, _, _, hl, _, h => by
  simp only [joinL] at h
  exact absurd (show c ∈ a by rw [h]; simp) (hl a (by simp))
 | a :: a2 :: l, [b], _, _, _, hm, h => by
  simp only [joinL] at h
  exact absurd (show c ∈ b by rw [<- h]; simp) (hm b (by simp))
 | a :: a2 :: l, b :: b2 :: m, _, _, hl, hm, h => by
  have e : ∀ (a a2 : List UInt8) l, joinL [c] (a :: a2 :: l) = a ++ c :: joinL [c] (a2 :: l) := fun a a2 l => by simp [joinL]
  rw [e, e] at h
  obtain ⟨h1, h2⟩ := cut_inj (hl a (by simp)) (hm b (by simp)) h
  rw [h1, join_inj (by simp) (by simp) (fun x hx => hl x (List.mem_cons_of_mem _ hx)) (fun x hx => hm x (List.mem_cons_of_mem _ hx)) h2]
 | [], _, h, _, _, _, _ => absurd rfl h
 | _ :: _, [], _, h, _, _, _ => absurd rfl h
theorem seg_head {p : Int} (hp : p = 2 ∨ p = 3 ∨ p = 5) {q : Rat} : ∃ c r, segL p q = c :: r /\ c ≠ 49 := by
 have h1 : ∃ c, Lib.itoa p = [c] /\ c ≠ 49 := by
  rcases hp with rfl | rfl | rfl
  ·exact ⟨50, by unfold Lib.itoa; rw [if_neg (by omega)]; rw [Lib.decDigits, dif_pos (by decide)]; rfl, by decide⟩
  ·exact ⟨51, by unfold Lib.itoa; rw [if_neg (by omega)]; rw [Lib.decDigits, dif_pos (by decide)]; rfl, by decide⟩
  ·exact ⟨53, by unfold Lib.itoa; rw [if_neg (by omega)]; rw [Lib.decDigits, dif_pos (by decide)]; rfl, by decide⟩
 obtain ⟨c, e, hc⟩ := h1
 unfold segL
 rw [e]
 split
 ·exact ⟨c, [], rfl, hc⟩
 ·split
  ·exact ⟨c, _, rfl, hc⟩
  ·exact ⟨c, _, rfl, hc⟩
theorem segs_vec : ∀ {ps : List Int} {v w : List Rat}, v.length = ps.length -> w.length = ps.length -> ps.Nodup -> (∀ p, p ∈ ps -> 0 <= p /\ p < 1000) -> SV v -> SV w -> segsL ps v = segsL ps w -> v = w
 | [], [], [], _, _, _, _, _, _, _ => rfl
 | p :: ps, x :: v, y :: w, hv, hw, hn, hp, sv, sw, h => by
  simp only [List.length_cons, Nat.add_right_cancel_iff] at hv hw
  obtain ⟨hn1, hn2⟩ := List.nodup_cons.1 hn
  have hp' : ∀ r, r ∈ ps -> 0 <= r /\ r < 1000 := fun r hr => hp r (by simp [hr])
  have sv' : SV v := fun q hq => sv q (by simp [hq])
  have sw' : SV w := fun q hq => sw q (by simp [hq])
  have h0 := hp p (by simp)
  have none : ∀ {u : List Rat} {z : Rat}, u.length = ps.length -> SV u -> SQ z -> segL p z ∉ segsL ps u := fun {u z} hu su hz hm => by
   unfold segsL at hm
   obtain ⟨⟨r, t⟩, hx, e⟩ := List.mem_map.1 hm
   have hx := (List.mem_filter.1 hx).1
   have hr := (List.of_mem_zip hx).1
   have ht := su t (List.of_mem_zip hx).2
   have := (seg_inj (hp' r hr) h0 ht hz e).1
   subst this
   exact hn1 hr
  have sx := sv x (by simp)
  have sy := sw y (by simp)
  have step : ∀ (z : Rat) (u : List Rat), segsL (p :: ps) (z :: u) = if z = 0 then segsL ps u else segL p z :: segsL ps u := fun z u => by
   unfold segsL
   by_cases hz : z = 0
   ·simp [hz]
   ·simp [hz]
  rw [step, step] at h
  by_cases hx : x = 0 <;> by_cases hy : y = 0
  ·rw [if_pos hx, if_pos hy] at h
   rw [hx, hy, segs_vec hv hw hn2 hp' sv' sw' h]
  ·rw [if_pos hx, if_neg hy] at h
   exact absurd (show segL p y ∈ segsL ps v by rw [h]; simp) (none hv sv' sy)
  ·rw [if_neg hx, if_pos hy] at h
   exact absurd (show segL p x ∈ segsL ps w by rw [<- h]; simp) (none hw sw' sx)
  ·rw [if_neg hx, if_neg hy] at h
   simp only [List.cons.injEq] at h
   rw [(seg_inj h0 h0 sx sy h.1).2, segs_vec hv hw hn2 hp' sv' sw' h.2]
 | [], _ :: _, _, h, _, _, _, _, _, _ => by simp at h
 | [], [], _ :: _, _, h, _, _, _, _, _ => by simp at h
 | _ :: _, [], _, h, _, _, _, _, _, _ => by simp at h
 | _ :: _, _ :: _, [], _, h, _, _, _, _, _ => by simp at h
theorem txt_inj {ps : List Int} (hps : PsOk ps) {v w : List Rat} (hv : v.length = ps.length) (hw : w.length = ps.length) (sv : SV v) (sw : SV w) (h : txtL ps v = txtL ps w) : v = w := by
 have hn : ps.Nodup := by rcases hps with rfl | rfl <;> decide
 have hp : ∀ p, p ∈ ps -> 0 <= p /\ p < 1000 := fun p hp => by rcases hps.mem p hp with rfl | rfl | rfl <;> omega
 refine segs_vec hv hw hn hp sv sw ?_
 have no : ∀ (u : List Rat) a, a ∈ segsL ps u -> (32 : UInt8) ∉ a := fun u a ha => by
  unfold segsL at ha
  obtain ⟨x, _, rfl⟩ := List.mem_map.1 ha
  exact seg_no
 have hd : ∀ (u : List Rat), segsL ps u ≠ [] -> joinL [32] (segsL ps u) ≠ [49] := fun u hu => by
  cases he : segsL ps u with
  | nil => exact absurd he hu
  | cons a r =>
   have ha : a ∈ segsL ps u := by rw [he]; simp
   unfold segsL at ha
   obtain ⟨⟨p, q⟩, hx, rfl⟩ := List.mem_map.1 ha
   have hx := (List.mem_filter.1 hx).1
   obtain ⟨c, t, e, hc⟩ := seg_head (hps.mem p (List.of_mem_zip hx).1) (q := q)
   intro h
   dsimp only at h
   rw [e] at h
   cases r with
   | nil => simp only [joinL, List.cons.injEq] at h; exact hc h.1
   | cons b r => simp only [joinL, List.cons_append, List.cons.injEq] at h; exact hc h.1
 unfold txtL at h
 by_cases h1 : segsL ps v = [] <;> by_cases h2 : segsL ps w = []
 ·rw [h1, h2]
 ·rw [if_pos h1, if_neg h2] at h
  exact absurd h.symm (hd w h2)
 ·rw [if_neg h1, if_pos h2] at h
  exact absurd h (hd v h1)
 ·rw [if_neg h1, if_neg h2] at h
  exact join_inj h1 h2 (no v) (no w) h
end Go.Ev

namespace Go.Ev
open Go Go.RowKit Go.Proofs
theorem pure_of {P : Program} {W0 : World} {Γ : Oracle} (hΓ : SoundΓ P W0 Γ) {f : Nat} {args : List PVal} {r : RRes} (h : ∀ K, Γ false f args K = K r) : Pure P W0 f args r := by
 obtain ⟨r', hd, hk⟩ := hΓ false f args (fun x => @decide (x = r) (Classical.propDecidable _)) (by rw [h]; simp)
 have : r' = r := by simpa using hk
 subst this
 exact hd
theorem lits_rep {w : World} {S : PSet} {l : List Value} : ∀ i (hi : i < (l.map PVal.lit).length) (hs : l.toArray.size = (l.map PVal.lit).length), RepP w S (l.map PVal.lit)[i] (l.toArray[i]'(hs ▸ hi)) := fun i hi hs => by
 simp only [List.getElem_map, List.getElem_toArray]
 exact .lit _
theorem Pure.lits2 {P : Program} {W0 : World} {f : Nat} {l : List Value} {a b : Value} (h : Pure P W0 f (l.map .lit) (.tup [.p (.lit a), .p (.lit b)])) {w : World} (hb : Below W0.heap.size W0 w) :
  Calls P f l.toArray w fun e w' => e = .returned (.tuple #[a, b]) /\ Below w.heap.size w w' := by
 refine (h.2 w (fun _ _ => False) l.toArray hb (fun _ _ h => h.elim) (by simp) (fun i hi => lits_rep i hi (by simp))).mono ?_
 rintro e w' ⟨v, S', rfl, h1, _, _, _, us, rfl, hs, h2, _⟩
 refine ⟨?_, h1⟩
 have e0 := repP_lit (h2 0 (by simp))
 have e1 := repP_lit (h2 1 (by simp))
 congr 2
 apply Array.ext
 ·simpa using hs
 ·intro i h1 h2
  simp only [List.size_toArray, List.length_cons, List.length_nil] at h2
  rcases i with _ | _ | i
  ·exact e0
  ·exact e1
  ·omega
def sqF (n : Int) : Int := IntKind.u64.wrap (BitVec.ofInt 64 (IntKind.u64.wrap (n * n / 18446744073709551616 * 2 ^ 2)) ||| BitVec.ofInt 64 (Int.fdiv (n * n % 18446744073709551616) (2 ^ 62))).toNat
def stF (s : Int × Int × Int) : Int × Int × Int :=
 if sqF s.1 >= 9223372036854775808 then (Int.fdiv (sqF s.1) (2 ^ 1), IntKind.u64.wrap ((Int.fdiv (IntKind.u64.wrap (sqF s.2.1 + 1)) (2 ^ 1)) + 1), IntKind.i64.wrap (IntKind.i64.wrap (s.2.2 * 2) + 1))
 else (sqF s.1, IntKind.u64.wrap (sqF s.2.1 + 1), IntKind.i64.wrap (s.2.2 * 2))
def itF (s : Int × Int × Int) : Nat -> Int × Int × Int
 | 0 => s
 | n + 1 => stF (itF s n)
def okF (s : Int × Int × Int) : Bool := decide (0 <= s.1) && decide (s.1 < 18446744073709551616) && decide (0 <= s.2.1) && decide (s.2.1 < 18446744073709551616) && (decide (sqF s.1 >= 9223372036854775808) || !decide (IntKind.u64.wrap (sqF s.2.1 + 1) >= 9223372036854775808))
theorem st223 {r0 : Int -> Int -> Int -> Int -> Bool} {e0 : Int -> Bool -> Bool} {e1 : Int -> Bool} {s : Int × Int × Int} (h : okF s = true) {i : Int} (hi : i < 26) :
  St223_0_0 r0 e0 e1 s.1 s.2.1 s.2.2 i = r0 (stF s).1 (stF s).2.1 (stF s).2.2 (wI (i + 1)) := by
 obtain ⟨a, b, c⟩ := s
 unfold okF at h
 simp only [Bool.and_eq_true, decide_eq_true_eq] at h
 obtain ⟨⟨⟨⟨h1, h2⟩, h3⟩, h4⟩, h5⟩ := h
 have q : ∀ (n : Int), 0 <= n -> n < 18446744073709551616 -> ∀ K : Int -> Int -> Bool, H235 n n K = K (n * n / 18446744073709551616) (n * n % 18446744073709551616) := fun n k1 k2 K => by
  rw [H235_def]; unfold D235; simp [k1, k2]
 unfold St223_0_0
 rw [decide_eq_true hi, cond_true, q a h1 h2, q b h3 h4]
 unfold stF
 by_cases hg : sqF a >= 9223372036854775808
 ·rw [if_pos hg]
  show (bif decide (sqF a >= 9223372036854775808) then _ else _) = _
  rw [decide_eq_true hg]; rfl
 ·rw [if_neg hg]
  show (bif decide (sqF a >= 9223372036854775808) then _ else (bif decide (IntKind.u64.wrap (sqF b + 1) >= 9223372036854775808) then _ else _)) = _
  rw [decide_eq_false hg] at h5 ⊢
  simp only [Bool.false_or, Bool.not_eq_true'] at h5
  rw [h5]; rfl
theorem lp223 {e0 : Int -> Bool -> Bool} {e1 : Int -> Bool} {s : Int × Int × Int} (h : (List.range 26).all (fun i => okF (itF s i)) = true) : LP223_0 e0 e1 fuel s.1 s.2.1 s.2.2 0 = e1 (itF s 26).2.2 := by
 have h' : ∀ i, i < 26 -> okF (itF s i) = true := fun i hi => List.all_eq_true.1 h i (List.mem_range.2 hi)
 refine loop_iter (fun n (i : Nat) => LP223_0 e0 e1 n (itF s i).1 (itF s i).2.1 (itF s i).2.2 (i : Int)) 26 (fun i => i) (fun i hi n => ?_) (fun n => ?_) fuel (fuel_gt (by omega))
 ·show St223_0_0 _ e0 e1 _ _ _ _ = _
  rw [st223 (h' i hi) (by omega), wI_succ (by omega)]
  rfl
 ·show St223_0_0 _ e0 e1 _ _ _ _ = _
  unfold St223_0_0
  rw [show decide (((26 : Nat) : Int) < 26) = false by decide, cond_false]
theorem l223 {p : Int} (hp : p = 2 ∨ p = 3 ∨ p = 5) (K : Int -> Bool -> Bool) : Q223 p K = K (logc p) true := by
 have q : ∀ (n : Int), 0 <= n -> n < 18446744073709551616 -> ∀ K : Int -> Bool, H99 n K = K (Lib.bitLen n.toNat : Nat) := fun n k1 k2 K => by
  rw [H99_def]; unfold D99; simp [k1, k2]
 rw [Q223_def]; unfold G223 L223_0_0
 rcases hp with rfl | rfl | rfl
 ·rw [wU_eq (by omega), q _ (by omega) (by omega)]
  have e : Lib.bitLen (2 : Int).toNat = 2 := by decide +kernel
  rw [e]
  have := lp223 (e0 := fun y6v y7v => K y6v y7v) (e1 := fun y8v => K y8v true) (s := (4611686018427387904, 4611686018427387904, 1)) (by decide +kernel)
  have f : (itF (4611686018427387904, 4611686018427387904, 1) 26).2.2 = logc 2 := by decide +kernel
  rw [f] at this
  exact this
 ·rw [wU_eq (by omega), q _ (by omega) (by omega)]
  have e : Lib.bitLen (3 : Int).toNat = 2 := by decide +kernel
  rw [e]
  have := lp223 (e0 := fun y6v y7v => K y6v y7v) (e1 := fun y8v => K y8v true) (s := (6917529027641081856, 6917529027641081856, 1)) (by decide +kernel)
  have f : (itF (6917529027641081856, 6917529027641081856, 1) 26).2.2 = logc 3 := by decide +kernel
  rw [f] at this
  exact this
 ·rw [wU_eq (by omega), q _ (by omega) (by omega)]
  have e : Lib.bitLen (5 : Int).toNat = 3 := by decide +kernel
  rw [e]
  have := lp223 (e0 := fun y6v y7v => K y6v y7v) (e1 := fun y8v => K y8v true) (s := (5764607523034234880, 5764607523034234880, 2)) (by decide +kernel)
  have f : (itF (5764607523034234880, 5764607523034234880, 2) 26).2.2 = logc 5 := by decide +kernel
  rw [f] at this
  exact this
theorem l205 {n : Int} (h1 : -1000000000000000000 < n) (h2 : n < 1000000000000000000) (X : Int -> Bool -> Bool) : Q205 (itoaB n) X = X n true := by
 rw [Q205_def]; unfold G205; rw [H233_num h1 h2]
theorem dec191_some : ∀ {ps fs : List PVal} {l : List (Int × Int)}, dec191 ps fs = some l -> ps = encP l /\ fs = encF l /\ ∀ x, x ∈ l -> (x.1 = 2 ∨ x.1 = 3 ∨ x.1 = 5) /\ -10000000 <= x.2 /\ x.2 <= 10000000
 | [], [], l, h => by
  simp only [dec191, Option.some.injEq] at h
  subst h
  exact ⟨rfl, rfl, fun x hx => by cases hx⟩
 | p :: ps, f :: fs, l, h => by
  unfold dec191 at h
  split at h
  ·next heq _ => cases heq
  ·next p' ps' s fs' e1 e2 =>
   cases e1; cases e2
   split at h
   ·next k l' hk hl' =>
    split at h
    ·next hc =>
     simp only [Option.some.injEq] at h
     subst h
     obtain ⟨i1, i2, i3⟩ := dec191_some hl'
     refine ⟨by rw [i1]; rfl, by rw [i2, (numOf_some hk).2.2]; rfl, fun x hx => ?_⟩
     rcases List.mem_cons.1 hx with rfl | hx
     ·exact hc
     ·exact i3 x hx
    ·cases h
   ·cases h
  ·cases h
 | [], _ :: _, l, h => by simp [dec191] at h
 | _ :: _, [], l, h => by simp [dec191] at h
theorem row_at {w : World} {S : PSet} {es : List PVal} {v : Value} {g : Nat -> Value} (h : RepP w S (.sl es) v) (hlt : ∀ b o, S b o -> b < w.heap.size) (hg : ∀ j (hj : j < es.length), es[j] = .lit (g j)) (hc : ∀ j, j < es.length -> (g j).cells = #[g j]) :
  RowAt w.heap.size w v es.length g /\ v.oneCell' = true := by
 cases h with
 | nil => exact ⟨.inl ⟨rfl, rfl⟩, rfl⟩
 | sl _ b o cap k V hcap hV hrow =>
  refine ⟨.inr ⟨b, o, cap, rfl, fun h0 => ?_, fun j hj => ?_⟩, rfl⟩
  ·have h1 := hrow 0 h0
   have hk : 0 < k := by
    have hv := hV 0 h0
    rw [hg 0 h0] at hv
    have := repP_lit hv
    rw [this, hc 0 h0] at h1
    have := h1.1
    simp at this
    omega
   exact hlt _ _ (h1.2 0 hk).1
  ·have hv := hV j hj
   rw [hg j hj] at hv
   have hv := repP_lit hv
   obtain ⟨h1, h2⟩ := hrow j hj
   rw [hv, hc j hj] at h1
   have hk : k = 1 := by simpa using h1.symm
   subst hk
   obtain ⟨_, u, h3, _, h5⟩ := h2 0 (by omega)
   rw [hv, hc j hj] at h3
   have : u = g j := by simpa using h3.symm
   rw [this] at h5
   simpa using h5
theorem args2 {w : World} {S : PSet} {vs : Array Value} {p0 p1 : PVal} (hs : vs.size = [p0, p1].length) (hr : ∀ i (hi : i < [p0, p1].length), RepP w S [p0, p1][i] (vs[i]'(hs ▸ hi))) :
  ∃ v0 v1, vs = #[v0, v1] /\ RepP w S p0 v0 /\ RepP w S p1 v1 := by
 have h2 : vs.size = 2 := by simpa using hs
 refine ⟨vs[0], vs[1], ?_, hr 0 (by simp), hr 1 (by simp)⟩
 apply Array.ext
 ·simpa using h2
 ·intro i h1 h3
  simp only [List.size_toArray, List.length_cons, List.length_nil] at h3
  rcases i with _ | _ | i
  ·rfl
  ·rfl
  ·omega
theorem agg3 {w : World} {S : PSet} {p0 p1 p2 : PVal} {v : Value} (h : RepP w S (.agg [p0, p1, p2]) v) : ∃ u0 u1 u2, v = .agg #[u0, u1, u2] /\ RepP w S p0 u0 /\ RepP w S p1 u1 /\ RepP w S p2 u2 := by
 cases h with
 | agg cs us hsz hcs =>
  have h3 : us.size = 3 := by simpa using hsz
  refine ⟨us[0], us[1], us[2], ?_, hcs 0 (by simp), hcs 1 (by simp), hcs 2 (by simp)⟩
  congr 1
  apply Array.ext
  ·simpa using h3
  ·intro i h1 h2
   simp only [List.size_toArray, List.length_cons, List.length_nil] at h2
   rcases i with _ | _ | _ | i
   ·rfl
   ·rfl
   ·rfl
   ·omega
theorem g205Γ (k : Int) (K : RRes -> Bool) : Γ64 false 205 ([Value.string (itoaB k)].map PVal.lit) K = Q205 (itoaB k) (fun z0_0 z1_0 => K (.tup [(.p (xI z0_0)), (.p (xB z1_0))])) := by kernel_rfl
theorem g223Γ (k : Int) (K : RRes -> Bool) : Γ64 false 223 ([Value.int .i64 k].map PVal.lit) K = Q223 k (fun z0_0 z1_0 => K (.tup [(.p (xI z0_0)), (.p (xB z1_0))])) := by kernel_rfl
theorem pure205 {W0 : World} (hΓ : SoundΓ Tryz.prog W0 Γ64) {k : Int} (h1 : -1000000000000000000 < k) (h2 : k < 1000000000000000000) : Pure Tryz.prog W0 205 ([Value.string (itoaB k)].map PVal.lit) (.tup [.p (.lit (.int .i64 k)), .p (.lit (.bool true))]) :=
 pure_of hΓ fun K => by rw [g205Γ, l205 h1 h2]
theorem pure223 {W0 : World} (hΓ : SoundΓ Tryz.prog W0 Γ64) {p : Int} (hp : p = 2 ∨ p = 3 ∨ p = 5) : Pure Tryz.prog W0 223 ([Value.int .i64 p].map PVal.lit) (.tup [.p (.lit (.int .i64 (logc p))), .p (.lit (.bool true))]) :=
 pure_of hΓ fun K => by rw [g223Γ, l223 hp]
theorem hand191 {W0 : World} (hΓ : SoundΓ Tryz.prog W0 Γ64) : Hand191 W0 := fun ps fs den most K h => by
 rw [H191_def] at h; unfold D191 at h
 split at h
 ·next l hl =>
  obtain ⟨rfl, rfl, hbd⟩ := dec191_some hl
  by_cases hb : (l.all (fun x => decide (-most <= x.2) && decide (x.2 <= most)) && decide (l.length <= 6) && decide (0 <= most) && decide (most <= 10000000)) = true
  ·rw [hb, cond_true] at h
   simp only [Bool.and_eq_true, List.all_eq_true, decide_eq_true_eq] at hb
   obtain ⟨⟨⟨hb1, hb2⟩, hb3⟩, hb4⟩ := hb
   refine ⟨_, ⟨enters Tryz.func191 (by kernel_rfl) (by kernel_rfl), fun w S vs hbw hlt hs hr => ?_⟩, h⟩
   obtain ⟨v0, v1, rfl, r0, r1⟩ := args2 hs hr
   obtain ⟨sp, sf, u2, rfl, u0, u1, u2'⟩ := agg3 r0
   obtain rfl := repP_lit r1
   obtain rfl := repP_lit u2'
   have dflt : ((2 : Int) = 2 ∨ (2 : Int) = 3 ∨ (2 : Int) = 5) /\ (-most <= 0 /\ (0 : Int) <= most) /\ (-10000000 <= (0 : Int) /\ (0 : Int) <= 10000000) := by omega
   let f : Nat -> PF most := fun j => if hj : j < l.length then ⟨l[j], (hbd l[j] (List.getElem_mem hj)).1, hb1 l[j] (List.getElem_mem hj), (hbd l[j] (List.getElem_mem hj)).2⟩ else ⟨(2, 0), dflt⟩
   have hf : ∀ j (hj : j < l.length), (f j).1 = l[j] := fun j hj => congrArg Subtype.val (show f j = _ from dif_pos hj)
   have hp : pairs (uptoF f l.length) = l := by
    apply List.ext_getElem
    ·simp [pairs, uptoF]
    ·intro j h1 h2
     simp only [pairs, uptoF, List.map_map, List.getElem_map, List.getElem_range, Function.comp]
     exact hf j h2
   have ra := row_at (g := fun j => .int .i64 (f j).1.1) u0 hlt (fun j hj => by
    have hj' : j < l.length := by simpa using hj
    simp only [List.getElem_map, hf j hj']) (fun j hj => rfl)
   have rb := row_at (g := fun j => .string (itoaB (f j).1.2)) u1 hlt (fun j hj => by
    have hj' : j < l.length := by simpa using hj
    simp only [List.getElem_map, hf j hj']) (fun j hj => rfl)
   simp only [List.length_map] at ra rb
   have key := near_any (most := most) ⟨hb3, hb4⟩ sp sf den l.length hb2 f ra.2 rb.2 w ra.1 rb.1
    (fun k k1 k2 W hW => (pure205 hΓ (k := k) (by omega) (by omega)).lits2 (hbw.trans (hW.mono hbw.size)))
    (fun p hp W hW => (pure223 hΓ hp).lits2 (hbw.trans (hW.mono hbw.size)))
   rw [hp] at key
   refine key.mono ?_
   rintro e w' ⟨rfl, hB⟩
   refine ⟨_, S, rfl, hB, fun _ _ h => h, fun _ _ h => .inl h, fun b o h => Nat.lt_of_lt_of_le (hlt b o h) hB.size, _, rfl, rfl, fun i hi => ?_, fun i j hi hj h1 => ?_⟩
   ·simp only [List.length_cons, List.length_nil] at hi
    rcases i with _ | _ | _ | i
    ·exact .lit _
    ·exact .lit _
    ·exact .lit _
    ·omega
   ·simp only [List.length_cons, List.length_nil] at hi
    rcases i with _ | _ | _ | i
    ·cases h1
    ·cases h1
    ·cases h1
    ·omega
  ·rw [Bool.not_eq_true] at hb
   rw [hb] at h; cases h
 ·cases h
end Go.Ev

namespace Go.Ev
open Go Go.RowKit
abbrev bL (l : List UInt8) : ByteArray := ⟨l.toArray⟩
theorem bL_append (a b : List UInt8) : bL a ++ bL b = bL (a ++ b) := by
 apply ByteArray.ext
 apply Array.toList_inj.1
 simp [ByteArray.data_append]
theorem bL_size (a : List UInt8) : (bL a).size = a.length := by simp [bL, ByteArray.size]
theorem itoaB_bL (n : Int) : itoaB n = bL (Lib.itoa n) := rfl
theorem itoa_len {n : Int} (h1 : -1000000000000000000 < n) (h2 : n < 1000000000000000000) : (Lib.itoa n).length <= 19 := by
 have := itoaB_size h1 h2
 rw [itoaB_bL, bL_size] at this
 exact this
theorem frac_len {q : Rat} (hq : SQ q) : (fracL q).length <= 39 := by
 obtain ⟨⟨a1, a2⟩, a3⟩ := hq
 have h1 := itoa_len (n := q.num) (by omega) (by omega)
 have h2 := itoa_len (n := (q.den : Int)) (by omega) (by omega)
 unfold fracL
 split
 ·omega
 ·simp only [List.length_append, List.length_cons]; omega
theorem gdE {n : Nat} (h : n <= 1000000000) (x : Bool) : gd (decide (n <= 1099511627776)) x = x := by
 rw [decide_eq_true (by omega), gd_true]
theorem l115 {q : Rat} (hq : SQ q) (K : ByteArray -> Bool) : Q115 (itoaB q.num) (itoaB q.den) K = K (bL (fracL q)) := by
 obtain ⟨⟨a1, a2⟩, a3⟩ := hq
 have h1 := itoa_len (n := q.num) (by omega) (by omega)
 have h2 := itoa_len (n := (q.den : Int)) (by omega) (by omega)
 have e : s_2f = bL [47] := rfl
 rw [Q115_def]; unfold G115
 rw [eq31 (by omega), e, itoaB_bL, itoaB_bL, bL_append, bL_append]
 unfold fracL
 by_cases hd : q.den = 1
 ·have : ((q.den : Int) = 1) := by omega
  rw [if_pos hd, decide_eq_true this, cond_true]
 ·have : ¬ ((q.den : Int) = 1) := by omega
  rw [if_neg hd, decide_eq_false this, cond_false]
  simp only [bL_size, List.length_append, List.length_cons, List.length_nil]
  rw [gdE (by omega), gdE (by omega)]
  simp
theorem seg_branch {p : Int} (hp : 0 <= p /\ p < 1000) {q : Rat} (hq : SQ q) (A : Bool) (R : ByteArray -> Bool) :
  (H112 p (fun z7v => (bif ((itoaB q.num).toList == s_30.toList) then A else (Q45 1 (fun z8v z9v => (bif (itoaB q.num == z8v && itoaB q.den == z9v) then (R z7v) else (bif ((itoaB q.den).toList == s_31.toList) then (Q106 (itoaB q.num) (fun z10v => (bif (decide (z10v > 0)) then (Q115 (itoaB q.num) (itoaB q.den) (fun z11v => (gd (decide (s_5e.size + z11v.size <= 1099511627776)) (gd (decide (z7v.size + (s_5e ++ z11v).size <= 1099511627776)) (R (z7v ++ (s_5e ++ z11v))))))) else (Q115 (itoaB q.num) (itoaB q.den) (fun z12v => (gd (decide (s_5e28.size + z12v.size <= 1099511627776)) (gd (decide ((s_5e28 ++ z12v).size + s_29.size <= 1099511627776)) (gd (decide (z7v.size + ((s_5e28 ++ z12v) ++ s_29).size <= 1099511627776)) (R (z7v ++ ((s_5e28 ++ z12v) ++ s_29))))))))))) else (Q115 (itoaB q.num) (itoaB q.den) (fun z13v => (gd (decide (s_5e28.size + z13v.size <= 1099511627776)) (gd (decide ((s_5e28 ++ z13v).size + s_29.size <= 1099511627776)) (gd (decide (z7v.size + ((s_5e28 ++ z13v) ++ s_29).size <= 1099511627776)) (R (z7v ++ ((s_5e28 ++ z13v) ++ s_29)))))))))))))))
   = if q = 0 then A else R (bL (segL p q)) := by
 obtain ⟨⟨a1, a2⟩, a3⟩ := hq
 have hq : SQ q := ⟨⟨a1, a2⟩, a3⟩
 have h0 := itoa_len (n := p) (by omega) (by omega)
 have hf := frac_len hq
 have e1 : s_5e = bL [94] := rfl
 have e2 : s_5e28 = bL [94, 40] := rfl
 have e3 : s_29 = bL [41] := rfl
 have e0 : ((itoaB q.num).toList == s_30.toList) = decide (q = 0) := by
  have := itoa_txt_ne hq
  simpa using congrArg (!·) this
 rw [H112_num (by omega), e0]
 by_cases hz : q = 0
 ·rw [decide_eq_true hz, cond_true, if_pos hz]
 ·rw [decide_eq_false hz, cond_false, if_neg hz, l45 (by omega)]
  have e4 : (itoaB q.num == itoaB 1 && itoaB q.den == itoaB 1) = decide (q = 1) := hq.eqs (r := 1) ⟨by decide, by decide⟩
  rw [e4]
  unfold segL
  by_cases h1 : q = 1
  ·rw [decide_eq_true h1, cond_true, if_pos h1]; rfl
  ·rw [decide_eq_false h1, cond_false, if_neg h1, eq31 (by omega), e1, e2, e3]
   simp only [l115 hq, itoaB_bL p, bL_append, bL_size, List.length_append, List.length_cons, List.length_nil]
   rw [gdE (by omega), gdE (by omega), gdE (by omega), gdE (by omega), gdE (by omega)]
   by_cases hd : q.den = 1
   ·have : ((q.den : Int) = 1) := by omega
    rw [decide_eq_true this, cond_true, l106 (by omega)]
    have hn0 : q.num ≠ 0 := fun e => hz (Rat.num_eq_zero.1 e)
    by_cases hn : 0 < q.num
    ·rw [if_neg hn0, if_neg (by omega), show decide ((1 : Int) > 0) = true by decide, cond_true, if_pos ⟨hd, hn⟩]
     rfl
    ·rw [if_neg hn0, if_pos (by omega), show decide ((-1 : Int) > 0) = false by decide, cond_false, if_neg (fun h => hn h.2)]
     simp
   ·have : ¬ ((q.den : Int) = 1) := by omega
    rw [decide_eq_false this, cond_false, if_neg (fun h => hd h.1)]
    simp
def sgU (z : List (Int × Rat)) (i : Nat) : List PVal := ((z.take i).filter fun x => decide (x.2 ≠ 0)).map fun x => xZ (bL (segL x.1 x.2))
theorem sgU_succ {z : List (Int × Rat)} {i : Nat} (h : i < z.length) : sgU z (i + 1) = if z[i].2 = 0 then sgU z i else sgU z i ++ [xZ (bL (segL z[i].1 z[i].2))] := by
 unfold sgU
 rw [List.take_add_one, List.getElem?_eq_getElem h, List.filter_append, List.map_append]
 by_cases h0 : z[i].2 = 0
 ·rw [if_pos h0]; simp [h0]
 ·rw [if_neg h0]; simp [h0]
theorem sgU_len (z : List (Int × Rat)) (i : Nat) : (sgU z i).length <= i := by
 unfold sgU
 rw [List.length_map]
 exact Nat.le_trans (List.length_filter_le _ _) (by rw [List.length_take]; omega)
theorem strs_map : ∀ (l : List (List UInt8)), strsOf (l.map fun s => xZ (bL s)) = some l
 | [] => rfl
 | a :: l => by
  show (strsOf (l.map fun s => xZ (bL s))).map _ = _
  rw [strs_map l]; rfl
theorem joinL_len (c : List UInt8) (hc : c.length = 1) {m : Nat} : ∀ (l : List (List UInt8)), (∀ a, a ∈ l -> a.length <= m) -> (joinL c l).length <= l.length * (m + 1)
 | [], _ => by simp [joinL]
 | [a], h => by have := h a (by simp); simp [joinL]; omega
 | a :: b :: l, h => by
  have h1 := h a (by simp)
  have h2 := joinL_len c hc (b :: l) (fun x hx => h x (by simp [hx]))
  simp only [joinL, List.length_append, List.length_cons] at h2 ⊢
  rw [hc, Nat.add_mul (l.length + 1) 1 (m + 1)]
  omega
theorem l86 {ps : List Int} (hps : PsOk ps) {v : List Rat} (hv : SV v) (hl : v.length = ps.length) (K : ByteArray -> Int -> Bool) : Q86 (encPs ps) (encS v) K = K (bL (txtL ps v)) 0 := by
 have hlen := hps.len
 have hpm := hps.mem
 rw [Q86_def]; unfold G86
 rw [l32 hps.pr hv (by simpa using hl)]
 rw [show ((0 : Int) != 0) = false by decide, cond_false, encS_len]
 unfold L86_0_0
 have hz : (ps.zip v).length = v.length := by rw [List.length_zip, hl, Nat.min_self]
 let F : Nat -> Nat -> Bool := fun n i => match sgU (ps.zip v) i with
  | [] => (LP86_0 (K s_31 0) (fun y26v => (bif ((nI y26v.length) == 0) then (K s_31 0) else (H116 y26v s_20 (fun z27v => (K z27v 0))))) n).1 (encPs ps) (encS v) (nI v.length) (i : Int)
  | a :: r => (LP86_0 (K s_31 0) (fun y26v => (bif ((nI y26v.length) == 0) then (K s_31 0) else (H116 y26v s_20 (fun z27v => (K z27v 0))))) n).2 (encPs ps) (encS v) (nI v.length) (i : Int) (a :: r)
 have key := loop_iter F v.length (fun i => i) (R := K (bL (txtL ps v)) 0) (fun i hi n => ?_) (fun n => ?_) fuel (fuel_gt (by omega))
 ·exact key
 ·have hzi : i < (ps.zip v).length := by omega
  have hpi : i < ps.length := by omega
  have ez : (ps.zip v)[i] = (ps[i], v[i]) := List.getElem_zip
  have hq : SQ v[i] := hv _ (List.getElem_mem hi)
  have hp : 0 <= ps[i] /\ ps[i] < 1000 := by rcases hpm _ (List.getElem_mem hpi) with e | e | e <;> rw [e] <;> omega
  have gp : (encPs ps)[i]? = some (xI ps[i]) := by simp [encPs, hpi]
  have hsl := sgU_len (ps.zip v) i
  have hs := sgU_succ hzi
  rw [ez] at hs
  dsimp only at hs
  show F (n + 1) i = F n (i + 1)
  simp only [F]
  rw [hs]
  cases hU : sgU (ps.zip v) i with
  | nil =>
   simp only [LP86_0, St86_0_0, lt_nI hi, cond_true, ge0, gd_true, Int.toNat_natCast, get_encS hi, gp, oOpt, oR_xQ, oInt_xI]
   rw [seg_branch hp hq _ (fun s => (LP86_0 _ _ n).2 (encPs ps) (encS v) (nI v.length) (wI ((i : Int) + 1)) [xZ s])]
   rw [wI_succ (by omega)]
   by_cases h0 : v[i] = 0
   ·rw [if_pos h0, if_pos h0]
   ·rw [if_neg h0, if_neg h0]; rfl
  | cons a r =>
   rw [hU] at hsl
   simp only [LP86_0, St86_0_1, lt_nI hi, cond_true, ge0, gd_true, Int.toNat_natCast, get_encS hi, gp, oOpt, oR_xQ, oInt_xI]
   rw [seg_branch hp hq _ (fun s => gd (decide ((a :: r).length + 1 <= maxElems)) ((LP86_0 _ _ n).2 (encPs ps) (encS v) (nI v.length) (wI ((i : Int) + 1)) ((a :: r) ++ [xZ s])))]
   rw [wI_succ (by omega), maxE (l := a :: r) rfl (by omega), gd_true]
   by_cases h0 : v[i] = 0
   ·rw [if_pos h0, if_pos h0]
   ·rw [if_neg h0, if_neg h0]; rfl
 ·show F (n + 1) v.length = _
  have eU : sgU (ps.zip v) v.length = (segsL ps v).map fun s => xZ (bL s) := by
   unfold sgU segsL
   rw [<- hz, List.take_length, List.map_map]; rfl
  have hle := sgU_len (ps.zip v) v.length
  simp only [F]
  cases hU : sgU (ps.zip v) v.length with
  | nil =>
   simp only [LP86_0, St86_0_0, lt_nI', cond_false]
   have : segsL ps v = [] := by
    rw [hU] at eU
    exact List.map_eq_nil_iff.1 eU.symm
   unfold txtL
   rw [if_pos this]; rfl
  | cons a r =>
   have hne : segsL ps v ≠ [] := fun e => by rw [e, hU] at eU; cases eU
   simp only [LP86_0, St86_0_1, lt_nI', cond_false]
   rw [show ((nI (a :: r).length) == 0) = false from beq_eq_false_iff_ne.2 (by simp only [nI, List.length_cons]; omega), cond_false, <- hU, eU, H116_def]
   unfold D116 txtL
   rw [strs_map, if_neg hne]
   have hsl : (segsL ps v).length <= 3 := by
    rw [eU, List.length_map] at hle
    omega
   have hs : ∀ a, a ∈ segsL ps v -> a.length <= 100 := fun a ha => by
    unfold segsL at ha
    obtain ⟨⟨p, q⟩, hx, rfl⟩ := List.mem_map.1 ha
    have hx := (List.mem_filter.1 hx).1
    have hp := hpm _ (List.of_mem_zip hx).1
    have hf := frac_len (hv _ (List.of_mem_zip hx).2)
    have h0 := itoa_len (n := p) (by omega) (by omega)
    dsimp only
    unfold segL
    split
    ·omega
    ·split <;> simp only [List.length_append, List.length_cons, List.length_nil] <;> omega
   have hj := joinL_len [32] rfl (m := 100) (segsL ps v) hs
   have e20 : s_20.data.toList = [32] := rfl
   rw [e20]
   simp only
   rw [decide_eq_true (by omega), decide_eq_true (by omega)]
   rfl
end Go.Ev

namespace Go.Ev
open Go Go.RowKit Go.Proofs Go.Maps
def Rh : Value -> Option (DataW Value × List MemPlace) := fun v => some (.held v, [])
theorem keyed9 : Keyed Tryz.prog 9 := string_keyed Tryz.underlying9
section
variable {α : Type}
structure MI (T : α -> List UInt8) (G : α -> Value -> Prop) (D : DataW Value) (zs : List α) : Prop where
 isMap : IsMap D
 has : ∀ x, Maps.has D (.string x) = true ↔ ∃ z, z ∈ zs /\ T z = x
 val : ∀ z, z ∈ zs -> ∃ v, (∀ zd, D.atKey (.string (T z)) zd = .held v) /\ G z v
theorem MI.start (T : α -> List UInt8) (G : α -> Value -> Prop) : MI T G (.map []) [] := ⟨⟨[], rfl⟩, fun x => by simp [Maps.has], fun z hz => by cases hz⟩
theorem MI.put {T : α -> List UInt8} {G : α -> Value -> Prop} {D : DataW Value} {zs : List α} (h : MI T G D zs) {z : α} {v : Value} (hi : ∀ y, y ∈ zs -> T y = T z -> y = z) (hg : G z v) : MI T G (D.put (.string (T z)) (.held v)) (zs ++ [z]) := by
 refine ⟨h.isMap.put _ _, fun x => ?_, fun y hy => ?_⟩
 ·by_cases hx : x = T z
  ·subst hx
   rw [has_put_same h.isMap (show WideAt.IsKeyLit (.string (T z)) from trivial)]
   simp
  ·rw [has_put_other (by intro e; exact hx (by injection e)), h.has x]
   constructor
   ·rintro ⟨y, hy, e⟩; exact ⟨y, by simp [hy], e⟩
   ·rintro ⟨y, hy, e⟩
    rcases List.mem_append.1 hy with hy | hy
    ·exact ⟨y, hy, e⟩
    ·simp only [List.mem_singleton] at hy
     subst hy
     exact absurd e.symm hx
 ·by_cases he : T y = T z
  ·have : y = z := by
    rcases List.mem_append.1 hy with hy | hy
    ·exact hi y hy he
    ·simpa using hy
   subst this
   exact ⟨v, fun zd => atKey_put_same h.isMap (show WideAt.IsKeyLit (.string (T y)) from trivial) _ _, hg⟩
  ·have hy' : y ∈ zs := by
    rcases List.mem_append.1 hy with hy | hy
    ·exact hy
    ·simp only [List.mem_singleton] at hy
     subst hy; exact absurd rfl he
   obtain ⟨u, h1, h2⟩ := h.val y hy'
   exact ⟨u, fun zd => by rw [atKey_put_other (by intro e; exact he (by injection e))]; exact h1 zd, h2⟩
structure LI (P : Program) (T : α -> List UInt8) (G : α -> Value -> Prop) (wb : World) (B r n : Nat) (D0 : DataW Value) (zs : List α) (v : Value) (left : Lit -> Bool) (cnt : Nat) (us : List α) (vals : List Value) (wr : World) : Prop where
 rg : wr.ranges P 9 Rh B r n D0 left cnt
 cn : us.length + cnt <= n
 row : wr.ownsRow (B + 1) 41 1 v us.length vals
 col : Collected D0 left (us.map T)
 len : vals.length = us.length
 val : ∀ i (h : i < us.length) (h' : i < vals.length), G us[i] vals[i]
 mem : ∀ u, u ∈ us -> u ∈ zs
 below : Below wb.heap.size wb wr
 lo : wb.heap.size <= B
 hi : B + 1 <= wr.heap.size
theorem LI.step {P : Program} {T : α -> List UInt8} {G : α -> Value -> Prop} {wb : World} {B r n : Nat} {D0 : DataW Value} {zs : List α} {v v' : Value} {left : Lit -> Bool} {cnt cnt2 : Nat} {us : List α} {vals : List Value} {wr w2 w3 : World}
  (h : LI P T G wb B r n D0 zs v left cnt us vals wr) (hM : MI T G D0 zs) {x : List UInt8} {c : Value} (hlk : left (.string x) = true) (hat : ∀ zd, D0.atKey (.string x) zd = .held c)
  (hrg2 : w2.ranges P 9 Rh B r n D0 (fun z => left z && !z.sameKey (.string x)) cnt2) (hlt : cnt2 < cnt) (hg2 : wr.grownBy w2 (some r)) (hr : wb.heap.size <= r) {o : Obj}
  (hown : w3.ownsRow (B + 1) 41 1 v' (us.length + 1) (vals ++ [c])) (hg3 : (w2.alloc o).grownBy w3 v.ownBlock) :
  ∃ u, LI P T G wb B r n D0 zs v' (fun z => left z && !z.sameKey (.string x)) cnt2 (us ++ [u]) (vals ++ [c]) w3 := by
 obtain ⟨u, hu, e⟩ := (hM.has x).1 (has_true_of_atKey hat)
 subst e
 obtain ⟨c', h1, h2⟩ := hM.val u hu
 have hc : c = c' := by
  have := (hat .nil).symm.trans (h1 .nil)
  injection this
 subst hc
 have hne : some r ≠ v.ownBlock := row_ne_iter h.row h.rg
 have hnb : some B ≠ v.ownBlock := row_ne_low h.row (by omega)
 refine ⟨u, ⟨((hrg2.alloc o).kept hg3 hnb hne), ?_, by simpa using hown, ?_, by simp [h.len], fun i hi hi' => ?_, fun y hy => ?_, ?_, h.lo, ?_⟩⟩
 ·have := h.cn; simp; omega
 ·have := h.col.step hlk hat
  simpa using this
 ·by_cases hx : i < us.length
  ·rw [List.getElem_append_left hx, List.getElem_append_left (by rw [h.len]; exact hx)]
   exact h.val i hx _
  ·have hi2 : i = us.length := by simp at hi; omega
   subst hi2
   have e1 : (us ++ [u])[us.length] = u := by simp
   have e2 : (vals ++ [c])[us.length] = c := by simp [<- h.len]
   rw [e1, e2]
   exact h2
 ·rcases List.mem_append.1 hy with hy | hy
  ·exact h.mem y hy
  ·simp only [List.mem_singleton] at hy
   subst hy; exact hu
 ·have hs := h.below.size
  have h3 := hg2.size
  refine ((h.below.grown hg2 hs (fun j hj => by cases hj; exact hr)).alloc (by omega) o).grown hg3 (by simp; omega) (fun j hj => ?_)
  have := (h.row.lt j hj).1
  have := h.lo
  omega
 ·have h3 := hg2.size
  have h4 := hg3.size
  have := h.hi
  simp at h4
  omega
end
abbrev vw (ps : List Int) (D : Nat) (notes : List (List Int)) : PVal := .adr [xA [xV (encPs ps), xV (encZs D notes), xV (encZs D (notes2 notes))]] 0 0
theorem g55Γ (p n1 n2 : List PVal) (c : Int) (K : RRes -> Bool) : Γ94 false 55 [.adr [xA [xV p, xV n1, xV n2]] 0 0, xI c] K = Q55 p n1 n2 c (fun z0 z1 => K (.tup [.p (xV z0), .p (xI z1)])) := by kernel_rfl
theorem g86Γ (p v : List PVal) (K : RRes -> Bool) : Γ94 false 86 [xV p, xV v] K = Q86 p v (fun z0 z1 => K (.tup [.p (xZ z0), .p (xI z1)])) := by kernel_rfl
theorem g70Γ (l p n1 n2 : List PVal) (K : RRes -> Bool) : Γ94 true 70 [.adr l 41 1, .clo 84 [.adr [xA [xV p, xV n1, xV n2]] 0 0] []] K = Q70_84 l p n1 n2 (fun z => K (.one (.p (.sl z)))) := by kernel_rfl
theorem pureW_of {P : Program} {W0 : World} {Γ : Oracle} (hΓ : SoundΓ P W0 Γ) {f ty k : Nat} {es ps es' : List PVal} (h : ∀ K, Γ true f (.adr es ty k :: ps) K = K (.one (.p (.sl es')))) : PureW P W0 f es ty k ps es' := by
 obtain ⟨r, hd, hk⟩ := hΓ true f (.adr es ty k :: ps) (fun x => @decide (x = .one (.p (.sl es'))) (Classical.propDecidable _)) (by rw [h]; simp)
 have : r = .one (.p (.sl es')) := by simpa using hk
 subst this
 obtain ⟨es1, ty1, k1, ps1, es2, e1, e2, h1⟩ := hd
 cases e1; cases e2
 exact h1
section
variable {ps : List Int} {D : Nat} {notes : List (List Int)} {W0 : World}
theorem pure55 (hΓ : SoundΓ Tryz.prog W0 Γ94) (h : Sc ps D notes) {c : Nat} (hc : c <= notes.length) : Pure Tryz.prog W0 55 [vw ps D notes, xI c] (.tup [.p (xV (encZs D ((List.range notes.length).map (dif notes c)))), .p (xI 0)]) :=
 pure_of hΓ fun K => by rw [g55Γ, l55 h hc]
theorem pure86 (hΓ : SoundΓ Tryz.prog W0 Γ94) (hps : PsOk ps) {v : List Rat} (hv : SV v) (hl : v.length = ps.length) : Pure Tryz.prog W0 86 [xV (encPs ps), xV (encS v)] (.tup [.p (xZ (bL (txtL ps v))), .p (xI 0)]) :=
 pure_of hΓ fun K => by rw [g86Γ, l86 hps hv hl]
theorem pure70 (hΓ : SoundΓ Tryz.prog W0 Γ94) (h : Sc ps D notes) {c : Nat} (hc : c <= notes.length) {us : List (List Int)} (hl : us.length <= 12) (hu : ∀ u, u ∈ us -> u ∈ (List.range notes.length).map (dif notes c)) :
  PureW Tryz.prog W0 70 (encZs D us) 41 1 [.clo 84 [vw ps D notes] []] (encZs D (gsort (fun a b => cmpZ ps (zsub a b)) us)) :=
 pureW_of hΓ fun K => by
  rw [g70Γ]
  refine (l70_84 (f := fun z => encZ D z) (c := fun a b => cmpZ ps (zsub a b)) hl (fun a ha b hb K => ?_) _)
  have o1 := difs_ok h hc (hu a ha)
  have o2 := difs_ok h hc (hu b hb)
  obtain ⟨i, hi, rfl⟩ := List.mem_map.1 (hu a ha)
  obtain ⟨j, hj, rfl⟩ := List.mem_map.1 (hu b hb)
  rw [Q84_def]; unfold G84
  rw [l50z h.psok h.dok o1.1 o2.1 (o1.2.mono (by omega)) (o2.2.mono (by omega)) (h.dec c c i j hc hc (List.mem_range.1 hi) (List.mem_range.1 hj))]
theorem gsort_any (h : Sc ps D notes) {c : Nat} (hc : c <= notes.length) {us : List (List Int)} (hn : us.Nodup) (hm : ∀ u, u ∈ us ↔ u ∈ (List.range notes.length).map (dif notes c)) : gsort (fun a b => cmpZ ps (zsub a b)) us = sizesZ ps notes c := by
 refine sorted_unique (f := phi ps) _ _ (strict_of _ (gsort_sorted _ fun a ha b hb => ?_) (gsort_nodup _ hn) fun a ha b hb => ?_) (sizesZ_sorted h hc) fun a => ?_
 ·exact (dif_cmp h hc hc ((hm a).1 ha) ((hm b).1 hb)).1
 ·exact (dif_cmp h hc hc ((hm a).1 ((gsort_mem _ _ _).1 ha)) ((hm b).1 ((gsort_mem _ _ _).1 hb))).2.2.1.1
 ·rw [gsort_mem, sizesZ_mem, hm]
theorem Pure.txt {P : Program} {f : Nat} {p0 p1 : PVal} {a b : Value} (h : Pure P W0 f [p0, p1] (.tup [.p (.lit a), .p (.lit b)])) {w : World} (hb : Below W0.heap.size W0 w) {S : PSet} (hlt : ∀ b o, S b o -> b < w.heap.size) {v0 v1 : Value} (h0 : RepP w S p0 v0) (h1 : RepP w S p1 v1) :
  Calls P f #[v0, v1] w fun e w' => e = .returned (.tuple #[a, b]) /\ Below w.heap.size w w' := by
 refine (h.2 w S #[v0, v1] hb hlt rfl (fun i hi => ?_)).mono ?_
 ·simp only [List.length_cons, List.length_nil] at hi
  rcases i with _ | _ | i
  ·exact h0
  ·exact h1
  ·omega
 ·rintro e w' ⟨v, S', rfl, h1, _, _, _, us, rfl, hs, h2, _⟩
  refine ⟨?_, h1⟩
  have e0 := repP_lit (h2 0 (by simp))
  have e1 := repP_lit (h2 1 (by simp))
  congr 2
  apply Array.ext
  ·simpa using hs
  ·intro i h1 h2
   simp only [List.size_toArray, List.length_cons, List.length_nil] at h2
   rcases i with _ | _ | i
   ·exact e0
   ·exact e1
   ·omega
theorem Pure.row {P : Program} {f : Nat} {p0 p1 : PVal} {es : List PVal} {b : Value} (h : Pure P W0 f [p0, p1] (.tup [.p (.sl es), .p (.lit b)])) {w : World} (hb : Below W0.heap.size W0 w) {S : PSet} (hlt : ∀ b o, S b o -> b < w.heap.size) {v0 v1 : Value} (h0 : RepP w S p0 v0) (h1 : RepP w S p1 v1) :
  Calls P f #[v0, v1] w fun e w' => ∃ v S', e = .returned (.tuple #[v, b]) /\ Below w.heap.size w w' /\ (∀ b o, S b o -> S' b o) /\ (∀ b o, S' b o -> S b o ∨ w.heap.size <= b) /\ (∀ b o, S' b o -> b < w'.heap.size) /\ RepP w' S' (.sl es) v := by
 refine (h.2 w S #[v0, v1] hb hlt rfl (fun i hi => ?_)).mono ?_
 ·simp only [List.length_cons, List.length_nil] at hi
  rcases i with _ | _ | i
  ·exact h0
  ·exact h1
  ·omega
 ·rintro e w' ⟨v, S', rfl, h1, k1, k2, k3, us, rfl, hs, h2, _⟩
  have e0 := h2 0 (by simp)
  have e1 := repP_lit (h2 1 (by simp))
  have hs2 : us.size = 2 := by simpa using hs
  refine ⟨us[0], S', ?_, h1, k1, k2, k3, e0⟩
  congr 2
  apply Array.ext
  ·simpa using hs
  ·intro i h1 h2
   simp only [List.size_toArray, List.length_cons, List.length_nil] at h2
   rcases i with _ | _ | i
   ·rfl
   ·exact e1
   ·omega
end
end Go.Ev

namespace Go.Ev
open Go Go.RowKit Go.Proofs Go.Maps
theorem info41 : (Tryz.prog.info? 41).map (fun i => (i.zero, i.size, i.bytes)) = some (some (.slice none 0 0), 1, 24) := by kernel_rfl
theorem below_grown {w w' : World} (h : Below w.heap.size w w') : w.grownBy w' none := ⟨h.os, h.tape, h.output, h.size, fun k hk _ => h.block k hk⟩
theorem rows_at {w : World} {S : PSet} {α : Type} {f : α -> List PVal} {zs : List α} {v : Value} (h : RepP w S (.sl (zs.map fun z => xV (f z))) v) (hne : 0 < zs.length) (hlt : ∀ b o, S b o -> b < w.heap.size) :
  ∃ (b o cap : Nat) (V : Nat -> Value), v = .slice (some ⟨b, o, none⟩) zs.length cap /\ b < w.heap.size /\ ∀ j (hj : j < zs.length), w.cell? ⟨b, o + j, none⟩ = some (V j) /\ RepP w S (xV (f zs[j])) (V j) := by
 generalize he : zs.map (fun z => xV (f z)) = es at h
 cases h with
 | nil => simp at he; subst he; simp at hne
 | sl _ b o cap k V hcap hV hrow =>
  have hlen : es.length = zs.length := by rw [<- he]; simp
  have hVj : ∀ j (hj : j < zs.length), RepP w S (xV (f zs[j])) (V j) := fun j hj => by
   have := hV j (by omega)
   have e : es[j]'(by omega) = xV (f zs[j]) := by subst he; simp
   rw [e] at this
   exact this
  have hcl : ∀ j, j < zs.length -> (V j).cells = #[V j] := fun j hj => by
   have := hVj j hj
   generalize V j = u at this
   generalize f zs[j] = es at this
   cases this <;> rfl
  have hk : k = 1 := by
   have := (hrow 0 (by omega)).1
   rw [hcl 0 hne] at this
   exact this.symm
  subst hk
  refine ⟨b, o, cap, V, by rw [hlen], ?_, fun j hj => ⟨?_, hVj j hj⟩⟩
  ·exact hlt _ _ ((hrow 0 (by omega)).2 0 (by omega)).1
  ·obtain ⟨_, u, h3, _, h5⟩ := (hrow j (by omega)).2 0 (by omega)
   rw [hcl j hj] at h3
   have : u = V j := by simpa using h3.symm
   rw [this] at h5
   simpa using h5
theorem rep_later {w w' : World} {S : PSet} {p : PVal} {v : Value} (h : RepP w S p v) (hlt : ∀ b o, S b o -> b < w.heap.size) (hb : Below w.heap.size w w') : RepP w' S p v :=
 h.mono (.of_blocks fun b c hs => hb.block b (hlt b c hs)) (fun _ _ h => h)
section
variable {ps : List Int} {D : Nat} {notes : List (List Int)} {W0 : World}
def GV (w1 : World) (S1 : PSet) (D : Nat) (z : List Int) (v : Value) : Prop := RepP w1 S1 (xV (encZ D z)) v
def TX (ps : List Int) (D : Nat) (z : List Int) : List UInt8 := txtL ps (zR D z)
theorem GV.one {w1 : World} {S1 : PSet} {z : List Int} {v : Value} (h : GV w1 S1 D z v) : v.oneCell' = true /\ v.cells = #[v] := by
 unfold GV at h
 generalize encZ D z = es at h
 cases h <;> exact ⟨rfl, rfl⟩
theorem GV.slice {w1 : World} {S1 : PSet} {z : List Int} {v : Value} (h : GV w1 S1 D z v) : ∃ a n c, v = .slice a n c := by
 unfold GV at h
 generalize encZ D z = es at h
 cases h with
 | nil => exact ⟨_, _, _, rfl⟩
 | sl => exact ⟨_, _, _, rfl⟩
theorem txt_len {ps : List Int} (hps : PsOk ps) {v : List Rat} (hv : SV v) : (txtL ps v).length <= 1000 := by
 have hlen := hps.len
 have hs : ∀ a, a ∈ segsL ps v -> a.length <= 100 := fun a ha => by
  unfold segsL at ha
  obtain ⟨⟨p, q⟩, hx, rfl⟩ := List.mem_map.1 ha
  have hx := (List.mem_filter.1 hx).1
  have hp := hps.mem _ (List.of_mem_zip hx).1
  have hf := frac_len (hv _ (List.of_mem_zip hx).2)
  have h0 := itoa_len (n := p) (by omega) (by omega)
  dsimp only
  unfold segL
  split
  ·omega
  ·split <;> simp only [List.length_append, List.length_cons, List.length_nil] <;> omega
 have hj := joinL_len [32] rfl (m := 100) (segsL ps v) hs
 have hsl : (segsL ps v).length <= 3 := by
  unfold segsL
  rw [List.length_map]
  refine Nat.le_trans (List.length_filter_le _ _) ?_
  rw [List.length_zip]
  omega
 unfold txtL
 split
 ·simp
 ·omega
theorem repO_of {w1 w : World} {S1 : PSet} {g : Nat} {cur : Array Value} {us : List (List Int)} {vals : List Value} (hg : w.heap[g]? = some (.cells cur 41 (0, 0))) (hcur : cur.toList.take (us.length * 1) = vals) (hl : vals.length = us.length)
  (hv : ∀ i (h : i < us.length) (h' : i < vals.length), GV w1 S1 D us[i] vals[i]) (hb : Below w1.heap.size w1 w) (k3 : ∀ b o, S1 b o -> b < w1.heap.size) (hg1 : w1.heap.size <= g) :
  RepO w S1 ⟨fun _ => g, fun _ => 1, fun _ => us.length⟩ 0 (.buf false 41 1 (encZs D us)) := by
 refine ⟨rfl, by simp, cur, hg, fun i => vals.getD i undef, fun i hi => ?_, fun i hi => ?_, fun h => (by cases h), fun c _ hs => ?_⟩
 all_goals dsimp only at *
 ·have hi' : i < us.length := by simpa using hi
  have e : (encZs D us)[i] = xV (encZ D us[i]) := by simp
  have e2 : vals.getD i undef = vals[i]'(by omega) := by simp [show i < vals.length by omega]
  rw [e, e2]
  exact rep_later (hv i hi' (by omega)) k3 hb
 ·have hi' : i < us.length := by simpa using hi
  have e2 : vals.getD i undef = vals[i]'(by omega) := by simp [show i < vals.length by omega]
  rw [e2]
  obtain ⟨o1, o2⟩ := (hv i hi' (by omega)).one
  rw [o2]
  refine ⟨rfl, fun j hj => ⟨_, by obtain rfl : j = 0 := (by omega); rfl, o1, ?_⟩⟩
  have h0 : j = 0 := by omega
  subst h0
  have h1 : (cur.toList.take (us.length * 1))[i]? = vals[i]? := by rw [hcur]
  rw [List.getElem?_take_of_lt (by omega), Array.getElem?_toList, List.getElem?_eq_getElem (show i < vals.length by omega)] at h1
  simpa using h1
 ·have := k3 _ _ hs
  omega
theorem repP_of {w : World} {S : PSet} {x : Ix} {es : List PVal} {cap : Nat} (h : RepO w S x 0 (.buf false 41 1 es)) (hc : es.length <= cap) :
  RepP w (fun b c => S b c ∨ (b = x.m 0 /\ c < es.length)) (.sl es) (.slice (some ⟨x.m 0, 0, none⟩) es.length cap) := by
 obtain ⟨h1, h2, cur, h3, V, h4, h5, _, _⟩ := h
 refine .sl es _ 0 cap 1 V hc (fun i hi => (h4 i hi).mono (keeps_refl _ _) (fun _ _ h => .inl h)) fun i hi => ⟨(h5 i hi).1, fun j hj => ⟨.inr ⟨rfl, by omega⟩, ?_⟩⟩
 obtain ⟨u, q1, q2, q3⟩ := (h5 i hi).2 j hj
 refine ⟨u, q1, q2, ?_⟩
 simp only [World.cell?, h3]
 simpa using q3
set_option maxRecDepth 100000 in
set_option maxHeartbeats 4000000 in
theorem sizes_walk (hΓ : SoundΓ Tryz.prog W0 Γ94) (h : Sc ps D notes) {c : Nat} (hc : c <= notes.length) (w : World) (hbw : Below W0.heap.size W0 w) (S : PSet) (hlt : ∀ b o, S b o -> b < w.heap.size) (b o : Nat)
  (hview : RepP w S (vw ps D notes) (.pointer (some ⟨b, o, none⟩))) (pv : Value) (hbl : b < w.heap.size) (hpc : w.cell? ⟨b, o, none⟩ = some pv) (u0 : RepP w S (xV (encPs ps)) pv) :
  Calls Tryz.prog 52 #[.pointer (some ⟨b, o, none⟩), .int .i64 c] w fun e w' => ∃ v S', e = .returned (.tuple #[v, .int .i64 0]) /\ Below w.heap.size w w' /\ (∀ b o, S b o -> S' b o) /\ (∀ b o, S' b o -> S b o ∨ w.heap.size <= b) /\ (∀ b o, S' b o -> b < w'.heap.size) /\ RepP w' S' (.sl (encZs D (sizesZ ps notes c))) v := by
 have hn9 := h.len
 have hne := h.ne
 obtain ⟨i0, hi, hz0, hz1, hz2⟩ := info_parts info41
 have hmm := @run_makeMap Tryz.prog
 obtain ⟨zs, hzs⟩ : ∃ zs, zs = (List.range notes.length).map (dif notes c) := ⟨_, rfl⟩
 have hzl : zs.length = notes.length := by rw [hzs]; simp
 have hzo : ∀ z, z ∈ zs -> z.length = ps.length /\ ZS 6000 z := fun z hz => difs_ok h hc (by rw [<- hzs]; exact hz)
 have hzm : Hid (zs = (List.range notes.length).map (dif notes c)) := hzs
 have h55 : Calls Tryz.prog 55 #[.pointer (some ⟨b, o, none⟩), .int .i64 c] w fun e w1 => ∃ (lb lo cap : Nat) (V : Nat -> Value) (S1 : PSet), e = .returned (.tuple #[.slice (some ⟨lb, lo, none⟩) notes.length cap, .int .i64 0]) /\ Below w.heap.size w w1 /\ (∀ b o, S b o -> S1 b o) /\ (∀ b o, S1 b o -> S b o ∨ w.heap.size <= b) /\ (∀ b o, S1 b o -> b < w1.heap.size) /\
   lb < w1.heap.size /\ ∀ j (hj : j < zs.length), w1.cell? ⟨lb, lo + j, none⟩ = some (V j) /\ GV w1 S1 D zs[j] (V j) := by
  refine ((pure55 hΓ h hc).row hbw hlt hview (.lit _)).mono ?_
  rintro e w1 ⟨lv, S1, rfl, hB1, k1, k2, k3, hlv⟩
  rw [<- hzs] at hlv
  obtain ⟨lb, lo, cap, V, rfl, hlb, hVV⟩ := rows_at (f := fun z => encZ D z) hlv (by omega) k3
  exact ⟨lb, lo, cap, V, S1, by rw [hzl], hB1, k1, k2, k3, hlb, hVV⟩
 clear hzs
 go_enter Tryz.func52, Tryz.ntmps52
 go_wp2_with (go_at_call 55; refine h55.mono ?_; rintro e w1 ⟨lb, lo, cap, V, S1, rfl, hB1, k1, k2, k3, hlb, hVV⟩)
 have hu1 := rep_later u0 hlt hB1
 have hu1 : RepP w1 S1 (xV (encPs ps)) pv := hu1.mono (keeps_refl _ _) k1
 have hbw1 := hbw.trans (hB1.mono hbw.size)
 have hs1 := hB1.size
 have hpc1 := (hB1.cell (p := ⟨b, o, none⟩) hbl).trans hpc
 go_loopw [28] (fun i wr => ∃ k : Nat, k <= notes.length /\ i = .int .i64 k /\ ∃ Dm, wr.ownsMap Tryz.prog 9 Rh w1.heap.size k Dm /\ MI (TX ps D) (GV w1 S1 D) Dm (zs.take k) /\ Below w1.heap.size w1 wr /\ w1.heap.size + 1 <= wr.heap.size)
  (fun i _ => notes.length - (intOf i).toNat)
 case atStart => exact ⟨0, Nat.zero_le _, rfl, _, World.ownsMap_made _ _ _ _, MI.start _ _, (Below.refl _ _).alloc (Nat.le_refl _) _, by simp⟩
 case round =>
  obtain ⟨k, hk, rfl, Dm, hown, hM, hnx, hsz⟩ := hrel
  have hpcr := (hnx.cell (p := ⟨b, o, none⟩) (show b < w1.heap.size by omega)).trans hpc1
  by_cases hkn : k < notes.length
  ·obtain ⟨hVk, hGk⟩ := hVV k (by omega)
   have hVr := (hnx.cell (p := ⟨lb, lo + k, none⟩) hlb).trans hVk
   have hzk := hzo zs[k] (List.getElem_mem _)
   have hsv : SV (zR D zs[k]) := zR_SV (by have := h.dok; omega) (hzk.2.mono (by omega))
   have hlr : ∀ b o, S1 b o -> b < wr.heap.size := fun b o hs => Nat.lt_of_lt_of_le (k3 b o hs) hnx.size
   have h86 := (pure86 hΓ h.psok hsv (by rw [zR_len]; exact hzk.1)).txt (hbw1.trans (hnx.mono hbw1.size)) hlr (rep_later hu1 k3 hnx) (rep_later hGk k3 hnx)
   have hkey : keyOf Tryz.prog 9 (.string (bL (txtL ps (zR D zs[k])))) = some (.string (TX ps D zs[k])) := Go.WideMaps.keyOf_string_mk Tryz.underlying9 (by have := txt_len h.psok hsv; rw [bL_size]; unfold maxLen; omega)
   have hM' : ∀ v, v = V k -> MI (TX ps D) (GV w1 S1 D) (Dm.put (.string (TX ps D zs[k])) (.held v)) (zs.take (k + 1)) := by
    rintro v rfl
    rw [List.take_add_one, List.getElem?_eq_getElem (show k < zs.length by omega)]
    refine hM.put (fun y hy he => ?_) hGk
    have hyo := hzo y (List.mem_of_mem_take hy)
    exact zR_inj h.dok.1 (txt_inj h.psok (by rw [zR_len]; exact hyo.1) (by rw [zR_len]; exact hzk.1) (zR_SV (by have := h.dok; omega) (hyo.2.mono (by omega))) hsv he)
   clear hGk hM hzk hsv
   go_wp2_with (first
    | (go_at_call 86; refine h86.mono ?_; rintro e w2 ⟨rfl, hB2⟩; have hown2 := hown.kept (below_grown hB2) (by simp))
    | (at_mapUpdate; refine wpList_mapUpdate_own _ rfl _ _ _ 119 rfl 9 41 keyed9 Tryz.underlying119 Rh w1.heap.size k Dm rfl hown2 (by unfold maxLen; omega) _ _ _ rfl rfl hkey (.held (V k)) [] rfl ?_; intro w3 hown3 hg3)
    | go_in)
   go_roundw
   case rel =>
    have hb2 := hB2.size
    exact ⟨k + 1, by omega, by go_num, _, hown3, hM' _ rfl, (hnx.trans (hB2.mono hnx.size)).grown hg3 (by omega) (fun j hj => by cases hj; exact Nat.le_refl _), by have := hg3.size; omega⟩
   case measure => simp [intOf]; omega
  ·obtain rfl : k = notes.length := by omega
   obtain ⟨wm, hwm⟩ : ∃ wm, wm = wr := ⟨wr, rfl⟩
   subst hwm
   rw [List.take_of_length_le (by omega)] at hM
   have hsz0 := hown.size_le
   go_wp2_with (first
    | (at_range; refine wpList_range_own _ rfl _ 119 rfl 9 41 keyed9 Tryz.underlying119 Rh w1.heap.size notes.length Dm rfl hown ?_; intro w2 hrg2 hg2 hs2)
    | go_in)
   go_frame
   go_loopw [13] (fun v wq => ∃ left cnt us vals, LI Tryz.prog (TX ps D) (GV w1 S1 D) w1 w1.heap.size wm.heap.size notes.length Dm zs v left cnt us vals wq) (fun _ wq => wq.rangeLeft w1.heap.size wm.heap.size)
   case atStart =>
    exact ⟨_, _, [], [], { rg := hrg2, cn := by simpa using hsz0, row := World.ownsRow_nil _ _ _ _, col := Collected.start Dm, len := rfl, val := fun i hi => by simp at hi, mem := fun u hu => by simp at hu, below := hnx.grown hg2 hnx.size (fun j hj => by cases hj), lo := Nat.le_refl _, hi := by have := hg2.size; omega }⟩
   case round =>
    obtain ⟨left, cnt, us, vals, hI⟩ := hrel
    go_wp2_with (first
     | (at_next; refine wpList_next_ranges _ rfl _ rfl 9 keyed9 Rh encStr (fun v : Value => v) (fun key kl hk => by obtain ⟨x, hx, _⟩ := Maps.keyOf_str Tryz.underlying9 hk; exact ⟨x, hx⟩) (fun v y _ => ⟨v, rfl⟩) w1.heap.size wm.heap.size notes.length _ _ _ rfl hI.rg ?_ ?_)
     | go_in)
    ·intro hc0 hl0
     have hzm' := hzm.out
     have hcol := hI.col
     have hcn := hI.cn
     have hus : ∀ u, u ∈ us ↔ u ∈ zs := fun u => ⟨hI.mem u, fun hu => by
      have : TX ps D u ∈ us.map (TX ps D) := (hcol.2 _).2 ⟨(hM.has _).2 ⟨u, hu, rfl⟩, hl0 _⟩
      obtain ⟨u', hu', e⟩ := List.mem_map.1 this
      have o1 := hzo u' (hI.mem _ hu')
      have o2 := hzo u hu
      have : u' = u := zR_inj h.dok.1 (txt_inj h.psok (by rw [zR_len]; exact o1.1) (by rw [zR_len]; exact o2.1) (zR_SV (by have := h.dok; omega) (o1.2.mono (by omega))) (zR_SV (by have := h.dok; omega) (o2.2.mono (by omega))) e)
      rwa [<- this]⟩
     have hnd : us.Nodup := List.Pairwise.of_map (TX ps D) (fun a b hab e => hab (congrArg _ e)) hcol.1
     have hpos : 0 < us.length := by
      have : zs[0]'(by omega) ∈ us := (hus _).2 (List.getElem_mem _)
      exact List.length_pos_of_mem this
     rcases hI.row.2 with ⟨_, h0⟩ | ⟨g, cp, cur, rfl, hbase, hg, q1, q2, q3, q4⟩
     ·omega
     have hO := repO_of hg q4 hI.len hI.val hI.below k3 (by omega)
     have hbr := hbw1.trans (hI.below.mono hbw1.size)
     have hlr : ∀ b o, S1 b o -> b < wr.heap.size := fun b o hs => Nat.lt_of_lt_of_le (k3 b o hs) hI.below.size
     have hgl : g < wr.heap.size := (Array.getElem?_eq_some_iff.1 hg).1
     have hvr := rep_later ((rep_later hview hlt hB1).mono (keeps_refl _ _) k1) k3 hI.below
     have hbs := hbw1.size
     have h70 := (pure70 hΓ h hc (us := us) (by omega) (fun u hu => by rw [<- hzm']; exact hI.mem u hu)).2 wr S1 ⟨fun _ => g, fun _ => 1, fun _ => us.length⟩ #[.slice (some ⟨g, 0, none⟩) us.length cp, .func (.func 84) #[.pointer (some ⟨b, o, none⟩)] #[]] hbr hlr hgl (by show W0.heap.size <= g; omega) hO rfl
      (RepL.own 0 cp q1 q2 ⟨cur, 41, (0, 0), hg, q3⟩) (fun i hi => by
       have : i = 0 := by simpa using hi
       subst this
       refine .clo 84 [vw ps D notes] [] _ _ rfl rfl (fun i hi => ?_) (fun i hi => by simp at hi)
       have : i = 0 := by simpa using hi
       subst this
       exact hvr)
     rw [gsort_any h hc hnd (fun u => by rw [hus, hzm'])] at h70
     have hbf : Below w.heap.size w wr := hB1.trans (hI.below.mono hs1)
     have hrs := hI.below.size
     clear hI hM hO hcol hus hnd hl0 hvr hg
     go_wp2_with (go_at_call 70; refine h70.mono ?_; rintro e w5 ⟨S5, rfl, hX, s1, s2, s3, hz, hO5⟩)
     refine bodyPost_ret (results_tmp2 rfl _ _ _) rfl ?_
     have hel : us.length = (encZs D (sizesZ ps notes c)).length := hO5.2.1
     have hrep := repP_of hO5 (cap := cp) (by omega)
     rw [<- hel] at hrep
     refine ⟨_, _, rfl, hbf.trans ⟨hX.os, hX.tape, hX.output, hX.size, fun k hk => hX.block k (by omega) (by omega)⟩, fun b o hs => .inl (s1 _ _ (k1 _ _ hs)), fun b o hs => ?_, fun b o hs => ?_, hrep⟩
     ·rcases hs with hs | ⟨rfl, _⟩
      ·rcases s2 _ _ hs with hs | hs
       ·exact k2 _ _ hs
       ·right; omega
      ·right; omega
     ·rcases hs with hs | ⟨rfl, _⟩
      ·exact s3 _ _ hs
      ·have := hX.size
       omega
    ·intro x cv kl yd yp w3 cnt3 hkey hlk hv hat hrg3 hlt3 hg3 hs3 hen
     obtain ⟨x', ex, rfl, _⟩ := Maps.keyOf_str Tryz.underlying9 hkey
     obtain rfl : x = x' := encStr_inj ex
     have hat' : ∀ zd, Dm.atKey (.string x) zd = .held cv := fun zd => (hat zd).trans (by have := Option.some.inj hv; exact (congrArg Prod.fst this).symm)
     have hrow3 := hI.row.kept hg3 (Or.inr (row_ne_iter hI.row hI.rg).symm)
     have hcv : ∃ a n c, cv = .slice a n c := by
      obtain ⟨u, hu, e⟩ := (hM.has x).1 (has_true_of_atKey hat')
      subst e
      obtain ⟨c', h1, h2⟩ := hM.val u hu
      have hc : cv = c' := by
       have := (hat' .nil).symm.trans (h1 .nil)
       injection this
      rw [hc]
      exact h2.slice
     obtain ⟨ca, cn, cc, rfl⟩ := hcv
     have HM := Lib.hid hM
     have HI := Lib.hid hI
     have HA := Lib.hid hat'
     have hcn := hI.cn
     have hih := hI.hi
     have hgs := hg3.size
     clear hs3 hat hat' hM hI hv hkey ex
     go_wp2_with (first
      | (at_builtin; refine wpList_append_own _ rfl _ _ 30 rfl (w1.heap.size + 1) 41 i0 (.slice none 0 0) 1 24 Tryz.underlying30 hi hz0 hz1 hz2 rfl (by decide) _ _ _ rfl (hrow3.alloc _) ⟨w3.heap.size, 0, none⟩ 1 1 [.slice ca cn cc] rfl rfl (cell_one_new _ _ _) (by simp [Value.oneCell']) (by unfold maxLen; omega) (by omega) (by simp; omega) ?_; intro v' w4 hown' hg4 hnil4; go_frame)
      | go_in)
     obtain ⟨u, hI'⟩ := HI.out.step HM.out hlk HA.out hrg3 hlt3 hg3 (by omega) hown' hg4
     have hI0 := HI.out
     clear HI HM HA hown' hg4 hrow3 hnil4
     go_roundw
     case rel => exact ⟨_, _, _, _, hI'⟩
     case measure => rw [hI'.rg.left_eq, hI0.rg.left_eq]; exact hlt3
theorem hand52 (hΓ : SoundΓ Tryz.prog W0 Γ94) : Hand52 W0 := fun p n1 n2 d K hK => by
 rw [H52_def] at hK; unfold D52 at hK
 split at hK
 ·next ps l1 l2 hp h1 h2 =>
  split at hK
  ·next hx =>
   obtain ⟨D, notes, h, rfl, rfl, rfl, rfl, rfl, h0, hd⟩ := hx
   obtain ⟨c, rfl⟩ := Int.eq_ofNat_of_zero_le h0
   have hc : c <= notes.length := by omega
   rw [List.length_map, Int.toNat_natCast, sizes_zR h hc, <- encZs_L] at hK
   refine ⟨_, ⟨enters Tryz.func52 (by kernel_rfl) (by kernel_rfl), fun w S vs hbw hlt hs hr => ?_⟩, hK⟩
   obtain ⟨v0, v1, rfl, r0, r1⟩ := args2 hs hr
   obtain rfl := repP_lit r1
   rw [<- encZs_L, <- encZs_L] at r0
   have r0 : RepP w S (vw ps D notes) v0 := r0
   have r0' := r0
   cases r0 with
   | adr es i j b o k V hi hj hV hrow =>
    obtain ⟨hk, hcells⟩ := hrow 0 (by simp)
    obtain ⟨pv, m1, m2, hV0, u0, u1, u2⟩ := agg3 (hV 0 (by simp))
    rw [hV0] at hk hcells
    obtain ⟨hS0, u, e1, e2, e3⟩ := hcells 0 hj
    have : u = pv := by
     have e1' : some pv = some u := e1
     exact (Option.some.inj e1').symm
    subst this
    simp only [Nat.zero_mul, Nat.add_zero] at hS0 e3 r0' ⊢
    refine (sizes_walk hΓ h hc w hbw S hlt b o r0' _ (hlt _ _ hS0) e3 u0).mono ?_
    rintro e w' ⟨v, S', rfl, q1, q2, q3, q4, q5⟩
    refine ⟨_, S', rfl, q1, q2, q3, q4, _, rfl, rfl, fun i hi => ?_, fun i j hi hj h1 => ?_⟩
    ·simp only [List.length_cons, List.length_nil] at hi
     rcases i with _ | _ | i
     ·exact q5
     ·exact .lit _
     ·omega
    ·simp only [List.length_cons, List.length_nil] at hi
     rcases i with _ | _ | i
     ·cases h1
     ·cases h1
     ·omega
  ·cases hK
 ·cases hK
end
end Go.Ev

namespace Go.Ev
open Go Go.RowKit Go.Proofs Go.ChangeShapes Go.WideShapes
open Go.Proofs.YthgolelddficaaaGreatDoor
abbrev laid5 : List (String × DataW Unit) := [("math/bits.deBruijn32tab", Rows.laid_math_bits_deBruijn32tab), ("math/bits.deBruijn64tab", Rows.laid_math_bits_deBruijn64tab), ("internal/strconv.uint64pow10", Rows.laid_internal_strconv_uint64pow10), ("strconv.ErrRange", Rows.laid_strconv_ErrRange), ("strconv.ErrSyntax", Rows.laid_strconv_ErrSyntax)]
theorem ownK : ownKnob Tryz.prog.godebug = none := by kernel_rfl
theorem door_met (os : Os) (args : Array Value) : laidMetH Tryz.prog laid5 ((World.doorLaid Tryz.prog 62 os).forCall (fun _ _ => 0) ⟨#[], args, []⟩).memory :=
 laidMetH_of_parts3 (fuel := 8) (laidMet_of_run' 8 (by kernel_rfl) (by kernel_rfl)) (by kernel_rfl) (by kernel_rfl)
theorem tab_of_laid {W : World} (h : laidMetH Tryz.prog laid5 W) : Tab W := by
 rw [MakeChecks.laidMetH_plain _ _ _ (by kernel_rfl)] at h
 obtain ⟨ps, ⟨g0, t0, cs0, f0, p0, q0, hg0, ht0, hv0, hd0, ⟨g1, t1, cs1, f1, p1, q1, hg1, ht1, hv1, hd1, ⟨g2, t2, cs2, f2, p2, q2, hg2, ht2, hv2, hd2, _⟩, _⟩, _⟩, _, _⟩ := h
 have e : (Rows.laid_internal_strconv_uint64pow10 : DataW Unit) = Lib.tabData .u64 Lib.pow10Tab := rfl
 rw [e] at hd2
 have hn : Tryz.prog.globalNamed "internal/strconv.uint64pow10" = some 2 := by kernel_rfl
 obtain rfl := Option.some.inj (hn.symm.trans hg2)
 obtain rfl := Option.some.inj ((show (Tryz.prog.globals[2]?).map (·.type) = some 286 by kernel_rfl).symm.trans ht2)
 have hc := Lib.cells_of_tab (n := 20) Tryz.underlying286 Tryz.underlying173 (by kernel_rfl) (by kernel_rfl) hd2
 intro w hb
 have hv : W.var? Tryz.prog "internal/strconv.uint64pow10" = some (Lib.pow10Tab.map fun z => Value.int .u64 z).toArray := by rw [hv2, <- hc]
 unfold Lib.TabIs
 rw [<- hv]
 unfold World.var?
 rw [hn]
 simp only [Option.bind_some]
 have hlt : 2 < W.heap.size := by
  rcases Nat.lt_or_ge 2 W.heap.size with h | h
  ·exact h
  ·unfold World.var? at hv
   rw [hn] at hv
   simp only [Option.bind_some, Array.getElem?_eq_none h] at hv
   cases hv
 rw [hb.block 2 hlt]
def A8 (cs : List Value) : Prop := ∀ x, x ∈ cs -> ∃ n, x = .int .i8 n /\ -128 <= n /\ n <= 127
theorem a8_chunks {cs : List Value} {n m : Nat} (hm : 0 < m) (hl : cs.length = n * m) (h : ∀ i, i < n -> A8 ((cs.drop (i * m)).take m)) : A8 cs := fun x hx => by
 obtain ⟨j, hj, rfl⟩ := List.getElem_of_mem hx
 have hd : j / m < n := by rw [Nat.div_lt_iff_lt_mul hm]; omega
 refine h (j / m) hd _ ?_
 have h1 := Nat.div_add_mod j m
 have h2 := Nat.mod_lt j hm
 rw [Nat.mul_comm] at h1
 have h3 : j % m < ((cs.drop (j / m * m)).take m).length := by
  rw [List.length_take, List.length_drop]
  have : j / m * m + m <= cs.length := by
   rw [hl]
   have := Nat.mul_le_mul_right m (show j / m + 1 <= n by omega)
   rw [Nat.add_mul] at this
   omega
  omega
 have : ((cs.drop (j / m * m)).take m)[j % m] = cs[j] := by
  rw [List.getElem_take, List.getElem_drop]
  congr 1
 rw [<- this]
 exact List.getElem_mem h3
section
variable {H : Type} {enc : TypeId × Value -> H} {w : World} {base : Nat} {spare : Nat -> Bool} {held : Bool}
set_option maxRecDepth 100000
theorem a8_one {fuel : Nat} {cs : List Value} {x : DataW H × List MemPlace} (h : DataW.trod enc Tryz.prog w base spare held fuel 22 cs = some x) : A8 cs := by
 obtain ⟨n, rfl, _, hw⟩ := DataW.trod_int Tryz.underlying22 h
 intro y hy
 simp only [List.mem_singleton] at hy
 exact ⟨n, hy, bounds_i8 hw⟩
theorem a8_three {fuel : Nat} {cs : List Value} {x : DataW H × List MemPlace} (h : DataW.trod enc Tryz.prog w base spare held fuel 23 cs = some x) : A8 cs := by
 obtain ⟨xs, m, _, _, hl, hx, hi⟩ := DataW.trod_array Tryz.underlying23 h
 have hl : cs.length = 3 := hl.trans (by kernel_rfl)
 have h1 : Tryz.prog.cellsOf 22 = 1 := by kernel_rfl
 refine a8_chunks (n := 3) (m := 1) (by omega) hl fun i hi' => ?_
 have := hi i hi'
 rw [h1, List.getElem?_eq_getElem (by omega)] at this
 exact a8_one this
theorem a8_all {fuel : Nat} {cs : List Value} {x : DataW H × List MemPlace} (h : DataW.trod enc Tryz.prog w base spare held fuel 24 cs = some x) : A8 cs /\ cs.length = 24 := by
 obtain ⟨xs, m, _, _, hl, hx, hi⟩ := DataW.trod_array Tryz.underlying24 h
 have hl : cs.length = 24 := hl.trans (by kernel_rfl)
 have h1 : Tryz.prog.cellsOf 23 = 3 := by kernel_rfl
 refine ⟨a8_chunks (n := 8) (m := 3) (by omega) hl fun i hi' => ?_, hl⟩
 have := hi i hi'
 rw [h1, List.getElem?_eq_getElem (by omega)] at this
 exact a8_three this
theorem world_open {r : Reach} {b0 : Nat} {v : Value} {d : DataW H} {p : List MemPlace} (hv : Value.okWide Tryz.prog w r b0 26 v) (h : DataW.Trod enc Tryz.prog w base spare held 26 v d p) :
  ∃ (th : Bool) (kd nm : Int) (ns : List Int), v = .agg (.bool th :: .int .u8 kd :: .int .u8 nm :: ns.map (.int .i8)).toArray /\ 0 <= kd /\ 0 <= nm /\ ns.length = 24 /\ ∀ n, n ∈ ns -> -128 <= n /\ n <= 127 := by
 obtain ⟨cs, rfl, hsz⟩ := okWide_struct Tryz.underlying26 hv
 obtain ⟨fuel, hf⟩ := h
 obtain ⟨y0, y1, y2, y3, n, hx, hl, h0, h1, h2, h3⟩ := Joins.trod_struct4 Tryz.underlying26 hf
 have hl : cs.toList.length = 27 := hl.trans (by kernel_rfl)
 have hcs : (Value.agg cs).cells = cs := rfl
 rw [hcs] at h0 h1 h2 h3
 have c4 : Tryz.prog.cellsOf 4 = 1 := by kernel_rfl
 have c5 : Tryz.prog.cellsOf 5 = 1 := by kernel_rfl
 have c24 : Tryz.prog.cellsOf 24 = 24 := by kernel_rfl
 obtain ⟨th, e0, _⟩ := DataW.trod_bool Tryz.underlying4 h0
 obtain ⟨kd, e1, _, w1⟩ := DataW.trod_int Tryz.underlying5 h1
 obtain ⟨nm, e2, _, w2⟩ := DataW.trod_int Tryz.underlying5 h2
 obtain ⟨ha, _⟩ := a8_all h3
 simp only [c4, c5, c24] at e0 e1 e2 ha
 obtain ⟨l⟩ := cs
 simp only at hl e0 e1 e2 ha
 match l, hl with
 | a :: b :: c :: r, hl =>
  have hr : r.length = 24 := by simpa using hl
  simp only [List.drop_zero, List.take_succ_cons, List.take_zero, List.cons.injEq, and_true, List.drop_succ_cons] at e0 e1 e2
  subst e0; subst e1; subst e2
  have ha : A8 r := by
   have e : (r.take 24) = r := List.take_of_length_le (by omega)
   simpa [e] using ha
  refine ⟨th, kd, nm, r.map (fun x => match x with | .int _ n => n | _ => 0), ?_, by have := bounds_u8 w1; omega, by have := bounds_u8 w2; omega, by simpa using hr, fun n hn => ?_⟩
  ·congr 1
   congr 1
   congr 3
   rw [List.map_map]
   refine ((List.map_congr_left (g := id) fun x hx => ?_).trans (List.map_id r)).symm
   obtain ⟨m, rfl, _⟩ := ha x hx
   rfl
  ·obtain ⟨x, hx, rfl⟩ := List.mem_map.1 hn
   obtain ⟨m, rfl, h1⟩ := ha x hx
   exact h1
end
end Go.Ev

namespace Go.Ev
open Go Go.RowKit
section
variable {ps : List Int} {D : Nat} {notes : List (List Int)}
theorem l51 (h : Sc ps D notes) {c : Nat} (hc : c <= notes.length) (K0 : Int -> Bool) (K1 : List PVal -> List PVal -> List PVal -> Int -> Bool) :
  Q51 (encPs ps) (encZs D notes) (c : Int) K0 K1 = K1 (encPs ps) (encZs D notes) (encZs D (notes2 notes)) 0 := by
 rw [Q51_def]; unfold G51
 rw [l54 h]
 simp only [bne_self_eq_false, cond_false, encZs_len]
 rw [decide_eq_false (show ¬ ((c : Int) < 0) by omega), decide_eq_false (show ¬ ((c : Int) > nI notes.length) by simp only [nI]; omega), cond_false, cond_false]
theorem l23 (h : Sc ps D notes) {c : Nat} (hc : c <= notes.length) (K : List PVal -> Int -> Bool) : Q23 (encPs ps) (encZs D notes) (c : Int) K = K (encZs D (sizesZ ps notes c)) 0 := by
 rw [Q23_def]; unfold G23
 rw [l51 h hc]
 simp only [bne_self_eq_false, cond_false]
 rw [l52 h hc]
end
end Go.Ev

namespace Go.Ev
open Go Go.RowKit Go.Proofs Go.Maps Go.Deep
theorem sl_one {w : World} {S : PSet} {es : List PVal} {v : Value} (h : RepP w S (.sl es) v) : v.oneCell' = true /\ v.cells = #[v] := by
 cases h <;> exact ⟨rfl, rfl⟩
structure TI (w : World) (S0 : PSet) (g n : Nat) (E : Nat -> Nat -> List PVal) (reps : List (PVal × Value)) (len : Nat -> Nat) (R : Nat -> Value) (X : Nat -> List Value) (S : PSet) (wr : World) : Prop where
 below : Below w.heap.size w wr
 glo : w.heap.size <= g
 top : wr.rowIs g 30 n R
 own : ∀ r, r < n -> wr.ownsRow (g + 1) 41 1 (R r) (len r) (X r)
 sep : ∀ r r', r < n -> r' < n -> r ≠ r' -> ∀ b, (R r).ownBlock = some b -> (R r').ownBlock ≠ some b
 val : ∀ r, r < n -> ∀ d v, (X r)[d]? = some v -> RepP wr S (.sl (E r d)) v
 rep : ∀ q, q ∈ reps -> RepP wr S q.1 q.2
 sup : ∀ b o, S0 b o -> S b o
 sub : ∀ b o, S b o -> S0 b o ∨ w.heap.size <= b
 slt : ∀ b o, S b o -> b < wr.heap.size
 sne : ∀ b o, S b o -> b ≠ g /\ ∀ r, r < n -> (R r).ownBlock ≠ some b
section
variable {w wr w1 w2 w3 : World} {S0 S S1 S2 : PSet} {g n : Nat} {E : Nat -> Nat -> List PVal} {reps : List (PVal × Value)} {len : Nat -> Nat} {R : Nat -> Value} {X : Nat -> List Value}
end
end Go.Ev

namespace Go.Ev
open Go Go.RowKit Go.Proofs Go.Maps Go.Deep
section
variable {ps : List Int} {D : Nat} {notes : List (List Int)} {W0 : World}
theorem agg_mk2 {w : World} {S : PSet} {p0 p1 : PVal} {v0 v1 : Value} (h0 : RepP w S p0 v0) (h1 : RepP w S p1 v1) : RepP w S (.agg [p0, p1]) (.agg #[v0, v1]) := by
 refine .agg _ _ rfl fun i hi => ?_
 simp only [List.length_cons, List.length_nil] at hi
 rcases i with _ | _ | i
 ·exact h0
 ·exact h1
 ·omega
end
end Go.Ev

namespace Go.Ev
open Go Go.RowKit Go.Proofs
section
variable {ps : List Int} {D : Nat} {notes : List (List Int)} {W0 : World}
theorem getD_zR (notes : List (List Int)) (j : Nat) : (notes.map (zR D)).getD j [] = zR D (notes.getD j []) := by
 rw [List.getD_eq_getElem?_getD, List.getElem?_map, List.getD_eq_getElem?_getD]
 cases notes[j]? <;> rfl
theorem noteQ_zR (hD : 0 < D) (i : Nat) : noteQ (notes.map (zR D)) i = zR D (noteZ notes i) := by
 unfold noteQ noteZ
 rw [List.length_map, getD_zR, getD_zR, zR_scale]
 dsimp only
 split
 ·rfl
 ·rw [zR_add hD]
theorem decLs_sc (h : Sc ps D notes) : decLs (encZs D notes) = some (notes.map (zR D)) := by
 have hD := h.dok
 rw [encZs_L]
 refine decLs_ok fun v hv => ?_
 obtain ⟨z, hz, rfl⟩ := List.mem_map.1 hv
 exact zR_SV (by omega) ((h.vec z hz).2.mono (by omega))
end
end Go.Ev

namespace Go.Ev
open Go Go.RowKit Go.Proofs Go.Maps Go.Deep
theorem g55f (a0_0 a0_1 a0_2 : PL) (a1 : Int) (K : RRes -> Bool) : runFn E Γ90 (mkΛ [Ent55_0]) true Tryz.f55 [(.adr [(xA [(xV a0_0), (xV a0_1), (xV a0_2)])] 0 0), (xI a1)] K =
  L55_0_0 (fun y => K (.tup [.p (xV []), .p (xI y)])) (K (.tup [.p (xV []), .p (xI 0)])) (fun y => K (.tup [.fresh 41 1 y, .p (xI 0)])) fuel a0_0 a0_1 a0_2 a1 (nI a0_1.length) 0 := by kernel_rfl
section
variable {ps : List Int} {D : Nat} {notes : List (List Int)} {W0 : World}
theorem l55_0 (h : Sc ps D notes) {c : Nat} (hc : c <= notes.length) (e0 : Int -> Bool) (e1 : Bool) (e2 : List PVal -> Bool) :
  L55_0_0 e0 e1 e2 fuel (encPs ps) (encZs D notes) (encZs D (notes2 notes)) (c : Int) (nI notes.length) 0 = e2 (encZs D ((List.range notes.length).map (dif notes c))) := by
 have hne := h.ne
 have hle := h.len
 unfold L55_0_0
 have step' : ∀ i, i < notes.length -> ∀ (Y : Int -> Bool) (X : List PVal -> Bool), (gd (decide (0 <= (wI ((i : Int) + (c : Int))))) (oOpt ((encZs D (notes2 notes))[((wI ((i : Int) + (c : Int)))).toNat]?) fun e1v => (oSl e1v fun l2v => (gd (decide (0 <= (i : Int))) (oOpt ((encZs D (notes2 notes))[((i : Int)).toNat]?) fun e3v => (oSl e3v fun l4v => (Q16 (encPs ps) l2v l4v (fun z5v z6v => (bif (z6v != 0) then Y z6v else X z5v))))))))) = X (encZ D (dif notes c i)) := by
  intro i hi Y X
  have ew : wI ((i : Int) + (c : Int)) = ((i + c : Nat) : Int) := by rw [wI_eq (by omega)]; simp
  obtain ⟨a1, a2⟩ := noteZ_ok h (i := i + c) (by omega)
  obtain ⟨b1, b2⟩ := noteZ_ok h (i := i) (by omega)
  rw [ew]
  simp only [ge0, gd_true, Int.toNat_natCast]
  rw [get_encZs (by rw [notes2_len]; omega), get_encZs (by rw [notes2_len]; omega), notes2_get (by omega), notes2_get (by omega)]
  simp only [oOpt, oSl]
  rw [l16z h.psok h.dok a1 b1 (a2.mono (by omega)) (b2.mono (by omega))]
  rfl
 have key := append_loop (A := fun n i => (LP55_0 e0 e1 e2 n).1 (encPs ps) (encZs D notes) (encZs D (notes2 notes)) (c : Int) (nI notes.length) i)
  (B := fun n i acc => (LP55_0 e0 e1 e2 n).2 (encPs ps) (encZs D notes) (encZs D (notes2 notes)) (c : Int) (nI notes.length) i acc)
  (m := notes.length) (f := fun i => xV (encZ D (dif notes c i))) (R := fun acc => e2 acc) (by omega)
  (fun n => ?_) (fun i h0 hi n acc ha => ?_) (fun n acc ha => ?_) fuel (fuel_gt (by omega))
 ·rw [show encZs D ((List.range notes.length).map (dif notes c)) = (List.range notes.length).map fun i => xV (encZ D (dif notes c i)) by simp [encZs]]
  exact key
 ·have h0 : decide ((0 : Int) < nI notes.length) = true := lt_nI (i := 0) hne
  simp only [LP55_0, St55_0_0]
  rw [h0, cond_true]
  exact step' 0 hne e0 (fun z5v => (LP55_0 e0 e1 e2 n).2 (encPs ps) (encZs D notes) (encZs D (notes2 notes)) (c : Int) (nI notes.length) (wI (0 + 1)) [xV z5v])
 ·simp only [LP55_0, St55_0_1, lt_nI hi, cond_true]
  rw [step' i hi e0 _]
  simp only [maxE ha (by omega), gd_true]
  rw [wI_succ (by omega)]
 ·simp only [LP55_0, St55_0_1, lt_nI', cond_false]
theorem pure55f (hΓ : SoundΓ Tryz.prog W0 Γ90) (h : Sc ps D notes) {c : Nat} (hc : c <= notes.length) :
  Pure Tryz.prog W0 55 [vw ps D notes, xI c] (.tup [.fresh 41 1 (encZs D ((List.range notes.length).map (dif notes c))), .p (xI 0)]) := by
 obtain ⟨r, hp, hk⟩ := finF (fr := true) hΓ (mkL (xs := [(Ent55_0, B55_0)]) (by kernel_rfl) (by kernel_rfl) ⟨Ent55_0_ok hΓ, trivial⟩) Tryz.func55 (by kernel_rfl)
  ((g55f _ _ _ _ (fun x => @decide (x = .tup [.fresh 41 1 (encZs D ((List.range notes.length).map (dif notes c))), .p (xI 0)]) (Classical.propDecidable _))).trans (by rw [encZs_len, l55_0 h hc]; simp))
 have : r = .tup [.fresh 41 1 (encZs D ((List.range notes.length).map (dif notes c))), .p (xI 0)] := by simpa using hk
 subst this
 exact hp
end
end Go.Ev

namespace Go.Ev
open Go Go.RowKit Go.Proofs Go.Maps Go.Deep
structure Known (W0 : World) (Γ : Oracle) : Prop where
 snd : SoundΓ Tryz.prog W0 Γ
 g24 : ∀ (a b : List PVal) (K : RRes -> Bool), Γ false 24 [xV a, xV b] K = Q24 a b (fun z => K (.one (.p (xB z))))
 g32 : ∀ (a b : List PVal) (K : RRes -> Bool), Γ false 32 [xV a, xV b] K = Q32 a b (fun z => K (.one (.p (xI z))))
 g51 : ∀ (p n : List PVal) (c : Int) (K : RRes -> Bool), Γ false 51 [xA [xV p, xV n], xI c] K = Q51 p n c (fun z1 => K (.tup [.p (.lit (.pointer Option.none)), .p (xI z1)])) (fun z0_0 z0_1 z0_2 z1 => K (.tup [.p (.adr [xA [xV z0_0, xV z0_1, xV z0_2]] 0 0), .p (xI z1)]))
section
variable {W0 : World} {Γ : Oracle}
theorem Pure.lit1 {P : Program} {f : Nat} {args : List PVal} {b : Value} (h : Pure P W0 f args (.one (.p (.lit b)))) {w : World} (hb : Below W0.heap.size W0 w) {S : PSet} (hlt : ∀ b o, S b o -> b < w.heap.size) {vs : Array Value} (hs : vs.size = args.length)
  (hr : ∀ i (hi : i < args.length), RepP w S args[i] (vs[i]'(hs ▸ hi))) : Calls P f vs w fun e w' => e = .returned b /\ Below w.heap.size w w' := by
 refine (h.2 w S vs hb hlt hs hr).mono ?_
 rintro e w' ⟨v, S', rfl, h1, k1, k2, k3, hv⟩
 have hv : RepP w' S' (.lit b) v := hv
 rw [repP_lit hv]
 exact ⟨rfl, h1⟩
theorem eq_calls (hk : Known W0 Γ) {x y : List Rat} (hx : SV x) (hy : SV y) (lx : x.length < 1000) (ly : y.length < 1000) {w : World} (hb : Below W0.heap.size W0 w) {S : PSet} (hlt : ∀ b o, S b o -> b < w.heap.size) {xv yv : Value} (r0 : RepP w S (xV (encS x)) xv) (r1 : RepP w S (xV (encS y)) yv) :
  Calls Tryz.prog 24 #[xv, yv] w fun e w' => e = .returned (.bool (decide (x = y))) /\ Below w.heap.size w w' := by
 have hp : Pure Tryz.prog W0 24 [xV (encS x), xV (encS y)] (.one (.p (xB (decide (x = y))))) := pure_of hk.snd fun K => by rw [hk.g24, l24 hx hy lx ly]
 refine hp.lit1 hb hlt rfl fun i hi => ?_
 simp only [List.length_cons, List.length_nil] at hi
 rcases i with _ | _ | i
 ·exact r0
 ·exact r1
 ·omega
set_option maxRecDepth 100000 in
set_option maxHeartbeats 1000000 in
theorem clo_walk (hk : Known W0 Γ) {x y : List Rat} (hx : SV x) (hy : SV y) (lx : x.length < 1000) (ly : y.length < 1000) {w : World} (hb : Below W0.heap.size W0 w) {S : PSet} (hlt : ∀ b o, S b o -> b < w.heap.size) {xv yv : Value} (r0 : RepP w S (xV (encS x)) xv) (r1 : RepP w S (xV (encS y)) yv)
  {xb : Nat} (hc : w.cell? ⟨xb, 0, none⟩ = some xv) : Calls Tryz.prog 61 #[yv, .pointer (some ⟨xb, 0, none⟩)] w fun e w' => e = .returned (.bool (!decide (x = y))) /\ Below w.heap.size w w' := by
 have h24 := eq_calls hk hx hy lx ly hb hlt r0 r1
 generalize decide (x = y) = d at h24 ⊢
 go_enter Tryz.func61, Tryz.ntmps61
 go_wp2_with (first
  | (go_at_call 24; refine h24.mono ?_; rintro e w2 ⟨rfl, hB2⟩)
  | go_in)
 refine bodyPost_ret (results_tmp rfl _ _ _) rfl ?_
 exact ⟨rfl, hB2⟩
structure Row (W0 w : World) (S : PSet) (x : List Rat) (y : Nat -> List Rat) (n fb xb : Nat) (V : Nat -> Value) (xv : Value) : Prop where
 hb : Below W0.heap.size W0 w
 lt : ∀ b o, S b o -> b < w.heap.size
 cell : w.cell? ⟨xb, 0, none⟩ = some xv
 xlt : xb < w.heap.size
 rx : RepP w S (xV (encS x)) xv
 sx : SV x /\ x.length < 1000
 rep : ∀ j, j < n -> RepP w S (xV (encS (y j))) (V j)
 sy : ∀ j, j < n -> SV (y j) /\ (y j).length < 1000
theorem Row.later {w w' : World} {S : PSet} {x : List Rat} {y : Nat -> List Rat} {n fb xb : Nat} {V : Nat -> Value} {xv : Value} (h : Row W0 w S x y n fb xb V xv) (hB : Below w.heap.size w w') : Row W0 w' S x y n fb xb V xv :=
 ⟨h.hb.trans (hB.mono h.hb.size), fun b o hs => Nat.lt_of_lt_of_le (h.lt b o hs) hB.size, (hB.cell (p := ⟨xb, 0, none⟩) h.xlt).trans h.cell, Nat.lt_of_lt_of_le h.xlt hB.size, rep_later h.rx h.lt hB, h.sx, fun j hj => rep_later (h.rep j hj) h.lt hB, h.sy⟩
theorem Row.clo (hk : Known W0 Γ) {w : World} {S : PSet} {x : List Rat} {y : Nat -> List Rat} {n fb xb : Nat} {V : Nat -> Value} {xv : Value} (h : Row W0 w S x y n fb xb V xv) {j : Nat} (hj : j < n) {d : Bool} (hd : decide (x = y j) = d) :
  Calls Tryz.prog 61 #[V j, .pointer (some ⟨xb, 0, none⟩)] w fun e w' => e = .returned (.bool (!d)) /\ Below w.heap.size w w' := by
 rw [<- hd]
 exact clo_walk hk h.sx.1 (h.sy j hj).1 h.sx.2 (h.sy j hj).2 h.hb h.lt h.rx (h.rep j hj) h.cell
set_option maxRecDepth 100000 in
set_option maxHeartbeats 4000000 in
theorem index_walk (hk : Known W0 Γ) {w : World} {S : PSet} {x : List Rat} {y : Nat -> List Rat} {n fb xb cap : Nat} {V : Nat -> Value} {xv : Value} (h : Row W0 w S x y n fb xb V xv) (hn : n < 1000) (hfb : fb < w.heap.size) (hcell : ∀ j, j < n -> w.cell? ⟨fb, j, none⟩ = some (V j)) :
  Calls Tryz.prog 83 #[.slice (some ⟨fb, 0, none⟩) n cap, .func (.func 61) #[] #[.pointer (some ⟨xb, 0, none⟩)]] w fun e w' => Below w.heap.size w w' /\
   ((e = .returned (.int .i64 (-1)) /\ ∀ j, j < n -> x = y j) ∨ ∃ i : Nat, e = .returned (.int .i64 i) /\ i < n /\ (∀ j, j < i -> x = y j) /\ x ≠ y i) := by
 go_enter Tryz.func83, Tryz.ntmps83
 go_wp2
 go_loopw [8] (fun iv wr => ∃ k : Nat, k <= n /\ iv = .int .i64 k /\ Below w.heap.size w wr /\ ∀ j, j < k -> x = y j) (fun iv _ => n - (intOf iv).toNat)
 case atStart => exact ⟨0, Nat.zero_le _, rfl, Below.refl _ _, fun j hj => absurd hj (Nat.not_lt_zero _)⟩
 case round =>
  obtain ⟨k, hkn, rfl, hB, hall⟩ := hrel
  by_cases hlt : k < n
  ·have hck := (hB.cell (p := ⟨fb, k, none⟩) hfb).trans (hcell k hlt)
   have hr := h.later hB
   have HA := Lib.hid hall
   by_cases hxy : x = y k
   ·have h61 := hr.clo hk hlt (decide_eq_true hxy)
    have HX := Lib.hid hxy
    clear hr hall hxy hcell
    go_wp2_with (first
     | (go_at_call 61; refine h61.mono ?_; rintro e w2 ⟨rfl, hB2⟩)
     | go_in)
    go_roundw
    case rel => exact ⟨k + 1, by omega, by go_num, hB.trans (hB2.mono hB.size), fun j hj => by
     by_cases e : j = k
     ·subst e; exact HX.out
     ·exact HA.out j (by omega)⟩
    case measure => simp [intOf]; omega
   ·have h61 := hr.clo hk hlt (decide_eq_false hxy)
    have HX := Lib.hid hxy
    clear hr hall hxy hcell
    go_wp2_with (first
     | (go_at_call 61; refine h61.mono ?_; rintro e w2 ⟨rfl, hB2⟩)
     | go_in)
    refine bodyPost_ret (results_tmp rfl _ _ _) rfl ?_
    exact ⟨hB.trans (hB2.mono hB.size), .inr ⟨k, rfl, hlt, HA.out, HX.out⟩⟩
  ·obtain rfl : k = n := by omega
   clear hcell
   go_wp2
   refine bodyPost_ret (results_tmp rfl _ _ _) rfl ?_
   exact ⟨hB, .inl ⟨rfl, hall⟩⟩
end
end Go.Ev

namespace Go.Ev
open Go Go.RowKit Go.Proofs Go.Maps Go.Deep
theorem zero41 (w : World) : (zeroValue 41).run Tryz.prog w = .ok (.slice none 0 0) w := by kernel_rfl
theorem BelowX.refl' (b : Nat) (w : World) : BelowX b w w := ⟨rfl, rfl, rfl, Nat.le_refl _, fun _ _ _ => rfl⟩
theorem BelowX.set {b i : Nat} {w w' : World} (h : BelowX b w w') (v : Value) : BelowX b w (w'.setCell ⟨b, i, none⟩ v) :=
 ⟨h.os, h.tape, h.output, by rw [nblk_setCell]; exact h.size, fun k hk hne => (blk_setCell_other _ _ _ _ hne).trans (h.block k hk hne)⟩
theorem BelowX.sets {b : Nat} : ∀ (vs : List Value) {i : Nat} {w w' : World}, BelowX b w w' -> BelowX b w (w'.setCells b i vs)
 | [], _, _, _, h => h
 | v :: vs, i, _, _, h => BelowX.sets vs (h.set (i := i) v)
theorem BelowX.then {b : Nat} {w w' w2 : World} (h : BelowX b w w') (hB : Below w'.heap.size w' w2) : BelowX b w w2 :=
 ⟨hB.os.trans h.os, hB.tape.trans h.tape, hB.output.trans h.output, Nat.le_trans h.size hB.size, fun k hk hne => (hB.block k (Nat.lt_of_lt_of_le hk h.size)).trans (h.block k hk hne)⟩
section
variable {W0 : World} {Γ : Oracle}
theorem Row.laterX {w w' : World} {S : PSet} {x : List Rat} {y : Nat -> List Rat} {n fb xb : Nat} {V : Nat -> Value} {xv : Value} (h : Row W0 w S x y n fb xb V xv) (hB : BelowX fb w w') (hfs : ∀ o, ¬ S fb o) (hx : xb ≠ fb) (hf : W0.heap.size <= fb) : Row W0 w' S x y n fb xb V xv := by
 have keep : Keeps S w w' := .of_blocks fun b c hs => hB.block b (h.lt b c hs) (fun e => hfs c (e ▸ hs))
 refine ⟨⟨hB.os.trans h.hb.os, hB.tape.trans h.hb.tape, hB.output.trans h.hb.output, Nat.le_trans h.hb.size hB.size, fun k hk => ?_⟩, fun b o hs => Nat.lt_of_lt_of_le (h.lt b o hs) hB.size, ?_, Nat.lt_of_lt_of_le h.xlt hB.size, h.rx.mono keep (fun _ _ h => h), h.sx, fun j hj => (h.rep j hj).mono keep (fun _ _ h => h), h.sy⟩
 ·exact (hB.block k (Nat.lt_of_lt_of_le hk h.hb.size) (by omega)).trans (h.hb.block k hk)
 ·rw [World.cell?_of_block (w := w) (a := ⟨xb, 0, none⟩) (hB.block xb h.xlt hx)]; exact h.cell
def cnt (x : List Rat) (y : Nat -> List Rat) (m : Nat) : Nat := (List.range m).countP fun j => decide (x = y j)
theorem cnt_succ (x : List Rat) (y : Nat -> List Rat) (m : Nat) : cnt x y (m + 1) = cnt x y m + if x = y m then 1 else 0 := by
 unfold cnt
 rw [List.range_succ, List.countP_append, List.countP_singleton]
 simp
theorem cnt_all (x : List Rat) (y : Nat -> List Rat) : ∀ m, (∀ j, j < m -> x = y j) -> cnt x y m = m
 | 0, _ => rfl
 | m + 1, h => by rw [cnt_succ, cnt_all x y m (fun j hj => h j (by omega)), if_pos (h m (by omega))]
set_option maxRecDepth 100000 in
set_option maxHeartbeats 4000000 in
theorem del_walk (hk : Known W0 Γ) {w : World} {S : PSet} {x : List Rat} {y : Nat -> List Rat} {n fb xb cap : Nat} {V : Nat -> Value} {xv : Value} (h : Row W0 w S x y n fb xb V xv) (hn : n < 1000) (hf : W0.heap.size <= fb) (hx : xb ≠ fb) (hfs : ∀ o, ¬ S fb o) (hcap : n <= cap)
  {f : Nat -> Value} (hrow : w.rowIs fb 41 cap f) (hfV : ∀ j, j < n -> f j = V j) :
  Calls Tryz.prog 60 #[.slice (some ⟨fb, 0, none⟩) n cap, .func (.func 61) #[] #[.pointer (some ⟨xb, 0, none⟩)]] w fun e w' => BelowX fb w w' /\ e = .returned (.slice (some ⟨fb, 0, none⟩) (cnt x y n) cap) := by
 have hfb := hrow.lt
 have h83 := index_walk (cap := cap) hk h hn hfb (fun j hj => by rw [hrow.cell (by omega), hfV j hj])
 go_enter Tryz.func60, Tryz.ntmps60
 go_wp2_with (first
  | (go_at_call 83; refine h83.mono ?_; rintro e w1 ⟨hB1, ⟨rfl, hall⟩ | ⟨i, rfl, hin, hall, hne⟩⟩)
  | go_in)
 ·refine bodyPost_ret (results_tmp rfl _ _ _) rfl ?_
  refine ⟨(BelowX.refl' fb w).then hB1, ?_⟩
  rw [cnt_all x y n hall]; rfl
 ·have HC := Lib.hid (show cnt x y (i + 1) = i by rw [cnt_succ, cnt_all x y i hall, if_neg hne]; rfl)
  have HV := Lib.hid hfV
  clear h83 hall hne hfV
  go_loopw [5, 6] (fun iv jv wr => ∃ a b : Nat, iv = .int .i64 a /\ jv = .int .i64 b /\ a < b /\ b <= n /\ Hid (cnt x y b = a) /\ BelowX fb w wr /\ ∃ f' : Nat -> Value, wr.rowIs fb 41 cap f' /\ ∀ j, b <= j -> j < n -> f' j = V j) (fun _ jv _ => n - (intOf jv).toNat)
  case atStart => exact ⟨i, i + 1, rfl, by go_num, by omega, by omega, HC, (BelowX.refl' fb w).then hB1, f, hrow.of_block (hB1.block fb hfb), fun j _ hj => HV.out j hj⟩
  case round =>
   clear HC HV hB1
   obtain ⟨a, b, rfl, rfl, hab, hbn, hcnt, hBX, f', hrow', hV'⟩ := hrel
   have hfr := hrow'.lt
   by_cases hlt : b < n
   ·have hcb : wr.cell? ⟨fb, b, none⟩ = some (V b) := by rw [hrow'.cell (by omega), hV' b (Nat.le_refl _) hlt]
    have hr := h.laterX hBX hfs hx hf
    obtain ⟨va, vn, vc, hvs⟩ : ∃ a n c, V b = .slice a n c := by
     have h0 := h.rep b hlt
     generalize V b = u at h0 ⊢
     generalize encS (y b) = es at h0
     cases h0 <;> exact ⟨_, _, _, rfl⟩
    have HV := Lib.hid hV'
    have HS := Lib.hid hvs
    by_cases hxy : x = y b
    ·have h61 := hr.clo hk hlt (decide_eq_true hxy)
     have HX := Lib.hid hxy
     rw [hvs] at h61 hcb
     clear hr hV' hvs hxy
     go_wp2_with (first
      | (go_at_call 61; refine h61.mono ?_; rintro e w2 ⟨rfl, hB2⟩; have hrow2 := hrow'.of_block (hB2.block fb hfr); have hst := hrow2.cell (i := a) (by omega); have hfz := hrow2.frozen a)
      | go_in)
     go_roundw
     case rel =>
      refine ⟨_, _, _, _, _, _, _, _, _, _, _, _, _, _, _, _, _, _, _, _, _, _, _, ?_, rfl⟩
      refine ⟨a + 1, b + 1, by go_num, by go_num, by omega, by omega, Lib.hid ?_, (hBX.then hB2).set _, _, hrow2.set a _, fun j hj hjn => ?_⟩
      ·rw [cnt_succ, hcnt.out, if_pos HX.out]
      ·rw [if_neg (by omega)]; exact HV.out j (by omega) hjn
     case measure => simp [intOf]; omega
    ·have h61 := hr.clo hk hlt (decide_eq_false hxy)
     have HX := Lib.hid hxy
     rw [hvs] at h61 hcb
     clear hr hV' hvs hxy
     go_wp2_with (first
      | (go_at_call 61; refine h61.mono ?_; rintro e w2 ⟨rfl, hB2⟩)
      | go_in)
     go_roundw
     case rel =>
      refine ⟨_, _, _, _, _, _, _, _, _, _, _, _, _, _, _, _, _, _, _, _, _, _, _, ?_, rfl⟩
      refine ⟨a, b + 1, rfl, by go_num, by omega, by omega, Lib.hid ?_, hBX.then hB2, f', hrow'.of_block (hB2.block fb hfr), fun j hj hjn => HV.out j (by omega) hjn⟩
      rw [cnt_succ, hcnt.out, if_neg HX.out]; rfl
     case measure => simp [intOf]; omega
   ·obtain rfl : b = n := by omega
    have hcl : ∀ ty, (Builtin.clear_ #[30] ty #[.slice (some ⟨fb, a, none⟩) (b - a) (cap - a)]).run Tryz.prog wr = .ok (.tuple #[]) (wr.setCells fb a (List.replicate (b - a) (.slice none 0 0))) :=
     fun ty => Lib.run_clear_slice wr 30 41 ty (.slice none 0 0) Tryz.underlying30 zero41 rfl rfl fb a (b - a) (cap - a) (by omega) (fun j hj => by rw [hrow'.cell (by omega)]; rfl) (fun j hj => hrow'.frozen _)
    have HN := Lib.hid hcnt.out
    clear hcnt hV'
    go_wp2_with (first | simp only [hcl] | go_in)
    refine bodyPost_ret (results_tmp rfl _ _ _) rfl ?_
    refine ⟨hBX.sets _, ?_⟩
    rw [HN.out]; rfl
end
end Go.Ev

namespace Go.Ev
open Go Go.RowKit Go.Proofs Go.Maps Go.Deep
section
variable {W0 : World} {Γ : Oracle} {ps : List Int} {D : Nat} {notes : List (List Int)}
theorem fresh55 (h90 : SoundΓ Tryz.prog W0 Γ90) (h : Sc ps D notes) {c : Nat} (hc : c <= notes.length) {w : World} (hb : Below W0.heap.size W0 w) {S : PSet} (hlt : ∀ b o, S b o -> b < w.heap.size) {pv : Value} (hpv : RepP w S (vw ps D notes) pv) :
  Calls Tryz.prog 55 #[pv, .int .i64 c] w fun e w' => ∃ (fb cap : Nat) (f V : Nat -> Value) (S' : PSet), e = .returned (.tuple #[.slice (some ⟨fb, 0, none⟩) notes.length cap, .int .i64 0]) /\ Below w.heap.size w w' /\ (∀ b o, S b o -> S' b o) /\ (∀ b o, S' b o -> b < w'.heap.size) /\
   w.heap.size <= fb /\ notes.length <= cap /\ w'.rowIs fb 41 cap f /\ (∀ j, j < notes.length -> f j = V j) /\ (∀ j, j < notes.length -> RepP w' S' (xV (encZ D (dif notes c j))) (V j)) /\ ∀ o, ¬ S' fb o := by
 refine ((pure55f h90 h hc).2 w S #[pv, .int .i64 c] hb hlt rfl (fun i hi => ?_)).mono ?_
 ·simp only [List.length_cons, List.length_nil] at hi
  rcases i with _ | _ | i
  ·exact hpv
  ·exact .lit _
  ·omega
 ·rintro e w' ⟨v, S', rfl, h1, k1, k2, k3, us, rfl, hs, h2, _⟩
  have hl : (encZs D ((List.range notes.length).map (dif notes c))).length = notes.length := by simp
  have e0 := h2 0 (by simp)
  have e1 := repP_lit (h2 1 (by simp))
  have hs2 : us.size = 2 := by simpa using hs
  obtain ⟨fb, cap, cur, V, hv, q1, q2, _, q3, q4, q5, q6, q7⟩ := e0
  rw [hl] at hv q2
  have hrep : ∀ j, j < notes.length -> RepP w' S' (xV (encZ D (dif notes c j))) (V j) := fun j hj => by
   have := q5 j (by rw [hl]; exact hj)
   simpa using this
  refine ⟨fb, cap, fun j => cur.getD j undef, V, S', ?_, h1, k1, k3, q1, q2, ⟨cur, q3, by simpa using q4, fun i hi => ?_⟩, fun j hj => ?_, hrep, q7⟩
  ·congr 2
   apply Array.ext
   ·simpa using hs
   ·intro i h1 h2
    simp only [List.size_toArray, List.length_cons, List.length_nil] at h2
    rcases i with _ | _ | i
    ·exact hv
    ·exact e1
    ·omega
  ·have : i < cur.size := by omega
   dsimp only
   rw [Array.getD_eq_getD_getElem?, Array.getElem?_eq_getElem this]; rfl
  ·obtain ⟨_, hq⟩ := q6 j (by rw [hl]; exact hj)
   obtain ⟨u, r1, _, r3⟩ := hq 0 (by omega)
   rw [(sl_one (hrep j hj)).2] at r1
   have : u = V j := by simpa using r1.symm
   subst this
   dsimp only
   rw [Array.getD_eq_getD_getElem?, show cur[j]? = some (V j) by simpa using r3]; rfl
theorem boxes {w w1 : World} {a b x : Value} {t t' : TypeId} (h : Below ((w.alloc (.cells #[a, b] t)).alloc (.cells #[x] t')).heap.size ((w.alloc (.cells #[a, b] t)).alloc (.cells #[x] t')) w1) :
  w1.cell? ⟨w.heap.size, 0, none⟩ = some a /\ w1.cell? ⟨w.heap.size + 1, 0, none⟩ = some x := by
 constructor
 ·refine (h.cell (p := ⟨w.heap.size, 0, none⟩) (by rw [nblk_alloc, nblk_alloc]; show w.heap.size < _; omega)).trans ?_
  rw [World.cell?_of_block (w := w.alloc (.cells #[a, b] t)) (a := ⟨w.heap.size, 0, none⟩) (blk_alloc_lt _ _ _ (by rw [nblk_alloc]; show w.heap.size < _; omega))]
  simp only [World.cell?, heap_alloc_new]
  rfl
 ·refine (h.cell (p := ⟨w.heap.size + 1, 0, none⟩) (by rw [nblk_alloc, nblk_alloc]; show w.heap.size + 1 < _; omega)).trans ?_
  have := heap_alloc_new (w.alloc (.cells #[a, b] t)) (.cells #[x] t')
  rw [nblk_alloc] at this
  simp only [World.cell?, this]
  rfl
theorem Pure.any {P : Program} {W0 : World} {f : Nat} {args : List PVal} {q : PVal} {b : Value} (h : Pure P W0 f args (.tup [.p q, .p (.lit b)])) {w : World} (hb : Below W0.heap.size W0 w) {S : PSet} (hlt : ∀ b o, S b o -> b < w.heap.size) {vs : Array Value} (hs : vs.size = args.length)
  (hr : ∀ i (hi : i < args.length), RepP w S args[i] (vs[i]'(hs ▸ hi))) :
  Calls P f vs w fun e w' => ∃ v S', e = .returned (.tuple #[v, b]) /\ Below w.heap.size w w' /\ (∀ b o, S b o -> S' b o) /\ (∀ b o, S' b o -> S b o ∨ w.heap.size <= b) /\ (∀ b o, S' b o -> b < w'.heap.size) /\ RepP w' S' q v := by
 refine (h.2 w S vs hb hlt hs hr).mono ?_
 rintro e w' ⟨v, S', rfl, h1, k1, k2, k3, us, rfl, hs, h2, _⟩
 have e0 := h2 0 (by simp)
 have e1 := repP_lit (h2 1 (by simp))
 have hs2 : us.size = 2 := by simpa using hs
 refine ⟨us[0], S', ?_, h1, k1, k2, k3, e0⟩
 congr 2
 apply Array.ext
 ·simpa using hs
 ·intro i h1 h2
  simp only [List.size_toArray, List.length_cons, List.length_nil] at h2
  rcases i with _ | _ | i
  ·rfl
  ·exact e1
  ·omega
set_option maxRecDepth 100000 in
set_option maxHeartbeats 4000000 in
theorem count_walk (hk : Known W0 Γ) (h90 : SoundΓ Tryz.prog W0 Γ90) (h : Sc ps D notes) {c : Nat} (hc : c <= notes.length) {x : List Rat} (hx : SV x) (lx : x.length = ps.length) {w : World} (hbw : Below W0.heap.size W0 w) {S : PSet} (hlt : ∀ b o, S b o -> b < w.heap.size) {v0 v1 xv : Value}
  (u0 : RepP w S (xV (encPs ps)) v0) (u1 : RepP w S (xV (encZs D notes)) v1) (ux : RepP w S (xV (encS x)) xv) :
  Calls Tryz.prog 29 #[.agg #[v0, v1], .int .i64 c, xv] w fun e w' => e = .returned (.tuple #[.int .i64 (cnt x (fun j => zR D (dif notes c j)) notes.length : Nat), .int .i64 0]) /\ Below w.heap.size w w' := by
 have hn9 := h.len
 have hps := h.psok.len
 have hD := h.dok
 obtain ⟨a0, n0, c0, rfl⟩ : ∃ a n c, xv = .slice a n c := by
  generalize encS x = es at ux
  cases ux <;> exact ⟨_, _, _, rfl⟩
 have p51 : Pure Tryz.prog W0 51 [xA [xV (encPs ps), xV (encZs D notes)], xI c] (.tup [.p (vw ps D notes), .p (xI 0)]) := pure_of hk.snd fun K => by rw [hk.g51, l51 h hc]
 have p32 : Pure Tryz.prog W0 32 [xV (encPs ps), xV (encS x)] (.one (.p (xI 0))) := pure_of hk.snd fun K => by rw [hk.g32, l32 h.psok.pr hx (by simp [lx])]
 have h51 : ∀ wa, Below w.heap.size w wa -> Calls Tryz.prog 51 #[.agg #[v0, v1], .int .i64 c] wa fun e w1 => ∃ pv S1, e = .returned (.tuple #[pv, .int .i64 0]) /\ Below wa.heap.size wa w1 /\ Below w.heap.size w w1 /\ (∀ b o, S b o -> S1 b o) /\ (∀ b o, S1 b o -> b < w1.heap.size) /\ RepP w1 S1 (vw ps D notes) pv := by
  intro wa hwa
  refine (p51.any (hbw.trans (hwa.mono hbw.size)) (fun b o hb => Nat.lt_of_lt_of_le (hlt b o hb) hwa.size) rfl (fun i hi => ?_)).mono ?_
  ·simp only [List.length_cons, List.length_nil] at hi
   rcases i with _ | _ | i
   ·exact agg_mk2 (rep_later u0 hlt hwa) (rep_later u1 hlt hwa)
   ·exact .lit _
   ·omega
  ·rintro e w1 ⟨pv, S1, rfl, hB, k1, k2, k3, hr⟩
   exact ⟨pv, S1, rfl, hB, hwa.trans (hB.mono hwa.size), k1, k3, hr⟩
 have h32 : ∀ wa, Below w.heap.size w wa -> Calls Tryz.prog 32 #[v0, .slice a0 n0 c0] wa fun e w1 => e = .returned (.int .i64 0) /\ Below wa.heap.size wa w1 := by
  intro wa hwa
  refine p32.lit1 (hbw.trans (hwa.mono hbw.size)) (fun b o hb => Nat.lt_of_lt_of_le (hlt b o hb) hwa.size) rfl (fun i hi => ?_)
  simp only [List.length_cons, List.length_nil] at hi
  rcases i with _ | _ | i
  ·exact rep_later u0 hlt hwa
  ·exact rep_later ux hlt hwa
  ·omega
 have hw2 := (Below.refl w.heap.size w).alloc (Nat.le_refl _)
 go_enter Tryz.func29, Tryz.ntmps29
 go_wp2_with (first
  | (
   go_at_call 51; refine (h51 _ ((hw2 _).alloc (by rw [nblk_alloc]; omega) _)).mono ?_; rintro e w1 ⟨pv, S1, rfl, hB0, hB1, k1, k3, hpv⟩; obtain ⟨hq0, hq1⟩ := boxes hB0
   have hs1 : w.heap.size + 2 <= w1.heap.size := by have := hB0.size; rw [nblk_alloc, nblk_alloc] at this; omega)
  | (
   go_at_call 32; refine (h32 _ hB1).mono ?_; rintro e w2 ⟨rfl, hB2⟩; have hB12 := hB1.trans (hB2.mono hB1.size)
   have HP := Lib.hid (rep_later hpv k3 hB2)
   have hk3 : ∀ b o, S1 b o -> b < w2.heap.size := fun b o hs => Nat.lt_of_lt_of_le (k3 b o hs) hB2.size)
  | (
   go_at_call 55; refine (fresh55 h90 h hc (hbw.trans (hB12.mono hbw.size)) hk3 HP.out).mono ?_; rintro e w3 ⟨fb, cap, f, V, S3, rfl, hB3, q1, q3, hfb, hcap, hrow, hfV, hrep, hfs⟩
   have hB13 := hB12.trans (hB3.mono hB12.size)
   have hB23 := hB2.trans (hB3.mono hB2.size)
   have hs2 := hB2.size
   have hs3 := hB3.size
   have hs0 := hbw.size
   have HR : Hid (Row W0 w3 S3 x (fun j => zR D (dif notes c j)) notes.length fb (w.heap.size + 1) V (.slice a0 n0 c0)) := Lib.hid
    { hb := hbw.trans (hB13.mono hbw.size), lt := q3, cell := (hB23.cell (p := ⟨w.heap.size + 1, 0, none⟩) (by show w.heap.size + 1 < _; omega)).trans hq1, xlt := by omega, rx := (rep_later ux hlt hB13).mono (keeps_refl _ _) (fun b o hs => q1 _ _ (k1 _ _ hs)), sx := ⟨hx, by omega⟩, rep := hrep, sy := fun j hj => ⟨zR_SV (by omega) ((dif_ok h hc hj).2.mono (by omega)), by rw [zR_len, (dif_ok h hc hj).1]; omega⟩ }
   have h60 := del_walk (cap := cap) hk HR.out (by omega) (by omega) (by omega) hfs hcap hrow hfV
   clear hfV hrow hfs hrep)
  | (go_at_call 60; refine h60.mono ?_; rintro e w4 ⟨hX, rfl⟩)
  | go_in)
 refine bodyPost_ret (results_tmp2 rfl _ _ _) rfl ?_
 exact ⟨rfl, hX.os.trans hB13.os, hX.tape.trans hB13.tape, hX.output.trans hB13.output, Nat.le_trans hB13.size hX.size, fun k hk => (hX.block k (Nat.lt_of_lt_of_le hk hB13.size) (by omega)).trans (hB13.block k hk)⟩
end
end Go.Ev

namespace Go.Ev
open Go Go.RowKit Go.Proofs
section
variable {ps : List Int} {D : Nat} {notes : List (List Int)} {W0 : World} {Γ : Oracle}
theorem cntQ (hD : 0 < D) (v : List Rat) (c : Nat) : ((List.range (notes.map (zR D)).length).countP fun i => decide (v = vsub (noteQ (notes.map (zR D)) (i + c)) (noteQ (notes.map (zR D)) i))) = cnt v (fun j => zR D (dif notes c j)) notes.length := by
 unfold cnt
 rw [List.length_map]
 congr 1
 funext i
 rw [noteQ_zR hD, noteQ_zR hD, zR_sub hD]
 rfl
theorem l29 (h : Sc ps D notes) {c : Nat} (hc : c <= notes.length) {v : List Rat} (hv : SV v) (lv : v.length = ps.length) (K : Int -> Int -> Bool) :
  H29 (encPs ps) (encZs D notes) (c : Int) (encS v) K = K (cnt v (fun j => zR D (dif notes c j)) notes.length : Nat) 0 := by
 rw [H29_def]; unfold D29
 rw [decPs_ok, decLs_sc h, decV_ok hv]
 simp only
 rw [if_pos ⟨⟨D, notes, h, rfl, rfl, encZs_L _ _, by omega, by omega⟩, rfl, hv, lv⟩, Int.toNat_natCast, cntQ h.dok.1]
theorem args3 {w : World} {S : PSet} {vs : Array Value} {p0 p1 p2 : PVal} (hs : vs.size = [p0, p1, p2].length) (hr : ∀ i (hi : i < [p0, p1, p2].length), RepP w S [p0, p1, p2][i] (vs[i]'(hs ▸ hi))) :
  ∃ v0 v1 v2, vs = #[v0, v1, v2] /\ RepP w S p0 v0 /\ RepP w S p1 v1 /\ RepP w S p2 v2 := by
 have h2 : vs.size = 3 := by simpa using hs
 refine ⟨vs[0], vs[1], vs[2], ?_, hr 0 (by simp), hr 1 (by simp), hr 2 (by simp)⟩
 apply Array.ext
 ·simpa using h2
 ·intro i h1 h3
  simp only [List.size_toArray, List.length_cons, List.length_nil] at h3
  rcases i with _ | _ | _ | i
  ·rfl
  ·rfl
  ·rfl
  ·omega
theorem agg2 {w : World} {S : PSet} {p0 p1 : PVal} {v : Value} (h : RepP w S (.agg [p0, p1]) v) : ∃ u0 u1, v = .agg #[u0, u1] /\ RepP w S p0 u0 /\ RepP w S p1 u1 := by
 cases h with
 | agg cs us hsz hcs =>
  have h3 : us.size = 2 := by simpa using hsz
  refine ⟨us[0], us[1], congrArg Value.agg ?_, hcs 0 (by simp), hcs 1 (by simp)⟩
  apply Array.ext
  ·simpa using h3
  ·intro i h1 h2
   simp only [List.size_toArray, List.length_cons, List.length_nil] at h2
   rcases i with _ | _ | i
   ·rfl
   ·rfl
   ·omega
theorem hand29 (hk : Known W0 Γ) (h90 : SoundΓ Tryz.prog W0 Γ90) : Hand29 W0 := fun p n1 c x K hK => by
 rw [H29_def] at hK; unfold D29 at hK
 split at hK
 ·next ps l1 v hp h1 hx0 =>
  split at hK
  ·next hx =>
   obtain ⟨⟨D, notes, h, rfl, rfl, rfl, h0, hd⟩, rfl, hv, lv⟩ := hx
   obtain ⟨c, rfl⟩ := Int.eq_ofNat_of_zero_le h0
   rw [Int.toNat_natCast, cntQ h.dok.1] at hK
   refine ⟨_, ⟨enters Tryz.func29 (by kernel_rfl) (by kernel_rfl), fun w S vs hbw hlt hs hr => ?_⟩, hK⟩
   obtain ⟨a, b, xv, rfl, r0, r1, r2⟩ := args3 hs hr
   obtain rfl := repP_lit r1
   obtain ⟨v0, v1, rfl, s0, s1⟩ := agg2 r0
   rw [<- encZs_L] at s1
   refine (count_walk hk h90 h (by omega) hv lv hbw hlt s0 s1 r2).mono ?_
   rintro e w' ⟨rfl, hB⟩
   refine ⟨_, S, rfl, hB, fun _ _ h => h, fun _ _ h => .inl h, fun b o hs => Nat.lt_of_lt_of_le (hlt b o hs) hB.size, _, rfl, rfl, fun i hi => ?_, fun i j hi hj h1 => ?_⟩
   ·simp only [List.length_cons, List.length_nil] at hi
    rcases i with _ | _ | i
    ·exact .lit _
    ·exact .lit _
    ·omega
   ·simp only [List.length_cons, List.length_nil] at hi
    rcases i with _ | _ | i
    ·cases h1
    ·cases h1
    ·omega
  ·cases hK
 ·cases hK
theorem l28 (h : Sc ps D notes) {l : List (List Int)} (hl : l.length < 1000) (ho : ∀ z, z ∈ l -> z.length = ps.length /\ ZS 6000 z) (K : Bool -> Bool) : Q28 (encZs D l) (encZs D l) K = K true := by
 rw [Q28_def]; unfold G28
 rw [bne_self_eq_false, cond_false]
 have key := loop_iter (fun n (i : Nat) => LP28_0 (fun y6v => K y6v) (K true) n (encZs D l) (encZs D l) (i : Int)) l.length (fun i => i) (R := K true) (fun i hi n => ?_) (fun n => ?_) fuel (fuel_gt (by omega))
 ·exact key
 ·have o := ho _ (getD_mem hi)
  simp only [LP28_0, St28_0_0, encZs_len, lt_nI hi, cond_true, ge0, gd_true, Int.toNat_natCast, get_encZs hi, oOpt, oSl]
  rw [l17z h.psok h.dok o.1 o.1 (o.2.mono (by omega)) (o.2.mono (by omega)), decide_eq_true rfl]
  simp only [Bool.not_true, cond_false]
  rw [wI_succ (by omega)]
 ·simp only [LP28_0, St28_0_0, encZs_len, lt_nI', cond_false]
def cntZ (notes : List (List Int)) (d : Nat) (s : List Int) (m : Nat) : Nat := (List.range m).countP fun j => decide (dif notes d j = s)
theorem cntZ_succ (d : Nat) (s : List Int) (m : Nat) : cntZ notes d s (m + 1) = cntZ notes d s m + if dif notes d m = s then 1 else 0 := by
 unfold cntZ
 rw [List.range_succ, List.countP_append, List.countP_singleton]
 simp
theorem cntZ_le (d : Nat) (s : List Int) (m : Nat) : cntZ notes d s m <= m := by
 unfold cntZ
 exact Nat.le_trans List.countP_le_length (by simp)
theorem cnt_zR (hD : 0 < D) (d : Nat) (s : List Int) (m : Nat) : cnt (zR D s) (fun j => zR D (dif notes d j)) m = cntZ notes d s m := by
 unfold cnt cntZ
 congr 1
 funext j
 exact decide_eq_decide.2 ⟨fun e => (zR_inj hD e).symm, fun e => by dsimp only; rw [e]⟩
def totZ (notes : List (List Int)) (d : Nat) (l : List (List Int)) (m : Nat) : Nat := (l.map fun s => cntZ notes d s m).sum
theorem one_hit : ∀ (l : List (List Int)) (x : List Int), l.Nodup -> (l.map fun s => if x = s then 1 else 0).sum = if x ∈ l then 1 else 0
 | [], x, _ => by simp
 | s :: l, x, hn => by
  obtain ⟨h1, h2⟩ := List.nodup_cons.1 hn
  rw [List.map_cons, List.sum_cons, one_hit l x h2]
  by_cases e : x = s
  ·subst e
   rw [if_pos rfl, if_neg h1, if_pos (by simp)]
  ·rw [if_neg e, Nat.zero_add]
   by_cases hm : x ∈ l
   ·rw [if_pos hm, if_pos (by simp [hm])]
   ·rw [if_neg hm, if_neg (by simp [e, hm])]
theorem sum_addN (f g : List Int -> Nat) : ∀ l : List (List Int), (l.map fun s => f s + g s).sum = (l.map f).sum + (l.map g).sum
 | [] => rfl
 | s :: l => by simp only [List.map_cons, List.sum_cons, sum_addN f g l]; omega
theorem totZ_all {d : Nat} {l : List (List Int)} (hn : l.Nodup) : ∀ m, (∀ j, j < m -> dif notes d j ∈ l) -> totZ notes d l m = m
 | 0, _ => by
  unfold totZ cntZ
  induction l with
  | nil => rfl
  | cons s l ih => simpa using ih (List.nodup_cons.1 hn).2
 | m + 1, h => by
  have ih := totZ_all hn m (fun j hj => h j (by omega))
  unfold totZ at ih ⊢
  simp only [cntZ_succ]
  rw [sum_addN, ih, one_hit l _ hn, if_pos (h m (by omega))]
theorem tot_le {d m : Nat} : ∀ l : List (List Int), totZ notes d l m <= l.length * m
 | [] => Nat.zero_le _
 | s :: l => by
  have := tot_le (d := d) (m := m) l
  have h2 := cntZ_le (notes := notes) d s m
  unfold totZ at *
  rw [List.map_cons, List.sum_cons, List.length_cons, Nat.add_mul]
  omega
theorem sizes_nodup (h : Sc ps D notes) {d : Nat} (hd : d <= notes.length) : (sizesZ ps notes d).Nodup :=
 (sizesZ_sorted h hd).imp fun {a b} hab e => by subst e; omega
theorem tot_take (d m : Nat) (l : List (List Int)) {i : Nat} (hi : i < l.length) : totZ notes d (l.take (i + 1)) m = totZ notes d (l.take i) m + cntZ notes d (l.getD i []) m := by
 unfold totZ
 rw [List.take_add_one, List.getElem?_eq_getElem hi, List.map_append, List.sum_append, List.getD_eq_getElem?_getD, List.getElem?_eq_getElem hi]
 simp
theorem sizes9 (h : Sc ps D notes) {a1 : Int} (ha : 0 <= a1 /\ a1 <= 255) (K : Bool -> Bool) :
  (bif ((wI ((nI (encZs D notes).length) + 1)) == 0) then false else (Q23 (encPs ps) (encZs D notes) (Int.tmod (wI (a1)) (wI ((nI (encZs D notes).length) + 1))) (fun z4v z5v => (Q15 (encPs ps) (encZs D notes) (Int.tmod (wI (a1)) (wI ((nI (encZs D notes).length) + 1))) (fun z6v => (Q28 z4v z6v (fun z7v => (bif (!z7v) then (K false) else (bif (z5v != 0) then (K false) else (L9_0_0 (fun y25v => (K y25v)) (fun y26v y27v y28v => (K (y26v == (nI y28v.length)))) fuel (Int.tmod (wI (a1)) (wI ((nI (encZs D notes).length) + 1))) z4v 0 0 (encPs ps) (encZs D notes))))))))))) = K true := by
 have hle := h.len
 have hne := h.ne
 have hD := h.dok
 rw [encZs_len]
 have hw : wI ((nI notes.length) + 1) = ((notes.length + 1 : Nat) : Int) := by
  show wI ((notes.length : Int) + 1) = _
  rw [wI_eq (by omega)]; omega
 have hwa : wI a1 = ((a1.toNat : Nat) : Int) := by rw [wI_eq (by omega)]; omega
 have ht : Int.tmod (wI a1) (wI ((nI notes.length) + 1)) = ((a1.toNat % (notes.length + 1) : Nat) : Int) := by
  rw [hw, hwa]; exact (Int.ofNat_tmod _ _).symm
 have hdlt := Nat.mod_lt a1.toNat (show 0 < notes.length + 1 by omega)
 rw [ht]
 generalize a1.toNat % (notes.length + 1) = d at hdlt
 have e0 : ((wI ((nI notes.length) + 1)) == 0) = false := by rw [hw]; exact beq_eq_false_iff_ne.2 (by omega)
 have hl1 := sizesZ_len (ps := ps) (notes := notes) d
 rw [e0, cond_false, l23 h (by omega), l15 h (by omega), l28 h (by omega) (sizesZ_ok h (by omega))]
 simp only [Bool.not_true, cond_false, bne_self_eq_false]
 have hall : totZ notes d (sizesZ ps notes d) notes.length = notes.length := totZ_all (sizes_nodup h (by omega)) _ fun j hj => (sizesZ_mem _ _).2 (List.mem_map.2 ⟨j, List.mem_range.2 hj, rfl⟩)
 have key := loop_iter (fun n (i : Nat) => LP9_0 (fun y25v => (K y25v)) (fun y26v y27v y28v => (K (y26v == (nI y28v.length)))) n (d : Int) (encZs D (sizesZ ps notes d)) ((totZ notes d ((sizesZ ps notes d).take i) notes.length : Nat) : Int) (i : Int) (encPs ps) (encZs D notes)) (sizesZ ps notes d).length (fun i => i)
  (R := K true) (fun i hi n => ?_) (fun n => ?_) fuel (fuel_gt (by omega))
 ·exact key
 ·have o := sizesZ_ok h (c := d) (by omega) _ (getD_mem hi)
  have hsv : SV (zR D ((sizesZ ps notes d).getD i [])) := zR_SV (by omega) (o.2.mono (by omega))
  have h29 := fun K => l29 h (c := d) (by omega) hsv (by rw [zR_len]; exact o.1) K
  have hb1 := tot_le (notes := notes) (d := d) (m := notes.length) ((sizesZ ps notes d).take i)
  have hb2 : ((sizesZ ps notes d).take i).length * notes.length <= 9 * 9 := Nat.mul_le_mul (by rw [List.length_take]; omega) hle
  have hb3 := cntZ_le (notes := notes) d ((sizesZ ps notes d).getD i []) notes.length
  simp only [LP9_0, St9_0_0, encZs_len, lt_nI hi, cond_true, ge0, gd_true, Int.toNat_natCast, get_encZs hi, oOpt, oSl]
  rw [h29, cnt_zR hD.1]
  have key2 := loop_iter (fun m (j : Nat) => LP9_2 (fun y16v y17v y18v y19v y20v y21v y22v y23v y24v => (bif (y20v != y22v) then (K false) else (bif (y21v != 0) then (K false) else (LP9_0 (fun y25v => (K y25v)) (fun y26v y27v y28v => (K (y26v == (nI y28v.length)))) n y16v y17v (wI (y18v + y20v)) (wI (y19v + 1)) y23v y24v)))) m
    (d : Int) (encZs D (sizesZ ps notes d)) ((totZ notes d ((sizesZ ps notes d).take i) notes.length : Nat) : Int) (i : Int) ((cntZ notes d ((sizesZ ps notes d).getD i []) notes.length : Nat) : Int) 0 ((cntZ notes d ((sizesZ ps notes d).getD i []) j : Nat) : Int) (j : Int) (encPs ps) (encZs D notes)) notes.length (fun j => j)
   (R := LP9_0 (fun y25v => (K y25v)) (fun y26v y27v y28v => (K (y26v == (nI y28v.length)))) n (d : Int) (encZs D (sizesZ ps notes d)) ((totZ notes d ((sizesZ ps notes d).take (i + 1)) notes.length : Nat) : Int) ((i + 1 : Nat) : Int) (encPs ps) (encZs D notes))
   (fun j hj m => ?_) (fun m => ?_) fuel (fuel_gt (by omega))
  ·exact key2
  ·have oj := dif_ok h (c := d) (by omega) hj
   have hcj := cntZ_le (notes := notes) d ((sizesZ ps notes d).getD i []) j
   simp only [LP9_2, St9_2_0, encZs_len, lt_nI hj, cond_true]
   rw [l26 h (by omega) hj]
   simp only [ge0, gd_true, Int.toNat_natCast, get_encZs hi, oOpt, oSl]
   rw [l17z h.psok h.dok oj.1 o.1 (oj.2.mono (by omega)) (o.2.mono (by omega)), cntZ_succ]
   by_cases e : dif notes d j = (sizesZ ps notes d).getD i []
   ·rw [decide_eq_true e, cond_true, if_pos e, wI_succ (by omega), wI_succ (by omega)]
   ·rw [decide_eq_false e, cond_false, if_neg e, wI_succ (by omega)]; rfl
  ·simp only [LP9_2, St9_2_0, encZs_len, lt_nI', cond_false, bne_self_eq_false]
   rw [wI_succ (by omega), tot_take d notes.length _ hi]
   congr 1
   rw [wI_eq (by omega)]; omega
 ·simp only [LP9_0, St9_0_0, encZs_len, lt_nI', cond_false]
  rw [List.take_length, hall]
  congr 1
  exact beq_self_eq_true _
end
theorem l9 (th : Bool) {kd nm : Int} {n0 n1 n2 n3 n4 n5 n6 n7 n8 n9 n10 n11 n12 n13 n14 n15 n16 n17 n18 n19 n20 n21 n22 n23 : Int} (hk : 0 <= kd) (hn : 0 <= nm) (h : ∀ i, i < 8 -> (-128 <= (sAt n0 n1 n2 n3 n4 n5 n6 n7 n8 n9 n10 n11 n12 n13 n14 n15 n16 n17 n18 n19 n20 n21 n22 n23 i).1 /\ (sAt n0 n1 n2 n3 n4 n5 n6 n7 n8 n9 n10 n11 n12 n13 n14 n15 n16 n17 n18 n19 n20 n21 n22 n23 i).1 <= 127) /\ (-128 <= (sAt n0 n1 n2 n3 n4 n5 n6 n7 n8 n9 n10 n11 n12 n13 n14 n15 n16 n17 n18 n19 n20 n21 n22 n23 i).2.1 /\ (sAt n0 n1 n2 n3 n4 n5 n6 n7 n8 n9 n10 n11 n12 n13 n14 n15 n16 n17 n18 n19 n20 n21 n22 n23 i).2.1 <= 127) /\ (-128 <= (sAt n0 n1 n2 n3 n4 n5 n6 n7 n8 n9 n10 n11 n12 n13 n14 n15 n16 n17 n18 n19 n20 n21 n22 n23 i).2.2 /\ (sAt n0 n1 n2 n3 n4 n5 n6 n7 n8 n9 n10 n11 n12 n13 n14 n15 n16 n17 n18 n19 n20 n21 n22 n23 i).2.2 <= 127)) {x : Int} (hx : 0 <= x /\ x <= 255) (K : Bool -> Bool) :
  Q9 th kd nm n0 n1 n2 n3 n4 n5 n6 n7 n8 n9 n10 n11 n12 n13 n14 n15 n16 n17 n18 n19 n20 n21 n22 n23 x K = K true := by
 obtain ⟨D, notes, hs, h12⟩ := l12 th hk hn h
 rw [Q9_def]; unfold G9
 rw [l11]
 simp only [Bool.not_true, cond_false]
 rw [h12]
 exact sizes9 hs hx K
end Go.Ev
