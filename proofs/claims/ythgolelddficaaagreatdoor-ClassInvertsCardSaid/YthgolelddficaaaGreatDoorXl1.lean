/- What the printed functions come to at small numbers, and the mathematics of scales and classes. No conditions but those of each -/
import Derived.Maps.RangeWalk
import Derived.Sort.KeysCollected
import Derived.Sort.OwnSorted
import Derived.OwnWalk
import Derived.StringKeys
import Derived.ChangeSame
import Derived.ChangeVars
import Derived.JoinedOf
import Derived.RowKitTokens
import Derived.LaidLaws
import Derived.LaidHandle
import Derived.Stop.Joined
import Derived.LaidMore
import Derived.OpenShut
import Derived.Lib.SmallJoins
import Derived.Lib.LaidTab
import Derived.ProofKit
import Derived.Test.YthgolelddficaaaGreatDoorRows
import Derived.Test.YthgolelddficaaaGreatDoorXl0
set_option linter.unusedVariables false
set_option linter.unusedSimpArgs false
namespace Go.Ev
open Go Go.RowKit
theorem itoa_byte {n : Int} {c : UInt8} (h : c ∈ Lib.itoa n) : c.toNat = 45 ∨ (48 <= c.toNat /\ c.toNat <= 57) := by
 unfold Lib.itoa at h
 split at h
 ·rcases List.mem_cons.1 h with rfl | h
  ·exact .inl rfl
  ·exact .inr (decDigits_dig _ _ h)
 ·exact .inr (decDigits_dig _ _ h)
theorem itoa_no {n : Int} {c : UInt8} (h : c.toNat = 32 ∨ c.toNat = 40 ∨ c.toNat = 41 ∨ c.toNat = 47 ∨ c.toNat = 94) : c ∉ Lib.itoa n := fun hm => by
 have := itoa_byte hm
 omega
theorem itoa_inj {n m : Int} (h1 : -1000000000000000000 < n) (h2 : n < 1000000000000000000) (h3 : -1000000000000000000 < m) (h4 : m < 1000000000000000000) (h : Lib.itoa n = Lib.itoa m) : n = m :=
 itoaB_inj h1 h2 h3 h4 (by unfold itoaB; rw [h])
theorem cut_inj {α : Type} {c : α} : ∀ {a b x y : List α}, c ∉ a -> c ∉ b -> a ++ c :: x = b ++ c :: y -> a = b /\ x = y
 | [], [], x, y, _, _, h => ⟨rfl, by simpa using h⟩
 | [], d :: b, x, y, _, hb, h => by
  simp only [List.nil_append, List.cons_append, List.cons.injEq] at h
  exact absurd h.1 (fun e => hb (by simp [e]))
 | d :: a, [], x, y, ha, _, h => by
  simp only [List.nil_append, List.cons_append, List.cons.injEq] at h
  exact absurd h.1.symm (fun e => ha (by simp [e]))
 | d :: a, e :: b, x, y, ha, hb, h => by
  simp only [List.cons_append, List.cons.injEq] at h
  obtain ⟨h1, h2⟩ := cut_inj (fun hm => ha (List.mem_cons_of_mem _ hm)) (fun hm => hb (List.mem_cons_of_mem _ hm)) h.2
  exact ⟨by rw [h.1, h1], h2⟩
def fracL (q : Rat) : List UInt8 := if q.den = 1 then Lib.itoa q.num else Lib.itoa q.num ++ 47 :: Lib.itoa q.den
def segL (p : Int) (q : Rat) : List UInt8 := if q = 1 then Lib.itoa p else if q.den = 1 /\ 0 < q.num then Lib.itoa p ++ 94 :: fracL q else Lib.itoa p ++ 94 :: (40 :: fracL q ++ [41])
def segsL (ps : List Int) (v : List Rat) : List (List UInt8) := ((ps.zip v).filter fun x => decide (x.2 ≠ 0)).map fun x => segL x.1 x.2
def txtL (ps : List Int) (v : List Rat) : List UInt8 := if segsL ps v = [] then [49] else joinL [32] (segsL ps v)
theorem frac_no {q : Rat} {c : UInt8} (h : c.toNat = 32 ∨ c.toNat = 40 ∨ c.toNat = 41 ∨ c.toNat = 94) : c ∉ fracL q := by
 have h1 : ∀ n : Int, c ∉ Lib.itoa n := fun n => itoa_no (by omega)
 have h2 : c ≠ 47 := by rintro rfl; revert h; decide
 unfold fracL
 split
 ·exact h1 _
 ·simp [h1, h2]
theorem frac_inj {q r : Rat} (hq : SQ q) (hr : SQ r) (h : fracL q = fracL r) : q = r := by
 obtain ⟨⟨a1, a2⟩, a3⟩ := hq
 obtain ⟨⟨b1, b2⟩, b3⟩ := hr
 have n47 : ∀ n : Int, (47 : UInt8) ∉ Lib.itoa n := fun n => itoa_no (by decide)
 unfold fracL at h
 by_cases hq1 : q.den = 1 <;> by_cases hr1 : r.den = 1
 ·rw [if_pos hq1, if_pos hr1] at h
  exact Rat.ext (itoa_inj (by omega) (by omega) (by omega) (by omega) h) (by omega)
 ·rw [if_pos hq1, if_neg hr1] at h
  exact absurd (show (47 : UInt8) ∈ Lib.itoa q.num by rw [h]; simp) (n47 _)
 ·rw [if_neg hq1, if_pos hr1] at h
  exact absurd (show (47 : UInt8) ∈ Lib.itoa r.num by rw [<- h]; simp) (n47 _)
 ·rw [if_neg hq1, if_neg hr1] at h
  obtain ⟨h1, h2⟩ := cut_inj (n47 _) (n47 _) h
  have e1 := itoa_inj (by omega) (by omega) (by omega) (by omega) h1
  have e2 := itoa_inj (by omega) (by omega) (by omega) (by omega) h2
  exact Rat.ext e1 (by omega)
theorem seg_inj {p p' : Int} {q r : Rat} (hp : 0 <= p /\ p < 1000) (hp' : 0 <= p' /\ p' < 1000) (hq : SQ q) (hr : SQ r) (h : segL p q = segL p' r) : p = p' /\ q = r := by
 have n94 : ∀ n : Int, (94 : UInt8) ∉ Lib.itoa n := fun n => itoa_no (by decide)
 have f40 : ∀ q : Rat, (40 : UInt8) ∉ fracL q := fun q => frac_no (by decide)
 have ip : ∀ {a b : List UInt8}, Lib.itoa p ++ 94 :: a = Lib.itoa p' ++ 94 :: b -> p = p' /\ a = b := fun h => by
  obtain ⟨h1, h2⟩ := cut_inj (n94 _) (n94 _) h
  exact ⟨itoa_inj (by omega) (by omega) (by omega) (by omega) h1, h2⟩
 unfold segL at h
 by_cases hq1 : q = 1 <;> by_cases hr1 : r = 1
 ·rw [if_pos hq1, if_pos hr1] at h
  exact ⟨itoa_inj (by omega) (by omega) (by omega) (by omega) h, by rw [hq1, hr1]⟩
 ·rw [if_pos hq1, if_neg hr1] at h
  exfalso
  split at h <;> exact n94 p (by rw [h]; simp)
 ·rw [if_neg hq1, if_pos hr1] at h
  exfalso
  split at h <;> exact n94 p' (by rw [<- h]; simp)
 ·rw [if_neg hq1, if_neg hr1] at h
  by_cases hq2 : q.den = 1 /\ 0 < q.num <;> by_cases hr2 : r.den = 1 /\ 0 < r.num
  ·rw [if_pos hq2, if_pos hr2] at h
   obtain ⟨h1, h2⟩ := ip h
   exact ⟨h1, frac_inj hq hr h2⟩
  ·rw [if_pos hq2, if_neg hr2] at h
   obtain ⟨h1, h2⟩ := ip h
   exact absurd (show (40 : UInt8) ∈ fracL q by rw [h2]; simp) (f40 _)
  ·rw [if_neg hq2, if_pos hr2] at h
   obtain ⟨h1, h2⟩ := ip h
   exact absurd (show (40 : UInt8) ∈ fracL r by rw [<- h2]; simp) (f40 _)
  ·rw [if_neg hq2, if_neg hr2] at h
   obtain ⟨h1, h2⟩ := ip h
   simp only [List.cons_append, List.cons.injEq, true_and, List.append_cancel_right_eq] at h2
   exact ⟨h1, frac_inj hq hr h2⟩
theorem seg_no {p : Int} {q : Rat} : (32 : UInt8) ∉ segL p q := by
 have h1 : ∀ n : Int, (32 : UInt8) ∉ Lib.itoa n := fun n => itoa_no (by decide)
 have h2 : (32 : UInt8) ∉ fracL q := frac_no (by decide)
 unfold segL
 split
 ·exact h1 _
 ·split <;> simp [h1, h2]
theorem join_inj {c : UInt8} : ∀ {l m : List (List UInt8)}, l ≠ [] -> m ≠ [] -> (∀ a, a ∈ l -> c ∉ a) -> (∀ a, a ∈ m -> c ∉ a) -> joinL [c] l = joinL [c] m -> l = m
 | [a], [b], _, _, _, _, h => by simpa [joinL] using h
 | [a], b :: b2 :: m, _, _, hl, _, h => by
  simp only [joinL] at h
  exact absurd (show c ∈ a by rw [h]; simp) (hl a (by simp))
 | a :: a2 :: l, [b], _, _, _, hm, h => by
  simp only [joinL] at h
  exact absurd (show c ∈ b by rw [<- h]; simp) (hm b (by simp))
 | a :: a2 :: l, b :: b2 :: m, _, _, hl, hm, h => by
  have e : ∀ (a a2 : List UInt8) l, joinL [c] (a :: a2 :: l) = a ++ c :: joinL [c] (a2 :: l) := fun a a2 l => by simp [joinL]
  rw [e, e] at h
  obtain ⟨h1, h2⟩ := cut_inj (hl a (by simp)) (hm b (by simp)) h
  rw [h1, join_inj (by simp) (by simp) (fun x hx => hl x (List.mem_cons_of_mem _ hx)) (fun x hx => hm x (List.mem_cons_of_mem _ hx)) h2]
 | [], _, h, _, _, _, _ => absurd rfl h
 | _ :: _, [], _, h, _, _, _ => absurd rfl h
theorem seg_head {p : Int} (hp : p = 2 ∨ p = 3 ∨ p = 5) {q : Rat} : ∃ c r, segL p q = c :: r /\ c ≠ 49 := by
 have h1 : ∃ c, Lib.itoa p = [c] /\ c ≠ 49 := by
  rcases hp with rfl | rfl | rfl
  ·exact ⟨50, by unfold Lib.itoa; rw [if_neg (by omega)]; rw [Lib.decDigits, dif_pos (by decide)]; rfl, by decide⟩
  ·exact ⟨51, by unfold Lib.itoa; rw [if_neg (by omega)]; rw [Lib.decDigits, dif_pos (by decide)]; rfl, by decide⟩
  ·exact ⟨53, by unfold Lib.itoa; rw [if_neg (by omega)]; rw [Lib.decDigits, dif_pos (by decide)]; rfl, by decide⟩
 obtain ⟨c, e, hc⟩ := h1
 unfold segL
 rw [e]
 split
 ·exact ⟨c, [], rfl, hc⟩
 ·split
  ·exact ⟨c, _, rfl, hc⟩
  ·exact ⟨c, _, rfl, hc⟩
theorem segs_vec : ∀ {ps : List Int} {v w : List Rat}, v.length = ps.length -> w.length = ps.length -> ps.Nodup -> (∀ p, p ∈ ps -> 0 <= p /\ p < 1000) -> SV v -> SV w -> segsL ps v = segsL ps w -> v = w
 | [], [], [], _, _, _, _, _, _, _ => rfl
 | p :: ps, x :: v, y :: w, hv, hw, hn, hp, sv, sw, h => by
  simp only [List.length_cons, Nat.add_right_cancel_iff] at hv hw
  obtain ⟨hn1, hn2⟩ := List.nodup_cons.1 hn
  have hp' : ∀ r, r ∈ ps -> 0 <= r /\ r < 1000 := fun r hr => hp r (by simp [hr])
  have sv' : SV v := fun q hq => sv q (by simp [hq])
  have sw' : SV w := fun q hq => sw q (by simp [hq])
  have h0 := hp p (by simp)
  have none : ∀ {u : List Rat} {z : Rat}, u.length = ps.length -> SV u -> SQ z -> segL p z ∉ segsL ps u := fun {u z} hu su hz hm => by
   unfold segsL at hm
   obtain ⟨⟨r, t⟩, hx, e⟩ := List.mem_map.1 hm
   have hx := (List.mem_filter.1 hx).1
   have hr := (List.of_mem_zip hx).1
   have ht := su t (List.of_mem_zip hx).2
   have := (seg_inj (hp' r hr) h0 ht hz e).1
   subst this
   exact hn1 hr
  have sx := sv x (by simp)
  have sy := sw y (by simp)
  have step : ∀ (z : Rat) (u : List Rat), segsL (p :: ps) (z :: u) = if z = 0 then segsL ps u else segL p z :: segsL ps u := fun z u => by
   unfold segsL
   by_cases hz : z = 0
   ·simp [hz]
   ·simp [hz]
  rw [step, step] at h
  by_cases hx : x = 0 <;> by_cases hy : y = 0
  ·rw [if_pos hx, if_pos hy] at h
   rw [hx, hy, segs_vec hv hw hn2 hp' sv' sw' h]
  ·rw [if_pos hx, if_neg hy] at h
   exact absurd (show segL p y ∈ segsL ps v by rw [h]; simp) (none hv sv' sy)
  ·rw [if_neg hx, if_pos hy] at h
   exact absurd (show segL p x ∈ segsL ps w by rw [<- h]; simp) (none hw sw' sx)
  ·rw [if_neg hx, if_neg hy] at h
   simp only [List.cons.injEq] at h
   rw [(seg_inj h0 h0 sx sy h.1).2, segs_vec hv hw hn2 hp' sv' sw' h.2]
 | [], _ :: _, _, h, _, _, _, _, _, _ => by simp at h
 | [], [], _ :: _, _, h, _, _, _, _, _ => by simp at h
 | _ :: _, [], _, h, _, _, _, _, _, _ => by simp at h
 | _ :: _, _ :: _, [], _, h, _, _, _, _, _ => by simp at h
theorem txt_inj {ps : List Int} (hps : PsOk ps) {v w : List Rat} (hv : v.length = ps.length) (hw : w.length = ps.length) (sv : SV v) (sw : SV w) (h : txtL ps v = txtL ps w) : v = w := by
 have hn : ps.Nodup := by rcases hps with rfl | rfl <;> decide
 have hp : ∀ p, p ∈ ps -> 0 <= p /\ p < 1000 := fun p hp => by rcases hps.mem p hp with rfl | rfl | rfl <;> omega
 refine segs_vec hv hw hn hp sv sw ?_
 have no : ∀ (u : List Rat) a, a ∈ segsL ps u -> (32 : UInt8) ∉ a := fun u a ha => by
  unfold segsL at ha
  obtain ⟨x, _, rfl⟩ := List.mem_map.1 ha
  exact seg_no
 have hd : ∀ (u : List Rat), segsL ps u ≠ [] -> joinL [32] (segsL ps u) ≠ [49] := fun u hu => by
  cases he : segsL ps u with
  | nil => exact absurd he hu
  | cons a r =>
   have ha : a ∈ segsL ps u := by rw [he]; simp
   unfold segsL at ha
   obtain ⟨⟨p, q⟩, hx, rfl⟩ := List.mem_map.1 ha
   have hx := (List.mem_filter.1 hx).1
   obtain ⟨c, t, e, hc⟩ := seg_head (hps.mem p (List.of_mem_zip hx).1) (q := q)
   intro h
   dsimp only at h
   rw [e] at h
   cases r with
   | nil => simp only [joinL, List.cons.injEq] at h; exact hc h.1
   | cons b r => simp only [joinL, List.cons_append, List.cons.injEq] at h; exact hc h.1
 unfold txtL at h
 by_cases h1 : segsL ps v = [] <;> by_cases h2 : segsL ps w = []
 ·rw [h1, h2]
 ·rw [if_pos h1, if_neg h2] at h
  exact absurd h.symm (hd w h2)
 ·rw [if_neg h1, if_pos h2] at h
  exact absurd h (hd v h1)
 ·rw [if_neg h1, if_neg h2] at h
  exact join_inj h1 h2 (no v) (no w) h
end Go.Ev

namespace Go.Ev
open Go Go.RowKit Go.Proofs
theorem pure_of {P : Program} {W0 : World} {Γ : Oracle} (hΓ : SoundΓ P W0 Γ) {f : Nat} {args : List PVal} {r : RRes} (h : ∀ K, Γ false f args K = K r) : Pure P W0 f args r := by
 obtain ⟨r', hd, hk⟩ := hΓ false f args (fun x => @decide (x = r) (Classical.propDecidable _)) (by rw [h]; simp)
 have : r' = r := by simpa using hk
 subst this
 exact hd
theorem lits_rep {w : World} {S : PSet} {l : List Value} : ∀ i (hi : i < (l.map PVal.lit).length) (hs : l.toArray.size = (l.map PVal.lit).length), RepP w S (l.map PVal.lit)[i] (l.toArray[i]'(hs ▸ hi)) := fun i hi hs => by
 simp only [List.getElem_map, List.getElem_toArray]
 exact .lit _
theorem Pure.lits2 {P : Program} {W0 : World} {f : Nat} {l : List Value} {a b : Value} (h : Pure P W0 f (l.map .lit) (.tup [.p (.lit a), .p (.lit b)])) {w : World} (hb : Below W0.heap.size W0 w) :
  Calls P f l.toArray w fun e w' => e = .returned (.tuple #[a, b]) /\ Below w.heap.size w w' := by
 refine (h.2 w (fun _ _ => False) l.toArray hb (fun _ _ h => h.elim) (by simp) (fun i hi => lits_rep i hi (by simp))).mono ?_
 rintro e w' ⟨v, S', rfl, h1, _, _, _, us, rfl, hs, h2, _⟩
 refine ⟨?_, h1⟩
 have e0 := repP_lit (h2 0 (by simp))
 have e1 := repP_lit (h2 1 (by simp))
 congr 2
 apply Array.ext
 ·simpa using hs
 ·intro i h1 h2
  simp only [List.size_toArray, List.length_cons, List.length_nil] at h2
  rcases i with _ | _ | i
  ·exact e0
  ·exact e1
  ·omega
def sqF (n : Int) : Int := IntKind.u64.wrap (BitVec.ofInt 64 (IntKind.u64.wrap (n * n / 18446744073709551616 * 2 ^ 2)) ||| BitVec.ofInt 64 (Int.fdiv (n * n % 18446744073709551616) (2 ^ 62))).toNat
def stF (s : Int × Int × Int) : Int × Int × Int :=
 if sqF s.1 >= 9223372036854775808 then (Int.fdiv (sqF s.1) (2 ^ 1), IntKind.u64.wrap ((Int.fdiv (IntKind.u64.wrap (sqF s.2.1 + 1)) (2 ^ 1)) + 1), IntKind.i64.wrap (IntKind.i64.wrap (s.2.2 * 2) + 1))
 else (sqF s.1, IntKind.u64.wrap (sqF s.2.1 + 1), IntKind.i64.wrap (s.2.2 * 2))
def itF (s : Int × Int × Int) : Nat -> Int × Int × Int
 | 0 => s
 | n + 1 => stF (itF s n)
def okF (s : Int × Int × Int) : Bool := decide (0 <= s.1) && decide (s.1 < 18446744073709551616) && decide (0 <= s.2.1) && decide (s.2.1 < 18446744073709551616) && (decide (sqF s.1 >= 9223372036854775808) || !decide (IntKind.u64.wrap (sqF s.2.1 + 1) >= 9223372036854775808))
theorem st223 {r0 : Int -> Int -> Int -> Int -> Bool} {e0 : Int -> Bool -> Bool} {e1 : Int -> Bool} {s : Int × Int × Int} (h : okF s = true) {i : Int} (hi : i < 26) :
  St223_0_0 r0 e0 e1 s.1 s.2.1 s.2.2 i = r0 (stF s).1 (stF s).2.1 (stF s).2.2 (wI (i + 1)) := by
 obtain ⟨a, b, c⟩ := s
 unfold okF at h
 simp only [Bool.and_eq_true, decide_eq_true_eq] at h
 obtain ⟨⟨⟨⟨h1, h2⟩, h3⟩, h4⟩, h5⟩ := h
 have q : ∀ (n : Int), 0 <= n -> n < 18446744073709551616 -> ∀ K : Int -> Int -> Bool, H235 n n K = K (n * n / 18446744073709551616) (n * n % 18446744073709551616) := fun n k1 k2 K => by
  rw [H235_def]; unfold D235; simp [k1, k2]
 unfold St223_0_0
 rw [decide_eq_true hi, cond_true, q a h1 h2, q b h3 h4]
 unfold stF
 by_cases hg : sqF a >= 9223372036854775808
 ·rw [if_pos hg]
  show (bif decide (sqF a >= 9223372036854775808) then _ else _) = _
  rw [decide_eq_true hg]; rfl
 ·rw [if_neg hg]
  show (bif decide (sqF a >= 9223372036854775808) then _ else (bif decide (IntKind.u64.wrap (sqF b + 1) >= 9223372036854775808) then _ else _)) = _
  rw [decide_eq_false hg] at h5 ⊢
  simp only [Bool.false_or, Bool.not_eq_true'] at h5
  rw [h5]; rfl
theorem lp223 {e0 : Int -> Bool -> Bool} {e1 : Int -> Bool} {s : Int × Int × Int} (h : (List.range 26).all (fun i => okF (itF s i)) = true) : LP223_0 e0 e1 fuel s.1 s.2.1 s.2.2 0 = e1 (itF s 26).2.2 := by
 have h' : ∀ i, i < 26 -> okF (itF s i) = true := fun i hi => List.all_eq_true.1 h i (List.mem_range.2 hi)
 refine loop_iter (fun n (i : Nat) => LP223_0 e0 e1 n (itF s i).1 (itF s i).2.1 (itF s i).2.2 (i : Int)) 26 (fun i => i) (fun i hi n => ?_) (fun n => ?_) fuel (fuel_gt (by omega))
 ·show St223_0_0 _ e0 e1 _ _ _ _ = _
  rw [st223 (h' i hi) (by omega), wI_succ (by omega)]
  rfl
 ·show St223_0_0 _ e0 e1 _ _ _ _ = _
  unfold St223_0_0
  rw [show decide (((26 : Nat) : Int) < 26) = false by decide, cond_false]
theorem l223 {p : Int} (hp : p = 2 ∨ p = 3 ∨ p = 5) (K : Int -> Bool -> Bool) : Q223 p K = K (logc p) true := by
 have q : ∀ (n : Int), 0 <= n -> n < 18446744073709551616 -> ∀ K : Int -> Bool, H99 n K = K (Lib.bitLen n.toNat : Nat) := fun n k1 k2 K => by
  rw [H99_def]; unfold D99; simp [k1, k2]
 rw [Q223_def]; unfold G223 L223_0_0
 rcases hp with rfl | rfl | rfl
 ·rw [wU_eq (by omega), q _ (by omega) (by omega)]
  have e : Lib.bitLen (2 : Int).toNat = 2 := by decide +kernel
  rw [e]
  have := lp223 (e0 := fun y6v y7v => K y6v y7v) (e1 := fun y8v => K y8v true) (s := (4611686018427387904, 4611686018427387904, 1)) (by decide +kernel)
  have f : (itF (4611686018427387904, 4611686018427387904, 1) 26).2.2 = logc 2 := by decide +kernel
  rw [f] at this
  exact this
 ·rw [wU_eq (by omega), q _ (by omega) (by omega)]
  have e : Lib.bitLen (3 : Int).toNat = 2 := by decide +kernel
  rw [e]
  have := lp223 (e0 := fun y6v y7v => K y6v y7v) (e1 := fun y8v => K y8v true) (s := (6917529027641081856, 6917529027641081856, 1)) (by decide +kernel)
  have f : (itF (6917529027641081856, 6917529027641081856, 1) 26).2.2 = logc 3 := by decide +kernel
  rw [f] at this
  exact this
 ·rw [wU_eq (by omega), q _ (by omega) (by omega)]
  have e : Lib.bitLen (5 : Int).toNat = 3 := by decide +kernel
  rw [e]
  have := lp223 (e0 := fun y6v y7v => K y6v y7v) (e1 := fun y8v => K y8v true) (s := (5764607523034234880, 5764607523034234880, 2)) (by decide +kernel)
  have f : (itF (5764607523034234880, 5764607523034234880, 2) 26).2.2 = logc 5 := by decide +kernel
  rw [f] at this
  exact this
theorem l205 {n : Int} (h1 : -1000000000000000000 < n) (h2 : n < 1000000000000000000) (X : Int -> Bool -> Bool) : Q205 (itoaB n) X = X n true := by
 rw [Q205_def]; unfold G205; rw [H233_num h1 h2]
theorem dec191_some : ∀ {ps fs : List PVal} {l : List (Int × Int)}, dec191 ps fs = some l -> ps = encP l /\ fs = encF l /\ ∀ x, x ∈ l -> (x.1 = 2 ∨ x.1 = 3 ∨ x.1 = 5) /\ -10000000 <= x.2 /\ x.2 <= 10000000
 | [], [], l, h => by
  simp only [dec191, Option.some.injEq] at h
  subst h
  exact ⟨rfl, rfl, fun x hx => by cases hx⟩
 | p :: ps, f :: fs, l, h => by
  unfold dec191 at h
  split at h
  ·next heq _ => cases heq
  ·next p' ps' s fs' e1 e2 =>
   cases e1; cases e2
   split at h
   ·next k l' hk hl' =>
    split at h
    ·next hc =>
     simp only [Option.some.injEq] at h
     subst h
     obtain ⟨i1, i2, i3⟩ := dec191_some hl'
     refine ⟨by rw [i1]; rfl, by rw [i2, (numOf_some hk).2.2]; rfl, fun x hx => ?_⟩
     rcases List.mem_cons.1 hx with rfl | hx
     ·exact hc
     ·exact i3 x hx
    ·cases h
   ·cases h
  ·cases h
 | [], _ :: _, l, h => by simp [dec191] at h
 | _ :: _, [], l, h => by simp [dec191] at h
theorem row_at {w : World} {S : PSet} {es : List PVal} {v : Value} {g : Nat -> Value} (h : RepP w S (.sl es) v) (hlt : ∀ b o, S b o -> b < w.heap.size) (hg : ∀ j (hj : j < es.length), es[j] = .lit (g j)) (hc : ∀ j, j < es.length -> (g j).cells = #[g j]) :
  RowAt w.heap.size w v es.length g /\ v.oneCell' = true := by
 cases h with
 | nil => exact ⟨.inl ⟨rfl, rfl⟩, rfl⟩
 | sl _ b o cap k V hcap hV hrow =>
  refine ⟨.inr ⟨b, o, cap, rfl, fun h0 => ?_, fun j hj => ?_⟩, rfl⟩
  ·have h1 := hrow 0 h0
   have hk : 0 < k := by
    have hv := hV 0 h0
    rw [hg 0 h0] at hv
    have := repP_lit hv
    rw [this, hc 0 h0] at h1
    have := h1.1
    simp at this
    omega
   exact hlt _ _ (h1.2 0 hk).1
  ·have hv := hV j hj
   rw [hg j hj] at hv
   have hv := repP_lit hv
   obtain ⟨h1, h2⟩ := hrow j hj
   rw [hv, hc j hj] at h1
   have hk : k = 1 := by simpa using h1.symm
   subst hk
   obtain ⟨_, u, h3, _, h5⟩ := h2 0 (by omega)
   rw [hv, hc j hj] at h3
   have : u = g j := by simpa using h3.symm
   rw [this] at h5
   simpa using h5
theorem args2 {w : World} {S : PSet} {vs : Array Value} {p0 p1 : PVal} (hs : vs.size = [p0, p1].length) (hr : ∀ i (hi : i < [p0, p1].length), RepP w S [p0, p1][i] (vs[i]'(hs ▸ hi))) :
  ∃ v0 v1, vs = #[v0, v1] /\ RepP w S p0 v0 /\ RepP w S p1 v1 := by
 have h2 : vs.size = 2 := by simpa using hs
 refine ⟨vs[0], vs[1], ?_, hr 0 (by simp), hr 1 (by simp)⟩
 apply Array.ext
 ·simpa using h2
 ·intro i h1 h3
  simp only [List.size_toArray, List.length_cons, List.length_nil] at h3
  rcases i with _ | _ | i
  ·rfl
  ·rfl
  ·omega
theorem agg3 {w : World} {S : PSet} {p0 p1 p2 : PVal} {v : Value} (h : RepP w S (.agg [p0, p1, p2]) v) : ∃ u0 u1 u2, v = .agg #[u0, u1, u2] /\ RepP w S p0 u0 /\ RepP w S p1 u1 /\ RepP w S p2 u2 := by
 cases h with
 | agg cs us hsz hcs =>
  have h3 : us.size = 3 := by simpa using hsz
  refine ⟨us[0], us[1], us[2], ?_, hcs 0 (by simp), hcs 1 (by simp), hcs 2 (by simp)⟩
  congr 1
  apply Array.ext
  ·simpa using h3
  ·intro i h1 h2
   simp only [List.size_toArray, List.length_cons, List.length_nil] at h2
   rcases i with _ | _ | _ | i
   ·rfl
   ·rfl
   ·rfl
   ·omega
theorem g205Γ (k : Int) (K : RRes -> Bool) : Γ64 false 205 ([Value.string (itoaB k)].map PVal.lit) K = Q205 (itoaB k) (fun z0_0 z1_0 => K (.tup [(.p (xI z0_0)), (.p (xB z1_0))])) := by kernel_rfl
theorem g223Γ (k : Int) (K : RRes -> Bool) : Γ64 false 223 ([Value.int .i64 k].map PVal.lit) K = Q223 k (fun z0_0 z1_0 => K (.tup [(.p (xI z0_0)), (.p (xB z1_0))])) := by kernel_rfl
theorem pure205 {W0 : World} (hΓ : SoundΓ Tryz.prog W0 Γ64) {k : Int} (h1 : -1000000000000000000 < k) (h2 : k < 1000000000000000000) : Pure Tryz.prog W0 205 ([Value.string (itoaB k)].map PVal.lit) (.tup [.p (.lit (.int .i64 k)), .p (.lit (.bool true))]) :=
 pure_of hΓ fun K => by rw [g205Γ, l205 h1 h2]
theorem pure223 {W0 : World} (hΓ : SoundΓ Tryz.prog W0 Γ64) {p : Int} (hp : p = 2 ∨ p = 3 ∨ p = 5) : Pure Tryz.prog W0 223 ([Value.int .i64 p].map PVal.lit) (.tup [.p (.lit (.int .i64 (logc p))), .p (.lit (.bool true))]) :=
 pure_of hΓ fun K => by rw [g223Γ, l223 hp]
theorem hand191 {W0 : World} (hΓ : SoundΓ Tryz.prog W0 Γ64) : Hand191 W0 := fun ps fs den most K h => by
 rw [H191_def] at h; unfold D191 at h
 split at h
 ·next l hl =>
  obtain ⟨rfl, rfl, hbd⟩ := dec191_some hl
  by_cases hb : (l.all (fun x => decide (-most <= x.2) && decide (x.2 <= most)) && decide (l.length <= 6) && decide (0 <= most) && decide (most <= 10000000)) = true
  ·rw [hb, cond_true] at h
   simp only [Bool.and_eq_true, List.all_eq_true, decide_eq_true_eq] at hb
   obtain ⟨⟨⟨hb1, hb2⟩, hb3⟩, hb4⟩ := hb
   refine ⟨_, ⟨enters Tryz.func191 (by kernel_rfl) (by kernel_rfl), fun w S vs hbw hlt hs hr => ?_⟩, h⟩
   obtain ⟨v0, v1, rfl, r0, r1⟩ := args2 hs hr
   obtain ⟨sp, sf, u2, rfl, u0, u1, u2'⟩ := agg3 r0
   obtain rfl := repP_lit r1
   obtain rfl := repP_lit u2'
   have dflt : ((2 : Int) = 2 ∨ (2 : Int) = 3 ∨ (2 : Int) = 5) /\ (-most <= 0 /\ (0 : Int) <= most) /\ (-10000000 <= (0 : Int) /\ (0 : Int) <= 10000000) := by omega
   let f : Nat -> PF most := fun j => if hj : j < l.length then ⟨l[j], (hbd l[j] (List.getElem_mem hj)).1, hb1 l[j] (List.getElem_mem hj), (hbd l[j] (List.getElem_mem hj)).2⟩ else ⟨(2, 0), dflt⟩
   have hf : ∀ j (hj : j < l.length), (f j).1 = l[j] := fun j hj => congrArg Subtype.val (show f j = _ from dif_pos hj)
   have hp : pairs (uptoF f l.length) = l := by
    apply List.ext_getElem
    ·simp [pairs, uptoF]
    ·intro j h1 h2
     simp only [pairs, uptoF, List.map_map, List.getElem_map, List.getElem_range, Function.comp]
     exact hf j h2
   have ra := row_at (g := fun j => .int .i64 (f j).1.1) u0 hlt (fun j hj => by
    have hj' : j < l.length := by simpa using hj
    simp only [List.getElem_map, hf j hj']) (fun j hj => rfl)
   have rb := row_at (g := fun j => .string (itoaB (f j).1.2)) u1 hlt (fun j hj => by
    have hj' : j < l.length := by simpa using hj
    simp only [List.getElem_map, hf j hj']) (fun j hj => rfl)
   simp only [List.length_map] at ra rb
   have key := near_any (most := most) ⟨hb3, hb4⟩ sp sf den l.length hb2 f ra.2 rb.2 w ra.1 rb.1
    (fun k k1 k2 W hW => (pure205 hΓ (k := k) (by omega) (by omega)).lits2 (hbw.trans (hW.mono hbw.size)))
    (fun p hp W hW => (pure223 hΓ hp).lits2 (hbw.trans (hW.mono hbw.size)))
   rw [hp] at key
   refine key.mono ?_
   rintro e w' ⟨rfl, hB⟩
   refine ⟨_, S, rfl, hB, fun _ _ h => h, fun _ _ h => .inl h, fun b o h => Nat.lt_of_lt_of_le (hlt b o h) hB.size, _, rfl, rfl, fun i hi => ?_, fun i j hi hj h1 => ?_⟩
   ·simp only [List.length_cons, List.length_nil] at hi
    rcases i with _ | _ | _ | i
    ·exact .lit _
    ·exact .lit _
    ·exact .lit _
    ·omega
   ·simp only [List.length_cons, List.length_nil] at hi
    rcases i with _ | _ | _ | i
    ·cases h1
    ·cases h1
    ·cases h1
    ·omega
  ·rw [Bool.not_eq_true] at hb
   rw [hb] at h; cases h
 ·cases h
end Go.Ev

namespace Go.Ev
open Go Go.RowKit
abbrev bL (l : List UInt8) : ByteArray := ⟨l.toArray⟩
theorem bL_append (a b : List UInt8) : bL a ++ bL b = bL (a ++ b) := by
 apply ByteArray.ext
 apply Array.toList_inj.1
 simp [ByteArray.data_append]
theorem bL_size (a : List UInt8) : (bL a).size = a.length := by simp [bL, ByteArray.size]
theorem itoaB_bL (n : Int) : itoaB n = bL (Lib.itoa n) := rfl
theorem itoa_len {n : Int} (h1 : -1000000000000000000 < n) (h2 : n < 1000000000000000000) : (Lib.itoa n).length <= 19 := by
 have := itoaB_size h1 h2
 rw [itoaB_bL, bL_size] at this
 exact this
theorem frac_len {q : Rat} (hq : SQ q) : (fracL q).length <= 39 := by
 obtain ⟨⟨a1, a2⟩, a3⟩ := hq
 have h1 := itoa_len (n := q.num) (by omega) (by omega)
 have h2 := itoa_len (n := (q.den : Int)) (by omega) (by omega)
 unfold fracL
 split
 ·omega
 ·simp only [List.length_append, List.length_cons]; omega
theorem gdE {n : Nat} (h : n <= 1000000000) (x : Bool) : gd (decide (n <= 1099511627776)) x = x := by
 rw [decide_eq_true (by omega), gd_true]
theorem l115 {q : Rat} (hq : SQ q) (K : ByteArray -> Bool) : Q115 (itoaB q.num) (itoaB q.den) K = K (bL (fracL q)) := by
 obtain ⟨⟨a1, a2⟩, a3⟩ := hq
 have h1 := itoa_len (n := q.num) (by omega) (by omega)
 have h2 := itoa_len (n := (q.den : Int)) (by omega) (by omega)
 have e : s_2f = bL [47] := rfl
 rw [Q115_def]; unfold G115
 rw [eq31 (by omega), e, itoaB_bL, itoaB_bL, bL_append, bL_append]
 unfold fracL
 by_cases hd : q.den = 1
 ·have : ((q.den : Int) = 1) := by omega
  rw [if_pos hd, decide_eq_true this, cond_true]
 ·have : ¬ ((q.den : Int) = 1) := by omega
  rw [if_neg hd, decide_eq_false this, cond_false]
  simp only [bL_size, List.length_append, List.length_cons, List.length_nil]
  rw [gdE (by omega), gdE (by omega)]
  simp
theorem seg_branch {p : Int} (hp : 0 <= p /\ p < 1000) {q : Rat} (hq : SQ q) (A : Bool) (R : ByteArray -> Bool) :
  (H112 p (fun z7v => (bif ((itoaB q.num).toList == s_30.toList) then A else (Q45 1 (fun z8v z9v => (bif (itoaB q.num == z8v && itoaB q.den == z9v) then (R z7v) else (bif ((itoaB q.den).toList == s_31.toList) then (Q106 (itoaB q.num) (fun z10v => (bif (decide (z10v > 0)) then (Q115 (itoaB q.num) (itoaB q.den) (fun z11v => (gd (decide (s_5e.size + z11v.size <= 1099511627776)) (gd (decide (z7v.size + (s_5e ++ z11v).size <= 1099511627776)) (R (z7v ++ (s_5e ++ z11v))))))) else (Q115 (itoaB q.num) (itoaB q.den) (fun z12v => (gd (decide (s_5e28.size + z12v.size <= 1099511627776)) (gd (decide ((s_5e28 ++ z12v).size + s_29.size <= 1099511627776)) (gd (decide (z7v.size + ((s_5e28 ++ z12v) ++ s_29).size <= 1099511627776)) (R (z7v ++ ((s_5e28 ++ z12v) ++ s_29))))))))))) else (Q115 (itoaB q.num) (itoaB q.den) (fun z13v => (gd (decide (s_5e28.size + z13v.size <= 1099511627776)) (gd (decide ((s_5e28 ++ z13v).size + s_29.size <= 1099511627776)) (gd (decide (z7v.size + ((s_5e28 ++ z13v) ++ s_29).size <= 1099511627776)) (R (z7v ++ ((s_5e28 ++ z13v) ++ s_29)))))))))))))))
   = if q = 0 then A else R (bL (segL p q)) := by
 obtain ⟨⟨a1, a2⟩, a3⟩ := hq
 have hq : SQ q := ⟨⟨a1, a2⟩, a3⟩
 have h0 := itoa_len (n := p) (by omega) (by omega)
 have hf := frac_len hq
 have e1 : s_5e = bL [94] := rfl
 have e2 : s_5e28 = bL [94, 40] := rfl
 have e3 : s_29 = bL [41] := rfl
 have e0 : ((itoaB q.num).toList == s_30.toList) = decide (q = 0) := by
  have := itoa_txt_ne hq
  simpa using congrArg (!·) this
 rw [H112_num (by omega), e0]
 by_cases hz : q = 0
 ·rw [decide_eq_true hz, cond_true, if_pos hz]
 ·rw [decide_eq_false hz, cond_false, if_neg hz, l45 (by omega)]
  have e4 : (itoaB q.num == itoaB 1 && itoaB q.den == itoaB 1) = decide (q = 1) := hq.eqs (r := 1) ⟨by decide, by decide⟩
  rw [e4]
  unfold segL
  by_cases h1 : q = 1
  ·rw [decide_eq_true h1, cond_true, if_pos h1]; rfl
  ·rw [decide_eq_false h1, cond_false, if_neg h1, eq31 (by omega), e1, e2, e3]
   simp only [l115 hq, itoaB_bL p, bL_append, bL_size, List.length_append, List.length_cons, List.length_nil]
   rw [gdE (by omega), gdE (by omega), gdE (by omega), gdE (by omega), gdE (by omega)]
   by_cases hd : q.den = 1
   ·have : ((q.den : Int) = 1) := by omega
    rw [decide_eq_true this, cond_true, l106 (by omega)]
    have hn0 : q.num ≠ 0 := fun e => hz (Rat.num_eq_zero.1 e)
    by_cases hn : 0 < q.num
    ·rw [if_neg hn0, if_neg (by omega), show decide ((1 : Int) > 0) = true by decide, cond_true, if_pos ⟨hd, hn⟩]
     rfl
    ·rw [if_neg hn0, if_pos (by omega), show decide ((-1 : Int) > 0) = false by decide, cond_false, if_neg (fun h => hn h.2)]
     simp
   ·have : ¬ ((q.den : Int) = 1) := by omega
    rw [decide_eq_false this, cond_false, if_neg (fun h => hd h.1)]
    simp
def sgU (z : List (Int × Rat)) (i : Nat) : List PVal := ((z.take i).filter fun x => decide (x.2 ≠ 0)).map fun x => xZ (bL (segL x.1 x.2))
theorem sgU_succ {z : List (Int × Rat)} {i : Nat} (h : i < z.length) : sgU z (i + 1) = if z[i].2 = 0 then sgU z i else sgU z i ++ [xZ (bL (segL z[i].1 z[i].2))] := by
 unfold sgU
 rw [List.take_add_one, List.getElem?_eq_getElem h, List.filter_append, List.map_append]
 by_cases h0 : z[i].2 = 0
 ·rw [if_pos h0]; simp [h0]
 ·rw [if_neg h0]; simp [h0]
theorem sgU_len (z : List (Int × Rat)) (i : Nat) : (sgU z i).length <= i := by
 unfold sgU
 rw [List.length_map]
 exact Nat.le_trans (List.length_filter_le _ _) (by rw [List.length_take]; omega)
theorem strs_map : ∀ (l : List (List UInt8)), strsOf (l.map fun s => xZ (bL s)) = some l
 | [] => rfl
 | a :: l => by
  show (strsOf (l.map fun s => xZ (bL s))).map _ = _
  rw [strs_map l]; rfl
theorem joinL_len (c : List UInt8) (hc : c.length = 1) {m : Nat} : ∀ (l : List (List UInt8)), (∀ a, a ∈ l -> a.length <= m) -> (joinL c l).length <= l.length * (m + 1)
 | [], _ => by simp [joinL]
 | [a], h => by have := h a (by simp); simp [joinL]; omega
 | a :: b :: l, h => by
  have h1 := h a (by simp)
  have h2 := joinL_len c hc (b :: l) (fun x hx => h x (by simp [hx]))
  simp only [joinL, List.length_append, List.length_cons] at h2 ⊢
  rw [hc, Nat.add_mul (l.length + 1) 1 (m + 1)]
  omega
theorem l86 {ps : List Int} (hps : PsOk ps) {v : List Rat} (hv : SV v) (hl : v.length = ps.length) (K : ByteArray -> Int -> Bool) : Q86 (encPs ps) (encS v) K = K (bL (txtL ps v)) 0 := by
 have hlen := hps.len
 have hpm := hps.mem
 rw [Q86_def]; unfold G86
 rw [l32 hps.pr hv (by simpa using hl)]
 rw [show ((0 : Int) != 0) = false by decide, cond_false, encS_len]
 unfold L86_0_0
 have hz : (ps.zip v).length = v.length := by rw [List.length_zip, hl, Nat.min_self]
 let F : Nat -> Nat -> Bool := fun n i => match sgU (ps.zip v) i with
  | [] => (LP86_0 (K s_31 0) (fun y26v => (bif ((nI y26v.length) == 0) then (K s_31 0) else (H116 y26v s_20 (fun z27v => (K z27v 0))))) n).1 (encPs ps) (encS v) (nI v.length) (i : Int)
  | a :: r => (LP86_0 (K s_31 0) (fun y26v => (bif ((nI y26v.length) == 0) then (K s_31 0) else (H116 y26v s_20 (fun z27v => (K z27v 0))))) n).2 (encPs ps) (encS v) (nI v.length) (i : Int) (a :: r)
 have key := loop_iter F v.length (fun i => i) (R := K (bL (txtL ps v)) 0) (fun i hi n => ?_) (fun n => ?_) fuel (fuel_gt (by omega))
 ·exact key
 ·have hzi : i < (ps.zip v).length := by omega
  have hpi : i < ps.length := by omega
  have ez : (ps.zip v)[i] = (ps[i], v[i]) := List.getElem_zip
  have hq : SQ v[i] := hv _ (List.getElem_mem hi)
  have hp : 0 <= ps[i] /\ ps[i] < 1000 := by rcases hpm _ (List.getElem_mem hpi) with e | e | e <;> rw [e] <;> omega
  have gp : (encPs ps)[i]? = some (xI ps[i]) := by simp [encPs, hpi]
  have hsl := sgU_len (ps.zip v) i
  have hs := sgU_succ hzi
  rw [ez] at hs
  dsimp only at hs
  show F (n + 1) i = F n (i + 1)
  simp only [F]
  rw [hs]
  cases hU : sgU (ps.zip v) i with
  | nil =>
   simp only [LP86_0, St86_0_0, lt_nI hi, cond_true, ge0, gd_true, Int.toNat_natCast, get_encS hi, gp, oOpt, oR_xQ, oInt_xI]
   rw [seg_branch hp hq _ (fun s => (LP86_0 _ _ n).2 (encPs ps) (encS v) (nI v.length) (wI ((i : Int) + 1)) [xZ s])]
   rw [wI_succ (by omega)]
   by_cases h0 : v[i] = 0
   ·rw [if_pos h0, if_pos h0]
   ·rw [if_neg h0, if_neg h0]; rfl
  | cons a r =>
   rw [hU] at hsl
   simp only [LP86_0, St86_0_1, lt_nI hi, cond_true, ge0, gd_true, Int.toNat_natCast, get_encS hi, gp, oOpt, oR_xQ, oInt_xI]
   rw [seg_branch hp hq _ (fun s => gd (decide ((a :: r).length + 1 <= maxElems)) ((LP86_0 _ _ n).2 (encPs ps) (encS v) (nI v.length) (wI ((i : Int) + 1)) ((a :: r) ++ [xZ s])))]
   rw [wI_succ (by omega), maxE (l := a :: r) rfl (by omega), gd_true]
   by_cases h0 : v[i] = 0
   ·rw [if_pos h0, if_pos h0]
   ·rw [if_neg h0, if_neg h0]; rfl
 ·show F (n + 1) v.length = _
  have eU : sgU (ps.zip v) v.length = (segsL ps v).map fun s => xZ (bL s) := by
   unfold sgU segsL
   rw [<- hz, List.take_length, List.map_map]; rfl
  have hle := sgU_len (ps.zip v) v.length
  simp only [F]
  cases hU : sgU (ps.zip v) v.length with
  | nil =>
   simp only [LP86_0, St86_0_0, lt_nI', cond_false]
   have : segsL ps v = [] := by
    rw [hU] at eU
    exact List.map_eq_nil_iff.1 eU.symm
   unfold txtL
   rw [if_pos this]; rfl
  | cons a r =>
   have hne : segsL ps v ≠ [] := fun e => by rw [e, hU] at eU; cases eU
   simp only [LP86_0, St86_0_1, lt_nI', cond_false]
   rw [show ((nI (a :: r).length) == 0) = false from beq_eq_false_iff_ne.2 (by simp only [nI, List.length_cons]; omega), cond_false, <- hU, eU, H116_def]
   unfold D116 txtL
   rw [strs_map, if_neg hne]
   have hsl : (segsL ps v).length <= 3 := by
    rw [eU, List.length_map] at hle
    omega
   have hs : ∀ a, a ∈ segsL ps v -> a.length <= 100 := fun a ha => by
    unfold segsL at ha
    obtain ⟨⟨p, q⟩, hx, rfl⟩ := List.mem_map.1 ha
    have hx := (List.mem_filter.1 hx).1
    have hp := hpm _ (List.of_mem_zip hx).1
    have hf := frac_len (hv _ (List.of_mem_zip hx).2)
    have h0 := itoa_len (n := p) (by omega) (by omega)
    dsimp only
    unfold segL
    split
    ·omega
    ·split <;> simp only [List.length_append, List.length_cons, List.length_nil] <;> omega
   have hj := joinL_len [32] rfl (m := 100) (segsL ps v) hs
   have e20 : s_20.data.toList = [32] := rfl
   rw [e20]
   simp only
   rw [decide_eq_true (by omega), decide_eq_true (by omega)]
   rfl
end Go.Ev

namespace Go.Ev
open Go Go.RowKit Go.Proofs Go.Maps
def Rh : Value -> Option (DataW Value × List MemPlace) := fun v => some (.held v, [])
theorem keyed9 : Keyed Tryz.prog 9 := string_keyed Tryz.underlying9
section
variable {α : Type}
structure MI (T : α -> List UInt8) (G : α -> Value -> Prop) (D : DataW Value) (zs : List α) : Prop where
 isMap : IsMap D
 has : ∀ x, Maps.has D (.string x) = true ↔ ∃ z, z ∈ zs /\ T z = x
 val : ∀ z, z ∈ zs -> ∃ v, (∀ zd, D.atKey (.string (T z)) zd = .held v) /\ G z v
theorem MI.start (T : α -> List UInt8) (G : α -> Value -> Prop) : MI T G (.map []) [] := ⟨⟨[], rfl⟩, fun x => by simp [Maps.has], fun z hz => by cases hz⟩
theorem MI.put {T : α -> List UInt8} {G : α -> Value -> Prop} {D : DataW Value} {zs : List α} (h : MI T G D zs) {z : α} {v : Value} (hi : ∀ y, y ∈ zs -> T y = T z -> y = z) (hg : G z v) : MI T G (D.put (.string (T z)) (.held v)) (zs ++ [z]) := by
 refine ⟨h.isMap.put _ _, fun x => ?_, fun y hy => ?_⟩
 ·by_cases hx : x = T z
  ·subst hx
   rw [has_put_same h.isMap (show WideAt.IsKeyLit (.string (T z)) from trivial)]
   simp
  ·rw [has_put_other (by intro e; exact hx (by injection e)), h.has x]
   constructor
   ·rintro ⟨y, hy, e⟩; exact ⟨y, by simp [hy], e⟩
   ·rintro ⟨y, hy, e⟩
    rcases List.mem_append.1 hy with hy | hy
    ·exact ⟨y, hy, e⟩
    ·simp only [List.mem_singleton] at hy
     subst hy
     exact absurd e.symm hx
 ·by_cases he : T y = T z
  ·have : y = z := by
    rcases List.mem_append.1 hy with hy | hy
    ·exact hi y hy he
    ·simpa using hy
   subst this
   exact ⟨v, fun zd => atKey_put_same h.isMap (show WideAt.IsKeyLit (.string (T y)) from trivial) _ _, hg⟩
  ·have hy' : y ∈ zs := by
    rcases List.mem_append.1 hy with hy | hy
    ·exact hy
    ·simp only [List.mem_singleton] at hy
     subst hy; exact absurd rfl he
   obtain ⟨u, h1, h2⟩ := h.val y hy'
   exact ⟨u, fun zd => by rw [atKey_put_other (by intro e; exact he (by injection e))]; exact h1 zd, h2⟩
structure LI (P : Program) (T : α -> List UInt8) (G : α -> Value -> Prop) (wb : World) (B r n : Nat) (D0 : DataW Value) (zs : List α) (v : Value) (left : Lit -> Bool) (cnt : Nat) (us : List α) (vals : List Value) (wr : World) : Prop where
 rg : wr.ranges P 9 Rh B r n D0 left cnt
 cn : us.length + cnt <= n
 row : wr.ownsRow (B + 1) 41 1 v us.length vals
 col : Collected D0 left (us.map T)
 len : vals.length = us.length
 val : ∀ i (h : i < us.length) (h' : i < vals.length), G us[i] vals[i]
 mem : ∀ u, u ∈ us -> u ∈ zs
 below : Below wb.heap.size wb wr
 lo : wb.heap.size <= B
 hi : B + 1 <= wr.heap.size
theorem LI.step {P : Program} {T : α -> List UInt8} {G : α -> Value -> Prop} {wb : World} {B r n : Nat} {D0 : DataW Value} {zs : List α} {v v' : Value} {left : Lit -> Bool} {cnt cnt2 : Nat} {us : List α} {vals : List Value} {wr w2 w3 : World}
  (h : LI P T G wb B r n D0 zs v left cnt us vals wr) (hM : MI T G D0 zs) {x : List UInt8} {c : Value} (hlk : left (.string x) = true) (hat : ∀ zd, D0.atKey (.string x) zd = .held c)
  (hrg2 : w2.ranges P 9 Rh B r n D0 (fun z => left z && !z.sameKey (.string x)) cnt2) (hlt : cnt2 < cnt) (hg2 : wr.grownBy w2 (some r)) (hr : wb.heap.size <= r) {o : Obj}
  (hown : w3.ownsRow (B + 1) 41 1 v' (us.length + 1) (vals ++ [c])) (hg3 : (w2.alloc o).grownBy w3 v.ownBlock) :
  ∃ u, LI P T G wb B r n D0 zs v' (fun z => left z && !z.sameKey (.string x)) cnt2 (us ++ [u]) (vals ++ [c]) w3 := by
 obtain ⟨u, hu, e⟩ := (hM.has x).1 (has_true_of_atKey hat)
 subst e
 obtain ⟨c', h1, h2⟩ := hM.val u hu
 have hc : c = c' := by
  have := (hat .nil).symm.trans (h1 .nil)
  injection this
 subst hc
 have hne : some r ≠ v.ownBlock := row_ne_iter h.row h.rg
 have hnb : some B ≠ v.ownBlock := row_ne_low h.row (by omega)
 refine ⟨u, ⟨((hrg2.alloc o).kept hg3 hnb hne), ?_, by simpa using hown, ?_, by simp [h.len], fun i hi hi' => ?_, fun y hy => ?_, ?_, h.lo, ?_⟩⟩
 ·have := h.cn; simp; omega
 ·have := h.col.step hlk hat
  simpa using this
 ·by_cases hx : i < us.length
  ·rw [List.getElem_append_left hx, List.getElem_append_left (by rw [h.len]; exact hx)]
   exact h.val i hx _
  ·have hi2 : i = us.length := by simp at hi; omega
   subst hi2
   have e1 : (us ++ [u])[us.length] = u := by simp
   have e2 : (vals ++ [c])[us.length] = c := by simp [<- h.len]
   rw [e1, e2]
   exact h2
 ·rcases List.mem_append.1 hy with hy | hy
  ·exact h.mem y hy
  ·simp only [List.mem_singleton] at hy
   subst hy; exact hu
 ·have hs := h.below.size
  have h3 := hg2.size
  refine ((h.below.grown hg2 hs (fun j hj => by cases hj; exact hr)).alloc (by omega) o).grown hg3 (by simp; omega) (fun j hj => ?_)
  have := (h.row.lt j hj).1
  have := h.lo
  omega
 ·have h3 := hg2.size
  have h4 := hg3.size
  have := h.hi
  simp at h4
  omega
end
abbrev vw (ps : List Int) (D : Nat) (notes : List (List Int)) : PVal := .adr [xA [xV (encPs ps), xV (encZs D notes), xV (encZs D (notes2 notes))]] 0 0
theorem g55Γ (p n1 n2 : List PVal) (c : Int) (K : RRes -> Bool) : Γ94 false 55 [.adr [xA [xV p, xV n1, xV n2]] 0 0, xI c] K = Q55 p n1 n2 c (fun z0 z1 => K (.tup [.p (xV z0), .p (xI z1)])) := by kernel_rfl
theorem g86Γ (p v : List PVal) (K : RRes -> Bool) : Γ94 false 86 [xV p, xV v] K = Q86 p v (fun z0 z1 => K (.tup [.p (xZ z0), .p (xI z1)])) := by kernel_rfl
theorem g70Γ (l p n1 n2 : List PVal) (K : RRes -> Bool) : Γ94 true 70 [.adr l 41 1, .clo 84 [.adr [xA [xV p, xV n1, xV n2]] 0 0] []] K = Q70_84 l p n1 n2 (fun z => K (.one (.p (.sl z)))) := by kernel_rfl
theorem pureW_of {P : Program} {W0 : World} {Γ : Oracle} (hΓ : SoundΓ P W0 Γ) {f ty k : Nat} {es ps es' : List PVal} (h : ∀ K, Γ true f (.adr es ty k :: ps) K = K (.one (.p (.sl es')))) : PureW P W0 f es ty k ps es' := by
 obtain ⟨r, hd, hk⟩ := hΓ true f (.adr es ty k :: ps) (fun x => @decide (x = .one (.p (.sl es'))) (Classical.propDecidable _)) (by rw [h]; simp)
 have : r = .one (.p (.sl es')) := by simpa using hk
 subst this
 obtain ⟨es1, ty1, k1, ps1, es2, e1, e2, h1⟩ := hd
 cases e1; cases e2
 exact h1
section
variable {ps : List Int} {D : Nat} {notes : List (List Int)} {W0 : World}
theorem pure55 (hΓ : SoundΓ Tryz.prog W0 Γ94) (h : Sc ps D notes) {c : Nat} (hc : c <= notes.length) : Pure Tryz.prog W0 55 [vw ps D notes, xI c] (.tup [.p (xV (encZs D ((List.range notes.length).map (dif notes c)))), .p (xI 0)]) :=
 pure_of hΓ fun K => by rw [g55Γ, l55 h hc]
theorem pure86 (hΓ : SoundΓ Tryz.prog W0 Γ94) (hps : PsOk ps) {v : List Rat} (hv : SV v) (hl : v.length = ps.length) : Pure Tryz.prog W0 86 [xV (encPs ps), xV (encS v)] (.tup [.p (xZ (bL (txtL ps v))), .p (xI 0)]) :=
 pure_of hΓ fun K => by rw [g86Γ, l86 hps hv hl]
theorem pure70 (hΓ : SoundΓ Tryz.prog W0 Γ94) (h : Sc ps D notes) {c : Nat} (hc : c <= notes.length) {us : List (List Int)} (hl : us.length <= 12) (hu : ∀ u, u ∈ us -> u ∈ (List.range notes.length).map (dif notes c)) :
  PureW Tryz.prog W0 70 (encZs D us) 41 1 [.clo 84 [vw ps D notes] []] (encZs D (gsort (fun a b => cmpZ ps (zsub a b)) us)) :=
 pureW_of hΓ fun K => by
  rw [g70Γ]
  refine (l70_84 (f := fun z => encZ D z) (c := fun a b => cmpZ ps (zsub a b)) hl (fun a ha b hb K => ?_) _)
  have o1 := difs_ok h hc (hu a ha)
  have o2 := difs_ok h hc (hu b hb)
  obtain ⟨i, hi, rfl⟩ := List.mem_map.1 (hu a ha)
  obtain ⟨j, hj, rfl⟩ := List.mem_map.1 (hu b hb)
  rw [Q84_def]; unfold G84
  rw [l50z h.psok h.dok o1.1 o2.1 (o1.2.mono (by omega)) (o2.2.mono (by omega)) (h.dec c c i j hc hc (List.mem_range.1 hi) (List.mem_range.1 hj))]
theorem gsort_any (h : Sc ps D notes) {c : Nat} (hc : c <= notes.length) {us : List (List Int)} (hn : us.Nodup) (hm : ∀ u, u ∈ us ↔ u ∈ (List.range notes.length).map (dif notes c)) : gsort (fun a b => cmpZ ps (zsub a b)) us = sizesZ ps notes c := by
 refine sorted_unique (f := phi ps) _ _ (strict_of _ (gsort_sorted _ fun a ha b hb => ?_) (gsort_nodup _ hn) fun a ha b hb => ?_) (sizesZ_sorted h hc) fun a => ?_
 ·exact (dif_cmp h hc hc ((hm a).1 ha) ((hm b).1 hb)).1
 ·exact (dif_cmp h hc hc ((hm a).1 ((gsort_mem _ _ _).1 ha)) ((hm b).1 ((gsort_mem _ _ _).1 hb))).2.2.1.1
 ·rw [gsort_mem, sizesZ_mem, hm]
theorem Pure.txt {P : Program} {f : Nat} {p0 p1 : PVal} {a b : Value} (h : Pure P W0 f [p0, p1] (.tup [.p (.lit a), .p (.lit b)])) {w : World} (hb : Below W0.heap.size W0 w) {S : PSet} (hlt : ∀ b o, S b o -> b < w.heap.size) {v0 v1 : Value} (h0 : RepP w S p0 v0) (h1 : RepP w S p1 v1) :
  Calls P f #[v0, v1] w fun e w' => e = .returned (.tuple #[a, b]) /\ Below w.heap.size w w' := by
 refine (h.2 w S #[v0, v1] hb hlt rfl (fun i hi => ?_)).mono ?_
 ·simp only [List.length_cons, List.length_nil] at hi
  rcases i with _ | _ | i
  ·exact h0
  ·exact h1
  ·omega
 ·rintro e w' ⟨v, S', rfl, h1, _, _, _, us, rfl, hs, h2, _⟩
  refine ⟨?_, h1⟩
  have e0 := repP_lit (h2 0 (by simp))
  have e1 := repP_lit (h2 1 (by simp))
  congr 2
  apply Array.ext
  ·simpa using hs
  ·intro i h1 h2
   simp only [List.size_toArray, List.length_cons, List.length_nil] at h2
   rcases i with _ | _ | i
   ·exact e0
   ·exact e1
   ·omega
theorem Pure.row {P : Program} {f : Nat} {p0 p1 : PVal} {es : List PVal} {b : Value} (h : Pure P W0 f [p0, p1] (.tup [.p (.sl es), .p (.lit b)])) {w : World} (hb : Below W0.heap.size W0 w) {S : PSet} (hlt : ∀ b o, S b o -> b < w.heap.size) {v0 v1 : Value} (h0 : RepP w S p0 v0) (h1 : RepP w S p1 v1) :
  Calls P f #[v0, v1] w fun e w' => ∃ v S', e = .returned (.tuple #[v, b]) /\ Below w.heap.size w w' /\ (∀ b o, S b o -> S' b o) /\ (∀ b o, S' b o -> S b o ∨ w.heap.size <= b) /\ (∀ b o, S' b o -> b < w'.heap.size) /\ RepP w' S' (.sl es) v := by
 refine (h.2 w S #[v0, v1] hb hlt rfl (fun i hi => ?_)).mono ?_
 ·simp only [List.length_cons, List.length_nil] at hi
  rcases i with _ | _ | i
  ·exact h0
  ·exact h1
  ·omega
 ·rintro e w' ⟨v, S', rfl, h1, k1, k2, k3, us, rfl, hs, h2, _⟩
  have e0 := h2 0 (by simp)
  have e1 := repP_lit (h2 1 (by simp))
  have hs2 : us.size = 2 := by simpa using hs
  refine ⟨us[0], S', ?_, h1, k1, k2, k3, e0⟩
  congr 2
  apply Array.ext
  ·simpa using hs
  ·intro i h1 h2
   simp only [List.size_toArray, List.length_cons, List.length_nil] at h2
   rcases i with _ | _ | i
   ·rfl
   ·exact e1
   ·omega
end
end Go.Ev

namespace Go.Ev
open Go Go.RowKit Go.Proofs Go.Maps
theorem info41 : (Tryz.prog.info? 41).map (fun i => (i.zero, i.size, i.bytes)) = some (some (.slice none 0 0), 1, 24) := by kernel_rfl
theorem below_grown {w w' : World} (h : Below w.heap.size w w') : w.grownBy w' none := ⟨h.os, h.tape, h.output, h.size, fun k hk _ => h.block k hk⟩
theorem rows_at {w : World} {S : PSet} {α : Type} {f : α -> List PVal} {zs : List α} {v : Value} (h : RepP w S (.sl (zs.map fun z => xV (f z))) v) (hne : 0 < zs.length) (hlt : ∀ b o, S b o -> b < w.heap.size) :
  ∃ (b o cap : Nat) (V : Nat -> Value), v = .slice (some ⟨b, o, none⟩) zs.length cap /\ b < w.heap.size /\ ∀ j (hj : j < zs.length), w.cell? ⟨b, o + j, none⟩ = some (V j) /\ RepP w S (xV (f zs[j])) (V j) := by
 generalize he : zs.map (fun z => xV (f z)) = es at h
 cases h with
 | nil => simp at he; subst he; simp at hne
 | sl _ b o cap k V hcap hV hrow =>
  have hlen : es.length = zs.length := by rw [<- he]; simp
  have hVj : ∀ j (hj : j < zs.length), RepP w S (xV (f zs[j])) (V j) := fun j hj => by
   have := hV j (by omega)
   have e : es[j]'(by omega) = xV (f zs[j]) := by subst he; simp
   rw [e] at this
   exact this
  have hcl : ∀ j, j < zs.length -> (V j).cells = #[V j] := fun j hj => by
   have := hVj j hj
   generalize V j = u at this
   generalize f zs[j] = es at this
   cases this <;> rfl
  have hk : k = 1 := by
   have := (hrow 0 (by omega)).1
   rw [hcl 0 hne] at this
   exact this.symm
  subst hk
  refine ⟨b, o, cap, V, by rw [hlen], ?_, fun j hj => ⟨?_, hVj j hj⟩⟩
  ·exact hlt _ _ ((hrow 0 (by omega)).2 0 (by omega)).1
  ·obtain ⟨_, u, h3, _, h5⟩ := (hrow j (by omega)).2 0 (by omega)
   rw [hcl j hj] at h3
   have : u = V j := by simpa using h3.symm
   rw [this] at h5
   simpa using h5
theorem rep_later {w w' : World} {S : PSet} {p : PVal} {v : Value} (h : RepP w S p v) (hlt : ∀ b o, S b o -> b < w.heap.size) (hb : Below w.heap.size w w') : RepP w' S p v :=
 h.mono (.of_blocks fun b c hs => hb.block b (hlt b c hs)) (fun _ _ h => h)
section
variable {ps : List Int} {D : Nat} {notes : List (List Int)} {W0 : World}
def GV (w1 : World) (S1 : PSet) (D : Nat) (z : List Int) (v : Value) : Prop := RepP w1 S1 (xV (encZ D z)) v
def TX (ps : List Int) (D : Nat) (z : List Int) : List UInt8 := txtL ps (zR D z)
theorem GV.one {w1 : World} {S1 : PSet} {z : List Int} {v : Value} (h : GV w1 S1 D z v) : v.oneCell' = true /\ v.cells = #[v] := by
 unfold GV at h
 generalize encZ D z = es at h
 cases h <;> exact ⟨rfl, rfl⟩
theorem GV.slice {w1 : World} {S1 : PSet} {z : List Int} {v : Value} (h : GV w1 S1 D z v) : ∃ a n c, v = .slice a n c := by
 unfold GV at h
 generalize encZ D z = es at h
 cases h with
 | nil => exact ⟨_, _, _, rfl⟩
 | sl => exact ⟨_, _, _, rfl⟩
theorem txt_len {ps : List Int} (hps : PsOk ps) {v : List Rat} (hv : SV v) : (txtL ps v).length <= 1000 := by
 have hlen := hps.len
 have hs : ∀ a, a ∈ segsL ps v -> a.length <= 100 := fun a ha => by
  unfold segsL at ha
  obtain ⟨⟨p, q⟩, hx, rfl⟩ := List.mem_map.1 ha
  have hx := (List.mem_filter.1 hx).1
  have hp := hps.mem _ (List.of_mem_zip hx).1
  have hf := frac_len (hv _ (List.of_mem_zip hx).2)
  have h0 := itoa_len (n := p) (by omega) (by omega)
  dsimp only
  unfold segL
  split
  ·omega
  ·split <;> simp only [List.length_append, List.length_cons, List.length_nil] <;> omega
 have hj := joinL_len [32] rfl (m := 100) (segsL ps v) hs
 have hsl : (segsL ps v).length <= 3 := by
  unfold segsL
  rw [List.length_map]
  refine Nat.le_trans (List.length_filter_le _ _) ?_
  rw [List.length_zip]
  omega
 unfold txtL
 split
 ·simp
 ·omega
theorem repO_of {w1 w : World} {S1 : PSet} {g : Nat} {cur : Array Value} {us : List (List Int)} {vals : List Value} (hg : w.heap[g]? = some (.cells cur 41 (0, 0))) (hcur : cur.toList.take (us.length * 1) = vals) (hl : vals.length = us.length)
  (hv : ∀ i (h : i < us.length) (h' : i < vals.length), GV w1 S1 D us[i] vals[i]) (hb : Below w1.heap.size w1 w) (k3 : ∀ b o, S1 b o -> b < w1.heap.size) (hg1 : w1.heap.size <= g) :
  RepO w S1 ⟨fun _ => g, fun _ => 1, fun _ => us.length⟩ 0 (.buf false 41 1 (encZs D us)) := by
 refine ⟨rfl, by simp, cur, hg, fun i => vals.getD i undef, fun i hi => ?_, fun i hi => ?_, fun h => (by cases h), fun c _ hs => ?_⟩
 all_goals dsimp only at *
 ·have hi' : i < us.length := by simpa using hi
  have e : (encZs D us)[i] = xV (encZ D us[i]) := by simp
  have e2 : vals.getD i undef = vals[i]'(by omega) := by simp [show i < vals.length by omega]
  rw [e, e2]
  exact rep_later (hv i hi' (by omega)) k3 hb
 ·have hi' : i < us.length := by simpa using hi
  have e2 : vals.getD i undef = vals[i]'(by omega) := by simp [show i < vals.length by omega]
  rw [e2]
  obtain ⟨o1, o2⟩ := (hv i hi' (by omega)).one
  rw [o2]
  refine ⟨rfl, fun j hj => ⟨_, by obtain rfl : j = 0 := (by omega); rfl, o1, ?_⟩⟩
  have h0 : j = 0 := by omega
  subst h0
  have h1 : (cur.toList.take (us.length * 1))[i]? = vals[i]? := by rw [hcur]
  rw [List.getElem?_take_of_lt (by omega), Array.getElem?_toList, List.getElem?_eq_getElem (show i < vals.length by omega)] at h1
  simpa using h1
 ·have := k3 _ _ hs
  omega
theorem repP_of {w : World} {S : PSet} {x : Ix} {es : List PVal} {cap : Nat} (h : RepO w S x 0 (.buf false 41 1 es)) (hc : es.length <= cap) :
  RepP w (fun b c => S b c ∨ (b = x.m 0 /\ c < es.length)) (.sl es) (.slice (some ⟨x.m 0, 0, none⟩) es.length cap) := by
 obtain ⟨h1, h2, cur, h3, V, h4, h5, _, _⟩ := h
 refine .sl es _ 0 cap 1 V hc (fun i hi => (h4 i hi).mono (keeps_refl _ _) (fun _ _ h => .inl h)) fun i hi => ⟨(h5 i hi).1, fun j hj => ⟨.inr ⟨rfl, by omega⟩, ?_⟩⟩
 obtain ⟨u, q1, q2, q3⟩ := (h5 i hi).2 j hj
 refine ⟨u, q1, q2, ?_⟩
 simp only [World.cell?, h3]
 simpa using q3
set_option maxRecDepth 100000 in
set_option maxHeartbeats 4000000 in
theorem sizes_walk (hΓ : SoundΓ Tryz.prog W0 Γ94) (h : Sc ps D notes) {c : Nat} (hc : c <= notes.length) (w : World) (hbw : Below W0.heap.size W0 w) (S : PSet) (hlt : ∀ b o, S b o -> b < w.heap.size) (b o : Nat)
  (hview : RepP w S (vw ps D notes) (.pointer (some ⟨b, o, none⟩))) (pv : Value) (hbl : b < w.heap.size) (hpc : w.cell? ⟨b, o, none⟩ = some pv) (u0 : RepP w S (xV (encPs ps)) pv) :
  Calls Tryz.prog 52 #[.pointer (some ⟨b, o, none⟩), .int .i64 c] w fun e w' => ∃ v S', e = .returned (.tuple #[v, .int .i64 0]) /\ Below w.heap.size w w' /\ (∀ b o, S b o -> S' b o) /\ (∀ b o, S' b o -> S b o ∨ w.heap.size <= b) /\ (∀ b o, S' b o -> b < w'.heap.size) /\ RepP w' S' (.sl (encZs D (sizesZ ps notes c))) v := by
 have hn9 := h.len
 have hne := h.ne
 obtain ⟨i0, hi, hz0, hz1, hz2⟩ := info_parts info41
 have hmm := @run_makeMap Tryz.prog
 obtain ⟨zs, hzs⟩ : ∃ zs, zs = (List.range notes.length).map (dif notes c) := ⟨_, rfl⟩
 have hzl : zs.length = notes.length := by rw [hzs]; simp
 have hzo : ∀ z, z ∈ zs -> z.length = ps.length /\ ZS 6000 z := fun z hz => difs_ok h hc (by rw [<- hzs]; exact hz)
 have hzm : Hid (zs = (List.range notes.length).map (dif notes c)) := hzs
 have h55 : Calls Tryz.prog 55 #[.pointer (some ⟨b, o, none⟩), .int .i64 c] w fun e w1 => ∃ (lb lo cap : Nat) (V : Nat -> Value) (S1 : PSet), e = .returned (.tuple #[.slice (some ⟨lb, lo, none⟩) notes.length cap, .int .i64 0]) /\ Below w.heap.size w w1 /\ (∀ b o, S b o -> S1 b o) /\ (∀ b o, S1 b o -> S b o ∨ w.heap.size <= b) /\ (∀ b o, S1 b o -> b < w1.heap.size) /\
   lb < w1.heap.size /\ ∀ j (hj : j < zs.length), w1.cell? ⟨lb, lo + j, none⟩ = some (V j) /\ GV w1 S1 D zs[j] (V j) := by
  refine ((pure55 hΓ h hc).row hbw hlt hview (.lit _)).mono ?_
  rintro e w1 ⟨lv, S1, rfl, hB1, k1, k2, k3, hlv⟩
  rw [<- hzs] at hlv
  obtain ⟨lb, lo, cap, V, rfl, hlb, hVV⟩ := rows_at (f := fun z => encZ D z) hlv (by omega) k3
  exact ⟨lb, lo, cap, V, S1, by rw [hzl], hB1, k1, k2, k3, hlb, hVV⟩
 clear hzs
 go_enter Tryz.func52, Tryz.ntmps52
 go_wp2_with (go_at_call 55; refine h55.mono ?_; rintro e w1 ⟨lb, lo, cap, V, S1, rfl, hB1, k1, k2, k3, hlb, hVV⟩)
 have hu1 := rep_later u0 hlt hB1
 have hu1 : RepP w1 S1 (xV (encPs ps)) pv := hu1.mono (keeps_refl _ _) k1
 have hbw1 := hbw.trans (hB1.mono hbw.size)
 have hs1 := hB1.size
 have hpc1 := (hB1.cell (p := ⟨b, o, none⟩) hbl).trans hpc
 go_loopw [28] (fun i wr => ∃ k : Nat, k <= notes.length /\ i = .int .i64 k /\ ∃ Dm, wr.ownsMap Tryz.prog 9 Rh w1.heap.size k Dm /\ MI (TX ps D) (GV w1 S1 D) Dm (zs.take k) /\ Below w1.heap.size w1 wr /\ w1.heap.size + 1 <= wr.heap.size)
  (fun i _ => notes.length - (intOf i).toNat)
 case atStart => exact ⟨0, Nat.zero_le _, rfl, _, World.ownsMap_made _ _ _ _, MI.start _ _, (Below.refl _ _).alloc (Nat.le_refl _) _, by simp⟩
 case round =>
  obtain ⟨k, hk, rfl, Dm, hown, hM, hnx, hsz⟩ := hrel
  have hpcr := (hnx.cell (p := ⟨b, o, none⟩) (show b < w1.heap.size by omega)).trans hpc1
  by_cases hkn : k < notes.length
  ·obtain ⟨hVk, hGk⟩ := hVV k (by omega)
   have hVr := (hnx.cell (p := ⟨lb, lo + k, none⟩) hlb).trans hVk
   have hzk := hzo zs[k] (List.getElem_mem _)
   have hsv : SV (zR D zs[k]) := zR_SV (by have := h.dok; omega) (hzk.2.mono (by omega))
   have hlr : ∀ b o, S1 b o -> b < wr.heap.size := fun b o hs => Nat.lt_of_lt_of_le (k3 b o hs) hnx.size
   have h86 := (pure86 hΓ h.psok hsv (by rw [zR_len]; exact hzk.1)).txt (hbw1.trans (hnx.mono hbw1.size)) hlr (rep_later hu1 k3 hnx) (rep_later hGk k3 hnx)
   have hkey : keyOf Tryz.prog 9 (.string (bL (txtL ps (zR D zs[k])))) = some (.string (TX ps D zs[k])) := Go.WideMaps.keyOf_string_mk Tryz.underlying9 (by have := txt_len h.psok hsv; rw [bL_size]; unfold maxLen; omega)
   have hM' : ∀ v, v = V k -> MI (TX ps D) (GV w1 S1 D) (Dm.put (.string (TX ps D zs[k])) (.held v)) (zs.take (k + 1)) := by
    rintro v rfl
    rw [List.take_add_one, List.getElem?_eq_getElem (show k < zs.length by omega)]
    refine hM.put (fun y hy he => ?_) hGk
    have hyo := hzo y (List.mem_of_mem_take hy)
    exact zR_inj h.dok.1 (txt_inj h.psok (by rw [zR_len]; exact hyo.1) (by rw [zR_len]; exact hzk.1) (zR_SV (by have := h.dok; omega) (hyo.2.mono (by omega))) hsv he)
   clear hGk hM hzk hsv
   go_wp2_with (first
    | (go_at_call 86; refine h86.mono ?_; rintro e w2 ⟨rfl, hB2⟩; have hown2 := hown.kept (below_grown hB2) (by simp))
    | (at_mapUpdate; refine wpList_mapUpdate_own _ rfl _ _ _ 119 rfl 9 41 keyed9 Tryz.underlying119 Rh w1.heap.size k Dm rfl hown2 (by unfold maxLen; omega) _ _ _ rfl rfl hkey (.held (V k)) [] rfl ?_; intro w3 hown3 hg3)
    | go_in)
   go_roundw
   case rel =>
    have hb2 := hB2.size
    exact ⟨k + 1, by omega, by go_num, _, hown3, hM' _ rfl, (hnx.trans (hB2.mono hnx.size)).grown hg3 (by omega) (fun j hj => by cases hj; exact Nat.le_refl _), by have := hg3.size; omega⟩
   case measure => simp [intOf]; omega
  ·obtain rfl : k = notes.length := by omega
   obtain ⟨wm, hwm⟩ : ∃ wm, wm = wr := ⟨wr, rfl⟩
   subst hwm
   rw [List.take_of_length_le (by omega)] at hM
   have hsz0 := hown.size_le
   go_wp2_with (first
    | (at_range; refine wpList_range_own _ rfl _ 119 rfl 9 41 keyed9 Tryz.underlying119 Rh w1.heap.size notes.length Dm rfl hown ?_; intro w2 hrg2 hg2 hs2)
    | go_in)
   go_frame
   go_loopw [13] (fun v wq => ∃ left cnt us vals, LI Tryz.prog (TX ps D) (GV w1 S1 D) w1 w1.heap.size wm.heap.size notes.length Dm zs v left cnt us vals wq) (fun _ wq => wq.rangeLeft w1.heap.size wm.heap.size)
   case atStart =>
    exact ⟨_, _, [], [], { rg := hrg2, cn := by simpa using hsz0, row := World.ownsRow_nil _ _ _ _, col := Collected.start Dm, len := rfl, val := fun i hi => by simp at hi, mem := fun u hu => by simp at hu, below := hnx.grown hg2 hnx.size (fun j hj => by cases hj), lo := Nat.le_refl _, hi := by have := hg2.size; omega }⟩
   case round =>
    obtain ⟨left, cnt, us, vals, hI⟩ := hrel
    go_wp2_with (first
     | (at_next; refine wpList_next_ranges _ rfl _ rfl 9 keyed9 Rh encStr (fun v : Value => v) (fun key kl hk => by obtain ⟨x, hx, _⟩ := Maps.keyOf_str Tryz.underlying9 hk; exact ⟨x, hx⟩) (fun v y _ => ⟨v, rfl⟩) w1.heap.size wm.heap.size notes.length _ _ _ rfl hI.rg ?_ ?_)
     | go_in)
    ·intro hc0 hl0
     have hzm' := hzm.out
     have hcol := hI.col
     have hcn := hI.cn
     have hus : ∀ u, u ∈ us ↔ u ∈ zs := fun u => ⟨hI.mem u, fun hu => by
      have : TX ps D u ∈ us.map (TX ps D) := (hcol.2 _).2 ⟨(hM.has _).2 ⟨u, hu, rfl⟩, hl0 _⟩
      obtain ⟨u', hu', e⟩ := List.mem_map.1 this
      have o1 := hzo u' (hI.mem _ hu')
      have o2 := hzo u hu
      have : u' = u := zR_inj h.dok.1 (txt_inj h.psok (by rw [zR_len]; exact o1.1) (by rw [zR_len]; exact o2.1) (zR_SV (by have := h.dok; omega) (o1.2.mono (by omega))) (zR_SV (by have := h.dok; omega) (o2.2.mono (by omega))) e)
      rwa [<- this]⟩
     have hnd : us.Nodup := List.Pairwise.of_map (TX ps D) (fun a b hab e => hab (congrArg _ e)) hcol.1
     have hpos : 0 < us.length := by
      have : zs[0]'(by omega) ∈ us := (hus _).2 (List.getElem_mem _)
      exact List.length_pos_of_mem this
     rcases hI.row.2 with ⟨_, h0⟩ | ⟨g, cp, cur, rfl, hbase, hg, q1, q2, q3, q4⟩
     ·omega
     have hO := repO_of hg q4 hI.len hI.val hI.below k3 (by omega)
     have hbr := hbw1.trans (hI.below.mono hbw1.size)
     have hlr : ∀ b o, S1 b o -> b < wr.heap.size := fun b o hs => Nat.lt_of_lt_of_le (k3 b o hs) hI.below.size
     have hgl : g < wr.heap.size := (Array.getElem?_eq_some_iff.1 hg).1
     have hvr := rep_later ((rep_later hview hlt hB1).mono (keeps_refl _ _) k1) k3 hI.below
     have hbs := hbw1.size
     have h70 := (pure70 hΓ h hc (us := us) (by omega) (fun u hu => by rw [<- hzm']; exact hI.mem u hu)).2 wr S1 ⟨fun _ => g, fun _ => 1, fun _ => us.length⟩ #[.slice (some ⟨g, 0, none⟩) us.length cp, .func (.func 84) #[.pointer (some ⟨b, o, none⟩)] #[]] hbr hlr hgl (by show W0.heap.size <= g; omega) hO rfl
      (RepL.own 0 cp q1 q2 ⟨cur, 41, (0, 0), hg, q3⟩) (fun i hi => by
       have : i = 0 := by simpa using hi
       subst this
       refine .clo 84 [vw ps D notes] [] _ _ rfl rfl (fun i hi => ?_) (fun i hi => by simp at hi)
       have : i = 0 := by simpa using hi
       subst this
       exact hvr)
     rw [gsort_any h hc hnd (fun u => by rw [hus, hzm'])] at h70
     have hbf : Below w.heap.size w wr := hB1.trans (hI.below.mono hs1)
     have hrs := hI.below.size
     clear hI hM hO hcol hus hnd hl0 hvr hg
     go_wp2_with (go_at_call 70; refine h70.mono ?_; rintro e w5 ⟨S5, rfl, hX, s1, s2, s3, hz, hO5⟩)
     refine bodyPost_ret (results_tmp2 rfl _ _ _) rfl ?_
     have hel : us.length = (encZs D (sizesZ ps notes c)).length := hO5.2.1
     have hrep := repP_of hO5 (cap := cp) (by omega)
     rw [<- hel] at hrep
     refine ⟨_, _, rfl, hbf.trans ⟨hX.os, hX.tape, hX.output, hX.size, fun k hk => hX.block k (by omega) (by omega)⟩, fun b o hs => .inl (s1 _ _ (k1 _ _ hs)), fun b o hs => ?_, fun b o hs => ?_, hrep⟩
     ·rcases hs with hs | ⟨rfl, _⟩
      ·rcases s2 _ _ hs with hs | hs
       ·exact k2 _ _ hs
       ·right; omega
      ·right; omega
     ·rcases hs with hs | ⟨rfl, _⟩
      ·exact s3 _ _ hs
      ·have := hX.size
       omega
    ·intro x cv kl yd yp w3 cnt3 hkey hlk hv hat hrg3 hlt3 hg3 hs3 hen
     obtain ⟨x', ex, rfl, _⟩ := Maps.keyOf_str Tryz.underlying9 hkey
     obtain rfl : x = x' := encStr_inj ex
     have hat' : ∀ zd, Dm.atKey (.string x) zd = .held cv := fun zd => (hat zd).trans (by have := Option.some.inj hv; exact (congrArg Prod.fst this).symm)
     have hrow3 := hI.row.kept hg3 (Or.inr (row_ne_iter hI.row hI.rg).symm)
     have hcv : ∃ a n c, cv = .slice a n c := by
      obtain ⟨u, hu, e⟩ := (hM.has x).1 (has_true_of_atKey hat')
      subst e
      obtain ⟨c', h1, h2⟩ := hM.val u hu
      have hc : cv = c' := by
       have := (hat' .nil).symm.trans (h1 .nil)
       injection this
      rw [hc]
      exact h2.slice
     obtain ⟨ca, cn, cc, rfl⟩ := hcv
     have HM := Lib.hid hM
     have HI := Lib.hid hI
     have HA := Lib.hid hat'
     have hcn := hI.cn
     have hih := hI.hi
     have hgs := hg3.size
     clear hs3 hat hat' hM hI hv hkey ex
     go_wp2_with (first
      | (at_builtin; refine wpList_append_own _ rfl _ _ 30 rfl (w1.heap.size + 1) 41 i0 (.slice none 0 0) 1 24 Tryz.underlying30 hi hz0 hz1 hz2 rfl (by decide) _ _ _ rfl (hrow3.alloc _) ⟨w3.heap.size, 0, none⟩ 1 1 [.slice ca cn cc] rfl rfl (cell_one_new _ _ _) (by simp [Value.oneCell']) (by unfold maxLen; omega) (by omega) (by simp; omega) ?_; intro v' w4 hown' hg4 hnil4; go_frame)
      | go_in)
     obtain ⟨u, hI'⟩ := HI.out.step HM.out hlk HA.out hrg3 hlt3 hg3 (by omega) hown' hg4
     have hI0 := HI.out
     clear HI HM HA hown' hg4 hrow3 hnil4
     go_roundw
     case rel => exact ⟨_, _, _, _, hI'⟩
     case measure => rw [hI'.rg.left_eq, hI0.rg.left_eq]; exact hlt3
theorem hand52 (hΓ : SoundΓ Tryz.prog W0 Γ94) : Hand52 W0 := fun p n1 n2 d K hK => by
 rw [H52_def] at hK; unfold D52 at hK
 split at hK
 ·next ps l1 l2 hp h1 h2 =>
  split at hK
  ·next hx =>
   obtain ⟨D, notes, h, rfl, rfl, rfl, rfl, rfl, h0, hd⟩ := hx
   obtain ⟨c, rfl⟩ := Int.eq_ofNat_of_zero_le h0
   have hc : c <= notes.length := by omega
   rw [List.length_map, Int.toNat_natCast, sizes_zR h hc, <- encZs_L] at hK
   refine ⟨_, ⟨enters Tryz.func52 (by kernel_rfl) (by kernel_rfl), fun w S vs hbw hlt hs hr => ?_⟩, hK⟩
   obtain ⟨v0, v1, rfl, r0, r1⟩ := args2 hs hr
   obtain rfl := repP_lit r1
   rw [<- encZs_L, <- encZs_L] at r0
   have r0 : RepP w S (vw ps D notes) v0 := r0
   have r0' := r0
   cases r0 with
   | adr es i j b o k V hi hj hV hrow =>
    obtain ⟨hk, hcells⟩ := hrow 0 (by simp)
    obtain ⟨pv, m1, m2, hV0, u0, u1, u2⟩ := agg3 (hV 0 (by simp))
    rw [hV0] at hk hcells
    obtain ⟨hS0, u, e1, e2, e3⟩ := hcells 0 hj
    have : u = pv := by
     have e1' : some pv = some u := e1
     exact (Option.some.inj e1').symm
    subst this
    simp only [Nat.zero_mul, Nat.add_zero] at hS0 e3 r0' ⊢
    refine (sizes_walk hΓ h hc w hbw S hlt b o r0' _ (hlt _ _ hS0) e3 u0).mono ?_
    rintro e w' ⟨v, S', rfl, q1, q2, q3, q4, q5⟩
    refine ⟨_, S', rfl, q1, q2, q3, q4, _, rfl, rfl, fun i hi => ?_, fun i j hi hj h1 => ?_⟩
    ·simp only [List.length_cons, List.length_nil] at hi
     rcases i with _ | _ | i
     ·exact q5
     ·exact .lit _
     ·omega
    ·simp only [List.length_cons, List.length_nil] at hi
     rcases i with _ | _ | i
     ·cases h1
     ·cases h1
     ·omega
  ·cases hK
 ·cases hK
end
end Go.Ev

namespace Go.Ev
open Go Go.RowKit Go.Proofs Go.ChangeShapes Go.WideShapes
open Go.Proofs.YthgolelddficaaaGreatDoor
abbrev laid5 : List (String × DataW Unit) := [("math/bits.deBruijn32tab", Rows.laid_math_bits_deBruijn32tab), ("math/bits.deBruijn64tab", Rows.laid_math_bits_deBruijn64tab), ("internal/strconv.uint64pow10", Rows.laid_internal_strconv_uint64pow10), ("strconv.ErrRange", Rows.laid_strconv_ErrRange), ("strconv.ErrSyntax", Rows.laid_strconv_ErrSyntax)]
theorem ownK : ownKnob Tryz.prog.godebug = none := by kernel_rfl
theorem door_met (os : Os) (args : Array Value) : laidMetH Tryz.prog laid5 ((World.doorLaid Tryz.prog 62 os).forCall (fun _ _ => 0) ⟨#[], args, []⟩).memory :=
 laidMetH_of_parts3 (fuel := 8) (laidMet_of_run' 8 (by kernel_rfl) (by kernel_rfl)) (by kernel_rfl) (by kernel_rfl)
theorem tab_of_laid {W : World} (h : laidMetH Tryz.prog laid5 W) : Tab W := by
 rw [MakeChecks.laidMetH_plain _ _ _ (by kernel_rfl)] at h
 obtain ⟨ps, ⟨g0, t0, cs0, f0, p0, q0, hg0, ht0, hv0, hd0, ⟨g1, t1, cs1, f1, p1, q1, hg1, ht1, hv1, hd1, ⟨g2, t2, cs2, f2, p2, q2, hg2, ht2, hv2, hd2, _⟩, _⟩, _⟩, _, _⟩ := h
 have e : (Rows.laid_internal_strconv_uint64pow10 : DataW Unit) = Lib.tabData .u64 Lib.pow10Tab := rfl
 rw [e] at hd2
 have hn : Tryz.prog.globalNamed "internal/strconv.uint64pow10" = some 2 := by kernel_rfl
 obtain rfl := Option.some.inj (hn.symm.trans hg2)
 obtain rfl := Option.some.inj ((show (Tryz.prog.globals[2]?).map (·.type) = some 286 by kernel_rfl).symm.trans ht2)
 have hc := Lib.cells_of_tab (n := 20) Tryz.underlying286 Tryz.underlying173 (by kernel_rfl) (by kernel_rfl) hd2
 intro w hb
 have hv : W.var? Tryz.prog "internal/strconv.uint64pow10" = some (Lib.pow10Tab.map fun z => Value.int .u64 z).toArray := by rw [hv2, <- hc]
 unfold Lib.TabIs
 rw [<- hv]
 unfold World.var?
 rw [hn]
 simp only [Option.bind_some]
 have hlt : 2 < W.heap.size := by
  rcases Nat.lt_or_ge 2 W.heap.size with h | h
  ·exact h
  ·unfold World.var? at hv
   rw [hn] at hv
   simp only [Option.bind_some, Array.getElem?_eq_none h] at hv
   cases hv
 rw [hb.block 2 hlt]
def A8 (cs : List Value) : Prop := ∀ x, x ∈ cs -> ∃ n, x = .int .i8 n /\ -128 <= n /\ n <= 127
theorem a8_chunks {cs : List Value} {n m : Nat} (hm : 0 < m) (hl : cs.length = n * m) (h : ∀ i, i < n -> A8 ((cs.drop (i * m)).take m)) : A8 cs := fun x hx => by
 obtain ⟨j, hj, rfl⟩ := List.getElem_of_mem hx
 have hd : j / m < n := by rw [Nat.div_lt_iff_lt_mul hm]; omega
 refine h (j / m) hd _ ?_
 have h1 := Nat.div_add_mod j m
 have h2 := Nat.mod_lt j hm
 rw [Nat.mul_comm] at h1
 have h3 : j % m < ((cs.drop (j / m * m)).take m).length := by
  rw [List.length_take, List.length_drop]
  have : j / m * m + m <= cs.length := by
   rw [hl]
   have := Nat.mul_le_mul_right m (show j / m + 1 <= n by omega)
   rw [Nat.add_mul] at this
   omega
  omega
 have : ((cs.drop (j / m * m)).take m)[j % m] = cs[j] := by
  rw [List.getElem_take, List.getElem_drop]
  congr 1
 rw [<- this]
 exact List.getElem_mem h3
section
variable {H : Type} {enc : TypeId × Value -> H} {w : World} {base : Nat} {spare : Nat -> Bool} {held : Bool}
set_option maxRecDepth 100000
theorem a8_one {fuel : Nat} {cs : List Value} {x : DataW H × List MemPlace} (h : DataW.trod enc Tryz.prog w base spare held fuel 22 cs = some x) : A8 cs := by
 obtain ⟨n, rfl, _, hw⟩ := DataW.trod_int Tryz.underlying22 h
 intro y hy
 simp only [List.mem_singleton] at hy
 exact ⟨n, hy, bounds_i8 hw⟩
theorem a8_three {fuel : Nat} {cs : List Value} {x : DataW H × List MemPlace} (h : DataW.trod enc Tryz.prog w base spare held fuel 23 cs = some x) : A8 cs := by
 obtain ⟨xs, m, _, _, hl, hx, hi⟩ := DataW.trod_array Tryz.underlying23 h
 have hl : cs.length = 3 := hl.trans (by kernel_rfl)
 have h1 : Tryz.prog.cellsOf 22 = 1 := by kernel_rfl
 refine a8_chunks (n := 3) (m := 1) (by omega) hl fun i hi' => ?_
 have := hi i hi'
 rw [h1, List.getElem?_eq_getElem (by omega)] at this
 exact a8_one this
theorem a8_all {fuel : Nat} {cs : List Value} {x : DataW H × List MemPlace} (h : DataW.trod enc Tryz.prog w base spare held fuel 24 cs = some x) : A8 cs /\ cs.length = 24 := by
 obtain ⟨xs, m, _, _, hl, hx, hi⟩ := DataW.trod_array Tryz.underlying24 h
 have hl : cs.length = 24 := hl.trans (by kernel_rfl)
 have h1 : Tryz.prog.cellsOf 23 = 3 := by kernel_rfl
 refine ⟨a8_chunks (n := 8) (m := 3) (by omega) hl fun i hi' => ?_, hl⟩
 have := hi i hi'
 rw [h1, List.getElem?_eq_getElem (by omega)] at this
 exact a8_three this
theorem world_open {r : Reach} {b0 : Nat} {v : Value} {d : DataW H} {p : List MemPlace} (hv : Value.okWide Tryz.prog w r b0 26 v) (h : DataW.Trod enc Tryz.prog w base spare held 26 v d p) :
  ∃ (th : Bool) (kd nm : Int) (ns : List Int), v = .agg (.bool th :: .int .u8 kd :: .int .u8 nm :: ns.map (.int .i8)).toArray /\ 0 <= kd /\ 0 <= nm /\ ns.length = 24 /\ ∀ n, n ∈ ns -> -128 <= n /\ n <= 127 := by
 obtain ⟨cs, rfl, hsz⟩ := okWide_struct Tryz.underlying26 hv
 obtain ⟨fuel, hf⟩ := h
 obtain ⟨y0, y1, y2, y3, n, hx, hl, h0, h1, h2, h3⟩ := Joins.trod_struct4 Tryz.underlying26 hf
 have hl : cs.toList.length = 27 := hl.trans (by kernel_rfl)
 have hcs : (Value.agg cs).cells = cs := rfl
 rw [hcs] at h0 h1 h2 h3
 have c4 : Tryz.prog.cellsOf 4 = 1 := by kernel_rfl
 have c5 : Tryz.prog.cellsOf 5 = 1 := by kernel_rfl
 have c24 : Tryz.prog.cellsOf 24 = 24 := by kernel_rfl
 obtain ⟨th, e0, _⟩ := DataW.trod_bool Tryz.underlying4 h0
 obtain ⟨kd, e1, _, w1⟩ := DataW.trod_int Tryz.underlying5 h1
 obtain ⟨nm, e2, _, w2⟩ := DataW.trod_int Tryz.underlying5 h2
 obtain ⟨ha, _⟩ := a8_all h3
 simp only [c4, c5, c24] at e0 e1 e2 ha
 obtain ⟨l⟩ := cs
 simp only at hl e0 e1 e2 ha
 match l, hl with
 | a :: b :: c :: r, hl =>
  have hr : r.length = 24 := by simpa using hl
  simp only [List.drop_zero, List.take_succ_cons, List.take_zero, List.cons.injEq, and_true, List.drop_succ_cons] at e0 e1 e2
  subst e0; subst e1; subst e2
  have ha : A8 r := by
   have e : (r.take 24) = r := List.take_of_length_le (by omega)
   simpa [e] using ha
  refine ⟨th, kd, nm, r.map (fun x => match x with | .int _ n => n | _ => 0), ?_, by have := bounds_u8 w1; omega, by have := bounds_u8 w2; omega, by simpa using hr, fun n hn => ?_⟩
  ·congr 1
   congr 1
   congr 3
   rw [List.map_map]
   refine ((List.map_congr_left (g := id) fun x hx => ?_).trans (List.map_id r)).symm
   obtain ⟨m, rfl, _⟩ := ha x hx
   rfl
  ·obtain ⟨x, hx, rfl⟩ := List.mem_map.1 hn
   obtain ⟨m, rfl, h1⟩ := ha x hx
   exact h1
end
end Go.Ev

namespace Go.Ev
open Go Go.RowKit
section
variable {ps : List Int} {D : Nat} {notes : List (List Int)}
end
end Go.Ev

namespace Go.Ev
open Go Go.RowKit
section
variable {ps : List Int} {D : Nat} {notes : List (List Int)}
end
end Go.Ev

namespace Go.Ev
open Go Go.RowKit
section
variable {ps : List Int} {D : Nat} {notes : List (List Int)}
theorem l51 (h : Sc ps D notes) {c : Nat} (hc : c <= notes.length) (K0 : Int -> Bool) (K1 : List PVal -> List PVal -> List PVal -> Int -> Bool) :
  Q51 (encPs ps) (encZs D notes) (c : Int) K0 K1 = K1 (encPs ps) (encZs D notes) (encZs D (notes2 notes)) 0 := by
 rw [Q51_def]; unfold G51
 rw [l54 h]
 simp only [bne_self_eq_false, cond_false, encZs_len]
 rw [decide_eq_false (show ¬ ((c : Int) < 0) by omega), decide_eq_false (show ¬ ((c : Int) > nI notes.length) by simp only [nI]; omega), cond_false, cond_false]
theorem l23 (h : Sc ps D notes) {c : Nat} (hc : c <= notes.length) (K : List PVal -> Int -> Bool) : Q23 (encPs ps) (encZs D notes) (c : Int) K = K (encZs D (sizesZ ps notes c)) 0 := by
 rw [Q23_def]; unfold G23
 rw [l51 h hc]
 simp only [bne_self_eq_false, cond_false]
 rw [l52 h hc]
theorem dif_shift (h : Sc ps D notes) {c i : Nat} (hi : i <= 2 * notes.length) (hc : i + c <= 2 * notes.length) : dif notes c (i + notes.length) = dif notes c i := by
 unfold dif
 rw [show i + notes.length + c = (i + c) + notes.length by omega, noteZ_shift h, noteZ_shift h, zsub_zadd h.psok (noteZ_ok h hc).1 (noteZ_ok h hi).1 (last_vec h).1]
theorem zsub_inv (hps : PsOk ps) {a b p : List Int} (la : a.length = ps.length) (lb : b.length = ps.length) (lp : p.length = ps.length) : zsub p (zsub (zadd a p) b) = zsub b a /\ zsub (zadd a p) b = zsub p (zsub b a) := by
 rcases hps with rfl | rfl
 ·obtain ⟨x, y, rfl⟩ := two_of la
  obtain ⟨x', y', rfl⟩ := two_of lb
  obtain ⟨x'', y'', rfl⟩ := two_of lp
  simp [zsub, zadd]; omega
 ·obtain ⟨x, y, w, rfl⟩ := three_of la
  obtain ⟨x', y', w', rfl⟩ := three_of lb
  obtain ⟨x'', y'', w'', rfl⟩ := three_of lp
  simp [zsub, zadd]; omega
def perZ (notes : List (List Int)) : List Int := notes.getD (notes.length - 1) []
theorem inv_sizes (h : Sc ps D notes) {d : Nat} (hd : d <= notes.length) : sizesZ ps notes (notes.length - d) = (sizesZ ps notes d).reverse.map (zsub (perZ notes)) := by
 have hp := last_vec h
 have hs1 := sizesZ_sorted h (c := notes.length - d) (by omega)
 have hs2 := sizesZ_sorted h hd
 refine sorted_unique (f := phi ps) _ _ hs1 ?_ ?_
 ·rw [List.pairwise_map, List.pairwise_reverse]
  refine List.Pairwise.imp_of_mem (fun {a b} ha hb hab => ?_) hs2
  unfold perZ
  rw [phi_sub h.psok hp.1 (sizesZ_ok h hd a ha).1, phi_sub h.psok hp.1 (sizesZ_ok h hd b hb).1]
  omega
 ·intro z
  rw [sizesZ_mem]
  constructor
  ·intro hz
   obtain ⟨i, hi, rfl⟩ := List.mem_map.1 hz
   have hi := List.mem_range.1 hi
   have key : dif notes (notes.length - d) i = zsub (perZ notes) (dif notes d (i + (notes.length - d))) := by
    unfold dif perZ
    rw [show i + (notes.length - d) + d = i + notes.length by omega, noteZ_shift h]
    exact (zsub_inv h.psok (noteZ_ok h (by omega)).1 (noteZ_ok h (by omega)).1 hp.1).1.symm
   rw [key]
   refine List.mem_map.2 ⟨_, List.mem_reverse.2 ((sizesZ_mem _ _).2 ?_), rfl⟩
   by_cases hlt : i + (notes.length - d) < notes.length
   ·exact List.mem_map.2 ⟨_, List.mem_range.2 hlt, rfl⟩
   ·obtain ⟨j, hj⟩ : ∃ j, i + (notes.length - d) = j + notes.length := ⟨i - d, by omega⟩
    rw [hj, dif_shift h (by omega) (by omega)]
    exact List.mem_map.2 ⟨_, List.mem_range.2 (by omega), rfl⟩
  ·intro hz
   obtain ⟨x, hx, rfl⟩ := List.mem_map.1 hz
   obtain ⟨j, hj, rfl⟩ := List.mem_map.1 ((sizesZ_mem _ _).1 (List.mem_reverse.1 hx))
   have hj := List.mem_range.1 hj
   have key : zsub (perZ notes) (dif notes d j) = dif notes (notes.length - d) (j + d) := by
    unfold dif perZ
    rw [show j + d + (notes.length - d) = j + notes.length by omega, noteZ_shift h]
    exact (zsub_inv h.psok (noteZ_ok h (by omega)).1 (noteZ_ok h (by omega)).1 hp.1).2.symm
   rw [key]
   by_cases hlt : j + d < notes.length
   ·exact List.mem_map.2 ⟨_, List.mem_range.2 hlt, rfl⟩
   ·obtain ⟨i, hi⟩ : ∃ i, j + d = i + notes.length := ⟨j + d - notes.length, by omega⟩
    rw [hi, dif_shift h (by omega) (by omega)]
    exact List.mem_map.2 ⟨_, List.mem_range.2 (by omega), rfl⟩
theorem inverts (h : Sc ps D notes) {a1 : Int} (ha : 0 <= a1 /\ a1 <= 255) (K : Bool -> Bool) :
  (bif ((wI ((nI (encZs D notes).length) + 1)) == 0) then false else (Q23 (encPs ps) (encZs D notes) (Int.tmod (wI (a1)) (wI ((nI (encZs D notes).length) + 1))) (fun z4v z5v => (Q23 (encPs ps) (encZs D notes) (wI ((nI (encZs D notes).length) - (Int.tmod (wI (a1)) (wI ((nI (encZs D notes).length) + 1))))) (fun z6v z7v => (bif (z5v != 0) then (K false) else (bif (z7v != 0) then (K false) else (bif ((nI z4v.length) != (nI z6v.length)) then (K false) else (L6_0_0 (fun y17v => (K y17v)) ((K true)) fuel (nI (encZs D notes).length) z4v z6v 0 (encPs ps) (encZs D notes)))))))))) = K true := by
 have hle := h.len
 have hne := h.ne
 rw [encZs_len]
 have hw : wI ((nI notes.length) + 1) = ((notes.length + 1 : Nat) : Int) := by
  show wI ((notes.length : Int) + 1) = _
  rw [wI_eq (by omega)]; omega
 have hwa : wI a1 = ((a1.toNat : Nat) : Int) := by rw [wI_eq (by omega)]; omega
 have ht : Int.tmod (wI a1) (wI ((nI notes.length) + 1)) = ((a1.toNat % (notes.length + 1) : Nat) : Int) := by
  rw [hw, hwa]; exact (Int.ofNat_tmod _ _).symm
 have hdlt := Nat.mod_lt a1.toNat (show 0 < notes.length + 1 by omega)
 rw [ht]
 generalize a1.toNat % (notes.length + 1) = d at hdlt
 have hw2 : wI ((nI notes.length) - ((d : Nat) : Int)) = ((notes.length - d : Nat) : Int) := by
  show wI ((notes.length : Int) - _) = _
  rw [wI_eq (by omega)]; omega
 have e0 : ((wI ((nI notes.length) + 1)) == 0) = false := by rw [hw]; exact beq_eq_false_iff_ne.2 (by omega)
 have hinv := inv_sizes h (d := d) (by omega)
 have hlen : (sizesZ ps notes (notes.length - d)).length = (sizesZ ps notes d).length := by rw [hinv]; simp
 have hl1 := sizesZ_len (ps := ps) (notes := notes) d
 rw [e0, cond_false, l23 h (by omega), hw2, l23 h (by omega)]
 simp only [bne_self_eq_false, cond_false, encZs_len, hlen]
 have hwk : wI ((nI notes.length) - 1) = ((notes.length - 1 : Nat) : Int) := by
  show wI ((notes.length : Int) - 1) = _
  rw [wI_eq (by omega)]; omega
 have hwl : ∀ i, i < (sizesZ ps notes d).length -> wI ((wI ((nI (sizesZ ps notes d).length) - 1)) - (i : Int)) = (((sizesZ ps notes d).length - 1 - i : Nat) : Int) := by
  intro i hi
  have : wI ((nI (sizesZ ps notes d).length) - 1) = (((sizesZ ps notes d).length - 1 : Nat) : Int) := by
   show wI (((sizesZ ps notes d).length : Int) - 1) = _
   rw [wI_eq (by omega)]; omega
  rw [this, wI_eq (by omega)]; omega
 have hp := last_vec h
 have key := loop_iter (fun n (i : Nat) => LP6_0 (fun y17v => (K y17v)) ((K true)) n (nI notes.length) (encZs D (sizesZ ps notes d)) (encZs D (sizesZ ps notes (notes.length - d))) (i : Int) (encPs ps) (encZs D notes)) (sizesZ ps notes d).length (fun i => i)
  (R := K true) (fun i hi n => ?_) (fun n => ?_) fuel (fuel_gt (by omega))
 ·exact key
 ·have g1 := get_encZs (D := D) (l := notes) (i := notes.length - 1) (by omega)
  have g2 := get_encZs (D := D) (l := sizesZ ps notes d) (i := (sizesZ ps notes d).length - 1 - i) (by omega)
  have g3 := get_encZs (D := D) (l := sizesZ ps notes (notes.length - d)) (i := i) (by omega)
  have o2 := sizesZ_ok h (by omega) _ (getD_mem (l := sizesZ ps notes d) (i := (sizesZ ps notes d).length - 1 - i) (by omega))
  have e3 : (sizesZ ps notes (notes.length - d)).getD i [] = zsub (perZ notes) ((sizesZ ps notes d).getD ((sizesZ ps notes d).length - 1 - i) []) := by
   rw [hinv, List.getD_eq_getElem?_getD, List.getElem?_map, List.getElem?_reverse (by omega), List.getD_eq_getElem?_getD, List.getElem?_eq_getElem (by omega)]
   rfl
  simp only [LP6_0, St6_0_0, encZs_len, lt_nI hi, cond_true, hwk, hwl i hi, ge0, gd_true, Int.toNat_natCast, g1, g2, g3, oOpt, oSl]
  rw [l16z h.psok h.dok hp.1 o2.1 (hp.2.mono (by omega)) (o2.2.mono (by omega))]
  simp only [bne_self_eq_false, cond_false]
  have lz : (zsub (notes.getD (notes.length - 1) []) ((sizesZ ps notes d).getD ((sizesZ ps notes d).length - 1 - i) [])).length = ps.length := by rw [zsub_len (by rw [hp.1, o2.1]), hp.1]
  have lS : ZS 7000 (zsub (notes.getD (notes.length - 1) []) ((sizesZ ps notes d).getD ((sizesZ ps notes d).length - 1 - i) [])) := hp.2.sub o2.2
  rw [e3]
  unfold perZ
  rw [l24z h.psok h.dok lz lz (lS.mono (by omega)) (lS.mono (by omega)), decide_eq_true rfl]
  simp only [Bool.not_true, cond_false]
  rw [wI_succ (by omega)]
 ·simp only [LP6_0, St6_0_0, encZs_len, lt_nI', cond_false]
end
theorem l6 (th : Bool) {kd nm : Int} {n0 n1 n2 n3 n4 n5 n6 n7 n8 n9 n10 n11 n12 n13 n14 n15 n16 n17 n18 n19 n20 n21 n22 n23 : Int} (hk : 0 <= kd) (hn : 0 <= nm) (h : ∀ i, i < 8 -> (-128 <= (sAt n0 n1 n2 n3 n4 n5 n6 n7 n8 n9 n10 n11 n12 n13 n14 n15 n16 n17 n18 n19 n20 n21 n22 n23 i).1 /\ (sAt n0 n1 n2 n3 n4 n5 n6 n7 n8 n9 n10 n11 n12 n13 n14 n15 n16 n17 n18 n19 n20 n21 n22 n23 i).1 <= 127) /\ (-128 <= (sAt n0 n1 n2 n3 n4 n5 n6 n7 n8 n9 n10 n11 n12 n13 n14 n15 n16 n17 n18 n19 n20 n21 n22 n23 i).2.1 /\ (sAt n0 n1 n2 n3 n4 n5 n6 n7 n8 n9 n10 n11 n12 n13 n14 n15 n16 n17 n18 n19 n20 n21 n22 n23 i).2.1 <= 127) /\ (-128 <= (sAt n0 n1 n2 n3 n4 n5 n6 n7 n8 n9 n10 n11 n12 n13 n14 n15 n16 n17 n18 n19 n20 n21 n22 n23 i).2.2 /\ (sAt n0 n1 n2 n3 n4 n5 n6 n7 n8 n9 n10 n11 n12 n13 n14 n15 n16 n17 n18 n19 n20 n21 n22 n23 i).2.2 <= 127)) {x : Int} (hx : 0 <= x /\ x <= 255) (K : Bool -> Bool) :
  Q6 th kd nm n0 n1 n2 n3 n4 n5 n6 n7 n8 n9 n10 n11 n12 n13 n14 n15 n16 n17 n18 n19 n20 n21 n22 n23 x K = K true := by
 obtain ⟨D, notes, hs, h12⟩ := l12 th hk hn h
 rw [Q6_def]; unfold G6
 rw [l11]
 simp only [Bool.not_true, cond_false]
 rw [h12]
 exact inverts hs hx K
end Go.Ev
