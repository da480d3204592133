/- Contracts of functions that the machine does not compute. Their conditions stand in each -/
import Derived.Lib.AppendIntMem
import Derived.Shelf.Strconv.Itoa3
import Derived.Lib.ConvBytes
import Derived.Lib.Hide
import Derived.Lib.Strings
import Derived.Laws.Strings3
import Derived.Laws.Closers25
import Derived.Laws.Closers25b
import Derived.RangeFuncNested
import Derived.RangeFuncBound
import Derived.RangeFuncCalls
import Derived.RangeFuncBox
import Derived.RangeFuncLeaves
import Derived.Shelf.Abstract
import Derived.Shelf.RegionOpen
import Derived.WalkKit
import Derived.OwnWalkIn
import Derived.TacticsInMore
import Derived.LoopNIn
import Derived.LoopIn
import Derived.StillTailTactics
import Derived.Test.YthgolelddficaaaGreatDoorXa1
import Derived.Test.YthgolelddficaaaGreatDoorXs
set_option linter.unusedVariables false
set_option linter.unusedSimpArgs false
namespace Go.Ev
open Go Go.RowKit Go.Proofs
theorem repP_lit {w : World} {S : PSet} {v u : Value} (h : RepP w S (.lit v) u) : u = v := by cases h; rfl
theorem pure_lits {P : Program} {W0 : World} {f : Nat} {l : List Value} {v : Value} (he : Enters' P f)
  (h : ∀ w : World, Below W0.heap.size W0 w -> Calls P f l.toArray w fun e w' => e = .returned v /\ Below w.heap.size w w') : Pure P W0 f (l.map .lit) (.one (.p (.lit v))) := by
 refine ⟨he, fun w S vs hb hlt hs hr => ?_⟩
 have hvs : vs = l.toArray := by
  apply Array.ext
  ·simpa using hs
  ·intro i h1 h2
   have hi : i < (l.map PVal.lit).length := by rw [<- hs]; exact h1
   have := hr i hi
   simp only [List.getElem_map] at this
   have := repP_lit this
   simpa using this
 subst hvs
 refine (h w hb).mono ?_
 rintro e w' ⟨rfl, hbw⟩
 exact ⟨v, S, rfl, hbw, fun _ _ h => h, fun _ _ h => .inl h, fun b o h => Nat.lt_of_lt_of_le (hlt b o h) hbw.size, .lit v⟩
theorem pure_lit2 {P : Program} {W0 : World} {f : Nat} {l : List Value} {v u : Value} (he : Enters' P f)
  (h : ∀ w : World, Below W0.heap.size W0 w -> Calls P f l.toArray w fun e w' => e = .returned (.tuple #[v, u]) /\ Below w.heap.size w w') : Pure P W0 f (l.map .lit) (.tup [.p (.lit v), .p (.lit u)]) := by
 refine ⟨he, fun w S vs hb hlt hs hr => ?_⟩
 have hvs : vs = l.toArray := by
  apply Array.ext
  ·simpa using hs
  ·intro i h1 h2
   have hi : i < (l.map PVal.lit).length := by rw [<- hs]; exact h1
   have := hr i hi
   simp only [List.getElem_map] at this
   have := repP_lit this
   simpa using this
 subst hvs
 refine (h w hb).mono ?_
 rintro e w' ⟨rfl, hbw⟩
 refine ⟨_, S, rfl, hbw, fun _ _ h => h, fun _ _ h => .inl h, fun b o h => Nat.lt_of_lt_of_le (hlt b o h) hbw.size, #[v, u], rfl, rfl, fun i hi => ?_, fun i j hi hj h1 => ?_⟩
 ·simp only [List.length_cons, List.length_nil] at hi
  rcases i with _ | _ | i
  ·exact .lit v
  ·exact .lit u
  ·omega
 ·simp only [List.length_cons, List.length_nil] at hi
  rcases i with _ | _ | i
  ·cases h1
  ·cases h1
  ·omega
theorem below_self {w : World} : Below w.heap.size w w := Below.refl _ _
def Tab (W0 : World) : Prop := ∀ w : World, Below W0.heap.size W0 w -> Lib.TabIs Tryz.prog w "internal/strconv.uint64pow10" .u64 Lib.pow10Tab
theorem enters {f : Nat} {fn : Func} (h1 : Tryz.prog.funcs[f]? = some fn) (h2 : (fn.name == "runtime.NumGoroutine") = false) (h3 : fn.body.isNone = false) : Enters' Tryz.prog f := ⟨fn, h1, h2, h3⟩
theorem pure112 {W0 : World} (ht : Tab W0) (n : Int) (K : RRes -> Bool) (h : H112 n (fun z => K (.one (.p (.lit (.string z))))) = true) :
  ∃ r, Pure Tryz.prog W0 112 [.lit (.int .i64 n)] r /\ K r = true := by
 rw [H112_def] at h; unfold D112 at h
 by_cases hn : -9223372036854775808 <= n /\ n <= 9223372036854775807
 ·simp only [hn.1, hn.2, decide_true, Bool.and_self, cond_true] at h
  refine ⟨_, pure_lits (l := [.int .i64 n]) (enters Tryz.func112 (by kernel_rfl) (by kernel_rfl)) fun w hb => ?_, h⟩
  refine (Tryz.strconv_Itoa n hn.1 hn.2 w (ht w hb)).mono ?_
  rintro e w' ⟨rfl, k, os, rfl⟩
  exact ⟨rfl, Lib.below_grow _ _ (Nat.le_refl _) _ _⟩
 ·rcases Decidable.not_and_iff_or_not.1 hn with hn | hn <;> simp [hn] at h
theorem itoaB_list (n : Int) : (itoaB n).data.toList = Lib.itoa n := by simp [itoaB]
theorem numOf_some {s : ByteArray} {n : Int} (h : numOf s = some n) : -1000000000000000000 < n /\ n < 1000000000000000000 /\ s = itoaB n := by
 unfold numOf at h
 split at h
 ·next hx =>
  have := Classical.choose_spec hx
  simp only [Option.some.injEq] at h
  rw [h] at this
  exact this
 ·cases h
theorem digit_toNat {d : Nat} (h : d < 10) : (UInt8.ofNat (48 + d)).toNat = 48 + d := by simp; omega
theorem parse_step {v d : Nat} (hd : d < 10) (hv : v * 10 + d < 1000000000000000000) : ∀ (l : List UInt8) (acc : Nat), Lib.parseUint10 acc l = .ok v -> Lib.parseUint10 acc (l ++ [UInt8.ofNat (48 + d)]) = .ok (v * 10 + d)
 | [], acc, h => by
  simp only [Lib.parseUint10, Lib.NumEnd.ok.injEq] at h
  subst h
  have := digit_toNat hd
  simp only [List.nil_append, Lib.parseUint10, this]
  rw [if_pos (by omega), if_neg (by omega), if_neg (by omega)]
  congr 2; omega
 | c :: r, acc, h => by
  simp only [Lib.parseUint10, List.cons_append] at h ⊢
  split at h
  ·next h1 =>
   rw [if_pos h1]
   split at h
   ·cases h
   ·next h2 =>
    rw [if_neg h2]
    split at h
    ·cases h
    ·next h3 => rw [if_neg h3]; exact parse_step hd hv r _ h
  ·cases h
theorem parse_digits : ∀ (u : Nat), u < 1000000000000000000 -> Lib.parseUint10 0 (Lib.decDigits u) = .ok u := by
 intro u
 induction u using Nat.strongRecOn with
 | _ u ih =>
  intro hu
  rw [Lib.decDigits]
  split
  ·next h =>
   have := parse_step (v := 0) (d := u) h (by omega) [] 0 rfl
   simpa using this
  ·next h =>
   have := parse_step (v := u / 10) (d := u % 10) (Nat.mod_lt _ (by decide)) (by omega) _ 0 (ih (u / 10) (by omega) (by omega))
   rw [this]
   congr 1; omega
theorem decDigits_ne (u : Nat) : Lib.decDigits u ≠ [] := by
 rw [Lib.decDigits]
 split <;> simp
theorem decDigits_dig : ∀ (u : Nat) (c : UInt8), c ∈ Lib.decDigits u -> 48 <= c.toNat /\ c.toNat <= 57 := by
 intro u
 induction u using Nat.strongRecOn with
 | _ u ih =>
  intro c hc
  rw [Lib.decDigits] at hc
  split at hc
  ·next h =>
   simp only [List.mem_singleton] at hc
   subst hc
   rw [digit_toNat h]; omega
  ·next h =>
   simp only [List.mem_append, List.mem_singleton] at hc
   rcases hc with hc | rfl
   ·exact ih (u / 10) (by omega) c hc
   ·rw [digit_toNat (Nat.mod_lt _ (by decide))]
    have : u % 10 < 10 := Nat.mod_lt _ (by decide)
    omega
theorem atoiAll_itoa {n : Int} (h1 : -1000000000000000000 < n) (h2 : n < 1000000000000000000) : Lib.atoiAll (Lib.itoa n) = .ok n := by
 unfold Lib.itoa
 split
 ·next hn =>
  rw [Lib.atoiAll_minus, Lib.parseMag, if_neg (decDigits_ne _), parse_digits _ (by omega)]
  simp only [Lib.signed]
  rw [if_neg (by omega)]
  congr 1; omega
 ·next hn =>
  cases hd : Lib.decDigits n.toNat with
  | nil => exact absurd hd (decDigits_ne _)
  | cons c r =>
   have hc := decDigits_dig n.toNat c (by rw [hd]; simp)
   rw [Lib.atoiAll_plain c r (by omega) (by omega), <- hd, Lib.parseMag, if_neg (decDigits_ne _), parse_digits _ (by omega)]
   simp only [Lib.signless]
   rw [if_neg (by omega)]
   congr 1; omega
theorem decDigits_len : ∀ (k u : Nat), 0 < k -> u < 10 ^ k -> (Lib.decDigits u).length <= k := by
 intro k
 induction k with
 | zero => intro u h; omega
 | succ k ih =>
  intro u _ hu
  rw [Lib.decDigits]
  split
  ·simp
  ·next h =>
   rw [List.length_append]
   rcases Nat.eq_zero_or_pos k with rfl | hk
   ·simp at hu; omega
   ·have := ih (u / 10) hk (by rw [Nat.pow_succ] at hu; omega)
    simp; omega
theorem itoaB_size {n : Int} (h1 : -1000000000000000000 < n) (h2 : n < 1000000000000000000) : (itoaB n).size <= 19 := by
 have : (itoaB n).size = (Lib.itoa n).length := by simp [itoaB, ByteArray.size]
 rw [this]
 unfold Lib.itoa
 split
 ·have := decDigits_len 18 n.natAbs (by omega) (by omega)
  simp; omega
 ·have := decDigits_len 18 n.toNat (by omega) (by omega)
  omega
theorem itoaB_inj {n m : Int} (h1 : -1000000000000000000 < n) (h2 : n < 1000000000000000000) (h3 : -1000000000000000000 < m) (h4 : m < 1000000000000000000) (h : itoaB n = itoaB m) : n = m := by
 have := congrArg (fun s : ByteArray => Lib.atoiAll s.data.toList) h
 simp only [itoaB_list, atoiAll_itoa h1 h2, atoiAll_itoa h3 h4, Lib.NumEnd.ok.injEq] at this
 exact this
theorem numOf_itoa {n : Int} (h1 : -1000000000000000000 < n) (h2 : n < 1000000000000000000) : numOf (itoaB n) = some n := by
 unfold numOf
 have hx : ∃ m : Int, -1000000000000000000 < m /\ m < 1000000000000000000 /\ itoaB n = itoaB m := ⟨n, h1, h2, rfl⟩
 rw [dif_pos hx]
 have := Classical.choose_spec hx
 rw [<- itoaB_inj h1 h2 this.1 this.2.1 this.2.2]
theorem H149_num {n : Int} (h1 : -1000000000000000000 < n) (h2 : n < 1000000000000000000) (K : Int -> Bool) : H149 (itoaB n) K = K n := by
 rw [H149_def]; unfold D149; rw [numOf_itoa h1 h2]
theorem pure149 {W0 : World} (s : ByteArray) (K : RRes -> Bool) (h : H149 s (fun z => K (.tup [.p (.lit (.int .i64 z)), .p (.lit .nilIface)])) = true) :
  ∃ r, Pure Tryz.prog W0 149 [.lit (.string s)] r /\ K r = true := by
 rw [H149_def] at h; unfold D149 at h
 split at h
 ·next n hn =>
  obtain ⟨h1, h2, rfl⟩ := numOf_some hn
  refine ⟨_, pure_lit2 (l := [.string (itoaB n)]) (enters Tryz.func149 (by kernel_rfl) (by kernel_rfl)) fun w hb => ?_, h⟩
  refine (Tryz.strconv_Atoi_ok (itoaB n) (Nat.le_trans (itoaB_size h1 h2) (by omega)) n (by rw [itoaB_list]; exact atoiAll_itoa h1 h2) w).mono ?_
  rintro e w' ⟨rfl, rfl | ⟨t, rfl⟩⟩
  ·exact ⟨rfl, below_self⟩
  ·exact ⟨rfl, Lib.bytesWorld_below _ _ _⟩
 ·cases h
theorem parseM_step {v d : Nat} (hd : d < 10) (hv : v * 10 + d < 1000000000000000000) : ∀ (l : List UInt8) (acc : Nat), Lib.parseUintM 18446744073709551615 acc l = .ok v -> Lib.parseUintM 18446744073709551615 acc (l ++ [UInt8.ofNat (48 + d)]) = .ok (v * 10 + d)
 | [], acc, h => by
  simp only [Lib.parseUintM, Lib.NumEnd.ok.injEq] at h
  subst h
  have := digit_toNat hd
  simp only [List.nil_append, Lib.parseUintM, this]
  rw [if_pos (by omega), if_neg (by omega), if_neg (by omega)]
  congr 2; omega
 | c :: r, acc, h => by
  simp only [Lib.parseUintM, List.cons_append] at h ⊢
  split at h
  ·next h1 =>
   rw [if_pos h1]
   split at h
   ·cases h
   ·next h2 =>
    rw [if_neg h2]
    split at h
    ·cases h
    ·next h3 => rw [if_neg h3]; exact parseM_step hd hv r _ h
  ·cases h
theorem parseM_digits : ∀ (u : Nat), u < 1000000000000000000 -> Lib.parseUintM 18446744073709551615 0 (Lib.decDigits u) = .ok u := by
 intro u
 induction u using Nat.strongRecOn with
 | _ u ih =>
  intro hu
  rw [Lib.decDigits]
  split
  ·next h =>
   have := parseM_step (v := 0) (d := u) h (by omega) [] 0 rfl
   simpa using this
  ·next h =>
   have := parseM_step (v := u / 10) (d := u % 10) (Nat.mod_lt _ (by decide)) (by omega) _ 0 (ih (u / 10) (by omega) (by omega))
   rw [this]
   congr 1; omega
theorem parseB_digits (u : Nat) (h : u < 1000000000000000000) : Lib.parseUintB 64 (Lib.decDigits u) = .ok u := by
 have e : (2 : Nat) ^ 64 - 1 = 18446744073709551615 := by decide
 unfold Lib.parseUintB
 rw [if_neg (decDigits_ne _), e, parseM_digits u h]
theorem parseIntB_itoa {n : Int} (h1 : -1000000000000000000 < n) (h2 : n < 1000000000000000000) : Lib.parseIntB 64 (Lib.itoa n) = .ok n := by
 have e : (2 : Nat) ^ (64 - 1) = 9223372036854775808 := by decide
 unfold Lib.itoa
 split
 ·next hn =>
  have e1 : (45 : UInt8).toNat = 45 := rfl
  unfold Lib.parseIntB
  simp only [e1, true_or, or_true, if_true, parseB_digits _ (show n.natAbs < 1000000000000000000 by omega), not_true, false_and, if_false, true_and]
  rw [e, if_neg (by omega)]
  congr 1; omega
 ·next hn =>
  cases hd : Lib.decDigits n.toNat with
  | nil => exact absurd hd (decDigits_ne _)
  | cons c r =>
   have hc := decDigits_dig n.toNat c (by rw [hd]; simp)
   have h43 : ¬ c.toNat = 43 := by omega
   have h45 : ¬ c.toNat = 45 := by omega
   have hp := parseB_digits n.toNat (by omega)
   rw [hd] at hp
   unfold Lib.parseIntB
   simp only [h43, h45, or_self, if_false, hp, not_false_eq_true, true_and, false_and]
   rw [e, if_neg (by omega)]
   congr 1; omega
theorem pure233 {W0 : World} (s : ByteArray) (b c : Int) (K : RRes -> Bool) (h : H233 s b c (fun z => K (.tup [.p (.lit (.int .i64 z)), .p (.lit .nilIface)])) = true) :
  ∃ r, Pure Tryz.prog W0 233 [.lit (.string s), .lit (.int .i64 b), .lit (.int .i64 c)] r /\ K r = true := by
 rw [H233_def] at h; unfold D233 at h
 by_cases hb : b = 10 /\ c = 64
 ·obtain ⟨rfl, rfl⟩ := hb
  simp only [decide_true, Bool.and_self, cond_true] at h
  unfold D149 at h
  split at h
  ·next n hn =>
   obtain ⟨h1, h2, rfl⟩ := numOf_some hn
   refine ⟨_, pure_lit2 (l := [.string (itoaB n), .int .i64 10, .int .i64 64]) (enters Tryz.func233 (by kernel_rfl) (by kernel_rfl)) fun w hb => ?_, h⟩
   refine (Tryz.strconv_ParseInt_10_at64_ok (itoaB n) (Nat.le_trans (itoaB_size h1 h2) (by omega)) n (by rw [itoaB_list]; exact parseIntB_itoa h1 h2) w).mono ?_
   rintro e w' ⟨rfl, rfl | ⟨t, rfl⟩⟩
   ·exact ⟨rfl, below_self⟩
   ·exact ⟨rfl, Lib.bytesWorld_below _ _ _⟩
  ·cases h
 ·rcases Decidable.not_and_iff_or_not.1 hb with hb | hb <;> simp [hb] at h
theorem itoa_nat {n : Int} (h : 0 <= n) : Lib.itoa n = Lib.decDigits n.toNat := by
 unfold Lib.itoa; rw [if_neg (by omega)]
theorem pure246 {W0 : World} (s : ByteArray) (b c : Int) (K : RRes -> Bool) (h : H246 s b c (fun z => K (.tup [.p (.lit (.int .u64 z)), .p (.lit .nilIface)])) = true) :
  ∃ r, Pure Tryz.prog W0 246 [.lit (.string s), .lit (.int .i64 b), .lit (.int .i64 c)] r /\ K r = true := by
 rw [H246_def] at h; unfold D246 at h
 by_cases hb : b = 10 /\ c = 64
 ·obtain ⟨rfl, rfl⟩ := hb
  simp only [decide_true, Bool.and_self, cond_true] at h
  unfold D149 at h
  split at h
  ·next n hn =>
   obtain ⟨h1, h2, rfl⟩ := numOf_some hn
   by_cases h0 : 0 <= n
   ·simp only [h0, decide_true, cond_true] at h
    refine ⟨_, pure_lit2 (l := [.string (itoaB n), .int .i64 10, .int .i64 64]) (v := .int .u64 n) (enters Tryz.func246 (by kernel_rfl) (by kernel_rfl)) fun w hb => ?_, h⟩
    refine (Tryz.strconv_ParseUint_10_at64_ok (itoaB n) (Nat.le_trans (itoaB_size h1 h2) (by omega)) n.toNat (by rw [itoaB_list, itoa_nat h0]; exact parseB_digits _ (by omega)) w).mono ?_
    have hn : ((n.toNat : Nat) : Int) = n := by omega
    rintro e w' ⟨rfl, rfl | rfl⟩
    ·exact ⟨by rw [hn], below_self⟩
    ·exact ⟨by rw [hn], Lib.bytesWorld_below _ _ _⟩
   ·simp [h0] at h
  ·cases h
 ·rcases Decidable.not_and_iff_or_not.1 hb with hb | hb <;> simp [hb] at h
theorem pure99 {W0 : World} (n : Int) (K : RRes -> Bool) (h : H99 n (fun z => K (.one (.p (.lit (.int .i64 z))))) = true) :
  ∃ r, Pure Tryz.prog W0 99 [.lit (.int .u64 n)] r /\ K r = true := by
 rw [H99_def] at h; unfold D99 at h
 by_cases hn : 0 <= n /\ n < 18446744073709551616
 ·simp only [hn.1, hn.2, decide_true, Bool.and_self, cond_true] at h
  refine ⟨_, pure_lits (l := [.int .u64 n]) (enters Tryz.func99 (by kernel_rfl) (by kernel_rfl)) fun w hb => ?_, h⟩
  refine (Tryz.bits_Len n w hn.1 (by omega)).mono ?_
  rintro e w' ⟨rfl, rfl⟩
  exact ⟨rfl, below_self⟩
 ·rcases Decidable.not_and_iff_or_not.1 hn with hn | hn <;> simp [hn] at h
theorem pure235 {W0 : World} (a b : Int) (K : RRes -> Bool) (h : H235 a b (fun x y => K (.tup [.p (.lit (.int .u64 x)), .p (.lit (.int .u64 y))])) = true) :
  ∃ r, Pure Tryz.prog W0 235 [.lit (.int .u64 a), .lit (.int .u64 b)] r /\ K r = true := by
 rw [H235_def] at h; unfold D235 at h
 by_cases hn : (0 <= a /\ a < 18446744073709551616) /\ (0 <= b /\ b < 18446744073709551616)
 ·obtain ⟨⟨h1, h2⟩, h3, h4⟩ := hn
  simp only [h1, h2, h3, h4, decide_true, Bool.and_self, cond_true] at h
  refine ⟨_, pure_lit2 (l := [.int .u64 a, .int .u64 b]) (v := .int .u64 (a * b / 18446744073709551616)) (u := .int .u64 (a * b % 18446744073709551616)) (enters Tryz.func235 (by kernel_rfl) (by kernel_rfl)) fun w hb => ?_, h⟩
  obtain ⟨x, rfl⟩ := Int.eq_ofNat_of_zero_le h1
  obtain ⟨y, rfl⟩ := Int.eq_ofNat_of_zero_le h3
  refine (Tryz.bits_Mul64 x y (by omega) (by omega) w).mono ?_
  rintro e w' ⟨rfl, rfl⟩
  exact ⟨by simp, below_self⟩
 ·exfalso
  revert h
  by_cases h1 : 0 <= a <;> by_cases h2 : a < 18446744073709551616 <;> by_cases h3 : 0 <= b <;> by_cases h4 : b < 18446744073709551616 <;> simp [h1, h2, h3, h4]
  exact absurd ⟨⟨h1, h2⟩, h3, h4⟩ hn
end Go.Ev

namespace Go.Ev
open Go Go.RowKit Go.Proofs Go.Shelf Go.Sort
theorem holds_zero0 (w : World) (T : TypeId) (nd : Nat) (hs : nd <= 24) : Holds (fun (b : UInt8) => Value.int .u8 (b.toNat : Int)) (w.alloc (.cells Lib.zeros24 T)) w.heap.size 0 (Array.replicate nd (0 : UInt8)) := fun j hj => by
 have hj' : j < nd := by simpa using hj
 refine ⟨?_, World.frozen?_alloc_new _ _ _ _⟩
 rw [World.cell?_alloc_new, Lib.zeros24_at _ (by omega), getElem!_pos _ j hj]
 simp
theorem fin_pos0 (w : World) (o : Obj) (dk : Array UInt8) (k : Nat) : ∃ os, ((putRow (fun (b : UInt8) => Value.int .u8 (b.toNat : Int)) (w.alloc o) w.heap.size 0 dk).drewN k) = grow (w.drewN k) os := by
 rw [alloc_eq_grow]
 obtain ⟨os', _, e⟩ := putRow_grow_new (fun (b : UInt8) => Value.int .u8 (b.toNat : Int)) w #[o] w.heap.size 0 dk (Nat.le_refl _)
 exact ⟨os', by rw [e]; rfl⟩
set_option maxHeartbeats 6400000 in
set_option maxRecDepth 100000 in
theorem fmtUint (u : Nat) (hu64 : u < 1000000000000000000) (w : World) (htab : Lib.TabIs Tryz.prog w "internal/strconv.uint64pow10" .u64 Lib.pow10Tab) :
  Calls Tryz.prog 247 #[.int .u64 u, .int .i64 10] w fun e w' => e = .returned (.string ⟨(Lib.decDigits u).toArray⟩) /\ ∃ k os, w' = grow (w.drewN k) os := by
 by_cases hs : u < 100
 ·have hwr : IntKind.i64.wrap (u : Int) = u := by rw [IntKind.wrap_i64]; omega
  go_enter Tryz.func247, Tryz.ntmps247
  go_wp2_with (go_at_call 219; refine (Tryz.internal_strconv_small u hs _).mono ?_; rintro e w' ⟨rfl, rfl⟩)
  go_ret
  exact ⟨rfl, 0, #[], by simp [World.drewN_zero]⟩
 ·have hu1 : 1 <= u := by omega
  have hu64 : u < 18446744073709551616 := by omega
  have hnd20 : Lib.nDigits u <= 20 := by have := Lib.numDigits_eq u hu1 hu64; split at this <;> omega
  have hb3 : Lib.nDigits u <= 23 := by omega
  have hal : Tryz.prog.arrayLen 256 = 24 := by simp [Program.arrayLen, Tryz.underlying256]
  have hsl1 : ∀ W, (Instr.sliceAt 256 (.pointer (some ⟨w.heap.size, 0, none⟩)) none (some (.int .i64 (Lib.nDigits u : Int))) none).run Tryz.prog W = .ok (.slice (some ⟨w.heap.size, 0, none⟩) (Lib.nDigits u) 24) W := fun W => by
   rw [run_sliceAt_array_h W 256 ⟨w.heap.size, 0, none⟩ (by simp [Program.arrayLen, Program.elem, Tryz.underlying256]) .i64 (Lib.nDigits u : Int) (by omega) (by rw [hal]; omega)]
   go_simp
  have hH0 := holds_zero0 w 256 (Lib.nDigits u) (by omega)
  have hfmt := Tryz.internal_strconv_formatBase10 w.heap.size 0 24 u (Array.replicate (Lib.nDigits u) 0) (w.alloc (.cells Lib.zeros24 256)) hH0 (by rw [Array.size_replicate]; exact Lib.lt_pow_nDigits u) hu64 (by rw [Array.size_replicate]; omega)
  rw [Array.size_replicate] at hfmt
  have HH0 := Lib.hid hH0
  clear hH0 hal
  go_enter Tryz.func247, Tryz.ntmps247
  go_wp2_with (first
   | (go_at_call 220; refine (Tryz.internal_strconv_numDigits u hu1 hu64 _ (Lib.tabIs_alloc htab _)).mono ?_; rintro e w' ⟨rfl, rfl⟩))
  go_at_call 221
  refine hfmt.mono ?_
  rintro e w' ⟨rfl, k, v', dk, rfl, hF⟩
  have hcv : (convert 195 9 (.slice (some ⟨w.heap.size, 0, none⟩) (Lib.nDigits u) 24)).run Tryz.prog ((putRow (fun (b : UInt8) => Value.int .u8 (b.toNat : Int)) (w.alloc (.cells Lib.zeros24 256)) w.heap.size 0 dk).drewN k) = .ok (.string ⟨(Lib.decDigits u).toArray⟩) ((putRow (fun (b : UInt8) => Value.int .u8 (b.toNat : Int)) (w.alloc (.cells Lib.zeros24 256)) w.heap.size 0 dk).drewN k) := by
   have h := run_convert_bytes_back (P := Tryz.prog) ((putRow (fun (b : UInt8) => Value.int .u8 (b.toNat : Int)) (w.alloc (.cells Lib.zeros24 256)) w.heap.size 0 dk).drewN k) 195 9 5 ⟨w.heap.size, 0, none⟩ 24 (Lib.decDigits u) Tryz.underlying195 Tryz.underlying5 Tryz.underlying9 (fun j hj => by
    rw [Lib.row_is_numeral hF j hj, Lib.add_plain, World.cell?_drewN]
    exact cell?_putRow (fun (b : UInt8) => Value.int .u8 (b.toNat : Int)) _ w.heap.size 0 _ dk HH0.out (by rw [hF.size, Array.size_replicate]) j (by rw [hF.size]; rw [Lib.decDigits_length] at hj; exact hj))
   rw [Lib.decDigits_length] at h
   exact h
  go_wp2
  go_ret
  obtain ⟨os, eo⟩ := fin_pos0 w (.cells Lib.zeros24 256) dk k
  exact ⟨rfl, k, os, eo⟩
end Go.Ev

namespace Go.Ev
open Go Go.RowKit Go.Proofs Go.Shelf Go.Sort
def canonL : List UInt8 -> Bool
 | [] => false
 | [_] => true
 | a :: _ => !(a == 48)
theorem head_ne {t : ByteArray} (h : 1 < t.size) (h0 : 0 < t.size) : (((t.size : Nat) : Int) == 1 || (((t[0]'h0).toNat : Nat) : Int) != 48) = !(t.data.toList.getD 0 0 == 48) := by
 have e1 : (((t.size : Nat) : Int) == 1) = false := beq_eq_false_iff_ne.2 (by omega)
 have hs : t.data.toList.length = t.size := show t.data.toList.length = t.data.size from Array.length_toList
 have e2 : t.data.toList.getD 0 0 = t[0]'h0 := by
  rw [List.getD_eq_getElem?_getD, List.getElem?_eq_getElem (by omega)]
  rfl
 rw [e1, e2, Bool.false_or]
 generalize t[0]'h0 = x
 by_cases hx : x = 48
 ·subst hx; rfl
 ·have : ¬ x.toNat = 48 := fun e => hx (UInt8.toNat_inj.1 e)
  have a1 : ((x.toNat : Int) != 48) = true := by simp only [bne_iff_ne, ne_eq]; omega
  have a2 : (x == 48) = false := beq_eq_false_iff_ne.2 hx
  rw [a1, a2]; rfl
set_option maxHeartbeats 32000000 in
set_option maxRecDepth 100000 in
theorem canon_any (t : ByteArray) (hmax : t.size <= 1000000) (w : World) :
  Calls Tryz.prog 187 #[.string t] w fun e w' => e = .returned (.bool (canonB t)) /\ w' = Lib.bytesWorld w 5 t := by
 have hcv := Lib.run_convert_string_bytes (P := Tryz.prog) w 76 195 5 t (u := .string) Tryz.underlying76 Tryz.underlying195 Tryz.underlying5
 have hB : ∀ j, j < t.size -> (Lib.bytesWorld w 5 t).cell? ⟨w.heap.size, j, none⟩ = some (.int .u8 (t.data.toList.getD j 0).toNat) := fun j hj => Lib.bytesWorld_cell w 5 t j hj
 obtain ⟨W1, hW1⟩ : ∃ W1, W1 = Lib.bytesWorld w 5 t := ⟨_, rfl⟩
 rw [<- hW1] at hcv hB ⊢
 clear hW1
 have hLn : t.data.toList.length = t.size := show t.data.toList.length = t.data.size from Array.length_toList
 have hcan : canonB t = (t.data.toList.all digB && canonL t.data.toList) := rfl
 go_enter Tryz.func187, Tryz.ntmps187
 go_wp2
 go_loop [8] (fun vi => ∃ (k : Nat), vi = .int .i64 k /\ k <= t.size /\ Hid ((t.data.toList.take k).all digB = true))
  (fun vi => t.size - (intOf vi).toNat)
 case atStart => exact ⟨0, rfl, by omega, rfl⟩
 case round =>
  obtain ⟨k, rfl, hk, hh⟩ := hrel
  have hall := hh.out
  clear hh
  by_cases hkn : k < t.size
  ·have hc := hB k hkn
   have hget : t.data.toList.getD k 0 = t.data.toList[k]'(by omega) := by simp [List.getD, List.getElem?_eq_getElem (show k < t.data.toList.length by omega)]
   have htake : t.data.toList.take (k + 1) = t.data.toList.take k ++ [t.data.toList[k]'(by omega)] := by rw [List.take_add_one, List.getElem?_eq_getElem (show k < t.data.toList.length by omega)]; rfl
   have hmem : t.data.toList[k]'(by omega) ∈ t.data.toList := List.getElem_mem _
   rw [hget] at hc
   generalize t.data.toList[k]'(by omega) = c at hc htake hmem
   have hc256 : c.toNat < 256 := c.toNat_lt
   clear hB hget
   by_cases hdig : 48 <= c.toNat /\ c.toNat <= 57
   ·obtain ⟨hd0, hd1⟩ := hdig
    have HN : Hid ((t.data.toList.take (k + 1)).all digB = true) := Lib.hid (by rw [htake, List.all_append, hall]; simp [digB, hd0, hd1])
    have i0 : ¬ ((c.toNat : Int) < 48) := by omega
    have i1 : ¬ ((57 : Int) < (c.toNat : Int)) := by omega
    clear hall htake hmem hcan
    go_wp2
    exact ⟨⟨k + 1, by simp, by omega, HN⟩, by simp [intOf]; omega⟩
   ·have hF : canonB t = false := by
     rw [hcan]
     have : t.data.toList.all digB = false := by
      rw [List.all_eq_false]
      exact ⟨c, hmem, by simp [digB]; omega⟩
     rw [this]; rfl
    clear hall htake hmem hcan
    go_wp2
    all_goals go_ret
    all_goals exact ⟨by first | rfl | rw [hF], rfl⟩
  ·have hkk : k = t.size := by omega
   subst hkk
   have hF : canonB t = canonL t.data.toList := by
    rw [hcan]
    rw [List.take_of_length_le (by omega)] at hall
    rw [hall]; rfl
   clear hall hB
   by_cases h1 : t.size = 1
   ·have : canonL t.data.toList = true := by
     match h : t.data.toList with
     | [] => rw [h] at hLn; simp at hLn; omega
     | [_] => rfl
     | _ :: _ :: _ => rw [h] at hLn; simp at hLn; omega
    have HF := Lib.hid (hF.trans this)
    clear hF this hcan
    go_wp2
    go_ret
    exact ⟨by rw [HF.out]; rfl, rfl⟩
   ·by_cases h0 : t.size = 0
    ·have : canonL t.data.toList = false := by
      match h : t.data.toList with
      | [] => rfl
      | [_] => rw [h] at hLn; simp at hLn; omega
      | _ :: _ :: _ => rw [h] at hLn; simp at hLn; omega
     have HF := Lib.hid (hF.trans this)
     clear hF this hcan
     go_wp2
     go_ret
     exact ⟨by rw [HF.out]; rfl, rfl⟩
    ·have : canonL t.data.toList = !((t.data.toList.getD 0 0) == 48) := by
      match h : t.data.toList with
      | [] => rw [h] at hLn; simp at hLn; omega
      | [_] => rw [h] at hLn; simp at hLn; omega
      | _ :: _ :: _ => rfl
     have h2 : 1 < t.size := by omega
     have HF := Lib.hid (hF.trans this)
     clear hF this hcan
     go_wp2
     go_ret
     exact ⟨by rw [HF.out, <- head_ne h2 (by omega)]; rfl, rfl⟩
end Go.Ev

namespace Go.Ev
open Go Go.RowKit Go.Proofs
theorem pure187 {W0 : World} (s : ByteArray) (K : RRes -> Bool) (h : H187 s (fun z => K (.one (.p (.lit (.bool z))))) = true) :
  ∃ r, Pure Tryz.prog W0 187 [.lit (.string s)] r /\ K r = true := by
 rw [H187_def] at h; unfold D187 at h
 by_cases hs : s.size <= 1000000
 ·rw [decide_eq_true hs, cond_true] at h
  refine ⟨_, pure_lits (l := [.string s]) (enters Tryz.func187 (by kernel_rfl) (by kernel_rfl)) fun w hb => ?_, h⟩
  refine (canon_any s hs w).mono ?_
  rintro e w' ⟨rfl, rfl⟩
  exact ⟨rfl, Lib.bytesWorld_below _ _ _⟩
 ·rw [decide_eq_false hs, cond_false] at h; cases h
set_option maxRecDepth 100000 in
theorem fmtUint230 (u : Nat) (hu : u < 1000000000000000000) (w : World) (htab : Lib.TabIs Tryz.prog w "internal/strconv.uint64pow10" .u64 Lib.pow10Tab) :
  Calls Tryz.prog 230 #[.int .u64 u, .int .i64 10] w fun e w' => e = .returned (.string ⟨(Lib.decDigits u).toArray⟩) /\ ∃ k os, w' = Go.Sort.grow (w.drewN k) os := by
 go_enter Tryz.func230, Tryz.ntmps230
 go_wp2_with (go_at_call 247; refine (fmtUint u hu _ htab).mono ?_; rintro e w' ⟨rfl, k, os, rfl⟩)
 go_ret
 exact ⟨rfl, k, os, rfl⟩
theorem pure230 {W0 : World} (ht : Tab W0) (n b : Int) (K : RRes -> Bool) (h : H230 n b (fun z => K (.one (.p (.lit (.string z))))) = true) :
  ∃ r, Pure Tryz.prog W0 230 [.lit (.int .u64 n), .lit (.int .i64 b)] r /\ K r = true := by
 rw [H230_def] at h; unfold D230 at h
 by_cases hn : b = 10 /\ 0 <= n /\ n < 1000000000000000000
 ·obtain ⟨rfl, h1, h2⟩ := hn
  simp only [h1, h2, decide_true, Bool.and_self, cond_true] at h
  obtain ⟨u, rfl⟩ := Int.eq_ofNat_of_zero_le h1
  refine ⟨_, pure_lits (l := [.int .u64 (u : Int), .int .i64 10]) (enters Tryz.func230 (by kernel_rfl) (by kernel_rfl)) fun w hb => ?_, h⟩
  refine (fmtUint230 u (by omega) w (ht w hb)).mono ?_
  rintro e w' ⟨rfl, k, os, rfl⟩
  refine ⟨?_, Lib.below_grow _ _ (Nat.le_refl _) _ _⟩
  have : itoaB (u : Int) = ⟨(Lib.decDigits u).toArray⟩ := by
   unfold itoaB
   rw [itoa_nat (by omega)]; rfl
  rw [this]
 ·exfalso
  revert h
  by_cases h1 : b = 10 <;> by_cases h2 : 0 <= n <;> by_cases h3 : n < 1000000000000000000 <;> simp [h1, h2, h3]
  exact absurd ⟨h1, h2, h3⟩ hn
theorem joinL_eq (sep : List UInt8) : ∀ l : List (List UInt8), joinL sep l = Lib.join l sep
 | [] => rfl
 | [_] => by simp [joinL, Lib.join]
 | a :: b :: r => by
  have := joinL_eq sep (b :: r)
  rw [joinL, this]
  ·rw [Lib.join_cons a (b :: r), Lib.join_cons b r]
   unfold Lib.joinTail
   simp
  ·intro h; cases h
theorem strsOf_some : ∀ {l : List PVal} {ss : List (List UInt8)}, strsOf l = some ss -> ∃ xs : List ByteArray, l = xs.map (fun s => .lit (.string s)) /\ ss = xs.map (·.data.toList)
 | [], ss, h => by simp only [strsOf, Option.some.injEq] at h; subst h; exact ⟨[], rfl, rfl⟩
 | p :: r, ss, h => by
  unfold strsOf at h
  split at h
  ·next heq => cases heq
  ·next s r' heq =>
   cases heq
   cases hr : strsOf r with
   | none => rw [hr] at h; cases h
   | some t =>
    rw [hr] at h
    simp only [Option.map_some, Option.some.injEq] at h
    subst h
    obtain ⟨xs, h1, h2⟩ := strsOf_some hr
    exact ⟨s :: xs, by rw [h1]; rfl, by rw [h2]; rfl⟩
  ·cases h
theorem pure116 {W0 : World} (l : List PVal) (sep : ByteArray) (K : RRes -> Bool) (h : H116 l sep (fun z => K (.one (.p (.lit (.string z))))) = true) :
  ∃ r, Pure Tryz.prog W0 116 [.sl l, .lit (.string sep)] r /\ K r = true := by
 rw [H116_def] at h; unfold D116 at h
 split at h
 ·next ss hss =>
  obtain ⟨xs, rfl, rfl⟩ := strsOf_some hss
  rw [joinL_eq] at h
  by_cases hb : (Lib.join (xs.map (·.data.toList)) sep.data.toList).length <= 100000 /\ (xs.map (·.data.toList)).length <= 100000
  ·obtain ⟨b1, b2⟩ := hb
   simp only [b1, b2, decide_true, Bool.and_self, cond_true] at h
   rw [List.length_map] at b2
   refine ⟨_, ⟨enters Tryz.func116 (by kernel_rfl) (by kernel_rfl), fun w S vs hbw hlt hs hr => ?_⟩, h⟩
   have r0 := hr 0 (by simp)
   have r1 := repP_lit (hr 1 (by simp))
   have hvs : vs = #[vs[0]'(by rw [hs]; simp), .string sep] := by
    apply Array.ext
    ·simpa using hs
    ·intro i h1 h2
     simp only [List.size_toArray, List.length_cons, List.length_nil] at h2
     rcases i with _ | _ | i
     ·rfl
     ·exact r1
     ·omega
   rw [hvs]
   generalize vs[0]'(by rw [hs]; simp) = v0 at r0
   have fin : ∀ w', Below w.heap.size w w' -> ∃ v S', (Ending.returned (.string ⟨(Lib.join (xs.map (·.data.toList)) sep.data.toList).toArray⟩)) = .returned v /\ Below w.heap.size w w' /\ (∀ b o, S b o -> S' b o) /\ (∀ b o, S' b o -> S b o ∨ w.heap.size <= b) /\ (∀ b o, S' b o -> b < w'.heap.size) /\ RepR w' S' w.heap.size (.one (.p (.lit (.string ⟨(Lib.join (xs.map (·.data.toList)) sep.data.toList).toArray⟩)))) v :=
    fun w' hb => ⟨_, S, rfl, hb, fun _ _ h => h, fun _ _ h => .inl h, fun b o h => Nat.lt_of_lt_of_le (hlt b o h) hb.size, .lit _⟩
   have r0 : RepP w S (.sl (xs.map fun s => PVal.lit (.string s))) v0 := r0
   by_cases h0 : xs = []
   ·subst h0
    have : ∃ a c, v0 = .slice a 0 c := by
     cases r0 with
     | nil => exact ⟨_, _, rfl⟩
     | sl => exact ⟨_, _, rfl⟩
    obtain ⟨a, c, rfl⟩ := this
    refine (Tryz.strings_Join_none a c sep w).mono ?_
    rintro e w' ⟨rfl, rfl⟩
    exact fin w' below_self
   ·have hpos : 0 < xs.length := List.length_pos_iff.2 h0
    generalize hE : xs.map (fun s => PVal.lit (.string s)) = es at r0
    cases r0 with
    | nil => simp at hE; exact absurd hE h0
    | sl _ b o cap k V hcap hV hrow =>
     have hlen : es.length = xs.length := by rw [<- hE]; simp
     have hVi : ∀ j x, xs[j]? = some x -> V j = .string x := by
      intro j x hx
      obtain ⟨hj, rfl⟩ := List.getElem?_eq_some_iff.1 hx
      have := hV j (by omega)
      have e : es[j]'(by omega) = .lit (.string xs[j]) := by subst hE; simp
      rw [e] at this
      exact repP_lit this
     have hk : k = 1 := by
      have h1 := (hrow 0 (by omega)).1
      rw [hVi 0 xs[0] (List.getElem?_eq_getElem hpos)] at h1
      exact h1.symm
     subst hk
     rw [hlen]
     refine (Tryz.strings_Join b o cap xs sep w (fun j x hx => ?_) ?_ (by omega) (by omega) (by omega)).mono ?_
     ·obtain ⟨hj, _⟩ := List.getElem?_eq_some_iff.1 hx
      obtain ⟨h1, h2⟩ := hrow j (by omega)
      obtain ⟨_, u, h3, _, h5⟩ := h2 0 (by omega)
      rw [hVi j x hx] at h3
      have : u = .string x := by
       have h3' : some (Value.string x) = some u := h3
       exact (Option.some.inj h3').symm
      rw [this] at h5
      simpa using h5
     ·obtain ⟨_, h2⟩ := hrow 0 (by omega)
      exact hlt _ _ (h2 0 (by omega)).1
     ·rintro e w' ⟨rfl, hb⟩
      exact fin w' hb
  ·exfalso
   rw [List.length_map] at hb
   simp at h
   exact hb h.1
 ·cases h
end Go.Ev

namespace Go.Ev
open Go Go.RowKit Go.Proofs Go.Shelf
attribute [local go_sem] Oper.semAt_some
def PF (most : Int) : Type := { p : Int × Int // (p.1 = 2 ∨ p.1 = 3 ∨ p.1 = 5) /\ (-most <= p.2 /\ p.2 <= most) /\ (-10000000 <= p.2 /\ p.2 <= 10000000) }
def uptoF {α : Type} (f : Nat -> α) (k : Nat) : List α := (List.range k).map f
theorem uptoF_succ {α : Type} (f : Nat -> α) (k : Nat) : uptoF f (k + 1) = uptoF f k ++ [f k] := by simp [uptoF, List.range_succ]
theorem uptoF_length {α : Type} (f : Nat -> α) (k : Nat) : (uptoF f k).length = k := by simp [uptoF]
def KP (n₀ Bs : Nat) (W W' : World) : Prop := Below n₀ W W' /\ W'.heap[Bs]? = W.heap[Bs]?
theorem KP.refl (n₀ Bs : Nat) (W : World) : KP n₀ Bs W W := ⟨Below.refl _ _, rfl⟩
theorem KP.trans {n₀ Bs : Nat} {A B C : World} (h : KP n₀ Bs A B) (k : KP n₀ Bs B C) : KP n₀ Bs A C := ⟨h.1.trans k.1, k.2.trans h.2⟩
set_option maxRecDepth 100000 in
set_option maxHeartbeats 2000000 in
theorem all1_in {most : Int} (F : Fence) (n : Nat) (h8 : F.fn 224) (hro : F.round = none) (hn : 1 <= n) (l Bs n₀ bp op cp bf of_ cf len : Nat) (den : ByteArray) (f : Nat -> PF most) (hreach : len <= 1000) (hbp : bp < n₀) (hbf : bf < n₀) (J Jx : List (PF most) -> World -> Prop)
  (hY : ∀ pre x W, J pre W -> pre.length < len -> YieldAt F (n - 1) Tryz.prog l #[.int .i64 x.1.1, .string (itoaB x.1.2)] W fun e W' =>
   (e = .returned (.bool true) /\ J (pre ++ [x]) W' /\ KP n₀ Bs W W') ∨ (e = .returned (.bool false) /\ Jx (pre ++ [x]) W'))
  (W : World) (hB0 : W.cell? ⟨Bs, 0, none⟩ = some (.slice (some ⟨bp, op, none⟩) len cp)) (hB1 : W.cell? ⟨Bs, 1, none⟩ = some (.slice (some ⟨bf, of_, none⟩) len cf))
  (hcp : ∀ j, j < len -> W.cell? ⟨bp, op + j, none⟩ = some (.int .i64 (f j).1.1)) (hcf : ∀ j, j < len -> W.cell? ⟨bf, of_ + j, none⟩ = some (.string (itoaB (f j).1.2))) (h0 : J [] W) :
  CallsIn F n Tryz.prog 224 #[.func (.yield l) #[] #[], .pointer (some ⟨Bs, 0, none⟩)] W fun e W' => (∃ v, e = .returned v) /\
   ((∃ ys, ys = uptoF f len /\ J ys W') ∨ (∃ pre, (∃ k, k <= len /\ pre = uptoF f k) /\ Jx pre W')) := by
 refine callsIn_of_wp Tryz.func224 rfl h8 ?_ hro
 simp only [Tryz.ntmps224, List.size_toArray, List.length_cons, List.length_nil, Nat.reduceAdd, Nat.reduceSub, Array.replicate_succ, Array.replicate_zero, List.push_toArray, List.append_toArray, List.nil_append, List.cons_append]
 gi_wp2
 gi_loopw [8] (fun i wr => ∃ k : Nat, k <= len /\ i = .int .i64 k /\ J (uptoF f k) wr /\ KP n₀ Bs W wr)
  (fun i _ => len - (intOf i).toNat)
 case atStart => exact ⟨0, Nat.zero_le _, rfl, h0, KP.refl _ _ _⟩
 case round =>
  obtain ⟨k, hk, rfl, hJs, hnx⟩ := hrel
  have hcx : k < len -> wr.cell? ⟨bp, op + k, none⟩ = some (.int .i64 (f k).1.1) := fun h => (hnx.1.cell (p := ⟨bp, op + k, none⟩) hbp).trans (hcp k h)
  have hcy : k < len -> wr.cell? ⟨bf, of_ + k, none⟩ = some (.string (itoaB (f k).1.2)) := fun h => (hnx.1.cell (p := ⟨bf, of_ + k, none⟩) hbf).trans (hcf k h)
  have hcb : wr.cell? ⟨Bs, 1, none⟩ = some (.slice (some ⟨bf, of_, none⟩) len cf) := (World.cell?_of_block hnx.2).trans hB1
  by_cases hlt : k < len
  ·obtain ⟨fn, tmps, assign, body, hy, hR⟩ := hY _ (f k) wr hJs (by rw [uptoF_length]; exact hlt)
   have hcx' := hcx hlt
   have hcy' := hcy hlt
   gi_wp2
   refine hR.mono ?_
   rintro e W3 (⟨rfl, hJ3, hk3⟩ | ⟨rfl, hJx3⟩)
   ·gi_wp2
    go_roundw
    case rel => exact ⟨k + 1, by omega, by simp, by rw [uptoF_succ]; exact hJ3, hnx.trans hk3⟩
    case measure => simp [intOf]; omega
   ·gi_wp2
    refine bodyPost_ret (results_none rfl _ _ _) rfl ?_
    exact ⟨⟨_, rfl⟩, .inr ⟨_, ⟨k + 1, by omega, (uptoF_succ _ _).symm⟩, hJx3⟩⟩
  ·obtain rfl : k = len := by omega
   gi_wp2
   go_end0
   exact ⟨⟨_, rfl⟩, .inl ⟨_, rfl, hJs⟩⟩
end Go.Ev

namespace Go.Ev
open Go Go.RowKit Go.Proofs
theorem wp_to_in {lp n : Nat} {P : Program} {o : Oper} {a : Act} {w : World} {K K' : Act -> World -> Prop} {Q Q' : Exit -> Act -> World -> Prop} (hd : ∀ c, o.op ≠ .defer c) (hK : ∀ a w, K a w -> K' a w) (hQ : ∀ e a w, Q e a w -> Q' e a w) (hL : ¬ LetsOut Q)
  (h : o.wp P a w K Q) : o.wpIn (Fence.wide.inRound lp) n P a w K' Q' := by
 refine ⟨fun _ _ => trivial, ?_⟩
 rw [Fence.inRound_round, Oper.semAt_some lp _ o hd]
 unfold Oper.wp at h
 generalize (execOp a.eval o).run P w = r at h
 cases r with
 | ok x w' =>
  cases x with
  | value v => exact hK _ _ h
  | skip => exact hK _ _ h
  | defer d => exact hK _ _ h
  | enter f args =>
   have h : Calls P f args w' _ := h
   refine ⟨fun hs => (by cases hs), CallsIn.inRound lp (callsIn_wide.2 (h.mono fun e w'' he => ?_))⟩
   cases e with
   | returned v => exact hK _ _ he
   | panicked c => exact hQ _ _ _ he
   | outgrown => exact absurd he hL
  | row r args =>
   have h : Rows P r args w' _ := h
   refine ⟨fun hs => (by cases hs), fun c cs _ => ?_⟩
   obtain ⟨v, w'', h1, h2⟩ := h c cs
   exact ⟨v, w'', hK _ _ h1, stepsIn_wide.2 h2⟩
  | _ => exact h.elim
 | halt x w' =>
  cases x with
  | panic v => exact hQ _ _ _ h
  | _ => exact h.elim
theorem wpAny_to_in {lp n : Nat} {P : Program} {md : Region.Mode} {ops : Array Oper} {Q Q' : Exit -> Act -> World -> Prop} (hd : ∀ (i : Nat) (o : Oper), ops[i]? = some o -> ∀ c, o.op ≠ .defer c) (hQ : ∀ e a w, Q e a w -> Q' e a w) (hL : ¬ LetsOut Q) :
  ∀ (fuel : Nat) (listed : Array Bool) (a : Act) (w : World), wpAny P md ops Q fuel listed a w -> wpAnyIn (Fence.wide.inRound lp) n P md ops Q' fuel listed a w
 | 0, _, _, _, h => ⟨h.1, hQ _ _ _ h.2⟩
 | fuel + 1, listed, a, w, h => by
  refine ⟨fun h0 => hQ _ _ _ (h.1 h0), fun i hi => ?_⟩
  have h2 := h.2 i hi
  unfold wpOp at h2
  unfold wpOpIn
  cases ho : ops[i]? with
  | none => rw [ho] at h2; exact wpAny_to_in hd hQ hL fuel _ _ _ h2
  | some o =>
   rw [ho] at h2
   dsimp only at h2 ⊢
   split
   ·next hw =>
    rw [if_pos hw] at h2
    rcases h2 with h2 | h2
    ·exact wp_to_in (hd i o ho) (fun a w h => wpAny_to_in hd hQ hL fuel _ _ _ h) hQ hL h2
    ·exact absurd h2.2 hL
   ·next hw =>
    rw [if_neg hw] at h2
    exact ⟨fun _ _ => trivial, wpAny_to_in hd hQ hL fuel _ _ _ h2⟩
def isDefer : Op -> Bool
 | .defer _ => true
 | _ => false
theorem wpIn_region_round {lp N : Nat} {P : Program} {id : Nat} {Q : Exit -> Act -> World -> Prop} {a : Act} {w : World} {ops : Array Oper} (hm : P.follows .mixedOrders = true)
  (hdf : ops.toList.all (fun o => !isDefer o.op) = true)
  (h : wpAny P .any ops (fun e a w => e ≠ .outgrown /\ Q e a w) ops.size (Array.replicate ops.size false) a w.drew) : (Code.region id ops true).wpIn (Fence.wide.inRound lp) N P Q a w := by
 refine wpIn_region_any hm ?_
 refine wpAny_to_in (fun i o ho c hc => ?_) (fun e a w h => h.2) (fun ⟨a, w, h⟩ => h.1 rfl) _ _ _ _ h
 have hmem : o ∈ ops.toList := by
  rw [<- Array.getElem?_toList] at ho
  exact List.mem_of_getElem? ho
 have := List.all_eq_true.1 hdf o hmem
 rw [hc] at this
 cases this
end Go.Ev

namespace Go.Ev
open Go Go.RowKit Go.Proofs Go.Shelf
attribute [local go_sem] Oper.semAt_some
def RowAt (n₀ : Nat) (W : World) (sv : Value) (len : Nat) (g : Nat -> Value) : Prop :=
 (sv = .slice none 0 0 /\ len = 0) ∨ ∃ b off cap, sv = .slice (some ⟨b, off, none⟩) len cap /\ (0 < len -> b < n₀) /\ ∀ j, j < len -> W.cell? ⟨b, off + j, none⟩ = some (g j)
theorem RowAt.below {n₀ : Nat} {A B : World} (h : Below n₀ A B) {sv : Value} {len : Nat} {g : Nat -> Value} : RowAt n₀ A sv len g -> RowAt n₀ B sv len g
 | .inl e => .inl e
 | .inr ⟨b, off, cap, e, hb, hc⟩ => .inr ⟨b, off, cap, e, hb, fun j hj => (h.cell (p := ⟨b, off + j, none⟩) (hb (by omega))).trans (hc j hj)⟩
set_option maxRecDepth 100000 in
set_option maxHeartbeats 1000000 in
theorem all0_in {most : Int} (F : Fence) (n : Nat) (h8 : F.fn 224) (hro : F.round = none) (l Bs : Nat) (a : Option Addr) (c : Nat) (J : List (PF most) -> World -> Prop) (W : World) (hB0 : W.cell? ⟨Bs, 0, none⟩ = some (.slice a 0 c)) (h0 : J [] W) :
  CallsIn F n Tryz.prog 224 #[.func (.yield l) #[] #[], .pointer (some ⟨Bs, 0, none⟩)] W fun e W' => (∃ v, e = .returned v) /\ J [] W' := by
 refine callsIn_of_wp Tryz.func224 rfl h8 ?_ hro
 simp only [Tryz.ntmps224, List.size_toArray, List.length_cons, List.length_nil, Nat.reduceAdd, Nat.reduceSub, Array.replicate_succ, Array.replicate_zero, List.push_toArray, List.append_toArray, List.nil_append, List.cons_append]
 gi_wp2
 gi_loopw [8] (fun i wr => i = .int .i64 0 /\ J [] wr) (fun _ _ => 0)
 case atStart => exact ⟨rfl, h0⟩
 case round =>
  obtain ⟨rfl, hJs⟩ := hrel
  gi_wp2
  go_end0
  exact ⟨⟨_, rfl⟩, hJs⟩
theorem all_stops {most : Int} (F : Fence) (n : Nat) (h8 : F.fn 224) (hro : F.round = none) (hn : 1 <= n) (Bs n₀ : Nat) (sp sf : Value) (len : Nat) (f : Nat -> PF most) (hreach : len <= 1000) (w : World) (hBs : Bs < w.heap.size) (hn₀ : n₀ <= w.heap.size)
  (hc0 : w.cell? ⟨Bs, 0, none⟩ = some sp) (hc1 : w.cell? ⟨Bs, 1, none⟩ = some sf) (hp : RowAt n₀ w sp len (fun j => .int .i64 (f j).1.1)) (hf : RowAt n₀ w sf len (fun j => .string (itoaB (f j).1.2))) :
  SeqStopsK F n Tryz.prog 224 #[.pointer (some ⟨Bs, 0, none⟩)] (fun x : PF most => #[Value.int .i64 x.1.1, Value.string (itoaB x.1.2)]) (KP n₀ Bs) (fun ys => ys = uptoF f len)
   (fun pre => ∃ k, k <= len /\ pre = uptoF f k) len w := fun l J Jx W hW _ _ hY h0 => by
 have hc0' := (hW.cell (p := ⟨Bs, 0, none⟩) hBs).trans hc0
 have hc1' := (hW.cell (p := ⟨Bs, 1, none⟩) hBs).trans hc1
 by_cases hl : len = 0
 ·subst hl
  have : ∃ a c, sp = .slice a 0 c := by
   rcases hp with ⟨rfl, _⟩ | ⟨b, off, cap, rfl, _, _⟩
   ·exact ⟨_, _, rfl⟩
   ·exact ⟨_, _, rfl⟩
  obtain ⟨a, c, rfl⟩ := this
  exact (all0_in F n h8 hro l Bs a c J W hc0' h0).mono fun e W' ⟨he, hj⟩ => ⟨he, .inl ⟨_, rfl, hj⟩⟩
 ·rcases hp.below (hW.mono hn₀) with ⟨_, e⟩ | ⟨bp, op, cp, rfl, hbp, hcp⟩
  ·exact absurd e hl
  ·rcases hf.below (hW.mono hn₀) with ⟨_, e⟩ | ⟨bf, of_, cf, rfl, hbf, hcf⟩
   ·exact absurd e hl
   ·exact all1_in F n h8 hro hn l Bs n₀ bp op cp bf of_ cf len ⟨#[]⟩ f hreach (hbp (by omega)) (hbf (by omega)) J Jx hY W hc0' hc1' hcp hcf h0
set_option maxHeartbeats 1000000 in
theorem all_in (F : Fence) (n : Nat) (h5 : F.fn 192) (hro : F.round = none) (sp sf sd : Value) (w : World) (hsp : sp.oneCell' = true) (hsf : sf.oneCell' = true) (hsd : sd.oneCell' = true) :
  CallsIn F n Tryz.prog 192 #[.agg #[sp, sf, sd]] w fun e w' => e = .returned (.func (.func 224) #[] #[.pointer (some ⟨w.heap.size, 0, none⟩)]) /\ w' = w.alloc (.cells #[sp, sf, sd] 148) := by
 refine callsIn_of_wp Tryz.func192 rfl h5 ?_ hro
 simp only [Tryz.ntmps192, List.size_toArray, List.length_cons, List.length_nil, Nat.reduceAdd, Nat.reduceSub, Array.replicate_succ, Array.replicate_zero, List.push_toArray, List.append_toArray, List.nil_append, List.cons_append]
 gi_wp2
 go_ret
 exact ⟨rfl, rfl⟩
theorem nearL_snoc (l : List (Int × Int)) (x : Int × Int) : nearL (l ++ [x]) = ((nearL l).1 + (near1 x).1, (nearL l).2 + (near1 x).2) := by
 unfold nearL
 rw [List.foldl_append]; rfl
theorem near1_small {x : Int × Int} (h : x.1 = 2 ∨ x.1 = 3 ∨ x.1 = 5) (h2 : -10000000 <= x.2 /\ x.2 <= 10000000) : (-2000000000000000 <= (near1 x).1 /\ (near1 x).1 <= 2000000000000000) /\ (-2000000000000000 <= (near1 x).2 /\ (near1 x).2 <= 2000000000000000) := by
 obtain ⟨p, k⟩ := x
 dsimp only at h h2
 rcases h with rfl | rfl | rfl
 ·show (_ <= k * 67108864 /\ k * 67108864 <= _) /\ (_ <= k * 67108864 /\ k * 67108864 <= _); omega
 ·show (_ <= min (k * 106365032) (k * 106365033) /\ min (k * 106365032) (k * 106365033) <= _) /\ (_ <= max (k * 106365032) (k * 106365033) /\ max (k * 106365032) (k * 106365033) <= _); omega
 ·show (_ <= min (k * 155821956) (k * 155821957) /\ min (k * 155821956) (k * 155821957) <= _) /\ (_ <= max (k * 155821956) (k * 155821957) /\ max (k * 155821956) (k * 155821957) <= _); omega
def pairs {most : Int} (l : List (PF most)) : List (Int × Int) := l.map fun x => x.1
theorem nearL_small {most : Int} (hm : most <= 10000000) : ∀ (n : Nat) (l : List (PF most)), l.length = n -> n <= 6 -> (-(2000000000000000 * (n : Int)) <= (nearL (pairs l)).1 /\ (nearL (pairs l)).1 <= 2000000000000000 * n) /\ (-(2000000000000000 * (n : Int)) <= (nearL (pairs l)).2 /\ (nearL (pairs l)).2 <= 2000000000000000 * n) := by
 intro n
 induction n with
 | zero => intro l hl _; have : l = [] := List.length_eq_zero_iff.1 hl; subst this; simp [pairs, nearL]
 | succ n ih =>
  intro l hl hn
  obtain ⟨pre, x, rfl⟩ : ∃ pre x, l = pre ++ [x] := by
   have hne : l ≠ [] := by intro e; subst e; simp at hl
   exact ⟨l.dropLast, l.getLast hne, (List.dropLast_concat_getLast hne).symm⟩
  have h1 := ih pre (by simpa using hl) (by omega)
  have h2 := near1_small x.2.1 x.2.2.2
  have e : pairs (pre ++ [x]) = pairs pre ++ [x.1] := by simp [pairs]
  rw [e, nearL_snoc]
  dsimp only
  omega
theorem near_end {most : Int} {w W W2 W3 : World} {B b1 b2 b3 b4 b5 : Nat} (h1 : w.heap.size + 1 = b1) (h2 : b1 + 1 = b2) (h3 : b2 + 1 = b3) (h4 : b3 + 1 = b4) (h5 : b4 + 1 = b5) (hlt : b5 < W.heap.size) (hB : Below w.heap.size w W)
  (hB2 : Below W.heap.size W W2) (hB3 : Below W2.heap.size W2 W3) (c1 : W.cell? ⟨b1, 0, none⟩ = some (.int .i64 most)) (c4 : W.cell? ⟨b4, 0, none⟩ = some (.bool false)) (f4 : W.frozen? ⟨b4, 0, none⟩ = false)
  {v2 v3 : Value} (c2 : W3.cell? ⟨b2, 0, none⟩ = some v2) (c3 : W3.cell? ⟨b3, 0, none⟩ = some v3) (f2 : W3.frozen? ⟨b2, 0, none⟩ = false) (f3 : W3.frozen? ⟨b3, 0, none⟩ = false) (lo hi : Value) :
  KeepsFrom B W ((W3.setCell ⟨b2, 0, none⟩ lo).setCell ⟨b3, 0, none⟩ hi).drew /\ KP w.heap.size b5 W ((W3.setCell ⟨b2, 0, none⟩ lo).setCell ⟨b3, 0, none⟩ hi).drew /\
   ((((W3.setCell ⟨b2, 0, none⟩ lo).setCell ⟨b3, 0, none⟩ hi).drew.cell? ⟨b1, 0, none⟩ = some (.int .i64 most) /\ (((W3.setCell ⟨b2, 0, none⟩ lo).setCell ⟨b3, 0, none⟩ hi).drew.cell? ⟨b2, 0, none⟩ = some lo /\ ((W3.setCell ⟨b2, 0, none⟩ lo).setCell ⟨b3, 0, none⟩ hi).drew.frozen? ⟨b2, 0, none⟩ = false) /\
    (((W3.setCell ⟨b2, 0, none⟩ lo).setCell ⟨b3, 0, none⟩ hi).drew.cell? ⟨b3, 0, none⟩ = some hi /\ ((W3.setCell ⟨b2, 0, none⟩ lo).setCell ⟨b3, 0, none⟩ hi).drew.frozen? ⟨b3, 0, none⟩ = false) /\
    (((W3.setCell ⟨b2, 0, none⟩ lo).setCell ⟨b3, 0, none⟩ hi).drew.cell? ⟨b4, 0, none⟩ = some (.bool false) /\ ((W3.setCell ⟨b2, 0, none⟩ lo).setCell ⟨b3, 0, none⟩ hi).drew.frozen? ⟨b4, 0, none⟩ = false)) /\
   Below w.heap.size w ((W3.setCell ⟨b2, 0, none⟩ lo).setCell ⟨b3, 0, none⟩ hi).drew /\ b5 < ((W3.setCell ⟨b2, 0, none⟩ lo).setCell ⟨b3, 0, none⟩ hi).drew.heap.size) := by
 have hs2 := hB2.size
 have hs3 := hB3.size
 have hblk : ∀ k, k < W.heap.size -> W3.heap[k]? = W.heap[k]? := fun k hk => (hB3.block k (by omega)).trans (hB2.block k hk)
 have ko : KeepsOthers W ((W3.setCell ⟨b2, 0, none⟩ lo).setCell ⟨b3, 0, none⟩ hi).drew := by
  have k0 : KeepsOthers W W3 := ⟨by omega, fun k o hk _ => (hblk k (Array.getElem?_eq_some_iff.1 hk).1).trans hk⟩
  exact ((k0.trans (KeepsOthers.setCell _ _ _)).trans (KeepsOthers.setCell _ _ _)).trans (KeepsOthers.drew _)
 have hoth : ∀ k, k ≠ b2 -> k ≠ b3 -> k < W.heap.size -> ((W3.setCell ⟨b2, 0, none⟩ lo).setCell ⟨b3, 0, none⟩ hi).drew.heap[k]? = W.heap[k]? := fun k n2 n3 hk =>
  ((Below.heap_setCell (W3.setCell ⟨b2, 0, none⟩ lo) ⟨b3, 0, none⟩ hi k n3).trans (Below.heap_setCell W3 ⟨b2, 0, none⟩ lo k n2)).trans (hblk k hk)
 have bw : Below w.heap.size W ((W3.setCell ⟨b2, 0, none⟩ lo).setCell ⟨b3, 0, none⟩ hi).drew := by
  have t1 : Below w.heap.size W W3 := (hB2.mono hB.size).trans (hB3.mono (Nat.le_trans hB.size hs2))
  exact ((t1.setCell (p := ⟨b2, 0, none⟩) (show w.heap.size <= b2 by omega) lo).setCell (p := ⟨b3, 0, none⟩) (show w.heap.size <= b3 by omega) hi).drew
 have sz := ko.size
 refine ⟨ko.from B, ⟨bw, hoth b5 (by omega) (by omega) hlt⟩, ⟨(World.cell?_of_block (hoth b1 (by omega) (by omega) (by omega))).trans c1, ⟨?_, ?_⟩, ⟨?_, ?_⟩, (World.cell?_of_block (hoth b4 (by omega) (by omega) (by omega))).trans c4, (World.frozen?_of_block (hoth b4 (by omega) (by omega) (by omega))).trans f4⟩, hB.trans bw, by omega⟩
 ·rw [cell_drew_own, World.cell?_setCell_other _ _ _ _ (by intro h; cases h; omega)]
  exact World.cell?_setCell_same' _ _ _ (by rw [c2]; rfl)
 ·rw [frozen_drew_own, World.frozen?_setCell, World.frozen?_setCell]; exact f2
 ·rw [cell_drew_own]
  exact World.cell?_setCell_same' _ _ _ (by rw [World.cell?_setCell_other _ _ _ _ (by intro h; cases h; omega), c3]; rfl)
 ·rw [frozen_drew_own, World.frozen?_setCell, World.frozen?_setCell]; exact f3
theorem near_sum {most : Int} (pre : List (PF most)) (x : PF most) (hsm : (-(2000000000000000 * (pre.length : Int)) <= (nearL (pairs pre)).1 /\ (nearL (pairs pre)).1 <= 2000000000000000 * pre.length) /\ (-(2000000000000000 * (pre.length : Int)) <= (nearL (pairs pre)).2 /\ (nearL (pairs pre)).2 <= 2000000000000000 * pre.length)) (hl : pre.length <= 6) :
  IntKind.i64.wrap ((nearL (pairs pre)).1 + (near1 x.1).1) = (nearL (pairs (pre ++ [x]))).1 /\ IntKind.i64.wrap ((nearL (pairs pre)).2 + (near1 x.1).2) = (nearL (pairs (pre ++ [x]))).2 := by
 have hn1 := near1_small x.2.1 x.2.2.2
 have e : pairs (pre ++ [x]) = pairs pre ++ [x.1] := by simp [pairs]
 rw [e, nearL_snoc]
 dsimp only
 constructor
 ·rw [IntKind.wrap_i64]; omega
 ·rw [IntKind.wrap_i64]; omega
theorem near1_two {x : Int × Int} (h : x.1 = 2) : (near1 x).1 = x.2 * logc x.1 /\ (near1 x).2 = x.2 * logc x.1 := by
 unfold near1 logc; rw [if_pos h]; simp [h]
theorem near1_odd {x : Int × Int} (h : ¬ x.1 = 2) : (near1 x).1 = min (x.2 * logc x.1) (x.2 * (logc x.1 + 1)) /\ (near1 x).2 = max (x.2 * logc x.1) (x.2 * (logc x.1 + 1)) := by
 unfold near1; rw [if_neg h]; exact ⟨rfl, rfl⟩
theorem mul_bnd {k a : Int} (hk : -10000000 <= k /\ k <= 10000000) (h0 : 0 <= a) (h1 : a <= 200000000) : -2000000000000000 <= k * a /\ k * a <= 2000000000000000 := by
 have h2 : (k * a).natAbs <= 10000000 * 200000000 := by
  rw [Int.natAbs_mul]; exact Nat.mul_le_mul (by omega) (by omega)
 omega
set_option maxRecDepth 100000 in
set_option maxHeartbeats 4000000 in
theorem near_any {most : Int} (hm : 0 <= most /\ most <= 10000000) (sp sf : Value) (den : ByteArray) (len : Nat) (hlen : len <= 6) (f : Nat -> PF most) (hsp : sp.oneCell' = true) (hsf : sf.oneCell' = true) (w : World)
  (hp : RowAt w.heap.size w sp len (fun j => .int .i64 (f j).1.1)) (hf : RowAt w.heap.size w sf len (fun j => .string (itoaB (f j).1.2)))
  (h205 : ∀ (k : Int), -10000000 <= k -> k <= 10000000 -> ∀ W : World, Below w.heap.size w W -> Calls Tryz.prog 205 #[.string (itoaB k)] W fun e W' => e = .returned (.tuple #[.int .i64 k, .bool true]) /\ Below W.heap.size W W')
  (h223 : ∀ (p : Int), p = 2 ∨ p = 3 ∨ p = 5 -> ∀ W : World, Below w.heap.size w W -> Calls Tryz.prog 223 #[.int .i64 p] W fun e W' => e = .returned (.tuple #[.int .i64 (logc p), .bool true]) /\ Below W.heap.size W W') :
  Calls Tryz.prog 191 #[.agg #[sp, sf, .string den], .int .i64 most] w fun e w' =>
   e = .returned (.tuple #[.int .i64 (nearL (pairs (uptoF f len))).1, .int .i64 (nearL (pairs (uptoF f len))).2, .bool true]) /\ Below w.heap.size w w' := by
 have hsd : (Value.string den).oneCell' = true := rfl
 refine (callsIn_wide (n := 4)).1 ?_
 refine callsIn_of_wp_marks Tryz.func191 rfl trivial ?_ rfl
 simp only [Tryz.ntmps191, List.size_toArray, List.length_cons, List.length_nil, Nat.reduceAdd, Nat.reduceSub, Array.replicate_succ, Array.replicate_zero, List.push_toArray, List.append_toArray, List.nil_append, List.cons_append]
 gi_wp2_with (refine ⟨trivial, ?_⟩; gi_at_call 192; refine (all_in _ _ trivial rfl sp sf (.string den) _ hsp hsf hsd).mono ?_; rintro e w' ⟨rfl, rfl⟩)
 have x1 := Boxed.new (w.alloc (.cells #[sp, sf, .string den] 148)) 3 (.int .i64 most)
 have x2 := Boxed.new ((w.alloc (.cells #[sp, sf, .string den] 148)).alloc (.cells #[.int .i64 most] 3)) 3 (.int .i64 0)
 have x3 := Boxed.new (((w.alloc (.cells #[sp, sf, .string den] 148)).alloc (.cells #[.int .i64 most] 3)).alloc (.cells #[.int .i64 0] 3)) 3 (.int .i64 0)
 have x4 := Boxed.new ((((w.alloc (.cells #[sp, sf, .string den] 148)).alloc (.cells #[.int .i64 most] 3)).alloc (.cells #[.int .i64 0] 3)).alloc (.cells #[.int .i64 0] 3)) 4 (.bool false)
 have x1 := (((x1.alloc (.cells #[.int .i64 0] 3)).alloc (.cells #[.int .i64 0] 3)).alloc (.cells #[.bool false] 4)).alloc (.cells #[sp, sf, .string den] 148)
 have x2 := ((x2.alloc (.cells #[.int .i64 0] 3)).alloc (.cells #[.bool false] 4)).alloc (.cells #[sp, sf, .string den] 148)
 have x3 := (x3.alloc (.cells #[.bool false] 4)).alloc (.cells #[sp, sf, .string den] 148)
 have x4 := x4.alloc (.cells #[sp, sf, .string den] 148)
 have x5 := World.alloc_heap_new (((((w.alloc (.cells #[sp, sf, .string den] 148)).alloc (.cells #[.int .i64 most] 3)).alloc (.cells #[.int .i64 0] 3)).alloc (.cells #[.int .i64 0] 3)).alloc (.cells #[.bool false] 4)) (.cells #[sp, sf, .string den] 148)
 have hBl : Below w.heap.size w ((((((w.alloc (.cells #[sp, sf, .string den] 148)).alloc (.cells #[.int .i64 most] 3)).alloc (.cells #[.int .i64 0] 3)).alloc (.cells #[.int .i64 0] 3)).alloc (.cells #[.bool false] 4)).alloc (.cells #[sp, sf, .string den] 148)) := ((((((Below.refl _ w).alloc (Nat.le_refl _) _).alloc (by simp) _).alloc (by simp; omega) _).alloc (by simp; omega) _).alloc (by simp; omega) _).alloc (by simp; omega) _
 have hsz : ((((((w.alloc (.cells #[sp, sf, .string den] 148)).alloc (.cells #[.int .i64 most] 3)).alloc (.cells #[.int .i64 0] 3)).alloc (.cells #[.int .i64 0] 3)).alloc (.cells #[.bool false] 4)).alloc (.cells #[sp, sf, .string den] 148)).heap.size = w.heap.size + 1 + 1 + 1 + 1 + 1 + 1 := by simp
 simp only [World.size_alloc] at x1 x2 x3 x4 x5
 obtain ⟨W1, hW1⟩ : ∃ W1, ((((((w.alloc (.cells #[sp, sf, .string den] 148)).alloc (.cells #[.int .i64 most] 3)).alloc (.cells #[.int .i64 0] 3)).alloc (.cells #[.int .i64 0] 3)).alloc (.cells #[.bool false] 4)).alloc (.cells #[sp, sf, .string den] 148)) = W1 := ⟨_, rfl⟩
 rw [hW1] at x1 x2 x3 x4 x5 hBl hsz ⊢
 obtain ⟨b1, hb1⟩ : ∃ b, w.heap.size + 1 = b := ⟨_, rfl⟩
 rw [hb1] at x1 x2 x3 x4 x5 hsz ⊢
 obtain ⟨b2, hb2⟩ : ∃ b, b1 + 1 = b := ⟨_, rfl⟩
 rw [hb2] at x2 x3 x4 x5 hsz ⊢
 obtain ⟨b3, hb3⟩ : ∃ b, b2 + 1 = b := ⟨_, rfl⟩
 rw [hb3] at x3 x4 x5 hsz ⊢
 obtain ⟨b4, hb4⟩ : ∃ b, b3 + 1 = b := ⟨_, rfl⟩
 rw [hb4] at x4 x5 hsz ⊢
 obtain ⟨b5, hb5⟩ : ∃ b, b4 + 1 = b := ⟨_, rfl⟩
 rw [hb5] at x5 hsz ⊢
 clear hW1
 have hc0 : W1.cell? ⟨b5, 0, none⟩ = some sp := by simp [World.cell?, x5]
 have hc1 : W1.cell? ⟨b5, 1, none⟩ = some sf := by simp [World.cell?, x5]
 refine wpIn_rangeFunc_ownG (F := Fence.wide) rfl (by omega) (gf := 224) (lb := #[.pointer (some ⟨b5, 0, none⟩)]) rfl trivial (enters_of Tryz.func224 (by kernel_rfl) rfl)
  (all_stops Fence.wide 3 trivial rfl (by omega) b5 w.heap.size sp sf len f (by omega) W1 (by omega) (by omega) hc0 hc1 (hp.below hBl) (hf.below hBl)) KP.trans
  (fun W l o o' hl ho h1 h2 => ⟨belowK_b (w := W1) (by omega) W l o o' hl ho h1 h2, World.putObj_heap_other (by omega)⟩) (Below.refl _ _) (fun _ => rfl)
  (fun pre W => (W.cell? ⟨b1, 0, none⟩ = some (.int .i64 most) /\ (W.cell? ⟨b2, 0, none⟩ = some (.int .i64 (nearL (pairs pre)).1) /\ W.frozen? ⟨b2, 0, none⟩ = false) /\ (W.cell? ⟨b3, 0, none⟩ = some (.int .i64 (nearL (pairs pre)).2) /\ W.frozen? ⟨b3, 0, none⟩ = false) /\
   (W.cell? ⟨b4, 0, none⟩ = some (.bool false) /\ W.frozen? ⟨b4, 0, none⟩ = false)) /\ Below w.heap.size w W /\ b5 < W.heap.size)
  (fun _ _ _ => False)
  (OwnFrom.and (Own.from (fun s A B row hs hg hr => ⟨cell_kept hs.1 hg hr, ⟨cell_kept hs.2.1.1 hg hr, (frozen_kept hs.2.1.1 hg hr).trans hs.2.1.2⟩, ⟨cell_kept hs.2.2.1.1 hg hr, (frozen_kept hs.2.2.1.1 hg hr).trans hs.2.2.1.2⟩, cell_kept hs.2.2.2.1 hg hr, (frozen_kept hs.2.2.2.1 hg hr).trans hs.2.2.2.2⟩) _)
   (OwnFrom.and (ownFrom_below (Nat.le_refl _) (by omega)) (fun _ A B row hs hg _ => Nat.lt_of_lt_of_le hs hg.size)))
  (fun _ _ _ _ _ hs _ _ => hs)
  ⟨⟨x1.cell, ⟨x2.cell, x2.frozen⟩, ⟨x3.cell, x3.frozen⟩, x4.cell, x4.frozen⟩, hBl, by omega⟩
  (fun x => { tmps := #[.agg #[sp, sf, .string den], .int .i64 most, .pointer (some ⟨w.heap.size, 0, none⟩), .pointer (some ⟨b1, 0, none⟩), .pointer (some ⟨b2, 0, none⟩), .pointer (some ⟨b3, 0, none⟩), .pointer (some ⟨b4, 0, none⟩), .int .i64 x.1.1, .string (itoaB x.1.2), undef, undef, undef, undef, undef, .agg #[sp, sf, .string den], .func (.func 224) #[] #[.pointer (some ⟨b5, 0, none⟩)], .int .i64 x.1.1, .string (itoaB x.1.2), undef, undef, undef, undef, undef, undef, undef, undef, undef, undef, undef, undef, undef, undef, undef, undef, undef, undef, undef, undef, undef, undef, undef, undef, undef, undef, undef, undef, undef, undef, undef, undef, undef, undef, undef, undef, undef, undef, undef, undef, undef, undef, undef, undef, undef, undef, undef, undef, undef, undef], defers := [] }) ?assign ?body ?done ?stop
 case assign =>
  intro l x W K hK
  gi_wp2
  exact hK
 case body =>
  rintro l pre x W ⟨⟨k1, ⟨k2, f2⟩, ⟨k3, f3⟩, k4, f4⟩, hB, h5⟩ hlt
  have hx := x.2
  have hmx : Tryz.prog.follows .mixedOrders = true := by kernel_rfl
  have hbne : b2 ≠ b3 := by omega
  have hbne' : b3 ≠ b2 := by omega
  have hsm := nearL_small hm.2 pre.length pre rfl (by omega)
  have hn1 := near1_small hx.1 hx.2.2
  have hmw : IntKind.i64.wrap (-most) = -most := by rw [IntKind.wrap_i64]; omega
  have hA : 0 <= logc x.1.1 /\ logc x.1.1 <= 155821956 := by rcases hx.1 with e | e | e <;> rw [e] <;> decide
  have e1 : IntKind.i64.wrap (x.1.2 * logc x.1.1) = x.1.2 * logc x.1.1 := by
   have := mul_bnd hx.2.2 hA.1 (show logc x.1.1 <= 200000000 by omega)
   rw [IntKind.wrap_i64]; omega
  have e2 : IntKind.i64.wrap (x.1.2 * (logc x.1.1 + 1)) = x.1.2 * (logc x.1.1 + 1) := by
   have := mul_bnd hx.2.2 (show 0 <= logc x.1.1 + 1 by omega) (show logc x.1.1 + 1 <= 200000000 by omega)
   rw [IntKind.wrap_i64]; omega
  have e3 : IntKind.i64.wrap (logc x.1.1 + 1) = logc x.1.1 + 1 := by rw [IntKind.wrap_i64]; omega
  have hg1 : ¬ (most < x.1.2) := by omega
  have hg2 : ¬ (x.1.2 < -most) := by omega
  gi_wp2_with (first
   | (
    refine ⟨trivial, ?_⟩; gi_at_call 205; refine (CallsIn.inRound l (callsIn_wide.2 (h205 x.1.2 hx.2.2.1 hx.2.2.2 W hB))).mono ?_; rintro e W2 ⟨rfl, hB2⟩
    have j1 := (hB2.cell (p := ⟨b1, 0, none⟩) (show b1 < W.heap.size by omega)).trans k1)
   | (
    refine ⟨trivial, ?_⟩; gi_at_call 223; refine (CallsIn.inRound l (callsIn_wide.2 (h223 x.1.1 hx.1 _ (hB.trans (hB2.mono hB.size))))).mono ?_; rintro e W3 ⟨rfl, hB3⟩
    have k2' := (hB3.cell (p := ⟨b2, 0, none⟩) (by have := hB2.size; show b2 < _; omega)).trans ((hB2.cell (p := ⟨b2, 0, none⟩) (show b2 < W.heap.size by omega)).trans k2)
    have k3' := (hB3.cell (p := ⟨b3, 0, none⟩) (by have := hB2.size; show b3 < _; omega)).trans ((hB2.cell (p := ⟨b3, 0, none⟩) (show b3 < W.heap.size by omega)).trans k3)
    have f2' : W3.frozen? ⟨b2, 0, none⟩ = false := (World.frozen?_of_block (hB3.block b2 (by have := hB2.size; omega))).trans ((World.frozen?_of_block (hB2.block b2 (by omega))).trans f2)
    have f3' : W3.frozen? ⟨b3, 0, none⟩ = false := (World.frozen?_of_block (hB3.block b3 (by have := hB2.size; omega))).trans ((World.frozen?_of_block (hB2.block b3 (by omega))).trans f3)))
  ·have hp2 : x.1.1 = 2 := by simpa using ‹(x.val.fst == 2) = true›
   have s1 := (near_sum pre x hsm (by omega)).1
   have s2 := (near_sum pre x hsm (by omega)).2
   rw [(near1_two hp2).1, hp2] at s1
   rw [(near1_two hp2).2, hp2] at s2
   rw [hp2] at e1
   refine wpIn_region_round hmx (by rfl) ?_
   refine wpAny_take (i := 1) (v := ?v1_1) rfl (by kernel_rfl) (by kernel_rfl) (by kernel_rfl) (fun _ _ _ h => h) (Or.inl ⟨by rfl, ?y1_1⟩) ?r1_1
   case y1_1 => (intro w; go_simp; try with_reducible rfl)
   refine wpAny_take (i := 2) (v := ?v2_2) rfl (by kernel_rfl) (by kernel_rfl) (by kernel_rfl) (fun _ _ _ h => h) (Or.inl ⟨by rfl, ?y2_2⟩) ?r2_2
   case y2_2 => (intro w; go_simp; try with_reducible rfl)
   refine wpAny_take (i := 3) (v := ?v3_3) rfl (by kernel_rfl) (by kernel_rfl) (by kernel_rfl) (fun _ _ _ h => h) (Or.inl ⟨by rfl, ?y3_3⟩) ?r3_3
   case y3_3 => (intro w; go_simp; try with_reducible rfl)
   refine wpAny_take (i := 4) (v := ?v4_4) rfl (by kernel_rfl) (by kernel_rfl) (by kernel_rfl) (fun _ _ _ h => h) (Or.inl ⟨by rfl, ?y4_4⟩) ?r4_4
   case y4_4 => (intro w; go_simp; try with_reducible rfl)
   refine wpAny_take (i := 5) (v := ?v5_5) rfl (by kernel_rfl) (by kernel_rfl) (by kernel_rfl) (fun _ _ _ h => h) (Or.inl ⟨by rfl, ?y5_5⟩) ?r5_5
   case y5_5 => (intro w; go_simp; try with_reducible rfl)
   refine wpAny_take (i := 6) (v := ?v6_6) rfl (by kernel_rfl) (by kernel_rfl) (by kernel_rfl) (fun _ _ _ h => h) (Or.inl ⟨by rfl, ?y6_6⟩) ?r6_6
   case y6_6 => (intro w; go_simp; try with_reducible rfl)
   refine wpAny_take (i := 7) (v := ?v7_7) rfl (by kernel_rfl) (by kernel_rfl) (by kernel_rfl) (fun _ _ _ h => h) (Or.inl ⟨by rfl, ?y7_7⟩) ?r7_7
   case y7_7 => (intro w; go_simp; try with_reducible rfl)
   refine wpAny_take (i := 10) (v := ?v10_8) rfl (by kernel_rfl) (by kernel_rfl) (by kernel_rfl) (fun _ _ _ h => h) (Or.inl ⟨by rfl, ?y10_8⟩) ?r10_8
   case y10_8 => (intro w; go_simp; try with_reducible rfl)
   refine wpAny_take (i := 11) (v := ?v11_9) rfl (by kernel_rfl) (by kernel_rfl) (by kernel_rfl) (fun _ _ _ h => h) (Or.inl ⟨by rfl, ?y11_9⟩) ?r11_9
   case y11_9 => (intro w; go_simp; try with_reducible rfl)
   refine wpAny_take (i := 12) (v := ?v12_10) rfl (by kernel_rfl) (by kernel_rfl) (by kernel_rfl) (fun _ _ _ h => h) (Or.inl ⟨by rfl, ?y12_10⟩) ?r12_10
   case y12_10 => (intro w; go_simp; try with_reducible rfl)
   refine wpAny_take (i := 13) (v := ?v13_11) rfl (by kernel_rfl) (by kernel_rfl) (by kernel_rfl) (fun _ _ _ h => h) (Or.inl ⟨by rfl, ?y13_11⟩) ?r13_11
   case y13_11 => (intro w; go_simp; try with_reducible rfl)
   refine wpAny_take (i := 14) (v := ?v14_12) rfl (by kernel_rfl) (by kernel_rfl) (by kernel_rfl) (fun _ _ _ h => h) (Or.inl ⟨by rfl, ?y14_12⟩) ?r14_12
   case y14_12 => (intro w; go_simp; try with_reducible rfl)
   refine wpAny_take (i := 15) (v := ?v15_13) rfl (by kernel_rfl) (by kernel_rfl) (by kernel_rfl) (fun _ _ _ h => h) (Or.inl ⟨by rfl, ?y15_13⟩) ?r15_13
   case y15_13 => (intro w; go_simp; try with_reducible rfl)
   refine wpAny_take (i := 16) (v := ?v16_14) rfl (by kernel_rfl) (by kernel_rfl) (by kernel_rfl) (fun _ _ _ h => h) (Or.inl ⟨by rfl, ?y16_14⟩) ?r16_14
   case y16_14 => (intro w; go_simp; try with_reducible rfl)
   refine wpAny_ready (rs := [0, 9]) (by kernel_rfl) (by simp) ?_
   refine AllReady.cons rfl (fun K hK => ?_) ?_
   ·go_simp
    refine hK _ _ ?_
    clear hK K
    refine wpAny_take (i := 8) (v := ?v8_15) rfl (by kernel_rfl) (by kernel_rfl) (by kernel_rfl) (fun _ _ _ h => h) (Or.inl ⟨by rfl, ?y8_15⟩) ?r8_15
    case y8_15 => (intro w; go_simp; try with_reducible rfl)
    refine wpAny_ready (rs := [9, 18]) (by kernel_rfl) (by simp) ?_
    refine AllReady.cons rfl (fun K hK => ?_) ?_
    ·go_simp
     refine hK _ _ ?_
     clear hK K
     refine wpAny_take (i := 17) (v := ?v17_16) rfl (by kernel_rfl) (by kernel_rfl) (by kernel_rfl) (fun _ _ _ h => h) (Or.inl ⟨by rfl, ?y17_16⟩) ?r17_16
     case y17_16 => (intro w; go_simp; try with_reducible rfl)
     refine wpAny_ready (rs := [18]) (by kernel_rfl) (by simp) ?_
     refine AllReady.cons rfl (fun K hK => ?_) ?_
     ·go_simp
      refine hK _ _ ?_
      clear hK K
      refine wpAny_ready (rs := [19]) (by kernel_rfl) (by simp) ?_
      refine AllReady.cons rfl (fun K hK => ?_) ?_
      ·go_simp
       refine hK _ _ ?_
       clear hK K
       refine wpAny_done (by kernel_rfl) ?_ _
       refine ⟨by simp, ?_⟩
       gi_wp2
       first
        | rw [e1, s1, s2]
        | rw [s1, s2]
        | skip
       exact near_end hb1 hb2 hb3 hb4 hb5 h5 hB hB2 hB3 k1 k4 f4 k2' k3' f2' f3' _ _
      exact AllReady.nil
     exact AllReady.nil
    refine AllReady.cons rfl (fun K hK => ?_) ?_
    ·go_simp
     refine hK _ _ ?_
     clear hK K
     refine wpAny_ready (rs := [9]) (by kernel_rfl) (by simp) ?_
     refine AllReady.cons rfl (fun K hK => ?_) ?_
     ·go_simp
      refine hK _ _ ?_
      clear hK K
      refine wpAny_take (i := 17) (v := ?v17_17) rfl (by kernel_rfl) (by kernel_rfl) (by kernel_rfl) (fun _ _ _ h => h) (Or.inl ⟨by rfl, ?y17_17⟩) ?r17_17
      case y17_17 => (intro w; go_simp; try with_reducible rfl)
      refine wpAny_ready (rs := [19]) (by kernel_rfl) (by simp) ?_
      refine AllReady.cons rfl (fun K hK => ?_) ?_
      ·go_simp
       refine hK _ _ ?_
       clear hK K
       refine wpAny_done (by kernel_rfl) ?_ _
       refine ⟨by simp, ?_⟩
       gi_wp2
       first
        | rw [e1, s1, s2]
        | rw [s1, s2]
        | skip
       exact near_end hb1 hb2 hb3 hb4 hb5 h5 hB hB2 hB3 k1 k4 f4 k2' k3' f2' f3' _ _
      exact AllReady.nil
     exact AllReady.nil
    exact AllReady.nil
   refine AllReady.cons rfl (fun K hK => ?_) ?_
   ·go_simp
    refine hK _ _ ?_
    clear hK K
    refine wpAny_take (i := 17) (v := ?v17_18) rfl (by kernel_rfl) (by kernel_rfl) (by kernel_rfl) (fun _ _ _ h => h) (Or.inl ⟨by rfl, ?y17_18⟩) ?r17_18
    case y17_18 => (intro w; go_simp; try with_reducible rfl)
    refine wpAny_ready (rs := [0]) (by kernel_rfl) (by simp) ?_
    refine AllReady.cons rfl (fun K hK => ?_) ?_
    ·go_simp
     refine hK _ _ ?_
     clear hK K
     refine wpAny_take (i := 8) (v := ?v8_19) rfl (by kernel_rfl) (by kernel_rfl) (by kernel_rfl) (fun _ _ _ h => h) (Or.inl ⟨by rfl, ?y8_19⟩) ?r8_19
     case y8_19 => (intro w; go_simp; try with_reducible rfl)
     refine wpAny_ready (rs := [18]) (by kernel_rfl) (by simp) ?_
     refine AllReady.cons rfl (fun K hK => ?_) ?_
     ·go_simp
      refine hK _ _ ?_
      clear hK K
      refine wpAny_ready (rs := [19]) (by kernel_rfl) (by simp) ?_
      refine AllReady.cons rfl (fun K hK => ?_) ?_
      ·go_simp
       refine hK _ _ ?_
       clear hK K
       refine wpAny_done (by kernel_rfl) ?_ _
       refine ⟨by simp, ?_⟩
       gi_wp2
       first
        | rw [e1, s1, s2]
        | rw [s1, s2]
        | skip
       exact near_end hb1 hb2 hb3 hb4 hb5 h5 hB hB2 hB3 k1 k4 f4 k2' k3' f2' f3' _ _
      exact AllReady.nil
     exact AllReady.nil
    exact AllReady.nil
   exact AllReady.nil
  ·have hp2 : ¬ x.1.1 = 2 := by simpa using ‹(x.val.fst == 2) = false›
   have s1 := (near_sum pre x hsm (by omega)).1
   have s2 := (near_sum pre x hsm (by omega)).2
   rw [(near1_odd hp2).1] at s1
   rw [(near1_odd hp2).2] at s2
   refine wpIn_region_round hmx (by rfl) ?_
   refine wpAny_take (i := 1) (v := ?v1_b1) rfl (by kernel_rfl) (by kernel_rfl) (by kernel_rfl) (fun _ _ _ h => h) (Or.inl ⟨by rfl, ?y1_b1⟩) ?r1_b1
   case y1_b1 => (intro w; go_simp; try with_reducible rfl)
   refine wpAny_take (i := 2) (v := ?v2_b2) rfl (by kernel_rfl) (by kernel_rfl) (by kernel_rfl) (fun _ _ _ h => h) (Or.inl ⟨by rfl, ?y2_b2⟩) ?r2_b2
   case y2_b2 => (intro w; go_simp; try with_reducible rfl)
   refine wpAny_take (i := 3) (v := ?v3_b3) rfl (by kernel_rfl) (by kernel_rfl) (by kernel_rfl) (fun _ _ _ h => h) (Or.inl ⟨by rfl, ?y3_b3⟩) ?r3_b3
   case y3_b3 => (intro w; go_simp; try with_reducible rfl)
   refine wpAny_take (i := 4) (v := ?v4_b4) rfl (by kernel_rfl) (by kernel_rfl) (by kernel_rfl) (fun _ _ _ h => h) (Or.inl ⟨by rfl, ?y4_b4⟩) ?r4_b4
   case y4_b4 => (intro w; go_simp; try with_reducible rfl)
   refine wpAny_take (i := 5) (v := ?v5_b5) rfl (by kernel_rfl) (by kernel_rfl) (by kernel_rfl) (fun _ _ _ h => h) (Or.inl ⟨by rfl, ?y5_b5⟩) ?r5_b5
   case y5_b5 => (intro w; go_simp; try with_reducible rfl)
   refine wpAny_take (i := 6) (v := ?v6_b6) rfl (by kernel_rfl) (by kernel_rfl) (by kernel_rfl) (fun _ _ _ h => h) (Or.inl ⟨by rfl, ?y6_b6⟩) ?r6_b6
   case y6_b6 => (intro w; go_simp; try with_reducible rfl)
   refine wpAny_take (i := 7) (v := ?v7_b7) rfl (by kernel_rfl) (by kernel_rfl) (by kernel_rfl) (fun _ _ _ h => h) (Or.inl ⟨by rfl, ?y7_b7⟩) ?r7_b7
   case y7_b7 => (intro w; go_simp; try with_reducible rfl)
   refine wpAny_take (i := 10) (v := ?v10_b8) rfl (by kernel_rfl) (by kernel_rfl) (by kernel_rfl) (fun _ _ _ h => h) (Or.inl ⟨by rfl, ?y10_b8⟩) ?r10_b8
   case y10_b8 => (intro w; go_simp; try with_reducible rfl)
   refine wpAny_take (i := 11) (v := ?v11_b9) rfl (by kernel_rfl) (by kernel_rfl) (by kernel_rfl) (fun _ _ _ h => h) (Or.inl ⟨by rfl, ?y11_b9⟩) ?r11_b9
   case y11_b9 => (intro w; go_simp; try with_reducible rfl)
   refine wpAny_take (i := 12) (v := ?v12_b10) rfl (by kernel_rfl) (by kernel_rfl) (by kernel_rfl) (fun _ _ _ h => h) (Or.inl ⟨by rfl, ?y12_b10⟩) ?r12_b10
   case y12_b10 => (intro w; go_simp; try with_reducible rfl)
   refine wpAny_take (i := 13) (v := ?v13_b11) rfl (by kernel_rfl) (by kernel_rfl) (by kernel_rfl) (fun _ _ _ h => h) (Or.inl ⟨by rfl, ?y13_b11⟩) ?r13_b11
   case y13_b11 => (intro w; go_simp; try with_reducible rfl)
   refine wpAny_take (i := 14) (v := ?v14_b12) rfl (by kernel_rfl) (by kernel_rfl) (by kernel_rfl) (fun _ _ _ h => h) (Or.inl ⟨by rfl, ?y14_b12⟩) ?r14_b12
   case y14_b12 => (intro w; go_simp; try with_reducible rfl)
   refine wpAny_take (i := 15) (v := ?v15_b13) rfl (by kernel_rfl) (by kernel_rfl) (by kernel_rfl) (fun _ _ _ h => h) (Or.inl ⟨by rfl, ?y15_b13⟩) ?r15_b13
   case y15_b13 => (intro w; go_simp; try with_reducible rfl)
   refine wpAny_take (i := 16) (v := ?v16_b14) rfl (by kernel_rfl) (by kernel_rfl) (by kernel_rfl) (fun _ _ _ h => h) (Or.inl ⟨by rfl, ?y16_b14⟩) ?r16_b14
   case y16_b14 => (intro w; go_simp; try with_reducible rfl)
   refine wpAny_ready (rs := [0, 9]) (by kernel_rfl) (by simp) ?_
   refine AllReady.cons rfl (fun K hK => ?_) ?_
   ·go_simp
    refine hK _ _ ?_
    clear hK K
    refine wpAny_take (i := 8) (v := ?v8_b15) rfl (by kernel_rfl) (by kernel_rfl) (by kernel_rfl) (fun _ _ _ h => h) (Or.inl ⟨by rfl, ?y8_b15⟩) ?r8_b15
    case y8_b15 => (intro w; go_simp; try with_reducible rfl)
    refine wpAny_ready (rs := [9, 18]) (by kernel_rfl) (by simp) ?_
    refine AllReady.cons rfl (fun K hK => ?_) ?_
    ·go_simp
     refine hK _ _ ?_
     clear hK K
     refine wpAny_take (i := 17) (v := ?v17_b16) rfl (by kernel_rfl) (by kernel_rfl) (by kernel_rfl) (fun _ _ _ h => h) (Or.inl ⟨by rfl, ?y17_b16⟩) ?r17_b16
     case y17_b16 => (intro w; go_simp; try with_reducible rfl)
     refine wpAny_ready (rs := [18]) (by kernel_rfl) (by simp) ?_
     refine AllReady.cons rfl (fun K hK => ?_) ?_
     ·go_simp
      refine hK _ _ ?_
      clear hK K
      refine wpAny_ready (rs := [19]) (by kernel_rfl) (by simp) ?_
      refine AllReady.cons rfl (fun K hK => ?_) ?_
      ·go_simp
       refine hK _ _ ?_
       clear hK K
       refine wpAny_done (by kernel_rfl) ?_ _
       refine ⟨by simp, ?_⟩
       gi_wp2
       first
        | rw [e1, s1, s2]
        | rw [s1, s2]
        | skip
       exact near_end hb1 hb2 hb3 hb4 hb5 h5 hB hB2 hB3 k1 k4 f4 k2' k3' f2' f3' _ _
      exact AllReady.nil
     exact AllReady.nil
    refine AllReady.cons rfl (fun K hK => ?_) ?_
    ·go_simp
     refine hK _ _ ?_
     clear hK K
     refine wpAny_ready (rs := [9]) (by kernel_rfl) (by simp) ?_
     refine AllReady.cons rfl (fun K hK => ?_) ?_
     ·go_simp
      refine hK _ _ ?_
      clear hK K
      refine wpAny_take (i := 17) (v := ?v17_b17) rfl (by kernel_rfl) (by kernel_rfl) (by kernel_rfl) (fun _ _ _ h => h) (Or.inl ⟨by rfl, ?y17_b17⟩) ?r17_b17
      case y17_b17 => (intro w; go_simp; try with_reducible rfl)
      refine wpAny_ready (rs := [19]) (by kernel_rfl) (by simp) ?_
      refine AllReady.cons rfl (fun K hK => ?_) ?_
      ·go_simp
       refine hK _ _ ?_
       clear hK K
       refine wpAny_done (by kernel_rfl) ?_ _
       refine ⟨by simp, ?_⟩
       gi_wp2
       first
        | rw [e1, s1, s2]
        | rw [s1, s2]
        | skip
       exact near_end hb1 hb2 hb3 hb4 hb5 h5 hB hB2 hB3 k1 k4 f4 k2' k3' f2' f3' _ _
      exact AllReady.nil
     exact AllReady.nil
    exact AllReady.nil
   refine AllReady.cons rfl (fun K hK => ?_) ?_
   ·go_simp
    refine hK _ _ ?_
    clear hK K
    refine wpAny_take (i := 17) (v := ?v17_b18) rfl (by kernel_rfl) (by kernel_rfl) (by kernel_rfl) (fun _ _ _ h => h) (Or.inl ⟨by rfl, ?y17_b18⟩) ?r17_b18
    case y17_b18 => (intro w; go_simp; try with_reducible rfl)
    refine wpAny_ready (rs := [0]) (by kernel_rfl) (by simp) ?_
    refine AllReady.cons rfl (fun K hK => ?_) ?_
    ·go_simp
     refine hK _ _ ?_
     clear hK K
     refine wpAny_take (i := 8) (v := ?v8_b19) rfl (by kernel_rfl) (by kernel_rfl) (by kernel_rfl) (fun _ _ _ h => h) (Or.inl ⟨by rfl, ?y8_b19⟩) ?r8_b19
     case y8_b19 => (intro w; go_simp; try with_reducible rfl)
     refine wpAny_ready (rs := [18]) (by kernel_rfl) (by simp) ?_
     refine AllReady.cons rfl (fun K hK => ?_) ?_
     ·go_simp
      refine hK _ _ ?_
      clear hK K
      refine wpAny_ready (rs := [19]) (by kernel_rfl) (by simp) ?_
      refine AllReady.cons rfl (fun K hK => ?_) ?_
      ·go_simp
       refine hK _ _ ?_
       clear hK K
       refine wpAny_done (by kernel_rfl) ?_ _
       refine ⟨by simp, ?_⟩
       gi_wp2
       first
        | rw [e1, s1, s2]
        | rw [s1, s2]
        | skip
       exact near_end hb1 hb2 hb3 hb4 hb5 h5 hB hB2 hB3 k1 k4 f4 k2' k3' f2' f3' _ _
      exact AllReady.nil
     exact AllReady.nil
    exact AllReady.nil
   exact AllReady.nil
 case done =>
  rintro D ys W hD rfl ⟨⟨k1, ⟨k2, f2⟩, ⟨k3, f3⟩, k4, f4⟩, hB, h5⟩ hK
  gi_wp2
  refine wpIn_wide.2 ?_
  go_region
  gi_wp2
  have q2 := World.cell?_setCell_same' W ⟨b2, 0, none⟩ (.int .i64 (nearL (pairs (uptoF f len))).1) (by rw [k2]; rfl)
  have hlt := (Array.getElem?_eq_some_iff.1 hK).1
  refine ⟨by simp, .inl ⟨_, _, rfl, run_takeDeferred (ds := []) ?_, ?_⟩⟩
  ·show (((W.setCell ⟨b2, 0, none⟩ _).setCell ⟨b3, 0, none⟩ _).setCell ⟨b4, 0, none⟩ _).heap[D]? = _
   rw [Below.heap_setCell _ _ _ _ (show D ≠ b4 by omega), Below.heap_setCell _ _ _ _ (show D ≠ b3 by omega), Below.heap_setCell _ _ _ _ (show D ≠ b2 by omega)]
   exact hK
  ·have hne2 : b2 ≠ D := by omega
   have hne3 : b3 ≠ D := by omega
   have hne4 : b4 ≠ D := by omega
   have hBf : Below w.heap.size w (((((W.setCell ⟨b2, 0, none⟩ (.int .i64 (nearL (pairs (uptoF f len))).1)).setCell ⟨b3, 0, none⟩ (.int .i64 (nearL (pairs (uptoF f len))).2)).setCell ⟨b4, 0, none⟩ (.bool true)).drew).putObj D (.deferred none)) := by
    have t := (((hB.setCell (p := ⟨b2, 0, none⟩) (show w.heap.size <= b2 by omega) (.int .i64 (nearL (pairs (uptoF f len))).1)).setCell (p := ⟨b3, 0, none⟩) (show w.heap.size <= b3 by omega) (.int .i64 (nearL (pairs (uptoF f len))).2)).setCell (p := ⟨b4, 0, none⟩) (show w.heap.size <= b4 by omega) (.bool true)).drew
    exact t.grown (grownBy_putObj' _ _ _) t.size (fun k e => by cases e; omega)
   have w3 : ((W.setCell ⟨b2, 0, none⟩ (.int .i64 (nearL (pairs (uptoF f len))).1)).setCell ⟨b3, 0, none⟩ (.int .i64 (nearL (pairs (uptoF f len))).2)).cell? ⟨b3, 0, none⟩ = some (.int .i64 (nearL (pairs (uptoF f len))).2) :=
    World.cell?_setCell_same' _ _ _ (by rw [World.cell?_setCell_other _ _ _ _ (by intro h; cases h; omega), k3]; rfl)
   have w4 : (((W.setCell ⟨b2, 0, none⟩ (.int .i64 (nearL (pairs (uptoF f len))).1)).setCell ⟨b3, 0, none⟩ (.int .i64 (nearL (pairs (uptoF f len))).2)).setCell ⟨b4, 0, none⟩ (.bool true)).cell? ⟨b4, 0, none⟩ = some (.bool true) :=
    World.cell?_setCell_same' _ _ _ (by rw [World.cell?_setCell_other _ _ _ _ (by intro h; cases h; omega), World.cell?_setCell_other _ _ _ _ (by intro h; cases h; omega), k4]; rfl)
   have c2 := (World.cell?_of_block (a := ⟨b2, 0, none⟩) (World.putObj_heap_other (o := .deferred none) (w := (((W.setCell ⟨b2, 0, none⟩ (.int .i64 (nearL (pairs (uptoF f len))).1)).setCell ⟨b3, 0, none⟩ (.int .i64 (nearL (pairs (uptoF f len))).2)).setCell ⟨b4, 0, none⟩ (.bool true)).drew) hne2)).trans
    ((cell_drew_own _ _).trans ((World.cell?_setCell_other _ _ _ _ (by intro h; cases h; omega)).trans ((World.cell?_setCell_other _ _ _ _ (by intro h; cases h; omega)).trans q2)))
   have c3 := (World.cell?_of_block (a := ⟨b3, 0, none⟩) (World.putObj_heap_other (o := .deferred none) (w := (((W.setCell ⟨b2, 0, none⟩ (.int .i64 (nearL (pairs (uptoF f len))).1)).setCell ⟨b3, 0, none⟩ (.int .i64 (nearL (pairs (uptoF f len))).2)).setCell ⟨b4, 0, none⟩ (.bool true)).drew) hne3)).trans
    ((cell_drew_own _ _).trans ((World.cell?_setCell_other _ _ _ _ (by intro h; cases h; omega)).trans w3))
   have c4 := (World.cell?_of_block (a := ⟨b4, 0, none⟩) (World.putObj_heap_other (o := .deferred none) (w := (((W.setCell ⟨b2, 0, none⟩ (.int .i64 (nearL (pairs (uptoF f len))).1)).setCell ⟨b3, 0, none⟩ (.int .i64 (nearL (pairs (uptoF f len))).2)).setCell ⟨b4, 0, none⟩ (.bool true)).drew) hne4)).trans
    ((cell_drew_own _ _).trans w4)
   generalize (((((W.setCell ⟨b2, 0, none⟩ (.int .i64 (nearL (pairs (uptoF f len))).1)).setCell ⟨b3, 0, none⟩ (.int .i64 (nearL (pairs (uptoF f len))).2)).setCell ⟨b4, 0, none⟩ (.bool true)).drew).putObj D (.deferred none)) = Wf at hBf c2 c3 c4 ⊢
   refine ⟨_, ?_, rfl, hBf⟩
   have hres : Tryz.f191.results = #[.cell 4 3, .cell 5 3, .cell 6 4] := by kernel_rfl
   simp only [results, hres]
   go_simp
 case stop =>
  rintro D c pre W _ _ h _
  exact h.elim
end Go.Ev
