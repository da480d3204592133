/- What the printed functions come to at small numbers, and the mathematics of scales and classes. No conditions but those of each -/
import Derived.Laws.Strings
import Derived.Test.YthgolelddficaaaGreatDoorXh0
import Derived.Test.YthgolelddficaaaGreatDoorXd1
set_option linter.unusedVariables false
set_option linter.unusedSimpArgs false
namespace Go.Ev
open Go Go.RowKit
theorem wI_eq {n : Int} (h : -9223372036854775808 <= n /\ n <= 9223372036854775807) : wI n = n := by
 show IntKind.i64.wrap n = n
 unfold IntKind.wrap
 simp [IntKind.bits, IntKind.signed] <;> omega
theorem wU_eq {n : Int} (h : 0 <= n /\ n < 18446744073709551616) : IntKind.u64.wrap n = n := by
 unfold IntKind.wrap
 simp [IntKind.bits, IntKind.signed] <;> omega
theorem itoaB_len (n : Int) : (itoaB n).size = (Lib.itoa n).length := by simp [itoaB, ByteArray.size]
theorem itoaB_toList (n : Int) : (itoaB n).toList = Lib.itoa n := by rw [ByteArray.toList_eq, itoaB_list]
theorem itoa_len_le {n : Int} (k : Nat) (hk : 0 < k) (h1 : -(10 ^ k : Nat) < n) (h2 : n < (10 ^ (k + 1) : Nat)) : (Lib.itoa n).length <= k + 1 := by
 unfold Lib.itoa
 split
 ·have := decDigits_len k n.natAbs hk (by omega)
  simp; omega
 ·exact decDigits_len (k + 1) n.toNat (by omega) (by omega)
theorem itoaB_ne (n : Int) : 0 < (itoaB n).size := by
 rw [itoaB_len]
 unfold Lib.itoa
 split
 ·simp
 ·exact List.length_pos_iff.2 (decDigits_ne _)
theorem itoaB_eq_iff {n m : Int} (hn : -1000000000000000000 < n /\ n < 1000000000000000000) (hm : -1000000000000000000 < m /\ m < 1000000000000000000) : ((itoaB n).toList == (itoaB m).toList) = decide (n = m) := by
 by_cases h : n = m
 ·subst h; simp
 ·have : (itoaB n).toList ≠ (itoaB m).toList := fun he => h (itoaB_inj hn.1 hn.2 hm.1 hm.2 (by
   rw [itoaB_toList, itoaB_toList] at he
   simp [itoaB, he]))
  simp [h, this]
theorem itoaB_beq {n m : Int} (hn : -1000000000000000000 < n /\ n < 1000000000000000000) (hm : -1000000000000000000 < m /\ m < 1000000000000000000) : (itoaB n == itoaB m) = decide (n = m) := by
 have e : (itoaB n == itoaB m) = ((itoaB n).data == (itoaB m).data) := rfl
 rw [e]
 by_cases h : n = m
 ·subst h; simp
 ·have : (itoaB n).data ≠ (itoaB m).data := fun he => h (itoaB_inj hn.1 hn.2 hm.1 hm.2 (ByteArray.ext he))
  simp [h, this]
theorem itoaB_head (n : Int) : ∃ b : UInt8, (itoaB n)[0]? = some b /\ (b.toNat = 45 ↔ n < 0) := by
 have hne := itoaB_ne n
 refine ⟨(itoaB n)[0], by simp [hne], ?_⟩
 have hget : (itoaB n)[0] = (Lib.itoa n)[0]'(by rw [<- itoaB_len]; exact hne) := by
  simp [itoaB, ByteArray.getElem_eq_getElem_data]
 rw [hget]
 unfold Lib.itoa
 split
 ·next h => simp [h]
 ·next h =>
  have := decDigits_dig n.toNat ((Lib.decDigits n.toNat)[0]'(List.length_pos_iff.2 (decDigits_ne _))) (List.getElem_mem _)
  constructor
  ·intro he; omega
  ·intro he; omega
theorem itoaB_oByte (n : Int) (f : UInt8 -> Bool) (x y : Bool) (hf : ∀ b : UInt8, f b = bif (((b.toNat : Nat) : Int) == 45) then x else y) : oByte ((itoaB n)[0]?) f = bif decide (n < 0) then x else y := by
 obtain ⟨b, h1, h2⟩ := itoaB_head n
 rw [h1]
 show f b = _
 rw [hf]
 by_cases h : n < 0
 ·have := h2.2 h
  simp [h, this]
 ·have : ¬ b.toNat = 45 := fun e => h (h2.1 e)
  have : ((b.toNat : Int) == 45) = false := by simp; omega
  simp [h, this]
theorem itoaB_tail {n : Int} (h : n < 0) : (itoaB n).extract 1 (itoaB n).size = itoaB (-n) := by
 have e1 : Lib.itoa n = 45 :: Lib.itoa (-n) := by
  unfold Lib.itoa
  rw [if_pos h, if_neg (by omega)]
  congr 2; omega
 apply ByteArray.ext
 apply Array.toList_inj.1
 rw [ByteArray.data_extract, Array.toList_extract, itoaB_list, itoaB_len, itoaB_list, e1]
 simp [List.extract]
theorem itoaB_neg {n : Int} (h : 0 < n) : (⟨#[45]⟩ : ByteArray) ++ itoaB n = itoaB (-n) := by
 have e1 : Lib.itoa (-n) = 45 :: Lib.itoa n := by
  unfold Lib.itoa
  rw [if_pos (by omega), if_neg (by omega)]
  congr 2; omega
 apply ByteArray.ext
 apply Array.toList_inj.1
 rw [ByteArray.data_append, Array.toList_append, itoaB_list, itoaB_list, e1]
 rfl
theorem extract_all (s : ByteArray) : s.extract 0 s.size = s := by
 apply ByteArray.ext
 apply Array.toList_inj.1
 rw [ByteArray.data_extract, Array.toList_extract]
 show (s.data.toList.drop 0).take (s.data.size - 0) = _
 exact List.take_of_length_le (by simp)
theorem extract_none (s : ByteArray) : s.extract 0 0 = ⟨#[]⟩ := by
 apply ByteArray.ext
 apply Array.toList_inj.1
 simp [ByteArray.data_extract]
theorem H112_num {n : Int} (h : -9223372036854775808 <= n /\ n <= 9223372036854775807) (K : ByteArray -> Bool) : H112 n K = K (itoaB n) := by
 rw [H112_def]; unfold D112; simp [h.1, h.2]
theorem loop_iter {α : Type} (F : Nat -> α -> Bool) (m : Nat) (st : Nat -> α) {R : Bool} (hstep : ∀ i, i < m -> ∀ n, F (n + 1) (st i) = F n (st (i + 1))) (hend : ∀ n, F (n + 1) (st m) = R) : ∀ n, m < n -> F n (st 0) = R := by
 have key : ∀ k, k <= m -> ∀ n, m - k < n -> F n (st k) = R := by
  intro k
  induction h : m - k generalizing k with
  | zero =>
   intro hk n hn
   obtain rfl : k = m := by omega
   obtain ⟨n, rfl⟩ : ∃ q, n = q + 1 := ⟨n - 1, by omega⟩
   exact hend n
  | succ d ih =>
   intro hk n hn
   obtain ⟨n, rfl⟩ : ∃ q, n = q + 1 := ⟨n - 1, by omega⟩
   rw [hstep k (by omega)]
   exact ih (k + 1) (by omega) (by omega) n (by omega)
 intro n hn
 exact key 0 (by omega) n (by omega)
end Go.Ev

namespace Go.Ev
open Go Go.RowKit
theorem fuel_add (m : Nat) (h : m <= 1000000 := by omega) : ∃ k, fuel = k + m := ⟨100000000000000000000 - m, by rw [fuel_eq]; omega⟩
theorem s30_eq : s_30 = itoaB 0 := by
 unfold s_30 itoaB Lib.itoa
 rw [if_neg (by omega)]
 show _ = (⟨(Lib.decDigits 0).toArray⟩ : ByteArray)
 rw [Lib.decDigits, dif_pos (by omega)]
 rfl
theorem s31_eq : s_31 = itoaB 1 := by
 unfold s_31 itoaB Lib.itoa
 rw [if_neg (by omega)]
 show _ = (⟨(Lib.decDigits 1).toArray⟩ : ByteArray)
 rw [Lib.decDigits, dif_pos (by omega)]
 rfl
theorem l150 {n : Int} (h : -9223372036854775808 <= n /\ n <= 9223372036854775807) (K : ByteArray -> Bool) : Q150 n K = K (itoaB n) := by
 rw [Q150_def]; unfold G150; rw [H112_num h]
theorem l82 {n : Int} (h : -9223372036854775808 <= n /\ n <= 9223372036854775807) (K : ByteArray -> Bool) : Q82 n K = K (itoaB n) := by
 rw [Q82_def]; unfold G82; rw [H112_num h]
theorem l45 {n : Int} (h : -9223372036854775808 <= n /\ n <= 9223372036854775807) (K : ByteArray -> ByteArray -> Bool) : Q45 n K = K (itoaB n) (itoaB 1) := by
 rw [Q45_def]; unfold G45; rw [l82 h, s31_eq]
theorem itoaB_take1 (n : Int) : ((itoaB n).extract 0 1).toList = (Lib.itoa n).take 1 := by
 rw [ByteArray.toList_eq, ByteArray.data_extract, Array.toList_extract, itoaB_list]
 rfl
theorem take1_minus (n : Int) : ((Lib.itoa n).take 1 == [45]) = decide (n < 0) := by
 by_cases h : n < 0
 ·have : Lib.itoa n = 45 :: Lib.decDigits n.natAbs := by unfold Lib.itoa; rw [if_pos h]
  simp [this, h]
 ·have : Lib.itoa n = Lib.decDigits n.toNat := by unfold Lib.itoa; rw [if_neg h]
  cases hd : Lib.decDigits n.toNat with
  | nil => exact absurd hd (decDigits_ne _)
  | cons c r =>
   have hc := decDigits_dig n.toNat c (by rw [hd]; simp)
   have : ¬ c = 45 := by rintro rfl; exact absurd hc.1 (by decide)
   simp [*]
theorem l148 (n : Int) (K : Bool -> Bool) : Q148 (itoaB n) s_2d K = K (decide (n < 0)) := by
 have h1 : s_2d.size = 1 := rfl
 have h2 := itoaB_ne n
 have h3 : s_2d.toList = [45] := by rw [ByteArray.toList_eq]; rfl
 rw [Q148_def]; unfold G148; rw [Q184_def]; unfold G184
 simp only [nI, h1, h3, itoaB_take1, take1_minus, Int.toNat_natCast]
 have h4 : decide (((itoaB n).size : Int) >= ((1 : Nat) : Int)) = true := by simp; omega
 have h5 : decide (1 <= (itoaB n).size) = true := by simp; omega
 rw [h4]
 simp [h5, itoaB_take1, take1_minus]
def digs (n : Int) : List PVal := if n = 0 then [] else [xI (n.natAbs : Int)]
theorem l147_nil (b : Bool) (K : Bool -> List PVal -> Bool) : Q147 b [] K = K false [] := by
 obtain ⟨k, hk⟩ := fuel_add 1
 rw [Q147_def]; unfold G147 L147_0_0
 rw [hk]
 simp [LP147_0, St147_0_0]
theorem l147_one (b : Bool) {m : Int} (hm : m ≠ 0) (K : Bool -> List PVal -> Bool) : Q147 b [xI m] K = K b [xI m] := by
 obtain ⟨k, hk⟩ := fuel_add 1
 rw [Q147_def]; unfold G147 L147_0_0
 rw [hk]
 have w0 : wI 0 = 0 := by decide
 have hb : (m == 0) = false := beq_eq_false_iff_ne.2 hm
 cases b <;> simp [LP147_0, St147_0_0, oOpt, oInt, hb, w0]
theorem itoaB_le9 {m : Int} (h0 : 0 <= m) (h : m < 1000000000) : (itoaB m).size <= 9 := by
 rw [itoaB_len]
 exact itoa_len_le (n := m) 8 (by omega) (by omega) (by omega)
theorem To_loop {m : Int} (h0 : 0 <= m) (h : m < 1000000000) (a b : Bool) (e0 : Bool -> Bool -> Bool) (e1 : Bool -> Bool -> List PVal -> Bool) : L102_0_0 e0 e1 fuel (itoaB m) a b = e1 a b [xI m] := by
 obtain ⟨k, hk⟩ := fuel_add 2
 have h9 := itoaB_le9 h0 h
 have hp := itoaB_ne m
 have hmax : (if (wI ((nI (itoaB m).size) - 9)) > 0 then (wI ((nI (itoaB m).size) - 9)) else 0) = 0 := by
  rw [wI_eq (by simp only [nI]; omega)]
  rw [if_neg (by simp only [nI]; omega)]
 have he : (⟨#[]⟩ : ByteArray).size = 0 := rfl
 have hd : decide (nI (itoaB m).size > 0) = true := by simp only [nI]; simp; omega
 have hd0 : decide (nI 0 > 0) = false := by decide
 unfold L102_0_0
 rw [hk]
 simp only [LP102_0, St102_0_0, hmax, hd, cond_true, Int.toNat_zero, extract_all, extract_none, H149_num (show -1000000000000000000 < m by omega) (show m < 1000000000000000000 by omega)]
 simp [St102_0_1, he]
theorem l102 {n : Int} (h : -1000000000 < n /\ n < 1000000000) (K : Bool -> List PVal -> Bool) : Q102 (itoaB n) K = K (decide (n < 0)) (digs n) := by
 have hd : ∀ (b : Bool) (m : Int), 0 <= m -> Q147 b [xI m] K = K (b && decide (m ≠ 0)) (digs m) := by
  intro b m h0
  by_cases hm : m = 0
  ·subst hm
   obtain ⟨k, hk⟩ := fuel_add 2
   have w0 : wI 0 = 0 := by decide
   rw [Q147_def]; unfold G147 L147_0_0
   rw [hk]
   simp [LP147_0, St147_0_0, oOpt, oInt, w0, digs]
  ·rw [l147_one b hm]
   have : (m.natAbs : Int) = m := by omega
   simp [digs, hm, this]
 rw [Q102_def]; unfold G102
 simp only [l148]
 by_cases hn : n < 0
 ·have hp := itoaB_ne n
  have h1 : decide (1 <= (itoaB n).size) = true := by simp; omega
  simp only [hn, decide_true, cond_true, h1, Nat.le_refl, Bool.and_self, gd_true, itoaB_tail hn]
  rw [To_loop (by omega) (by omega), hd _ _ (by omega)]
  have : ¬ -n = 0 := by omega
  have h0 : ¬ n = 0 := by omega
  simp [digs, this, h0]
 ·simp only [hn, decide_false, cond_false]
  rw [To_loop (by omega) (by omega), hd _ _ (by omega)]
  simp
theorem l103 {n : Int} (h : -1000000000 < n /\ n < 1000000000) (K : Bool -> List PVal -> Bool) : Q103 n K = K (decide (n < 0)) (digs n) := by
 rw [Q103_def]; unfold G103
 rw [l150 (by omega), l102 h]
end Go.Ev

namespace Go.Ev
open Go Go.RowKit
theorem tmod_gcd (x y : Int) (hy : y ≠ 0) : Nat.gcd y.natAbs (x.tmod y).natAbs = Nat.gcd x.natAbs y.natAbs := by
 rw [Int.natAbs_tmod, Nat.gcd_comm x.natAbs, <- Nat.gcd_rec_aux' x.natAbs y.natAbs]
where
 Nat.gcd_rec_aux' (a b : Nat) : Nat.gcd b (a % b) = Nat.gcd b a := by rw [Nat.gcd_comm b (a % b), <- Nat.gcd_rec b a]
theorem gcd143 {e0 : Int -> Int -> Int -> Bool -> List PVal -> ByteArray -> ByteArray -> Bool} {p q : Int} {b : Bool} {l : List PVal} {s t : ByteArray} : ∀ (k : Nat) (x y : Int), 0 <= x -> 0 <= y -> y.natAbs < k ->
  LP143_0 e0 k p q x y b l s t = e0 p q ((Nat.gcd x.natAbs y.natAbs : Nat) : Int) b l s t
 | 0, x, y, _, _, h => by omega
 | k + 1, x, y, hx, hy, h => by
  simp only [LP143_0, St143_0_0]
  by_cases h0 : y = 0
  ·subst h0
   have : (x.natAbs : Int) = x := by omega
   simp [this]
  ·have h1 : decide (y > 0) = true := by simp; omega
   have h2 : (y == 0) = false := beq_eq_false_iff_ne.2 h0
   rw [h1, h2]
   simp only [cond_true, cond_false]
   have hlt : (x.tmod y).natAbs < y.natAbs := by rw [Int.natAbs_tmod]; exact Nat.mod_lt _ (by omega)
   rw [gcd143 k y (x.tmod y) hy (Int.tmod_nonneg _ hx) (by omega), tmod_gcd x y h0]
theorem num_of {n : Int} {d : Nat} (hd : 0 < d) : Int.tdiv n ((Nat.gcd n.natAbs d : Nat) : Int) = (mkRat n d).num := by
 rw [Rat.num_mkRat, if_neg (by omega), Nat.gcd_comm d]
 exact Int.tdiv_eq_ediv_of_dvd (Int.ofNat_dvd_left.2 (Nat.gcd_dvd_left _ _))
theorem den_of {n : Int} {d : Nat} (hd : 0 < d) : Int.tdiv (d : Int) ((Nat.gcd n.natAbs d : Nat) : Int) = ((mkRat n d).den : Int) := by
 rw [Rat.den_mkRat, if_neg (by omega), Nat.gcd_comm d]
 rw [Int.tdiv_eq_ediv_of_dvd (Int.natCast_dvd_natCast.2 (Nat.gcd_dvd_right _ _))]
 simp
theorem num_abs {n : Int} {d : Nat} (hd : 0 < d) : Int.tdiv (n.natAbs : Int) ((Nat.gcd n.natAbs d : Nat) : Int) = ((mkRat n d).num.natAbs : Int) := by
 rw [<- num_of hd, Int.natAbs_tdiv]
 rw [Int.tdiv_eq_ediv_of_nonneg (by omega)]
 rfl
theorem num_small {n : Int} {d : Nat} (hd : 0 < d) : (mkRat n d).num.natAbs <= n.natAbs := by
 rw [<- num_of hd]
 exact Int.natAbs_tdiv_le_natAbs _ _
theorem den_small {n : Int} {d : Nat} (hd : 0 < d) : (mkRat n d).den <= d := by
 rw [Rat.den_mkRat, if_neg (by omega)]
 exact Nat.div_le_self _ _
theorem num_sign {n : Int} {d : Nat} (hd : 0 < d) : (mkRat n d).num < 0 ↔ n < 0 := by
 have h1 : 0 <= (mkRat n d).num ↔ 0 <= n := by
  rw [Rat.num_nonneg, <- Rat.divInt_ofNat]
  exact Rat.divInt_nonneg_iff_of_pos_right (by omega)
 omega
theorem digs_len (n : Int) : (digs n).length <= 1 := by unfold digs; split <;> simp
theorem l143 {n : Int} {d : Nat} (hd : 0 < d) (hn : -1000000000000000000 < n /\ n < 1000000000000000000) (hd2 : d < 1000000000) (K : ByteArray -> ByteArray -> Bool) :
  Q143 (decide (n < 0)) (digs n) d K = K (itoaB (mkRat n d).num) (itoaB (mkRat n d).den) := by
 have hg : 0 < Nat.gcd n.natAbs d := Nat.gcd_pos_of_pos_right _ hd
 have hg0 : (((Nat.gcd n.natAbs d : Nat) : Int) == 0) = false := beq_eq_false_iff_ne.2 (by omega)
 have hns := num_small (n := n) hd
 have hds := den_small (n := n) hd
 have hsg := num_sign (n := n) hd
 have main : ∀ x : Int, x = n.natAbs -> L143_0_0 (fun y3v y4v y5v y6v y7v y8v y9v => (bif (y5v == 0) then false else (bif (y5v == 0) then false else (bif y6v then (Q150 (wI (0 - (wI (Int.tdiv y4v y5v)))) (fun z10v => (Q150 (wI (Int.tdiv y3v y5v)) (fun z11v => (K z10v z11v))))) else (Q150 (wI (Int.tdiv y4v y5v)) (fun z12v => (Q150 (wI (Int.tdiv y3v y5v)) (fun z13v => (K z12v z13v))))))))) fuel d x x d (decide (n < 0)) (digs n) s_e s_e = K (itoaB (mkRat n d).num) (itoaB (mkRat n d).den) := by
  rintro x rfl
  unfold L143_0_0
  rw [gcd143 fuel _ _ (by omega) (by omega) (by rw [fuel_eq]; omega)]
  simp only [Int.natAbs_natCast, hg0, cond_false, num_abs hd, den_of hd]
  have e1 : wI ((mkRat n d).num.natAbs : Int) = ((mkRat n d).num.natAbs : Int) := wI_eq (by omega)
  have e2 : wI ((mkRat n d).den : Int) = ((mkRat n d).den : Int) := wI_eq (by omega)
  rw [e1, e2]
  by_cases hneg : n < 0
  ·have h1 := hsg.2 hneg
   have e3 : wI (0 - ((mkRat n d).num.natAbs : Int)) = (mkRat n d).num := by rw [wI_eq (by omega)]; omega
   simp only [hneg, decide_true, cond_true, e3]
   rw [l150 (by omega), l150 (by omega)]
  ·have h1 : ¬ (mkRat n d).num < 0 := fun h => hneg (hsg.1 h)
   have e3 : ((mkRat n d).num.natAbs : Int) = (mkRat n d).num := by omega
   simp only [hneg, decide_false, cond_false, e3]
   rw [l150 (by omega), l150 (by omega)]
 rw [Q143_def]; unfold G143
 by_cases h0 : n = 0
 ·have hl : digs n = [] := by simp [digs, h0]
  rw [hl] at main ⊢
  simp only [List.length_nil, nI]
  have := main 0 (by omega)
  simpa using this
 ·have hl : digs n = [xI n.natAbs] := by simp [digs, h0]
  rw [hl] at main ⊢
  have := main n.natAbs rfl
  simpa [oOpt, oInt] using this
theorem l141 (n : Int) (K : Int -> Bool) : Q141 (decide (n < 0)) (digs n) K = K (if n = 0 then 0 else if n < 0 then -1 else 1) := by
 rw [Q141_def]; unfold G141 digs
 by_cases h0 : n = 0
 ·simp [h0]
 ·by_cases h1 : n < 0 <;> simp [h0, h1]
theorem l100 {n : Int} {d : Nat} (hd : 0 < d) (hn : -1000000000 < n /\ n < 1000000000) (hd2 : d < 1000000000) (b : Bool) (hb : b = false) (K : ByteArray -> ByteArray -> Bool) :
  Q100 (decide (n < 0)) (digs n) b (digs d) K = K (itoaB (mkRat n d).num) (itoaB (mkRat n d).den) := by
 rw [Q100_def]; unfold G100
 have h1 : Q141 b (digs d) = fun K => K 1 := by
  funext K
  have := l141 (d : Int) K
  have e : decide ((d : Int) < 0) = b := by rw [hb]; simp
  rw [e] at this
  rw [this, if_neg (by omega), if_neg (by omega)]
 rw [h1]
 have h2 : digs (d : Int) = [xI d] := by simp [digs]; omega
 have h3 := digs_len n
 have h4 : decide (nI (digs n).length <= 1) = true := by simp only [nI]; simp; omega
 simp only [h2, h4, cond_true]
 simp only [List.length_singleton, oOpt, oInt]
 have := l143 (n := n) hd (by omega) hd2 K
 simpa using this
theorem l74 {n : Int} {d : Nat} (hd : 0 < d) (hn : -1000000000 < n /\ n < 1000000000) (hd2 : d < 1000000000) (K : ByteArray -> ByteArray -> Bool) :
  Q74 n d K = K (itoaB (mkRat n d).num) (itoaB (mkRat n d).den) := by
 rw [Q74_def]; unfold G74
 rw [l103 hn, l103 (by omega)]
 exact l100 hd hn hd2 _ (by simp) K
theorem l39 {n : Int} {d : Nat} (hd : 0 < d) (hn : -1000000000 < n /\ n < 1000000000) (hd2 : d < 1000000000) (K : ByteArray -> ByteArray -> Bool) :
  Q39 n d K = K (itoaB (mkRat n d).num) (itoaB (mkRat n d).den) := by
 rw [Q39_def]; unfold G39; rw [l74 hd hn hd2]
end Go.Ev

namespace Go.Ev
open Go Go.RowKit
theorem decDigits_head : ∀ (u : Nat), 10 <= u -> ∃ c r, Lib.decDigits u = c :: r /\ c ≠ 48 /\ r ≠ [] := by
 intro u
 induction u using Nat.strongRecOn with
 | _ u ih =>
  intro hu
  rw [Lib.decDigits, dif_neg (by omega)]
  by_cases h : u / 10 < 10
  ·rw [Lib.decDigits, dif_pos h]
   refine ⟨_, _, rfl, ?_, by simp⟩
   intro he
   have := congrArg UInt8.toNat he
   rw [digit_toNat h] at this
   have h2 : (48 : UInt8).toNat = 48 := rfl
   omega
  ·obtain ⟨c, r, h1, h2, h3⟩ := ih (u / 10) (by omega) (by omega)
   rw [h1]
   exact ⟨c, _, rfl, h2, by simp⟩
theorem canonB_itoa {m : Int} (h : 0 <= m) : canonB (itoaB m) = true := by
 unfold canonB
 rw [itoaB_list, itoa_nat h]
 have hall : (Lib.decDigits m.toNat).all digB = true := by
  rw [List.all_eq_true]
  intro c hc
  have := decDigits_dig _ c hc
  simp [digB, this]
 rw [hall, Bool.true_and]
 by_cases h10 : m.toNat < 10
 ·rw [Lib.decDigits, dif_pos h10]
 ·obtain ⟨c, r, h1, h2, h3⟩ := decDigits_head m.toNat (by omega)
  rw [h1]
  cases r with
  | nil => exact absurd rfl h3
  | cons d r => simp [h2]
theorem l151 (n : Int) (K : Bool -> ByteArray -> Bool) : Q151 (itoaB n) K = K (decide (n < 0)) (itoaB n.natAbs) := by
 have hp := itoaB_ne n
 have h1 : decide ((nI (itoaB n).size) > 0) = true := by simp only [nI]; simp; omega
 have h2 : decide (1 <= (itoaB n).size) = true := by simp; omega
 rw [Q151_def]; unfold G151
 rw [h1]
 simp only [cond_true, h2, Nat.le_refl, decide_true, Bool.and_self, gd_true]
 rw [itoaB_oByte n _ (K true ((itoaB n).extract 1 (itoaB n).size)) (K false (itoaB n)) (fun b => rfl)]
 by_cases hn : n < 0
 ·have : (n.natAbs : Int) = -n := by omega
  simp only [hn, decide_true, cond_true, itoaB_tail hn, this]
 ·have : (n.natAbs : Int) = n := by omega
  simp only [hn, decide_false, cond_false, this]
theorem l127 (n : Int) (K : ByteArray -> Bool) : Q127 (itoaB n) K = K (itoaB n.natAbs) := by
 rw [Q127_def]; unfold G127; rw [l151]
theorem l152 {m : Int} (h : 0 <= m) (h2 : m < 1000000000000000000) (K : Int -> Bool) : Q152 (itoaB m) K = K 0 := by
 have hs := itoaB_size (n := m) (by omega) h2
 have : decide ((nI (itoaB m).size) > 400) = false := by simp only [nI]; simp; omega
 rw [Q152_def]; unfold G152
 rw [H187_def]
 unfold D187
 rw [canonB_itoa h, decide_eq_true (show (itoaB m).size <= 1000000 by omega)]
 simp only [Bool.not_true, cond_false, cond_true, this]
theorem eq30 {n : Int} (hn : -1000000000000000000 < n /\ n < 1000000000000000000) : ((itoaB n).toList == s_30.toList) = decide (n = 0) := by
 rw [s30_eq]; exact itoaB_eq_iff hn (by omega)
theorem eq31 {n : Int} (hn : -1000000000000000000 < n /\ n < 1000000000000000000) : ((itoaB n).toList == s_31.toList) = decide (n = 1) := by
 rw [s31_eq]; exact itoaB_eq_iff hn (by omega)
theorem l105 {n : Int} (h : -1000000000000000000 < n /\ n < 1000000000000000000) (K : Int -> Bool) : Q105 (itoaB n) K = K 0 := by
 rw [Q105_def]; unfold G105
 rw [l151]
 rw [l152 (by omega) (by omega), eq30 (by omega)]
 by_cases hn : n < 0
 ·have : ¬ (n.natAbs : Int) = 0 := by omega
  have h0 : ¬ n = 0 := by omega
  simp [hn, this, h0]
 ·simp [hn]
theorem l106 {n : Int} (h : -1000000000000000000 < n /\ n < 1000000000000000000) (K : Int -> Bool) : Q106 (itoaB n) K = K (if n = 0 then 0 else if n < 0 then -1 else 1) := by
 rw [Q106_def]; unfold G106
 rw [eq30 h, itoaB_oByte n _ (K (-1)) (K 1) (fun b => rfl)]
 by_cases h0 : n = 0
 ·simp [h0]
 ·by_cases h1 : n < 0 <;> simp [h0, h1]
theorem size_le9 {n : Int} (h : -100000000 < n /\ n < 1000000000) : (itoaB n).size <= 9 := by
 rw [itoaB_len]; exact itoa_len_le (n := n) 8 (by omega) (by omega) (by omega)
theorem size_le18 {n : Int} (h : -100000000000000000 < n /\ n < 1000000000000000000) : (itoaB n).size <= 18 := by
 rw [itoaB_len]; exact itoa_len_le (n := n) 17 (by omega) (by omega) (by omega)
theorem l153_18 {n : Int} (h : -100000000000000000 < n /\ n < 1000000000000000000) (K : Int -> Bool -> Bool) : Q153 (itoaB n) 18 K = K n true := by
 have := size_le18 h
 have h1 : decide ((nI (itoaB n).size) > 18) = false := by simp only [nI]; simp; omega
 rw [Q153_def]; unfold G153
 rw [h1, H149_num (by omega) (by omega)]
 rfl
theorem l153_9 {n : Int} (h : -100000000 < n /\ n < 1000000000) (K : Int -> Bool -> Bool) : Q153 (itoaB n) 9 K = K n true := by
 have := size_le9 h
 have h1 : decide ((nI (itoaB n).size) > 9) = false := by simp only [nI]; simp; omega
 rw [Q153_def]; unfold G153
 rw [h1, H149_num (by omega) (by omega)]
 rfl
theorem gcd154 {e0 : Int -> Bool} : ∀ (k : Nat) (x y : Int), 0 <= x -> 0 <= y -> y.natAbs < k -> LP154_0 e0 k x y = e0 ((Nat.gcd x.natAbs y.natAbs : Nat) : Int)
 | 0, x, y, _, _, h => by omega
 | k + 1, x, y, hx, hy, h => by
  simp only [LP154_0, St154_0_0]
  by_cases h0 : y = 0
  ·subst h0
   have : (x.natAbs : Int) = x := by omega
   simp [this]
  ·have h2 : (y == 0) = false := beq_eq_false_iff_ne.2 h0
   have h3 : (y != 0) = true := by simp [h0]
   rw [h2, h3]
   simp only [cond_true, cond_false]
   have hlt : (x.tmod y).natAbs < y.natAbs := by rw [Int.natAbs_tmod]; exact Nat.mod_lt _ (by omega)
   rw [gcd154 k y (x.tmod y) hy (Int.tmod_nonneg _ hx) (by omega), tmod_gcd x y h0]
theorem l107 {a b : Int} (ha : -100000000000000000 < a /\ a < 1000000000000000000) (hb : -100000000000000000 < b /\ b < 1000000000000000000) (h0 : b ≠ 0) (K : ByteArray -> Bool) :
  Q107 (itoaB a) (itoaB b) K = K (itoaB ((Nat.gcd a.natAbs b.natAbs : Nat) : Int)) := by
 have hg : Nat.gcd a.natAbs b.natAbs <= b.natAbs := Nat.le_of_dvd (by omega) (Nat.gcd_dvd_right _ _)
 rw [Q107_def]; unfold G107
 rw [l127, l127, l153_18 (by omega)]
 simp only [cond_true]
 rw [l153_18 (by omega)]
 simp only [cond_true]
 rw [Q154_def]; unfold G154 L154_0_0
 rw [gcd154 fuel _ _ (by omega) (by omega) (by rw [fuel_eq]; omega)]
 simp only [Int.natAbs_natCast]
 rw [l82 (by omega)]
theorem l79 {q : Rat} (hn : -100000000000000000 < q.num /\ q.num < 100000000000000000) (hd : q.den < 100000000000000000) (K : Int -> Bool) : Q79 (itoaB q.num) (itoaB q.den) K = K 0 := by
 have hp := q.den_pos
 rw [Q79_def]; unfold G79
 rw [l105 (by omega), l105 (by omega), l106 (by omega), l107 (by omega) (by omega) (by omega)]
 have h1 : ((q.den : Nat) : Int).natAbs = q.den := by simp
 have h2 : ¬ ((q.den : Nat) : Int) = 0 := by omega
 have h3 : ¬ ((q.den : Nat) : Int) < 0 := by omega
 rw [h1, q.reduced]
 rw [if_neg h2, if_neg h3]
 have h4 : ((itoaB 1).toList == s_31.toList) = true := by rw [eq31 (by omega)]; rfl
 simp [h4]
theorem l95 {n d : Int} (hn : -100000000000000000 < n /\ n < 100000000000000000) (hd : -100000000000000000 < d /\ d < 100000000000000000) (K : Bool -> Bool) : Q95 (itoaB n) (itoaB d) K = K true := by
 have h1 := itoaB_size (n := (n.natAbs : Int)) (by omega) (by omega)
 have h2 := itoaB_size (n := d) (by omega) (by omega)
 have e1 : decide ((nI (itoaB (n.natAbs : Int)).size) <= 30) = true := by simp only [nI]; simp; omega
 have e2 : decide ((nI (itoaB d).size) <= 30) = true := by simp only [nI]; simp; omega
 rw [Q95_def]; unfold G95
 rw [l127, e1, e2]
 rfl
theorem l169 {n : Int} (h : -100000000 < n /\ n < 1000000000) (K : Int -> Bool -> Bool) : Q169 (itoaB n) K = K n true := by
 have := size_le9 h
 have h1 : decide ((nI (itoaB n).size) > 9) = false := by simp only [nI]; simp; omega
 rw [Q169_def]; unfold G169
 rw [h1, H149_num (by omega) (by omega)]
 rfl
theorem l118 {n d : Int} (h : -100000000 < n /\ n < 1000000000) (hd : -100000000 < d /\ d < 1000000000) (K : Int -> Int -> Bool -> Bool) : Q118 (itoaB n) (itoaB d) K = K n d true := by
 rw [Q118_def]; unfold G118; rw [l169 h, l169 hd]; rfl
theorem gcd119 {e0 : Int -> Int -> Int -> ByteArray -> ByteArray -> Bool} {p q : Int} {s t : ByteArray} : ∀ (k : Nat) (x y : Int), y.natAbs < k -> ∃ g : Int, g.natAbs = Nat.gcd x.natAbs y.natAbs /\ LP119_0 e0 k p q x y s t = e0 p q g s t
 | 0, x, y, h => by omega
 | k + 1, x, y, h => by
  simp only [LP119_0, St119_0_0]
  by_cases h0 : y = 0
  ·subst h0
   exact ⟨x, by simp, by simp⟩
  ·have h2 : (y == 0) = false := beq_eq_false_iff_ne.2 h0
   have h3 : (y != 0) = true := by simp [h0]
   rw [h2, h3]
   simp only [cond_true, cond_false]
   have hlt : (x.tmod y).natAbs < y.natAbs := by rw [Int.natAbs_tmod]; exact Nat.mod_lt _ (by omega)
   obtain ⟨g, h4, h5⟩ := gcd119 k y (x.tmod y) (by omega)
   exact ⟨g, by rw [h4, tmod_gcd x y h0], h5⟩
theorem l119 {n : Int} {d : Nat} (hd : 0 < d) (hn : -1000000000000000000 < n /\ n < 1000000000000000000) (hd2 : d < 1000000000000000000) (K : ByteArray -> ByteArray -> Bool) :
  Q119 n d K = K (itoaB (mkRat n d).num) (itoaB (mkRat n d).den) := by
 have hg := Nat.gcd_pos_of_pos_right n.natAbs hd
 have hgd : Nat.gcd n.natAbs d <= d := Nat.le_of_dvd hd (Nat.gcd_dvd_right _ _)
 have hns := num_small (n := n) hd
 have hds := den_small (n := n) hd
 rw [Q119_def]; unfold G119 L119_0_0
 obtain ⟨g, h1, h2⟩ := gcd119 (e0 := fun y1v y2v y3v y4v y5v => (bif (decide (y3v < 0)) then (bif ((wI (0 - y3v)) == 0) then false else (H112 (wI (Int.tdiv y1v (wI (0 - y3v)))) (fun z6v => (bif ((wI (0 - y3v)) == 0) then false else (H112 (wI (Int.tdiv y2v (wI (0 - y3v)))) (fun z7v => (K z6v z7v))))))) else (bif (y3v == 0) then false else (H112 (wI (Int.tdiv y1v y3v)) (fun z8v => (bif (y3v == 0) then false else (H112 (wI (Int.tdiv y2v y3v)) (fun z9v => (K z8v z9v)))))))))
  (p := n) (q := (d : Int)) (s := s_e) (t := s_e) fuel n d (by rw [fuel_eq]; omega)
 rw [h2]
 simp only [Int.natAbs_natCast] at h1
 have key : ∀ h : Int, h = (Nat.gcd n.natAbs d : Nat) -> (bif (h == 0) then false else (H112 (wI (Int.tdiv n h)) (fun z8v => (bif (h == 0) then false else (H112 (wI (Int.tdiv d h)) (fun z9v => (K z8v z9v))))))) = K (itoaB (mkRat n d).num) (itoaB (mkRat n d).den) := by
  rintro h rfl
  have h0 : (((Nat.gcd n.natAbs d : Nat) : Int) == 0) = false := beq_eq_false_iff_ne.2 (by omega)
  rw [h0, num_of hd, den_of hd, wI_eq (by omega), wI_eq (by omega)]
  simp only [cond_false]
  rw [H112_num (by omega), H112_num (by omega)]
 by_cases hneg : g < 0
 ·have e : wI (0 - g) = (Nat.gcd n.natAbs d : Nat) := by rw [wI_eq (by omega)]; omega
  simp only [hneg, decide_true, cond_true]
  exact key _ e
 ·simp only [hneg, decide_false, cond_false]
  exact key g (by omega)
theorem mkRat_one (n : Int) : mkRat n (1 * 1) = (n : Rat) := Rat.ext (by simp [Rat.num_mkRat]) (by simp [Rat.den_mkRat])
theorem mul_abs {a b A B : Int} (ha : -A < a /\ a < A) (hb : -B < b /\ b < B) : -(A * B) < a * b /\ a * b < A * B := by
 have h1 : a.natAbs * b.natAbs < A.natAbs * B.natAbs := Nat.mul_lt_mul'' (by omega) (by omega)
 have h2 : (a * b).natAbs = a.natAbs * b.natAbs := Int.natAbs_mul _ _
 have h3 : (A * B).natAbs = A.natAbs * B.natAbs := Int.natAbs_mul _ _
 have h4 : 0 <= A * B := Int.mul_nonneg (by omega) (by omega)
 omega
theorem l111 {a b : Rat} (ha : SQ a) (hb : SQ b) (K : ByteArray -> ByteArray -> Bool) : Q111 (itoaB a.num) (itoaB a.den) (itoaB b.num) (itoaB b.den) K = K (itoaB (a * b).num) (itoaB (a * b).den) := by
 have pa := a.den_pos
 have pb := b.den_pos
 obtain ⟨a1, a2⟩ := ha
 obtain ⟨b1, b2⟩ := hb
 rw [Q111_def]; unfold G111
 rw [l118 (by omega) (by omega)]
 simp only [cond_true]
 rw [l118 (by omega) (by omega)]
 simp only [cond_true]
 have h1 := mul_abs (A := 30000) (B := 30000) a1 b1
 have h2 : a.den * b.den < 30000 * 30000 := Nat.mul_lt_mul'' a2 b2
 have h3 : 0 < a.den * b.den := Nat.mul_pos pa pb
 have e2 : ((a.den : Int) * (b.den : Int)) = ((a.den * b.den : Nat) : Int) := by simp
 rw [wI_eq (by omega), e2, wI_eq (by omega), l119 h3 (by omega) (by omega), <- Rat.mul_def']
theorem l117 {a b : Int} (ha : -10000000000000000 < a /\ a < 10000000000000000) (hb : -10000000000000000 < b /\ b < 10000000000000000) (K : ByteArray -> Bool) : Q117 (itoaB a) (itoaB b) K = K (itoaB (a + b)) := by
 rw [Q117_def]; unfold G117
 rw [l153_18 (by omega)]
 simp only [cond_true]
 rw [l153_18 (by omega)]
 simp only [cond_true]
 rw [wI_eq (by omega), l82 (by omega)]
theorem l89 {a b : Rat} (ha : SQ a) (hb : SQ b) (K : ByteArray -> ByteArray -> Bool) : Q89 (itoaB a.num) (itoaB a.den) (itoaB b.num) (itoaB b.den) K = K (itoaB (a + b).num) (itoaB (a + b).den) := by
 have pa := a.den_pos
 have pb := b.den_pos
 obtain ⟨a1, a2⟩ := ha
 obtain ⟨b1, b2⟩ := hb
 have h1 := mul_abs (A := 30000) (B := 30000) (b := (b.den : Int)) a1 (by omega)
 have h1' := mul_abs (A := 30000) (B := 30000) (b := (a.den : Int)) b1 (by omega)
 have h2 : a.den * b.den < 30000 * 30000 := Nat.mul_lt_mul'' a2 b2
 have h3 : 0 < a.den * b.den := Nat.mul_pos pa pb
 have e2 : ((a.den : Int) * (b.den : Int)) = ((a.den * b.den : Nat) : Int) := by simp
 have hof : ∀ K : ByteArray -> ByteArray -> Bool, Q119 (wI ((wI (a.num * (b.den : Int))) + (wI (b.num * (a.den : Int))))) (wI ((a.den : Int) * (b.den : Int))) K = K (itoaB (a + b).num) (itoaB (a + b).den) := by
  intro K
  rw [wI_eq (n := a.num * (b.den : Int)) (by omega), wI_eq (n := b.num * (a.den : Int)) (by omega), wI_eq (n := _ + _) (by omega), e2, wI_eq (by omega), l119 h3 (by omega) (by omega), <- Rat.add_def']
 rw [Q89_def]; unfold G89
 rw [eq31 (by omega), eq31 (by omega)]
 have hb2 : ∀ X Y : Bool, (Q118 (itoaB a.num) (itoaB a.den) (fun z2v z3v z4v => (bif z4v then (Q118 (itoaB b.num) (itoaB b.den) (fun z5v z6v z7v => (bif z7v then (Q119 (wI ((wI (z2v * z6v)) + (wI (z5v * z3v)))) (wI (z3v * z6v)) (fun z8v z9v => (K z8v z9v))) else X))) else Y))) = K (itoaB (a + b).num) (itoaB (a + b).den) := by
  intro X Y
  rw [l118 (by omega) (by omega)]
  simp only [cond_true]
  rw [l118 (by omega) (by omega)]
  simp only [cond_true]
  exact hof K
 by_cases c1 : (a.den : Int) = 1
 ·by_cases c2 : (b.den : Int) = 1
  ·simp only [c1, c2, decide_true, cond_true]
   rw [l117 (by omega) (by omega), s31_eq]
   have d1 : a.den = 1 := by omega
   have d2 : b.den = 1 := by omega
   have e : a + b = ((a.num + b.num : Int) : Rat) := by
    rw [Rat.add_def', d1, d2]
    have e1 : a.num * ((1 : Nat) : Int) + b.num * ((1 : Nat) : Int) = a.num + b.num := by omega
    rw [e1]
    exact mkRat_one _
   rw [e]
   rfl
  ·simp only [c1, c2, decide_true, decide_false, cond_true, cond_false]
   have := hb2
   simp only [c1] at this
   rw [l118 (by omega) (by omega)]
   simp only [cond_true]
   rw [l118 (by omega) (by omega)]
   simp only [cond_true]
   have := hof K
   rw [c1] at this
   exact this
 ·simp only [c1, decide_false, cond_false]
  rw [l118 (by omega) (by omega)]
  simp only [cond_true]
  rw [l118 (by omega) (by omega)]
  simp only [cond_true]
  exact hof K
end Go.Ev

namespace Go.Ev
open Go Go.RowKit
theorem oR_xQ (q : Rat) (K : ByteArray -> ByteArray -> Bool) : oR (xQ q) K = K (itoaB q.num) (itoaB q.den) := rfl
theorem lt_nI {i m : Nat} (h : i < m) : decide ((i : Int) < nI m) = true := by simp [nI]; omega
theorem lt_nI' (m : Nat) : decide ((m : Int) < nI m) = false := by simp [nI]
theorem ge0 (i : Nat) : decide (0 <= (i : Int)) = true := by simp
theorem wI_succ {i : Nat} (h : i < 1000000000) : wI ((i : Int) + 1) = ((i + 1 : Nat) : Int) := by rw [wI_eq (by omega)]; simp
theorem get_encS {v : List Rat} {i : Nat} (h : i < v.length) : (encS v)[i]? = some (xQ v[i]) := by simp [h]
theorem encS_len (v : List Rat) : (encS v).length = v.length := by simp
theorem SQ.b18 {q : Rat} (h : SQ q) : (-100000000000000000 < q.num /\ q.num < 100000000000000000) /\ q.den < 100000000000000000 := by
 obtain ⟨⟨h1, h2⟩, h3⟩ := h
 omega
theorem fuel_gt {m : Nat} (h : m < 1000000000 := by omega) : m < fuel := by rw [fuel_eq]; omega
theorem l65 {v : List Rat} (hv : SV v) (hl : v.length < 1000) {p : List PVal} (hp : p.length = v.length) (K : Int -> Bool) : Q65 p (encS v) K = K 0 := by
 rw [Q65_def]; unfold G65 L65_0_0
 have h0 : ((nI (encS v).length) != (nI p.length)) = false := by rw [hp, encS_len]; simp
 rw [h0, cond_false, encS_len]
 refine loop_iter (fun k (i : Int) => LP65_0 _ _ k (encS v) (nI v.length) i) v.length (fun i => (i : Int)) (fun i hi n => ?_) (fun n => ?_) fuel (fuel_gt (by omega))
 ·have hq := (hv v[i] (List.getElem_mem hi)).b18
  simp only [LP65_0, St65_0_0, lt_nI hi, ge0, cond_true, gd_true, Int.toNat_natCast, get_encS hi, oOpt, oR_xQ]
  rw [l79 hq.1 hq.2]
  simp only [bne_self_eq_false, cond_false]
  rw [l95 hq.1 (by omega)]
  simp only [Bool.not_true, cond_false, wI_succ (show i < 1000000000 by omega)]
 ·simp only [LP65_0, St65_0_0, lt_nI', cond_false]
def Pr (p : List PVal) : Prop := p = [xI 2, xI 3] ∨ p = [xI 2, xI 3, xI 5]
theorem l94 {n : Int} (h : n = 2 ∨ n = 3 ∨ n = 5) (K : Bool -> Bool) : Q94 n K = K true := by
 obtain ⟨k, hk⟩ := fuel_add 2
 rw [Q94_def]; unfold G94 L94_0_0
 rw [hk]
 have w4 : wI 4 = 4 := by decide
 have w3 : wI 3 = 3 := by decide
 have w9 : wI 9 = 9 := by decide
 have m5 : Int.tmod 5 2 = 1 := by decide
 rcases h with rfl | rfl | rfl
 ·simp [LP94_0, St94_0_0, w4]
 ·simp [LP94_0, St94_0_0, w4]
 ·simp [LP94_0, St94_0_0, w4, w3, w9, m5]
theorem l64 {p : List PVal} (h : Pr p) (K : Int -> Bool) : Q64 p K = K 0 := by
 obtain ⟨k, hk⟩ := fuel_add 4
 rw [Q64_def]; unfold G64 L64_1_0
 rw [hk]
 have w0 : wI 0 = 0 := by decide
 have w1 : wI 1 = 1 := by decide
 have w2 : wI 2 = 2 := by decide
 have w3 : wI 3 = 3 := by decide
 rcases h with rfl | rfl
 ·simp [LP64_1, St64_1_0, oOpt, oInt, l94, w0, w1, w2, w3]
 ·simp [LP64_1, St64_1_0, oOpt, oInt, l94, w0, w1, w2, w3]
theorem Pr.len {p : List PVal} (h : Pr p) : p.length = 2 ∨ p.length = 3 := by rcases h with rfl | rfl <;> simp
theorem l32 {p : List PVal} (h : Pr p) {v : List Rat} (hv : SV v) (hl : v.length = p.length) (K : Int -> Bool) : Q32 p (encS v) K = K 0 := by
 have := h.len
 rw [Q32_def]; unfold G32
 rw [l64 h]
 simp only [bne_self_eq_false, cond_false]
 rw [l65 hv (by omega) hl.symm]
theorem encL_len (l : List (List Rat)) : (encL l).length = l.length := by simp
theorem get_encL {l : List (List Rat)} {i : Nat} (h : i < l.length) : (encL l)[i]? = some (xV (encS l[i])) := by simp [h]
theorem l76 {p : List PVal} (h : Pr p) {l : List (List Rat)} (hs : ∀ v, v ∈ l -> SV v /\ v.length = p.length) (hl : l.length < 1000) (K : Int -> Bool) : Q76 p (encL l) K = K 0 := by
 have hpl := h.len
 rw [Q76_def]; unfold G76 L76_0_0
 rw [l64 h]
 simp only [bne_self_eq_false, cond_false, encL_len]
 refine loop_iter (fun k (i : Int) => LP76_0 _ _ k p (encL l) (nI l.length) i) l.length (fun i => (i : Int)) (fun i hi n => ?_) (fun n => ?_) fuel (fuel_gt (by omega))
 ·obtain ⟨h1, h2⟩ := hs l[i] (List.getElem_mem hi)
  simp only [LP76_0, St76_0_0, lt_nI hi, ge0, cond_true, gd_true, Int.toNat_natCast, get_encL hi, oOpt, oSl]
  rw [l65 h1 (by omega) h2.symm]
  simp only [bne_self_eq_false, cond_false, wI_succ (show i < 1000000000 by omega)]
 ·simp only [LP76_0, St76_0_0, lt_nI', cond_false]
theorem num0 : (0 : Rat).num = 0 := rfl
theorem den0 : (0 : Rat).den = 1 := rfl
theorem set_mixed {α : Type} {zs os : List α} {k : Nat} (h : zs.length = os.length) (hk : k < zs.length) : (zs.take k ++ os.drop k).set k zs[k] = zs.take (k + 1) ++ os.drop (k + 1) := by
 apply List.ext_getElem?
 intro i
 rw [List.getElem?_set]
 simp only [List.length_append, List.length_take, List.length_drop]
 by_cases e : k = i
 ·subst e
  rw [if_pos rfl, if_pos (by omega), List.getElem?_append_left (by simp; omega), List.getElem?_take, if_pos (by omega), List.getElem?_eq_getElem hk]
 ·rw [if_neg e]
  by_cases hi : i < k
  ·rw [List.getElem?_append_left (by simp; omega), List.getElem?_append_left (by simp; omega), List.getElem?_take, List.getElem?_take, if_pos hi, if_pos (by omega)]
  ·rw [List.getElem?_append_right (by simp; omega), List.getElem?_append_right (by simp; omega), List.getElem?_drop, List.getElem?_drop]
   simp only [List.length_take]
   congr 1
   omega
theorem l110 {n : Nat} (h : n < 1000) (K : List PVal -> Bool) : Q110 (n : Int) K = K (encS (List.replicate n 0)) := by
 have h1 : (decide (0 <= (n : Int)) && decide ((n : Int) <= (n : Int)) && decide ((n : Int) <= 1073741824)) = true := by simp; omega
 rw [Q110_def]; unfold G110 L110_0_0
 rw [h1, gd_true]
 simp only [Int.toNat_natCast, List.length_replicate]
 have hz : encS (List.replicate n 0) = List.replicate n (xQ 0) := by simp [encS]
 have hst : ∀ i, i <= n -> (List.take i (List.replicate n (xQ 0)) ++ List.drop i (List.replicate n (xA [xZ s_e, xZ s_e]))).length = n := by intro i hi; simp; omega
 have := loop_iter (fun k (s : Int × List PVal) => LP110_0 (fun y3v => K y3v) k (nI n) s.1 s.2) n
  (fun i => ((i : Int), List.take i (List.replicate n (xQ 0)) ++ List.drop i (List.replicate n (xA [xZ s_e, xZ s_e])))) (R := K (encS (List.replicate n 0)))
  (fun i hi m => ?_) (fun m => ?_) fuel (fuel_gt (by omega))
 ·simpa using this
 ·simp only [LP110_0, St110_0_0, lt_nI hi, cond_true]
  rw [l45 (by omega), hst i (by omega)]
  simp only [ge0, lt_nI hi, Bool.and_self, gd_true, Int.toNat_natCast, hi, decide_true, wI_succ (show i < 1000000000 by omega)]
  have e : (xA [xZ (itoaB 0), xZ (itoaB 1)]) = (List.replicate n (xQ 0))[i]'(by simpa using hi) := by simp [num0, den0]
  rw [e, set_mixed (by simp) (by simpa using hi)]
 ·simp only [LP110_0, St110_0_0, lt_nI', cond_false]
  rw [hz]
  simp
def fma (out v : List Rat) (f : Rat) : List Rat := List.zipWith (fun o x => o + x * f) out v
theorem fma_len {out v : List Rat} {f : Rat} (h : out.length = v.length) : (fma out v f).length = v.length := by simp [fma, h]
theorem sum_inner {fs sz : List PVal} {i : Nat} {a : Int} {v out : List Rat} {f : Rat} (hf : fs[i]? = some (xQ f)) (hfs : SQ f) (hv : SV v) (ho : SV out) (hl : out.length = v.length) (hvl : v.length < 1000)
  (hm : ∀ j (h : j < v.length), SQ (v[j] * f)) (e0 : List PVal -> List PVal -> Int -> Int -> List PVal -> Bool) :
  L81_2_0 e0 fuel fs (i : Int) sz a (i : Int) (encS v) (nI v.length) 0 (encS out) = e0 fs sz a (i : Int) (encS (fma out v f)) := by
 have hfl := fma_len (f := f) hl
 unfold L81_2_0
 have hst : ∀ k, k <= v.length -> ((encS (fma out v f)).take k ++ (encS out).drop k).length = v.length := by intro k hk; simp [hfl, hl]; omega
 have := loop_iter (fun n (s : Int × List PVal) => LP81_2 e0 n fs (i : Int) sz a (i : Int) (encS v) (nI v.length) s.1 s.2) v.length
  (fun k => ((k : Int), (encS (fma out v f)).take k ++ (encS out).drop k)) (R := e0 fs sz a (i : Int) (encS (fma out v f)))
  (fun k hk m => ?_) (fun m => ?_) fuel (fuel_gt (by omega))
 ·simpa using this
 ·show LP81_2 _ _ _ _ _ _ _ _ _ _ _ = LP81_2 _ _ _ _ _ _ _ _ _ _ _
  have hk2 : k < out.length := by omega
  have hkf : k < (fma out v f).length := by omega
  have hget : ((encS (fma out v f)).take k ++ (encS out).drop k)[k]? = some (xQ out[k]) := by
   rw [List.getElem?_append_right (by simp; omega), List.getElem?_drop]
   have : k + (k - ((encS (fma out v f)).take k).length) = k := by simp; omega
   rw [this]
   exact get_encS hk2
  have hel : (fma out v f)[k] = out[k] + v[k] * f := by simp [fma]
  simp only [LP81_2, St81_2_0, lt_nI hk, ge0, cond_true, gd_true, Int.toNat_natCast, get_encS hk, oOpt, oR_xQ, hst k (by omega), Bool.and_self, hget, hf]
  rw [l111 (hv _ (List.getElem_mem hk)) hfs, l89 (ho _ (List.getElem_mem hk2)) (hm k hk)]
  simp only [hk, decide_true, gd_true, wI_succ (show k < 1000000000 by omega)]
  have e : (xA [xZ (itoaB (out[k] + v[k] * f).num), xZ (itoaB (out[k] + v[k] * f).den)]) = (encS (fma out v f))[k]'(by simpa using hkf) := by simp [hel]
  rw [e, set_mixed (by simp [hfl, hl]) (by simpa using hkf)]
 ·have e1 : (encS (fma out v f)).take v.length ++ (encS out).drop v.length = encS (fma out v f) := by
   rw [List.take_of_length_le (by simp [hfl]), List.drop_eq_nil_of_le (by simp [hl]), List.append_nil]
  simp only [LP81_2, St81_2_0, lt_nI', cond_false, e1]
theorem zeros_SV (n : Nat) : SV (List.replicate n 0) := by
 intro q hq
 rw [List.eq_of_mem_replicate hq]
 exact ⟨by decide, by decide⟩
theorem sum_round {fs sz : List PVal} {i m : Nat} {v out : List Rat} {f : Rat} (hf : fs[i]? = some (xQ f)) (hz : sz[i]? = some (xV (encS v))) (hfs : SQ f) (hv : SV v) (ho : SV out) (hl : out.length = v.length) (hvl : v.length < 1000)
  (hm : ∀ j (h : j < v.length), SQ (v[j] * f)) (hi : i < m /\ i < 1000) (e0 : List PVal -> Bool) (n : Nat) :
  LP81_0 e0 (n + 1) fs sz (nI m) (i : Int) (encS out) = LP81_0 e0 n fs sz (nI m) ((i + 1 : Nat) : Int) (encS (fma out v f)) := by
 simp only [LP81_0, St81_0_0, lt_nI hi.1, cond_true, ge0, gd_true, Int.toNat_natCast, hz, oOpt, oSl, encS_len]
 rw [sum_inner hf hfs hv ho hl hvl hm]
 rw [wI_succ (show i < 1000000000 by omega)]
theorem l81_two {n : Nat} {a b : List Rat} {f g : Rat} (hn : n < 1000) (ha : SV a) (hb : SV b) (la : a.length = n) (lb : b.length = n) (hf : SQ f) (hg : SQ g)
  (h1 : ∀ j (h : j < a.length), SQ (a[j] * f)) (h2 : ∀ j (h : j < b.length), SQ (b[j] * g)) (h3 : SV (fma (List.replicate n 0) a f)) (K : List PVal -> Bool) :
  Q81 (n : Int) [xV (encS a), xV (encS b)] [xQ f, xQ g] K = K (encS (fma (fma (List.replicate n 0) a f) b g)) := by
 have l1 : (fma (List.replicate n 0) a f).length = n := by rw [fma_len (by simp [la]), la]
 obtain ⟨k, hk⟩ := fuel_add 3
 rw [Q81_def]; unfold G81
 rw [l110 hn]
 unfold L81_0_0
 rw [hk]
 have r0 := sum_round (fs := [xQ f, xQ g]) (sz := [xV (encS a), xV (encS b)]) (i := 0) (m := 2) (out := List.replicate n 0) rfl rfl hf ha (zeros_SV n) (by simp [la]) (by omega) h1 (by omega) (fun y22v => K y22v) (k + 2)
 have r1 := sum_round (fs := [xQ f, xQ g]) (sz := [xV (encS a), xV (encS b)]) (i := 1) (m := 2) (out := fma (List.replicate n 0) a f) rfl rfl hg hb h3 (by omega) (by omega) h2 (by omega) (fun y22v => K y22v) (k + 1)
 exact r0.trans (r1.trans rfl)
end Go.Ev

namespace Go.Ev
open Go Go.RowKit
theorem l77 {l : List Rat} (h : SV l) (hl : l.length < 1000) (K : Bool -> Bool) : Q77_78 (encS l) K = K false := by
 rw [Q77_78_def]; unfold G77_78; rw [Q104_78_def]; unfold G104_78 L104_78_0_0
 rw [encS_len]
 refine loop_iter (fun k (i : Int) => LP104_78_0 _ _ k (encS l) (nI l.length) i) l.length (fun i => (i : Int)) (fun i hi n => ?_) (fun n => ?_) fuel (fuel_gt (by omega))
 ·have hq := (h l[i] (List.getElem_mem hi)).b18
  simp only [LP104_78_0, St104_78_0_0, lt_nI hi, ge0, cond_true, gd_true, Int.toNat_natCast, get_encS hi, oOpt, oR_xQ]
  rw [Q78_def]; unfold G78
  rw [l79 hq.1 hq.2]
  simp only [bne_self_eq_false, cond_false, wI_succ (show i < 1000000000 by omega)]
 ·simp only [LP104_78_0, St104_78_0_0, lt_nI', cond_false]
  rfl
theorem l108 {l : List Rat} (h : SV l) (hl : l.length < 1000) (K : Bool -> Bool) : Q108_109 (encS l) K = K false := by
 rw [Q108_109_def]; unfold G108_109; rw [Q156_109_def]; unfold G156_109 L156_109_0_0
 rw [encS_len]
 refine loop_iter (fun k (i : Int) => LP156_109_0 _ _ k (encS l) (nI l.length) i) l.length (fun i => (i : Int)) (fun i hi n => ?_) (fun n => ?_) fuel (fuel_gt (by omega))
 ·have hq := (h l[i] (List.getElem_mem hi)).b18
  simp only [LP156_109_0, St156_109_0_0, lt_nI hi, ge0, cond_true, gd_true, Int.toNat_natCast, get_encS hi, oOpt, oR_xQ]
  rw [Q109_def]; unfold G109
  rw [l95 hq.1 (by omega)]
  simp only [Bool.not_true, cond_false, wI_succ (show i < 1000000000 by omega)]
 ·simp only [LP156_109_0, St156_109_0_0, lt_nI', cond_false]
  rfl
theorem l80 {l : List Rat} (h : SV l) (hl : l.length < 1000) (K : List PVal -> Int -> Bool) : Q80 (encS l) K = K (encS l) 0 := by
 rw [Q80_def]; unfold G80; rw [l108 h hl]; rfl
theorem SQ_one : SQ 1 := ⟨by decide, by decide⟩
theorem SQ_neg {q : Rat} (h : SQ q) : SQ (-q) := by
 obtain ⟨⟨h1, h2⟩, h3⟩ := h
 exact ⟨by rw [Rat.neg_num]; omega, by rw [Rat.neg_den]; exact h3⟩
theorem fma_zero {n : Nat} {a : List Rat} {f : Rat} (h : a.length = n) : fma (List.replicate n 0) a f = vscale a f := by
 subst h
 apply List.ext_getElem
 ·simp [fma, vscale]
 ·intro i h1 h2
  simp [fma, vscale, Rat.zero_add]
theorem vscale_one (a : List Rat) : vscale a 1 = a := by simp [vscale, Rat.mul_one]
theorem fma_one (a b : List Rat) : fma a b 1 = vadd a b := by simp [fma, vadd, Rat.mul_one]
theorem fma_neg (a b : List Rat) : fma a b (-1) = vsub a b := by
 unfold fma vsub
 congr 1
 funext x y
 rw [Rat.mul_neg, Rat.mul_one, Rat.sub_eq_add_neg]
theorem sum_sub {n : Nat} {a b : List Rat} (hn : n < 1000) (ha : SV a) (hb : SV b) (la : a.length = n) (lb : b.length = n) (K : List PVal -> Bool) :
  Q81 (n : Int) [xV (encS a), xV (encS b)] [xQ 1, xQ (-1)] K = K (encS (vsub a b)) := by
 have hf : fma (List.replicate n 0) a 1 = a := by rw [fma_zero la, vscale_one]
 rw [l81_two hn ha hb la lb SQ_one (SQ_neg SQ_one) (fun j h => by rw [Rat.mul_one]; exact ha _ (List.getElem_mem h)) (fun j h => by rw [Rat.mul_neg, Rat.mul_one]; exact SQ_neg (hb _ (List.getElem_mem h))) (by rw [hf]; exact ha), hf, fma_neg]
theorem sum_add {n : Nat} {a b : List Rat} (hn : n < 1000) (ha : SV a) (hb : SV b) (la : a.length = n) (lb : b.length = n) (K : List PVal -> Bool) :
  Q81 (n : Int) [xV (encS a), xV (encS b)] [xQ 1, xQ 1] K = K (encS (vadd a b)) := by
 have hf : fma (List.replicate n 0) a 1 = a := by rw [fma_zero la, vscale_one]
 rw [l81_two hn ha hb la lb SQ_one SQ_one (fun j h => by rw [Rat.mul_one]; exact ha _ (List.getElem_mem h)) (fun j h => by rw [Rat.mul_one]; exact hb _ (List.getElem_mem h)) (by rw [hf]; exact ha), hf, fma_one]
theorem sum_scale {n : Nat} {a : List Rat} {f : Rat} (hn : n < 1000) (ha : SV a) (la : a.length = n) (hf : SQ f) (hm : SV (vscale a f)) (K : List PVal -> Bool) :
  Q81 (n : Int) [xV (encS a)] [xQ f] K = K (encS (vscale a f)) := by
 obtain ⟨k, hk⟩ := fuel_add 2
 rw [Q81_def]; unfold G81
 rw [l110 hn]
 unfold L81_0_0
 rw [hk]
 have r0 := sum_round (fs := [xQ f]) (sz := [xV (encS a)]) (i := 0) (m := 1) (out := List.replicate n 0) rfl rfl hf ha (zeros_SV n) (by simp [la]) (by omega) (fun j h => hm _ (by simp only [vscale]; exact List.mem_map.2 ⟨a[j], List.getElem_mem h, rfl⟩)) (by omega) (fun y22v => K y22v) (k + 1)
 rw [fma_zero la] at r0
 exact r0.trans rfl
theorem l44_two {p : List PVal} (h : Pr p) {a b r : List Rat} {f g : Rat} (ha : SV a) (hb : SV b) (la : a.length = p.length) (lb : b.length = p.length) (hf : SQ f) (hg : SQ g) (hr : SV r) (lr : r.length = p.length)
  (hs : ∀ K : List PVal -> Bool, Q81 ((p.length : Nat) : Int) [xV (encS a), xV (encS b)] [xQ f, xQ g] K = K (encS r)) (K : List PVal -> Int -> Bool) :
  Q44 p [xV (encS a), xV (encS b)] [xQ f, xQ g] K = K (encS r) 0 := by
 have hpl := h.len
 rw [Q44_def]; unfold G44
 have e1 : ([xV (encS a), xV (encS b)] : List PVal) = encL [a, b] := rfl
 have e2 : ([xQ f, xQ g] : List PVal) = encS [f, g] := rfl
 rw [e1, e2, l76 h (by simp [ha, hb, la, lb]) (by simp)]
 simp only [bne_self_eq_false, cond_false]
 rw [l77 (by intro q hq; simp at hq; rcases hq with rfl | rfl <;> assumption) (by simp)]
 simp only [List.length_map, List.length_cons, List.length_nil, bne_self_eq_false, cond_false]
 rw [show nI p.length = ((p.length : Nat) : Int) from rfl, <- e1, <- e2, hs, l80 hr (by omega)]
theorem vsub_len {a b : List Rat} (h : a.length = b.length) : (vsub a b).length = a.length := by simp [vsub, h]
theorem vadd_len {a b : List Rat} (h : a.length = b.length) : (vadd a b).length = a.length := by simp [vadd, h]
theorem l16 {p : List PVal} (h : Pr p) {a b : List Rat} (ha : SV a) (hb : SV b) (la : a.length = p.length) (lb : b.length = p.length) (hr : SV (vsub a b)) (K : List PVal -> Int -> Bool) :
  Q16 p (encS a) (encS b) K = K (encS (vsub a b)) 0 := by
 have hpl := h.len
 rw [Q16_def]; unfold G16
 rw [l45 (by omega), l45 (by omega)]
 exact l44_two h ha hb la lb SQ_one (SQ_neg SQ_one) hr (by rw [vsub_len (by omega), la]) (sum_sub (by omega) ha hb la lb) K
theorem l126 {p : List PVal} (h : Pr p) {a b : List Rat} (ha : SV a) (hb : SV b) (la : a.length = p.length) (lb : b.length = p.length) (hr : SV (vadd a b)) (K : List PVal -> Int -> Bool) :
  Q126 p (encS a) (encS b) K = K (encS (vadd a b)) 0 := by
 have hpl := h.len
 rw [Q126_def]; unfold G126
 rw [l45 (by omega), l45 (by omega)]
 exact l44_two h ha hb la lb SQ_one SQ_one hr (by rw [vadd_len (by omega), la]) (sum_add (by omega) ha hb la lb) K
theorem l123 {p : List PVal} (h : Pr p) {a : List Rat} {f : Rat} (ha : SV a) (la : a.length = p.length) (hf : SQ f) (hr : SV (vscale a f)) (K : List PVal -> Int -> Bool) :
  Q123 p (encS a) (itoaB f.num) (itoaB f.den) K = K (encS (vscale a f)) 0 := by
 have hpl := h.len
 rw [Q123_def]; unfold G123
 rw [Q44_def]; unfold G44
 have e1 : ([xV (encS a)] : List PVal) = encL [a] := rfl
 have e2 : ([xA [xZ (itoaB f.num), xZ (itoaB f.den)]] : List PVal) = encS [f] := rfl
 rw [e1, e2, l76 h (by simp [ha, la]) (by simp)]
 simp only [bne_self_eq_false, cond_false]
 rw [l77 (by intro q hq; simp at hq; rw [hq]; exact hf) (by simp)]
 simp only [List.length_map, List.length_cons, List.length_nil, bne_self_eq_false, cond_false]
 rw [show nI p.length = ((p.length : Nat) : Int) from rfl, <- e1]
 have := sum_scale (n := p.length) (by omega) ha la hf hr (fun z3v => Q80 z3v (fun z4v z5v => K z4v z5v))
 have e3 : encS [f] = [xQ f] := rfl
 rw [e3, this, l80 hr (by simp [vscale]; omega)]
end Go.Ev

namespace Go.Ev
open Go Go.RowKit
theorem H230_num {n : Int} (h0 : 0 <= n) (h : n < 1000000000000000000) (K : ByteArray -> Bool) : H230 n 10 K = K (itoaB n) := by
 rw [H230_def]; unfold D230; simp [h0, h]
theorem H246_num {n : Int} (h0 : 0 <= n) (h : n < 1000000000000000000) (K : Int -> Bool) : H246 (itoaB n) 10 64 K = K n := by
 rw [H246_def]; unfold D246 D149; rw [numOf_itoa (by omega) h]; simp [h0]
theorem l229 {n : Int} (h0 : 0 <= n) (h : n < 1000000000000000000) (K : Int -> Bool -> Bool) : Q229 (itoaB n) K = K n true := by
 rw [Q229_def]; unfold G229; rw [H246_num h0 h]
theorem l197 {n : Int} (h0 : 0 <= n) (h : n < 1000000000000000000) (K : ByteArray -> Bool) : Q197 n K = K (itoaB n) := by
 rw [Q197_def]; unfold G197; rw [H230_num h0 h]
theorem l196 {a b : Int} (ha : 0 <= a /\ a < 1000000000000000000) (hb : 0 <= b /\ b < 1000000000000000000) (K : Int -> Int -> Bool -> Bool) : Q196 (itoaB a) (itoaB b) K = K a b true := by
 have h1 := size_le18 (n := a) (by omega)
 have h2 := size_le18 (n := b) (by omega)
 have e1 : decide ((nI (itoaB a).size) > 18) = false := by simp only [nI]; simp; omega
 have e2 : decide ((nI (itoaB b).size) > 18) = false := by simp only [nI]; simp; omega
 rw [Q196_def]; unfold G196
 rw [e1, e2, l229 ha.1 ha.2]
 simp only [cond_false]
 rw [l229 hb.1 hb.2]
theorem l188 {a b : Nat} (ha : a < 1000000000) (hb : b < 1000000000) (h0 : 0 < b) (K : ByteArray -> ByteArray -> Int -> Bool) : Q188 (itoaB a) (itoaB b) K = K (itoaB ((a / b : Nat) : Int)) (itoaB ((a % b : Nat) : Int)) 0 := by
 have hd : a / b <= a := Nat.div_le_self _ _
 have hm : a % b < b := Nat.mod_lt _ h0
 have e1 : ((b : Int) == 0) = false := beq_eq_false_iff_ne.2 (by omega)
 have e2 : Int.tdiv (a : Int) (b : Int) = ((a / b : Nat) : Int) := by rw [Int.tdiv_eq_ediv_of_nonneg (by omega)]; simp
 have e3 : Int.tmod (a : Int) (b : Int) = ((a % b : Nat) : Int) := by rw [Int.tmod_eq_emod_of_nonneg (by omega)]; simp
 generalize a / b = q at *
 generalize a % b = r at *
 rw [Q188_def]; unfold G188
 rw [eq30 (by omega), l196 (by omega) (by omega)]
 have h1 : ¬ (b : Int) = 0 := by omega
 simp only [h1, decide_false, cond_false, cond_true, e1, e2, e3]
 rw [wU_eq (by omega), l197 (by omega) (by omega), l197 (by omega) (by omega)]
theorem gcd155 {e0 e1 : ByteArray -> Bool} : ∀ (k : Nat) (x y : Nat), x < 1000000000 -> y < 1000000000 -> y < k -> LP155_0 e0 e1 k (itoaB x) (itoaB y) = e1 (itoaB ((Nat.gcd x y : Nat) : Int))
 | 0, x, y, _, _, h => by omega
 | k + 1, x, y, hx, hy, h => by
  simp only [LP155_0, St155_0_0]
  rw [eq30 (by omega)]
  by_cases h0 : y = 0
  ·subst h0
   simp
  ·have h1 : ¬ (y : Int) = 0 := by omega
   have hm : x % y < y := Nat.mod_lt _ (by omega)
   simp only [h1, decide_false, Bool.not_false, cond_true]
   rw [l188 hx hy (by omega)]
   simp only [bne_self_eq_false, cond_false]
   rw [gcd155 k y (x % y) hy (by omega) (by omega), Nat.gcd_comm x y, Nat.gcd_rec y x, Nat.gcd_comm]
theorem l155 {a b : Nat} (ha : a < 1000000000) (hb : b < 1000000000) (K : ByteArray -> Bool) : Q155 (itoaB a) (itoaB b) K = K (itoaB ((Nat.gcd a b : Nat) : Int)) := by
 rw [Q155_def]; unfold G155 L155_0_0
 rw [gcd155 fuel a b ha hb (fuel_gt (by omega))]
theorem l170 {a b : Nat} (ha : a < 100000000) (hb : b < 100000000) (K : ByteArray -> Bool) : Q170 (itoaB a) (itoaB b) K = K (itoaB ((a * b : Nat) : Int)) := by
 have h1 := size_le9 (n := (a : Int)) (by omega)
 have h2 := size_le9 (n := (b : Int)) (by omega)
 have e1 : decide ((wI ((nI (itoaB a).size) + (nI (itoaB b).size))) <= 18) = true := by rw [wI_eq (by simp only [nI]; omega)]; simp only [nI]; simp; omega
 have hp : a * b < 100000000 * 100000000 := Nat.mul_lt_mul'' ha hb
 have e2 : ((a : Int) * (b : Int)) = ((a * b : Nat) : Int) := by simp
 rw [Q170_def]; unfold G170
 rw [e1, l196 (by omega) (by omega)]
 simp only [cond_true]
 rw [e2, wU_eq (by omega), l197 (by omega) (by omega)]
theorem lcm_eq (a b : Nat) : a / Nat.gcd a b * b = Nat.lcm a b := by
 unfold Nat.lcm
 rw [Nat.mul_comm, <- Nat.mul_div_assoc _ (Nat.gcd_dvd_left a b), Nat.mul_comm b a]
theorem l158 {a b : Nat} (ha : 0 < a /\ a < 100000000) (hb : 0 < b /\ b < 100000000) (K : ByteArray -> Bool) : Q158 (itoaB a) (itoaB b) K = K (itoaB ((Nat.lcm a b : Nat) : Int)) := by
 have hg : 0 < Nat.gcd a b := Nat.gcd_pos_of_pos_left _ ha.1
 have hga : Nat.gcd a b <= a := Nat.le_of_dvd ha.1 (Nat.gcd_dvd_left _ _)
 have hq : a / Nat.gcd a b <= a := Nat.div_le_self _ _
 rw [Q158_def]; unfold G158
 rw [l127, l127]
 simp only [Int.natAbs_natCast]
 rw [Q190_def]; unfold G190
 rw [eq30 (by omega), eq30 (by omega)]
 have h1 : ¬ (a : Int) = 0 := by omega
 have h2 : ¬ (b : Int) = 0 := by omega
 simp only [h1, h2, decide_false, cond_false]
 rw [l155 (by omega) (by omega), l188 (by omega) (by omega) hg]
 simp only [bne_self_eq_false, cond_false]
 rw [l170 (by omega) hb.2, lcm_eq]
theorem l159 {a : Int} {b : Nat} (ha : -1000000000 < a /\ a < 1000000000) (hb : 0 < b /\ b < 1000000000) (K : ByteArray -> ByteArray -> Int -> Bool) : Q159 (itoaB a) (itoaB b) K = K (itoaB (a / (b : Int))) (itoaB (a % (b : Int))) 0 := by
 have e1 : ((b : Int) == 0) = false := beq_eq_false_iff_ne.2 (by omega)
 have h1 : ¬ (b : Int) = 0 := by omega
 have h2 : decide ((b : Int) < 0) = false := by simp
 have hm0 := Int.emod_nonneg a h1
 have hm1 := Int.emod_lt_of_pos a (show (0 : Int) < b by omega)
 have hta := Int.natAbs_tdiv_le_natAbs a b
 have htm : (Int.tmod a b).natAbs < b := by rw [Int.natAbs_tmod]; exact Nat.mod_lt _ (by omega)
 have hdm := Int.mul_tdiv_add_tmod a b
 have huniq : ∀ q r : Int, b * q + r = a -> 0 <= r -> r < b -> a / (b : Int) = q /\ a % (b : Int) = r := fun q r h3 h4 h5 => (Int.ediv_emod_unique (by omega)).2 ⟨by omega, h4, h5⟩
 rw [Q159_def]; unfold G159
 rw [eq30 (by omega), l153_18 (by omega)]
 simp only [h1, decide_false, cond_false, cond_true]
 rw [l153_18 (by omega)]
 simp only [cond_true, e1, cond_false, h2]
 by_cases hz : Int.tmod a b = 0
 ·have e3 : (Int.tmod a b != 0) = false := by simp [hz]
  obtain ⟨u1, u2⟩ := huniq (Int.tdiv a b) 0 (by omega) (by omega) (by omega)
  rw [e3]
  simp only [cond_false]
  rw [wI_eq (by omega), l82 (by omega), l82 (by omega), u1, u2, hz]
 ·have e3 : (Int.tmod a b != 0) = true := by simp [hz]
  rw [e3]
  simp only [cond_true]
  by_cases hn : Int.tmod a b < 0
  ·obtain ⟨u1, u2⟩ := huniq (Int.tdiv a b - 1) (Int.tmod a b + b) (by rw [Int.mul_sub]; omega) (by omega) (by omega)
   simp only [hn, decide_true, Bool.true_beq, Bool.not_false, cond_true]
   rw [wI_eq (n := Int.tdiv a b) (by omega), wI_eq (n := Int.tdiv a b - 1) (by omega), wI_eq (n := Int.tmod a b + b) (by omega), l82 (by omega), l82 (by omega), u1, u2]
  ·obtain ⟨u1, u2⟩ := huniq (Int.tdiv a b) (Int.tmod a b) hdm (by omega) (by omega)
   simp only [hn, decide_false, beq_self_eq_true, Bool.not_true, cond_false]
   rw [wI_eq (by omega), l82 (by omega), l82 (by omega), u1, u2]
theorem l121 {a b : Int} (ha : -100000000 < a /\ a < 100000000) (hb : -100000000 < b /\ b < 100000000) (K : ByteArray -> Bool) : Q121 (itoaB a) (itoaB b) K = K (itoaB (a * b)) := by
 have h1 := mul_abs (A := 100000000) (B := 100000000) ha hb
 rw [Q121_def]; unfold G121
 rw [l153_9 (by omega)]
 simp only [cond_true]
 rw [l153_9 (by omega)]
 simp only [cond_true]
 rw [wI_eq (by omega), l82 (by omega)]
end Go.Ev

namespace Go.Ev
open Go Go.RowKit
theorem lcm_fold : ∀ (v : List Rat) (d D : Nat), 0 < D -> d ∣ D -> (∀ q, q ∈ v -> q.den ∣ D) -> v.foldl (fun d q => Nat.lcm d q.den) d ∣ D /\ d ∣ v.foldl (fun d q => Nat.lcm d q.den) d /\ ∀ q, q ∈ v -> q.den ∣ v.foldl (fun d q => Nat.lcm d q.den) d
 | [], d, D, h, hd, _ => ⟨hd, Nat.dvd_refl _, fun q hq => by cases hq⟩
 | x :: v, d, D, h, hd, hv => by
  have hx := hv x (by simp)
  obtain ⟨h1, h2, h3⟩ := lcm_fold v (Nat.lcm d x.den) D h (Nat.lcm_dvd hd hx) (fun q hq => hv q (by simp [hq]))
  refine ⟨h1, Nat.dvd_trans (Nat.dvd_lcm_left _ _) h2, fun q hq => ?_⟩
  rcases List.mem_cons.1 hq with rfl | hq
  ·exact Nat.dvd_trans (Nat.dvd_lcm_right _ _) h2
  ·exact h3 q hq
theorem lcmD_ok {v : List Rat} {D : Nat} (h : 0 < D) (hv : ∀ q, q ∈ v -> q.den ∣ D) : 0 < lcmD v /\ lcmD v ∣ D /\ ∀ q, q ∈ v -> q.den ∣ lcmD v := by
 obtain ⟨h1, h2, h3⟩ := lcm_fold v 1 D h (Nat.one_dvd _) hv
 exact ⟨Nat.pos_of_dvd_of_pos h1 h, h1, h3⟩
abbrev encP (l : List (Int × Int)) : List PVal := l.map fun x => xI x.1
abbrev encF (l : List (Int × Int)) : List PVal := l.map fun x => xZ (itoaB x.2)
theorem den113 {p : List PVal} {v : List Rat} {D : Nat} (hD : 0 < D /\ D < 30000) (hv : SV v) (hd : ∀ q, q ∈ v -> q.den ∣ D) (hl : v.length < 1000) (s : ByteArray) (e0 : List PVal -> List PVal -> ByteArray -> ByteArray -> Bool) :
  L113_0_0 e0 fuel p (encS v) (encS v) (nI v.length) 0 s (itoaB 1) = e0 p (encS v) s (itoaB (lcmD v)) := by
 unfold L113_0_0
 have := loop_iter (fun k (x : Int × Nat) => LP113_0 e0 k p (encS v) (encS v) (nI v.length) x.1 s (itoaB x.2)) v.length (fun i => ((i : Int), lcmD (v.take i))) (R := e0 p (encS v) s (itoaB (lcmD v)))
  (fun i hi n => ?_) (fun n => ?_) fuel (fuel_gt (by omega))
 ·simpa [lcmD] using this
 ·have hsub : ∀ q, q ∈ v.take i -> q.den ∣ D := fun q hq => hd q (List.mem_of_mem_take hq)
  obtain ⟨p1, p2, p3⟩ := lcmD_ok hD.1 hsub
  have hle := Nat.le_of_dvd hD.1 p2
  have hqd := hd _ (List.getElem_mem hi)
  have hql := Nat.le_of_dvd hD.1 hqd
  have hqp := (v[i]).den_pos
  have hstep : lcmD (v.take (i + 1)) = Nat.lcm (lcmD (v.take i)) (v[i]).den := by
   unfold lcmD
   rw [List.take_succ_eq_append_getElem hi, List.foldl_append]
   rfl
  simp only [LP113_0, St113_0_0, lt_nI hi, ge0, cond_true, gd_true, Int.toNat_natCast, get_encS hi, oOpt, oR_xQ]
  rw [l158 (by omega) (by omega), wI_succ (show i < 1000000000 by omega), <- hstep]
 ·simp only [LP113_0, St113_0_0, lt_nI', cond_false, List.take_length]
theorem fac_small {q : Rat} {L D : Nat} (hq : SQ q) (hD : D < 3000) (hL : L <= D) (hd : q.den ∣ L) : -90000000 < q.num * ((L / q.den : Nat) : Int) /\ q.num * ((L / q.den : Nat) : Int) < 90000000 := by
 have h1 : L / q.den <= L := Nat.div_le_self _ _
 have := mul_abs (A := 30000) (B := 3000) hq.1 (b := ((L / q.den : Nat) : Int)) (by generalize L / q.den = z at *; omega)
 exact ⟨by omega, by omega⟩
theorem tms_step {ps : List Int} {v : List Rat} {L i : Nat} (hp : ps.length = v.length) (hi : i < v.length) :
  tms (ps.take (i + 1)) (v.take (i + 1)) L = tms (ps.take i) (v.take i) L ++ if (v[i]).num = 0 then [] else [(ps[i]'(by omega), (v[i]).num * ((L / (v[i]).den : Nat) : Int))] := by
 unfold tms
 rw [List.take_succ_eq_append_getElem hi, List.take_succ_eq_append_getElem (show i < ps.length by omega), List.zip_append (by simp; omega)]
 rw [List.filter_append, List.map_append]
 congr 1
 by_cases h : (v[i]).num = 0
 ·have hf : (decide ((v[i]).num ≠ 0)) = false := by simp only [decide_eq_false_iff_not]; exact fun h2 => h2 h
  simp only [List.zip_cons_cons, List.zip_nil_left, List.filter_cons, hf, Bool.false_eq_true, if_false, List.filter_nil, List.map_nil]
  rw [if_pos h]
 ·have hf : (decide ((v[i]).num ≠ 0)) = true := by simp only [decide_eq_true_eq]; exact h
  simp only [List.zip_cons_cons, List.zip_nil_left, List.filter_cons, hf, if_true, List.filter_nil, List.map_cons, List.map_nil, h, if_false]
theorem tms_len (ps : List Int) (v : List Rat) (L : Nat) : (tms ps v L).length <= v.length := by
 unfold tms
 rw [List.length_map]
 refine Nat.le_trans (List.length_filter_le _ _) ?_
 rw [List.length_zip]
 exact Nat.min_le_right _ _
noncomputable def Fs113 (e0 : ByteArray -> ByteArray -> Bool) (e1 : ByteArray -> ByteArray -> List PVal -> List PVal -> Bool) (p v : List PVal) (m : Int) (s t : ByteArray) (n : Nat) (x : Int × List (Int × Int)) : Bool :=
 match x.2 with
 | [] => (LP113_2 e0 e1 n).1 p v m x.1 s t
 | a :: r => (LP113_2 e0 e1 n).2 p v m x.1 s t (encP (a :: r)) (encF (a :: r))
theorem fac113 {ps : List Int} {v : List Rat} {D L : Nat} (hD : 0 < D /\ D < 3000) (hv : SV v) (hL : 0 < L /\ L ∣ D) (hd : ∀ q, q ∈ v -> q.den ∣ L) (hp : ps.length = v.length) (hl : v.length < 1000) (s : ByteArray)
  (e0 : ByteArray -> ByteArray -> Bool) (e1 : ByteArray -> ByteArray -> List PVal -> List PVal -> Bool) :
  L113_2_0 e0 e1 fuel (ps.map xI) (encS v) (nI v.length) 0 s (itoaB L) = match tms ps v L with
   | [] => e0 s (itoaB L)
   | a :: r => e1 s (itoaB L) (encP (a :: r)) (encF (a :: r)) := by
 have hLD := Nat.le_of_dvd hD.1 hL.2
 have key := loop_iter (Fs113 e0 e1 (ps.map xI) (encS v) (nI v.length) s (itoaB L)) v.length (fun i => ((i : Int), tms (ps.take i) (v.take i) L)) (R := match tms ps v L with
   | [] => e0 s (itoaB L)
   | a :: r => e1 s (itoaB L) (encP (a :: r)) (encF (a :: r)))
  (fun i hi n => ?_) (fun n => ?_) fuel (fuel_gt (by omega))
 ·simpa [Fs113, tms, L113_2_0] using key
 ·have hqd := hd _ (List.getElem_mem hi)
  have hq := hv _ (List.getElem_mem hi)
  have hql := Nat.le_of_dvd hL.1 hqd
  have hqp := (v[i]).den_pos
  have hnum := hq.1
  have hf := fac_small hq hD.2 hLD hqd
  have hdiv : ((L : Nat) : Int) / (((v[i]).den : Nat) : Int) = ((L / (v[i]).den : Nat) : Int) := by simp
  have hlen := tms_len (ps.take i) (v.take i) L
  simp only [List.length_take] at hlen
  have hpi : (ps.map xI)[i]? = some (xI (ps[i]'(by omega))) := by simp [show i < ps.length by omega]
  have hmul : ∀ K : ByteArray -> Bool, Q121 (itoaB (v[i]).num) (itoaB ((L / (v[i]).den : Nat) : Int)) K = K (itoaB ((v[i]).num * ((L / (v[i]).den : Nat) : Int))) := fun K => by
   have h1 : L / (v[i]).den <= L := Nat.div_le_self _ _
   refine l121 (by omega) ?_ K
   generalize L / (v[i]).den = z at *
   omega
  rw [tms_step hp hi]
  cases ht : tms (ps.take i) (v.take i) L with
  | nil =>
   simp only [Fs113, LP113_2, St113_2_0, lt_nI hi, ge0, cond_true, gd_true, Int.toNat_natCast, get_encS hi, oOpt, oR_xQ]
   rw [eq30 (by omega)]
   by_cases h0 : (v[i]).num = 0
   ·simp only [h0, decide_true, Bool.not_true, cond_false, if_true, List.append_nil, wI_succ (show i < 1000000000 by omega)]
   ·simp only [h0, decide_false, Bool.not_false, cond_true, if_false]
    rw [l159 (by omega) (by omega), hdiv]
    simp only [hpi, oInt, decide_true, cond_true]
    rw [hmul, wI_succ (show i < 1000000000 by omega)]
    rfl
  | cons a r =>
   rw [ht] at hlen
   simp only [List.length_cons] at hlen
   have hm1 : decide ((encP (a :: r)).length + 1 <= maxElems) = true := by simp [maxElems]; omega
   have hm2 : decide ((encF (a :: r)).length + 1 <= maxElems) = true := by simp [maxElems]; omega
   simp only [Fs113, LP113_2, St113_2_1, lt_nI hi, ge0, cond_true, gd_true, Int.toNat_natCast, get_encS hi, oOpt, oR_xQ]
   rw [eq30 (by omega)]
   by_cases h0 : (v[i]).num = 0
   ·simp only [h0, decide_true, Bool.not_true, cond_false, if_true, List.append_nil, wI_succ (show i < 1000000000 by omega)]
   ·simp only [h0, decide_false, Bool.not_false, cond_true, if_false]
    rw [l159 (by omega) (by omega), hdiv]
    simp only [hpi, oInt, decide_true, cond_true, hm1, hm2, gd_true]
    rw [hmul, wI_succ (show i < 1000000000 by omega)]
    simp [encP, encF]
 ·have e : ps.take v.length = ps := by rw [<- hp, List.take_length]
  simp only [List.take_length, e]
  cases ht : tms ps v L with
  | nil => simp only [Fs113, LP113_2, St113_2_0, lt_nI', cond_false]
  | cons a r => simp only [Fs113, LP113_2, St113_2_1, lt_nI', cond_false]
theorem l113 {ps : List Int} {v : List Rat} {D : Nat} (hD : 0 < D /\ D < 3000) (hv : SV v) (hd : ∀ q, q ∈ v -> q.den ∣ D) (hp : ps.length = v.length) (hl : v.length < 1000) (K : List PVal -> List PVal -> ByteArray -> Bool) :
  Q113 (ps.map xI) (encS v) K = K (encP (tms ps v (lcmD v))) (encF (tms ps v (lcmD v))) (itoaB (lcmD v)) := by
 obtain ⟨h1, h2, h3⟩ := lcmD_ok hD.1 hd
 rw [Q113_def]; unfold G113
 rw [s31_eq, encS_len, den113 (by omega) hv hd hl]
 simp only [encS_len]
 rw [fac113 hD hv ⟨h1, h2⟩ h3 hp hl]
 cases tms ps v (lcmD v) with
 | nil => rfl
 | cons a r => rfl
end Go.Ev

namespace Go.Ev
open Go Go.RowKit
theorem dec191_ok : ∀ {l : List (Int × Int)}, (∀ x, x ∈ l -> (x.1 = 2 ∨ x.1 = 3 ∨ x.1 = 5) /\ -10000000 <= x.2 /\ x.2 <= 10000000) -> dec191 (encP l) (encF l) = some l
 | [], _ => rfl
 | x :: l, h => by
  have hx := h x (by simp)
  have ih := dec191_ok (l := l) (fun y hy => h y (by simp [hy]))
  show dec191 (.lit (.int .i64 x.1) :: encP l) (.lit (.string (itoaB x.2)) :: encF l) = _
  simp only [dec191, numOf_itoa (show -1000000000000000000 < x.2 by omega) (show x.2 < 1000000000000000000 by omega), ih]
  rw [if_pos hx]
theorem H191_ok {l : List (Int × Int)} {most : Int} (hm : 0 <= most /\ most <= 10000000) (h : ∀ x, x ∈ l -> (x.1 = 2 ∨ x.1 = 3 ∨ x.1 = 5) /\ -most <= x.2 /\ x.2 <= most) (hl : l.length <= 6) (d : ByteArray) (K : Int -> Int -> Bool -> Bool) :
  H191 (encP l) (encF l) d most K = K (nearL l).1 (nearL l).2 true := by
 rw [H191_def]; unfold D191
 rw [dec191_ok (fun x hx => ⟨(h x hx).1, by have := (h x hx).2; omega, by have := (h x hx).2; omega⟩)]
 have hall : (l.all fun x => decide (-most <= x.2) && decide (x.2 <= most)) = true := by
  rw [List.all_eq_true]
  intro x hx
  have := (h x hx).2
  simp [this]
 simp [hall, hl, hm.1, hm.2]
def decided (l : List (Int × Int)) : Prop := l = [] ∨ 0 <= (nearL l).1 ∨ (nearL l).2 <= 0
theorem l160 {l : List (Int × Int)} (h : ∀ x, x ∈ l -> (x.1 = 2 ∨ x.1 = 3 ∨ x.1 = 5) /\ -10000000 <= x.2 /\ x.2 <= 10000000) (hl : l.length <= 6) (d : ByteArray) (K : Int -> Bool) :
  Q160 (encP l) (encF l) d K = K (if 0 <= (nearL l).1 then 1 else if (nearL l).2 <= 0 then -1 else 0) := by
 rw [Q160_def]; unfold G160
 rw [H191_ok (by omega) h hl]
 simp only [cond_true, ge_iff_le]
 by_cases h1 : 0 <= (nearL l).1
 ·simp [h1]
 ·by_cases h2 : (nearL l).2 <= 0 <;> simp [h1, h2]
theorem l114 {l : List (Int × Int)} (h : ∀ x, x ∈ l -> (x.1 = 2 ∨ x.1 = 3 ∨ x.1 = 5) /\ -10000000 <= x.2 /\ x.2 <= 10000000) (hl : l.length <= 6) (hd : decided l) (d : ByteArray) (K : Int -> Bool) :
  Q114 (encP l) (encF l) d K = K (sgn l) := by
 rw [Q114_def]; unfold G114 sgn
 cases l with
 | nil => simp
 | cons a r =>
  have h0 : ((nI (encP (a :: r)).length) == 0) = false := beq_eq_false_iff_ne.2 (by simp [nI]; omega)
  rw [h0, cond_false, l160 h hl]
  rcases hd with hd | hd | hd
  ·cases hd
  ·simp [hd]
  ·by_cases h1 : 0 <= (nearL (a :: r)).1 <;> simp [h1, hd]
theorem mkRat_add {D : Nat} (h : 0 < D) (a b : Int) : mkRat a D + mkRat b D = mkRat (a + b) D := by
 rw [Rat.mkRat_add_mkRat _ _ (by omega) (by omega), <- Int.add_mul, Rat.mkRat_mul_right (by omega)]
theorem mkRat_sub {D : Nat} (h : 0 < D) (a b : Int) : mkRat a D - mkRat b D = mkRat (a - b) D := by
 rw [Rat.sub_eq_add_neg, Rat.neg_mkRat, mkRat_add h, <- Int.sub_eq_add_neg]
theorem mkRat_mul_int {D : Nat} (a k : Int) : mkRat a D * (k : Rat) = mkRat (a * k) D := by
 have : (k : Rat) = mkRat k 1 := (mkRat_one k).symm
 rw [this, Rat.mkRat_mul_mkRat, Nat.mul_one]
theorem zR_sub {D : Nat} (h : 0 < D) (a b : List Int) : vsub (zR D a) (zR D b) = zR D (zsub a b) := by
 unfold vsub zsub zR
 rw [List.zipWith_map, List.map_zipWith]
 congr 1
 funext x y
 exact mkRat_sub h x y
theorem zR_add {D : Nat} (h : 0 < D) (a b : List Int) : vadd (zR D a) (zR D b) = zR D (zadd a b) := by
 unfold vadd zadd zR
 rw [List.zipWith_map, List.map_zipWith]
 congr 1
 funext x y
 exact mkRat_add h x y
theorem zR_scale {D : Nat} (a : List Int) (k : Int) : vscale (zR D a) (k : Rat) = zR D (zscale a k) := by
 unfold vscale zscale zR
 rw [List.map_map, List.map_map]
 congr 1
 funext x
 exact mkRat_mul_int x k
theorem zR_SV {D : Nat} (h : 0 < D /\ D < 30000) {z : List Int} (hz : ZS 30000 z) : SV (zR D z) := by
 intro q hq
 obtain ⟨x, hx, rfl⟩ := List.mem_map.1 hq
 have h1 := num_small (n := x) h.1
 have h2 := den_small (n := x) h.1
 have := hz x hx
 exact ⟨by omega, by omega⟩
theorem zR_den {D : Nat} (h : 0 < D) {z : List Int} : ∀ q, q ∈ zR D z -> q.den ∣ D := by
 intro q hq
 obtain ⟨x, hx, rfl⟩ := List.mem_map.1 hq
 rw [Rat.den_mkRat, if_neg (by omega)]
 exact Nat.div_dvd_of_dvd (Nat.gcd_dvd_left _ _)
theorem near1_scale {p k z : Int} {L D : Int} (hL : 0 < L) (hD : 0 < D) (h : k * D = z * L) : (near1 (p, k)).1 * D = (near1 (p, z)).1 * L /\ (near1 (p, k)).2 * D = (near1 (p, z)).2 * L := by
 have hc : ∀ c : Int, k * c * D = z * c * L := fun c => by rw [Int.mul_right_comm, h, Int.mul_right_comm]
 unfold near1
 split
 ·exact ⟨hc _, hc _⟩
 ·have hmin : ∀ x y : Int, min x y * D = min (x * D) (y * D) := fun x y => by
   rcases Int.le_total x y with hxy | hxy
   ·rw [Int.min_eq_left hxy, Int.min_eq_left (Int.mul_le_mul_of_nonneg_right hxy (by omega))]
   ·rw [Int.min_eq_right hxy, Int.min_eq_right (Int.mul_le_mul_of_nonneg_right hxy (by omega))]
  have hmax : ∀ x y : Int, max x y * D = max (x * D) (y * D) := fun x y => by
   rcases Int.le_total x y with hxy | hxy
   ·rw [Int.max_eq_right hxy, Int.max_eq_right (Int.mul_le_mul_of_nonneg_right hxy (by omega))]
   ·rw [Int.max_eq_left hxy, Int.max_eq_left (Int.mul_le_mul_of_nonneg_right hxy (by omega))]
  have hmin' : ∀ x y : Int, min x y * L = min (x * L) (y * L) := fun x y => by
   rcases Int.le_total x y with hxy | hxy
   ·rw [Int.min_eq_left hxy, Int.min_eq_left (Int.mul_le_mul_of_nonneg_right hxy (by omega))]
   ·rw [Int.min_eq_right hxy, Int.min_eq_right (Int.mul_le_mul_of_nonneg_right hxy (by omega))]
  have hmax' : ∀ x y : Int, max x y * L = max (x * L) (y * L) := fun x y => by
   rcases Int.le_total x y with hxy | hxy
   ·rw [Int.max_eq_right hxy, Int.max_eq_right (Int.mul_le_mul_of_nonneg_right hxy (by omega))]
   ·rw [Int.max_eq_left hxy, Int.max_eq_left (Int.mul_le_mul_of_nonneg_right hxy (by omega))]
  exact ⟨by rw [hmin, hmin', hc, hc], by rw [hmax, hmax', hc, hc]⟩
theorem nearL_cons (x : Int × Int) (l : List (Int × Int)) : nearL (x :: l) = ((near1 x).1 + (nearL l).1, (near1 x).2 + (nearL l).2) := by
 have key : ∀ (l : List (Int × Int)) (s : Int × Int), l.foldl (fun s x => (s.1 + (near1 x).1, s.2 + (near1 x).2)) s = (s.1 + (nearL l).1, s.2 + (nearL l).2) := by
  intro l
  induction l with
  | nil => intro s; simp [nearL]
  | cons y l ih =>
   intro s
   have e : nearL (y :: l) = ((near1 y).1 + (nearL l).1, (near1 y).2 + (nearL l).2) := by
    show (y :: l).foldl _ (0, 0) = _
    rw [List.foldl_cons, ih]
    simp only [Int.zero_add]
   rw [List.foldl_cons, ih, e]
   simp only [Int.add_assoc]
 show (x :: l).foldl _ (0, 0) = _
 rw [List.foldl_cons, key]
 simp
theorem tms_cons (p : Int) (ps : List Int) (q : Rat) (v : List Rat) (L : Nat) : tms (p :: ps) (q :: v) L = (if q.num = 0 then [] else [(p, q.num * ((L / q.den : Nat) : Int))]) ++ tms ps v L := by
 unfold tms
 rw [List.zip_cons_cons, List.filter_cons]
 by_cases h : q.num = 0
 ·have hf : (decide (q.num ≠ 0)) = false := by simp only [decide_eq_false_iff_not]; exact fun h2 => h2 h
  rw [if_neg (by rw [hf]; exact Bool.false_ne_true), if_pos h]; rfl
 ·have hf : (decide (q.num ≠ 0)) = true := by simp only [decide_eq_true_eq]; exact h
  rw [if_pos hf, if_neg h]; rfl
theorem mkRat_num_zero {D : Nat} (h : 0 < D) (x : Int) : (mkRat x D).num = 0 ↔ x = 0 := by
 rw [Rat.num_eq_zero, Rat.mkRat_eq_zero (by omega)]
theorem fac_scale {D L : Nat} (h : 0 < D) (hL : 0 < L) (x : Int) (hd : (mkRat x D).den ∣ L) : ((mkRat x D).num * ((L / (mkRat x D).den : Nat) : Int)) * (D : Int) = x * (L : Int) := by
 have h1 := Rat.mkRat_self (mkRat x D)
 have h2 : (mkRat x D).num * (D : Int) = x * ((mkRat x D).den : Int) := (Rat.mkRat_eq_iff (mkRat x D).den_nz (by omega)).1 h1
 obtain ⟨m, hm⟩ := hd
 have hp := (mkRat x D).den_pos
 have h3 : L / (mkRat x D).den = m := by rw [hm]; exact Nat.mul_div_cancel_left m hp
 rw [h3]
 have h4 : (L : Int) = ((mkRat x D).den : Int) * (m : Int) := by rw [<- Int.natCast_mul, <- hm]
 rw [h4, <- Int.mul_assoc, <- h2]
 rw [Int.mul_right_comm]
theorem tms_scale {D L : Nat} (h : 0 < D) (hL : 0 < L) : ∀ (ps z : List Int), (∀ q, q ∈ zR D z -> q.den ∣ L) -> ps.length = z.length ->
  (nearL (tms ps (zR D z) L)).1 * D = (nearZ ps z).1 * L /\ (nearL (tms ps (zR D z) L)).2 * D = (nearZ ps z).2 * L
 | [], [], _, _ => by simp [tms, nearL, nearZ]
 | [], _ :: _, _, hl => by simp at hl
 | _ :: _, [], _, hl => by simp at hl
 | p :: ps, x :: z, hd, hl => by
  have ih := tms_scale h hL ps z (fun q hq => hd q (by simp only [List.map_cons, List.mem_cons]; exact .inr hq)) (by simpa using hl)
  have hdx := hd (mkRat x D) (by simp)
  have hf := fac_scale h hL x hdx
  have hz : nearZ (p :: ps) (x :: z) = ((near1 (p, x)).1 + (nearZ ps z).1, (near1 (p, x)).2 + (nearZ ps z).2) := by
   unfold nearZ; rw [List.zip_cons_cons, nearL_cons]
  rw [show zR D (x :: z) = mkRat x D :: zR D z from rfl, tms_cons, hz]
  by_cases h0 : (mkRat x D).num = 0
  ·have hx : x = 0 := (mkRat_num_zero h x).1 h0
   have hn : near1 (p, (0 : Int)) = (0, 0) := by unfold near1; split <;> simp
   rw [if_pos h0, hx, hn]
   simpa using ih
  ·rw [if_neg h0]
   show (nearL ((p, _) :: tms ps (zR D z) L)).1 * _ = _ /\ (nearL ((p, _) :: tms ps (zR D z) L)).2 * _ = _
   rw [nearL_cons]
   obtain ⟨s1, s2⟩ := near1_scale (p := p) (L := (L : Int)) (D := (D : Int)) (by omega) (by omega) hf
   simp only [Int.add_mul]
   exact ⟨by rw [s1, ih.1], by rw [s2, ih.2]⟩
theorem tms_nil {D L : Nat} (h : 0 < D) : ∀ (ps z : List Int), ps.length = z.length -> (tms ps (zR D z) L = [] ↔ (z.all (fun x => x == 0)) = true)
 | [], [], _ => by simp [tms]
 | [], _ :: _, hl => by simp at hl
 | _ :: _, [], hl => by simp at hl
 | p :: ps, x :: z, hl => by
  have ih := tms_nil (L := L) h ps z (by simpa using hl)
  rw [show zR D (x :: z) = mkRat x D :: zR D z from rfl, tms_cons]
  by_cases h0 : (mkRat x D).num = 0
  ·have hx : x = 0 := (mkRat_num_zero h x).1 h0
   rw [if_pos h0, hx]
   simpa using ih
  ·have hx : ¬ x = 0 := fun e => h0 ((mkRat_num_zero h x).2 e)
   rw [if_neg h0]
   simp [hx]
theorem sign_scale {a b : Int} {L D : Int} (hL : 0 < L) (hD : 0 < D) (h : a * D = b * L) : (0 <= a ↔ 0 <= b) /\ (a <= 0 ↔ b <= 0) := by
 constructor
 ·constructor
  ·intro ha
   have : 0 <= b * L := by rw [<- h]; exact Int.mul_nonneg ha (by omega)
   exact Int.nonneg_of_mul_nonneg_left this hL
  ·intro hb
   have : 0 <= a * D := by rw [h]; exact Int.mul_nonneg hb (by omega)
   exact Int.nonneg_of_mul_nonneg_left this hD
 ·constructor
  ·intro ha
   have h1 : a * D <= 0 * D := Int.mul_le_mul_of_nonneg_right ha (by omega)
   have : b * L <= 0 := by rw [<- h]; simpa using h1
   exact Int.nonpos_of_mul_nonpos_left this hL
  ·intro hb
   have h1 : b * L <= 0 * L := Int.mul_le_mul_of_nonneg_right hb (by omega)
   have : a * D <= 0 := by rw [h]; simpa using h1
   exact Int.nonpos_of_mul_nonpos_left this hD
theorem sgn_Z {D L : Nat} (h : 0 < D) (hL : 0 < L) {ps z : List Int} (hd : ∀ q, q ∈ zR D z -> q.den ∣ L) (hl : ps.length = z.length) : sgn (tms ps (zR D z) L) = cmpZ ps z /\ (decZ ps z -> decided (tms ps (zR D z) L)) := by
 obtain ⟨s1, s2⟩ := tms_scale h hL ps z hd hl
 obtain ⟨a1, _⟩ := sign_scale (L := (L : Int)) (D := (D : Int)) (by omega) (by omega) s1
 obtain ⟨_, b2⟩ := sign_scale (L := (L : Int)) (D := (D : Int)) (by omega) (by omega) s2
 have hn := tms_nil (L := L) h ps z hl
 unfold sgn cmpZ decided decZ
 constructor
 ·by_cases hz : (z.all (fun x => x == 0)) = true
  ·rw [if_pos (hn.2 hz), if_pos hz]
  ·rw [if_neg (fun e => hz (hn.1 e)), if_neg hz]
   by_cases hp : 0 <= (nearZ ps z).1
   ·rw [if_pos hp, if_pos (a1.2 hp)]
   ·rw [if_neg hp, if_neg (fun e => hp (a1.1 e))]
 ·rintro (hz | hz | hz)
  ·exact .inl (hn.2 hz)
  ·exact .inr (.inl (a1.2 hz))
  ·exact .inr (.inr (b2.2 hz))
end Go.Ev

namespace Go.Ev
open Go Go.RowKit
section
variable {α : Type}
theorem insR_mem (c : α -> α -> Int) (x : α) : ∀ (l : List α) (a : α), a ∈ insR c x l ↔ a = x ∨ a ∈ l
 | [], a => by simp [insR]
 | y :: ys, a => by
  unfold insR
  split
  ·simp only [List.mem_cons, insR_mem c x ys a]
   constructor
   ·rintro (h | h | h)
    ·exact .inr (.inl h)
    ·exact .inl h
    ·exact .inr (.inr h)
   ·rintro (h | h | h)
    ·exact .inr (.inl h)
    ·exact .inl h
    ·exact .inr (.inr h)
  ·simp only [List.mem_cons]
theorem insR_len (c : α -> α -> Int) (x : α) : ∀ (l : List α), (insR c x l).length = l.length + 1
 | [] => rfl
 | y :: ys => by
  unfold insR
  split
  ·simp [insR_len c x ys]
  ·simp
theorem foldR_mem (c : α -> α -> Int) : ∀ (l r : List α) (a : α), a ∈ l.foldl (fun r x => insR c x r) r ↔ a ∈ l ∨ a ∈ r
 | [], r, a => by simp
 | x :: l, r, a => by
  rw [List.foldl_cons, foldR_mem c l, insR_mem]
  simp only [List.mem_cons]
  constructor
  ·rintro (h | h | h)
   ·exact .inl (.inr h)
   ·exact .inl (.inl h)
   ·exact .inr h
  ·rintro ((h | h) | h)
   ·exact .inr (.inl h)
   ·exact .inl h
   ·exact .inr (.inr h)
theorem foldR_len (c : α -> α -> Int) : ∀ (l r : List α), (l.foldl (fun r x => insR c x r) r).length = l.length + r.length
 | [], r => by simp
 | x :: l, r => by rw [List.foldl_cons, foldR_len c l, insR_len]; simp; omega
theorem gsort_mem (c : α -> α -> Int) (l : List α) (a : α) : a ∈ gsort c l ↔ a ∈ l := by unfold gsort; rw [List.mem_reverse, foldR_mem]; simp
theorem gsort_len (c : α -> α -> Int) (l : List α) : (gsort c l).length = l.length := by unfold gsort; rw [List.length_reverse, foldR_len]; simp
theorem get_mid (A : List PVal) (x : PVal) (B : List PVal) : (A ++ x :: B)[A.length]? = some x := by
 rw [List.getElem?_append_right (Nat.le_refl _)]; simp
theorem set_mid (A : List PVal) (x y : PVal) (B : List PVal) : (A ++ x :: B).set A.length y = A ++ y :: B := by
 rw [List.set_append_right _ _ (Nat.le_refl _)]; simp
theorem inner131_84 {f : α -> List PVal} {c : α -> α -> Int} {p q r : List PVal} {m a0 : Int} {x : α} {e0 : Int -> Int -> List PVal -> List PVal -> List PVal -> Int -> List PVal -> Bool} : ∀ (k : Nat) (ys zs : List α), ys.length < k -> ys.length + zs.length < 100000 ->
  (∀ y, y ∈ ys -> ∀ K : Int -> Bool, Q84 p q r (f x) (f y) K = K (c x y)) ->
  LP131_84_2 e0 k 0 m p q r a0 (ys.length : Int) (((ys.reverse ++ x :: zs).map fun a => xV (f a))) = e0 0 m p q r a0 (((insR c x ys).reverse ++ zs).map fun a => xV (f a))
 | 0, ys, zs, h, _, _ => by omega
 | k + 1, [], zs, h, hb, hc => by
  simp [LP131_84_2, St131_84_2_0, insR]
 | k + 1, y :: ys, zs, h, hb, hc => by
  simp only [List.length_cons] at h hb
  have hlen : ((((y :: ys).reverse ++ x :: zs).map fun a => xV (f a))).length = ys.length + 1 + (zs.length + 1) := by simp; omega
  have e1 : ((y :: ys).reverse ++ x :: zs).map (fun a => xV (f a)) = (ys.reverse.map fun a => xV (f a)) ++ xV (f y) :: xV (f x) :: (zs.map fun a => xV (f a)) := by simp
  have hl1 : (ys.reverse.map fun a => xV (f a)).length = ys.length := by simp
  have g0 : (((y :: ys).reverse ++ x :: zs).map (fun a => xV (f a)))[ys.length]? = some (xV (f y)) := by rw [e1, <- hl1]; exact get_mid _ _ _
  have g1 : (((y :: ys).reverse ++ x :: zs).map (fun a => xV (f a)))[ys.length + 1]? = some (xV (f x)) := by
   rw [e1, List.getElem?_append_right (by omega), hl1]
   simp
  have hlt1 : decide (((ys.length + 1 : Nat) : Int) < nI (ys.length + 1 + (zs.length + 1))) = true := lt_nI (by omega)
  have hlt0 : decide ((ys.length : Int) < nI (ys.length + 1 + (zs.length + 1))) = true := lt_nI (by omega)
  have hw : wI (((ys.length + 1 : Nat) : Int) - 1) = (ys.length : Int) := by rw [wI_eq (by omega)]; omega
  have hgt : decide (((ys.length + 1 : Nat) : Int) > 0) = true := decide_eq_true (by omega)
  have hd1 : decide (ys.length + 1 < ys.length + 1 + (zs.length + 1)) = true := decide_eq_true (by omega)
  have hd0 : decide (ys.length < ys.length + 1 + (zs.length + 1)) = true := decide_eq_true (by omega)
  have hset : ((((y :: ys).reverse ++ x :: zs).map (fun a => xV (f a))).set (ys.length + 1) (xV (f y))).set ys.length (xV (f x)) = ((ys.reverse ++ x :: (y :: zs)).map fun a => xV (f a)) := by
   rw [e1]
   have : ((ys.reverse.map fun a => xV (f a)) ++ xV (f y) :: xV (f x) :: (zs.map fun a => xV (f a))).set (ys.length + 1) (xV (f y)) = (ys.reverse.map fun a => xV (f a)) ++ xV (f y) :: xV (f y) :: (zs.map fun a => xV (f a)) := by
    rw [List.set_append_right _ _ (by omega), hl1]
    simp
   rw [this]
   conv => lhs; rw [<- hl1]
   rw [set_mid]
   simp
  simp only [List.length_cons, LP131_84_2, St131_84_2_0, hgt, cond_true, hlen, ge0, hlt1, hlt0, Bool.and_self, gd_true, Int.toNat_natCast, g1, g0, hw, oOpt, oSl, List.length_set, hd1, hd0]
  rw [hc y (by simp)]
  by_cases hn : c x y < 0
  ·simp only [hn, decide_true, cond_true, hset]
   rw [inner131_84 k ys (y :: zs) (by omega) (by simp; omega) (fun z hz => hc z (by simp [hz]))]
   simp [insR, hn]
  ·simp only [hn, decide_false, cond_false]
   simp [insR, hn]
theorem l131_84 {f : α -> List PVal} {c : α -> α -> Int} {p q r : List PVal} {l : List α} (hl : l.length < 1000) (hc : ∀ a, a ∈ l -> ∀ b, b ∈ l -> ∀ K : Int -> Bool, Q84 p q r (f a) (f b) K = K (c a b)) (K : List PVal -> Bool) :
  Q131_84 (l.map fun a => xV (f a)) 0 (l.length : Int) p q r K = K ((gsort c l).map fun a => xV (f a)) := by
 rw [Q131_84_def]; unfold G131_84 L131_84_0_0
 have w1 : wI (0 + 1) = ((1 : Nat) : Int) := by decide
 rw [w1]
 cases l with
 | nil =>
  obtain ⟨k, hk⟩ := fuel_add 1
  rw [hk]
  simp [LP131_84_0, St131_84_0_0, gsort]
 | cons x0 l =>
  have key := loop_iter (fun k (i : Nat) => LP131_84_0 (fun y17v => K y17v) k 0 ((x0 :: l).length : Int) p q r ((i + 1 : Nat) : Int)
    (((((x0 :: l).take (i + 1)).foldl (fun r x => insR c x r) []).reverse ++ (x0 :: l).drop (i + 1)).map fun a => xV (f a))) l.length (fun i => i) (R := K ((gsort c (x0 :: l)).map fun a => xV (f a)))
   (fun i hi n => ?_) (fun n => ?_) fuel (fuel_gt (by simp at hl; omega))
  ·simpa [insR] using key
  ·have hi1 : i + 1 < (x0 :: l).length := by simp; omega
   have hstep : (x0 :: l).take (i + 1 + 1) = (x0 :: l).take (i + 1) ++ [(x0 :: l)[i + 1]] := List.take_succ_eq_append_getElem hi1
   have hdrop : (x0 :: l).drop (i + 1) = (x0 :: l)[i + 1] :: (x0 :: l).drop (i + 1 + 1) := List.drop_eq_getElem_cons hi1
   have hlen : (((x0 :: l).take (i + 1)).foldl (fun r x => insR c x r) []).length = i + 1 := by rw [foldR_len]; simp at hi1 ⊢; omega
   have hlt : decide (((i + 1 : Nat) : Int) < ((x0 :: l).length : Int)) = true := by simp at hi1 ⊢; omega
   simp only [LP131_84_0, St131_84_0_0, hlt, cond_true]
   rw [hdrop]
   have hin := inner131_84 (f := f) (c := c) (p := p) (q := q) (r := r) (m := ((x0 :: l).length : Int)) (a0 := ((i + 1 : Nat) : Int)) (x := (x0 :: l)[i + 1])
    (e0 := fun y10v y11v y12v y13v y14v y15v y16v => LP131_84_0 (fun y17v => K y17v) n y10v y11v y12v y13v y14v (wI (y15v + 1)) y16v) fuel
    (((x0 :: l).take (i + 1)).foldl (fun r x => insR c x r) []) ((x0 :: l).drop (i + 1 + 1)) (by rw [hlen]; exact fuel_gt (by omega)) (by rw [hlen]; simp at hl hi1 ⊢; omega)
    (fun y hy => hc _ (List.getElem_mem hi1) y (by
     rw [foldR_mem] at hy
     rcases hy with hy | hy
     ·exact List.mem_of_mem_take hy
     ·cases hy))
   rw [hlen] at hin
   unfold L131_84_2_0
   rw [hin, wI_succ (by simp at hl; omega), hstep, List.foldl_append]
   rfl
  ·have hlt : decide (((l.length + 1 : Nat) : Int) < ((x0 :: l).length : Int)) = false := by simp
   simp only [LP131_84_0, St131_84_0_0, hlt, cond_false]
   have h1 : (x0 :: l).take (l.length + 1) = x0 :: l := List.take_of_length_le (by simp)
   have h2 : (x0 :: l).drop (l.length + 1) = [] := List.drop_eq_nil_of_le (by simp)
   rw [h1, h2]
   simp [gsort]
theorem l70_84 {f : α -> List PVal} {c : α -> α -> Int} {p q r : List PVal} {l : List α} (hl : l.length <= 12) (hc : ∀ a, a ∈ l -> ∀ b, b ∈ l -> ∀ K : Int -> Bool, Q84 p q r (f a) (f b) K = K (c a b)) (K : List PVal -> Bool) :
  Q70_84 (l.map fun a => xV (f a)) p q r K = K ((gsort c l).map fun a => xV (f a)) := by
 rw [Q70_84_def]; unfold G70_84
 simp only [List.length_map]
 rw [H99_def]; unfold D99
 rw [wU_eq (by simp only [nI]; omega)]
 have h1 : (decide (0 <= nI l.length) && decide (nI l.length < 18446744073709551616)) = true := by simp [nI]; omega
 rw [h1, cond_true, Q98_84_def]; unfold G98_84 L98_84_0_0
 obtain ⟨k, hk⟩ := fuel_add 1
 rw [hk]
 have h2 : decide ((wI (nI l.length - 0)) <= 12) = true := by rw [wI_eq (by simp only [nI]; omega)]; simp [nI]; omega
 simp only [LP98_84_0, St98_84_0_0, h2, cond_true]
 rw [show nI l.length = (l.length : Int) from rfl, l131_84 (by omega) hc]
theorem inner131_71 {f : α -> List PVal} {c : α -> α -> Int} {p : List PVal} {m a0 : Int} {x : α} {e0 : Int -> Int -> List PVal -> Int -> List PVal -> Bool} : ∀ (k : Nat) (ys zs : List α), ys.length < k -> ys.length + zs.length < 100000 ->
  (∀ y, y ∈ ys -> ∀ K : Int -> Bool, Q71 (f x) (f y) p K = K (c x y)) ->
  LP131_71_2 e0 k 0 m p a0 (ys.length : Int) (((ys.reverse ++ x :: zs).map fun a => xV (f a))) = e0 0 m p a0 (((insR c x ys).reverse ++ zs).map fun a => xV (f a))
 | 0, ys, zs, h, _, _ => by omega
 | k + 1, [], zs, h, hb, hc => by
  simp [LP131_71_2, St131_71_2_0, insR]
 | k + 1, y :: ys, zs, h, hb, hc => by
  simp only [List.length_cons] at h hb
  have hlen : ((((y :: ys).reverse ++ x :: zs).map fun a => xV (f a))).length = ys.length + 1 + (zs.length + 1) := by simp; omega
  have e1 : ((y :: ys).reverse ++ x :: zs).map (fun a => xV (f a)) = (ys.reverse.map fun a => xV (f a)) ++ xV (f y) :: xV (f x) :: (zs.map fun a => xV (f a)) := by simp
  have hl1 : (ys.reverse.map fun a => xV (f a)).length = ys.length := by simp
  have g0 : (((y :: ys).reverse ++ x :: zs).map (fun a => xV (f a)))[ys.length]? = some (xV (f y)) := by rw [e1, <- hl1]; exact get_mid _ _ _
  have g1 : (((y :: ys).reverse ++ x :: zs).map (fun a => xV (f a)))[ys.length + 1]? = some (xV (f x)) := by
   rw [e1, List.getElem?_append_right (by omega), hl1]
   simp
  have hlt1 : decide (((ys.length + 1 : Nat) : Int) < nI (ys.length + 1 + (zs.length + 1))) = true := lt_nI (by omega)
  have hlt0 : decide ((ys.length : Int) < nI (ys.length + 1 + (zs.length + 1))) = true := lt_nI (by omega)
  have hw : wI (((ys.length + 1 : Nat) : Int) - 1) = (ys.length : Int) := by rw [wI_eq (by omega)]; omega
  have hgt : decide (((ys.length + 1 : Nat) : Int) > 0) = true := decide_eq_true (by omega)
  have hd1 : decide (ys.length + 1 < ys.length + 1 + (zs.length + 1)) = true := decide_eq_true (by omega)
  have hd0 : decide (ys.length < ys.length + 1 + (zs.length + 1)) = true := decide_eq_true (by omega)
  have hset : ((((y :: ys).reverse ++ x :: zs).map (fun a => xV (f a))).set (ys.length + 1) (xV (f y))).set ys.length (xV (f x)) = ((ys.reverse ++ x :: (y :: zs)).map fun a => xV (f a)) := by
   rw [e1]
   have : ((ys.reverse.map fun a => xV (f a)) ++ xV (f y) :: xV (f x) :: (zs.map fun a => xV (f a))).set (ys.length + 1) (xV (f y)) = (ys.reverse.map fun a => xV (f a)) ++ xV (f y) :: xV (f y) :: (zs.map fun a => xV (f a)) := by
    rw [List.set_append_right _ _ (by omega), hl1]
    simp
   rw [this]
   conv => lhs; rw [<- hl1]
   rw [set_mid]
   simp
  simp only [List.length_cons, LP131_71_2, St131_71_2_0, hgt, cond_true, hlen, ge0, hlt1, hlt0, Bool.and_self, gd_true, Int.toNat_natCast, g1, g0, hw, oOpt, oSl, List.length_set, hd1, hd0]
  rw [hc y (by simp)]
  by_cases hn : c x y < 0
  ·simp only [hn, decide_true, cond_true, hset]
   rw [inner131_71 k ys (y :: zs) (by omega) (by simp; omega) (fun z hz => hc z (by simp [hz]))]
   simp [insR, hn]
  ·simp only [hn, decide_false, cond_false]
   simp [insR, hn]
theorem l131_71 {f : α -> List PVal} {c : α -> α -> Int} {p : List PVal} {l : List α} (hl : l.length < 1000) (hc : ∀ a, a ∈ l -> ∀ b, b ∈ l -> ∀ K : Int -> Bool, Q71 (f a) (f b) p K = K (c a b)) (K : List PVal -> Bool) :
  Q131_71 (l.map fun a => xV (f a)) 0 (l.length : Int) p K = K ((gsort c l).map fun a => xV (f a)) := by
 rw [Q131_71_def]; unfold G131_71 L131_71_0_0
 have w1 : wI (0 + 1) = ((1 : Nat) : Int) := by decide
 rw [w1]
 cases l with
 | nil =>
  obtain ⟨k, hk⟩ := fuel_add 1
  rw [hk]
  simp [LP131_71_0, St131_71_0_0, gsort]
 | cons x0 l =>
  have key := loop_iter (fun k (i : Nat) => LP131_71_0 (fun y15v => K y15v) k 0 ((x0 :: l).length : Int) p ((i + 1 : Nat) : Int)
    (((((x0 :: l).take (i + 1)).foldl (fun r x => insR c x r) []).reverse ++ (x0 :: l).drop (i + 1)).map fun a => xV (f a))) l.length (fun i => i) (R := K ((gsort c (x0 :: l)).map fun a => xV (f a)))
   (fun i hi n => ?_) (fun n => ?_) fuel (fuel_gt (by simp at hl; omega))
  ·simpa [insR] using key
  ·have hi1 : i + 1 < (x0 :: l).length := by simp; omega
   have hstep : (x0 :: l).take (i + 1 + 1) = (x0 :: l).take (i + 1) ++ [(x0 :: l)[i + 1]] := List.take_succ_eq_append_getElem hi1
   have hdrop : (x0 :: l).drop (i + 1) = (x0 :: l)[i + 1] :: (x0 :: l).drop (i + 1 + 1) := List.drop_eq_getElem_cons hi1
   have hlen : (((x0 :: l).take (i + 1)).foldl (fun r x => insR c x r) []).length = i + 1 := by rw [foldR_len]; simp at hi1 ⊢; omega
   have hlt : decide (((i + 1 : Nat) : Int) < ((x0 :: l).length : Int)) = true := by simp at hi1 ⊢; omega
   simp only [LP131_71_0, St131_71_0_0, hlt, cond_true]
   rw [hdrop]
   have hin := inner131_71 (f := f) (c := c) (p := p) (m := ((x0 :: l).length : Int)) (a0 := ((i + 1 : Nat) : Int)) (x := (x0 :: l)[i + 1])
    (e0 := fun y10v y11v y12v y13v y14v => LP131_71_0 (fun y15v => K y15v) n y10v y11v y12v (wI (y13v + 1)) y14v) fuel
    (((x0 :: l).take (i + 1)).foldl (fun r x => insR c x r) []) ((x0 :: l).drop (i + 1 + 1)) (by rw [hlen]; exact fuel_gt (by omega)) (by rw [hlen]; simp at hl hi1 ⊢; omega)
    (fun y hy => hc _ (List.getElem_mem hi1) y (by
     rw [foldR_mem] at hy
     rcases hy with hy | hy
     ·exact List.mem_of_mem_take hy
     ·cases hy))
   rw [hlen] at hin
   unfold L131_71_2_0
   rw [hin, wI_succ (by simp at hl; omega), hstep, List.foldl_append]
   rfl
  ·have hlt : decide (((l.length + 1 : Nat) : Int) < ((x0 :: l).length : Int)) = false := by simp
   simp only [LP131_71_0, St131_71_0_0, hlt, cond_false]
   have h1 : (x0 :: l).take (l.length + 1) = x0 :: l := List.take_of_length_le (by simp)
   have h2 : (x0 :: l).drop (l.length + 1) = [] := List.drop_eq_nil_of_le (by simp)
   rw [h1, h2]
   simp [gsort]
theorem l70_71 {f : α -> List PVal} {c : α -> α -> Int} {p : List PVal} {l : List α} (hl : l.length <= 12) (hc : ∀ a, a ∈ l -> ∀ b, b ∈ l -> ∀ K : Int -> Bool, Q71 (f a) (f b) p K = K (c a b)) (K : List PVal -> Bool) :
  Q70_71 (l.map fun a => xV (f a)) p K = K ((gsort c l).map fun a => xV (f a)) := by
 rw [Q70_71_def]; unfold G70_71
 simp only [List.length_map]
 rw [H99_def]; unfold D99
 rw [wU_eq (by simp only [nI]; omega)]
 have h1 : (decide (0 <= nI l.length) && decide (nI l.length < 18446744073709551616)) = true := by simp [nI]; omega
 rw [h1, cond_true, Q98_71_def]; unfold G98_71 L98_71_0_0
 obtain ⟨k, hk⟩ := fuel_add 1
 rw [hk]
 have h2 : decide ((wI (nI l.length - 0)) <= 12) = true := by rw [wI_eq (by simp only [nI]; omega)]; simp [nI]; omega
 simp only [LP98_71_0, St98_71_0_0, h2, cond_true]
 rw [show nI l.length = (l.length : Int) from rfl, l131_71 (by omega) hc]
end
end Go.Ev

namespace Go.Ev
open Go Go.RowKit
theorem PsOk.pr {ps : List Int} (h : PsOk ps) : Pr (encPs ps) := by
 rcases h with rfl | rfl
 ·exact .inl rfl
 ·exact .inr rfl
theorem PsOk.len {ps : List Int} (h : PsOk ps) : ps.length = 2 ∨ ps.length = 3 := by rcases h with rfl | rfl <;> simp
theorem PsOk.mem {ps : List Int} (h : PsOk ps) : ∀ p, p ∈ ps -> p = 2 ∨ p = 3 ∨ p = 5 := by rcases h with rfl | rfl <;> simp <;> omega
theorem encPs_len (ps : List Int) : (encPs ps).length = ps.length := by simp
theorem zR_len (D : Nat) (z : List Int) : (zR D z).length = z.length := by simp
theorem zsub_len {a b : List Int} (h : a.length = b.length) : (zsub a b).length = a.length := by simp [zsub, h]
theorem zadd_len {a b : List Int} (h : a.length = b.length) : (zadd a b).length = a.length := by simp [zadd, h]
theorem zscale_len (a : List Int) (k : Int) : (zscale a k).length = a.length := by simp [zscale]
theorem encZs_len (D : Nat) (l : List (List Int)) : (encZs D l).length = l.length := by simp
theorem encZs_L (D : Nat) (l : List (List Int)) : encZs D l = encL (l.map (zR D)) := by simp [encZs, encL]
theorem ZS.mono {B C : Nat} {z : List Int} (h : ZS B z) (hBC : B <= C) : ZS C z := fun x hx => Nat.lt_of_lt_of_le (h x hx) hBC
theorem ZS.sub {A B : Nat} {a b : List Int} (ha : ZS A a) (hb : ZS B b) : ZS (A + B) (zsub a b) := by
 intro x hx
 unfold zsub at hx
 rw [List.mem_iff_getElem] at hx
 obtain ⟨i, hi, rfl⟩ := hx
 rw [List.length_zipWith] at hi
 rw [List.getElem_zipWith]
 have h1 := ha _ (List.getElem_mem (show i < a.length by omega))
 have h2 := hb _ (List.getElem_mem (show i < b.length by omega))
 omega
theorem ZS.add {A B : Nat} {a b : List Int} (ha : ZS A a) (hb : ZS B b) : ZS (A + B) (zadd a b) := by
 intro x hx
 unfold zadd at hx
 rw [List.mem_iff_getElem] at hx
 obtain ⟨i, hi, rfl⟩ := hx
 rw [List.length_zipWith] at hi
 rw [List.getElem_zipWith]
 have h1 := ha _ (List.getElem_mem (show i < a.length by omega))
 have h2 := hb _ (List.getElem_mem (show i < b.length by omega))
 omega
theorem ZS.scale {A : Nat} {a : List Int} (ha : ZS A a) {k : Int} {m : Nat} (hk : k.natAbs <= m) (hm : 0 < m) : ZS (A * m) (zscale a k) := by
 intro x hx
 obtain ⟨y, hy, rfl⟩ := List.mem_map.1 hx
 have h1 := ha y hy
 rw [Int.natAbs_mul]
 rcases Nat.eq_zero_or_pos k.natAbs with h0 | h0
 ·rw [h0, Nat.mul_zero]; exact Nat.mul_pos (by omega) hm
 ·exact Nat.lt_of_lt_of_le (Nat.mul_lt_mul_of_pos_right h1 h0) (Nat.mul_le_mul_left _ hk)
section
variable {ps : List Int} {D : Nat}
theorem l16z (hps : PsOk ps) (hD : 0 < D /\ D < 3000) {a b : List Int} (la : a.length = ps.length) (lb : b.length = ps.length) (ha : ZS 15000 a) (hb : ZS 15000 b) (K : List PVal -> Int -> Bool) :
  Q16 (encPs ps) (encZ D a) (encZ D b) K = K (encZ D (zsub a b)) 0 := by
 rw [l16 hps.pr (zR_SV (by omega) (ha.mono (by omega))) (zR_SV (by omega) (hb.mono (by omega))) (by simp [la]) (by simp [lb]) (by rw [zR_sub hD.1]; exact zR_SV (by omega) (ha.sub hb)), zR_sub hD.1]
theorem l126z (hps : PsOk ps) (hD : 0 < D /\ D < 3000) {a b : List Int} (la : a.length = ps.length) (lb : b.length = ps.length) (ha : ZS 15000 a) (hb : ZS 15000 b) (K : List PVal -> Int -> Bool) :
  Q126 (encPs ps) (encZ D a) (encZ D b) K = K (encZ D (zadd a b)) 0 := by
 rw [l126 hps.pr (zR_SV (by omega) (ha.mono (by omega))) (zR_SV (by omega) (hb.mono (by omega))) (by simp [la]) (by simp [lb]) (by rw [zR_add hD.1]; exact zR_SV (by omega) (ha.add hb)), zR_add hD.1]
theorem l123z (hps : PsOk ps) (hD : 0 < D /\ D < 3000) {a : List Int} {k : Int} (la : a.length = ps.length) (ha : ZS 1000 a) (hk : k.natAbs <= 20) (K : List PVal -> Int -> Bool) :
  Q123 (encPs ps) (encZ D a) (itoaB k) (itoaB 1) K = K (encZ D (zscale a k)) 0 := by
 have := l123 (f := (k : Rat)) hps.pr (zR_SV (D := D) (by omega) (ha.mono (by omega))) (by simp [la]) ⟨by simp; omega, by simp⟩ (by rw [zR_scale]; exact zR_SV (by omega) ((ha.scale (m := 20) hk (by omega)).mono (by omega))) K
 rw [zR_scale] at this
 exact this
theorem l85z (hps : PsOk ps) (hD : 0 < D /\ D < 3000) {a b : List Int} (la : a.length = ps.length) (lb : b.length = ps.length) (ha : ZS 15000 a) (hb : ZS 15000 b) (hd : decZ ps (zsub a b)) (K : Int -> Bool) :
  Q85 (encPs ps) (encZ D a) (encZ D b) K = K (cmpZ ps (zsub a b)) := by
 have hlen := hps.len
 have hsl : (zsub a b).length = ps.length := by rw [zsub_len (by omega), la]
 have hSV : SV (zR D (zsub a b)) := zR_SV (by omega) (ha.sub hb)
 obtain ⟨p1, p2, p3⟩ := lcmD_ok hD.1 (zR_den hD.1 (z := zsub a b))
 obtain ⟨s1, s2⟩ := sgn_Z hD.1 p1 p3 hsl.symm (ps := ps)
 rw [Q85_def]; unfold G85
 rw [l45 (by omega), l45 (by omega)]
 have e := sum_sub (n := ps.length) (by omega) (zR_SV (D := D) (by omega) (ha.mono (by omega))) (zR_SV (D := D) (by omega) (hb.mono (by omega))) (by simp [la]) (by simp [lb])
  (fun z5v => Q113 (encPs ps) z5v (fun z6v z7v z8v => Q114 z6v z7v z8v (fun z9v => K z9v)))
 rw [zR_sub hD.1] at e
 rw [show nI (encPs ps).length = ((ps.length : Nat) : Int) by simp [nI]]
 refine e.trans ?_
 rw [l113 hD hSV (zR_den hD.1) (by rw [zR_len, hsl]) (by rw [zR_len]; omega)]
 have hle := Nat.le_of_dvd hD.1 p2
 rw [l114 (fun x hx => ?_) (Nat.le_trans (tms_len _ _ _) (by rw [zR_len]; omega)) (s2 hd), s1]
 unfold tms at hx
 obtain ⟨y, hy, rfl⟩ := List.mem_map.1 hx
 have hy2 := List.of_mem_zip (List.mem_filter.1 hy).1
 have hfs := fac_small (hSV _ hy2.2) hD.2 hle (p3 _ hy2.2)
 have hlim : (y.2.num * ((lcmD (zR D (zsub a b)) / y.2.den : Nat) : Int)).natAbs <= 10000000 := by
  -- the factor times D is an element times the common denominator
  obtain ⟨w, hw, hwe⟩ := List.mem_map.1 hy2.2
  have hf := fac_scale (L := lcmD (zR D (zsub a b))) hD.1 p1 w (by rw [hwe]; exact p3 _ hy2.2)
  rw [hwe] at hf
  have hwb := (ha.sub hb) w hw
  have h1 : (y.2.num * ((lcmD (zR D (zsub a b)) / y.2.den : Nat) : Int)).natAbs * D = w.natAbs * lcmD (zR D (zsub a b)) := by
   have := congrArg Int.natAbs hf
   rw [Int.natAbs_mul (y.2.num * _) (D : Int), Int.natAbs_mul w, Int.natAbs_natCast, Int.natAbs_natCast] at this
   exact this
  have h2 : w.natAbs * lcmD (zR D (zsub a b)) <= w.natAbs * D := Nat.mul_le_mul_left _ hle
  have h3 := Nat.le_of_mul_le_mul_right (h1 ▸ h2) hD.1
  omega
 exact ⟨hps.mem _ hy2.1, by omega, by omega⟩
theorem l50z (hps : PsOk ps) (hD : 0 < D /\ D < 3000) {a b : List Int} (la : a.length = ps.length) (lb : b.length = ps.length) (ha : ZS 15000 a) (hb : ZS 15000 b) (hd : decZ ps (zsub a b)) (K : Int -> Int -> Bool) :
  Q50 (encPs ps) (encZ D a) (encZ D b) K = K (cmpZ ps (zsub a b)) 0 := by
 rw [Q50_def]; unfold G50
 have e1 : ([xV (encZ D a), xV (encZ D b)] : List PVal) = encL [zR D a, zR D b] := rfl
 rw [e1, l76 hps.pr (by
  intro v hv
  simp only [List.mem_cons, List.not_mem_nil, or_false] at hv
  rcases hv with rfl | rfl
  ·exact ⟨zR_SV (by omega) (ha.mono (by omega)), by simp [la]⟩
  ·exact ⟨zR_SV (by omega) (hb.mono (by omega)), by simp [lb]⟩) (by simp)]
 simp only [bne_self_eq_false, cond_false]
 rw [l85z hps hD la lb ha hb hd]
variable {notes : List (List Int)}
theorem getD_mem {l : List (List Int)} {i : Nat} (h : i < l.length) : l.getD i [] ∈ l := by
 rw [List.getD_eq_getElem?_getD, List.getElem?_eq_getElem h]
 exact List.getElem_mem h
theorem get_encZs {l : List (List Int)} {i : Nat} (h : i < l.length) : (encZs D l)[i]? = some (xV (encZ D (l.getD i []))) := by
 rw [List.getD_eq_getElem?_getD, List.getElem?_eq_getElem h]
 simp [h]
theorem zeros_Z : encZ D (zeros ps) = encS (List.replicate ps.length 0) := by
 unfold encZ zeros zR
 rw [List.map_map]
 congr 1
 induction ps with
 | nil => rfl
 | cons p ps ih => rw [List.map_cons, List.length_cons, List.replicate_succ, ih]; simp
theorem l58 (h : Sc ps D notes) (K : Int -> Bool) : Q58 (encPs ps) (encZs D notes) K = K 0 := by
 have hlen := h.psok.len
 have hne := h.ne
 have hle := h.len
 rw [Q58_def]; unfold G58
 rw [l64 h.psok.pr]
 have h0 : ((nI (encZs D notes).length) == 0) = false := beq_eq_false_iff_ne.2 (by rw [encZs_len]; show ¬ ((notes.length : Int) = 0); omega)
 have h60 : decide ((nI (encZs D notes).length) > 60) = false := decide_eq_false (by rw [encZs_len]; show ¬ ((notes.length : Int) > 60); omega)
 simp only [bne_self_eq_false, cond_false, h0, h60]
 rw [Q91_def]; unfold G91
 rw [l64 h.psok.pr]
 simp only [bne_self_eq_false, cond_false]
 rw [show nI (encPs ps).length = ((ps.length : Nat) : Int) by simp [nI], l110 (by omega), <- zeros_Z (ps := ps) (D := D)]
 unfold L58_1_0
 rw [encZs_len]
 have hpl : ∀ i, i <= notes.length -> (prevN ps notes i).length = ps.length /\ ZS 15000 (prevN ps notes i) := by
  intro i hi
  cases i with
  | zero => exact ⟨by simp [prevN, zeros], fun x hx => by obtain ⟨_, _, rfl⟩ := List.mem_map.1 hx; simp⟩
  | succ i =>
   obtain ⟨h1, h2⟩ := h.vec _ (getD_mem (show i < notes.length by omega))
   exact ⟨h1, h2.mono (by omega)⟩
 refine loop_iter (fun k (i : Nat) => LP58_1 _ _ k (encZ D (prevN ps notes i)) (encZs D notes) (nI notes.length) (i : Int) (encPs ps) (encZs D notes)) notes.length (fun i => i) (fun i hi n => ?_) (fun n => ?_) fuel (fuel_gt (by omega))
 ·obtain ⟨v1, v2⟩ := h.vec _ (getD_mem hi)
  obtain ⟨i1, i2⟩ := h.inc i hi
  obtain ⟨p1, p2⟩ := hpl i (by omega)
  simp only [LP58_1, St58_1_0, lt_nI hi, ge0, cond_true, gd_true, Int.toNat_natCast, get_encZs hi, oOpt, oSl]
  rw [l32 h.psok.pr (zR_SV (by have := h.dok; omega) (v2.mono (by omega))) (by rw [zR_len, encPs_len]; exact v1)]
  simp only [bne_self_eq_false, cond_false]
  rw [l50z h.psok h.dok p1 v1 p2 (v2.mono (by omega)) i1, i2]
  simp only [bne_self_eq_false, cond_false]
  have hm : decide ((-1 : Int) >= 0) = false := by decide
  rw [hm, cond_false, wI_succ (show i < 1000000000 by omega)]
  rfl
 ·simp only [LP58_1, St58_1_0, lt_nI', cond_false]
theorem last_vec (h : Sc ps D notes) : (notes.getD (notes.length - 1) []).length = ps.length /\ ZS 1000 (notes.getD (notes.length - 1) []) := h.vec _ (getD_mem (by have := h.ne; omega))
theorem noteZ_ok (h : Sc ps D notes) {i : Nat} (hi : i <= 2 * notes.length) : (noteZ notes i).length = ps.length /\ ZS 3000 (noteZ notes i) := by
 have hne := h.ne
 obtain ⟨l1, l2⟩ := last_vec h
 have hq : i / notes.length <= 2 := by
  have : i / notes.length < 3 := Nat.div_lt_of_lt_mul (by omega)
  omega
 have hb : ZS 2000 (zscale (notes.getD (notes.length - 1) []) (i / notes.length : Nat)) := l2.scale (m := 2) (by rw [Int.natAbs_natCast]; exact hq) (by omega)
 unfold noteZ
 simp only
 split
 ·exact ⟨by rw [zscale_len, l1], hb.mono (by omega)⟩
 ·next hr =>
  have hm := Nat.mod_lt i hne
  obtain ⟨n1, n2⟩ := h.vec _ (getD_mem (show i % notes.length - 1 < notes.length by omega))
  exact ⟨by rw [zadd_len (by rw [zscale_len, l1, n1]), zscale_len, l1], hb.add n2⟩
theorem l124 (h : Sc ps D notes) (K : List PVal -> Bool) : Q124 (encPs ps) (encZs D notes) K = K (encZ D (notes.getD (notes.length - 1) [])) := by
 have hne := h.ne
 have hle := h.len
 rw [Q124_def]; unfold G124
 have e : wI ((nI (encZs D notes).length) - 1) = ((notes.length - 1 : Nat) : Int) := by rw [encZs_len, wI_eq (by show _ <= (notes.length : Int) - 1 /\ (notes.length : Int) - 1 <= _; omega)]; show (notes.length : Int) - 1 = _; omega
 simp only [e, ge0, gd_true, Int.toNat_natCast]
 rw [get_encZs (by omega)]
 rfl
theorem l92 (h : Sc ps D notes) {i : Nat} (hi : i <= 2 * notes.length) (K : List PVal -> Int -> Bool) : Q92 (encPs ps) (encZs D notes) (i : Int) K = K (encZ D (noteZ notes i)) 0 := by
 have hne := h.ne
 have hle := h.len
 obtain ⟨l1, l2⟩ := last_vec h
 have hm := Nat.mod_lt i hne
 have hq : i / notes.length <= 2 := by
  have : i / notes.length < 3 := Nat.div_lt_of_lt_mul (by omega)
  omega
 have e0 : ((nI (encZs D notes).length) == 0) = false := beq_eq_false_iff_ne.2 (by rw [encZs_len]; show ¬ ((notes.length : Int) = 0); omega)
 have e1 : Int.tdiv (i : Int) (nI (encZs D notes).length) = ((i / notes.length : Nat) : Int) := by
  rw [Int.tdiv_eq_ediv_of_nonneg (by omega)]; simp [nI]
 have e2 : Int.tmod (i : Int) (nI (encZs D notes).length) = ((i % notes.length : Nat) : Int) := by
  rw [Int.tmod_eq_emod_of_nonneg (by omega)]; simp [nI]
 have hb : ZS 2000 (zscale (notes.getD (notes.length - 1) []) (i / notes.length : Nat)) := l2.scale (m := 2) (by rw [Int.natAbs_natCast]; exact hq) (by omega)
 unfold noteZ
 simp only
 generalize hr : i % notes.length = r at *
 generalize hqq : i / notes.length = q at *
 have hneg : decide (((r : Nat) : Int) < 0) = false := by simp
 rw [Q92_def]; unfold G92
 simp only [e0, cond_false, e1, e2, hneg]
 rw [l124 h]
 rw [Q125_def]; unfold G125
 rw [wI_eq (by omega), l82 (by omega), s31_eq]
 dsimp only
 rw [l123z h.psok h.dok l1 l2 (by rw [Int.natAbs_natCast]; omega)]
 simp only [bne_self_eq_false, cond_false]
 by_cases h0 : r = 0
 ·have : (((r : Nat) : Int) == 0) = true := by simp [h0]
  rw [this, if_pos h0]
  rfl
 ·have : (((r : Nat) : Int) == 0) = false := beq_eq_false_iff_ne.2 (by omega)
  rw [this, if_neg h0]
  have ew : wI (((r : Nat) : Int) - 1) = ((r - 1 : Nat) : Int) := by rw [wI_eq (by omega)]; omega
  obtain ⟨n1, n2⟩ := h.vec _ (getD_mem (show r - 1 < notes.length by omega))
  simp only [cond_false, ew, ge0, gd_true, Int.toNat_natCast]
  rw [get_encZs (by omega)]
  simp only [oOpt, oSl]
  rw [l126z h.psok h.dok (by rw [zscale_len, l1]) n1 (hb.mono (by omega)) (n2.mono (by omega))]
theorem l87 (h : Sc ps D notes) {i : Nat} (hi : i <= 2 * notes.length) (K : List PVal -> Int -> Bool) : Q87 (encPs ps) (encZs D notes) (i : Int) K = K (encZ D (noteZ notes i)) 0 := by
 have hle := h.len
 rw [Q87_def]; unfold G87
 rw [l58 h]
 have h1 : decide ((i : Int) < (-1000000)) = false := decide_eq_false (by omega)
 have h2 : decide ((i : Int) > 1000000) = false := decide_eq_false (by omega)
 simp only [bne_self_eq_false, cond_false, h1, h2]
 rw [l92 h hi]
end
end Go.Ev

namespace Go.Ev
open Go Go.RowKit
theorem append_loop {A : Nat -> Int -> Bool} {B : Nat -> Int -> List PVal -> Bool} {m : Nat} {f : Nat -> PVal} {R : List PVal -> Bool} (hm : 0 < m)
  (h0 : ∀ n, A (n + 1) 0 = B n ((1 : Nat) : Int) [f 0]) (h1 : ∀ i, 0 < i -> i < m -> ∀ n acc, acc.length = i -> B (n + 1) (i : Int) acc = B n ((i + 1 : Nat) : Int) (acc ++ [f i]))
  (h2 : ∀ n acc, acc.length = m -> B (n + 1) (m : Int) acc = R acc) : ∀ n, m + 1 < n -> A n 0 = R ((List.range m).map f) := by
 intro n hn
 obtain ⟨n, rfl⟩ : ∃ q, n = q + 1 := ⟨n - 1, by omega⟩
 rw [h0]
 obtain ⟨d, rfl⟩ : ∃ d, m = d + 1 := ⟨m - 1, by omega⟩
 have key := loop_iter (fun n (i : Nat) => B n ((i + 1 : Nat) : Int) ((List.range (i + 1)).map f)) d (fun i => i) (R := R ((List.range (d + 1)).map f))
  (fun i hi n => by
   show B (n + 1) ((i + 1 : Nat) : Int) _ = B n ((i + 1 + 1 : Nat) : Int) _
   rw [h1 (i + 1) (by omega) (by omega) n _ (by simp), List.range_succ (n := i + 1), List.map_append]
   rfl)
  (fun n => h2 n _ (by simp)) n (by omega)
 exact key
theorem maxE {l : List PVal} {m : Nat} (h : l.length = m) (hm : m < 100000) : decide (l.length + 1 <= maxElems) = true := decide_eq_true (by unfold maxElems; omega)
section
variable {ps : List Int} {D : Nat} {notes : List (List Int)}
theorem l87_0 (h : Sc ps D notes) (K : List PVal -> Int -> Bool) : Q87 (encPs ps) (encZs D notes) 0 K = K (encZ D (noteZ notes 0)) 0 := l87 h (i := 0) (by omega) K
theorem l54 (h : Sc ps D notes) (K0 : Int -> Bool) (K1 : List PVal -> List PVal -> List PVal -> Int -> Bool) : Q54 (encPs ps) (encZs D notes) K0 K1 = K1 (encPs ps) (encZs D notes) (encZs D (notes2 notes)) 0 := by
 have hne := h.ne
 have hle := h.len
 rw [Q54_def]; unfold G54 L54_0_0
 rw [l58 h]
 simp only [bne_self_eq_false, cond_false]
 have hw : wI ((wI (2 * (nI (encZs D notes).length))) + 1) = nI (2 * notes.length + 1) := by
  rw [encZs_len]
  show wI (wI (2 * (notes.length : Int)) + 1) = ((2 * notes.length + 1 : Nat) : Int)
  rw [wI_eq (n := 2 * (notes.length : Int)) (by omega), wI_eq (by omega)]
  omega
 rw [hw]
 have hm0 : decide ((0 : Int) < nI (2 * notes.length + 1)) = true := decide_eq_true (by show (0 : Int) < ((2 * notes.length + 1 : Nat) : Int); omega)
 have key := append_loop (A := fun n i => (LP54_0 (fun y6v => K0 y6v) (fun y7v y8v => K1 y7v y8v [] 0) (fun y9v y10v y11v => K1 y9v y10v y11v 0) n).1 (nI (2 * notes.length + 1)) i (encPs ps) (encZs D notes) (encPs ps) (encZs D notes))
  (B := fun n i acc => (LP54_0 (fun y6v => K0 y6v) (fun y7v y8v => K1 y7v y8v [] 0) (fun y9v y10v y11v => K1 y9v y10v y11v 0) n).2 (nI (2 * notes.length + 1)) i (encPs ps) (encZs D notes) (encPs ps) (encZs D notes) acc)
  (m := 2 * notes.length + 1) (f := fun i => xV (encZ D (noteZ notes i))) (R := fun acc => K1 (encPs ps) (encZs D notes) acc 0) (by omega)
  (fun n => ?_) (fun i h0 hi n acc ha => ?_) (fun n acc ha => ?_) fuel (fuel_gt (by omega))
 ·rw [show encZs D (notes2 notes) = (List.range (2 * notes.length + 1)).map fun i => xV (encZ D (noteZ notes i)) by simp [encZs, notes2]]
  exact key
 ·simp only [LP54_0, St54_0_0, hm0, cond_true]
  rw [l87_0 h]
  simp only [bne_self_eq_false, cond_false]
  rfl
 ·simp only [LP54_0, St54_0_1, lt_nI hi, cond_true]
  rw [l87 h (by omega)]
  simp only [bne_self_eq_false, cond_false, maxE ha (by omega), gd_true]
  rw [wI_succ (by omega)]
 ·simp only [LP54_0, St54_0_1, lt_nI', cond_false]
theorem notes2_len : (notes2 notes).length = 2 * notes.length + 1 := by simp [notes2]
theorem notes2_get {i : Nat} (h : i < 2 * notes.length + 1) : (notes2 notes).getD i [] = noteZ notes i := by
 rw [List.getD_eq_getElem?_getD, notes2, List.getElem?_map, List.getElem?_range h]; rfl
theorem l55 (h : Sc ps D notes) {c : Nat} (hc : c <= notes.length) (K : List PVal -> Int -> Bool) : Q55 (encPs ps) (encZs D notes) (encZs D (notes2 notes)) (c : Int) K = K (encZs D ((List.range notes.length).map (dif notes c))) 0 := by
 have hne := h.ne
 have hle := h.len
 rw [Q55_def]; unfold G55 L55_0_0
 rw [encZs_len]
 have step : ∀ i, i < notes.length -> ∀ X : List PVal -> Bool, (gd (decide (0 <= (wI ((i : Int) + (c : Int))))) (oOpt ((encZs D (notes2 notes))[((wI ((i : Int) + (c : Int)))).toNat]?) fun e1v => (oSl e1v fun l2v => (gd (decide (0 <= (i : Int))) (oOpt ((encZs D (notes2 notes))[((i : Int)).toNat]?) fun e3v => (oSl e3v fun l4v => (Q16 (encPs ps) l2v l4v (fun z5v z6v => (bif (z6v != 0) then false else X z5v))))))))) = X (encZ D (dif notes c i)) := by
  intro i hi X
  have ew : wI ((i : Int) + (c : Int)) = ((i + c : Nat) : Int) := by rw [wI_eq (by omega)]; simp
  obtain ⟨a1, a2⟩ := noteZ_ok h (i := i + c) (by omega)
  obtain ⟨b1, b2⟩ := noteZ_ok h (i := i) (by omega)
  rw [ew]
  simp only [ge0, gd_true, Int.toNat_natCast]
  rw [get_encZs (by rw [notes2_len]; omega), get_encZs (by rw [notes2_len]; omega), notes2_get (by omega), notes2_get (by omega)]
  simp only [oOpt, oSl]
  rw [l16z h.psok h.dok a1 b1 (a2.mono (by omega)) (b2.mono (by omega))]
  rfl
 have step' : ∀ i, i < notes.length -> ∀ (Y : Int -> Bool) (X : List PVal -> Bool), (gd (decide (0 <= (wI ((i : Int) + (c : Int))))) (oOpt ((encZs D (notes2 notes))[((wI ((i : Int) + (c : Int)))).toNat]?) fun e1v => (oSl e1v fun l2v => (gd (decide (0 <= (i : Int))) (oOpt ((encZs D (notes2 notes))[((i : Int)).toNat]?) fun e3v => (oSl e3v fun l4v => (Q16 (encPs ps) l2v l4v (fun z5v z6v => (bif (z6v != 0) then Y z6v else X z5v))))))))) = X (encZ D (dif notes c i)) := by
  intro i hi Y X
  have ew : wI ((i : Int) + (c : Int)) = ((i + c : Nat) : Int) := by rw [wI_eq (by omega)]; simp
  obtain ⟨a1, a2⟩ := noteZ_ok h (i := i + c) (by omega)
  obtain ⟨b1, b2⟩ := noteZ_ok h (i := i) (by omega)
  rw [ew]
  simp only [ge0, gd_true, Int.toNat_natCast]
  rw [get_encZs (by rw [notes2_len]; omega), get_encZs (by rw [notes2_len]; omega), notes2_get (by omega), notes2_get (by omega)]
  simp only [oOpt, oSl]
  rw [l16z h.psok h.dok a1 b1 (a2.mono (by omega)) (b2.mono (by omega))]
  rfl
 have key := append_loop (A := fun n i => (LP55_0 (fun y13v => K [] y13v) (K [] 0) (fun y14v => K y14v 0) n).1 (encPs ps) (encZs D notes) (encZs D (notes2 notes)) (c : Int) (nI notes.length) i)
  (B := fun n i acc => (LP55_0 (fun y13v => K [] y13v) (K [] 0) (fun y14v => K y14v 0) n).2 (encPs ps) (encZs D notes) (encZs D (notes2 notes)) (c : Int) (nI notes.length) i acc)
  (m := notes.length) (f := fun i => xV (encZ D (dif notes c i))) (R := fun acc => K acc 0) (by omega)
  (fun n => ?_) (fun i h0 hi n acc ha => ?_) (fun n acc ha => ?_) fuel (fuel_gt (by omega))
 ·rw [show encZs D ((List.range notes.length).map (dif notes c)) = (List.range notes.length).map fun i => xV (encZ D (dif notes c i)) by simp [encZs]]
  exact key
 ·have h0 : decide ((0 : Int) < nI notes.length) = true := lt_nI (i := 0) hne
  simp only [LP55_0, St55_0_0]
  rw [h0, cond_true]
  exact step' 0 hne (fun z => K [] z) (fun z5v => (LP55_0 (fun y13v => K [] y13v) (K [] 0) (fun y14v => K y14v 0) n).2 (encPs ps) (encZs D notes) (encZs D (notes2 notes)) (c : Int) (nI notes.length) (wI (0 + 1)) [xV z5v])
 ·simp only [LP55_0, St55_0_1, lt_nI hi, cond_true]
  rw [step' i hi (fun z => K [] z) _]
  simp only [maxE ha (by omega), gd_true]
  rw [wI_succ (by omega)]
 ·simp only [LP55_0, St55_0_1, lt_nI', cond_false]
theorem numOf_small {n : Int} (h : -30000 < n /\ n < 30000) : numOf (itoaB n) = some n := numOf_itoa (by omega) (by omega)
theorem decQ_ok {q : Rat} (h : SQ q) : decQ (xQ q) = some q := by
 obtain ⟨h1, h2⟩ := h
 have hp := q.den_pos
 show decQ (.agg [.lit (.string (itoaB q.num)), .lit (.string (itoaB q.den))]) = _
 simp only [decQ, numOf_small h1, numOf_small (n := (q.den : Int)) (by omega), Int.toNat_natCast, Rat.mkRat_self]
theorem decV_ok : ∀ {v : List Rat}, SV v -> decV (encS v) = some v
 | [], _ => rfl
 | q :: v, h => by
  show decV (xQ q :: encS v) = _
  simp only [decV, decQ_ok (h q (by simp)), decV_ok (v := v) (fun x hx => h x (by simp [hx]))]
theorem decLs_ok : ∀ {l : List (List Rat)}, (∀ v, v ∈ l -> SV v) -> decLs (encL l) = some l
 | [], _ => rfl
 | v :: l, h => by
  show decLs (.sl (encS v) :: encL l) = _
  simp only [decLs, decV_ok (h v (by simp)), decLs_ok (l := l) (fun x hx => h x (by simp [hx]))]
theorem decPs_ok : ∀ (ps : List Int), decPs (encPs ps) = some ps
 | [] => rfl
 | p :: ps => by
  show decPs (.lit (.int .i64 p) :: encPs ps) = _
  simp only [decPs, decPs_ok ps]
theorem dd_mem {α : Type} [DecidableEq α] : ∀ (l : List α) (a : α), a ∈ dd l ↔ a ∈ l
 | [], a => by simp [dd]
 | x :: l, a => by
  unfold dd
  split
  ·next hx =>
   rw [dd_mem l a, List.mem_cons]
   constructor
   ·exact .inr
   ·rintro (rfl | h)
    ·exact (dd_mem l a).1 hx
    ·exact h
  ·rw [List.mem_cons, List.mem_cons, dd_mem l a]
theorem dd_map {α β : Type} [DecidableEq α] [DecidableEq β] {f : α -> β} : ∀ (l : List α), (∀ a, a ∈ l -> ∀ b, b ∈ l -> f a = f b -> a = b) -> dd (l.map f) = (dd l).map f
 | [], _ => rfl
 | x :: l, h => by
  have ih := dd_map (f := f) l (fun a ha b hb => h a (by simp [ha]) b (by simp [hb]))
  rw [List.map_cons, dd, dd, ih]
  have : f x ∈ (dd l).map f ↔ x ∈ dd l := by
   constructor
   ·intro hx
    obtain ⟨y, hy, he⟩ := List.mem_map.1 hx
    have := h y (by simp [(dd_mem l y).1 hy]) x (by simp) he
    subst this; exact hy
   ·intro hx; exact List.mem_map.2 ⟨x, hx, rfl⟩
  by_cases hx : x ∈ dd l
  ·rw [if_pos (this.2 hx), if_pos hx]
  ·rw [if_neg (fun e => hx (this.1 e)), if_neg hx]; rfl
theorem insR_map {α β : Type} {f : α -> β} {c : α -> α -> Int} {c' : β -> β -> Int} (x : α) : ∀ (l : List α), (∀ b, b ∈ l -> c' (f x) (f b) = c x b) -> insR c' (f x) (l.map f) = (insR c x l).map f
 | [], _ => rfl
 | y :: l, h => by
  rw [List.map_cons, insR, insR, h y (by simp)]
  split
  ·rw [insR_map x l (fun b hb => h b (by simp [hb]))]; rfl
  ·rfl
theorem foldR_map {α β : Type} {f : α -> β} {c : α -> α -> Int} {c' : β -> β -> Int} : ∀ (l r : List α), (∀ a, a ∈ l ++ r -> ∀ b, b ∈ l ++ r -> c' (f a) (f b) = c a b) ->
  (l.map f).foldl (fun r x => insR c' x r) (r.map f) = (l.foldl (fun r x => insR c x r) r).map f
 | [], r, _ => rfl
 | x :: l, r, h => by
  rw [List.map_cons, List.foldl_cons, List.foldl_cons, insR_map x r (fun b hb => h x (by simp) b (by simp [hb])), foldR_map l (insR c x r)]
  intro a ha b hb
  have : ∀ y, y ∈ l ++ insR c x r -> y ∈ (x :: l) ++ r := by
   intro y hy
   simp only [List.mem_append, insR_mem, List.mem_cons] at hy ⊢
   rcases hy with hy | hy | hy
   ·exact .inl (.inr hy)
   ·exact .inl (.inl hy)
   ·exact .inr hy
  exact h a (this a ha) b (this b hb)
theorem gsort_map {α β : Type} {f : α -> β} {c : α -> α -> Int} {c' : β -> β -> Int} (l : List α) (h : ∀ a, a ∈ l -> ∀ b, b ∈ l -> c' (f a) (f b) = c a b) : gsort c' (l.map f) = (gsort c l).map f := by
 unfold gsort
 have := foldR_map (f := f) (c := c) (c' := c') l [] (by simpa using h)
 rw [List.map_nil] at this
 rw [this, List.map_reverse]
theorem zR_inj (hD : 0 < D) : ∀ {a b : List Int}, zR D a = zR D b -> a = b
 | [], [], _ => rfl
 | [], _ :: _, h => by simp at h
 | _ :: _, [], h => by simp at h
 | x :: a, y :: b, h => by
  simp only [List.map_cons, List.cons.injEq] at h
  have h1 := (Rat.mkRat_eq_iff (show D ≠ 0 by omega) (show D ≠ 0 by omega)).1 h.1
  have h2 : x = y := Int.eq_of_mul_eq_mul_right (show (D : Int) ≠ 0 by omega) h1
  rw [h2, zR_inj hD h.2]
theorem cmpQ_zR (hD : 0 < D) {z : List Int} (hl : ps.length = z.length) : cmpQ ps (zR D z) = cmpZ ps z := by
 obtain ⟨p1, p2, p3⟩ := lcmD_ok hD (zR_den hD (z := z))
 exact (sgn_Z hD p1 p3 hl).1
theorem dif_ok (h : Sc ps D notes) {c i : Nat} (hc : c <= notes.length) (hi : i < notes.length) : (dif notes c i).length = ps.length /\ ZS 6000 (dif notes c i) := by
 obtain ⟨a1, a2⟩ := noteZ_ok h (i := i + c) (by omega)
 obtain ⟨b1, b2⟩ := noteZ_ok h (i := i) (by omega)
 exact ⟨by unfold dif; rw [zsub_len (by omega), a1], a2.sub b2⟩
theorem difs_ok (h : Sc ps D notes) {c : Nat} (hc : c <= notes.length) {z : List Int} (hz : z ∈ (List.range notes.length).map (dif notes c)) : z.length = ps.length /\ ZS 6000 z := by
 obtain ⟨i, hi, rfl⟩ := List.mem_map.1 hz
 exact dif_ok h hc (List.mem_range.1 hi)
theorem sizesZ_mem (c : Nat) (z : List Int) : z ∈ sizesZ ps notes c ↔ z ∈ (List.range notes.length).map (dif notes c) := by
 unfold sizesZ; rw [gsort_mem, dd_mem]
theorem sizes_zR (h : Sc ps D notes) {c : Nat} (hc : c <= notes.length) : sizesQ ps ((notes2 notes).map (zR D)) notes.length c = (sizesZ ps notes c).map (zR D) := by
 unfold sizesQ sizesZ
 have e1 : ((List.range notes.length).map fun i => vsub (((notes2 notes).map (zR D)).getD (i + c) []) (((notes2 notes).map (zR D)).getD i [])) = ((List.range notes.length).map (dif notes c)).map (zR D) := by
  rw [List.map_map]
  apply List.map_congr_left
  intro i hi
  have hi := List.mem_range.1 hi
  have hg : ∀ j, j < 2 * notes.length + 1 -> ((notes2 notes).map (zR D)).getD j [] = zR D (noteZ notes j) := by
   intro j hj
   rw [List.getD_eq_getElem?_getD, List.getElem?_map, notes2, List.getElem?_map, List.getElem?_range hj]; rfl
  rw [hg _ (by omega), hg _ (by omega), zR_sub h.dok.1]
  rfl
 rw [e1, dd_map _ (fun a _ b _ he => zR_inj h.dok.1 he)]
 refine gsort_map _ (fun a ha b hb => ?_)
 have ha' := difs_ok h hc ((dd_mem _ _).1 ha)
 have hb' := difs_ok h hc ((dd_mem _ _).1 hb)
 rw [zR_sub h.dok.1, cmpQ_zR h.dok.1 (by rw [zsub_len (by omega), ha'.1])]
theorem l52 (h : Sc ps D notes) {c : Nat} (hc : c <= notes.length) (K : List PVal -> Int -> Bool) : H52 (encPs ps) (encZs D notes) (encZs D (notes2 notes)) (c : Int) K = K (encZs D (sizesZ ps notes c)) 0 := by
 have hD := h.dok
 rw [H52_def]; unfold D52
 have e1 : decLs (encZs D notes) = some (notes.map (zR D)) := by
  rw [encZs_L]; refine decLs_ok fun v hv => ?_
  obtain ⟨z, hz, rfl⟩ := List.mem_map.1 hv
  exact zR_SV (by omega) ((h.vec z hz).2.mono (by omega))
 have e2 : decLs (encZs D (notes2 notes)) = some ((notes2 notes).map (zR D)) := by
  rw [encZs_L]; refine decLs_ok fun v hv => ?_
  obtain ⟨z, hz, rfl⟩ := List.mem_map.1 hv
  obtain ⟨i, hi, rfl⟩ := List.mem_map.1 hz
  have hi := List.mem_range.1 hi
  exact zR_SV (by omega) ((noteZ_ok h (by omega)).2.mono (by omega))
 rw [decPs_ok, e1, e2]
 simp only
 rw [if_pos ⟨D, notes, h, rfl, rfl, rfl, encZs_L _ _, encZs_L _ _, by omega, by omega⟩, List.length_map, Int.toNat_natCast, sizes_zR h hc, <- encZs_L]
theorem l52_0 (h : Sc ps D notes) (K : List PVal -> Int -> Bool) : H52 (encPs ps) (encZs D notes) (encZs D (notes2 notes)) 0 K = K (encZs D (sizesZ ps notes 0)) 0 := l52 h (c := 0) (by omega) K
def allZ (ps : List Int) (notes : List (List Int)) : List (List (List Int)) := (List.range (notes.length + 1)).map (sizesZ ps notes)
abbrev encZss (D : Nat) (l : List (List (List Int))) : List PVal := l.map fun x => xV (encZs D x)
theorem l62 (h : Sc ps D notes) (K : List PVal -> Int -> Bool) : Q62 (encPs ps) (encZs D notes) (encZs D (notes2 notes)) K = K (encZss D (allZ ps notes)) 0 := by
 have hne := h.ne
 have hle := h.len
 rw [Q62_def]; unfold G62 L62_0_0
 have hw : wI ((nI (encZs D notes).length) + 1) = nI (notes.length + 1) := by
  rw [encZs_len]
  show wI ((notes.length : Int) + 1) = ((notes.length + 1 : Nat) : Int)
  rw [wI_eq (by omega)]; omega
 rw [hw]
 have key := append_loop (A := fun n i => (LP62_0 (fun y5v => K [] y5v) (K [] 0) (fun y6v => K y6v 0) n).1 (encPs ps) (encZs D notes) (encZs D (notes2 notes)) (nI (notes.length + 1)) i)
  (B := fun n i acc => (LP62_0 (fun y5v => K [] y5v) (K [] 0) (fun y6v => K y6v 0) n).2 (encPs ps) (encZs D notes) (encZs D (notes2 notes)) (nI (notes.length + 1)) i acc)
  (m := notes.length + 1) (f := fun i => xV (encZs D (sizesZ ps notes i))) (R := fun acc => K acc 0) (by omega)
  (fun n => ?_) (fun i h0 hi n acc ha => ?_) (fun n acc ha => ?_) fuel (fuel_gt (by omega))
 ·rw [show encZss D (allZ ps notes) = (List.range (notes.length + 1)).map fun i => xV (encZs D (sizesZ ps notes i)) by simp [encZss, allZ]]
  exact key
 ·have hm : decide ((0 : Int) < nI (notes.length + 1)) = true := lt_nI (i := 0) (m := notes.length + 1) (by omega)
  simp only [LP62_0, St62_0_0]
  rw [hm, cond_true, l52_0 h]
  simp only [bne_self_eq_false, cond_false]
  rfl
 ·simp only [LP62_0, St62_0_1, lt_nI hi, cond_true]
  rw [l52 h (by omega)]
  simp only [bne_self_eq_false, cond_false, maxE ha (by omega), gd_true]
  rw [wI_succ (by omega)]
 ·simp only [LP62_0, St62_0_1, lt_nI', cond_false]
theorem l41 (h : Sc ps D notes) (K0 : List PVal -> Int -> Bool) (K1 : List PVal -> List PVal -> List PVal -> List PVal -> Int -> Bool) :
  Q41 (encPs ps) (encZs D notes) K0 K1 = K1 (encPs ps) (encZs D notes) (encZs D (notes2 notes)) (encZss D (allZ ps notes)) 0 := by
 rw [Q41_def]; unfold G41
 rw [l54 h]
 simp only [bne_self_eq_false, cond_false]
 rw [l62 h]
end
end Go.Ev

namespace Go.Ev
open Go Go.RowKit
theorem findS_loop {β : Type} {F : Nat -> Nat -> Bool} {m : Nat} {p : Nat -> Option β} {R : Nat -> β -> Bool} {R' : Bool}
  (h1 : ∀ i, i < m -> ∀ b, p i = some b -> ∀ n, F (n + 1) i = R i b) (h2 : ∀ i, i < m -> p i = Option.none -> ∀ n, F (n + 1) i = F n (i + 1)) (h3 : ∀ n, F (n + 1) m = R') :
  ∀ d k, k + d = m -> ∀ n, d < n -> F n k = match (List.range' k d).findSome? (fun i => (p i).map (fun b => (i, b))) with
   | some (i, b) => R i b
   | Option.none => R'
 | 0, k, hk, n, hn => by
  obtain ⟨n, rfl⟩ : ∃ q, n = q + 1 := ⟨n - 1, by omega⟩
  obtain rfl : k = m := by omega
  exact h3 n
 | d + 1, k, hk, n, hn => by
  obtain ⟨n, rfl⟩ : ∃ q, n = q + 1 := ⟨n - 1, by omega⟩
  rw [List.range'_succ, List.findSome?_cons]
  cases hp : p k with
  | some b => simp only [Option.map_some]; exact h1 k (by omega) b hp n
  | none =>
   simp only [Option.map_none]
   rw [h2 k (by omega) hp n]
   exact findS_loop h1 h2 h3 d (k + 1) (by omega) n (by omega)
theorem any_loop {F : Nat -> Nat -> Bool} {m : Nat} {p : Nat -> Bool} {R : Nat -> Bool} {T R' : Bool}
  (h1 : ∀ i, i < m -> p i = true -> ∀ n, F (n + 1) i = R i) (hR : ∀ i, i < m -> R i = T) (h2 : ∀ i, i < m -> p i = false -> ∀ n, F (n + 1) i = F n (i + 1)) (h3 : ∀ n, F (n + 1) m = R') :
  ∀ n, m < n -> F n 0 = bif (List.range m).any p then T else R' := by
 intro n hn
 have := findS_loop (β := Unit) (p := fun i => if p i then some () else Option.none) (R := fun i _ => R i) (R' := R') (F := F) (m := m)
  (fun i hi b hb => h1 i hi (by cases h : p i <;> simp_all)) (fun i hi hb => h2 i hi (by cases h : p i <;> simp_all)) h3 m 0 (by omega) n hn
 rw [this]
 cases h : (List.range' 0 m).findSome? (fun i => (if p i then some () else Option.none).map fun b => (i, b)) with
 | none =>
  rw [List.findSome?_eq_none_iff] at h
  have : (List.range m).any p = false := by
   rw [List.any_eq_false]
   intro i hi
   have := h i (by rw [List.mem_range'_1]; exact ⟨by omega, by have := List.mem_range.1 hi; omega⟩)
   cases hp : p i
   ·simp
   ·simp [hp] at this
  rw [this]; rfl
 | some x =>
  obtain ⟨i, b⟩ := x
  obtain ⟨j, hj, hx⟩ := List.exists_of_findSome?_eq_some h
  have hj := List.mem_range'_1.1 hj
  have hpj : p j = true := by
   cases hp : p j
   ·simp [hp] at hx
   ·rfl
  simp [hpj] at hx
  have : (List.range m).any p = true := List.any_eq_true.2 ⟨j, by simp; omega, hpj⟩
  rw [this]
  subst hx
  exact hR _ (by omega)
theorem range_any {α : Type} (l : List α) (p : α -> Bool) (x0 : α) : (List.range l.length).any (fun i => p (l.getD i x0)) = l.any p := by
 rw [Bool.eq_iff_iff, List.any_eq_true, List.any_eq_true]
 constructor
 ·rintro ⟨i, hi, h⟩
  have hi := List.mem_range.1 hi
  refine ⟨l[i], List.getElem_mem hi, ?_⟩
  rw [List.getD_eq_getElem?_getD, List.getElem?_eq_getElem hi] at h
  exact h
 ·rintro ⟨x, hx, h⟩
  obtain ⟨i, hi, rfl⟩ := List.getElem_of_mem hx
  refine ⟨i, List.mem_range.2 hi, ?_⟩
  rw [List.getD_eq_getElem?_getD, List.getElem?_eq_getElem hi]
  exact h
theorem SQ.eqs {q r : Rat} (hq : SQ q) (hr : SQ r) : (itoaB q.num == itoaB r.num && itoaB q.den == itoaB r.den) = decide (q = r) := by
 obtain ⟨h1, h2⟩ := hq
 obtain ⟨h3, h4⟩ := hr
 rw [itoaB_beq (by omega) (by omega), itoaB_beq (by omega) (by omega)]
 by_cases h : q = r
 ·subst h; simp
 ·have : ¬ (q.num = r.num /\ (q.den : Int) = (r.den : Int)) := fun ⟨e1, e2⟩ => h (Rat.ext e1 (Int.ofNat.inj e2))
  rw [decide_eq_false h, Bool.eq_false_iff]
  intro e
  simp only [Bool.and_eq_true, decide_eq_true_eq] at e
  exact this e
theorem l53 {a b : List Rat} (ha : SV a) (hb : SV b) (hl : a.length < 1000) (hl' : b.length < 1000) (K : Bool -> Bool) : Q53 (encS a) (encS b) K = K (decide (a = b)) := by
 rw [Q53_def]; unfold G53 L53_0_0
 rw [encS_len, encS_len]
 by_cases h : a.length = b.length
 ·have e0 : ((nI a.length) != (nI b.length)) = false := by rw [h]; simp
  rw [e0, cond_false]
  have key := any_loop (F := fun n i => LP53_0 (fun y7v => K y7v) (K true) n (encS a) (encS b) (nI a.length) (i : Int)) (m := a.length) (p := fun i => !decide (a.getD i 0 = b.getD i 0))
   (R := fun _ => K false) (T := K false) (R' := K true) (fun i hi hp n => ?_) (fun _ _ => rfl) (fun i hi hp n => ?_) (fun n => ?_) fuel (fuel_gt (by omega))
  ·refine key.trans ?_
   by_cases he : a = b
   ·subst he
    have : ((List.range a.length).any fun i => !decide (a.getD i 0 = a.getD i 0)) = false := by simp
    rw [this, decide_eq_true rfl]; rfl
   ·have : ((List.range a.length).any fun i => !decide (a.getD i 0 = b.getD i 0)) = true := by
     cases hx : ((List.range a.length).any fun i => !decide (a.getD i 0 = b.getD i 0)) with
     | true => rfl
     | false =>
      rw [List.any_eq_false] at hx
      refine absurd (List.ext_getElem h fun i h1 h2 => ?_) he
      have := hx i (List.mem_range.2 h1)
      rw [List.getD_eq_getElem?_getD, List.getD_eq_getElem?_getD, List.getElem?_eq_getElem h1, List.getElem?_eq_getElem h2] at this
      simpa using this
    rw [this, decide_eq_false he]; rfl
  all_goals
   try
    (
     have hg1 : (encS a)[i]? = some (xQ (a.getD i 0)) := by rw [get_encS hi, List.getD_eq_getElem?_getD, List.getElem?_eq_getElem hi]; rfl
     have hg2 : (encS b)[i]? = some (xQ (b.getD i 0)) := by rw [get_encS (by omega), List.getD_eq_getElem?_getD, List.getElem?_eq_getElem (by omega)]; rfl
     have hs1 : SQ (a.getD i 0) := by rw [List.getD_eq_getElem?_getD, List.getElem?_eq_getElem hi]; exact ha _ (List.getElem_mem _)
     have hs2 : SQ (b.getD i 0) := by rw [List.getD_eq_getElem?_getD, List.getElem?_eq_getElem (by omega)]; exact hb _ (List.getElem_mem _))
  ·simp only [LP53_0, St53_0_0, lt_nI hi, cond_true, ge0, gd_true, Int.toNat_natCast, hg1, hg2, oOpt, oR_xQ, hs1.eqs hs2, hp]
  ·have hp : decide (a.getD i 0 = b.getD i 0) = true := by simpa using hp
   simp only [LP53_0, St53_0_0, lt_nI hi, cond_true, ge0, gd_true, Int.toNat_natCast, hg1, hg2, oOpt, oR_xQ, hs1.eqs hs2, hp, Bool.not_true, cond_false]
   rw [wI_succ (by omega)]
  ·simp only [LP53_0, St53_0_0, lt_nI', cond_false]
 ·have e0 : ((nI a.length) != (nI b.length)) = true := by simp [nI]; omega
  rw [e0, cond_true, decide_eq_false (fun e => h (by rw [e]))]
theorem l24 {a b : List Rat} (ha : SV a) (hb : SV b) (hl : a.length < 1000) (hl' : b.length < 1000) (K : Bool -> Bool) : Q24 (encS a) (encS b) K = K (decide (a = b)) := by
 rw [Q24_def]; unfold G24; rw [l53 ha hb hl hl']
section
variable {ps : List Int} {D : Nat} {notes : List (List Int)}
theorem l24z (hps : PsOk ps) (hD : 0 < D /\ D < 3000) {a b : List Int} (la : a.length = ps.length) (lb : b.length = ps.length) (ha : ZS 30000 a) (hb : ZS 30000 b) (K : Bool -> Bool) : Q24 (encZ D a) (encZ D b) K = K (decide (a = b)) := by
 have := hps.len
 rw [l24 (zR_SV (by omega) ha) (zR_SV (by omega) hb) (by simp; omega) (by simp; omega)]
 congr 1
 exact decide_eq_decide.2 ⟨fun e => zR_inj hD.1 e, fun e => by rw [e]⟩
theorem l46_47 (hps : PsOk ps) (hD : 0 < D /\ D < 3000) {l : List (List Int)} {a : List Int} (la : a.length = ps.length) (ha : ZS 30000 a) (hl : ∀ b, b ∈ l -> b.length = ps.length /\ ZS 30000 b) (hlen : l.length < 1000) (K : Bool -> Bool) :
  Q46_47 (encZs D l) (encZ D a) K = K (decide (a ∈ l)) := by
 rw [Q46_47_def]; unfold G46_47
 rw [Q83_47_def]; unfold G83_47 L83_47_0_0
 rw [encZs_len]
 have key := any_loop (F := fun n i => LP83_47_0 (fun y4v => K (decide (y4v >= 0))) (K (decide ((-1 : Int) >= 0))) n (encZs D l) (encZ D a) (nI l.length) (i : Int)) (m := l.length) (p := fun i => decide (a = l.getD i []))
   (R := fun i => K (decide ((i : Int) >= 0))) (T := K true) (R' := K false) (fun i hi hp n => ?_) (fun i hi => ?_) (fun i hi hp n => ?_) (fun n => ?_) fuel (fuel_gt (by omega))
 ·refine key.trans ?_
  rw [range_any l (fun b => decide (a = b))]
  have : (l.any fun b => decide (a = b)) = decide (a ∈ l) := by
   rw [Bool.eq_iff_iff]; simp
  rw [this]
  cases decide (a ∈ l) <;> rfl
 ·have hb := hl _ (getD_mem hi)
  simp only [LP83_47_0, St83_47_0_0, lt_nI hi, cond_true, ge0, gd_true, Int.toNat_natCast, get_encZs hi, oOpt, oSl]
  rw [Q47_def]; unfold G47
  rw [l24z hps hD la hb.1 ha hb.2, hp]
  rfl
 ·rw [decide_eq_true (show (i : Int) >= 0 by omega)]
 ·have hb := hl _ (getD_mem hi)
  simp only [LP83_47_0, St83_47_0_0, lt_nI hi, cond_true, ge0, gd_true, Int.toNat_natCast, get_encZs hi, oOpt, oSl]
  rw [Q47_def]; unfold G47
  rw [l24z hps hD la hb.1 ha hb.2, hp]
  dsimp only
  rw [cond_false, wI_succ (by omega)]
 ·simp only [LP83_47_0, St83_47_0_0, lt_nI', cond_false]; rfl
theorem dd_len {α : Type} [DecidableEq α] : ∀ l : List α, (dd l).length <= l.length
 | [] => Nat.le_refl _
 | x :: l => by
  have := dd_len l
  unfold dd
  split <;> simp <;> omega
theorem sizesZ_len (c : Nat) : (sizesZ ps notes c).length <= notes.length := by
 unfold sizesZ
 rw [gsort_len]
 have := dd_len ((List.range notes.length).map (dif notes c))
 simpa using this
theorem sizesZ_ne (h : Sc ps D notes) (c : Nat) : 0 < (sizesZ ps notes c).length := by
 apply List.length_pos_of_mem (a := dif notes c 0)
 rw [sizesZ_mem]
 exact List.mem_map.2 ⟨0, List.mem_range.2 h.ne, rfl⟩
theorem sizesZ_ok (h : Sc ps D notes) {c : Nat} (hc : c <= notes.length) : ∀ z, z ∈ sizesZ ps notes c -> z.length = ps.length /\ ZS 6000 z := fun z hz => difs_ok h hc ((sizesZ_mem c z).1 hz)
theorem allZ_len : (allZ ps notes).length = notes.length + 1 := by simp [allZ]
theorem encZss_len (l : List (List (List Int))) : (encZss D l).length = l.length := by simp
theorem get_allZ {c : Nat} (hc : c <= notes.length) : (encZss D (allZ ps notes))[c]? = some (xV (encZs D (sizesZ ps notes c))) := by
 unfold encZss allZ
 rw [List.getElem?_map, List.getElem?_map, List.getElem?_range (by omega)]
 rfl
theorem mid_all (hne : 0 < notes.length) : ((encZss D (allZ ps notes)).drop 1).take (notes.length - 1) = (List.range (notes.length - 1)).map fun i => xV (encZs D (sizesZ ps notes (i + 1))) := by
 apply List.ext_getElem?
 intro i
 by_cases hi : i < notes.length - 1
 ·rw [List.getElem?_take_of_lt hi, List.getElem?_drop, show 1 + i = i + 1 by omega, get_allZ (by omega), List.getElem?_map, List.getElem?_range hi]
  rfl
 ·rw [List.getElem?_eq_none (by simp; omega), List.getElem?_eq_none (by simp; omega)]
theorem nI_add1 {k : Nat} (h : k < 1000) : wI ((nI (k + 1)) - 1) = (k : Int) := by
 show wI (((k + 1 : Nat) : Int) - 1) = _
 rw [wI_eq (by omega)]; omega
def varsZ (ps : List Int) (notes : List (List Int)) : List Nat := (List.range (notes.length - 1)).map fun i => (sizesZ ps notes (i + 1)).length
theorem l13 (h : Sc ps D notes) (K : List PVal -> Int -> Bool) : Q13 (encPs ps) (encZs D notes) K = K ((varsZ ps notes).map fun (n : Nat) => xI (n : Int)) 0 := by
 have hne := h.ne
 have hle := h.len
 rw [Q13_def]; unfold G13 L13_0_0
 rw [l41 h]
 simp only [bne_self_eq_false, cond_false, encZss_len, allZ_len]
 rw [nI_add1 (by omega)]
 rw [get_allZ (by omega)]
 rw [ge0, gd_true, Int.toNat_natCast]
 rw [show (decide (1 <= notes.length) && decide (notes.length <= notes.length + 1)) = true by simp; omega, gd_true, mid_all hne]
 show (LP13_0 (K [] 0) (fun y19v => K y19v 0) fuel).1 _ _ 0 = _
 by_cases hm : notes.length = 1
 ·rw [hm]
  have : varsZ ps notes = [] := by unfold varsZ; rw [hm]; rfl
  rw [this]
  obtain ⟨f, hf⟩ := fuel_add 1
  rw [hf]
  rfl
 ·have hm : 0 < notes.length - 1 := by omega
  have hl : ((List.range (notes.length - 1)).map fun i => xV (encZs D (sizesZ ps notes (i + 1)))).length = notes.length - 1 := by simp
  have hg : ∀ i, i < notes.length - 1 -> ((List.range (notes.length - 1)).map fun i => xV (encZs D (sizesZ ps notes (i + 1))))[i]? = some (xV (encZs D (sizesZ ps notes (i + 1)))) := by
   intro i hi
   rw [List.getElem?_map, List.getElem?_range hi]; rfl
  rw [hl]
  generalize ((List.range (notes.length - 1)).map fun i => xV (encZs D (sizesZ ps notes (i + 1)))) = L at hg
  have key := append_loop (A := fun n i => (LP13_0 (K [] 0) (fun y19v => K y19v 0) n).1 L (nI (notes.length - 1)) i) (B := fun n i acc => (LP13_0 (K [] 0) (fun y19v => K y19v 0) n).2 L (nI (notes.length - 1)) i acc)
   (m := notes.length - 1) (f := fun i => xI ((sizesZ ps notes (i + 1)).length : Int)) (R := fun acc => K acc 0) hm (fun n => ?_) (fun i h0 hi n acc ha => ?_) (fun n acc ha => ?_) fuel (fuel_gt (by omega))
  ·unfold varsZ
   rw [List.map_map]
   exact key
  ·have hm' : decide ((0 : Int) < nI (notes.length - 1)) = true := lt_nI (i := 0) hm
   simp only [LP13_0, St13_0_0, hm', cond_true]
   rw [show ((0 : Int)).toNat = 0 from rfl, hg 0 hm]
   simp only [oOpt, oSl, encZs_len]
   rfl
  ·simp only [LP13_0, St13_0_1, lt_nI hi, cond_true, ge0, gd_true, Int.toNat_natCast, hg i hi, oOpt, oSl, encZs_len, maxE ha (by omega)]
   rw [wI_succ (by omega)]
  ·simp only [LP13_0, St13_0_1, lt_nI', cond_false]
def manyZ (ps : List Int) (notes : List (List Int)) : Bool := (varsZ ps notes).any fun n => decide (2 < n)
def kindZ (ps : List Int) (notes : List (List Int)) : Int := if (sizesZ ps notes 1).length = 1 then 1 else if 2 < (sizesZ ps notes 1).length ∨ manyZ ps notes = true then 3 else 2
theorem l42_43 {m : Nat} (hm : m < 1000) {g : Nat -> List (List Int)} (K : Bool -> Bool) : Q42_43 ((List.range m).map fun i => xV (encZs D (g i))) K = K ((List.range m).any fun i => decide (2 < (g i).length)) := by
 rw [Q42_43_def]; unfold G42_43
 rw [Q75_43_def]; unfold G75_43 L75_43_0_0
 have hg : ∀ i, i < m -> ((List.range m).map fun i => xV (encZs D (g i)))[i]? = some (xV (encZs D (g i))) := by
  intro i hi
  rw [List.getElem?_map, List.getElem?_range hi]; rfl
 have hl : ((List.range m).map fun i => xV (encZs D (g i))).length = m := by simp
 rw [hl]
 generalize ((List.range m).map fun i => xV (encZs D (g i))) = L at hg
 have key := any_loop (F := fun n i => LP75_43_0 (fun y4v => K (decide (y4v >= 0))) (K (decide ((-1 : Int) >= 0))) n L (nI m) (i : Int)) (m := m) (p := fun i => decide (2 < (g i).length))
  (R := fun i => K (decide ((i : Int) >= 0))) (T := K true) (R' := K false) (fun i hi hp n => ?_) (fun i hi => ?_) (fun i hi hp n => ?_) (fun n => ?_) fuel (fuel_gt (by omega))
 ·refine key.trans ?_
  cases (List.range m).any fun i => decide (2 < (g i).length) <;> rfl
 ·have hp : decide ((nI (g i).length) > 2) = true := by simp [nI] at hp ⊢; omega
  simp only [LP75_43_0, St75_43_0_0, lt_nI hi, cond_true, ge0, gd_true, Int.toNat_natCast, hg i hi, oOpt, oSl]
  rw [Q43_def]; unfold G43
  rw [encZs_len, hp]
  rfl
 ·rw [decide_eq_true (show (i : Int) >= 0 by omega)]
 ·have hp : decide ((nI (g i).length) > 2) = false := by simp [nI] at hp ⊢; omega
  simp only [LP75_43_0, St75_43_0_0, lt_nI hi, cond_true, ge0, gd_true, Int.toNat_natCast, hg i hi, oOpt, oSl]
  rw [Q43_def]; unfold G43
  rw [encZs_len, hp]
  dsimp only
  rw [cond_false, wI_succ (by omega)]
 ·simp only [LP75_43_0, St75_43_0_0, lt_nI', cond_false]; rfl
theorem l14 (h : Sc ps D notes) (K : Int -> Int -> Bool) : Q14 (encPs ps) (encZs D notes) K = K (kindZ ps notes) 0 := by
 have hne := h.ne
 have hle := h.len
 rw [Q14_def]; unfold G14
 rw [l41 h]
 simp only [bne_self_eq_false, cond_false, encZss_len, allZ_len]
 rw [nI_add1 (by omega)]
 rw [get_allZ (by omega)]
 rw [ge0, gd_true, Int.toNat_natCast]
 rw [show (decide (1 <= notes.length) && decide (notes.length <= notes.length + 1)) = true by simp; omega, gd_true, mid_all hne]
 simp only [oOpt, oSl, encZs_len, sliceK]
 rw [l42_43 (by omega)]
 have hm : ((List.range (notes.length - 1)).any fun i => decide (2 < (sizesZ ps notes (i + 1)).length)) = manyZ ps notes := by
  unfold manyZ varsZ; rw [List.any_map]; rfl
 rw [hm]
 unfold kindZ
 by_cases h1 : (sizesZ ps notes 1).length = 1
 ·rw [if_pos h1, h1]; rfl
 ·have e1 : ((nI (sizesZ ps notes 1).length) == 1) = false := by simp [nI]; omega
  rw [if_neg h1, e1, cond_false]
  by_cases h2 : 2 < (sizesZ ps notes 1).length
  ·have e2 : decide ((nI (sizesZ ps notes 1).length) > 2) = true := by simp [nI]; omega
   rw [if_pos (.inl h2), e2]; rfl
  ·have e2 : decide ((nI (sizesZ ps notes 1).length) > 2) = false := by simp [nI]; omega
   rw [e2, cond_false]
   cases hM : manyZ ps notes
   ·rw [if_neg (by simp [h2])]; rfl
   ·rw [if_pos (.inr rfl)]; rfl
end
end Go.Ev

namespace Go.Ev
open Go Go.RowKit
section
variable {ps : List Int} {D : Nat} {notes : List (List Int)}
def clash2 (ps : List Int) (notes : List (List Int)) (a b : Nat) : Option (List Int) := (sizesZ ps notes a).find? fun x => decide (x ∈ sizesZ ps notes b)
def clash1 (ps : List Int) (notes : List (List Int)) (a : Nat) : Option (Nat × List Int) := (List.range' (a + 1) (notes.length - a)).findSome? fun b => (clash2 ps notes a b).map fun x => (b, x)
def constZ (ps : List Int) (notes : List (List Int)) : Option (Nat × Nat × List Int) := (List.range' 0 (notes.length + 1)).findSome? fun a => (clash1 ps notes a).map fun x => (a, x)
theorem find_at {α : Type} (p : α -> Bool) (x0 : α) : ∀ (l : List α), (List.range' 0 l.length).findSome? (fun i => (if p (l.getD i x0) then some (l.getD i x0) else Option.none).map fun b => (i, b)) = Option.none /\ l.find? p = Option.none ∨
  ∃ i x, (List.range' 0 l.length).findSome? (fun i => (if p (l.getD i x0) then some (l.getD i x0) else Option.none).map fun b => (i, b)) = some (i, x) /\ l.find? p = some x := by
 have key : ∀ (l pre : List α), (List.range' pre.length l.length).findSome? (fun i => (if p ((pre ++ l).getD i x0) then some ((pre ++ l).getD i x0) else Option.none).map fun b => (i, b)) = Option.none /\ l.find? p = Option.none ∨
  ∃ i x, (List.range' pre.length l.length).findSome? (fun i => (if p ((pre ++ l).getD i x0) then some ((pre ++ l).getD i x0) else Option.none).map fun b => (i, b)) = some (i, x) /\ l.find? p = some x := by
  intro l
  induction l with
  | nil => intro pre; exact .inl ⟨rfl, rfl⟩
  | cons y l ih =>
   intro pre
   have e : (pre ++ y :: l).getD pre.length x0 = y := by
    rw [List.getD_eq_getElem?_getD, List.getElem?_append_right (Nat.le_refl _)]; simp
   rw [List.length_cons, List.range'_succ, List.findSome?_cons, e, List.find?_cons]
   cases hp : p y with
   | true => exact .inr ⟨_, y, rfl, rfl⟩
   | false =>
    simp only [Bool.false_eq_true, if_false, Option.map_none]
    have := ih (pre ++ [y])
    rw [show pre ++ [y] ++ l = pre ++ y :: l by simp, show (pre ++ [y]).length = pre.length + 1 by simp] at this
    exact this
 intro l
 exact key l []
theorem l48z (hps : PsOk ps) {x : List Int} (hl : x.length = ps.length) (K : List PVal -> Bool) : Q48 (encZ D x) K = K (encZ D x) := by
 rw [Q48_def]; unfold G48
 have hlen := hps.len
 obtain ⟨a, r, rfl⟩ : ∃ a r, x = a :: r := by
  match x, hl with
  | [], hl => simp at hl; omega
  | a :: r, _ => exact ⟨a, r, rfl⟩
 show (gd (decide (0 + ((xQ (mkRat a D)) :: encZ D r).length <= maxElems)) (K (encZ D (a :: r)))) = _
 rw [decide_eq_true (show 0 + ((xQ (mkRat a D)) :: encZ D r).length <= maxElems by simp at hl ⊢; unfold maxElems; omega), gd_true]
theorem l18_4 (h : Sc ps D notes) {a b : Nat} (ha : a <= notes.length) (hb : b <= notes.length) {n3 n4 n8 n9 : Int} (e0 : Bool -> Int -> Int -> Int -> List PVal -> List PVal -> Bool) (e1 : List PVal -> Int -> Int -> Int -> Int -> Int -> Int -> Bool) :
  L18_4_0 e0 e1 fuel (encZss D (allZ ps notes)) (a : Int) (b : Int) n3 n4 (encZs D (sizesZ ps notes a)) (nI (encZs D (sizesZ ps notes a)).length) 0 n8 n9 =
   match clash2 ps notes a b with
   | some x => e0 false 0 (a : Int) (b : Int) (encZ D x) (encZ D x)
   | Option.none => e1 (encZss D (allZ ps notes)) (a : Int) (b : Int) n3 n4 n8 n9 := by
 have hle := h.len
 have hlen := sizesZ_len (ps := ps) (notes := notes) a
 have hlb := sizesZ_len (ps := ps) (notes := notes) b
 rw [encZs_len]
 have q : ∀ i, i < (sizesZ ps notes a).length -> ∀ K : Bool -> Bool, Q46_47 (encZs D (sizesZ ps notes b)) (encZ D ((sizesZ ps notes a).getD i [])) K = K (decide ((sizesZ ps notes a).getD i [] ∈ sizesZ ps notes b)) := by
  intro i hi K
  have hx := sizesZ_ok h ha _ (getD_mem hi)
  exact l46_47 h.psok h.dok hx.1 (hx.2.mono (by omega)) (fun z hz => ⟨(sizesZ_ok h hb z hz).1, (sizesZ_ok h hb z hz).2.mono (by omega)⟩) (by omega) K
 have key := findS_loop (F := fun n i => LP18_4 e0 e1 n (encZss D (allZ ps notes)) (a : Int) (b : Int) n3 n4 (encZs D (sizesZ ps notes a)) (nI (sizesZ ps notes a).length) (i : Int) n8 n9) (m := (sizesZ ps notes a).length)
  (p := fun i => if decide ((sizesZ ps notes a).getD i [] ∈ sizesZ ps notes b) then some ((sizesZ ps notes a).getD i []) else Option.none)
  (R := fun _ x => e0 false 0 (a : Int) (b : Int) (encZ D x) (encZ D x)) (R' := e1 (encZss D (allZ ps notes)) (a : Int) (b : Int) n3 n4 n8 n9)
  (fun i hi x hx n => ?_) (fun i hi hx n => ?_) (fun n => ?_) (sizesZ ps notes a).length 0 (by omega) fuel (fuel_gt (by omega))
 ·refine Eq.trans key ?_
  unfold clash2
  rcases find_at (fun x => decide (x ∈ sizesZ ps notes b)) [] (sizesZ ps notes a) with ⟨f1, f2⟩ | ⟨i, x, f1, f2⟩
  ·rw [f1, f2]
  ·rw [f1, f2]
 ·cases hp : decide ((sizesZ ps notes a).getD i [] ∈ sizesZ ps notes b) with
  | false => rw [hp] at hx; simp at hx
  | true =>
   rw [hp] at hx
   simp only [if_true, Option.some.injEq] at hx
   simp only [LP18_4, St18_4_0, lt_nI hi, cond_true, ge0, gd_true, Int.toNat_natCast, get_encZs hi, get_allZ hb, oOpt, oSl]
   rw [q i hi, hp]
   rw [cond_true, l48z h.psok (sizesZ_ok h ha _ (getD_mem hi)).1, hx]
 ·cases hp : decide ((sizesZ ps notes a).getD i [] ∈ sizesZ ps notes b) with
  | true => rw [hp] at hx; simp at hx
  | false =>
   simp only [LP18_4, St18_4_0, lt_nI hi, cond_true, ge0, gd_true, Int.toNat_natCast, get_encZs hi, get_allZ hb, oOpt, oSl]
   rw [q i hi, hp]
   rw [cond_false, wI_succ (by omega)]
 ·simp only [LP18_4, St18_4_0, lt_nI', cond_false]
theorem l18_2 (h : Sc ps D notes) {a : Nat} (ha : a <= notes.length) {n3 n4 n5 n6 : Int} (e0 : Bool -> Int -> Int -> Int -> List PVal -> List PVal -> Bool) (e1 : List PVal -> Int -> Int -> Int -> Int -> Bool) :
  L18_2_0 e0 e1 fuel (encZss D (allZ ps notes)) (a : Int) ((a + 1 : Nat) : Int) n3 n4 n5 n6 =
   match clash1 ps notes a with
   | some (b, x) => e0 false 0 (a : Int) (b : Int) (encZ D x) (encZ D x)
   | Option.none => e1 (encZss D (allZ ps notes)) n3 n4 n5 n6 := by
 have hle := h.len
 have key := findS_loop (F := fun n i => LP18_2 e0 e1 n (encZss D (allZ ps notes)) (a : Int) (i : Int) n3 n4 n5 n6) (m := notes.length + 1)
  (p := fun b => clash2 ps notes a b)
  (R := fun b x => e0 false 0 (a : Int) (b : Int) (encZ D x) (encZ D x)) (R' := e1 (encZss D (allZ ps notes)) n3 n4 n5 n6)
  (fun b hb x hx n => ?_) (fun b hb hx n => ?_) (fun n => ?_) (notes.length - a) (a + 1) (by omega) fuel (fuel_gt (by omega))
 ·refine Eq.trans key ?_
  unfold clash1
  generalize ((List.range' (a + 1) (notes.length - a)).findSome? fun b => (clash2 ps notes a b).map fun x => (b, x)) = r
  rcases r with _ | ⟨b, x⟩ <;> rfl
 ·have h1 := lt_nI hb
  simp only [LP18_2, St18_2_0, encZss_len, allZ_len, lt_nI hb, cond_true, ge0, gd_true, Int.toNat_natCast, get_allZ ha, oOpt, oSl]
  rw [l18_4 h ha (by omega), hx]
 ·simp only [LP18_2, St18_2_0, encZss_len, allZ_len, lt_nI hb, cond_true, ge0, gd_true, Int.toNat_natCast, get_allZ ha, oOpt, oSl]
  rw [l18_4 h ha (by omega), hx]
  dsimp only
  rw [wI_succ (by omega)]
 ·simp only [LP18_2, St18_2_0, encZss_len, allZ_len, lt_nI', cond_false]
theorem l18 (h : Sc ps D notes) (K : Int -> Int -> List PVal -> List PVal -> Bool -> Int -> Bool) : Q18 (encPs ps) (encZs D notes) K =
   match constZ ps notes with
   | some (a, b, x) => K (a : Int) (b : Int) (encZ D x) (encZ D x) false 0
   | Option.none => K 0 0 [] [] true 0 := by
 have hle := h.len
 rw [Q18_def]; unfold G18
 rw [l41 h]
 simp only [bne_self_eq_false, cond_false, encZss_len, allZ_len]
 have key := findS_loop (F := fun n i => LP18_0 (fun y48v y49v y50v y51v y52v y53v => (K y50v y51v y52v y53v y48v y49v)) (fun y54v y55v => (K 0 0 [] [] true 0)) n (encZss D (allZ ps notes)) (nI (notes.length + 1)) (i : Int) 0 0) (m := notes.length + 1)
  (p := fun a => clash1 ps notes a)
  (R := fun a x => K (a : Int) (x.1 : Int) (encZ D x.2) (encZ D x.2) false 0) (R' := K 0 0 [] [] true 0)
  (fun a ha x hx n => ?_) (fun a ha hx n => ?_) (fun n => ?_) (notes.length + 1) 0 (by omega) fuel (fuel_gt (by omega))
 ·refine Eq.trans key ?_
  unfold constZ
  generalize ((List.range' 0 (notes.length + 1)).findSome? fun a => (clash1 ps notes a).map fun x => (a, x)) = r
  rcases r with _ | ⟨a, b, x⟩ <;> rfl
 ·simp only [LP18_0, St18_0_0, lt_nI ha, cond_true]
  rw [wI_succ (by omega), l18_2 h (by omega), hx]
 ·simp only [LP18_0, St18_0_0, lt_nI ha, cond_true]
  rw [wI_succ (by omega), l18_2 h (by omega), hx]
  dsimp only
  rw [wI_succ (by omega)]
 ·simp only [LP18_0, St18_0_0, lt_nI', cond_false]
def gapZ (ps : List Int) (notes : List (List Int)) (d : Nat) : Int := cmpZ ps (zsub ((sizesZ ps notes d).getD ((sizesZ ps notes d).length - 1) []) ((sizesZ ps notes (d + 1)).getD 0 []))
def ordZ (ps : List Int) (notes : List (List Int)) (most : Int) : Option Nat := (List.range notes.length).find? fun d => decide (gapZ ps notes d >= most)
theorem dec_dif (h : Sc ps D notes) {c d : Nat} (hc : c <= notes.length) (hd : d <= notes.length) {x y : List Int} (hx : x ∈ sizesZ ps notes c) (hy : y ∈ sizesZ ps notes d) : decZ ps (zsub x y) := by
 obtain ⟨i, hi, rfl⟩ := List.mem_map.1 ((sizesZ_mem _ _).1 hx)
 obtain ⟨j, hj, rfl⟩ := List.mem_map.1 ((sizesZ_mem _ _).1 hy)
 exact h.dec c d i j hc hd (List.mem_range.1 hi) (List.mem_range.1 hj)
theorem find_range (p : Nat -> Bool) (m : Nat) : (List.range' 0 m).findSome? (fun i => (if p i then some () else Option.none).map fun b => (i, b)) = ((List.range m).find? p).map fun i => (i, ()) := by
 rw [List.range_eq_range']
 generalize List.range' 0 m = l
 induction l with
 | nil => rfl
 | cons a l ih =>
  rw [List.findSome?_cons, List.find?_cons]
  cases p a with
  | true => rfl
  | false => simpa using ih
theorem l49 (h : Sc ps D notes) (most : Int) (K : Int -> Int -> List PVal -> List PVal -> Bool -> Int -> Bool) : Q49 (encPs ps) (encZs D notes) most K =
   match ordZ ps notes most with
   | some d => K (d : Int) ((d + 1 : Nat) : Int) (encZ D ((sizesZ ps notes (d + 1)).getD 0 [])) (encZ D ((sizesZ ps notes d).getD ((sizesZ ps notes d).length - 1) [])) false 0
   | Option.none => K 0 0 [] [] true 0 := by
 have hle := h.len
 rw [Q49_def]; unfold G49 L49_0_1
 rw [l41 h]
 simp only [bne_self_eq_false, cond_false, encZss_len, allZ_len]
 rw [nI_add1 (by omega)]
 have main : ∀ d, d < notes.length -> ∀ n, (LP49_0 (fun y37v y38v => (K 0 0 [] [] true 0)) (fun y39v y40v y41v y42v y43v y44v => (K y41v y42v y43v y44v y39v y40v)) (n + 1)).2 most (encPs ps) (encZs D notes) (encZs D (notes2 notes)) (encZss D (allZ ps notes)) (notes.length : Int) (d : Int) 0 0 =
   bif decide (gapZ ps notes d >= most) then K (d : Int) ((d + 1 : Nat) : Int) (encZ D ((sizesZ ps notes (d + 1)).getD 0 [])) (encZ D ((sizesZ ps notes d).getD ((sizesZ ps notes d).length - 1) [])) false 0
   else (LP49_0 (fun y37v y38v => (K 0 0 [] [] true 0)) (fun y39v y40v y41v y42v y43v y44v => (K y41v y42v y43v y44v y39v y40v)) n).2 most (encPs ps) (encZs D notes) (encZs D (notes2 notes)) (encZss D (allZ ps notes)) (notes.length : Int) ((d + 1 : Nat) : Int) 0 0 := by
  intro d hd n
  have h1 : decide ((d : Int) < (notes.length : Int)) = true := lt_nI hd
  have hn1 := sizesZ_ne h d
  have hn2 := sizesZ_ne h (d + 1)
  have hl1 := sizesZ_len (ps := ps) (notes := notes) d
  have hw : wI ((nI (sizesZ ps notes d).length) - 1) = (((sizesZ ps notes d).length - 1 : Nat) : Int) := by
   show wI (((sizesZ ps notes d).length : Int) - 1) = _
   rw [wI_eq (by omega)]; omega
  have hg1 := getD_mem (l := sizesZ ps notes d) (i := (sizesZ ps notes d).length - 1) (by omega)
  have hg2 := getD_mem (l := sizesZ ps notes (d + 1)) (i := 0) hn2
  have o1 := sizesZ_ok h (by omega) _ hg1
  have o2 := sizesZ_ok h (by omega) _ hg2
  simp only [LP49_0, St49_0_1, h1, cond_true, wI_succ (show d < 1000000000 by omega), ge0, gd_true, Int.toNat_natCast, get_allZ (show d <= notes.length by omega), get_allZ (show d + 1 <= notes.length by omega), oOpt, oSl, encZs_len, hw,
   get_encZs (show (sizesZ ps notes d).length - 1 < (sizesZ ps notes d).length by omega), get_encZs hn2]
  rw [Q84_def]; unfold G84
  rw [l50z h.psok h.dok o1.1 o2.1 (o1.2.mono (by omega)) (o2.2.mono (by omega)) (dec_dif h (by omega) (by omega) hg1 hg2)]
  rfl
 have key := findS_loop (F := fun n i => (LP49_0 (fun y37v y38v => (K 0 0 [] [] true 0)) (fun y39v y40v y41v y42v y43v y44v => (K y41v y42v y43v y44v y39v y40v)) n).2 most (encPs ps) (encZs D notes) (encZs D (notes2 notes)) (encZss D (allZ ps notes)) (notes.length : Int) (i : Int) 0 0) (m := notes.length)
  (p := fun d => if decide (gapZ ps notes d >= most) then some () else Option.none)
  (R := fun d _ => K (d : Int) ((d + 1 : Nat) : Int) (encZ D ((sizesZ ps notes (d + 1)).getD 0 [])) (encZ D ((sizesZ ps notes d).getD ((sizesZ ps notes d).length - 1) [])) false 0) (R' := K 0 0 [] [] true 0)
  (fun d hd x hx n => ?_) (fun d hd hx n => ?_) (fun n => ?_) notes.length 0 (by omega) fuel (fuel_gt (by omega))
 ·refine Eq.trans key ?_
  rw [find_range (fun d => decide (gapZ ps notes d >= most))]
  unfold ordZ
  generalize ((List.range notes.length).find? fun d => decide (gapZ ps notes d >= most)) = r
  rcases r with _ | d <;> rfl
 ·rw [main d hd]
  cases hp : decide (gapZ ps notes d >= most) with
  | true => rfl
  | false => simp [hp] at hx
 ·rw [main d hd]
  cases hp : decide (gapZ ps notes d >= most) with
  | true => simp [hp] at hx
  | false => rfl
 ·have hz : decide ((notes.length : Int) < (notes.length : Int)) = false := by simp
  simp only [LP49_0, St49_0_1, hz, cond_false]
theorem l20 (h : Sc ps D notes) (K : Int -> Int -> List PVal -> List PVal -> Bool -> Int -> Bool) : Q20 (encPs ps) (encZs D notes) K =
   match ordZ ps notes 1 with
   | some d => K (d : Int) ((d + 1 : Nat) : Int) (encZ D ((sizesZ ps notes (d + 1)).getD 0 [])) (encZ D ((sizesZ ps notes d).getD ((sizesZ ps notes d).length - 1) [])) false 0
   | Option.none => K 0 0 [] [] true 0 := by
 rw [Q20_def]; unfold G20; rw [l49 h]
end
end Go.Ev

namespace Go.Ev
open Go Go.RowKit
theorem oInt_xI (n : Int) (k : Int -> Bool) : oInt .i64 (xI n) k = k n := rfl
theorem l147_z1 (b : Bool) (K : Bool -> List PVal -> Bool) : Q147 b [xI 0] K = K false [] := by
 obtain ⟨k, hk⟩ := fuel_add 3
 rw [Q147_def]; unfold G147 L147_0_0
 rw [hk]
 have w0 : wI 0 = 0 := by decide
 simp [LP147_0, St147_0_0, oOpt, oInt, w0]
theorem l147_z2 (b : Bool) (K : Bool -> List PVal -> Bool) : Q147 b [xI 0, xI 0] K = K false [] := by
 obtain ⟨k, hk⟩ := fuel_add 4
 rw [Q147_def]; unfold G147 L147_0_0
 rw [hk]
 have w0 : wI 0 = 0 := by decide
 have w1 : wI 1 = 1 := by decide
 simp [LP147_0, St147_0_0, oOpt, oInt, w0, w1]
theorem l147_z3 (b : Bool) {m : Int} (hm : m ≠ 0) (K : Bool -> List PVal -> Bool) : Q147 b [xI m, xI 0, xI 0] K = K b [xI m] := by
 obtain ⟨k, hk⟩ := fuel_add 4
 rw [Q147_def]; unfold G147 L147_0_0
 rw [hk]
 have w0 : wI 0 = 0 := by decide
 have w1 : wI 1 = 1 := by decide
 have w2 : wI 2 = 2 := by decide
 have hb : (m == 0) = false := beq_eq_false_iff_ne.2 hm
 cases b <;> simp [LP147_0, St147_0_0, oOpt, oInt, w0, w1, w2, hb]
theorem in101_0 {e0 : Int -> Bool -> List PVal -> Bool -> List PVal -> Bool -> List PVal -> Bool} {b1 b3 b5 : Bool} {l2 l6 : List PVal} : L101_2_0 e0 fuel 0 0 0 b1 l2 b3 [] b5 l6 = e0 0 b1 l2 b3 [] b5 l6 := by
 obtain ⟨k, hk⟩ := fuel_add 1
 unfold L101_2_0
 rw [hk]
 show St101_2_0 (LP101_2 e0 k) e0 _ _ _ _ _ _ _ _ _ = _
 unfold St101_2_0
 rfl
theorem in101_1 {e0 : Int -> Bool -> List PVal -> Bool -> List PVal -> Bool -> List PVal -> Bool} {b1 b3 b5 : Bool} {x y q : Int} (hq : x * y = q) (h0 : 0 <= q) (h1 : q < 1000000000) :
  L101_2_0 e0 fuel 0 0 0 b1 [xI x] b3 [xI y] b5 [xI 0, xI 0, xI 0] = e0 0 b1 [xI x] b3 [xI y] b5 [xI q, xI 0, xI 0] := by
 obtain ⟨k, hk⟩ := fuel_add 2
 have w0 : wI 0 = 0 := by decide
 have w1 : wI 1 = 1 := by decide
 have wq : wI q = q := wI_eq (by omega)
 have t1 : Int.tdiv q 1000000000 = 0 := Int.tdiv_eq_zero_of_lt (by omega) h1
 have t2 : Int.tmod q 1000000000 = q := Int.tmod_eq_of_lt (by omega) h1
 unfold L101_2_0
 rw [hk]
 show St101_2_0 (LP101_2 e0 (k + 1)) e0 _ _ _ _ _ _ _ _ _ = _
 unfold St101_2_0
 show LP101_2 e0 (k + 1) 0 (wI (Int.tdiv (wI ((wI (0 + 0)) + (wI (x * y)))) 1000000000)) (wI (0 + 1)) b1 [xI x] b3 [xI y] b5 ([xI 0, xI 0, xI 0].set ((wI (0 + 0))).toNat (xI (Int.tmod (wI ((wI (0 + 0)) + (wI (x * y)))) 1000000000))) = _
 rw [Int.zero_add, w0, hq, wq, Int.zero_add, wq, t1, t2, w0, Int.zero_add, w1]
 rfl
theorem out101 {e0 : Bool -> List PVal -> Bool -> List PVal -> Bool -> List PVal -> Bool} {b1 b3 b5 : Bool} {x : Int} {l4 l6 l6' : List PVal} (hin : ∀ E, L101_2_0 E fuel 0 0 0 b1 [xI x] b3 l4 b5 l6 = E 0 b1 [xI x] b3 l4 b5 l6') :
  L101_0_0 e0 fuel 0 b1 [xI x] b3 l4 b5 l6 = e0 b1 [xI x] b3 l4 b5 l6' := by
 obtain ⟨k, hk⟩ := fuel_add 2
 unfold L101_0_0
 rw [hk]
 show St101_0_0 (LP101_0 e0 (k + 1)) e0 _ _ _ _ _ _ _ = _
 unfold St101_0_0
 show L101_2_0 _ fuel _ _ _ _ _ _ _ _ _ = _
 rw [hin]
 show St101_0_0 (LP101_0 e0 k) e0 (wI (0 + 1)) _ _ _ _ _ _ = _
 unfold St101_0_0
 have w1 : wI 1 = 1 := by decide
 rw [Int.zero_add, w1]
 rfl
theorem l101 {n m : Int} (hn : -30000 < n /\ n < 30000) (hm : -30000 < m /\ m < 30000) (K : Bool -> List PVal -> Bool) : Q101 (decide (n < 0)) (digs n) (decide (m < 0)) (digs m) K = K (decide (n * m < 0)) (digs (n * m)) := by
 rw [Q101_def]; unfold G101
 have dz : digs 0 = [] := rfl
 have w1 : wI 1 = 1 := by decide
 have w2 : wI 2 = 2 := by decide
 have w3 : wI 3 = 3 := by decide
 by_cases h0 : n = 0
 ·subst h0
  obtain ⟨k, hk⟩ := fuel_add 1
  have out : ∀ (e0 : Bool -> List PVal -> Bool -> List PVal -> Bool -> List PVal -> Bool) (b1 b3 b5 : Bool) (l4 l6 : List PVal), L101_0_0 e0 fuel 0 b1 [] b3 l4 b5 l6 = e0 b1 [] b3 l4 b5 l6 := by
   intro e0 b1 b3 b5 l4 l6
   unfold L101_0_0
   rw [hk]
   show St101_0_0 (LP101_0 e0 k) e0 _ _ _ _ _ _ _ = _
   unfold St101_0_0
   rfl
  rw [dz, out]
  by_cases h1 : m = 0
  ·subst h1
   rw [dz]
   have e : wI ((wI ((nI 0) + (nI 0))) + 1) = 1 := by decide
   simp only [List.length_nil, e]
   show Q147 _ [xI 0] K = _
   rw [l147_z1]; rfl
  ·have e1 : digs m = [xI m.natAbs] := by simp [digs, h1]
   rw [e1]
   have e : wI ((wI ((nI 0) + (nI 1))) + 1) = 2 := by decide
   simp only [List.length_nil, List.length_singleton, e]
   show Q147 _ [xI 0, xI 0] K = _
   rw [l147_z2]
   simp [dz]
 ·have e0 : digs n = [xI n.natAbs] := by simp [digs, h0]
  rw [e0]
  by_cases h1 : m = 0
  ·subst h1
   rw [dz]
   have e : wI ((wI ((nI 1) + (nI 0))) + 1) = 2 := by decide
   simp only [List.length_nil, List.length_singleton, e]
   rw [out101 (fun E => in101_0)]
   show Q147 _ [xI 0, xI 0] K = _
   rw [l147_z2]
   simp [dz]
  ·have e1 : digs m = [xI m.natAbs] := by simp [digs, h1]
   have hp := mul_abs (A := 30000) (B := 30000) hn hm
   have hz : n * m ≠ 0 := Int.mul_ne_zero h0 h1
   have hab : (n.natAbs : Int) * (m.natAbs : Int) = ((n * m).natAbs : Int) := by rw [Int.natAbs_mul]; simp
   have e2 : digs (n * m) = [xI (n * m).natAbs] := by simp only [digs, hz, if_false]
   have hsg : (!(decide (n < 0) == decide (m < 0))) = decide (n * m < 0) := by
    rcases Int.lt_or_gt_of_ne h0 with hn0 | hn0 <;> rcases Int.lt_or_gt_of_ne h1 with hm0 | hm0
    ·have := Int.mul_pos_of_neg_of_neg hn0 hm0
     rw [decide_eq_true hn0, decide_eq_true hm0, decide_eq_false (by omega)]; rfl
    ·have := Int.mul_neg_of_neg_of_pos hn0 hm0
     rw [decide_eq_true hn0, decide_eq_false (by omega), decide_eq_true (by omega)]; rfl
    ·have := Int.mul_neg_of_pos_of_neg hn0 hm0
     rw [decide_eq_false (by omega), decide_eq_true hm0, decide_eq_true (by omega)]; rfl
    ·have := Int.mul_pos hn0 hm0
     rw [decide_eq_false (by omega), decide_eq_false (by omega), decide_eq_false (by omega)]; rfl
   rw [e1, e2]
   have e : wI ((wI ((nI 1) + (nI 1))) + 1) = 3 := by decide
   simp only [List.length_singleton, e]
   show L101_0_0 _ fuel 0 _ _ _ _ _ [xI 0, xI 0, xI 0] = _
   rw [out101 (fun E => in101_1 hab (by omega) (by omega)), l147_z3 _ (by omega), hsg]
theorem l207_11 {x y : Int} (hx : 0 <= x) (hy : 0 <= y) (h : x + y < 1000000000) (K : List PVal -> Bool) : Q207 [xI x] [xI y] K = K [xI (x + y)] := by
 obtain ⟨k, hk⟩ := fuel_add 4
 have w0 : wI 0 = 0 := by decide
 have w1 : wI 1 = 1 := by decide
 have wx : wI x = x := wI_eq (by omega)
 have wq : wI (x + y) = x + y := wI_eq (by omega)
 have t1 : Int.tdiv (x + y) 1000000000 = 0 := Int.tdiv_eq_zero_of_lt (by omega) h
 have t2 : Int.tmod (x + y) 1000000000 = x + y := Int.tmod_eq_of_lt (by omega) h
 rw [Q207_def]; unfold G207 L207_0_0
 rw [hk]
 simp [LP207_0, St207_0_0, St207_0_1, w0, w1, oOpt, oInt_xI, wx, wq, t1, t2]
theorem l207_10 {x : Int} (hx : 0 <= x) (h : x < 1000000000) (K : List PVal -> Bool) : Q207 [xI x] [] K = K [xI x] := by
 obtain ⟨k, hk⟩ := fuel_add 4
 have w0 : wI 0 = 0 := by decide
 have w1 : wI 1 = 1 := by decide
 have wx : wI x = x := wI_eq (by omega)
 have t1 : Int.tdiv x 1000000000 = 0 := Int.tdiv_eq_zero_of_lt (by omega) h
 have t2 : Int.tmod x 1000000000 = x := Int.tmod_eq_of_lt (by omega) h
 rw [Q207_def]; unfold G207 L207_0_0
 rw [hk]
 simp [LP207_0, St207_0_0, St207_0_1, w0, w1, oOpt, oInt_xI, wx, t1, t2]
theorem l207_01 {x : Int} (hx : 0 <= x) (h : x < 1000000000) (K : List PVal -> Bool) : Q207 [] [xI x] K = K [xI x] := by
 obtain ⟨k, hk⟩ := fuel_add 4
 have w0 : wI 0 = 0 := by decide
 have w1 : wI 1 = 1 := by decide
 have wx : wI x = x := wI_eq (by omega)
 have t1 : Int.tdiv x 1000000000 = 0 := Int.tdiv_eq_zero_of_lt (by omega) h
 have t2 : Int.tmod x 1000000000 = x := Int.tmod_eq_of_lt (by omega) h
 rw [Q207_def]; unfold G207 L207_0_0
 rw [hk]
 simp [LP207_0, St207_0_0, St207_0_1, w0, w1, oOpt, oInt_xI, wx, t1, t2]
theorem l207_00 (K : List PVal -> Bool) : Q207 [] [] K = K [] := by
 obtain ⟨k, hk⟩ := fuel_add 4
 rw [Q207_def]; unfold G207 L207_0_0
 rw [hk]
 simp [LP207_0, St207_0_0]
theorem l182_11 {x y : Int} (hy : 0 <= y) (hx : x < 1000000000) (h : y <= x) (K : List PVal -> Bool) : Q182 [xI x] [xI y] K = K [xI (x - y)] := by
 obtain ⟨k, hk⟩ := fuel_add 4
 have w0 : wI 0 = 0 := by decide
 have w1 : wI 1 = 1 := by decide
 have wx : wI x = x := wI_eq (by omega)
 have wq : wI (x - y) = x - y := wI_eq (by omega)
 have hn : ¬ (x - y < 0) := by omega
 rw [Q182_def]; unfold G182 L182_0_0
 rw [hk]
 simp [LP182_0, St182_0_0, St182_0_1, w0, w1, oOpt, oInt_xI, wx, wq, hn]
theorem l182_10 {x : Int} (hx : 0 <= x) (h : x < 1000000000) (K : List PVal -> Bool) : Q182 [xI x] [] K = K [xI x] := by
 obtain ⟨k, hk⟩ := fuel_add 4
 have w0 : wI 0 = 0 := by decide
 have w1 : wI 1 = 1 := by decide
 have wx : wI x = x := wI_eq (by omega)
 have hn : ¬ (x < 0) := by omega
 rw [Q182_def]; unfold G182 L182_0_0
 rw [hk]
 simp [LP182_0, St182_0_0, St182_0_1, w0, w1, oOpt, oInt_xI, wx, hn]
theorem l180_11 {x y : Int} (K : Int -> Bool) : Q180 [xI x] [xI y] K = K (if x < y then -1 else if y < x then 1 else 0) := by
 obtain ⟨k, hk⟩ := fuel_add 4
 have w0 : wI 0 = 0 := by decide
 have wm : wI (-1) = -1 := by decide
 rw [Q180_def]; unfold G180 L180_0_0
 rw [hk]
 by_cases h1 : x < y
 ·simp [LP180_0, St180_0_0, w0, wm, oOpt, oInt_xI, h1]
 ·by_cases h2 : y < x
  ·simp [LP180_0, St180_0_0, w0, wm, oOpt, oInt_xI, h1, h2]
  ·simp [LP180_0, St180_0_0, w0, wm, oOpt, oInt_xI, h1, h2]
theorem l180_01 {x : Int} (K : Int -> Bool) : Q180 [] [xI x] K = K (-1) := by
 rw [Q180_def]; unfold G180 L180_0_0
 simp
theorem l180_10 {x : Int} (K : Int -> Bool) : Q180 [xI x] [] K = K 1 := by
 rw [Q180_def]; unfold G180 L180_0_0
 simp
theorem l147_any (b : Bool) {m : Int} (K : Bool -> List PVal -> Bool) : Q147 b [xI m] K = if m = 0 then K false [] else K b [xI m] := by
 by_cases h : m = 0
 ·subst h; rw [l147_z1]; simp
 ·rw [l147_one b h, if_neg h]
theorem l174 {n m : Int} (hn : -500000000 < n /\ n < 500000000) (hm : -500000000 < m /\ m < 500000000) (K : Bool -> List PVal -> Bool) : Q174 (decide (n < 0)) (digs n) (decide (m < 0)) (digs m) K = K (decide (n + m < 0)) (digs (n + m)) := by
 have dz : digs 0 = [] := rfl
 have dn : ∀ {z : Int}, z ≠ 0 -> digs z = [xI z.natAbs] := fun h => by simp [digs, h]
 rw [Q174_def]; unfold G174
 rcases Int.lt_trichotomy n 0 with h1 | rfl | h1
 ·rcases Int.lt_trichotomy m 0 with h2 | rfl | h2
  ·rw [decide_eq_true h1, decide_eq_true h2, dn (by omega), dn (by omega), dn (by omega), decide_eq_true (show n + m < 0 by omega)]
   simp only [BEq.rfl, cond_true]
   rw [l207_11 (by omega) (by omega) (by omega), l147_one _ (by omega)]
   congr 3; omega
  ·rw [decide_eq_true h1, dz, dn (by omega), Int.add_zero, dn (by omega), decide_eq_true h1]
   show Q180 _ _ _ = _
   rw [l180_10]
   show Q182 _ _ _ = _
   rw [l182_10 (by omega) (by omega), l147_one _ (by omega)]
  ·rw [decide_eq_true h1, decide_eq_false (show ¬ m < 0 by omega), dn (by omega), dn (by omega)]
   show Q180 _ _ _ = _
   rw [l180_11]
   rcases Int.lt_trichotomy (n + m) 0 with h3 | h3 | h3
   ·rw [if_neg (by omega), if_pos (by omega)]
    show Q182 _ _ _ = _
    rw [l182_11 (by omega) (by omega) (by omega), l147_one _ (by omega), dn (by omega), decide_eq_true h3]
    congr 3; omega
   ·rw [if_neg (by omega), if_neg (by omega)]
    show Q182 _ _ _ = _
    rw [l182_11 (by omega) (by omega) (by omega), l147_any, if_pos (by omega), h3, dz]
    rfl
   ·rw [if_pos (by omega)]
    show Q182 _ _ _ = _
    rw [l182_11 (by omega) (by omega) (by omega), l147_one _ (by omega), dn (by omega), decide_eq_false (by omega)]
    congr 3; omega
 ·rcases Int.lt_trichotomy m 0 with h2 | rfl | h2
  ·rw [decide_eq_true h2, dz, dn (by omega), Int.zero_add, dn (by omega), decide_eq_true h2]
   show Q180 _ _ _ = _
   rw [l180_01]
   show Q182 _ _ _ = _
   rw [l182_10 (by omega) (by omega), l147_one _ (by omega)]
  ·rw [dz]
   show Q207 _ _ _ = _
   rw [l207_00, l147_nil]
   rfl
  ·rw [decide_eq_false (show ¬ m < 0 by omega), dz, dn (by omega), Int.zero_add, dn (by omega)]
   show Q207 _ _ _ = _
   rw [l207_01 (by omega) (by omega), l147_one _ (by omega), show decide (m < 0) = decide ((0 : Int) < 0) from (decide_eq_false (by omega)).trans (by decide)]
 ·rcases Int.lt_trichotomy m 0 with h2 | rfl | h2
  ·rw [decide_eq_true h2, decide_eq_false (show ¬ n < 0 by omega), dn (by omega), dn (by omega)]
   show Q180 _ _ _ = _
   rw [l180_11]
   rcases Int.lt_trichotomy (n + m) 0 with h3 | h3 | h3
   ·rw [if_pos (by omega)]
    show Q182 _ _ _ = _
    rw [l182_11 (by omega) (by omega) (by omega), l147_one _ (by omega), dn (by omega), decide_eq_true h3]
    congr 3; omega
   ·rw [if_neg (by omega), if_neg (by omega)]
    show Q182 _ _ _ = _
    rw [l182_11 (by omega) (by omega) (by omega), l147_any, if_pos (by omega), h3, dz]
    rfl
   ·rw [if_neg (by omega), if_pos (by omega)]
    show Q182 _ _ _ = _
    rw [l182_11 (by omega) (by omega) (by omega), l147_one _ (by omega), dn (by omega), decide_eq_false (by omega)]
    congr 3; omega
  ·rw [decide_eq_false (show ¬ n < 0 by omega), dz, dn (by omega), Int.add_zero, dn (by omega)]
   show Q207 _ _ _ = _
   rw [l207_10 (by omega) (by omega), l147_one _ (by omega), show decide (n < 0) = false from decide_eq_false (by omega)]
  ·rw [decide_eq_false (show ¬ n < 0 by omega), decide_eq_false (show ¬ m < 0 by omega), dn (by omega), dn (by omega), dn (by omega), decide_eq_false (by omega)]
   show Q207 _ _ _ = _
   rw [l207_11 (by omega) (by omega) (by omega), l147_one _ (by omega)]
   show K false _ = K false _
   congr 3; omega
def SR (q : Rat) : Prop := (-15000 < q.num /\ q.num < 15000) /\ q.den < 15000
theorem l73 {a b : Rat} (ha : SR a) (hb : SR b) (K : ByteArray -> ByteArray -> Bool) : Q73 (itoaB a.num) (itoaB a.den) (itoaB b.num) (itoaB b.den) K = K (itoaB (a * b).num) (itoaB (a * b).den) := by
 have pa := a.den_pos
 have pb := b.den_pos
 obtain ⟨a1, a2⟩ := ha
 obtain ⟨b1, b2⟩ := hb
 have h1 := mul_abs (A := 15000) (B := 15000) a1 b1
 have h2 : a.den * b.den < 15000 * 15000 := Nat.mul_lt_mul'' a2 b2
 have h3 : 0 < a.den * b.den := Nat.mul_pos pa pb
 have e2 : ((a.den : Int) * (b.den : Int)) = ((a.den * b.den : Nat) : Int) := by simp
 rw [Q73_def]; unfold G73
 rw [l102 (by omega), l102 (by omega), l101 (by omega) (by omega), l102 (by omega), l102 (by omega), l101 (by omega) (by omega), e2, l100 h3 (by omega) (by omega) _ (decide_eq_false (by omega))]
 rw [<- Rat.mul_def']
theorem Rat_add_same (n m : Int) {d : Nat} (hd : d ≠ 0) : mkRat n d + mkRat m d = mkRat (n + m) d := mkRat_add (by omega) n m
theorem l130 {a b : Rat} (ha : SR a) (hb : SR b) (K : ByteArray -> ByteArray -> Bool) : Q130 (itoaB a.num) (itoaB a.den) (itoaB b.num) (itoaB b.den) K = K (itoaB (a + b).num) (itoaB (a + b).den) := by
 have pa := a.den_pos
 have pb := b.den_pos
 obtain ⟨a1, a2⟩ := ha
 obtain ⟨b1, b2⟩ := hb
 have h1 := mul_abs (A := 15000) (B := 15000) (b := (b.den : Int)) a1 (by omega)
 have h1' := mul_abs (A := 15000) (B := 15000) (b := (a.den : Int)) b1 (by omega)
 have h2 : a.den * b.den < 15000 * 15000 := Nat.mul_lt_mul'' a2 b2
 have h3 : 0 < a.den * b.den := Nat.mul_pos pa pb
 have e2 : ((a.den : Int) * (b.den : Int)) = ((a.den * b.den : Nat) : Int) := by simp
 rw [Q130_def]; unfold G130
 rw [itoaB_eq_iff (by omega) (by omega)]
 by_cases h : (a.den : Int) = (b.den : Int)
 ·rw [decide_eq_true h, cond_true]
  rw [l102 (by omega), l102 (by omega), l174 (by omega) (by omega), l102 (by omega), l100 pa (by omega) (by omega) _ (by simp)]
  have hab : b.den = a.den := by omega
  have : mkRat (a.num + b.num) a.den = a + b := by
   rw [<- Rat_add_same _ _ (by omega), Rat.mkRat_self]
   rw [<- hab, Rat.mkRat_self]
  rw [this]
 ·rw [decide_eq_false h, cond_false]
  rw [l102 (by omega), l102 (by omega), l101 (by omega) (by omega), l102 (by omega), l102 (by omega), l101 (by omega) (by omega), l174 (by omega) (by omega), l102 (by omega), l102 (by omega), l101 (by omega) (by omega), e2,
   l100 h3 (by omega) (by omega) _ (decide_eq_false (by omega))]
  rw [<- Rat.add_def']
end Go.Ev

namespace Go.Ev
open Go Go.RowKit
theorem range_map_get {α β : Type} (l : List α) (f : α -> β) (x0 : α) : (List.range l.length).map (fun i => f (l.getD i x0)) = l.map f := by
 apply List.ext_getElem
 ·simp
 ·intro i h1 h2
  have hi : i < l.length := by simpa using h1
  simp [hi]
theorem get_encS' {v : List Rat} {i : Nat} (h : i < v.length) : (encS v)[i]? = some (xQ (v.getD i 0)) := by
 rw [get_encS h, List.getD_eq_getElem?_getD, List.getElem?_eq_getElem h]; rfl
theorem getD_memR {v : List Rat} {i : Nat} (h : i < v.length) : v.getD i 0 ∈ v := by
 rw [List.getD_eq_getElem?_getD, List.getElem?_eq_getElem h]
 exact List.getElem_mem h
def SRV (v : List Rat) : Prop := ∀ q, q ∈ v -> SR q
theorem l38 {v : List Rat} {q : Rat} (hv : SRV v) (hq : SR q) (h0 : 0 < v.length) (hl : v.length < 1000) (K : List PVal -> Bool) : Q38 (encS v) (itoaB q.num) (itoaB q.den) K = K (encS (vscale v q)) := by
 rw [Q38_def]; unfold G38 L38_0_0
 rw [encS_len]
 have key := append_loop (A := fun n i => (LP38_0 (K []) (fun y11v => K y11v) n).1 (encS v) (nI v.length) i (itoaB q.num) (itoaB q.den)) (B := fun n i acc => (LP38_0 (K []) (fun y11v => K y11v) n).2 (encS v) (nI v.length) i (itoaB q.num) (itoaB q.den) acc)
  (m := v.length) (f := fun i => xQ (v.getD i 0 * q)) (R := fun acc => K acc) h0 (fun n => ?_) (fun i h0 hi n acc ha => ?_) (fun n acc ha => ?_) fuel (fuel_gt (by omega))
 ·rw [show encS (vscale v q) = (List.range v.length).map fun i => xQ (v.getD i 0 * q) by
   rw [range_map_get v (fun x => xQ (x * q)) 0]; simp [encS, vscale]]
  exact key
 ·have hm : decide ((0 : Int) < nI v.length) = true := lt_nI (i := 0) h0
  simp only [LP38_0, St38_0_0]
  rw [hm, cond_true, show ((0 : Int)).toNat = 0 from rfl, get_encS' h0]
  show Q73 _ _ _ _ _ = _
  rw [l73 (hv _ (getD_memR h0)) hq, wI_eq (by omega)]
  rfl
 ·simp only [LP38_0, St38_0_1, lt_nI hi, cond_true, ge0, gd_true, Int.toNat_natCast, get_encS' hi, oOpt, oR_xQ]
  rw [l73 (hv _ (getD_memR hi)) hq, wI_succ (by omega)]
  simp only [maxE ha (by omega), gd_true]
 ·simp only [LP38_0, St38_0_1, lt_nI', cond_false]
theorem l97 {a b : List Rat} (ha : SRV a) (hb : SRV b) (hab : a.length = b.length) (h0 : 0 < a.length) (hl : a.length < 1000) (K : List PVal -> Bool) : Q97 (encS a) (encS b) K = K (encS (vadd a b)) := by
 rw [Q97_def]; unfold G97 L97_0_0
 rw [encS_len]
 have key := append_loop (A := fun n i => (LP97_0 (K []) (fun y11v => K y11v) n).1 (encS a) (encS b) (nI a.length) i) (B := fun n i acc => (LP97_0 (K []) (fun y11v => K y11v) n).2 (encS a) (encS b) (nI a.length) i acc)
  (m := a.length) (f := fun i => xQ (a.getD i 0 + b.getD i 0)) (R := fun acc => K acc) h0 (fun n => ?_) (fun i h0 hi n acc hacc => ?_) (fun n acc ha => ?_) fuel (fuel_gt (by omega))
 ·rw [show encS (vadd a b) = (List.range a.length).map fun i => xQ (a.getD i 0 + b.getD i 0) by
   apply List.ext_getElem
   ·simp [vadd, hab]
   ·intro i h1 h2
    have hi : i < a.length := by simpa using h2
    have hi' : i < b.length := by omega
    simp [vadd, hi, hi']]
  exact key
 ·have hm : decide ((0 : Int) < nI a.length) = true := lt_nI (i := 0) h0
  simp only [LP97_0, St97_0_0]
  rw [hm, cond_true, show ((0 : Int)).toNat = 0 from rfl, get_encS' h0, get_encS' (v := b) (by omega)]
  show Q130 _ _ _ _ _ = _
  rw [l130 (ha _ (getD_memR h0)) (hb _ (getD_memR (by omega))), wI_eq (by omega)]
  rfl
 ·simp only [LP97_0, St97_0_1, lt_nI hi, cond_true, ge0, gd_true, Int.toNat_natCast, get_encS' hi, get_encS' (v := b) (show i < b.length by omega), oOpt, oR_xQ]
  rw [l130 (ha _ (getD_memR hi)) (hb _ (getD_memR (by omega))), wI_succ (by omega)]
  simp only [maxE hacc (by omega), gd_true]
 ·simp only [LP97_0, St97_0_1, lt_nI', cond_false]
theorem mkRat1 (n : Int) : (mkRat n 1) = (n : Rat) := by have := mkRat_one n; simpa using this
theorem l68 {a b : List Rat} (ha : SRV a) (hb : SRV b) (hab : a.length = b.length) (h0 : 0 < a.length) (hl : a.length < 1000) (K : List PVal -> Bool) : Q68 (encS a) (encS b) K = K (encS (vsub a b)) := by
 have hneg : SRV (vscale b (-1)) := by
  intro q hq
  obtain ⟨x, hx, rfl⟩ := List.mem_map.1 hq
  have := hb x hx
  rw [Rat.mul_neg, Rat.mul_one]
  obtain ⟨h1, h2⟩ := this
  exact ⟨by rw [Rat.neg_num]; omega, by rw [Rat.neg_den]; exact h2⟩
 rw [Q68_def]; unfold G68
 have e1 := l39 (n := -1) (d := 1) (by omega) (by omega) (by omega) (fun z1v z2v => (Q38 (encS b) z1v z2v (fun z3v => (Q97 (encS a) z3v (fun z4v => (K z4v))))))
 refine e1.trans ?_
 rw [mkRat1]
 have : ((-1 : Int) : Rat) = -1 := by rfl
 rw [this]
 rw [l38 hb ⟨by decide, by decide⟩ (by omega) (by omega), l97 ha hneg (by simp [vscale]; omega) h0 hl]
 have : vadd a (vscale b (-1)) = vsub a b := by
  unfold vadd vscale vsub
  rw [List.zipWith_map_right]
  congr 1
  funext x y
  rw [Rat.mul_neg, Rat.mul_one, Rat.sub_eq_add_neg]
 rw [this]
theorem l66 {l : List Int} (hl : ∀ x, x ∈ l -> -100000 < x /\ x < 100000) (h0 : 0 < l.length) (hlen : l.length < 1000) (K0 K1 : List PVal -> Bool) : Q66 (l.map xI) K0 K1 = K1 (encZ 1 l) := by
 rw [Q66_def]; unfold G66 L66_0_0
 rw [List.length_map]
 have hg : ∀ i, i < l.length -> (l.map xI)[i]? = some (xI (l.getD i 0)) := by
  intro i hi
  rw [List.getElem?_map, List.getD_eq_getElem?_getD, List.getElem?_eq_getElem hi]; rfl
 have hb : ∀ i, i < l.length -> -100000 < l.getD i 0 /\ l.getD i 0 < 100000 := by
  intro i hi
  refine hl _ ?_
  rw [List.getD_eq_getElem?_getD, List.getElem?_eq_getElem hi]
  exact List.getElem_mem hi
 have key := append_loop (A := fun n i => (LP66_0 (K0 []) (fun y11v => K1 y11v) n).1 (l.map xI) (nI l.length) i) (B := fun n i acc => (LP66_0 (K0 []) (fun y11v => K1 y11v) n).2 (l.map xI) (nI l.length) i acc)
  (m := l.length) (f := fun i => xQ (mkRat (l.getD i 0) 1)) (R := fun acc => K1 acc) h0 (fun n => ?_) (fun i h0 hi n acc hacc => ?_) (fun n acc ha => ?_) fuel (fuel_gt (by omega))
 ·rw [show encZ 1 l = (List.range l.length).map fun i => xQ (mkRat (l.getD i 0) 1) by
   rw [range_map_get l (fun x => xQ (mkRat x 1)) 0]; simp [encZ, encS, zR]]
  exact key
 ·have hm : decide ((0 : Int) < nI l.length) = true := lt_nI (i := 0) h0
  simp only [LP66_0, St66_0_0]
  rw [hm, cond_true, show ((0 : Int)).toNat = 0 from rfl, hg 0 h0]
  show Q39 _ _ _ = _
  have := l39 (n := l.getD 0 0) (d := 1) (by omega) (by have := hb 0 h0; omega) (by omega)
  refine (this _).trans ?_
  rw [wI_eq (by omega)]
  rfl
 ·simp only [LP66_0, St66_0_1, lt_nI hi, cond_true, ge0, gd_true, Int.toNat_natCast, hg i hi, oOpt, oInt_xI]
  have := l39 (n := l.getD i 0) (d := 1) (by omega) (by have := hb i hi; omega) (by omega)
  refine (this _).trans ?_
  rw [wI_succ (by omega)]
  simp only [maxE hacc (by omega), gd_true]
 ·simp only [LP66_0, St66_0_1, lt_nI', cond_false]
section
variable {ps : List Int} {D : Nat}
def octZ (D : Nat) (ps : List Int) : List Int := (D : Int) :: ps.tail.map fun _ => 0
theorem oct_len (hps : PsOk ps) : (octZ D ps).length = ps.length := by rcases hps with rfl | rfl <;> rfl
theorem octE (hps : PsOk ps) (hD : 0 < D) : encZ D (octZ D ps) = encZ 1 (octZ 1 ps) := by
 have h1 : mkRat (D : Int) D = 1 := by
  have : mkRat (D : Int) D = mkRat 1 1 := (Rat.mkRat_eq_iff (by omega) (by omega)).2 (by simp)
  rw [this]; rfl
 have h2 : mkRat (0 : Int) D = mkRat 0 1 := by simp
 have h3 : mkRat (D : Int) D = mkRat ((1 : Nat) : Int) 1 := by rw [h1]; rfl
 rcases hps with rfl | rfl
 ·show encS [mkRat (D : Int) D, mkRat 0 D] = encS [mkRat ((1 : Nat) : Int) 1, mkRat 0 1]
  rw [h3, h2]
 ·show encS [mkRat (D : Int) D, mkRat 0 D, mkRat 0 D] = encS [mkRat ((1 : Nat) : Int) 1, mkRat 0 1, mkRat 0 1]
  rw [h3, h2]
theorem l36 (hps : PsOk ps) (hD : 0 < D) (K : List PVal -> Bool) : Q36 (encPs ps) K = K (encZ D (octZ D ps)) := by
 rw [octE hps hD]
 rw [Q36_def]; unfold G36
 have main : ∀ (l : List Int), PsOk l -> ∀ K : List PVal -> Bool, (Q66 (List.replicate l.length (xI 0)) (fun z1v => (Q39 1 1 (fun z2v z3v => (oOpt (z1v[0]?) fun e4v => (oR e4v fun s5v s6v => false))))) (fun z7v => (Q39 1 1 (fun z8v z9v => (gd (true && decide (0 < (nI z7v.length))) (gd (decide (0 < z7v.length)) (K (z7v.set 0 (xA [(xZ z8v), (xZ z9v)]))))))))) = K (encZ 1 (octZ 1 l)) := by
  intro l hl K
  have e0 : List.replicate l.length (xI 0) = (List.replicate l.length (0 : Int)).map xI := by simp
  have hlen := hl.len
  rw [e0, l66 (fun x hx => by rw [List.eq_of_mem_replicate hx]; omega) (by simp; omega) (by simp; omega)]
  have e1 := l39 (n := 1) (d := 1) (by omega) (by omega) (by omega) (fun z8v z9v => (gd (true && decide (0 < (nI (encZ 1 (List.replicate l.length (0 : Int))).length))) (gd (decide (0 < (encZ 1 (List.replicate l.length (0 : Int))).length)) (K ((encZ 1 (List.replicate l.length (0 : Int))).set 0 (xA [(xZ z8v), (xZ z9v)]))))))
  refine Eq.trans e1 ?_
  rcases hl with rfl | rfl <;> rfl
 rcases hps with rfl | rfl
 ·exact main [2, 3] (.inl rfl) K
 ·exact main [2, 3, 5] (.inr rfl) K
theorem SRV.of (hD : 0 < D /\ D < 15000) {z : List Int} (hz : ZS 15000 z) : SRV (zR D z) := by
 intro q hq
 obtain ⟨x, hx, rfl⟩ := List.mem_map.1 hq
 have h1 := num_small (n := x) hD.1
 have h2 := den_small (n := x) hD.1
 have := hz x hx
 exact ⟨by omega, by omega⟩
theorem l38z (hps : PsOk ps) (hD : 0 < D /\ D < 3000) {a : List Int} {k : Int} (la : a.length = ps.length) (ha : ZS 15000 a) (hk : -10000 < k /\ k < 10000) (K : List PVal -> Bool) :
  Q38 (encZ D a) (itoaB k) (itoaB 1) K = K (encZ D (zscale a k)) := by
 have hlen := hps.len
 have := l38 (v := zR D a) (q := (k : Rat)) (SRV.of (by omega) ha) ⟨by simp; omega, by simp⟩ (by simp; omega) (by simp; omega) K
 rw [zR_scale] at this
 exact this
theorem l68z (hps : PsOk ps) (hD : 0 < D /\ D < 3000) {a b : List Int} (la : a.length = ps.length) (lb : b.length = ps.length) (ha : ZS 15000 a) (hb : ZS 15000 b) (K : List PVal -> Bool) :
  Q68 (encZ D a) (encZ D b) K = K (encZ D (zsub a b)) := by
 have hlen := hps.len
 rw [l68 (SRV.of (by omega) ha) (SRV.of (by omega) hb) (by simp; omega) (by simp; omega) (by simp; omega), zR_sub hD.1]
theorem l97z (hps : PsOk ps) (hD : 0 < D /\ D < 3000) {a b : List Int} (la : a.length = ps.length) (lb : b.length = ps.length) (ha : ZS 15000 a) (hb : ZS 15000 b) (K : List PVal -> Bool) :
  Q97 (encZ D a) (encZ D b) K = K (encZ D (zadd a b)) := by
 have hlen := hps.len
 rw [l97 (SRV.of (by omega) ha) (SRV.of (by omega) hb) (by simp; omega) (by simp; omega) (by simp; omega), zR_add hD.1]
theorem l37 (hps : PsOk ps) (hD : 0 < D /\ D < 3000) {a : List Int} {from_ : Int} {m : Nat} (la : a.length = ps.length) (ha : ZS 15000 a) (hf : 0 <= from_ /\ from_ <= 100) (hm : 0 < m /\ m < 100) (K : List PVal -> Bool) :
  Q37 (encZ D a) from_ (from_ + m - 1) K = K (encZs D ((List.range m).map fun (i : Nat) => zscale a (from_ + (i : Int)))) := by
 rw [Q37_def]; unfold G37 L37_0_0
 have hle : ∀ i : Nat, i < m -> decide (from_ + (i : Int) <= from_ + m - 1) = true := fun i hi => decide_eq_true (by omega)
 have hnl : decide (from_ + (m : Int) <= from_ + m - 1) = false := decide_eq_false (by omega)
 have q39 : ∀ (i : Nat), i < m -> ∀ X : ByteArray -> ByteArray -> Bool, Q39 (from_ + (i : Int)) 1 X = X (itoaB (from_ + (i : Int))) (itoaB 1) := by
  intro i hi X
  have := l39 (n := from_ + (i : Int)) (d := 1) (by omega) (by omega) (by omega) X
  rw [mkRat1] at this
  exact this
 have key := append_loop (A := fun n i => (LP37_0 (K []) (fun y7v => K y7v) n).1 (encZ D a) (from_ + m - 1) (from_ + i)) (B := fun n i acc => (LP37_0 (K []) (fun y7v => K y7v) n).2 (encZ D a) (from_ + m - 1) (from_ + i) acc)
  (m := m) (f := fun i => xV (encZ D (zscale a (from_ + (i : Int))))) (R := fun acc => K acc) hm.1 (fun n => ?_) (fun i h0 hi n acc hacc => ?_) (fun n acc ha => ?_) fuel (fuel_gt (by omega))
 ·rw [show encZs D ((List.range m).map fun (i : Nat) => zscale a (from_ + (i : Int))) = (List.range m).map fun (i : Nat) => xV (encZ D (zscale a (from_ + (i : Int)))) by simp [encZs]]
  rw [Int.add_zero] at key
  exact key
 ·have h := hle 0 hm.1
  have hq := q39 0 hm.1
  rw [Int.natCast_zero] at h hq
  simp only [LP37_0, St37_0_0, h, cond_true]
  rw [hq, l38z hps hD la ha (by omega)]
  rw [wI_eq (n := from_ + 0 + 1) (by omega)]
  rw [Int.add_assoc]
  rfl
 ·simp only [LP37_0, St37_0_1, hle i hi, cond_true]
  rw [q39 i hi, l38z hps hD la ha (by omega), wI_eq (n := from_ + (i : Int) + 1) (by omega)]
  simp only [maxE hacc (by omega), gd_true]
  rw [Int.add_assoc]
  rfl
 ·simp only [LP37_0, St37_0_1, hnl, cond_false]
end
end Go.Ev

namespace Go.Ev
open Go Go.RowKit
theorem l120 {n : Int} {d : Nat} (hd : 0 < d /\ d < 100000000) (hn : -100000000 < n /\ n < 100000000) (K : ByteArray -> ByteArray -> Bool) : Q120 (itoaB n) (itoaB d) K = K (itoaB (mkRat n d).num) (itoaB (mkRat n d).den) := by
 have hg := Nat.gcd_pos_of_pos_right n.natAbs hd.1
 have hgd : Nat.gcd n.natAbs d <= d := Nat.le_of_dvd hd.1 (Nat.gcd_dvd_right _ _)
 rw [Q120_def]; unfold G120
 rw [l106 (by omega), if_neg (by omega), if_neg (by omega)]
 rw [show decide ((1 : Int) < 0) = false by decide, cond_false]
 rw [l107 (by omega) (by omega) (by omega), Int.natAbs_natCast, eq31 (by omega)]
 have e1 : (mkRat n d).num = n / ((Nat.gcd n.natAbs d : Nat) : Int) := by
  rw [<- num_of hd.1]
  exact Int.tdiv_eq_ediv_of_dvd (Int.ofNat_dvd_left.2 (Nat.gcd_dvd_left _ _))
 have e2 : ((mkRat n d).den : Int) = (d : Int) / ((Nat.gcd n.natAbs d : Nat) : Int) := by
  rw [<- den_of hd.1]
  exact Int.tdiv_eq_ediv_of_dvd (Int.ofNat_dvd.2 (Nat.gcd_dvd_right n.natAbs d))
 by_cases h1 : ((Nat.gcd n.natAbs d : Nat) : Int) = 1
 ·rw [decide_eq_true h1]
  show K _ _ = _
  rw [e1, e2, h1, Int.ediv_one, Int.ediv_one]
 ·rw [decide_eq_false h1]
  show Q159 _ _ _ = _
  rw [l159 (by omega) (by omega), l159 (by omega) (by omega), e1, e2]
theorem l204_one {q : Rat} (hq : SQ q) (K : ByteArray -> ByteArray -> Int -> Bool) : Q204 (itoaB q.num) (itoaB q.den) (itoaB 1) (itoaB 1) K = K (itoaB q.num) (itoaB q.den) 0 := by
 have hp := q.den_pos
 obtain ⟨h1, h2⟩ := hq
 rw [Q204_def]; unfold G204
 rw [Q232_def]; unfold G232
 rw [l106 (by omega), if_neg (by omega), if_neg (by omega)]
 show Q121 _ _ _ = _
 rw [l121 (by omega) (by omega), l121 (by omega) (by omega), Int.mul_one, Int.mul_one, l120 (by omega) (by omega), Rat.mkRat_self]
section
variable {ps : List Int} {D : Nat}
theorem itoa_txt_ne {q : Rat} (hq : SQ q) : (!((itoaB q.num).toList == s_30.toList)) = !decide (q = 0) := by
 obtain ⟨h1, h2⟩ := hq
 rw [eq30 (by omega)]
 congr 1
 exact decide_eq_decide.2 ⟨fun e => Rat.num_eq_zero.1 e, fun e => by rw [e]; rfl⟩
theorem st171_zero {v o : List Rat} {i : Nat} (hi : i < o.length) (hz : o.getD i 0 = 0) (hl : o.length < 1000) {e0 : List PVal -> List PVal -> ByteArray -> ByteArray -> ByteArray -> ByteArray -> Bool} {n : Nat} {s5 s6 s7 s8 : ByteArray} :
  LP171_0 e0 (n + 1) (encS v) (encS o) (encS o) (nI o.length) (i : Int) s5 s6 s7 s8 = LP171_0 e0 n (encS v) (encS o) (encS o) (nI o.length) ((i + 1 : Nat) : Int) s5 s6 s7 s8 := by
 simp only [LP171_0, St171_0_0, lt_nI hi, cond_true, ge0, gd_true, Int.toNat_natCast, get_encS' hi, oOpt, oR_xQ, hz]
 rw [itoa_txt_ne (q := 0) ⟨by decide, by decide⟩]
 simp only [decide_true, Bool.not_true, cond_false]
 rw [wI_succ (by omega)]
theorem st171_one {v o : List Rat} {i : Nat} (hi : i < o.length) (hz : o.getD i 0 = 1) (hl : o.length < 1000) (hv : SV v) (hvl : v.length = o.length) {e0 : List PVal -> List PVal -> ByteArray -> ByteArray -> ByteArray -> ByteArray -> Bool} {n : Nat} {s5 s6 s7 s8 : ByteArray} :
  LP171_0 e0 (n + 1) (encS v) (encS o) (encS o) (nI o.length) (i : Int) s5 s6 s7 s8 = LP171_0 e0 n (encS v) (encS o) (encS o) (nI o.length) ((i + 1 : Nat) : Int) s5 s6 (itoaB (v.getD i 0).num) (itoaB (v.getD i 0).den) := by
 simp only [LP171_0, St171_0_0, lt_nI hi, cond_true, ge0, gd_true, Int.toNat_natCast, get_encS' hi, get_encS' (v := v) (show i < v.length by omega), oOpt, oR_xQ, hz]
 rw [itoa_txt_ne (q := 1) ⟨by decide, by decide⟩]
 simp only [decide_false, Bool.not_false, cond_true, show ¬ ((1 : Rat) = 0) by decide]
 show Q204 _ _ (itoaB 1) (itoaB 1) _ = _
 rw [l204_one (hv _ (getD_memR (by omega))), wI_succ (by omega)]
theorem st171_2 {v o : List Rat} {i : Nat} {r : Rat} (hi : i < o.length) (hl : o.length < 1000) (hv : SV v) (ho : SV o) (hr : SQ r) (hro : SQ (r * o.getD i 0)) (hvl : v.length = o.length) {e0 : Bool -> ByteArray -> ByteArray -> Bool} {e1 : ByteArray -> ByteArray -> ByteArray -> ByteArray -> Bool} {n : Nat} {s4 s5 : ByteArray} :
  LP171_2 e0 e1 (n + 1) (encS v) (encS o) (nI o.length) (i : Int) s4 s5 (itoaB r.num) (itoaB r.den) =
   bif decide (r * o.getD i 0 = v.getD i 0) then LP171_2 e0 e1 n (encS v) (encS o) (nI o.length) ((i + 1 : Nat) : Int) s4 s5 (itoaB r.num) (itoaB r.den) else e0 false (itoaB r.num) (itoaB r.den) := by
 simp only [LP171_2, St171_2_0, lt_nI hi, cond_true, ge0, gd_true, Int.toNat_natCast, get_encS' hi, get_encS' (v := v) (show i < v.length by omega), oOpt, oR_xQ]
 rw [l111 hr (ho _ (getD_memR hi))]
 rw [hro.eqs (hv _ (getD_memR (by omega))), wI_succ (by omega)]
 cases decide (r * o.getD i 0 = v.getD i 0) <;> rfl
theorem SQ_zero : SQ 0 := ⟨by decide, by decide⟩
theorem l171 (hps : PsOk ps) {v : List Rat} (hv : SV v) (hl : v.length = ps.length) (K : ByteArray -> ByteArray -> Bool -> Bool) :
  Q171 (encS v) (encZ 1 (octZ 1 ps)) K = K (itoaB (v.getD 0 0).num) (itoaB (v.getD 0 0).den) (decide (∀ q, q ∈ v.tail -> q = 0)) := by
 rw [Q171_def]; unfold G171
 rw [l45 (by omega)]
 have m1 : mkRat ((1 : Nat) : Int) 1 = 1 := rfl
 have m0 : mkRat 0 1 = 0 := by simp
 have s1 : SQ 1 := ⟨by decide, by decide⟩
 unfold L171_0_0 L171_2_0
 obtain ⟨k, hk⟩ := fuel_add 4
 have e0 : ∀ (o : List Rat), o.length < 1000 -> nI (encS o).length = nI o.length := fun o _ => by rw [encS_len]
 rcases hps with rfl | rfl
 ·obtain ⟨x, y, rfl⟩ : ∃ x y, v = [x, y] := by
   match v, hl with
   | [x, y], _ => exact ⟨x, y, rfl⟩
  have hx : SQ x := hv _ (by simp)
  have hy : SQ y := hv _ (by simp)
  have ho : SV [1, 0] := by
   intro q hq
   simp only [List.mem_cons, List.not_mem_nil, or_false] at hq
   rcases hq with rfl | rfl
   ·exact s1
   ·exact SQ_zero
  have eo : encZ 1 (octZ 1 [2, 3]) = encS [1, 0] := by
   show encS [mkRat ((1 : Nat) : Int) 1, mkRat 0 1] = _
   rw [m1, m0]
  rw [eo, e0 _ (by simp)]
  generalize hE : (fun y26v y27v y28v => (K y27v y28v y26v)) = E
  have a1 := fun e0 n s5 s6 s7 s8 => st171_one (v := [x, y]) (o := [1, 0]) (i := 0) (e0 := e0) (n := n) (s5 := s5) (s6 := s6) (s7 := s7) (s8 := s8) (by simp) rfl (by simp) hv (by simp)
  have a2 := fun e0 n s5 s6 s7 s8 => st171_zero (v := [x, y]) (o := [1, 0]) (i := 1) (e0 := e0) (n := n) (s5 := s5) (s6 := s6) (s7 := s7) (s8 := s8) (by simp) rfl (by simp)
  have a3 : ∀ (e0 : List PVal -> List PVal -> ByteArray -> ByteArray -> ByteArray -> ByteArray -> Bool) n s5 s6 s7 s8, LP171_0 e0 (n + 1) (encS [x, y]) (encS [1, 0]) (encS [1, 0]) (nI 2) ((2 : Nat) : Int) s5 s6 s7 s8 = e0 (encS [x, y]) (encS [1, 0]) s5 s6 s7 s8 := by
   intro e0 n s5 s6 s7 s8
   simp only [LP171_0, St171_0_0, lt_nI', cond_false]
  have b1 := fun e1 n s4 s5 => st171_2 (v := [x, y]) (o := [1, 0]) (i := 0) (r := x) (e0 := E) (e1 := e1) (n := n) (s4 := s4) (s5 := s5) (by simp) (by simp) hv ho hx (by show SQ (x * 1); rw [Rat.mul_one]; exact hx) (by simp)
  have b2 := fun e1 n s4 s5 => st171_2 (v := [x, y]) (o := [1, 0]) (i := 1) (r := x) (e0 := E) (e1 := e1) (n := n) (s4 := s4) (s5 := s5) (by simp) (by simp) hv ho hx (by show SQ (x * 0); rw [Rat.mul_zero]; exact SQ_zero) (by simp)
  have b3 : ∀ (e1 : ByteArray -> ByteArray -> ByteArray -> ByteArray -> Bool) n s4 s5 s6 s7, LP171_2 E e1 (n + 1) (encS [x, y]) (encS [1, 0]) (nI 2) ((2 : Nat) : Int) s4 s5 s6 s7 = e1 s4 s5 s6 s7 := by
   intro e1 n s4 s5 s6 s7
   simp only [LP171_2, St171_2_0, lt_nI', cond_false]
  rw [hk]
  refine (a1 _ _ _ _ _ _).trans ?_
  refine (a2 _ _ _ _ _ _).trans ?_
  refine (a3 _ _ _ _ _ _).trans ?_
  refine (b1 _ _ _ _).trans ?_
  rw [decide_eq_true (show x * [(1 : Rat), 0].getD 0 0 = [x, y].getD 0 0 by show x * 1 = x; exact Rat.mul_one x), cond_true]
  refine (b2 _ _ _ _).trans ?_
  have hyz : (x * [(1 : Rat), 0].getD 1 0 = [x, y].getD 1 0) ↔ y = 0 := by
   show x * 0 = y ↔ y = 0
   rw [Rat.mul_zero]; exact eq_comm
  have hall : (∀ q, q ∈ [x, y].tail -> q = 0) ↔ y = 0 := by simp
  rw [decide_eq_decide.2 hyz, decide_eq_decide.2 hall]
  by_cases h : y = 0
  ·rw [decide_eq_true h, cond_true]
   exact b3 _ _ _ _ _ _
  ·rw [decide_eq_false h, cond_false, <- hE]
   rfl
 ·obtain ⟨x, y, w, rfl⟩ : ∃ x y w, v = [x, y, w] := by
   match v, hl with
   | [x, y, w], _ => exact ⟨x, y, w, rfl⟩
  have hx : SQ x := hv _ (by simp)
  have ho : SV [1, 0, 0] := by
   intro q hq
   simp only [List.mem_cons, List.not_mem_nil, or_false] at hq
   rcases hq with rfl | rfl | rfl
   ·exact s1
   ·exact SQ_zero
   ·exact SQ_zero
  have eo : encZ 1 (octZ 1 [2, 3, 5]) = encS [1, 0, 0] := by
   show encS [mkRat ((1 : Nat) : Int) 1, mkRat 0 1, mkRat 0 1] = _
   rw [m1, m0]
  rw [eo, e0 _ (by simp)]
  generalize hE : (fun y26v y27v y28v => (K y27v y28v y26v)) = E
  have a1 := fun e0 n s5 s6 s7 s8 => st171_one (v := [x, y, w]) (o := [1, 0, 0]) (i := 0) (e0 := e0) (n := n) (s5 := s5) (s6 := s6) (s7 := s7) (s8 := s8) (by simp) rfl (by simp) hv (by simp)
  have a2 := fun e0 n s5 s6 s7 s8 => st171_zero (v := [x, y, w]) (o := [1, 0, 0]) (i := 1) (e0 := e0) (n := n) (s5 := s5) (s6 := s6) (s7 := s7) (s8 := s8) (by simp) rfl (by simp)
  have a2' := fun e0 n s5 s6 s7 s8 => st171_zero (v := [x, y, w]) (o := [1, 0, 0]) (i := 2) (e0 := e0) (n := n) (s5 := s5) (s6 := s6) (s7 := s7) (s8 := s8) (by simp) rfl (by simp)
  have a3 : ∀ (e0 : List PVal -> List PVal -> ByteArray -> ByteArray -> ByteArray -> ByteArray -> Bool) n s5 s6 s7 s8, LP171_0 e0 (n + 1) (encS [x, y, w]) (encS [1, 0, 0]) (encS [1, 0, 0]) (nI 3) ((3 : Nat) : Int) s5 s6 s7 s8 = e0 (encS [x, y, w]) (encS [1, 0, 0]) s5 s6 s7 s8 := by
   intro e0 n s5 s6 s7 s8
   simp only [LP171_0, St171_0_0, lt_nI', cond_false]
  have b1 := fun e1 n s4 s5 => st171_2 (v := [x, y, w]) (o := [1, 0, 0]) (i := 0) (r := x) (e0 := E) (e1 := e1) (n := n) (s4 := s4) (s5 := s5) (by simp) (by simp) hv ho hx (by show SQ (x * 1); rw [Rat.mul_one]; exact hx) (by simp)
  have b2 := fun e1 n s4 s5 => st171_2 (v := [x, y, w]) (o := [1, 0, 0]) (i := 1) (r := x) (e0 := E) (e1 := e1) (n := n) (s4 := s4) (s5 := s5) (by simp) (by simp) hv ho hx (by show SQ (x * 0); rw [Rat.mul_zero]; exact SQ_zero) (by simp)
  have b2' := fun e1 n s4 s5 => st171_2 (v := [x, y, w]) (o := [1, 0, 0]) (i := 2) (r := x) (e0 := E) (e1 := e1) (n := n) (s4 := s4) (s5 := s5) (by simp) (by simp) hv ho hx (by show SQ (x * 0); rw [Rat.mul_zero]; exact SQ_zero) (by simp)
  have b3 : ∀ (e1 : ByteArray -> ByteArray -> ByteArray -> ByteArray -> Bool) n s4 s5 s6 s7, LP171_2 E e1 (n + 1) (encS [x, y, w]) (encS [1, 0, 0]) (nI 3) ((3 : Nat) : Int) s4 s5 s6 s7 = e1 s4 s5 s6 s7 := by
   intro e1 n s4 s5 s6 s7
   simp only [LP171_2, St171_2_0, lt_nI', cond_false]
  rw [hk]
  refine (a1 _ _ _ _ _ _).trans ?_
  refine (a2 _ _ _ _ _ _).trans ?_
  refine (a2' _ _ _ _ _ _).trans ?_
  refine (a3 _ _ _ _ _ _).trans ?_
  refine (b1 _ _ _ _).trans ?_
  rw [decide_eq_true (show x * [(1 : Rat), 0, 0].getD 0 0 = [x, y, w].getD 0 0 by show x * 1 = x; exact Rat.mul_one x), cond_true]
  refine (b2 _ _ _ _).trans ?_
  have hyz : (x * [(1 : Rat), 0, 0].getD 1 0 = [x, y, w].getD 1 0) ↔ y = 0 := by
   show x * 0 = y ↔ y = 0
   rw [Rat.mul_zero]; exact eq_comm
  have hwz : (x * [(1 : Rat), 0, 0].getD 2 0 = [x, y, w].getD 2 0) ↔ w = 0 := by
   show x * 0 = w ↔ w = 0
   rw [Rat.mul_zero]; exact eq_comm
  have hall : (∀ q, q ∈ [x, y, w].tail -> q = 0) ↔ (y = 0 /\ w = 0) := by simp
  rw [decide_eq_decide.2 hyz, decide_eq_decide.2 hall]
  by_cases h : y = 0
  ·rw [decide_eq_true h, cond_true]
   refine (b2' _ _ _ _).trans ?_
   rw [decide_eq_decide.2 hwz]
   by_cases h2 : w = 0
   ·rw [decide_eq_true h2, cond_true, decide_eq_true ⟨h, h2⟩]
    exact b3 _ _ _ _ _ _
   ·rw [decide_eq_false h2, cond_false, decide_eq_false (fun e => h2 e.2), <- hE]
    rfl
  ·rw [decide_eq_false h, cond_false, decide_eq_false (fun e => h e.1), <- hE]
   rfl
theorem l206 {a b : Int} (hb : 0 < b) (ha : -4000000000000000000 < a /\ a < 4000000000000000000) (hb2 : b < 4000000000000000000) (K : Int -> Bool) : Q206 a b K = K (a / b) := by
 have e0 : (b == 0) = false := beq_eq_false_iff_ne.2 (by omega)
 rw [Q206_def]; unfold G206
 rw [e0, cond_false, cond_false]
 by_cases h : a < 0
 ·have h1 : 0 <= (-a + b - 1) := by omega
  have h2 : a / b = -(Int.tdiv (-a + b - 1) b) := by
   rw [Int.tdiv_eq_ediv_of_nonneg h1]
   have h3 := Int.mul_ediv_add_emod (-a + b - 1) b
   have h4 := Int.emod_nonneg (-a + b - 1) (show b ≠ 0 by omega)
   have h5 := Int.emod_lt_of_pos (-a + b - 1) hb
   generalize (-a + b - 1) / b = q at *
   generalize (-a + b - 1) % b = r at *
   refine (Int.ediv_emod_unique (r := b - 1 - r) (by omega)).2 ⟨?_, by omega, by omega⟩ |>.1
   rw [Int.mul_neg]; omega
  have h6 : (Int.tdiv (-a + b - 1) b).natAbs <= (-a + b - 1).natAbs := Int.natAbs_tdiv_le_natAbs _ _
  rw [decide_eq_true h, cond_true, wI_eq (n := 0 - a) (by omega), wI_eq (n := 0 - a + b) (by omega), wI_eq (n := 0 - a + b - 1) (by omega), show 0 - a + b - 1 = -a + b - 1 by omega, wI_eq (n := Int.tdiv _ _) (by omega), wI_eq (by omega), h2]
  congr 1; omega
 ·have h6 : (Int.tdiv a b).natAbs <= a.natAbs := Int.natAbs_tdiv_le_natAbs _ _
  rw [decide_eq_false h, cond_false, wI_eq (by omega), Int.tdiv_eq_ediv_of_nonneg (by omega)]
theorem H233_num {n : Int} (h1 : -1000000000000000000 < n) (h2 : n < 1000000000000000000) (K : Int -> Bool) : H233 (itoaB n) 10 64 K = K n := by
 rw [H233_def]; unfold D233
 simp only [decide_true, Bool.and_self, cond_true]
 have := H149_num h1 h2 K
 rw [H149_def] at this
 exact this
theorem tms_small {B : Nat} (hps : PsOk ps) (hD : 0 < D /\ D < 3000) {z : List Int} (hB : B <= 30000) (hz : ZS B z) : ∀ x, x ∈ tms ps (zR D z) (lcmD (zR D z)) -> (x.1 = 2 ∨ x.1 = 3 ∨ x.1 = 5) /\ x.2.natAbs < B := by
 obtain ⟨p1, p2, p3⟩ := lcmD_ok hD.1 (zR_den hD.1 (z := z))
 have hle := Nat.le_of_dvd hD.1 p2
 intro x hx
 unfold tms at hx
 obtain ⟨y, hy, rfl⟩ := List.mem_map.1 hx
 have hy2 := List.of_mem_zip (List.mem_filter.1 hy).1
 refine ⟨hps.mem _ hy2.1, ?_⟩
 obtain ⟨w, hw, hwe⟩ := List.mem_map.1 hy2.2
 have hf := fac_scale (L := lcmD (zR D z)) hD.1 p1 w (by rw [hwe]; exact p3 _ hy2.2)
 rw [hwe] at hf
 have hwb := hz w hw
 have h1 : (y.2.num * ((lcmD (zR D z) / y.2.den : Nat) : Int)).natAbs * D = w.natAbs * lcmD (zR D z) := by
  have := congrArg Int.natAbs hf
  rw [Int.natAbs_mul (y.2.num * _) (D : Int), Int.natAbs_mul w, Int.natAbs_natCast, Int.natAbs_natCast] at this
  exact this
 have h2 : w.natAbs * lcmD (zR D z) <= w.natAbs * D := Nat.mul_le_mul_left _ hle
 have h3 := Nat.le_of_mul_le_mul_right (h1 ▸ h2) hD.1
 show (y.2.num * _).natAbs < B
 omega
end
end Go.Ev

namespace Go.Ev
open Go Go.RowKit
theorem nearZ2 (a b : Int) : nearZ [2, 3] [a, b] = (a * 67108864 + min (b * 106365032) (b * 106365033), a * 67108864 + max (b * 106365032) (b * 106365033)) := by
 unfold nearZ
 rw [List.zip_cons_cons, nearL_cons, List.zip_cons_cons, nearL_cons]
 have e1 : near1 (2, a) = (a * 67108864, a * 67108864) := rfl
 have e2 : near1 (3, b) = (min (b * 106365032) (b * 106365033), max (b * 106365032) (b * 106365033)) := rfl
 rw [e1, e2]
 simp [nearL]
theorem nearZ3 (a b c : Int) : nearZ [2, 3, 5] [a, b, c] = (a * 67108864 + (min (b * 106365032) (b * 106365033) + min (c * 155821956) (c * 155821957)), a * 67108864 + (max (b * 106365032) (b * 106365033) + max (c * 155821956) (c * 155821957))) := by
 unfold nearZ
 rw [List.zip_cons_cons, nearL_cons, List.zip_cons_cons, nearL_cons, List.zip_cons_cons, nearL_cons]
 have e1 : near1 (2, a) = (a * 67108864, a * 67108864) := rfl
 have e2 : near1 (3, b) = (min (b * 106365032) (b * 106365033), max (b * 106365032) (b * 106365033)) := rfl
 have e3 : near1 (5, c) = (min (c * 155821956) (c * 155821957), max (c * 155821956) (c * 155821957)) := rfl
 rw [e1, e2, e3]
 simp [nearL]
section
variable {ps : List Int} {D : Nat}
def floorZ (D : Nat) (ps z : List Int) : Int := (nearZ ps z).1 / (67108864 * (D : Int))
def flOk (D : Nat) (ps z : List Int) : Prop := floorZ D ps z = (nearZ ps z).2 / (67108864 * (D : Int))
theorem tail_zero (hps : PsOk ps) {z : List Int} (hl : z.length = ps.length) (h : ∀ x, x ∈ z.tail -> x = 0) : (nearZ ps z).1 = z.getD 0 0 * 67108864 /\ (nearZ ps z).2 = z.getD 0 0 * 67108864 := by
 rcases hps with rfl | rfl
 ·obtain ⟨x, y, rfl⟩ : ∃ x y, z = [x, y] := by
   match z, hl with
   | [x, y], _ => exact ⟨x, y, rfl⟩
  have : y = 0 := h y (by simp)
  subst this
  rw [nearZ2]; simp
 ·obtain ⟨x, y, w, rfl⟩ : ∃ x y w, z = [x, y, w] := by
   match z, hl with
   | [x, y, w], _ => exact ⟨x, y, w, rfl⟩
  have h1 : y = 0 := h y (by simp)
  have h2 : w = 0 := h w (by simp)
  subst h1; subst h2
  rw [nearZ3]; simp
theorem near_bound (hps : PsOk ps) {z : List Int} {B : Nat} (hl : z.length = ps.length) (hB : B <= 30000) (h : ZS B z) : (-(B * 467465871 : Int) <= (nearZ ps z).1 /\ (nearZ ps z).1 <= B * 467465871) /\ (-(B * 467465871 : Int) <= (nearZ ps z).2 /\ (nearZ ps z).2 <= B * 467465871) := by
 rcases hps with rfl | rfl
 ·obtain ⟨x, y, rfl⟩ : ∃ x y, z = [x, y] := by
   match z, hl with
   | [x, y], _ => exact ⟨x, y, rfl⟩
  have h1 := h x (by simp)
  have h2 := h y (by simp)
  rw [nearZ2]
  dsimp only
  omega
 ·obtain ⟨x, y, w, rfl⟩ : ∃ x y w, z = [x, y, w] := by
   match z, hl with
   | [x, y, w], _ => exact ⟨x, y, w, rfl⟩
  have h1 := h x (by simp)
  have h2 := h y (by simp)
  have h3 := h w (by simp)
  rw [nearZ3]
  dsimp only
  omega
theorem div_same {a b M L D : Int} (hL : 0 < L) (hD : 0 < D) (h : a * D = b * L) : a / (M * L) = b / (M * D) := by
 rw [<- Int.mul_ediv_mul_of_pos_left a (M * L) hD, <- Int.mul_ediv_mul_of_pos_left b (M * D) hL, h]
 congr 1
 rw [Int.mul_assoc, Int.mul_comm L D, <- Int.mul_assoc]
theorem bif_const {α : Type} (b : Bool) (x : α) : (bif b then x else x) = x := by cases b <;> rfl
theorem l173 {l : List (Int × Int)} {L : Nat} (hL : 0 < L /\ L <= 10000) (h : ∀ x, x ∈ l -> (x.1 = 2 ∨ x.1 = 3 ∨ x.1 = 5) /\ x.2.natAbs < 100000) (hl : l.length <= 6)
  (hb : (-100000000000000000 < (nearL l).1 /\ (nearL l).1 < 100000000000000000) /\ (-100000000000000000 < (nearL l).2 /\ (nearL l).2 < 100000000000000000)) (K : Int -> Bool -> Bool) :
  Q173 (encP l) (encF l) (itoaB L) [xI 2] [xZ (itoaB 1)] (itoaB 1) K = K ((nearL l).1 / (67108864 * (L : Int))) ((nearL l).1 / (67108864 * (L : Int)) == (nearL l).2 / (67108864 * (L : Int))) := by
 have q205 : ∀ (n : Int), -1000000000000000000 < n -> n < 1000000000000000000 -> ∀ X : Int -> Bool -> Bool, Q205 (itoaB n) X = X n true := by
  intro n h1 h2 X
  rw [Q205_def]; unfold G205; rw [H233_num h1 h2]
 rw [Q173_def]; unfold G173
 rw [H191_ok (by omega) (fun x hx => ⟨(h x hx).1, by have := (h x hx).2; omega, by have := (h x hx).2; omega⟩) hl]
 have e2 := H191_ok (l := [(2, 1)]) (most := 100000) (by omega) (fun x hx => by simp at hx; subst hx; simp) (by simp) (itoaB 1)
 have n2 : nearL [(2, 1)] = (67108864, 67108864) := by decide
 rw [n2] at e2
 refine (e2 _).trans ?_
 rw [q205 _ (by omega) (by omega), q205 _ (by omega) (by omega)]
 generalize hp : nearL l = p at hb
 obtain ⟨x, y⟩ := p
 dsimp only at hb ⊢
 have d1 : decide ((L : Int) > 10000) = false := decide_eq_false (by omega)
 have d2 : decide ((1 : Int) > 10000) = false := by decide
 have d3 : decide ((67108864 : Int) <= 0) = false := by decide
 simp only [cond_true, d1, d2, d3, cond_false, Int.mul_one]
 rw [wI_eq (n := x) (by omega), wI_eq (n := y) (by omega), wI_eq (n := 67108864 * (L : Int)) (by omega)]
 simp only [bif_const]
 rw [l206 (by omega) (by omega) (by omega), l206 (by omega) (by omega) (by omega)]
theorem l129 (hps : PsOk ps) (hD : 0 < D /\ D < 3000) {z : List Int} (hl : z.length = ps.length) (hz : ZS 2000 z) (hf : flOk D ps z) (K : ByteArray -> Bool) :
  Q129 (encPs ps) (encZ D z) (encZ D (octZ D ps)) K = K (itoaB (floorZ D ps z)) := by
 have hlen := hps.len
 have hSV : SV (zR D z) := zR_SV (by omega) (hz.mono (by omega))
 rw [octE hps hD.1]
 rw [Q129_def]; unfold G129
 rw [l171 hps hSV (by rw [zR_len, hl])]
 obtain ⟨a, t, rfl⟩ : ∃ a t, z = a :: t := by
  match z, hl with
  | [], hl => simp at hl; omega
  | a :: t, _ => exact ⟨a, t, rfl⟩
 have hiff : (∀ q, q ∈ (zR D (a :: t)).tail -> q = 0) ↔ (∀ x, x ∈ t -> x = 0) := by
  show (∀ q, q ∈ zR D t -> q = 0) ↔ _
  constructor
  ·intro h x hx
   have := h (mkRat x D) (List.mem_map.2 ⟨x, hx, rfl⟩)
   exact (mkRat_num_zero hD.1 x).1 (by rw [this]; rfl)
  ·intro h q hq
   obtain ⟨x, hx, rfl⟩ := List.mem_map.1 hq
   rw [h x hx]; simp
 rw [decide_eq_decide.2 hiff]
 by_cases ht : ∀ x, x ∈ t -> x = 0
 ·rw [decide_eq_true ht]
  show Q172 (itoaB (mkRat a D).num) (itoaB (mkRat a D).den) _ = _
  have h1 := num_small (n := a) hD.1
  have h2 := den_small (n := a) hD.1
  have h3 := hz a (by simp)
  have h4 := (mkRat a D).den_pos
  rw [Q172_def]; unfold G172
  rw [l159 (by omega) (by omega)]
  have e := (tail_zero hps hl ht).1
  have : (mkRat a D).num / ((mkRat a D).den : Int) = floorZ D ps (a :: t) := by
   unfold floorZ
   rw [e]
   show _ = a * 67108864 / _
   have hc := Rat.mkRat_self (mkRat a D)
   have hx := (Rat.mkRat_eq_iff (by omega) (by omega)).1 hc
   have := div_same (M := 1) (L := ((mkRat a D).den : Int)) (D := (D : Int)) (by omega) (by omega) hx
   rw [Int.one_mul, Int.one_mul] at this
   rw [this, Int.mul_comm a 67108864, Int.mul_ediv_mul_of_pos _ _ (by omega)]
  rw [this]
 ·rw [decide_eq_false ht]
  obtain ⟨p1, p2, p3⟩ := lcmD_ok hD.1 (zR_den hD.1 (z := a :: t))
  have hle := Nat.le_of_dvd hD.1 p2
  show Q113 (encPs ps) (encS (zR D (a :: t))) _ = _
  rw [l113 hD hSV (zR_den hD.1) (by rw [zR_len, hl]) (by rw [zR_len]; omega)]
  have hp113 : ∀ X, Q113 (encPs ps) (encZ 1 (octZ 1 ps)) X = X [xI 2] [xZ (itoaB 1)] (itoaB 1) := by
   intro X
   have h1 : ZS 2 (octZ 1 ps) := by
    intro x hx
    rcases hps with rfl | rfl <;> simp [octZ] at hx <;> omega
   rw [l113 (D := 1) (by omega) (zR_SV (by omega) (h1.mono (by omega))) (zR_den (by omega)) (by rw [zR_len, oct_len hps]) (by rw [zR_len, oct_len hps]; omega)]
   have m1 : mkRat ((1 : Nat) : Int) 1 = 1 := rfl
   have m0 : mkRat 0 1 = 0 := by simp
   rcases hps with rfl | rfl
   ·have e : zR 1 (octZ 1 [2, 3]) = [1, 0] := by show [mkRat ((1 : Nat) : Int) 1, mkRat 0 1] = _; rw [m1, m0]
    rw [e]
    rfl
   ·have e : zR 1 (octZ 1 [2, 3, 5]) = [1, 0, 0] := by show [mkRat ((1 : Nat) : Int) 1, mkRat 0 1, mkRat 0 1] = _; rw [m1, m0]
    rw [e]
    rfl
  show Q113 (encPs ps) (encZ 1 (octZ 1 ps)) _ = _
  rw [hp113]
  have hts := tms_small hps hD (B := 2000) (by omega) hz
  obtain ⟨s1, s2⟩ := tms_scale hD.1 p1 ps (a :: t) p3 hl.symm
  have nb := near_bound hps hl (by omega) hz
  have hLD : 0 < (lcmD (zR D (a :: t)) : Int) /\ (lcmD (zR D (a :: t)) : Int) <= D := by omega
  generalize hG : nearL (tms ps (zR D (a :: t)) (lcmD (zR D (a :: t)))) = G at s1 s2
  generalize hN : nearZ ps (a :: t) = N at s1 s2 nb
  have bnd : ∀ g w : Int, g * (D : Int) = w * (lcmD (zR D (a :: t)) : Int) -> (-(2000 * 467465871 : Int) <= w /\ w <= 2000 * 467465871) -> -100000000000000000 < g /\ g < 100000000000000000 := by
   intro g w he hw
   have h1 : g.natAbs * D = w.natAbs * lcmD (zR D (a :: t)) := by
    have := congrArg Int.natAbs he
    rwa [Int.natAbs_mul, Int.natAbs_mul, Int.natAbs_natCast, Int.natAbs_natCast] at this
   have h2 : w.natAbs * lcmD (zR D (a :: t)) <= w.natAbs * D := Nat.mul_le_mul_left _ hle
   have h3 := Nat.le_of_mul_le_mul_right (h1 ▸ h2) hD.1
   omega
  have hb1 := bnd _ _ s1 (by omega)
  have hb2 := bnd _ _ s2 (by omega)
  rw [l173 (by omega) (fun x hx => ⟨(hts x hx).1, by have := (hts x hx).2; omega⟩) (Nat.le_trans (tms_len _ _ _) (by rw [zR_len]; omega)) (by rw [hG]; exact ⟨hb1, hb2⟩), hG]
  have f1 := div_same (M := 67108864) hLD.1 (show (0 : Int) < D by omega) s1
  have f2 := div_same (M := 67108864) hLD.1 (show (0 : Int) < D by omega) s2
  rw [f1, f2]
  have hf' : N.1 / (67108864 * (D : Int)) = N.2 / (67108864 * (D : Int)) := by
   have := hf; unfold flOk floorZ at this; rw [hN] at this; exact this
  rw [<- hf', beq_self_eq_true]
  have hfl : N.1 / (67108864 * (D : Int)) = floorZ D ps (a :: t) := by unfold floorZ; rw [hN]
  have hq : (floorZ D ps (a :: t)).natAbs <= N.1.natAbs := by rw [<- hfl]; exact Int.natAbs_ediv_le_natAbs _ _
  rw [hfl]
  show Q82 _ _ = _
  rw [l82 (by omega)]
theorem l96 (hps : PsOk ps) (hD : 0 < D /\ D < 3000) {z : List Int} (hl : z.length = ps.length) (hz : ZS 2000 z) (hf : flOk D ps z) (K : ByteArray -> Int -> Bool) :
  Q96 (encPs ps) (encZ D z) (encZ D (octZ D ps)) K = K (itoaB (floorZ D ps z)) 0 := by
 have hlen := hps.len
 have hSV : SV (zR D z) := zR_SV (by omega) (hz.mono (by omega))
 have hoS : ZS 3000 (octZ D ps) := by
  intro x hx
  rcases hps with rfl | rfl <;> simp [octZ] at hx <;> omega
 have hoSV : SV (zR D (octZ D ps)) := zR_SV (by omega) (hoS.mono (by omega))
 rw [Q96_def]; unfold G96
 rw [Q128_def]; unfold G128
 have e1 : ([xV (encZ D z), xV (encZ D (octZ D ps))] : List PVal) = encL [zR D z, zR D (octZ D ps)] := rfl
 rw [e1, l76 hps.pr (by
  intro v hv
  simp only [List.mem_cons, List.not_mem_nil, or_false] at hv
  rcases hv with rfl | rfl
  ·exact ⟨hSV, by simp [hl]⟩
  ·exact ⟨hoSV, by rw [zR_len, oct_len hps, encPs_len]⟩) (by simp)]
 simp only [bne_self_eq_false, cond_false]
 rw [l113 hD hoSV (zR_den hD.1) (by rw [zR_len, oct_len hps]) (by rw [zR_len, oct_len hps]; omega)]
 have hne : tms ps (zR D (octZ D ps)) (lcmD (zR D (octZ D ps))) ≠ [] := by
  intro h
  have := (tms_nil (L := lcmD (zR D (octZ D ps))) hD.1 ps (octZ D ps) (by rw [oct_len hps])).1 h
  simp [octZ] at this
  omega
 have hpos := List.length_pos_iff.2 hne
 have e2 : ((nI (encP (tms ps (zR D (octZ D ps)) (lcmD (zR D (octZ D ps))))).length) == 0) = false := beq_eq_false_iff_ne.2 (by simp [nI]; exact hne)
 rw [e2]
 show Q129 _ _ _ _ = _
 rw [l129 hps hD hl hz hf]
def redZ (D : Nat) (ps z : List Int) : List Int := zsub z (zscale (octZ D ps) (floorZ D ps z))
theorem s_e_ne (n : Int) : ((itoaB n).toList == s_e.toList) = false := by
 have h := itoaB_ne n
 rw [itoaB_toList, beq_eq_false_iff_ne]
 intro e
 have : s_e.toList = [] := by unfold s_e; rw [ByteArray.toList_eq]
 rw [this] at e
 rw [itoaB_len, e] at h
 simp at h
theorem floor_bound (hps : PsOk ps) (hD : 0 < D /\ D < 3000) {z : List Int} (hl : z.length = ps.length) (hz : ZS 1500 z) : (floorZ D ps z * (D : Int)).natAbs < 15000 := by
 have nb := near_bound hps hl (by omega) hz
 unfold floorZ
 have h1 := Int.mul_ediv_self_le (x := (nearZ ps z).1) (k := 67108864 * (D : Int)) (by omega)
 have h2 := Int.lt_mul_ediv_self_add (x := (nearZ ps z).1) (k := 67108864 * (D : Int)) (by omega)
 generalize (nearZ ps z).1 / (67108864 * (D : Int)) = q at *
 have e : 67108864 * (D : Int) * q = 67108864 * (q * (D : Int)) := by rw [Int.mul_assoc, Int.mul_comm (D : Int) q]
 rw [e] at h1 h2
 generalize q * (D : Int) = t at *
 omega
theorem oct_ZS (hps : PsOk ps) {q : Int} {B : Nat} (h : ((D : Int) * q).natAbs < B) : ZS B (zscale (octZ D ps) q) := by
 intro x hx
 rcases hps with rfl | rfl <;> simp [octZ, zscale] at hx <;> rcases hx with rfl | rfl <;> first | assumption | omega
theorem l67 (hps : PsOk ps) (hD : 0 < D /\ D < 3000) {z : List Int} (hl : z.length = ps.length) (hz : ZS 1500 z) (hf : flOk D ps z) (K : List PVal -> ByteArray -> Bool) :
  Q67 (encPs ps) (encZ D (octZ D ps)) (encZ D z) K = K (encZ D (redZ D ps z)) (itoaB (floorZ D ps z)) := by
 have hfb := floor_bound hps hD hl hz
 have hq : -15000 < floorZ D ps z /\ floorZ D ps z < 15000 := by
  rw [Int.natAbs_mul, Int.natAbs_natCast] at hfb
  have := Nat.le_mul_of_pos_right (floorZ D ps z).natAbs hD.1
  omega
 have hoS : ZS 3000 (octZ D ps) := by
  intro x hx
  rcases hps with rfl | rfl <;> simp [octZ] at hx <;> omega
 rw [Q67_def]; unfold G67
 rw [l96 hps hD hl (hz.mono (by omega)) hf, s_e_ne]
 show Q38 _ _ _ _ = _
 rw [s31_eq]
 have hsc := oct_ZS (D := D) hps (q := floorZ D ps z) (B := 15000) (by rw [Int.mul_comm]; exact hfb)
 have hlen := hps.len
 have := l38 (v := zR D (octZ D ps)) (q := ((floorZ D ps z : Int) : Rat)) (SRV.of (by omega) (hoS.mono (by omega))) ⟨by simp; omega, by simp⟩ (by rw [zR_len, oct_len hps]; omega) (by rw [zR_len, oct_len hps]; omega) (fun z5v => (Q68 (encZ D z) z5v (fun z6v => (K z6v (itoaB (floorZ D ps z))))))
 rw [zR_scale] at this
 refine this.trans ?_
 rw [l68z hps hD hl (by rw [zscale_len, oct_len hps]) (hz.mono (by omega)) hsc]
 rfl
end
end Go.Ev

namespace Go.Ev
open Go Go.RowKit
section
variable {ps : List Int} {D : Nat}
theorem l46_69 (hps : PsOk ps) (hD : 0 < D /\ D < 3000) {l : List (List Int)} {a : List Int} (la : a.length = ps.length) (ha : ZS 30000 a) (hl : ∀ b, b ∈ l -> b.length = ps.length /\ ZS 30000 b) (hlen : l.length < 1000) (K : Bool -> Bool) :
  Q46_69 (encZs D l) (encZ D a) K = K (decide (a ∈ l)) := by
 rw [Q46_69_def]; unfold G46_69
 rw [Q83_69_def]; unfold G83_69 L83_69_0_0
 rw [encZs_len]
 have key := any_loop (F := fun n i => LP83_69_0 (fun y4v => K (decide (y4v >= 0))) (K (decide ((-1 : Int) >= 0))) n (encZs D l) (encZ D a) (nI l.length) (i : Int)) (m := l.length) (p := fun i => decide (a = l.getD i []))
   (R := fun i => K (decide ((i : Int) >= 0))) (T := K true) (R' := K false) (fun i hi hp n => ?_) (fun i hi => ?_) (fun i hi hp n => ?_) (fun n => ?_) fuel (fuel_gt (by omega))
 ·refine key.trans ?_
  rw [range_any l (fun b => decide (a = b))]
  have : (l.any fun b => decide (a = b)) = decide (a ∈ l) := by
   rw [Bool.eq_iff_iff]; simp
  rw [this]
  cases decide (a ∈ l) <;> rfl
 ·have hb := hl _ (getD_mem hi)
  simp only [LP83_69_0, St83_69_0_0, lt_nI hi, cond_true, ge0, gd_true, Int.toNat_natCast, get_encZs hi, oOpt, oSl]
  rw [Q69_def]; unfold G69
  rw [l24z hps hD la hb.1 ha hb.2, hp]
  rfl
 ·rw [decide_eq_true (show (i : Int) >= 0 by omega)]
 ·have hb := hl _ (getD_mem hi)
  simp only [LP83_69_0, St83_69_0_0, lt_nI hi, cond_true, ge0, gd_true, Int.toNat_natCast, get_encZs hi, oOpt, oSl]
  rw [Q69_def]; unfold G69
  rw [l24z hps hD la hb.1 ha hb.2, hp]
  dsimp only
  rw [cond_false, wI_succ (by omega)]
 ·simp only [LP83_69_0, St83_69_0_0, lt_nI', cond_false]; rfl
def collS (D : Nat) (ps : List Int) (acc : List (List Int)) (z : List Int) : List (List Int) :=
 if redZ D ps z = zsub (redZ D ps z) (redZ D ps z) then acc else if redZ D ps z ∈ acc then acc else acc ++ [redZ D ps z]
def coll (D : Nat) (ps : List Int) (xs : List (List Int)) : List (List Int) := xs.foldl (collS D ps) [octZ D ps]
theorem collS_len (acc : List (List Int)) (z : List Int) : (collS D ps acc z).length <= acc.length + 1 := by
 unfold collS
 split
 ·omega
 ·split
  ·omega
  ·simp
theorem foldC_len : ∀ (xs acc : List (List Int)), (xs.foldl (collS D ps) acc).length <= acc.length + xs.length
 | [], acc => by simp
 | z :: xs, acc => by
  have h1 := foldC_len xs (collS D ps acc z)
  have h2 := collS_len (D := D) (ps := ps) acc z
  rw [List.foldl_cons, List.length_cons]
  omega
theorem foldC_mem : ∀ (xs acc : List (List Int)) (a : List Int), a ∈ xs.foldl (collS D ps) acc -> a ∈ acc ∨ ∃ z, z ∈ xs /\ a = redZ D ps z /\ a ≠ zsub a a
 | [], acc, a, h => .inl h
 | z :: xs, acc, a, h => by
  rw [List.foldl_cons] at h
  rcases foldC_mem xs _ a h with h | ⟨w, hw, h⟩
  ·unfold collS at h
   split at h
   ·exact .inl h
   ·next hz =>
    split at h
    ·exact .inl h
    ·rcases List.mem_append.1 h with h | h
     ·exact .inl h
     ·have : a = redZ D ps z := by simpa using h
      exact .inr ⟨z, by simp, this, by rw [this]; exact hz⟩
  ·exact .inr ⟨w, by simp [hw], h⟩
theorem foldC_nodup : ∀ (xs acc : List (List Int)), acc.Nodup -> (xs.foldl (collS D ps) acc).Nodup
 | [], acc, h => h
 | z :: xs, acc, h => by
  rw [List.foldl_cons]
  refine foldC_nodup xs _ ?_
  unfold collS
  split
  ·exact h
  ·split
   ·exact h
   ·next hz =>
    rw [List.nodup_append]
    exact ⟨h, by simp, fun a ha b hb => by
     have hb := List.mem_singleton.1 hb
     subst hb; exact fun e => hz (e ▸ ha)⟩
theorem coll_oct (xs : List (List Int)) : octZ D ps ∈ coll D ps xs := by
 have : ∀ (xs acc : List (List Int)), octZ D ps ∈ acc -> octZ D ps ∈ xs.foldl (collS D ps) acc := by
  intro xs
  induction xs with
  | nil => intro acc h; exact h
  | cons z xs ih =>
   intro acc h
   rw [List.foldl_cons]
   refine ih _ ?_
   unfold collS
   split
   ·exact h
   ·split
    ·exact h
    ·exact List.mem_append.2 (.inl h)
 exact this xs _ (by simp)
def notesZ (D : Nat) (ps : List Int) (xs : List (List Int)) : List (List Int) := gsort (fun a b => cmpZ ps (zsub a b)) (coll D ps xs)
theorem l35 (hps : PsOk ps) (hD : 0 < D /\ D < 3000) {xs : List (List Int)} (hlen : xs.length <= 9) (hx : ∀ z, z ∈ xs -> z.length = ps.length /\ ZS 1500 z /\ flOk D ps z /\ ZS 10000 (redZ D ps z))
  (hdec : ∀ a, a ∈ coll D ps xs -> ∀ b, b ∈ coll D ps xs -> decZ ps (zsub a b)) (K : List PVal -> List PVal -> Bool) :
  Q35 (encPs ps) (encZ D (octZ D ps)) (encZs D xs) K = K (encPs ps) (encZs D (notesZ D ps xs)) := by
 have hpl := hps.len
 have red_len : ∀ z, z ∈ xs -> (redZ D ps z).length = ps.length := by
  intro z hz
  have := (hx z hz).1
  unfold redZ
  rw [zsub_len (by rw [zscale_len, oct_len hps, this]), this]
 have hoS : ZS 3000 (octZ D ps) := by
  intro x hx
  rcases hps with rfl | rfl <;> simp [octZ] at hx <;> omega
 have cok : ∀ n, ∀ b, b ∈ (xs.take n).foldl (collS D ps) [octZ D ps] -> b.length = ps.length /\ ZS 10000 b := by
  intro n b hb
  rcases foldC_mem _ _ b hb with hb | ⟨z, hz, rfl, _⟩
  ·have : b = octZ D ps := by simpa using hb
   subst this
   exact ⟨oct_len hps, hoS.mono (by omega)⟩
  ·have hz := List.mem_of_mem_take hz
   exact ⟨red_len z hz, (hx z hz).2.2.2⟩
 have clen : ∀ n, ((xs.take n).foldl (collS D ps) [octZ D ps]).length <= 10 := by
  intro n
  have h1 := foldC_len (D := D) (ps := ps) (xs.take n) [octZ D ps]
  have h2 := List.length_take_le n xs
  simp at h1
  have : min n xs.length <= xs.length := Nat.min_le_right _ _
  omega
 rw [Q35_def]; unfold G35 L35_0_0
 rw [encZs_len]
 have key := loop_iter (fun n (s : Nat × List (List Int)) => LP35_0 (fun y8v y9v => (Q70_71 y9v y8v (fun z10v => (K y8v z10v)))) n (encZ D (octZ D ps)) (encZs D xs) (nI xs.length) (s.1 : Int) (encPs ps) (encZs D s.2)) xs.length
  (fun i => (i, (xs.take i).foldl (collS D ps) [octZ D ps])) (R := K (encPs ps) (encZs D (notesZ D ps xs)))
  (fun i hi n => ?_) (fun n => ?_) fuel (fuel_gt (by omega))
 ·exact key
 ·dsimp only
  have hz : xs.getD i [] ∈ xs := getD_mem hi
  obtain ⟨h1, h2, h3, h4⟩ := hx _ hz
  have hrl := red_len _ hz
  have hacc := clen i
  have hok := cok i
  have etake : (xs.take (i + 1)).foldl (collS D ps) [octZ D ps] = collS D ps ((xs.take i).foldl (collS D ps) [octZ D ps]) (xs.getD i []) := by
   rw [List.take_add_one, List.foldl_append, List.getD_eq_getElem?_getD, List.getElem?_eq_getElem hi]
   rfl
  rw [etake]
  generalize (xs.take i).foldl (collS D ps) [octZ D ps] = acc at hacc hok
  simp only [LP35_0, St35_0_0, lt_nI hi, cond_true, ge0, gd_true, Int.toNat_natCast, get_encZs hi, oOpt, oSl]
  rw [l67 hps hD h1 h2 h3, l68z hps hD hrl hrl (h4.mono (by omega)) (h4.mono (by omega))]
  have hss : ZS 20000 (zsub (redZ D ps (xs.getD i [])) (redZ D ps (xs.getD i []))) := h4.sub h4
  rw [l24z hps hD hrl (by rw [zsub_len rfl, hrl]) (h4.mono (by omega)) (hss.mono (by omega))]
  unfold collS
  by_cases e1 : redZ D ps (xs.getD i []) = zsub (redZ D ps (xs.getD i [])) (redZ D ps (xs.getD i []))
  ·rw [decide_eq_true e1, if_pos e1]
   rw [Bool.not_true, cond_false, wI_succ (by omega)]
  ·rw [decide_eq_false e1, if_neg e1]
   rw [Bool.not_false, cond_true, l46_69 hps hD hrl (h4.mono (by omega)) (fun b hb => ⟨(hok b hb).1, (hok b hb).2.mono (by omega)⟩) (by omega)]
   by_cases e2 : redZ D ps (xs.getD i []) ∈ acc
   ·rw [decide_eq_true e2, if_pos e2]
    rw [Bool.not_true, cond_false, wI_succ (by omega)]
   ·rw [decide_eq_false e2, if_neg e2]
    rw [Bool.not_false, cond_true, maxE (encZs_len D acc) (by omega), gd_true, wI_succ (by omega)]
    simp [encZs]
 ·dsimp only
  have he : (xs.take xs.length).foldl (collS D ps) [octZ D ps] = coll D ps xs := by rw [List.take_length]; rfl
  have hl12 := clen xs.length
  have hok := cok xs.length
  rw [he] at hl12 hok
  rw [he]
  simp only [LP35_0, St35_0_0, lt_nI', cond_false]
  exact l70_71 (f := encZ D) (c := fun a b => cmpZ ps (zsub a b)) (l := coll D ps xs) (by omega) (fun a ha b hb K => by
   rw [Q71_def]; unfold G71
   rw [Q72_def]; unfold G72
   rw [l50z hps hD (hok a ha).1 (hok b hb).1 ((hok a ha).2.mono (by omega)) ((hok b hb).2.mono (by omega)) (hdec a ha b hb)]) _
end
end Go.Ev

namespace Go.Ev
open Go Go.RowKit
def phi (ps z : List Int) : Int := (nearZ ps z).1 + (nearZ ps z).2
section
variable {ps : List Int} {D : Nat}
theorem two_of {α : Type} : ∀ {z : List α}, z.length = 2 -> ∃ x y, z = [x, y]
 | [x, y], _ => ⟨x, y, rfl⟩
theorem three_of {α : Type} : ∀ {z : List α}, z.length = 3 -> ∃ x y w, z = [x, y, w]
 | [x, y, w], _ => ⟨x, y, w, rfl⟩
theorem phi2 (a b : Int) : phi [2, 3] [a, b] = a * 134217728 + b * 212730065 := by unfold phi; rw [nearZ2]; dsimp only; omega
theorem phi3 (a b c : Int) : phi [2, 3, 5] [a, b, c] = a * 134217728 + b * 212730065 + c * 311643913 := by unfold phi; rw [nearZ3]; dsimp only; omega
theorem phi_sub (hps : PsOk ps) {a b : List Int} (la : a.length = ps.length) (lb : b.length = ps.length) : phi ps (zsub a b) = phi ps a - phi ps b := by
 rcases hps with rfl | rfl
 ·obtain ⟨x, y, rfl⟩ := two_of la
  obtain ⟨x', y', rfl⟩ := two_of lb
  show phi [2, 3] [x - x', y - y'] = _
  rw [phi2, phi2, phi2]; omega
 ·obtain ⟨x, y, w, rfl⟩ := three_of la
  obtain ⟨x', y', w', rfl⟩ := three_of lb
  show phi [2, 3, 5] [x - x', y - y', w - w'] = _
  rw [phi3, phi3, phi3]; omega
theorem phi_cmp (hps : PsOk ps) {z : List Int} (hl : z.length = ps.length) (hd : decZ ps z) :
  (phi ps z = 0 /\ cmpZ ps z = 0 /\ z = zeros ps) ∨ (0 < phi ps z /\ cmpZ ps z = 1) ∨ (phi ps z < 0 /\ cmpZ ps z = -1) := by
 rcases hps with rfl | rfl
 ·obtain ⟨x, y, rfl⟩ := two_of hl
  unfold decZ at hd
  unfold cmpZ
  rw [phi2]
  rw [nearZ2] at hd ⊢
  dsimp only at hd ⊢
  by_cases hz : x = 0 /\ y = 0
  ·obtain ⟨rfl, rfl⟩ := hz
   exact .inl ⟨by simp, by simp, rfl⟩
  ·have hz' : ¬ (([x, y].all fun x => x == 0) = true) := by simp; omega
   rw [if_neg hz']
   rcases hd with hd | hd | hd
   ·exact absurd hd hz'
   ·rw [if_pos hd]; exact .inr (.inl ⟨by omega, rfl⟩)
   ·rw [if_neg (by omega)]; exact .inr (.inr ⟨by omega, rfl⟩)
 ·obtain ⟨x, y, w, rfl⟩ := three_of hl
  unfold decZ at hd
  unfold cmpZ
  rw [phi3]
  rw [nearZ3] at hd ⊢
  dsimp only at hd ⊢
  by_cases hz : x = 0 /\ y = 0 /\ w = 0
  ·obtain ⟨rfl, rfl, rfl⟩ := hz
   exact .inl ⟨by simp, by simp, rfl⟩
  ·have hz' : ¬ (([x, y, w].all fun x => x == 0) = true) := by simp; omega
   rw [if_neg hz']
   rcases hd with hd | hd | hd
   ·exact absurd hd hz'
   ·rw [if_pos hd]; exact .inr (.inl ⟨by omega, rfl⟩)
   ·rw [if_neg (by omega)]; exact .inr (.inr ⟨by omega, rfl⟩)
theorem zsub_zero (hps : PsOk ps) {a b : List Int} (la : a.length = ps.length) (lb : b.length = ps.length) (h : zsub a b = zeros ps) : a = b := by
 rcases hps with rfl | rfl
 ·obtain ⟨x, y, rfl⟩ := two_of la
  obtain ⟨x', y', rfl⟩ := two_of lb
  simp [zsub, zeros] at h
  simp; omega
 ·obtain ⟨x, y, w, rfl⟩ := three_of la
  obtain ⟨x', y', w', rfl⟩ := three_of lb
  simp [zsub, zeros] at h
  simp; omega
theorem cmp_phi (hps : PsOk ps) {a b : List Int} (la : a.length = ps.length) (lb : b.length = ps.length) (hd : decZ ps (zsub a b)) :
  (cmpZ ps (zsub a b) < 0 ↔ phi ps a < phi ps b) /\ (0 < cmpZ ps (zsub a b) ↔ phi ps b < phi ps a) /\ (phi ps a = phi ps b ↔ a = b) /\ (cmpZ ps (zsub a b) = 0 ↔ a = b) := by
 have hl : (zsub a b).length = ps.length := by rw [zsub_len (by omega), la]
 have hs := phi_sub hps la lb
 have hz := zsub_zero hps la lb
 rcases phi_cmp hps hl hd with ⟨h1, h2, h3⟩ | ⟨h1, h2⟩ | ⟨h1, h2⟩
 ·have hab := hz h3
  rw [h2]
  exact ⟨by omega, by omega, ⟨fun _ => hab, fun e => by rw [e]⟩, ⟨fun _ => hab, fun _ => rfl⟩⟩
 ·have h3 : ¬ phi ps a = phi ps b := by omega
  have hne : a ≠ b := fun e => h3 (by rw [e])
  rw [h2]
  refine ⟨?_, ?_, ⟨fun e => absurd e h3, fun e => absurd e hne⟩, ⟨fun e => by omega, fun e => absurd e hne⟩⟩
  ·constructor <;> intro _ <;> omega
  ·constructor <;> intro _ <;> omega
 ·have h3 : ¬ phi ps a = phi ps b := by omega
  have hne : a ≠ b := fun e => h3 (by rw [e])
  rw [h2]
  refine ⟨?_, ?_, ⟨fun e => absurd e h3, fun e => absurd e hne⟩, ⟨fun e => by omega, fun e => absurd e hne⟩⟩
  ·constructor <;> intro _ <;> omega
  ·constructor <;> intro _ <;> omega
end
section
variable {α : Type} {f : α -> Int} {c : α -> α -> Int}
theorem insR_sorted (x : α) : ∀ (r : List α), (∀ y, y ∈ r -> (c x y < 0 ↔ f x < f y)) -> r.Pairwise (fun a b => f b <= f a) -> (insR c x r).Pairwise (fun a b => f b <= f a)
 | [], _, _ => by simp [insR]
 | y :: ys, h, hp => by
  unfold insR
  obtain ⟨h1, h2⟩ := List.pairwise_cons.1 hp
  have hy := h y (by simp)
  split
  ·next hc =>
   refine List.pairwise_cons.2 ⟨fun a ha => ?_, insR_sorted x ys (fun z hz => h z (by simp [hz])) h2⟩
   rcases (insR_mem c x ys a).1 ha with rfl | ha
   ·have := hy.1 hc; omega
   ·exact h1 a ha
  ·next hc =>
   refine List.pairwise_cons.2 ⟨fun a ha => ?_, hp⟩
   have h3 : ¬ f x < f y := fun e => hc (hy.2 e)
   rcases List.mem_cons.1 ha with rfl | ha
   ·omega
   ·have := h1 a ha; omega
theorem foldR_sorted : ∀ (l r : List α), (∀ a, a ∈ l ++ r -> ∀ b, b ∈ l ++ r -> (c a b < 0 ↔ f a < f b)) -> r.Pairwise (fun a b => f b <= f a) -> (l.foldl (fun r x => insR c x r) r).Pairwise (fun a b => f b <= f a)
 | [], _, _, h => h
 | x :: l, r, h, hp => by
  rw [List.foldl_cons]
  refine foldR_sorted l _ (fun a ha b hb => ?_) (insR_sorted x r (fun y hy => h x (by simp) y (by simp [hy])) hp)
  have : ∀ y, y ∈ l ++ insR c x r -> y ∈ (x :: l) ++ r := by
   intro y hy
   simp only [List.mem_append, insR_mem, List.mem_cons] at hy ⊢
   rcases hy with hy | hy | hy
   ·exact .inl (.inr hy)
   ·exact .inl (.inl hy)
   ·exact .inr hy
  exact h a (this a ha) b (this b hb)
theorem gsort_sorted (l : List α) (h : ∀ a, a ∈ l -> ∀ b, b ∈ l -> (c a b < 0 ↔ f a < f b)) : (gsort c l).Pairwise (fun a b => f a <= f b) := by
 unfold gsort
 rw [List.pairwise_reverse]
 exact foldR_sorted l [] (by simpa using h) List.Pairwise.nil
theorem insR_nodup (x : α) : ∀ (r : List α), x ∉ r -> r.Nodup -> (insR c x r).Nodup
 | [], _, _ => by simp [insR]
 | y :: ys, hx, hn => by
  obtain ⟨h1, h2⟩ := List.nodup_cons.1 hn
  unfold insR
  split
  ·refine List.nodup_cons.2 ⟨fun hy => ?_, insR_nodup x ys (fun e => hx (by simp [e])) h2⟩
   rcases (insR_mem c x ys y).1 hy with rfl | hy
   ·exact hx (by simp)
   ·exact h1 hy
  ·exact List.nodup_cons.2 ⟨hx, hn⟩
theorem foldR_nodup : ∀ (l r : List α), (l ++ r).Nodup -> (l.foldl (fun r x => insR c x r) r).Nodup
 | [], _, h => h
 | x :: l, r, h => by
  rw [List.foldl_cons]
  obtain ⟨h1, h2⟩ := List.nodup_cons.1 h
  obtain ⟨h3, h4, h5⟩ := List.nodup_append.1 h2
  refine foldR_nodup l _ (List.nodup_append.2 ⟨h3, insR_nodup x r (fun e => h1 (List.mem_append.2 (.inr e))) h4, fun a ha b hb e => ?_⟩)
  subst e
  rcases (insR_mem c x r a).1 hb with rfl | hb
  ·exact h1 (List.mem_append.2 (.inl ha))
  ·exact h5 a ha a hb rfl
theorem gsort_nodup (l : List α) (h : l.Nodup) : (gsort c l).Nodup := by
 unfold gsort
 exact (List.reverse_perm _).nodup_iff.2 (foldR_nodup l [] (by simpa using h))
theorem strict_of (l : List α) (hs : l.Pairwise (fun a b => f a <= f b)) (hn : l.Nodup) (hi : ∀ a, a ∈ l -> ∀ b, b ∈ l -> f a = f b -> a = b) : l.Pairwise (fun a b => f a < f b) := by
 have h2 := (List.pairwise_and_iff.2 ⟨hs, hn⟩)
 refine List.Pairwise.imp_of_mem (fun {a b} ha hb h => ?_) h2
 rcases Int.lt_or_eq_of_le h.1 with h3 | h3
 ·exact h3
 ·exact absurd (hi a ha b hb h3) h.2
theorem sorted_unique : ∀ (l m : List α), l.Pairwise (fun a b => f a < f b) -> m.Pairwise (fun a b => f a < f b) -> (∀ a, a ∈ l ↔ a ∈ m) -> l = m
 | [], [], _, _, _ => rfl
 | [], y :: m, _, _, h => by have := (h y).2 (by simp); simp at this
 | x :: l, [], _, _, h => by have := (h x).1 (by simp); simp at this
 | x :: l, y :: m, h1, h2, h => by
  obtain ⟨a1, a2⟩ := List.pairwise_cons.1 h1
  obtain ⟨b1, b2⟩ := List.pairwise_cons.1 h2
  have hxy : x = y := by
   rcases List.mem_cons.1 ((h x).1 (by simp)) with e | e
   ·exact e
   ·rcases List.mem_cons.1 ((h y).2 (by simp)) with e' | e'
    ·exact e'.symm
    ·have := b1 x e
     have := a1 y e'
     omega
  subst hxy
  congr 1
  refine sorted_unique l m a2 b2 fun a => ?_
  constructor
  ·intro ha
   rcases List.mem_cons.1 ((h a).1 (by simp [ha])) with e | e
   ·subst e; have := a1 a ha; omega
   ·exact e
  ·intro ha
   rcases List.mem_cons.1 ((h a).2 (by simp [ha])) with e | e
   ·subst e; have := b1 a ha; omega
   ·exact e
theorem dd_nodup [DecidableEq α] : ∀ (l : List α), (dd l).Nodup
 | [] => by simp [dd]
 | x :: l => by
  unfold dd
  split
  ·exact dd_nodup l
  ·next h => exact List.nodup_cons.2 ⟨h, dd_nodup l⟩
end
end Go.Ev

namespace Go.Ev
open Go Go.RowKit
def ck2 (b : Int) : Bool := min (b * 106365032) (b * 106365033) / 67108864 == max (b * 106365032) (b * 106365033) / 67108864
def ck3 (b c : Int) : Bool := (min (b * 106365032) (b * 106365033) + min (c * 155821956) (c * 155821957)) / 67108864 == (max (b * 106365032) (b * 106365033) + max (c * 155821956) (c * 155821957)) / 67108864
def ckZ : List Int -> Prop
 | [_, b] => ck2 b = true
 | [_, b, c] => ck3 b c = true
 | _ => False
section
variable {ps : List Int} {D : Nat}
theorem ck_dec (hps : PsOk ps) {z : List Int} (hl : z.length = ps.length) (h : ckZ z) : decZ ps z := by
 rcases hps with rfl | rfl
 ·obtain ⟨x, y, rfl⟩ := two_of hl
  have h := beq_iff_eq.1 (show ck2 y = true from h)
  unfold decZ
  rw [nearZ2]
  dsimp only
  right
  omega
 ·obtain ⟨x, y, w, rfl⟩ := three_of hl
  have h := beq_iff_eq.1 (show ck3 y w = true from h)
  unfold decZ
  rw [nearZ3]
  dsimp only
  right
  omega
theorem ck_fl (hps : PsOk ps) {z : List Int} (hl : z.length = ps.length) (h : ckZ z) : flOk D ps z := by
 unfold flOk floorZ
 rw [<- Int.ediv_ediv_of_nonneg (by omega), <- Int.ediv_ediv_of_nonneg (by omega)]
 congr 1
 rcases hps with rfl | rfl
 ·obtain ⟨x, y, rfl⟩ := two_of hl
  have h := beq_iff_eq.1 (show ck2 y = true from h)
  rw [nearZ2]
  dsimp only
  omega
 ·obtain ⟨x, y, w, rfl⟩ := three_of hl
  have h := beq_iff_eq.1 (show ck3 y w = true from h)
  rw [nearZ3]
  dsimp only
  omega
theorem red_near (hps : PsOk ps) (hD : 0 < D) {z : List Int} (hl : z.length = ps.length) (hf : flOk D ps z) : 0 <= (nearZ ps (redZ D ps z)).1 /\ (nearZ ps (redZ D ps z)).2 < 67108864 * (D : Int) := by
 have h1 := Int.mul_ediv_self_le (x := (nearZ ps z).1) (k := 67108864 * (D : Int)) (by omega)
 have h2 := Int.lt_mul_ediv_self_add (x := (nearZ ps z).2) (k := 67108864 * (D : Int)) (by omega)
 unfold flOk at hf
 rw [<- hf] at h2
 have h3 : floorZ D ps z = (nearZ ps z).1 / (67108864 * (D : Int)) := rfl
 rw [<- h3] at h1
 unfold redZ
 generalize floorZ D ps z = q at *
 have e : 67108864 * (D : Int) * q = 67108864 * ((D : Int) * q) := Int.mul_assoc _ _ _
 rw [e] at h1 h2
 have key : nearZ ps (zsub z (zscale (octZ D ps) q)) = ((nearZ ps z).1 - 67108864 * ((D : Int) * q), (nearZ ps z).2 - 67108864 * ((D : Int) * q)) := by
  rcases hps with rfl | rfl
  ·obtain ⟨x, y, rfl⟩ := two_of hl
   show nearZ [2, 3] [x - (D : Int) * q, y - 0 * q] = _
   rw [nearZ2, nearZ2, Int.zero_mul, Int.sub_zero]
   generalize (D : Int) * q = t
   ext <;> dsimp only <;> omega
  ·obtain ⟨x, y, w, rfl⟩ := three_of hl
   show nearZ [2, 3, 5] [x - (D : Int) * q, y - 0 * q, w - 0 * q] = _
   rw [nearZ3, nearZ3, Int.zero_mul, Int.sub_zero, Int.sub_zero]
   generalize (D : Int) * q = t
   ext <;> dsimp only <;> omega
 rw [key]
 dsimp only
 generalize (D : Int) * q = t at *
 omega
theorem near_le (hps : PsOk ps) {z : List Int} (hl : z.length = ps.length) : (nearZ ps z).1 <= (nearZ ps z).2 := by
 rcases hps with rfl | rfl
 ·obtain ⟨x, y, rfl⟩ := two_of hl
  rw [nearZ2]; dsimp only; omega
 ·obtain ⟨x, y, w, rfl⟩ := three_of hl
  rw [nearZ3]; dsimp only; omega
structure Fam (ps : List Int) (T : Nat -> List Int -> Prop) : Prop where
 len : ∀ {n z}, T n z -> z.length = ps.length
 mono : ∀ {m n z}, m <= n -> T m z -> T n z
 sub : ∀ {m n a b}, T m a -> T n b -> T (m + n) (zsub a b)
 add : ∀ {m n a b}, T m a -> T n b -> T (m + n) (zadd a b)
 pure : ∀ {z}, z.length = ps.length -> (∀ x, x ∈ z.tail -> x = 0) -> T 0 z
 ck : ∀ {z}, T 4 z -> ckZ z
variable {T : Nat -> List Int -> Prop}
theorem oct_tail (hps : PsOk ps) : ∀ x, x ∈ (octZ D ps).tail -> x = 0 := by
 intro x hx
 rcases hps with rfl | rfl <;> simp [octZ] at hx <;> omega
theorem zeros_len : (zeros ps).length = ps.length := by simp [zeros]
theorem zeros_tail : ∀ x, x ∈ (zeros ps).tail -> x = 0 := by
 intro x hx
 have := List.mem_of_mem_tail hx
 unfold zeros at this
 obtain ⟨_, _, e⟩ := List.mem_map.1 this
 exact e.symm
theorem octq_T (F : Fam ps T) (hps : PsOk ps) (q : Int) : T 0 (zscale (octZ D ps) q) := by
 refine F.pure (by rw [zscale_len, oct_len hps]) fun x hx => ?_
 rcases hps with rfl | rfl <;> simp [octZ, zscale] at hx <;> omega
theorem oct_T (F : Fam ps T) (hps : PsOk ps) : T 0 (octZ D ps) := F.pure (oct_len hps) (oct_tail hps)
theorem red_T (F : Fam ps T) (hps : PsOk ps) {z : List Int} (h : T 1 z) : T 1 (redZ D ps z) := F.sub h (octq_T F hps _)
theorem dec_T (F : Fam ps T) (hps : PsOk ps) {a b : List Int} {m n : Nat} (ha : T m a) (hb : T n b) (hmn : m + n <= 4) : decZ ps (zsub a b) :=
 have h := F.mono hmn (F.sub ha hb)
 ck_dec hps (F.len h) (F.ck h)
theorem coll_T (F : Fam ps T) (hps : PsOk ps) {xs : List (List Int)} (hx : ∀ z, z ∈ xs -> T 1 z) : ∀ a, a ∈ coll D ps xs -> T 1 a := by
 intro a ha
 rcases foldC_mem _ _ a ha with ha | ⟨z, hz, rfl, _⟩
 ·have : a = octZ D ps := by simpa using ha
  subst this
  exact F.mono (by omega) (oct_T F hps)
 ·exact red_T F hps (hx z hz)
theorem phi_oct (hps : PsOk ps) : phi ps (octZ D ps) = 134217728 * (D : Int) := by
 rcases hps with rfl | rfl
 ·show phi [2, 3] [(D : Int), 0] = _
  rw [phi2]; omega
 ·show phi [2, 3, 5] [(D : Int), 0, 0] = _
  rw [phi3]; omega
theorem red_phi (F : Fam ps T) (hps : PsOk ps) (hD : 0 < D) {z : List Int} (h : T 1 z) (hne : redZ D ps z ≠ zsub (redZ D ps z) (redZ D ps z)) : 0 < phi ps (redZ D ps z) /\ phi ps (redZ D ps z) < phi ps (octZ D ps) := by
 have hr := red_T (D := D) F hps h
 have hl := F.len hr
 have hn := red_near hps hD (F.len h) (ck_fl hps (F.len h) (F.ck (F.mono (by omega) h)))
 have hle := near_le hps hl
 have hd : decZ ps (redZ D ps z) := ck_dec hps hl (F.ck (F.mono (by omega) hr))
 have h0 : phi ps (redZ D ps z) ≠ 0 := by
  intro e
  rcases phi_cmp hps hl hd with ⟨_, _, h3⟩ | ⟨h1, _⟩ | ⟨h1, _⟩
  ·refine hne ?_
   rw [h3]
   rcases hps with rfl | rfl <;> rfl
  ·omega
  ·omega
 have he : phi ps (redZ D ps z) = (nearZ ps (redZ D ps z)).1 + (nearZ ps (redZ D ps z)).2 := rfl
 rw [phi_oct hps]
 omega
theorem coll_phi (F : Fam ps T) (hps : PsOk ps) (hD : 0 < D) {xs : List (List Int)} (hx : ∀ z, z ∈ xs -> T 1 z) : ∀ a, a ∈ coll D ps xs -> 0 < phi ps a /\ (a = octZ D ps ∨ phi ps a < phi ps (octZ D ps)) := by
 intro a ha
 rcases foldC_mem _ _ a ha with ha | ⟨z, hz, rfl, hne⟩
 ·have : a = octZ D ps := by simpa using ha
  subst this
  rw [phi_oct hps]
  exact ⟨by omega, .inl rfl⟩
 ·have := red_phi F hps hD (hx z hz) hne
  exact ⟨this.1, .inr this.2⟩
theorem notesZ_mem (xs : List (List Int)) (a : List Int) : a ∈ notesZ D ps xs ↔ a ∈ coll D ps xs := gsort_mem _ _ _
theorem notesZ_sorted (F : Fam ps T) (hps : PsOk ps) {xs : List (List Int)} (hx : ∀ z, z ∈ xs -> T 1 z) : (notesZ D ps xs).Pairwise (fun a b => phi ps a < phi ps b) := by
 have hT := coll_T (D := D) F hps hx
 have cp : ∀ a, a ∈ coll D ps xs -> ∀ b, b ∈ coll D ps xs -> _ := fun a ha b hb => cmp_phi hps (F.len (hT a ha)) (F.len (hT b hb)) (dec_T F hps (hT a ha) (hT b hb) (by omega))
 refine strict_of _ (gsort_sorted _ fun a ha b hb => (cp a ha b hb).1) (gsort_nodup _ (foldC_nodup _ _ (by simp))) fun a ha b hb => ?_
 exact (cp a ((notesZ_mem _ _).1 ha) b ((notesZ_mem _ _).1 hb)).2.2.1.1
theorem pw_get {α : Type} {f : α -> Int} {l : List α} {x0 : α} (h : l.Pairwise (fun a b => f a < f b)) {i j : Nat} (hij : i < j) (hj : j < l.length) : f (l.getD i x0) < f (l.getD j x0) := by
 have hi : i < l.length := by omega
 rw [List.getD_eq_getElem?_getD, List.getD_eq_getElem?_getD, List.getElem?_eq_getElem hi, List.getElem?_eq_getElem hj]
 exact List.pairwise_iff_getElem.1 h i j hi hj hij
theorem notesZ_len (xs : List (List Int)) : 0 < (notesZ D ps xs).length /\ (notesZ D ps xs).length <= xs.length + 1 := by
 constructor
 ·exact List.length_pos_of_mem ((notesZ_mem _ _).2 (coll_oct xs))
 ·unfold notesZ
  rw [gsort_len]
  have := foldC_len (D := D) (ps := ps) xs [octZ D ps]
  unfold coll
  simp at this
  omega
theorem notesZ_last (F : Fam ps T) (hps : PsOk ps) (hD : 0 < D) {xs : List (List Int)} (hx : ∀ z, z ∈ xs -> T 1 z) : (notesZ D ps xs).getD ((notesZ D ps xs).length - 1) [] = octZ D ps := by
 have hs := notesZ_sorted (D := D) F hps hx
 obtain ⟨hn, _⟩ := notesZ_len (D := D) (ps := ps) xs
 have hm := (notesZ_mem (D := D) (ps := ps) xs _).2 (coll_oct xs)
 obtain ⟨i, hi, he⟩ := List.getElem_of_mem hm
 have hg : (notesZ D ps xs).getD i [] = octZ D ps := by rw [List.getD_eq_getElem?_getD, List.getElem?_eq_getElem hi]; exact he
 by_cases hl : i = (notesZ D ps xs).length - 1
 ·rw [<- hl, hg]
 ·have h1 := pw_get (x0 := []) hs (i := i) (j := (notesZ D ps xs).length - 1) (by omega) (by omega)
  rw [hg] at h1
  have h2 := coll_phi F hps hD hx _ ((notesZ_mem _ _).1 (getD_mem (l := notesZ D ps xs) (i := (notesZ D ps xs).length - 1) (by omega)))
  rcases h2.2 with h2 | h2
  ·exact h2
  ·omega
theorem noteZ_T (F : Fam ps T) (hps : PsOk ps) (hD : 0 < D) {xs : List (List Int)} (hx : ∀ z, z ∈ xs -> T 1 z) (i : Nat) : T 1 (noteZ (notesZ D ps xs) i) := by
 obtain ⟨hn, _⟩ := notesZ_len (D := D) (ps := ps) xs
 unfold noteZ
 dsimp only
 rw [notesZ_last F hps hD hx]
 have h0 := octq_T (D := D) F hps (i / (notesZ D ps xs).length : Nat)
 split
 ·exact F.mono (by omega) h0
 ·refine F.add h0 (coll_T F hps hx _ ((notesZ_mem _ _).1 (getD_mem ?_)))
  have := Nat.mod_lt i hn
  omega
theorem dif_T (F : Fam ps T) (hps : PsOk ps) (hD : 0 < D) {xs : List (List Int)} (hx : ∀ z, z ∈ xs -> T 1 z) (c i : Nat) : T 2 (dif (notesZ D ps xs) c i) := F.sub (noteZ_T F hps hD hx _) (noteZ_T F hps hD hx _)
theorem red_small (hps : PsOk ps) (hD : 0 < D /\ D < 400) {z : List Int} (hl : z.length = ps.length) (hf : flOk D ps z) (ht : ∀ x, x ∈ z.tail -> x.natAbs <= 130) : ZS 1000 (redZ D ps z) := by
 have hn := red_near hps hD.1 hl hf
 unfold redZ at hn ⊢
 generalize floorZ D ps z = q at *
 intro x hx
 rcases hps with rfl | rfl
 ·obtain ⟨a, b, rfl⟩ := two_of hl
  have hb := ht b (by simp)
  have e : zsub [a, b] (zscale (octZ D [2, 3]) q) = [a - (D : Int) * q, b - 0 * q] := rfl
  rw [e, nearZ2] at hn
  rw [e] at hx
  rw [Int.zero_mul, Int.sub_zero] at hn hx
  generalize (D : Int) * q = t at *
  dsimp only at hn
  simp only [List.mem_cons, List.not_mem_nil, or_false] at hx
  rcases hx with rfl | rfl
  ·omega
  ·omega
 ·obtain ⟨a, b, c, rfl⟩ := three_of hl
  have hb := ht b (by simp)
  have hc := ht c (by simp)
  have e : zsub [a, b, c] (zscale (octZ D [2, 3, 5]) q) = [a - (D : Int) * q, b - 0 * q, c - 0 * q] := rfl
  rw [e, nearZ3] at hn
  rw [e] at hx
  rw [Int.zero_mul, Int.sub_zero, Int.sub_zero] at hn hx
  generalize (D : Int) * q = t at *
  dsimp only at hn
  simp only [List.mem_cons, List.not_mem_nil, or_false] at hx
  rcases hx with rfl | rfl | rfl
  ·omega
  ·omega
  ·omega
theorem notesZ_Sc (F : Fam ps T) (hps : PsOk ps) (hD : 0 < D /\ D < 400) {xs : List (List Int)} (hlen : (notesZ D ps xs).length <= 9) (hx : ∀ z, z ∈ xs -> T 1 z) (ht : ∀ z, z ∈ xs -> ∀ x, x ∈ z.tail -> x.natAbs <= 130) : Sc ps D (notesZ D ps xs) := by
 have hT := coll_T (D := D) F hps hx
 obtain ⟨hn1, hn2⟩ := notesZ_len (D := D) (ps := ps) xs
 refine ⟨hps, by omega, hn1, by omega, fun z hz => ?_, fun c d i j _ _ _ _ => dec_T F hps (dif_T F hps hD.1 hx c i) (dif_T F hps hD.1 hx d j) (by omega), fun i hi => ?_⟩
 ·have hz := (notesZ_mem _ _).1 hz
  refine ⟨F.len (hT z hz), ?_⟩
  rcases foldC_mem _ _ z hz with h | ⟨w, hw, rfl, _⟩
  ·have : z = octZ D ps := by simpa using h
   subst this
   intro x hx
   rcases hps with rfl | rfl <;> simp [octZ] at hx <;> omega
  ·have h1 := hx w hw
   exact red_small hps hD (F.len h1) (ck_fl hps (F.len h1) (F.ck (F.mono (by omega) h1))) (ht w hw)
 ·have h1 := getD_mem hi
  have h2 := (notesZ_mem _ _).1 h1
  have hp : T 1 (prevN ps (notesZ D ps xs) i) /\ phi ps (prevN ps (notesZ D ps xs) i) < phi ps ((notesZ D ps xs).getD i []) := by
   match i with
   | 0 =>
    have h0 : T 0 (zeros ps) := F.pure zeros_len zeros_tail
    refine ⟨F.mono (by omega) h0, ?_⟩
    have := (coll_phi F hps hD.1 hx _ h2).1
    have e : phi ps (zeros ps) = 0 := by
     rcases hps with rfl | rfl
     ·show phi [2, 3] [0, 0] = 0; rw [phi2]; rfl
     ·show phi [2, 3, 5] [0, 0, 0] = 0; rw [phi3]; rfl
    show phi ps (zeros ps) < _
    omega
   | j + 1 =>
    refine ⟨hT _ ((notesZ_mem _ _).1 (getD_mem (by omega))), ?_⟩
    exact pw_get (notesZ_sorted F hps hx) (by omega) hi
  have hd := dec_T F hps hp.1 (hT _ h2) (by omega)
  refine ⟨hd, ?_⟩
  have hl : (zsub (prevN ps (notesZ D ps xs) i) ((notesZ D ps xs).getD i [])).length = ps.length := by
   rw [zsub_len (by rw [F.len hp.1, F.len (hT _ h2)]), F.len hp.1]
  have hs := phi_sub hps (F.len hp.1) (F.len (hT _ h2))
  rcases phi_cmp hps hl hd with ⟨h3, _⟩ | ⟨h3, _⟩ | ⟨_, h4⟩
  ·omega
  ·omega
  ·exact h4
end
end Go.Ev

namespace Go.Ev
open Go Go.RowKit
theorem wI_i8 {n : Int} (h : -128 <= n /\ n <= 127) : wI n = n := wI_eq (by omega)
theorem tmod9 (n : Int) : -9 < Int.tmod n 9 /\ Int.tmod n 9 < 9 := by
 have h1 := Int.natAbs_tmod n 9
 have h2 : n.natAbs % 9 < 9 := Nat.mod_lt _ (by omega)
 have : (9 : Int).natAbs = 9 := rfl
 rw [this] at h1
 omega
def halfD (n : Int) : Nat := if n < 0 then 2 else 1
theorem den40 {n : Int} (h : -128 <= n /\ n <= 127) : wI (1 + (wI ((Int.tmod 1 2) * (wI (Int.fdiv (IntKind.u8.wrap n) (2 ^ 7)))))) = (halfD n : Int) := by
 have hw : IntKind.u8.wrap n = if n < 0 then n + 256 else n := by
  unfold IntKind.wrap
  simp [IntKind.bits, IntKind.signed]
  split <;> omega
 have hf : Int.fdiv (IntKind.u8.wrap n) (2 ^ 7) = if n < 0 then 1 else 0 := by
  rw [hw, Int.fdiv_eq_ediv_of_nonneg _ (by omega)]
  split <;> omega
 rw [hf]
 unfold halfD
 split <;> decide
def sizeZ (ps : List Int) (x y z : Int) : List Int := match ps with
 | [_, _] => [2 * Int.tmod x 9, (if y < 0 then 1 else 2) * Int.tmod y 9]
 | _ => [2 * Int.tmod x 9, (if y < 0 then 1 else 2) * Int.tmod y 9, 2 * Int.tmod z 9]
theorem mk2 (n : Int) : mkRat n 1 = mkRat (2 * n) 2 := (Rat.mkRat_eq_iff (by omega) (by omega)).2 (by omega)
theorem mkh (n y : Int) : mkRat n (halfD y) = mkRat ((if y < 0 then 1 else 2) * n) 2 := by
 unfold halfD
 split
 ·rw [Int.one_mul]
 ·exact mk2 n
theorem denA0 (n : Int) : wI (1 + (wI ((Int.tmod 0 2) * n))) = ((1 : Nat) : Int) := by rw [show Int.tmod 0 2 = 0 from rfl, Int.zero_mul]; decide
theorem denA2 (n : Int) : wI (1 + (wI ((Int.tmod 2 2) * n))) = ((1 : Nat) : Int) := by rw [show Int.tmod 2 2 = 0 from rfl, Int.zero_mul]; decide
theorem l40_2 {x y z : Int} (hx : -128 <= x /\ x <= 127) (hy : -128 <= y /\ y <= 127) (K : List PVal -> Bool) : Q40 [xI 2, xI 3] x y z K = K (encZ 2 (sizeZ [2, 3] x y z)) := by
 obtain ⟨k, hk⟩ := fuel_add 4
 rw [Q40_def]; unfold G40 L40_0_0
 rw [hk]
 have m0 := tmod9 x
 have m1 := tmod9 y
 show Q39 (Int.tmod (wI x) 9) (wI (1 + (wI ((Int.tmod 0 2) * (wI (Int.fdiv (IntKind.u8.wrap x) (2 ^ 7))))))) (fun z1v z2v => (LP40_0 (K []) (fun y37v => (K y37v)) (k + 3)).2 2 1 x y z [(xA [(xZ z1v), (xZ z2v)])]) = _
 rw [wI_i8 hx, denA0]
 refine (l39 (d := 1) (by omega) (by omega) (by omega) _).trans ?_
 show Q39 (Int.tmod (wI y) 9) (wI (1 + (wI ((Int.tmod 1 2) * (wI (Int.fdiv (IntKind.u8.wrap y) (2 ^ 7))))))) (fun z1v z2v => (gd (decide (1 + 1 <= maxElems)) ((LP40_0 (K []) (fun y37v => (K y37v)) (k + 2)).2 2 2 x y z ([xQ (mkRat (Int.tmod x 9) 1)] ++ [(xA [(xZ z1v), (xZ z2v)])])))) = _
 rw [wI_i8 hy, den40 hy, l39 (by unfold halfD; split <;> omega) (by omega) (by unfold halfD; split <;> omega)]
 rw [decide_eq_true (show 1 + 1 <= maxElems by unfold maxElems; omega), gd_true]
 show K [xQ (mkRat (Int.tmod x 9) 1), xQ (mkRat (Int.tmod y 9) (halfD y))] = _
 rw [mk2, mkh]
 rfl
theorem l40_3 {x y z : Int} (hx : -128 <= x /\ x <= 127) (hy : -128 <= y /\ y <= 127) (hz : -128 <= z /\ z <= 127) (K : List PVal -> Bool) : Q40 [xI 2, xI 3, xI 5] x y z K = K (encZ 2 (sizeZ [2, 3, 5] x y z)) := by
 obtain ⟨k, hk⟩ := fuel_add 4
 rw [Q40_def]; unfold G40 L40_0_0
 rw [hk]
 have m0 := tmod9 x
 have m1 := tmod9 y
 have m2 := tmod9 z
 show Q39 (Int.tmod (wI x) 9) (wI (1 + (wI ((Int.tmod 0 2) * (wI (Int.fdiv (IntKind.u8.wrap x) (2 ^ 7))))))) (fun z1v z2v => (LP40_0 (K []) (fun y37v => (K y37v)) (k + 3)).2 3 1 x y z [(xA [(xZ z1v), (xZ z2v)])]) = _
 rw [wI_i8 hx, denA0]
 refine (l39 (d := 1) (by omega) (by omega) (by omega) _).trans ?_
 show Q39 (Int.tmod (wI y) 9) (wI (1 + (wI ((Int.tmod 1 2) * (wI (Int.fdiv (IntKind.u8.wrap y) (2 ^ 7))))))) (fun z1v z2v => (gd (decide (1 + 1 <= maxElems)) ((LP40_0 (K []) (fun y37v => (K y37v)) (k + 2)).2 3 2 x y z ([xQ (mkRat (Int.tmod x 9) 1)] ++ [(xA [(xZ z1v), (xZ z2v)])])))) = _
 rw [wI_i8 hy, den40 hy, l39 (by unfold halfD; split <;> omega) (by omega) (by unfold halfD; split <;> omega)]
 rw [decide_eq_true (show 1 + 1 <= maxElems by unfold maxElems; omega), gd_true]
 show Q39 (Int.tmod (wI z) 9) (wI (1 + (wI ((Int.tmod 2 2) * (wI (Int.fdiv (IntKind.u8.wrap z) (2 ^ 7))))))) (fun z1v z2v => (gd (decide (2 + 1 <= maxElems)) ((LP40_0 (K []) (fun y37v => (K y37v)) (k + 1)).2 3 3 x y z ([xQ (mkRat (Int.tmod x 9) 1), xQ (mkRat (Int.tmod y 9) (halfD y))] ++ [(xA [(xZ z1v), (xZ z2v)])])))) = _
 rw [wI_i8 hz, denA2]
 refine (l39 (d := 1) (by omega) (by omega) (by omega) _).trans ?_
 rw [decide_eq_true (show 2 + 1 <= maxElems by unfold maxElems; omega), gd_true]
 show K [xQ (mkRat (Int.tmod x 9) 1), xQ (mkRat (Int.tmod y 9) (halfD y)), xQ (mkRat (Int.tmod z 9) 1)] = _
 rw [mk2, mkh, mk2 (Int.tmod z 9)]
 rfl
def allN : Nat -> (Nat -> Bool) -> Bool
 | 0, _ => true
 | n + 1, f => f n && allN n f
theorem allN_ok : ∀ {n : Nat} {f : Nat -> Bool}, allN n f = true -> ∀ i, i < n -> f i = true
 | 0, _, _, i, hi => by omega
 | n + 1, f, h, i, hi => by
  have h := Bool.and_eq_true_iff.1 (show (f n && allN n f) = true from h)
  by_cases e : i = n
  ·rw [e]; exact h.1
  ·exact allN_ok h.2 i (by omega)
theorem t2 : allN 1025 (fun i => ck2 ((i : Int) - 512)) = true := by decide +kernel
theorem t3 : allN 129 (fun i => allN 129 fun j => ck3 ((i : Int) - 64) ((j : Int) - 64)) = true := by decide +kernel
theorem t1 : allN 65 (fun k => allN 33 (fun i => allN 17 fun j => ck3 (((k : Int) - 32) * ((i : Int) - 16)) (((k : Int) - 32) * (2 * ((j : Int) - 8))))) = true := by decide +kernel
theorem ck2_ok {b : Int} (h : b.natAbs <= 512) : ck2 b = true := by
 have := allN_ok t2 (b + 512).toNat (by omega)
 have e : (((b + 512).toNat : Nat) : Int) - 512 = b := by omega
 rwa [e] at this
theorem ck3_ok {b c : Int} (h : b.natAbs <= 64) (h2 : c.natAbs <= 64) : ck3 b c = true := by
 have := allN_ok (allN_ok t3 (b + 64).toNat (by omega)) (c + 64).toNat (by omega)
 have e : (((b + 64).toNat : Nat) : Int) - 64 = b := by omega
 have e2 : (((c + 64).toNat : Nat) : Int) - 64 = c := by omega
 rwa [e, e2] at this
theorem ck3_mul {m b c : Int} (hm : m.natAbs <= 32) (h : b.natAbs <= 16) (h2 : c.natAbs <= 8) : ck3 (m * b) (m * (2 * c)) = true := by
 have := allN_ok (allN_ok (allN_ok t1 (m + 32).toNat (by omega)) (b + 16).toNat (by omega)) (c + 8).toNat (by omega)
 have e0 : (((m + 32).toNat : Nat) : Int) - 32 = m := by omega
 have e : (((b + 16).toNat : Nat) : Int) - 16 = b := by omega
 have e2 : (((c + 8).toNat : Nat) : Int) - 8 = c := by omega
 rwa [e0, e, e2] at this
section
variable {ps : List Int}
def TB (ps : List Int) (n : Nat) (z : List Int) : Prop := z.length = ps.length /\ ∀ x, x ∈ z.tail -> x.natAbs <= 16 * n
theorem fam_B (hps : PsOk ps) : Fam ps (TB ps) := by
 constructor
 ·exact fun h => h.1
 ·exact fun h h2 => ⟨h2.1, fun x hx => by have := h2.2 x hx; omega⟩
 ·intro m n a b ⟨la, ha⟩ ⟨lb, hb⟩
  refine ⟨by rw [zsub_len (by omega), la], fun x hx => ?_⟩
  rcases hps with rfl | rfl
  ·obtain ⟨x1, y1, rfl⟩ := two_of la
   obtain ⟨x2, y2, rfl⟩ := two_of lb
   have h1 := ha y1 (by simp); have h2 := hb y2 (by simp)
   simp [zsub] at hx; omega
  ·obtain ⟨x1, y1, w1, rfl⟩ := three_of la
   obtain ⟨x2, y2, w2, rfl⟩ := three_of lb
   have h1 := ha y1 (by simp); have h2 := hb y2 (by simp); have h3 := ha w1 (by simp); have h4 := hb w2 (by simp)
   simp [zsub] at hx; omega
 ·intro m n a b ⟨la, ha⟩ ⟨lb, hb⟩
  refine ⟨by rw [zadd_len (by omega), la], fun x hx => ?_⟩
  rcases hps with rfl | rfl
  ·obtain ⟨x1, y1, rfl⟩ := two_of la
   obtain ⟨x2, y2, rfl⟩ := two_of lb
   have h1 := ha y1 (by simp); have h2 := hb y2 (by simp)
   simp [zadd] at hx; omega
  ·obtain ⟨x1, y1, w1, rfl⟩ := three_of la
   obtain ⟨x2, y2, w2, rfl⟩ := three_of lb
   have h1 := ha y1 (by simp); have h2 := hb y2 (by simp); have h3 := ha w1 (by simp); have h4 := hb w2 (by simp)
   simp [zadd] at hx; omega
 ·exact fun hl h => ⟨hl, fun x hx => by rw [h x hx]; simp⟩
 ·rintro z ⟨hl, h⟩
  rcases hps with rfl | rfl
  ·obtain ⟨x, y, rfl⟩ := two_of hl
   exact ck2_ok (by have := h y (by simp); omega)
  ·obtain ⟨x, y, w, rfl⟩ := three_of hl
   exact ck3_ok (by have := h y (by simp); omega) (by have := h w (by simp); omega)
def TM (ps : List Int) (b c : Int) (n : Nat) (z : List Int) : Prop := ∃ m : Int, m.natAbs <= 8 * n /\ ((ps = [2, 3] /\ ∃ x, z = [x, m * b]) ∨ (ps = [2, 3, 5] /\ ∃ x, z = [x, m * b, m * (2 * c)]))
theorem fam_M (hps : PsOk ps) {b c : Int} (hb : b.natAbs <= 16) (hc : c.natAbs <= 8) : Fam ps (TM ps b c) := by
 constructor
 ·rintro n z ⟨m, hm, ⟨rfl, x, rfl⟩ | ⟨rfl, x, rfl⟩⟩ <;> rfl
 ·rintro m n z hmn ⟨k, hk, h⟩
  exact ⟨k, by omega, h⟩
 ·rintro m n z z' ⟨k, hk, ⟨rfl, x, rfl⟩ | ⟨rfl, x, rfl⟩⟩ ⟨k', hk', ⟨e, x', rfl⟩ | ⟨e, x', rfl⟩⟩
  ·exact ⟨k - k', by omega, .inl ⟨rfl, x - x', by rw [Int.sub_mul]; rfl⟩⟩
  ·cases e
  ·cases e
  ·exact ⟨k - k', by omega, .inr ⟨rfl, x - x', by rw [Int.sub_mul, Int.sub_mul]; rfl⟩⟩
 ·rintro m n z z' ⟨k, hk, ⟨rfl, x, rfl⟩ | ⟨rfl, x, rfl⟩⟩ ⟨k', hk', ⟨e, x', rfl⟩ | ⟨e, x', rfl⟩⟩
  ·exact ⟨k + k', by omega, .inl ⟨rfl, x + x', by rw [Int.add_mul]; rfl⟩⟩
  ·cases e
  ·cases e
  ·exact ⟨k + k', by omega, .inr ⟨rfl, x + x', by rw [Int.add_mul, Int.add_mul]; rfl⟩⟩
 ·intro z hl h
  refine ⟨0, by simp, ?_⟩
  rcases hps with rfl | rfl
  ·obtain ⟨x, y, rfl⟩ := two_of hl
   have h1 := h y (by simp)
   exact .inl ⟨rfl, x, by rw [h1, Int.zero_mul]⟩
  ·obtain ⟨x, y, w, rfl⟩ := three_of hl
   have h1 := h y (by simp)
   have h2 := h w (by simp)
   exact .inr ⟨rfl, x, by rw [h1, h2, Int.zero_mul, Int.zero_mul]⟩
 ·rintro z ⟨m, hm, ⟨rfl, x, rfl⟩ | ⟨rfl, x, rfl⟩⟩
  ·refine ck2_ok ?_
   rw [Int.natAbs_mul]
   have : m.natAbs * b.natAbs <= 32 * 16 := Nat.mul_le_mul (by omega) hb
   omega
  ·exact ck3_mul (by omega) hb hc
end
end Go.Ev

namespace Go.Ev
open Go Go.RowKit
section
variable {ps : List Int} {D : Nat}
theorem foldC_len_skip : ∀ (xs acc : List (List Int)), (∃ z, z ∈ xs /\ redZ D ps z = zsub (redZ D ps z) (redZ D ps z)) -> (xs.foldl (collS D ps) acc).length + 1 <= acc.length + xs.length
 | [], acc, h => by obtain ⟨z, hz, _⟩ := h; simp at hz
 | z :: xs, acc, h => by
  rw [List.foldl_cons, List.length_cons]
  by_cases hz : redZ D ps z = zsub (redZ D ps z) (redZ D ps z)
  ·have h1 := foldC_len (D := D) (ps := ps) xs (collS D ps acc z)
   have h2 : collS D ps acc z = acc := by unfold collS; rw [if_pos hz]
   rw [h2] at h1 ⊢
   omega
  ·have h1 := foldC_len_skip xs (collS D ps acc z) (by
    obtain ⟨w, hw, e⟩ := h
    rcases List.mem_cons.1 hw with rfl | hw
    ·exact absurd e hz
    ·exact ⟨w, hw, e⟩)
   have h2 := collS_len (D := D) (ps := ps) acc z
   omega
theorem notesZ_len_skip {xs : List (List Int)} (h : ∃ z, z ∈ xs /\ redZ D ps z = zsub (redZ D ps z) (redZ D ps z)) : (notesZ D ps xs).length <= xs.length := by
 unfold notesZ
 rw [gsort_len]
 have := foldC_len_skip (D := D) (ps := ps) xs [octZ D ps] h
 unfold coll
 simp at this
 omega
theorem red_zeros (hps : PsOk ps) : redZ D ps (zeros ps) = zeros ps := by
 unfold redZ floorZ
 have : (nearZ ps (zeros ps)).1 = 0 := by
  have := (tail_zero hps zeros_len zeros_tail).1
  rw [this]
  rcases hps with rfl | rfl <;> rfl
 rw [this, Int.zero_ediv]
 rcases hps with rfl | rfl
 ·show [(0 : Int) - (D : Int) * 0, 0 - 0 * 0] = [0, 0]
  rw [Int.mul_zero]; rfl
 ·show [(0 : Int) - (D : Int) * 0, 0 - 0 * 0, 0 - 0 * 0] = [0, 0, 0]
  rw [Int.mul_zero]; rfl
theorem zsub_zeros (hps : PsOk ps) : zsub (zeros ps) (zeros ps) = zeros ps := by rcases hps with rfl | rfl <;> rfl
theorem red_oct (hps : PsOk ps) (hD : 0 < D) : redZ D ps (octZ D ps) = zeros ps := by
 unfold redZ floorZ
 have : (nearZ ps (octZ D ps)).1 = (67108864 * (D : Int)) * 1 := by
  rw [(tail_zero hps (oct_len hps) (oct_tail hps)).1]
  show (D : Int) * 67108864 = _
  omega
 rw [this, Int.mul_ediv_cancel_left _ (by omega)]
 rcases hps with rfl | rfl
 ·show [(D : Int) - (D : Int) * 1, 0 - 0 * 1] = [0, 0]
  rw [Int.mul_one, Int.sub_self]; rfl
 ·show [(D : Int) - (D : Int) * 1, 0 - 0 * 1, 0 - 0 * 1] = [0, 0, 0]
  rw [Int.mul_one, Int.sub_self]; rfl
theorem l35F {T : Nat -> List Int -> Prop} (F : Fam ps T) (hps : PsOk ps) (hD : 0 < D /\ D < 400) {xs : List (List Int)} (hlen : xs.length <= 9) (hx : ∀ z, z ∈ xs -> T 1 z) (hz : ∀ z, z ∈ xs -> ZS 1500 z)
  (ht : ∀ z, z ∈ xs -> ∀ x, x ∈ z.tail -> x.natAbs <= 130) (K : List PVal -> List PVal -> Bool) : Q35 (encPs ps) (encZ D (octZ D ps)) (encZs D xs) K = K (encPs ps) (encZs D (notesZ D ps xs)) := by
 have hT := coll_T (D := D) F hps hx
 refine l35 hps (by omega) hlen (fun z h => ?_) (fun a ha b hb => dec_T F hps (hT a ha) (hT b hb) (by omega)) K
 have hf := ck_fl (D := D) hps (F.len (hx z h)) (F.ck (F.mono (by omega) (hx z h)))
 exact ⟨F.len (hx z h), hz z h, hf, (red_small hps hD (F.len (hx z h)) hf (ht z h)).mono (by omega)⟩
end
def PsB (b : Bool) : List Int := if b then [2, 3, 5] else [2, 3]
theorem PsB_ok (b : Bool) : PsOk (PsB b) := by cases b; exact .inl rfl; exact .inr rfl
theorem oct_unit {ps : List Int} (hps : PsOk ps) {m : Nat} (hm : 0 < m) : vscale (zR m (octZ m ps)) (mkRat 1 m) = zR m (octZ 1 ps) := by
 have h1 : mkRat (m : Int) m = 1 := by
  have : mkRat (m : Int) m = mkRat 1 1 := (Rat.mkRat_eq_iff (by omega) (by omega)).2 (by simp)
  rw [this]; rfl
 have h0 : mkRat 0 m = 0 := by simp
 rcases hps with rfl | rfl
 ·show [mkRat (m : Int) m * mkRat 1 m, mkRat 0 m * mkRat 1 m] = [mkRat ((1 : Nat) : Int) m, mkRat 0 m]
  rw [h1, h0, Rat.one_mul, Rat.zero_mul]; rfl
 ·show [mkRat (m : Int) m * mkRat 1 m, mkRat 0 m * mkRat 1 m, mkRat 0 m * mkRat 1 m] = [mkRat ((1 : Nat) : Int) m, mkRat 0 m, mkRat 0 m]
  rw [h1, h0, Rat.one_mul, Rat.zero_mul]; rfl
theorem unit_scale {ps : List Int} (hps : PsOk ps) (k : Int) : zscale (octZ 1 ps) k = k :: ps.tail.map fun _ => 0 := by
 rcases hps with rfl | rfl
 ·show [((1 : Nat) : Int) * k, 0 * k] = [k, 0]
  rw [Int.zero_mul]; simp
 ·show [((1 : Nat) : Int) * k, 0 * k, 0 * k] = [k, 0, 0]
  rw [Int.zero_mul]; simp
theorem kind0 {ps : List Int} (hps : PsOk ps) {m : Nat} (hm : 0 < m /\ m <= 9) : ∃ D notes, Sc ps D notes /\ ∀ K : List PVal -> List PVal -> Bool,
  Q36 (encPs ps) (fun z2v => (Q36 (encPs ps) (fun z3v => (Q39 1 (m : Int) (fun z4v z5v => (Q38 z3v z4v z5v (fun z6v => (Q37 z6v 1 (m : Int) (fun z7v => (Q35 (encPs ps) z2v z7v (fun z8v z9v => (K z8v z9v)))))))))))) = K (encPs ps) (encZs D notes) := by
 have hpl := hps.len
 have tl : ∀ k : Int, ∀ x, x ∈ (k :: ps.tail.map fun _ => (0 : Int)).tail -> x = 0 := by
  intro k x hx
  obtain ⟨_, _, e⟩ := List.mem_map.1 (show x ∈ ps.tail.map fun _ => (0 : Int) from hx)
  exact e.symm
 have ln : ∀ k : Int, (k :: ps.tail.map fun _ => (0 : Int)).length = ps.length := by intro k; simp; omega
 have F := fam_B hps
 have xT : ∀ z, z ∈ ((List.range m).map fun (i : Nat) => zscale (octZ 1 ps) (1 + (i : Int))) -> TB ps 1 z := by
  intro z hz
  obtain ⟨i, hi, rfl⟩ := List.mem_map.1 hz
  rw [unit_scale hps]
  exact F.mono (by omega) (F.pure (ln _) (tl _))
 have xS : ∀ z, z ∈ ((List.range m).map fun (i : Nat) => zscale (octZ 1 ps) (1 + (i : Int))) -> ZS 1500 z := by
  intro z hz
  obtain ⟨i, hi, rfl⟩ := List.mem_map.1 hz
  have hi := List.mem_range.1 hi
  rw [unit_scale hps]
  intro x hx
  rcases List.mem_cons.1 hx with rfl | hx
  ·omega
  ·rw [tl 0 x hx]; simp
 have xt : ∀ z, z ∈ ((List.range m).map fun (i : Nat) => zscale (octZ 1 ps) (1 + (i : Int))) -> ∀ x, x ∈ z.tail -> x.natAbs <= 130 := by
  intro z hz x hx
  have := (xT z hz).2 x hx
  omega
 have skip : ∃ z, z ∈ ((List.range m).map fun (i : Nat) => zscale (octZ 1 ps) (1 + (i : Int))) /\ redZ m ps z = zsub (redZ m ps z) (redZ m ps z) := by
  refine ⟨octZ m ps, List.mem_map.2 ⟨m - 1, List.mem_range.2 (by omega), ?_⟩, ?_⟩
  ·rw [unit_scale hps]
   show _ = (m : Int) :: _
   congr 1; omega
  ·rw [red_oct hps hm.1, zsub_zeros hps]
 refine ⟨m, notesZ m ps ((List.range m).map fun (i : Nat) => zscale (octZ 1 ps) (1 + (i : Int))), notesZ_Sc F hps (by omega) (Nat.le_trans (notesZ_len_skip skip) (by simp; omega)) xT xt, fun K => ?_⟩
 rw [l36 hps hm.1, l36 hps hm.1, l39 hm.1 (by omega) (by omega)]
 have oS : ZS 15000 (octZ m ps) := by
  intro x hx
  rcases List.mem_cons.1 hx with rfl | hx
  ·omega
  ·rw [tl 0 x hx]; simp
 have h1 := num_small (n := 1) hm.1
 have h2 := den_small (n := 1) hm.1
 have h3 := l38 (v := zR m (octZ m ps)) (q := mkRat 1 m) (SRV.of (by omega) oS) ⟨by omega, by omega⟩ (by rw [zR_len, oct_len hps]; omega) (by rw [zR_len, oct_len hps]; omega)
  (fun z6v => (Q37 z6v 1 (m : Int) (fun z7v => (Q35 (encPs ps) (encZ m (octZ m ps)) z7v (fun z8v z9v => (K z8v z9v))))))
 refine h3.trans ?_
 rw [oct_unit hps hm.1]
 have h4 := l37 (D := m) hps (by omega) (a := octZ 1 ps) (from_ := 1) (m := m) (oct_len hps) (by
  intro x hx
  rcases List.mem_cons.1 hx with rfl | hx
  ·simp
  ·rw [tl 0 x hx]; simp) (by omega) (by omega)
 rw [show (1 : Int) + (m : Int) - 1 = (m : Int) by omega] at h4
 refine (h4 _).trans ?_
 exact l35F F hps (by omega) (by simp; omega) xT xS xt _
theorem kind1 (th : Bool) {x y z : Int} (hx : -128 <= x /\ x <= 127) (hy : -128 <= y /\ y <= 127) (hz : -128 <= z /\ z <= 127) {m : Nat} (hm : 0 < m /\ m <= 9) : ∃ D notes, Sc (PsB th) D notes /\ ∀ K : List PVal -> List PVal -> Bool,
  Q36 (encPs (PsB th)) (fun z10v => (Q40 (encPs (PsB th)) x y z (fun z11v => (Q37 z11v 0 ((m : Int) - 1) (fun z12v => (Q35 (encPs (PsB th)) z10v z12v (fun z13v z14v => (K z13v z14v)))))))) = K (encPs (PsB th)) (encZs D notes) := by
 have hps := PsB_ok th
 have m0 := tmod9 x
 have m1 := tmod9 y
 have m2 := tmod9 z
 have hb : ((if y < 0 then 1 else 2) * Int.tmod y 9).natAbs <= 16 := by split <;> omega
 have F := fam_M hps (b := (if y < 0 then 1 else 2) * Int.tmod y 9) (c := Int.tmod z 9) hb (by omega)
 have e40 : ∀ K, Q40 (encPs (PsB th)) x y z K = K (encZ 2 (sizeZ (PsB th) x y z)) := by
  intro K
  cases th
  ·exact l40_2 hx hy K
  ·exact l40_3 hx hy hz K
 have gl : (sizeZ (PsB th) x y z).length = (PsB th).length := by cases th <;> rfl
 have gS : ZS 17 (sizeZ (PsB th) x y z) := by
  intro w hw
  cases th
  ·have hw : w ∈ [2 * Int.tmod x 9, (if y < 0 then 1 else 2) * Int.tmod y 9] := hw
   simp only [List.mem_cons, List.not_mem_nil, or_false] at hw
   rcases hw with rfl | rfl <;> omega
  ·have hw : w ∈ [2 * Int.tmod x 9, (if y < 0 then 1 else 2) * Int.tmod y 9, 2 * Int.tmod z 9] := hw
   simp only [List.mem_cons, List.not_mem_nil, or_false] at hw
   rcases hw with rfl | rfl | rfl <;> omega
 have xT : ∀ w, w ∈ ((List.range m).map fun (i : Nat) => zscale (sizeZ (PsB th) x y z) (0 + (i : Int))) -> TM (PsB th) ((if y < 0 then 1 else 2) * Int.tmod y 9) (Int.tmod z 9) 1 w := by
  intro w hw
  obtain ⟨i, hi, rfl⟩ := List.mem_map.1 hw
  have hi := List.mem_range.1 hi
  refine ⟨(i : Int), by omega, ?_⟩
  rw [Int.zero_add]
  cases th
  ·refine .inl ⟨rfl, 2 * Int.tmod x 9 * (i : Int), ?_⟩
   rw [Int.mul_comm (i : Int)]
   rfl
  ·refine .inr ⟨rfl, 2 * Int.tmod x 9 * (i : Int), ?_⟩
   rw [Int.mul_comm (i : Int), Int.mul_comm (i : Int)]
   rfl
 have xS' : ∀ w, w ∈ ((List.range m).map fun (i : Nat) => zscale (sizeZ (PsB th) x y z) (0 + (i : Int))) -> ZS 131 w := by
  intro w hw
  obtain ⟨i, hi, rfl⟩ := List.mem_map.1 hw
  have hi := List.mem_range.1 hi
  intro v hv
  obtain ⟨u, hu, rfl⟩ := List.mem_map.1 hv
  have h1 := gS u hu
  rw [Int.natAbs_mul]
  have : u.natAbs * (0 + (i : Int)).natAbs <= 16 * 8 := Nat.mul_le_mul (by omega) (by omega)
  omega
 have xt : ∀ w, w ∈ ((List.range m).map fun (i : Nat) => zscale (sizeZ (PsB th) x y z) (0 + (i : Int))) -> ∀ v, v ∈ w.tail -> v.natAbs <= 130 := by
  intro w hw v hv
  have := xS' w hw v (List.mem_of_mem_tail hv)
  omega
 have skip : ∃ w, w ∈ ((List.range m).map fun (i : Nat) => zscale (sizeZ (PsB th) x y z) (0 + (i : Int))) /\ redZ 2 (PsB th) w = zsub (redZ 2 (PsB th) w) (redZ 2 (PsB th) w) := by
  refine ⟨zeros (PsB th), List.mem_map.2 ⟨0, List.mem_range.2 (by omega), ?_⟩, by rw [red_zeros hps, zsub_zeros hps]⟩
  cases th
  ·show [2 * Int.tmod x 9 * 0, (if y < 0 then 1 else 2) * Int.tmod y 9 * 0] = [0, 0]
   rw [Int.mul_zero, Int.mul_zero]
  ·show [2 * Int.tmod x 9 * 0, (if y < 0 then 1 else 2) * Int.tmod y 9 * 0, 2 * Int.tmod z 9 * 0] = [0, 0, 0]
   rw [Int.mul_zero, Int.mul_zero, Int.mul_zero]
 refine ⟨2, notesZ 2 (PsB th) ((List.range m).map fun (i : Nat) => zscale (sizeZ (PsB th) x y z) (0 + (i : Int))), notesZ_Sc F hps (by omega) (Nat.le_trans (notesZ_len_skip skip) (by simp; omega)) xT xt, fun K => ?_⟩
 rw [l36 hps (D := 2) (by omega), e40]
 have h4 := l37 (D := 2) hps (by omega) (a := sizeZ (PsB th) x y z) (from_ := 0) (m := m) gl (gS.mono (by omega)) (by omega) (by omega)
 rw [show (0 : Int) + (m : Int) - 1 = (m : Int) - 1 by omega] at h4
 refine (h4 _).trans ?_
 exact l35F F hps (by omega) (by simp; omega) xT (fun w hw => (xS' w hw).mono (by omega)) xt _
def sAt (n0 n1 n2 n3 n4 n5 n6 n7 n8 n9 n10 n11 n12 n13 n14 n15 n16 n17 n18 n19 n20 n21 n22 n23 : Int) : Nat -> Int × Int × Int
 | 0 => (n0, n1, n2)
 | 1 => (n3, n4, n5)
 | 2 => (n6, n7, n8)
 | 3 => (n9, n10, n11)
 | 4 => (n12, n13, n14)
 | 5 => (n15, n16, n17)
 | 6 => (n18, n19, n20)
 | 7 => (n21, n22, n23)
 | _ => (0, 0, 0)
theorem kind2 (th : Bool) (kd nm : Int) {n0 n1 n2 n3 n4 n5 n6 n7 n8 n9 n10 n11 n12 n13 n14 n15 n16 n17 n18 n19 n20 n21 n22 n23 : Int} (h : ∀ i, i < 8 -> (-128 <= (sAt n0 n1 n2 n3 n4 n5 n6 n7 n8 n9 n10 n11 n12 n13 n14 n15 n16 n17 n18 n19 n20 n21 n22 n23 i).1 /\ (sAt n0 n1 n2 n3 n4 n5 n6 n7 n8 n9 n10 n11 n12 n13 n14 n15 n16 n17 n18 n19 n20 n21 n22 n23 i).1 <= 127) /\ (-128 <= (sAt n0 n1 n2 n3 n4 n5 n6 n7 n8 n9 n10 n11 n12 n13 n14 n15 n16 n17 n18 n19 n20 n21 n22 n23 i).2.1 /\ (sAt n0 n1 n2 n3 n4 n5 n6 n7 n8 n9 n10 n11 n12 n13 n14 n15 n16 n17 n18 n19 n20 n21 n22 n23 i).2.1 <= 127) /\ (-128 <= (sAt n0 n1 n2 n3 n4 n5 n6 n7 n8 n9 n10 n11 n12 n13 n14 n15 n16 n17 n18 n19 n20 n21 n22 n23 i).2.2 /\ (sAt n0 n1 n2 n3 n4 n5 n6 n7 n8 n9 n10 n11 n12 n13 n14 n15 n16 n17 n18 n19 n20 n21 n22 n23 i).2.2 <= 127)) {m : Nat} (hm : 0 < m /\ m <= 8) : ∃ D notes, Sc (PsB th) D notes /\ ∀ (E : List PVal -> Bool) (K : List PVal -> List PVal -> Bool),
  L12_1_0 E (fun y63v y64v => (Q36 y63v (fun z65v => (Q35 y63v z65v y64v (fun z66v z67v => (K z66v z67v)))))) fuel (encPs (PsB th)) (m : Int) 0 th kd nm n0 n1 n2 n3 n4 n5 n6 n7 n8 n9 n10 n11 n12 n13 n14 n15 n16 n17 n18 n19 n20 n21 n22 n23 = K (encPs (PsB th)) (encZs D notes) := by
 have hps := PsB_ok th
 have e40 : ∀ i, i < 8 -> ∀ K, Q40 (encPs (PsB th)) (sAt n0 n1 n2 n3 n4 n5 n6 n7 n8 n9 n10 n11 n12 n13 n14 n15 n16 n17 n18 n19 n20 n21 n22 n23 i).1 (sAt n0 n1 n2 n3 n4 n5 n6 n7 n8 n9 n10 n11 n12 n13 n14 n15 n16 n17 n18 n19 n20 n21 n22 n23 i).2.1 (sAt n0 n1 n2 n3 n4 n5 n6 n7 n8 n9 n10 n11 n12 n13 n14 n15 n16 n17 n18 n19 n20 n21 n22 n23 i).2.2 K = K (encZ 2 (sizeZ (PsB th) (sAt n0 n1 n2 n3 n4 n5 n6 n7 n8 n9 n10 n11 n12 n13 n14 n15 n16 n17 n18 n19 n20 n21 n22 n23 i).1 (sAt n0 n1 n2 n3 n4 n5 n6 n7 n8 n9 n10 n11 n12 n13 n14 n15 n16 n17 n18 n19 n20 n21 n22 n23 i).2.1 (sAt n0 n1 n2 n3 n4 n5 n6 n7 n8 n9 n10 n11 n12 n13 n14 n15 n16 n17 n18 n19 n20 n21 n22 n23 i).2.2)) := by
  intro i hi K
  obtain ⟨a, b, c⟩ := h i hi
  cases th
  ·exact l40_2 a b K
  ·exact l40_3 a b c K
 generalize hs : (fun i => sizeZ (PsB th) (sAt n0 n1 n2 n3 n4 n5 n6 n7 n8 n9 n10 n11 n12 n13 n14 n15 n16 n17 n18 n19 n20 n21 n22 n23 i).1 (sAt n0 n1 n2 n3 n4 n5 n6 n7 n8 n9 n10 n11 n12 n13 n14 n15 n16 n17 n18 n19 n20 n21 n22 n23 i).2.1 (sAt n0 n1 n2 n3 n4 n5 n6 n7 n8 n9 n10 n11 n12 n13 n14 n15 n16 n17 n18 n19 n20 n21 n22 n23 i).2.2) = g
 have hg : ∀ i, sizeZ (PsB th) (sAt n0 n1 n2 n3 n4 n5 n6 n7 n8 n9 n10 n11 n12 n13 n14 n15 n16 n17 n18 n19 n20 n21 n22 n23 i).1 (sAt n0 n1 n2 n3 n4 n5 n6 n7 n8 n9 n10 n11 n12 n13 n14 n15 n16 n17 n18 n19 n20 n21 n22 n23 i).2.1 (sAt n0 n1 n2 n3 n4 n5 n6 n7 n8 n9 n10 n11 n12 n13 n14 n15 n16 n17 n18 n19 n20 n21 n22 n23 i).2.2 = g i := fun i => by rw [<- hs]
 have gl : ∀ i, (g i).length = (PsB th).length := by intro i; rw [<- hg]; cases th <;> rfl
 have gS : ∀ i, ZS 17 (g i) := by
  intro i w hw
  rw [<- hg] at hw
  have m0 := tmod9 (sAt n0 n1 n2 n3 n4 n5 n6 n7 n8 n9 n10 n11 n12 n13 n14 n15 n16 n17 n18 n19 n20 n21 n22 n23 i).1
  have m1 := tmod9 (sAt n0 n1 n2 n3 n4 n5 n6 n7 n8 n9 n10 n11 n12 n13 n14 n15 n16 n17 n18 n19 n20 n21 n22 n23 i).2.1
  have m2 := tmod9 (sAt n0 n1 n2 n3 n4 n5 n6 n7 n8 n9 n10 n11 n12 n13 n14 n15 n16 n17 n18 n19 n20 n21 n22 n23 i).2.2
  generalize (sAt n0 n1 n2 n3 n4 n5 n6 n7 n8 n9 n10 n11 n12 n13 n14 n15 n16 n17 n18 n19 n20 n21 n22 n23 i).1 = x at *
  generalize (sAt n0 n1 n2 n3 n4 n5 n6 n7 n8 n9 n10 n11 n12 n13 n14 n15 n16 n17 n18 n19 n20 n21 n22 n23 i).2.1 = y at *
  generalize (sAt n0 n1 n2 n3 n4 n5 n6 n7 n8 n9 n10 n11 n12 n13 n14 n15 n16 n17 n18 n19 n20 n21 n22 n23 i).2.2 = z at *
  cases th
  ·have hw : w ∈ [2 * Int.tmod x 9, (if y < 0 then 1 else 2) * Int.tmod y 9] := hw
   simp only [List.mem_cons, List.not_mem_nil, or_false] at hw
   rcases hw with rfl | rfl
   ·omega
   ·split <;> omega
  ·have hw : w ∈ [2 * Int.tmod x 9, (if y < 0 then 1 else 2) * Int.tmod y 9, 2 * Int.tmod z 9] := hw
   simp only [List.mem_cons, List.not_mem_nil, or_false] at hw
   rcases hw with rfl | rfl | rfl
   ·omega
   ·split <;> omega
   ·omega
 have F := fam_B hps
 have xT : ∀ w, w ∈ (List.range m).map g -> TB (PsB th) 1 w := by
  intro w hw
  obtain ⟨i, hi, rfl⟩ := List.mem_map.1 hw
  exact ⟨gl i, fun x hx => by have := gS i x (List.mem_of_mem_tail hx); omega⟩
 have xS : ∀ w, w ∈ (List.range m).map g -> ZS 17 w := by
  intro w hw
  obtain ⟨i, hi, rfl⟩ := List.mem_map.1 hw
  exact gS i
 have xt : ∀ w, w ∈ (List.range m).map g -> ∀ v, v ∈ w.tail -> v.natAbs <= 130 := by
  intro w hw v hv
  have := xS w hw v (List.mem_of_mem_tail hv)
  omega
 refine ⟨2, notesZ 2 (PsB th) ((List.range m).map g), notesZ_Sc F hps (by omega) (Nat.le_trans (notesZ_len _).2 (by simp; omega)) xT xt, fun E K => ?_⟩
 have fin : ∀ acc, acc = encZs 2 ((List.range m).map g) -> (Q36 (encPs (PsB th)) (fun z65v => (Q35 (encPs (PsB th)) z65v acc (fun z66v z67v => (K z66v z67v))))) = K (encPs (PsB th)) (encZs 2 (notesZ 2 (PsB th) ((List.range m).map g))) := by
  rintro acc rfl
  rw [l36 hps (D := 2) (by omega)]
  exact l35F F hps (by omega) (by simp; omega) xT (fun w hw => (xS w hw).mono (by omega)) xt _
 refine Eq.trans ?_ (fin ((List.range m).map fun i => xV (encZ 2 (g i))) (by simp [encZs]))
 generalize hE1 : (fun y63v y64v => (Q36 y63v (fun z65v => (Q35 y63v z65v y64v (fun z66v z67v => (K z66v z67v)))))) = E1
 have hf : (Q36 (encPs (PsB th)) (fun z65v => (Q35 (encPs (PsB th)) z65v ((List.range m).map fun i => xV (encZ 2 (g i))) (fun z66v z67v => (K z66v z67v))))) = E1 (encPs (PsB th)) ((List.range m).map fun i => xV (encZ 2 (g i))) := by rw [<- hE1]
 rw [hf]
 have h0 : ∀ n, (LP12_1 E E1 (n + 1)).1 (encPs (PsB th)) (m : Int) 0 th kd nm n0 n1 n2 n3 n4 n5 n6 n7 n8 n9 n10 n11 n12 n13 n14 n15 n16 n17 n18 n19 n20 n21 n22 n23 = (LP12_1 E E1 n).2 (encPs (PsB th)) (m : Int) ((1 : Nat) : Int) th kd nm n0 n1 n2 n3 n4 n5 n6 n7 n8 n9 n10 n11 n12 n13 n14 n15 n16 n17 n18 n19 n20 n21 n22 n23 [xV (encZ 2 (g 0))] := by
  intro n
  have st : (LP12_1 E E1 (n + 1)).1 (encPs (PsB th)) (m : Int) 0 th kd nm n0 n1 n2 n3 n4 n5 n6 n7 n8 n9 n10 n11 n12 n13 n14 n15 n16 n17 n18 n19 n20 n21 n22 n23 = bif decide ((0 : Int) < (m : Int)) then Q40 (encPs (PsB th)) (sAt n0 n1 n2 n3 n4 n5 n6 n7 n8 n9 n10 n11 n12 n13 n14 n15 n16 n17 n18 n19 n20 n21 n22 n23 0).1 (sAt n0 n1 n2 n3 n4 n5 n6 n7 n8 n9 n10 n11 n12 n13 n14 n15 n16 n17 n18 n19 n20 n21 n22 n23 0).2.1 (sAt n0 n1 n2 n3 n4 n5 n6 n7 n8 n9 n10 n11 n12 n13 n14 n15 n16 n17 n18 n19 n20 n21 n22 n23 0).2.2 (fun z => (LP12_1 E E1 n).2 (encPs (PsB th)) (m : Int) ((1 : Nat) : Int) th kd nm n0 n1 n2 n3 n4 n5 n6 n7 n8 n9 n10 n11 n12 n13 n14 n15 n16 n17 n18 n19 n20 n21 n22 n23 [xV z]) else E (encPs (PsB th)) := rfl
  rw [st, e40 0 (by omega), hg, decide_eq_true (by omega), cond_true]
 have h1 : ∀ i, i < 8 -> i < m -> ∀ n acc, acc.length = i -> (LP12_1 E E1 (n + 1)).2 (encPs (PsB th)) (m : Int) (i : Int) th kd nm n0 n1 n2 n3 n4 n5 n6 n7 n8 n9 n10 n11 n12 n13 n14 n15 n16 n17 n18 n19 n20 n21 n22 n23 acc = (LP12_1 E E1 n).2 (encPs (PsB th)) (m : Int) ((i + 1 : Nat) : Int) th kd nm n0 n1 n2 n3 n4 n5 n6 n7 n8 n9 n10 n11 n12 n13 n14 n15 n16 n17 n18 n19 n20 n21 n22 n23 (acc ++ [xV (encZ 2 (g i))]) := by
  intro i hi him n acc ha
  have st : (LP12_1 E E1 (n + 1)).2 (encPs (PsB th)) (m : Int) (i : Int) th kd nm n0 n1 n2 n3 n4 n5 n6 n7 n8 n9 n10 n11 n12 n13 n14 n15 n16 n17 n18 n19 n20 n21 n22 n23 acc = bif decide ((i : Int) < (m : Int)) then Q40 (encPs (PsB th)) (sAt n0 n1 n2 n3 n4 n5 n6 n7 n8 n9 n10 n11 n12 n13 n14 n15 n16 n17 n18 n19 n20 n21 n22 n23 i).1 (sAt n0 n1 n2 n3 n4 n5 n6 n7 n8 n9 n10 n11 n12 n13 n14 n15 n16 n17 n18 n19 n20 n21 n22 n23 i).2.1 (sAt n0 n1 n2 n3 n4 n5 n6 n7 n8 n9 n10 n11 n12 n13 n14 n15 n16 n17 n18 n19 n20 n21 n22 n23 i).2.2 (fun z => gd (decide (acc.length + 1 <= maxElems)) ((LP12_1 E E1 n).2 (encPs (PsB th)) (m : Int) ((i + 1 : Nat) : Int) th kd nm n0 n1 n2 n3 n4 n5 n6 n7 n8 n9 n10 n11 n12 n13 n14 n15 n16 n17 n18 n19 n20 n21 n22 n23 (acc ++ [xV z]))) else E1 (encPs (PsB th)) acc := by
   match i, hi with
   | 0, _ => rfl
   | 1, _ => rfl
   | 2, _ => rfl
   | 3, _ => rfl
   | 4, _ => rfl
   | 5, _ => rfl
   | 6, _ => rfl
   | 7, _ => rfl
  rw [st, e40 i hi, hg, decide_eq_true (by omega), cond_true, maxE ha (by omega), gd_true]
 have h2 : ∀ n acc, (LP12_1 E E1 (n + 1)).2 (encPs (PsB th)) (m : Int) (m : Int) th kd nm n0 n1 n2 n3 n4 n5 n6 n7 n8 n9 n10 n11 n12 n13 n14 n15 n16 n17 n18 n19 n20 n21 n22 n23 acc = E1 (encPs (PsB th)) acc := by
  intro n acc
  have hd : decide ((m : Int) < (m : Int)) = false := decide_eq_false (by omega)
  simp only [LP12_1, St12_1_1, hd, cond_false]
 exact append_loop (A := fun n i => (LP12_1 E E1 n).1 (encPs (PsB th)) (m : Int) i th kd nm n0 n1 n2 n3 n4 n5 n6 n7 n8 n9 n10 n11 n12 n13 n14 n15 n16 n17 n18 n19 n20 n21 n22 n23) (B := fun n i acc => (LP12_1 E E1 n).2 (encPs (PsB th)) (m : Int) i th kd nm n0 n1 n2 n3 n4 n5 n6 n7 n8 n9 n10 n11 n12 n13 n14 n15 n16 n17 n18 n19 n20 n21 n22 n23 acc) (m := m) (f := fun i => xV (encZ 2 (g i))) (R := fun acc => E1 (encPs (PsB th)) acc) hm.1
  h0 (fun i h3 h4 n acc ha => h1 i (by omega) h4 n acc ha) (fun n acc _ => h2 n acc) fuel (fuel_gt (by omega))
theorem l12 (th : Bool) {kd nm : Int} {n0 n1 n2 n3 n4 n5 n6 n7 n8 n9 n10 n11 n12 n13 n14 n15 n16 n17 n18 n19 n20 n21 n22 n23 : Int} (hk : 0 <= kd) (hn : 0 <= nm) (h : ∀ i, i < 8 -> (-128 <= (sAt n0 n1 n2 n3 n4 n5 n6 n7 n8 n9 n10 n11 n12 n13 n14 n15 n16 n17 n18 n19 n20 n21 n22 n23 i).1 /\ (sAt n0 n1 n2 n3 n4 n5 n6 n7 n8 n9 n10 n11 n12 n13 n14 n15 n16 n17 n18 n19 n20 n21 n22 n23 i).1 <= 127) /\ (-128 <= (sAt n0 n1 n2 n3 n4 n5 n6 n7 n8 n9 n10 n11 n12 n13 n14 n15 n16 n17 n18 n19 n20 n21 n22 n23 i).2.1 /\ (sAt n0 n1 n2 n3 n4 n5 n6 n7 n8 n9 n10 n11 n12 n13 n14 n15 n16 n17 n18 n19 n20 n21 n22 n23 i).2.1 <= 127) /\ (-128 <= (sAt n0 n1 n2 n3 n4 n5 n6 n7 n8 n9 n10 n11 n12 n13 n14 n15 n16 n17 n18 n19 n20 n21 n22 n23 i).2.2 /\ (sAt n0 n1 n2 n3 n4 n5 n6 n7 n8 n9 n10 n11 n12 n13 n14 n15 n16 n17 n18 n19 n20 n21 n22 n23 i).2.2 <= 127)) :
  ∃ D notes, Sc (PsB th) D notes /\ ∀ K : List PVal -> List PVal -> Bool, Q12 th kd nm n0 n1 n2 n3 n4 n5 n6 n7 n8 n9 n10 n11 n12 n13 n14 n15 n16 n17 n18 n19 n20 n21 n22 n23 K = K (encPs (PsB th)) (encZs D notes) := by
 have e34 : ∀ X : List PVal -> Bool, Q34 th kd nm n0 n1 n2 n3 n4 n5 n6 n7 n8 n9 n10 n11 n12 n13 n14 n15 n16 n17 n18 n19 n20 n21 n22 n23 X = X (encPs (PsB th)) := by
  intro X
  rw [Q34_def]; unfold G34
  cases th <;> rfl
 have hmod := tmod9 nm
 have hmod0 : 0 <= Int.tmod nm 9 := Int.tmod_nonneg _ hn
 obtain ⟨m, hm⟩ : ∃ m : Nat, (m : Int) = 1 + Int.tmod nm 9 := ⟨(1 + Int.tmod nm 9).toNat, by omega⟩
 have hw : wI (1 + (wI (Int.tmod nm 9))) = (m : Int) := by
  rw [wI_eq (n := Int.tmod nm 9) (by omega), wI_eq (by omega), hm]
 have hw1 : wI ((m : Int) - 1) = (m : Int) - 1 := wI_eq (by omega)
 by_cases c0 : (Int.tmod kd 3 == 0) = true
 ·obtain ⟨D, notes, hs, hK⟩ := kind0 (PsB_ok th) (m := m) (by omega)
  refine ⟨D, notes, hs, fun K => ?_⟩
  rw [Q12_def]; unfold G12
  rw [e34, c0, cond_true, hw]
  exact hK K
 ·have c0 : (Int.tmod kd 3 == 0) = false := by simpa using c0
  by_cases c1 : (Int.tmod kd 3 == 1) = true
  ·obtain ⟨D, notes, hs, hK⟩ := kind1 th (h 0 (by omega)).1 (h 0 (by omega)).2.1 (h 0 (by omega)).2.2 (m := m) (by omega)
   refine ⟨D, notes, hs, fun K => ?_⟩
   rw [Q12_def]; unfold G12
   rw [e34, c0, c1, cond_true, cond_false, hw, hw1]
   exact hK K
  ·have c1 : (Int.tmod kd 3 == 1) = false := by simpa using c1
   obtain ⟨k, hk2, hk8⟩ : ∃ k : Nat, (k : Int) = (if 8 < (m : Int) then 8 else (m : Int)) /\ 0 < k /\ k <= 8 := by
    refine ⟨if 8 < m then 8 else m, ?_, ?_⟩
    ·split <;> split <;> omega
    ·split <;> omega
   obtain ⟨D, notes, hs, hK⟩ := kind2 th kd nm h hk8
   refine ⟨D, notes, hs, fun K => ?_⟩
   rw [Q12_def]; unfold G12
   rw [e34, c0, c1, cond_false, cond_false, hw, <- hk2]
   exact hK _ K
end Go.Ev
