/- An abstract machine over values, and that it is sound for the model. No conditions -/
import Derived.Below
import Derived.Orders
import Derived.LoopN
import Derived.Laws.Cells
import Derived.Maps.AppendAt
import Derived.Laws.MakeOwn
import Derived.WalkKit
import Derived.Laws.StructEq
set_option linter.unusedVariables false
set_option linter.unusedSimpArgs false
namespace Go.Ev
open Go Go.RowKit
inductive PVal where
 | lit (v : Value)
 | agg (cs : List PVal)
 | sl (es : List PVal)
 | adr (es : List PVal) (i j : Nat)
 | clo (f : Nat) (first caps : List PVal)
 deriving Inhabited
inductive LVal where
 | undef
 | p (v : PVal)
 | adr (id i j : Nat)
 | own (id : Nat)
 | sl (id off len : Nat)
 | clo (f : Nat) (first caps : List LVal)
 | tup (vs : List LVal)
 deriving Inhabited
inductive LObj where
 | none
 | box (fz : Bool) (cs : List LVal)
 | buf (fz : Bool) (ty k : Nat) (es : List PVal)
 deriving Inhabited
def PVal.cells : PVal -> List PVal
 | .agg cs => cs
 | v => [v]
def PVal.one : PVal -> Bool
 | .lit v => v.oneCell'
 | .agg _ => false
 | _ => true
abbrev PSet := Nat -> Nat -> Prop
def RowOk (w : World) (S : PSet) (b o k n : Nat) (V : Nat -> Value) : Prop :=
 ∀ i, i < n -> (V i).cells.size = k /\ ∀ j, j < k -> S b (o + i * k + j) /\ ∃ u, (V i).cells[j]? = some u /\ u.oneCell' = true /\ w.cell? ⟨b, o + i * k + j, Option.none⟩ = some u
inductive RepP (w : World) (S : PSet) : PVal -> Value -> Prop
 | lit (v : Value) : RepP w S (.lit v) v
 | agg (cs : List PVal) (vs : Array Value) (hs : vs.size = cs.length) (h : ∀ i (hi : i < cs.length), RepP w S cs[i] (vs[i]'(hs ▸ hi))) : RepP w S (.agg cs) (.agg vs)
 | nil : RepP w S (.sl []) (.slice Option.none 0 0)
 | sl (es : List PVal) (b o cap k : Nat) (V : Nat -> Value) (hcap : es.length <= cap) (hV : ∀ i (hi : i < es.length), RepP w S es[i] (V i)) (hr : RowOk w S b o k es.length V) :
   RepP w S (.sl es) (.slice (some ⟨b, o, Option.none⟩) es.length cap)
 | adr (es : List PVal) (i j b o k : Nat) (V : Nat -> Value) (hi : i < es.length) (hj : j < k) (hV : ∀ i (hi : i < es.length), RepP w S es[i] (V i)) (hr : RowOk w S b o k es.length V) :
   RepP w S (.adr es i j) (.pointer (some ⟨b, o + i * k + j, Option.none⟩))
 | clo (f : Nat) (first caps : List PVal) (fs cs : Array Value) (h1 : fs.size = first.length) (h2 : cs.size = caps.length)
   (hf : ∀ i (hi : i < first.length), RepP w S first[i] (fs[i]'(h1 ▸ hi))) (hc : ∀ i (hi : i < caps.length), RepP w S caps[i] (cs[i]'(h2 ▸ hi))) :
   RepP w S (.clo f first caps) (.func (.func f) fs cs)
def Keeps (S : PSet) (w w' : World) : Prop := ∀ b o, S b o -> ∀ u, w.cell? ⟨b, o, Option.none⟩ = some u -> w'.cell? ⟨b, o, Option.none⟩ = some u
theorem RowOk.mono {w w' : World} {S S' : PSet} {b o k n : Nat} {V : Nat -> Value} (h : RowOk w S b o k n V) (hk : Keeps S w w') (hS : ∀ b o, S b o -> S' b o) : RowOk w' S' b o k n V :=
 fun i hi => ⟨(h i hi).1, fun j hj => let ⟨hs, u, h1, h2, h3⟩ := (h i hi).2 j hj; ⟨hS _ _ hs, u, h1, h2, hk _ _ hs _ h3⟩⟩
theorem RepP.mono {w w' : World} {S S' : PSet} (hk : Keeps S w w') (hS : ∀ b o, S b o -> S' b o) {p : PVal} {v : Value} (h : RepP w S p v) : RepP w' S' p v := by
 induction h with
 | lit v => exact .lit v
 | agg cs vs hs _ ih => exact .agg cs vs hs ih
 | nil => exact .nil
 | sl es b o cap k V hcap _ hr ih => exact .sl es b o cap k V hcap ih (hr.mono hk hS)
 | adr es i j b o k V hi hj _ hr ih => exact .adr es i j b o k V hi hj ih (hr.mono hk hS)
 | clo f first caps fs cs h1 h2 _ _ ihf ihc => exact .clo f first caps fs cs h1 h2 ihf ihc
structure Ix where
 m : Nat -> Nat
 k : Nat -> Nat
 n : Nat -> Nat
def HasBlk (w : World) (b sz : Nat) : Prop := ∃ cur ty fr, w.heap[b]? = some (.cells cur ty fr) /\ cur.size = sz
inductive RepL (w : World) (S : PSet) (x : Ix) : LVal -> Value -> Prop
 | undef (v : Value) : RepL w S x .undef v
 | p {pv : PVal} {v : Value} (h : RepP w S pv v) : RepL w S x (.p pv) v
 | adr (id i j : Nat) : RepL w S x (.adr id i j) (.pointer (some ⟨x.m id, i * x.k id + j, Option.none⟩))
 | own (id cap : Nat) (hn : x.n id <= cap) (hm : cap <= maxLen) (hb : HasBlk w (x.m id) (cap * x.k id)) : RepL w S x (.own id) (.slice (some ⟨x.m id, 0, Option.none⟩) (x.n id) cap)
 | sl (id off len cap o : Nat) (hn : off + len <= x.n id) (ho : len = 0 ∨ o = off * x.k id) (hc : len <= cap) : RepL w S x (.sl id off len) (.slice (some ⟨x.m id, o, Option.none⟩) len cap)
 | clo (f : Nat) (first caps : List LVal) (fs cs : Array Value) (h1 : fs.size = first.length) (h2 : cs.size = caps.length)
   (hf : ∀ i (hi : i < first.length), RepL w S x first[i] (fs[i]'(h1 ▸ hi))) (hc : ∀ i (hi : i < caps.length), RepL w S x caps[i] (cs[i]'(h2 ▸ hi))) :
   RepL w S x (.clo f first caps) (.func (.func f) fs cs)
 | tup (vs : List LVal) (us : Array Value) (h1 : us.size = vs.length) (h : ∀ i (hi : i < vs.length), RepL w S x vs[i] (us[i]'(h1 ▸ hi))) : RepL w S x (.tup vs) (.tuple us)
def KeepsSz (w w' : World) : Prop := ∀ b sz, HasBlk w b sz -> HasBlk w' b sz
theorem RepL.mono {w w' : World} {S S' : PSet} {x : Ix} (hk : Keeps S w w') (hS : ∀ b o, S b o -> S' b o) (hz : KeepsSz w w') {l : LVal} {v : Value} (h : RepL w S x l v) : RepL w' S' x l v := by
 induction h with
 | undef v => exact .undef v
 | p h => exact .p (h.mono hk hS)
 | adr id i j => exact .adr id i j
 | own id cap hn hm hb => exact .own id cap hn hm (hz _ _ hb)
 | sl id off len cap o hn ho hc => exact .sl id off len cap o hn ho hc
 | clo f first caps fs cs h1 h2 _ _ ihf ihc => exact .clo f first caps fs cs h1 h2 ihf ihc
 | tup vs us h1 _ ih => exact .tup vs us h1 ih
inductive LVal.Leads (id : Nat) : LVal -> Prop
 | adr (i j : Nat) : Leads id (.adr id i j)
 | own : Leads id (.own id)
 | sl (off len : Nat) : Leads id (.sl id off len)
 | first (f : Nat) (first caps : List LVal) (v : LVal) (hv : v ∈ first) (h : Leads id v) : Leads id (.clo f first caps)
 | caps (f : Nat) (first caps : List LVal) (v : LVal) (hv : v ∈ caps) (h : Leads id v) : Leads id (.clo f first caps)
 | tup (vs : List LVal) (v : LVal) (hv : v ∈ vs) (h : Leads id v) : Leads id (.tup vs)
theorem RepL.reix {w : World} {S : PSet} {x x' : Ix} {l : LVal} {v : Value} (h : RepL w S x l v)
  (he : ∀ id, l.Leads id -> x'.m id = x.m id /\ x'.k id = x.k id /\ x'.n id = x.n id) : RepL w S x' l v := by
 induction h with
 | undef v => exact .undef v
 | p h => exact .p h
 | adr id i j => obtain ⟨h1, h2, h3⟩ := he id (.adr i j); rw [<- h1, <- h2]; exact .adr id i j
 | own id cap hn hm hb =>
  obtain ⟨h1, h2, h3⟩ := he id .own
  rw [<- h1, <- h2] at hb
  rw [<- h3] at hn
  rw [<- h1, <- h3]
  exact .own id cap hn hm hb
 | sl id off len cap o hn ho hc =>
  obtain ⟨h1, h2, h3⟩ := he id (.sl off len)
  rw [<- h2] at ho
  rw [<- h3] at hn
  rw [<- h1]
  exact .sl id off len cap o hn ho hc
 | clo f first caps fs cs h1 h2 _ _ ihf ihc =>
  exact .clo f first caps fs cs h1 h2 (fun i hi => ihf i hi fun id hl => he id (.first f first caps _ (List.getElem_mem hi) hl)) (fun i hi => ihc i hi fun id hl => he id (.caps f first caps _ (List.getElem_mem hi) hl))
 | tup vs us h1 _ ih => exact .tup vs us h1 (fun i hi => ih i hi fun id hl => he id (.tup vs _ (List.getElem_mem hi) hl))
end Go.Ev

namespace Go.Ev
open Go Go.RowKit
def LObj.cells : LObj -> List LVal
 | .box _ cs => cs
 | _ => []
def LObj.live : LObj -> Bool
 | .none => false
 | _ => true
def RepO (w : World) (S : PSet) (x : Ix) (id : Nat) : LObj -> Prop
 | .none => True
 | .box fz cs => x.k id = cs.length /\ x.n id = 1 /\ ∃ vs ty, w.heap[x.m id]? = some (.cells vs ty (0, 0)) /\ ∃ hs : vs.size = cs.length,
   (∀ i (hi : i < cs.length), RepL w S x cs[i] (vs[i]'(hs ▸ hi)) /\ (vs[i]'(hs ▸ hi)).oneCell' = true) /\
   (fz = true -> ∀ c, c < cs.length -> S (x.m id) c) /\ (fz = false -> ∀ c, ¬ S (x.m id) c)
 | .buf fz ty k es => x.k id = k /\ x.n id = es.length /\ ∃ cur, w.heap[x.m id]? = some (.cells cur ty (0, 0)) /\ ∃ V : Nat -> Value,
   (∀ i (hi : i < es.length), RepP w S es[i] (V i)) /\
   (∀ i, i < es.length -> (V i).cells.size = k /\ ∀ j, j < k -> ∃ u, (V i).cells[j]? = some u /\ u.oneCell' = true /\ cur[i * k + j]? = some u) /\
   (fz = true -> ∀ c, c < es.length * k -> S (x.m id) c) /\ (∀ c, fz = false ∨ es.length * k <= c -> ¬ S (x.m id) c)
theorem RepL.of_same {w w' : World} {S S' : PSet} {x x' : Ix} {l : LVal} {v : Value} (h : RepL w S x l v) (hk : Keeps S w w') (hS : ∀ b o, S b o -> S' b o) (hz : KeepsSz w w')
  (he : ∀ id, l.Leads id -> x'.m id = x.m id /\ x'.k id = x.k id /\ x'.n id = x.n id) : RepL w' S' x' l v := (h.mono hk hS hz).reix he
theorem RepO.keep {w w' : World} {S S' : PSet} {x x' : Ix} {id : Nat} {o : LObj} (h : RepO w S x id o) (hk : Keeps S w w') (hS : ∀ b o, S b o -> S' b o) (hz : KeepsSz w w')
  (hm : x'.m id = x.m id) (hkk : x'.k id = x.k id) (hn : x'.n id = x.n id) (hh : w'.heap[x.m id]? = w.heap[x.m id]?) (hs : ∀ c, S' (x.m id) c -> S (x.m id) c)
  (he : ∀ l, l ∈ o.cells -> ∀ i, l.Leads i -> x'.m i = x.m i /\ x'.k i = x.k i /\ x'.n i = x.n i) : RepO w' S' x' id o := by
 cases o with
 | none => trivial
 | box fz cs =>
  obtain ⟨h1, h2, vs, ty, h3, hsz, h4, h5, h6⟩ := h
  refine ⟨hkk.trans h1, hn.trans h2, vs, ty, by rw [hm, hh]; exact h3, hsz, fun i hi => ⟨(h4 i hi).1.of_same hk hS hz (he _ (List.getElem_mem hi)), (h4 i hi).2⟩, ?_, ?_⟩
  ·intro e c hc; rw [hm]; exact hS _ _ (h5 e c hc)
  ·intro e c hc; rw [hm] at hc; exact h6 e c (hs c hc)
 | buf fz ty k es =>
  obtain ⟨h1, h2, cur, h3, V, h4, h5, h6, h7⟩ := h
  refine ⟨hkk.trans h1, hn.trans h2, cur, by rw [hm, hh]; exact h3, V, fun i hi => (h4 i hi).mono hk hS, h5, ?_, ?_⟩
  ·intro e c hc; rw [hm]; exact hS _ _ (h6 e c hc)
  ·intro c hc h; rw [hm] at h; exact h7 c hc (hs c h)
structure Env0 where
 W0 : World
structure Beg extends World where
 S0 : PSet
 g : Option Value := Option.none
structure Inv (W0 : World) (w0 : Beg) (Wb : Nat -> Prop) (w : World) (S : PSet) (x : Ix) (σ : List LObj) : Prop where
 below : Below W0.heap.size W0 w
 size : w0.heap.size <= w.heap.size
 frame : ∀ b, b < w0.heap.size -> ¬ Wb b -> w.heap[b]? = w0.heap[b]?
 slt : ∀ b o, S b o -> b < w.heap.size
 slo : ∀ b o, w0.S0 b o -> S b o
 shi : ∀ b o, S b o -> w0.S0 b o ∨ w0.heap.size <= b ∨ Wb b
 objs : ∀ id o, σ[id]? = some o -> o.live = true -> (x.m id < w.heap.size /\ (w0.heap.size <= x.m id ∨ Wb (x.m id)) /\ W0.heap.size <= x.m id) /\ RepO w S x id o
 inj : ∀ id id' o o', σ[id]? = some o -> σ[id']? = some o' -> o.live = true -> o'.live = true -> x.m id = x.m id' -> id = id'
abbrev Place (W0 : World) (w0 : Beg) (Wb : Nat -> Prop) (w : World) (b : Nat) : Prop := b < w.heap.size /\ (w0.heap.size <= b ∨ Wb b) /\ W0.heap.size <= b
theorem Inv.turn {W0 : World} {w0 : Beg} {Wb : Nat -> Prop} {w w' : World} {S S' : PSet} {x x' : Ix} {σ σ' : List LObj} (h : Inv W0 w0 Wb w S x σ)
  (hb : Below W0.heap.size W0 w') (hsz : w.heap.size <= w'.heap.size) (hf : ∀ b, b < w0.heap.size -> ¬ Wb b -> w'.heap[b]? = w.heap[b]?)
  (hk : Keeps S w w') (hS : ∀ b o, S b o -> S' b o) (hz : KeepsSz w w') (hlt : ∀ b o, S' b o -> b < w'.heap.size)
  (hobj : ∀ id o, σ'[id]? = some o -> o.live = true ->
   (σ[id]? = some o /\ x'.m id = x.m id /\ x'.k id = x.k id /\ x'.n id = x.n id /\ w'.heap[x.m id]? = w.heap[x.m id]? /\ (∀ c, S' (x.m id) c -> S (x.m id) c) /\
    (∀ l, l ∈ o.cells -> ∀ i, l.Leads i -> x'.m i = x.m i /\ x'.k i = x.k i /\ x'.n i = x.n i)) ∨
   (Place W0 w0 Wb w' (x'.m id) /\ RepO w' S' x' id o))
  (hinj : ∀ id id' o o', σ'[id]? = some o -> σ'[id']? = some o' -> o.live = true -> o'.live = true -> x'.m id = x'.m id' -> id = id')
  (hhi : ∀ b o, S' b o -> S b o ∨ w0.heap.size <= b ∨ Wb b) : Inv W0 w0 Wb w' S' x' σ' where
 below := hb
 size := Nat.le_trans h.size hsz
 frame b h1 h2 := (hf b h1 h2).trans (h.frame b h1 h2)
 slt := hlt
 slo b o hs := hS b o (h.slo b o hs)
 shi b o hs := (hhi b o hs).elim (h.shi b o) .inr
 objs id o ho hl := by
  rcases hobj id o ho hl with ⟨h1, h2, h3, h4, h5, h6, h7⟩ | h1
  ·obtain ⟨⟨p1, p2, p3⟩, hr⟩ := h.objs id o h1 hl
   exact ⟨⟨by rw [h2]; omega, by rw [h2]; exact p2, by rw [h2]; exact p3⟩, hr.keep hk hS hz h2 h3 h4 h5 h6 h7⟩
  ·exact h1
 inj := hinj
theorem Keeps.of_blocks {S : PSet} {w w' : World} (h : ∀ b o, S b o -> w'.heap[b]? = w.heap[b]?) : Keeps S w w' := fun b o hs u hu => by
 rw [World.cell?_of_block (w := w) (a := ⟨b, o, Option.none⟩) (h b o hs)]; exact hu
theorem KeepsSz.of_blocks {w w' : World} (h : ∀ b, b < w.heap.size -> w'.heap[b]? = w.heap[b]? ∨ ∀ sz, HasBlk w b sz -> HasBlk w' b sz) : KeepsSz w w' := by
 rintro b sz ⟨cur, ty, fr, h1, h2⟩
 have hlt : b < w.heap.size := by
  rcases Nat.lt_or_ge b w.heap.size with hlt | hge
  ·exact hlt
  ·rw [Array.getElem?_eq_none hge] at h1; cases h1
 rcases h b hlt with he | he
 ·exact ⟨cur, ty, fr, he.trans h1, h2⟩
 ·exact he sz ⟨cur, ty, fr, h1, h2⟩
def _root_.Go.World.putBlk (w : World) (b : Nat) (cs : Array Value) (ty : TypeId) : World := { w with heap := w.heap.setIfInBounds b (.cells cs ty (0, 0)) }
theorem putBlk_same {w : World} {b : Nat} {cs : Array Value} {ty : TypeId} (hb : b < w.heap.size) : (w.putBlk b cs ty).heap[b]? = some (.cells cs ty (0, 0)) := by
 simp [World.putBlk, hb]
theorem putBlk_other {w : World} {b b' : Nat} {cs : Array Value} {ty : TypeId} (hb : b' ≠ b) : (w.putBlk b cs ty).heap[b']? = w.heap[b']? := by
 simp only [World.putBlk]
 rw [Array.getElem?_setIfInBounds_ne (by omega)]
theorem putBlk_size {w : World} {b : Nat} {cs : Array Value} {ty : TypeId} : (w.putBlk b cs ty).heap.size = w.heap.size := by simp [World.putBlk]
theorem setCell_blk {w : World} {b i : Nat} {cs : Array Value} {ty : TypeId} (v : Value) (h : w.heap[b]? = some (.cells cs ty (0, 0))) :
  w.setCell ⟨b, i, Option.none⟩ v = w.putBlk b (cs.setIfInBounds i v) ty := by
 have hlt : b < w.heap.size := by
  rcases Nat.lt_or_ge b w.heap.size with hlt | hge
  ·exact hlt
  ·rw [Array.getElem?_eq_none hge] at h; cases h
 simp only [World.setCell, World.putBlk]
 congr 1
 apply Array.ext_getElem?
 intro j
 rw [Array.getElem?_modify, Array.getElem?_setIfInBounds]
 have hg : w.heap[b] = .cells cs ty (0, 0) := by rw [Array.getElem?_eq_getElem hlt] at h; exact Option.some.inj h
 by_cases e : b = j
 ·subst e; simp [hg, hlt]
 ·simp [e]
def overlay (cs : Array Value) (o : Nat) : List Value -> Array Value
 | [] => cs
 | v :: vs => overlay (cs.setIfInBounds o v) (o + 1) vs
theorem overlay_size (cs : Array Value) (o : Nat) (vs : List Value) : (overlay cs o vs).size = cs.size := by
 induction vs generalizing cs o with
 | nil => rfl
 | cons v vs ih => simp [overlay, ih]
theorem overlay_out (cs : Array Value) (o : Nat) (vs : List Value) (i : Nat) (h : i < o ∨ o + vs.length <= i) : (overlay cs o vs)[i]? = cs[i]? := by
 induction vs generalizing cs o with
 | nil => rfl
 | cons v vs ih =>
  simp only [List.length_cons] at h
  rw [overlay, ih _ _ (by omega), Array.getElem?_setIfInBounds_ne (by omega)]
theorem overlay_in (cs : Array Value) (o : Nat) (vs : List Value) (hsz : o + vs.length <= cs.size) (i : Nat) (hi : i < vs.length) : (overlay cs o vs)[o + i]? = vs[i]? := by
 induction vs generalizing cs o i with
 | nil => simp at hi
 | cons v vs ih =>
  simp only [List.length_cons] at hsz hi
  rcases i with _ | i
  ·rw [overlay, overlay_out _ _ _ _ (by omega), Nat.add_zero, Array.getElem?_setIfInBounds_self_of_lt (by omega)]
   rfl
  ·have := ih (cs.setIfInBounds o v) (o + 1) (by simp; omega) i (by omega)
   rw [overlay]
   rw [show o + 1 + i = o + (i + 1) by omega] at this
   rw [this]; simp
theorem Addr_add_none (b o n : Nat) : Addr.add ⟨b, o, Option.none⟩ n = ⟨b, o + n, Option.none⟩ := by
 unfold Addr.add
 split
 ·next h => subst h; rfl
 ·rfl
theorem run_storeCells_blk {P : Program} (b o : Nat) (ty : TypeId) : ∀ (vs : List Value) (i : Nat) (cs : Array Value) (w : World), w.heap[b]? = some (.cells cs ty (0, 0)) ->
  o + i + vs.length <= cs.size -> (∀ v ∈ vs, v.oneCell' = true) ->
  (storeCells ⟨b, o, Option.none⟩ vs i).run P w = .ok () (w.putBlk b (overlay cs (o + i) vs) ty) := by
 intro vs
 induction vs with
 | nil =>
  intro i cs w h _ _
  have hlt : b < w.heap.size := by
   rcases Nat.lt_or_ge b w.heap.size with hlt | hge
   ·exact hlt
   ·rw [Array.getElem?_eq_none hge] at h; cases h
  have : w.putBlk b cs ty = w := by
   simp only [World.putBlk]
   have : w.heap.setIfInBounds b (.cells cs ty (0, 0)) = w.heap := by
    apply Array.ext_getElem?
    intro j
    rw [Array.getElem?_setIfInBounds]
    have hg : w.heap[b] = .cells cs ty (0, 0) := by rw [Array.getElem?_eq_getElem hlt] at h; exact Option.some.inj h
    by_cases e : b = j
    ·subst e; simp [hlt, hg]
    ·simp [e]
   rw [this]
  simp [storeCells, overlay, this]
 | cons v vs ih =>
  intro i cs w h hsz h1
  simp only [List.length_cons] at hsz
  have hc : w.cell? ⟨b, o + i, Option.none⟩ = cs[o + i]? := by simp [World.cell?, h]
  have hlt : o + i < cs.size := by omega
  have hf : w.frozen? ⟨b, o + i, Option.none⟩ = false := by simp [World.frozen?, h]
  have hst : (store ⟨b, o + i, Option.none⟩ v).run P w = .ok () (w.setCell ⟨b, o + i, Option.none⟩ v) := by
   rw [run_store _ _ _ _ _ (h1 v (by simp)), hc]
   simp [hlt, hf]
  have hset := setCell_blk (i := o + i) v h
  have hblk : b < w.heap.size := by
   rcases Nat.lt_or_ge b w.heap.size with hlt | hge
   ·exact hlt
   ·rw [Array.getElem?_eq_none hge] at h; cases h
  simp only [storeCells, Addr_add_none, Sem.run_bind, hst, Result.andThen_ok]
  rw [hset, ih (i + 1) (cs.setIfInBounds (o + i) v) (w.putBlk b (cs.setIfInBounds (o + i) v) ty) (putBlk_same hblk) (by simp; omega) (fun u hu => h1 u (by simp [hu]))]
  congr 1
  simp only [overlay, World.putBlk, Nat.add_assoc]
  congr 1
  apply Array.ext_getElem?
  intro j
  by_cases e : b = j
  ·subst e; simp
  ·simp [e]
end Go.Ev

namespace Go.Ev
open Go Go.RowKit
inductive CK where
 | same
 | toInt (k : IntKind)
 | bytes (elem : Nat)
 | str
 deriving DecidableEq
inductive Shp where
 | str
 | int (k : IntKind)
 | bool
 | sl
 | any
 | agg (l : List Shp)
 deriving Inhabited
structure TEnv where
 sl : Nat -> Option (Nat × Nat)
 ty : Nat -> Option (Bool × Nat)
 fld : Nat -> Nat -> Option Nat
 fields : Nat -> Option (List (Nat × Nat))
 arr : Nat -> Option (Nat × Nat × Nat)
 zero : Nat -> Option (List Value)
 cv : Nat -> Nat -> Option CK
 str : Nat -> Bool
 eq2 : Nat -> Bool
 shp : Nat -> Shp
 tup : Nat -> List Nat
 wf : Nat -> Bool
 fv : Nat -> Nat -> Option Nat
 ifc : Nat -> Bool
inductive RV where
 | p (v : PVal)
 | fresh (ty k : Nat) (es : List PVal)
inductive RRes where
 | one (r : RV)
 | tup (rs : List RV)
abbrev Oracle := Bool -> Nat -> List PVal -> (RRes -> Bool) -> Bool
def nilSl : PVal := .lit (.slice Option.none 0 0)
def isNilSl : PVal -> Bool
 | .lit (.slice Option.none 0 0) => true
 | _ => false
mutual
def nrm : PVal -> PVal
 | .lit v => match v with
  | .slice Option.none 0 0 => .sl []
  | v => .lit v
 | .agg cs => .agg (nrmL cs)
 | v => v
def nrmL : List PVal -> List PVal
 | [] => []
 | c :: cs => nrm c :: nrmL cs
end
def LVal.lits : List LVal -> Option (List PVal)
 | [] => some []
 | .p v :: vs => (LVal.lits vs).map (v :: ·)
 | _ => Option.none
mutual
def snap (σ : List LObj) : Nat -> LVal -> Option (PVal × List Nat × List (Nat × LObj))
 | 0, _ => Option.none
 | n + 1, v => match v with
  | .p v => some (nrm v, [], [])
  | .own id => match σ[id]? with
   | some (.buf fz ty k es) => some (.sl es, [id], if fz then [] else [(id, .buf true ty k es)])
   | _ => Option.none
  | .sl id off len => match σ[id]? with
   | some (.buf fz ty k es) => if off + len <= es.length then some (.sl ((es.drop off).take len), [id], if fz then [] else [(id, .buf true ty k es)]) else Option.none
   | _ => Option.none
  | .adr id i j => match σ[id]? with
   | some (.buf fz ty k es) => if i < es.length /\ j < k then some (.adr es i j, [id], if fz then [] else [(id, .buf true ty k es)]) else Option.none
   | some (.box fz cs) => if i = 0 /\ j < cs.length then
     match snapL σ n cs with
     | some (ps, rd, wr) => some (.adr [.agg ps] 0 j, id :: rd, if fz then wr else (id, .box true (ps.map .p)) :: wr)
     | Option.none => Option.none
    else Option.none
   | _ => Option.none
  | .clo f a b => match snapL σ n a, snapL σ n b with
   | some (pa, r1, w1), some (pb, r2, w2) => some (.clo f pa pb, r1 ++ r2, w1 ++ w2)
   | _, _ => Option.none
  | _ => Option.none
def snapL (σ : List LObj) : Nat -> List LVal -> Option (List PVal × List Nat × List (Nat × LObj))
 | _, [] => some ([], [], [])
 | 0, _ :: _ => Option.none
 | n + 1, v :: vs => match snap σ n v, snapL σ n vs with
  | some (p, r1, w1), some (ps, r2, w2) => some (p :: ps, r1 ++ r2, w1 ++ w2)
  | _, _ => Option.none
end
def ev (T : List LVal) : Operand -> LVal
 | .tmp t => T.getD t .undef
 | .const v => .p (.lit v)
 | .global _ => .undef
 | .func f => .clo f [] []
mutual
def shape : Shp -> PVal -> (PVal -> Bool) -> Bool
 | .str, v, K => match v with
  | .lit (.string s) => K (.lit (.string s))
  | _ => false
 | .int k, v, K => match v with
  | .lit (.int k' n) => bif decide (k' = k) then K (.lit (.int k n)) else false
  | _ => false
 | .bool, v, K => match v with
  | .lit (.bool b) => K (.lit (.bool b))
  | _ => false
 | .sl, v, K => match v with
  | .sl es => K (.sl es)
  | _ => false
 | .any, v, K => K v
 | .agg l, v, K => match v with
  | .agg cs => shapeL l cs fun cs => K (.agg cs)
  | _ => false
def shapeL : List Shp -> List PVal -> (List PVal -> Bool) -> Bool
 | [], v, K => match v with
  | [] => K []
  | _ => false
 | s :: ss, v, K => match v with
  | c :: cs => shape s c fun c => shapeL ss cs fun cs => K (c :: cs)
  | _ => false
end
abbrev AR := LVal × List Nat × List (Nat × LObj)
abbrev KV := LVal -> Bool
abbrev KA := LVal -> List Nat -> List (Nat × LObj) -> Bool
def boolK (b : Bool) (K : KV) : Bool := K (.p (.lit (.bool b)))
def intK (k : IntKind) (n : Int) (K : KV) : Bool := K (.p (.lit (.int k n)))
def binInt (op : BinOp) (k : IntKind) (a b : Int) (K : KV) : Bool :=
 match op with
 | .add => intK k (k.wrap (a + b)) K
 | .sub => intK k (k.wrap (a - b)) K
 | .mul => intK k (k.wrap (a * b)) K
 | .quo => bif b == 0 then false else intK k (k.wrap (a.tdiv b)) K
 | .rem => bif b == 0 then false else intK k (a.tmod b) K
 | .and => intK k (k.wrap (BitVec.ofInt k.bits a &&& BitVec.ofInt k.bits b).toNat) K
 | .or => intK k (k.wrap (BitVec.ofInt k.bits a ||| BitVec.ofInt k.bits b).toNat) K
 | .xor => intK k (k.wrap (BitVec.ofInt k.bits a ^^^ BitVec.ofInt k.bits b).toNat) K
 | .eql => boolK (a == b) K
 | .neq => boolK (a != b) K
 | .lss => boolK (decide (a < b)) K
 | .leq => boolK (decide (a <= b)) K
 | .gtr => boolK (decide (a > b)) K
 | .geq => boolK (decide (a >= b)) K
 | _ => false
def binStr (op : BinOp) (a b : ByteArray) (K : KV) : Bool :=
 match op with
 | .add => bif decide (a.size + b.size <= 1099511627776) then K (.p (.lit (.string (a ++ b)))) else false
 | .eql => boolK (a.toList == b.toList) K
 | .neq => boolK (!(a.toList == b.toList)) K
 | .lss => boolK (Op.bytesLess a.toList b.toList) K
 | .leq => boolK (Op.bytesLess a.toList b.toList || a.toList == b.toList) K
 | .gtr => boolK (!(Op.bytesLess a.toList b.toList || a.toList == b.toList)) K
 | .geq => boolK (!Op.bytesLess a.toList b.toList) K
 | _ => false
def notNil : LVal -> Option Bool
 | .own _ => some true
 | .p (.sl (_ :: _)) => some true
 | .p (.lit (.slice Option.none 0 0)) => some false
 | _ => Option.none
def binL (E : TEnv) (op : BinOp) (t : Nat) (x y : LVal) (K : KV) : Bool :=
 match x with
 | .p (.lit (.int k a)) => match y with
  | .p (.lit (.int k' b)) => match op with
   | .shl => bif decide (0 <= b) then intK k (k.wrap (a * 2 ^ (min b.toNat k.bits))) K else false
   | .shr => bif decide (0 <= b) then intK k (a.fdiv (2 ^ (min b.toNat k.bits))) K else false
   | op => bif decide (k = k') then binInt op k a b K else false
  | _ => false
 | .p (.lit (.string a)) => match y with
  | .p (.lit (.string b)) => binStr op a b K
  | _ => false
 | .p (.lit (.bool a)) => match y with
  | .p (.lit (.bool b)) => match op with
   | .eql => match E.shp t with
    | .bool => boolK (a == b) K
    | _ => false
   | .neq => match E.shp t with
    | .bool => boolK (!(a == b)) K
    | _ => false
   | _ => false
  | _ => false
 | .p (.agg [.lit (.string a), .lit (.string b)]) => match y with
  | .p (.agg [.lit (.string c), .lit (.string d)]) => bif E.eq2 t then match op with
   | .eql => boolK (a == c && b == d) K
   | .neq => boolK (!(a == c && b == d)) K
   | _ => false
   else false
  | _ => false
 | x => match y with
  | .p (.lit (.slice Option.none 0 0)) => match notNil x with
   | some b => bif (E.sl t).isSome then match op with
    | .eql => boolK (!b) K
    | .neq => boolK b K
    | _ => false
    else false
   | Option.none => false
  | _ => false
def isNilC : Operand -> Bool
 | .const .nilIface => true
 | _ => false
def isNilS : Operand -> Bool
 | .const (.slice Option.none 0 0) => true
 | _ => false
def nilEqS (E : TEnv) (op : BinOp) (t : Nat) (x : LVal) (K : KV) : Bool :=
 match x with
 | .p (.sl (_ :: _)) => match E.sl t with
  | some _ => match op with
   | .eql => boolK false K
   | .neq => boolK true K
   | _ => false
  | Option.none => false
 | _ => false
def nilEq (E : TEnv) (op : BinOp) (t : Nat) (x : LVal) (K : KV) : Bool :=
 match x with
 | .p (.lit .nilIface) => bif E.ifc t then match op with
  | .eql => boolK true K
  | .neq => boolK false K
  | _ => false
  else false
 | _ => false
def unL (op : UnOp) (x : LVal) (K : KV) : Bool :=
 match x with
 | .p (.lit (.int k n)) => match op with
  | .neg => intK k (k.wrap (0 - n)) K
  | _ => false
 | .p (.lit (.bool b)) => match op with
  | .not => boolK (!b) K
  | _ => false
 | _ => false
def lcells : LVal -> Option (List LVal)
 | .p v => some (v.cells.map .p)
 | .undef => Option.none
 | .tup _ => Option.none
 | v => some [v]
def LVal.storable : LVal -> Bool
 | .p v => v.one
 | .undef | .tup _ => false
 | _ => true
def elemsOf (s : Shp) (k : Nat) (σ : List LObj) (x : LVal) (K : List PVal -> List Nat -> Bool) : Bool :=
 match x with
 | .own id => match σ[id]? with
  | some (.buf _ _ k' es) => bif decide (k' = k) then K es [id] else false
  | _ => false
 | .sl id off len => match σ[id]? with
  | some (.buf _ _ k' es) => bif decide (k' = k) && decide (off + len <= es.length) then K ((es.drop off).take len) [id] else false
  | _ => false
 | .p (.sl es) => match es with
  | [] => K [] []
  | e :: r => shape s e fun e => bif decide (e.cells.length = k) && e.cells.all PVal.one then K (e :: r) [] else false
 | .p (.lit (.slice Option.none 0 0)) => K [] []
 | _ => false
def partP (agg : Bool) (size j : Nat) (e : PVal) : Option PVal :=
 if agg then
  match e with
  | .agg cs => if j = 0 /\ size = cs.length then some (.agg cs) else if j + size <= cs.length then some (.agg ((cs.drop j).take size)) else Option.none
  | _ => Option.none
 else match e.cells[j]? with
  | some p => if p.one then some p else Option.none
  | Option.none => Option.none
def pickC : List LVal -> Nat -> KV -> Bool
 | [], _, _ => false
 | c :: cs, j, K => bif Nat.beq j 0 then K c else pickC cs (j - 1) K
theorem pickC_ok : ∀ {cs : List LVal} {j : Nat} {K : KV}, pickC cs j K = true -> ∃ c, cs[j]? = some c /\ K c = true
 | [], _, _, h => by cases h
 | c :: cs, j, K, h => by
  unfold pickC at h
  rcases j with _ | j
  ·exact ⟨c, rfl, h⟩
  ·have hb : Nat.beq (j + 1) 0 = false := rfl
   rw [hb] at h
   obtain ⟨d, h1, h2⟩ := pickC_ok h
   exact ⟨d, by simpa using h1, h2⟩
def pickA : List LVal -> Nat -> Nat -> (List LVal -> Bool) -> Bool
 | [], _, _, _ => false
 | c :: cs, j, n, K => bif Nat.beq j 0 then (bif Nat.ble n (cs.length + 1) then K ((c :: cs).take n) else false) else pickA cs (j - 1) n K
theorem pickA_ok : ∀ {cs : List LVal} {j n : Nat} {K : List LVal -> Bool}, pickA cs j n K = true -> j + n <= cs.length /\ K ((cs.drop j).take n) = true
 | [], _, _, _, h => by cases h
 | c :: cs, j, n, K, h => by
  unfold pickA at h
  rcases j with _ | j
  ·have hb : Nat.beq 0 0 = true := rfl
   rw [hb] at h
   simp only [cond_true] at h
   cases hn : Nat.ble n (cs.length + 1) with
   | true => rw [hn] at h; rw [Nat.ble_eq] at hn; exact ⟨by simpa using hn, h⟩
   | false => rw [hn] at h; cases h
  ·have hb : Nat.beq (j + 1) 0 = false := rfl
   rw [hb] at h
   obtain ⟨h1, h2⟩ := pickA_ok h
   exact ⟨by simp only [List.length_cons]; simp at h1; omega, by simpa using h2⟩
def actLoad (E : TEnv) (σ : List LObj) (t : Nat) (a : LVal) (K : KA) : Bool :=
 match E.ty t with
 | Option.none => false
 | some (agg, size) => match a with
  | .adr id i j => match σ[id]? with
   | some (.box _ cs) => if i = 0 then
     if agg then
      pickA cs j size fun l => match snapL σ 40 l with
       | some (ps, rd, wr) => K (.p (.agg ps)) (id :: rd) wr
       | Option.none => false
     else pickC cs j fun c => K c [id] []
    else false
   | some (.buf _ ty _ es) => match es[i]? with
    | some e => shape (E.shp ty) e fun e => match partP agg size j e with
     | some p => K (.p p) [id] []
     | Option.none => false
    | Option.none => false
   | _ => false
  | .p (.adr es i j) => match es[i]? with
   | some e => match partP agg size j e with
    | some p => K (.p p) [] []
    | Option.none => false
   | Option.none => false
  | _ => false
def over {α : Type} (cs : List α) (j : Nat) : List α -> List α
 | [] => cs
 | x :: xs => over (cs.set j x) (j + 1) xs
def actStore (E : TEnv) (σ : List LObj) (t : Nat) (a x : LVal) (K : KA) : Bool :=
 match E.ty t with
 | Option.none => false
 | some (_, size) => match a with
  | .adr id i j => match σ[id]? with
   | some (.box false cs) => match lcells x with
    | some ls => if i = 0 /\ ls.length = size /\ j + size <= cs.length /\ ls.all LVal.storable = true then K .undef [] [(id, .box false (over cs j ls))] else false
    | Option.none => false
   | some (.buf false ty k es) => match snap σ 12 x with
    | some (p, rd, wr) =>
     if p.cells.length = size /\ p.cells.all PVal.one = true /\ j = 0 /\ size = k /\ rd.any (Nat.beq id) = false then
      bif decide (i < es.length) then K .undef rd (wr ++ [(id, .buf false ty k (es.set i p))]) else false
     else false
    | Option.none => false
   | _ => false
  | _ => false
def bound? : Option LVal -> Nat -> (Nat -> Bool) -> Bool
 | Option.none, d, K => K d
 | some v, _, K => match v with
  | .p (.lit (.int _ i)) => bif decide (0 <= i) then K i.toNat else false
  | _ => false
def actSlice (E : TEnv) (σ : List LObj) (t : Nat) (x : LVal) (lo hi : Option LVal) (K : KA) : Bool :=
 match x with
 | .p (.lit (.string s)) =>
  if E.str t then
   bound? lo 0 fun l => bound? hi s.size fun h => bif decide (l <= h) && decide (h <= s.size) then K (.p (.lit (.string (s.extract l h)))) [] [] else false
  else false
 | .own id => match E.sl t with
  | some (_, k) => match σ[id]? with
   | some (.buf _ _ k' es) => bound? lo 0 fun l => bound? hi es.length fun h => bif decide (l <= h) && decide (h <= es.length) && decide (k' = k) then K (.sl id l (h - l)) [id] [] else false
   | _ => false
  | Option.none => false
 | .p (.lit (.slice Option.none 0 0)) => match E.sl t with
  | some _ => bound? lo 0 fun l => bound? hi 0 fun h => bif decide (l <= h) && decide (h <= 0) then K (.p nilSl) [] [] else false
  | Option.none => false
 | .p (.sl es) => match E.sl t with
  | some (_, k) => bound? lo 0 fun l => bound? hi es.length fun h => bif decide (l <= h) && decide (h <= es.length) then
    (match lo with
     | Option.none => K (.p (.sl (es.take h))) [] []
     | some _ => match hi with
      | Option.none => match es[l]? with
       | some e => shape (E.shp (E.sl t |>.map (·.1) |>.getD 0)) e fun e => bif decide (e.cells.length = k) && e.cells.all PVal.one then K (.p (.sl (es.drop l))) [] [] else false
       | Option.none => K (.p (.sl [])) [] []
      | some _ => match es[l]? with
       | some e => shape (E.shp (E.sl t |>.map (·.1) |>.getD 0)) e fun e => bif decide (e.cells.length = k) && e.cells.all PVal.one then K (.p (.sl ((es.drop l).take (h - l)))) [] [] else false
       | Option.none => K (.p (.sl [])) [] []) else false
  | Option.none => false
 | _ => false
def actIndexAddr (E : TEnv) (σ : List LObj) (t : Nat) (x ix : LVal) (K : KA) : Bool :=
 match ix with
 | .p (.lit (.int _ i)) =>
  match E.sl t with
  | some (e, k) => match x with
   | .own id => match σ[id]? with
    | some (.buf _ _ k' es) => bif decide (k' = k) then (bif decide (0 <= i) && decide (i < es.length) then K (.adr id i.toNat 0) [id] [] else false) else false
    | _ => false
   | .sl id off len => match σ[id]? with
    | some (.buf _ _ k' _) => bif decide (k' = k) then (bif decide (0 <= i) && decide (i < len) then K (.adr id (off + i.toNat) 0) [id] [] else false) else false
    | _ => false
   | .p (.sl es) => bif decide (0 <= i) then match es[i.toNat]? with
     | some v => shape (E.shp e) v fun v => bif decide (v.cells.length = k) && v.cells.all PVal.one then K (.p (.adr [v] 0 0)) [] [] else false
     | Option.none => false
    else false
   | _ => false
  | Option.none => match E.arr t with
   | some (n, _, k) => match x with
    | .adr id i0 j => bif decide (0 <= i) && decide (i < n) then K (.adr id i0 (j + i.toNat * k)) [] [] else false
    | _ => false
   | Option.none => false
 | _ => false
def actField (E : TEnv) (s f : Nat) (x : LVal) (K : KA) : Bool :=
 match E.fld s f with
 | some off => match x with
  | .adr id i j => K (.adr id i (j + off)) [] []
  | .p (.adr [v] 0 j) => if j + off < v.cells.length then K (.p (.adr [v] 0 (j + off))) [] [] else false
  | _ => false
 | Option.none => false
def len? (st sl : Bool) (σ : List LObj) : LVal -> Option (Nat × List Nat)
 | .p (.lit (.string s)) => if st then some (s.size, []) else Option.none
 | .p (.lit (.slice Option.none 0 0)) => if sl then some (0, []) else Option.none
 | .p (.sl es) => if sl then some (es.length, []) else Option.none
 | .own id => match σ[id]? with
  | some (.buf _ _ _ es) => if sl then some (es.length, [id]) else Option.none
  | _ => Option.none
 | .sl _ _ len => if sl then some (len, []) else Option.none
 | _ => Option.none
def maxElems : Nat := 1073741824
def actAppend (E : TEnv) (σ : List LObj) (nid t : Nat) (s x : LVal) (K : KA) : Bool :=
 match E.sl t with
 | some (e, k) => elemsOf (E.shp e) k σ x fun xs rd => match s with
  | .own id => match σ[id]? with
   | some (.buf fz ty k' es) =>
    bif decide (ty = e) && decide (k' = k) then
     (bif decide (es.length + xs.length <= maxElems) then K (.own nid) rd [(id, .none), (nid, .buf fz ty k (es ++ xs))] else false) else false
   | _ => false
  | .p (.lit (.slice Option.none 0 0)) => match xs with
   | [] => K (.p nilSl) rd []
   | x :: xs => bif decide (xs.length + 1 <= maxElems) then K (.own nid) rd [(nid, .buf false e k (x :: xs))] else false
  | _ => false
 | Option.none => false
def partsOk : Nat -> List (Nat × LVal) -> Bool
 | _, [] => true
 | n, (i, _) :: r => Nat.beq i n && partsOk (n + 1) r
def actBuildSlice (E : TEnv) (σ : List LObj) (nid t n : Nat) (parts : List (Nat × LVal)) (K : KA) : Bool :=
 match E.sl t with
 | some (e, k) => match snapL σ 16 (parts.map (·.2)) with
  | some (ps, rd, wr) => if partsOk 0 parts = true /\ parts.length = n /\ n <= 64 /\ k <= 64 /\ ps.all (fun p => decide (p.cells.length = k) && p.cells.all PVal.one) = true then
    K (.own nid) rd (wr ++ [(nid, .buf false e k ps)]) else false
  | Option.none => false
 | Option.none => false
def fillP (fs : List (Nat × Nat)) (cells : List PVal) : List (Nat × PVal) -> Option (List PVal)
 | [] => some cells
 | (i, v) :: r => match fs[i]? with
  | some (off, size) => if v.cells.length = size /\ off + size <= cells.length then fillP fs (over cells off v.cells) r else Option.none
  | Option.none => Option.none
def litOk : PVal -> Bool
 | .lit v => v.oneCell'
 | _ => true
def actBuild (E : TEnv) (σ : List LObj) (t : Nat) (parts : List (Nat × LVal)) (K : KA) : Bool :=
 match E.fields t, E.zero t, snapL σ 16 (parts.map (·.2)) with
 | some fs, some zs, some (ps, rd, wr) => match fillP fs (zs.map fun z => .lit z) ((parts.map (·.1)).zip ps) with
  | some cs => bif ps.all litOk then K (.p (.agg cs)) rd wr else false
  | Option.none => false
 | _, _, _ => false
def instR (nid : Nat) : RV -> LVal × List (Nat × LObj)
 | .p v => (.p v, [])
 | .fresh ty k es => (.own nid, [(nid, .buf false ty k es)])
def instL (nid : Nat) : List RV -> List LVal × List (Nat × LObj)
 | [] => ([], [])
 | r :: rs => ((instR nid r).1 :: (instL (nid + 1) rs).1, (instR nid r).2 ++ (instL (nid + 1) rs).2)
def inst (nid : Nat) : RRes -> LVal × List (Nat × LObj)
 | .one r => instR nid r
 | .tup rs => (.tup (instL nid rs).1, (instL nid rs).2)
def isLit : PVal -> Bool
 | .lit _ => true
 | _ => false
def RV.plain : RV -> Bool
 | .p v => match v with
  | .lit _ => true
  | .agg cs => cs.all isLit
  | _ => false
 | _ => false
def RRes.plain : RRes -> Bool
 | .one r => r.plain
 | .tup rs => rs.all RV.plain
def RRes.few : RRes -> Bool
 | .one _ => true
 | .tup rs => decide (rs.length <= 4)
def shapeRL (E : TEnv) : List Nat -> List RV -> (List RV -> Bool) -> Bool
 | [], r, K => match r with
  | [] => K []
  | _ => false
 | t :: ts, r, K => match r with
  | .p v :: rs => shape (E.shp t) v fun v => shapeRL E ts rs fun rs => K (.p v :: rs)
  | _ => false
def shapeR (E : TEnv) (t : Nat) (r : RRes) (K : RRes -> Bool) : Bool :=
 match E.tup t with
 | [] => match r with
  | .one (.p v) => shape (E.shp t) v fun v => K (.one (.p v))
  | _ => false
 | ts => match r with
  | .tup rs => shapeRL E ts rs fun rs => K (.tup rs)
  | _ => false
def actCallF (Γ : Oracle) (σ : List LObj) (nid f : Nat) (args : List LVal) (K : KA) : Bool :=
 match snapL σ 16 args with
 | some (ps, rd, wr) => Γ false f ps fun r => bif r.few then K (inst nid r).1 rd (bif r.plain then [] else wr ++ (inst nid r).2) else false
 | Option.none => false
def actCallD (E : TEnv) (Γ : Oracle) (σ : List LObj) (nid t f : Nat) (args : List LVal) (K : KA) : Bool :=
 match snapL σ 16 args with
 | some (ps, rd, wr) => Γ false f ps fun r => shapeR E t r fun r => bif r.few then K (inst nid r).1 rd (bif r.plain then [] else wr ++ (inst nid r).2) else false
 | Option.none => false
def actCallW (Γ : Oracle) (σ : List LObj) (f : Nat) (args : List LVal) (K : KA) : Bool :=
 match args with
 | .own id :: rest => match σ[id]? with
  | some (.buf false ty k es) => match snapL σ 16 rest with
   | some (ps, rd, wr) => bif rd.any (Nat.beq id) then false else Γ true f (.adr es ty k :: ps) fun r => match r with
    | .one (.p (.sl es')) => K (.tup []) (id :: rd) (wr ++ [(id, .buf false ty k es')])
    | _ => false
   | Option.none => false
  | _ => false
 | _ => false
def minmax (mx : Bool) : Int -> List LVal -> Option Int
 | a, [] => some a
 | a, .p (.lit (.int .i64 b)) :: r => minmax mx (if mx then (if b > a then b else a) else (if b < a then b else a)) r
 | _, _ => Option.none
def actCall (E : TEnv) (Γ : Oracle) (T : List LVal) (σ : List LObj) (nid t : Nat) (c : Call) (K : KA) : Bool :=
 match c.callee with
 | .value f => match f with
  | .func g => bif E.wf g then actCallW Γ σ g (c.args.toList.map (ev T)) K else actCallF Γ σ nid g (c.args.toList.map (ev T)) K
  | f => match ev T f with
   | .clo g first caps => actCallD E Γ σ nid t g (first ++ c.args.toList.map (ev T) ++ caps) K
   | .p (.clo g first caps) => actCallD E Γ σ nid t g (first.map .p ++ c.args.toList.map (ev T) ++ caps.map .p) K
   | _ => false
 | .builtin b => match b, c.args.toList.map (ev T), c.argTypes.toList with
  | .len, [x], [t] => match len? (E.str t) (E.sl t).isSome σ x with
   | some (n, rd) => K (.p (.lit (.int .i64 n))) rd []
   | Option.none => false
  | .append, [s, x], [t, t'] => if t = t' then actAppend E σ nid t s x K else false
  | .max, .p (.lit (.int .i64 a)) :: r, _ => match minmax true a r with
   | some m => K (.p (.lit (.int .i64 m))) [] []
   | Option.none => false
  | .min, .p (.lit (.int .i64 a)) :: r, _ => match minmax false a r with
   | some m => K (.p (.lit (.int .i64 m))) [] []
   | Option.none => false
  | _, _, _ => false
 | _ => false
def actConv (E : TEnv) (s d : Nat) (x : LVal) (K : KA) : Bool :=
 match E.cv s d with
 | some .same => match x with
  | .p (.lit (.string v)) => K (.p (.lit (.string v))) [] []
  | _ => false
 | some (.toInt k) => match x with
  | .p (.lit (.int _ n)) => K (.p (.lit (.int k (k.wrap n)))) [] []
  | _ => false
 | _ => false
def zeroP (agg : Bool) (zs : List Value) : Option PVal :=
 if agg then some (.agg (zs.map fun z => nrm (.lit z))) else match zs with
  | [z] => some (nrm (.lit z))
  | _ => Option.none
def actMake (E : TEnv) (nid t : Nat) (l c : LVal) (K : KA) : Bool :=
 match E.sl t with
 | some (e, k) => match E.ty e, E.zero e with
  | some (agg, _), some zs => match zeroP agg zs, l, c with
   | some z, .p (.lit (.int _ l)), .p (.lit (.int _ c)) =>
    bif decide (0 <= l) && decide (l <= c) && decide (c <= 1073741824) then K (.own nid) [] [(nid, .buf false e k (List.replicate l.toNat z))] else false
   | _, _, _ => false
  | _, _ => false
 | Option.none => false
def moveK (s : Shp) (v : LVal) (K : KV) : Bool :=
 match s with
 | .bool => match v with
  | .p (.lit (.bool b)) => bif b then K (.p (.lit (.bool true))) else K (.p (.lit (.bool false)))
  | v => K v
 | _ => K v
theorem moveK_eq (s : Shp) (v : LVal) (K : KV) : moveK s v K = K v := by
 unfold moveK
 split
 ·split
  ·next b => cases b <;> rfl
  ·rfl
 ·rfl
def act (E : TEnv) (Γ : Oracle) (T : List LVal) (σ : List LObj) (nid t : Nat) (o : Op) (K : KA) : Bool :=
 match o with
 | .move x => moveK (E.shp t) (ev T x) fun v => K v [] []
 | .assign x => K (ev T x) [] []
 | .pick c a b => match ev T c with
  | .p (.lit (.bool c)) => bif c then K (ev T a) [] [] else K (ev T b) [] []
  | _ => false
 | .alloc t => match E.zero t with
  | some zs => K (.adr nid 0 0) [] [(nid, .box false (zs.map fun z => .p (.lit z)))]
  | Option.none => false
 | .box _ x => match lcells (ev T x) with
  | some cs => if cs.all LVal.storable = true then K (.adr nid 0 0) [] [(nid, .box false cs)] else false
  | Option.none => false
 | .build t ps => actBuild E σ t (ps.toList.map fun p => (p.1, ev T p.2)) K
 | .buildSlice t n ps => actBuildSlice E σ nid t n (ps.toList.map fun p => (p.1, ev T p.2)) K
 | .load t a => actLoad E σ t (ev T a) K
 | .store t a x => actStore E σ t (ev T a) (ev T x) K
 | .nilCheck x => match ev T x with
  | .adr id i j => K (.adr id i j) [] []
  | .p (.adr es i j) => K (.p (.adr es i j)) [] []
  | _ => false
 | .binOp op t x y _ => bif isNilC y then nilEq E op t (ev T x) fun v => K v [] [] else bif isNilS y then nilEqS E op t (ev T x) fun v => K v [] [] else binL E op t (ev T x) (ev T y) fun v => K v [] []
 | .field s x f => match E.fv s f with
  | some off => match ev T x with
   | .p (.agg cs) => match cs[off]? with
    | some p => bif p.one then K (.p p) [] [] else false
    | Option.none => false
   | _ => false
  | Option.none => false
 | .unOp op _ x => unL op (ev T x) fun v => K v [] []
 | .convert s d x => actConv E s d (ev T x) K
 | .makeFunc (.func f) first caps => K (.clo f (first.toList.map (ev T)) (caps.toList.map (ev T))) [] []
 | .makeSlice t l c => actMake E nid t (ev T l) (ev T c) K
 | .slice t x lo hi Option.none => actSlice E σ t (ev T x) (lo.map (ev T)) (hi.map (ev T)) K
 | .fieldAddr s x f => actField E s f (ev T x) K
 | .indexAddr t x i => actIndexAddr E σ t (ev T x) (ev T i) K
 | .index t x i => match ev T x, ev T i with
  | .p (.lit (.string s)), .p (.lit (.int _ n)) => if E.str t then (bif decide (0 <= n) then match s[n.toNat]? with
   | some b => K (.p (.lit (.int .u8 b.toNat))) [] []
   | Option.none => false else false) else false
  | _, _ => false
 | .extract x i => match ev T x with
  | .tup vs => match vs[i]? with
   | some v => K v [] []
   | Option.none => false
  | _ => false
 | .call c => actCall E Γ T σ nid t c K
 | _ => false
def applyW (σ : List LObj) : List (Nat × LObj) -> List LObj
 | [] => σ
 | (id, o) :: r => applyW (σ.set id o) r
end Go.Ev

namespace Go.Ev
open Go Go.RowKit
mutual
def LVal.all (f : Nat -> Bool) : LVal -> Bool
 | .adr id _ _ => f id
 | .own id => f id
 | .sl id _ _ => f id
 | .clo _ a b => LVal.allL f a && LVal.allL f b
 | .tup vs => LVal.allL f vs
 | _ => true
def LVal.allL (f : Nat -> Bool) : List LVal -> Bool
 | [] => true
 | v :: vs => LVal.all f v && LVal.allL f vs
end
mutual
def LVal.ids : LVal -> List Nat
 | .adr id _ _ => [id]
 | .own id => [id]
 | .sl id _ _ => [id]
 | .clo _ a b => LVal.idsL a ++ LVal.idsL b
 | .tup vs => LVal.idsL vs
 | _ => []
def LVal.idsL : List LVal -> List Nat
 | [] => []
 | v :: vs => LVal.ids v ++ LVal.idsL vs
end
mutual
def LVal.ren (f : Nat -> Option Nat) : LVal -> LVal
 | .adr id i j => match f id with | some id => .adr id i j | Option.none => .undef
 | .own id => match f id with | some id => .own id | Option.none => .undef
 | .sl id a b => match f id with | some id => .sl id a b | Option.none => .undef
 | .clo g a b => .clo g (LVal.renL f a) (LVal.renL f b)
 | .tup vs => .tup (LVal.renL f vs)
 | v => v
def LVal.renL (f : Nat -> Option Nat) : List LVal -> List LVal
 | [] => []
 | v :: vs => LVal.ren f v :: LVal.renL f vs
end
def dstOf (ops : List Oper) (j : Nat) : Option Nat := match ops[j]? with
 | some o => o.dst
 | Option.none => Option.none
def wantedL (T : List LVal) (ops : List Oper) (o : Oper) : Option Bool :=
 match o.guard with
 | Option.none => some true
 | some (j, want) => match dstOf ops j with
  | Option.none => some false
  | some d => match T.getD d .undef with
   | .p (.lit (.bool b)) => some (b == want)
   | .p (.lit (.tuple _)) => some false
   | _ => Option.none
def putT (T : List LVal) (d : Option Nat) (v : LVal) : List LVal := match d with
 | some d => T.set d v
 | Option.none => T
def undefL : LVal := .p (.lit undef)
def okW (n : Nat) : List (Nat × LObj) -> Bool
 | [] => true
 | (id, o) :: r => id.blt n && LVal.allL (fun i => i.blt n) o.cells && okW n r
def stepR (E : TEnv) (Γ : Oracle) (ops : List Oper) (nid : Nat) (o : Oper) (T : List LVal) (σ : List LObj) (K : KA) : Bool :=
 match wantedL T ops o with
 | some w => bif w then act E Γ T σ nid o.type o.op fun v rd wr => bif v.all (fun i => i.blt (nid + 4)) && okW (nid + 4) wr then K v rd wr else false else K undefL [] []
 | Option.none => false
abbrev KS := List LVal -> List LObj -> Bool
def runOps (E : TEnv) (Γ : Oracle) (ops : List Oper) : Nat -> List Oper -> List LVal -> List LObj -> KS -> Bool
 | _, [], T, σ, K => K T σ
 | nid, o :: os, T, σ, K => stepR E Γ ops nid o T σ fun v _ wr => runOps E Γ ops (nid + 4) os (putT T o.dst v) (applyW σ wr) K
def runOpsF (E : TEnv) (Γ : Oracle) (ops : List Oper) : Nat -> List Oper -> List AR -> List LVal -> List LObj -> (List AR -> KS) -> Bool
 | _, [], fp, T, σ, K => K fp T σ
 | nid, o :: os, fp, T, σ, K => stepR E Γ ops nid o T σ fun v rd wr => runOpsF E Γ ops (nid + 4) os (fp ++ [(v, rd, wr)]) (putT T o.dst v) (applyW σ wr) K
def tmpsOf (ops : List Oper) (o : Oper) : List Nat :=
 o.op.operands.toList.filterMap (fun | .tmp t => some t | _ => Option.none) ++ (match o.guard with | some (j, _) => (dstOf ops j).toList | Option.none => [])
def before : List Oper -> List Nat -> List Nat
 | [], acc => acc
 | o :: os, acc => before os (acc ++ [o.after.toList.foldl (fun s e => if Region.binds .any e then s ||| 2 ^ e.on ||| acc.getD e.on 0 else s) 0])
def apartL (a b : List Nat) : Bool := a.all fun x => !(b.contains x)
def namesApart (ops : List Oper) (a b : Oper) : Bool :=
 (match a.dst with | some d => !((tmpsOf ops b).contains d) && !(b.dst == some d) | Option.none => true) &&
 (match b.dst with | some d => !((tmpsOf ops a).contains d) | Option.none => true)
def mayTurn (ops : List Oper) (lo : Nat) (a b : Oper) (x y : AR) : Bool :=
 namesApart ops a b && apartL (x.2.2.map (·.1)) (y.2.1 ++ y.2.2.map (·.1)) && apartL (y.2.2.map (·.1)) x.2.1 &&
 y.1.all (fun i => !(Nat.ble lo i && Nat.blt i (lo + 4))) && y.2.2.all (fun p => !(Nat.ble lo p.1 && Nat.blt p.1 (lo + 4)) && LVal.allL (fun i => !(Nat.ble lo i && Nat.blt i (lo + 4))) p.2.cells)
def edgesBack (ops : List Oper) : Bool :=
 (List.range ops.length).all fun i => match ops[i]? with
  | some o => o.after.toList.all fun e => !(Region.binds .any e) || e.on.blt i
  | Option.none => true
def turnsOk (ops : List Oper) (nid : Nat) (bef : List Nat) (fps : List AR) : Bool :=
 edgesBack ops && (List.range ops.length).all fun j => (List.range j).all fun i =>
  (bef.getD j 0).testBit i || (match ops[i]?, ops[j]?, fps[i]?, fps[j]? with
   | some a, some b, some x, some y => mayTurn ops (nid + 4 * i) a b x y
   | _, _, _, _ => false)
def runRegion (E : TEnv) (Γ : Oracle) (ops : List Oper) (draw : Bool) (T : List LVal) (σ : List LObj) (K : KS) : Bool :=
 if draw then
  runOpsF E Γ ops σ.length ops [] T (σ ++ List.replicate (4 * ops.length) .none) fun fps T' σ' => bif turnsOk ops σ.length (before ops []) fps then K T' σ' else false
 else runOps E Γ ops σ.length ops T (σ ++ List.replicate (4 * ops.length) .none) K
def findId (ids : List Nat) (id : Nat) : Option Nat := ids.findIdx? (fun x => Nat.beq x id)
def nodupB : List Nat -> Bool
 | [] => true
 | a :: l => !(l.any fun x => Nat.beq x a) && nodupB l
def objIds (σ : List LObj) (id : Nat) : List Nat := match σ[id]? with
 | some (.box _ cs) => LVal.idsL cs
 | _ => []
def addIds (acc : List Nat) : List Nat -> List Nat
 | [] => acc
 | i :: l => addIds (if acc.any fun x => Nat.beq x i then acc else acc ++ [i]) l
def reach (σ : List LObj) : Nat -> Nat -> List Nat -> List Nat
 | 0, _, acc => acc
 | n + 1, at_, acc => match acc[at_]? with
  | some id => reach σ n (at_ + 1) (addIds acc (objIds σ id))
  | Option.none => acc
def keepT (live : List Nat) : Nat -> List LVal -> List LVal
 | _, [] => []
 | n, v :: vs => (if live.any fun x => Nat.beq x n then v else .undef) :: keepT live (n + 1) vs
def renObj (f : Nat -> Option Nat) : LObj -> LObj
 | .box fz cs => .box fz (LVal.renL f cs)
 | o => o
def norm (live : List Nat) (T : List LVal) (σ : List LObj) (K : KS) : Bool :=
 let T' := keepT live 0 T
 let ids := reach σ 64 0 (addIds [] (LVal.idsL T'))
 bif nodupB ids then K (LVal.renL (findId ids) T') (ids.map fun id => renObj (findId ids) (σ.getD id .none)) else false
inductive AX where
 | normal
 | exit (id : Nat)
 | ret
abbrev KX := AX -> List LVal -> List LObj -> Bool
abbrev LOracle := Nat -> List LVal -> List LObj -> KX -> Bool
def roundK (live ex res : List Nat) (body : List LVal -> List LObj -> KX -> Bool) (next : KS) (T : List LVal) (σ : List LObj) (K : KX) : Bool :=
 body T σ fun x T' σ' => match x with
  | .normal => norm live T' σ' next
  | .exit id => norm ex T' σ' (K (.exit id))
  | .ret => norm res T' σ' (K .ret)
def loopN (live ex res : List Nat) (body : List LVal -> List LObj -> KX -> Bool) : Nat -> List LVal -> List LObj -> KX -> Bool
 | 0, _, _, _ => false
 | n + 1, T, σ, K => roundK live ex res body (fun T' σ' => loopN live ex res body n T' σ' K) T σ K
def run (E : TEnv) (Γ : Oracle) (Λ : LOracle) : Nat -> Code -> List LVal -> List LObj -> KX -> Bool
 | _, .skip, T, σ, K => K .normal T σ
 | _, .label _, T, σ, K => K .normal T σ
 | _, .exit id, T, σ, K => K (.exit id) T σ
 | _, .ret, T, σ, K => K .ret T σ
 | k, .scope b, T, σ, K => run E Γ Λ k b T σ K
 | k, .seq a b, T, σ, K => run E Γ Λ k a T σ fun x T' σ' => match x with
  | .normal => run E Γ Λ k b T' σ' K
  | x => K x T' σ'
 | k, .cond c a b, T, σ, K => match ev T c with
  | .p (.lit (.bool c)) => bif c then run E Γ Λ k a T σ K else run E Γ Λ k b T σ K
  | _ => false
 | _, .block id b, T, σ, K => run E Γ Λ id b T σ fun x T' σ' => match x with
  | .exit i => bif Nat.beq i id then K .normal T' σ' else K (.exit i) T' σ'
  | x => K x T' σ'
 | k, .loop _, T, σ, K => Λ k T σ K
 | _, .region _ ops d, T, σ, K => runRegion E Γ ops.toList d T σ fun T' σ' => K .normal T' σ'
 | _, _, _, _, _ => false
def outS (σ : List LObj) (v : LVal) : Option (RV × List LObj) := match snap σ 24 v with
 | some (p, _, wr) => some (.p p, applyW σ wr)
 | Option.none => Option.none
def outV (fresh : Bool) (σ : List LObj) (v : LVal) : Option (RV × List LObj) :=
 match fresh, v with
 | true, .own id => match σ[id]? with
  | some (.buf false ty k es) => some (.fresh ty k es, σ.set id .none)
  | _ => outS σ v
 | _, v => outS σ v
def outR (E : TEnv) (fresh : Bool) (T : List LVal) (σ : List LObj) (r : ResultVar) : Option (RV × List LObj) :=
 match r with
 | .tmp t => outV fresh σ (T.getD t .undef)
 | .cell a t => match E.ty t, T.getD a .undef with
  | some (agg, size), .adr id i j => match σ[id]? with
   | some (.box _ cs) => if i = 0 then
     if agg = true then
      if j + size <= cs.length then match snapL σ 12 ((cs.drop j).take size) with
       | some (ps, _, wr) => some (.p (.agg ps), applyW σ wr)
       | Option.none => Option.none
      else Option.none
     else match cs[j]? with
      | some c => outV fresh σ c
      | Option.none => Option.none
    else Option.none
   | _ => Option.none
  | _, _ => Option.none
def outs (E : TEnv) (fresh : Bool) (T : List LVal) (σ : List LObj) : List ResultVar -> (List RV -> Bool) -> Bool
 | [], K => K []
 | r :: rs, K => match outR E fresh T σ r with
  | some (x, σ') => outs E fresh T σ' rs fun xs => K (x :: xs)
  | Option.none => false
def resOf : List RV -> RRes
 | [r] => .one r
 | rs => .tup rs
def runFn (E : TEnv) (Γ : Oracle) (Λ : LOracle) (fresh : Bool) (fn : Func) (args : List PVal) (K : RRes -> Bool) : Bool :=
 match fn.body with
 | some c => run E Γ Λ 0 c (args.map .p ++ List.replicate (fn.ntmps - args.length) .undef) [] fun x T σ => match x with
  | .exit _ => false
  | _ => outs E fresh T σ fn.results.toList fun rs => K (resOf rs)
 | Option.none => false
def endW (ty k : Nat) (T : List LVal) (σ : List LObj) (K : RRes -> Bool) : Bool :=
 match T with
 | .own j :: _ => match σ[j]? with
  | some (.buf false ty' k' es') => bif Nat.beq ty' ty && Nat.beq k' k then K (.one (.p (.sl es'))) else false
  | _ => false
 | _ => false
def runFnW (E : TEnv) (Γ : Oracle) (Λ : LOracle) (fn : Func) (ty k : Nat) (es ps : List PVal) (K : RRes -> Bool) : Bool :=
 match fn.body with
 | some c => run E Γ Λ 0 c (.own 0 :: (ps.map .p ++ List.replicate (fn.ntmps - (ps.length + 1)) .undef)) [.buf false ty k es] fun x T σ => match x with
  | .exit _ => false
  | _ => endW ty k T σ K
 | Option.none => false
end Go.Ev

namespace Go.Ev
open Go Go.RowKit
def keys (wr : List (Nat × LObj)) : List Nat := wr.map (·.1)
theorem applyW_length (σ : List LObj) (wr : List (Nat × LObj)) : (applyW σ wr).length = σ.length := by
 induction wr generalizing σ with
 | nil => rfl
 | cons p r ih => obtain ⟨id, o⟩ := p; simp [applyW, ih]
theorem applyW_get (σ : List LObj) (wr : List (Nat × LObj)) (id : Nat) (o : LObj) (h : (applyW σ wr)[id]? = some o) : (id, o) ∈ wr ∨ (σ[id]? = some o /\ id ∉ keys wr) := by
 induction wr generalizing σ with
 | nil => exact .inr ⟨h, by simp [keys]⟩
 | cons p r ih =>
  obtain ⟨i, q⟩ := p
  rcases ih _ h with h1 | ⟨h1, h2⟩
  ·exact .inl (List.mem_cons_of_mem _ h1)
  ·by_cases e : i = id
   ·subst e
    rw [List.getElem?_set] at h1
    by_cases hl : i < σ.length
    ·simp [hl] at h1; subst h1; exact .inl (by simp)
    ·simp [hl] at h1
   ·rw [List.getElem?_set_ne e] at h1
    refine .inr ⟨h1, ?_⟩
    simp only [keys, List.map_cons, List.mem_cons, not_or]
    exact ⟨fun he => e he.symm, h2⟩
theorem applyW_out (σ : List LObj) (wr : List (Nat × LObj)) (id : Nat) (h : id ∉ keys wr) : (applyW σ wr)[id]? = σ[id]? := by
 induction wr generalizing σ with
 | nil => rfl
 | cons p r ih =>
  obtain ⟨i, q⟩ := p
  simp only [keys, List.map_cons, List.mem_cons, not_or] at h
  rw [applyW, ih _ h.2, List.getElem?_set_ne (fun e => h.1 e.symm)]
theorem applyW_append (σ : List LObj) (a b : List (Nat × LObj)) : applyW σ (a ++ b) = applyW (applyW σ a) b := by
 induction a generalizing σ with
 | nil => rfl
 | cons p r ih => obtain ⟨i, q⟩ := p; simp [applyW, ih]
def LObj.size : LObj -> Nat
 | .none => 0
 | .box _ cs => cs.length
 | .buf _ _ k es => es.length * k
def LObj.fz : LObj -> Bool
 | .none => false
 | .box f _ => f
 | .buf f _ _ _ => f
def prot (σ : List LObj) (x : Ix) (rd : List Nat) : PSet := fun b c => ∃ id, id ∈ rd /\ ∃ o, σ[id]? = some o /\ o.live = true /\ b = x.m id /\ c < o.size
def sup (S S1 : PSet) : PSet := fun b c => S b c ∨ S1 b c
theorem RepP_nrm_aux {w : World} {S : PSet} {v : Value} : RepP w S (nrm (.lit v)) v := by
 unfold nrm
 split
 ·exact .nil
 ·exact .lit _
theorem nrmL_length : ∀ cs : List PVal, (nrmL cs).length = cs.length
 | [] => by simp [nrmL]
 | c :: cs => by simp [nrmL, nrmL_length cs]
theorem nrmL_get : ∀ (cs : List PVal) (i : Nat) (hi : i < cs.length), (nrmL cs)[i]'(by rw [nrmL_length]; exact hi) = nrm cs[i]
 | c :: cs, 0, _ => by simp [nrmL]
 | c :: cs, i + 1, hi => by
  have := nrmL_get cs i (by simpa using hi)
  simpa [nrmL] using this
theorem RepP_nrm {w : World} {S : PSet} {p : PVal} {v : Value} (h : RepP w S p v) : RepP w S (nrm p) v := by
 induction h with
 | lit v => exact RepP_nrm_aux
 | agg cs vs hs h ih =>
  rw [nrm]
  exact .agg _ vs (by rw [nrmL_length]; exact hs) (fun i hi => by
   rw [nrmL_length] at hi
   rw [nrmL_get cs i hi]
   exact ih i hi)
 | nil => rw [nrm]; exact .nil; all_goals simp
 | sl es b o cap k V hcap hV hr ih => rw [nrm]; exact .sl es b o cap k V hcap hV hr; all_goals simp
 | adr es i j b o k V hi hj hV hr ih => rw [nrm]; exact .adr es i j b o k V hi hj hV hr; all_goals simp
 | clo f first caps fs cs h1 h2 hf hc ih1 ih2 => rw [nrm]; exact .clo f first caps fs cs h1 h2 hf hc; all_goals simp
variable {W0 w : World} {w0 : Beg} {Wb : Nat -> Prop} {S : PSet} {x : Ix} {σ σ' : List LObj}
theorem rowOk_buf {ty k : Nat} {es : List PVal} {id : Nat} {S' : PSet} {cur : Array Value} {V : Nat -> Value}
  (hh : w.heap[x.m id]? = some (.cells cur ty (0, 0)))
  (hV : ∀ i, i < es.length -> (V i).cells.size = k /\ ∀ j, j < k -> ∃ u, (V i).cells[j]? = some u /\ u.oneCell' = true /\ cur[i * k + j]? = some u)
  (hS : ∀ c, c < es.length * k -> S' (x.m id) c) (off len : Nat) (hl : off + len <= es.length) :
  RowOk w S' (x.m id) (off * k) k len (fun i => V (off + i)) := by
 intro i hi
 obtain ⟨h1, h2⟩ := hV (off + i) (by omega)
 refine ⟨h1, fun j hj => ?_⟩
 obtain ⟨u, hu1, hu2, hu3⟩ := h2 j hj
 have he : off * k + i * k + j = (off + i) * k + j := by rw [Nat.add_mul]
 have hlt : (off + i) * k + j < es.length * k := by
  have : (off + i + 1) * k <= es.length * k := Nat.mul_le_mul_right _ (by omega)
  rw [Nat.add_mul, Nat.one_mul] at this
  omega
 refine ⟨by rw [he]; exact hS _ hlt, u, hu1, hu2, ?_⟩
 rw [he]
 simp only [World.cell?, hh]
 exact hu3
structure SnapOk (w : World) (S' : PSet) (x : Ix) (σ' : List LObj) (p : PVal) (u : Value) (rd : List Nat) (wr : List (Nat × LObj)) : Prop where
 rep : RepP w S' p u
 hw : ∀ id o, (id, o) ∈ wr -> id ∈ rd /\ RepO w S' x id o /\ ∃ o1, σ'[id]? = some o1 /\ o1.live = true
 hd : ∀ id, id ∈ rd -> ∃ o, σ'[id]? = some o /\ o.live = true /\ (o.fz = true ∨ id ∈ keys wr)
abbrev protS (S : PSet) (σ' : List LObj) (x : Ix) (R : List Nat) : PSet := sup S (prot σ' x R)
theorem protS_lt (hI : Inv W0 w0 Wb w S x σ') {R : List Nat} (b o : Nat) (h : protS S σ' x R b o) : b < w.heap.size := by
 rcases h with h | ⟨id, _, o1, h1, h2, h3, _⟩
 ·exact hI.slt b o h
 ·rw [h3]; exact (hI.objs id o1 h1 h2).1.1
theorem buf_frozen (hI : Inv W0 w0 Wb w S x σ') {id : Nat} {fz : Bool} {ty k : Nat} {es : List PVal} (ho : σ'[id]? = some (.buf fz ty k es)) {R : List Nat} (hR : id ∈ R) :
  RepO w (protS S σ' x R) x id (.buf true ty k es) := by
 obtain ⟨-, hr⟩ := hI.objs id _ ho rfl
 obtain ⟨h1, h2, cur, h3, V, h4, h5, h6, h7⟩ := hr
 refine ⟨h1, h2, cur, h3, V, fun i hi => (h4 i hi).mono (fun _ _ _ _ h => h) (fun _ _ h => .inl h), h5, fun _ c hc => .inr ⟨id, hR, _, ho, rfl, rfl, hc⟩, ?_⟩
 intro c hc hs
 rcases hc with hc | hc
 ·cases hc
 ·rcases hs with hs | ⟨id', hid', o', ho', hl', hm, hlt⟩
  ·exact h7 c (.inr hc) hs
  ·have := hI.inj id id' _ _ ho ho' rfl hl' hm
   subst this
   rw [ho] at ho'
   cases ho'
   exact absurd hlt (by simp only [LObj.size]; omega)
mutual
theorem snap_ok {R : List Nat} (hI : Inv W0 w0 Wb w S x σ') : ∀ (n : Nat) (v : LVal) (p : PVal) (rd : List Nat) (wr : List (Nat × LObj)), snap σ n v = some (p, rd, wr) ->
  (∀ id, id ∈ rd -> σ'[id]? = σ[id]?) -> (∀ id, id ∈ rd -> id ∈ R) -> ∀ u, RepL w S x v u -> SnapOk w (protS S σ' x R) x σ' p u rd wr
 | 0, _, _, _, _, h, _, _, _, _ => by simp [snap] at h
 | n + 1, v, p, rd, wr, h, hag, hR, u, hu => by
  cases v with
  | undef => simp [snap] at h
  | tup vs => simp [snap] at h
  | p q =>
   simp only [snap, Option.some.injEq, Prod.mk.injEq] at h
   obtain ⟨rfl, rfl, rfl⟩ := h
   cases hu with
   | p hu => exact ⟨RepP_nrm (hu.mono (fun _ _ _ _ h => h) (fun _ _ h => .inl h)), by simp, by simp⟩
  | own id =>
   simp only [snap] at h
   split at h
   ·next fz ty k es ho =>
    simp only [Option.some.injEq, Prod.mk.injEq] at h
    obtain ⟨rfl, rfl, rfl⟩ := h
    have ho' : σ'[id]? = some (.buf fz ty k es) := (hag id (by simp)).trans ho
    have hRi := hR id (by simp)
    have hfr := buf_frozen hI ho' hRi
    obtain ⟨-, hr⟩ := hI.objs id _ ho' rfl
    obtain ⟨h1, h2, cur, h3, V, h4, h5, h6, h7⟩ := hr
    cases hu with
    | own _ cap hn hm hb =>
     refine ⟨?_, ?_, ?_⟩
     ·have hro := rowOk_buf (S' := protS S σ' x R) h3 h5 (fun c hc => .inr ⟨id, hRi, _, ho', rfl, rfl, hc⟩) 0 es.length (by omega)
      rw [h2] at hn
      rw [h2]
      have hz : (fun i => V (0 + i)) = V := by funext i; rw [Nat.zero_add]
      rw [Nat.zero_mul, hz] at hro
      exact .sl es (x.m id) 0 cap k V hn (fun i hi => (h4 i hi).mono (fun _ _ _ _ h => h) (fun _ _ h => .inl h)) hro
     ·intro i o hio
      cases fz with
      | true => simp at hio
      | false =>
       simp only [Bool.false_eq_true, if_false, List.mem_singleton, Prod.mk.injEq] at hio
       obtain ⟨rfl, rfl⟩ := hio
       exact ⟨by simp, hfr, _, ho', rfl⟩
     ·intro i hi
      simp only [List.mem_singleton] at hi
      subst hi
      refine ⟨_, ho', rfl, ?_⟩
      cases fz with
      | true => exact .inl rfl
      | false => exact .inr (by simp [keys])
   ·simp at h
  | sl id off len =>
   simp only [snap] at h
   split at h
   ·next fz ty k es ho =>
    split at h
    ·next hlen =>
     simp only [Option.some.injEq, Prod.mk.injEq] at h
     obtain ⟨rfl, rfl, rfl⟩ := h
     have ho' : σ'[id]? = some (.buf fz ty k es) := (hag id (by simp)).trans ho
     have hRi := hR id (by simp)
     have hfr := buf_frozen hI ho' hRi
     obtain ⟨-, hr⟩ := hI.objs id _ ho' rfl
     obtain ⟨h1, h2, cur, h3, V, h4, h5, h6, h7⟩ := hr
     cases hu with
     | sl _ _ _ cap o hn hoff hc =>
      refine ⟨?_, ?_, ?_⟩
      ·have hro := rowOk_buf (S' := protS S σ' x R) h3 h5 (fun c hc => .inr ⟨id, hRi, _, ho', rfl, rfl, hc⟩) off len hlen
       have hlen' : ((es.drop off).take len).length = len := by simp; omega
       have hget : ∀ i (hi : i < ((es.drop off).take len).length), ((es.drop off).take len)[i] = es[off + i]'(by rw [hlen'] at hi; omega) := by
        intro i hi; simp
       rcases hoff with h0 | h0
       ·have hrow0 : RowOk w (protS S σ' x R) (x.m id) o k len (fun i => V (off + i)) := by
         rw [h0]; intro i hi; omega
        rw [show len = ((es.drop off).take len).length from hlen'.symm] at hrow0 hc ⊢
        have := RepP.sl (w := w) (S := protS S σ' x R) ((es.drop off).take len) (x.m id) o cap k (fun i => V (off + i)) hc (fun i hi => by
         rw [hget i hi]; exact (h4 _ _).mono (fun _ _ _ _ h => h) (fun _ _ h => .inl h)) hrow0
        simpa [hlen'] using this
       ·rw [h0, h1]
        rw [show len = ((es.drop off).take len).length from hlen'.symm] at hro hc ⊢
        have := RepP.sl (w := w) (S := protS S σ' x R) ((es.drop off).take len) (x.m id) (off * k) cap k (fun i => V (off + i)) hc (fun i hi => by
         rw [hget i hi]; exact (h4 _ _).mono (fun _ _ _ _ h => h) (fun _ _ h => .inl h)) hro
        simpa [hlen'] using this
      ·intro i o hio
       cases fz with
       | true => simp at hio
       | false =>
        simp only [Bool.false_eq_true, if_false, List.mem_singleton, Prod.mk.injEq] at hio
        obtain ⟨rfl, rfl⟩ := hio
        exact ⟨by simp, hfr, _, ho', rfl⟩
      ·intro i hi
       simp only [List.mem_singleton] at hi
       subst hi
       refine ⟨_, ho', rfl, ?_⟩
       cases fz with
       | true => exact .inl rfl
       | false => exact .inr (by simp [keys])
    ·simp at h
   ·simp at h
  | adr id i j =>
   simp only [snap] at h
   split at h
   ·next fz ty k es ho =>
    split at h
    ·next hij =>
     simp only [Option.some.injEq, Prod.mk.injEq] at h
     obtain ⟨rfl, rfl, rfl⟩ := h
     have ho' : σ'[id]? = some (.buf fz ty k es) := (hag id (by simp)).trans ho
     have hRi := hR id (by simp)
     have hfr := buf_frozen hI ho' hRi
     obtain ⟨-, hr⟩ := hI.objs id _ ho' rfl
     obtain ⟨h1, h2, cur, h3, V, h4, h5, h6, h7⟩ := hr
     cases hu with
     | adr _ _ _ =>
      refine ⟨?_, ?_, ?_⟩
      ·have hro := rowOk_buf (S' := protS S σ' x R) h3 h5 (fun c hc => .inr ⟨id, hRi, _, ho', rfl, rfl, hc⟩) 0 es.length (by omega)
       have hz : (fun i => V (0 + i)) = V := by funext i; rw [Nat.zero_add]
       rw [Nat.zero_mul, hz] at hro
       have := RepP.adr es i j (x.m id) 0 k V hij.1 hij.2 (fun i hi => (h4 i hi).mono (fun _ _ _ _ h => h) (fun _ _ h => .inl h)) hro
       rw [Nat.zero_add] at this
       rw [h1]
       exact this
      ·intro i o hio
       cases fz with
       | true => simp at hio
       | false =>
        simp only [Bool.false_eq_true, if_false, List.mem_singleton, Prod.mk.injEq] at hio
        obtain ⟨rfl, rfl⟩ := hio
        exact ⟨by simp, hfr, _, ho', rfl⟩
      ·intro i hi
       simp only [List.mem_singleton] at hi
       subst hi
       refine ⟨_, ho', rfl, ?_⟩
       cases fz with
       | true => exact .inl rfl
       | false => exact .inr (by simp [keys])
    ·simp at h
   ·next fz cs ho =>
    split at h
    ·next hij =>
     split at h
     ·next ps rd1 wr1 hsn =>
      simp only [Option.some.injEq, Prod.mk.injEq] at h
      obtain ⟨rfl, rfl, rfl⟩ := h
      have ho' : σ'[id]? = some (.box fz cs) := (hag id (by simp)).trans ho
      have hRi := hR id (by simp)
      obtain ⟨-, hr⟩ := hI.objs id _ ho' rfl
      obtain ⟨h1, h2, vs, ty, h3, hsz, h4, h5, h6⟩ := hr
      obtain ⟨hlen, hcells⟩ := snapL_ok hI n cs ps rd1 wr1 hsn (fun i hi => hag i (List.mem_cons_of_mem _ hi)) (fun i hi => hR i (List.mem_cons_of_mem _ hi)) (fun i => vs.getD i Go.undef) (fun i hi => by
       have := (h4 i hi).1
       have he : vs.getD i Go.undef = vs[i]'(hsz ▸ hi) := by simp [Array.getD, hsz, hi]
       rw [he]; exact this)
      obtain ⟨hc1, hc2, hc3⟩ := hcells
      have hgetD : ∀ i (hi : i < cs.length), vs.getD i Go.undef = vs[i]'(hsz ▸ hi) := fun i hi => by simp [Array.getD, hsz, hi]
      have hfr : RepO w (protS S σ' x R) x id (.box true (ps.map .p)) := by
       refine ⟨by rw [h1]; simp [hlen], h2, vs, ty, h3, by rw [hsz]; simp [hlen], ?_, ?_, by simp⟩
       ·intro i hi
        simp only [List.length_map] at hi
        have hi' : i < cs.length := by rw [<- hlen]; exact hi
        refine ⟨?_, (h4 i hi').2⟩
        rw [List.getElem_map]
        have := hc1 i hi
        rw [hgetD i hi'] at this
        exact .p this
       ·intro _ c hc
        simp only [List.length_map] at hc
        exact .inr ⟨id, hRi, _, ho', rfl, rfl, by simp only [LObj.size]; omega⟩
      cases hu with
      | adr _ _ _ =>
       refine ⟨?_, ?_, ?_⟩
       ·have := RepP.adr (w := w) (S := protS S σ' x R) [.agg ps] 0 j (x.m id) 0 cs.length (fun _ => .agg vs) (by simp) hij.2 (fun i hi => by
         simp only [List.length_singleton] at hi
         obtain rfl : i = 0 := by omega
         exact .agg ps vs (by rw [hsz, hlen]) (fun i hi => by
          have := hc1 i hi
          rw [hgetD i (by rw [<- hlen]; exact hi)] at this
          exact this)) (by
         intro i hi
         simp only [List.length_singleton] at hi
         obtain rfl : i = 0 := by omega
         refine ⟨hsz, fun j hj => ?_⟩
         have h4j := h4 j hj
         refine ⟨.inr ⟨id, hRi, _, ho', rfl, rfl, by simp only [LObj.size]; omega⟩, vs[j]'(hsz ▸ hj), ?_, h4j.2, ?_⟩
         ·simp [Value.cells, hsz, hj]
         ·simp only [World.cell?, h3]
          simp [hsz, hj])
        simp only [Nat.zero_mul, Nat.zero_add, hij.1] at this ⊢
        exact this
       ·intro i o hio
        cases fz with
        | true =>
         simp only [if_true] at hio
         obtain ⟨q1, q2, q3⟩ := hc2 i o hio
         exact ⟨List.mem_cons_of_mem _ q1, q2, q3⟩
        | false =>
         simp only [Bool.false_eq_true, if_false, List.mem_cons, Prod.mk.injEq] at hio
         rcases hio with ⟨rfl, rfl⟩ | hio
         ·exact ⟨by simp, hfr, _, ho', rfl⟩
         ·obtain ⟨q1, q2, q3⟩ := hc2 i o hio
          exact ⟨List.mem_cons_of_mem _ q1, q2, q3⟩
       ·intro i hi
        simp only [List.mem_cons] at hi
        rcases hi with rfl | hi
        ·refine ⟨_, ho', rfl, ?_⟩
         cases fz with
         | true => exact .inl rfl
         | false => exact .inr (by simp [keys])
        ·obtain ⟨o, q1, q2, q3⟩ := hc3 i hi
         refine ⟨o, q1, q2, q3.imp (fun h => h) fun q => ?_⟩
         cases fz with
         | true => exact q
         | false => simp only [Bool.false_eq_true, if_false, keys, List.map_cons, List.mem_cons]; exact .inr q
     ·simp at h
    ·simp at h
   ·simp at h
  | clo f a b =>
   simp only [snap] at h
   split at h
   ·next pa r1 w1 pb r2 w2 ha hb =>
    simp only [Option.some.injEq, Prod.mk.injEq] at h
    obtain ⟨rfl, rfl, rfl⟩ := h
    cases hu with
    | clo _ _ _ fs cs l1 l2 hf hc =>
     have gf : ∀ i (hi : i < a.length), fs.getD i Go.undef = fs[i]'(l1 ▸ hi) := fun i hi => by simp [Array.getD, l1, hi]
     have gc : ∀ i (hi : i < b.length), cs.getD i Go.undef = cs[i]'(l2 ▸ hi) := fun i hi => by simp [Array.getD, l2, hi]
     obtain ⟨ea, ra, wa, da⟩ := snapL_ok hI n a pa r1 w1 ha (fun i hi => hag i (by simp [hi])) (fun i hi => hR i (by simp [hi])) (fun i => fs.getD i Go.undef) (fun i hi => by rw [gf i hi]; exact hf i hi)
     obtain ⟨eb, rb, wb, db⟩ := snapL_ok hI n b pb r2 w2 hb (fun i hi => hag i (by simp [hi])) (fun i hi => hR i (by simp [hi])) (fun i => cs.getD i Go.undef) (fun i hi => by rw [gc i hi]; exact hc i hi)
     refine ⟨.clo f pa pb fs cs (by rw [l1, ea]) (by rw [l2, eb]) (fun i hi => ?_) (fun i hi => ?_), ?_, ?_⟩
     ·have := ra i hi; rw [gf i (by rw [<- ea]; exact hi)] at this; exact this
     ·have := rb i hi; rw [gc i (by rw [<- eb]; exact hi)] at this; exact this
     ·intro i o hio
      rcases List.mem_append.1 hio with hio | hio
      ·obtain ⟨q1, q2, q3⟩ := wa i o hio; exact ⟨by simp [q1], q2, q3⟩
      ·obtain ⟨q1, q2, q3⟩ := wb i o hio; exact ⟨by simp [q1], q2, q3⟩
     ·intro i hi
      rcases List.mem_append.1 hi with hi | hi
      ·obtain ⟨o, q1, q2, q3⟩ := da i hi; exact ⟨o, q1, q2, q3.imp id fun q => by simp [keys] at q ⊢; exact .inl q⟩
      ·obtain ⟨o, q1, q2, q3⟩ := db i hi; exact ⟨o, q1, q2, q3.imp id fun q => by simp [keys] at q ⊢; exact .inr q⟩
   ·simp at h
theorem snapL_ok {R : List Nat} (hI : Inv W0 w0 Wb w S x σ') : ∀ (n : Nat) (vs : List LVal) (ps : List PVal) (rd : List Nat) (wr : List (Nat × LObj)), snapL σ n vs = some (ps, rd, wr) ->
  (∀ id, id ∈ rd -> σ'[id]? = σ[id]?) -> (∀ id, id ∈ rd -> id ∈ R) -> ∀ us : Nat -> Value, (∀ i (hi : i < vs.length), RepL w S x vs[i] (us i)) ->
  ps.length = vs.length /\ (∀ i (hi : i < ps.length), RepP w (protS S σ' x R) ps[i] (us i)) /\
  (∀ id o, (id, o) ∈ wr -> id ∈ rd /\ RepO w (protS S σ' x R) x id o /\ ∃ o1, σ'[id]? = some o1 /\ o1.live = true) /\
  (∀ id, id ∈ rd -> ∃ o, σ'[id]? = some o /\ o.live = true /\ (o.fz = true ∨ id ∈ keys wr))
 | n, [], ps, rd, wr, h, _, _, us, _ => by
  have : ps = [] /\ rd = [] /\ wr = [] := by cases n <;> simpa [snapL, eq_comm] using h
  obtain ⟨rfl, rfl, rfl⟩ := this
  exact ⟨rfl, by simp, by simp, by simp⟩
 | 0, _ :: _, _, _, _, h, _, _, _, _ => by simp [snapL] at h
 | n + 1, v :: vs, ps, rd, wr, h, hag, hR, us, hu => by
  simp only [snapL] at h
  split at h
  ·next p r1 w1 ps' r2 w2 ha hb =>
   simp only [Option.some.injEq, Prod.mk.injEq] at h
   obtain ⟨rfl, rfl, rfl⟩ := h
   obtain ⟨ra, wa, da⟩ := snap_ok hI n v p r1 w1 ha (fun i hi => hag i (by simp [hi])) (fun i hi => hR i (by simp [hi])) (us 0) (hu 0 (by simp))
   obtain ⟨eb, rb, wb, db⟩ := snapL_ok hI n vs ps' r2 w2 hb (fun i hi => hag i (by simp [hi])) (fun i hi => hR i (by simp [hi])) (fun i => us (i + 1)) (fun i hi => hu (i + 1) (by simp; omega))
   refine ⟨by simp [eb], fun i hi => ?_, ?_, ?_⟩
   ·rcases i with _ | i
    ·exact ra
    ·exact rb i (by simpa using hi)
   ·intro i o hio
    rcases List.mem_append.1 hio with hio | hio
    ·obtain ⟨q1, q2, q3⟩ := wa i o hio; exact ⟨by simp [q1], q2, q3⟩
    ·obtain ⟨q1, q2, q3⟩ := wb i o hio; exact ⟨by simp [q1], q2, q3⟩
   ·intro i hi
    rcases List.mem_append.1 hi with hi | hi
    ·obtain ⟨o, q1, q2, q3⟩ := da i hi; exact ⟨o, q1, q2, q3.imp id fun q => by simp [keys] at q ⊢; exact .inl q⟩
    ·obtain ⟨o, q1, q2, q3⟩ := db i hi; exact ⟨o, q1, q2, q3.imp id fun q => by simp [keys] at q ⊢; exact .inr q⟩
  ·simp at h
end
theorem snap_inv (hI : Inv W0 w0 Wb w S x σ') {rd : List Nat} {wr : List (Nat × LObj)}
  (hwr : ∀ id o, (id, o) ∈ wr -> id ∈ rd /\ RepO w (protS S σ' x rd) x id o /\ ∃ o1, σ'[id]? = some o1 /\ o1.live = true)
  (hrd : ∀ id, id ∈ rd -> ∃ o, σ'[id]? = some o /\ o.live = true /\ (o.fz = true ∨ id ∈ keys wr)) : Inv W0 w0 Wb w (protS S σ' x rd) x (applyW σ' wr) := by
 have hsame : ∀ id o, σ'[id]? = some o -> o.live = true -> id ∉ keys wr -> ∀ c, protS S σ' x rd (x.m id) c -> S (x.m id) c := by
  intro id o ho hl hk c hc
  rcases hc with hc | ⟨id', hid', o', ho', hl', hm, hlt⟩
  ·exact hc
  ·have := hI.inj id id' _ _ ho ho' hl hl' hm
   subst this
   obtain ⟨o2, q1, q2, q3⟩ := hrd id hid'
   rw [ho'] at q1
   cases q1
   rcases q3 with q3 | q3
   ·obtain ⟨-, hr⟩ := hI.objs id _ ho' hl'
    cases o' with
    | none => cases q2
    | box fz cs => obtain ⟨_, _, _, _, _, _, _, h5, _⟩ := hr; exact h5 q3 c hlt
    | buf fz ty k es => obtain ⟨_, _, _, _, _, _, _, h6, _⟩ := hr; exact h6 q3 c hlt
   ·exact absurd q3 hk
 have hlive : ∀ (id : Nat) (o : LObj), (applyW σ' wr)[id]? = some o -> o.live = true -> ∃ o1 : LObj, σ'[id]? = some o1 /\ o1.live = true := by
  intro id o ho hl
  rcases applyW_get _ _ _ _ ho with h1 | ⟨h1, _⟩
  ·exact (hwr id o h1).2.2
  ·exact ⟨o, h1, hl⟩
 refine hI.turn hI.below (Nat.le_refl _) (fun _ _ _ => rfl) (fun _ _ _ _ h => h) (fun _ _ h => .inl h) (fun _ _ h => h) (fun b o h => protS_lt hI b o h) ?_ ?_ ?_
 ·intro id o ho hl
  rcases applyW_get _ _ _ _ ho with h1 | ⟨h1, h2⟩
  ·obtain ⟨_, q2, o1, q3, q4⟩ := hwr id o h1
   exact .inr ⟨(hI.objs id o1 q3 q4).1, q2⟩
  ·exact .inl ⟨h1, rfl, rfl, rfl, rfl, hsame id o h1 hl h2, fun _ _ _ _ => ⟨rfl, rfl, rfl⟩⟩
 ·intro id id' o o' ho ho' hl hl' hm
  obtain ⟨o1, q1, q2⟩ := hlive id o ho hl
  obtain ⟨o2, q3, q4⟩ := hlive id' o' ho' hl'
  exact hI.inj id id' o1 o2 q1 q3 q2 q4 hm
 ·rintro b o (h | ⟨id, _, o', h1, h2, rfl, _⟩)
  ·exact .inl h
  ·exact .inr (hI.objs id o' h1 h2).1.2.1
end Go.Ev

namespace Go.Ev
open Go Go.RowKit
def aggD : TypeDesc -> Bool
 | .struct _ | .array _ _ => true
 | _ => false
structure TOk (P : Program) (E : TEnv) : Prop where
 sl : ∀ t e k, E.sl t = some (e, k) -> P.underlying t = some (.slice e) /\ ∃ i z, P.info? e = some i /\ i.size = k /\ 0 < k /\ i.zero = some z /\ z.cells.size = k /\ i.bytes <= 65536
 ty : ∀ t g n, E.ty t = some (g, n) -> ∃ i d, P.info? t = some i /\ i.size = n /\ P.underlying t = some d /\ aggD d = g
 fld : ∀ s f off, E.fld s f = some off -> ∃ fs fd i, P.underlying s = some (.struct fs) /\ fs[f]? = some fd /\ fd.offset = off /\ P.info? fd.type = some i /\ i.size ≠ 0
 fields : ∀ s l, E.fields s = some l -> ∃ fs, P.underlying s = some (.struct fs) /\ (fs.toList.map fun f => (f.offset, P.cellsOf f.type)) = l /\ ∀ f ∈ fs.toList, (P.info? f.type).isSome = true
 arr : ∀ t n e k, E.arr t = some (n, e, k) -> P.underlying t = some (.array n e) /\ ∃ i, P.info? e = some i /\ i.size = k /\ 1 < n /\ 0 < k
 zero : ∀ t zs, E.zero t = some zs -> ∃ i z, P.info? t = some i /\ i.zero = some z /\ z.cells.toList = zs /\ zs.all Value.oneCell' = true /\ i.size = zs.length
 cv : ∀ s d c, E.cv s d = some c -> match c with
  | .same => ∃ a, P.underlying s = some a /\ P.underlying d = some .string
  | .toInt k => ∃ a, P.underlying s = some a /\ P.underlying d = some (.int k)
  | _ => True
 str : ∀ t, E.str t = true -> P.underlying t = some .string
 bool : ∀ t, E.shp t = .bool -> P.underlying t = some .bool
 eq2 : ∀ t, E.eq2 t = true -> ∃ f g : Field, P.underlying t = some (.struct #[f, g]) /\ f.name ≠ "_" /\ g.name ≠ "_" /\ f.offset = 0 /\ g.offset = 1 /\
  P.underlying f.type = some .string /\ P.underlying g.type = some .string /\ P.stoodInHeld t = false /\ P.eqGuardType P.depth t = false
 fv : ∀ s f off, E.fv s f = some off -> ∃ fs fd d, P.underlying s = some (.struct fs) /\ fs[f]? = some fd /\ fd.offset = off /\ P.underlying fd.type = some d /\ aggD d = false
 ifc : ∀ t, E.ifc t = true -> ∃ ms, P.underlying t = some (.interface ms)
theorem run_isAgg {P : Program} {t : TypeId} {d : TypeDesc} (h : P.underlying t = some d) (w : World) : (isAgg t).run P w = .ok (aggD d) w := by
 cases d <;> simp [isAgg, run_underlying h, aggD]
theorem run_sizeOf' {P : Program} {t : TypeId} {i : TypeInfo} (h : P.info? t = some i) (w : World) : (sizeOf t).run P w = .ok i.size w := by
 simp [sizeOf, typeInfo, h]
def Ix.upd (x : Ix) (id b k n : Nat) : Ix := ⟨fun i => if i = id then b else x.m i, fun i => if i = id then k else x.k i, fun i => if i = id then n else x.n i⟩
theorem Ix.upd_same (x : Ix) (id b k n : Nat) : (x.upd id b k n).m id = b /\ (x.upd id b k n).k id = k /\ (x.upd id b k n).n id = n := by simp [Ix.upd]
theorem Ix.upd_other (x : Ix) (id b k n i : Nat) (h : i ≠ id) : (x.upd id b k n).m i = x.m i /\ (x.upd id b k n).k i = x.k i /\ (x.upd id b k n).n i = x.n i := by simp [Ix.upd, h]
def Free (σ : List LObj) (id : Nat) : Prop := σ[id]? = some .none /\ ∀ (i : Nat) (o : LObj), σ[i]? = some o -> ∀ l, l ∈ o.cells -> ¬ l.Leads id
variable {W0 w : World} {w0 : Beg} {Wb : Nat -> Prop} {S : PSet} {x : Ix} {σ σ' : List LObj} {P : Program} {E : TEnv}
theorem keeps_alloc (hI : Inv W0 w0 Wb w S x σ') (o : Obj) : Keeps S w (w.alloc o) :=
 .of_blocks fun b c h => Below.heap_alloc w o b (hI.slt b c h)
theorem keepsSz_alloc (o : Obj) : KeepsSz w (w.alloc o) :=
 .of_blocks fun b h => .inl (Below.heap_alloc w o b h)
theorem alloc_inv (hI : Inv W0 w0 Wb w S x σ') {id : Nat} (hf : Free σ' id) (arr : Array Value) (ty : TypeId) (k n : Nat) (o : LObj)
  (hr : RepO (w.alloc (.cells arr ty)) S (x.upd id w.heap.size k n) id o) : Inv W0 w0 Wb (w.alloc (.cells arr ty)) S (x.upd id w.heap.size k n) (σ'.set id o) := by
 have hlt : id < σ'.length := by
  rcases Nat.lt_or_ge id σ'.length with h | h
  ·exact h
  ·have := hf.1; rw [List.getElem?_eq_none h] at this; cases this
 refine hI.turn ?_ (by simp) ?_ (keeps_alloc hI _) (fun _ _ h => h) (keepsSz_alloc _) (fun b o h => by have := hI.slt b o h; simp; omega) ?_ ?_ (fun _ _ h => .inl h)
 ·exact hI.below.alloc (Nat.le_trans hI.below.size (Nat.le_refl _)) _
 ·intro b hb _; exact Below.heap_alloc w _ b (Nat.lt_of_lt_of_le hb hI.size)
 ·intro i o' ho' hl
  by_cases e : i = id
  ·subst e
   simp only [List.getElem?_set_self hlt, Option.some.injEq] at ho'
   subst ho'
   refine .inr ⟨⟨?_, ?_, ?_⟩, hr⟩ <;> rw [(x.upd_same i w.heap.size k n).1]
   ·simp
   ·exact .inl hI.size
   ·exact hI.below.size
  ·rw [List.getElem?_set_ne (Ne.symm e)] at ho'
   obtain ⟨⟨p1, p2, p3⟩, _⟩ := hI.objs i o' ho' hl
   obtain ⟨e1, e2, e3⟩ := x.upd_other id w.heap.size k n i e
   exact .inl ⟨ho', e1, e2, e3, Below.heap_alloc w _ _ p1, fun _ h => h, fun l hl j hj => x.upd_other id w.heap.size k n j (fun he => hf.2 i o' ho' l hl (he ▸ hj))⟩
 ·intro i j oi oj hi hj li lj hm
  by_cases e : i = id
  ·by_cases e' : j = id
   ·rw [e, e']
   ·rw [List.getElem?_set_ne (Ne.symm e')] at hj
    rw [e, (x.upd_same id w.heap.size k n).1, (x.upd_other id w.heap.size k n j e').1] at hm
    have := (hI.objs j oj hj lj).1.1
    omega
  ·rw [List.getElem?_set_ne (Ne.symm e)] at hi
   by_cases e' : j = id
   ·rw [e', (x.upd_same id w.heap.size k n).1, (x.upd_other id w.heap.size k n i e).1] at hm
    have := (hI.objs i oi hi li).1.1
    omega
   ·rw [List.getElem?_set_ne (Ne.symm e')] at hj
    rw [(x.upd_other id w.heap.size k n i e).1, (x.upd_other id w.heap.size k n j e').1] at hm
    exact hI.inj i j oi oj hi hj li lj hm
def After (W0 : World) (w0 : Beg) (Wb : Nat -> Prop) (w : World) (S : PSet) (x : Ix) (σ' : List LObj) (nid : Nat) (v : LVal) (wr : List (Nat × LObj)) (u : Value) (w' : World) : Prop :=
 ∃ S' x', Inv W0 w0 Wb w' S' x' (applyW σ' wr) /\ RepL w' S' x' v u /\ Keeps S w w' /\ (∀ b o, S b o -> S' b o) /\ KeepsSz w w' /\
  ∀ id, id < nid ∨ nid + 4 <= id -> x'.m id = x.m id /\ x'.k id = x.k id /\ x'.n id = x.n id
theorem After.same (hI : Inv W0 w0 Wb w S x σ') {nid : Nat} {v : LVal} {u : Value} (h : RepL w S x v u) : After W0 w0 Wb w S x σ' nid v [] u w :=
 ⟨S, x, hI, h, fun _ _ _ _ h => h, fun _ _ h => h, fun _ _ h => h, fun _ _ => ⟨rfl, rfl, rfl⟩⟩
theorem keeps_refl (S : PSet) (w : World) : Keeps S w w := fun _ _ _ _ h => h
theorem keepsSz_refl (w : World) : KeepsSz w w := fun _ _ h => h
theorem After.alloc (hI : Inv W0 w0 Wb w S x σ') {nid : Nat} (hf : Free σ' nid) (arr : Array Value) (ty : TypeId) (k n : Nat) (o : LObj) {v : LVal} {u : Value}
  (hr : RepO (w.alloc (.cells arr ty)) S (x.upd nid w.heap.size k n) nid o) (hv : RepL (w.alloc (.cells arr ty)) S (x.upd nid w.heap.size k n) v u) :
  After W0 w0 Wb w S x σ' nid v [(nid, o)] u (w.alloc (.cells arr ty)) :=
 ⟨S, _, alloc_inv hI hf arr ty k n o hr, hv, keeps_alloc hI _, fun _ _ h => h, keepsSz_alloc _, fun id h => x.upd_other nid _ k n id (by omega)⟩
theorem heap_new (w : World) (o : Obj) : (w.alloc o).heap[w.heap.size]? = some o := by simp only [World.alloc, Array.getElem?_push_size]
theorem repO_box_new (hI : Inv W0 w0 Wb w S x σ') {nid : Nat} (arr : Array Value) (ty : TypeId) (cs : List LVal) (hs : arr.size = cs.length)
  (h : ∀ i (hi : i < cs.length), RepL w S x cs[i] (arr[i]'(hs ▸ hi)) /\ (arr[i]'(hs ▸ hi)).oneCell' = true /\ ¬ cs[i].Leads nid) :
  RepO (w.alloc (.cells arr ty)) S (x.upd nid w.heap.size cs.length 1) nid (.box false cs) := by
 obtain ⟨e1, e2, e3⟩ := x.upd_same nid w.heap.size cs.length 1
 refine ⟨e2, e3, arr, ty, by rw [e1]; exact heap_new w _, hs, fun i hi => ⟨?_, (h i hi).2.1⟩, by simp, fun _ c hc => ?_⟩
 ·exact (h i hi).1.of_same (keeps_alloc hI _) (fun _ _ h => h) (keepsSz_alloc _) (fun id hl => x.upd_other nid _ _ _ id (fun e => (h i hi).2.2 (e ▸ hl)))
 ·rw [e1] at hc
  have := hI.slt _ _ hc
  omega
theorem run_alloc {t : TypeId} {i : TypeInfo} {z : Value} (hi : P.info? t = some i) (hz : i.zero = some z) (w : World) :
  (Instr.alloc t true (.tuple #[])).run P w = .ok (.pointer (some ⟨w.heap.size, 0, Option.none⟩)) (w.alloc (.cells z.cells t)) := by
 simp [Instr.alloc, zeroValue, typeInfo, hi, hz, newVar, newRow]
theorem act_alloc (hE : TOk P E) (hI : Inv W0 w0 Wb w S x σ') {nid : Nat} (hf : Free σ' nid) {t : TypeId} {zs : List Value} (hz : E.zero t = some zs) :
  ∃ u w', (Instr.alloc t true (.tuple #[])).run P w = .ok u w' /\ After W0 w0 Wb w S x σ' nid (.adr nid 0 0) [(nid, .box false (zs.map fun z => .p (.lit z)))] u w' := by
 obtain ⟨i, z, h1, h2, h3, h4, h5⟩ := hE.zero t zs hz
 refine ⟨_, _, run_alloc h1 h2 w, ?_⟩
 have hs : z.cells.size = (zs.map fun z => LVal.p (.lit z)).length := by rw [<- h3]; simp
 have hb := repO_box_new hI (nid := nid) z.cells t (zs.map fun z => LVal.p (.lit z)) hs (fun i hi => by
  have hi' : i < zs.length := by simpa using hi
  have he : z.cells[i]'(hs ▸ hi) = zs[i] := by
   have : z.cells.toList[i]'(by simpa using hs ▸ hi) = zs[i] := by simp only [h3]
   simpa using this
  refine ⟨?_, ?_, ?_⟩
  ·rw [List.getElem_map, he]; exact .p (.lit _)
  ·rw [he]; exact List.all_eq_true.1 h4 _ (List.getElem_mem hi')
  ·rw [List.getElem_map]; intro hl; cases hl)
 refine After.alloc hI hf _ _ _ _ _ hb ?_
 have := RepL.adr (w := w.alloc (.cells z.cells t)) (S := S) (x := x.upd nid w.heap.size (zs.map fun z => LVal.p (.lit z)).length 1) nid 0 0
 rw [(x.upd_same nid w.heap.size (zs.map fun z => LVal.p (.lit z)).length 1).1] at this
 simpa using this
theorem lcells_ok {v : LVal} {ls : List LVal} {u : Value} (h : lcells v = some ls) (hu : RepL w S x v u) (hall : ls.all LVal.storable = true) :
  u.cells.size = ls.length /\ ∀ i (hi : i < ls.length) (hi' : i < u.cells.size), RepL w S x ls[i] u.cells[i] /\ u.cells[i].oneCell' = true /\ ∀ id, ls[i].Leads id -> v.Leads id := by
 have one : ∀ {l : LVal} {c : Value}, RepL w S x l c -> l.storable = true -> c.oneCell' = true := by
  intro l c hl hs
  cases hl with
  | undef => cases hs
  | tup => cases hs
  | p hp =>
   cases hp with
   | lit v => exact hs
   | agg => cases hs
   | _ => rfl
  | _ => rfl
 cases hu with
 | undef => simp [lcells] at h
 | tup => simp [lcells] at h
 | p hp =>
  simp only [lcells, Option.some.injEq] at h
  subst h
  cases hp with
  | agg cs vs hs hc =>
   refine ⟨by simp [Value.cells, PVal.cells, hs], fun i hi hi' => ?_⟩
   simp only [PVal.cells, List.length_map] at hi
   have : RepL w S x (((PVal.agg cs).cells.map LVal.p)[i]'(by simpa [PVal.cells] using hi)) (vs[i]'(hs ▸ hi)) := by
    simp only [PVal.cells, List.getElem_map]; exact .p (hc i hi)
   refine ⟨this, one this (List.all_eq_true.1 hall _ (List.getElem_mem _)), fun id hl => ?_⟩
   simp only [PVal.cells, List.getElem_map] at hl; cases hl
  | lit =>
   have hone : u.oneCell' = true := by simpa [PVal.cells, LVal.storable, PVal.one] using hall
   have hvc : u.cells = #[u] := by cases u <;> first | rfl | simp [Value.oneCell'] at hone
   refine ⟨by simp [hvc, PVal.cells], fun i hi hi' => ?_⟩
   simp only [PVal.cells, List.map_cons, List.map_nil, List.length_singleton] at hi
   obtain rfl : i = 0 := by omega
   simp only [PVal.cells, List.map_cons, List.getElem_cons_zero, hvc, List.getElem_toArray]
   exact ⟨.p (.lit u), hone, fun id hl => by cases hl⟩
  | nil =>
   refine ⟨rfl, fun i hi hi' => ?_⟩
   simp only [PVal.cells, List.map_cons, List.map_nil, List.length_singleton] at hi
   obtain rfl : i = 0 := by omega
   exact ⟨.p .nil, rfl, fun id hl => by cases hl⟩
  | sl es b o cap k V hcap hV hr =>
   refine ⟨rfl, fun i hi hi' => ?_⟩
   simp only [PVal.cells, List.map_cons, List.map_nil, List.length_singleton] at hi
   obtain rfl : i = 0 := by omega
   exact ⟨.p (.sl es b o cap k V hcap hV hr), rfl, fun id hl => by cases hl⟩
  | adr es i j b o k V h1 h2 hV hr =>
   refine ⟨rfl, fun i hi hi' => ?_⟩
   simp only [PVal.cells, List.map_cons, List.map_nil, List.length_singleton] at hi
   obtain rfl : i = 0 := by omega
   exact ⟨.p (.adr es _ j b o k V h1 h2 hV hr), rfl, fun id hl => by cases hl⟩
  | clo f first caps fs cs h1 h2 hf hc =>
   refine ⟨rfl, fun i hi hi' => ?_⟩
   simp only [PVal.cells, List.map_cons, List.map_nil, List.length_singleton] at hi
   obtain rfl : i = 0 := by omega
   exact ⟨.p (.clo f first caps fs cs h1 h2 hf hc), rfl, fun id hl => by cases hl⟩
 | adr id i j =>
  simp only [lcells, Option.some.injEq] at h
  subst h
  refine ⟨rfl, fun k hk hk' => ?_⟩
  simp only [List.length_singleton] at hk
  obtain rfl : k = 0 := by omega
  exact ⟨.adr id i j, rfl, fun id hl => hl⟩
 | own id cap hn hm hb =>
  simp only [lcells, Option.some.injEq] at h
  subst h
  refine ⟨rfl, fun k hk hk' => ?_⟩
  simp only [List.length_singleton] at hk
  obtain rfl : k = 0 := by omega
  exact ⟨.own id cap hn hm hb, rfl, fun id hl => hl⟩
 | sl id off len cap o hn ho hc =>
  simp only [lcells, Option.some.injEq] at h
  subst h
  refine ⟨rfl, fun k hk hk' => ?_⟩
  simp only [List.length_singleton] at hk
  obtain rfl : k = 0 := by omega
  exact ⟨.sl id off len cap o hn ho hc, rfl, fun id hl => hl⟩
 | clo f first caps fs cs h1 h2 hf hc =>
  simp only [lcells, Option.some.injEq] at h
  subst h
  refine ⟨rfl, fun k hk hk' => ?_⟩
  simp only [List.length_singleton] at hk
  obtain rfl : k = 0 := by omega
  exact ⟨.clo f first caps fs cs h1 h2 hf hc, rfl, fun id hl => hl⟩
theorem act_box (hI : Inv W0 w0 Wb w S x σ') {nid : Nat} (hf : Free σ' nid) (t : TypeId) {v : LVal} {u : Value} (hu : RepL w S x v u) (hl : ¬ v.Leads nid)
  {ls : List LVal} (hls : lcells v = some ls) (hall : ls.all LVal.storable = true) :
  ∃ u' w', (Instr.box t u).run P w = .ok u' w' /\ After W0 w0 Wb w S x σ' nid (.adr nid 0 0) [(nid, .box false ls)] u' w' := by
 obtain ⟨h1, h2⟩ := lcells_ok hls hu hall
 refine ⟨.pointer (some ⟨w.heap.size, 0, Option.none⟩), w.alloc (.cells u.cells t), by simp [Instr.box, newVar, newRow], ?_⟩
 have hb := repO_box_new hI (nid := nid) u.cells t ls h1 (fun i hi => by
  obtain ⟨q1, q2, q3⟩ := h2 i hi (h1 ▸ hi)
  exact ⟨q1, q2, fun h => hl (q3 _ h)⟩)
 refine After.alloc hI hf _ _ _ _ _ hb ?_
 have := RepL.adr (w := w.alloc (.cells u.cells t)) (S := S) (x := x.upd nid w.heap.size ls.length 1) nid 0 0
 rw [(x.upd_same nid w.heap.size ls.length 1).1] at this
 simpa using this
end Go.Ev

namespace Go.Ev
open Go Go.RowKit
variable {W0 w : World} {w0 : Beg} {Wb : Nat -> Prop} {S : PSet} {x : Ix} {σ σ' : List LObj} {P : Program} {E : TEnv}
mutual
theorem shape_eq : ∀ (s : Shp) (v : PVal) (K : PVal -> Bool), shape s v K = true -> K v = true
 | .str, v, K, h => by
  unfold shape at h
  split at h
  ·exact h
  ·cases h
 | .int k, v, K, h => by
  unfold shape at h
  split at h
  ·next k' n =>
   by_cases e : k' = k
   ·subst e; simpa using h
   ·simp [e] at h
  ·cases h
 | .bool, v, K, h => by
  unfold shape at h
  split at h
  ·exact h
  ·cases h
 | .sl, v, K, h => by
  unfold shape at h
  split at h
  ·exact h
  ·cases h
 | .any, v, K, h => by unfold shape at h; exact h
 | .agg l, v, K, h => by
  unfold shape at h
  split at h
  ·exact shapeL_eq l _ _ h
  ·cases h
theorem shapeL_eq : ∀ (l : List Shp) (v : List PVal) (K : List PVal -> Bool), shapeL l v K = true -> K v = true
 | [], v, K, h => by
  unfold shapeL at h
  split at h
  ·exact h
  ·cases h
 | s :: ss, v, K, h => by
  unfold shapeL at h
  split at h
  ·have h1 := shape_eq s _ _ h
   have h2 := shapeL_eq ss _ _ h1
   exact h2
  ·cases h
end
theorem oneCell_cells {v : Value} (h : v.oneCell' = true) : v.cells = #[v] := by
 cases v <;> first | rfl | simp [Value.oneCell'] at h
theorem one_cells {w : World} {S : PSet} {p : PVal} {v : Value} (h : RepP w S p v) (h1 : p.one = true) : p.cells = [p] /\ v.cells = #[v] /\ v.oneCell' = true := by
 cases h with
 | lit => exact ⟨rfl, oneCell_cells h1, h1⟩
 | agg => cases h1
 | _ => exact ⟨rfl, rfl, rfl⟩
theorem run_loadVar_agg {t : TypeId} {i : TypeInfo} {d : TypeDesc} (hi : P.info? t = some i) (hd : P.underlying t = some d) (hg : aggD d = true) (w : World) (b o : Nat) (cs : List Value)
  (hl : cs.length = i.size) (h : ∀ j (hj : j < cs.length), w.cell? ⟨b, o + j, Option.none⟩ = some cs[j]) :
  (Instr.loadAt t (.pointer (some ⟨b, o, Option.none⟩))).run P w = .ok (.agg cs.toArray) w := by
 have hc := run_loadCells_list (P := P) w ⟨b, o, Option.none⟩ cs (fun j v hv => by
  obtain ⟨hj, rfl⟩ := List.getElem?_eq_some_iff.1 hv
  rw [Addr_add_none]
  exact h j hj)
 simp only [Instr.loadAt, Instr.sureAddr, loadVar, Sem.run_bind, Sem.run_pure, Result.andThen_ok, run_isAgg hd, hg, if_true, run_sizeOf' hi]
 rw [<- hl, hc]
 rfl
theorem run_loadVar_one {t : TypeId} {d : TypeDesc} (hd : P.underlying t = some d) (hg : aggD d = false) (w : World) (b o : Nat) (v : Value)
  (h : w.cell? ⟨b, o, Option.none⟩ = some v) : (Instr.loadAt t (.pointer (some ⟨b, o, Option.none⟩))).run P w = .ok v w := by
 have hl : (load ⟨b, o, Option.none⟩).run P w = .ok v w := by simp [run_load, h]
 simp only [Instr.loadAt, Instr.sureAddr, loadVar, Sem.run_bind, Sem.run_pure, Result.andThen_ok, run_isAgg hd, hg, Bool.false_eq_true, if_false, hl]
theorem partP_ok {agg : Bool} {size j : Nat} {e p : PVal} {v : Value} (h : RepP w S e v) (hp : partP agg size j e = some p) :
  (agg = true -> ∃ cs : List Value, cs.length = size /\ (∀ i (hi : i < cs.length), v.cells[j + i]? = some cs[i]) /\ RepP w S p (.agg cs.toArray)) /\
  (agg = false -> ∃ c, v.cells[j]? = some c /\ RepP w S p c) := by
 unfold partP at hp
 constructor
 ·intro ha
  rw [if_pos ha] at hp
  split at hp
  ·next cs =>
   cases h with
   | agg _ vs hs hc =>
    split at hp
    ·next h0 =>
     simp only [Option.some.injEq] at hp
     subst hp
     obtain ⟨rfl, rfl⟩ := h0
     refine ⟨vs.toList, by simpa using hs, fun i hi => ?_, ?_⟩
     ·simp only [Value.cells, Nat.zero_add]
      have hi' : i < vs.size := by simpa using hi
      simp [hi']
     ·exact .agg cs vs hs hc
    ·split at hp
     ·next h1 =>
      simp only [Option.some.injEq] at hp
      subst hp
      have hlen : ((cs.drop j).take size).length = size := by simp; omega
      have hlv : ((vs.toList.drop j).take size).length = size := by simp; omega
      refine ⟨(vs.toList.drop j).take size, hlv, fun i hi => ?_, ?_⟩
      ·have hi' : j + i < vs.size := by rw [hlv] at hi; omega
       simp only [Value.cells]
       simp [hi']
      ·refine .agg _ _ (by simp [hlen, hlv]) (fun i hi => ?_)
       have hi' : j + i < cs.length := by rw [hlen] at hi; omega
       have := hc (j + i) hi'
       simpa using this
     ·cases hp
  ·cases hp
 ·intro ha
  subst ha
  simp only [Bool.false_eq_true, if_false] at hp
  split at hp
  ·next q hq =>
   split at hp
   ·next hone =>
    simp only [Option.some.injEq] at hp
    subst hp
    cases h with
    | agg cs vs hs hc =>
     simp only [PVal.cells] at hq
     obtain ⟨hj, rfl⟩ := List.getElem?_eq_some_iff.1 hq
     exact ⟨vs[j]'(hs ▸ hj), by simp [Value.cells, hs, hj], hc j hj⟩
    | lit =>
     simp only [PVal.cells] at hq
     obtain ⟨hj, rfl⟩ := List.getElem?_eq_some_iff.1 hq
     simp only [List.length_singleton] at hj
     obtain rfl : j = 0 := by omega
     simp only [List.getElem_cons_zero, PVal.one] at hone
     exact ⟨v, by rw [oneCell_cells hone]; rfl, .lit v⟩
    | nil =>
     simp only [PVal.cells] at hq
     obtain ⟨hj, rfl⟩ := List.getElem?_eq_some_iff.1 hq
     simp only [List.length_singleton] at hj
     obtain rfl : j = 0 := by omega
     exact ⟨_, rfl, .nil⟩
    | sl es b o cap k V hcap hV hr =>
     simp only [PVal.cells] at hq
     obtain ⟨hj, rfl⟩ := List.getElem?_eq_some_iff.1 hq
     simp only [List.length_singleton] at hj
     obtain rfl : j = 0 := by omega
     exact ⟨_, rfl, .sl es b o cap k V hcap hV hr⟩
    | adr es i j' b o k V h1 h2 hV hr =>
     simp only [PVal.cells] at hq
     obtain ⟨hj, rfl⟩ := List.getElem?_eq_some_iff.1 hq
     simp only [List.length_singleton] at hj
     obtain rfl : j = 0 := by omega
     exact ⟨_, rfl, .adr es i j' b o k V h1 h2 hV hr⟩
    | clo f first caps fs cs h1 h2 hf hc =>
     simp only [PVal.cells] at hq
     obtain ⟨hj, rfl⟩ := List.getElem?_eq_some_iff.1 hq
     simp only [List.length_singleton] at hj
     obtain rfl : j = 0 := by omega
     exact ⟨_, rfl, .clo f first caps fs cs h1 h2 hf hc⟩
   ·cases hp
  ·cases hp
def OpOk (W0 : World) (P : Program) (σ : List LObj) (nid : Nat) (args : List LVal) (f : List Value -> Sem Value) (v : LVal) (rd : List Nat) (wr : List (Nat × LObj)) : Prop :=
 ∀ {w0 : Beg} {Wb : Nat -> Prop} (σ' : List LObj) (w : World) (S : PSet) (x : Ix), (∀ id, id ∈ rd ∨ id ∈ keys wr -> σ'[id]? = σ[id]?) -> Inv W0 w0 Wb w S x σ' -> (∀ r, r < 4 -> Free σ' (nid + r)) ->
  ∀ us : List Value, us.length = args.length -> (∀ i (hi : i < args.length) (hi' : i < us.length), RepL w S x args[i] us[i] /\ ∀ r, r < 4 -> ¬ args[i].Leads (nid + r)) ->
  ∃ u' w', (f us).run P w = .ok u' w' /\ After W0 w0 Wb w S x σ' nid v wr u' w'
theorem After.snap (hI : Inv W0 w0 Wb w S x σ') {nid : Nat} {rd : List Nat} {wr : List (Nat × LObj)} {v : LVal} {u : Value}
  (hw : ∀ id o, (id, o) ∈ wr -> id ∈ rd /\ RepO w (protS S σ' x rd) x id o /\ ∃ o1, σ'[id]? = some o1 /\ o1.live = true)
  (hd : ∀ id, id ∈ rd -> ∃ o, σ'[id]? = some o /\ o.live = true /\ (o.fz = true ∨ id ∈ keys wr)) (hv : RepL w (protS S σ' x rd) x v u) : After W0 w0 Wb w S x σ' nid v wr u w :=
 ⟨_, x, snap_inv hI hw hd, hv, keeps_refl _ _, fun _ _ h => .inl h, keepsSz_refl _, fun _ _ => ⟨rfl, rfl, rfl⟩⟩
theorem act_load (hE : TOk P E) {nid t : Nat} {a : LVal} {K : KA} (h : actLoad E σ t a K = true) :
  ∃ v rd wr, K v rd wr = true /\ OpOk W0 P σ nid [a] (fun us => Instr.loadAt t (us.getD 0 Go.undef)) v rd wr := by
 unfold actLoad at h
 split at h
 ·cases h
 ·next agg size hty =>
  obtain ⟨inf, d, hinf, hsz, hd, hg⟩ := hE.ty _ _ _ hty
  split at h
  ·next id i j =>
   split at h
   ·next fz cs ho =>
    split at h
    ·next hi0 =>
     split at h
     ·next hagg =>
      obtain ⟨hjs, h⟩ := pickA_ok h
      split at h
      ·next ps rd wr hsn =>
       refine ⟨_, _, _, h, ?_⟩
       intro w0 Wb σ' w S x hag hI hf us hus hu
       obtain ⟨u, rfl⟩ : ∃ u, us = [u] := List.length_eq_one_iff.1 hus
       have ho' := (hag id (.inl (by simp))).trans ho
       obtain ⟨-, hr⟩ := hI.objs id _ ho' rfl
       obtain ⟨h1, h2, vs, ty, h3, hvs, h4, h5, h6⟩ := hr
       have hu0 := (hu 0 (by simp) (by simp)).1
       simp only [List.getElem_cons_zero] at hu0
       cases hu0 with
       | adr _ _ _ =>
        subst hi0
        have hlv : ((vs.toList.drop j).take size).length = size := by simp; omega
        have hlc : ((cs.drop j).take size).length = size := by simp; omega
        obtain ⟨hpl, hp1, hp2, hp3⟩ := snapL_ok (R := rd) hI 40 _ ps rd wr hsn (fun i hi => hag i (.inl (List.mem_cons_of_mem _ hi))) (fun i hi => hi) (fun i => vs.getD (j + i) Go.undef) (fun i hi => by
         rw [hlc] at hi
         have hlt : j + i < cs.length := by omega
         have := (h4 (j + i) hlt).1
         have he : vs.getD (j + i) Go.undef = vs[j + i]'(hvs ▸ hlt) := by simp [Array.getD, hvs, hlt]
         rw [he]
         simpa using this)
        refine ⟨_, w, run_loadVar_agg hinf hd (hg.trans hagg) w _ _ ((vs.toList.drop j).take size) (by rw [hlv, hsz]) (fun i hi => ?_), ?_⟩
        ·rw [hlv] at hi
         have hlt : j + i < vs.size := by omega
         simp only [World.cell?, h3]
         simp [hlt]
        ·refine After.snap hI hp2 hp3 (.p (.agg ps _ (by simp only [List.size_toArray]; rw [hlv, hpl, hlc]) (fun i hi => ?_)))
         have hi2 : i < size := by rw [hpl, hlc] at hi; exact hi
         have := hp1 i hi
         have he : vs.getD (j + i) Go.undef = vs[j + i]'(by omega) := by simp [Array.getD, show j + i < vs.size by omega]
         rw [he] at this
         simpa using this
      ·cases h
     ·next hagg =>
      obtain ⟨c, hc, h⟩ := pickC_ok h
      refine ⟨_, _, _, h, ?_⟩
      intro w0 Wb σ' w S x hag hI hf us hus hu
      obtain ⟨u, rfl⟩ : ∃ u, us = [u] := List.length_eq_one_iff.1 hus
      have ho' := (hag id (.inl (by simp))).trans ho
      obtain ⟨-, hr⟩ := hI.objs id _ ho' rfl
      obtain ⟨h1, h2, vs, ty, h3, hvs, h4, h5, h6⟩ := hr
      have hu0 := (hu 0 (by simp) (by simp)).1
      simp only [List.getElem_cons_zero] at hu0
      obtain ⟨hj, rfl⟩ := List.getElem?_eq_some_iff.1 hc
      cases hu0 with
      | adr _ _ _ =>
       subst hi0
       refine ⟨vs[j]'(hvs ▸ hj), w, run_loadVar_one hd (by rw [hg]; simpa using hagg) w _ _ _ ?_, .same hI (h4 j hj).1⟩
       simp only [World.cell?, h3]
       simp [hvs, hj]
    ·cases h
   ·next fz ty k es ho =>
    split at h
    ·next e he =>
     have h' := shape_eq _ _ _ h
     clear h
     split at h'
     ·next p hp =>
      refine ⟨_, _, _, h', ?_⟩
      intro w0 Wb σ' w S x hag hI hf us hus hu
      obtain ⟨u, rfl⟩ : ∃ u, us = [u] := List.length_eq_one_iff.1 hus
      have ho' := (hag id (.inl (by simp))).trans ho
      obtain ⟨-, hr⟩ := hI.objs id _ ho' rfl
      obtain ⟨h1, h2, cur, h3, V, h4, h5, h6, h7⟩ := hr
      have hu0 := (hu 0 (by simp) (by simp)).1
      simp only [List.getElem_cons_zero] at hu0
      obtain ⟨hi, rfl⟩ := List.getElem?_eq_some_iff.1 he
      obtain ⟨pa, pb⟩ := partP_ok (h4 i hi) hp
      obtain ⟨q1, q2⟩ := h5 i hi
      cases hu0 with
      | adr _ _ _ =>
       cases agg with
       | true =>
        obtain ⟨cs, c1, c2, c3⟩ := pa rfl
        refine ⟨_, w, run_loadVar_agg hinf hd hg w _ _ cs (by rw [c1, hsz]) (fun l hl => ?_), .same hI (.p c3)⟩
        have hc2 := c2 l hl
        have hlt : j + l < k := by
         obtain ⟨hh, _⟩ := Array.getElem?_eq_some_iff.1 hc2
         omega
        obtain ⟨u, hu1, hu2, hu3⟩ := q2 (j + l) hlt
        rw [hc2] at hu1
        cases hu1
        simp only [World.cell?, h1, h3, Nat.add_assoc]
        exact hu3
       | false =>
        obtain ⟨c, c1, c2⟩ := pb rfl
        refine ⟨c, w, run_loadVar_one hd hg w _ _ c ?_, .same hI (.p c2)⟩
        have hlt : j < k := by
         obtain ⟨hh, _⟩ := Array.getElem?_eq_some_iff.1 c1
         omega
        obtain ⟨u, hu1, hu2, hu3⟩ := q2 j hlt
        rw [c1] at hu1
        cases hu1
        simp only [World.cell?, h1, h3]
        exact hu3
     ·cases h'
    ·cases h
   ·cases h
  ·next es i j =>
   split at h
   ·next e he =>
    split at h
    ·next p hp =>
     refine ⟨_, _, _, h, ?_⟩
     intro w0 Wb σ' w S x hag hI hf us hus hu
     obtain ⟨u, rfl⟩ : ∃ u, us = [u] := List.length_eq_one_iff.1 hus
     have hu0 := (hu 0 (by simp) (by simp)).1
     simp only [List.getElem_cons_zero] at hu0
     obtain ⟨hi, rfl⟩ := List.getElem?_eq_some_iff.1 he
     cases hu0 with
     | p hp0 =>
      cases hp0 with
      | adr _ _ _ b o k V hi' hj hV hr =>
       obtain ⟨pa, pb⟩ := partP_ok (hV i hi) hp
       obtain ⟨q1, q2⟩ := hr i hi
       cases agg with
       | true =>
        obtain ⟨cs, c1, c2, c3⟩ := pa rfl
        refine ⟨_, w, run_loadVar_agg hinf hd hg w _ _ cs (by rw [c1, hsz]) (fun l hl => ?_), .same hI (.p c3)⟩
        have hc2 := c2 l hl
        have hlt : j + l < k := by
         obtain ⟨hh, _⟩ := Array.getElem?_eq_some_iff.1 hc2
         omega
        obtain ⟨_, u, hu1, hu2, hu3⟩ := q2 (j + l) hlt
        rw [hc2] at hu1
        cases hu1
        rw [Nat.add_assoc (o + i * k)]
        exact hu3
       | false =>
        obtain ⟨c, c1, c2⟩ := pb rfl
        refine ⟨c, w, run_loadVar_one hd hg w _ _ c ?_, .same hI (.p c2)⟩
        obtain ⟨_, u, hu1, hu2, hu3⟩ := q2 j hj
        rw [c1] at hu1
        cases hu1
        exact hu3
    ·cases h
   ·cases h
  ·cases h
end Go.Ev

namespace Go.Ev
open Go Go.RowKit
variable {W0 w : World} {w0 : Beg} {Wb : Nat -> Prop} {S : PSet} {x : Ix} {σ σ' : List LObj} {P : Program} {E : TEnv}
theorem over_length {α : Type} (cs : List α) (j : Nat) (xs : List α) : (over cs j xs).length = cs.length := by
 induction xs generalizing cs j with
 | nil => rfl
 | cons a r ih => simp [over, ih]
theorem over_get {α : Type} (cs : List α) (j : Nat) (xs : List α) (hj : j + xs.length <= cs.length) (i : Nat) :
  (over cs j xs)[i]? = if j <= i /\ i < j + xs.length then xs[i - j]? else cs[i]? := by
 induction xs generalizing cs j with
 | nil => simp [over]; omega
 | cons a r ih =>
  simp only [List.length_cons] at hj
  rw [over, ih _ _ (by simp; omega)]
  by_cases h1 : j + 1 <= i /\ i < j + 1 + r.length
  ·rw [if_pos h1, if_pos (by simp; omega)]
   obtain ⟨k, rfl⟩ : ∃ k, i = j + 1 + k := ⟨i - (j + 1), by omega⟩
   rw [show j + 1 + k - (j + 1) = k by omega, show j + 1 + k - j = k + 1 by omega]
   simp
  ·rw [if_neg h1]
   by_cases h2 : i = j
   ·subst h2
    rw [if_pos (by simp), Nat.sub_self, List.getElem?_set_self (by omega)]
    rfl
   ·rw [if_neg (by simp; omega), List.getElem?_set_ne (Ne.symm h2)]
theorem overlay_get (cs : Array Value) (o : Nat) (vs : List Value) (hsz : o + vs.length <= cs.size) (i : Nat) :
  (overlay cs o vs)[i]? = if o <= i /\ i < o + vs.length then vs[i - o]? else cs[i]? := by
 by_cases h : o <= i /\ i < o + vs.length
 ·rw [if_pos h]
  obtain ⟨k, rfl⟩ : ∃ k, i = o + k := ⟨i - o, by omega⟩
  rw [overlay_in _ _ _ hsz k (by omega), Nat.add_sub_cancel_left]
 ·rw [if_neg h, overlay_out _ _ _ _ (by omega)]
theorem getElem?_lt {l : List LObj} {id : Nat} {o : LObj} (h : l[id]? = some o) : id < l.length := by
 rcases Nat.lt_or_ge id l.length with h1 | h1
 ·exact h1
 ·rw [List.getElem?_eq_none h1] at h; cases h
theorem keeps_put {b : Nat} (hS : ∀ c, ¬ S b c) (arr : Array Value) (ty : TypeId) : Keeps S w (w.putBlk b arr ty) :=
 .of_blocks fun b' c h => putBlk_other (fun e => hS c (e ▸ h))
theorem keepsSz_put {b : Nat} {old arr : Array Value} {ty ty' : TypeId} {fr : Nat × Nat} (ho : w.heap[b]? = some (.cells old ty fr)) (hs : arr.size = old.size) : KeepsSz w (w.putBlk b arr ty') :=
 .of_blocks fun b' hb => by
  by_cases e : b' = b
  ·subst e
   refine .inr ?_
   rintro sz ⟨cur, ty, fr, h1, h2⟩
   rw [ho] at h1
   cases h1
   exact ⟨arr, _, _, putBlk_same hb, hs.trans h2⟩
  ·exact .inl (putBlk_other e)
theorem put_inv (hI : Inv W0 w0 Wb w S x σ') {id : Nat} {o o' : LObj} (ho : σ'[id]? = some o) (hl : o.live = true) {old arr : Array Value} {ty ty' : TypeId} {fr : Nat × Nat}
  (hb : w.heap[x.m id]? = some (.cells old ty fr)) (hs : arr.size = old.size) (hS : ∀ c, ¬ S (x.m id) c)
  (hr : RepO (w.putBlk (x.m id) arr ty') S x id o') : Inv W0 w0 Wb (w.putBlk (x.m id) arr ty') S x (σ'.set id o') := by
 obtain ⟨⟨p1, p2, p3⟩, _⟩ := hI.objs id o ho hl
 have hlt := getElem?_lt ho
 refine hI.turn ?_ (by rw [putBlk_size]; exact Nat.le_refl _) ?_ (keeps_put hS _ _) (fun _ _ h => h) (keepsSz_put hb hs) (fun b c h => by rw [putBlk_size]; exact hI.slt b c h) ?_ ?_ (fun _ _ h => .inl h)
 ·exact ⟨hI.below.os, hI.below.tape, hI.below.output, by rw [putBlk_size]; exact hI.below.size, fun k hk => (putBlk_other (by omega)).trans (hI.below.block k hk)⟩
 ·intro b hb hw
  refine putBlk_other (fun e => ?_)
  subst e
  rcases p2 with p2 | p2
  ·omega
  ·exact hw p2
 ·intro i oi hi hli
  by_cases e : i = id
  ·subst e
   rw [List.getElem?_set_self hlt] at hi
   cases hi
   exact .inr ⟨⟨by rw [putBlk_size]; exact p1, p2, p3⟩, hr⟩
  ·rw [List.getElem?_set_ne (Ne.symm e)] at hi
   refine .inl ⟨hi, rfl, rfl, rfl, putBlk_other (fun hm => e (hI.inj i id oi o hi ho hli hl hm)), fun _ h => h, fun _ _ _ _ => ⟨rfl, rfl, rfl⟩⟩
 ·intro i j oi oj hi hj li lj hm
  have back : ∀ (k : Nat) (ok : LObj), (σ'.set id o')[k]? = some ok -> ok.live = true -> ∃ o1 : LObj, σ'[k]? = some o1 /\ o1.live = true := by
   intro k ok hk lk
   by_cases e : k = id
   ·subst e; exact ⟨o, ho, hl⟩
   ·rw [List.getElem?_set_ne (Ne.symm e)] at hk; exact ⟨ok, hk, lk⟩
  obtain ⟨o1, a1, a2⟩ := back i oi hi li
  obtain ⟨o2, b1, b2⟩ := back j oj hj lj
  exact hI.inj i j o1 o2 a1 b1 a2 b2 hm
theorem After.put (hI : Inv W0 w0 Wb w S x σ') {nid id : Nat} {o o' : LObj} (ho : σ'[id]? = some o) (hl : o.live = true) {old arr : Array Value} {ty ty' : TypeId} {fr : Nat × Nat}
  (hb : w.heap[x.m id]? = some (.cells old ty fr)) (hs : arr.size = old.size) (hS : ∀ c, ¬ S (x.m id) c)
  (hr : RepO (w.putBlk (x.m id) arr ty') S x id o') : After W0 w0 Wb w S x σ' nid .undef [(id, o')] Go.undef (w.putBlk (x.m id) arr ty') :=
 ⟨S, x, put_inv hI ho hl hb hs hS hr, .undef _, keeps_put hS _ _, fun _ _ h => h, keepsSz_put hb hs, fun _ _ => ⟨rfl, rfl, rfl⟩⟩
theorem run_storeAt_blk {t : TypeId} {i : TypeInfo} (hi : P.info? t = some i) (w : World) (b o : Nat) (ty : TypeId) (cur : Array Value) (v : Value) (hb : w.heap[b]? = some (.cells cur ty (0, 0)))
  (hsz : v.cells.size = i.size) (hle : o + i.size <= cur.size) (h1 : ∀ u ∈ v.cells.toList, u.oneCell' = true) :
  (Instr.storeAt t (.pointer (some ⟨b, o, Option.none⟩)) v).run P w = .ok () (w.putBlk b (overlay cur o v.cells.toList) ty) := by
 have hst := run_storeCells_blk (P := P) b o ty v.cells.toList 0 cur w hb (by simp [hsz]; exact hle) h1
 simp only [Nat.add_zero] at hst
 simp only [Instr.storeAt, Instr.sureAddr, storeVar, Sem.run_bind, Sem.run_pure, Result.andThen_ok, run_sizeOf' hi]
 rw [if_neg (by omega)]
 exact hst
theorem RepP.cells_get {p : PVal} {v : Value} (h : RepP w S p v) (hall : p.cells.all PVal.one = true) :
  v.cells.size = p.cells.length /\ ∀ i (hi : i < p.cells.length) (hi' : i < v.cells.size), RepP w S p.cells[i] v.cells[i] /\ v.cells[i].oneCell' = true := by
 cases h with
 | agg cs vs hs hc =>
  refine ⟨hs, fun i hi hi' => ⟨hc i hi, ?_⟩⟩
  exact (one_cells (hc i hi) (List.all_eq_true.1 hall _ (List.getElem_mem _))).2.2
 | lit =>
  have hone : v.oneCell' = true := by simpa [PVal.cells, PVal.one] using hall
  have hvc := oneCell_cells hone
  refine ⟨by rw [hvc]; rfl, fun i hi hi' => ?_⟩
  simp only [PVal.cells, List.length_singleton] at hi
  obtain rfl : i = 0 := by omega
  simp only [PVal.cells, List.getElem_cons_zero, hvc, List.getElem_toArray]
  exact ⟨.lit v, hone⟩
 | nil =>
  refine ⟨rfl, fun i hi hi' => ?_⟩
  simp only [PVal.cells, List.length_singleton] at hi
  obtain rfl : i = 0 := by omega
  exact ⟨.nil, rfl⟩
 | sl es b o cap k V hcap hV hr =>
  refine ⟨rfl, fun i hi hi' => ?_⟩
  simp only [PVal.cells, List.length_singleton] at hi
  obtain rfl : i = 0 := by omega
  exact ⟨.sl es b o cap k V hcap hV hr, rfl⟩
 | adr es i j b o k V h1 h2 hV hr =>
  refine ⟨rfl, fun i hi hi' => ?_⟩
  simp only [PVal.cells, List.length_singleton] at hi
  obtain rfl : i = 0 := by omega
  exact ⟨.adr es _ j b o k V h1 h2 hV hr, rfl⟩
 | clo f first caps fs cs h1 h2 hf hc =>
  refine ⟨rfl, fun i hi hi' => ?_⟩
  simp only [PVal.cells, List.length_singleton] at hi
  obtain rfl : i = 0 := by omega
  exact ⟨.clo f first caps fs cs h1 h2 hf hc, rfl⟩
theorem allOne {v : Value} {p : PVal} (h : RepP w S p v) (hall : p.cells.all PVal.one = true) : ∀ u ∈ v.cells.toList, u.oneCell' = true := by
 obtain ⟨h1, h2⟩ := h.cells_get hall
 intro u hu
 obtain ⟨i, hi, rfl⟩ := List.getElem_of_mem hu
 have hi' : i < v.cells.size := by simpa using hi
 simpa using (h2 i (h1 ▸ hi') hi').2
def StOk (W0 : World) (P : Program) (σ : List LObj) (nid t : Nat) (a b : LVal) (v : LVal) (rd : List Nat) (wr : List (Nat × LObj)) : Prop :=
 ∀ {w0 : Beg} {Wb : Nat -> Prop} (σ' : List LObj) (w : World) (S : PSet) (x : Ix), (∀ id, id ∈ rd ∨ id ∈ keys wr -> σ'[id]? = σ[id]?) -> Inv W0 w0 Wb w S x σ' ->
  ∀ ua ub, RepL w S x a ua -> RepL w S x b ub -> ∃ w', (Instr.storeAt t ua ub).run P w = .ok () w' /\ After W0 w0 Wb w S x σ' nid v wr Go.undef w'
theorem repO_buf_set {id : Nat} {ty k i : Nat} {es : List PVal} {q : PVal} {cur : Array Value} {V : Nat -> Value} {vq : Value}
  (h1 : x.k id = k) (h2 : x.n id = es.length) (h4 : ∀ i (hi : i < es.length), RepP w S es[i] (V i))
  (h5 : ∀ i, i < es.length -> (V i).cells.size = k /\ ∀ j, j < k -> ∃ u, (V i).cells[j]? = some u /\ u.oneCell' = true /\ cur[i * k + j]? = some u) (hS : ∀ c, ¬ S (x.m id) c)
  (hi : i < es.length) (hq : RepP w S q vq) (hk : vq.cells.size = k) (h1q : ∀ u ∈ vq.cells.toList, u.oneCell' = true) (arr : Array Value)
  (harr : ∀ c, arr[c]? = if i * k <= c /\ c < i * k + k then vq.cells[c - i * k]? else cur[c]?) (hblk : x.m id < w.heap.size) :
  RepO (w.putBlk (x.m id) arr ty) S x id (.buf false ty k (es.set i q)) := by
 have hkeep : Keeps S w (w.putBlk (x.m id) arr ty) := keeps_put hS _ _
 refine ⟨h1, by simpa using h2, arr, putBlk_same hblk, fun l => if l = i then vq else V l, ?_, ?_, by simp, fun c _ => hS c⟩
 ·intro l hl
  simp only [List.length_set] at hl
  by_cases e : l = i
  ·subst e; simp only [List.getElem_set_self, if_true]; exact hq.mono hkeep (fun _ _ h => h)
  ·simp only [List.getElem_set_ne (Ne.symm e), if_neg e]; exact (h4 l hl).mono hkeep (fun _ _ h => h)
 ·intro l hl
  simp only [List.length_set] at hl
  by_cases e : l = i
  ·subst e
   simp only [if_true]
   refine ⟨hk, fun j hj => ?_⟩
   have hj' : j < vq.cells.size := by omega
   refine ⟨vq.cells[j], by simp [hj'], h1q _ (by simp), ?_⟩
   rw [harr, if_pos (by omega), show l * k + j - l * k = j by omega]
   simp [hj']
  ·simp only [if_neg e]
   obtain ⟨q1, q2⟩ := h5 l hl
   refine ⟨q1, fun j hj => ?_⟩
   obtain ⟨u, u1, u2, u3⟩ := q2 j hj
   refine ⟨u, u1, u2, ?_⟩
   rw [harr, if_neg ?_]
   ·exact u3
   ·intro hc
    rcases Nat.lt_or_gt_of_ne e with hlt | hgt
    ·have : (l + 1) * k <= i * k := Nat.mul_le_mul_right _ hlt
     rw [Nat.add_mul, Nat.one_mul] at this
     omega
    ·have : (i + 1) * k <= l * k := Nat.mul_le_mul_right _ hgt
     rw [Nat.add_mul, Nat.one_mul] at this
     omega
theorem act_store (hE : TOk P E) {nid t : Nat} {a b : LVal} {K : KA} (h : actStore E σ t a b K = true) :
  ∃ v rd wr, K v rd wr = true /\ StOk W0 P σ nid t a b v rd wr := by
 unfold actStore at h
 split at h
 ·cases h
 ·next agg size hty =>
  obtain ⟨inf, d, hinf, hsz, hd, hg⟩ := hE.ty _ _ _ hty
  split at h
  ·next id i j =>
   split at h
   ·next cs ho =>
    split at h
    ·next ls hls =>
     split at h
     ·next hc =>
      obtain ⟨hi0, hlen, hle, hall⟩ := hc
      refine ⟨_, _, _, h, ?_⟩
      intro w0 Wb σ' w S x hag hI ua ub ha hb
      have ho' := (hag id (.inr (by simp [keys]))).trans ho
      obtain ⟨⟨p1, p2, p3⟩, hr⟩ := hI.objs id _ ho' rfl
      obtain ⟨h1, h2, vs, ty, h3, hvs, h4, h5, h6⟩ := hr
      have hS := h6 rfl
      obtain ⟨q1, q2⟩ := lcells_ok hls hb hall
      cases ha with
      | adr _ _ _ =>
       subst hi0
       rw [Nat.zero_mul, Nat.zero_add]
       have hlt : ub.cells.toList.length = size := by simp [q1, hlen]
       refine ⟨_, run_storeAt_blk hinf w _ _ ty vs ub h3 (by rw [q1, hlen, hsz]) (by rw [hsz, hvs]; exact hle) (fun u hu => ?_), ?_⟩
       ·obtain ⟨l, hl, rfl⟩ := List.getElem_of_mem hu
        have hl' : l < ub.cells.size := by simpa using hl
        simpa using (q2 l (q1 ▸ hl') hl').2.1
       ·refine After.put hI ho' rfl h3 (overlay_size _ _ _) hS ?_
        have hkeep : Keeps S w (w.putBlk (x.m id) (overlay vs j ub.cells.toList) ty) := keeps_put hS _ _
        have hksz : KeepsSz w (w.putBlk (x.m id) (overlay vs j ub.cells.toList) ty) := keepsSz_put h3 (overlay_size _ _ _)
        refine ⟨by rw [over_length]; exact h1, h2, _, ty, putBlk_same p1, by rw [overlay_size, over_length]; exact hvs, fun l hl => ?_, by simp, fun _ => hS⟩
        have hl' : l < cs.length := by rw [over_length] at hl; exact hl
        have e1 := over_get cs j ls (by omega) l
        have e2 := overlay_get vs j ub.cells.toList (by rw [hlt, hvs]; exact hle) l
        rw [List.getElem?_eq_getElem hl] at e1
        rw [Array.getElem?_eq_getElem (by rw [overlay_size, hvs]; exact hl')] at e2
        by_cases hin : j <= l /\ l < j + size
        ·rw [if_pos (by omega)] at e1 e2
         have hll : l - j < ls.length := by omega
         have hlu : l - j < ub.cells.size := by omega
         rw [List.getElem?_eq_getElem hll] at e1
         rw [List.getElem?_eq_getElem (by simpa using hlu)] at e2
         simp only [Option.some.injEq, Array.getElem_toList] at e1 e2
         rw [e1, e2]
         obtain ⟨r1, r2, _⟩ := q2 (l - j) hll hlu
         exact ⟨r1.mono hkeep (fun _ _ h => h) hksz, r2⟩
        ·rw [if_neg (by omega)] at e1 e2
         rw [List.getElem?_eq_getElem hl'] at e1
         rw [Array.getElem?_eq_getElem (by rw [hvs]; exact hl')] at e2
         simp only [Option.some.injEq] at e1 e2
         rw [e1, e2]
         exact ⟨(h4 l hl').1.mono hkeep (fun _ _ h => h) hksz, (h4 l hl').2⟩
     ·cases h
    ·cases h
   ·next ty k es ho =>
    split at h
    ·next p rd wr hsn =>
     split at h
     ·next hpc =>
      obtain ⟨hpl, hpall, hj0, hsk, hnid⟩ := hpc
      by_cases hi : i < es.length
      ·simp only [hi, decide_true, cond_true] at h
       refine ⟨_, _, _, h, ?_⟩
       intro w0 Wb σ' w S x hag hI ua ub ha hb
       have hni : id ∉ rd := fun hm => by
        have := List.any_eq_false.1 hnid id hm
        simp at this
       have ho' := (hag id (.inr (by simp [keys]))).trans ho
       obtain ⟨s1, s2, s3⟩ := snap_ok (R := rd) hI 12 b p rd wr hsn (fun i hi => hag i (.inl hi)) (fun i hi => hi) ub hb
       have hI' := snap_inv hI s2 s3
       have hkw : id ∉ keys wr := fun hm => by
        simp only [keys, List.mem_map] at hm
        obtain ⟨⟨i', o'⟩, hm, rfl⟩ := hm
        exact hni (s2 _ _ hm).1
       have ho2 : (applyW σ' wr)[id]? = some (.buf false ty k es) := (applyW_out _ _ _ hkw).trans ho'
       obtain ⟨⟨p1, p2, p3⟩, hr⟩ := hI'.objs id _ ho2 rfl
       obtain ⟨h1, h2, cur, h3, V, h4, h5, h6, h7⟩ := hr
       have hS : ∀ c, ¬ protS S σ' x rd (x.m id) c := fun c => h7 c (.inl rfl)
       subst hj0
       cases ha with
       | adr _ _ _ =>
        obtain ⟨q1, q2⟩ := s1.cells_get hpall
        have hone := allOne s1 hpall
        have hu : ub.cells.size = k := by rw [q1, hpl, hsk]
        have hle : i * k + k <= cur.size := by
         obtain ⟨r1, r2⟩ := h5 i hi
         rcases Nat.eq_zero_or_pos k with hk0 | hk0
         ·subst hk0; omega
         ·obtain ⟨u, _, _, u3⟩ := r2 (k - 1) (by omega)
          obtain ⟨hlt, _⟩ := Array.getElem?_eq_some_iff.1 u3
          omega
        refine ⟨_, run_storeAt_blk hinf w _ _ ty cur ub h3 (by rw [hu, hsz, hsk]) (by rw [hsz, hsk, h1]; omega) hone, ?_⟩
        rw [h1, Nat.add_zero]
        have hA := After.put (nid := nid) (ty' := ty) hI' ho2 rfl h3 (overlay_size cur (i * k) ub.cells.toList) hS
         (repO_buf_set h1 h2 h4 h5 hS hi s1 hu hone _ (fun c => by
          rw [overlay_get _ _ _ (by simp [hu]; exact hle)]
          simp [hu]) p1)
        obtain ⟨S', x', a1, a2, a3, a4, a5, a6⟩ := hA
        rw [applyW] at a1
        refine ⟨S', x', by rw [applyW_append]; exact a1, a2, ?_, fun b o h => a4 b o (.inl h), a5, a6⟩
        exact fun b o h => a3 b o (.inl h)
      ·simp [hi] at h
     ·cases h
    ·cases h
   ·cases h
  ·cases h
end Go.Ev

namespace Go.Ev
open Go Go.RowKit
variable {W0 w : World} {w0 : Beg} {Wb : Nat -> Prop} {S : PSet} {x : Ix} {σ σ' : List LObj} {P : Program} {E : TEnv}
abbrev Okk (W0 : World) (σ : List LObj) (nid : Nat) (v : LVal) (rd : List Nat) (wr : List (Nat × LObj)) (R : World -> PSet -> Ix -> Prop) (run : World -> Value -> World -> Prop) : Prop :=
 ∀ {w0 : Beg} {Wb : Nat -> Prop} (σ' : List LObj) (w : World) (S : PSet) (x : Ix), (∀ id, id ∈ rd ∨ id ∈ keys wr -> σ'[id]? = σ[id]?) -> Inv W0 w0 Wb w S x σ' -> (∀ r, r < 4 -> Free σ' (nid + r)) -> R w S x ->
  ∃ u' w', run w u' w' /\ After W0 w0 Wb w S x σ' nid v wr u' w'
theorem lit_of {u v : Value} (h : RepL w S x (.p (.lit v)) u) : u = v := by
 cases h with
 | p h => cases h; rfl
theorem guard_lit (op : BinOp) (t : TypeId) (y z : Operand) (a b : Value) (h : a.oneCell' = true) (hn : a ≠ .nilIface) (w : World) : (eqGuard op t y z a b).run P w = .ok () w := by
 unfold eqGuard
 cases op <;> simp <;> (cases a <;> simp_all [Value.oneCell'])
theorem binInt_ok (op : BinOp) (k : IntKind) (a b : Int) (K : KV) (h : binInt op k a b K = true) (hs : op ≠ .shl) (hs' : op ≠ .shr) (t : TypeId) :
  ∃ v, K (.p (.lit v)) = true /\ ∀ w : World, (binOp op t (.int k a) (.int k b)).run P w = .ok v w := by
 by_cases hq : op = .quo ∨ op = .rem
 ·have hb : b ≠ 0 := by
   rintro rfl
   rcases hq with rfl | rfl <;> simp [binInt] at h
  have hb' : (b == 0) = false := by simpa using hb
  rcases hq with rfl | rfl <;> simp only [binInt, intK, hb', cond_false] at h <;> refine ⟨_, h, fun w => ?_⟩ <;> simp [binOp, Op.intDiv, hb]
 ·cases op <;> simp only [binInt, intK, boolK] at h <;>
   first
   | cases h
   | (refine ⟨_, h, fun w => ?_⟩; simp only [binOp, ne_eq, not_true_eq_false, if_false]; rfl)
   | exact absurd rfl hs
   | exact absurd rfl hs'
   | exact absurd (.inl rfl) hq
   | exact absurd (.inr rfl) hq
theorem binStr_ok (op : BinOp) (a b : ByteArray) (K : KV) (h : binStr op a b K = true) (t : TypeId) :
  ∃ v, K (.p (.lit v)) = true /\ ∀ w : World, (binOp op t (.string a) (.string b)).run P w = .ok v w := by
 cases op <;> simp only [binStr, boolK] at h <;> first
  | (
   by_cases e : a.size + b.size <= 1099511627776
   ·simp only [e, decide_true, cond_true] at h
    refine ⟨_, h, fun w => ?_⟩
    have : ¬ (((a.size + b.size : Nat) : Int) > IntKind.i64.max) := by
     have h1 : IntKind.i64.max = 9223372036854775807 := by decide
     rw [h1]; omega
    simp only [binOp, Op.stringOp, this, if_false, Sem.run_pure]
   ·simp [e] at h)
  | cases h
  | (refine ⟨_, h, fun w => ?_⟩; simp only [binOp]; rfl)
theorem run_eq_bool {t : TypeId} (h : P.underlying t = some .bool) (a b : Bool) (w : World) : (Op.equal t (.bool a) (.bool b)).run P w = .ok (a == b) w := by
 have : ∀ d, (Op.equalIn (d + 1) t (.bool a) (.bool b)).run P w = .ok (a == b) w := fun d => by simp [Op.equalIn, run_underlying h]
 exact this 9999
theorem run_eq_str {t : TypeId} (h : P.underlying t = some .string) (a b : ByteArray) (d : Nat) (w : World) : (Op.equalIn (d + 1) t (.string a) (.string b)).run P w = .ok (a == b) w := by
 simp [Op.equalIn, run_underlying h]
theorem run_part_str {t : TypeId} (h : P.underlying t = some .string) (cs : Array Value) (j : Nat) (v : Value) (hv : cs[j]? = some v) (w : World) : (part t cs j).run P w = .ok v w := by
 simp [part, isAgg, run_underlying h, hv]
theorem run_eq_two {t : TypeId} {f g : Field} (h : P.underlying t = some (.struct #[f, g])) (hf : f.name ≠ "_") (hg : g.name ≠ "_") (of : f.offset = 0) (og : g.offset = 1)
  (tf : P.underlying f.type = some .string) (tg : P.underlying g.type = some .string) (hs : P.stoodInHeld t = false) (a b c d : ByteArray) (w : World) :
  (Op.equal t (.agg #[.string a, .string b]) (.agg #[.string c, .string d])).run P w = .ok (a == c && b == d) w := by
 have hfo : P.fieldsOf t = #[f, g] := by simp [Program.fieldsOf, h]
 have e1 : ∀ w : World, (part f.type #[.string a, .string b] 0).run P w = .ok (.string a) w := fun w => run_part_str tf _ _ _ rfl w
 have e2 : ∀ w : World, (part f.type #[.string c, .string d] 0).run P w = .ok (.string c) w := fun w => run_part_str tf _ _ _ rfl w
 have e3 : ∀ w : World, (part g.type #[.string a, .string b] 1).run P w = .ok (.string b) w := fun w => run_part_str tg _ _ _ rfl w
 have e4 : ∀ w : World, (part g.type #[.string c, .string d] 1).run P w = .ok (.string d) w := fun w => run_part_str tg _ _ _ rfl w
 have key : ∀ n, (Op.equalIn (n + 1 + 1) t (.agg #[.string a, .string b]) (.agg #[.string c, .string d])).run P w = .ok (a == c && b == d) w := by
  intro n
  rw [run_equalIn_struct w (n + 1) t _ _ (by rw [hfo]; exact h) hs, hfo]
  simp only [Op.eqFields, ne_eq, hf, hg, not_false_eq_true, if_true, of, og, Sem.run_bind, e1, e2, Result.andThen_ok, run_eq_str tf, e3, e4, run_eq_str tg]
  cases (a == c) <;> cases hbd : (b == d) <;> simp [Op.eqFields, e3, e4, run_eq_str tg, hbd]
 exact key 9998
theorem run_eq_nil {t e : TypeId} (h : P.underlying t = some (.slice e)) (w : World) :
  (∀ a n c, (Op.equal t (.slice (some a) n c) (.slice Option.none 0 0)).run P w = .ok false w) /\ (Op.equal t (.slice Option.none 0 0) (.slice Option.none 0 0)).run P w = .ok true w := by
 constructor
 ·intro a n c
  have : ∀ d, (Op.equalIn (d + 1) t (.slice (some a) n c) (.slice Option.none 0 0)).run P w = .ok false w := fun d => by simp [Op.equalIn, run_underlying h]
  exact this 9999
 ·have : ∀ d, (Op.equalIn (d + 1) t (.slice Option.none 0 0) (.slice Option.none 0 0)).run P w = .ok true w := fun d => by simp [Op.equalIn, run_underlying h]
  exact this 9999
theorem shift_ok (op : BinOp) (k k' : IntKind) (a b : Int) (t : TypeId) (w : World) (hb : 0 <= b) :
  (op = .shl -> (binOp op t (.int k a) (.int k' b)).run P w = .ok (.int k (k.wrap (a * 2 ^ (min b.toNat k.bits)))) w) /\
  (op = .shr -> (binOp op t (.int k a) (.int k' b)).run P w = .ok (.int k (a.fdiv (2 ^ (min b.toNat k.bits)))) w) := by
 constructor <;> rintro rfl <;> simp only [binOp, Op.shift, show ¬ b < 0 by omega, if_false] <;> rfl
theorem bin_ok (hE : TOk P E) (op : BinOp) (t : Nat) (l r : LVal) (K : KV) (h : binL E op t l r K = true) (ox oy : Operand) :
  ∃ v, K v = true /\ ∀ (w : World) (S : PSet) (x : Ix) (ul ur : Value), RepL w S x l ul -> RepL w S x r ur ->
   ∃ u, (do eqGuard op t ox oy ul ur; binOp op t ul ur : Sem Value).run P w = .ok u w /\ RepL w S x v u := by
 unfold binL at h
 split at h
 ·next k a =>
  split at h
  ·next k' b =>
   have key : ∀ (u : Value) (w : World) (S : PSet) (x : Ix) (ul ur : Value), (∀ w : World, (binOp op t (.int k a) (.int k' b)).run P w = .ok u w) -> RepL w S x (.p (.lit (.int k a))) ul -> RepL w S x (.p (.lit (.int k' b))) ur ->
     ∃ u', (do eqGuard op t ox oy ul ur; binOp op t ul ur : Sem Value).run P w = .ok u' w /\ RepL w S x (.p (.lit u)) u' := by
    intro u w S x ul ur hr h1 h2
    obtain rfl := lit_of h1
    obtain rfl := lit_of h2
    refine ⟨u, ?_, .p (.lit u)⟩
    simp only [Sem.run_bind, guard_lit op t ox oy (.int k a) (.int k' b) rfl (by simp) w, Result.andThen_ok, hr]
   split at h
   ·by_cases hb : 0 <= b
    ·simp only [hb, decide_true, cond_true, intK] at h
     exact ⟨_, h, fun w S x ul ur => key _ w S x ul ur (fun w => (shift_ok .shl k k' a b t w hb).1 rfl)⟩
    ·simp [hb] at h
   ·by_cases hb : 0 <= b
    ·simp only [hb, decide_true, cond_true, intK] at h
     exact ⟨_, h, fun w S x ul ur => key _ w S x ul ur (fun w => (shift_ok .shr k k' a b t w hb).2 rfl)⟩
    ·simp [hb] at h
   ·next hn1 hn2 =>
    by_cases hk : k = k'
    ·subst hk
     simp only [decide_true, cond_true] at h
     obtain ⟨v, hv, hr⟩ := binInt_ok (P := P) _ k a b K h hn1 hn2 t
     exact ⟨_, hv, fun w S x ul ur => key v w S x ul ur hr⟩
    ·simp [hk] at h
  ·cases h
 ·next a =>
  split at h
  ·next b =>
   obtain ⟨v, hv, hr⟩ := binStr_ok (P := P) op a b K h t
   refine ⟨_, hv, fun w S x ul ur h1 h2 => ?_⟩
   obtain rfl := lit_of h1
   obtain rfl := lit_of h2
   refine ⟨v, ?_, .p (.lit v)⟩
   simp only [Sem.run_bind, guard_lit op t ox oy (.string a) (.string b) rfl (by simp) w, Result.andThen_ok, hr]
  ·cases h
 ·next a =>
  split at h
  ·next b =>
   split at h
   ·split at h
    ·next hb =>
     refine ⟨_, h, fun w S x ul ur h1 h2 => ?_⟩
     obtain rfl := lit_of h1
     obtain rfl := lit_of h2
     refine ⟨_, ?_, .p (.lit _)⟩
     simp only [Sem.run_bind, guard_lit .eql t ox oy (.bool a) (.bool b) rfl (by simp) w, Result.andThen_ok]
     simp only [binOp, Sem.run_bind, run_eq_bool (hE.bool t hb), Result.andThen_ok, Sem.run_pure]
    ·cases h
   ·split at h
    ·next hb =>
     refine ⟨_, h, fun w S x ul ur h1 h2 => ?_⟩
     obtain rfl := lit_of h1
     obtain rfl := lit_of h2
     refine ⟨_, ?_, .p (.lit _)⟩
     simp only [Sem.run_bind, guard_lit .neq t ox oy (.bool a) (.bool b) rfl (by simp) w, Result.andThen_ok]
     simp only [binOp, Sem.run_bind, run_eq_bool (hE.bool t hb), Result.andThen_ok, Sem.run_pure]
    ·cases h
   ·cases h
  ·cases h
 ·next a b =>
  split at h
  ·next c d =>
   by_cases he : E.eq2 t = true
   ·simp only [he, cond_true] at h
    obtain ⟨f, g, e1, e2, e3, e4, e5, e6, e7, e8, e9⟩ := hE.eq2 t he
    have agg2 : ∀ {w : World} {S : PSet} {x : Ix} {p q : ByteArray} {u : Value}, RepL w S x (.p (.agg [.lit (.string p), .lit (.string q)])) u -> u = .agg #[.string p, .string q] := by
     intro w S x p q u hu
     cases hu with
     | p hu =>
      cases hu with
      | agg _ vs hs hc =>
       simp only [List.length_cons, List.length_nil] at hs
       have h0 := hc 0 (by simp)
       have h1 := hc 1 (by simp)
       simp only [List.getElem_cons_zero, List.getElem_cons_succ] at h0 h1
       congr 1
       apply Array.ext
       ·simpa using hs
       ·intro i hi1 hi2
        simp at hi2
        rcases i with _ | _ | i
        ·simpa using lit_of (x := x) (.p h0)
        ·simpa using lit_of (x := x) (.p h1)
        ·omega
    have gd : ∀ (op : BinOp) (w : World), (eqGuard op t ox oy (.agg #[.string a, .string b]) (.agg #[.string c, .string d])).run P w = .ok () w := by
     intro op w
     cases op <;> simp [eqGuard, e9]
    split at h
    ·refine ⟨_, h, fun w S x ul ur h1 h2 => ?_⟩
     obtain rfl := agg2 h1
     obtain rfl := agg2 h2
     refine ⟨_, ?_, .p (.lit _)⟩
     simp only [Sem.run_bind, gd, Result.andThen_ok]
     simp only [binOp, Sem.run_bind, run_eq_two e1 e2 e3 e4 e5 e6 e7 e8, Result.andThen_ok, Sem.run_pure]
    ·refine ⟨_, h, fun w S x ul ur h1 h2 => ?_⟩
     obtain rfl := agg2 h1
     obtain rfl := agg2 h2
     refine ⟨_, ?_, .p (.lit _)⟩
     simp only [Sem.run_bind, gd, Result.andThen_ok]
     simp only [binOp, Sem.run_bind, run_eq_two e1 e2 e3 e4 e5 e6 e7 e8, Result.andThen_ok, Sem.run_pure]
    ·cases h
   ·simp [he] at h
  ·cases h
 ·split at h
  ·split at h
   ·next bb hnn =>
    cases hsl : E.sl t with
    | none => simp [hsl] at h
    | some ek =>
     obtain ⟨e, k⟩ := ek
     simp only [hsl, Option.isSome_some, cond_true] at h
     obtain ⟨hu, _⟩ := hE.sl t e k hsl
     have fact : ∀ {w : World} {S : PSet} {x : Ix} {ul : Value}, RepL w S x l ul -> (bb = true -> ∃ a n c, ul = .slice (some a) n c) /\ (bb = false -> ul = .slice Option.none 0 0) := by
      intro w S x ul hl
      unfold notNil at hnn
      split at hnn
      ·simp only [Option.some.injEq] at hnn
       subst hnn
       cases hl with
       | own id cap hn hm hb => exact ⟨fun _ => ⟨_, _, _, rfl⟩, fun h => by cases h⟩
      ·simp only [Option.some.injEq] at hnn
       subst hnn
       cases hl with
       | p hl =>
        cases hl with
        | sl es b o cap k V hcap hV hr => exact ⟨fun _ => ⟨_, _, _, rfl⟩, fun h => by cases h⟩
      ·simp only [Option.some.injEq] at hnn
       subst hnn
       exact ⟨(fun h => by cases h), fun _ => lit_of hl⟩
      ·cases hnn
     have eqv : ∀ {w : World} {S : PSet} {x : Ix} {ul : Value}, RepL w S x l ul -> (Op.equal t ul (.slice Option.none 0 0)).run P w = .ok (!bb) w /\ ∀ op w, (eqGuard op t ox oy ul (.slice Option.none 0 0)).run P w = .ok () w := by
      intro w S x ul hl
      obtain ⟨f1, f2⟩ := fact hl
      cases bb with
      | true =>
       obtain ⟨a, n, c, rfl⟩ := f1 rfl
       exact ⟨(run_eq_nil hu w).1 a n c, fun op w => guard_lit op t ox oy (.slice (some a) n c) _ rfl (by simp) w⟩
      | false =>
       obtain rfl := f2 rfl
       exact ⟨(run_eq_nil hu w).2, fun op w => guard_lit op t ox oy (.slice Option.none 0 0) _ rfl (by simp) w⟩
     split at h
     ·refine ⟨_, h, fun w S x ul ur h1 h2 => ?_⟩
      obtain rfl := lit_of h2
      obtain ⟨q1, q2⟩ := eqv h1
      refine ⟨_, ?_, .p (.lit _)⟩
      obtain ⟨f1, f2⟩ := fact h1
      simp only [Sem.run_bind, q2, Result.andThen_ok]
      cases bb with
      | true =>
       obtain ⟨a, n, c, rfl⟩ := f1 rfl
       simp only [binOp, Sem.run_bind, q1, Result.andThen_ok, Sem.run_pure]
      | false =>
       obtain rfl := f2 rfl
       simp only [binOp, Sem.run_bind, q1, Result.andThen_ok, Sem.run_pure]
     ·refine ⟨_, h, fun w S x ul ur h1 h2 => ?_⟩
      obtain rfl := lit_of h2
      obtain ⟨q1, q2⟩ := eqv h1
      refine ⟨_, ?_, .p (.lit _)⟩
      obtain ⟨f1, f2⟩ := fact h1
      simp only [Sem.run_bind, q2, Result.andThen_ok]
      cases bb with
      | true =>
       obtain ⟨a, n, c, rfl⟩ := f1 rfl
       simp only [binOp, Sem.run_bind, q1, Result.andThen_ok, Sem.run_pure, Bool.not_not]
      | false =>
       obtain rfl := f2 rfl
       simp only [binOp, Sem.run_bind, q1, Result.andThen_ok, Sem.run_pure, Bool.not_not]
     ·cases h
   ·cases h
  ·cases h
theorem un_ok (op : UnOp) (l : LVal) (K : KV) (h : unL op l K = true) :
  ∃ v, K v = true /\ ∀ (w : World) (S : PSet) (x : Ix) (u : Value), RepL w S x l u -> ∃ u', (Op.unary op u).run P w = .ok u' w /\ RepL w S x v u' := by
 unfold unL at h
 split at h
 ·split at h
  ·refine ⟨_, h, fun w S x u hu => ?_⟩
   obtain rfl := lit_of hu
   exact ⟨_, rfl, .p (.lit _)⟩
  ·cases h
 ·split at h
  ·refine ⟨_, h, fun w S x u hu => ?_⟩
   obtain rfl := lit_of hu
   exact ⟨_, rfl, .p (.lit _)⟩
  ·cases h
 ·cases h
end Go.Ev

namespace Go.Ev
open Go Go.RowKit
variable {W0 w : World} {w0 : Beg} {Wb : Nat -> Prop} {S : PSet} {x : Ix} {σ σ' : List LObj} {P : Program} {E : TEnv}
abbrev OkP (W0 : World) (P : Program) (σ : List LObj) (v : LVal) (rd : List Nat) (R : World -> PSet -> Ix -> Prop) (m : Sem Value) : Prop :=
 ∀ {w0 : Beg} {Wb : Nat -> Prop} (σ' : List LObj) (w : World) (S : PSet) (x : Ix), (∀ id, id ∈ rd -> σ'[id]? = σ[id]?) -> Inv W0 w0 Wb w S x σ' -> R w S x -> ∃ u, m.run P w = .ok u w /\ RepL w S x v u
theorem part_of_row {es : List PVal} {i b o k : Nat} {V : Nat -> Value} (hi : i < es.length) (hV : ∀ i (hi : i < es.length), RepP w S es[i] (V i)) (hr : RowOk w S b o k es.length V) (j : Nat) (hj : j < k) :
  RepP w S (.adr [es[i]] 0 j) (.pointer (some ⟨b, o + i * k + j, Option.none⟩)) := by
 have := RepP.adr (w := w) (S := S) [es[i]] 0 j b (o + i * k) k (fun _ => V i) (by simp) hj (fun l hl => by
  simp only [List.length_singleton] at hl
  obtain rfl : l = 0 := by omega
  exact hV i hi) (fun l hl => by
  simp only [List.length_singleton] at hl
  obtain rfl : l = 0 := by omega
  obtain ⟨h1, h2⟩ := hr i hi
  exact ⟨h1, fun j hj => by simpa using h2 j hj⟩)
 simpa using this
theorem run_indexAt_slice {t e : TypeId} {i : TypeInfo} (ht : P.underlying t = some (.slice e)) (hi : P.info? e = some i) (a : Addr) (n c : Nat) (k : IntKind) (j : Int) (h0 : 0 <= j) (h1 : j < n) (w : World) :
  (Instr.indexAt t (.slice (some a) n c) (.int k j)).run P w = .ok (.pointer (some (a.add (j.toNat * i.size)))) w := by
 simp [Instr.indexAt, asIntOf, run_underlying ht, h0, h1, run_sizeOf' hi]
theorem run_indexAt_array {t e : TypeId} {i : TypeInfo} {n : Nat} (ht : P.underlying t = some (.array n e)) (hi : P.info? e = some i) (a : Addr) (k : IntKind) (j : Int) (h0 : 0 <= j) (h1 : j < n) (w : World) :
  (Instr.indexAt t (.pointer (some a)) (.int k j)).run P w = .ok (.pointer (some (a.add (j.toNat * i.size)))) w := by
 simp [Instr.indexAt, asIntOf, run_underlying ht, Instr.sureAddr, h0, h1, run_sizeOf' hi]
theorem act_indexAddr (hE : TOk P E) {t : Nat} {l ix : LVal} {K : KA} (h : actIndexAddr E σ t l ix K = true) :
  ∃ v rd, K v rd [] = true /\ ∀ ul ui, OkP W0 P σ v rd (fun w S x => RepL w S x l ul /\ RepL w S x ix ui) (Instr.indexAt t ul ui) := by
 unfold actIndexAddr at h
 split at h
 ·next kk i =>
  split at h
  ·next e k hsl =>
   obtain ⟨hu, inf, z, hi1, hi2, hi3, hi4, hi5, hi6⟩ := hE.sl t e k hsl
   split at h
   ·next id =>
    split at h
    ·next fz ty k' es ho =>
     by_cases hk : k' = k
     ·subst hk
      simp only [decide_true, cond_true] at h
      by_cases hb : 0 <= i /\ i < (es.length : Int)
      ·simp only [hb.1, hb.2, decide_true, Bool.and_self, cond_true] at h
       refine ⟨_, _, h, ?_⟩
       intro ul ui w0 Wb σ' w S x hag hI hR
       obtain ⟨hl, hii⟩ := hR
       obtain rfl := lit_of hii
       have ho' := (hag id (by simp)).trans ho
       obtain ⟨-, hr⟩ := hI.objs id _ ho' rfl
       obtain ⟨h1, h2, _⟩ := hr
       cases hl with
       | own _ cap hn hm hbk =>
        refine ⟨_, run_indexAt_slice hu hi1 _ _ _ kk i hb.1 (by rw [h2]; exact hb.2) w, ?_⟩
        rw [Addr_add_none, Nat.zero_add, hi2]
        have := RepL.adr (w := w) (S := S) (x := x) id i.toNat 0
        rw [h1] at this
        simpa using this
      ·rcases Decidable.not_and_iff_or_not.1 hb with hb | hb <;> simp [hb] at h
     ·simp [hk] at h
    ·cases h
   ·next id off len =>
    split at h
    ·next fz ty k' es ho =>
     by_cases hk : k' = k
     ·subst hk
      simp only [decide_true, cond_true] at h
      by_cases hb : 0 <= i /\ i < (len : Int)
      ·simp only [hb.1, hb.2, decide_true, Bool.and_self, cond_true] at h
       refine ⟨_, _, h, ?_⟩
       intro ul ui w0 Wb σ' w S x hag hI hR
       obtain ⟨hl, hii⟩ := hR
       obtain rfl := lit_of hii
       have ho' := (hag id (by simp)).trans ho
       obtain ⟨-, hr⟩ := hI.objs id _ ho' rfl
       obtain ⟨h1, h2, _⟩ := hr
       cases hl with
       | sl _ _ _ cap o hn hoff hc =>
        refine ⟨_, run_indexAt_slice hu hi1 _ _ _ kk i hb.1 hb.2 w, ?_⟩
        rcases hoff with h0 | h0
        ·omega
        ·rw [Addr_add_none, hi2, h0]
         have := RepL.adr (w := w) (S := S) (x := x) id (off + i.toNat) 0
         rw [h1, Nat.add_mul, Nat.add_zero] at this
         rw [h1]
         exact this
      ·rcases Decidable.not_and_iff_or_not.1 hb with hb | hb <;> simp [hb] at h
     ·simp [hk] at h
    ·cases h
   ·next es =>
    by_cases hb : 0 <= i
    ·simp only [hb, decide_true, cond_true] at h
     split at h
     ·next v hv =>
      have h' := shape_eq _ _ _ h
      by_cases hc : v.cells.length = k /\ v.cells.all PVal.one = true
      ·simp only [hc.1, hc.2, decide_true, Bool.and_self, cond_true] at h'
       refine ⟨_, _, h', ?_⟩
       intro ul ui w0 Wb σ' w S x hag hI hR
       obtain ⟨hl, hii⟩ := hR
       obtain rfl := lit_of hii
       obtain ⟨hlt, rfl⟩ := List.getElem?_eq_some_iff.1 hv
       cases hl with
       | p hp =>
        cases hp with
        | nil => simp at hlt
        | sl _ b o cap k' V hcap hV hr =>
         refine ⟨_, run_indexAt_slice hu hi1 _ _ _ kk i hb (by omega) w, ?_⟩
         obtain ⟨q1, q2⟩ := hr i.toNat hlt
         have hkk : k' = k := by rw [<- q1, ((hV i.toNat hlt).cells_get hc.2).1, hc.1]
         subst hkk
         rw [Addr_add_none, hi2]
         exact .p (part_of_row hlt hV hr 0 hi3)
      ·rcases Decidable.not_and_iff_or_not.1 hc with hc | hc <;> simp [hc] at h'
     ·cases h
    ·simp [hb] at h
   ·cases h
  ·split at h
   ·next n e k har =>
    obtain ⟨hu, inf, hi1, hi2, hi3, hi4⟩ := hE.arr t n e k har
    split at h
    ·next id i0 j =>
     by_cases hb : 0 <= i /\ i < (n : Int)
     ·simp only [hb.1, hb.2, decide_true, Bool.and_self, cond_true] at h
      refine ⟨_, _, h, ?_⟩
      intro ul ui w0 Wb σ' w S x hag hI hR
      obtain ⟨hl, hii⟩ := hR
      obtain rfl := lit_of hii
      cases hl with
      | adr _ _ _ =>
       refine ⟨_, run_indexAt_array hu hi1 _ kk i hb.1 hb.2 w, ?_⟩
       rw [Addr_add_none, hi2]
       have := RepL.adr (w := w) (S := S) (x := x) id i0 (j + i.toNat * k)
       rw [Nat.add_assoc]
       exact this
     ·rcases Decidable.not_and_iff_or_not.1 hb with hb | hb <;> simp [hb] at h
    ·cases h
   ·cases h
 ·cases h
theorem cells_le {v : PVal} {u : Value} (h : RepP w S v u) : v.cells.length <= 1 ∨ v.cells.length = u.cells.size := by
 cases h with
 | agg cs vs hs hc => exact .inr hs.symm
 | _ => exact .inl (Nat.le_refl _)
theorem act_field (hE : TOk P E) {s f : Nat} {l : LVal} {K : KA} (h : actField E s f l K = true) :
  ∃ v, K v [] [] = true /\ ∀ ul, OkP W0 P σ v [] (fun w S x => RepL w S x l ul) (Instr.fieldAt s ul f) := by
 unfold actField at h
 split at h
 ·next off hoff =>
  obtain ⟨fs, fd, inf, h1, h2, h3, h4, h5⟩ := hE.fld s f off hoff
  have run : ∀ (a : Addr) (w : World), (Instr.fieldAt s (.pointer (some a)) f).run P w = .ok (.pointer (some (a.add off))) w := by
   intro a w
   simp [Instr.fieldAt, run_underlying h1, h2, Instr.sureAddr, fieldPlace, run_sizeOf' h4, h5, h3]
  split at h
  ·next id i j =>
   refine ⟨_, h, ?_⟩
   intro ul w0 Wb σ' w S x hag hI hl
   cases hl with
   | adr _ _ _ =>
    refine ⟨_, run _ w, ?_⟩
    rw [Addr_add_none, Nat.add_assoc]
    exact .adr id i (j + off)
  ·next v j =>
   split at h
   ·next hlt =>
    refine ⟨_, h, ?_⟩
    intro ul w0 Wb σ' w S x hag hI hl
    cases hl with
    | p hp =>
     cases hp with
     | adr _ _ _ b o k V hi hj hV hr =>
      refine ⟨_, run _ w, ?_⟩
      rw [Addr_add_none]
      have hkk : j + off < k := by
       obtain ⟨q1, _⟩ := hr 0 hi
       have hv := hV 0 hi
       simp only [List.getElem_cons_zero] at hv
       rcases cells_le hv with hc | hc <;> omega
      have := RepP.adr [v] 0 (j + off) b o k V hi hkk hV hr
      simp only [Nat.zero_mul, Nat.add_zero, <- Nat.add_assoc] at this ⊢
      exact .p this
   ·cases h
  ·cases h
 ·cases h
end Go.Ev

namespace Go.Ev
open Go Go.RowKit
variable {W0 w : World} {w0 : Beg} {Wb : Nat -> Prop} {S : PSet} {x : Ix} {σ σ' : List LObj} {P : Program} {E : TEnv}
def IsBound (b : Option Value) (d n : Nat) : Prop := (b = Option.none /\ n = d) ∨ ∃ k i, b = some (.int k i) /\ 0 <= i /\ i.toNat = n
theorem run_sliceBound (k : IntKind) (i : Int) (y : Nat) (c : BoundsCode) (h0 : 0 <= i) (h1 : i.toNat <= y) (w : World) : (Instr.sliceBound (.int k i) y c).run P w = .ok i.toNat w := by
 have : i <= y := by omega
 simp [Instr.sliceBound, asIntOf, h0, this]
theorem run_sliceBounds (s : Bool) (len cap : Nat) (lo hi : Option Value) (l h : Nat) (hlo : IsBound lo 0 l) (hhi : IsBound hi len h) (h1 : l <= h) (h2 : h <= cap) (w : World) :
  (Instr.sliceBounds s len cap lo hi Option.none).run P w = .ok (l, h, cap) w := by
 have rl : ∀ (k : IntKind) (i : Int) (c : BoundsCode), lo = some (.int k i) -> 0 <= i -> i.toNat = l -> (Instr.sliceBound (.int k i) h c).run P w = .ok l w := by
  intro k i c _ h0 he; subst he; exact run_sliceBound k i h c h0 h1 w
 rcases hhi with ⟨rfl, rfl⟩ | ⟨k, i, rfl, h0, he⟩
 ·rcases hlo with ⟨rfl, rfl⟩ | ⟨k', i', rfl, h0', he'⟩
  ·simp [Instr.sliceBounds]
  ·simp [Instr.sliceBounds, rl k' i' .sliceB rfl h0' he']
 ·have rh : ∀ c : BoundsCode, (Instr.sliceBound (.int k i) cap c).run P w = .ok h w := by
   intro c; subst he; exact run_sliceBound k i cap c h0 h2 w
  rcases hlo with ⟨rfl, rfl⟩ | ⟨k', i', rfl, h0', he'⟩
  ·simp [Instr.sliceBounds, rh]
  ·simp [Instr.sliceBounds, rh, rl k' i' .sliceB rfl h0' he']
def RepB (w : World) (S : PSet) (x : Ix) (b : Option LVal) (u : Option Value) : Prop := match b, u with
 | Option.none, Option.none => True
 | some l, some v => RepL w S x l v
 | _, _ => False
theorem bound_ok {b : Option LVal} {d : Nat} {K : Nat -> Bool} (h : bound? b d K = true) :
  ∃ n, K n = true /\ ∀ (w : World) (S : PSet) (x : Ix) (u : Option Value), RepB w S x b u -> IsBound u d n := by
 unfold bound? at h
 split at h
 ·refine ⟨_, h, fun w S x u hu => ?_⟩
  cases u with
  | none => exact .inl ⟨rfl, rfl⟩
  | some v => exact hu.elim
 ·next l =>
  split at h
  ·next k i =>
   by_cases h0 : 0 <= i
   ·simp only [h0, decide_true, cond_true] at h
    refine ⟨_, h, fun w S x u hu => ?_⟩
    cases u with
    | none => exact hu.elim
    | some v =>
     obtain rfl := lit_of hu
     exact .inr ⟨k, i, rfl, h0, rfl⟩
   ·simp [h0] at h
  ·cases h
theorem run_sliceAt_str {t : TypeId} (ht : P.underlying t = some .string) (s : ByteArray) (lo hi : Option Value) (l h : Nat) (hlo : IsBound lo 0 l) (hhi : IsBound hi s.size h) (h1 : l <= h) (h2 : h <= s.size) (w : World) :
  (Instr.sliceAt t (.string s) lo hi Option.none).run P w = .ok (.string (s.extract l h)) w := by
 have := run_sliceBounds (P := P) false s.size s.size lo hi l h hlo hhi h1 h2 w
 simp [Instr.sliceAt, Instr.slice, run_underlying ht, this]
theorem run_sliceAt_slice {t e : TypeId} {i : TypeInfo} (ht : P.underlying t = some (.slice e)) (hi' : P.info? e = some i) (a : Option Addr) (len cap : Nat) (lo hi : Option Value) (l h : Nat)
  (hlo : IsBound lo 0 l) (hhi : IsBound hi len h) (h1 : l <= h) (h2 : h <= cap) (w : World) :
  (Instr.sliceAt t (.slice a len cap) lo hi Option.none).run P w = .ok (.slice (if cap = l then a else a.map (·.add (l * i.size))) (h - l) (cap - l)) w := by
 have := run_sliceBounds (P := P) true len cap lo hi l h hlo hhi h1 h2 w
 simp [Instr.sliceAt, Instr.slice, run_underlying ht, this, run_sizeOf' hi']
theorem act_slice (hE : TOk P E) {t : Nat} {l : LVal} {lo hi : Option LVal} {K : KA} (h : actSlice E σ t l lo hi K = true) :
  ∃ v rd, K v rd [] = true /\ ∀ ul ulo uhi, OkP W0 P σ v rd (fun w S x => RepL w S x l ul /\ RepB w S x lo ulo /\ RepB w S x hi uhi) (Instr.sliceAt t ul ulo uhi Option.none) := by
 unfold actSlice at h
 split at h
 ·next s =>
  split at h
  ·next hs =>
   obtain ⟨a, h, fa⟩ := bound_ok h
   obtain ⟨b, h, fb⟩ := bound_ok h
   by_cases hc : a <= b /\ b <= s.size
   ·simp only [hc.1, hc.2, decide_true, Bool.and_self, cond_true] at h
    refine ⟨_, _, h, ?_⟩
    intro ul ulo uhi w0 Wb σ' w S x hag hI hR
    obtain ⟨hl, h1, h2⟩ := hR
    obtain rfl := lit_of hl
    exact ⟨_, run_sliceAt_str (hE.str t hs) s ulo uhi a b (fa w S x ulo h1) (fb w S x uhi h2) hc.1 hc.2 w, .p (.lit _)⟩
   ·rcases Decidable.not_and_iff_or_not.1 hc with hc | hc <;> simp [hc] at h
  ·cases h
 ·next id =>
  split at h
  ·next e k hsl =>
   obtain ⟨hu, inf, z, hi1, hi2, hi3, hi4, hi5, hi6⟩ := hE.sl t e k hsl
   split at h
   ·next fz ty k' es ho =>
    obtain ⟨a, h', fa⟩ := bound_ok h
    clear h
    obtain ⟨b, h, fb⟩ := bound_ok h'
    clear h'
    by_cases hc : (a <= b /\ b <= es.length) /\ k' = k
    ·simp only [hc.1.1, hc.1.2, hc.2, decide_true, Bool.and_self, cond_true] at h
     obtain ⟨⟨hc1, hc2⟩, rfl⟩ := hc
     refine ⟨_, _, h, ?_⟩
     intro ul ulo uhi w0 Wb σ' w S x hag hI hR
     obtain ⟨hl, h1, h2⟩ := hR
     have ho' := (hag id (by simp)).trans ho
     obtain ⟨-, hr⟩ := hI.objs id _ ho' rfl
     obtain ⟨e1, e2, _⟩ := hr
     cases hl with
     | own _ cap hn hm hb =>
      have fb' := fb w S x uhi h2
      rw [<- e2] at fb'
      refine ⟨_, run_sliceAt_slice hu hi1 _ _ cap ulo uhi a b (fa w S x ulo h1) fb' hc1 (by omega) w, ?_⟩
      by_cases hcl : cap = a
      ·rw [if_pos hcl]
       exact .sl id a (b - a) (cap - a) 0 (by omega) (.inl (by omega)) (by omega)
      ·rw [if_neg hcl]
       simp only [Option.map_some, Addr_add_none, Nat.zero_add]
       exact .sl id a (b - a) (cap - a) (a * inf.size) (by omega) (.inr (by rw [hi2, e1])) (by omega)
    ·rcases Decidable.not_and_iff_or_not.1 hc with hc | hc
     ·rcases Decidable.not_and_iff_or_not.1 hc with hc | hc <;> simp [hc] at h
     ·simp [hc] at h
   ·cases h
  ·cases h
 ·split at h
  ·next ek hsl =>
   obtain ⟨e, k⟩ := ek
   obtain ⟨hu, inf, z, hi1, hi2, hi3, hi4, hi5, hi6⟩ := hE.sl t e k hsl
   obtain ⟨a, h', fa⟩ := bound_ok h
   clear h
   obtain ⟨b, h, fb⟩ := bound_ok h'
   clear h'
   by_cases hc : a <= b /\ b <= 0
   ·simp only [hc.1, hc.2, decide_true, Bool.and_self, cond_true] at h
    refine ⟨_, _, h, ?_⟩
    intro ul ulo uhi w0 Wb σ' w S x hag hI hR
    obtain ⟨hl, h1, h2⟩ := hR
    obtain rfl := lit_of hl
    obtain rfl : b = 0 := by omega
    obtain rfl : a = 0 := by omega
    exact ⟨_, run_sliceAt_slice hu hi1 _ _ 0 ulo uhi 0 0 (fa w S x ulo h1) (fb w S x uhi h2) (by omega) (by omega) w, .p (.lit _)⟩
   ·rcases Decidable.not_and_iff_or_not.1 hc with hc | hc <;> simp [hc] at h
  ·cases h
 ·next es =>
  split at h
  ·next e k hsl =>
   obtain ⟨hu, inf, z, hi1, hi2, hi3, hi4, hi5, hi6⟩ := hE.sl t e k hsl
   obtain ⟨a, h, fa⟩ := bound_ok h
   obtain ⟨b, h, fb⟩ := bound_ok h
   by_cases hc : a <= b /\ b <= es.length
   ·simp only [hc.1, hc.2, decide_true, Bool.and_self, cond_true] at h
    obtain ⟨hc1, hc2⟩ := hc
    -- the row's own number of cells, where an element tells it
    have core : (a = b ∨ ∃ hlt : a < es.length, es[a].cells.length = k /\ es[a].cells.all PVal.one = true) ∨ a = 0 ->
      ∀ ul ulo uhi, OkP W0 P σ (.p (.sl ((es.drop a).take (b - a)))) [] (fun w S x => RepL w S x (.p (.sl es)) ul /\ RepB w S x lo ulo /\ RepB w S x hi uhi) (Instr.sliceAt t ul ulo uhi Option.none) := by
     intro hk ul ulo uhi w0 Wb σ' w S x hag hI hR
     obtain ⟨hl, h1, h2⟩ := hR
     have hlen : ((es.drop a).take (b - a)).length = b - a := by simp; omega
     have hget : ∀ i (hi : i < ((es.drop a).take (b - a)).length), ((es.drop a).take (b - a))[i] = es[a + i]'(by rw [hlen] at hi; omega) := by
      intro i hi; simp
     cases hl with
     | p hp =>
      cases hp with
      | nil =>
       simp only [List.length_nil, Nat.le_zero_eq] at hc2
       obtain rfl : b = 0 := hc2
       obtain rfl : a = 0 := by omega
       refine ⟨_, run_sliceAt_slice hu hi1 _ _ 0 ulo uhi 0 0 (fa w S x ulo h1) (fb w S x uhi h2) (by omega) (by omega) w, ?_⟩
       simpa using RepL.p RepP.nil
      | sl _ bb o cap kk V hcap hV hr =>
       refine ⟨_, run_sliceAt_slice hu hi1 _ _ cap ulo uhi a b (fa w S x ulo h1) (fb w S x uhi h2) hc1 (by omega) w, ?_⟩
       have hrow : ∀ o', (a = b ∨ o' = o + a * kk) -> RepP w S (.sl ((es.drop a).take (b - a))) (.slice (some ⟨bb, o', Option.none⟩) (b - a) (cap - a)) := by
        intro o' ho'
        have := RepP.sl (w := w) (S := S) ((es.drop a).take (b - a)) bb o' (cap - a) kk (fun i => V (a + i)) (by rw [hlen]; omega) (fun i hi => by
         rw [hget i hi]; exact hV _ _) (fun i hi => by
         rw [hlen] at hi
         rcases ho' with rfl | rfl
         ·omega
         ·obtain ⟨q1, q2⟩ := hr (a + i) (by omega)
          refine ⟨q1, fun j hj => ?_⟩
          have := q2 j hj
          rw [Nat.add_mul, <- Nat.add_assoc] at this
          exact this)
        rw [hlen] at this
        exact this
       by_cases hcl : cap = a
       ·rw [if_pos hcl]
        exact .p (hrow o (.inl (by omega)))
       ·rw [if_neg hcl]
        simp only [Option.map_some, Addr_add_none]
        refine .p (hrow _ ?_)
        rcases hk with (hk | ⟨hlt, hk1, hk2⟩) | hk
        ·exact .inl hk
        ·refine .inr ?_
         obtain ⟨q1, _⟩ := hr a hlt
         rw [hi2, <- hk1, <- ((hV a hlt).cells_get hk2).1, q1]
        ·subst hk; exact .inr (by simp)
    have full : (es.drop 0).take (b - 0) = es.take b := by simp
    have tail : b = es.length -> (es.drop a).take (b - a) = es.drop a := by
     intro hb; rw [List.take_of_length_le]; simp; omega
    have nil : es[a]? = Option.none -> (es.drop a).take (b - a) = [] := by
     intro hn
     have := List.getElem?_eq_none_iff.1 hn
     rw [List.drop_of_length_le this]; simp
    split at h
    ·refine ⟨_, _, h, ?_⟩
     have ha0 : ∀ (w : World) (S : PSet) (x : Ix) u, RepB w S x (Option.none : Option LVal) u -> a = 0 := by
      intro w S x u hu
      rcases fa w S x u hu with ⟨_, h⟩ | ⟨k, i, h, _, _⟩
      ·exact h
      ·subst h; exact hu.elim
     have ha : a = 0 := ha0 ⟨#[], fun _ _ => 0, 0, default, #[]⟩ (fun _ _ => False) ⟨id, id, id⟩ Option.none trivial
     subst ha
     rw [<- full]
     exact core (.inr rfl)
    ·split at h
     ·have hb : b = es.length := by
       rcases fb ⟨#[], fun _ _ => 0, 0, default, #[]⟩ (fun _ _ => False) ⟨id, id, id⟩ Option.none trivial with ⟨_, h⟩ | ⟨k, i, h, _, _⟩
       ·exact h
       ·cases h
      split at h
      ·next v hv =>
       have h' := shape_eq _ _ _ h
       obtain ⟨hlt, rfl⟩ := List.getElem?_eq_some_iff.1 hv
       by_cases hc : es[a].cells.length = k /\ es[a].cells.all PVal.one = true
       ·simp only [hc.1, hc.2, decide_true, Bool.and_self, cond_true] at h'
        refine ⟨_, _, h', ?_⟩
        rw [<- tail hb]
        exact core (.inl (.inr ⟨hlt, hc⟩))
       ·rcases Decidable.not_and_iff_or_not.1 hc with hc | hc <;> simp [hc] at h'
      ·next hn =>
       refine ⟨_, _, h, ?_⟩
       rw [<- nil hn]
       exact core (.inl (.inl (by have := List.getElem?_eq_none_iff.1 hn; omega)))
     ·split at h
      ·next v hv =>
       have h' := shape_eq _ _ _ h
       obtain ⟨hlt, rfl⟩ := List.getElem?_eq_some_iff.1 hv
       by_cases hc : es[a].cells.length = k /\ es[a].cells.all PVal.one = true
       ·simp only [hc.1, hc.2, decide_true, Bool.and_self, cond_true] at h'
        exact ⟨_, _, h', core (.inl (.inr ⟨hlt, hc⟩))⟩
       ·rcases Decidable.not_and_iff_or_not.1 hc with hc | hc <;> simp [hc] at h'
      ·next hn =>
       refine ⟨_, _, h, ?_⟩
       rw [<- nil hn]
       exact core (.inl (.inl (by have := List.getElem?_eq_none_iff.1 hn; omega)))
   ·rcases Decidable.not_and_iff_or_not.1 hc with hc | hc <;> simp [hc] at h
  ·cases h
 ·cases h
theorem len_ok {st sl : Bool} {l : LVal} {n : Nat} {rd : List Nat} (h : len? st sl σ l = some (n, rd)) (σ' : List LObj) (w : World) (S : PSet) (x : Ix) (hag : ∀ id, id ∈ rd -> σ'[id]? = σ[id]?) (hI : Inv W0 w0 Wb w S x σ')
  {u : Value} (hu : RepL w S x l u) : (st = true /\ ∃ s, u = .string s /\ s.size = n) ∨ (sl = true /\ ∃ a c, u = .slice a n c) := by
 unfold len? at h
 split at h
 ·split at h
  ·next hst =>
   simp only [Option.some.injEq, Prod.mk.injEq] at h
   obtain rfl := lit_of hu
   exact .inl ⟨hst, _, rfl, h.1⟩
  ·cases h
 ·split at h
  ·next hst =>
   simp only [Option.some.injEq, Prod.mk.injEq] at h
   obtain rfl := lit_of hu
   exact .inr ⟨hst, Option.none, 0, by rw [<- h.1]⟩
  ·cases h
 ·split at h
  ·next hst =>
   simp only [Option.some.injEq, Prod.mk.injEq] at h
   rw [<- h.1]
   cases hu with
   | p hp =>
    cases hp with
    | nil => exact .inr ⟨hst, _, _, rfl⟩
    | sl _ b o cap k V hcap hV hr => exact .inr ⟨hst, _, _, rfl⟩
  ·cases h
 ·split at h
  ·next fz ty k es ho =>
   split at h
   ·next hst =>
    simp only [Option.some.injEq, Prod.mk.injEq] at h
    obtain ⟨h1, rfl⟩ := h
    have ho' := (hag _ (by simp)).trans ho
    obtain ⟨-, hr⟩ := hI.objs _ _ ho' rfl
    obtain ⟨e1, e2, _⟩ := hr
    rw [<- h1, <- e2]
    cases hu with
    | own _ cap hn hm hb => exact .inr ⟨hst, _, _, rfl⟩
   ·cases h
  ·cases h
 ·split at h
  ·next hst =>
   simp only [Option.some.injEq, Prod.mk.injEq] at h
   rw [<- h.1]
   cases hu with
   | sl _ _ _ cap o hn ho hc => exact .inr ⟨hst, _, _, rfl⟩
  ·cases h
 ·cases h
theorem act_conv (hE : TOk P E) {s d : Nat} {l : LVal} {K : KA} (h : actConv E s d l K = true) :
  ∃ v, K v [] [] = true /\ ∀ ul, OkP W0 P σ v [] (fun w S x => RepL w S x l ul) (convert s d ul) := by
 unfold actConv at h
 split at h
 ·next hcv =>
  obtain ⟨a, h1, h2⟩ := hE.cv s d _ hcv
  split at h
  ·refine ⟨_, h, ?_⟩
   intro ul w0 Wb σ' w S x hag hI hl
   obtain rfl := lit_of hl
   refine ⟨_, ?_, .p (.lit _)⟩
   simp [convert, run_underlying h1, run_underlying h2]
  ·cases h
 ·next k hcv =>
  obtain ⟨a, h1, h2⟩ := hE.cv s d _ hcv
  split at h
  ·refine ⟨_, h, ?_⟩
   intro ul w0 Wb σ' w S x hag hI hl
   obtain rfl := lit_of hl
   refine ⟨_, ?_, .p (.lit _)⟩
   simp [convert, run_underlying h1, run_underlying h2, Conv.intToInt]
  ·cases h
 ·cases h
theorem minmax_ok (mx : Bool) : ∀ (l : List LVal) (a m : Int), minmax mx a l = some m -> ∀ (w : World) (S : PSet) (x : Ix) (us : List Value), us.length = l.length -> (∀ i (hi : i < l.length) (hi' : i < us.length), RepL w S x l[i] us[i]) ->
  ((us.foldlM (if mx then Builtin.max2 else Builtin.min2) (.int .i64 a) : Sem Value).run P w = .ok (.int .i64 m) w)
 | [], a, m, h, w, S, x, us, hl, hr => by
  simp only [minmax, Option.some.injEq] at h
  subst h
  obtain rfl : us = [] := List.length_eq_zero_iff.1 hl
  simp
 | v :: r, a, m, h, w, S, x, us, hl, hr => by
  obtain ⟨b, rfl, h⟩ : ∃ b, v = .p (.lit (.int .i64 b)) /\ minmax mx (if mx then (if b > a then b else a) else (if b < a then b else a)) r = some m := by
   unfold minmax at h
   split at h
   ·next heq => cases heq
   ·next heq =>
    simp only [List.cons.injEq] at heq
    obtain ⟨rfl, rfl⟩ := heq
    exact ⟨_, rfl, h⟩
   ·cases h
  cases us with
  | nil => simp at hl
  | cons u us =>
   have hu := hr 0 (by simp) (by simp)
   simp only [List.getElem_cons_zero] at hu
   obtain rfl := lit_of hu
   have ih := minmax_ok mx r _ m h w S x us (by simpa using hl) (fun i hi hi' => by
    have := hr (i + 1) (by simp; omega) (by simp; omega)
    simpa using this)
   cases mx with
   | true =>
    simp only [if_true, List.foldlM_cons, Sem.run_bind] at ih ⊢
    have : (Builtin.max2 (.int .i64 a) (.int .i64 b) : Sem Value).run P w = .ok (.int .i64 (if b > a then b else a)) w := rfl
    rw [this]
    exact ih
   | false =>
    simp only [Bool.false_eq_true, if_false, List.foldlM_cons, Sem.run_bind] at ih ⊢
    have : (Builtin.min2 (.int .i64 a) (.int .i64 b) : Sem Value).run P w = .ok (.int .i64 (if b < a then b else a)) w := rfl
    rw [this]
    exact ih
end Go.Ev

namespace Go.Ev
open Go Go.RowKit
variable {W0 w : World} {w0 : Beg} {Wb : Nat -> Prop} {S : PSet} {x : Ix} {σ σ' : List LObj} {P : Program} {E : TEnv}
def flat (V : Nat -> Value) : Nat -> List Value
 | 0 => []
 | n + 1 => flat V n ++ (V n).cells.toList
theorem flat_length {V : Nat -> Value} {k : Nat} : ∀ n, (∀ i, i < n -> (V i).cells.size = k) -> (flat V n).length = n * k
 | 0, _ => by simp [flat]
 | n + 1, h => by
  rw [flat, List.length_append, flat_length n (fun i hi => h i (by omega)), Array.length_toList, h n (by omega), Nat.add_mul, Nat.one_mul]
theorem flat_get {V : Nat -> Value} {k : Nat} : ∀ n, (∀ i, i < n -> (V i).cells.size = k) -> ∀ i j, i < n -> j < k -> (flat V n)[i * k + j]? = (V i).cells[j]?
 | 0, _, _, _, hi, _ => by omega
 | n + 1, h, i, j, hi, hj => by
  have hl := flat_length n (fun i hi => h i (Nat.lt_succ_of_lt hi))
  rw [flat]
  rcases Nat.lt_or_ge i n with h1 | h1
  ·have : (i + 1) * k <= n * k := Nat.mul_le_mul_right _ h1
   rw [Nat.add_mul, Nat.one_mul] at this
   rw [List.getElem?_append_left (by omega)]
   exact flat_get n (fun i hi => h i (Nat.lt_succ_of_lt hi)) i j h1 hj
  ·obtain rfl : i = n := by omega
   rw [List.getElem?_append_right (by omega), hl, Nat.add_sub_cancel_left]
   simp
theorem split_idx {c n k : Nat} (h : c < n * k) : ∃ i j, i < n /\ j < k /\ c = i * k + j := by
 rcases Nat.eq_zero_or_pos k with hk | hk
 ·subst hk; omega
 ·refine ⟨c / k, c % k, ?_, Nat.mod_lt _ hk, ?_⟩
  ·exact Nat.div_lt_of_lt_mul (by rw [Nat.mul_comm]; exact h)
  ·rw [Nat.mul_comm]; exact (Nat.div_add_mod c k).symm
structure Src (w : World) (S : PSet) (k : Nat) (xs : List PVal) (u : Value) (a : Option Addr) (c : Nat) (V : Nat -> Value) : Prop where
 eq : u = .slice a xs.length c
 rep : ∀ i (hi : i < xs.length), RepP w S xs[i] (V i)
 cells : ∀ i, i < xs.length -> (V i).cells.size = k /\ ∀ j, j < k -> ∃ v, (V i).cells[j]? = some v /\ v.oneCell' = true /\ ∃ b o, a = some ⟨b, o, Option.none⟩ /\ w.cell? ⟨b, o + i * k + j, Option.none⟩ = some v
 spot : ∀ ad, a = some ad -> ad.spot = Option.none
theorem elems_ok {s : Shp} {k : Nat} {l : LVal} {K : List PVal -> List Nat -> Bool} (h : elemsOf s k σ l K = true) :
  ∃ xs rd, K xs rd = true /\ ∀ {w0 : Beg} {Wb : Nat -> Prop} (σ' : List LObj) (w : World) (S : PSet) (x : Ix), (∀ id, id ∈ rd -> σ'[id]? = σ[id]?) -> Inv W0 w0 Wb w S x σ' -> ∀ u, RepL w S x l u -> ∃ a c V, Src w S k xs u a c V := by
 unfold elemsOf at h
 split at h
 ·next id =>
  split at h
  ·next fz ty k' es ho =>
   by_cases hk : k' = k
   ·subst hk
    simp only [decide_true, cond_true] at h
    refine ⟨_, _, h, fun σ' w S x hag hI u hu => ?_⟩
    have ho' := (hag id (by simp)).trans ho
    obtain ⟨-, hr⟩ := hI.objs id _ ho' rfl
    obtain ⟨h1, h2, cur, h3, V, h4, h5, h6, h7⟩ := hr
    cases hu with
    | own _ cap hn hm hb =>
     refine ⟨_, cap, V, by rw [h2], h4, fun i hi => ⟨(h5 i hi).1, fun j hj => ?_⟩, by rintro _ ⟨⟩; rfl⟩
     obtain ⟨v, v1, v2, v3⟩ := (h5 i hi).2 j hj
     exact ⟨v, v1, v2, _, _, rfl, by simp only [World.cell?, h3, Nat.zero_add]; exact v3⟩
   ·simp [hk] at h
  ·cases h
 ·next id off len =>
  split at h
  ·next fz ty k' es ho =>
   by_cases hk : k' = k /\ off + len <= es.length
   ·obtain ⟨hk, hle⟩ := hk
    subst hk
    simp only [hle, decide_true, Bool.and_self, cond_true] at h
    refine ⟨_, _, h, fun σ' w S x hag hI u hu => ?_⟩
    have ho' := (hag id (by simp)).trans ho
    obtain ⟨-, hr⟩ := hI.objs id _ ho' rfl
    obtain ⟨h1, h2, cur, h3, V, h4, h5, h6, h7⟩ := hr
    have hlen : ((es.drop off).take len).length = len := by simp; omega
    cases hu with
    | sl _ _ _ cap o hn hoff hc =>
     refine ⟨_, cap, fun i => V (off + i), by rw [hlen], fun i hi => ?_, fun i hi => ?_, by rintro _ ⟨⟩; rfl⟩
     ·have := h4 (off + i) (by rw [hlen] at hi; omega)
      simpa using this
     ·rw [hlen] at hi
      refine ⟨(h5 (off + i) (by omega)).1, fun j hj => ?_⟩
      obtain ⟨v, v1, v2, v3⟩ := (h5 (off + i) (by omega)).2 j hj
      refine ⟨v, v1, v2, _, _, rfl, ?_⟩
      rcases hoff with h0 | h0
      ·omega
      ·simp only [World.cell?, h3, h0, h1]
       rw [<- Nat.add_mul]
       exact v3
   ·rcases Decidable.not_and_iff_or_not.1 hk with hk | hk <;> simp [hk] at h
  ·cases h
 ·next es =>
  split at h
  ·refine ⟨_, _, h, fun σ' w S x hag hI u hu => ?_⟩
   cases hu with
   | p hp =>
    cases hp with
    | nil => exact ⟨Option.none, 0, fun _ => Go.undef, rfl, by simp, by simp, by simp⟩
    | sl _ b o cap kk V hcap hV hr => exact ⟨_, cap, V, rfl, hV, by simp, by rintro _ ⟨⟩; rfl⟩
  ·next e r =>
   have h' := shape_eq _ _ _ h
   by_cases hc : e.cells.length = k /\ e.cells.all PVal.one = true
   ·simp only [hc.1, hc.2, decide_true, Bool.and_self, cond_true] at h'
    refine ⟨_, _, h', fun σ' w S x hag hI u hu => ?_⟩
    cases hu with
    | p hp =>
     cases hp with
     | sl _ b o cap kk V hcap hV hr =>
      have hkk : kk = k := by
       obtain ⟨q1, _⟩ := hr 0 (by simp)
       have hv := hV 0 (by simp)
       simp only [List.getElem_cons_zero] at hv
       rw [<- q1, (hv.cells_get hc.2).1, hc.1]
      subst hkk
      refine ⟨_, cap, V, rfl, hV, fun i hi => ⟨(hr i hi).1, fun j hj => ?_⟩, by rintro _ ⟨⟩; rfl⟩
      obtain ⟨_, v, v1, v2, v3⟩ := (hr i hi).2 j hj
      exact ⟨v, v1, v2, _, _, rfl, v3⟩
   ·rcases Decidable.not_and_iff_or_not.1 hc with hc | hc <;> simp [hc] at h'
 ·refine ⟨_, _, h, fun σ' w S x hag hI u hu => ?_⟩
  obtain rfl := lit_of hu
  exact ⟨Option.none, 0, fun _ => Go.undef, rfl, by simp, by simp, by simp⟩
 ·cases h
theorem Src.first {k : Nat} {xs : List PVal} {u : Value} {a : Option Addr} {c : Nat} {V : Nat -> Value} (h : Src w S k xs u a c V) (w' : World) (hw : ∀ b o, w'.cell? ⟨b, o, Option.none⟩ = w.cell? ⟨b, o, Option.none⟩) :
  (Builtin.firstCells k xs.length u).run P w' = .ok (flat V xs.length).toArray w' := by
 have hl := flat_length (V := V) (k := k) xs.length (fun i hi => (h.cells i hi).1)
 rw [h.eq]
 cases a with
 | none =>
  rw [run_firstCells_none]
  have : xs.length * k = 0 := by
   rcases Nat.eq_zero_or_pos xs.length with h0 | h0
   ·rw [h0, Nat.zero_mul]
   ·rcases Nat.eq_zero_or_pos k with hk | hk
    ·rw [hk, Nat.mul_zero]
    ·obtain ⟨v, _, _, b, o, hb, _⟩ := (h.cells 0 h0).2 0 hk
     cases hb
  rw [this] at hl
  rw [List.length_eq_zero_iff.1 hl]
 | some ad =>
  obtain ⟨b, o, sp⟩ := ad
  obtain rfl : sp = Option.none := h.spot _ rfl
  refine run_firstCells_some (P := P) w' k xs.length ⟨b, o, Option.none⟩ xs.length c _ hl (fun q v hq => ?_)
  obtain ⟨hlt, _⟩ := List.getElem?_eq_some_iff.1 hq
  rw [hl] at hlt
  obtain ⟨i, j, hi, hj, rfl⟩ := split_idx hlt
  rw [flat_get _ (fun i hi => (h.cells i hi).1) i j hi hj] at hq
  obtain ⟨v', v1, v2, b', o', hb, hc⟩ := (h.cells i hi).2 j hj
  cases hb
  rw [v1] at hq
  cases hq
  rw [Addr_add_none, hw, <- Nat.add_assoc]
  exact hc
theorem Src.one {k : Nat} {xs : List PVal} {u : Value} {a : Option Addr} {c : Nat} {V : Nat -> Value} (h : Src w S k xs u a c V) : ∀ v ∈ flat V xs.length, v.oneCell' = true := by
 intro v hv
 obtain ⟨q, hq, rfl⟩ := List.getElem_of_mem hv
 have hl := flat_length (V := V) (k := k) xs.length (fun i hi => (h.cells i hi).1)
 rw [hl] at hq
 obtain ⟨i, j, hi, hj, rfl⟩ := split_idx hq
 have hg := flat_get (V := V) xs.length (fun i hi => (h.cells i hi).1) i j hi hj
 obtain ⟨v', v1, v2, _⟩ := (h.cells i hi).2 j hj
 rw [List.getElem?_eq_getElem (by rw [hl]; exact hq), v1] at hg
 simp only [Option.some.injEq] at hg
 rw [hg]; exact v2
theorem zeroCells_size (z : Array Value) (n : Nat) : (Builtin.zeroCells z n).size = n * z.size := by simp [Builtin.zeroCells]
theorem run_append_in {t ty e : TypeId} {i : TypeInfo} (ht : P.underlying t = some (.slice e)) (hi : P.info? e = some i) {b n cap : Nat} {cur : Array Value} {et : TypeId} (hb : w.heap[b]? = some (.cells cur et (0, 0)))
  {xs : List PVal} {u : Value} {a : Option Addr} {c : Nat} {V : Nat -> Value} (hs : Src w S i.size xs u a c V) (hroom : n + xs.length <= cap) (hfit : n * i.size + xs.length * i.size <= cur.size) :
  (Builtin.append_ #[t, t] ty #[.slice (some ⟨b, 0, Option.none⟩) n cap, u]).run P w =
   .ok (.slice (some ⟨b, 0, Option.none⟩) (n + xs.length) cap) (w.putBlk b (overlay cur (n * i.size) (flat V xs.length)) et) := by
 have hf := hs.first (P := P) w (fun _ _ => rfl)
 have hl := flat_length (V := V) (k := i.size) xs.length (fun i hi => (hs.cells i hi).1)
 have hst := run_storeCells_blk (P := P) b (n * i.size) et (flat V xs.length) 0 cur w hb (by rw [hl]; omega) hs.one
 simp only [Nat.add_zero] at hst
 rw [hs.eq] at hf ⊢
 simp [Builtin.append_, run_underlying ht, sizeOf, typeInfo, hi, Builtin.lenOf, hroom, hf, Addr_add_none, hst]
theorem run_append_out {t ty e : TypeId} {i : TypeInfo} {z : Value} (ht : P.underlying t = some (.slice e)) (hi : P.info? e = some i) (hz : i.zero = some z) (hby : i.bytes <= 65536) {ba : Option Addr} {n cap : Nat} {olds : List Value}
  (ho : ∀ w' : World, (∀ b o, w'.cell? ⟨b, o, Option.none⟩ = w.cell? ⟨b, o, Option.none⟩) -> (Builtin.firstCells i.size n (.slice ba n cap)).run P w' = .ok olds.toArray w')
  {xs : List PVal} {u : Value} {a : Option Addr} {c : Nat} {V : Nat -> Value} (hs : Src w S i.size xs u a c V) (hroom : cap < n + xs.length) (hmax : n + xs.length <= 1073741824) :
  (Builtin.append_ #[t, t] ty #[.slice ba n cap, u]).run P w =
   .ok (.slice (some ⟨w.heap.size, 0, Option.none⟩) (n + xs.length) (grownCap w (n + xs.length) cap e))
    (w.drew.alloc (.cells (olds.toArray ++ (flat V xs.length).toArray ++ Builtin.zeroCells z.cells (grownCap w (n + xs.length) cap e - (n + xs.length))) e)) := by
 have hf := hs.first (P := P) w.drew (fun _ _ => rfl)
 have hfo := ho w.drew (fun _ _ => rfl)
 have hn : ¬ (n + xs.length <= cap) := by omega
 have h63 : ¬ (9223372036854775807 < ((n : Int) + (xs.length : Int))) := by omega
 have hfit := growslice_fits (bytes := i.bytes) hroom (by
  have : (n + xs.length) * i.bytes <= 1073741824 * 65536 := Nat.mul_le_mul hmax hby
  omega)
 have h48 : ¬ (281474976710656 < Builtin.nextslicecap (n + xs.length) cap * i.bytes) := by omega
 rw [hs.eq] at hf ⊢
 simp [Builtin.append_, run_underlying ht, sizeOf, typeInfo, zeroValue, hi, hz, Builtin.lenOf, hn, h63, h48, Question.forced, hf, hfo, newRow, grownCap]
 congr 2
 apply Array.ext'
 simp [List.append_assoc]
theorem grow_inv (hI : Inv W0 w0 Wb w S x σ') {id nid : Nat} {fz : Bool} {ty k : Nat} {es xs : List PVal} (ho : σ'[id]? = some (.buf fz ty k es)) (hf : Free σ' nid) {w' : World} {b : Nat} {arr : Array Value} {V : Nat -> Value} {cap : Nat}
  (hkey : b = x.m id ∨ b = w.heap.size) (hb : w'.heap[b]? = some (.cells arr ty (0, 0))) (hoth : ∀ b', b' ≠ b -> b' < w.heap.size -> w'.heap[b']? = w.heap[b']?) (hsz : w.heap.size <= w'.heap.size)
  (hw : w'.os = w.os /\ w'.tape = w.tape /\ w'.output = w.output)
  (hold : b = x.m id -> ∃ cur, w.heap[b]? = some (.cells cur ty (0, 0)) /\ arr.size = cur.size /\ ∀ c, c < es.length * k -> arr[c]? = cur[c]?)
  (hcap : arr.size = cap * k) (hmax : cap <= maxLen) (hle : es.length + xs.length <= cap)
  (hrep : ∀ i (hi : i < (es ++ xs).length), RepP w S (es ++ xs)[i] (V i))
  (hcells : ∀ i, i < (es ++ xs).length -> (V i).cells.size = k /\ ∀ j, j < k -> ∃ u, (V i).cells[j]? = some u /\ u.oneCell' = true /\ arr[i * k + j]? = some u) :
  After W0 w0 Wb w S x σ' nid (.own nid) [(id, .none), (nid, .buf fz ty k (es ++ xs))] (.slice (some ⟨b, 0, Option.none⟩) (es.length + xs.length) cap) w' := by
 obtain ⟨⟨p1, p2, p3⟩, hr⟩ := hI.objs id _ ho rfl
 obtain ⟨r1, r2, cur0, r3, V0, r4, r5, r6, r7⟩ := hr
 have hblt : b < w'.heap.size := by
  rcases Nat.lt_or_ge b w'.heap.size with h1 | h1
  ·exact h1
  ·rw [Array.getElem?_eq_none h1] at hb; cases hb
 have hne : nid ≠ id := by rintro rfl; have := hf.1; rw [ho] at this; cases this
 have hidlt := getElem?_lt ho
 have hnlt : nid < σ'.length := by
  rcases Nat.lt_or_ge nid σ'.length with h | h
  ·exact h
  ·have := hf.1; rw [List.getElem?_eq_none h] at this; cases this
 -- what is protected now
 let S1 : PSet := fun b' c => fz = true /\ b' = b /\ c < (es ++ xs).length * k
 have hlenle : es.length * k <= (es ++ xs).length * k := Nat.mul_le_mul_right _ (by simp)
 have hkeep : Keeps S w w' := by
  intro b' c hs u hu
  by_cases e : b' = b
  ·subst e
   rcases hkey with h | h
   ·obtain ⟨cur, c1, c2, c3⟩ := hold h
    have hc : c < es.length * k := by
     rcases Nat.lt_or_ge c (es.length * k) with h1 | h1
     ·exact h1
     ·rw [h] at hs; exact absurd hs (r7 c (.inr h1))
    simp only [World.cell?, c1, hb] at hu ⊢
    simp only [Option.isSome_none, Bool.false_eq_true, if_false] at hu ⊢
    rw [c3 c hc]; exact hu
   ·have := hI.slt b' c hs; omega
  ·rw [World.cell?_of_block (w := w) (a := ⟨b', c, Option.none⟩) (hoth b' e (hI.slt b' c hs))]; exact hu
 have hksz : KeepsSz w w' := .of_blocks fun b' hb' => by
  by_cases e : b' = b
  ·subst e
   rcases hkey with h | h
   ·obtain ⟨cur, c1, c2, c3⟩ := hold h
    refine .inr ?_
    rintro sz ⟨cur', ty', fr', d1, d2⟩
    rw [c1] at d1
    cases d1
    exact ⟨arr, ty, (0, 0), hb, c2.trans d2⟩
   ·omega
  ·exact .inl (hoth b' e hb')
 have hsup : ∀ b o, S b o -> sup S S1 b o := fun _ _ h => .inl h
 have hx : ∀ i, i ≠ nid -> (x.upd nid b k (es ++ xs).length).m i = x.m i /\ (x.upd nid b k (es ++ xs).length).k i = x.k i /\ (x.upd nid b k (es ++ xs).length).n i = x.n i := fun i h => x.upd_other nid _ _ _ i h
 obtain ⟨x1, x2, x3⟩ := x.upd_same nid b k (es ++ xs).length
 have hget : ∀ i o, (applyW σ' [(id, .none), (nid, .buf fz ty k (es ++ xs))])[i]? = some o -> o.live = true -> (i = nid /\ o = .buf fz ty k (es ++ xs)) ∨ (i ≠ nid /\ i ≠ id /\ σ'[i]? = some o) := by
  intro i o hi hl
  simp only [applyW] at hi
  by_cases e : i = nid
  ·subst e
   rw [List.getElem?_set_self (by simp; exact hnlt)] at hi
   cases hi
   exact .inl ⟨rfl, rfl⟩
  ·rw [List.getElem?_set_ne (Ne.symm e)] at hi
   by_cases e2 : i = id
   ·subst e2
    rw [List.getElem?_set_self hidlt] at hi
    cases hi
    cases hl
   ·rw [List.getElem?_set_ne (Ne.symm e2)] at hi
    exact .inr ⟨e, e2, hi⟩
 have hbm : ∀ i o, i ≠ id -> σ'[i]? = some o -> o.live = true -> x.m i ≠ b := by
  intro i o hne2 hi hl hm
  rcases hkey with h | h
  ·exact hne2 (hI.inj i id o _ hi ho hl rfl (hm.trans h))
  ·have := (hI.objs i o hi hl).1.1; omega
 refine ⟨sup S S1, x.upd nid b k (es ++ xs).length, ?_, ?_, hkeep, hsup, hksz, fun i hi => hx i (by omega)⟩
 ·refine hI.turn ?_ hsz ?_ hkeep hsup hksz ?_ ?_ ?_ ?_
  ·refine ⟨hw.1.trans hI.below.os, hw.2.1.trans hI.below.tape, hw.2.2.trans hI.below.output, Nat.le_trans hI.below.size hsz, fun q hq => ?_⟩
   refine (hoth q ?_ (by have := hI.below.size; omega)).trans (hI.below.block q hq)
   rcases hkey with h | h
   ·omega
   ·have := hI.below.size; omega
  ·intro b' hb' hwb
   refine hoth b' ?_ (by have := hI.size; omega)
   rintro rfl
   rcases hkey with h | h
   ·subst h
    rcases p2 with p2 | p2
    ·omega
    ·exact hwb p2
   ·have := hI.size; omega
  ·rintro b' o (h | ⟨_, h, _⟩)
   ·have := hI.slt b' o h; omega
   ·omega
  ·intro i o hi hl
   rcases hget i o hi hl with ⟨rfl, rfl⟩ | ⟨e1, e2, e3⟩
   ·refine .inr ⟨⟨by rw [x1]; exact hblt, ?_, ?_⟩, ?_⟩
    ·rw [x1]
     rcases hkey with h | h
     ·rw [h]; exact p2
     ·rw [h]; exact .inl hI.size
    ·rw [x1]
     rcases hkey with h | h
     ·omega
     ·have := hI.below.size; omega
    ·refine ⟨x2, x3, arr, by rw [x1]; exact hb, V, fun i hi => (hrep i hi).mono hkeep hsup, hcells, ?_, ?_⟩
     ·intro hfz c hc; rw [x1]; exact .inr ⟨hfz, rfl, hc⟩
     ·rintro c hc (h | ⟨h1, h2, h3⟩)
      ·rw [x1] at h
       rcases hkey with hk | hk
       ·subst hk
        exact r7 c (hc.imp_right (fun h => Nat.le_trans hlenle h)) h
       ·have := hI.slt b c h; omega
      ·rcases hc with hc | hc
       ·rw [h1] at hc; cases hc
       ·omega
   ·obtain ⟨q1, q2, q3⟩ := hx i e1
    refine .inl ⟨e3, q1, q2, q3, hoth _ (hbm i o e2 e3 hl) (hI.objs i o e3 hl).1.1, ?_, fun l hll j hj => hx j (fun he => hf.2 i o e3 l hll (he ▸ hj))⟩
    rintro c (h | ⟨_, h, _⟩)
    ·exact h
    ·exact absurd h (hbm i o e2 e3 hl)
  ·intro i j oi oj hi hj li lj hm
   rcases hget i oi hi li with ⟨rfl, rfl⟩ | ⟨e1, e2, e3⟩
   ·rcases hget j oj hj lj with ⟨rfl, rfl⟩ | ⟨f1, f2, f3⟩
    ·rfl
    ·rw [x1, (hx j f1).1] at hm
     exact absurd hm.symm (hbm j oj f2 f3 lj)
   ·rcases hget j oj hj lj with ⟨rfl, rfl⟩ | ⟨f1, f2, f3⟩
    ·rw [x1, (hx i e1).1] at hm
     exact absurd hm (hbm i oi e2 e3 li)
    ·rw [(hx i e1).1, (hx j f1).1] at hm
     exact hI.inj i j oi oj e3 f3 li lj hm
  ·rintro b' o (h | ⟨_, rfl, _⟩)
   ·exact .inl h
   ·rcases hkey with h | h
    ·rw [h]; exact .inr p2
    ·rw [h]; exact .inr (.inl hI.size)
 ·have := RepL.own (w := w') (S := sup S S1) (x := x.upd nid b k (es ++ xs).length) nid cap (by rw [x3]; simpa using hle) hmax (by rw [x1, x2]; exact ⟨arr, ty, (0, 0), hb, hcap⟩)
  rw [x1, x3] at this
  simpa using this
end Go.Ev

namespace Go.Ev
open Go Go.RowKit
variable {W0 w : World} {w0 : Beg} {Wb : Nat -> Prop} {S : PSet} {x : Ix} {σ σ' : List LObj} {P : Program} {E : TEnv}
theorem madeCells_get (z : Array Value) (n : Nat) (hz : 0 < z.size) (i : Nat) (hi : i < n) : (madeCells z n)[i]? = z[i % z.size]? := by
 have : i % z.size < z.size := Nat.mod_lt _ hz
 simp [madeCells, hi, this]
theorem madeCells_size (z : Array Value) (n : Nat) : (madeCells z n).size = n := by simp [madeCells]
theorem buf_new (hI : Inv W0 w0 Wb w S x σ') {nid : Nat} (hf : Free σ' nid) {arr : Array Value} {ty k cap : Nat} {es : List PVal} {V : Nat -> Value} (hcap : arr.size = cap * k) (hmax : cap <= maxLen) (hle : es.length <= cap)
  (hrep : ∀ i (hi : i < es.length), RepP w S es[i] (V i)) (hcells : ∀ i, i < es.length -> (V i).cells.size = k /\ ∀ j, j < k -> ∃ u, (V i).cells[j]? = some u /\ u.oneCell' = true /\ arr[i * k + j]? = some u) :
  After W0 w0 Wb w S x σ' nid (.own nid) [(nid, .buf false ty k es)] (.slice (some ⟨w.heap.size, 0, Option.none⟩) es.length cap) (w.alloc (.cells arr ty)) := by
 obtain ⟨x1, x2, x3⟩ := x.upd_same nid w.heap.size k es.length
 refine After.alloc hI hf arr ty k es.length _ ?_ ?_
 ·refine ⟨x2, x3, arr, by rw [x1]; exact heap_new w _, V, fun i hi => (hrep i hi).mono (keeps_alloc hI _) (fun _ _ h => h), hcells, by simp, fun c _ hs => ?_⟩
  rw [x1] at hs
  have := hI.slt _ _ hs
  omega
 ·have := RepL.own (w := w.alloc (.cells arr ty)) (S := S) (x := x.upd nid w.heap.size k es.length) nid cap (by rw [x3]; exact hle) hmax (by rw [x1, x2]; exact ⟨arr, ty, (0, 0), heap_new w _, hcap⟩)
  rw [x1, x3] at this
  exact this
theorem buf_new_drew (hI : Inv W0 w0 Wb w S x σ') : Inv W0 w0 Wb w.drew S x σ' :=
 hI.turn hI.below.drew (Nat.le_refl _) (fun _ _ _ => rfl) (fun _ _ _ _ h => h) (fun _ _ h => h) (fun _ _ h => h) hI.slt
  (fun id o ho hl => .inl ⟨ho, rfl, rfl, rfl, rfl, fun _ h => h, fun _ _ _ _ => ⟨rfl, rfl, rfl⟩⟩) hI.inj (fun _ _ h => .inl h)
theorem act_append (hE : TOk P E) {nid t : Nat} {s l : LVal} {K : KA} (h : actAppend E σ nid t s l K = true) :
  ∃ v rd wr, K v rd wr = true /\ ∀ us ul ty, Okk W0 σ nid v rd wr (fun w S x => RepL w S x s us /\ RepL w S x l ul) (fun w u' w' => (Builtin.append_ #[t, t] ty #[us, ul]).run P w = .ok u' w') := by
 unfold actAppend at h
 split at h
 ·next e k hsl =>
  obtain ⟨hu, inf, z, hi1, hi2, hi3, hi4, hi5, hi6⟩ := hE.sl t e k hsl
  obtain ⟨xs, rd, h', hsrc⟩ := elems_ok (W0 := W0) h
  clear h
  have h := h'
  clear h'
  split at h
  ·next id =>
   split at h
   ·next fz ty0 k' es ho =>
    by_cases hc : ty0 = e /\ k' = k
    ·obtain ⟨rfl, rfl⟩ := hc
     simp only [decide_true, Bool.and_self, cond_true] at h
     by_cases hm : es.length + xs.length <= maxElems
     ·simp only [hm, decide_true, cond_true] at h
      refine ⟨_, _, _, h, ?_⟩
      intro us ul ty w0 Wb σ' w S x hag hI hf hR
      obtain ⟨hs, hl⟩ := hR
      have ho' := (hag id (.inr (by simp [keys]))).trans ho
      obtain ⟨a, c, V, hS⟩ := hsrc σ' w S x (fun i hi => hag i (.inl hi)) hI ul hl
      obtain ⟨⟨p1, p2, p3⟩, hr⟩ := hI.objs id _ ho' rfl
      obtain ⟨r1, r2, cur, r3, V0, r4, r5, r6, r7⟩ := hr
      have hmx : es.length + xs.length <= 1073741824 := hm
      have hmaxc : ∀ {cap : Nat}, es.length + xs.length <= cap -> cap <= maxLen -> True := fun _ _ => trivial
      -- the elements and their cells
      have hrepV : ∀ i (hi : i < (es ++ xs).length), RepP w S (es ++ xs)[i] ((fun i => if i < es.length then V0 i else V (i - es.length)) i) := by
       intro i hi
       simp only [List.length_append] at hi
       by_cases h1 : i < es.length
       ·simp only [h1, if_true, List.getElem_append_left h1]; exact r4 i h1
       ·simp only [h1, if_false]
        rw [List.getElem_append_right (by omega)]
        exact hS.rep (i - es.length) (by omega)
      cases hs with
      | own _ cap hn hmc hbk =>
       obtain ⟨cur', ty', fr', d1, d2⟩ := hbk
       rw [r3] at d1
       cases d1
       rw [r1] at d2
       rw [r2] at hn ⊢
       rw [<- hi2] at hS d2 r5
       by_cases hroom : es.length + xs.length <= cap
       ·have hfit : es.length * inf.size + xs.length * inf.size <= cur.size := by
         rw [<- Nat.add_mul, d2]; exact Nat.mul_le_mul_right _ hroom
        refine ⟨_, _, run_append_in hu hi1 r3 hS hroom hfit, ?_⟩
        have hl2 := flat_length (V := V) (k := inf.size) xs.length (fun i hi => (hS.cells i hi).1)
        refine grow_inv hI ho' (by have := hf 0 (by omega); simpa using this) (b := x.m id) (arr := overlay cur (es.length * inf.size) (flat V xs.length)) (V := fun i => if i < es.length then V0 i else V (i - es.length)) (.inl rfl)
         (putBlk_same p1) (fun b' hb' _ => putBlk_other hb') (by rw [putBlk_size]; exact Nat.le_refl _) ⟨rfl, rfl, rfl⟩ ?_ (by rw [overlay_size, d2, hi2]) hmc hroom hrepV ?_
        ·intro _
         refine ⟨cur, r3, overlay_size _ _ _, fun c hc => overlay_out _ _ _ _ (.inl (by rw [hi2]; exact hc))⟩
        ·intro i hi
         simp only [List.length_append] at hi
         rw [<- hi2]
         by_cases h1 : i < es.length
         ·simp only [h1, if_true]
          refine ⟨(r5 i h1).1, fun j hj => ?_⟩
          obtain ⟨u, u1, u2, u3⟩ := (r5 i h1).2 j hj
          have hlt : i * inf.size + j < es.length * inf.size := by
           have : (i + 1) * inf.size <= es.length * inf.size := Nat.mul_le_mul_right _ h1
           rw [Nat.add_mul, Nat.one_mul] at this; omega
          exact ⟨u, u1, u2, by rw [overlay_out _ _ _ _ (.inl hlt)]; exact u3⟩
         ·simp only [h1, if_false]
          obtain ⟨q, rfl⟩ : ∃ q, i = es.length + q := ⟨i - es.length, by omega⟩
          rw [Nat.add_sub_cancel_left]
          have hq : q < xs.length := by omega
          refine ⟨(hS.cells q hq).1, fun j hj => ?_⟩
          obtain ⟨u, u1, u2, _⟩ := (hS.cells q hq).2 j hj
          refine ⟨u, u1, u2, ?_⟩
          have hg := flat_get (V := V) xs.length (fun i hi => (hS.cells i hi).1) q j hq hj
          rw [Nat.add_mul, Nat.add_assoc, overlay_in _ _ _ (by rw [hl2]; exact hfit)]
          ·rw [hg, u1]
          ·rw [hl2]
           have : (q + 1) * inf.size <= xs.length * inf.size := Nat.mul_le_mul_right _ hq
           rw [Nat.add_mul, Nat.one_mul] at this; omega
       ·have hold : ∀ w' : World, (∀ b o, w'.cell? ⟨b, o, Option.none⟩ = w.cell? ⟨b, o, Option.none⟩) ->
          (Builtin.firstCells inf.size es.length (.slice (some ⟨x.m id, 0, Option.none⟩) es.length cap)).run P w' = .ok (cur.toList.take (es.length * inf.size)).toArray w' := by
         intro w' hw'
         refine run_firstCells_some (P := P) w' inf.size es.length _ es.length cap _ (by
          have : es.length * inf.size <= cap * inf.size := Nat.mul_le_mul_right _ hn
          simp; omega) (fun q v hq => ?_)
         rw [Addr_add_none, hw']
         simp only [World.cell?, r3, Nat.zero_add, Option.isSome_none, Bool.false_eq_true, if_false]
         rw [List.getElem?_take] at hq
         split at hq
         ·simpa using hq
         ·cases hq
        refine ⟨_, _, run_append_out hu hi1 hi4 hi6 hold hS (by omega) hmx, ?_⟩
        have hl2 := flat_length (V := V) (k := inf.size) xs.length (fun i hi => (hS.cells i hi).1)
        have hge := grownCap_ge w (es.length + xs.length) cap ty0
        have hml := grownCap_le_maxLen w (es.length + xs.length) cap ty0 (by simp only [maxLen]; omega)
        have htk : es.length * inf.size <= cur.size := by rw [d2]; exact Nat.mul_le_mul_right _ hn
        refine grow_inv hI ho' (by have := hf 0 (by omega); simpa using this) (b := w.heap.size) (V := fun i => if i < es.length then V0 i else V (i - es.length)) (.inr rfl)
         (heap_new w.drew _) (fun b' _ hb' => Below.heap_alloc w.drew _ b' hb') (by simp) ⟨rfl, rfl, rfl⟩ (fun h => by omega) ?_ hml hge hrepV ?_
        ·simp only [Array.size_append, List.size_toArray, List.length_take, Array.length_toList, hl2, zeroCells_size, hi5, <- hi2]
         rw [Nat.min_eq_left htk, <- Nat.add_mul, <- Nat.add_mul]
         congr 1; omega
        ·intro i hi
         simp only [List.length_append] at hi
         rw [<- hi2]
         by_cases h1 : i < es.length
         ·simp only [h1, if_true]
          refine ⟨(r5 i h1).1, fun j hj => ?_⟩
          obtain ⟨u, u1, u2, u3⟩ := (r5 i h1).2 j hj
          have hlt : i * inf.size + j < es.length * inf.size := by
           have : (i + 1) * inf.size <= es.length * inf.size := Nat.mul_le_mul_right _ h1
           rw [Nat.add_mul, Nat.one_mul] at this; omega
          refine ⟨u, u1, u2, ?_⟩
          rw [Array.getElem?_append_left (by simp [hl2]; omega), Array.getElem?_append_left (by simp; omega)]
          simp [hlt, u3]
         ·simp only [h1, if_false]
          obtain ⟨q, rfl⟩ : ∃ q, i = es.length + q := ⟨i - es.length, by omega⟩
          rw [Nat.add_sub_cancel_left]
          have hq : q < xs.length := by omega
          refine ⟨(hS.cells q hq).1, fun j hj => ?_⟩
          obtain ⟨u, u1, u2, _⟩ := (hS.cells q hq).2 j hj
          refine ⟨u, u1, u2, ?_⟩
          have hg := flat_get (V := V) xs.length (fun i hi => (hS.cells i hi).1) q j hq hj
          have hlt : q * inf.size + j < xs.length * inf.size := by
           have : (q + 1) * inf.size <= xs.length * inf.size := Nat.mul_le_mul_right _ hq
           rw [Nat.add_mul, Nat.one_mul] at this; omega
          have hsz1 : (cur.toList.take (es.length * inf.size)).toArray.size = es.length * inf.size := by simp; omega
          rw [Nat.add_mul, Nat.add_assoc, Array.getElem?_append_left (by rw [Array.size_append, hsz1]; simp [hl2]; exact hlt), Array.getElem?_append_right (by rw [hsz1]; omega), hsz1, Nat.add_sub_cancel_left]
          simp only [List.getElem?_toArray]
          rw [hg, u1]
     ·simp [hm] at h
    ·rcases Decidable.not_and_iff_or_not.1 hc with hc | hc <;> simp [hc] at h
   ·cases h
  ·split at h
   ·refine ⟨_, _, _, h, ?_⟩
    intro us ul ty w0 Wb σ' w S x hag hI hf hR
    obtain ⟨hs, hl⟩ := hR
    obtain rfl := lit_of hs
    obtain ⟨a, c, V, hS⟩ := hsrc σ' w S x (fun i hi => hag i (.inl hi)) hI ul hl
    rw [<- hi2] at hS
    have hfst := hS.first (P := P) w (fun _ _ => rfl)
    refine ⟨.slice Option.none 0 0, w, ?_, .same hI (.p (.lit _))⟩
    rw [hS.eq] at hfst ⊢
    simp only [List.length_nil] at hfst ⊢
    simp [Builtin.append_, run_underlying hu, sizeOf, typeInfo, hi1, Builtin.lenOf, hfst]
   ·next y ys =>
    by_cases hm : ys.length + 1 <= maxElems
    ·simp only [hm, decide_true, cond_true] at h
     refine ⟨_, _, _, h, ?_⟩
     intro us ul ty w0 Wb σ' w S x hag hI hf hR
     obtain ⟨hs, hl⟩ := hR
     obtain rfl := lit_of hs
     obtain ⟨a, c, V, hS⟩ := hsrc σ' w S x (fun i hi => hag i (.inl hi)) hI ul hl
     rw [<- hi2] at hS
     have hmx : ys.length + 1 <= 1073741824 := hm
     have hold : ∀ w' : World, (∀ b o, w'.cell? ⟨b, o, Option.none⟩ = w.cell? ⟨b, o, Option.none⟩) -> (Builtin.firstCells inf.size 0 (.slice Option.none 0 0)).run P w' = .ok ([] : List Value).toArray w' := by
      intro w' _; simp [Builtin.firstCells]
     refine ⟨_, _, run_append_out (n := 0) (cap := 0) hu hi1 hi4 hi6 hold hS (by simp) (by simp; omega), ?_⟩
     have hl2 := flat_length (V := V) (k := inf.size) (y :: ys).length (fun i hi => (hS.cells i hi).1)
     have hge := grownCap_ge w (0 + (y :: ys).length) 0 e
     have hml := grownCap_le_maxLen w (0 + (y :: ys).length) 0 e (by simp only [maxLen, List.length_cons]; omega)
     have := buf_new (buf_new_drew hI) (nid := nid) (by have := hf 0 (by omega); simpa using this) (arr := ([] : List Value).toArray ++ (flat V (y :: ys).length).toArray ++ Builtin.zeroCells z.cells (grownCap w (0 + (y :: ys).length) 0 e - (0 + (y :: ys).length)))
      (ty := e) (k := k) (cap := grownCap w (0 + (y :: ys).length) 0 e) (es := y :: ys) (V := V) ?_ hml (by omega) (fun i hi => RepP.mono (w := w) (w' := w.drew) (S := S) (S' := S) (fun _ _ _ _ h => h) (fun _ _ h => h) (hS.rep i hi)) ?_
     ·obtain ⟨S', x', a1, a2, a3, a4, a5, a6⟩ := this
      have e0 : (0 + (y :: ys).length) = (y :: ys).length := Nat.zero_add _
      rw [e0] at a1 a2 a3 a5 ⊢
      exact ⟨S', x', a1, a2, a3, a4, a5, a6⟩
     ·simp only [Array.size_append, List.size_toArray, List.length_nil, hl2, zeroCells_size, hi5, <- hi2]
      rw [Nat.zero_add, <- Nat.add_mul]
      congr 1; omega
     ·intro i hi
      rw [<- hi2]
      refine ⟨(hS.cells i hi).1, fun j hj => ?_⟩
      obtain ⟨u, u1, u2, _⟩ := (hS.cells i hi).2 j hj
      refine ⟨u, u1, u2, ?_⟩
      have hg := flat_get (V := V) (y :: ys).length (fun i hi => (hS.cells i hi).1) i j hi hj
      have hlt : i * inf.size + j < (y :: ys).length * inf.size := by
       have : (i + 1) * inf.size <= (y :: ys).length * inf.size := Nat.mul_le_mul_right _ hi
       rw [Nat.add_mul, Nat.one_mul] at this; omega
      rw [Array.getElem?_append_left (by rw [Array.size_append, List.size_toArray, List.size_toArray, hl2, List.length_nil, Nat.zero_add]; exact hlt), Array.getElem?_append_right (by simp)]
      simp only [List.size_toArray, List.length_nil, Nat.sub_zero, List.getElem?_toArray]
      rw [hg, u1]
    ·simp [hm] at h
  ·cases h
 ·cases h
end Go.Ev

namespace Go.Ev
open Go Go.RowKit
variable {W0 w : World} {w0 : Beg} {Wb : Nat -> Prop} {S : PSet} {x : Ix} {σ σ' : List LObj} {P : Program} {E : TEnv}
def NoLead (wr : List (Nat × LObj)) : Prop := ∀ id o, (id, o) ∈ wr -> ∀ l, l ∈ o.cells -> ∀ i, ¬ l.Leads i
theorem noLead_nil : NoLead [] := fun _ _ h => by cases h
theorem noLead_append {a b : List (Nat × LObj)} (ha : NoLead a) (hb : NoLead b) : NoLead (a ++ b) := fun id o h => by
 rcases List.mem_append.1 h with h | h
 ·exact ha id o h
 ·exact hb id o h
theorem noLead_buf (fz : Bool) (id : Nat) (f : Bool) (ty k : Nat) (es : List PVal) : NoLead (if fz then [] else [(id, .buf f ty k es)]) := fun i o h => by
 cases fz with
 | true => simp at h
 | false =>
  simp only [Bool.false_eq_true, if_false, List.mem_singleton, Prod.mk.injEq] at h
  obtain ⟨rfl, rfl⟩ := h
  intro l hl; cases hl
mutual
theorem snap_noLead : ∀ (n : Nat) (v : LVal) (p : PVal) (rd : List Nat) (wr : List (Nat × LObj)), snap σ n v = some (p, rd, wr) -> NoLead wr
 | 0, _, _, _, _, h => by simp [snap] at h
 | n + 1, v, p, rd, wr, h => by
  cases v with
  | undef => simp [snap] at h
  | tup vs => simp [snap] at h
  | p q =>
   simp only [snap, Option.some.injEq, Prod.mk.injEq] at h
   obtain ⟨rfl, rfl, rfl⟩ := h
   exact noLead_nil
  | own id =>
   simp only [snap] at h
   split at h
   ·simp only [Option.some.injEq, Prod.mk.injEq] at h
    obtain ⟨rfl, rfl, rfl⟩ := h
    exact noLead_buf _ _ _ _ _ _
   ·simp at h
  | sl id off len =>
   simp only [snap] at h
   split at h
   ·split at h
    ·simp only [Option.some.injEq, Prod.mk.injEq] at h
     obtain ⟨rfl, rfl, rfl⟩ := h
     exact noLead_buf _ _ _ _ _ _
    ·simp at h
   ·simp at h
  | adr id i j =>
   simp only [snap] at h
   split at h
   ·split at h
    ·simp only [Option.some.injEq, Prod.mk.injEq] at h
     obtain ⟨rfl, rfl, rfl⟩ := h
     exact noLead_buf _ _ _ _ _ _
    ·simp at h
   ·next fz cs ho =>
    split at h
    ·split at h
     ·next ps rd1 wr1 hsn =>
      simp only [Option.some.injEq, Prod.mk.injEq] at h
      obtain ⟨rfl, rfl, rfl⟩ := h
      have ih := snapL_noLead n cs ps rd1 wr1 hsn
      cases fz with
      | true => exact ih
      | false =>
       simp only [Bool.false_eq_true, if_false]
       intro i o h
       rcases List.mem_cons.1 h with h | h
       ·simp only [Prod.mk.injEq] at h
        obtain ⟨rfl, rfl⟩ := h
        intro l hl j hj
        simp only [LObj.cells, List.mem_map] at hl
        obtain ⟨q, _, rfl⟩ := hl
        cases hj
       ·exact ih i o h
     ·simp at h
    ·simp at h
   ·simp at h
  | clo f a b =>
   simp only [snap] at h
   split at h
   ·next pa r1 w1 pb r2 w2 ha hb =>
    simp only [Option.some.injEq, Prod.mk.injEq] at h
    obtain ⟨rfl, rfl, rfl⟩ := h
    exact noLead_append (snapL_noLead n a _ _ _ ha) (snapL_noLead n b _ _ _ hb)
   ·simp at h
theorem snapL_noLead : ∀ (n : Nat) (vs : List LVal) (ps : List PVal) (rd : List Nat) (wr : List (Nat × LObj)), snapL σ n vs = some (ps, rd, wr) -> NoLead wr
 | n, [], ps, rd, wr, h => by
  have : ps = [] /\ rd = [] /\ wr = [] := by cases n <;> simpa [snapL, eq_comm] using h
  obtain ⟨rfl, rfl, rfl⟩ := this
  exact noLead_nil
 | 0, _ :: _, _, _, _, h => by simp [snapL] at h
 | n + 1, v :: vs, ps, rd, wr, h => by
  simp only [snapL] at h
  split at h
  ·next p r1 w1 ps' r2 w2 ha hb =>
   simp only [Option.some.injEq, Prod.mk.injEq] at h
   obtain ⟨rfl, rfl, rfl⟩ := h
   exact noLead_append (snap_noLead n v _ _ _ ha) (snapL_noLead n vs _ _ _ hb)
  ·simp at h
end
theorem free_applyW {id : Nat} {wr : List (Nat × LObj)} (hf : Free σ' id) (hn : NoLead wr) (hk : id ∉ keys wr) : Free (applyW σ' wr) id := by
 refine ⟨(applyW_out _ _ _ hk).trans hf.1, fun i o ho l hl => ?_⟩
 rcases applyW_get _ _ _ _ ho with h | ⟨h, _⟩
 ·exact hn i o h l hl id
 ·exact hf.2 i o h l hl
theorem free_notin {id : Nat} {rd : List Nat} {wr : List (Nat × LObj)} (hf : Free σ' id)
  (hw : ∀ i o, (i, o) ∈ wr -> i ∈ rd /\ RepO w (protS S σ' x rd) x i o /\ ∃ o1, σ'[i]? = some o1 /\ o1.live = true) : id ∉ keys wr := by
 intro h
 simp only [keys, List.mem_map] at h
 obtain ⟨⟨i, o⟩, h, rfl⟩ := h
 obtain ⟨_, _, o1, h1, h2⟩ := hw i o h
 have := hf.1
 rw [h1] at this
 cases this
 cases h2
theorem After.behind {nid : Nat} {v : LVal} {rd : List Nat} {wr wr2 : List (Nat × LObj)} {u : Value} {w' : World}
  (h : After W0 w0 Wb w (protS S σ' x rd) x (applyW σ' wr) nid v wr2 u w') : After W0 w0 Wb w S x σ' nid v (wr ++ wr2) u w' := by
 obtain ⟨S', x', a1, a2, a3, a4, a5, a6⟩ := h
 exact ⟨S', x', by rw [applyW_append]; exact a1, a2, fun b o h => a3 b o (.inl h), fun b o h => a4 b o (.inl h), a5, a6⟩
theorem fold_overlay : ∀ (l : List Value) (cs : Array Value) (off j : Nat),
  (l.zipIdx j).foldl (fun cs (p : Value × Nat) => cs.setIfInBounds (off + p.2) p.1) cs = overlay cs (off + j) l
 | [], _, _, _ => rfl
 | v :: l, cs, off, j => by
  rw [List.zipIdx_cons, List.foldl_cons, overlay]
  have := fold_overlay l (cs.setIfInBounds (off + j) v) off (j + 1)
  rw [<- Nat.add_assoc] at this
  exact this
theorem overlay_append (cs : Array Value) (o : Nat) : ∀ (a b : List Value), overlay cs o (a ++ b) = overlay (overlay cs o a) (o + a.length) b
 | [], b => by simp [overlay]
 | v :: a, b => by
  simp only [List.cons_append, overlay, List.length_cons]
  rw [overlay_append (cs.setIfInBounds o v) (o + 1) a b, show o + 1 + a.length = o + (a.length + 1) by omega]
theorem overlay_all (cs : Array Value) (l : List Value) (h : l.length = cs.size) : overlay cs 0 l = l.toArray := by
 apply Array.ext_getElem?
 intro i
 rw [overlay_get _ _ _ (by omega)]
 by_cases hi : i < l.length
 ·rw [if_pos (by omega)]; simp
 ·rw [if_neg (by omega)]
  rw [Array.getElem?_eq_none (by omega), Array.getElem?_eq_none (by simp; omega)]
theorem fill_row (k : Nat) : ∀ (us : List Value) (s : Nat) (cs : Array Value), (∀ u ∈ us, u.cells.size = k) -> (s + us.length) * k <= cs.size ->
  Instr.fill (fun i => some (i * k, k)) cs ((List.range' s us.length).zip us) = some (overlay cs (s * k) (us.flatMap fun u => u.cells.toList))
 | [], s, cs, _, _ => by simp [Instr.fill, overlay]
 | u :: us, s, cs, hu, hsz => by
  have hk := hu u (by simp)
  have h1 : s * k + k <= cs.size := by
   have : (s + 1) * k <= (s + (u :: us).length) * k := Nat.mul_le_mul_right _ (by simp)
   rw [Nat.add_mul, Nat.one_mul] at this
   omega
  simp only [List.length_cons, List.range'_succ, List.zip_cons_cons, Instr.fill]
  rw [if_neg (by rw [hk]; simp; omega)]
  have hz : u.cells.zipIdx.foldl (fun cs (p : Value × Nat) => cs.setIfInBounds (s * k + p.2) p.1) cs = overlay cs (s * k) u.cells.toList := by
   have := fold_overlay u.cells.toList cs (s * k) 0
   rw [Nat.add_zero] at this
   rw [<- this, <- Array.foldl_toList, Array.toList_zipIdx]
  have ih := fill_row k us (s + 1) (overlay cs (s * k) u.cells.toList) (fun v hv => hu v (by simp [hv])) (by rw [overlay_size]; simp only [List.length_cons] at hsz; rw [show s + 1 + us.length = s + (us.length + 1) by omega]; exact hsz)
  have hz' : (u.cells.zipIdx.foldl (fun cs x => cs.setIfInBounds (s * k + x.2) x.1) cs) = overlay cs (s * k) u.cells.toList := hz
  simp only [hz']
  rw [ih, List.flatMap_cons, overlay_append, Array.length_toList, hk, Nat.add_mul, Nat.one_mul]
theorem flatMap_flat (us : List Value) : us.flatMap (fun u => u.cells.toList) = flat (fun i => us.getD i Go.undef) us.length := by
 have : ∀ n, n <= us.length -> (us.take n).flatMap (fun u => u.cells.toList) = flat (fun i => us.getD i Go.undef) n := by
  intro n
  induction n with
  | zero => intro _; simp [flat]
  | succ n ih =>
   intro hn
   rw [List.take_succ_eq_append_getElem (by omega), List.flatMap_append, ih (by omega), flat]
   simp [List.getD, show n < us.length by omega]
 have h := this us.length (Nat.le_refl _)
 rwa [List.take_length] at h
theorem partsOk_range : ∀ (parts : List (Nat × LVal)) (s : Nat), partsOk s parts = true -> parts.map (·.1) = List.range' s parts.length
 | [], _, _ => rfl
 | (i, v) :: r, s, h => by
  simp only [partsOk, Bool.and_eq_true] at h
  obtain ⟨h0, h⟩ := h
  obtain rfl := Nat.eq_of_beq_eq_true h0
  simp only [List.map_cons, List.length_cons, List.range'_succ, partsOk_range r (i + 1) h]
theorem run_buildSlice {t e : TypeId} {i : TypeInfo} {z : Value} (ht : P.underlying t = some (.slice e)) (hi : P.info? e = some i) (hz : i.zero = some z) (hzs : z.cells.size = i.size) (h0 : 0 < i.size) (us : List Value) (hn : us.length <= 64) (hk : i.size <= 64)
  (hu : ∀ u ∈ us, u.cells.size = i.size) (w : World) :
  (Instr.buildSlice t us.length ((List.range' 0 us.length).zip us).toArray).run P w =
   .ok (.slice (some ⟨w.heap.size, 0, Option.none⟩) us.length us.length) (w.alloc (.cells (flat (fun i => us.getD i Go.undef) us.length).toArray e)) := by
 have hlim : ¬ (us.length * i.size > 2 ^ 24) := by
  have : us.length * i.size <= 64 * 64 := Nat.mul_le_mul hn hk
  omega
 have hl : (us.flatMap fun u => u.cells.toList).length = us.length * i.size := by
  rw [flatMap_flat]
  exact flat_length _ (fun i hi => hu _ (by simp [List.getD, hi]))
 have key : ∀ cs : Array Value, cs.size = us.length * i.size -> Instr.fill (fun j => some (j * i.size, i.size)) cs ((List.range' 0 us.length).zip us) = some (flat (fun i => us.getD i Go.undef) us.length).toArray := by
  intro cs hcs
  rw [fill_row i.size us 0 cs hu (by rw [Nat.zero_add, hcs]; exact Nat.le_refl _), Nat.zero_mul, overlay_all _ _ (by rw [hl, hcs]), flatMap_flat]
 rcases Nat.eq_zero_or_pos (us.length * i.size) with hz0 | hz0
 ·have hk0 := key ((Array.range (us.length * i.size)).map fun q => (#[] : Array Value)[q % (#[] : Array Value).size]!) (by simp)
  simp [Instr.buildSlice, run_underlying ht, run_sizeOf' hi, hz0] at hk0 ⊢
  simp [hk0, newRow]
 ·have hk0 := key ((Array.range (us.length * i.size)).map fun q => z.cells[q % z.cells.size]!) (by simp)
  have hne : ¬ (us.length * i.size = 0) := by omega
  have hzv : (zeroValue e).run P w = .ok z w := by simp [zeroValue, typeInfo, hi, hz]
  have hlim' : ¬ (16777216 < us.length * i.size) := by omega
  simp [Instr.buildSlice, run_underlying ht, run_sizeOf' hi, hlim', hne, hzv] at hk0 ⊢
  simp [hk0, newRow]
end Go.Ev

namespace Go.Ev
open Go Go.RowKit
variable {W0 w : World} {w0 : Beg} {Wb : Nat -> Prop} {S : PSet} {x : Ix} {σ σ' : List LObj} {P : Program} {E : TEnv}
theorem act_buildSlice (hE : TOk P E) {nid t n : Nat} {parts : List (Nat × LVal)} {K : KA} (h : actBuildSlice E σ nid t n parts K = true) :
  ∃ v rd wr, K v rd wr = true /\ ∀ us : List Value, Okk W0 σ nid v rd wr (fun w S x => us.length = parts.length /\ ∀ i (hi : i < (parts.map (·.2)).length), RepL w S x (parts.map (·.2))[i] (us.getD i Go.undef))
   (fun w u' w' => (Instr.buildSlice t n ((parts.map (·.1)).zip us).toArray).run P w = .ok u' w') := by
 unfold actBuildSlice at h
 split at h
 ·next e k hsl =>
  obtain ⟨hu, inf, z, hi1, hi2, hi3, hi4, hi5, hi6⟩ := hE.sl t e k hsl
  split at h
  ·next ps rd wr hsn =>
   split at h
   ·next hc =>
    obtain ⟨c1, c2, c3, c4, c5⟩ := hc
    refine ⟨_, _, _, h, ?_⟩
    intro us w0 Wb σ' w S x hag hI hf hR
    obtain ⟨hus, hr⟩ := hR
    obtain ⟨hpl, hp1, hp2, hp3⟩ := snapL_ok (R := rd) hI 16 _ ps rd wr hsn (fun i hi => hag i (.inl hi)) (fun i hi => hi) (fun i => us.getD i Go.undef) hr
    have hI' := snap_inv hI hp2 hp3
    have hf0 : Free σ' nid := by have := hf 0 (by omega); simpa using this
    have hf' := free_applyW hf0 (snapL_noLead _ _ _ _ _ hsn) (free_notin hf0 hp2)
    have hpn : ps.length = n := by rw [hpl, List.length_map, c2]
    have hun : us.length = n := by rw [hus, c2]
    have hel : ∀ i (hi : i < ps.length), ps[i].cells.length = k /\ ps[i].cells.all PVal.one = true := by
     intro i hi
     have := List.all_eq_true.1 c5 _ (List.getElem_mem hi)
     simpa using this
    have hcs : ∀ i, i < n -> (us.getD i Go.undef).cells.size = k := by
     intro i hi
     have hi' : i < ps.length := by omega
     rw [((hp1 i hi').cells_get (hel i hi').2).1, (hel i hi').1]
    have hmem : ∀ u ∈ us, u.cells.size = inf.size := by
     intro u hu
     obtain ⟨i, hi, rfl⟩ := List.getElem_of_mem hu
     have := hcs i (by omega)
     rw [hi2, <- this]; simp [List.getD, hi]
    have hrun := run_buildSlice (P := P) hu hi1 hi4 (by rw [hi5, hi2]) (by rw [hi2]; exact hi3) us (by omega) (by rw [hi2]; exact c4) hmem w
    have hrng := partsOk_range parts 0 c1
    rw [hun] at hrun
    rw [hrng, c2]
    refine ⟨_, _, hrun, ?_⟩
    have hfl := flat_length (V := fun i => us.getD i Go.undef) (k := k) n hcs
    have hA := buf_new hI' hf' (arr := (flat (fun i => us.getD i Go.undef) n).toArray) (ty := e) (k := k) (cap := n) (es := ps) (V := fun i => us.getD i Go.undef) (by simp only [List.size_toArray]; exact hfl) (by simp only [maxLen]; omega) (by omega) hp1 (by
     intro i hi
     refine ⟨hcs i (by omega), fun j hj => ?_⟩
     obtain ⟨q1, q2⟩ := (hp1 i hi).cells_get (hel i hi).2
     have hj1 : j < ps[i].cells.length := by rw [(hel i hi).1]; exact hj
     have hj2 : j < (us.getD i Go.undef).cells.size := by rw [q1]; exact hj1
     refine ⟨(us.getD i Go.undef).cells[j], by simp [hj2], (q2 j hj1 hj2).2, ?_⟩
     have hg := flat_get (V := fun i => us.getD i Go.undef) n hcs i j (by omega) hj
     simp only [List.getElem?_toArray]
     rw [hg]; simp [hj2])
    rw [hpn] at hA
    exact hA.behind
   ·cases h
  ·cases h
 ·cases h
theorem zeroP_ok (hE : TOk P E) {e : Nat} {agg : Bool} {m k : Nat} {zs : List Value} {p : PVal} {inf : TypeInfo} {z : Value} (h0 : E.zero e = some zs) (hz : zeroP agg zs = some p) (hi : P.info? e = some inf) (hzz : inf.zero = some z) (hk : z.cells.size = k) (hk0 : 0 < k) :
  ∃ v : Value, (∀ (w : World) (S : PSet), RepP w S p v) /\ v.cells = z.cells /\ ∀ j, j < k -> ∃ u, v.cells[j]? = some u /\ u.oneCell' = true := by
 obtain ⟨i, z', h1, h2, h3, h4, h5⟩ := hE.zero e zs h0
 rw [hi] at h1
 cases h1
 rw [hzz] at h2
 cases h2
 have hlen : zs.length = k := by rw [<- h3]; simpa using hk
 have hone : ∀ j, j < k -> ∃ u, z.cells[j]? = some u /\ u.oneCell' = true := by
  intro j hj
  have hj' : j < zs.length := by omega
  refine ⟨zs[j], ?_, List.all_eq_true.1 h4 _ (List.getElem_mem hj')⟩
  rw [<- Array.getElem?_toList, h3]; simp [hj']
 unfold zeroP at hz
 split at hz
 ·simp only [Option.some.injEq] at hz
  subst hz
  refine ⟨.agg z.cells, fun w S => ?_, rfl, hone⟩
  refine .agg _ _ (by simp [hlen, hk]) (fun i hi => ?_)
  have hi' : i < zs.length := by simpa using hi
  have he : z.cells[i]'(by omega) = zs[i] := by
   have : z.cells.toList[i]'(by simpa using (by omega : i < z.cells.size)) = zs[i] := by simp only [h3]
   simpa using this
  rw [List.getElem_map, he]
  exact RepP_nrm_aux
 ·split at hz
  ·next z1 =>
   simp only [Option.some.injEq] at hz
   subst hz
   simp only [List.length_singleton] at hlen
   have hz1 : z1.oneCell' = true := by simpa using h4
   have hc : z.cells = #[z1] := by
    apply Array.ext'
    simpa using h3
   refine ⟨z1, fun w S => RepP_nrm_aux, by rw [oneCell_cells hz1, hc], fun j hj => ?_⟩
   rw [oneCell_cells hz1, <- hc]; exact hone j hj
  ·cases hz
theorem act_make (hE : TOk P E) {nid t : Nat} {l c : LVal} {K : KA} (h : actMake E nid t l c K = true) :
  ∃ v wr, K v [] wr = true /\ ∀ ul uc, Okk W0 σ nid v [] wr (fun w S x => RepL w S x l ul /\ RepL w S x c uc) (fun w u' w' => (Instr.makeSlice t ul uc).run P w = .ok u' w') := by
 unfold actMake at h
 split at h
 ·next e k hsl =>
  obtain ⟨hu, inf, z, hi1, hi2, hi3, hi4, hi5, hi6⟩ := hE.sl t e k hsl
  split at h
  ·next agg m zs hty hz =>
   split at h
   ·next p k1 l k2 c hzp =>
    by_cases hb : (0 <= l /\ l <= c) /\ c <= 1073741824
    ·simp only [hb.1.1, hb.1.2, hb.2, decide_true, Bool.and_self, cond_true] at h
     obtain ⟨⟨b1, b2⟩, b3⟩ := hb
     refine ⟨_, _, h, ?_⟩
     intro ul uc w0 Wb σ' w S x hag hI hf hR
     obtain ⟨h1, h2⟩ := hR
     obtain rfl := lit_of h1
     obtain rfl := lit_of h2
     have hbytes : (inf.bytes : Int) * c <= 281474976710656 := by
      have : (inf.bytes : Int) * c <= 65536 * 1073741824 := Int.mul_le_mul (by omega) b3 (by omega) (by omega)
      omega
     refine ⟨_, _, run_make (P := P) w t e inf z hu hi1 hi4 k1 k2 l c b1 b2 hbytes (by omega), ?_⟩
     obtain ⟨v, v1, v2, v3⟩ := zeroP_ok (m := m) hE hz hzp hi1 hi4 hi5 hi3
     have hlr : (List.replicate l.toNat p).length = l.toNat := by simp
     have hA := buf_new hI (nid := nid) (by have := hf 0 (by omega); simpa using this) (arr := madeCells z.cells (c.toNat * inf.size)) (ty := e) (k := k) (cap := c.toNat) (es := List.replicate l.toNat p) (V := fun _ => v)
      (by rw [madeCells_size, hi2]) (by simp only [maxLen]; omega) (by rw [hlr]; omega) (fun i hi => by simp only [List.getElem_replicate]; exact v1 w S) (by
       intro i hi
       rw [hlr] at hi
       refine ⟨by rw [v2, hi5], fun j hj => ?_⟩
       obtain ⟨u, u1, u2⟩ := v3 j hj
       refine ⟨u, u1, u2, ?_⟩
       have hlt : i * k + j < c.toNat * k := by
        have : (i + 1) * k <= c.toNat * k := Nat.mul_le_mul_right _ (by omega)
        rw [Nat.add_mul, Nat.one_mul] at this; omega
       rw [madeCells_get _ _ (by rw [hi5]; exact hi3) _ (by rw [hi2]; exact hlt), hi5, Nat.mul_comm i k, Nat.mul_add_mod, Nat.mod_eq_of_lt hj, <- v2]
       exact u1)
     rw [hlr] at hA
     exact hA
    ·rcases Decidable.not_and_iff_or_not.1 hb with hb | hb
     ·rcases Decidable.not_and_iff_or_not.1 hb with hb | hb <;> simp [hb] at h
     ·simp [hb] at h
   ·cases h
  ·cases h
 ·cases h
theorem fillP_ok {fs : List (Nat × Nat)} : ∀ (l : List (Nat × PVal)) (us : List Value) (cells cs : List PVal) (vs : Array Value), fillP fs cells l = some cs -> us.length = l.length ->
  (∀ i (hi : i < l.length), RepP w S l[i].2 (us.getD i Go.undef)) -> (∀ i (hi : i < l.length), ∀ v, l[i].2 = .lit v -> v.oneCell' = true) -> ∀ hv : vs.size = cells.length, (∀ i (hi : i < cells.length), RepP w S cells[i] (vs[i]'(hv ▸ hi))) ->
  ∃ vs', Instr.fill (fs[·]?) vs ((l.map (·.1)).zip us) = some vs' /\ RepP w S (.agg cs) (.agg vs')
 | [], us, cells, cs, vs, h, hl, _, _, hv, hc => by
  simp only [fillP, Option.some.injEq] at h
  subst h
  exact ⟨vs, by simp [Instr.fill], .agg _ _ hv hc⟩
 | (i, p) :: r, us, cells, cs, vs, h, hl, hr, h1, hv, hc => by
  cases us with
  | nil => simp at hl
  | cons u us =>
   simp only [fillP] at h
   split at h
   ·next off size hf =>
    split at h
    ·next hs =>
     obtain ⟨hs1, hs2⟩ := hs
     have hp := hr 0 (by simp)
     simp only [List.getElem_cons_zero] at hp
     have hp : RepP w S p u := by simpa using hp
     have hlit := h1 0 (by simp)
     simp only [List.getElem_cons_zero] at hlit
     have hsz : u.cells.size = p.cells.length := by
      cases hp with
      | lit => rw [oneCell_cells (hlit _ rfl)]; rfl
      | agg _ _ hh _ => simp [Value.cells, PVal.cells, hh]
      | _ => rfl
     have hget : ∀ j (hj : j < p.cells.length) (hj' : j < u.cells.size), RepP w S p.cells[j] u.cells[j] := by
      intro j hj hj'
      cases hp with
      | agg _ vs hh hcc => exact hcc j hj
      | lit =>
       have hone := hlit _ rfl
       simp only [PVal.cells, List.length_singleton] at hj
       obtain rfl : j = 0 := by omega
       simp only [PVal.cells, List.getElem_cons_zero, oneCell_cells hone, List.getElem_toArray]
       exact .lit u
      | nil => simp only [PVal.cells, List.length_singleton] at hj; obtain rfl : j = 0 := (by omega); exact .nil
      | sl es b o cap k V q1 q2 q3 => simp only [PVal.cells, List.length_singleton] at hj; obtain rfl : j = 0 := (by omega); exact .sl es b o cap k V q1 q2 q3
      | adr es i j2 b o k V q1 q2 q3 q4 => simp only [PVal.cells, List.length_singleton] at hj; obtain rfl : j = 0 := (by omega); exact .adr es i j2 b o k V q1 q2 q3 q4
      | clo f a b fs cs q1 q2 q3 q4 => simp only [PVal.cells, List.length_singleton] at hj; obtain rfl : j = 0 := (by omega); exact .clo f a b fs cs q1 q2 q3 q4
     have hz : u.cells.zipIdx.foldl (fun cs x => cs.setIfInBounds (off + x.2) x.1) vs = overlay vs off u.cells.toList := by
      have := fold_overlay u.cells.toList vs off 0
      rw [Nat.add_zero] at this
      rw [<- this, <- Array.foldl_toList, Array.toList_zipIdx]
     have hoff : off + u.cells.size <= vs.size := by rw [hsz, hs1, hv]; exact hs2
     obtain ⟨vs', e1, e2⟩ := fillP_ok r us (over cells off p.cells) cs (overlay vs off u.cells.toList) h (by simpa using hl)
      (fun i hi => by have := hr (i + 1) (by simp; omega); simpa using this) (fun i hi => by have := h1 (i + 1) (by simp; omega); simpa using this)
      (by rw [overlay_size, over_length]; exact hv) (fun q hq => by
       have hq' : q < cells.length := by rw [over_length] at hq; exact hq
       have e1 := over_get cells off p.cells (by rw [hs1]; exact hs2) q
       have e2 := overlay_get vs off u.cells.toList (by simp; exact hoff) q
       rw [List.getElem?_eq_getElem hq] at e1
       have hq2 : q < vs.size := by rw [hv]; exact hq'
       have hq3 : q < (overlay vs off u.cells.toList).size := by rw [overlay_size]; exact hq2
       have hul : u.cells.toList.length = u.cells.size := Array.length_toList
       rw [Array.getElem?_eq_getElem hq3] at e2
       by_cases hin : off <= q /\ q < off + p.cells.length
       ·rw [if_pos hin] at e1
        rw [if_pos (by omega)] at e2
        rw [List.getElem?_eq_getElem (by omega)] at e1
        rw [List.getElem?_eq_getElem (by simp; omega)] at e2
        simp only [Option.some.injEq, Array.getElem_toList] at e1 e2
        rw [e1, e2]
        exact hget (q - off) (by omega) (by omega)
       ·rw [if_neg hin] at e1
        rw [if_neg (by omega)] at e2
        rw [List.getElem?_eq_getElem hq'] at e1
        rw [Array.getElem?_eq_getElem hq2] at e2
        simp only [Option.some.injEq] at e1 e2
        rw [e1, e2]
        exact hc q hq')
     refine ⟨vs', ?_, e2⟩
     simp only [List.map_cons, List.zip_cons_cons, Instr.fill, hf]
     rw [if_neg (by
      rw [hsz, hs1]
      simp
      omega)]
     simp only [hz]
     exact e1
    ·cases h
   ·cases h
end Go.Ev

namespace Go.Ev
open Go Go.RowKit
variable {W0 w : World} {w0 : Beg} {Wb : Nat -> Prop} {S : PSet} {x : Ix} {σ σ' : List LObj} {P : Program} {E : TEnv}
theorem run_places (fs : List Field) (h : ∀ f ∈ fs, (P.info? f.type).isSome = true) (w : World) :
  (fs.mapM fun f => (do pure (f.offset, <- sizeOf f.type) : Sem (Nat × Nat))).run P w = .ok (fs.map fun f => (f.offset, P.cellsOf f.type)) w := by
 induction fs with
 | nil => simp
 | cons f fs ih =>
  obtain ⟨i, hi⟩ := Option.isSome_iff_exists.1 (h f (by simp))
  have ih' := ih (fun g hg => h g (by simp [hg]))
  rw [List.mapM_cons]
  simp only [Sem.run_bind, run_sizeOf' hi, Result.andThen_ok, Sem.run_pure, ih', List.map_cons]
  simp [Program.cellsOf, hi]
theorem act_build (hE : TOk P E) {nid t : Nat} {parts : List (Nat × LVal)} {K : KA} (h : actBuild E σ t parts K = true) :
  ∃ v rd wr, K v rd wr = true /\ ∀ us : List Value, Okk W0 σ nid v rd wr (fun w S x => us.length = parts.length /\ ∀ i (hi : i < (parts.map (·.2)).length), RepL w S x (parts.map (·.2))[i] (us.getD i Go.undef))
   (fun w u' w' => (Instr.build t ((parts.map (·.1)).zip us).toArray).run P w = .ok u' w') := by
 unfold actBuild at h
 split at h
 ·next fs zs ps rd wr hfs hzs hsn =>
  split at h
  ·next cs hfill =>
   by_cases hall : ps.all litOk = true
   ·simp only [hall, cond_true] at h
    refine ⟨_, _, _, h, ?_⟩
    intro us w0 Wb σ' w S x hag hI hf hR
    obtain ⟨hus, hr⟩ := hR
    obtain ⟨hpl, hp1, hp2, hp3⟩ := snapL_ok (R := rd) hI 16 _ ps rd wr hsn (fun i hi => hag i (.inl hi)) (fun i hi => hi) (fun i => us.getD i Go.undef) hr
    obtain ⟨fds, f1, f2, f3⟩ := hE.fields t fs hfs
    obtain ⟨inf, z, z1, z2, z3, z4, z5⟩ := hE.zero t zs hzs
    have hlen : ps.length = parts.length := by rw [hpl, List.length_map]
    have hzl : ((parts.map (·.1)).zip ps).length = parts.length := by simp [hlen]
    obtain ⟨vs', e1, e2⟩ := fillP_ok (w := w) (S := protS S σ' x rd) ((parts.map (·.1)).zip ps) us _ cs z.cells hfill (by rw [hzl, hus]) (fun i hi => by
      have hi' : i < ps.length := by omega
      have := hp1 i hi'
      simpa using this) (fun i hi v hv => by
      have hi' : i < ps.length := by omega
      have hq := List.all_eq_true.1 hall _ (List.getElem_mem hi')
      have hv' : ps[i] = .lit v := by simpa using hv
      rw [hv'] at hq
      exact hq) (by rw [<- z3]; simp) (fun i hi => by
      have hi' : i < zs.length := by simpa using hi
      have he : z.cells[i]'(by rw [<- z3] at hi'; simpa using hi') = zs[i] := by
       have : z.cells.toList[i]'(by rw [z3]; exact hi') = zs[i] := by simp only [z3]
       simpa using this
      rw [List.getElem_map, he]
      exact .lit _)
    have hmap : ((parts.map (·.1)).zip ps).map (·.1) = parts.map (·.1) := by
     rw [List.map_fst_zip]; simp [hlen]
    rw [hmap] at e1
    refine ⟨.agg vs', w, ?_, After.snap hI hp2 hp3 (.p e2)⟩
    have hpl2 := run_places (P := P) fds.toList f3 w
    rw [f2] at hpl2
    have hzv : (zeroValue t).run P w = .ok z w := by simp [zeroValue, typeInfo, z1, z2]
    have harr : (fds.mapM fun f => (do pure (f.offset, <- sizeOf f.type) : Sem (Nat × Nat))).run P w = .ok fs.toArray w := by
     have he : (fds.mapM fun f => (do pure (f.offset, <- sizeOf f.type) : Sem (Nat × Nat))) = (do let l <- fds.toList.mapM fun f => (do pure (f.offset, <- sizeOf f.type) : Sem (Nat × Nat)); pure l.toArray) := by
      rw [Array.mapM_eq_mapM_toList]; rfl
     rw [he]
     simp only [Sem.run_bind] at hpl2 ⊢
     rw [hpl2]
     simp only [Result.andThen_ok, Sem.run_pure]
    simp only [Instr.build, Sem.run_bind, hzv, Result.andThen_ok, run_underlying f1, harr]
    have e1' : Instr.fill (fun x => fs.toArray[x]?) z.cells ((parts.map (·.1)).zip us).toArray.toList = some vs' := by
     simpa using e1
    simp only [e1', Sem.run_pure]
   ·rw [Bool.not_eq_true] at hall
    exact absurd h (by rw [hall]; exact Bool.false_ne_true)
  ·cases h
 ·cases h
def RepV (w : World) (S : PSet) (B : Nat) : RV -> Value -> Prop
 | .p p, v => RepP w S p v
 | .fresh ty k es, v => ∃ (b cap : Nat) (cur : Array Value) (V : Nat -> Value), v = .slice (some ⟨b, 0, Option.none⟩) es.length cap /\ B <= b /\ es.length <= cap /\ cap <= maxLen /\ w.heap[b]? = some (.cells cur ty (0, 0)) /\ cur.size = cap * k /\
   (∀ i (hi : i < es.length), RepP w S es[i] (V i)) /\ (∀ i, i < es.length -> (V i).cells.size = k /\ ∀ j, j < k -> ∃ u, (V i).cells[j]? = some u /\ u.oneCell' = true /\ cur[i * k + j]? = some u) /\ ∀ c, ¬ S b c
def RV.isFresh : RV -> Bool
 | .fresh .. => true
 | _ => false
def blkOf : Value -> Nat
 | .slice (some a) _ _ => a.block
 | _ => 0
def RepR (w : World) (S : PSet) (B : Nat) : RRes -> Value -> Prop
 | .one r, v => RepV w S B r v
 | .tup rs, v => ∃ us : Array Value, v = .tuple us /\ ∃ hs : us.size = rs.length, (∀ i (hi : i < rs.length), RepV w S B rs[i] (us[i]'(hs ▸ hi))) /\
   ∀ i j (hi : i < rs.length) (hj : j < rs.length), rs[i].isFresh = true -> rs[j].isFresh = true -> blkOf (us[i]'(hs ▸ hi)) = blkOf (us[j]'(hs ▸ hj)) -> i = j
def Enters' (P : Program) (f : Nat) : Prop := ∃ fn, P.funcs[f]? = some fn /\ (fn.name == "runtime.NumGoroutine") = false /\ fn.body.isNone = false
def Pure (P : Program) (W0 : World) (f : Nat) (args : List PVal) (r : RRes) : Prop :=
 Enters' P f /\ ∀ (w : World) (S : PSet) (vs : Array Value), Below W0.heap.size W0 w -> (∀ b o, S b o -> b < w.heap.size) -> ∀ hs : vs.size = args.length, (∀ i (hi : i < args.length), RepP w S args[i] (vs[i]'(hs ▸ hi))) ->
  Calls P f vs w fun e w' => ∃ v S', e = .returned v /\ Below w.heap.size w w' /\ (∀ b o, S b o -> S' b o) /\ (∀ b o, S' b o -> S b o ∨ w.heap.size <= b) /\ (∀ b o, S' b o -> b < w'.heap.size) /\ RepR w' S' w.heap.size r v
structure BelowX (b : Nat) (w w' : World) : Prop where
 os : w'.os = w.os
 tape : w'.tape = w.tape
 output : w'.output = w.output
 size : w.heap.size <= w'.heap.size
 block : ∀ k, k < w.heap.size -> k ≠ b -> w'.heap[k]? = w.heap[k]?
def PureW (P : Program) (W0 : World) (f : Nat) (es : List PVal) (ty k : Nat) (ps es' : List PVal) : Prop :=
 Enters' P f /\ ∀ (w : World) (S : PSet) (x : Ix) (vs : Array Value), Below W0.heap.size W0 w -> (∀ b o, S b o -> b < w.heap.size) -> x.m 0 < w.heap.size -> W0.heap.size <= x.m 0 -> RepO w S x 0 (.buf false ty k es) ->
  ∀ hs : vs.size = ps.length + 1, RepL w S x (.own 0) (vs[0]'(by omega)) -> (∀ i (hi : i < ps.length), RepP w S ps[i] (vs[i + 1]'(by omega))) ->
  Calls P f vs w fun e w' => ∃ S', e = .returned (.tuple #[]) /\ BelowX (x.m 0) w w' /\ (∀ b o, S b o -> S' b o) /\ (∀ b o, S' b o -> S b o ∨ w.heap.size <= b) /\ (∀ b o, S' b o -> b < w'.heap.size) /\ KeepsSz w w' /\ RepO w' S' x 0 (.buf false ty k es')
def Does (P : Program) (W0 : World) (t : Bool) (f : Nat) (args : List PVal) (r : RRes) : Prop :=
 match t with
 | false => Pure P W0 f args r
 | true => ∃ es ty k ps es', args = .adr es ty k :: ps /\ r = .one (.p (.sl es')) /\ PureW P W0 f es ty k ps es'
def SoundΓ (P : Program) (W0 : World) (Γ : Oracle) : Prop := ∀ t f args K, Γ t f args K = true -> ∃ r, Does P W0 t f args r /\ K r = true
theorem enter_run {f : Nat} (h : Enters' P f) (args : Array Value) (w : World) : (callFunc f args).run P w = .ok (.enter f args) w := by
 obtain ⟨fn, h1, h2, h3⟩ := h
 have h2' : ¬ (fn.name = "runtime.NumGoroutine") := by simpa using h2
 have h3' : ¬ (fn.body.isNone = true) := by rw [h3]; exact Bool.false_ne_true
 simp only [callFunc, Sem.run_bind, run_program, Result.andThen_ok, h1, h2, Bool.false_eq_true, if_false]
 rw [if_neg h3']
 rfl
end Go.Ev

namespace Go.Ev
open Go Go.RowKit
variable {W0 w : World} {w0 : Beg} {Wb : Nat -> Prop} {S : PSet} {x : Ix} {σ σ' : List LObj} {P : Program} {E : TEnv}
theorem call_inv (hI : Inv W0 w0 Wb w S x σ) {w' : World} {S' : PSet} (hb : Below w.heap.size w w') (hS : ∀ b o, S b o -> S' b o) (hS' : ∀ b o, S' b o -> S b o ∨ w.heap.size <= b) (hlt : ∀ b o, S' b o -> b < w'.heap.size) :
  Inv W0 w0 Wb w' S' x σ /\ Keeps S w w' /\ KeepsSz w w' := by
 have hk : Keeps S w w' := .of_blocks fun b c h => hb.block b (hI.slt b c h)
 have hz : KeepsSz w w' := .of_blocks fun b h => .inl (hb.block b h)
 refine ⟨hI.turn ?_ hb.size ?_ hk hS hz hlt ?_ hI.inj (fun b o h => (hS' b o h).imp_right fun h => .inl (Nat.le_trans hI.size h)), hk, hz⟩
 ·exact hI.below.trans (hb.mono hI.below.size)
 ·intro b h _; exact hb.block b (Nat.lt_of_lt_of_le h hI.size)
 ·intro id o ho hl
  have hlt' := (hI.objs id o ho hl).1.1
  refine .inl ⟨ho, rfl, rfl, rfl, hb.block _ hlt', fun c h => ?_, fun _ _ _ _ => ⟨rfl, rfl, rfl⟩⟩
  rcases hS' _ _ h with h | h
  ·exact h
  ·omega
theorem adopt_inv (hI : Inv W0 w0 Wb w S x σ) {id : Nat} (hf : Free σ id) {b k n : Nat} {o : LObj} (hp : Place W0 w0 Wb w b) (hne : ∀ i o, σ[i]? = some o -> o.live = true -> x.m i ≠ b)
  (hr : RepO w S (x.upd id b k n) id o) : Inv W0 w0 Wb w S (x.upd id b k n) (σ.set id o) := by
 have hlt : id < σ.length := by
  rcases Nat.lt_or_ge id σ.length with h | h
  ·exact h
  ·have := hf.1; rw [List.getElem?_eq_none h] at this; cases this
 obtain ⟨x1, x2, x3⟩ := x.upd_same id b k n
 refine hI.turn hI.below (Nat.le_refl _) (fun _ _ _ => rfl) (keeps_refl _ _) (fun _ _ h => h) (keepsSz_refl _) hI.slt ?_ ?_ (fun _ _ h => .inl h)
 ·intro i o' ho' hl
  by_cases e : i = id
  ·subst e
   rw [List.getElem?_set_self hlt] at ho'
   cases ho'
   exact .inr ⟨by rw [x1]; exact hp, hr⟩
  ·rw [List.getElem?_set_ne (Ne.symm e)] at ho'
   obtain ⟨e1, e2, e3⟩ := x.upd_other id b k n i e
   exact .inl ⟨ho', e1, e2, e3, rfl, fun _ h => h, fun l hl j hj => x.upd_other id b k n j (fun he => hf.2 i o' ho' l hl (he ▸ hj))⟩
 ·intro i j oi oj hi hj li lj hm
  by_cases e : i = id
  ·by_cases e' : j = id
   ·rw [e, e']
   ·rw [List.getElem?_set_ne (Ne.symm e')] at hj
    rw [e, x1, (x.upd_other id b k n j e').1] at hm
    exact absurd hm.symm (hne j oj hj lj)
  ·rw [List.getElem?_set_ne (Ne.symm e)] at hi
   by_cases e' : j = id
   ·rw [e', x1, (x.upd_other id b k n i e).1] at hm
    exact absurd hm (hne i oi hi li)
   ·rw [List.getElem?_set_ne (Ne.symm e')] at hj
    rw [(x.upd_other id b k n i e).1, (x.upd_other id b k n j e').1] at hm
    exact hI.inj i j oi oj hi hj li lj hm
theorem instR_ok (hI : Inv W0 w0 Wb w S x σ) {nid B : Nat} (hf : Free σ nid) {r : RV} {u : Value} (hu : RepV w S B r u) (hB0 : W0.heap.size <= B) (hB1 : w0.heap.size <= B)
  (hne : r.isFresh = true -> ∀ i o, σ[i]? = some o -> o.live = true -> x.m i ≠ blkOf u) :
  ∃ x', Inv W0 w0 Wb w S x' (applyW σ (instR nid r).2) /\ RepL w S x' (instR nid r).1 u /\ (∀ i, i ≠ nid -> x'.m i = x.m i /\ x'.k i = x.k i /\ x'.n i = x.n i) /\
   (r.isFresh = true -> ∀ i o, (applyW σ (instR nid r).2)[i]? = some o -> o.live = true -> x'.m i = x.m i /\ i ≠ nid ∨ i = nid /\ x'.m i = blkOf u) /\
   (r.isFresh = false -> (applyW σ (instR nid r).2) = σ /\ x' = x) := by
 cases r with
 | p p => exact ⟨x, hI, .p hu, fun _ _ => ⟨rfl, rfl, rfl⟩, (fun h => by cases h), fun _ => ⟨rfl, rfl⟩⟩
 | fresh ty k es =>
  obtain ⟨b, cap, cur, V, rfl, hb, hle, hmax, hh, hsz, hrep, hcells, hS⟩ := hu
  obtain ⟨x1, x2, x3⟩ := x.upd_same nid b k es.length
  have hblt : b < w.heap.size := by
   rcases Nat.lt_or_ge b w.heap.size with h1 | h1
   ·exact h1
   ·rw [Array.getElem?_eq_none h1] at hh; cases hh
  have hA := adopt_inv hI hf (b := b) (k := k) (n := es.length) (o := .buf false ty k es) ⟨hblt, .inl (by omega), by omega⟩ (hne rfl)
   ⟨x2, x3, cur, by rw [x1]; exact hh, V, hrep, hcells, by simp, fun c _ => by rw [x1]; exact hS c⟩
  refine ⟨_, hA, ?_, fun i h => x.upd_other nid b k es.length i h, ?_, fun h => by cases h⟩
  ·have := RepL.own (w := w) (S := S) (x := x.upd nid b k es.length) nid cap (by rw [x3]; exact hle) hmax (by rw [x1, x2]; exact ⟨cur, ty, (0, 0), hh, hsz⟩)
   rw [x1, x3] at this
   exact this
  ·intro _ i o ho hl
   by_cases e : i = nid
   ·subst e; exact .inr ⟨rfl, x1⟩
   ·exact .inl ⟨(x.upd_other nid b k es.length i e).1, e⟩
theorem instR_get (σ : List LObj) (nid : Nat) (r : RV) (i : Nat) (h : i ≠ nid) : (applyW σ (instR nid r).2)[i]? = σ[i]? := by
 cases r with
 | p p => rfl
 | fresh ty k es => simp only [instR, applyW]; rw [List.getElem?_set_ne (Ne.symm h)]
theorem instR_cells (σ : List LObj) (nid : Nat) (r : RV) (i : Nat) (o : LObj) (h : (applyW σ (instR nid r).2)[i]? = some o) : σ[i]? = some o ∨ o.cells = [] := by
 cases r with
 | p p => exact .inl h
 | fresh ty k es =>
  simp only [instR, applyW] at h
  rw [List.getElem?_set] at h
  split at h
  ·split at h
   ·simp only [Option.some.injEq] at h; subst h; exact .inr rfl
   ·cases h
  ·exact .inl h
theorem instL_ok : ∀ (rs : List RV) (nid : Nat) (σ : List LObj) (x : Ix) (us : List Value) (B : Nat), Inv W0 w0 Wb w S x σ -> us.length = rs.length -> W0.heap.size <= B -> w0.heap.size <= B -> (∀ r, r < rs.length -> Free σ (nid + r)) ->
  (∀ i (hi : i < rs.length) (hi' : i < us.length), RepV w S B rs[i] us[i]) ->
  (∀ i (hi : i < rs.length) (hi' : i < us.length), rs[i].isFresh = true -> ∀ j o, σ[j]? = some o -> o.live = true -> x.m j ≠ blkOf us[i]) ->
  (∀ i j (hi : i < rs.length) (hj : j < rs.length) (hi' : i < us.length) (hj' : j < us.length), rs[i].isFresh = true -> rs[j].isFresh = true -> blkOf us[i] = blkOf us[j] -> i = j) ->
  ∃ x', Inv W0 w0 Wb w S x' (applyW σ (instL nid rs).2) /\ (instL nid rs).1.length = rs.length /\ (∀ i (hi : i < (instL nid rs).1.length) (hi' : i < us.length), RepL w S x' (instL nid rs).1[i] us[i]) /\
   ∀ i, i < nid ∨ nid + rs.length <= i -> x'.m i = x.m i /\ x'.k i = x.k i /\ x'.n i = x.n i
 | [], nid, σ, x, us, B, hI, _, _, _, _, _, _, _ => ⟨x, hI, rfl, fun i hi => by simp [instL] at hi, fun _ _ => ⟨rfl, rfl, rfl⟩⟩
 | r :: rs, nid, σ, x, us, B, hI, hl, hB0, hB1, hf, hu, hne, hd => by
  cases us with
  | nil => simp at hl
  | cons u us =>
   have hf0 : Free σ nid := by have := hf 0 (by simp); simpa using this
   have hu0 := hu 0 (by simp) (by simp)
   simp only [List.getElem_cons_zero] at hu0
   have hne0 : r.isFresh = true -> ∀ i o, σ[i]? = some o -> o.live = true -> x.m i ≠ blkOf u := fun h => hne 0 (by simp) (by simp) h
   obtain ⟨x1, hI1, hr1, hx1, hb1, hc1⟩ := instR_ok hI hf0 hu0 hB0 hB1 hne0
   have hfree : ∀ q, q < rs.length -> Free (applyW σ (instR nid r).2) (nid + 1 + q) := by
    intro q hq
    have h1 := hf (q + 1) (by simp; omega)
    rw [show nid + (q + 1) = nid + 1 + q by omega] at h1
    refine ⟨(instR_get σ nid r _ (by omega)).trans h1.1, fun i o ho l hll => ?_⟩
    rcases instR_cells σ nid r i o ho with h | h
    ·exact h1.2 i o h l hll
    ·rw [h] at hll; cases hll
   obtain ⟨x2, hI2, hl2, hr2, hx2⟩ := instL_ok rs (nid + 1) (applyW σ (instR nid r).2) x1 us B hI1 (by simpa using hl) hB0 hB1 hfree
    (fun i hi hi' => by have := hu (i + 1) (by simp; omega) (by simp; omega); simpa using this)
    (fun i hi hi' hfr j o ho hlv => by
     have hfr' : ((r :: rs)[i + 1]'(by simp; omega)).isFresh = true := by simpa using hfr
     by_cases hrf : r.isFresh = true
     ·rcases hb1 hrf j o ho hlv with ⟨h1, h2⟩ | ⟨h1, h2⟩
      ·rw [h1]
       have ho' : σ[j]? = some o := by rw [<- instR_get σ nid r j h2]; exact ho
       have := hne (i + 1) (by simp; omega) (by simp; omega) hfr' j o ho' hlv
       simpa using this
      ·rw [h2]
       intro he
       have := hd 0 (i + 1) (by simp) (by simp; omega) (by simp) (by simp; omega) hrf hfr' (by simpa using he)
       omega
     ·obtain ⟨h1, h2⟩ := hc1 (by simpa using hrf)
      rw [h1] at ho
      rw [h2]
      have := hne (i + 1) (by simp; omega) (by simp; omega) hfr' j o ho hlv
      simpa using this)
    (fun i j hi hj hi' hj' f1 f2 he => by
     have := hd (i + 1) (j + 1) (by simp; omega) (by simp; omega) (by simp; omega) (by simp; omega) (by simpa using f1) (by simpa using f2) (by simpa using he)
     omega)
   refine ⟨x2, by simp only [instL]; rw [applyW_append]; exact hI2, by simp [instL, hl2], fun i hi hi' => ?_, fun i hi => ?_⟩
   ·rcases i with _ | i
    ·simp only [instL, List.getElem_cons_zero]
     refine hr1.reix (fun id hlead => ?_)
     have : id = nid := by
      cases r with
      | p p => cases hlead
      | fresh => cases hlead; rfl
     exact hx2 id (by omega)
    ·simp only [instL, List.getElem_cons_succ]
     exact hr2 i (by simpa [instL] using hi) (by simpa using hi')
   ·simp only [List.length_cons] at hi
    obtain ⟨a1, a2, a3⟩ := hx2 i (by omega)
    obtain ⟨b1, b2, b3⟩ := hx1 i (by omega)
    exact ⟨a1.trans b1, a2.trans b2, a3.trans b3⟩
theorem inst_ok (hI : Inv W0 w0 Wb w S x σ) {nid B : Nat} (hf : ∀ r, r < 4 -> Free σ (nid + r)) {r : RRes} {u : Value} (hu : RepR w S B r u) (hfew : r.few = true) (hB0 : W0.heap.size <= B) (hB1 : w0.heap.size <= B)
  (hne : ∀ i o, σ[i]? = some o -> o.live = true -> x.m i < B) :
  ∃ x', Inv W0 w0 Wb w S x' (applyW σ (inst nid r).2) /\ RepL w S x' (inst nid r).1 u /\ ∀ i, i < nid ∨ nid + 4 <= i -> x'.m i = x.m i /\ x'.k i = x.k i /\ x'.n i = x.n i := by
 have hblk : ∀ {r : RV} {u : Value}, RepV w S B r u -> r.isFresh = true -> B <= blkOf u := by
  intro r u hr hfr
  cases r with
  | p => cases hfr
  | fresh =>
   obtain ⟨b, cap, cur, V, rfl, hb, _⟩ := hr
   exact hb
 cases r with
 | one r =>
  obtain ⟨x', h1, h2, h3, _⟩ := instR_ok hI (by have := hf 0 (by omega); simpa using this) hu hB0 hB1 (fun hfr i o ho hl => by
   have := hblk hu hfr
   have := hne i o ho hl
   omega)
  exact ⟨x', h1, h2, fun i hi => h3 i (by omega)⟩
 | tup rs =>
  obtain ⟨us, rfl, hs, hr, hd⟩ := hu
  have hlen : rs.length <= 4 := by simpa [RRes.few] using hfew
  obtain ⟨x', h1, h2, h3, h4⟩ := instL_ok rs nid σ x us.toList B hI (by simpa using hs) hB0 hB1 (fun r hr => hf r (by omega)) (fun i hi hi' => by simpa using hr i hi) (fun i hi hi' hfr j o ho hl => by
   have := hblk (hr i hi) hfr
   have := hne j o ho hl
   simp only [Array.getElem_toList]
   omega) (fun i j hi hj hi' hj' f1 f2 he => hd i j hi hj f1 f2 (by simpa using he))
  refine ⟨x', h1, .tup _ us (by rw [h2]; exact hs) (fun i hi => ?_), fun i hi => h4 i (by omega)⟩
  have hi' : i < us.size := by rw [hs, <- h2]; exact hi
  have := h3 i hi (by simpa using hi')
  simpa using this
theorem shapeRL_eq : ∀ (ts : List Nat) (rs : List RV) (K : List RV -> Bool), shapeRL E ts rs K = true -> K rs = true
 | [], rs, K, h => by
  unfold shapeRL at h
  split at h
  ·exact h
  ·cases h
 | t :: ts, rs, K, h => by
  unfold shapeRL at h
  split at h
  ·have h1 := shape_eq _ _ _ h
   have h2 := shapeRL_eq ts _ _ h1
   exact h2
  ·cases h
theorem shapeR_eq {t : Nat} {r : RRes} {K : RRes -> Bool} (h : shapeR E t r K = true) : K r = true := by
 unfold shapeR at h
 split at h
 ·split at h
  ·exact shape_eq _ _ _ h
  ·cases h
 ·split at h
  ·exact shapeRL_eq _ _ _ h
  ·cases h
def CallOk (W0 : World) (P : Program) (σ : List LObj) (nid f : Nat) (args : List LVal) (v : LVal) (rd : List Nat) (wr : List (Nat × LObj)) : Prop :=
 Enters' P f /\ ∀ {w0 : Beg} {Wb : Nat -> Prop} (σ' : List LObj) (w : World) (S : PSet) (x : Ix), (∀ id, id ∈ rd ∨ id ∈ keys wr -> σ'[id]? = σ[id]?) -> Inv W0 w0 Wb w S x σ' -> (∀ r, r < 4 -> Free σ' (nid + r)) ->
  ∀ us : Array Value, us.size = args.length -> (∀ i (hi : i < args.length) (hi' : i < us.size), RepL w S x args[i] us[i]) ->
  Calls P f us w fun e w' => ∃ u, e = .returned u /\ After W0 w0 Wb w S x σ' nid v wr u w'
theorem plainV_ok {S' : PSet} {B : Nat} {r : RV} {u : Value} (h : RepV w S' B r u) (hp : r.plain = true) (nid : Nat) : RepL w S x (instR nid r).1 u := by
 cases r with
 | fresh => cases hp
 | p v =>
  cases v with
  | lit v =>
   have : RepP w S' (.lit v) u := h
   cases this
   exact .p (.lit _)
  | agg cs =>
   have h1 : RepP w S' (.agg cs) u := h
   cases h1 with
   | agg _ vs hs hc =>
    refine .p (.agg cs vs hs fun i hi => ?_)
    have hl := List.all_eq_true.1 hp cs[i] (List.getElem_mem hi)
    have hci := hc i hi
    cases hcs : cs[i] with
    | lit v => rw [hcs] at hci; cases hci; exact .lit _
    | _ => rw [hcs] at hl; cases hl
  | _ => cases hp
theorem instL_len : ∀ (nid : Nat) (rs : List RV), (instL nid rs).1.length = rs.length
 | _, [] => rfl
 | nid, r :: rs => by simp [instL, instL_len (nid + 1) rs]
theorem instL_get : ∀ (rs : List RV) (nid i : Nat) (hi : i < rs.length), (instL nid rs).1[i]'(by rw [instL_len]; exact hi) = (instR (nid + i) rs[i]).1
 | r :: rs, nid, 0, _ => rfl
 | r :: rs, nid, i + 1, hi => by
  have := instL_get rs (nid + 1) i (by simpa using hi)
  simp only [instL, List.getElem_cons_succ]
  rw [this, show nid + 1 + i = nid + (i + 1) by omega]
theorem plain_ok {S' : PSet} {B nid : Nat} {r : RRes} {u : Value} (h : RepR w S' B r u) (hp : r.plain = true) : RepL w S x (inst nid r).1 u := by
 cases r with
 | one r => exact plainV_ok h hp nid
 | tup rs =>
  obtain ⟨us, rfl, hs, hr, _⟩ := h
  refine .tup _ us (by rw [instL_len]; exact hs) fun i hi => ?_
  have hi' : i < rs.length := by rw [instL_len] at hi; exact hi
  rw [instL_get rs nid i hi']
  exact plainV_ok (hr i hi') (List.all_eq_true.1 hp rs[i] (List.getElem_mem hi')) _
theorem call_core {f nid : Nat} {args : List LVal} {ps : List PVal} {rd : List Nat} {wr : List (Nat × LObj)} {r : RRes} (hsn : snapL σ 16 args = some (ps, rd, wr)) (hp : Pure P W0 f ps r) (hfew : r.few = true) :
  CallOk W0 P σ nid f args (inst nid r).1 rd (bif r.plain then [] else wr ++ (inst nid r).2) := by
 obtain ⟨hen, hp⟩ := hp
 refine ⟨hen, ?_⟩
 cases hpl0 : r.plain with
 | true =>
  simp only [cond_true]
  intro w0 Wb σ' w S x hag hI hf us hus hu
  have hsub : ∀ id, id ∈ rd -> σ'[id]? = σ[id]? := fun i hi => hag i (.inl hi)
  obtain ⟨hpl, hp1, hp2, hp3⟩ := snapL_ok (R := rd) hI 16 args ps rd wr hsn hsub (fun i hi => hi) (fun i => us.getD i Go.undef) (fun i hi => by
   have hi' : i < us.size := by omega
   have := hu i hi hi'
   simpa [Array.getD, hi'] using this)
  have hI' := snap_inv hI hp2 hp3
  refine (hp w (protS S σ' x rd) us hI.below hI'.slt (by omega) (fun i hi => by
   have hi' : i < us.size := by omega
   have := hp1 i hi
   simpa [Array.getD, hi'] using this)).mono ?_
  rintro e w' ⟨u, S', rfl, hb, hS, hS', hlt, hr⟩
  refine ⟨u, rfl, ?_⟩
  obtain ⟨hIc, hk, hz⟩ := call_inv hI hb (fun _ _ h => h) (fun _ _ h => .inl h) (fun b o h => Nat.lt_of_lt_of_le (hI.slt b o h) hb.size)
  exact ⟨S, x, hIc, plain_ok hr hpl0, hk, fun _ _ h => h, hz, fun _ _ => ⟨rfl, rfl, rfl⟩⟩
 | false =>
 simp only [cond_false]
 intro w0 Wb σ' w S x hag hI hf us hus hu
 obtain ⟨hpl, hp1, hp2, hp3⟩ := snapL_ok (R := rd) hI 16 args ps rd wr hsn (fun i hi => hag i (.inl hi)) (fun i hi => hi) (fun i => us.getD i Go.undef) (fun i hi => by
  have hi' : i < us.size := by omega
  have := hu i hi hi'
  simpa [Array.getD, hi'] using this)
 have hI' := snap_inv hI hp2 hp3
 have hfree : ∀ q, q < 4 -> Free (applyW σ' wr) (nid + q) := fun q hq => free_applyW (hf q hq) (snapL_noLead _ _ _ _ _ hsn) (free_notin (hf q hq) hp2)
 refine (hp w (protS S σ' x rd) us hI.below hI'.slt (by omega) (fun i hi => by
  have hi' : i < us.size := by omega
  have := hp1 i hi
  simpa [Array.getD, hi'] using this)).mono ?_
 rintro e w' ⟨u, S', rfl, hb, hS, hS', hlt, hr⟩
 refine ⟨u, rfl, ?_⟩
 obtain ⟨hIc, hk, hz⟩ := call_inv hI' hb hS hS' hlt
 obtain ⟨x', h1, h2, h3⟩ := inst_ok hIc hfree hr hfew hI.below.size hI.size (fun i o ho hl => (hI'.objs i o ho hl).1.1)
 exact After.behind ⟨S', x', h1, h2, hk, hS, hz, h3⟩
theorem callF_ok {Γ : Oracle} (hΓ : SoundΓ P W0 Γ) {nid f : Nat} {args : List LVal} {K : KA} (h : actCallF Γ σ nid f args K = true) :
  ∃ v rd wr, K v rd wr = true /\ CallOk W0 P σ nid f args v rd wr := by
 unfold actCallF at h
 split at h
 ·next ps rd wr hsn =>
  obtain ⟨r, hr, h⟩ := hΓ _ _ _ _ h
  replace hr : Pure P W0 f ps r := hr
  by_cases hfew : r.few = true
  ·simp only [hfew, cond_true] at h
   exact ⟨_, _, _, h, call_core hsn hr hfew⟩
  ·simp [hfew] at h
 ·cases h
theorem callD_ok {Γ : Oracle} (hΓ : SoundΓ P W0 Γ) {nid t f : Nat} {args : List LVal} {K : KA} (h : actCallD E Γ σ nid t f args K = true) :
  ∃ v rd wr, K v rd wr = true /\ CallOk W0 P σ nid f args v rd wr := by
 unfold actCallD at h
 split at h
 ·next ps rd wr hsn =>
  obtain ⟨r, hr, h⟩ := hΓ _ _ _ _ h
  replace hr : Pure P W0 f ps r := hr
  have h := shapeR_eq h
  by_cases hfew : r.few = true
  ·simp only [hfew, cond_true] at h
   exact ⟨_, _, _, h, call_core hsn hr hfew⟩
  ·simp [hfew] at h
 ·cases h
def Ix.only (x : Ix) (id : Nat) : Ix := ⟨fun _ => x.m id, fun _ => x.k id, fun _ => x.n id⟩
theorem callW_core {f nid id ty k : Nat} {rest : List LVal} {es es' ps : List PVal} {rd : List Nat} {wr : List (Nat × LObj)} (ho : σ[id]? = some (.buf false ty k es)) (hsn : snapL σ 16 rest = some (ps, rd, wr)) (hni : rd.any (Nat.beq id) = false)
  (hp : PureW P W0 f es ty k ps es') : CallOk W0 P σ nid f (.own id :: rest) (.tup []) (id :: rd) (wr ++ [(id, .buf false ty k es')]) := by
 obtain ⟨hen, hp⟩ := hp
 refine ⟨hen, ?_⟩
 intro w0 Wb σ' w S x hag hI hf us hus hu
 simp only [List.length_cons] at hus
 have hnid : id ∉ rd := fun hm => by
  rw [List.any_eq_false] at hni
  exact hni id hm (Nat.beq_refl id)
 have ho' : σ'[id]? = some (.buf false ty k es) := by rw [hag id (.inl (by simp))]; exact ho
 obtain ⟨hpl, hp1, hp2, hp3⟩ := snapL_ok (R := rd) hI 16 rest ps rd wr hsn (fun i hi => hag i (.inl (by simp [hi]))) (fun i hi => hi) (fun i => us.getD (i + 1) Go.undef) (fun i hi => by
  have hi' : i + 1 < us.size := by omega
  have := hu (i + 1) (by simp; omega) hi'
  simpa [Array.getD, hi'] using this)
 have hI' := snap_inv hI hp2 hp3
 have hkeys : id ∉ keys wr := fun hm => by
  simp only [keys, List.mem_map] at hm
  obtain ⟨⟨i, o⟩, hm, rfl⟩ := hm
  exact hnid (hp2 i o hm).1
 have ho2 : (applyW σ' wr)[id]? = some (.buf false ty k es) := (applyW_out _ _ _ hkeys).trans ho'
 obtain ⟨⟨pl1, pl2, pl3⟩, hro⟩ := hI'.objs id _ ho2 rfl
 have hlt : id < (applyW σ' wr).length := by
  rcases Nat.lt_or_ge id (applyW σ' wr).length with h | h
  ·exact h
  ·rw [List.getElem?_eq_none h] at ho2; cases ho2
 have hnoS : ∀ c, ¬ protS S σ' x rd (x.m id) c := by
  obtain ⟨_, _, cur, _, V, _, _, _, h7⟩ := hro
  exact fun c => h7 c (.inl rfl)
 have hu0 := hu 0 (by simp) (by omega)
 simp only [List.getElem_cons_zero] at hu0
 have hown : RepL w (protS S σ' x rd) (x.only id) (.own 0) us[0] := by
  have h1 := hu0.mono (S' := protS S σ' x rd) (keeps_refl _ _) (fun b o h => .inl h) (keepsSz_refl _)
  generalize us[0] = u0 at h1
  cases h1 with
  | own _ cap hn hm hb => exact .own (x := x.only id) 0 cap hn hm hb
 refine (hp w (protS S σ' x rd) (x.only id) us hI.below hI'.slt pl1 pl3 hro (by omega) hown (fun i hi => by
  have hi' : i + 1 < us.size := by omega
  have := hp1 i hi
  simpa [Array.getD, hi'] using this)).mono ?_
 rintro e w' ⟨S', rfl, hb, hS, hS', hltS, hz, hro'⟩
 have hne : ∀ i o, (applyW σ' wr)[i]? = some o -> o.live = true -> i ≠ id -> x.m i ≠ x.m id := fun i o hi hl hn hm => hn (hI'.inj i id o _ hi ho2 hl rfl hm)
 have hk : Keeps (protS S σ' x rd) w w' := .of_blocks fun b c h => hb.block b (hI'.slt b c h) (fun he => hnoS c (by have he' : b = x.m id := he; rw [<- he']; exact h))
 have hbl : Below W0.heap.size W0 w' := ⟨hb.os.trans hI.below.os, hb.tape.trans hI.below.tape, hb.output.trans hI.below.output, Nat.le_trans hI.below.size hb.size, fun j hj => by
  rw [hb.block j (Nat.lt_of_lt_of_le hj hI.below.size) (by show j ≠ x.m id; omega)]; exact hI.below.block j hj⟩
 have hnew : Inv W0 w0 Wb w' S' x ((applyW σ' wr).set id (.buf false ty k es')) := by
  refine hI'.turn hbl hb.size ?_ hk hS hz hltS ?_ ?_ (fun b o h => (hS' b o h).imp_right fun h => .inl (Nat.le_trans hI.size h))
  ·intro b h1 h2
   exact hb.block b (Nat.lt_of_lt_of_le h1 hI.size) (fun he => by
    have he' : b = x.m id := he
    subst he'
    rcases pl2 with h | h
    ·omega
    ·exact h2 h)
  ·intro i o hi hl
   by_cases e : i = id
   ·subst e
    rw [List.getElem?_set_self hlt] at hi
    cases hi
    exact .inr ⟨⟨Nat.lt_of_lt_of_le pl1 hb.size, pl2, pl3⟩, hro'⟩
   ·rw [List.getElem?_set_ne (Ne.symm e)] at hi
    have hm := hne i o hi hl e
    have hlt' := (hI'.objs i o hi hl).1.1
    refine .inl ⟨hi, rfl, rfl, rfl, hb.block _ hlt' hm, fun c h => ?_, fun _ _ _ _ => ⟨rfl, rfl, rfl⟩⟩
    rcases hS' _ _ h with h | h
    ·exact h
    ·omega
  ·intro i j oi oj hi hj li lj hm
   by_cases e : i = id
   ·by_cases e' : j = id
    ·rw [e, e']
    ·rw [List.getElem?_set_ne (Ne.symm e')] at hj
     rw [e] at hm
     exact absurd hm.symm (hne j oj hj lj e')
   ·rw [List.getElem?_set_ne (Ne.symm e)] at hi
    by_cases e' : j = id
    ·rw [e'] at hm
     exact absurd hm (hne i oi hi li e)
    ·rw [List.getElem?_set_ne (Ne.symm e')] at hj
     exact hI'.inj i j oi oj hi hj li lj hm
 exact ⟨_, rfl, After.behind ⟨S', x, hnew, .tup [] #[] rfl (fun i hi => by simp at hi), hk, hS, hz, fun _ _ => ⟨rfl, rfl, rfl⟩⟩⟩
theorem callW_ok {Γ : Oracle} (hΓ : SoundΓ P W0 Γ) {nid f : Nat} {args : List LVal} {K : KA} (h : actCallW Γ σ f args K = true) :
  ∃ v rd wr, K v rd wr = true /\ CallOk W0 P σ nid f args v rd wr := by
 unfold actCallW at h
 split at h
 ·next id rest =>
  split at h
  ·next ty k es ho =>
   split at h
   ·next ps rd wr hsn =>
    cases hni : rd.any (Nat.beq id) with
    | true => rw [hni] at h; cases h
    | false =>
     rw [hni] at h
     simp only [cond_false] at h
     obtain ⟨r, hr, h⟩ := hΓ _ _ _ _ h
     obtain ⟨es1, ty1, k1, ps1, es', he, rfl, hp⟩ := hr
     simp only [List.cons.injEq, PVal.adr.injEq] at he
     obtain ⟨⟨rfl, rfl, rfl⟩, rfl⟩ := he
     exact ⟨_, _, _, h, callW_core ho hsn hni hp⟩
   ·cases h
  ·cases h
 ·cases h
end Go.Ev
