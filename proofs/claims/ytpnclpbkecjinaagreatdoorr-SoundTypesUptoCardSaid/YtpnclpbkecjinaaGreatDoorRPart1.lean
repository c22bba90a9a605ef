/-
  What the proofs of the claims need: AlGlob, AlCall. Part 1 of 7.
-/
import GoSem.Core.World
import Derived.Calls
import Derived.Laws.AppendOwn
import Derived.Below
import Derived.Laws.Cells
import Derived.Laws.Entries
import Derived.Laws.StructEq
import Derived.ChangeKeysEq
import Derived.WideLaws
import Derived.Tactics
import Derived.IntWalk
import Derived.WideShapes
import Derived.Lib.Strings
import Derived.MapKept
import Derived.Maps.RangeRun
import Derived.Still
import Derived.Scope
import Derived.Laws.CopyRow
namespace Go.Al
def pow10L : List Int := [1, 10, 100, 1000, 10000, 100000, 1000000, 10000000, 100000000, 1000000000, 10000000000, 100000000000, 1000000000000, 10000000000000, 100000000000000, 1000000000000000, 10000000000000000, 100000000000000000, 1000000000000000000, 10000000000000000000]
def gtab : Nat → Option (Array Value)
 | 0 => some (pow10L.map fun z => Value.int .u64 z).toArray
 | _ => none
end Go.Al
namespace Go.Al
inductive KC where
 | str
 | int (k : IntKind)
 | si (k : IntKind)
 deriving DecidableEq
@[reducible] def KC.K : KC → Type
 | .str => ByteArray
 | .int _ => Int
 | .si _ => ByteArray × Int
instance KC.deq : (c : KC) → DecidableEq c.K
 | .str => inferInstanceAs (DecidableEq ByteArray)
 | .int _ => inferInstanceAs (DecidableEq Int)
 | .si _ => inferInstanceAs (DecidableEq (ByteArray × Int))
def KC.ek : (c : KC) → c.K → Value
 | .str, s => .string s
 | .int k, n => .int k n
 | .si k, x => .agg #[.string x.1, .int k x.2]
inductive IV : Type 1 where
 | v (x : Value)
 | imm (sz n : Nat) (el : Nat → List IV)
 | iptr (cs : List IV)
 | agg (cs : List IV)
 | imap {V : Type} (kc : KC) (ev : V → IV) (z : V) (zv : Value) (m : List (kc.K × V))
inductive PV : Type 1 where
 | iv (x : IV)
 | agg (cs : List PV)
 | tup (cs : List PV)
 | ptr (i off : Nat)
 | eptr (i sz k off : Nat)
 | optr (z : Bool) (i : Nat)
 | sl (i off len sz : Nat)
 | mp (i : Nat)
 | clo (fn : Fn) (first caps : List PV)
 | kb (b : Bool)
 | any
inductive AO : Type 1 where
 | cells (cs : List PV) (T : Option TypeId := none)
 | row (sz : Nat) (es : List (List PV))
 | brow (l : List UInt8) (T : TypeId)
 | map0
 | map {V : Type} (kc : KC) (ev : V → IV) (z : V) (zv : Value) (dv : PV → V) (m : List (kc.K × V))
 | miter {V : Type} (kc : KC) (ev : V → IV) (m : List (kc.K × V)) (vs : List Nat) (cur : Option (kc.K × V))
 | siter (s : ByteArray) (pos : Nat)
inductive MB where
 | cells (c : Array Value)
 | map (ents : Array MapEntry) (clock : Nat)
structure Mem where
 fn : Nat → Option MB
 glob : ∀ b c, gtab b = some c → fn b = some (.cells c)
instance : CoeFun Mem (fun _ => Nat → Option MB) := ⟨Mem.fn⟩
def Mem.base : Mem := ⟨fun b => (gtab b).map .cells, fun b c h => by rw [h]; rfl⟩
def tagOK (a : Option TypeId) (T : TypeId) : Prop := ∀ t, a = some t → T = t
theorem tagOK.none (T : TypeId) : tagOK none T := fun _ h => nomatch h
def Mem.cell (M : Mem) (b o : Nat) : Option Value := match M b with | some (.cells c) => c[o]? | _ => none
def Mem.set (M : Mem) (b : Nat) (c : MB) (h : M b = none) : Mem :=
 ⟨fun x => if x = b then some c else M x, fun x d hx => by
  rw [if_neg fun e => by have := M.glob x d hx; rw [e] at this; exact absurd (this.symm.trans h) (by simp)]
  exact M.glob x d hx⟩
def MB.lies (w : World) (b : Nat) : MB → Prop
 | .cells c => ∃ T fr, w.heap[b]? = some (.cells c T fr)
 | .map es cl => w.heap[b]? = some (.map es cl)
theorem MB.lies.lt {w : World} {b : Nat} {m : MB} (h : m.lies w b) : b < w.heap.size := by
 cases m with
 | cells c => obtain ⟨T, fr, h1⟩ := h; exact (Array.getElem?_eq_some_iff.1 h1).1
 | map es cl => exact (Array.getElem?_eq_some_iff.1 h).1
theorem MB.lies.mono {w w' : World} {b : Nat} {m : MB} (h : m.lies w b) (e : w'.heap[b]? = w.heap[b]?) : m.lies w' b := by
 cases m with
 | cells c => obtain ⟨T, fr, h1⟩ := h; exact ⟨T, fr, e.trans h1⟩
 | map es cl => exact e.trans h
structure Nm where
 blk : Nat → Nat
 ext : Nat → Nat
inductive IR (M : Mem) : IV → Value → Prop
 | v (x : Value) : IR M (.v x) x
 | imm0 (sz : Nat) (el : Nat → List IV) (a : Option Addr) (cap : Nat) : IR M (.imm sz 0 el) (.slice a 0 cap)
 | imm (sz n : Nat) (el : Nat → List IV) (b off cap : Nat) (hn : n ≤ cap) (hc : cap ≤ maxLen) (hl : ∀ k, k < n → (el k).length = sz)
   (hm : ∀ k j, k < n → j < sz → (M.cell b (off + k * sz + j)).isSome = true)
   (hr : ∀ k j p, k < n → (el k)[j]? = some p → IR M p ((M.cell b (off + k * sz + j)).getD undef)) :
   IR M (.imm sz n el) (.slice (some ⟨b, off, none⟩) n cap)
 | iptr (cs : List IV) (b off : Nat) (hm : ∀ j, j < cs.length → (M.cell b (off + j)).isSome = true)
   (hr : ∀ j p, cs[j]? = some p → IR M p ((M.cell b (off + j)).getD undef)) : IR M (.iptr cs) (.pointer (some ⟨b, off, none⟩))
 | agg (cs : List IV) (ys : Array Value) (hl : cs.length = ys.size) (hr : ∀ j p, cs[j]? = some p → IR M p (ys.getD j undef)) : IR M (.agg cs) (.agg ys)
 | imap {V : Type} (kc : KC) (ev : V → IV) (z : V) (zv : Value) (m : List (kc.K × V)) (b : Nat) (ents : Array MapEntry) (clock : Nat) (hb : M b = some (.map ents clock)) (hs : ents.size = m.length)
   (hk : ∀ (j : Nat) (x : kc.K × V), m[j]? = some x → (ents.getD j default).key = kc.ek x.1) (hv : ∀ (j : Nat) (x : kc.K × V), m[j]? = some x → IR M (ev x.2) (ents.getD j default).val) (hz : IR M (ev z) zv)
   (hi : ∀ (j k : Nat) (e f : MapEntry), ents[j]? = some e → ents[k]? = some f → e.born = f.born → j = k) (hc : ∀ (j : Nat) (e : MapEntry), ents[j]? = some e → e.born < clock) : IR M (.imap kc ev z zv m) (.map (some b))
inductive VR (M : Mem) (N : Nm) (U : Nat → Prop) : PV → Value → Prop
 | iv (x : IV) (y : Value) (h : IR M x y) : VR M N U (.iv x) y
 | agg (cs : List PV) (ys : Array Value) (hl : cs.length = ys.size) (hr : ∀ j p, cs[j]? = some p → VR M N U p (ys.getD j undef)) : VR M N U (.agg cs) (.agg ys)
 | tup (cs : List PV) (ys : Array Value) (hl : cs.length = ys.size) (hr : ∀ j p, cs[j]? = some p → VR M N U p (ys.getD j undef)) : VR M N U (.tup cs) (.tuple ys)
 | ptr (i off : Nat) (h : U i) : VR M N U (.ptr i off) (.pointer (some ⟨N.blk i, off, none⟩))
 | eptr (i sz k off : Nat) (h : U i) : VR M N U (.eptr i sz k off) (.pointer (some ⟨N.blk i, k * sz + off, none⟩))
 | optr (z : Bool) (i : Nat) (h : U i) : VR M N U (.optr z i) (.pointer (bif z then none else some ⟨N.blk i, 0, none⟩))
 | sl (i off len sz cap : Nat) (h : U i) (h0 : 0 < len) (hl : len ≤ cap) (hc : cap ≤ maxLen) (he : (off + cap) * sz = N.ext i) : VR M N U (.sl i off len sz) (.slice (some ⟨N.blk i, off * sz, none⟩) len cap)
 | sl0 (i sz : Nat) (h : U i) : VR M N U (.sl i 0 0 sz) (.slice none 0 0)
 | mp (i : Nat) (h : U i) : VR M N U (.mp i) (.map (some (N.blk i)))
 | clo (fn : Fn) (first caps : List PV) (f' c' : Array Value) (h1 : first.length = f'.size) (h2 : caps.length = c'.size)
   (hr1 : ∀ j p, first[j]? = some p → VR M N U p (f'.getD j undef)) (hr2 : ∀ j p, caps[j]? = some p → VR M N U p (c'.getD j undef)) : VR M N U (.clo fn first caps) (.func fn f' c')
 | kb (b : Bool) : VR M N U (.kb b) (.bool b)
 | any (x : Value) : VR M N U .any x
def Mem.le (M M' : Mem) : Prop := ∀ b c, M b = some c → M' b = some c
theorem Mem.le.refl (M : Mem) : M.le M := fun _ _ h => h
theorem Mem.le.trans {A B C : Mem} (h : A.le B) (k : B.le C) : A.le C := fun b c e => k b c (h b c e)
theorem Mem.le.cell {M M' : Mem} (h : M.le M') {b o : Nat} {v : Value} (hc : M.cell b o = some v) : M'.cell b o = some v := by
 unfold Mem.cell at *
 cases hb : M b with
 | none => simp [hb] at hc
 | some c => rw [hb] at hc; rw [h b c hb]; exact hc
theorem Mem.le.isSome {M M' : Mem} (h : M.le M') {b o : Nat} (hc : (M.cell b o).isSome = true) : (M'.cell b o).isSome = true ∧ (M'.cell b o).getD undef = (M.cell b o).getD undef := by
 cases hv : M.cell b o with
 | none => simp [hv] at hc
 | some v => rw [h.cell hv]; simp
theorem IR.mono {M M' : Mem} (hM : M.le M') {p : IV} {x : Value} (h : IR M p x) : IR M' p x := by
 induction h with
 | v x => exact .v x
 | imm0 sz el a cap => exact .imm0 sz el a cap
 | imm sz n el b off cap hn hc hl hm hr ih =>
  refine .imm sz n el b off cap hn hc hl (fun k j hk hj => (hM.isSome (hm k j hk hj)).1) (fun k j p hk hp => ?_)
  have hj : j < sz := by rw [← hl k hk]; exact (List.getElem?_eq_some_iff.1 hp).1
  rw [(hM.isSome (hm k j hk hj)).2]
  exact ih k j p hk hp
 | iptr cs b off hm hr ih =>
  refine .iptr cs b off (fun j hj => (hM.isSome (hm j hj)).1) (fun j p hp => ?_)
  have hj : j < cs.length := (List.getElem?_eq_some_iff.1 hp).1
  rw [(hM.isSome (hm j hj)).2]
  exact ih j p hp
 | agg cs ys hl hr ih => exact .agg cs ys hl ih
 | imap kc ev z zv m b ents clock hb hs hk hv hz hi hc ihv ihz => exact .imap kc ev z zv m b ents clock (hM _ _ hb) hs hk ihv ihz hi hc
structure MapR {V : Type} (M : Mem) (kc : KC) (ev : V → IV) (m : List (kc.K × V)) (ents : Array MapEntry) (clock : Nat) : Prop where
 size : ents.size = m.length
 key : ∀ (j : Nat) (x : kc.K × V), m[j]? = some x → (ents.getD j default).key = kc.ek x.1
 val : ∀ (j : Nat) (x : kc.K × V), m[j]? = some x → IR M (ev x.2) (ents.getD j default).val
 inj : ∀ (j k : Nat) (e f : MapEntry), ents[j]? = some e → ents[k]? = some f → e.born = f.born → j = k
 lt : ∀ (j : Nat) (e : MapEntry), ents[j]? = some e → e.born < clock
theorem MapR.mono {V : Type} {M M' : Mem} (hM : M.le M') {kc : KC} {ev : V → IV} {m : List (kc.K × V)} {ents : Array MapEntry} {clock : Nat} (h : MapR M kc ev m ents clock) : MapR M' kc ev m ents clock :=
 ⟨h.size, h.key, fun j x hx => (h.val j x hx).mono hM, h.inj, h.lt⟩
structure Nm.agree (N N' : Nm) (U : Nat → Prop) : Prop where
 blk : ∀ i, U i → N'.blk i = N.blk i
 ext : ∀ i, U i → N'.ext i = N.ext i
theorem Nm.agree.refl (N : Nm) (U : Nat → Prop) : N.agree N U := ⟨fun _ _ => rfl, fun _ _ => rfl⟩
theorem VR.mono {M M' : Mem} {N N' : Nm} {U U' : Nat → Prop} (hM : M.le M') (hN : N.agree N' U) (hU : ∀ i, U i → U' i) {p : PV} {x : Value} (h : VR M N U p x) : VR M' N' U' p x := by
 induction h with
 | iv x y h => exact .iv x y (h.mono hM)
 | agg cs ys hl hr ih => exact .agg cs ys hl ih
 | tup cs ys hl hr ih => exact .tup cs ys hl ih
 | ptr i off h => rw [← hN.blk i h]; exact .ptr i off (hU i h)
 | eptr i sz k off h => rw [← hN.blk i h]; exact .eptr i sz k off (hU i h)
 | optr z i h => rw [← hN.blk i h]; exact .optr z i (hU i h)
 | sl i off len sz cap h h0 hl hc he => rw [← hN.blk i h]; exact .sl i off len sz cap (hU i h) h0 hl hc (by rw [hN.ext i h]; exact he)
 | sl0 i sz h => exact .sl0 i sz (hU i h)
 | mp i h => rw [← hN.blk i h]; exact .mp i (hU i h)
 | clo fn first caps f' c' h1 h2 hr1 hr2 ih1 ih2 => exact .clo fn first caps f' c' h1 h2 ih1 ih2
 | kb b => exact .kb b
 | any x => exact .any x
abbrev AH := List (Nat × Option AO)
def AH.get : AH → Nat → Option AO
 | [], _ => none
 | (i, o) :: r, k => bif Nat.beq k i then o else AH.get r k
abbrev AF := List (Nat × PV)
def AF.get : AF → Nat → PV
 | [], _ => .any
 | (i, p) :: r, k => bif Nat.beq k i then p else AF.get r k
theorem AF.get_cons (i : Nat) (p : PV) (r : AF) (k : Nat) : AF.get ((i, p) :: r) k = if k = i then p else AF.get r k := by
 by_cases h : k = i
 ·subst h; simp [AF.get]
 ·have : Nat.beq k i = false := Bool.eq_false_iff.2 (fun e => h (Nat.eq_of_beq_eq_true e))
  simp [AF.get, this, h]
theorem AH.get_cons (i : Nat) (o : Option AO) (r : AH) (k : Nat) : AH.get ((i, o) :: r) k = if k = i then o else AH.get r k := by
 by_cases h : k = i
 ·subst h; simp [AH.get]
 ·have : Nat.beq k i = false := Bool.eq_false_iff.2 (fun e => h (Nat.eq_of_beq_eq_true e))
  simp [AH.get, this, h]
def OR (M : Mem) (N : Nm) (U : Nat → Prop) (w : World) (i : Nat) : AO → Prop
 | .cells cs T0 => ∃ c T, w.heap[N.blk i]? = some (.cells c T (0, 0)) ∧ c.size = N.ext i ∧ cs.length = c.size ∧ (∀ j p, cs[j]? = some p → VR M N U p (c.getD j undef)) ∧ tagOK T0 T
 | .row sz es => es = [] ∨ 0 < sz ∧ ∃ c T, w.heap[N.blk i]? = some (.cells c T (0, 0)) ∧ c.size = N.ext i ∧ es.length * sz ≤ c.size ∧ (∀ (k : Nat) (e : List PV), es[k]? = some e → e.length = sz) ∧
   ∀ (k : Nat) (e : List PV) (j : Nat) (p : PV), es[k]? = some e → e[j]? = some p → VR M N U p (c.getD (k * sz + j) undef)
 | .brow l T => l = [] ∨ ∃ c, w.heap[N.blk i]? = some (.cells c T (0, 0)) ∧ c.size = N.ext i ∧ l.length ≤ c.size ∧ ∀ (j : Nat) (x : UInt8), l[j]? = some x → c.getD j undef = .int .u8 (x.toNat : Int)
 | .map0 => w.heap[N.blk i]? = some (.map #[] 0)
 | .map kc ev z zv _ m => ∃ (ents : Array MapEntry) (clock : Nat), w.heap[N.blk i]? = some (.map ents clock) ∧ MapR M kc ev m ents clock ∧ IR M (ev z) zv
 | .miter kc ev m vs cur => ∃ (b : Nat) (ents : Array MapEntry) (clock : Nat) (seen : Array Nat), w.heap[N.blk i]? = some (.mapIter (some b) clock seen clock) ∧ M b = some (.map ents clock) ∧ MapR M kc ev m ents clock ∧
   seen.toList = vs.reverse.map (fun j => (ents.getD j default).born) ∧ (∀ j ∈ vs, j < m.length) ∧ vs.Nodup ∧ ∀ x, cur = some x → ∃ j r, vs = j :: r ∧ m[j]? = some x
 | .siter s pos => w.heap[N.blk i]? = some (.stringIter s pos)
def AO.real : AO → Bool
 | .row _ [] => false
 | .brow [] _ => false
 | _ => true
structure Rel (M : Mem) (N : Nm) (U : Nat → Prop) (h : AH) (w : World) : Prop where
 frz : ∀ b c, M b = some c → c.lies w b
 used : ∀ i o, h.get i = some o → U i
 nfrz : ∀ i o, h.get i = some o → o.real = true → M (N.blk i) = none
 obj : ∀ i o, h.get i = some o → OR M N U w i o
 inj : ∀ i j o p, h.get i = some o → h.get j = some p → o.real = true → p.real = true → N.blk i = N.blk j → i = j
theorem OR.lt {M : Mem} {N : Nm} {U : Nat → Prop} {w : World} {i : Nat} {o : AO} (h : OR M N U w i o) (hre : o.real = true) : N.blk i < w.heap.size := by
 have key : ∀ x, w.heap[N.blk i]? = some x → N.blk i < w.heap.size := fun x hx => (Array.getElem?_eq_some_iff.1 hx).1
 cases o with
 | cells cs T0 => obtain ⟨c, T, h1, _⟩ := h; exact key _ h1
 | row sz es =>
  rcases h with rfl | ⟨_, c, T, h1, _⟩
  ·cases hre
  ·exact key _ h1
 | brow l T =>
  rcases h with rfl | ⟨c, h1, _⟩
  ·cases hre
  ·exact key _ h1
 | map0 => exact key _ h
 | map kc ev z zv dv m => obtain ⟨e, cl, h1, _⟩ := h; exact key _ h1
 | miter kc ev m l cu => obtain ⟨b, e, cl, se, h1, _⟩ := h; exact key _ h1
 | siter s p => exact key _ h
theorem OR.mono {M M' : Mem} {N N' : Nm} {U U' : Nat → Prop} {w w' : World} {i : Nat} {o : AO} (hM : M.le M') (hN : N.agree N' U) (hU : ∀ i, U i → U' i) (hi : U i) (hb : w'.heap[N.blk i]? = w.heap[N.blk i]?)
  (h : OR M N U w i o) : OR M' N' U' w' i o := by
 cases o with
 | cells cs T0 =>
  obtain ⟨c, T, h1, h2, h3, h4, h5⟩ := h
  exact ⟨c, T, by rw [hN.blk i hi, hb, h1], by rw [hN.ext i hi, h2], h3, fun j p hp => (h4 j p hp).mono hM hN hU, h5⟩
 | row sz es =>
  rcases h with h | ⟨h0, c, T, h1, h2, h3, h4, h5⟩
  ·exact .inl h
  exact .inr ⟨h0, c, T, by rw [hN.blk i hi, hb, h1], by rw [hN.ext i hi, h2], h3, h4, fun k e j p he hp => (h5 k e j p he hp).mono hM hN hU⟩
 | brow l T =>
  rcases h with h | ⟨c, h1, h2, h3, h4⟩
  ·exact .inl h
  exact .inr ⟨c, by rw [hN.blk i hi, hb, h1], by rw [hN.ext i hi, h2], h3, h4⟩
 | map0 => show w'.heap[N'.blk i]? = _; rw [hN.blk i hi, hb]; exact h
 | map kc ev z zv dv m =>
  obtain ⟨e, cl, h1, h2, h3⟩ := h
  exact ⟨e, cl, by rw [hN.blk i hi, hb, h1], h2.mono hM, h3.mono hM⟩
 | miter kc ev m l cu =>
  obtain ⟨b, e, cl, se, h1, h2, h3, h4⟩ := h
  exact ⟨b, e, cl, se, by rw [hN.blk i hi, hb, h1], hM _ _ h2, h3.mono hM, h4⟩
 | siter s p => show w'.heap[N'.blk i]? = _; rw [hN.blk i hi, hb]; exact h
structure Ext (M : Mem) (N : Nm) (U : Nat → Prop) (h : AH) (w : World) (M' : Mem) (N' : Nm) (U' : Nat → Prop) (h' : AH) (w' : World) : Prop where
 os : w'.os = w.os
 tape : w'.tape = w.tape
 output : w'.output = w.output
 size : w.heap.size ≤ w'.heap.size
 keep : ∀ b, b < w.heap.size → (∀ i o, h.get i = some o → o.real = true → N.blk i ≠ b) → w'.heap[b]? = w.heap[b]?
 mle : M.le M'
 mnew : ∀ b c, M b = none → M' b = some c → w.heap.size ≤ b ∨ ∃ i o, h.get i = some o ∧ o.real = true ∧ N.blk i = b
 nm : N.agree N' U
 ule : ∀ i, U i → U' i
 pnew : ∀ i o, h'.get i = some o → o.real = true → w.heap.size ≤ N'.blk i ∨ ∃ j p, h.get j = some p ∧ p.real = true ∧ N.blk j = N'.blk i
theorem Ext.refl (M : Mem) (N : Nm) (U : Nat → Prop) (h : AH) (w : World) : Ext M N U h w M N U h w :=
 ⟨rfl, rfl, rfl, Nat.le_refl _, fun _ _ _ => rfl, .refl _, fun b c h1 h2 => by simp [h1] at h2, .refl _ _, fun _ h => h, fun i o hi hr => .inr ⟨i, o, hi, hr, rfl⟩⟩
theorem Ext.trans {M M1 M2 : Mem} {N N1 N2 : Nm} {U U1 U2 : Nat → Prop} {h h1 h2 : AH} {w w1 w2 : World}
  (a : Ext M N U h w M1 N1 U1 h1 w1) (b : Ext M1 N1 U1 h1 w1 M2 N2 U2 h2 w2) : Ext M N U h w M2 N2 U2 h2 w2 where
 os := b.os.trans a.os
 tape := b.tape.trans a.tape
 output := b.output.trans a.output
 size := Nat.le_trans a.size b.size
 keep := fun k hk hn => by
  rw [b.keep k (Nat.lt_of_lt_of_le hk a.size) (fun i o hi hre he => ?_), a.keep k hk hn]
  rcases a.pnew i o hi hre with h3 | ⟨j, p, h3, hp, h4⟩
  ·omega
  ·exact hn j p h3 hp (h4.trans he)
 mle := a.mle.trans b.mle
 mnew := fun k c h3 h4 => by
  cases h5 : M1 k with
  | some c' => exact a.mnew k c' h3 h5
  | none =>
   rcases b.mnew k c h5 h4 with h6 | ⟨i, o, h6, hre, h7⟩
   ·exact .inl (Nat.le_trans a.size h6)
   ·rcases a.pnew i o h6 hre with h8 | ⟨j, p, h8, hp, h9⟩
    ·exact .inl (by omega)
    ·exact .inr ⟨j, p, h8, hp, h9.trans h7⟩
 nm := ⟨fun i hi => (b.nm.blk i (a.ule i hi)).trans (a.nm.blk i hi), fun i hi => (b.nm.ext i (a.ule i hi)).trans (a.nm.ext i hi)⟩
 ule := fun i hi => b.ule i (a.ule i hi)
 pnew := fun i o hi hre => by
  rcases b.pnew i o hi hre with h3 | ⟨j, p, h3, hp, h4⟩
  ·exact .inl (Nat.le_trans a.size h3)
  ·rcases a.pnew j p h3 hp with h5 | ⟨k, q, h5, hq, h6⟩
   ·exact .inl (by omega)
   ·exact .inr ⟨k, q, h5, hq, h6.trans h4⟩
def PVle (p q : PV) : Prop := ∀ (M : Mem) (N : Nm) (U : Nat → Prop) (x : Value), VR M N U p x → VR M N U q x
def IVle (p q : IV) : Prop := ∀ (M : Mem) (x : Value), IR M p x → IR M q x
theorem PVle.refl (p : PV) : PVle p p := fun _ _ _ _ h => h
theorem al_old (w : World) (o : Obj) (i : Nat) (h : i < w.heap.size) : (w.alloc o).heap[i]? = w.heap[i]? := by
 show (w.heap.push o)[i]? = _
 rw [Array.getElem?_push, if_neg (by omega)]
def FR (M : Mem) (N : Nm) (U : Nat → Prop) (f : AF) (t : Array Value) : Prop := ∀ k, VR M N U (f.get k) (t.getD k undef)
theorem FR.mono {M M' : Mem} {N N' : Nm} {U U' : Nat → Prop} {f : AF} {t : Array Value} (hM : M.le M') (hN : N.agree N' U) (hU : ∀ i, U i → U' i) (h : FR M N U f t) : FR M' N' U' f t := fun k => (h k).mono hM hN hU
theorem FR.ext {M M' : Mem} {N N' : Nm} {U U' : Nat → Prop} {h h' : AH} {w w' : World} {f : AF} {t : Array Value} (e : Ext M N U h w M' N' U' h' w') (hf : FR M N U f t) : FR M' N' U' f t := hf.mono e.mle e.nm e.ule
theorem FR.put {M : Mem} {N : Nm} {U : Nat → Prop} {f : AF} {t : Array Value} (h : FR M N U f t) (d : Nat) (p : PV) (x : Value) (hd : d < t.size) (hp : VR M N U p x) : FR M N U ((d, p) :: f) (t.setIfInBounds d x) := by
 intro k
 rw [AF.get_cons]
 by_cases hk : k = d
 ·subst hk; simp [Array.getD_eq_getD_getElem?, hd, hp]
 ·rw [if_neg hk]
  have := h k
  simp only [Array.getD_eq_getD_getElem?, Array.getElem?_setIfInBounds] at this ⊢
  rw [if_neg (fun e => hk e.symm)]
  exact this
end Go.Al
namespace Go.Al
inductive TK where
  | prim (d : TypeDesc)
  | strct (fs : List (Nat × TypeId))
  | arr (n : Nat) (e : TypeId)
structure TyE where
  k : TK
  size : Nat
  bytes : Nat
  zero : Value
  eq : Bool
abbrev Ty := Nat → Option TyE
def plainDesc : TypeDesc → Bool
  | .struct _ => false
  | .array _ _ => false
  | _ => true
def KindOK (P : Program) (t : TypeId) : TK → Prop
  | .prim d => P.underlying t = some d ∧ plainDesc d = true
  | .strct fs => ∃ F, P.underlying t = some (.struct F) ∧ F.toList.map (fun f => (f.offset, f.type)) = fs
  | .arr n e => P.underlying t = some (.array n e)
def EqOK (P : Program) (t : TypeId) : Prop := P.stoodInHeld t = false ∧ P.eqGuardType P.depth t = false ∧ ∀ f ∈ (P.fieldsOf t).toList, f.name ≠ "_"
def EntryOK (P : Program) (t : TypeId) (e : TyE) : Prop :=
  (∃ i, P.info? t = some i ∧ i.size = e.size ∧ i.bytes = e.bytes ∧ i.zero = some e.zero) ∧ KindOK P t e.k ∧ (e.eq = true → EqOK P t)
def TyOK (P : Program) (ty : Ty) : Prop := ∀ t e, ty t = some e → EntryOK P t e
section
variable {P : Program} {w : World}
theorem run_sizeOf' {t : TypeId} {e : TyE} (h : EntryOK P t e) : (sizeOf t).run P w = .ok e.size w := by
  obtain ⟨⟨i, hi, hs, _⟩, _⟩ := h
  simp [sizeOf, run_typeInfo w hi, hs]
theorem run_zeroValue' {t : TypeId} {e : TyE} (h : EntryOK P t e) : (zeroValue t).run P w = .ok e.zero w := by
  obtain ⟨⟨i, hi, hs, hb, hz⟩, _⟩ := h
  simp [zeroValue, run_typeInfo w hi, hz]
def TK.agg : TK → Bool
  | .prim _ => false
  | _ => true
theorem run_isAgg' {t : TypeId} {e : TyE} (h : EntryOK P t e) : (isAgg t).run P w = .ok e.k.agg w := by
  obtain ⟨_, hk, _⟩ := h
  cases hek : e.k with
  | prim d =>
    rw [hek] at hk
    obtain ⟨h1, h2⟩ := hk
    simp only [isAgg, Sem.run_bind, run_underlying h1, Result.andThen_ok]
    cases d <;> simp_all [plainDesc, TK.agg]
  | strct fs =>
    rw [hek] at hk
    obtain ⟨F, h1, _⟩ := hk
    simp [isAgg, run_underlying h1, TK.agg]
  | arr n el =>
    rw [hek] at hk
    simp only [KindOK] at hk
    simp [isAgg, run_underlying hk, TK.agg]
end
structure AS where
  f : AF
  h : AH
  nx : Nat
def Fits (M : Mem) (N : Nm) (s : AS) (nt : Nat) (a : Act) (w : World) : Prop :=
  Rel M N (· < s.nx) s.h w ∧ FR M N (· < s.nx) s.f a.tmps ∧ a.defers = [] ∧ a.tmps.size = nt
def ofV : Value → PV
  | .agg cs => .agg (cs.toList.map fun v => .iv (.v v))
  | .bool b => .kb b
  | v => .iv (.v v)
def ev (f : AF) : Operand → PV
  | .tmp t => f.get t
  | .const v => ofV v
  | .global _ => .any
  | .func g => .clo (.func g) [] []
theorem ofV_ok {M : Mem} {N : Nm} {U : Nat → Prop} (v : Value) : VR M N U (ofV v) v := by
  cases v <;> first
    | exact .iv _ _ (.v _)
    | exact .kb _
    | (refine .agg _ _ (by simp) (fun j p hp => ?_)
       rw [List.getElem?_map, Option.map_eq_some_iff] at hp
       obtain ⟨x, hx, rfl⟩ := hp
       rename_i cs
       have hx' : cs[j]? = some x := by simpa using hx
       rw [Array.getD_eq_getD_getElem?, hx']
       exact .iv _ _ (.v _))
theorem ev_ok {M : Mem} {N : Nm} {U : Nat → Prop} {f : AF} {a : Act} (h : FR M N U f a.tmps) (x : Operand) : VR M N U (ev f x) (a.eval x) := by
  cases x with
  | tmp t => exact h t
  | const v => exact ofV_ok v
  | global g => exact .any _
  | func g => exact .clo _ _ _ _ _ rfl rfl (by simp) (by simp)
def takeCells (cs : List PV) (off n : Nat) : Option (List PV) := let l := (cs.drop off).take n; bif Nat.beq l.length n then some l else none
def forceP {α : Type _} (p : PV) (k : PV → α) : α :=
  match p with
  | .iv x => k (.iv x)
  | .agg cs => k (.agg cs)
  | .tup cs => k (.tup cs)
  | .ptr i o => k (.ptr i o)
  | .eptr i sz a o => k (.eptr i sz a o)
  | .optr z i => k (.optr z i)
  | .sl i o n sz => k (.sl i o n sz)
  | .mp i => k (.mp i)
  | .clo fn a b => k (.clo fn a b)
  | .kb b => k (.kb b)
  | .any => k .any
theorem forceP_eq {α : Type _} (p : PV) (k : PV → α) : forceP p k = k p := by cases p <;> rfl
def force {α : Type _} : List PV → (List PV → α) → α
  | [], k => k []
  | x :: r, k => forceP x fun x' => force r fun r' => k (x' :: r')
theorem force_eq {α : Type _} : ∀ (l : List PV) (k : List PV → α), force l k = k l
  | [], _ => rfl
  | x :: r, k => by simp only [force, forceP_eq]; rw [force_eq r]
def PV.one : PV → Bool
  | .iv (.v (.agg _)) => false
  | .iv (.v (.tuple _)) => false
  | .iv (.agg _) => false
  | .iv _ => true
  | .agg _ => false
  | .tup _ => false
  | .any => false
  | _ => true
def PV.cells : PV → Option (List PV)
  | .agg cs => some cs
  | p => match p.one with
    | true => some [p]
    | false => none
def allOne : List PV → Bool
  | [] => true
  | p :: r => match p.one with
    | true => allOne r
    | false => false
def setCells : List PV → Nat → List PV → List PV
  | [], _, _ => []
  | c :: cs, 0, [] => c :: cs
  | _ :: cs, 0, x :: xs => x :: setCells cs 0 xs
  | c :: cs, n + 1, xs => c :: setCells cs n xs
theorem setCells_length : ∀ (cs : List PV) (n : Nat) (xs : List PV), (setCells cs n xs).length = cs.length
  | [], _, _ => rfl
  | c :: cs, 0, [] => rfl
  | _ :: cs, 0, x :: xs => by simp [setCells, setCells_length cs 0 xs]
  | c :: cs, n + 1, xs => by simp [setCells, setCells_length cs n xs]
theorem setCells_get : ∀ (cs : List PV) (n : Nat) (xs : List PV) (j : Nat) (p : PV), (setCells cs n xs)[j]? = some p → (n ≤ j ∧ xs[j - n]? = some p) ∨ ((j < n ∨ n + xs.length ≤ j) ∧ cs[j]? = some p)
  | [], _, _, j, p, h => by simp [setCells] at h
  | c :: cs, 0, [], j, p, h => .inr ⟨.inr (by simp), h⟩
  | c :: cs, 0, x :: xs, j, p, h => by
    simp only [setCells] at h
    cases j with
    | zero => exact .inl ⟨Nat.le_refl _, by simpa using h⟩
    | succ j =>
      rcases setCells_get cs 0 xs j p (by simpa using h) with ⟨_, h1⟩ | ⟨h1, h2⟩
      · exact .inl ⟨Nat.zero_le _, by simpa using h1⟩
      · exact .inr ⟨by simp at h1 ⊢; omega, by simpa using h2⟩
  | c :: cs, n + 1, xs, j, p, h => by
    simp only [setCells] at h
    cases j with
    | zero => exact .inr ⟨.inl (by omega), by simpa using h⟩
    | succ j =>
      rcases setCells_get cs n xs j p (by simpa using h) with ⟨h1, h2⟩ | ⟨h1, h2⟩
      · exact .inl ⟨by omega, by rw [show j + 1 - (n + 1) = j - n by omega]; exact h2⟩
      · exact .inr ⟨by omega, by simpa using h2⟩
def zcells (v : Value) : List PV := v.cells.toList.map fun x => .iv (.v x)
def fillA (place : Nat → Option (Nat × Nat)) : List PV → List (Nat × PV) → Option (List PV)
  | cs, [] => some cs
  | cs, (i, p) :: r => match place i with
    | some (off, size) => match p.cells with
      | some l => match Nat.beq l.length size, Nat.ble (off + l.length) cs.length with
        | true, true => force (setCells cs off l) fun cs' => fillA place cs' r
        | _, _ => none
      | none => none
    | none => none
def headCell : List PV → Option PV
  | [] => none
  | p :: _ => some p
def behind (h : AH) : PV → Option (List PV)
  | .ptr i off => match h.get i with
    | some (.cells cs _) => some (cs.drop off)
    | _ => none
  | .eptr i sz k off => match h.get i with
    | some (.row sz' es) => match Nat.beq sz' sz, es[k]? with
      | true, some e => some (e.drop off)
      | _, _ => none
    | _ => none
  | .iv (.iptr cs) => some (cs.map .iv)
  | _ => none
def readAs (e : TyE) (cs : List PV) : Option PV :=
  match e.k.agg with
  | true => match takeCells cs 0 e.size with
    | some l => force l fun l' => some (.agg l')
    | none => none
  | false => headCell cs
def fieldOf (e : TyE) (k : Nat) : Option (Nat × TypeId) :=
  match e.k with
  | .strct fs => fs[k]?
  | _ => none
def placesA (ty : Ty) : List (Nat × TypeId) → Option (List (Nat × Nat))
  | [] => some []
  | (off, u) :: r => match ty u with
    | some e => match placesA ty r with
      | some l => some ((off, e.size) :: l)
      | none => none
    | none => none
def ptrAdd (n : Nat) : PV → Option PV
  | .ptr i off => some (.ptr i (off + n))
  | .eptr i sz k off => some (.eptr i sz k (off + n))
  | .iv (.iptr cs) => some (.iv (.iptr (cs.drop n)))
  | _ => none
abbrev PV.bool (b : Bool) : PV := .iv (.v (.bool b))
abbrev PV.int (n : Int) : PV := .iv (.v (.int .i64 n))
abbrev PV.str (s : ByteArray) : PV := .iv (.v (.string s))
def fitsInt (n : Int) : Prop := -9223372036854775808 ≤ n ∧ n ≤ 9223372036854775807
def intOp (op : BinOp) (k : IntKind) (a b : Int) : Option (PV × Prop) :=
  match op, k with
  | .add, .i64 => some (.int (a + b), fitsInt (a + b))
  | .sub, .i64 => some (.int (a - b), fitsInt (a - b))
  | .mul, .i64 => some (.int (a * b), fitsInt (a * b))
  | .rem, .i64 => some (.int (Int.tmod a b), ¬ b = 0)
  | .quo, .i64 => some (.int (Int.tdiv a b), ¬ b = 0 ∧ fitsInt (Int.tdiv a b))
  | .add, k => some (.iv (.v (.int k (k.wrap (a + b)))), True)
  | .sub, k => some (.iv (.v (.int k (k.wrap (a - b)))), True)
  | .mul, k => some (.iv (.v (.int k (k.wrap (a * b)))), True)
  | .quo, k => some (.iv (.v (.int k (k.wrap (Int.tdiv a b)))), ¬ b = 0)
  | .rem, k => some (.iv (.v (.int k (Int.tmod a b))), ¬ b = 0)
  | .eql, _ => some (.bool (decide (a = b)), True)
  | .neq, _ => some (.bool (!decide (a = b)), True)
  | .lss, _ => some (.bool (decide (a < b)), True)
  | .leq, _ => some (.bool (decide (a ≤ b)), True)
  | .gtr, _ => some (.bool (decide (a > b)), True)
  | .geq, _ => some (.bool (decide (a ≥ b)), True)
  | .and, k => some (.iv (.v (.int k (k.wrap ((BitVec.ofInt k.bits a &&& BitVec.ofInt k.bits b).toNat : Int)))), True)
  | .or, k => some (.iv (.v (.int k (k.wrap ((BitVec.ofInt k.bits a ||| BitVec.ofInt k.bits b).toNat : Int)))), True)
  | .xor, k => some (.iv (.v (.int k (k.wrap ((BitVec.ofInt k.bits a ^^^ BitVec.ofInt k.bits b).toNat : Int)))), True)
  | _, _ => none
def shrOp (op : BinOp) (k : IntKind) (a b : Int) : Option (PV × Prop) :=
  match op with
  | .shr => match decide (0 ≤ b) with
    | true => some (.iv (.v (.int k (a.fdiv (2 ^ min b.toNat k.bits)))), True)
    | false => none
  | .shl => match decide (0 ≤ b) with
    | true => some (.iv (.v (.int k (k.wrap (a * 2 ^ min b.toNat k.bits)))), True)
    | false => none
  | _ => none
def strOp (op : BinOp) (a b : ByteArray) : Option (PV × Prop) :=
  match op with
  | .eql => some (.bool (decide (a = b)), True)
  | .neq => some (.bool (!decide (a = b)), True)
  | .add => some (.str (a ++ b), a.size + b.size ≤ 9223372036854775807)
  | .lss => some (.bool (Op.bytesLess a.toList b.toList), True)
  | .gtr => some (.bool (!(Op.bytesLess a.toList b.toList || decide (a = b))), True)
  | _ => none
def boolOp (ty : Ty) (t : TypeId) (op : BinOp) (a b : Bool) : Option (PV × Prop) :=
  match ty t with
  | some ⟨.prim .bool, _, _, _, _⟩ => match op with
    | .eql => some (.bool (a == b), True)
    | .neq => some (.bool (!(a == b)), True)
    | _ => none
  | _ => none
def binOpA (ty : Ty) (t : TypeId) (op : BinOp) (x y : PV) : Option (PV × Prop) :=
  match x, y with
  | .iv (.v (.int j a)), .iv (.v (.int k b)) => if j = k then intOp op j a b else shrOp op j a b
  | .iv (.v (.string a)), .iv (.v (.string b)) => strOp op a b
  | .iv (.v (.bool a)), y => match y with
    | .iv (.v (.bool b)) => boolOp ty t op a b
    | .kb b => boolOp ty t op a b
    | _ => none
  | .kb a, y => match y with
    | .iv (.v (.bool b)) => boolOp ty t op a b
    | .kb b => boolOp ty t op a b
    | _ => none
  | _, _ => none
def lenA : PV → Option (PV × Prop)
  | .iv (.imm _ n _) => some (.int n, True)
  | .iv (.v (.slice none 0 0)) => some (.int 0, True)
  | .iv (.v (.string s)) => some (.int s.size, True)
  | .sl _ _ len _ => some (.int len, True)
  | _ => none
def indexAddrA (x : PV) (i : Int) : Option (PV × Prop) :=
  match x with
  | .iv (.imm _ n el) => some (.iv (.iptr (el i.toNat)), 0 ≤ i ∧ i < n)
  | .sl j off len sz => some (.eptr j sz (off + i.toNat) 0, 0 ≤ i ∧ i < len)
  | _ => none
def KC.pk : (c : KC) → c.K → PV
  | .str, s => .iv (.v (.string s))
  | .int k, n => .iv (.v (.int k n))
  | .si k, x => .agg [.iv (.v (.string x.1)), .iv (.v (.int k x.2))]
def KC.dk : (c : KC) → PV → Option c.K
  | .str, p => match p with
    | .iv (.v (.string s)) => some s
    | _ => none
  | .int k, p => match p with
    | .iv (.v (.int j n)) => if j = k then some n else none
    | _ => none
  | .si k, p => match p with
    | .agg [.iv (.v (.string s)), .iv (.v (.int j n))] => if j = k then some (s, n) else none
    | _ => none
def keyKind (ty : Ty) (kt : TypeId) : Option KC :=
  match ty kt with
  | some ⟨.prim .string, _, _, _, _⟩ => some .str
  | some ⟨.prim (.int k), _, _, _, _⟩ => some (.int k)
  | some ⟨.strct [(0, a), (1, b)], _, _, _, true⟩ => match ty a, ty b with
    | some ⟨.prim .string, 1, _, _, _⟩, some ⟨.prim (.int k), 1, _, _, _⟩ => some (.si k)
    | _, _ => none
  | _ => none
section
variable (kc : KC) {V : Type}
def lkD : List (kc.K × V) → kc.K → V → V
  | [], _, z => z
  | (a, b) :: r, k, z => if a = k then b else lkD r k z
def hasK : List (kc.K × V) → kc.K → Bool
  | [], _ => false
  | (a, _) :: r, k => if a = k then true else hasK r k
def putK : List (kc.K × V) → kc.K → V → List (kc.K × V)
  | [], k, v => [(k, v)]
  | (a, b) :: r, k, v => if a = k then (k, v) :: r else (a, b) :: putK r k v
def delK : List (kc.K × V) → kc.K → List (kc.K × V)
  | [], _ => []
  | (a, b) :: r, k => if a = k then r else (a, b) :: delK r k
end
def valB1 : Value → Value → Bool
  | .int j a, .int k b => decide (j = k) && decide (a = b)
  | .string a, .string b => decide (a = b)
  | .bool a, .bool b => a == b
  | .slice none 0 0, .slice none 0 0 => true
  | _, _ => false
def valBs : List Value → List Value → Bool
  | [], [] => true
  | a :: r, b :: q => valB1 a b && valBs r q
  | _, _ => false
def valB : Value → Value → Bool
  | .agg a, .agg b => valBs a.toList b.toList
  | a, b => valB1 a b
def IV.pv : IV → PV
  | .agg cs => .agg (cs.map .iv)
  | x => .iv x
def lookA (ty : Ty) (t : TypeId) (ok : Bool) (kc : KC) {V : Type} (e : V → IV) (z : V) (zv : Value) (m : List (kc.K × V)) (key : PV) : Option (PV × Prop) :=
  match ty t with
  | some ⟨.prim (.map kt et), _, _, _, _⟩ => match keyKind ty kt, ty et with
    | some kc', some ee => match decide (kc' = kc), valB ee.zero zv, kc.dk key with
      | true, true, some k => match ok with
        | true => some (.tup [(e (lkD kc m k z)).pv, .iv (.v (.bool (hasK kc m k)))], True)
        | false => some ((e (lkD kc m k z)).pv, True)
      | _, _, _ => none
    | _, _ => none
  | _ => none
def eqFs (f : TypeId → PV → PV → Option Bool) (ty : Ty) : List (Nat × TypeId) → List PV → List PV → Option Bool
  | [], _, _ => some true
  | (off, u) :: r, cs, ds => match ty u with
    | some eu => match readAs eu (cs.drop off), readAs eu (ds.drop off) with
      | some a, some b => match f u a b, eqFs f ty r cs ds with
        | some x, some y => some (x && y)
        | _, _ => none
      | _, _ => none
    | none => none
def eqA (ty : Ty) : Nat → TypeId → PV → PV → Option Bool
  | 0, _, _, _ => none
  | d + 1, t, p, q => match ty t with
    | some ⟨.prim (.int _), _, _, _, _⟩ => match p, q with
      | .iv (.v (.int j a)), .iv (.v (.int k b)) => if j = k then some (decide (a = b)) else none
      | _, _ => none
    | some ⟨.prim .string, _, _, _, _⟩ => match p, q with
      | .iv (.v (.string a)), .iv (.v (.string b)) => some (decide (a = b))
      | _, _ => none
    | some ⟨.prim .bool, _, _, _, _⟩ => match p, q with
      | .iv (.v (.bool a)), .iv (.v (.bool b)) => some (a == b)
      | _, _ => none
    | some ⟨.strct fs, _, _, _, true⟩ => match p, q with
      | .agg cs, .agg ds => eqFs (eqA ty d) ty fs cs ds
      | _, _ => none
    | _ => none
def aggOp (ty : Ty) (t : TypeId) (op : BinOp) (p q : PV) : Option (PV × Prop) :=
  match op with
  | .eql => match eqA ty 10 t p q with
    | some b => some (.bool b, True)
    | none => none
  | .neq => match eqA ty 10 t p q with
    | some b => some (.bool (!b), True)
    | none => none
  | _ => none
def rop (ty : Ty) (s : AS) : Op → Option (PV × Prop)
  | .move x => some (ev s.f x, True)
  | .assign x => some (ev s.f x, True)
  | .pick c a b => match ev s.f c with
    | .kb true => some (ev s.f a, True)
    | .kb false => some (ev s.f b, True)
    | _ => none
  | .load t x => match ty t with
    | some e => match behind s.h (ev s.f x) with
      | some cs => match readAs e cs with
        | some p => some (p, True)
        | none => none
      | none => none
    | none => none
  | .nilCheck x => match ev s.f x with
    | .ptr i o => some (.ptr i o, True)
    | .eptr i sz k o => some (.eptr i sz k o, True)
    | .iv (.iptr cs) => some (.iv (.iptr cs), True)
    | .clo (.func g) a b => some (.clo (.func g) a b, True)
    | _ => none
  | .binOp op t x y _ => match ev s.f x, ev s.f y with
    | .agg cs, .agg ds => aggOp ty t op (.agg cs) (.agg ds)
    | p, q => binOpA ty t op p q
  | .lookup t x i ok => match ev s.f x with
    | .iv (.imap kc e z zv m) => lookA ty t ok kc e z zv m (ev s.f i)
    | .mp j => match s.h.get j with
      | some (.map kc e z zv _ m) => lookA ty t ok kc e z zv m (ev s.f i)
      | _ => none
    | _ => none
  | .entry it => match ev s.f it with
    | .ptr i 0 => match s.h.get i with
      | some (.miter kc e _ _ (some x)) => some (.tup [kc.pk x.1, (e x.2).pv], True)
      | _ => none
    | _ => none
  | .unOp .not _ x => match ev s.f x with
    | .kb true => some (.kb false, True)
    | .kb false => some (.kb true, True)
    | .iv (.v (.bool b)) => some (.bool (!b), True)
    | _ => none
  | .fieldAddr t x k => match ty t with
    | some e => match fieldOf e k with
      | some (off, u) => match ty u with
        | some eu => match eu.size with
          | 0 => none
          | _ + 1 => match ptrAdd off (ev s.f x) with
            | some p => some (p, True)
            | none => none
        | none => none
      | none => none
    | none => none
  | .field t x k => match ty t with
    | some e => match fieldOf e k with
      | some (off, u) => match ty u with
        | some eu => match ev s.f x with
          | .agg cs => match readAs eu (cs.drop off) with
            | some p => some (p, True)
            | none => none
          | _ => none
        | none => none
      | none => none
    | none => none
  | .indexAddr t x i => match ty t with
    | some ⟨.prim (.slice u), _, _, _, _⟩ => match ty u with
      | some eu => match ev s.f i with
        | .iv (.v (.int _ n)) => match ev s.f x with
          | .iv (.imm sz m el) => bif Nat.beq sz eu.size then indexAddrA (.iv (.imm sz m el)) n else none
          | .sl j off len sz => bif Nat.beq sz eu.size then indexAddrA (.sl j off len sz) n else none
          | _ => none
        | _ => none
      | none => none
    | some ⟨.arr len u, _, _, _, _⟩ => match ty u with
      | some eu => match ev s.f i with
        | .iv (.v (.int _ n)) => match ev s.f x with
          | .ptr j off => some (.ptr j (off + n.toNat * eu.size), 0 ≤ n ∧ n < len)
          | _ => none
        | _ => none
      | none => none
    | _ => none
  | .index t x i => match ty t with
    | some ⟨.prim .string, _, _, _, _⟩ => match ev s.f i with
      | .iv (.v (.int _ n)) => match ev s.f x with
        | .iv (.v (.string b)) => some (.iv (.v (.int .u8 ((b.data.toList.getD n.toNat 0).toNat : Int))), 0 ≤ n ∧ n < b.size)
        | _ => none
      | _ => none
    | _ => none
  | .slice t x (some lo) (some hi) none => match ty t with
    | some ⟨.prim (.slice u), _, _, _, _⟩ => match ty u with
      | some eu => match ev s.f lo with
        | .iv (.v (.int _ a)) => match ev s.f hi with
          | .iv (.v (.int _ b)) => match ev s.f x with
            | .iv (.imm sz m el) => bif Nat.beq sz eu.size then some (.iv (.imm sz (b.toNat - a.toNat) (fun k => el (a.toNat + k))), 0 ≤ a ∧ a ≤ b ∧ b ≤ m) else none
            | _ => none
          | _ => none
        | _ => none
      | none => none
    | some ⟨.prim .string, _, _, _, _⟩ => match ev s.f lo with
      | .iv (.v (.int _ a)) => match ev s.f hi with
        | .iv (.v (.int _ b)) => match ev s.f x with
          | .iv (.v (.string y)) => some (.iv (.v (.string (y.extract a.toNat b.toNat))), 0 ≤ a ∧ a ≤ b ∧ b ≤ y.size)
          | _ => none
        | _ => none
      | _ => none
    | _ => none
  | .build t parts => match ty t with
    | some e => match e.k with
      | .strct fs => match placesA ty fs with
        | some pl => match fillA (pl[·]?) (zcells e.zero) (parts.toList.map fun x => (x.1, ev s.f x.2)) with
          | some cs => force cs fun cs' => some (.agg cs', True)
          | none => none
        | none => none
      | .arr _ u => match ty u with
        | some eu => match fillA (fun i => some (i * eu.size, eu.size)) (zcells e.zero) (parts.toList.map fun x => (x.1, ev s.f x.2)) with
          | some cs => force cs fun cs' => some (.agg cs', True)
          | none => none
        | none => none
      | _ => none
    | none => none
  | .extract x k => match ev s.f x with
    | .tup cs => match cs[k]? with
      | some p => some (p, True)
      | none => none
    | _ => none
  | .makeFunc fn first caps => force (first.toList.map (ev s.f)) fun a => force (caps.toList.map (ev s.f)) fun b => some (.clo fn a b, True)
  | .call ⟨.builtin .len, args, argTypes⟩ => match args.toList, argTypes.toList with
    | [x], [t] => match ty t with
      | some ⟨.prim (.slice _), _, _, _, _⟩ => match ev s.f x with
        | .iv (.imm sz n el) => lenA (.iv (.imm sz n el))
        | .sl i off len sz => lenA (.sl i off len sz)
        | .iv (.v (.slice none 0 0)) => lenA (.iv (.v (.slice none 0 0)))
        | _ => none
      | some ⟨.prim .string, _, _, _, _⟩ => match ev s.f x with
        | .iv (.v (.string b)) => lenA (.iv (.v (.string b)))
        | _ => none
      | some ⟨.prim (.map _ _), _, _, _, _⟩ => match ev s.f x with
        | .iv (.imap _ _ _ _ m) => some (.int m.length, True)
        | .mp j => match s.h.get j with
          | some (.map _ _ _ _ _ m) => some (.int m.length, True)
          | _ => none
        | _ => none
      | _ => none
    | _, _ => none
  | _ => none
inductive TT where
  | leaf
  | node (l : TT) (k : Nat) (e : TyE) (r : TT)
def TT.find : TT → Nat → Option TyE
  | .leaf, _ => none
  | .node l k e r, t => bif Nat.beq t k then some e else bif Nat.blt t k then l.find t else r.find t
def TT.All (p : Nat → TyE → Prop) : TT → Prop
  | .leaf => True
  | .node l k e r => p k e ∧ l.All p ∧ r.All p
theorem TT.find_all {p : Nat → TyE → Prop} : ∀ {x : TT}, x.All p → ∀ t e, x.find t = some e → p t e
  | .leaf, _, t, e, h => by simp [TT.find] at h
  | .node l k e0 r, ha, t, e, h => by
    simp only [TT.find] at h
    cases hb : Nat.beq t k with
    | true =>
      simp only [hb, cond_true, Option.some.injEq] at h
      subst h
      rw [Nat.eq_of_beq_eq_true hb]; exact ha.1
    | false =>
      simp only [hb, cond_false] at h
      cases hl : Nat.blt t k with
      | true => simp only [hl, cond_true] at h; exact TT.find_all ha.2.1 t e h
      | false => simp only [hl, cond_false] at h; exact TT.find_all ha.2.2 t e h
theorem entry_info {P : Program} {t : TypeId} {e : TyE} (h : (P.info? t).map (fun i => (i.size, i.bytes, i.zero)) = some (e.size, e.bytes, some e.zero)) : ∃ i, P.info? t = some i ∧ i.size = e.size ∧ i.bytes = e.bytes ∧ i.zero = some e.zero := by
  rw [Option.map_eq_some_iff] at h
  obtain ⟨i, h1, h2⟩ := h
  simp only [Prod.mk.injEq] at h2
  exact ⟨i, h1, h2.1, h2.2.1, h2.2.2⟩
end Go.Al
namespace Go.Al
theorem VR.one {M : Mem} {N : Nm} {U : Nat → Prop} {p : PV} {x : Value} (h : VR M N U p x) (ho : p.one = true) : x.oneCell' = true := by
  cases h with
  | iv y x hi =>
    cases hi with
    | v x => cases x <;> first | rfl | (simp [PV.one] at ho)
    | agg => simp [PV.one] at ho
    | _ => rfl
  | agg => simp [PV.one] at ho
  | tup => simp [PV.one] at ho
  | any => simp [PV.one] at ho
  | _ => rfl
section
variable {M : Mem} {N : Nm}
theorem VR.agg_inv {U : Nat → Prop} {cs : List PV} {x : Value} (h : VR M N U (.agg cs) x) : ∃ ys : Array Value, x = .agg ys ∧ cs.length = ys.size ∧ ∀ j p, cs[j]? = some p → VR M N U p (ys.getD j undef) := by
  cases h with
  | agg _ ys hl hr => exact ⟨ys, rfl, hl, hr⟩
theorem cells_ok {U : Nat → Prop} {p : PV} {x : Value} {cs : List PV} (h : VR M N U p x) (hc : p.cells = some cs) : cs.length = x.cells.size ∧ ∀ j q, cs[j]? = some q → VR M N U q (x.cells.getD j undef) := by
  have one : p.one = true → cs = [p] → cs.length = x.cells.size ∧ ∀ j q, cs[j]? = some q → VR M N U q (x.cells.getD j undef) := by
    intro ho hcs
    subst hcs
    have h1 := h.one ho
    have hx : x.cells = #[x] := by cases x <;> first | rfl | (simp [Value.oneCell'] at h1)
    rw [hx]
    refine ⟨rfl, fun j q hq => ?_⟩
    cases j with
    | zero => simp at hq; subst hq; exact h
    | succ j => simp at hq
  cases p with
  | agg l =>
    simp only [PV.cells, Option.some.injEq] at hc
    subst hc
    obtain ⟨ys, rfl, hl, hr⟩ := h.agg_inv
    exact ⟨hl, hr⟩
  | _ =>
    simp only [PV.cells] at hc
    split at hc
    · rename_i ho
      simp only [Option.some.injEq] at hc
      exact one ho hc.symm
    · cases hc
theorem allOne_ok : ∀ {cs : List PV}, allOne cs = true → ∀ (j : Nat) (p : PV), cs[j]? = some p → p.one = true
  | [], _, j, p, h => by simp at h
  | c :: cs, h, j, p, hj => by
    simp only [allOne] at h
    split at h
    · rename_i hc
      cases j with
      | zero => simp at hj; subst hj; exact hc
      | succ j => exact allOne_ok h j p (by simpa using hj)
    · cases h
theorem zcells_ok {U : Nat → Prop} (v : Value) : (zcells v).length = v.cells.size ∧ ∀ j p, (zcells v)[j]? = some p → VR M N U p (v.cells.getD j undef) := by
  refine ⟨by simp [zcells], fun j p hp => ?_⟩
  simp only [zcells] at hp
  rw [List.getElem?_map, Option.map_eq_some_iff] at hp
  obtain ⟨x, hx, rfl⟩ := hp
  have hx' : v.cells[j]? = some x := by simpa using hx
  rw [Array.getD_eq_getD_getElem?, hx']
  exact .iv _ _ (.v _)
theorem foldl_set : ∀ (l : List Value) (k off : Nat) (cs : Array Value), off + k + l.length ≤ cs.size →
    ((l.zipIdx k).foldl (fun cs x => cs.setIfInBounds (off + x.2) x.1) cs).size = cs.size ∧
    ∀ j, ((l.zipIdx k).foldl (fun cs x => cs.setIfInBounds (off + x.2) x.1) cs)[j]? = if off + k ≤ j ∧ j < off + k + l.length then l[j - (off + k)]? else cs[j]?
  | [], k, off, cs, _ => ⟨rfl, fun j => by simp; omega⟩
  | v :: l, k, off, cs, h => by
    simp only [List.zipIdx_cons, List.foldl_cons]
    simp only [List.length_cons] at h
    obtain ⟨h1, h2⟩ := foldl_set l (k + 1) off (cs.setIfInBounds (off + k) v) (by simp; omega)
    refine ⟨by rw [h1]; simp, fun j => ?_⟩
    rw [h2 j]
    simp only [List.length_cons]
    by_cases hj : off + (k + 1) ≤ j ∧ j < off + (k + 1) + l.length
    · rw [if_pos hj, if_pos (by omega), show j - (off + k) = (j - (off + (k + 1))) + 1 by omega, List.getElem?_cons_succ]
    · rw [if_neg hj]
      by_cases he : j = off + k
      · subst he
        have hb : off + k < cs.size := by omega
        rw [if_pos (by omega), Nat.sub_self]
        simp [hb]
      · rw [if_neg (by omega), Array.getElem?_setIfInBounds, if_neg (fun e => he e.symm)]
def VRs (M : Mem) (N : Nm) (U : Nat → Prop) (cs : List PV) (ys : Array Value) : Prop := cs.length = ys.size ∧ ∀ j p, cs[j]? = some p → VR M N U p (ys.getD j undef)
theorem fillA_length {place : Nat → Option (Nat × Nat)} : ∀ {parts : List (Nat × PV)} {cs cs' : List PV}, fillA place cs parts = some cs' → cs'.length = cs.length
  | [], cs, cs', h => by simp only [fillA, Option.some.injEq] at h; rw [h]
  | (i, p) :: r, cs, cs', h => by
    simp only [fillA] at h
    split at h
    · split at h
      · split at h
        · rw [force_eq] at h
          rw [fillA_length h, setCells_length]
        · cases h
      · cases h
    · cases h
theorem fillA_ok {U : Nat → Prop} {place : Nat → Option (Nat × Nat)} : ∀ {parts : List (Nat × PV)} {vals : List (Nat × Value)} {cs cs' : List PV} {ys : Array Value},
    fillA place cs parts = some cs' → parts.length = vals.length → (∀ (j : Nat) (x : Nat × PV) (y : Nat × Value), parts[j]? = some x → vals[j]? = some y → x.1 = y.1 ∧ VR M N U x.2 y.2) → VRs M N U cs ys →
    ∃ ys', Instr.fill place ys vals = some ys' ∧ VRs M N U cs' ys'
  | [], [], cs, cs', ys, h, _, _, hv => by
    simp only [fillA, Option.some.injEq] at h
    subst h
    exact ⟨ys, rfl, hv⟩
  | (i, p) :: r, (i', v) :: vr, cs, cs', ys, h, hl, hp, hv => by
    obtain ⟨h1, h2⟩ := hp 0 _ _ rfl rfl
    simp only at h1 h2
    subst h1
    simp only [fillA] at h
    split at h
    · rename_i off size hpl
      split at h
      · rename_i l hcl
        split at h
        · rename_i hb1 hb2
          rw [force_eq] at h
          obtain ⟨g1, g2⟩ := cells_ok h2 hcl
          have hsz : v.cells.size = size := by rw [← g1]; exact Nat.eq_of_beq_eq_true hb1
          have hfit : off + v.cells.size ≤ ys.size := by rw [← g1, ← hv.1]; exact Nat.le_of_ble_eq_true hb2
          obtain ⟨k1, k2⟩ := foldl_set v.cells.toList 0 off ys (by simpa using hfit)
          have hfold : v.cells.zipIdx.foldl (fun cs x => cs.setIfInBounds (off + x.2) x.1) ys = (v.cells.toList.zipIdx 0).foldl (fun cs x => cs.setIfInBounds (off + x.2) x.1) ys := by
            rw [← Array.foldl_toList, Array.toList_zipIdx]
          have hv' : VRs M N U (setCells cs off l) (v.cells.zipIdx.foldl (fun cs x => cs.setIfInBounds (off + x.2) x.1) ys) := by
            rw [hfold]
            refine ⟨by rw [setCells_length, k1]; exact hv.1, fun j q hq => ?_⟩
            rw [Array.getD_eq_getD_getElem?, k2 j]
            rcases setCells_get cs off l j q hq with ⟨e1, e2⟩ | ⟨e1, e2⟩
            · have hjl : j - off < l.length := (List.getElem?_eq_some_iff.1 e2).1
              rw [if_pos (by simp; omega)]
              have := g2 _ q e2
              rw [Array.getD_eq_getD_getElem?] at this
              simpa using this
            · rw [if_neg (by simp; omega)]
              have := hv.2 j q e2
              rw [Array.getD_eq_getD_getElem?] at this; exact this
          obtain ⟨ys', e1, e2⟩ := fillA_ok h (by simpa using hl) (fun j x y hx hy => hp (j + 1) x y (by simpa using hx) (by simpa using hy)) hv'
          refine ⟨ys', ?_, e2⟩
          simp only [Instr.fill, hpl]
          rw [if_neg (by simp [hsz]; omega)]
          exact e1
        · cases h
      · cases h
    · cases h
end
section
variable {P : Program} {M : Mem} {N : Nm} {U : Nat → Prop} {h : AH} {w : World}
theorem Rel.mcell (hr : Rel M N U h w) {b o : Nat} {v : Value} (hc : M.cell b o = some v) : w.cell? ⟨b, o, none⟩ = some v := by
  unfold Mem.cell at hc
  cases hb : M b with
  | none => simp [hb] at hc
  | some c =>
    cases c with
    | map es cl => simp [hb] at hc
    | cells c =>
      obtain ⟨T, fr, hw⟩ := hr.frz b _ hb
      rw [hb] at hc
      simp only [World.cell?, hw]
      simpa using hc
theorem IR.iptr_cells {cs : List IV} {x : Value} (hr : Rel M N U h w) (hp : IR M (.iptr cs) x) :
    ∃ b off, x = .pointer (some ⟨b, off, none⟩) ∧ ∀ j q, cs[j]? = some q → ∃ y, w.cell? ⟨b, off + j, none⟩ = some y ∧ IR M q y := by
  cases hp with
  | iptr _ b off hm hq =>
    refine ⟨b, off, rfl, fun j q hj => ?_⟩
    have hlt : j < cs.length := (List.getElem?_eq_some_iff.1 hj).1
    have h1 := hm j hlt
    cases hv : M.cell b (off + j) with
    | none => simp [hv] at h1
    | some y =>
      have h2 := hq j q hj
      rw [hv] at h2
      exact ⟨y, hr.mcell hv, h2⟩
theorem behind_ok {p : PV} {x : Value} {cs : List PV} (hr : Rel M N U h w) (hp : VR M N U p x) (hb : behind h p = some cs) :
    ∃ b off, x = .pointer (some ⟨b, off, none⟩) ∧ ∀ j q, cs[j]? = some q → ∃ y, w.cell? ⟨b, off + j, none⟩ = some y ∧ VR M N U q y := by
  cases p with
  | ptr i off =>
    cases hp with
    | ptr _ _ hU =>
      simp only [behind] at hb
      cases ho : h.get i with
      | none => simp [ho] at hb
      | some o =>
        cases o with
        | cells cs0 T0 =>
          simp only [ho, Option.some.injEq] at hb
          subst hb
          obtain ⟨c, T, h1, h2, h3, h4, h5⟩ := hr.obj i _ ho
          refine ⟨N.blk i, off, rfl, fun j q hj => ?_⟩
          rw [List.getElem?_drop] at hj
          have hlt : off + j < c.size := by rw [← h3]; exact (List.getElem?_eq_some_iff.1 hj).1
          refine ⟨c.getD (off + j) undef, ?_, h4 _ _ hj⟩
          simp [World.cell?, h1, Array.getD_eq_getD_getElem?, hlt]
        | _ => simp [ho] at hb
  | eptr i sz k off =>
    cases hp with
    | eptr _ _ _ _ hU =>
      simp only [behind] at hb
      cases ho : h.get i with
      | none => simp [ho] at hb
      | some o =>
        cases o with
        | row sz' es =>
          simp only [ho] at hb
          split at hb
          · rename_i e hb1 he
            simp only [Option.some.injEq] at hb
            have := Nat.eq_of_beq_eq_true hb1
            subst this; subst hb
            rcases hr.obj i _ ho with h0 | ⟨h0, c, T, h1, h2, h3, h4, h5⟩
            · subst h0; simp at he
            refine ⟨N.blk i, k * sz' + off, rfl, fun j q hj => ?_⟩
            rw [List.getElem?_drop] at hj
            have hje : off + j < sz' := by rw [← h4 k e he]; exact (List.getElem?_eq_some_iff.1 hj).1
            have hk : k < es.length := (List.getElem?_eq_some_iff.1 he).1
            have hks : (k + 1) * sz' ≤ es.length * sz' := Nat.mul_le_mul_right _ hk
            rw [Nat.succ_mul] at hks
            have hlt : k * sz' + off + j < c.size := by omega
            refine ⟨c.getD (k * sz' + off + j) undef, ?_, ?_⟩
            · simp [World.cell?, h1, Array.getD_eq_getD_getElem?, hlt]
            · rw [Nat.add_assoc]; exact h5 k e _ q he hj
          · cases hb
        | _ => simp [ho] at hb
  | iv x =>
    cases x with
    | iptr cs0 =>
      cases hp with
      | iv _ _ hi =>
        simp only [behind, Option.some.injEq] at hb
        subst hb
        obtain ⟨b, off, rfl, hc⟩ := hi.iptr_cells hr
        refine ⟨b, off, rfl, fun j q hj => ?_⟩
        rw [List.getElem?_map, Option.map_eq_some_iff] at hj
        obtain ⟨q0, hj0, rfl⟩ := hj
        obtain ⟨y, hy, hq⟩ := hc j q0 hj0
        exact ⟨y, hy, .iv _ _ hq⟩
    | _ => simp [behind] at hb
  | _ => simp [behind] at hb
theorem takeCells_some {cs l : List PV} {off n : Nat} (hh : takeCells cs off n = some l) : l.length = n ∧ ∀ j q, l[j]? = some q → cs[off + j]? = some q ∧ j < n := by
  unfold takeCells at hh
  cases hb : Nat.beq ((cs.drop off).take n).length n with
  | false => simp only [hb, cond_false] at hh; cases hh
  | true =>
    simp only [hb, cond_true, Option.some.injEq] at hh
    subst hh
    have hl := Nat.eq_of_beq_eq_true hb
    refine ⟨hl, fun j q hj => ?_⟩
    have hjn : j < n := by rw [← hl]; exact (List.getElem?_eq_some_iff.1 hj).1
    rw [List.getElem?_take, if_pos hjn, List.getElem?_drop] at hj
    exact ⟨hj, hjn⟩
theorem headCell_some {cs : List PV} {p : PV} (hh : headCell cs = some p) : cs[0]? = some p := by
  cases cs with
  | nil => simp [headCell] at hh
  | cons a r => simpa [headCell] using hh
theorem add_addr (b off j : Nat) : (⟨b, off, none⟩ : Addr).add j = ⟨b, off + j, none⟩ := by
  unfold Addr.add; split
  · subst_vars; rfl
  · rfl
theorem readAs_load {t : TypeId} {e : TyE} (he : EntryOK P t e) {cs : List PV} {b off : Nat} (hc : ∀ j q, cs[j]? = some q → ∃ y, w.cell? ⟨b, off + j, none⟩ = some y ∧ VR M N U q y)
    {p : PV} (hp : readAs e cs = some p) : ∃ y, (loadVar t ⟨b, off, none⟩).run P w = .ok y w ∧ VR M N U p y := by
  unfold readAs at hp
  cases hk : e.k.agg with
  | true =>
    simp only [hk] at hp
    cases ht : takeCells cs 0 e.size with
    | none => simp [ht] at hp
    | some l =>
      simp only [ht, force_eq, Option.some.injEq] at hp
      subst hp
      obtain ⟨hl, hj⟩ := takeCells_some ht
      have hcell : ∀ j, j < e.size → w.cell? ((⟨b, off, none⟩ : Addr).add j) = some (((w.cell? ⟨b, off + j, none⟩)).getD undef) := by
        intro j hjn
        have hlj : l[j]? = some (l[j]'(by omega)) := List.getElem?_eq_getElem (by omega)
        obtain ⟨y, hy, _⟩ := hc j _ (by simpa using (hj j _ hlj).1)
        rw [add_addr, hy]; rfl
      refine ⟨.agg (((List.range e.size).map fun j => (w.cell? ⟨b, off + j, none⟩).getD undef).toArray), ?_, ?_⟩
      · have := run_loadCells (P := P) w ⟨b, off, none⟩ e.size (fun j => (w.cell? ⟨b, off + j, none⟩).getD undef) hcell
        simp [loadVar, run_isAgg' he, hk, run_sizeOf' he, this]
      · refine .agg _ _ (by simp [hl]) (fun j q hq => ?_)
        obtain ⟨h1, h2⟩ := hj j q hq
        obtain ⟨y, hy, hv⟩ := hc j q (by simpa using h1)
        have hg : (((List.range e.size).map fun j => (w.cell? ⟨b, off + j, none⟩).getD undef).toArray).getD j undef = y := by
          simp [Array.getD_eq_getD_getElem?, h2, hy]
        rw [hg]; exact hv
  | false =>
    simp only [hk] at hp
    obtain ⟨y, hy, hv⟩ := hc 0 p (headCell_some hp)
    refine ⟨y, ?_, hv⟩
    simp only [loadVar, Sem.run_bind, run_isAgg' he, Result.andThen_ok, hk, Bool.false_eq_true, if_false]
    simp only [Nat.add_zero] at hy
    simp [hy]
theorem readAs_part {t : TypeId} {e : TyE} (he : EntryOK P t e) {cs : List PV} {ys : Array Value} {off : Nat} (hl : cs.length = ys.size) (hc : ∀ j q, cs[j]? = some q → VR M N U q (ys.getD j undef))
    {p : PV} (hp : readAs e (cs.drop off) = some p) : ∃ y, (part t ys off).run P w = .ok y w ∧ VR M N U p y := by
  unfold readAs at hp
  cases hk : e.k.agg with
  | true =>
    simp only [hk] at hp
    cases ht : takeCells (cs.drop off) 0 e.size with
    | none => simp [ht] at hp
    | some l =>
      simp only [ht, force_eq, Option.some.injEq] at hp
      subst hp
      obtain ⟨hll, hj⟩ := takeCells_some ht
      refine ⟨.agg (ys.extract off (off + e.size)), by simp [part, run_isAgg' he, hk, run_sizeOf' he], .agg _ _ ?_ (fun j q hq => ?_)⟩
      · rw [hll, Array.size_extract]
        by_cases h0 : e.size = 0
        · omega
        · have hlast : l[e.size - 1]? = some (l[e.size - 1]'(by omega)) := List.getElem?_eq_getElem (by omega)
          have := (hj _ _ hlast).1
          rw [List.getElem?_drop] at this
          have := (List.getElem?_eq_some_iff.1 this).1
          omega
      · obtain ⟨h1, h2⟩ := hj j q hq
        rw [List.getElem?_drop] at h1
        have h3 := hc _ _ h1
        have hlt : off + (0 + j) < cs.length := (List.getElem?_eq_some_iff.1 h1).1
        have : (ys.extract off (off + e.size)).getD j undef = ys.getD (off + (0 + j)) undef := by
          simp only [Array.getD_eq_getD_getElem?, Array.getElem?_extract, Nat.zero_add]
          rw [if_pos (by omega)]
        rw [this]; exact h3
  | false =>
    simp only [hk] at hp
    have h0 := headCell_some hp
    rw [List.getElem?_drop] at h0
    have h3 := hc _ _ h0
    have hlt : off + 0 < cs.length := (List.getElem?_eq_some_iff.1 h0).1
    refine ⟨ys.getD (off + 0) undef, ?_, h3⟩
    have hy : ys[off]? = some (ys.getD off undef) := by
      simp [Array.getD_eq_getD_getElem?, show off < ys.size by omega]
    simp only [part, Sem.run_bind, run_isAgg' he, Result.andThen_ok, hk, Bool.false_eq_true, if_false, hy]
    rfl
theorem str_eq (a b : ByteArray) : (a.toList == b.toList) = decide (a = b) := by
  rw [Lib.toList_data, Lib.toList_data, Bool.eq_iff_iff]
  simp only [beq_iff_eq, decide_eq_true_eq]
  exact ⟨fun h => WideShapes.bytes_inj h, fun h => by rw [h]⟩
theorem intOp_ok {t : TypeId} {op : BinOp} {k : IntKind} {a b : Int} {p : PV} {C : Prop} (h : intOp op k a b = some (p, C)) (hC : C) : ∃ x, (binOp op t (.int k a) (.int k b)).run P w = .ok x w ∧ VR M N U p x := by
  have hi : ∀ n : Int, fitsInt n → IntKind.i64.wrap n = n := fun n hn => IntWalk.i64_in n hn
  unfold intOp at h
  split at h
  all_goals first
    | cases h; done
    | (simp only [Option.some.injEq, Prod.mk.injEq] at h
       obtain ⟨rfl, rfl⟩ := h
       refine ⟨_, ?_, .iv _ _ (.v _)⟩
       first
       | (simp [binOp, Op.intCmp]; done)
       | rfl
       | (simp [binOp, Op.intCmp]; rfl)
       | (have hw := hi _ hC; simp [binOp, Op.intArith, hw]; done)
       | (simp [binOp, Op.intDiv, hC]; done)
       | (have hw := hi _ hC.2; simp [binOp, Op.intDiv, hC.1, hw]; done))
theorem shrOp_ok {t : TypeId} {op : BinOp} {k j : IntKind} {a b : Int} {p : PV} {C : Prop} (h : shrOp op k a b = some (p, C)) : ∃ x, (binOp op t (.int k a) (.int j b)).run P w = .ok x w ∧ VR M N U p x := by
  unfold shrOp at h
  split at h
  case h_3 => cases h
  all_goals
    split at h
    · rename_i hb
      simp only [Option.some.injEq, Prod.mk.injEq] at h
      obtain ⟨rfl, rfl⟩ := h
      have hb' : ¬ b < 0 := by have := of_decide_eq_true hb; omega
      refine ⟨_, ?_, .iv _ _ (.v _)⟩
      simp only [binOp, Op.shift, if_neg hb']
      rfl
    · cases h
theorem strOp_ok {t : TypeId} {op : BinOp} {a b : ByteArray} {p : PV} {C : Prop} (h : strOp op a b = some (p, C)) (hC : C) : ∃ x, (binOp op t (.string a) (.string b)).run P w = .ok x w ∧ VR M N U p x := by
  unfold strOp at h
  split at h
  all_goals first
    | cases h; done
    | (simp only [Option.some.injEq, Prod.mk.injEq] at h
       obtain ⟨rfl, rfl⟩ := h
       refine ⟨_, ?_, .iv _ _ (.v _)⟩
       first
       | (simp [binOp, Op.stringOp, ← str_eq]; done)
       | (have hn : ¬ (((a.size + b.size : Nat) : Int) > IntKind.i64.max) := by (have : IntKind.i64.max = 9223372036854775807 := by decide); rw [this]; omega
          simp only [binOp, Op.stringOp, if_neg hn]; rfl))
theorem eqGuard_plain {op : BinOp} {t : TypeId} {x y : Operand} {a b : Value} (h1 : a ≠ .nilIface) (h2 : ∀ cs, a ≠ .agg cs) : (eqGuard op t x y a b).run P w = .ok () w := by
  unfold eqGuard
  cases op <;> cases a <;> first | rfl | exact absurd rfl h1 | exact absurd rfl (h2 _)
theorem equalIn_bool {t : TypeId} (hu : P.underlying t = some .bool) (d : Nat) (a b : Bool) : (Op.equalIn (d + 1) t (.bool a) (.bool b)).run P w = .ok (a == b) w := by
  simp [Op.equalIn, run_underlying hu]
theorem equal_bool {t : TypeId} (hu : P.underlying t = some .bool) (a b : Bool) : (Op.equal t (.bool a) (.bool b)).run P w = .ok (a == b) w :=
  equalIn_bool hu 9999 a b
theorem binOp_eql_bool {t : TypeId} (hu : P.underlying t = some .bool) (a b : Bool) : (binOp .eql t (.bool a) (.bool b)).run P w = .ok (.bool (a == b)) w := by
  show (Op.equal t (.bool a) (.bool b) >>= fun r => (pure (.bool r) : Sem Value)).run P w = _
  rw [Sem.run_bind, equal_bool hu]; rfl
theorem binOp_neq_bool {t : TypeId} (hu : P.underlying t = some .bool) (a b : Bool) : (binOp .neq t (.bool a) (.bool b)).run P w = .ok (.bool (!(a == b))) w := by
  show (Op.equal t (.bool a) (.bool b) >>= fun r => (pure (.bool (!r)) : Sem Value)).run P w = _
  rw [Sem.run_bind, equal_bool hu]; rfl
theorem boolOp_ok {ty : Ty} (hty : TyOK P ty) {t : TypeId} {op : BinOp} {a b : Bool} {r : PV} {C : Prop} {u v : Operand} (h : boolOp ty t op a b = some (r, C)) :
    ∃ z, (do eqGuard op t u v (.bool a) (.bool b); binOp op t (.bool a) (.bool b) : Sem Value).run P w = .ok z w ∧ VR M N U r z := by
  unfold boolOp at h
  split at h
  · rename_i ht
    have hu : P.underlying t = some .bool := (hty t _ ht).2.1.1
    split at h
    all_goals first
      | cases h; done
      | (simp only [Option.some.injEq, Prod.mk.injEq] at h
         obtain ⟨rfl, rfl⟩ := h
         refine ⟨_, ?_, .iv _ _ (.v _)⟩
         rw [Sem.run_bind, eqGuard_plain (by simp) (by simp)]
         first | exact binOp_eql_bool hu _ _ | exact binOp_neq_bool hu _ _)
  · cases h
theorem binOpA_ok {ty : Ty} (hty : TyOK P ty) {t : TypeId} {op : BinOp} {p q : PV} {r : PV} {C : Prop} {u v : Operand} {x y : Value} (h : binOpA ty t op p q = some (r, C)) (hC : C) (hx : VR M N U p x) (hy : VR M N U q y) :
    ∃ z, (do eqGuard op t u v x y; binOp op t x y : Sem Value).run P w = .ok z w ∧ VR M N U r z := by
  unfold binOpA at h
  split at h
  · cases hx with
    | iv _ _ hx => cases hx with
      | v =>
        cases hy with
        | iv _ _ hy => cases hy with
          | v =>
            split at h
            · rename_i hjk
              subst hjk
              obtain ⟨z, hz, hv⟩ := intOp_ok (P := P) (M := M) (N := N) (U := U) (w := w) (t := t) h hC
              exact ⟨z, by rw [Sem.run_bind, eqGuard_plain (by simp) (by simp)]; exact hz, hv⟩
            · obtain ⟨z, hz, hv⟩ := shrOp_ok (P := P) (M := M) (N := N) (U := U) (w := w) (t := t) h
              exact ⟨z, by rw [Sem.run_bind, eqGuard_plain (by simp) (by simp)]; exact hz, hv⟩
  · cases hx with
    | iv _ _ hx => cases hx with
      | v =>
        cases hy with
        | iv _ _ hy => cases hy with
          | v =>
            obtain ⟨z, hz, hv⟩ := strOp_ok (P := P) (M := M) (N := N) (U := U) (w := w) (t := t) h hC
            exact ⟨z, by rw [Sem.run_bind, eqGuard_plain (by simp) (by simp)]; exact hz, hv⟩
  · split at h
    · cases hx with
      | iv _ _ hx => cases hx with
        | v =>
          cases hy with
          | iv _ _ hy => cases hy with
            | v => exact boolOp_ok hty h
    · cases hx with
      | iv _ _ hx => cases hx with
        | v =>
          cases hy with
          | kb => exact boolOp_ok hty h
    · cases h
  · split at h
    · cases hx with
      | kb =>
        cases hy with
        | iv _ _ hy => cases hy with
          | v => exact boolOp_ok hty h
    · cases hx with
      | kb =>
        cases hy with
        | kb => exact boolOp_ok hty h
    · cases h
  · cases h
theorem map_ev {f : AF} {a : Act} (hf : FR M N U f a.tmps) (xs : Array Operand) : (xs.toList.map (ev f)).length = (xs.map a.eval).size ∧ ∀ j p, (xs.toList.map (ev f))[j]? = some p → VR M N U p ((xs.map a.eval).getD j undef) := by
  refine ⟨by simp, fun j p hp => ?_⟩
  rw [List.getElem?_map, Option.map_eq_some_iff] at hp
  obtain ⟨x, hx, rfl⟩ := hp
  have hx' : xs[j]? = some x := by simpa using hx
  rw [Array.getD_eq_getD_getElem?, Array.getElem?_map, hx']
  exact ev_ok hf x
theorem fieldOf_some {t : TypeId} {e : TyE} (he : EntryOK P t e) {k off : Nat} {u : TypeId} (hf : fieldOf e k = some (off, u)) : ∃ (F : Array Field) (fd : Field), P.underlying t = some (.struct F) ∧ F[k]? = some fd ∧ fd.offset = off ∧ fd.type = u := by
  unfold fieldOf at hf
  cases hk : e.k with
  | strct fs =>
    simp only [hk] at hf
    obtain ⟨_, h2, _⟩ := he
    rw [hk] at h2
    obtain ⟨F, h3, h4⟩ := h2
    rw [← h4, List.getElem?_map, Option.map_eq_some_iff] at hf
    obtain ⟨fd, h5, h6⟩ := hf
    simp only [Prod.mk.injEq] at h6
    exact ⟨F, fd, h3, by simpa using h5, h6.1, h6.2⟩
  | _ => simp [hk] at hf
theorem ptrAdd_ok {n : Nat} {p q : PV} {x : Value} (hx : VR M N U p x) (h : ptrAdd n p = some q) : ∃ b o, x = .pointer (some ⟨b, o, none⟩) ∧ VR M N U q (.pointer (some ⟨b, o + n, none⟩)) := by
  cases hx with
  | ptr i off hU => simp only [ptrAdd, Option.some.injEq] at h; subst h; exact ⟨_, _, rfl, .ptr _ _ hU⟩
  | eptr i sz k off hU => simp only [ptrAdd, Option.some.injEq] at h; subst h; exact ⟨_, _, rfl, by rw [Nat.add_assoc]; exact .eptr _ _ _ _ hU⟩
  | iv y _ hi =>
    cases hi with
    | iptr cs b off hm hr =>
      simp only [ptrAdd, Option.some.injEq] at h
      subst h
      refine ⟨b, off, rfl, .iv _ _ (.iptr _ _ _ (fun j hj => ?_) (fun j p hp => ?_))⟩
      · rw [List.length_drop] at hj
        rw [Nat.add_assoc]; exact hm (n + j) (by omega)
      · rw [List.getElem?_drop] at hp
        rw [Nat.add_assoc]; exact hr (n + j) p hp
    | _ => simp [ptrAdd] at h
  | _ => simp [ptrAdd] at h
theorem indexAddrA_ok {t u : TypeId} {eu : TyE} (hu : P.underlying t = some (.slice u)) (heu : EntryOK P u eu) {p q : PV} {k : IntKind} {n : Int} {C : Prop} {x : Value} (hx : VR M N U p x)
    (hsz : (∃ m el, p = .iv (.imm eu.size m el)) ∨ ∃ i off len, p = .sl i off len eu.size) (h : indexAddrA p n = some (q, C)) (hC : C) : ∃ y, (Instr.indexAt t x (.int k n)).run P w = .ok y w ∧ VR M N U q y := by
  rcases hsz with ⟨m, el, rfl⟩ | ⟨i, off, len, rfl⟩
  · simp only [indexAddrA, Option.some.injEq, Prod.mk.injEq] at h
    obtain ⟨rfl, rfl⟩ := h
    cases hx with
    | iv _ _ hi =>
      cases hi with
      | imm0 sz el a cap => omega
      | imm sz m el b off cap hn hc hl hm hr =>
        refine ⟨.pointer (some ⟨b, off + n.toNat * eu.size, none⟩), ?_, .iv _ _ (.iptr _ _ _ (fun j hj => ?_) (fun j p hp => hr n.toNat j p (by omega) hp))⟩
        · simp only [Instr.indexAt, asIntOf]
          simp [run_underlying hu, hC.1, hC.2, run_sizeOf' heu, add_addr]
        · rw [hl n.toNat (by omega)] at hj
          exact hm n.toNat j (by omega) hj
  · simp only [indexAddrA, Option.some.injEq, Prod.mk.injEq] at h
    obtain ⟨rfl, rfl⟩ := h
    cases hx with
    | sl0 => omega
    | sl _ _ _ _ cap hU h0 hl hc he =>
      refine ⟨.pointer (some ⟨N.blk i, (off + n.toNat) * eu.size + 0, none⟩), ?_, .eptr _ _ _ _ hU⟩
      simp only [Instr.indexAt, asIntOf]
      simp [run_underlying hu, hC.1, hC.2, run_sizeOf' heu, add_addr, Nat.add_mul]
theorem sliceA_ok {t u : TypeId} {eu : TyE} (hu : P.underlying t = some (.slice u)) (heu : EntryOK P u eu) {m : Nat} {el : Nat → List IV} {ka kb : IntKind} {na nb : Int} {q : PV} {C : Prop} {x : Value} (hx : VR M N U (.iv (.imm eu.size m el)) x)
    (h : some (PV.iv (.imm eu.size (nb.toNat - na.toNat) (fun k => el (na.toNat + k))), 0 ≤ na ∧ na ≤ nb ∧ nb ≤ m) = some (q, C)) (hC : C) : ∃ y, (Instr.sliceAt t x (some (.int ka na)) (some (.int kb nb)) none).run P w = .ok y w ∧ VR M N U q y := by
  simp only [Option.some.injEq, Prod.mk.injEq] at h
  obtain ⟨rfl, rfl⟩ := h
  obtain ⟨h0, h1, h2⟩ := hC
  have hb : (nb.toNat : Int) = nb := Int.toNat_of_nonneg (by omega)
  cases hx with
  | iv _ _ hi =>
    cases hi with
    | imm0 sz el a cap =>
      have ea : na = 0 := by omega
      have eb : nb = 0 := by omega
      subst ea; subst eb
      refine ⟨.slice (if cap = 0 then a else a.map (·.add (0 * eu.size))) 0 cap, ?_, .iv _ _ (.imm0 _ _ _ _)⟩
      simp [Instr.sliceAt, Instr.slice, Instr.sliceBounds, Instr.sliceBound, asIntOf, run_underlying hu, run_sizeOf' heu]
    | imm sz m el b off cap hn hc hl hm hr =>
      refine ⟨.slice (if cap = na.toNat then some ⟨b, off, none⟩ else (some (⟨b, off, none⟩ : Addr)).map (·.add (na.toNat * eu.size))) (nb.toNat - na.toNat) (cap - na.toNat), ?_, ?_⟩
      · have g1 : nb ≤ (cap : Int) := by omega
        have g2 : na ≤ (nb.toNat : Int) := by omega
        simp [Instr.sliceAt, Instr.slice, Instr.sliceBounds, Instr.sliceBound, asIntOf, run_underlying hu, run_sizeOf' heu, h0, g1, (by omega : 0 ≤ nb)]
        intro hh; omega
      · by_cases hz : nb.toNat - na.toNat = 0
        · rw [hz]; exact .iv _ _ (.imm0 _ _ _ _)
        · rw [if_neg (by omega), Option.map_some, add_addr]
          refine .iv _ _ (IR.imm (sz := eu.size) (n := nb.toNat - na.toNat) (el := fun k => el (na.toNat + k)) (b := b) (off := off + na.toNat * eu.size) (cap := cap - na.toNat) (by omega) (by omega) (fun k hk => hl _ (by omega)) (fun k j hk hj => ?_) (fun k j p hk hp => ?_))
          · have := hm (na.toNat + k) j (by omega) hj
            rwa [Nat.add_mul, ← Nat.add_assoc] at this
          · have := hr (na.toNat + k) j p (by omega) hp
            rwa [Nat.add_mul, ← Nat.add_assoc] at this
theorem strSlice_ok {t : TypeId} (hu : P.underlying t = some .string) {b : ByteArray} {ka kb : IntKind} {na nb : Int} (hC : 0 ≤ na ∧ na ≤ nb ∧ nb ≤ b.size) :
    (Instr.sliceAt t (.string b) (some (.int ka na)) (some (.int kb nb)) none).run P w = .ok (.string (b.extract na.toNat nb.toNat)) w := by
  obtain ⟨h0, h1, h2⟩ := hC
  have hb : (nb.toNat : Int) = nb := Int.toNat_of_nonneg (by omega)
  have g2 : na ≤ (nb.toNat : Int) := by omega
  simp [Instr.sliceAt, Instr.slice, Instr.sliceBounds, Instr.sliceBound, asIntOf, run_underlying hu, h0, h2, (by omega : 0 ≤ nb)]
  intro hh; omega
end
end Go.Al
namespace Go.Al
open Go.MapKept
section
variable {P : Program} {ty : Ty} {M : Mem} {N : Nm} {U : Nat → Prop} {w : World}
theorem fieldsOf_eq {t : TypeId} {F : Array Field} (h : P.underlying t = some (.struct F)) : P.fieldsOf t = F := by
  simp [Program.fieldsOf, h]
theorem eqOK_of {t : TypeId} {F : Array Field} (h : P.underlying t = some (.struct F)) (h1 : P.stoodInHeld t = false) (h2 : P.eqGuardType P.depth t = false) (h3 : (F.toList.all fun f => f.name != "_") = true) : EqOK P t :=
  ⟨h1, h2, fun f hf => by
    rw [fieldsOf_eq h] at hf
    have := List.all_eq_true.1 h3 f hf
    simpa using this⟩
theorem eqFs_ok (hty : TyOK P ty) {f : TypeId → PV → PV → Option Bool} {D : Nat} (hf : ∀ u p q b, f u p q = some b → ∀ x y, VR M N U p x → VR M N U q y → (Op.equalIn D u x y).run P w = .ok b w)
    {cs ds : List PV} {xs ys : Array Value} (hx : VR M N U (.agg cs) (.agg xs)) (hy : VR M N U (.agg ds) (.agg ys)) :
    ∀ (F : List Field) (b : Bool), (∀ g ∈ F, g.name ≠ "_") → eqFs f ty (F.map fun g => (g.offset, g.type)) cs ds = some b → (Op.eqFields D xs ys F).run P w = .ok b w
  | [], b, _, h => by simp only [List.map_nil, eqFs, Option.some.injEq] at h; subst h; simp [Op.eqFields]
  | g :: F, b, hn, h => by
    simp only [List.map_cons, eqFs] at h
    split at h
    · rename_i eu heu
      split at h
      · rename_i p q hp hq
        split at h
        · rename_i b1 b2 h1 h2
          simp only [Option.some.injEq] at h
          subst h
          obtain ⟨_, hx0, hx1, hx2⟩ := hx.agg_inv
          cases hx0
          obtain ⟨_, hy0, hy1, hy2⟩ := hy.agg_inv
          cases hy0
          obtain ⟨x, hx3, hx4⟩ := readAs_part (P := P) (w := w) (hty _ _ heu) hx1 hx2 hp
          obtain ⟨y, hy3, hy4⟩ := readAs_part (P := P) (w := w) (hty _ _ heu) hy1 hy2 hq
          have h3 := hf _ _ _ _ h1 x y hx4 hy4
          have h4 := eqFs_ok hty hf hx hy F b2 (fun g hg => hn g (List.mem_cons_of_mem _ hg)) h2
          simp only [Op.eqFields, if_pos (hn g List.mem_cons_self), Sem.run_bind, hx3, hy3, h3, Result.andThen_ok]
          cases b1 with
          | false => simp
          | true => simpa using h4
        · cases h
      · cases h
    · cases h
theorem eqA_ok (hty : TyOK P ty) : ∀ (d : Nat) (t : TypeId) (p q : PV) (b : Bool), eqA ty d t p q = some b → ∀ x y, VR M N U p x → VR M N U q y → ∀ m, (Op.equalIn (d + m) t x y).run P w = .ok b w
  | 0, _, _, _, _, h, _, _, _, _, _ => by simp [eqA] at h
  | d + 1, t, p, q, b, h, x, y, hx, hy, m => by
    rw [show d + 1 + m = (d + m) + 1 by omega]
    simp only [eqA] at h
    split at h
    · rename_i k _ _ _ _ he
      have hu := (hty t _ he).2.1.1
      split at h
      · split at h
        · simp only [Option.some.injEq] at h
          subst h
          cases hx with
          | iv _ _ hx => cases hx
                         cases hy with
                         | iv _ _ hy => cases hy
                                        rename_i e
                                        subst e
                                        rw [run_equalIn_int _ _ _ _ _ _ _ hu]
                                        congr 1
        · cases h
      · cases h
    · rename_i _ _ _ _ he
      have hu := (hty t _ he).2.1.1
      split at h
      · simp only [Option.some.injEq] at h
        subst h
        cases hx with
        | iv _ _ hx => cases hx
                       cases hy with
                       | iv _ _ hy => cases hy
                                      rw [run_equalIn_string _ _ _ _ _ hu, str_eq]
      · cases h
    · rename_i _ _ _ _ he
      have hu := (hty t _ he).2.1.1
      split at h
      · simp only [Option.some.injEq] at h
        subst h
        cases hx with
        | iv _ _ hx => cases hx
                       cases hy with
                       | iv _ _ hy => cases hy; rw [run_equalIn_bool' _ _ _ _ _ hu]
      · cases h
    · rename_i fs _ _ _ he
      obtain ⟨_, ⟨F, hu, hF⟩, hq⟩ := hty t _ he
      obtain ⟨hq1, hq2, hq3⟩ := hq rfl
      split at h
      · obtain ⟨xs, rfl, _, _⟩ := hx.agg_inv
        obtain ⟨ys, rfl, _, _⟩ := hy.agg_inv
        have hfo := fieldsOf_eq hu
        rw [run_equalIn_struct _ _ _ _ _ (by rw [hfo]; exact hu) hq1, hfo]
        rw [hfo] at hq3
        refine eqFs_ok hty (f := eqA ty d) (fun u p q b hb x y hx hy => eqA_ok hty d u p q b hb x y hx hy m) hx hy _ _ hq3 ?_
        rw [hF]; exact h
      · cases h
    · cases h
theorem aggOp_ok (hty : TyOK P ty) {t : TypeId} {op : BinOp} {cs ds : List PV} {r : PV} {C : Prop} {u v : Operand} {x y : Value} (h : aggOp ty t op (.agg cs) (.agg ds) = some (r, C)) (hx : VR M N U (.agg cs) x) (hy : VR M N U (.agg ds) y) :
    C ∧ ∃ z, (do eqGuard op t u v x y; binOp op t x y : Sem Value).run P w = .ok z w ∧ VR M N U r z := by
  have key : ∀ b, eqA ty 10 t (.agg cs) (.agg ds) = some b → ∃ xs ys, x = .agg xs ∧ y = .agg ys ∧ P.eqGuardType P.depth t = false ∧ (Op.equalIn 10000 t (.agg xs) (.agg ys)).run P w = .ok b w := by
    intro b hb
    have h1 := eqA_ok (P := P) (w := w) hty 10 t _ _ b hb x y hx hy 9990
    obtain ⟨xs, rfl, _, _⟩ := hx.agg_inv
    obtain ⟨ys, rfl, _, _⟩ := hy.agg_inv
    refine ⟨xs, ys, rfl, rfl, ?_, h1⟩
    simp only [eqA] at hb
    split at hb
    · cases hb
    · cases hb
    · cases hb
    · rename_i he
      exact ((hty t _ he).2.2 rfl).2.1
    · cases hb
  unfold aggOp at h
  split at h
  · split at h
    · rename_i b hb
      simp only [Option.some.injEq, Prod.mk.injEq] at h
      obtain ⟨rfl, rfl⟩ := h
      obtain ⟨xs, ys, rfl, rfl, h1, h2⟩ := key b hb
      refine ⟨trivial, .bool b, ?_, .iv _ _ (.v _)⟩
      rw [Sem.run_bind, run_eqGuard_agg _ _ _ _ _ _ _ h1, Result.andThen_ok, run_eql_struct, h2]; rfl
    · cases h
  · split at h
    · rename_i b hb
      simp only [Option.some.injEq, Prod.mk.injEq] at h
      obtain ⟨rfl, rfl⟩ := h
      obtain ⟨xs, ys, rfl, rfl, h1, h2⟩ := key b hb
      refine ⟨trivial, .bool (!b), ?_, .iv _ _ (.v _)⟩
      rw [Sem.run_bind, run_eqGuard_agg _ _ _ _ _ _ _ h1, Result.andThen_ok, run_neq_struct, h2]; rfl
    · cases h
  · cases h
theorem pk_ok (kc : KC) (k : kc.K) : VR M N U (kc.pk k) (kc.ek k) := by
  cases kc with
  | str => exact .iv _ _ (.v _)
  | int k => exact .iv _ _ (.v _)
  | si j =>
    refine .agg _ _ (by rfl) fun i p hp => ?_
    match i with
    | 0 => simp at hp; subst hp; exact .iv _ _ (.v _)
    | 1 => simp at hp; subst hp; exact .iv _ _ (.v _)
    | i + 2 => simp at hp
theorem dk_ok {kc : KC} {p : PV} {k : kc.K} {x : Value} (h : kc.dk p = some k) (hx : VR M N U p x) : x = kc.ek k := by
  cases kc with
  | str =>
    simp only [KC.dk] at h
    split at h
    · simp only [Option.some.injEq] at h
      subst h
      cases hx with
      | iv _ _ hx => cases hx; rfl
    · cases h
  | int j =>
    simp only [KC.dk] at h
    split at h
    · split at h
      · rename_i e
        subst e
        simp only [Option.some.injEq] at h
        subst h
        cases hx with
        | iv _ _ hx => cases hx; rfl
      · cases h
    · cases h
  | si j =>
    simp only [KC.dk] at h
    split at h
    · split at h
      · rename_i e
        subst e
        simp only [Option.some.injEq] at h
        subst h
        obtain ⟨ys, rfl, h1, h2⟩ := hx.agg_inv
        have g0 := h2 0 _ rfl
        have g1 := h2 1 _ rfl
        obtain ⟨ys⟩ := ys
        match ys, h1 with
        | [a, b], _ =>
          simp at g0 g1
          cases g0 with
          | iv _ _ g0 =>
            cases g1 with
            | iv _ _ g1 => cases g0; cases g1; rfl
      · cases h
    · cases h
theorem keyKind_str {kt : TypeId} (hty : TyOK P ty) (h : keyKind ty kt = some .str) : P.underlying kt = some .string := by
  unfold keyKind at h
  split at h
  · rename_i he; exact (hty _ _ he).2.1.1
  · cases h
  · split at h <;> cases h
  · cases h
theorem keyKind_int {kt : TypeId} {k : IntKind} (hty : TyOK P ty) (h : keyKind ty kt = some (.int k)) : P.underlying kt = some (.int k) := by
  unfold keyKind at h
  split at h
  · cases h
  · rename_i he; simp only [Option.some.injEq, KC.int.injEq] at h; subst h; exact (hty _ _ he).2.1.1
  · split at h <;> cases h
  · cases h
theorem equalIn_key {kc : KC} {kt : TypeId} (hty : TyOK P ty) (h : keyKind ty kt = some kc) (a b : kc.K) : (Op.equal kt (kc.ek a) (kc.ek b)).run P w = .ok (decide (a = b)) w := by
  have key : ∀ (r : Bool), eqA ty 10 kt (kc.pk a) (kc.pk b) = some r → (Op.equal kt (kc.ek a) (kc.ek b)).run P w = .ok r w := fun r hr =>
    eqA_ok (M := Mem.base) (N := ⟨fun _ => 0, fun _ => 0⟩) (U := fun _ => True) hty 10 kt _ _ r hr _ _ (pk_ok kc a) (pk_ok kc b) 9990
  unfold keyKind at h
  split at h
  · rename_i he
    simp only [Option.some.injEq] at h
    subst h
    refine key _ ?_
    simp [eqA, he, KC.pk]
  · rename_i he
    simp only [Option.some.injEq] at h
    subst h
    refine key _ ?_
    simp [eqA, he, KC.pk]
  · rename_i he
    split at h
    · rename_i ha hb
      simp only [Option.some.injEq] at h
      subst h
      refine key _ ?_
      obtain ⟨a1, a2⟩ := a
      obtain ⟨b1, b2⟩ := b
      simp [eqA, eqFs, he, ha, hb, KC.pk, readAs, TK.agg, headCell]
    · cases h
  · cases h
def fidx (kc : KC) {V : Type} : List (kc.K × V) → kc.K → Option Nat
  | [], _ => none
  | (a, _) :: r, k => if a = k then some 0 else (fidx kc r k).map (· + 1)
section
variable {kc : KC} {V : Type}
theorem fidx_some : ∀ {m : List (kc.K × V)} {k : kc.K} {i : Nat}, fidx kc m k = some i → ∃ v, m[i]? = some (k, v) ∧ (∀ z, lkD kc m k z = v) ∧ hasK kc m k = true ∧ (∀ v', putK kc m k v' = m.set i (k, v')) ∧ delK kc m k = m.eraseIdx i
  | [], _, _, h => by simp [fidx] at h
  | (a, b) :: r, k, i, h => by
    simp only [fidx] at h
    split at h
    · rename_i e
      simp only [Option.some.injEq] at h
      subst h; subst e
      exact ⟨b, rfl, fun z => by simp [lkD], by simp [hasK], fun v' => by simp [putK], by simp [delK]⟩
    · rename_i e
      obtain ⟨j, hj, rfl⟩ := Option.map_eq_some_iff.1 h
      obtain ⟨v, h1, h2, h3, h4, h5⟩ := fidx_some hj
      exact ⟨v, by simpa using h1, fun z => by simp [lkD, e, h2], by simp [hasK, e, h3], fun v' => by simp [putK, e, h4], by simp [delK, e, h5]⟩
theorem fidx_none : ∀ {m : List (kc.K × V)} {k : kc.K}, fidx kc m k = none → (∀ z, lkD kc m k z = z) ∧ hasK kc m k = false ∧ (∀ v', putK kc m k v' = m ++ [(k, v')]) ∧ delK kc m k = m
  | [], _, _ => ⟨fun z => rfl, rfl, fun v => rfl, rfl⟩
  | (a, b) :: r, k, h => by
    simp only [fidx] at h
    split at h
    · cases h
    · rename_i e
      obtain ⟨h2, h3, h4, h5⟩ := fidx_none (Option.map_eq_none_iff.1 h)
      exact ⟨fun z => by simp [lkD, e, h2], by simp [hasK, e, h3], fun v' => by simp [putK, e, h4], by simp [delK, e, h5]⟩
def KeysL (kc : KC) {V : Type} : List MapEntry → List (kc.K × V) → Prop
  | [], [] => True
  | e :: r, x :: m => e.key = kc.ek x.1 ∧ KeysL kc r m
  | _, _ => False
theorem keysL_of : ∀ {es : List MapEntry} {m : List (kc.K × V)}, es.length = m.length → (∀ (j : Nat) (x : kc.K × V), m[j]? = some x → (es.getD j default).key = kc.ek x.1) → KeysL kc es m
  | [], [], _, _ => trivial
  | e :: r, x :: m, hl, h => ⟨by simpa using h 0 x rfl, keysL_of (by simpa using hl) fun j x hj => by simpa using h (j + 1) x (by simpa using hj)⟩
  | [], _ :: _, hl, _ => by simp at hl
  | _ :: _, [], hl, _ => by simp at hl
theorem findNow_str : ∀ {es : List MapEntry} {m : List ((KC.str).K × V)} {k : ByteArray} (i : Nat), KeysL .str es m → Instr.findNow .string (.string k) es i = some ((fidx .str m k).map fun j => (i + j, (es.getD j default).val))
  | [], [], _, _, _ => rfl
  | e :: r, (a, b) :: m, k, i, h => by
    obtain ⟨h1, h2⟩ := h
    simp only [KC.ek] at h1
    simp only [Instr.findNow, h1, Instr.sameNow, fidx]
    rw [beq_toListBytes, str_eq]
    by_cases hk : a = k
    · subst hk; simp
    · have hb : decide (k = a) = false := by simpa using fun e => hk e.symm
      rw [hb, if_neg hk, findNow_str (i + 1) h2]
      simp only [Option.map_map, Option.some.injEq]
      congr 1
      funext j
      simp; omega
  | [], _ :: _, _, _, h => h.elim
  | _ :: _, [], _, _, h => h.elim
theorem findNow_int {q : IntKind} : ∀ {es : List MapEntry} {m : List ((KC.int q).K × V)} {k : Int} (i : Nat), KeysL (.int q) es m → Instr.findNow (.int q) (.int q k) es i = some ((fidx (.int q) m k).map fun j => (i + j, (es.getD j default).val))
  | [], [], _, _, _ => rfl
  | e :: r, (a, b) :: m, k, i, h => by
    obtain ⟨h1, h2⟩ := h
    simp only [KC.ek] at h1
    simp only [Instr.findNow, h1, Instr.sameNow, fidx, if_true]
    by_cases hk : a = k
    · subst hk; simp
    · have : ¬ k = a := fun e => hk e.symm
      have hb : (k == a) = false := by simpa using this
      rw [hb, if_neg hk, findNow_int (i + 1) h2]
      simp only [Option.map_map, Option.some.injEq]
      congr 1
      funext j
      simp; omega
  | [], _ :: _, _, _, h => h.elim
  | _ :: _, [], _, _, h => h.elim
theorem findAsking_ok {kt : TypeId} (hty : TyOK P ty) (hk : keyKind ty kt = some kc) : ∀ {es : List MapEntry} {m : List (kc.K × V)} {k : kc.K} (i : Nat), KeysL kc es m →
    (Instr.findAsking kt (kc.ek k) es i).run P w = .ok ((fidx kc m k).map fun j => (i + j, (es.getD j default).val)) w
  | [], [], _, _, _ => by simp [Instr.findAsking, fidx]
  | e :: r, (a, b) :: m, k, i, h => by
    obtain ⟨h1, h2⟩ := h
    simp only [Instr.findAsking, h1, Sem.run_bind, equalIn_key (P := P) (w := w) hty hk, Result.andThen_ok, fidx]
    by_cases hka : a = k
    · subst hka; simp
    · have : ¬ k = a := fun e => hka e.symm
      rw [if_neg hka]
      simp only [this, decide_false, Bool.false_eq_true, if_false, findAsking_ok hty hk (i + 1) h2, Option.map_map]
      congr 2
      funext j
      simp; omega
  | [], _ :: _, _, _, h => h.elim
  | _ :: _, [], _, _, h => h.elim
theorem findKey_ok {kt : TypeId} (hty : TyOK P ty) (hk : keyKind ty kt = some kc) {es : List MapEntry} {m : List (kc.K × V)} (k : kc.K) (h : KeysL kc es m) :
    (Instr.findKey kt (kc.ek k) es).run P w = .ok ((fidx kc m k).map fun j => (j, (es.getD j default).val)) w := by
  have hu : ∃ d, P.underlying kt = some d := by
    unfold keyKind at hk
    split at hk
    · rename_i he; exact ⟨_, (hty _ _ he).2.1.1⟩
    · rename_i he; exact ⟨_, (hty _ _ he).2.1.1⟩
    · rename_i he; obtain ⟨F, h1, _⟩ := (hty _ _ he).2.1; exact ⟨_, h1⟩
    · cases hk
  obtain ⟨d, hd⟩ := hu
  unfold Instr.findKey
  rw [Sem.run_bind, run_underlying hd, Result.andThen_ok]
  have hask := findAsking_ok (P := P) (w := w) hty hk (k := k) 0 h
  simp only [Nat.zero_add] at hask
  cases kc with
  | str =>
    have := keyKind_str hty hk
    rw [hd] at this
    cases this
    simp only [KC.ek, findNow_str 0 h, Nat.zero_add]
    rfl
  | int q =>
    have := keyKind_int hty hk
    rw [hd] at this
    cases this
    simp only [KC.ek, findNow_int 0 h, Nat.zero_add]
    rfl
  | si q =>
    cases es with
    | nil =>
      cases m with
      | nil => simp [Instr.findNow, fidx]
      | cons => exact h.elim
    | cons e r =>
      have hn : Instr.findNow d (KC.ek (.si q) k) (e :: r) 0 = none := by
        simp only [Instr.findNow, KC.ek]
        have : Instr.sameNow d (.agg #[.string k.1, .int q k.2]) e.key = none := by cases d <;> rfl
        rw [this]
      rw [hn]
      exact hask
theorem MapR.keys {V : Type} {e : V → IV} {m : List (kc.K × V)} {ents : Array MapEntry} {clock : Nat} (h : MapR M kc e m ents clock) : KeysL kc ents.toList m :=
  keysL_of (by simpa using h.size) fun j x hj => by
    have := h.key j x hj
    rwa [Array.getD_eq_getD_getElem?, ← Array.getElem?_toList, ← List.getD_eq_getElem?_getD] at this
theorem MapR.val' {V : Type} {e : V → IV} {m : List (kc.K × V)} {ents : Array MapEntry} {clock : Nat} (h : MapR M kc e m ents clock) {j : Nat} {x : kc.K × V} (hj : m[j]? = some x) : IR M (e x.2) (ents.toList.getD j default).val := by
  have := h.val j x hj
  rwa [Array.getD_eq_getD_getElem?, ← Array.getElem?_toList, ← List.getD_eq_getElem?_getD] at this
theorem pv_ok {i : IV} {x : Value} (h : IR M i x) : VR M N U i.pv x := by
  cases h with
  | agg cs ys hl hr =>
    refine .agg _ _ (by simpa using hl) fun j p hp => ?_
    rw [List.getElem?_map, Option.map_eq_some_iff] at hp
    obtain ⟨q, hq, rfl⟩ := hp
    exact .iv _ _ (hr j q hq)
  | v x => exact .iv _ _ (.v x)
  | imm0 => exact .iv _ _ (.imm0 _ _ _ _)
  | imm _ _ _ _ _ _ h1 h2 h3 h4 h5 => exact .iv _ _ (.imm _ _ _ _ _ _ h1 h2 h3 h4 h5)
  | iptr _ _ _ h1 h2 => exact .iv _ _ (.iptr _ _ _ h1 h2)
  | imap _ _ _ _ _ _ _ _ h1 h2 h3 h4 h5 h6 h7 => exact .iv _ _ (.imap _ _ _ _ _ _ _ _ h1 h2 h3 h4 h5 h6 h7)
theorem key_checked {kt : TypeId} (hty : TyOK P ty) (hk : keyKind ty kt = some kc) (k : kc.K) (b : Bool) (n : Nat) : (Instr.checkKey b (n + 2) kt (kc.ek k)).run P w = .ok () w := by
  cases kc with
  | str => exact run_checkKey (keyKind_str hty hk) (by simp [KC.ek, IsKey]) _ _
  | int q => exact run_checkKey (keyKind_int hty hk) (by simp [KC.ek, IsKey]) _ _
  | si q =>
    unfold keyKind at hk
    split at hk
    · cases hk
    · cases hk
    · rename_i a c _ _ _ he
      split at hk
      · rename_i _ _ _ _ q' _ _ _ ha hc
        simp only [Option.some.injEq, KC.si.injEq] at hk
        have hk' : q' = q := hk
        subst hk'
        obtain ⟨F, h1, h2⟩ := (hty _ _ he).2.1
        have hq := ((hty _ _ he).2.2 rfl).2.2
        rw [fieldsOf_eq h1] at hq
        have hxa := (hty _ _ ha).2.1.1
        have hxc := (hty _ _ hc).2.1.1
        have hpa : (part a #[.string k.1, .int q' k.2] 0).run P w = .ok (.string k.1) w := by
          have := readAs_part (P := P) (w := w) (M := Mem.base) (N := ⟨fun _ => 0, fun _ => 0⟩) (U := fun _ => True) (off := 0) (cs := [.iv (.v (.string k.1)), .iv (.v (.int q' k.2))]) (ys := #[.string k.1, .int q' k.2]) (hty _ _ ha) rfl
            (fun j p hp => by match j with
              | 0 => simp at hp; subst hp; exact .iv _ _ (.v _)
              | 1 => simp at hp; subst hp; exact .iv _ _ (.v _)
              | j + 2 => simp at hp) (p := .iv (.v (.string k.1))) (by simp [readAs, TK.agg, headCell])
          obtain ⟨y, hy, hv⟩ := this
          cases hv with
          | iv _ _ hv => cases hv; exact hy
        have hpc : (part c #[.string k.1, .int q' k.2] 1).run P w = .ok (.int q' k.2) w := by
          have := readAs_part (P := P) (w := w) (M := Mem.base) (N := ⟨fun _ => 0, fun _ => 0⟩) (U := fun _ => True) (off := 1) (cs := [.iv (.v (.string k.1)), .iv (.v (.int q' k.2))]) (ys := #[.string k.1, .int q' k.2]) (hty _ _ hc) rfl
            (fun j p hp => by match j with
              | 0 => simp at hp; subst hp; exact .iv _ _ (.v _)
              | 1 => simp at hp; subst hp; exact .iv _ _ (.v _)
              | j + 2 => simp at hp) (p := .iv (.v (.int q' k.2))) (by simp [readAs, TK.agg, headCell])
          obtain ⟨y, hy, hv⟩ := this
          cases hv with
          | iv _ _ hv => cases hv; exact hy
        obtain ⟨F⟩ := F
        match F, h2, hq with
        | [], h2, _ => simp at h2
        | [_], h2, _ => simp at h2
        | _ :: _ :: _ :: _, h2, _ => simp at h2
        | [f, g], h2, hq =>
          simp at h2
          obtain ⟨⟨h3, h4⟩, h5, h6⟩ := h2
          have hf := hq f (by simp)
          have hg := hq g (by simp)
          have ca := run_checkKey (w := w) hxa (k := .string k.1) (by simp [IsKey]) b n
          have cc := run_checkKey (w := w) hxc (k := .int q' k.2) (by simp [IsKey]) b n
          unfold Instr.checkKey
          simp [KC.ek, run_underlying h1, hf, hg, h3, h4, h5, h6, hpa, hpc, ca, cc]
      · cases hk
    · cases hk
theorem valB1_ok {a b : Value} (h : valB1 a b = true) : a = b := by
  unfold valB1 at h
  split at h <;> simp_all
theorem valBs_ok : ∀ {a b : List Value}, valBs a b = true → a = b
  | [], [], _ => rfl
  | x :: r, y :: q, h => by
    simp only [valBs, Bool.and_eq_true] at h
    rw [valB1_ok h.1, valBs_ok h.2]
  | [], _ :: _, h => by simp [valBs] at h
  | _ :: _, [], h => by simp [valBs] at h
theorem valB_ok {a b : Value} (h : valB a b = true) : a = b := by
  unfold valB at h
  split at h
  · have := valBs_ok h
    congr 1
    exact Array.toList_inj.1 this
  · exact valB1_ok h
theorem lookA_ok (hty : TyOK P ty) {t : TypeId} {ok : Bool} {V : Type} {e : V → IV} {z : V} {zv : Value} {m : List (kc.K × V)} {key p : PV} {C : Prop} (h : lookA ty t ok kc e z zv m key = some (p, C)) {r : Nat} {ents : Array MapEntry} {clock : Nat}
    (hb : w.heap[r]? = some (.map ents clock)) (hm : MapR M kc e m ents clock) (hz : IR M (e z) zv) {k : Value} (hk : VR M N U key k) :
    C ∧ ∃ x, (Instr.lookup t (.map (some r)) k ok).run P w = .ok x w ∧ VR M N U p x := by
  unfold lookA at h
  split at h
  · rename_i kt et _ _ _ _ he
    have hu := (hty _ _ he).2.1.1
    split at h
    · rename_i kc' ee hkk hee
      split at h
      · rename_i k0 hd hv hdk
        have hd := of_decide_eq_true hd
        subst hd
        have hkx := dk_ok hdk hk
        subst hkx
        have hv := valB_ok hv
        have hfk := findKey_ok (P := P) (w := w) hty hkk k0 hm.keys
        have hck := key_checked (P := P) (w := w) hty hkk k0 ents.isEmpty 9998
        have hzr := run_zeroValue' (P := P) (w := w) (hty _ _ hee)
        have hg : (getObj r).run P w = .ok (.map ents clock) w := by simp [getObj, Sem.run, hb]
        have hrun : ∃ v bo, (Instr.lookup t (.map (some r)) (kc'.ek k0) ok).run P w = .ok (if ok then .tuple #[v, .bool bo] else v) w ∧ bo = hasK kc' m k0 ∧ IR M (e (lkD kc' m k0 z)) v := by
          cases hfi : fidx kc' m k0 with
          | none =>
            obtain ⟨g1, g2, _⟩ := fidx_none hfi
            rw [hfi] at hfk
            refine ⟨ee.zero, false, ?_, by rw [g2], by rw [g1, hv]; exact hz⟩
            simp [Instr.lookup, run_underlying hu, hg, hck, hfk, hzr]
          | some i =>
            obtain ⟨v, g0, g1, g2, _⟩ := fidx_some hfi
            rw [hfi] at hfk
            refine ⟨(ents.toList.getD i default).val, true, ?_, by rw [g2], by rw [g1]; exact hm.val' g0⟩
            simp [Instr.lookup, run_underlying hu, hg, hck, hfk]
        obtain ⟨v, bo, h1, h2, h3⟩ := hrun
        split at h
        · simp only [Option.some.injEq, Prod.mk.injEq] at h
          obtain ⟨rfl, rfl⟩ := h
          refine ⟨trivial, _, h1, .tup _ _ rfl fun j q hq => ?_⟩
          match j with
          | 0 => simp at hq; subst hq; exact pv_ok h3
          | 1 => simp at hq; subst hq; subst h2; exact .iv _ _ (.v _)
          | j + 2 => simp at hq
        · simp only [Option.some.injEq, Prod.mk.injEq] at h
          obtain ⟨rfl, rfl⟩ := h
          exact ⟨trivial, _, h1, pv_ok h3⟩
      · cases h
    · cases h
  · cases h
end
end
end Go.Al
namespace Go.Al
section
variable {P : Program} {ty : Ty} {M : Mem} {N : Nm} {w : World} {nt : Nat} {s : AS} {a : Act}
theorem ok_value {x : Value} {m : Sem Value} (h : m.run P w = .ok x w) : (do pure (.value (← m)) : Sem Next).run P w = .ok (.value x) w := by
  rw [Sem.run_bind, h]; rfl
theorem rop_ok (hty : TyOK P ty) (hf : Fits M N s nt a w) {o : Oper} {p : PV} {C : Prop} (h : rop ty s o.op = some (p, C)) (hC : C) :
    ∃ x, (execOp a.eval o).run P w = .ok (.value x) w ∧ VR M N (· < s.nx) p x := by
  obtain ⟨hrel, hfr, _, _⟩ := hf
  cases ho : o.op with
  | move x =>
    rw [ho] at h; simp only [rop, Option.some.injEq, Prod.mk.injEq] at h
    obtain ⟨rfl, rfl⟩ := h
    exact ⟨_, by simp only [execOp, ho]; rfl, ev_ok hfr x⟩
  | assign x =>
    rw [ho] at h; simp only [rop, Option.some.injEq, Prod.mk.injEq] at h
    obtain ⟨rfl, rfl⟩ := h
    exact ⟨_, by simp only [execOp, ho]; rfl, ev_ok hfr x⟩
  | pick c x y =>
    rw [ho] at h; simp only [rop] at h
    have hc := ev_ok hfr c
    split at h
    · rename_i he
      rw [he] at hc
      simp only [Option.some.injEq, Prod.mk.injEq] at h
      obtain ⟨rfl, rfl⟩ := h
      generalize hv : a.eval c = v at hc
      cases hc with
      | kb => exact ⟨_, by simp only [execOp, ho, hv]; simp [asBool], ev_ok hfr x⟩
    · rename_i he
      rw [he] at hc
      simp only [Option.some.injEq, Prod.mk.injEq] at h
      obtain ⟨rfl, rfl⟩ := h
      generalize hv : a.eval c = v at hc
      cases hc with
      | kb => exact ⟨_, by simp only [execOp, ho, hv]; simp [asBool], ev_ok hfr y⟩
    · cases h
  | load t x =>
    rw [ho] at h; simp only [rop] at h
    split at h
    · rename_i e he
      split at h
      · rename_i cs hb
        split at h
        · rename_i q hq
          simp only [Option.some.injEq, Prod.mk.injEq] at h
          obtain ⟨rfl, rfl⟩ := h
          obtain ⟨b, off, hx, hcell⟩ := behind_ok hrel (ev_ok hfr x) hb
          obtain ⟨y, hy, hv⟩ := readAs_load (P := P) (hty t e he) hcell hq
          exact ⟨y, by simp only [execOp, ho]; exact ok_value (by rw [hx]; simpa [Instr.loadAt, Instr.sureAddr] using hy), hv⟩
        · cases h
      · cases h
    · cases h
  | nilCheck x =>
    rw [ho] at h; simp only [rop] at h
    have hx := ev_ok hfr x
    split at h
    all_goals first
      | cases h; done
      | (rename_i he
         simp only [Option.some.injEq, Prod.mk.injEq] at h
         obtain ⟨rfl, rfl⟩ := h
         rw [he] at hx
         refine ⟨_, ?_, hx⟩
         generalize hv : a.eval x = v at hx
         first
         | (cases hx; simp only [execOp, ho, hv]; rfl)
         | (cases hx with
            | iv _ _ hx => cases hx; simp only [execOp, ho, hv]; rfl))
  | binOp op t x y t' =>
    rw [ho] at h; simp only [rop] at h
    split at h
    · rename_i cs ds hcs hds
      have h1 := ev_ok hfr x
      have h2 := ev_ok hfr y
      rw [hcs] at h1
      rw [hds] at h2
      obtain ⟨_, z, hz, hv⟩ := aggOp_ok (P := P) (w := w) hty (u := x) (v := y) h h1 h2
      exact ⟨z, by simp only [execOp, ho]; exact ok_value hz, hv⟩
    · obtain ⟨z, hz, hv⟩ := binOpA_ok (P := P) (w := w) hty (u := x) (v := y) h hC (ev_ok hfr x) (ev_ok hfr y)
      exact ⟨z, by simp only [execOp, ho]; exact ok_value hz, hv⟩
  | unOp op t x =>
    rw [ho] at h
    cases op with
    | not =>
      simp only [rop] at h
      have hx := ev_ok hfr x
      split at h
      · rename_i he
        simp only [Option.some.injEq, Prod.mk.injEq] at h
        obtain ⟨rfl, rfl⟩ := h
        rw [he] at hx
        generalize hv : a.eval x = v at hx
        cases hx with
        | kb => exact ⟨_, by simp only [execOp, ho, hv]; exact ok_value rfl, .kb _⟩
      · rename_i he
        simp only [Option.some.injEq, Prod.mk.injEq] at h
        obtain ⟨rfl, rfl⟩ := h
        rw [he] at hx
        generalize hv : a.eval x = v at hx
        cases hx with
        | kb => exact ⟨_, by simp only [execOp, ho, hv]; exact ok_value rfl, .kb _⟩
      · rename_i he
        simp only [Option.some.injEq, Prod.mk.injEq] at h
        obtain ⟨rfl, rfl⟩ := h
        rw [he] at hx
        cases hx with
        | iv _ _ hx => generalize hv : a.eval x = v at hx; cases hx with
          | v => exact ⟨_, by simp only [execOp, ho, hv]; exact ok_value rfl, .iv _ _ (.v _)⟩
      · cases h
    | _ => simp [rop] at h
  | fieldAddr t x k =>
    rw [ho] at h; simp only [rop] at h
    split at h
    · rename_i e he
      split at h
      · rename_i off u hfo
        split at h
        · rename_i eu heu
          split at h
          · cases h
          · rename_i n hn
            split at h
            · rename_i q hq
              simp only [Option.some.injEq, Prod.mk.injEq] at h
              obtain ⟨rfl, rfl⟩ := h
              obtain ⟨F, fd, h1, h2, rfl, rfl⟩ := fieldOf_some (hty t e he) hfo
              obtain ⟨b, o', hx, hv⟩ := ptrAdd_ok (ev_ok hfr x) hq
              refine ⟨_, ?_, hv⟩
              simp only [execOp, ho, hx]
              refine ok_value ?_
              have hs := run_sizeOf' (w := w) (hty _ _ heu)
              simp [Instr.fieldAt, run_underlying h1, h2, Instr.sureAddr, fieldPlace, hs, hn, add_addr]
            · cases h
        · cases h
      · cases h
    · cases h
  | field t x k =>
    rw [ho] at h; simp only [rop] at h
    split at h
    · rename_i e he
      split at h
      · rename_i off u hfo
        split at h
        · rename_i eu heu
          split at h
          · rename_i cs hcs
            split at h
            · rename_i q hq
              simp only [Option.some.injEq, Prod.mk.injEq] at h
              obtain ⟨rfl, rfl⟩ := h
              obtain ⟨F, fd, h1, h2, rfl, rfl⟩ := fieldOf_some (hty t e he) hfo
              have hx := ev_ok hfr x
              rw [hcs] at hx
              generalize hv : a.eval x = v at hx
              cases hx with
              | agg _ ys hl hr =>
                obtain ⟨y, hy, hvy⟩ := readAs_part (P := P) (w := w) (hty _ _ heu) hl hr hq
                refine ⟨y, ?_, hvy⟩
                simp only [execOp, ho, hv]
                refine ok_value ?_
                simp [Instr.field, run_underlying h1, h2, asAgg, hy]
            · cases h
          · cases h
        · cases h
      · cases h
    · cases h
  | indexAddr t x i =>
    rw [ho] at h; simp only [rop] at h
    split at h
    · rename_i u sz by_ z _ he
      have hu : P.underlying t = some (.slice u) := (hty t _ he).2.1.1
      split at h
      · rename_i eu heu
        split at h
        · rename_i k n hn
          have hi := ev_ok hfr i
          rw [hn] at hi
          have hi' : a.eval i = .int k n := by
            generalize a.eval i = v at hi
            cases hi with
            | iv _ _ hi => cases hi with
              | v => rfl
          split at h
          · rename_i sz' m el hx
            cases hb : Nat.beq sz' eu.size with
            | false => simp only [hb, cond_false] at h; cases h
            | true =>
              simp only [hb, cond_true] at h
              have hs := Nat.eq_of_beq_eq_true hb
              subst hs
              have hxx := ev_ok hfr x
              rw [hx] at hxx
              obtain ⟨y, hy, hv⟩ := indexAddrA_ok (P := P) (k := k) hu (hty _ _ heu) hxx (.inl ⟨m, el, rfl⟩) h hC
              exact ⟨y, by simp only [execOp, ho, hi']; exact ok_value hy, hv⟩
          · rename_i j off len sz' hx
            cases hb : Nat.beq sz' eu.size with
            | false => simp only [hb, cond_false] at h; cases h
            | true =>
              simp only [hb, cond_true] at h
              have hs := Nat.eq_of_beq_eq_true hb
              subst hs
              have hxx := ev_ok hfr x
              rw [hx] at hxx
              obtain ⟨y, hy, hv⟩ := indexAddrA_ok (P := P) (k := k) hu (hty _ _ heu) hxx (.inr ⟨j, off, len, rfl⟩) h hC
              exact ⟨y, by simp only [execOp, ho, hi']; exact ok_value hy, hv⟩
          · cases h
        · cases h
      · cases h
    · rename_i len u sz by_ z _ he
      have hu : P.underlying t = some (.array len u) := (hty t _ he).2.1
      split at h
      · rename_i eu heu
        split at h
        · rename_i k n hn
          have hi := ev_ok hfr i
          rw [hn] at hi
          have hi' : a.eval i = .int k n := by
            generalize a.eval i = v at hi
            cases hi with
            | iv _ _ hi => cases hi with
              | v => rfl
          split at h
          · rename_i j off hx
            simp only [Option.some.injEq, Prod.mk.injEq] at h
            obtain ⟨rfl, rfl⟩ := h
            have hxx := ev_ok hfr x
            rw [hx] at hxx
            generalize hv : a.eval x = v at hxx
            cases hxx with
            | ptr _ _ hU =>
              refine ⟨.pointer (some ⟨N.blk j, off + n.toNat * eu.size, none⟩), ?_, .ptr _ _ hU⟩
              simp only [execOp, ho, hi', hv]
              refine ok_value ?_
              simp only [Instr.indexAt, asIntOf]
              simp [run_underlying hu, hC.1, hC.2, run_sizeOf' (hty _ _ heu), add_addr, Instr.sureAddr]
          · cases h
        · cases h
      · cases h
    · cases h
  | slice t x lo hi mx =>
    rw [ho] at h
    have hint : ∀ (o : Operand) (k : IntKind) (n : Int), ev s.f o = .iv (.v (.int k n)) → a.eval o = .int k n := fun o k n he => by
      have hi := ev_ok hfr o
      rw [he] at hi
      generalize a.eval o = v at hi
      cases hi with
      | iv _ _ hi => cases hi with
        | v => rfl
    cases lo with
    | none => simp only [rop] at h; cases h
    | some lo =>
    cases hi with
    | none => simp only [rop] at h; cases h
    | some hi =>
    cases mx with
    | some mx => simp only [rop] at h; cases h
    | none =>
    simp only [rop] at h
    split at h
    · rename_i u sz by_ z _ he
      have hu : P.underlying t = some (.slice u) := (hty t _ he).2.1.1
      split at h
      · rename_i eu heu
        split at h
        · rename_i ka na hna
          split at h
          · rename_i kb nb hnb
            split at h
            · rename_i sz' m el hx
              cases hb : Nat.beq sz' eu.size with
              | false => simp only [hb, cond_false] at h; cases h
              | true =>
                simp only [hb, cond_true] at h
                have hs := Nat.eq_of_beq_eq_true hb
                subst hs
                have hxx := ev_ok hfr x
                rw [hx] at hxx
                have hla := hint lo _ _ hna
                have hlb := hint hi _ _ hnb
                obtain ⟨y, hy, hv⟩ := sliceA_ok (P := P) (w := w) (M := M) (N := N) (U := (· < s.nx)) (ka := ka) (kb := kb) (na := na) (nb := nb) hu (hty _ _ heu) hxx h hC
                exact ⟨y, by simp only [execOp, ho, hla, hlb, Option.map_some, Option.map_none]; exact ok_value hy, hv⟩
            · cases h
          · cases h
        · cases h
      · cases h
    · rename_i sz by_ z _ he
      have hu : P.underlying t = some .string := (hty t _ he).2.1.1
      split at h
      · rename_i ka na hna
        split at h
        · rename_i kb nb hnb
          split at h
          · rename_i b hx
            simp only [Option.some.injEq, Prod.mk.injEq] at h
            obtain ⟨rfl, rfl⟩ := h
            have hxx := ev_ok hfr x
            rw [hx] at hxx
            have hx' : a.eval x = .string b := by
              generalize a.eval x = v at hxx
              cases hxx with
              | iv _ _ hi => cases hi with
                | v => rfl
            have hla := hint lo _ _ hna
            have hlb := hint hi _ _ hnb
            refine ⟨.string (b.extract na.toNat nb.toNat), ?_, .iv _ _ (.v _)⟩
            simp only [execOp, ho, hla, hlb, hx', Option.map_some, Option.map_none]
            exact ok_value (strSlice_ok hu hC)
          · cases h
        · cases h
      · cases h
    · cases h
  | index t x i =>
    rw [ho] at h; simp only [rop] at h
    split at h
    · rename_i sz by_ z _ he
      have hu : P.underlying t = some .string := (hty t _ he).2.1.1
      split at h
      · rename_i k n hn
        split at h
        · rename_i b hx
          simp only [Option.some.injEq, Prod.mk.injEq] at h
          obtain ⟨rfl, rfl⟩ := h
          have hi := ev_ok hfr i
          rw [hn] at hi
          have hi' : a.eval i = .int k n := by
            generalize a.eval i = v at hi
            cases hi with
            | iv _ _ hi => cases hi with
              | v => rfl
          have hxx := ev_ok hfr x
          rw [hx] at hxx
          have hx' : a.eval x = .string b := by
            generalize a.eval x = v at hxx
            cases hxx with
            | iv _ _ hi => cases hi with
              | v => rfl
          refine ⟨_, ?_, .iv _ _ (.v _)⟩
          simp only [execOp, ho, hi', hx']
          refine ok_value ?_
          have hlt : n.toNat < b.size := by omega
          have hg : b[n.toNat]? = some (b.data.toList.getD n.toNat 0) := by
            rw [getElem?_pos b n.toNat hlt]
            have h0 : n.toNat < b.data.size := hlt
            have h1 : b.data.toList.getD n.toNat 0 = b.data[n.toNat] := by
              rw [List.getD_eq_getElem?_getD, Array.getElem?_toList, Array.getElem?_eq_getElem h0]; rfl
            rw [h1]; rfl
          simp only [Instr.index, asIntOf]
          simp [run_underlying hu, hC.1, hg]
        · cases h
      · cases h
    · cases h
  | build t parts =>
    rw [ho] at h; simp only [rop] at h
    split at h
    · rename_i e he
      split at h
      · rename_i fs hk
        split at h
        · rename_i pl hpl
          split at h
          · rename_i cs hcs
            rw [force_eq] at h
            simp only [Option.some.injEq, Prod.mk.injEq] at h
            obtain ⟨rfl, rfl⟩ := h
            have hty' := hty t e he
            have hk' := hty'.2.1
            rw [hk] at hk'
            obtain ⟨F, h1, h2⟩ := hk'
            have hz := run_zeroValue' (w := w) hty'
            obtain ⟨ys', h3, h4⟩ := fillA_ok (M := M) (N := N) (U := (· < s.nx)) (vals := (parts.map fun x => (x.1, a.eval x.2)).toList) hcs (by simp) (fun j x y hx hy => by
              rw [List.getElem?_map, Option.map_eq_some_iff] at hx
              obtain ⟨z, hz, rfl⟩ := hx
              have hz' : parts[j]? = some z := by simpa using hz
              have : some (z.1, a.eval z.2) = some y := by rw [← hy]; simp [hz']
              simp only [Option.some.injEq] at this
              subst this
              exact ⟨rfl, ev_ok hfr z.2⟩) (zcells_ok e.zero)
            refine ⟨.agg ys', ?_, .agg _ _ h4.1 h4.2⟩
            simp only [execOp, ho]
            refine ok_value ?_
            have hmap : ∀ (fl : List Field) (pl : List (Nat × Nat)), placesA ty (fl.map fun f => (f.offset, f.type)) = some pl → (fl.mapM (fun f => do pure (f.offset, ← sizeOf f.type) : Field → Sem (Nat × Nat))).run P w = .ok pl w := by
              intro fl
              induction fl with
              | nil => intro pl hp; simp only [List.map_nil, placesA, Option.some.injEq] at hp; subst hp; rfl
              | cons f fl ih =>
                intro pl hp
                simp only [List.map_cons, placesA] at hp
                split at hp
                · rename_i e' he'
                  split at hp
                  · rename_i l hl
                    simp only [Option.some.injEq] at hp
                    subst hp
                    rw [List.mapM_cons, Sem.run_bind, Sem.run_bind, run_sizeOf' (hty _ _ he'), Result.andThen_ok, Sem.run_pure, Result.andThen_ok, Sem.run_bind, ih l hl]; rfl
                  · cases hp
                · cases hp
            have hm := hmap F.toList pl (by rw [h2]; exact hpl)
            have hm' : (F.mapM (fun f => do pure (f.offset, ← sizeOf f.type) : Field → Sem (Nat × Nat))).run P w = .ok pl.toArray w := by
              rw [Array.mapM_eq_mapM_toList, Sem.run_map, hm]; rfl
            have hplace : (fun (i : Nat) => pl.toArray[i]?) = (fun (i : Nat) => pl[i]?) := by funext i; simp
            simp only [Instr.build, Sem.run_bind, hz, Result.andThen_ok, run_underlying h1, hm']
            rw [hplace, h3]
            rfl
          · cases h
        · cases h
      · rename_i n u hk
        split at h
        · rename_i eu heu
          split at h
          · rename_i cs hcs
            rw [force_eq] at h
            simp only [Option.some.injEq, Prod.mk.injEq] at h
            obtain ⟨rfl, rfl⟩ := h
            have hty' := hty t e he
            have hk' := hty'.2.1
            rw [hk] at hk'
            have hz := run_zeroValue' (w := w) hty'
            obtain ⟨ys', h3, h4⟩ := fillA_ok (M := M) (N := N) (U := (· < s.nx)) (vals := (parts.map fun x => (x.1, a.eval x.2)).toList) hcs (by simp) (fun j x y hx hy => by
              rw [List.getElem?_map, Option.map_eq_some_iff] at hx
              obtain ⟨z, hz, rfl⟩ := hx
              have hz' : parts[j]? = some z := by simpa using hz
              have : some (z.1, a.eval z.2) = some y := by rw [← hy]; simp [hz']
              simp only [Option.some.injEq] at this
              subst this
              exact ⟨rfl, ev_ok hfr z.2⟩) (zcells_ok e.zero)
            refine ⟨.agg ys', ?_, .agg _ _ h4.1 h4.2⟩
            simp only [execOp, ho]
            refine ok_value ?_
            simp only [Instr.build, Sem.run_bind, hz, Result.andThen_ok, run_underlying hk', run_sizeOf' (hty _ _ heu)]
            rw [h3]
            rfl
          · cases h
        · cases h
      · cases h
    · cases h
  | extract x k =>
    rw [ho] at h; simp only [rop] at h
    split at h
    · rename_i cs hcs
      split at h
      · rename_i q hq
        simp only [Option.some.injEq, Prod.mk.injEq] at h
        obtain ⟨rfl, rfl⟩ := h
        have hx := ev_ok hfr x
        rw [hcs] at hx
        generalize hv : a.eval x = v at hx
        cases hx with
        | tup _ ys hl hr =>
          have hlt : k < ys.size := by rw [← hl]; exact (List.getElem?_eq_some_iff.1 hq).1
          refine ⟨ys.getD k undef, ?_, hr _ _ hq⟩
          simp only [execOp, ho, hv]
          refine ok_value ?_
          simp [Instr.extract, Array.getD_eq_getD_getElem?, hlt]
      · cases h
    · cases h
  | makeFunc fn first caps =>
    rw [ho] at h; simp only [rop, force_eq, Option.some.injEq, Prod.mk.injEq] at h
    obtain ⟨rfl, rfl⟩ := h
    have h1 := map_ev hfr first
    have h2 := map_ev hfr caps
    exact ⟨_, by simp only [execOp, ho]; exact ok_value rfl, .clo _ _ _ _ _ h1.1 h2.1 h1.2 h2.2⟩
  | call c =>
    obtain ⟨callee, args, argTypes⟩ := c
    rw [ho] at h
    cases callee with
    | builtin b =>
      cases b with
      | len =>
        simp only [rop] at h
        split at h
        · rename_i x t hxs hts
          have hargs : args = #[x] := by cases args; simp_all
          have htys : argTypes = #[t] := by cases argTypes; simp_all
          subst hargs htys
          have hx := ev_ok hfr x
          have hex : ∀ v, (Builtin.len_ #[t] o.type #[a.eval x]).run P w = .ok v w → (execOp a.eval o).run P w = .ok (.value v) w := by
            intro v hv
            simp only [execOp, ho, resolve]
            simp [invoke, builtin, hv]
          split at h
          · rename_i u sz by_ z _ he
            have hu : P.underlying t = some (.slice u) := (hty t _ he).2.1.1
            split at h
            · rename_i sz' n el hev
              rw [hev] at hx
              simp only [lenA, Option.some.injEq, Prod.mk.injEq] at h
              obtain ⟨rfl, rfl⟩ := h
              refine ⟨.int .i64 n, hex _ ?_, .iv _ _ (.v _)⟩
              generalize a.eval x = v at hx
              cases hx with
              | iv _ _ hi => cases hi <;> simp [Builtin.len_, run_underlying hu, goInt]
            · rename_i i off len sz' hev
              rw [hev] at hx
              simp only [lenA, Option.some.injEq, Prod.mk.injEq] at h
              obtain ⟨rfl, rfl⟩ := h
              refine ⟨.int .i64 len, hex _ ?_, .iv _ _ (.v _)⟩
              generalize a.eval x = v at hx
              cases hx <;> (simp [Builtin.len_, run_underlying hu, goInt]; done)
            · rename_i hev
              rw [hev] at hx
              simp only [lenA, Option.some.injEq, Prod.mk.injEq] at h
              obtain ⟨rfl, rfl⟩ := h
              refine ⟨.int .i64 0, hex _ ?_, .iv _ _ (.v _)⟩
              generalize a.eval x = v at hx
              cases hx with
              | iv _ _ hi => cases hi; simp [Builtin.len_, run_underlying hu, goInt]
            · cases h
          · rename_i sz by_ z _ he
            have hu : P.underlying t = some .string := (hty t _ he).2.1.1
            split at h
            · rename_i b hev
              rw [hev] at hx
              simp only [lenA, Option.some.injEq, Prod.mk.injEq] at h
              obtain ⟨rfl, rfl⟩ := h
              refine ⟨.int .i64 b.size, hex _ ?_, .iv _ _ (.v _)⟩
              generalize a.eval x = v at hx
              cases hx with
              | iv _ _ hi => cases hi; simp [Builtin.len_, run_underlying hu, goInt]
            · cases h
          · rename_i kt et sz by_ z _ he
            have hu : P.underlying t = some (.map kt et) := (hty t _ he).2.1.1
            have hfin : ∀ {r : Nat} {ents : Array MapEntry} {clock n : Nat}, w.heap[r]? = some (.map ents clock) → ents.size = n → (Builtin.len_ #[t] o.type #[.map (some r)]).run P w = .ok (.int .i64 n) w := by
              intro r ents clock n h1 h2
              simp [Builtin.len_, run_underlying hu, goInt, getObj, Sem.run, h1, h2, Result.andThen]
            split at h
            · rename_i V kc' ev' z' zv' m' hev
              rw [hev] at hx
              simp only [Option.some.injEq, Prod.mk.injEq] at h
              obtain ⟨rfl, rfl⟩ := h
              refine ⟨.int .i64 m'.length, hex _ ?_, .iv _ _ (.v _)⟩
              generalize a.eval x = v at hx
              cases hx with
              | iv _ _ hi => cases hi with
                | imap _ _ _ _ _ b ents clock hb hs => exact hfin (hrel.frz _ _ hb) hs
            · rename_i j hev
              rw [hev] at hx
              split at h
              · rename_i V kc' ev' z' zv' dv' m' hg
                simp only [Option.some.injEq, Prod.mk.injEq] at h
                obtain ⟨rfl, rfl⟩ := h
                refine ⟨.int .i64 m'.length, hex _ ?_, .iv _ _ (.v _)⟩
                obtain ⟨ents, clock, h1, h2, h3⟩ := hrel.obj _ _ hg
                generalize a.eval x = v at hx
                cases hx with
                | mp => exact hfin h1 h2.size
              · cases h
            · cases h
          · cases h
        · cases h
      | _ => simp [rop] at h
    | _ => simp [rop] at h
  | lookup t x i ok =>
    rw [ho] at h; simp only [rop] at h
    have hx := ev_ok hfr x
    have hi := ev_ok hfr i
    split at h
    · rename_i V kc' ev' z' zv' m' hev
      rw [hev] at hx
      generalize hv : a.eval x = v at hx
      cases hx with
      | iv _ _ hxi => cases hxi with
        | imap _ _ _ _ _ b ents clock hb hs hk' hv' hz hi' hc =>
          obtain ⟨_, y, h1, h2⟩ := lookA_ok (P := P) hty h (hrel.frz _ _ hb) ⟨hs, hk', hv', hi', hc⟩ hz hi
          exact ⟨y, by simp only [execOp, ho, hv]; exact ok_value h1, h2⟩
    · rename_i j hev
      rw [hev] at hx
      split at h
      · rename_i V kc' ev' z' zv' dv' m' hg
        obtain ⟨ents, clock, h1, h2, h3⟩ := hrel.obj _ _ hg
        generalize hv : a.eval x = v at hx
        cases hx with
        | mp =>
          obtain ⟨_, y, g1, g2⟩ := lookA_ok (P := P) hty h h1 h2 h3 hi
          exact ⟨y, by simp only [execOp, ho, hv]; exact ok_value g1, g2⟩
      · cases h
    · cases h
  | entry it =>
    rw [ho] at h; simp only [rop] at h
    have hx := ev_ok hfr it
    split at h
    · rename_i i hev
      rw [hev] at hx
      split at h
      · rename_i V kc' ev' m' vs x' hg
        simp only [Option.some.injEq, Prod.mk.injEq] at h
        obtain ⟨rfl, rfl⟩ := h
        obtain ⟨b, ents, clock, seen, h1, h2, h3, h4, h5, h6, h7⟩ := hrel.obj _ _ hg
        obtain ⟨j, r, rfl, h8⟩ := h7 x' rfl
        generalize hv : a.eval it = v at hx
        cases hx with
        | ptr =>
          have hj : j < ents.size := by rw [h3.size]; exact (List.getElem?_eq_some_iff.1 h8).1
          have hje : ents.getD j default = ents[j] := by simp [Array.getD_eq_getD_getElem?, hj]
          have hseen : seen = (r.reverse.map fun j => (ents.getD j default).born).toArray.push (ents[j]).born := by
            apply Array.toList_inj.1
            rw [h4]; simp [hj]
          rw [hseen] at h1
          have hnd : (ents.toList.map (·.born)).Nodup := by
            rw [List.nodup_iff_pairwise_ne, List.pairwise_iff_getElem]
            intro p q hp hq hpq he
            simp at hp hq he
            have := h3.inj p q ents[p] ents[q] (by simp [hp]) (by simp [hq]) he
            omega
          have hrun := run_entry_at (P := P) w (N.blk i) b clock _ ents clock ents[j] h1 (hrel.frz _ _ h2) (by simp) hnd
          refine ⟨_, by simp only [execOp, ho, hv]; exact ok_value hrun, .tup _ _ rfl fun q p hp => ?_⟩
          have hkey := h3.key j _ h8
          have hval := h3.val j _ h8
          rw [hje] at hkey hval
          match q with
          | 0 => simp at hp; subst hp; simp only [Array.getD_eq_getD_getElem?]; simp; rw [hkey]; exact pk_ok kc' _
          | 1 => simp at hp; subst hp; exact pv_ok hval
          | q + 2 => simp at hp
      · cases h
    · cases h
  | _ => rw [ho] at h; simp [rop] at h
end
end Go.Al
namespace Go.Al
abbrev AQ := Exit → AS → Prop
def PostA (nt : Nat) (M : Mem) (N : Nm) (s : AS) (w : World) (Q : AQ) : Exit → Act → World → Prop := fun e a' w' =>
 ∃ M' N' s', Ext M N (· < s.nx) s.h w M' N' (· < s'.nx) s'.h w' ∧ Fits M' N' s' nt a' w' ∧ Q e s'
theorem PostA.later {nt : Nat} {M M' : Mem} {N N' : Nm} {s s' : AS} {w w' : World} {Q : AQ} {e : Exit} {a : Act} {w2 : World}
  (x : Ext M N (· < s.nx) s.h w M' N' (· < s'.nx) s'.h w') (h : PostA nt M' N' s' w' Q e a w2) : PostA nt M N s w Q e a w2 := by
 obtain ⟨M2, N2, s2, h1, h2, h3⟩ := h
 exact ⟨M2, N2, s2, x.trans h1, h2, h3⟩
theorem PostA.now {nt : Nat} {M : Mem} {N : Nm} {s : AS} {w : World} {Q : AQ} {e : Exit} {a : Act} (hf : Fits M N s nt a w) (h : Q e s) : PostA nt M N s w Q e a w :=
 ⟨M, N, s, .refl _ _ _ _ _, hf, h⟩
def AW (P : Program) (nt : Nat) (c : Code) (Q : AQ) (s : AS) : Prop := ∀ M N a w, Fits M N s nt a w → c.wp P (PostA nt M N s w Q) a w
def AL (P : Program) (nt : Nat) (all rest : List Oper) (Q : AQ) (s : AS) : Prop := ∀ M N a w, Fits M N s nt a w → wpList P all.toArray (PostA nt M N s w Q) rest a w
def SL (P : Program) (nt : Nat) (all rest : List Oper) (Q : AQ) (s : AS) : Prop := ∀ M N a w, Fits M N s nt a w →
 wpStill P all.toArray w (fun a' => ∃ s', s'.h = s.h ∧ s'.nx = s.nx ∧ Fits M N s' nt a' w ∧ Q .normal s') rest a
def waits (o : Oper) (i : Nat) : Bool := o.after.toList.any fun e => Region.binds .any e && Nat.beq e.on i
def looks (all : List Oper) (o x : Oper) : Bool := match x.dst with
 | some d => (o.looksAt all.toArray).contains d
 | none => false
def downFrom : Nat → List Oper → Bool
 | _, [] => true
 | n, o :: r => (o.after.toList.all fun e => !Region.binds .any e || Nat.blt e.on n) && downFrom (n + 1) r
structure Bs where
 M : Mem
 N : Nm
 n : Nat
 h : AH
 w : World
def Bs.ext (B : Bs) (M : Mem) (N : Nm) (s : AS) (w : World) : Prop := Ext B.M B.N (· < B.n) B.h B.w M N (· < s.nx) s.h w
def PostB (nt : Nat) (B : Bs) (Q : AQ) : Exit → Act → World → Prop := fun e a' w' => ∃ M' N' s', B.ext M' N' s' w' ∧ Fits M' N' s' nt a' w' ∧ Q e s'
def isAlloc (o : Oper) : Bool := match o.op with
 | .alloc _ => true
 | _ => false
def Early (P : Program) (M : Mem) (N : Nm) (s : AS) (B : Bs) (a : Act) (w : World) (o : Oper) (blk : Nat) : Prop :=
 ∃ t v d, o.op = .alloc t ∧ (∀ w, (zeroValue t).run P w = .ok v w) ∧ o.dst = some d ∧ a.tmps[d]? = some (.pointer (some ⟨blk, 0, none⟩)) ∧ w.heap[blk]? = some (.cells v.cells t (0, 0)) ∧ M blk = none ∧
  (∀ i o, s.h.get i = some o → o.real = true → N.blk i ≠ blk) ∧ B.w.heap.size ≤ blk
structure DInv (P : Program) (nt : Nat) (all : List Oper) (todo pend : List (Nat × Oper)) (B : Bs) (M : Mem) (N : Nm) (s : AS) (listed : Array Bool) (a : Act) (w : World) : Prop where
 size : listed.size = all.length
 tl : ∀ x ∈ todo, all[x.1]? = some x.2
 pl : ∀ x ∈ pend, all[x.1]? = some x.2
 dj : ∀ x ∈ pend, ∀ y ∈ todo, y.1 ≠ x.1
 cov : ∀ i o, all[i]? = some o → listed.getD i true = false → (i, o) ∈ todo ∨ (i, o) ∈ pend
 pw : pend.Pairwise fun x y => looks all y.2 x.2 = false ∧ ∀ d, x.2.dst = some d → y.2.dst ≠ some d
 pp : ∀ x ∈ pend, ∀ y ∈ pend, waits y.2 x.1 = true ∨ looks all y.2 x.2 = false
 pa : ∀ y ∈ pend, ∀ x ∈ todo, isAlloc x.2 = true → waits y.2 x.1 = false
 er : ∃ bl : Nat → Nat, (∀ x ∈ todo, listed.getD x.1 true = true → Early P M N s B a w x.2 (bl x.1)) ∧ ∀ x ∈ todo, ∀ y ∈ todo, listed.getD x.1 true = true → listed.getD y.1 true = true → x.1 ≠ y.1 → bl x.1 ≠ bl y.1
 ap : ∃ b : Act, Fits M N s nt b w ∧ a.tmps.size = b.tmps.size ∧ a.defers = b.defers ∧
  (∀ d, (∀ x ∈ pend, listed.getD x.1 true = false → x.2.dst ≠ some d) → (∀ x ∈ todo, listed.getD x.1 true = true → x.2.dst ≠ some d) → a.tmps[d]? = b.tmps[d]?) ∧
  (∀ x ∈ pend, listed.getD x.1 true = false → ∃ v, YieldsAt P all.toArray w x.2 v b ∧ b.put x.2.dst v = b)
def AllocsOK (P : Program) (nt : Nat) (all : List Oper) : Prop := ∀ i o, all[i]? = some o → isAlloc o = true →
 o.guard = none ∧ (∃ d, o.dst = some d ∧ d < nt) ∧ (∃ t v, o.op = .alloc t ∧ ∀ w, (zeroValue t).run P w = .ok v w) ∧ (∀ k, waits o k = false) ∧
 ∀ k q, all[k]? = some q → k ≠ i → (waits q i = true ∨ looks all q o = false) ∧ ∀ d, o.dst = some d → q.dst ≠ some d
def DL (P : Program) (nt : Nat) (all : List Oper) (todo pend : List (Nat × Oper)) (Q : AQ) (s : AS) : Prop :=
 Region.noSelect all.toArray = true → downFrom 0 all = true → AllocsOK P nt all → ∀ B M N listed a w fuel, B.ext M N s w → DInv P nt all todo pend B M N s listed a w → listed.toList.count false ≤ fuel → wpAny P .any all.toArray (PostB nt B Q) fuel listed a w
def putDst (nt : Nat) (o : Oper) (p : PV) (s : AS) : Option AS :=
 match o.dst with
 | none => some s
 | some d => bif Nat.blt d nt then (match s with | ⟨f, h, n⟩ => forceP p fun p' => some ⟨(d, p') :: f, h, n⟩) else none
theorem putDst_none {nt : Nat} {o : Oper} {p : PV} {s s' : AS} (h : putDst nt o p s = some s') (hd : o.dst = none) : s' = s := by
 simp only [putDst, hd, Option.some.injEq] at h; exact h.symm
theorem putDst_some {nt : Nat} {o : Oper} {p : PV} {s s' : AS} (h : putDst nt o p s = some s') {d : Nat} (hd : o.dst = some d) : d < nt ∧ s' = { s with f := (d, p) :: s.f } := by
 simp only [putDst, hd] at h
 cases hb : Nat.blt d nt with
 | false => simp [hb] at h
 | true =>
  obtain ⟨f, hh, n⟩ := s
  simp only [hb, cond_true, forceP_eq, Option.some.injEq] at h
  exact ⟨Nat.le_of_ble_eq_true hb, h.symm⟩
def Again (P : Program) (nt : Nat) (all : List Oper) (s : AS) (o : Oper) : Prop :=
 ∀ M N b w, Fits M N s nt b w → ∃ v, YieldsAt P all.toArray w o v b ∧ Fits M N s nt (b.put o.dst v) w
def restOf (pend : List (Nat × Oper)) (o : Oper) : List (Nat × Oper) := pend.filter fun x => !waits o x.1
def UA (P : Program) (nt : Nat) (b : Code) (Q : AQ) : Nat → AS → Prop
 | 0, _ => False
 | n + 1, s => AW P nt b (fun e s' => match e with | .normal => UA P nt b Q n s' | e => Q e s') s
inductive KI where
 | code (c : Code)
 | blk (id : Nat)
 | ops (all rest : List Oper)
 | lp (R : AS → Prop)
 | sops (all rest : List Oper)
 | dops (all : List Oper) (todo pend : List (Nat × Oper))
 | unr (b : Code) (n : Nat)
 | scp
 | fro (nt : Nat) (f : AF) (res : AS → Option PV) (o : Oper) (all rest : List Oper)
 | frd (nt : Nat) (f : AF) (res : AS → Option PV) (j : Nat) (o : Oper) (all : List Oper) (todo pend : List (Nat × Oper))
def kp (P : Program) : Nat → List KI → AQ → AQ
 | _, [], Q => Q
 | nt, .code c :: k, Q => fun e s => match e with | .normal => AW P nt c (kp P nt k Q) s | e => kp P nt k Q e s
 | nt, .ops all rest :: k, Q => fun e s => match e with | .normal => AL P nt all rest (kp P nt k Q) s | e => kp P nt k Q e s
 | nt, .sops all rest :: k, Q => fun e s => match e with | .normal => SL P nt all rest (kp P nt k Q) s | e => kp P nt k Q e s
 | nt, .dops all todo pend :: k, Q => fun e s => match e with | .normal => DL P nt all todo pend (kp P nt k Q) s | e => kp P nt k Q e s
 | nt, .lp R :: k, Q => fun e s => match e with | .normal => R s | e => kp P nt k Q e s
 | nt, .blk id :: k, Q => fun e s => match e with | .exit j => if j = id then kp P nt k Q .normal s else kp P nt k Q (.exit j) s | e => kp P nt k Q e s
 | nt, .unr b n :: k, Q => fun e s => match e with | .normal => UA P nt b (kp P nt k Q) n s | e => kp P nt k Q e s
 | nt, .scp :: k, Q => fun e s => match e with | .goto _ => False | e => kp P nt k Q e s
 | _, .fro nt f res o all rest :: k, Q => fun e s => (e = .normal ∨ e = .ret) ∧ ∃ r s', res s = some r ∧ putDst nt o r ⟨f, s.h, s.nx⟩ = some s' ∧ AL P nt all rest (kp P nt k Q) s'
 | _, .frd nt f res j o all todo pend :: k, Q => fun e s => (e = .normal ∨ e = .ret) ∧ ∃ r s', res s = some r ∧ putDst nt o r ⟨f, s.h, s.nx⟩ = some s' ∧
   (∀ x ∈ restOf pend o, Again P nt all s' x.2) ∧ DL P nt all (todo.filter fun x => !Nat.beq x.1 j) (restOf pend o) (kp P nt k Q) s'
def GO (P : Program) (nt : Nat) (k : List KI) (Q : AQ) (s : AS) : Prop := kp P nt k Q .normal s
section
variable {P : Program} {nt : Nat} {Q : AQ} {k : List KI} {s : AS}
theorem AW.then {c : Code} {R : AQ} (h : AW P nt c R s) {M : Mem} {N : Nm} {a : Act} {w : World} (hf : Fits M N s nt a w) {Z : Exit → Act → World → Prop}
  (hz : ∀ e a' w' M' N' s', Ext M N (· < s.nx) s.h w M' N' (· < s'.nx) s'.h w' → Fits M' N' s' nt a' w' → R e s' → Z e a' w') : c.wp P Z a w :=
 wp_mono (h M N a w hf) fun e a' w' ⟨M', N', s', h1, h2, h3⟩ => hz e a' w' M' N' s' h1 h2 h3
theorem go_skip (h : GO P nt k Q s) : GO P nt (.code .skip :: k) Q s := fun _ _ _ _ hf => wp_skip (.now hf h)
theorem go_label {l : Nat} (h : GO P nt k Q s) : GO P nt (.code (.label l) :: k) Q s := fun _ _ _ _ hf => wp_label (.now hf h)
theorem go_ret (h : kp P nt k Q .ret s) : GO P nt (.code .ret :: k) Q s := fun _ _ _ _ hf => wp_ret (.now hf h)
theorem go_exit {id : Nat} (h : kp P nt k Q (.exit id) s) : GO P nt (.code (.exit id) :: k) Q s := fun _ _ _ _ hf => wp_exit (.now hf h)
theorem go_scope {c : Code} (h : GO P nt (.code c :: .scp :: k) Q s) : GO P nt (.code (.scope c) :: k) Q s := by
 intro M N a w hf
 refine wp_scope_straight (AW.then h hf fun e a' w' M' N' s' hx hf' hr => ?_)
 cases e with
 | goto l => exact hr
 | _ => exact ⟨M', N', s', hx, hf', hr⟩
theorem go_blk {id : Nat} (h : GO P nt k Q s) : GO P nt (.blk id :: k) Q s := h
theorem go_seq {x y : Code} (h : GO P nt (.code x :: .code y :: k) Q s) : GO P nt (.code (.seq x y) :: k) Q s := by
 intro M N a w hf
 refine wp_seq (AW.then h hf fun e a' w' M' N' s' hx hf' hr => ?_)
 cases e with
 | normal => exact AW.then hr hf' fun e a2 w2 M2 N2 s2 hx2 hf2 hr2 => ⟨M2, N2, s2, hx.trans hx2, hf2, hr2⟩
 | _ => exact ⟨M', N', s', hx, hf', hr⟩
theorem go_block {id : Nat} {x : Code} (h : GO P nt (.code x :: .blk id :: k) Q s) : GO P nt (.code (.block id x) :: k) Q s := by
 intro M N a w hf
 refine wp_block (AW.then h hf fun e a' w' M' N' s' hx hf' hr => ?_)
 cases e with
 | exit j =>
  simp only [kp] at hr
  simp only [Exit.inBlock]
  split
  ·rename_i hj; rw [if_pos hj] at hr; exact ⟨M', N', s', hx, hf', hr⟩
  ·rename_i hj; rw [if_neg hj] at hr; exact ⟨M', N', s', hx, hf', hr⟩
 | _ => exact ⟨M', N', s', hx, hf', hr⟩
theorem go_region {id : Nat} {ops : Array Oper} (h : GO P nt (.ops ops.toList ops.toList :: k) Q s) : GO P nt (.code (.region id ops false) :: k) Q s := by
 intro M N a w hf
 refine wp_region_list ?_
 have := h M N a w hf
 simpa using this
theorem go_ops_nil {all : List Oper} (h : GO P nt k Q s) : GO P nt (.ops all [] :: k) Q s := fun _ _ _ _ hf => wpList_nil (PostA.now hf h)
theorem Fits.bool {M : Mem} {N : Nm} {a : Act} {w : World} (hf : Fits M N s nt a w) {c : Operand} {t : Bool} (hc : ev s.f c = .iv (.v (.bool t))) : a.eval c = .bool t := by
 have h := ev_ok hf.2.1 c
 rw [hc] at h
 generalize a.eval c = v at h
 cases h with
 | iv _ _ h => cases h with
  | v => rfl
theorem Fits.put {M : Mem} {N : Nm} {a : Act} {w : World} (hf : Fits M N s nt a w) (d : Nat) (p : PV) (x : Value) (hd : d < nt) (hp : VR M N (· < s.nx) p x) : Fits M N { s with f := (d, p) :: s.f } nt (a.put (some d) x) w :=
 ⟨hf.1, hf.2.1.put d p x (by rw [hf.2.2.2]; exact hd) hp, hf.2.2.1, by simp [Act.put, hf.2.2.2]⟩
def setBool (s : AS) (c : Operand) (t : Bool) : AS :=
 match c with
 | .tmp d => match s with
  | ⟨f, h, n⟩ => ⟨(d, .kb t) :: f, h, n⟩
 | _ => s
theorem Fits.setBool {M : Mem} {N : Nm} {a : Act} {w : World} (hf : Fits M N s nt a w) {c : Operand} {t : Bool} (hc : ev s.f c = .iv (.v (.bool t))) : Fits M N (setBool s c t) nt a w := by
 cases c with
 | tmp d =>
  refine ⟨hf.1, fun j => ?_, hf.2.2⟩
  simp only [Al.setBool, AF.get_cons]
  split
  ·rename_i hj; subst hj
   have := hf.bool (c := .tmp j) hc
   simp only [Act.eval] at this
   rw [this]; exact .kb _
  ·exact hf.2.1 j
 | _ => exact hf
theorem go_cond_kb {c : Operand} {x y : Code} {t : Bool} (hc : ev s.f c = .kb t) (h : GO P nt (.code (bif t then x else y) :: k) Q s) : GO P nt (.code (.cond c x y) :: k) Q s := by
 intro M N a w hf
 have hb : a.eval c = .bool t := by
  have := ev_ok hf.2.1 c
  rw [hc] at this
  generalize a.eval c = v at this
  cases this; rfl
 refine wp_cond hb ?_
 cases t
 ·exact h M N a w hf
 ·exact h M N a w hf
theorem go_cond {c : Operand} {x y : Code} {t : Bool} (hc : ev s.f c = .iv (.v (.bool t))) (h1 : t = true → GO P nt (.code x :: k) Q (setBool s c true)) (h2 : t = false → GO P nt (.code y :: k) Q (setBool s c false)) :
  GO P nt (.code (.cond c x y) :: k) Q s := by
 intro M N a w hf
 have hf' := hf.setBool hc
 refine wp_cond_split (hf.bool hc) (fun ht => ?_) (fun ht => ?_)
 ·subst ht
  exact AW.then (h1 rfl) hf' fun e a2 w2 M2 N2 s2 hx2 hf2 hr2 => ⟨M2, N2, s2, by cases c <;> exact hx2, hf2, hr2⟩
 ·subst ht
  exact AW.then (h2 rfl) hf' fun e a2 w2 M2 N2 s2 hx2 hf2 hr2 => ⟨M2, N2, s2, by cases c <;> exact hx2, hf2, hr2⟩
theorem letsOut_mono {Q Q' : Exit → Act → World → Prop} (hq : ∀ e a w, Q e a w → Q' e a w) (h : LetsOut Q) : LetsOut Q' := let ⟨a, w, x⟩ := h; ⟨a, w, hq _ _ _ x⟩
theorem operWp_mono {o : Oper} {a : Act} {w : World} {K K' : Act → World → Prop} {Q Q' : Exit → Act → World → Prop} (h : ∀ a w, K a w → K' a w) (hq : ∀ e a w, Q e a w → Q' e a w) (hh : o.wp P a w K Q) : o.wp P a w K' Q' := by
 unfold Oper.wp at *
 generalize (execOp a.eval o).run P w = r at *
 cases r with
 | ok n w' =>
  cases n <;> simp only [Oper.upon] at hh ⊢ <;>
   first
    | exact h _ _ hh
    | exact Calls.mono hh (fun e w'' he => by cases e <;> first | exact h _ _ he | exact letsOut_mono hq he | exact hq _ _ _ he)
    | exact Rows.mono hh (fun _ _ he => h _ _ he)
 | halt x w' => cases x <;> simp only [Oper.upon] at hh ⊢ <;> exact hq _ _ _ hh
theorem wpList_mono {ops : Array Oper} {Q Q' : Exit → Act → World → Prop} (hq : ∀ e a w, Q e a w → Q' e a w) : ∀ (l : List Oper) (a : Act) (w : World), wpList P ops Q l a w → wpList P ops Q' l a w
 | [], _, _, h => hq _ _ _ h
 | o :: r, a, w, h => by
  unfold wpList at *
  split
  ·rename_i hw
   rw [if_pos hw] at h
   exact h.imp (operWp_mono (wpList_mono hq r) hq) (fun ⟨h1, h2⟩ => ⟨h1, letsOut_mono hq h2⟩)
  ·rename_i hw
   rw [if_neg hw] at h
   exact wpList_mono hq r _ _ h
theorem AL.later {all rest : List Oper} (h : AL P nt all rest Q s) {M M0 : Mem} {N N0 : Nm} {s0 : AS} {a : Act} {w w0 : World} (x : Ext M0 N0 (· < s0.nx) s0.h w0 M N (· < s.nx) s.h w) (hf : Fits M N s nt a w) :
  wpList P all.toArray (PostA nt M0 N0 s0 w0 Q) rest a w :=
 wpList_mono (fun _ _ _ => PostA.later x) rest a w (h M N a w hf)
def OT (P : Program) (nt : Nat) (o : Oper) (s : AS) (R : AS → Prop) : Prop :=
 ∀ M N a w, Fits M N s nt a w → ∀ (K : Act → World → Prop) (Q : Exit → Act → World → Prop),
  (∀ M' N' s' a' w', Ext M N (· < s.nx) s.h w M' N' (· < s'.nx) s'.h w' → Fits M' N' s' nt a' w' → R s' → K a' w') → o.wp P a w K Q
theorem wanted_none {o : Oper} (h : o.guard = none) (y : Nat → Option Bool) : Region.wanted o y = true := by simp [Region.wanted, h]
theorem go_op {all rest : List Oper} {o : Oper} {R : AS → Prop} (hg : o.guard = none) (ho : OT P nt o s R) (h : ∀ s', R s' → GO P nt (.ops all rest :: k) Q s') : GO P nt (.ops all (o :: rest) :: k) Q s := by
 intro M N a w hf
 unfold wpList
 rw [if_pos (wanted_none hg _)]
 refine .inl (ho M N a w hf _ _ fun M' N' s' a' w' hx hf' hr => ?_)
 exact AL.later (h s' hr) hx hf'
def guardOf (all : List Oper) (f : AF) (j : Nat) : Option (Nat × PV) :=
 match all[j]? with
 | some o => match o.dst with
  | some d => some (d, f.get d)
  | none => none
 | none => none
theorem Fits.yielded {M : Mem} {N : Nm} {a : Act} {w : World} (hf : Fits M N s nt a w) {all : List Oper} {j d : Nat} {t : Bool} (hg : guardOf all s.f j = some (d, .iv (.v (.bool t)))) (hd : d < nt) : Go.yielded all.toArray a.tmps j = some t := by
 unfold guardOf at hg
 cases ho : all[j]? with
 | none => simp [ho] at hg
 | some o =>
  cases hod : o.dst with
  | none => simp [ho, hod] at hg
  | some d' =>
   simp only [ho, hod, Option.some.injEq, Prod.mk.injEq] at hg
   obtain ⟨rfl, hv⟩ := hg
   have h1 := hf.2.1 d'
   rw [hv] at h1
   have hsz : d' < a.tmps.size := by rw [hf.2.2.2]; exact hd
   have h2 : a.tmps[d']? = some (a.tmps.getD d' undef) := by simp [Array.getD_eq_getD_getElem?, hsz]
   have h3 : a.tmps.getD d' undef = .bool t := by
    generalize a.tmps.getD d' undef = v at h1
    cases h1 with
    | iv _ _ h => cases h with
     | v => rfl
   have h4 : all.toArray[j]? = some o := by simpa using ho
   simp [Go.yielded, h4, hod, h2, h3]
def skipOp (o : Oper) (s : AS) : AS :=
 match o.dst with
 | some e => match s with
  | ⟨f, h, n⟩ => ⟨(e, .iv (.v (.tuple #[]))) :: f, h, n⟩
 | none => s
theorem Fits.skip {M : Mem} {N : Nm} {a : Act} {w : World} (hf : Fits M N s nt a w) (o : Oper) : Fits M N (skipOp o s) nt (a.put o.dst undef) w := by
 unfold skipOp
 cases o.dst with
 | none => exact hf
 | some e =>
  refine ⟨hf.1, fun i => ?_, hf.2.2.1, by simp [Act.put, hf.2.2.2]⟩
  simp only [AF.get_cons]
  by_cases hi : i = e
  ·rw [if_pos hi]
   subst hi
   have : (a.put (some i) undef).tmps.getD i undef = undef := by
    simp only [Act.put, Array.getD_eq_getD_getElem?, Array.getElem?_setIfInBounds, if_true]
    split <;> rfl
   rw [this]; exact .iv _ _ (.v _)
  ·rw [if_neg hi]
   have := hf.2.1 i
   simp only [Act.put, Array.getD_eq_getD_getElem?, Array.getElem?_setIfInBounds] at this ⊢
   rw [if_neg (fun e => hi e.symm)]
   exact this
theorem skipOp_same (o : Oper) (s : AS) : (skipOp o s).h = s.h ∧ (skipOp o s).nx = s.nx := by unfold skipOp; cases o.dst <;> exact ⟨rfl, rfl⟩
theorem setBool_same (c : Operand) (t : Bool) (s : AS) : (setBool s c t).h = s.h ∧ (setBool s c t).nx = s.nx := by cases c <;> exact ⟨rfl, rfl⟩
theorem AL.same {all rest : List Oper} {s' : AS} (h : AL P nt all rest Q s') (e : s'.h = s.h ∧ s'.nx = s.nx) {M : Mem} {N : Nm} {a : Act} {w : World} (hf : Fits M N s' nt a w) :
  wpList P all.toArray (PostA nt M N s w Q) rest a w := by
 have := h M N a w hf
 refine wpList_mono (fun e' a' w' ⟨M2, N2, s2, h1, h2, h3⟩ => ⟨M2, N2, s2, ?_, h2, h3⟩) rest a w this
 rw [e.1, e.2] at h1
 exact h1
theorem Fits.yielded_kb {M : Mem} {N : Nm} {a : Act} {w : World} (hf : Fits M N s nt a w) {all : List Oper} {j d : Nat} {t : Bool} (hg : guardOf all s.f j = some (d, .kb t)) (hd : d < nt) : Go.yielded all.toArray a.tmps j = some t := by
 unfold guardOf at hg
 cases ho : all[j]? with
 | none => simp [ho] at hg
 | some o =>
  cases hod : o.dst with
  | none => simp [ho, hod] at hg
  | some d' =>
   simp only [ho, hod, Option.some.injEq, Prod.mk.injEq] at hg
   obtain ⟨rfl, hv⟩ := hg
   have h1 := hf.2.1 d'
   rw [hv] at h1
   have hsz : d' < a.tmps.size := by rw [hf.2.2.2]; exact hd
   have h2 : a.tmps[d']? = some (a.tmps.getD d' undef) := by simp [Array.getD_eq_getD_getElem?, hsz]
   have h3 : a.tmps.getD d' undef = .bool t := by
    generalize a.tmps.getD d' undef = v at h1
    cases h1; rfl
   have h4 : all.toArray[j]? = some o := by simpa using ho
   simp [Go.yielded, h4, hod, h2, h3]
theorem Fits.yielded_un {M : Mem} {N : Nm} {a : Act} {w : World} (hf : Fits M N s nt a w) {all : List Oper} {j d : Nat} {vs : Array Value} (hg : guardOf all s.f j = some (d, .iv (.v (.tuple vs)))) : Go.yielded all.toArray a.tmps j = none := by
 unfold guardOf at hg
 cases ho : all[j]? with
 | none => simp [ho] at hg
 | some o =>
  cases hod : o.dst with
  | none => simp [ho, hod] at hg
  | some d' =>
   simp only [ho, hod, Option.some.injEq, Prod.mk.injEq] at hg
   obtain ⟨rfl, hv⟩ := hg
   have h1 := hf.2.1 d'
   rw [hv] at h1
   have h3 : a.tmps.getD d' undef = .tuple vs := by
    generalize a.tmps.getD d' undef = v at h1
    cases h1 with
    | iv _ _ h => cases h with
     | v => rfl
   have h4 : all.toArray[j]? = some o := by simpa using ho
   rw [Array.getD_eq_getD_getElem?] at h3
   cases h5 : a.tmps[d']? with
   | none => simp [Go.yielded, h4, hod, h5]
   | some v =>
    rw [h5] at h3
    simp only [Option.getD_some] at h3
    subst h3
    simp [Go.yielded, h4, hod, h5]
theorem go_guard_un {all rest : List Oper} {o : Oper} {j d : Nat} {want : Bool} {vs : Array Value} (hg : o.guard = some (j, want)) (hy : guardOf all s.f j = some (d, .iv (.v (.tuple vs)))) (h : GO P nt (.ops all rest :: k) Q (skipOp o s)) : GO P nt (.ops all (o :: rest) :: k) Q s := by
 intro M N a w hf
 have hyy := hf.yielded_un hy
 unfold wpList
 have hw : Region.wanted o (Go.yielded all.toArray a.tmps) = false := by simp [Region.wanted, hg, hyy]
 rw [hw, if_neg (by simp)]
 exact AL.same (s := s) h (skipOp_same _ _) (hf.skip o)
theorem go_guard_kb {all rest : List Oper} {o : Oper} {j d : Nat} {want t : Bool} (hg : o.guard = some (j, want)) (hy : guardOf all s.f j = some (d, .kb t)) (hd : d < nt)
  (h : GO P nt (.ops all (bif t == want then { o with guard := none } :: rest else rest) :: k) Q (bif t == want then s else skipOp o s)) : GO P nt (.ops all (o :: rest) :: k) Q s := by
 intro M N a w hf
 have hyy := hf.yielded_kb hy hd
 unfold wpList
 by_cases ht : t = want
 ·have hw : Region.wanted o (Go.yielded all.toArray a.tmps) = true := by simp [Region.wanted, hg, hyy, ht]
  have hb : (t == want) = true := by simp [ht]
  rw [if_pos hw]
  rw [hb] at h
  have := h M N a w hf
  simp only [cond_true] at this
  unfold wpList at this
  rw [if_pos (wanted_none rfl _)] at this
  exact this
 ·have hw : Region.wanted o (Go.yielded all.toArray a.tmps) = false := by simp [Region.wanted, hg, hyy, ht]
  have hb : (t == want) = false := by simp [ht]
  rw [hw, if_neg (by simp)]
  rw [hb] at h
  exact AL.same (s := s) h (skipOp_same _ _) (hf.skip o)
theorem go_guard {all rest : List Oper} {o : Oper} {j d : Nat} {want t : Bool} (hg : o.guard = some (j, want)) (hy : guardOf all s.f j = some (d, .iv (.v (.bool t)))) (hd : d < nt)
  (h1 : t = want → GO P nt (.ops all ({ o with guard := none } :: rest) :: k) Q (setBool s (.tmp d) want)) (h2 : t = !want → GO P nt (.ops all rest :: k) Q (skipOp o (setBool s (.tmp d) (!want)))) :
  GO P nt (.ops all (o :: rest) :: k) Q s := by
 intro M N a w hf
 have hyy := hf.yielded hy hd
 have hcv : ev s.f (.tmp d) = .iv (.v (.bool t)) := by
  unfold guardOf at hy
  cases ho : all[j]? with
  | none => simp [ho] at hy
  | some o' =>
   cases hod : o'.dst with
   | none => simp [ho, hod] at hy
   | some d' =>
    simp only [ho, hod, Option.some.injEq, Prod.mk.injEq] at hy
    obtain ⟨rfl, hv⟩ := hy
    exact hv
 have hf' := hf.setBool hcv
 unfold wpList
 by_cases ht : t = want
 ·have hw : Region.wanted o (Go.yielded all.toArray a.tmps) = true := by simp [Region.wanted, hg, hyy, ht]
  rw [if_pos hw]
  rw [ht] at hf'
  have := AL.same (s := s) (h1 ht) (setBool_same _ _ _) hf'
  unfold wpList at this
  rw [if_pos (wanted_none rfl _)] at this
  exact this
 ·have hw : Region.wanted o (Go.yielded all.toArray a.tmps) = false := by simp [Region.wanted, hg, hyy, ht]
  have ht' : t = !want := by cases t <;> cases want <;> simp_all
  rw [hw, if_neg (by simp)]
  rw [ht'] at hf'
  exact AL.same (s := s) (h2 ht') ⟨(skipOp_same _ _).1.trans (setBool_same _ _ _).1, (skipOp_same _ _).2.trans (setBool_same _ _ _).2⟩ (hf'.skip o)
end
section
variable {P : Program} {nt : Nat} {Q : AQ} {k : List KI} {s : AS}
theorem Rel.drew {M : Mem} {N : Nm} {U : Nat → Prop} {h : AH} {w : World} (hr : Rel M N U h w) : Rel M N U h { w with drawn := w.drawn + 1 } :=
 ⟨hr.frz, hr.used, hr.nfrz, fun i o hi => (hr.obj i o hi).mono (.refl _) (.refl _ _) (fun _ h => h) (hr.used i o hi) rfl, hr.inj⟩
theorem Fits.drew {M : Mem} {N : Nm} {a : Act} {w : World} (hf : Fits M N s nt a w) : Fits M N s nt a { w with drawn := w.drawn + 1 } := ⟨hf.1.drew, hf.2⟩
theorem Ext.drew {M : Mem} {N : Nm} {U : Nat → Prop} {h : AH} {w : World} : Ext M N U h w M N U h { w with drawn := w.drawn + 1 } :=
 ⟨rfl, rfl, rfl, Nat.le_refl _, fun _ _ _ => rfl, .refl _, fun b c h1 h2 => by simp [h1] at h2, .refl _ _, fun _ h => h, fun i o hi hre => .inr ⟨i, o, hi, hre, rfl⟩⟩
theorem SL.same {all rest : List Oper} {s' : AS} (h : SL P nt all rest Q s') (e : s'.h = s.h ∧ s'.nx = s.nx) {M : Mem} {N : Nm} {a : Act} {w : World} (hf : Fits M N s' nt a w) :
  wpStill P all.toArray w (fun a' => ∃ s1, s1.h = s.h ∧ s1.nx = s.nx ∧ Fits M N s1 nt a' w ∧ Q .normal s1) rest a := by
 have := h M N a w hf
 rw [e.1, e.2] at this
 exact this
end
end Go.Al
namespace Go.Al
section
variable {P : Program} {M : Mem} {N : Nm} {w : World} {n : Nat} {h : AH}
def Nm.with (N : Nm) (n b e : Nat) : Nm := { blk := fun i => if i = n then b else N.blk i, ext := fun i => if i = n then e else N.ext i }
theorem Nm.with_agree (N : Nm) (n b e : Nat) : N.agree (N.with n b e) (· < n) :=
 ⟨fun i hi => by simp [Nm.with, Nat.ne_of_lt hi], fun i hi => by simp [Nm.with, Nat.ne_of_lt hi]⟩
@[simp] theorem Nm.with_blk (N : Nm) (n b e : Nat) : (N.with n b e).blk n = b := by simp [Nm.with]
@[simp] theorem Nm.with_ext (N : Nm) (n b e : Nat) : (N.with n b e).ext n = e := by simp [Nm.with]
theorem Rel.lt (hr : Rel M N (· < n) h w) {i : Nat} {o : AO} (hi : h.get i = some o) (hre : o.real = true) : N.blk i < w.heap.size := (hr.obj i o hi).lt hre
theorem Rel.none_new (hr : Rel M N (· < n) h w) : M w.heap.size = none := by
 cases hm : M w.heap.size with
 | none => rfl
 | some c => have := (hr.frz _ _ hm).lt; omega
theorem Rel.alloc (hr : Rel M N (· < n) h w) (obj : Obj) (o : AO) (e : Nat) (ho : ∀ N', N'.blk n = w.heap.size → N'.ext n = e → N.agree N' (· < n) → OR M N' (· < n + 1) (w.alloc obj) n o) :
  ∃ N', N'.blk n = w.heap.size ∧ N'.ext n = e ∧ N.agree N' (· < n) ∧ Ext M N (· < n) h w M N' (· < n + 1) ((n, some o) :: h) (w.alloc obj) ∧ Rel M N' (· < n + 1) ((n, some o) :: h) (w.alloc obj) := by
 have ha := N.with_agree n w.heap.size e
 have hget : ∀ i p, AH.get ((n, some o) :: h) i = some p → (i = n ∧ p = o) ∨ (i < n ∧ h.get i = some p) := by
  intro i p hi
  rw [AH.get_cons] at hi
  split at hi
  ·rename_i hin; exact .inl ⟨hin, by simpa using hi.symm⟩
  ·exact .inr ⟨hr.used i p hi, hi⟩
 refine ⟨N.with n w.heap.size e, by simp, by simp, ha, ?_, ?_⟩
 ·refine ⟨rfl, rfl, rfl, by simp, fun b hb _ => al_old w obj b hb, .refl _, fun b c h1 h2 => by simp [h1] at h2, ha, fun i hi => by omega, fun i p hi hre => ?_⟩
  rcases hget i p hi with ⟨rfl, rfl⟩ | ⟨h1, h2⟩
  ·exact .inl (by simp)
  ·exact .inr ⟨i, p, h2, hre, (ha.blk i h1).symm⟩
 ·refine ⟨fun b c hb => ?_, fun i p hi => ?_, fun i p hi hre => ?_, fun i p hi => ?_, fun i j p q hi hj hp hq hij => ?_⟩
  ·exact (hr.frz b c hb).mono (al_old w obj b (hr.frz b c hb).lt)
  ·rcases hget i p hi with ⟨rfl, rfl⟩ | ⟨h1, h2⟩ <;> omega
  ·rcases hget i p hi with ⟨rfl, rfl⟩ | ⟨h1, h2⟩
   ·simpa using hr.none_new
   ·rw [ha.blk i h1]; exact hr.nfrz i p h2 hre
  ·rcases hget i p hi with ⟨rfl, rfl⟩ | ⟨h1, h2⟩
   ·exact ho _ (by simp) (by simp) ha
   ·cases hre : p.real with
    | true => exact (hr.obj i p h2).mono (.refl _) ha (fun i hi => by omega) h1 (al_old w obj _ (hr.lt h2 hre))
    | false =>
     cases p with
     | row sz es => cases es with
      | nil => exact .inl rfl
      | cons => cases hre
     | brow l T => cases l with
      | nil => exact .inl rfl
      | cons => cases hre
     | _ => cases hre
  ·rcases hget i p hi with ⟨rfl, rfl⟩ | ⟨h1, h2⟩ <;> rcases hget j q hj with ⟨rfl, rfl⟩ | ⟨h3, h4⟩
   ·rfl
   ·rw [ha.blk j h3] at hij; simp at hij; have := hr.lt h4 hq; omega
   ·rw [ha.blk i h1] at hij; simp at hij; have := hr.lt h2 hp; omega
   ·rw [ha.blk i h1, ha.blk j h3] at hij; exact hr.inj i j p q h2 h4 hp hq hij
theorem Rel.virt (hr : Rel M N (· < n) h w) (sz : Nat) : Ext M N (· < n) h w M N (· < n + 1) ((n, some (.row sz [])) :: h) w ∧ Rel M N (· < n + 1) ((n, some (.row sz [])) :: h) w := by
 have hget : ∀ i p, AH.get ((n, some (.row sz [])) :: h) i = some p → (i = n ∧ p = .row sz []) ∨ (i < n ∧ h.get i = some p) := by
  intro i p hi
  rw [AH.get_cons] at hi
  split at hi
  ·rename_i hin; exact .inl ⟨hin, by simpa using hi.symm⟩
  ·exact .inr ⟨hr.used i p hi, hi⟩
 refine ⟨⟨rfl, rfl, rfl, Nat.le_refl _, fun _ _ _ => rfl, .refl _, fun b c h1 h2 => by simp [h1] at h2, .refl _ _, fun i hi => by omega, fun i p hi hre => ?_⟩, ⟨hr.frz, fun i p hi => ?_, fun i p hi hre => ?_, fun i p hi => ?_, fun i j p q hi hj hp hq hij => ?_⟩⟩
 ·rcases hget i p hi with ⟨rfl, rfl⟩ | ⟨h1, h2⟩
  ·cases hre
  ·exact .inr ⟨i, p, h2, hre, rfl⟩
 ·rcases hget i p hi with ⟨rfl, rfl⟩ | ⟨h1, h2⟩ <;> omega
 ·rcases hget i p hi with ⟨rfl, rfl⟩ | ⟨h1, h2⟩
  ·cases hre
  ·exact hr.nfrz i p h2 hre
 ·rcases hget i p hi with ⟨rfl, rfl⟩ | ⟨h1, h2⟩
  ·exact .inl rfl
  ·exact (hr.obj i p h2).mono (.refl _) (.refl _ _) (fun i hi => by omega) h1 rfl
 ·rcases hget i p hi with ⟨rfl, rfl⟩ | ⟨h1, h2⟩ <;> rcases hget j q hj with ⟨rfl, rfl⟩ | ⟨h3, h4⟩
  ·rfl
  ·cases hp
  ·cases hq
  ·exact hr.inj i j p q h2 h4 hp hq hij
theorem Rel.write (hr : Rel M N (· < n) h w) {i : Nat} {o0 : AO} (hi : h.get i = some o0) (h0 : o0.real = true) (w' : World) (o : AO) (hos : w'.os = w.os) (htape : w'.tape = w.tape) (hout : w'.output = w.output) (hsz : w'.heap.size = w.heap.size)
  (hk : ∀ b, b ≠ N.blk i → w'.heap[b]? = w.heap[b]?) (ho : OR M N (· < n) w' i o) :
  Ext M N (· < n) h w M N (· < n) ((i, some o) :: h) w' ∧ Rel M N (· < n) ((i, some o) :: h) w' := by
 have hget : ∀ j p, AH.get ((i, some o) :: h) j = some p → (j = i ∧ p = o) ∨ (j ≠ i ∧ h.get j = some p) := by
  intro j p hj
  rw [AH.get_cons] at hj
  split at hj
  ·rename_i hji; exact .inl ⟨hji, by simpa using hj.symm⟩
  ·rename_i hji; exact .inr ⟨hji, hj⟩
 refine ⟨⟨hos, htape, hout, by omega, fun b hb hn => hk b (fun e => hn i o0 hi h0 e.symm), .refl _, fun b c h1 h2 => by simp [h1] at h2, .refl _ _, fun _ h => h, fun j p hj hre => ?_⟩, ?_⟩
 ·rcases hget j p hj with ⟨rfl, rfl⟩ | ⟨h1, h2⟩
  ·exact .inr ⟨j, o0, hi, h0, rfl⟩
  ·exact .inr ⟨j, p, h2, hre, rfl⟩
 ·refine ⟨fun b c hb => ?_, fun j p hj => ?_, fun j p hj hre => ?_, fun j p hj => ?_, fun j k p q hj hk' hp hq hjk => ?_⟩
  ·have hne : b ≠ N.blk i := fun e => by
    have := hr.nfrz i o0 hi h0
    rw [← e, hb] at this; simp at this
   exact (hr.frz b c hb).mono (hk b hne)
  ·rcases hget j p hj with ⟨rfl, rfl⟩ | ⟨h1, h2⟩
   ·exact hr.used j o0 hi
   ·exact hr.used j p h2
  ·rcases hget j p hj with ⟨rfl, rfl⟩ | ⟨h1, h2⟩
   ·exact hr.nfrz j o0 hi h0
   ·exact hr.nfrz j p h2 hre
  ·rcases hget j p hj with ⟨rfl, rfl⟩ | ⟨h1, h2⟩
   ·exact ho
   ·cases hre : p.real with
    | true => exact (hr.obj j p h2).mono (.refl _) (.refl _ _) (fun _ h => h) (hr.used j p h2) (hk _ (fun e => h1 (hr.inj j i p o0 h2 hi hre h0 e)))
    | false =>
     cases p with
     | row sz es => cases es with
      | nil => exact .inl rfl
      | cons => cases hre
     | brow l T => cases l with
      | nil => exact .inl rfl
      | cons => cases hre
     | _ => cases hre
  ·rcases hget j p hj with ⟨rfl, rfl⟩ | ⟨h1, h2⟩ <;> rcases hget k q hk' with ⟨rfl, rfl⟩ | ⟨h3, h4⟩
   ·rfl
   ·exact hr.inj _ _ _ _ hi h4 h0 hq hjk
   ·exact hr.inj _ _ _ _ h2 hi hp h0 hjk
   ·exact hr.inj _ _ _ _ h2 h4 hp hq hjk
end
def storeA (ty : Ty) (s : AS) (t : TypeId) (p x : PV) : Option AS :=
 match ty t with
 | some e => match x.cells with
  | some xs => match Nat.beq xs.length e.size, allOne xs with
   | true, true => match p with
    | .ptr i off => match s.h.get i with
     | some (.cells cs T0) => match Nat.ble (off + xs.length) cs.length with
      | true => match s with
       | ⟨f, h, n⟩ => force (setCells cs off xs) fun cs' => some ⟨f, (i, some (.cells cs' T0)) :: h, n⟩
      | false => none
     | _ => none
    | _ => none
   | _, _ => none
  | none => none
 | none => none
def newObj (s : AS) (o : AO) : AS := match s with | ⟨f, h, n⟩ => ⟨f, (n, some o) :: h, n + 1⟩
def nw (s : AS) (g : Nat → PV) (o : AO) : Option (PV × AS) := match s with | ⟨f, h, n⟩ => some (g n, ⟨f, (n, some o) :: h, n + 1⟩)
theorem nw_eq (s : AS) (g : Nat → PV) (o : AO) : nw s g o = some (g s.nx, newObj s o) := by cases s; rfl
def repA : Nat → List PV → List PV
 | 0, _ => []
 | n + 1, l => l ++ repA n l
theorem repA_length : ∀ (n : Nat) (l : List PV), (repA n l).length = n * l.length
 | 0, l => by simp [repA]
 | n + 1, l => by simp [repA, repA_length n l, Nat.succ_mul, Nat.add_comm]
theorem repA_get : ∀ (n : Nat) (l : List PV) (j : Nat) (p : PV), (repA n l)[j]? = some p → l[j % l.length]? = some p
 | 0, l, j, p, h => by simp [repA] at h
 | n + 1, l, j, p, h => by
  simp only [repA] at h
  rcases Nat.lt_or_ge j l.length with hj | hj
  ·rw [List.getElem?_append_left hj] at h
   rw [Nat.mod_eq_of_lt hj]; exact h
  ·rw [List.getElem?_append_right hj] at h
   have := repA_get n l _ p h
   rwa [Nat.mod_eq_sub_mod hj]
def chunkA (sz : Nat) : Nat → List PV → List (List PV)
 | 0, _ => []
 | n + 1, cs => cs.take sz :: chunkA sz n (cs.drop sz)
def chunkC {α : Type _} (sz : Nat) : Nat → List PV → (List (List PV) → α) → α
 | 0, _, k => k []
 | n + 1, cs, k => force (cs.take sz) fun c => force (cs.drop sz) fun d => chunkC sz n d fun r => k (c :: r)
theorem chunkC_eq {α : Type _} (sz : Nat) : ∀ (n : Nat) (cs : List PV) (k : List (List PV) → α), chunkC sz n cs k = k (chunkA sz n cs)
 | 0, _, _ => rfl
 | n + 1, cs, k => by simp only [chunkC, force_eq, chunkC_eq sz n, chunkA]
theorem chunkA_length (sz : Nat) : ∀ (n : Nat) (cs : List PV), (chunkA sz n cs).length = n
 | 0, _ => rfl
 | n + 1, cs => by simp [chunkA, chunkA_length sz n]
theorem chunkA_get (sz : Nat) : ∀ (n : Nat) (cs : List PV) (k : Nat) (e : List PV), cs.length = n * sz → (chunkA sz n cs)[k]? = some e → e.length = sz ∧ ∀ j, j < sz → e[j]? = cs[k * sz + j]?
 | 0, cs, k, e, _, h => by simp [chunkA] at h
 | n + 1, cs, k, e, hl, h => by
  simp only [chunkA] at h
  rw [Nat.succ_mul] at hl
  cases k with
  | zero =>
   simp at h; subst h
   refine ⟨by simp; omega, fun j hj => by simp [hj]⟩
  | succ k =>
   obtain ⟨h1, h2⟩ := chunkA_get sz n (cs.drop sz) k e (by simp; omega) (by simpa using h)
   refine ⟨h1, fun j hj => ?_⟩
   rw [h2 j hj, List.getElem?_drop, Nat.succ_mul]
   congr 1; omega
def selfy (ty : Ty) (e : TyE) : Bool :=
 match e.k with
 | .strct ((0, u) :: _) => match ty u with
  | some ⟨.strct ((0, q) :: _), _, _, _, _⟩ => match ty q with
   | some ⟨.prim (.pointer v), _, _, _, _⟩ => Nat.beq u v
   | _ => false
  | _ => false
 | _ => false
def tagOf (ty : Ty) (t : TypeId) : Bool :=
 match ty t with
 | some e => selfy ty e
 | none => false
def mop (ty : Ty) (s : AS) : Op → Option (PV × AS)
 | .alloc t => match ty t with
  | some e => match selfy ty e with
   | true => force (zcells e.zero) fun cs => nw s (fun n => .ptr n 0) (.cells cs (some t))
   | false => force (zcells e.zero) fun cs => nw s (fun n => .ptr n 0) (.cells cs)
  | none => none
 | .box t x => match (ev s.f x).cells with
  | some cs => match allOne cs with
   | true => match tagOf ty t with
    | true => force cs fun cs' => nw s (fun n => .ptr n 0) (.cells cs' (some t))
    | false => force cs fun cs' => nw s (fun n => .ptr n 0) (.cells cs')
   | false => none
  | none => none
 | .store t a x => match storeA ty s t (ev s.f a) (ev s.f x) with
  | some s' => some (.any, s')
  | none => none
 | .makeMap _ none => nw s (fun n => .mp n) .map0
 | .makeMap t (some r) => match ev s.f r, ty t with
  | .iv (.v (.int _ _)), some ⟨.prim (.map _ _), _, _, _, _⟩ => nw s (fun n => .mp n) .map0
  | _, _ => none
 | .range t x => match ev s.f x, ty t with
  | .iv (.imap kc e _ _ m), some ⟨.prim (.map _ _), _, _, _, _⟩ => nw s (fun n => .ptr n 0) (.miter kc e m [] none)
  | _, _ => none
 | .buildSlice t len parts => match ty t with
  | some e => match e.k with
   | .prim (.slice u) => match ty u with
    | some eu => match Nat.beq eu.zero.cells.size eu.size, Nat.blt 0 (len * eu.size), Nat.ble (len * eu.size) 16777216 with
     | true, true, true => match fillA (fun i => some (i * eu.size, eu.size)) (repA len (zcells eu.zero)) (parts.toList.map fun x => (x.1, ev s.f x.2)) with
      | some cs => chunkC eu.size len cs fun es => nw s (fun n => .sl n 0 len eu.size) (.row eu.size es)
      | none => none
     | _, _, _ => none
    | none => none
   | _ => none
  | none => none
 | _ => none
section
variable {P : Program} {ty : Ty} {nt : Nat} {s : AS}
theorem fits_alloc {M : Mem} {N : Nm} {a : Act} {w : World} (hf : Fits M N s nt a w) {obj : Obj} {o : AO} {N' : Nm} (hx : Ext M N (· < s.nx) s.h w M N' (· < s.nx + 1) ((s.nx, some o) :: s.h) (w.alloc obj))
  (hr : Rel M N' (· < s.nx + 1) ((s.nx, some o) :: s.h) (w.alloc obj)) : Fits M N' (newObj s o) nt a (w.alloc obj) :=
 ⟨hr, hf.2.1.ext hx, hf.2.2⟩
theorem OT.value {o : Oper} {s1 s' : AS} {p : PV} (hp : putDst nt o p s1 = some s')
  (h : ∀ M N a w, Fits M N s nt a w → ∃ x w' M' N', (execOp a.eval o).run P w = .ok (.value x) w' ∧ Ext M N (· < s.nx) s.h w M' N' (· < s1.nx) s1.h w' ∧ Fits M' N' s1 nt a w' ∧ VR M' N' (· < s1.nx) p x) : OT P nt o s (fun t => t = s') := by
 intro M N a w hf K Z hk
 obtain ⟨x, w', M', N', hx, he, hf', hv⟩ := h M N a w hf
 unfold Oper.wp
 rw [hx]
 simp only [Oper.upon]
 cases hd : o.dst with
 | none =>
  have := putDst_none hp hd
  subst this
  exact hk M' N' s' _ w' he hf' rfl
 | some d =>
  obtain ⟨h1, rfl⟩ := putDst_some hp hd
  exact hk M' N' { s1 with f := (d, p) :: s1.f } _ w' he (hf'.put d p x h1 hv) rfl
theorem OT.skip {o : Oper} {s1 s' : AS} (hp : putDst nt o .any s1 = some s')
  (h : ∀ M N a w, Fits M N s nt a w → ∃ w' M' N', (execOp a.eval o).run P w = .ok .skip w' ∧ Ext M N (· < s.nx) s.h w M' N' (· < s1.nx) s1.h w' ∧ Fits M' N' s1 nt a w') : OT P nt o s (fun t => t = s') := by
 intro M N a w hf K Z hk
 obtain ⟨w', M', N', hx, he, hf'⟩ := h M N a w hf
 unfold Oper.wp
 rw [hx]
 simp only [Oper.upon]
 cases hd : o.dst with
 | none =>
  have := putDst_none hp hd
  subst this
  exact hk M' N' s' _ w' he hf' rfl
 | some d =>
  obtain ⟨h1, rfl⟩ := putDst_some hp hd
  exact hk M' N' { s1 with f := (d, .any) :: s1.f } _ w' he (hf'.put d .any undef h1 (.any _)) rfl
theorem storeA_ok (hty : TyOK P ty) {t : TypeId} {p x : PV} {s1 : AS} (h : storeA ty s t p x = some s1) {M : Mem} {N : Nm} {a : Act} {w : World} (hf : Fits M N s nt a w) {u y : Value} (hu : VR M N (· < s.nx) p u) (hy : VR M N (· < s.nx) x y) :
  ∃ w', (Instr.storeAt t u y).run P w = .ok () w' ∧ Ext M N (· < s.nx) s.h w M N (· < s1.nx) s1.h w' ∧ Fits M N s1 nt a w' := by
 unfold storeA at h
 split at h
 ·rename_i e he
  split at h
  ·rename_i xs hxs
   split at h
   ·rename_i h1 h2
    split at h
    ·rename_i i off
     split at h
     ·rename_i cs T0 hcs
      split at h
      ·rename_i hle
       obtain ⟨sf, sh, sn⟩ := s
       simp only [force_eq, Option.some.injEq] at h
       subst h
       simp only at hcs
       cases hu with
       | ptr _ _ hU =>
        obtain ⟨hl, hv⟩ := cells_ok hy hxs
        have hsz : y.cells.size = e.size := by rw [← hl]; exact Nat.eq_of_beq_eq_true h1
        obtain ⟨c, T, g1, g2, g3, g4, g5⟩ := hf.1.obj i _ hcs
        have hle' : off + xs.length ≤ c.size := by rw [← g3]; exact Nat.le_of_ble_eq_true hle
        have hone : ∀ v ∈ y.cells.toList, v.oneCell' = true := by
         intro v hvm
         obtain ⟨j, hj⟩ := List.getElem?_of_mem hvm
         have hjl : j < y.cells.toList.length := (List.getElem?_eq_some_iff.1 hj).1
         have hjx : xs[j]? = some (xs[j]'(by simp at hjl; omega)) := List.getElem?_eq_getElem _
         have := (hv j _ hjx).one (allOne_ok h2 j _ hjx)
         rw [Array.getD_eq_getD_getElem?] at this
         have hj' : y.cells[j]? = some v := by simpa using hj
         rw [hj'] at this; exact this
        have hrun := run_storeCells_at P (N.blk i) off T y.cells.toList 0 c w g1 (by simp; omega) hone
        refine ⟨w.setRow (N.blk i) (c.toList.take (off + 0) ++ y.cells.toList ++ c.toList.drop (off + 0 + y.cells.toList.length)).toArray, ?_, ?_⟩
        ·have hsize := run_sizeOf' (w := w) (hty t e he)
         simp only [Instr.storeAt, Instr.sureAddr, pure_bind, storeVar, Sem.run_bind, hsize, Result.andThen_ok, hsz, ne_eq, not_true_eq_false, if_false, hrun]
        ·have hrow := setRow_heap w (N.blk i) c (c.toList.take (off + 0) ++ y.cells.toList ++ c.toList.drop (off + 0 + y.cells.toList.length)).toArray T (0, 0) g1
         have hoff : ∀ b, b ≠ N.blk i → (w.setRow (N.blk i) (c.toList.take (off + 0) ++ y.cells.toList ++ c.toList.drop (off + 0 + y.cells.toList.length)).toArray).heap[b]? = w.heap[b]? := by
          intro b hb
          simp only [World.setRow, Array.getElem?_modify]
          rw [if_neg (fun e => hb e.symm)]
         have := hf.1.write hcs rfl (w.setRow (N.blk i) (c.toList.take (off + 0) ++ y.cells.toList ++ c.toList.drop (off + 0 + y.cells.toList.length)).toArray) (.cells (setCells cs off xs) T0) rfl rfl rfl (by simp) hoff
          ⟨_, T, hrow, by simp; omega, by rw [setCells_length]; simp; omega, fun j q hq => ?_, g5⟩
         ·exact ⟨this.1, this.2, hf.2.1, hf.2.2⟩
         ·rcases setCells_get cs off xs j q hq with ⟨k1, k2⟩ | ⟨k1, k2⟩
          ·have := hv _ _ k2
           have hjl : j - off < xs.length := (List.getElem?_eq_some_iff.1 k2).1
           rw [Array.getD_eq_getD_getElem?] at this ⊢
           have e1 : (c.toList.take (off + 0) ++ y.cells.toList ++ c.toList.drop (off + 0 + y.cells.toList.length)).toArray[j]? = y.cells[j - off]? := by
            simp only [List.getElem?_toArray]
            rw [List.getElem?_append_left (by simp; omega), List.getElem?_append_right (by simp; omega)]
            simp only [List.length_take, Array.length_toList, Array.getElem?_toList]
            congr 1; omega
           rw [e1]; exact this
          ·have := g4 _ _ k2
           rw [Array.getD_eq_getD_getElem?] at this ⊢
           have e1 : (c.toList.take (off + 0) ++ y.cells.toList ++ c.toList.drop (off + 0 + y.cells.toList.length)).toArray[j]? = c[j]? := by
            simp only [List.getElem?_toArray]
            rcases k1 with k1 | k1
            ·rw [List.append_assoc, List.getElem?_append_left (by simp; omega), List.getElem?_take, if_pos (by omega), Array.getElem?_toList]
            ·rw [List.getElem?_append_right (by simp; omega), List.getElem?_drop, Array.getElem?_toList]
             congr 1; simp; omega
           rw [e1]; exact this
      ·cases h
     ·cases h
    ·cases h
   ·cases h
  ·cases h
 ·cases h
theorem mop_ok (hty : TyOK P ty) {o : Oper} {p : PV} {s1 s' : AS} (h : mop ty s o.op = some (p, s1)) (hp : putDst nt o p s1 = some s') : OT P nt o s (fun t => t = s') := by
 cases ho : o.op with
 | alloc t =>
  rw [ho] at h; simp only [mop, nw_eq] at h
  split at h
  ·rename_i e he
   obtain ⟨T0, hT0, h⟩ : ∃ T0, tagOK T0 t ∧ some (PV.ptr s.nx 0, newObj s (.cells (zcells e.zero) T0)) = some (p, s1) := by
    split at h
    ·exact ⟨some t, fun x hx => by cases hx; rfl, by rw [← h, force_eq]⟩
    ·exact ⟨none, .none _, by rw [← h, force_eq]⟩
   simp only [Option.some.injEq, Prod.mk.injEq] at h
   obtain ⟨rfl, rfl⟩ := h
   refine OT.value hp fun M N a w hf => ?_
   obtain ⟨N', h1, h2, h3, h4, h5⟩ := hf.1.alloc (.cells e.zero.cells t) (.cells (zcells e.zero) T0) e.zero.cells.size (fun N' g1 g2 g3 =>
    ⟨e.zero.cells, t, by rw [g1]; exact heap_alloc_new w _, g2.symm, (zcells_ok (M := M) (N := N') (U := (· < s.nx + 1)) e.zero).1, (zcells_ok e.zero).2, hT0⟩)
   refine ⟨.pointer (some ⟨w.heap.size, 0, none⟩), _, M, N', ?_, h4, fits_alloc hf h4 h5, ?_⟩
   ·simp only [execOp, ho]
    have hz := run_zeroValue' (w := w) (hty t e he)
    simp [Instr.alloc, hz, newVar, newRow]
   ·have := VR.ptr (M := M) (N := N') (U := (· < s.nx + 1)) s.nx 0 (by omega)
    rw [h1] at this; exact this
  ·cases h
 | box t x =>
  rw [ho] at h; simp only [mop, nw_eq] at h
  split at h
  ·rename_i cs hcs
   split at h
   ·rename_i hone
    obtain ⟨T0, hT0, h⟩ : ∃ T0, tagOK T0 t ∧ some (PV.ptr s.nx 0, newObj s (.cells cs T0)) = some (p, s1) := by
     split at h
     ·exact ⟨some t, fun x hx => by cases hx; rfl, by rw [← h, force_eq]⟩
     ·exact ⟨none, .none _, by rw [← h, force_eq]⟩
    simp only [Option.some.injEq, Prod.mk.injEq] at h
    obtain ⟨rfl, rfl⟩ := h
    refine OT.value hp fun M N a w hf => ?_
    obtain ⟨hl, hv⟩ := cells_ok (ev_ok hf.2.1 x) hcs
    obtain ⟨N', h1, h2, h3, h4, h5⟩ := hf.1.alloc (.cells (a.eval x).cells t) (.cells cs T0) (a.eval x).cells.size (fun N' g1 g2 g3 =>
     ⟨(a.eval x).cells, t, by rw [g1]; exact heap_alloc_new w _, g2.symm, hl, fun j q hq => (hv j q hq).mono (.refl _) g3 (fun i hi => by omega), hT0⟩)
    refine ⟨.pointer (some ⟨w.heap.size, 0, none⟩), _, M, N', ?_, h4, fits_alloc hf h4 h5, ?_⟩
    ·simp only [execOp, ho]
     simp [Instr.box, newVar, newRow]
    ·have := VR.ptr (M := M) (N := N') (U := (· < s.nx + 1)) s.nx 0 (by omega)
     rw [h1] at this; exact this
   ·cases h
  ·cases h
 | store t a x =>
  rw [ho] at h; simp only [mop, nw_eq] at h
  split at h
  ·rename_i s2 hs
   simp only [Option.some.injEq, Prod.mk.injEq] at h
   obtain ⟨rfl, rfl⟩ := h
   refine OT.skip hp fun M N b w hf => ?_
   obtain ⟨w', h1, h2, h3⟩ := storeA_ok (P := P) hty hs hf (ev_ok hf.2.1 a) (ev_ok hf.2.1 x)
   refine ⟨w', M, N, ?_, h2, h3⟩
   simp only [execOp, ho]
   simp [h1]
  ·cases h
 | makeMap t r =>
  rw [ho] at h
  cases r with
  | some r =>
   simp only [mop, nw_eq] at h
   split at h
   ·rename_i q n _ _ _ _ _ _ hr he
    have hu := (hty _ _ he).2.1.1
    simp only [Option.some.injEq, Prod.mk.injEq] at h
    obtain ⟨rfl, rfl⟩ := h
    refine OT.value hp fun M N a w hf => ?_
    obtain ⟨N', h1, h2, h3, h4, h5⟩ := hf.1.alloc (.map #[] 0) .map0 0 (fun N' g1 g2 g3 =>
     (by rw [g1]; exact heap_alloc_new w _ : (w.alloc (.map #[] 0)).heap[N'.blk s.nx]? = _))
    have hrv := ev_ok hf.2.1 r
    rw [hr] at hrv
    have hri : a.eval r = .int q n := by
     generalize a.eval r = y at hrv
     cases hrv with
     | iv _ _ h => cases h; rfl
    refine ⟨.map (some w.heap.size), _, M, N', ?_, h4, fits_alloc hf h4 h5, ?_⟩
    ·simp only [execOp, ho]
     simp [Instr.makeMap, hri, run_underlying hu, asInt, asIntOf]
    ·have := VR.mp (M := M) (N := N') (U := (· < s.nx + 1)) s.nx (by omega)
     rw [h1] at this; exact this
   ·cases h
  | none =>
   simp only [mop, nw_eq, Option.some.injEq, Prod.mk.injEq] at h
   obtain ⟨rfl, rfl⟩ := h
   refine OT.value hp fun M N a w hf => ?_
   obtain ⟨N', h1, h2, h3, h4, h5⟩ := hf.1.alloc (.map #[] 0) .map0 0 (fun N' g1 g2 g3 =>
    (by rw [g1]; exact heap_alloc_new w _ : (w.alloc (.map #[] 0)).heap[N'.blk s.nx]? = _))
   refine ⟨.map (some w.heap.size), _, M, N', ?_, h4, fits_alloc hf h4 h5, ?_⟩
   ·simp only [execOp, ho]
    simp [Instr.makeMap]
   ·have := VR.mp (M := M) (N := N') (U := (· < s.nx + 1)) s.nx (by omega)
    rw [h1] at this; exact this
 | range t x =>
  rw [ho] at h; simp only [mop, nw_eq] at h
  split at h
  ·rename_i V kc e z zv m kt et _ _ _ _ hev he
   have hu := (hty _ _ he).2.1.1
   simp only [Option.some.injEq, Prod.mk.injEq] at h
   obtain ⟨rfl, rfl⟩ := h
   refine OT.value hp fun M N a w hf => ?_
   have hx := ev_ok hf.2.1 x
   rw [hev] at hx
   generalize hv : a.eval x = y at hx
   cases hx with
   | iv _ _ hi => cases hi with
    | imap _ _ _ _ _ b ents clock hb hs hk hv' hz hi' hc =>
     obtain ⟨N', h1, h2, h3, h4, h5⟩ := hf.1.alloc (.mapIter (some b) clock #[] clock) (.miter kc e m [] none) 0 (fun N' g1 g2 g3 =>
      ⟨b, ents, clock, #[], by rw [g1]; exact heap_alloc_new w _, hb, ⟨hs, hk, hv', hi', hc⟩, rfl, by simp, List.nodup_nil, by simp⟩)
     have hheap : w.heap[b]? = some (.map ents clock) := hf.1.frz _ _ hb
     refine ⟨.pointer (some ⟨w.heap.size, 0, none⟩), _, M, N', ?_, h4, fits_alloc hf h4 h5, ?_⟩
     ·simp only [execOp, ho, hv]
      simp [Instr.range, run_underlying hu, getObj, Sem.run, hheap, Result.andThen]
     ·have := VR.ptr (M := M) (N := N') (U := (· < s.nx + 1)) s.nx 0 (by omega)
      rw [h1] at this; exact this
  ·cases h
 | buildSlice t len parts =>
  rw [ho] at h; simp only [mop, nw_eq] at h
  split at h
  ·rename_i e he
   split at h
   ·rename_i u hk
    split at h
    ·rename_i eu heu
     split at h
     ·rename_i hb1 hb2 hb3
      split at h
      ·rename_i cs hcs
       rw [chunkC_eq] at h
       simp only [Option.some.injEq, Prod.mk.injEq] at h
       obtain ⟨rfl, rfl⟩ := h
       have hz1 : eu.zero.cells.size = eu.size := Nat.eq_of_beq_eq_true hb1
       have hz2 : 0 < len * eu.size := Nat.le_of_ble_eq_true hb2
       have hz3 : len * eu.size ≤ 16777216 := Nat.le_of_ble_eq_true hb3
       have hs0 : 0 < eu.size := Nat.pos_of_ne_zero fun e => by simp [e] at hz2
       have hl0 : 0 < len := Nat.pos_of_ne_zero fun e => by simp [e] at hz2
       have hle : len ≤ len * eu.size := Nat.le_mul_of_pos_right _ hs0
       have hty' := (hty t e he).2.1
       rw [hk] at hty'
       refine OT.value hp fun M N a w hf => ?_
       have hzl : (zcells eu.zero).length = eu.size := by rw [(zcells_ok (M := M) (N := N) (U := (· < s.nx)) eu.zero).1, hz1]
       obtain ⟨ys', h3, h4⟩ := fillA_ok (M := M) (N := N) (U := (· < s.nx)) (vals := (parts.map fun x => (x.1, a.eval x.2)).toList) (ys := (Array.range (len * eu.size)).map (eu.zero.cells[· % eu.zero.cells.size]!)) hcs (by simp) (fun j x y hx hy => by
        rw [List.getElem?_map, Option.map_eq_some_iff] at hx
        obtain ⟨z, hz, rfl⟩ := hx
        have hz' : parts[j]? = some z := by simpa using hz
        have : some (z.1, a.eval z.2) = some y := by rw [← hy]; simp [hz']
        simp only [Option.some.injEq] at this
        subst this
        exact ⟨rfl, ev_ok hf.2.1 z.2⟩) (by
        refine ⟨by rw [repA_length, hzl]; simp, fun j p hj => ?_⟩
        have h5 := repA_get _ _ _ _ hj
        have hjl : j < len * eu.size := by
         have := (List.getElem?_eq_some_iff.1 hj).1
         rwa [repA_length, hzl] at this
        rw [hzl] at h5
        have h6 := (zcells_ok (M := M) (N := N) (U := (· < s.nx)) eu.zero).2 _ _ h5
        have h7 : ((Array.range (len * eu.size)).map (eu.zero.cells[· % eu.zero.cells.size]!)).getD j undef = eu.zero.cells.getD (j % eu.size) undef := by
         have hm : j % eu.size < eu.zero.cells.size := by rw [hz1]; exact Nat.mod_lt _ hs0
         have hx : (Array.range (len * eu.size))[j]? = some j := by simp [hjl]
         rw [Array.getD_eq_getD_getElem?, Array.getElem?_map, hx]
         simp only [Option.map_some, Option.getD_some, hz1]
         rw [Array.getD_eq_getD_getElem?, getElem!_pos eu.zero.cells (j % eu.size) hm, Array.getElem?_eq_getElem hm]; rfl
        rw [h7]; exact h6)
       have hcl : cs.length = len * eu.size := by
        have : (repA len (zcells eu.zero)).length = cs.length := by
         have := fillA_length hcs; exact this.symm
        rw [← this, repA_length, hzl]
       have hys : ys'.size = len * eu.size := by rw [← h4.1, hcl]
       obtain ⟨N', h1, h2, h8, h9, h10⟩ := hf.1.alloc (.cells ys' u) (.row eu.size (chunkA eu.size len cs)) ys'.size (fun N' g1 g2 g3 =>
        .inr ⟨hs0, ys', u, by rw [g1]; exact heap_alloc_new w _, g2.symm, by rw [chunkA_length, hys]; exact Nat.le_refl _, fun k e hk => (chunkA_get _ _ _ _ _ hcl hk).1, fun k e j p hk hj => by
         have hjs : j < eu.size := by rw [← (chunkA_get _ _ _ _ _ hcl hk).1]; exact (List.getElem?_eq_some_iff.1 hj).1
         have := (chunkA_get _ _ _ _ _ hcl hk).2 j hjs
         rw [hj] at this
         exact (h4.2 _ _ this.symm).mono (.refl _) g3 (fun i hi => by omega)⟩)
       refine ⟨.slice (some ⟨w.heap.size, 0, none⟩) len len, _, M, N', ?_, h9, fits_alloc hf h9 h10, ?_⟩
       ·simp only [execOp, ho]
        have hz := run_zeroValue' (w := w) (hty u eu heu)
        have hsz := run_sizeOf' (w := w) (hty u eu heu)
        have hne : ¬ len * eu.size = 0 := by omega
        have hng : ¬ len * eu.size > 2 ^ 24 := by omega
        simp only [Instr.buildSlice, Sem.run_bind, run_underlying hty'.1, Result.andThen_ok, hsz, if_neg hng, if_neg hne, hz, Sem.run_pure]
        rw [h3]
        simp [newRow]
       ·have := VR.sl (M := M) (N := N') (U := (· < s.nx + 1)) s.nx 0 len eu.size len (by omega) hl0 (Nat.le_refl _) (by simp only [maxLen]; omega) (by rw [h2, hys]; simp)
        rw [h1, Nat.zero_mul] at this; exact this
      ·cases h
     ·cases h
    ·cases h
   ·cases h
  ·cases h
 | _ => rw [ho] at h; simp [mop] at h
end
end Go.Al
namespace Go.Al
mutual
def PV.ren (σ : Nat → Nat) : PV → PV
 | .iv x => .iv x
 | .agg cs => .agg (renL σ cs)
 | .tup cs => .tup (renL σ cs)
 | .ptr i off => .ptr (σ i) off
 | .eptr i sz k off => .eptr (σ i) sz k off
 | .optr z i => .optr z (σ i)
 | .sl i off len sz => .sl (σ i) off len sz
 | .mp i => .mp (σ i)
 | .clo fn first caps => .clo fn (renL σ first) (renL σ caps)
 | .kb b => .kb b
 | .any => .any
def renL (σ : Nat → Nat) : List PV → List PV
 | [] => []
 | p :: r => PV.ren σ p :: renL σ r
end
theorem renL_eq (σ : Nat → Nat) : ∀ l : List PV, renL σ l = l.map (PV.ren σ)
 | [] => rfl
 | p :: r => by simp [renL, renL_eq σ r]
def AO.ren (σ : Nat → Nat) : AO → AO
 | .cells cs T => .cells (renL σ cs) T
 | .row sz es => .row sz (es.map (renL σ))
 | .brow l T => .brow l T
 | .map0 => .map0
 | .map kc ev z zv dv m => .map kc ev z zv dv m
 | .miter kc ev m l cu => .miter kc ev m l cu
 | .siter s p => .siter s p
theorem AO.real_ren (σ : Nat → Nat) (o : AO) : (o.ren σ).real = o.real := by
 cases o with
 | row sz es => cases es <;> rfl
 | brow l T => cases l <;> rfl
 | _ => rfl
def renH (σ : Nat → Nat) : AH → AH
 | [] => []
 | (i, none) :: r => (σ i, none) :: renH σ r
 | (i, some o) :: r => (σ i, some (o.ren σ)) :: renH σ r
def Nm.comp (N : Nm) (σ : Nat → Nat) : Nm := { blk := fun i => N.blk (σ i), ext := fun i => N.ext (σ i) }
section
variable {M : Mem} {N : Nm} {U : Nat → Prop} {σ : Nat → Nat}
theorem VR.ren {p : PV} {x : Value} (h : VR M (N.comp σ) (fun i => U (σ i)) p x) : VR M N U (p.ren σ) x := by
 induction h with
 | iv x y h => exact .iv x y h
 | agg cs ys hl hr ih =>
  refine .agg _ _ (by simpa [renL_eq] using hl) (fun j p hp => ?_)
  rw [renL_eq, List.getElem?_map, Option.map_eq_some_iff] at hp
  obtain ⟨q, hq, rfl⟩ := hp
  exact ih j q hq
 | tup cs ys hl hr ih =>
  refine .tup _ _ (by simpa [renL_eq] using hl) (fun j p hp => ?_)
  rw [renL_eq, List.getElem?_map, Option.map_eq_some_iff] at hp
  obtain ⟨q, hq, rfl⟩ := hp
  exact ih j q hq
 | ptr i off h => exact .ptr _ _ h
 | eptr i sz k off h => exact .eptr _ _ _ _ h
 | optr z i h => exact .optr _ _ h
 | sl i off len sz cap h h0 hl hc he => exact .sl _ _ _ _ _ h h0 hl hc he
 | sl0 i sz h => exact .sl0 _ _ h
 | mp i h => exact .mp _ h
 | clo fn first caps f' c' h1 h2 hr1 hr2 ih1 ih2 =>
  refine .clo _ _ _ _ _ (by simpa [renL_eq] using h1) (by simpa [renL_eq] using h2) (fun j p hp => ?_) (fun j p hp => ?_)
  ·rw [renL_eq, List.getElem?_map, Option.map_eq_some_iff] at hp
   obtain ⟨q, hq, rfl⟩ := hp
   exact ih1 j q hq
  ·rw [renL_eq, List.getElem?_map, Option.map_eq_some_iff] at hp
   obtain ⟨q, hq, rfl⟩ := hp
   exact ih2 j q hq
 | kb b => exact .kb b
 | any x => exact .any x
theorem VR.unren : ∀ {q : PV} {x : Value}, VR M N U q x → ∀ {p : PV}, q = p.ren σ → VR M (N.comp σ) (fun i => U (σ i)) p x := by
 intro q x h
 induction h with
 | iv x y h => intro p hp; cases p <;> simp [PV.ren] at hp; subst hp; exact .iv _ _ h
 | agg cs ys hl hr ih =>
  intro p hp
  cases p <;> simp [PV.ren] at hp
  subst hp
  refine .agg _ _ (by simpa [renL_eq] using hl) (fun j p hj => ih j (p.ren σ) (by rw [renL_eq, List.getElem?_map, hj]; rfl) rfl)
 | tup cs ys hl hr ih =>
  intro p hp
  cases p <;> simp [PV.ren] at hp
  subst hp
  refine .tup _ _ (by simpa [renL_eq] using hl) (fun j p hj => ih j (p.ren σ) (by rw [renL_eq, List.getElem?_map, hj]; rfl) rfl)
 | ptr i off h => intro p hp; cases p <;> simp [PV.ren] at hp; obtain ⟨rfl, rfl⟩ := hp; exact VR.ptr (N := N.comp σ) (U := fun i => U (σ i)) _ _ h
 | eptr i sz k off h => intro p hp; cases p <;> simp [PV.ren] at hp; obtain ⟨rfl, rfl, rfl, rfl⟩ := hp; exact VR.eptr (N := N.comp σ) (U := fun i => U (σ i)) _ _ _ _ h
 | optr z i h => intro p hp; cases p <;> simp [PV.ren] at hp; obtain ⟨rfl, rfl⟩ := hp; exact VR.optr (N := N.comp σ) (U := fun i => U (σ i)) _ _ h
 | sl i off len sz cap h h0 hl hc he => intro p hp; cases p <;> simp [PV.ren] at hp; obtain ⟨rfl, rfl, rfl, rfl⟩ := hp; exact VR.sl (N := N.comp σ) (U := fun i => U (σ i)) _ _ _ _ _ h h0 hl hc he
 | sl0 i sz h => intro p hp; cases p <;> simp [PV.ren] at hp; obtain ⟨rfl, rfl, rfl, rfl⟩ := hp; exact VR.sl0 (N := N.comp σ) (U := fun i => U (σ i)) _ _ h
 | mp i h => intro p hp; cases p <;> simp [PV.ren] at hp; subst hp; exact VR.mp (N := N.comp σ) (U := fun i => U (σ i)) _ h
 | clo fn first caps f' c' h1 h2 hr1 hr2 ih1 ih2 =>
  intro p hp
  cases p <;> simp [PV.ren] at hp
  obtain ⟨rfl, rfl, rfl⟩ := hp
  refine .clo _ _ _ _ _ (by simpa [renL_eq] using h1) (by simpa [renL_eq] using h2) (fun j p hj => ih1 j (p.ren σ) (by rw [renL_eq, List.getElem?_map, hj]; rfl) rfl) (fun j p hj => ih2 j (p.ren σ) (by rw [renL_eq, List.getElem?_map, hj]; rfl) rfl)
 | kb b => intro p hp; cases p <;> simp [PV.ren] at hp; subst hp; exact .kb _
 | any x => intro p hp; cases p <;> simp [PV.ren] at hp; exact .any _
theorem OR.ren {w : World} {i : Nat} {o : AO} (h : OR M (N.comp σ) (fun i => U (σ i)) w i o) : OR M N U w (σ i) (o.ren σ) := by
 cases o with
 | cells cs T0 =>
  obtain ⟨c, T, h1, h2, h3, h4, h5⟩ := h
  refine ⟨c, T, h1, h2, by simpa [renL_eq] using h3, fun j p hp => ?_, h5⟩
  rw [renL_eq, List.getElem?_map, Option.map_eq_some_iff] at hp
  obtain ⟨q, hq, rfl⟩ := hp
  exact (h4 j q hq).ren
 | row sz es =>
  rcases h with rfl | ⟨h0, c, T, h1, h2, h3, h4, h5⟩
  ·exact .inl rfl
  refine .inr ⟨h0, c, T, h1, h2, by simpa using h3, fun k e he => ?_, fun k e j p he hp => ?_⟩
  ·rw [List.getElem?_map, Option.map_eq_some_iff] at he
   obtain ⟨e0, he0, rfl⟩ := he
   rw [renL_eq, List.length_map]; exact h4 k e0 he0
  ·rw [List.getElem?_map, Option.map_eq_some_iff] at he
   obtain ⟨e0, he0, rfl⟩ := he
   rw [renL_eq, List.getElem?_map, Option.map_eq_some_iff] at hp
   obtain ⟨q, hq, rfl⟩ := hp
   exact (h5 k e0 j q he0 hq).ren
 | brow l T => exact h
 | map0 => exact h
 | map kc ev z zv dv m => exact h
 | miter kc ev m l cu => exact h
 | siter s p => exact h
theorem OR.unren {w : World} {i : Nat} {o : AO} (h : OR M N U w (σ i) (o.ren σ)) : OR M (N.comp σ) (fun i => U (σ i)) w i o := by
 cases o with
 | cells cs T0 =>
  obtain ⟨c, T, h1, h2, h3, h4, h5⟩ := h
  exact ⟨c, T, h1, h2, by simpa [renL_eq] using h3, fun j p hp => (h4 j (p.ren σ) (by rw [renL_eq, List.getElem?_map, hp]; rfl)).unren rfl, h5⟩
 | row sz es =>
  rcases h with h | ⟨h0, c, T, h1, h2, h3, h4, h5⟩
  ·exact .inl (by simpa using h)
  refine .inr ⟨h0, c, T, h1, h2, by simpa using h3, fun k e he => ?_, fun k e j p he hp => ?_⟩
  ·have := h4 k (renL σ e) (by rw [List.getElem?_map, he]; rfl)
   simpa [renL_eq] using this
  ·exact (h5 k (renL σ e) j (p.ren σ) (by rw [List.getElem?_map, he]; rfl) (by rw [renL_eq, List.getElem?_map, hp]; rfl)).unren rfl
 | brow l T => exact h
 | map0 => exact h
 | map kc ev z zv dv m => exact h
 | miter kc ev m l cu => exact h
 | siter s p => exact h
end
def sig (L : List Nat) (n : Nat) (i : Nat) : Nat := bif Nat.blt i L.length then L.getD i 0 else n + (i - L.length)
theorem sig_lt {L : List Nat} {n i : Nat} (h : i < L.length) : sig L n i = L[i] := by
 have : Nat.blt i L.length = true := Nat.ble_eq_true_of_le h
 simp [sig, this, h]
theorem sig_ge {L : List Nat} {n i : Nat} (h : L.length ≤ i) : sig L n i = n + (i - L.length) := by
 have : Nat.blt i L.length = false := by
  cases hb : Nat.blt i L.length with
  | false => rfl
  | true => have := Nat.le_of_ble_eq_true hb; omega
 simp [sig, this]
theorem renH_get {σ : Nat → Nat} : ∀ (h : AH) (j : Nat) (o : AO), (renH σ h).get j = some o → (∀ i k, i ∈ h.map Prod.fst → σ i = σ k → i = k) → ∃ i p, j = σ i ∧ h.get i = some p ∧ o = p.ren σ
 | [], j, o, hj, _ => by simp [renH, AH.get] at hj
 | (i, none) :: r, j, o, hj, hi => by
  simp only [renH] at hj
  rw [AH.get_cons] at hj
  split at hj
  ·cases hj
  ·rename_i hne
   obtain ⟨k, p, h1, h2, h3⟩ := renH_get r j o hj (fun a b ha => hi a b (List.mem_cons_of_mem _ ha))
   refine ⟨k, p, h1, ?_, h3⟩
   rw [AH.get_cons, if_neg (fun e => hne (by rw [h1, e]))]; exact h2
 | (i, some q) :: r, j, o, hj, hi => by
  simp only [renH] at hj
  rw [AH.get_cons] at hj
  split at hj
  ·rename_i he
   exact ⟨i, q, he, by rw [AH.get_cons, if_pos rfl], by simpa using hj.symm⟩
  ·rename_i hne
   obtain ⟨k, p, h1, h2, h3⟩ := renH_get r j o hj (fun a b ha => hi a b (List.mem_cons_of_mem _ ha))
   refine ⟨k, p, h1, ?_, h3⟩
   rw [AH.get_cons, if_neg (fun e => hne (by rw [h1, e]))]; exact h2
end Go.Al
namespace Go.Al
def initH : Nat → List AO → AH
 | _, [] => []
 | n, o :: r => (n, some o) :: initH (n + 1) r
theorem initH_get : ∀ (os : List AO) (n i : Nat), (initH n os).get i = if n ≤ i then os[i - n]? else none
 | [], n, i => by simp [initH, AH.get]
 | o :: r, n, i => by
  simp only [initH]
  rw [AH.get_cons, initH_get r (n + 1) i]
  by_cases h : i = n
  ·subst h; simp
  ·by_cases h2 : n ≤ i
   ·rw [if_neg h, if_pos (by omega), if_pos h2, show i - n = (i - (n + 1)) + 1 by omega]; simp
   ·rw [if_neg h, if_neg (by omega), if_neg h2]
def Callable (P : Program) (k : FuncId) : Prop := ∀ (args : Array Value) (w : World), (callFunc k args).run P w = .ok (.enter k args) w
theorem callable_of {P : Program} {k : FuncId} {fn : Func} {c : Code} (hf : P.funcs[k]? = some fn) (hb : fn.body = some c) (hn : (fn.name == "runtime.NumGoroutine") = false) : Callable P k := by
 intro args w
 have hn' : ¬ fn.name = "runtime.NumGoroutine" := by simpa using hn
 simp [callFunc, program, Sem.run, hf, hb, hn']
def Fn (P : Program) (k : FuncId) (args : List PV) (os : List AO) (R : PV → AH → Nat → Prop) : Prop :=
 Callable P k ∧ ∀ M N w (vs : List Value), Rel M N (· < os.length) (initH 0 os) w → args.length = vs.length → (∀ (j : Nat) (p : PV), args[j]? = some p → VR M N (· < os.length) p (vs.getD j undef)) →
  Calls P k vs.toArray w fun e w' => ∃ x M' N' r h' n', e = .returned x ∧ R r h' n' ∧ Ext M N (· < os.length) (initH 0 os) w M' N' (· < n') h' w' ∧ Rel M' N' (· < n') h' w' ∧ VR M' N' (· < n') r x
def dels : List Nat → AH
 | [] => []
 | j :: r => (j, none) :: dels r
def AH.keys : AH → List Nat
 | [] => []
 | (i, _) :: r => i :: AH.keys r
theorem AH.get_append : ∀ (a b : AH) (j : Nat), AH.get (a ++ b) j = if j ∈ a.keys then a.get j else b.get j
 | [], b, j => by simp [AH.keys]
 | (i, o) :: r, b, j => by
  rw [List.cons_append, AH.get_cons, AH.get_cons, AH.get_append r b j]
  by_cases h : j = i
  ·simp [h, AH.keys]
  ·simp [h, AH.keys]
theorem dels_keys : ∀ L : List Nat, (dels L).keys = L
 | [] => rfl
 | j :: r => by simp [dels, AH.keys, dels_keys r]
theorem dels_get : ∀ (L : List Nat) (j : Nat), (dels L).get j = none
 | [], _ => rfl
 | i :: r, j => by rw [dels, AH.get_cons, dels_get r j]; split <;> rfl
theorem sig_inj {L : List Nat} {n : Nat} (hnd : L.Nodup) (hL : ∀ j ∈ L, j < n) : ∀ i k, sig L n i = sig L n k → i = k := by
 intro i k h
 rcases Nat.lt_or_ge i L.length with hi | hi <;> rcases Nat.lt_or_ge k L.length with hk | hk
 ·rw [sig_lt hi, sig_lt hk] at h
  have hp := List.pairwise_iff_getElem.1 hnd
  rcases Nat.lt_trichotomy i k with hlt | he | hgt
  ·exact absurd h (hp i k hi hk hlt)
  ·exact he
  ·exact absurd h.symm (hp k i hk hi hgt)
 ·rw [sig_lt hi, sig_ge hk] at h
  have := hL _ (List.getElem_mem hi); omega
 ·rw [sig_ge hi, sig_lt hk] at h
  have := hL _ (List.getElem_mem hk); omega
 ·rw [sig_ge hi, sig_ge hk] at h; omega
section
variable {P : Program} {nt : Nat} {s : AS}
def behindCall (s : AS) (L : List Nat) (h' : AH) (n' : Nat) : AS := { f := s.f, h := renH (sig L s.nx) h' ++ (dels L ++ s.h), nx := s.nx + (n' - L.length) }
theorem Fn.calls {k : FuncId} {args : List PV} {os : List AO} {R : PV → AH → Nat → Prop} (hc : Fn P k args os R) {L : List Nat} (hnd : L.Nodup) (hL : ∀ j ∈ L, j < s.nx)
  (hob : L.map s.h.get = os.map fun o => some (o.ren (sig L s.nx))) {M : Mem} {N : Nm} {w : World} (hr : Rel M N (· < s.nx) s.h w) {vs : List Value} (hl : args.length = vs.length)
  (hv : ∀ (j : Nat) (p : PV), args[j]? = some p → VR M N (· < s.nx) (p.ren (sig L s.nx)) (vs.getD j undef)) :
  Calls P k vs.toArray w fun e w' => ∃ x M' N' r h' n', e = .returned x ∧ R r h' n' ∧ Ext M N (· < s.nx) s.h w M' N' (· < (behindCall s L h' n').nx) (behindCall s L h' n').h w' ∧
   Rel M' N' (· < (behindCall s L h' n').nx) (behindCall s L h' n').h w' ∧ VR M' N' (· < (behindCall s L h' n').nx) (r.ren (sig L s.nx)) x := by
 have hlen : L.length = os.length := by simpa using congrArg List.length hob
 have hU : (fun i => sig L s.nx i < s.nx) = (· < os.length) := by
  funext i
  apply propext
  rcases Nat.lt_or_ge i L.length with hi | hi
  ·rw [sig_lt hi]; exact ⟨fun _ => by omega, fun _ => hL _ (List.getElem_mem hi)⟩
  ·rw [sig_ge hi]; omega
 have hob' : ∀ i (hi : i < L.length), s.h.get L[i] = (os[i]?).map (AO.ren (sig L s.nx)) := by
  intro i hi
  have := congrArg (fun l => l[i]?) hob
  simp only [List.getElem?_map, List.getElem?_eq_getElem hi, Option.map_some] at this
  have ho : os[i]? = some (os[i]'(by omega)) := List.getElem?_eq_getElem (by omega)
  rw [ho] at this ⊢
  simpa using this
 have hin : ∀ i o, (initH 0 os).get i = some o → i < L.length ∧ s.h.get (sig L s.nx i) = some (o.ren (sig L s.nx)) := by
  intro i o hi
  rw [initH_get, if_pos (Nat.zero_le _), Nat.sub_zero] at hi
  have hlt : i < L.length := by rw [hlen]; exact (List.getElem?_eq_some_iff.1 hi).1
  refine ⟨hlt, ?_⟩
  rw [sig_lt hlt, hob' i hlt, hi]; rfl
 have hrel : Rel M (N.comp (sig L s.nx)) (· < os.length) (initH 0 os) w := by
  refine ⟨hr.frz, fun i o hi => by rw [← hlen]; exact (hin i o hi).1, fun i o hi hre => hr.nfrz _ _ (hin i o hi).2 ((AO.real_ren _ o).trans hre), fun i o hi => ?_, fun i j o p hi hj ho hp hij => ?_⟩
  ·have := OR.unren (hr.obj _ _ (hin i o hi).2)
   rw [hU] at this; exact this
  ·exact sig_inj hnd hL i j (hr.inj _ _ _ _ (hin i o hi).2 (hin j p hj).2 ((AO.real_ren _ o).trans ho) ((AO.real_ren _ p).trans hp) hij)
 refine (hc.2 M (N.comp (sig L s.nx)) w vs hrel hl (fun j p hp => by have := (hv j p hp).unren rfl; rw [hU] at this; exact this)).mono ?_
 rintro e w' ⟨x, M', N', r, h', n', rfl, hR, hx, hr', hvr⟩
 have hn' : os.length ≤ n' := Nat.le_of_not_lt fun hlt => by have := hx.ule n' hlt; omega
 let N2 : Nm := { blk := fun j => if j < s.nx then N.blk j else N'.blk (L.length + (j - s.nx)), ext := fun j => if j < s.nx then N.ext j else N'.ext (L.length + (j - s.nx)) }
 have hN2 : N.agree N2 (· < s.nx) := ⟨fun i hi => by simp [N2, hi], fun i hi => by simp [N2, hi]⟩
 have hcb : ∀ i, N2.blk (sig L s.nx i) = N'.blk i ∧ N2.ext (sig L s.nx i) = N'.ext i := by
  intro i
  rcases Nat.lt_or_ge i L.length with hi | hi
  ·have h1 : sig L s.nx i < s.nx := by rw [sig_lt hi]; exact hL _ (List.getElem_mem hi)
   have h2 := hx.nm.blk i (by omega)
   have h3 := hx.nm.ext i (by omega)
   simp only [Nm.comp] at h2 h3
   simp [N2, h1, h2, h3]
  ·rw [sig_ge hi]
   have h1 : ¬ s.nx + (i - L.length) < s.nx := by omega
   have h2 : L.length + (s.nx + (i - L.length) - s.nx) = i := by omega
   constructor <;> simp only [N2, if_neg h1, h2]
 have hcomp : N'.agree (N2.comp (sig L s.nx)) (· < n') := ⟨fun i _ => (hcb i).1, fun i _ => (hcb i).2⟩
 have hUn : ∀ i, i < n' → sig L s.nx i < s.nx + (n' - L.length) := by
  intro i hi
  rcases Nat.lt_or_ge i L.length with h1 | h1
  ·rw [sig_lt h1]; have := hL _ (List.getElem_mem h1); omega
  ·rw [sig_ge h1]; omega
 have hget : ∀ j o, (behindCall s L h' n').h.get j = some o → (∃ i p, j = sig L s.nx i ∧ h'.get i = some p ∧ o = p.ren (sig L s.nx)) ∨ (j ∉ L ∧ s.h.get j = some o) := by
  intro j o hj
  simp only [behindCall] at hj
  rw [AH.get_append] at hj
  split at hj
  ·exact .inl (renH_get h' j o hj (fun i k _ h => sig_inj hnd hL i k h))
  ·rw [AH.get_append] at hj
   split at hj
   ·rw [dels_get] at hj; cases hj
   ·rename_i hd; rw [dels_keys] at hd; exact .inr ⟨hd, hj⟩
 have hold : ∀ j o, j ∉ L → s.h.get j = some o → o.real = true → w'.heap[N.blk j]? = w.heap[N.blk j]? := by
  intro j o hj ho hre
  refine hx.keep _ (hr.lt ho hre) (fun i p hi hp he => ?_)
  obtain ⟨h1, h2⟩ := hin i p hi
  have := hr.inj _ _ _ _ h2 ho ((AO.real_ren _ p).trans hp) hre he
  rw [sig_lt h1] at this
  exact hj (this ▸ List.getElem_mem h1)
 refine ⟨x, M', N2, r, h', n', rfl, hR, ?_, ?_, ?_⟩
 ·refine ⟨hx.os, hx.tape, hx.output, hx.size, fun b hb hnb => hx.keep b hb (fun i o hi ho he => hnb _ _ (hin i o hi).2 ((AO.real_ren _ o).trans ho) he), hx.mle, fun b c h1 h2 => ?_, hN2, fun i hi => by simp only [behindCall]; omega, fun j o hj hre => ?_⟩
  ·rcases hx.mnew b c h1 h2 with h3 | ⟨i, o, h3, ho, h4⟩
   ·exact .inl h3
   ·exact .inr ⟨_, _, (hin i o h3).2, (AO.real_ren _ o).trans ho, h4⟩
  ·rcases hget j o hj with ⟨i, p, rfl, h1, rfl⟩ | ⟨h1, h2⟩
   ·rw [AO.real_ren] at hre
    rw [(hcb i).1]
    rcases hx.pnew i p h1 hre with h3 | ⟨k, q, h3, hq, h4⟩
    ·exact .inl h3
    ·exact .inr ⟨_, _, (hin k q h3).2, (AO.real_ren _ q).trans hq, h4⟩
   ·exact .inr ⟨j, o, h2, hre, (hN2.blk j (hr.used j o h2)).symm⟩
 ·refine ⟨hr'.frz, fun j o hj => ?_, fun j o hj hre => ?_, fun j o hj => ?_, fun i j o p hi hj ho hp hij => ?_⟩
  ·rcases hget j o hj with ⟨i, p, rfl, h1, rfl⟩ | ⟨h1, h2⟩
   ·exact hUn i (hr'.used i p h1)
   ·have := hr.used j o h2; simp only [behindCall]; omega
  ·rcases hget j o hj with ⟨i, p, rfl, h1, rfl⟩ | ⟨h1, h2⟩
   ·rw [AO.real_ren] at hre
    rw [(hcb i).1]; exact hr'.nfrz i p h1 hre
   ·rw [hN2.blk j (hr.used j o h2)]
    cases hm : M' (N.blk j) with
    | none => rfl
    | some c =>
     rcases hx.mnew _ c (hr.nfrz j o h2 hre) hm with h3 | ⟨i, q, h3, hq, h4⟩
     ·have := hr.lt h2 hre; omega
     ·obtain ⟨h5, h6⟩ := hin i q h3
      have := hr.inj _ _ _ _ h6 h2 ((AO.real_ren _ q).trans hq) hre h4
      rw [sig_lt h5] at this
      exact absurd (this ▸ List.getElem_mem h5) h1
  ·rcases hget j o hj with ⟨i, p, rfl, h1, rfl⟩ | ⟨h1, h2⟩
   ·refine OR.ren ?_
    exact (hr'.obj i p h1).mono (.refl _) hcomp (fun i hi => hUn i hi) (hr'.used i p h1) rfl
   ·cases hre : o.real with
    | true => exact (hr.obj j o h2).mono hx.mle hN2 (fun i hi => by simp only [behindCall]; omega) (hr.used j o h2) (hold j o h1 h2 hre)
    | false =>
     cases o with
     | row sz es => cases es with
      | nil => exact .inl rfl
      | cons => cases hre
     | brow l T => cases l with
      | nil => exact .inl rfl
      | cons => cases hre
     | _ => cases hre
  ·rcases hget i o hi with ⟨i', o', rfl, h1, rfl⟩ | ⟨h1, h2⟩ <;> rcases hget j p hj with ⟨j', p', rfl, h3, rfl⟩ | ⟨h3, h4⟩
   ·rw [AO.real_ren] at ho hp
    rw [(hcb i').1, (hcb j').1] at hij
    rw [hr'.inj i' j' o' p' h1 h3 ho hp hij]
   ·rw [AO.real_ren] at ho
    rw [(hcb i').1, hN2.blk j (hr.used j p h4)] at hij
    rcases hx.pnew i' o' h1 ho with h5 | ⟨k, q, h5, hq, h6⟩
    ·have := hr.lt h4 hp; omega
    ·obtain ⟨h7, h8⟩ := hin k q h5
     have := hr.inj _ _ _ _ h8 h4 ((AO.real_ren _ q).trans hq) hp (h6.trans hij)
     rw [sig_lt h7] at this
     exact absurd (this ▸ List.getElem_mem h7) h3
   ·rw [AO.real_ren] at hp
    rw [hN2.blk i (hr.used i o h2), (hcb j').1] at hij
    rcases hx.pnew j' p' h3 hp with h5 | ⟨k, q, h5, hq, h6⟩
    ·have := hr.lt h2 ho; omega
    ·obtain ⟨h7, h8⟩ := hin k q h5
     have := hr.inj _ _ _ _ h8 h2 ((AO.real_ren _ q).trans hq) ho (h6.trans hij.symm)
     rw [sig_lt h7] at this
     exact absurd (this ▸ List.getElem_mem h7) h1
   ·rw [hN2.blk i (hr.used i o h2), hN2.blk j (hr.used j p h4)] at hij
    exact hr.inj _ _ _ _ h2 h4 ho hp hij
 ·exact VR.ren (hvr.mono (.refl _) hcomp (fun i hi => hUn i hi))
def PV.plain : PV → PV
 | .kb b => .iv (.v (.bool b))
 | p => p
theorem VR.plain {M : Mem} {N : Nm} {U : Nat → Prop} {p : PV} {x : Value} (h : VR M N U p x) : VR M N U p.plain x := by
 cases h with
 | kb => exact .iv _ _ (.v _)
 | iv _ _ h1 => exact .iv _ _ h1
 | agg _ _ h1 h2 => exact .agg _ _ h1 h2
 | tup _ _ h1 h2 => exact .tup _ _ h1 h2
 | ptr _ _ h1 => exact .ptr _ _ h1
 | eptr _ _ _ _ h1 => exact .eptr _ _ _ _ h1
 | optr _ _ h1 => exact .optr _ _ h1
 | sl _ _ _ _ _ h1 h2 h3 h4 h5 => exact .sl _ _ _ _ _ h1 h2 h3 h4 h5
 | sl0 _ _ h1 => exact .sl0 _ _ h1
 | mp _ h1 => exact .mp _ h1
 | clo _ _ _ _ _ h1 h2 h3 h4 => exact .clo _ _ _ _ _ h1 h2 h3 h4
 | any => exact .any _
def argsOf (f : AF) (c : Call) : Option (FuncId × List PV) :=
 match c.callee with
 | .value g => match ev f g with
  | .clo (.func k) first caps => some (k, first ++ (c.args.toList.map (fun x => (ev f x).plain) ++ caps))
  | _ => none
 | _ => none
theorem enter_ok {M : Mem} {N : Nm} {a : Act} {w : World} (hf : Fits M N s nt a w) {o : Oper} {c : Call} (ho : o.op = .call c) {k : FuncId} {asv : List PV} (ha : argsOf s.f c = some (k, asv)) (hc : Callable P k) :
  ∃ vs : List Value, (execOp a.eval o).run P w = .ok (.enter k vs.toArray) w ∧ asv.length = vs.length ∧ ∀ (j : Nat) (p : PV), asv[j]? = some p → VR M N (· < s.nx) p (vs.getD j undef) := by
 unfold argsOf at ha
 obtain ⟨callee, cargs, ctypes⟩ := c
 cases callee with
 | value g =>
  simp only at ha
  have hg := ev_ok hf.2.1 g
  split at ha
  ·rename_i k' first caps hev
   simp only [Option.some.injEq, Prod.mk.injEq] at ha
   obtain ⟨rfl, rfl⟩ := ha
   rw [hev] at hg
   generalize hv : a.eval g = v at hg
   cases hg with
   | clo _ _ _ f' c' h1 h2 hr1 hr2 =>
    have hm : (cargs.toList.map (fun x => (ev s.f x).plain)).length = (cargs.map a.eval).size ∧ ∀ j p, (cargs.toList.map (fun x => (ev s.f x).plain))[j]? = some p → VR M N (· < s.nx) p ((cargs.map a.eval).getD j undef) := by
     refine ⟨by simp, fun j p hp => ?_⟩
     rw [List.getElem?_map, Option.map_eq_some_iff] at hp
     obtain ⟨x, hx, rfl⟩ := hp
     have hx' : cargs[j]? = some x := by simpa using hx
     rw [Array.getD_eq_getD_getElem?, Array.getElem?_map, hx']
     exact (ev_ok hf.2.1 x).plain
    have hrun : (execOp a.eval o).run P w = .ok (.enter k' (f' ++ cargs.map a.eval ++ c')) w := by
     simp only [execOp, ho, resolve, hv, Deferred.ofValue, pure_bind, invoke]
     exact hc _ w
    have hpt : ∀ (j : Nat) (p : PV), (first ++ (cargs.toList.map (fun x => (ev s.f x).plain) ++ caps))[j]? = some p → VR M N (· < s.nx) p ((f' ++ cargs.map a.eval ++ c').toList.getD j undef) := by
     intro j p hp
     have hsz : (cargs.toList.map (fun x => (ev s.f x).plain)).length = (cargs.map a.eval).size := hm.1
     rw [List.getD_eq_getElem?_getD, Array.toList_append, Array.toList_append, List.append_assoc]
     rcases Nat.lt_or_ge j first.length with hj | hj
     ·rw [List.getElem?_append_left hj] at hp
      rw [List.getElem?_append_left (by simpa [← h1] using hj)]
      have := hr1 j p hp
      rw [Array.getD_eq_getD_getElem?] at this
      simpa using this
     ·rw [List.getElem?_append_right hj] at hp
      rw [List.getElem?_append_right (by simpa [← h1] using hj)]
      rcases Nat.lt_or_ge (j - first.length) (cargs.toList.map (fun x => (ev s.f x).plain)).length with hj2 | hj2
      ·rw [List.getElem?_append_left hj2] at hp
       rw [List.getElem?_append_left (by simp [← h1] at hj2 ⊢; omega)]
       have := hm.2 _ p hp
       rw [Array.getD_eq_getD_getElem?] at this
       simpa [← h1] using this
      ·rw [List.getElem?_append_right hj2] at hp
       rw [List.getElem?_append_right (by simp [← h1] at hj2 ⊢; omega)]
       have := hr2 _ p hp
       rw [Array.getD_eq_getD_getElem?] at this
       simpa [← h1] using this
    refine ⟨(f' ++ cargs.map a.eval ++ c').toList, by rw [Array.toArray_toList]; exact hrun, ?_, hpt⟩
    simp [← h1, ← h2]
  ·cases ha
 | _ => simp at ha
theorem call_OT {o : Oper} {c : Call} (ho : o.op = .call c) {k : FuncId} {asv : List PV} (ha : argsOf s.f c = some (k, asv)) {args : List PV} {os : List AO} {R : PV → AH → Nat → Prop} (hc : Fn P k args os R)
  {L : List Nat} (hnd : L.Nodup) (hL : ∀ j ∈ L, j < s.nx) (hob : L.map s.h.get = os.map fun o => some (o.ren (sig L s.nx))) (hargs : asv = renL (sig L s.nx) args) {S : AS → Prop}
  (hS : ∀ r h' n', R r h' n' → ∃ s', putDst nt o (r.ren (sig L s.nx)) (behindCall s L h' n') = some s' ∧ S s') : OT P nt o s S := by
 intro M N a w hf K Z hk
 unfold argsOf at ha
 obtain ⟨callee, cargs, ctypes⟩ := c
 cases callee with
 | value g =>
  simp only at ha
  have hg := ev_ok hf.2.1 g
  split at ha
  ·rename_i k' first caps hev
   simp only [Option.some.injEq, Prod.mk.injEq] at ha
   obtain ⟨rfl, rfl⟩ := ha
   rw [hev] at hg
   generalize hv : a.eval g = v at hg
   cases hg with
   | clo _ _ _ f' c' h1 h2 hr1 hr2 =>
    have hm : (cargs.toList.map (fun x => (ev s.f x).plain)).length = (cargs.map a.eval).size ∧ ∀ j p, (cargs.toList.map (fun x => (ev s.f x).plain))[j]? = some p → VR M N (· < s.nx) p ((cargs.map a.eval).getD j undef) := by
     refine ⟨by simp, fun j p hp => ?_⟩
     rw [List.getElem?_map, Option.map_eq_some_iff] at hp
     obtain ⟨x, hx, rfl⟩ := hp
     have hx' : cargs[j]? = some x := by simpa using hx
     rw [Array.getD_eq_getD_getElem?, Array.getElem?_map, hx']
     exact (ev_ok hf.2.1 x).plain
    have hrun : (execOp a.eval o).run P w = .ok (.enter k' (f' ++ cargs.map a.eval ++ c')) w := by
     simp only [execOp, ho, resolve, hv, Deferred.ofValue, pure_bind, invoke]
     exact hc.1 _ w
    unfold Oper.wp
    rw [hrun]
    simp only [Oper.upon]
    have hpt : ∀ (j : Nat) (p : PV), (first ++ (cargs.toList.map (fun x => (ev s.f x).plain) ++ caps))[j]? = some p → VR M N (· < s.nx) p ((f' ++ cargs.map a.eval ++ c').toList.getD j undef) := by
     intro j p hp
     have hsz : (cargs.toList.map (fun x => (ev s.f x).plain)).length = (cargs.map a.eval).size := hm.1
     rw [List.getD_eq_getElem?_getD, Array.toList_append, Array.toList_append, List.append_assoc]
     rcases Nat.lt_or_ge j first.length with hj | hj
     ·rw [List.getElem?_append_left hj] at hp
      rw [List.getElem?_append_left (by simpa [← h1] using hj)]
      have := hr1 j p hp
      rw [Array.getD_eq_getD_getElem?] at this
      simpa using this
     ·rw [List.getElem?_append_right hj] at hp
      rw [List.getElem?_append_right (by simpa [← h1] using hj)]
      rcases Nat.lt_or_ge (j - first.length) (cargs.toList.map (fun x => (ev s.f x).plain)).length with hj2 | hj2
      ·rw [List.getElem?_append_left hj2] at hp
       rw [List.getElem?_append_left (by simp [← h1] at hj2 ⊢; omega)]
       have := hm.2 _ p hp
       rw [Array.getD_eq_getD_getElem?] at this
       simpa [← h1] using this
      ·rw [List.getElem?_append_right hj2] at hp
       rw [List.getElem?_append_right (by simp [← h1] at hj2 ⊢; omega)]
       have := hr2 _ p hp
       rw [Array.getD_eq_getD_getElem?] at this
       simpa [← h1] using this
    have hlen : args.length = (f' ++ cargs.map a.eval ++ c').toList.length := by
     have := congrArg List.length hargs
     simp [renL_eq] at this
     simp [← h1, ← h2]; omega
    have hcall := hc.calls hnd hL hob hf.1 hlen (fun j p hp => by
     refine hpt j (p.ren (sig L s.nx)) ?_
     rw [hargs, renL_eq, List.getElem?_map, hp]; rfl)
    rw [Array.toArray_toList] at hcall
    refine hcall.mono ?_
    rintro e w' ⟨x, M', N', r, h', n', rfl, hR, hx, hr, hvr⟩
    obtain ⟨s', hp, hs'⟩ := hS r h' n' hR
    have hfb : Fits M' N' (behindCall s L h' n') nt a w' := ⟨hr, hf.2.1.ext hx, hf.2.2⟩
    show K (a.put o.dst x) w'
    cases hd : o.dst with
    | none =>
     have := putDst_none hp hd
     subst this
     exact hk M' N' _ _ w' hx hfb hs'
    | some d =>
     obtain ⟨h1, rfl⟩ := putDst_some hp hd
     exact hk M' N' { behindCall s L h' n' with f := (d, r.ren (sig L s.nx)) :: (behindCall s L h' n').f } _ w' hx (hfb.put d _ x h1 hvr) hs'
  ·cases ha
 | _ => simp at ha
def argF : Nat → List PV → AF
 | _, [] => []
 | n, p :: r => (n, p) :: argF (n + 1) r
theorem argF_get : ∀ (l : List PV) (n i : Nat), (argF n l).get i = if n ≤ i then l.getD (i - n) .any else .any
 | [], n, i => by simp [argF, AF.get]
 | p :: r, n, i => by
  simp only [argF]
  rw [AF.get_cons, argF_get r (n + 1) i]
  by_cases h : i = n
  ·subst h; simp
  ·by_cases h2 : n ≤ i
   ·rw [if_neg h, if_pos (by omega), if_pos h2, show i - n = (i - (n + 1)) + 1 by omega]; simp
   ·rw [if_neg h, if_neg (by omega), if_neg h2]
def resOne (ty : Ty) (s : AS) : ResultVar → Option PV
 | .tmp t => match s.f.get t with
  | .kb b => some (.iv (.v (.bool b)))
  | p => some p
 | .cell a t => match ty t with
  | some e => match behind s.h (s.f.get a) with
   | some cs => readAs e cs
   | none => none
  | none => none
def resAll (ty : Ty) (s : AS) : List ResultVar → Option (List PV)
 | [] => some []
 | v :: r => match resOne ty s v with
  | some p => match resAll ty s r with
   | some l => some (p :: l)
   | none => none
  | none => none
def resA (ty : Ty) (s : AS) (l : List ResultVar) : Option PV :=
 match resAll ty s l with
 | some [p] => some p
 | some l => some (.tup l)
 | none => none
def resSem (tmps : Array Value) : ResultVar → Sem Value
 | .tmp t => pure (tmps.getD t undef)
 | .cell a t => do loadVar t (← asAddr (tmps.getD a undef))
theorem resOne_ok {ty : Ty} (hty : TyOK P ty) {M : Mem} {N : Nm} {a : Act} {w : World} (hf : Fits M N s nt a w) {v : ResultVar} {p : PV} (h : resOne ty s v = some p) :
  ∃ x, (resSem a.tmps v).run P w = .ok x w ∧ VR M N (· < s.nx) p x := by
 cases v with
 | tmp t =>
  simp only [resOne] at h
  have := hf.2.1 t
  split at h
  ·rename_i b hb
   simp only [Option.some.injEq] at h
   subst h
   rw [hb] at this
   refine ⟨_, rfl, ?_⟩
   show VR M N _ _ (a.tmps.getD t undef)
   generalize a.tmps.getD t undef = v at this
   cases this
   exact .iv _ _ (.v _)
  ·simp only [Option.some.injEq] at h
   subst h
   exact ⟨_, rfl, this⟩
 | cell b t =>
  simp only [resOne] at h
  split at h
  ·rename_i e he
   split at h
   ·rename_i cs hcs
    obtain ⟨b', off, hx, hcell⟩ := behind_ok hf.1 (hf.2.1 b) hcs
    obtain ⟨y, hy, hv⟩ := readAs_load (P := P) (hty t e he) hcell h
    refine ⟨y, ?_, hv⟩
    simp only [resSem, hx, asAddr, pure_bind]; exact hy
   ·cases h
  ·cases h
theorem resAll_ok {ty : Ty} (hty : TyOK P ty) {M : Mem} {N : Nm} {a : Act} {w : World} (hf : Fits M N s nt a w) : ∀ {l : List ResultVar} {ps : List PV}, resAll ty s l = some ps →
  ∃ xs : List Value, (l.mapM (resSem a.tmps)).run P w = .ok xs w ∧ ps.length = xs.length ∧ ∀ (j : Nat) (p : PV), ps[j]? = some p → VR M N (· < s.nx) p (xs.getD j undef)
 | [], ps, h => by
  simp only [resAll, Option.some.injEq] at h
  subst h
  exact ⟨[], rfl, rfl, by simp⟩
 | v :: r, ps, h => by
  simp only [resAll] at h
  split at h
  ·rename_i p hp
   split at h
   ·rename_i l hl
    simp only [Option.some.injEq] at h
    subst h
    obtain ⟨x, hx, hv⟩ := resOne_ok hty hf hp
    obtain ⟨xs, hxs, hlen, hvs⟩ := resAll_ok hty hf hl
    refine ⟨x :: xs, ?_, by simp [hlen], fun j q hq => ?_⟩
    ·rw [List.mapM_cons, Sem.run_bind, hx, Result.andThen_ok, Sem.run_bind, hxs]; rfl
    ·cases j with
     | zero => simp at hq; subst hq; exact hv
     | succ j => simpa using hvs j q (by simpa using hq)
   ·cases h
  ·cases h
theorem resA_ok {ty : Ty} (hty : TyOK P ty) {M : Mem} {N : Nm} {a : Act} {w : World} (hf : Fits M N s nt a w) {fn : Func} {l : List ResultVar} (hl : fn.results.toList = l) {p : PV} (h : resA ty s l = some p) :
  ∃ x, (results fn a.tmps).run P w = .ok x w ∧ VR M N (· < s.nx) p x := by
 unfold resA at h
 have key : ∀ ps, resAll ty s l = some ps → ∃ xs : List Value, (fn.results.mapM (resSem a.tmps)).run P w = .ok xs.toArray w ∧ ps.length = xs.length ∧ ∀ (j : Nat) (p : PV), ps[j]? = some p → VR M N (· < s.nx) p (xs.getD j undef) := by
  intro ps hps
  obtain ⟨xs, h1, h2, h3⟩ := resAll_ok hty hf hps
  refine ⟨xs, ?_, h2, h3⟩
  have e : fn.results.mapM (resSem a.tmps) = (List.toArray <$> (fn.results.toList.mapM (resSem a.tmps))) := by
   rw [Array.mapM_eq_mapM_toList]
  rw [e, hl, Sem.run_map, h1]; rfl
 have hres : results fn a.tmps = (do let vs ← fn.results.mapM (resSem a.tmps); pure (if h : vs.size = 1 then vs[0] else .tuple vs)) := by
  unfold results
  rfl
 split at h
 ·rename_i q hq
  simp only [Option.some.injEq] at h
  subst h
  obtain ⟨xs, h1, h2, h3⟩ := key _ hq
  match xs, h2 with
  | [x], _ =>
   refine ⟨x, ?_, by simpa using h3 0 q rfl⟩
   rw [hres, Sem.run_bind, h1]; rfl
 ·rename_i ps hne hps
  simp only [Option.some.injEq] at h
  subst h
  obtain ⟨xs, h1, h2, h3⟩ := key _ hps
  refine ⟨.tuple xs.toArray, ?_, .tup _ _ (by simpa using h2) (fun j p hp => ?_)⟩
  ·rw [hres, Sem.run_bind, h1, Result.andThen_ok]
   have : ¬ xs.toArray.size = 1 := by
    intro e
    match ps, hne, h2 with
    | [q], hne, _ => exact hne q rfl
    | [], _, h2 => simp at h2 e; omega
    | _ :: _ :: _, _, h2 => simp at h2 e; omega
   rw [dif_neg this]; rfl
  ·have := h3 j p hp
   rw [Array.getD_eq_getD_getElem?]
   rw [List.getD_eq_getElem?_getD] at this
   simpa using this
 ·cases h
theorem fn_of_body {ty : Ty} (hty : TyOK P ty) {k : FuncId} {fn : Func} {c : Code} (hf : P.funcs[k]? = some fn) (hb : fn.body = some c) (hn : (fn.name == "runtime.NumGoroutine") = false) {nt : Nat} (hnt : fn.ntmps = nt)
  {l : List ResultVar} (hl : fn.results.toList = l) {args : List PV} (hle : args.length ≤ nt) {os : List AO} {R : PV → AH → Nat → Prop}
  (h : GO P nt [.code c] (fun e s => (e = .normal ∨ e = .ret) ∧ ∃ r, resA ty s l = some r ∧ R r s.h s.nx) ⟨argF 0 args, initH 0 os, os.length⟩) : Fn P k args os R := by
 refine ⟨callable_of hf hb hn, fun M N w vs hr hlen hv => ?_⟩
 refine calls_of_wp hf hb ?_
 have hfit : Fits M N ⟨argF 0 args, initH 0 os, os.length⟩ nt { tmps := vs.toArray ++ Array.replicate (fn.ntmps - vs.toArray.size) undef, defers := [] } w := by
  refine ⟨hr, fun i => ?_, rfl, by simp; omega⟩
  rw [argF_get, if_pos (Nat.zero_le _), Nat.sub_zero, List.getD_eq_getElem?_getD]
  cases hi : args[i]? with
  | none => exact .any _
  | some p =>
   have hlt : i < vs.length := by rw [← hlen]; exact (List.getElem?_eq_some_iff.1 hi).1
   have := hv i p hi
   have e : (vs.toArray ++ Array.replicate (fn.ntmps - vs.toArray.size) undef).getD i undef = vs.getD i undef := by
    rw [Array.getD_eq_getD_getElem?, Array.getElem?_append_left (by simpa using hlt), List.getD_eq_getElem?_getD]; simp
   simp only [Option.getD_some]
   rw [e]; exact this
 refine AW.then h hfit fun e a' w' M' N' s' hx hf' hq => ?_
 simp only [kp] at hq
 obtain ⟨he, r, hr1, hr2⟩ := hq
 obtain ⟨x, hx1, hx2⟩ := resA_ok hty hf' hl hr1
 have : a'.defers = [] ∧ ∃ v, (results fn a'.tmps).run P w' = .ok v w' ∧ (∃ x M' N' r h' n', Ending.returned v = .returned x ∧ R r h' n' ∧ Ext M N (· < os.length) (initH 0 os) w M' N' (· < n') h' w' ∧ Rel M' N' (· < n') h' w' ∧ VR M' N' (· < n') r x) :=
  ⟨hf'.2.2.1, x, hx1, x, M', N', r, s'.h, s'.nx, rfl, hr2, hx, hf'.1, hx2⟩
 rcases he with rfl | rfl <;> exact this
end
end Go.Al
