/-
  What the proofs of the claims need: XR, XPl. Part 4 of 7.
-/
import Derived.Test.YtpnclpbkecjinaaGreatDoorRPart3
import Derived.WalkKit
import Derived.Lib.Builder
import Derived.Lib.UnsafeStr
import Derived.Laws.Externs
import Derived.Shelf.RegionOpenPlain
import Derived.KernelRfl
import Derived.Test.YtpnclpbkecjinaaGreatDoorRProg
import Derived.Lib.AppendStr
import Derived.Laws.RangeString
import Derived.Sort.Walk0
import Derived.Shelf.Sort.Plain
import Derived.Shelf.Slices.In.SortNone
import Derived.Shelf.Slices.In.SortNone2
import Derived.Shelf.LaysM
import Derived.Shelf.Strconv.Itoa3
import Derived.Laws.IdiomStrings
import Derived.Laws.BytesArg
import Derived.Lib.ItoaLen
namespace Go.Proofs.YtpnclpbkecjinaaGreatDoorR
open Go Go.Al
set_option maxRecDepth 10000
theorem detLen {P : Program} {k : FuncId} {args : List PV} {os : List AO} {r : PV} {h : AH} {n0 : Nat} (hc : Callable P k) {n : Nat} (hn : ∃ sz el, PV.iv (.imm sz n el) ∈ args) (hh : n ≤ maxLen → Det P k args os r h n0) : Det P k args os r h n0 := fn_len hc hn hh
def idxI {α : Type} (p : α → Bool) (l : List α) : Int := match l.findIdx? p with
 | some i => i
 | none => -1
theorem idxI_none {α : Type} {p : α → Bool} {l : List α} (h : l.any p = false) : idxI p l = -1 := by
 have : l.findIdx? p = none := by
  rw [List.findIdx?_eq_none_iff]
  intro x hx
  have := List.any_eq_false.1 h x hx
  simpa using this
 rw [idxI, this]
theorem idxI_hit {α : Type} [Inhabited α] {p : α → Bool} {l : List α} {i : Nat} (h : (l.take i).any p = false) (hi : i < l.length) (hp : p (l.getD i default) = true) : idxI p l = i := by
 have : l.findIdx? p = some i := by
  rw [List.findIdx?_eq_some_iff_getElem]
  have hg : l.getD i default = l[i] := by simp [hi]
  refine ⟨hi, hg ▸ hp, fun j hj => ?_⟩
  have := List.any_eq_false.1 h l[j] (List.mem_iff_getElem?.2 ⟨j, by rw [List.getElem?_take, if_pos hj, List.getElem?_eq_getElem (by omega)]⟩)
  simpa using this
 rw [idxI, this]
theorem idxI_any {α : Type} (p : α → Bool) (l : List α) : decide (idxI p l ≥ 0) = l.any p := by
 unfold idxI
 cases h : l.findIdx? p with
 | none =>
  have := List.findIdx?_eq_none_iff.1 h
  have : l.any p = false := List.any_eq_false.2 fun x hx => by simp [this x hx]
  rw [this]; rfl
 | some i =>
  obtain ⟨h1, h2, _⟩ := List.findIdx?_eq_some_iff_getElem.1 h
  rw [List.any_eq_true.2 ⟨_, List.getElem_mem h1, h2⟩]
  simp
theorem pIE {a b : Int} (h : a = b) : pI a = pI b := by rw [h]
theorem c154 (x : Int) : Pure Tryz.prog 154 [pI x] (pB (!decide (x = 1) && !decide (x = 2))) := by
 refine pure_end tyA_ok Tryz.func154 rfl (by decide) Tryz.ntmps154 rfl (by simp) rfl ?_
 repeat' (first | (refine gA rfl (zI (fun _ => ?_) (fun _ => ?_))) | (refine gA rfl (zL (.of_eq ?_))))
 all_goals (refine (pBE ?_ : pB _ = pB _); simp_all)
theorem c158 (t : Term) : Pure Tryz.prog 158 [ag t.c] (pB (decide (t.kind = 3))) := by
 refine pure_end tyA_ok Tryz.func158 rfl (by decide) Tryz.ntmps158 rfl (by simp) rfl ?_
 refine gA rfl (zL (.of_eq ?_))
 rfl
theorem c160 (t : Lit) : Pure Tryz.prog 160 [ag t.c] (pB (decide (t.kind = 4))) := by
 refine pure_end tyA_ok Tryz.func160 rfl (by decide) Tryz.ntmps160 rfl (by simp) rfl ?_
 refine gA rfl (zL (.of_eq ?_))
 rfl
def vCheck (v : Val) : Int := if v.kind = 1 then (if v.sym = ByteArray.empty ∧ -2147483647 ≤ v.num ∧ v.num ≤ 2147483647 then 0 else 20) else if v.kind = 2 then (if v.num = 0 ∧ v.sym.size ≤ 64 then 0 else 20) else 20
theorem c143 (v : Val) : Pure Tryz.prog 143 [ag v.c] (pI (vCheck v)) := by
 refine pure_end tyA_ok Tryz.func143 rfl (by decide) Tryz.ntmps143 rfl (by simp) rfl ?_
 repeat' (first | (refine gA rfl (zI (fun _ => ?_) (fun _ => ?_))) | (refine gA rfl (zL (.of_eq ?_))))
 all_goals (refine (pIE ?_ : pI _ = pI _); have hE : (⟨#[]⟩ : ByteArray) = ByteArray.empty := rfl; simp_all [vCheck]; try omega)
def Decl.z : Decl := ⟨ByteArray.empty, [], ⟨0, 0⟩⟩
def declE (d : Decl) : IV := .agg d.c
def declZ : Value := .agg #[.string ByteArray.empty, .slice none 0 0, .int .i64 0, .int .i64 0]
def intOf : List IV → Int
 | [.v (.int .i64 n)] => n
 | _ => 0
def dvD : PV → Decl
 | .agg [.iv (.v (.string s)), .iv (.imm _ n el), .iv (.v (.int _ a)), .iv (.v (.int _ b))] => ⟨s, (List.range n).map fun k => intOf (el k), ⟨a, b⟩⟩
 | _ => Decl.z
abbrev DM := List ((KC.str).K × Decl)
abbrev declO (m : DM) : AO := .map .str declE Decl.z declZ dvD m
abbrev declI (m : DM) : IV := .imap .str declE Decl.z declZ m
theorem dvD_c (d : Decl) : dvD (ag d.c) = d := by
 show (⟨d.name, (List.range d.types.length).map fun k => intOf (intC (d.types.getD k default)), ⟨d.at_.line, d.at_.col⟩⟩ : Decl) = d
 have : (List.range d.types.length).map (fun k => intOf (intC (d.types.getD k default))) = d.types := by
  apply List.ext_getElem?
  intro k
  by_cases hk : k < d.types.length
  ·simp [hk, intOf, intC]
  ·simp [hk]
 rw [this]
theorem declZ_ok : ∀ M, IR M (declE Decl.z) declZ := fun M => by
 refine .agg _ _ rfl fun j p hj => ?_
 match j, hj with
 | 0, hj => cases hj; exact .v _
 | 1, hj => cases hj; exact .imm0 _ _ _ _
 | 2, hj => cases hj; exact .v _
 | 3, hj => cases hj; exact .v _
 | j + 4, hj => simp [Decl.c] at hj
theorem agI (l : List IV) : PVle (ag l) (.iv (.agg l)) := by
 intro M N U x h
 generalize hq : ag l = q at h
 cases h with
 | agg cs ys hl hr =>
  cases hq
  refine .iv _ _ (.agg _ _ (by simpa using hl) fun j p hj => ?_)
  have := hr j (.iv p) (by rw [List.getElem?_map, hj]; rfl)
  generalize ys.getD j undef = y at this ⊢
  cases this with
  | iv _ _ h => exact h
 | _ => cases hq
theorem declOwed (d : Decl) : PVle (ag d.c) (.iv (declE (dvD (ag d.c)))) := by rw [dvD_c]; exact agI _
def relStep (m : DM) (d : Decl) : DM := if hasK .str m d.name = true then m else putK .str m d.name d
def relsM (p : Prog) : DM := p.rels.foldl relStep []
abbrev relsI (p : Prog) : IV := declI (relsM p)
theorem putK_len {V : Type} : ∀ (m : List ((KC.str).K × V)) (k : Str) (v : V), (putK .str m k v).length ≤ m.length + 1
 | [], _, _ => by simp [putK]
 | (a, b) :: r, k, v => by
  have := putK_len r k v
  simp only [putK]
  split
  ·simp
  ·simp only [List.length_cons]; omega
theorem d50 (p : Prog) (hb : p.rels.length ≤ 1000000000000) : Det Tryz.prog 50 [ag p.c] [] (.mp 0) [(0, some (declO (relsM p)))] 1 := by
 refine det_end tyA_ok Tryz.func50 rfl (by decide) Tryz.ntmps50 rfl (by simp) ?_
 refine gA rfl ?_
 refine go_for 0 p.rels.length (Nat.zero_le _) (fun i => ⟨[(3, .mp 1), (13, .iv (slc 4 p.rels Decl.c)), (14, pI p.rels.length), (15, pI i)], [(1, some (declO ((p.rels.take i).foldl relStep [])))], 2⟩) (fun _ => True) [] trivial
  (zW (hM0 rfl declZ_ok rfl trivial)) fun i hi _ => ?_
 refine gA rfl (zI (fun h1 => ?_) fun h1 => ?_)
 ·have h1 : i < p.rels.length := by simpa using h1
  have hs := fold_step (g := relStep) (b := []) h1
  refine gA rfl (zI (fun h2 => ?_) fun h2 => ?_)
  ·have h2 : hasK .str ((p.rels.take i).foldl relStep []) (p.rels.getD i default).name = false := by simpa using h2
   rw [relStep, if_neg (by rw [h2]; simp)] at hs
   refine goR rfl ?_ ?_
   ·repeat' (first | exact trivial | exact rfl | exact declOwed _ | exact PVle.refl _ | apply And.intro)
    all_goals omega
   exact ⟨h1, trivial, [], zW (hM rfl (by rw [hs, ← dvD_c (p.rels.getD i default)]; rfl) rfl trivial)⟩
  ·have h2 : hasK .str ((p.rels.take i).foldl relStep []) (p.rels.getD i default).name = true := by simpa using h2
   rw [relStep, if_pos h2] at hs
   refine gA rfl ?_
   exact ⟨h1, trivial, [], zW (hM rfl (by rw [hs]) rfl trivial)⟩
 ·have h1 : p.rels.length ≤ i := by simpa using h1
  rw [List.take_of_length_le h1]
  refine gA rfl (end_det [1] (by first | exact .inr rfl | exact .inl rfl) rfl (zW (hM rfl rfl rfl trivial)))
def absB (p : Prog) (a : Atom) : Bool := !hasK .str (relsM p) a.rel
def declOf (p : Prog) (s : Str) : Decl := lkD .str (relsM p) s Decl.z
def aryB (p : Prog) (a : Atom) : Bool := !decide ((a.terms.length : Int) = ((declOf p a.rel).types.length : Int))
theorem d113 (p : Prog) (a : Atom) : Det Tryz.prog 113 [ag a.c, .ptr 0 0] [.cells [.iv (relsI p)]] (pB (absB p a)) [(0, some (.cells [.iv (relsI p)]))] 1 := by
 refine det_end tyA_ok Tryz.func113 rfl (by decide) Tryz.ntmps113 rfl (by simp) ?_
 refine gA rfl (end_det [] (by first | exact .inr rfl | exact .inl rfl) rfl (zM ⟨.of_eq rfl, rfl, trivial⟩ (zO trivial)))
theorem d115 (p : Prog) (a : Atom) : Det Tryz.prog 115 [ag a.c, .ptr 0 0] [.cells [.iv (relsI p)]] (pB (aryB p a)) [(0, some (.cells [.iv (relsI p)]))] 1 := by
 refine det_end tyA_ok Tryz.func115 rfl (by decide) Tryz.ntmps115 rfl (by simp) ?_
 refine gA rfl (end_det [] (by first | exact .inr rfl | exact .inl rfl) rfl (zM ⟨.of_eq rfl, rfl, trivial⟩ (zO trivial)))
theorem i187 (l : List Int) : Det Tryz.prog 187 [.iv (slc 1 l intC), .clo (.func 154) [] []] [] (pI (idxI (fun x => !decide (x = 1) && !decide (x = 2)) l)) [] 0 := by
 refine detLen (callable_of Tryz.func187 rfl (by decide)) ⟨_, _, List.mem_cons_self⟩ fun hlen => ?_
 simp only [maxLen] at hlen
 refine det_end tyA_ok Tryz.func187 rfl (by decide) Tryz.ntmps187 rfl (by simp) ?_
 refine gA rfl ?_
 refine go_for 0 l.length (Nat.zero_le _) (fun i => ⟨[(0, .iv (slc 1 l intC)), (1, .clo (.func 154) [] []), (7, pI l.length), (8, pI i)], [], 0⟩) (fun i => (l.take i).any (fun x => !decide (x = 1) && !decide (x = 2)) = false) [] (by simp)
  (zW trivial) fun i hi hJ => ?_
 refine gA rfl (zI (fun h1 => ?_) fun h1 => ?_)
 ·have h1 : i < l.length := by simpa using h1
  refine gA rfl (zp (c154 (l.getD i default)) ?_)
  refine gA rfl (zI (fun h2 => ?_) fun h2 => ?_)
  ·have h2 : (fun x => !decide (x = 1) && !decide (x = 2)) (l.getD i default) = true := h2
   rw [idxI_hit hJ h1 h2]
   refine gA rfl (end_det [] (by first | exact .inr rfl | exact .inl rfl) rfl (zW trivial))
  ·have h2 : (fun x => !decide (x = 1) && !decide (x = 2)) (l.getD i default) = false := h2
   refine gA rfl ?_
   exact ⟨h1, (any_step hJ h1).2 h2, [], zW trivial⟩
 ·have h1 : l.length ≤ i := by simpa using h1
  rw [idxI_none (any_none hJ h1)]
  refine gA rfl (end_det [] (by first | exact .inr rfl | exact .inl rfl) rfl (zW trivial))
theorem d153 (l : List Int) : Det Tryz.prog 153 [.iv (slc 1 l intC), .clo (.func 154) [] []] [] (pB (l.any (fun x => !decide (x = 1) && !decide (x = 2)))) [] 0 := by
 refine det_end tyA_ok Tryz.func153 rfl (by decide) Tryz.ntmps153 rfl (by simp) ?_
 refine gA rfl (zq [] (i187 l) ?_)
 refine gA rfl (end_det [] (by first | exact .inr rfl | exact .inl rfl) rfl (zM ⟨.of_eq (pBE (idxI_any _ l)), rfl, trivial⟩ trivial))
theorem i191 (l : List Term) : Det Tryz.prog 191 [.iv (slc 5 l Term.c), .clo (.func 158) [] []] [] (pI (idxI (fun x : Term => decide (x.kind = 3)) l)) [] 0 := by
 refine detLen (callable_of Tryz.func191 rfl (by decide)) ⟨_, _, List.mem_cons_self⟩ fun hlen => ?_
 simp only [maxLen] at hlen
 refine det_end tyA_ok Tryz.func191 rfl (by decide) Tryz.ntmps191 rfl (by simp) ?_
 refine gA rfl ?_
 refine go_for 0 l.length (Nat.zero_le _) (fun i => ⟨[(0, .iv (slc 5 l Term.c)), (1, .clo (.func 158) [] []), (7, pI l.length), (8, pI i)], [], 0⟩) (fun i => (l.take i).any (fun x : Term => decide (x.kind = 3)) = false) [] (by simp)
  (zW trivial) fun i hi hJ => ?_
 refine gA rfl (zI (fun h1 => ?_) fun h1 => ?_)
 ·have h1 : i < l.length := by simpa using h1
  refine gA rfl (zp (c158 (l.getD i default)) ?_)
  refine gA rfl (zI (fun h2 => ?_) fun h2 => ?_)
  ·have h2 : (fun x : Term => decide (x.kind = 3)) (l.getD i default) = true := h2
   rw [idxI_hit hJ h1 h2]
   refine gA rfl (end_det [] (by first | exact .inr rfl | exact .inl rfl) rfl (zW trivial))
  ·have h2 : (fun x : Term => decide (x.kind = 3)) (l.getD i default) = false := h2
   refine gA rfl ?_
   exact ⟨h1, (any_step hJ h1).2 h2, [], zW trivial⟩
 ·have h1 : l.length ≤ i := by simpa using h1
  rw [idxI_none (any_none hJ h1)]
  refine gA rfl (end_det [] (by first | exact .inr rfl | exact .inl rfl) rfl (zW trivial))
theorem d157 (l : List Term) : Det Tryz.prog 157 [.iv (slc 5 l Term.c), .clo (.func 158) [] []] [] (pB (l.any (fun x : Term => decide (x.kind = 3)))) [] 0 := by
 refine det_end tyA_ok Tryz.func157 rfl (by decide) Tryz.ntmps157 rfl (by simp) ?_
 refine gA rfl (zq [] (i191 l) ?_)
 refine gA rfl (end_det [] (by first | exact .inr rfl | exact .inl rfl) rfl (zM ⟨.of_eq (pBE (idxI_any _ l)), rfl, trivial⟩ trivial))
theorem i192 (l : List Lit) : Det Tryz.prog 192 [.iv (slc 30 l Lit.c), .clo (.func 160) [] []] [] (pI (idxI (fun x : Lit => decide (x.kind = 4)) l)) [] 0 := by
 refine detLen (callable_of Tryz.func192 rfl (by decide)) ⟨_, _, List.mem_cons_self⟩ fun hlen => ?_
 simp only [maxLen] at hlen
 refine det_end tyA_ok Tryz.func192 rfl (by decide) Tryz.ntmps192 rfl (by simp) ?_
 refine gA rfl ?_
 refine go_for 0 l.length (Nat.zero_le _) (fun i => ⟨[(0, .iv (slc 30 l Lit.c)), (1, .clo (.func 160) [] []), (7, pI l.length), (8, pI i)], [], 0⟩) (fun i => (l.take i).any (fun x : Lit => decide (x.kind = 4)) = false) [] (by simp)
  (zW trivial) fun i hi hJ => ?_
 refine gA rfl (zI (fun h1 => ?_) fun h1 => ?_)
 ·have h1 : i < l.length := by simpa using h1
  refine gA rfl (zp (c160 (l.getD i default)) ?_)
  refine gA rfl (zI (fun h2 => ?_) fun h2 => ?_)
  ·have h2 : (fun x : Lit => decide (x.kind = 4)) (l.getD i default) = true := h2
   rw [idxI_hit hJ h1 h2]
   refine gA rfl (end_det [] (by first | exact .inr rfl | exact .inl rfl) rfl (zW trivial))
  ·have h2 : (fun x : Lit => decide (x.kind = 4)) (l.getD i default) = false := h2
   refine gA rfl ?_
   exact ⟨h1, (any_step hJ h1).2 h2, [], zW trivial⟩
 ·have h1 : l.length ≤ i := by simpa using h1
  rw [idxI_none (any_none hJ h1)]
  refine gA rfl (end_det [] (by first | exact .inr rfl | exact .inl rfl) rfl (zW trivial))
theorem d159 (l : List Lit) : Det Tryz.prog 159 [.iv (slc 30 l Lit.c), .clo (.func 160) [] []] [] (pB (l.any (fun x : Lit => decide (x.kind = 4)))) [] 0 := by
 refine det_end tyA_ok Tryz.func159 rfl (by decide) Tryz.ntmps159 rfl (by simp) ?_
 refine gA rfl (zq [] (i192 l) ?_)
 refine gA rfl (end_det [] (by first | exact .inr rfl | exact .inl rfl) rfl (zM ⟨.of_eq (pBE (idxI_any _ l)), rfl, trivial⟩ trivial))
theorem i156A (p : Prog) (l : List Atom) : Det Tryz.prog 156 [.iv (slc 2 l Atom.c), .clo (.func 113) [] [.ptr 0 0]] [.cells [.iv (relsI p)]] (pI (idxI (fun x : Atom => absB p x) l)) [(0, some (.cells [.iv (relsI p)]))] 1 := by
 refine detLen (callable_of Tryz.func156 rfl (by decide)) ⟨_, _, List.mem_cons_self⟩ fun hlen => ?_
 simp only [maxLen] at hlen
 refine det_end tyA_ok Tryz.func156 rfl (by decide) Tryz.ntmps156 rfl (by simp) ?_
 refine gA rfl ?_
 refine go_for 0 l.length (Nat.zero_le _) (fun i => ⟨[(0, .iv (slc 2 l Atom.c)), (1, .clo (.func 113) [] [.ptr 0 0]), (7, pI l.length), (8, pI i)], [(0, some (.cells [.iv (relsI p)]))], 1⟩) (fun i => (l.take i).any (fun x : Atom => absB p x) = false) [] (by simp)
  (zW (zO trivial)) fun i hi hJ => ?_
 refine gA rfl (zI (fun h1 => ?_) fun h1 => ?_)
 ·have h1 : i < l.length := by simpa using h1
  refine gA rfl (zq [0] (d113 p (l.getD i default)) ?_)
  refine gA rfl (zI (fun h2 => ?_) fun h2 => ?_)
  ·have h2 : (fun x : Atom => absB p x) (l.getD i default) = true := h2
   rw [idxI_hit hJ h1 h2]
   refine gA rfl (end_det [] (by first | exact .inr rfl | exact .inl rfl) rfl (zW (zO trivial)))
  ·have h2 : (fun x : Atom => absB p x) (l.getD i default) = false := h2
   refine gA rfl ?_
   exact ⟨h1, (any_step hJ h1).2 h2, [], zW (zO trivial)⟩
 ·have h1 : l.length ≤ i := by simpa using h1
  rw [idxI_none (any_none hJ h1)]
  refine gA rfl (end_det [] (by first | exact .inr rfl | exact .inl rfl) rfl (zW (zO trivial)))
theorem d111A (p : Prog) (l : List Atom) : Det Tryz.prog 111 [.iv (slc 2 l Atom.c), .clo (.func 113) [] [.ptr 0 0]] [.cells [.iv (relsI p)]] (pB (l.any (fun x : Atom => absB p x))) [(0, some (.cells [.iv (relsI p)]))] 1 := by
 refine det_end tyA_ok Tryz.func111 rfl (by decide) Tryz.ntmps111 rfl (by simp) ?_
 refine gA rfl (zq [0] (i156A p l) ?_)
 refine gA rfl (end_det [] (by first | exact .inr rfl | exact .inl rfl) rfl (zM ⟨.of_eq (pBE (idxI_any _ l)), rfl, trivial⟩ (zO trivial)))
theorem i156B (p : Prog) (l : List Atom) : Det Tryz.prog 156 [.iv (slc 2 l Atom.c), .clo (.func 115) [] [.ptr 0 0]] [.cells [.iv (relsI p)]] (pI (idxI (fun x : Atom => aryB p x) l)) [(0, some (.cells [.iv (relsI p)]))] 1 := by
 refine detLen (callable_of Tryz.func156 rfl (by decide)) ⟨_, _, List.mem_cons_self⟩ fun hlen => ?_
 simp only [maxLen] at hlen
 refine det_end tyA_ok Tryz.func156 rfl (by decide) Tryz.ntmps156 rfl (by simp) ?_
 refine gA rfl ?_
 refine go_for 0 l.length (Nat.zero_le _) (fun i => ⟨[(0, .iv (slc 2 l Atom.c)), (1, .clo (.func 115) [] [.ptr 0 0]), (7, pI l.length), (8, pI i)], [(0, some (.cells [.iv (relsI p)]))], 1⟩) (fun i => (l.take i).any (fun x : Atom => aryB p x) = false) [] (by simp)
  (zW (zO trivial)) fun i hi hJ => ?_
 refine gA rfl (zI (fun h1 => ?_) fun h1 => ?_)
 ·have h1 : i < l.length := by simpa using h1
  refine gA rfl (zq [0] (d115 p (l.getD i default)) ?_)
  refine gA rfl (zI (fun h2 => ?_) fun h2 => ?_)
  ·have h2 : (fun x : Atom => aryB p x) (l.getD i default) = true := h2
   rw [idxI_hit hJ h1 h2]
   refine gA rfl (end_det [] (by first | exact .inr rfl | exact .inl rfl) rfl (zW (zO trivial)))
  ·have h2 : (fun x : Atom => aryB p x) (l.getD i default) = false := h2
   refine gA rfl ?_
   exact ⟨h1, (any_step hJ h1).2 h2, [], zW (zO trivial)⟩
 ·have h1 : l.length ≤ i := by simpa using h1
  rw [idxI_none (any_none hJ h1)]
  refine gA rfl (end_det [] (by first | exact .inr rfl | exact .inl rfl) rfl (zW (zO trivial)))
theorem d111B (p : Prog) (l : List Atom) : Det Tryz.prog 111 [.iv (slc 2 l Atom.c), .clo (.func 115) [] [.ptr 0 0]] [.cells [.iv (relsI p)]] (pB (l.any (fun x : Atom => aryB p x))) [(0, some (.cells [.iv (relsI p)]))] 1 := by
 refine det_end tyA_ok Tryz.func111 rfl (by decide) Tryz.ntmps111 rfl (by simp) ?_
 refine gA rfl (zq [0] (i156B p l) ?_)
 refine gA rfl (end_det [] (by first | exact .inr rfl | exact .inl rfl) rfl (zM ⟨.of_eq (pBE (idxI_any _ l)), rfl, trivial⟩ (zO trivial)))
def posNeg (l : Lit) : List Atom := if l.kind = 1 ∨ l.kind = 2 then [l.atom] else []
theorem posNeg_len : ∀ l : List Lit, (l.flatMap posNeg).length ≤ l.length
 | [] => by simp
 | x :: r => by
  have h1 := posNeg_len r
  have h2 : (posNeg x).length ≤ 1 := by unfold posNeg; split <;> simp
  simp only [List.flatMap_cons, List.length_append, List.length_cons]; omega
def litsAt (r : Rule) (lit : Int) : List Lit := if (litAt r lit).kind = 4 then (litAt r lit).abody else [litAt r lit]
def atomsL (r : Rule) (lit : Int) : List Atom := if lit < 0 then [r.head] else (litsAt r lit).flatMap posNeg
theorem litsOne (r : Rule) (lit : Int) (h : 0 ≤ lit) : IVle (.imm 30 ((lit + 1).toNat - lit.toNat) (fun j => (r.body.getD (lit.toNat + j) default).c)) (lits [litAt r lit]) := by
 have e : (lit + 1).toNat - lit.toNat = 1 := by omega
 rw [e]
 exact .imm rfl (fun j hj => by
  have : j = 0 := by omega
  subst this; rfl)
theorem c112 (r : Rule) (lit : Int) (h1 : lit < r.body.length) (hb : r.size ≤ 1000000000000) : Pure Tryz.prog 112 [ag r.c, pI lit] (.iv (slc 2 (atomsL r lit) Atom.c)) := by
 have hbl := Lit.length_sizes r.body
 have h0 : Lit.sizes r.body ≤ r.size := Nat.le_add_left _ _
 refine pure_end tyA_ok Tryz.func112 rfl (by decide) Tryz.ntmps112 rfl (by simp) rfl ?_
 refine gA rfl (zI (fun h2 => ?_) fun h2 => ?_)
 ·have h2 : lit < 0 := by simpa using h2
  refine gA rfl (end_row (by first | exact .inr rfl | exact .inl rfl) rfl rfl (by rw [atomsL, if_pos h2]; rfl) (by rw [atomsL, if_pos h2]; rfl))
 have h2 : ¬ lit < 0 := by simpa using h2
 have hk : lit.toNat < r.body.length := by omega
 have hsz := Lit.sizes_get r.body lit.toNat hk
 have hse := (litAt r lit).size_eq
 have hsl := Lit.length_sizes (litAt r lit).abody
 have hle : (litAt r lit).size ≤ Lit.sizes r.body := hsz
 refine gA rfl (zI (fun h3 => ?_) fun h3 => ?_)
 ·have h3 : (litAt r lit).kind = 4 := by simpa [litAt] using h3
  have hat : atomsL r lit = (litAt r lit).abody.flatMap posNeg := by rw [atomsL, if_neg h2, litsAt, if_pos h3]
  refine gA rfl ?_
  refine go_virt 6 2 rfl ?_
  refine go_for 0 ((litAt r lit).abody).length (Nat.zero_le _) (fun i => ⟨[(6, .sl 2 0 ((((litAt r lit).abody).take i).flatMap posNeg).length 2), (30, .iv (lits ((litAt r lit).abody))), (31, pI ((litAt r lit).abody).length), (32, pI i)], [(2, some (rowI 2 ((((litAt r lit).abody).take i).flatMap posNeg) Atom.c))], 3⟩) (fun _ => True) [1] trivial
   (zM ⟨.refl _, rfl, .iv (litsIL _), rfl, .refl _, rfl, .refl _, rfl, trivial⟩ (zS trivial)) fun i hi _ => ?_
  have hpl := posNeg_len (((litAt r lit).abody).take i)
  have htl : (((litAt r lit).abody).take i).length ≤ ((litAt r lit).abody).length := by rw [List.length_take]; exact Nat.min_le_right _ _
  have hLb : ((litAt r lit).abody).length ≤ 1000000000000 := by first | omega | (rw [List.length_singleton]; omega)
  refine gA rfl (zI (fun h4 => ?_) fun h4 => ?_)
  ·have h4 : i < ((litAt r lit).abody).length := zN h4
   have hs := flatMap_step (f := posNeg) h4
   have hyes : ((((litAt r lit).abody).getD i default).kind = 1 ∨ (((litAt r lit).abody).getD i default).kind = 2) → (((litAt r lit).abody).take (i + 1)).flatMap posNeg = (((litAt r lit).abody).take i).flatMap posNeg ++ [(((litAt r lit).abody).getD i default).atom] := fun h => by rw [hs, posNeg, if_pos h]
   have hno : ¬ ((((litAt r lit).abody).getD i default).kind = 1 ∨ (((litAt r lit).abody).getD i default).kind = 2) → (((litAt r lit).abody).take (i + 1)).flatMap posNeg = (((litAt r lit).abody).take i).flatMap posNeg := fun h => by rw [hs, posNeg, if_neg h, List.append_nil]
   refine gA rfl (zI (fun h5 => ?_) fun h5 => ?_)
   ·have h5 : ¬ (((litAt r lit).abody).getD i default).kind = 1 := by simpa using h5
    refine gA rfl (zI (fun h6 => ?_) fun h6 => ?_)
    ·have h6 : (((litAt r lit).abody).getD i default).kind = 2 := by simpa using h6
     have hs := hyes (.inr h6)
     refine gA rfl ?_
     exact ⟨h4, trivial, [5], zM ⟨.row (by rw [hs, List.length_append]; rfl), rfl, .refl _, rfl, .refl _, rfl, .refl _, rfl, trivial⟩ (hR rfl (by rw [hs, List.map_append]; rfl) rfl trivial)⟩
    ·have h6 : ¬ (((litAt r lit).abody).getD i default).kind = 2 := by simpa using h6
     have hs := hno (fun h => h.elim h5 h6)
     refine gA rfl ?_
     exact ⟨h4, trivial, [2], zM ⟨.row (by rw [hs]), rfl, .refl _, rfl, .refl _, rfl, .refl _, rfl, trivial⟩ (hR rfl (by rw [hs]) rfl trivial)⟩
   ·have h5 : (((litAt r lit).abody).getD i default).kind = 1 := by simpa using h5
    have hs := hyes (.inl h5)
    refine gA rfl ?_
    exact ⟨h4, trivial, [5], zM ⟨.row (by rw [hs, List.length_append]; rfl), rfl, .refl _, rfl, .refl _, rfl, .refl _, rfl, trivial⟩ (hR rfl (by rw [hs, List.map_append]; rfl) rfl trivial)⟩
  ·have h4 : ((litAt r lit).abody).length ≤ i := zG h4
   rw [List.take_of_length_le h4] at *
   refine gA rfl (end_row (by first | exact .inr rfl | exact .inl rfl) rfl rfl (by rw [hat]) (by rw [hat]))
 ·have h3 : ¬ (litAt r lit).kind = 4 := by simpa [litAt] using h3
  have hat : atomsL r lit = [litAt r lit].flatMap posNeg := by rw [atomsL, if_neg h2, litsAt, if_neg h3]
  refine gA rfl ?_
  refine go_virt 6 2 rfl ?_
  refine go_for 0 ([litAt r lit]).length (Nat.zero_le _) (fun i => ⟨[(6, .sl 2 0 ((([litAt r lit]).take i).flatMap posNeg).length 2), (30, .iv (lits ([litAt r lit]))), (31, pI ([litAt r lit]).length), (32, pI i)], [(2, some (rowI 2 ((([litAt r lit]).take i).flatMap posNeg) Atom.c))], 3⟩) (fun _ => True) [1] trivial
   (zM ⟨.refl _, rfl, .iv (litsOne r lit (by omega)), rfl, .of_eq (pIE (by simp only [List.length_singleton]; omega)), rfl, .refl _, rfl, trivial⟩ (zS trivial)) fun i hi _ => ?_
  have hpl := posNeg_len (([litAt r lit]).take i)
  have htl : (([litAt r lit]).take i).length ≤ ([litAt r lit]).length := by rw [List.length_take]; exact Nat.min_le_right _ _
  have hLb : ([litAt r lit]).length ≤ 1000000000000 := by first | omega | (rw [List.length_singleton]; omega)
  refine gA rfl (zI (fun h4 => ?_) fun h4 => ?_)
  ·have h4 : i < ([litAt r lit]).length := zN h4
   have hs := flatMap_step (f := posNeg) h4
   have hyes : ((([litAt r lit]).getD i default).kind = 1 ∨ (([litAt r lit]).getD i default).kind = 2) → (([litAt r lit]).take (i + 1)).flatMap posNeg = (([litAt r lit]).take i).flatMap posNeg ++ [(([litAt r lit]).getD i default).atom] := fun h => by rw [hs, posNeg, if_pos h]
   have hno : ¬ ((([litAt r lit]).getD i default).kind = 1 ∨ (([litAt r lit]).getD i default).kind = 2) → (([litAt r lit]).take (i + 1)).flatMap posNeg = (([litAt r lit]).take i).flatMap posNeg := fun h => by rw [hs, posNeg, if_neg h, List.append_nil]
   refine gA rfl (zI (fun h5 => ?_) fun h5 => ?_)
   ·have h5 : ¬ (([litAt r lit]).getD i default).kind = 1 := by simpa using h5
    refine gA rfl (zI (fun h6 => ?_) fun h6 => ?_)
    ·have h6 : (([litAt r lit]).getD i default).kind = 2 := by simpa using h6
     have hs := hyes (.inr h6)
     refine gA rfl ?_
     exact ⟨h4, trivial, [5], zM ⟨.row (by rw [hs, List.length_append]; rfl), rfl, .refl _, rfl, .refl _, rfl, .refl _, rfl, trivial⟩ (hR rfl (by rw [hs, List.map_append]; rfl) rfl trivial)⟩
    ·have h6 : ¬ (([litAt r lit]).getD i default).kind = 2 := by simpa using h6
     have hs := hno (fun h => h.elim h5 h6)
     refine gA rfl ?_
     exact ⟨h4, trivial, [2], zM ⟨.row (by rw [hs]), rfl, .refl _, rfl, .refl _, rfl, .refl _, rfl, trivial⟩ (hR rfl (by rw [hs]) rfl trivial)⟩
   ·have h5 : (([litAt r lit]).getD i default).kind = 1 := by simpa using h5
    have hs := hyes (.inl h5)
    refine gA rfl ?_
    exact ⟨h4, trivial, [5], zM ⟨.row (by rw [hs, List.length_append]; rfl), rfl, .refl _, rfl, .refl _, rfl, .refl _, rfl, trivial⟩ (hR rfl (by rw [hs, List.map_append]; rfl) rfl trivial)⟩
  ·have h4 : ([litAt r lit]).length ≤ i := zG h4
   rw [List.take_of_length_le h4] at *
   refine gA rfl (end_row (by first | exact .inr rfl | exact .inl rfl) rfl rfl (by rw [hat]) (by rw [hat]))
theorem d110 (p : Prog) (r : Rule) (lit : Int) (h1 : lit < r.body.length) (hb : r.size ≤ 1000000000000) : Det Tryz.prog 110 [pI lit, .ptr 0 0, .ptr 1 0] [cellsI r.c, .cells [.iv (relsI p)]] (pB ((atomsL r lit).any fun x => absB p x)) [(0, some (cellsI r.c)), (1, some (.cells [.iv (relsI p)]))] 2 := by
 refine det_end tyA_ok Tryz.func110 rfl (by decide) Tryz.ntmps110 rfl (by simp) ?_
 refine gA rfl (zp (c112 r lit h1 hb) ?_)
 refine gA rfl (zq [1] (d111A p (atomsL r lit)) ?_)
 refine gA rfl (end_det [] (by first | exact .inr rfl | exact .inl rfl) rfl (zW (zK (zO trivial))))
theorem d114 (p : Prog) (r : Rule) (lit : Int) (h1 : lit < r.body.length) (hb : r.size ≤ 1000000000000) : Det Tryz.prog 114 [pI lit, .ptr 0 0, .ptr 1 0] [cellsI r.c, .cells [.iv (relsI p)]] (pB ((atomsL r lit).any fun x => aryB p x)) [(0, some (cellsI r.c)), (1, some (.cells [.iv (relsI p)]))] 2 := by
 refine det_end tyA_ok Tryz.func114 rfl (by decide) Tryz.ntmps114 rfl (by simp) ?_
 refine gA rfl (zp (c112 r lit h1 hb) ?_)
 refine gA rfl (zq [1] (d111B p (atomsL r lit)) ?_)
 refine gA rfl (end_det [] (by first | exact .inr rfl | exact .inl rfl) rfl (zW (zK (zO trivial))))
def scopeB (r : Rule) (lit : Int) : Bool := if lit < 0 then r.head.terms.any fun x => decide (x.kind = 3) else if (litAt r lit).kind = 4 then ((litAt r lit).abody.any fun x => decide (x.kind = 4)) || inL (aggOcc (litAt r lit).agg) (litAt r lit).avar else false
theorem c117 (r : Rule) (lit : Int) (h1 : lit < r.body.length) (hb : r.size ≤ 100000000) : Pure Tryz.prog 117 [ag r.c, pI lit] (pB (scopeB r lit)) := by
 have hbl := Lit.length_sizes r.body
 have h0 : Lit.sizes r.body ≤ r.size := Nat.le_add_left _ _
 refine pure_end tyA_ok Tryz.func117 rfl (by decide) Tryz.ntmps117 rfl (by simp) rfl ?_
 refine gA rfl (zI (fun h2 => ?_) fun h2 => ?_)
 ·have h2 : lit < 0 := by simpa using h2
  refine gA rfl (zq [] (d157 r.head.terms) ?_)
  refine gA rfl (zL (.of_eq ?_))
  rw [scopeB, if_pos h2]; rfl
 have h2 : ¬ lit < 0 := by simpa using h2
 have hk : lit.toNat < r.body.length := by omega
 have hsz := Lit.sizes_get r.body lit.toNat hk
 have hag := (litAt r lit).agg_size
 have hle : (litAt r lit).size ≤ Lit.sizes r.body := hsz
 have hal := aggOcc_len (litAt r lit).agg
 refine gA rfl (zI (fun h3 => ?_) fun h3 => ?_)
 ·have h3 : ¬ (litAt r lit).kind = 4 := by simpa [litAt] using h3
  refine gA rfl (zL (.of_eq ?_))
  rw [scopeB, if_neg h2, if_neg h3]
 have h3 : (litAt r lit).kind = 4 := by simpa [litAt] using h3
 refine gA rfl (go_det [] (Det.le (aa := [.iv (bodyR (litAt r lit).abody), .clo (.func 160) [] []]) (d159 (litAt r lit).abody) ⟨.iv (litsIL _), .refl _, trivial⟩) rfl rfl rfl rfl rfl rfl rfl rfl ?_)
 refine gA rfl (zI (fun h4 => ?_) fun h4 => ?_)
 rotate_left
 ·have h4 : ((litAt r lit).abody.any fun x => decide (x.kind = 4)) = false := h4
  have hlk := occM_lk (aggOcc (litAt r lit).agg) (litAt r lit).avar
  have hct := inL_cnt (occ := aggOcc (litAt r lit).agg) (s := (litAt r lit).avar)
  refine gA rfl (zd [] (d127 (litAt r lit).agg (by omega)) ?_)
  refine gA rfl (zL (.of_eq ?_))
  refine (pBE ?_ : pB (decide (lkD .str (occM (aggOcc (litAt r lit).agg)) (litAt r lit).avar 0 > 0)) = _)
  rw [scopeB, if_neg h2, if_pos h3, h4, hct, hlk, Bool.false_or]
  by_cases hz : cntL (aggOcc (litAt r lit).agg) (litAt r lit).avar = 0 <;> simp [hz]; omega
 ·have h4 : ((litAt r lit).abody.any fun x => decide (x.kind = 4)) = true := h4
  refine gA rfl (zL (.of_eq ?_))
  rw [scopeB, if_neg h2, if_pos h3, h4]; rfl
theorem d116 (r : Rule) (lit : Int) (h1 : lit < r.body.length) (hb : r.size ≤ 100000000) : Det Tryz.prog 116 [pI lit, .ptr 0 0] [cellsI r.c] (pB (scopeB r lit)) [(0, some (cellsI r.c))] 1 := by
 refine det_end tyA_ok Tryz.func116 rfl (by decide) Tryz.ntmps116 rfl (by simp) ?_
 refine gA rfl (zp (c117 r lit h1 hb) ?_)
 refine gA rfl (end_det [] (by first | exact .inr rfl | exact .inl rfl) rfl (zW (zK trivial)))
def placeL (r : Rule) (lit : Int) : Pos := if lit < 0 then r.at_ else (litAt r lit).at
theorem c120 (r : Rule) (lit : Int) (h1 : lit < r.body.length) : Pure Tryz.prog 120 [ag r.c, pI lit] (ag [iI (placeL r lit).line, iI (placeL r lit).col]) := by
 refine pure_end tyA_ok Tryz.func120 rfl (by decide) Tryz.ntmps120 rfl (by simp) rfl ?_
 refine gA rfl (zI (fun h2 => ?_) fun h2 => ?_)
 ·have h2 : lit < 0 := by simpa using h2
  refine gA rfl (zL (.of_eq ?_))
  rw [placeL, if_pos h2]; rfl
 have h2 : ¬ lit < 0 := by simpa using h2
 refine gA rfl (zL (.of_eq ?_))
 rw [placeL, if_neg h2]; rfl
def locLen (r : Rule) (l : Lit) : Nat := if l.kind = 4 then (locM r l.agg).length else 0
def sizeN (r : Rule) : Nat := r.body.foldl (fun n l => n + locLen r l) (occM (outerOcc r)).length
theorem locLen_le (r : Rule) (l : Lit) : locLen r l ≤ l.size := by
 unfold locLen
 split
 ·have h1 : (locM r l.agg).length ≤ (occM (aggOcc l.agg)).length := List.length_filter_le _ _
  have h2 := occM_len (aggOcc l.agg)
  have h3 := aggOcc_len l.agg
  have h4 := l.agg_size
  omega
 ·omega
theorem sizeN_le (r : Rule) : ∀ (l : List Lit) (n : Nat), l.foldl (fun n l => n + locLen r l) n ≤ n + Lit.sizes l
 | [], n => by simp
 | x :: t, n => by
  have h1 := sizeN_le r t (n + locLen r x)
  have h2 := locLen_le r x
  simp only [List.foldl_cons, Lit.sizes]; omega
theorem c109 (r : Rule) (hb : r.size ≤ 100000000) : Pure Tryz.prog 109 [.iv (bookI r)] (pI (sizeN r)) := by
 have hbl := Lit.length_sizes r.body
 have h0 : Lit.sizes r.body ≤ r.size := Nat.le_add_left _ _
 have ho := outerOcc_len r
 have ho2 := occM_len (outerOcc r)
 refine pure_end tyA_ok Tryz.func109 rfl (by decide) Tryz.ntmps109 rfl (by simp) rfl ?_
 refine gA rfl ?_
 refine go_for 0 r.body.length (Nat.zero_le _) (fun i => ⟨[(0, .iv (bookI r)), (3, pI (((r.body.take i).foldl (fun n l => n + locLen r l) (occM (outerOcc r)).length : Nat))), (15, .iv (lits r.body)), (16, pI r.body.length), (17, pI i)], [], 0⟩) (fun _ => True) [] trivial
  (zW trivial) fun i hi _ => ?_
 have hs1 := sizeN_le r (r.body.take i) (occM (outerOcc r)).length
 have hs2 := Lit.sizes_take r.body i
 refine gA rfl (zI (fun h1 => ?_) fun h1 => ?_)
 ·have h1 : i < r.body.length := by simpa using h1
  have hs := fold_step (g := fun n l => n + locLen r l) (b := (occM (outerOcc r)).length) h1
  have hsz := Lit.sizes_get r.body i h1
  have hag := (r.body.getD i default).agg_size
  have hll := locLen_le r (r.body.getD i default)
  refine gA rfl (zI (fun h2 => ?_) fun h2 => ?_)
  ·have h2 : (r.body.getD i default).kind = 4 := by simpa using h2
   rw [locLen, if_pos h2] at hs hll
   refine gA rfl (zq [] (d79 r (r.body.getD i default).agg (by omega)) ?_)
   refine gA rfl ?_
   exact ⟨h1, trivial, [], zM ⟨.refl _, rfl, .of_eq (pIE (by rw [hs]; rfl)), rfl, .refl _, rfl, .refl _, rfl, .refl _, rfl, trivial⟩ trivial⟩
  ·have h2 : ¬ (r.body.getD i default).kind = 4 := by simpa using h2
   rw [locLen, if_neg h2] at hs
   refine gA rfl ?_
   exact ⟨h1, trivial, [], zM ⟨.refl _, rfl, .of_eq (pIE (by rw [hs]; rfl)), rfl, .refl _, rfl, .refl _, rfl, .refl _, rfl, trivial⟩ trivial⟩
 ·have h1 : r.body.length ≤ i := by simpa using h1
  refine gA rfl (zL (.of_eq ?_))
  rw [List.take_of_length_le h1]; rfl
end Go.Proofs.YtpnclpbkecjinaaGreatDoorR
namespace Go.Proofs.YtpnclpbkecjinaaGreatDoorR
open Go Go.Al
set_option maxRecDepth 10000
section
variable {may : List Str → Expr → Bool} {more : List Str → Agg → Bool} {body : List Lit}
theorem closedN_fix : ∀ (n : Nat) (occ : List Str), miss (cands body) occ < n → firstV (may (closedN may more body n occ)) (more (closedN may more body n occ)) (closedN may more body n occ) body = none
 | 0, occ, h => by omega
 | n + 1, occ, h => by
  cases hv : firstV (may occ) (more occ) occ body with
  | none => rw [closedN_none hv]; exact hv
  | some v =>
   rw [closedN_some hv]
   refine closedN_fix n _ ?_
   obtain ⟨g1, g2⟩ := firstV_new hv
   have hlt := miss_lt g1 g2
   have hlt2 : miss (cands body) (occ ++ [v]) = miss (cands body) (withL occ v) := by
    unfold miss
    congr 2
    funext x
    congr 1
    rw [Bool.eq_iff_iff, inL_iff, inL_iff, mem_withL, List.mem_append, List.mem_singleton]
   omega
theorem closedL_fix (occ : List Str) : firstV (may (closedL may more body occ)) (more (closedL may more body occ)) (closedL may more body occ) body = none := by
 refine closedN_fix _ _ ?_
 have h1 := miss_le (cands body) (occ ++ body.flatMap posOcc)
 have h2 := cands_len body
 omega
theorem closedN_ext : ∀ (n : Nat) (occ : List Str), ∀ x ∈ occ, x ∈ closedN may more body n occ
 | 0, occ, x, h => h
 | n + 1, occ, x, h => by
  cases hv : firstV (may occ) (more occ) occ body with
  | none => rw [closedN_none hv]; exact h
  | some v => rw [closedN_some hv]; exact closedN_ext n _ x (List.mem_append_left _ h)
theorem firstV_none {m1 : Expr → Bool} {m2 : Agg → Bool} {occ : List Str} : ∀ {l : List Lit}, firstV m1 m2 occ l = none → ∀ x ∈ l, newV m1 m2 occ x = none
 | [], _, x, hx => by cases hx
 | y :: r, h, x, hx => by
  simp only [firstV] at h
  split at h
  ·cases h
  ·rename_i h1
   rcases List.mem_cons.1 hx with rfl | hx
   ·exact h1
   ·exact firstV_none h x hx
theorem firstV_some {m1 : Expr → Bool} {m2 : Agg → Bool} {occ : List Str} {v : Str} : ∀ {l : List Lit}, firstV m1 m2 occ l = some v → ∃ x ∈ l, newV m1 m2 occ x = some v
 | [], h => by cases h
 | y :: r, h => by
  simp only [firstV] at h
  split at h
  ·rename_i w hw; exact ⟨y, List.mem_cons_self, hw.trans h⟩
  ·obtain ⟨x, hx, h2⟩ := firstV_some h; exact ⟨x, List.mem_cons_of_mem _ hx, h2⟩
variable (hmay : ∀ a b : List Str, (∀ x ∈ a, x ∈ b) → ∀ e, may a e = true → may b e = true) (hmore : ∀ a b : List Str, (∀ x ∈ a, x ∈ b) → ∀ e, more a e = true → more b e = true)
include hmay hmore
theorem newV_in {occ C : List Str} (hsub : ∀ x ∈ occ, x ∈ C) {l : Lit} {v : Str} (h : newV (may occ) (more occ) occ l = some v) (hC : newV (may C) (more C) C l = none) : v ∈ C := by
 have hl : ∀ y, y ∉ C → inL C y = false := fun y hy => inL_false.2 hy
 have hnew := (newV_new h).2
 refine Classical.byContradiction fun hv => ?_
 unfold newV at h hC
 by_cases hc : (copB (may occ) occ l).2 = true
 ·rw [if_pos hc] at h
  simp only [Option.some.injEq] at h
  have hcC : (copB (may C) C l).2 = true := by
   unfold copB at hc h ⊢
   split at hc
   ·cases hc
   ·rename_i h0
    rw [if_neg h0] at h ⊢
    split at hc
    ·rename_i h1
     rw [if_pos h1] at h
     have e1 : l.left.var = v := h
     rw [if_pos ⟨h1.1, by rw [e1]; exact hl v hv, hmay occ C hsub _ h1.2.2⟩]
    ·rename_i h1
     rw [if_neg h1] at h
     split at hc
     ·rename_i h2
      rw [if_pos h2] at h
      have e1 : l.right.var = v := h
      split
      ·rfl
      ·rw [if_pos ⟨h2.1, by rw [e1]; exact hl v hv, hmay occ C hsub _ h2.2.2⟩]
     ·cases hc
  rw [if_pos hcC] at hC
  cases hC
 ·rw [if_neg hc] at h
  split at h
  ·rename_i h2
   simp only [Option.some.injEq] at h
   split at hC
   ·cases hC
   ·rw [if_pos ⟨h2.1, by rw [h]; exact hl v hv, hmore occ C hsub _ h2.2.2⟩] at hC
    cases hC
  ·cases h
theorem closedN_sub {C : List Str} (hC : firstV (may C) (more C) C body = none) : ∀ (n : Nat) (occ : List Str), (∀ x ∈ occ, x ∈ C) → ∀ x ∈ closedN may more body n occ, x ∈ C
 | 0, occ, h, x, hx => h x hx
 | n + 1, occ, h, x, hx => by
  cases hv : firstV (may occ) (more occ) occ body with
  | none => rw [closedN_none hv] at hx; exact h x hx
  | some v =>
   rw [closedN_some hv] at hx
   refine closedN_sub hC n _ (fun y hy => ?_) x hx
   rcases List.mem_append.1 hy with hy | hy
   ·exact h y hy
   ·rw [List.mem_singleton] at hy
    subst hy
    obtain ⟨l, hl, hl2⟩ := firstV_some hv
    exact newV_in hmay hmore h hl2 (firstV_none hC l hl)
theorem closedL_sub {occ1 occ2 : List Str} (h : ∀ x ∈ occ1, x ∈ occ2) : ∀ x ∈ closedL may more body occ1, x ∈ closedL may more body occ2 := by
 refine closedN_sub hmay hmore (closedL_fix occ2) _ _ fun x hx => ?_
 refine closedN_ext _ _ x ?_
 rcases List.mem_append.1 hx with hx | hx
 ·exact List.mem_append_left _ (h x hx)
 ·exact List.mem_append_right _ hx
end
theorem coversB_mono (a b : List Str) (h : ∀ x ∈ a, x ∈ b) (e : Expr) (hc : coversB a e = true) : coversB b e = true := by
 unfold coversB at *
 rw [List.all_eq_true] at *
 exact fun x hx => inL_iff.2 (h x (inL_iff.1 (hc x hx)))
theorem moreB_mono (out : List Str) (a b : List Str) (h : ∀ x ∈ a, x ∈ b) (e : Agg) (hc : moreB out a e = true) : moreB out b e = true := by
 unfold moreB at *
 rw [List.all_eq_true] at *
 intro x hx
 have := hc x hx
 rw [Bool.or_eq_true, Bool.or_eq_true] at *
 rcases this with h1 | h1 | h1
 ·exact .inl h1
 ·exact .inr (.inl h1)
 ·exact .inr (.inr (inL_iff.2 (h _ (inL_iff.1 h1))))
def inOutL (r : Rule) (a : Agg) : List Str := ((occM (aggOcc a)).map (·.1)).filter fun x => inL (outerOcc r) x
def okIn (r : Rule) (a : Agg) : List Str := closedL (fun occ => coversB occ) (fun _ => fun _ => false) a.body (inOutL r a)
theorem okIn_of {r : Rule} {a : Agg} {occ : List Str} (h : inOut r a occ) (s : Str) : inL (closedL (fun occ => coversB occ) (fun _ => fun _ => false) a.body occ) s = inL (okIn r a) s := by
 have hm : ∀ x, x ∈ inOutL r a ↔ x ∈ occ := fun x => by
  unfold inOutL
  rw [List.mem_filter, (occM_keys (aggOcc a)).2 x, inL_iff, h.2 x]
 rw [Bool.eq_iff_iff, inL_iff, inL_iff]
 exact ⟨closedL_sub (more := fun _ => fun _ => false) coversB_mono (fun _ _ _ _ h => h) (fun x hx => (hm x).2 hx) s, closedL_sub (more := fun _ => fun _ => false) coversB_mono (fun _ _ _ _ h => h) (fun x hx => (hm x).1 hx) s⟩
def looseT (r : Rule) (m : NM) : Bool := m.any fun x => !inL (limOcc r) x.1
theorem looseT_none {r : Rule} {m : NM} (h : ∀ j, j < m.length → ∀ x, m[j]? = some x → inL (limOcc r) x.1 = true) : looseT r m = false := by
 refine List.any_eq_false.2 fun x hx => ?_
 obtain ⟨j, hj⟩ := List.getElem?_of_mem hx
 rw [h j (List.getElem?_eq_some_iff.1 hj).1 x hj]; simp
theorem looseT_hit {r : Rule} {m : NM} {j : Nat} {x : (KC.str).K × Int} (h : m[j]? = some x) (hx : inL (limOcc r) x.1 = false) : looseT r m = true :=
 List.any_eq_true.2 ⟨x, List.mem_of_getElem? h, by rw [hx]; rfl⟩
def keepM (r : Rule) (a : Agg) : NM := (occM (aggOcc a)).filter fun x => !inL ((locM r a).map (·.1)) x.1
def looseB (r : Rule) (lit : Int) : Bool :=
 if lit < 0 then looseT r (occM (atomOcc r.head))
 else if (litAt r lit).kind = 4 then (locM r (litAt r lit).agg).any (fun x => !inL (okIn r (litAt r lit).agg) x.1) || looseT r (bump (keepM r (litAt r lit).agg) (litAt r lit).avar)
 else looseT r (occM (litOcc (litAt r lit)))
theorem d88z (a : Atom) (hb : a.terms.length ≤ 100000000000) : Det Tryz.prog 88 [.mp 0, ag a.c] [.map0] (.tup []) [(0, some (nmO (occM (atomOcc a))))] 1 :=
 Det.leO (d88 [] a (by simp; omega)) ⟨map0_le, trivial⟩
theorem d89z (l : Lit) (hb : l.size ≤ 100000000000) : Det Tryz.prog 89 [.mp 0, ag l.c] [.map0] (.tup []) [(0, some (nmO (occM (litOcc l))))] 1 :=
 Det.leO (d89 l [] (by simp; omega)) ⟨map0_le, trivial⟩
theorem lk_filter (f : Str → Bool) (s : Str) : ∀ (m : NM), lkD .str (m.filter fun x => f x.1) s 0 = if f s = true then lkD .str m s 0 else 0
 | [] => by simp [lkD]
 | (a, b) :: r => by
  have ih := lk_filter f s r
  cases hf : f a with
  | true =>
   rw [List.filter_cons_of_pos (by exact hf)]
   simp only [lkD]
   split
   ·rename_i h; subst h; rw [if_pos hf]
   ·exact ih
  | false =>
   rw [List.filter_cons_of_neg (by simp [hf]), ih]
   simp only [lkD]
   split
   ·rename_i h
    split
    ·rename_i h2; subst h2; rw [hf] at h; cases h
    ·rfl
   ·rfl
theorem lk_keep (r : Rule) (a : Agg) (s : Str) : 0 ≤ lkD .str (keepM r a) s 0 ∧ lkD .str (keepM r a) s 0 ≤ cntL (aggOcc a) s := by
 have h1 := occM_lk (aggOcc a) s
 have h2 := lk_filter (fun x => !inL ((locM r a).map (·.1)) x) s (occM (aggOcc a))
 unfold keepM
 rw [h2, h1]
 split <;> omega
set_option maxHeartbeats 2000000 in
theorem c119 (r : Rule) (lit : Int) (hl : lit < r.body.length) (hb : r.size ≤ 10000000) : Pure Tryz.prog 119 [.iv (bookI r), pI lit] (pB (looseB r lit)) := by
 have hbl := Lit.length_sizes r.body
 have h0 : Lit.sizes r.body ≤ r.size := Nat.le_add_left _ _
 have h0' : r.head.terms.length ≤ r.size := Nat.le_add_right _ _
 have hlo := limOcc_len r
 refine pure_end tyA_ok Tryz.func119 rfl (by decide) Tryz.ntmps119 rfl (by simp) rfl ?_
 refine gA rfl (zq [] (d73 r (by omega)) ?_)
 refine gA rfl (zI (fun h2 => ?_) fun h2 => ?_)
 ·have h2 : lit < 0 := by simpa using h2
  refine gA rfl (zq [1] (d88z r.head (by omega)) ?_)
  refine gA rfl ?_
  have hml : (occM (atomOcc r.head)).length ≤ 1000000000000 := by have := occM_len (atomOcc r.head); have := atomOcc_len r.head; omega
  refine go_rng (occM (atomOcc r.head)) (fun vs => ⟨[(5, .mp 0), (76, .ptr 2 0)], [(0, some (nmO (occM (limOcc r)))), (2, some (.miter .str evI (occM (atomOcc r.head)) vs none))], 3⟩) (fun vs => ∀ j ∈ vs, ∀ x, (occM (atomOcc r.head))[j]? = some x → inL (limOcc r) x.1 = true) [] (by simp)
   (zW (hM rfl rfl rfl (hI rfl rfl (.inl rfl) rfl trivial))) fun vs hJ => ?_
  refine goR rfl trivial (go_next rfl rfl rfl rfl rfl (by decide) (fun hall => ?_) fun j x hx hj => ?_)
  ·refine gA rfl (zL (.of_eq ?_))
   refine (pBE ?_ : pB false = _)
   rw [looseB, if_pos h2, looseT_none fun j hj x hx => hJ j (hall j hj) x hx]
  ·have hlk := occM_lk (limOcc r) x.1
   have hct := inL_cnt (occ := limOcc r) (s := x.1)
   refine gA rfl (zI (fun g1 => ?_) fun g1 => ?_)
   ·have g1 : inL (limOcc r) x.1 = false := by
     have := zT g1
     rw [hct]; simp; omega
    refine gA rfl (zL (.of_eq ?_))
    refine (pBE ?_ : pB true = _)
    rw [looseB, if_pos h2, looseT_hit hx g1]
   ·have g1 : inL (limOcc r) x.1 = true := by
     have := zF g1
     rw [hct]; simp; omega
    refine gA rfl ?_
    exact ⟨j, x, hx, hj, fun i hi y hy => by
     rcases List.mem_cons.1 hi with rfl | hi
     ·rw [hx] at hy; cases hy; exact g1
     ·exact hJ i hi y hy, [], zW (hM rfl rfl rfl (hI rfl rfl (.inr rfl) rfl trivial))⟩
 have h2 : ¬ lit < 0 := by simpa using h2
 have hk : lit.toNat < r.body.length := by omega
 have hsz := Lit.sizes_get r.body lit.toNat hk
 have hag := (litAt r lit).agg_size
 have hle : (litAt r lit).size ≤ Lit.sizes r.body := hsz
 have hal := aggOcc_len (litAt r lit).agg
 have hlol := litOcc_len (litAt r lit)
 refine gA rfl (zI (fun h3 => ?_) fun h3 => ?_)
 rotate_left
 ·have h3 : ¬ (litAt r lit).kind = 4 := by simpa [litAt] using h3
  refine gA rfl (zq [1] (d89z (litAt r lit) (by omega)) ?_)
  refine gA rfl ?_
  have hml : (occM (litOcc (litAt r lit))).length ≤ 1000000000000 := by have := occM_len (litOcc (litAt r lit)); omega
  refine go_rng (occM (litOcc (litAt r lit))) (fun vs => ⟨[(5, .mp 0), (76, .ptr 3 0)], [(0, some (nmO (occM (limOcc r)))), (3, some (.miter .str evI (occM (litOcc (litAt r lit))) vs none))], 4⟩) (fun vs => ∀ j ∈ vs, ∀ x, (occM (litOcc (litAt r lit)))[j]? = some x → inL (limOcc r) x.1 = true) [] (by simp)
   (zW (hM rfl rfl rfl (hI rfl rfl (.inl rfl) rfl trivial))) fun vs hJ => ?_
  refine goR rfl trivial (go_next rfl rfl rfl rfl rfl (by decide) (fun hall => ?_) fun j x hx hj => ?_)
  ·refine gA rfl (zL (.of_eq ?_))
   refine (pBE ?_ : pB false = _)
   rw [looseB, if_neg h2, if_neg h3, looseT_none fun j hj x hx => hJ j (hall j hj) x hx]
  ·have hlk := occM_lk (limOcc r) x.1
   have hct := inL_cnt (occ := limOcc r) (s := x.1)
   refine gA rfl (zI (fun g1 => ?_) fun g1 => ?_)
   ·have g1 : inL (limOcc r) x.1 = false := by
     have := zT g1
     rw [hct]; simp; omega
    refine gA rfl (zL (.of_eq ?_))
    refine (pBE ?_ : pB true = _)
    rw [looseB, if_neg h2, if_neg h3, looseT_hit hx g1]
   ·have g1 : inL (limOcc r) x.1 = true := by
     have := zF g1
     rw [hct]; simp; omega
    refine gA rfl ?_
    exact ⟨j, x, hx, hj, fun i hi y hy => by
     rcases List.mem_cons.1 hi with rfl | hi
     ·rw [hx] at hy; cases hy; exact g1
     ·exact hJ i hi y hy, [], zW (hM rfl rfl rfl (hI rfl rfl (.inr rfl) rfl trivial))⟩
 have h3 : (litAt r lit).kind = 4 := by simpa [litAt] using h3
 refine gA rfl (go_fn [] (d161 r (litAt r lit).agg (by omega)) rfl rfl rfl rfl rfl rfl rfl fun q h' n' hR => ?_)
 obtain ⟨ok, ⟨occ, hio, hok⟩, rfl, rfl, rfl⟩ := hR
 have hoki : ∀ s, inL ok s = inL (okIn r (litAt r lit).agg) s := fun s => by rw [hok]; exact okIn_of hio s
 refine ⟨_, rfl, ?_⟩
 have hom := occM_len (aggOcc (litAt r lit).agg)
 have hlm : (locM r (litAt r lit).agg).length ≤ (occM (aggOcc (litAt r lit).agg)).length := List.length_filter_le _ _
 have hkm : (keepM r (litAt r lit).agg).length ≤ (occM (aggOcc (litAt r lit).agg)).length := List.length_filter_le _ _
 have hkd := (occM_keys (aggOcc (litAt r lit).agg)).1
 refine gA rfl (zq [] (d79 r (litAt r lit).agg (by omega)) ?_)
 refine gA rfl ?_
 refine go_rng (locM r (litAt r lit).agg) (fun vs => ⟨[(0, .iv (bookI r)), (5, .mp 0), (7, .ptr 2 0), (8, .mp 3), (43, .ptr 5 0)], [(0, some (nmO (occM (limOcc r)))), (2, some (cellsI (litAt r lit).c)), (3, some (nmO (occM ok))), (5, some (.miter .str evI (locM r (litAt r lit).agg) vs none))], 6⟩) (fun vs => ∀ j ∈ vs, ∀ x, (locM r (litAt r lit).agg)[j]? = some x → inL (okIn r (litAt r lit).agg) x.1 = true) [] (by simp)
  (zW (hM rfl rfl rfl (zK (hM rfl rfl rfl (hI rfl rfl (.inl rfl) rfl trivial))))) fun vs hJ => ?_
 refine goR rfl trivial (go_next rfl rfl rfl rfl rfl (by decide) (fun hall => ?_) fun j x hx hj => ?_)
 rotate_left
 ·have hlk := occM_lk ok x.1
  have hct := inL_cnt (occ := ok) (s := x.1)
  have hok2 := hoki x.1
  refine gA rfl (zI (fun g1 => ?_) fun g1 => ?_)
  ·have g1 : inL (okIn r (litAt r lit).agg) x.1 = false := by
    have := zT g1
    rw [← hok2, hct]; simp; omega
   refine gA rfl (zL (.of_eq ?_))
   refine (pBE ?_ : pB true = _)
   rw [looseB, if_neg h2, if_pos h3, List.any_eq_true.2 ⟨x, List.mem_of_getElem? hx, by rw [g1]; rfl⟩, Bool.true_or]
  ·have g1 : inL (okIn r (litAt r lit).agg) x.1 = true := by
    have := zF g1
    rw [← hok2, hct]; simp; omega
   refine gA rfl ?_
   exact ⟨j, x, hx, hj, fun i hi y hy => by
    rcases List.mem_cons.1 hi with rfl | hi
    ·rw [hx] at hy; cases hy; exact g1
    ·exact hJ i hi y hy, [], zW (hM rfl rfl rfl (zK (hM rfl rfl rfl (hI rfl rfl (.inr rfl) rfl trivial))))⟩
 have hA : (locM r (litAt r lit).agg).any (fun x => !inL (okIn r (litAt r lit).agg) x.1) = false := List.any_eq_false.2 fun x hx => by
  obtain ⟨j, hj⟩ := List.getElem?_of_mem hx
  rw [hJ j (hall j (List.getElem?_eq_some_iff.1 hj).1) x hj]; simp
 refine gA rfl (zq [] (d127 (litAt r lit).agg (by omega)) ?_)
 refine gA rfl (zq [] (d79 r (litAt r lit).agg (by omega)) ?_)
 refine gA rfl ?_
 refine go_rng (locM r (litAt r lit).agg) (fun vs => ⟨[(5, .mp 0), (6, .mp 6), (7, .ptr 2 0), (59, .ptr 8 0)], [(0, some (nmO (occM (limOcc r)))), (2, some (cellsI (litAt r lit).c)), (6, some (nmO ((keysAt (locM r (litAt r lit).agg) vs).foldl (fun m k => delK .str m k) (occM (aggOcc (litAt r lit).agg))))), (8, some (.miter .str evI (locM r (litAt r lit).agg) vs none))], 9⟩) (fun vs => vs.Nodup ∧ ∀ j ∈ vs, j < (locM r (litAt r lit).agg).length) [] ⟨List.nodup_nil, by simp⟩
  (zW (hM rfl rfl rfl (zK (hM rfl rfl rfl (hI rfl rfl (.inl rfl) rfl trivial))))) fun vs2 hJ2 => ?_
 obtain ⟨hJ3, hJ4⟩ := hJ2
 refine goR rfl trivial (go_next rfl rfl rfl rfl rfl (by decide) (fun hall2 => ?_) fun j x hx hj => ?_)
 rotate_left
 ·have hk := keysAt_cons (locM r (litAt r lit).agg) vs2 j x hx
  refine gA rfl ?_
  exact ⟨j, x, hx, hj, ⟨List.nodup_cons.2 ⟨hj, hJ3⟩, fun i hi => (List.mem_cons.1 hi).elim (fun h => h ▸ (List.getElem?_eq_some_iff.1 hx).1) (hJ4 i)⟩, [], zW (hM rfl rfl rfl (zK (hM rfl (by rw [hk, List.foldl_append]; rfl) rfl (hI rfl rfl (.inr rfl) rfl trivial))))⟩
 have hkp : (keysAt (locM r (litAt r lit).agg) vs2).foldl (fun m k => delK .str m k) (occM (aggOcc (litAt r lit).agg)) = keepM r (litAt r lit).agg := by
  rw [dels_filter _ hkd]
  unfold keepM
  congr 1
  funext x
  congr 1
  rw [Bool.eq_iff_iff, inL_iff, inL_iff, (keysAt_all _ vs2 hJ3 hJ4 hall2).mem_iff]
 rw [hkp]
 have hlkk := lk_keep r (litAt r lit).agg (litAt r lit).avar
 have hctt := cntL_le (aggOcc (litAt r lit).agg) (litAt r lit).avar
 refine gA rfl ?_
 have hml : (bump (keepM r (litAt r lit).agg) (litAt r lit).avar).length ≤ 1000000000000 := by have := putK_len (keepM r (litAt r lit).agg) (litAt r lit).avar (lkD .str (keepM r (litAt r lit).agg) (litAt r lit).avar 0 + 1); unfold bump; omega
 refine go_rng (bump (keepM r (litAt r lit).agg) (litAt r lit).avar) (fun vs => ⟨[(5, .mp 0), (76, .ptr 9 0)], [(0, some (nmO (occM (limOcc r)))), (9, some (.miter .str evI (bump (keepM r (litAt r lit).agg) (litAt r lit).avar) vs none))], 10⟩) (fun vs => ∀ j ∈ vs, ∀ x, (bump (keepM r (litAt r lit).agg) (litAt r lit).avar)[j]? = some x → inL (limOcc r) x.1 = true) [] (by simp)
  (zW (hM rfl rfl rfl (hI rfl rfl (.inl rfl) rfl trivial))) fun vs hJ => ?_
 refine goR rfl trivial (go_next rfl rfl rfl rfl rfl (by decide) (fun hall => ?_) fun j x hx hj => ?_)
 ·refine gA rfl (zL (.of_eq ?_))
  refine (pBE ?_ : pB false = _)
  rw [looseB, if_neg h2, if_pos h3, hA, Bool.false_or, looseT_none fun j hj x hx => hJ j (hall j hj) x hx]
 ·have hlk := occM_lk (limOcc r) x.1
  have hct := inL_cnt (occ := limOcc r) (s := x.1)
  refine gA rfl (zI (fun g1 => ?_) fun g1 => ?_)
  ·have g1 : inL (limOcc r) x.1 = false := by
    have := zT g1
    rw [hct]; simp; omega
   refine gA rfl (zL (.of_eq ?_))
   refine (pBE ?_ : pB true = _)
   rw [looseB, if_neg h2, if_pos h3, hA, Bool.false_or, looseT_hit hx g1]
  ·have g1 : inL (limOcc r) x.1 = true := by
    have := zF g1
    rw [hct]; simp; omega
   refine gA rfl ?_
   exact ⟨j, x, hx, hj, fun i hi y hy => by
    rcases List.mem_cons.1 hi with rfl | hi
    ·rw [hx] at hy; cases hy; exact g1
    ·exact hJ i hi y hy, [], zW (hM rfl rfl rfl (hI rfl rfl (.inr rfl) rfl trivial))⟩
end Go.Proofs.YtpnclpbkecjinaaGreatDoorR
namespace Go.Proofs.YtpnclpbkecjinaaGreatDoorR
open Go
set_option maxHeartbeats 2000000
set_option maxRecDepth 100000
theorem info178 : ∃ j, Tryz.prog.info? 178 = some j ∧ j.size = 2 := by
 have h : (Tryz.prog.info? 178).map (fun i => i.size) = some 2 := by kernel_rfl
 rw [Option.map_eq_some_iff] at h
 exact h
theorem lies180 : liesAt Tryz.prog Tryz.prog.depth 180 (4 / Tryz.prog.cellsOf 180) 0 178 1 = true := by kernel_rfl
theorem cc_used (b : Nat) (w : World) (h0 : w.cell? ⟨b, 0, none⟩ = some (.pointer (some ⟨b, 0, none⟩))) :
  Calls Tryz.prog 204 #[.pointer (some ⟨b, 0, none⟩)] w fun e w' => e = .returned (.tuple #[]) ∧ w' = w := by
 obtain ⟨j, hj, _⟩ := info178
 go_enter Tryz.func204, Tryz.ntmps204
 go_wp2
 rw [Lib.run_neq_ptr_same w _ Tryz.underlying175 hj]
 go_wp2
 go_end0
 exact ⟨rfl, rfl⟩
theorem cc_fresh (b : Nat) (w : World) (h0 : w.cell? ⟨b, 0, none⟩ = some (.pointer none)) (hsh : w.shape? b = some (180, 4)) (hfz : w.frozen? ⟨b, 0, none⟩ = false) :
  Calls Tryz.prog 204 #[.pointer (some ⟨b, 0, none⟩)] w fun e w' => e = .returned (.tuple #[]) ∧ w' = w.setCell ⟨b, 0, none⟩ (.pointer (some ⟨b, 0, none⟩)) := by
 obtain ⟨j, hj, hjs⟩ := info178
 go_enter Tryz.func204, Tryz.ntmps204
 go_wp2
 rw [Lib.run_to_unsafe w ⟨b, 0, none⟩ Tryz.underlying175 Tryz.underlying265 hj (by rw [hjs]; decide) hsh (by show 0 < 4; decide)]
 simp only [Result.andThen]
 rw [Oper.upon_value]
 go_wp2
 rw [run_callFunc_extern Tryz.func218 (by kernel_rfl) (by kernel_rfl) (by kernel_rfl) (e := Extern.AbiNoEscape.same) (by kernel_rfl)]
 rw [Lib.run_noEscape]
 simp only [Result.andThen]
 rw [Oper.upon_value]
 go_wp2
 rw [Lib.run_from_unsafe w ⟨b, 0, none⟩ Tryz.underlying265 Tryz.underlying175 hj hsh lies180]
 simp only [Result.andThen]
 rw [Oper.upon_value]
 go_wp2
 go_end0
 exact ⟨rfl, rfl⟩
theorem cells5 : Tryz.prog.cellsOf 5 = 1 := by kernel_rfl
theorem bs_some (b g cap : Nat) (p x y : Value) (cur : Array Value) (l : List UInt8) (w : World) (hbk : w.heap[b]? = some (.cells #[p, .slice (some ⟨g, 0, none⟩) l.length cap, x, y] 180 (0, 0))) (hg : w.heap[g]? = some (.cells cur 5 (0, 0)))
  (hl : l.length ≤ cur.size) (hcap : l.length ≤ cap) (hc2 : cap ≤ maxLen) (hcur : ∀ (j : Nat) (x : UInt8), l[j]? = some x → cur.getD j undef = .int .u8 (x.toNat : Int)) (h0 : l ≠ []) :
  Calls Tryz.prog 150 #[.pointer (some ⟨b, 0, none⟩)] w fun e w' => e = .returned (.string ⟨l.toArray⟩) ∧ w' = w.drew.freeze ⟨g, 0, none⟩ l.length := by
 have hl0 : l.length ≠ 0 := by simpa using h0
 have c1 : w.drew.cell? ⟨b, 1, none⟩ = some (.slice (some ⟨g, 0, none⟩) l.length cap) := by
  have : w.drew.heap[b]? = some (.cells #[p, .slice (some ⟨g, 0, none⟩) l.length cap, x, y] 180 (0, 0)) := hbk
  rw [Lib.cell_of_heap this]; rfl
 have hSD : (Builtin.unsafeSliceData_ #[176] 241 #[.slice (some ⟨g, 0, none⟩) l.length cap]).run Tryz.prog w.drew = .ok (.pointer (some ⟨g, 0, none⟩)) w.drew :=
  Lib.run_unsafeSliceData_row _ _ _ _ _ _ (by omega)
 have hUS : (Builtin.unsafeString_ #[241, 3] 9 #[.pointer (some ⟨g, 0, none⟩), .int .i64 l.length]).run Tryz.prog w.drew = .ok (.string ⟨l.toArray⟩) (w.drew.freeze ⟨g, 0, none⟩ l.length) := by
  refine Lib.run_unsafeString_row w.drew 241 3 9 5 Tryz.underlying241 cells5 g cur.size (by have hg' : w.drew.heap[g]? = some (.cells cur 5 (0, 0)) := hg; simp [World.shape?, hg']) l h0 (by omega) (by unfold maxLen at hc2; omega) ?_
  intro j x hx
  have hlt : j < cur.size := by have := (List.getElem?_eq_some_iff.1 hx).1; omega
  have := hcur j x hx
  rw [Array.getD_eq_getD_getElem?, Array.getElem?_eq_getElem hlt] at this
  show w.drew.cell? _ = _
  have hg' : w.drew.heap[g]? = some (.cells cur 5 (0, 0)) := hg
  rw [Al.add_addr, Nat.zero_add]
  simp only [World.cell?, hg']
  simpa [hlt] using this
 have mixed : Tryz.prog.follows .mixedOrders = true := rfl
 go_enter Tryz.func150, Tryz.ntmps150
 go_wp2
 go_region_o
 all_goals (go_wp2; go_ret; exact ⟨rfl, rfl⟩)
theorem bs_nil (b : Nat) (p x y : Value) (w : World) (hbk : w.heap[b]? = some (.cells #[p, .slice none 0 0, x, y] 180 (0, 0))) :
  Calls Tryz.prog 150 #[.pointer (some ⟨b, 0, none⟩)] w fun e w' => e = .returned (.string ⟨#[]⟩) ∧ w' = w.drew := by
 have hUS : (W : World) → (Builtin.unsafeString_ #[241, 3] 9 #[.pointer none, .int .i64 0]).run Tryz.prog W = .ok (.string .empty) W := fun W => Lib.run_unsafeString_none W _ _ _ none
 have c1 : w.drew.cell? ⟨b, 1, none⟩ = some (.slice none 0 0) := by
  have : w.drew.heap[b]? = some (.cells #[p, .slice none 0 0, x, y] 180 (0, 0)) := hbk
  rw [Lib.cell_of_heap this]; rfl
 have hSD : (Builtin.unsafeSliceData_ #[176] 241 #[.slice none 0 0]).run Tryz.prog w.drew = .ok (.pointer none) w.drew := rfl
 have mixed : Tryz.prog.follows .mixedOrders = true := rfl
 go_enter Tryz.func150, Tryz.ntmps150
 go_wp2
 go_region_o
 all_goals (go_wp2; go_ret; exact ⟨rfl, rfl⟩)
end Go.Proofs.YtpnclpbkecjinaaGreatDoorR
namespace Go.Al
section
variable {P : Program} {ty : Ty} {nt : Nat} {s : AS} {Q : AQ} {k : List KI}
def byteC (c : UInt8) : List IV := [.v (.int .u8 (c.toNat : Int))]
theorem run_sappend_room (w : World) (t u ty' e : TypeId) (i : TypeInfo) (ht : P.underlying t = some (.slice e)) (hu : P.underlying u = some .string) (hi : P.info? e = some i) (hs1 : i.size = 1) (T : TypeId)
  (g sLen sCap : Nat) (cur : Array Value) (hg : w.heap[g]? = some (.cells cur T (0, 0))) (b : ByteArray)
  (hroom : sLen + b.size ≤ sCap) (hfit : sLen + b.size ≤ cur.size) :
  (Builtin.append_ #[t, u] ty' #[.slice (some ⟨g, 0, none⟩) sLen sCap, .string b]).run P w =
   .ok (.slice (some ⟨g, 0, none⟩) (sLen + b.size) sCap) (w.setRow g (cur.toList.take sLen ++ Lib.strCells b ++ cur.toList.drop (sLen + b.size)).toArray) := by
 have hf := Lib.run_firstCells_string (P := P) w 1 b
 have hst := run_storeCells_at P g sLen T (Lib.strCells b) 0 cur w hg (by simpa [Lib.strCells_length] using hfit) (Lib.strCells_oneCell b)
 simp only [Nat.add_zero, Lib.strCells_length] at hst
 simp [Builtin.append_, run_underlying ht, run_underlying hu, sizeOf, typeInfo, hi, hs1, Builtin.lenOf, hroom, hf, Addr.add_lit, hst]
theorem run_sappend_none (w : World) (t u ty' e : TypeId) (i : TypeInfo) (ht : P.underlying t = some (.slice e)) (hu : P.underlying u = some .string) (hi : P.info? e = some i) (so : Option Addr) (sLen sCap : Nat) (hle : sLen ≤ sCap) (b : ByteArray) (hb : b.size = 0) (hs : so = none ∨ ∃ b o, so = some ⟨b, o, none⟩) :
  (Builtin.append_ #[t, u] ty' #[.slice so sLen sCap, .string b]).run P w = .ok (.slice so sLen sCap) w := by
 have hf := Lib.run_firstCells_string (P := P) w i.size b
 have hn : Lib.strCells b = [] := List.eq_nil_of_length_eq_zero (by rw [Lib.strCells_length]; exact hb)
 rw [hb, hn] at hf
 rcases hs with rfl | ⟨g, o, rfl⟩
 ·simp [Builtin.append_, run_underlying ht, run_underlying hu, sizeOf, typeInfo, hi, Builtin.lenOf, hb, hle, hf]
 ·simp [Builtin.append_, run_underlying ht, run_underlying hu, sizeOf, typeInfo, hi, Builtin.lenOf, hb, hle, hf, storeCells]
def sapS (s : AS) (i : Nat) (l : List UInt8) (u : TypeId) : AS := ⟨s.f, (s.nx, some (.brow l u)) :: (i, none) :: s.h, s.nx + 1⟩
theorem sap_fits {i : Nat} {l : List UInt8} {u : TypeId} {M M' : Mem} {N N' : Nm} {a : Act} {w w' : World} (hf : Fits M N s nt a w) (hx : Ext M N (· < s.nx) s.h w M' N' (· < s.nx + 1) ((s.nx, some (.brow l u)) :: (i, none) :: s.h) w')
  (hr : Rel M' N' (· < s.nx + 1) ((s.nx, some (.brow l u)) :: (i, none) :: s.h) w') :
  Ext M N (· < s.nx) s.h w M' N' (· < (sapS s i l u).nx) (sapS s i l u).h w' ∧ Fits M' N' (sapS s i l u) nt a w' :=
 ⟨hx, hr, hf.2.1.ext hx, hf.2.2⟩
theorem Rel.virtB {M : Mem} {N : Nm} {w : World} {n : Nat} {h : AH} (hr : Rel M N (· < n) h w) (T : TypeId) : Ext M N (· < n) h w M N (· < n + 1) ((n, some (.brow [] T)) :: h) w ∧ Rel M N (· < n + 1) ((n, some (.brow [] T)) :: h) w := by
 have hget : ∀ i p, AH.get ((n, some (.brow [] T)) :: h) i = some p → (i = n ∧ p = .brow [] T) ∨ (i < n ∧ h.get i = some p) := by
  intro i p hi
  rw [AH.get_cons] at hi
  split at hi
  ·rename_i hin; exact .inl ⟨hin, by simpa using hi.symm⟩
  ·exact .inr ⟨hr.used i p hi, hi⟩
 refine ⟨⟨rfl, rfl, rfl, Nat.le_refl _, fun _ _ _ => rfl, .refl _, fun b c h1 h2 => by simp [h1] at h2, .refl _ _, fun i hi => by omega, fun i p hi hre => ?_⟩, ⟨hr.frz, fun i p hi => ?_, fun i p hi hre => ?_, fun i p hi => ?_, fun i j p q hi hj hp hq hij => ?_⟩⟩
 ·rcases hget i p hi with ⟨rfl, rfl⟩ | ⟨h1, h2⟩
  ·cases hre
  ·exact .inr ⟨i, p, h2, hre, rfl⟩
 ·rcases hget i p hi with ⟨rfl, rfl⟩ | ⟨h1, h2⟩ <;> omega
 ·rcases hget i p hi with ⟨rfl, rfl⟩ | ⟨h1, h2⟩
  ·cases hre
  ·exact hr.nfrz i p h2 hre
 ·rcases hget i p hi with ⟨rfl, rfl⟩ | ⟨h1, h2⟩
  ·exact .inl rfl
  ·exact (hr.obj i p h2).mono (.refl _) (.refl _ _) (fun i hi => by omega) h1 rfl
 ·rcases hget i p hi with ⟨rfl, rfl⟩ | ⟨h1, h2⟩ <;> rcases hget j q hj with ⟨rfl, rfl⟩ | ⟨h3, h4⟩
  ·rfl
  ·cases hp
  ·cases hq
  ·exact hr.inj i j p q h2 h4 hp hq hij
theorem sapp_OT (hty : TyOK P ty) {o : Oper} {x y : Operand} {t tu u : TypeId} (ho : o.op = .call ⟨.builtin .append, #[x, y], #[t, tu]⟩) {e et eu : TyE} (ht : ty t = some e) (hk : e.k = .prim (.slice u)) (htu : ty tu = some et) (hkt : et.k = .prim .string) (hu : ty u = some eu)
  {i len : Nat} {l : List UInt8} {b : ByteArray} (hx : ev s.f x = .sl i 0 len 1) (hi : s.h.get i = some (.brow l u)) (hlen : l.length = len) (hsz : eu.size = 1) (hby : eu.bytes = 1) (hz : eu.zero = .int .u8 0)
  (hpy : ev s.f y = .iv (.v (.string b))) (hb2 : len + b.size ≤ 140737488355328)
  {s' : AS} (hp : putDst nt o (.sl s.nx 0 (len + b.size) 1) (sapS s i (l ++ b.data.toList) u) = some s') : OT P nt o s (fun t => t = s') := by
 refine OT.value hp fun M N a w hf => ?_
 obtain ⟨⟨ii, hii, his, hib, hiz⟩, _⟩ := hty u _ hu
 rw [hsz] at his
 rw [hby] at hib
 rw [hz] at hiz
 have hut : P.underlying t = some (.slice u) := by
  have := (hty t _ ht).2.1; rw [hk] at this; exact this.1
 have hus : P.underlying tu = some .string := by
  have := (hty tu _ htu).2.1; rw [hkt] at this; exact this.1
 have hvx := ev_ok hf.2.1 x
 rw [hx] at hvx
 have hvy := ev_ok hf.2.1 y
 rw [hpy] at hvy
 have hyv : a.eval y = .string b := by
  generalize a.eval y = v at hvy
  cases hvy with
  | iv _ _ h => cases h; rfl
 have hexec : ∀ v w', (Builtin.append_ #[t, tu] o.type #[a.eval x, a.eval y]).run P w = .ok v w' → (execOp a.eval o).run P w = .ok (.value v) w' := by
  intro v w' h
  simp only [execOp, ho, resolve]
  simp [invoke, builtin, h]
 rw [hyv] at hexec
 have hin : i < s.nx := hf.1.used i _ hi
 have hne : s.nx ≠ i := by omega
 have hor := hf.1.obj i _ hi
 have hbl : b.data.toList.length = b.size := by simp
 have hcells : ∀ (j : Nat) (x : UInt8), b.data.toList[j]? = some x → (Lib.strCells b).getD j undef = .int .u8 (x.toNat : Int) := by
  intro j x hx
  simp only [Lib.strCells, List.getD_eq_getElem?_getD, List.getElem?_map, hx, Option.map_some, Option.getD_some]
 have holds : ∀ z : Array Value, (∀ (j : Nat) (x : UInt8), l[j]? = some x → z.getD j undef = .int .u8 (x.toNat : Int)) → (∀ j, j < b.size → z.getD (len + j) undef = (Lib.strCells b).getD j undef) →
   ∀ (j : Nat) (x : UInt8), (l ++ b.data.toList)[j]? = some x → z.getD j undef = .int .u8 (x.toNat : Int) := by
  intro z h1 h2 j x hj
  rcases Nat.lt_or_ge j l.length with hk | hk
  ·rw [List.getElem?_append_left hk] at hj; exact h1 j x hj
  ·rw [List.getElem?_append_right hk] at hj
   have hlt : j - l.length < b.size := by rw [← hbl]; exact (List.getElem?_eq_some_iff.1 hj).1
   have := h2 _ hlt
   rw [hcells _ _ hj, show len + (j - l.length) = j by omega] at this
   exact this
 have fresh : ∀ (olds : List Value) (cap : Nat), olds.length = len → (∀ (j : Nat) (x : UInt8), l[j]? = some x → olds.getD j undef = .int .u8 (x.toNat : Int)) → len + b.size ≤ cap → cap ≤ maxLen → 0 < len + b.size →
   ∀ z : Array Value, z = olds.toArray ++ (Lib.strCells b).toArray ++ Builtin.zeroCells (Value.int .u8 0).cells (cap - (len + b.size)) →
   ∃ M' N', Ext M N (· < s.nx) s.h w M' N' (· < (sapS s i (l ++ b.data.toList) u).nx) (sapS s i (l ++ b.data.toList) u).h (w.drew.alloc (.cells z u)) ∧ Fits M' N' (sapS s i (l ++ b.data.toList) u) nt a (w.drew.alloc (.cells z u)) ∧
    VR M' N' (· < (sapS s i (l ++ b.data.toList) u).nx) (.sl s.nx 0 (len + b.size) 1) (.slice (some ⟨w.heap.size, 0, none⟩) (len + b.size) cap) := by
  intro olds cap hol hvo hcap hcm hpos z hzz
  have hz1 : (Value.int IntKind.u8 0).cells.size = 1 := rfl
  have hzsize : z.size = cap := by
   rw [hzz, Array.size_append, Array.size_append, size_zeroCells, hz1]
   simp only [List.size_toArray, hol, Lib.strCells_length]
   omega
  obtain ⟨N', h1, h2, h3, h4, h5⟩ := hf.1.drew.alloc (.cells z u) (.brow (l ++ b.data.toList) u) z.size (fun N' g1 g2 g3 => by
   refine .inr ⟨z, by rw [g1]; exact heap_alloc_new _ _, g2.symm, by rw [hzsize, List.length_append, hlen, hbl]; omega, holds z (fun j x hj => ?_) (fun j hj => ?_)⟩
   ·have hj1 := (List.getElem?_eq_some_iff.1 hj).1
    have e1 : z.getD j undef = olds.getD j undef := by
     rw [hzz, Array.getD_eq_getD_getElem?, Array.append_assoc, Array.getElem?_append_left (by simp; omega), List.getD_eq_getElem?_getD]; simp
    rw [e1]; exact hvo j x hj
   ·rw [hzz, Array.getD_eq_getD_getElem?, Array.getElem?_append_left (by simp [Lib.strCells_length]; omega), Array.getElem?_append_right (by simp; omega), List.getD_eq_getElem?_getD]
    simp [hol])
  have hr2 := (h5.del i).swap (Ne.symm hne)
  have hx2 := (((Ext.drew (M := M) (N := N) (U := (· < s.nx)) (h := s.h) (w := w)).trans h4).del i).swap (Ne.symm hne)
  obtain ⟨g1, g2⟩ := sap_fits hf hx2 hr2
  refine ⟨M, N', g1, g2, ?_⟩
  have := VR.sl (M := M) (N := N') (U := (· < s.nx + 1)) s.nx 0 (len + b.size) 1 cap (by omega) hpos hcap hcm (by rw [h2, hzsize]; simp)
  rw [h1, Nat.zero_mul] at this; exact this
 generalize a.eval x = vx at hvx hexec
 cases hvx with
 | sl0 _ _ hU =>
  have he : l = [] := List.eq_nil_of_length_eq_zero hlen
  subst he
  by_cases hm : b.size = 0
  ·have hbn : b.data.toList = [] := List.eq_nil_of_length_eq_zero (by rw [hbl]; exact hm)
   have hrun := run_sappend_none (P := P) w t tu o.type u ii hut hus hii none 0 0 (Nat.le_refl _) b hm (.inl rfl)
   obtain ⟨h1, h2⟩ := hf.1.virtB u
   obtain ⟨g1, g2⟩ := sap_fits (i := i) (l := []) (u := u) hf ((h1.del i).swap (Ne.symm hne)) ((h2.del i).swap (Ne.symm hne))
   rw [hbn, hm]
   exact ⟨_, w, M, N, hexec _ _ hrun, g1, g2, .sl0 _ _ (by simp only [sapS]; omega)⟩
  ·have hrun := run_append_nil_string (P := P) w t tu o.type u ii (.int .u8 0) hut hus hii hiz b (by omega) (by omega) (by rw [hib]; omega)
   have e1 : (b.data.map fun b => Value.int .u8 b.toNat) = (Lib.strCells b).toArray := by
    apply Array.ext'
    simp [Lib.strCells]
   rw [e1] at hrun
   obtain ⟨M', N', g1, g2, g3⟩ := fresh [] (grownCap w b.size 0 u) rfl (by simp) (by simpa using grownCap_ge w b.size 0 u) (grownCap_le_maxLen w _ _ _ (by simp only [maxLen]; omega)) (by omega) _ rfl
   simp only [Nat.zero_add, List.nil_append, Array.empty_append] at *
   exact ⟨_, _, M', N', hexec _ _ hrun, by simpa using g1, by simpa using g2, by simpa using g3⟩
 | sl _ _ _ _ cap hU h0 hl hc hext =>
  rcases hor with rfl | ⟨cur, q1, q2, q3, q4⟩
  ·simp at hlen; omega
  have hreal : (AO.brow l u).real = true := by cases l with
   | nil => simp at hlen; omega
   | cons => rfl
  rw [Nat.zero_mul] at hexec
  have hcur : cur.size = cap := by rw [q2, ← hext]; omega
  by_cases hm : b.size = 0
  ·have hbn : b.data.toList = [] := List.eq_nil_of_length_eq_zero (by rw [hbl]; exact hm)
   have hrun := run_sappend_none (P := P) w t tu o.type u ii hut hus hii (some ⟨N.blk i, 0, none⟩) len cap hl b hm (.inr ⟨_, _, rfl⟩)
   obtain ⟨h1, h2⟩ := hf.1.move hi hreal w (.brow (l ++ []) u) rfl rfl rfl rfl (fun _ _ => rfl) (by
    rw [List.append_nil]
    exact .inr ⟨cur, by simpa using q1, by simpa using q2, q3, q4⟩)
   obtain ⟨g1, g2⟩ := sap_fits (i := i) hf h1 h2
   rw [hbn, hm]
   refine ⟨_, w, M, _, hexec _ _ hrun, g1, g2, ?_⟩
   have := VR.sl (M := M) (N := N.with s.nx (N.blk i) (N.ext i)) (U := (· < s.nx + 1)) s.nx 0 len 1 cap (by omega) h0 hl hc (by simpa using hext)
   simpa [sapS] using this
  ·by_cases hroom : len + b.size ≤ cap
   ·have hrun := run_sappend_room (P := P) w t tu o.type u ii hut hus hii his u (N.blk i) len cap cur q1 b hroom (by omega)
    generalize hL : (cur.toList.take len ++ Lib.strCells b ++ cur.toList.drop (len + b.size)).toArray = L at hrun
    have hLs : L.size = cur.size := by rw [← hL]; simp [Lib.strCells_length]; omega
    have hrow := setRow_heap w (N.blk i) cur L u (0, 0) q1
    have hLo : ∀ j, j < len → L.getD j undef = cur.getD j undef := by
     intro j hj
     rw [← hL, Array.getD_eq_getD_getElem?, Array.getD_eq_getD_getElem?]
     simp only [List.getElem?_toArray]
     rw [List.append_assoc, List.getElem?_append_left (by simp; omega), List.getElem?_take, if_pos hj, Array.getElem?_toList]
    have hLn : ∀ j, j < b.size → L.getD (len + j) undef = (Lib.strCells b).getD j undef := by
     intro j hj
     rw [← hL, Array.getD_eq_getD_getElem?, List.getD_eq_getElem?_getD]
     simp only [List.getElem?_toArray]
     rw [List.getElem?_append_left (by simp [Lib.strCells_length]; omega), List.getElem?_append_right (by simp; omega)]
     congr 2; simp; omega
    obtain ⟨h1, h2⟩ := hf.1.move hi hreal (w.setRow (N.blk i) L) (.brow (l ++ b.data.toList) u) rfl rfl rfl (by simp) (fun b hb => by
      simp only [World.setRow, Array.getElem?_modify]
      rw [if_neg (fun e => hb e.symm)]) (by
     refine .inr ⟨L, by simpa using hrow, by rw [hLs]; simpa using q2, by rw [hLs, hcur, List.length_append, hlen, hbl]; omega, holds L (fun j x hj => ?_) hLn⟩
     rw [hLo j (by rw [← hlen]; exact (List.getElem?_eq_some_iff.1 hj).1)]
     exact q4 j x hj)
    obtain ⟨g1, g2⟩ := sap_fits (i := i) hf h1 h2
    refine ⟨_, _, M, _, hexec _ _ hrun, g1, g2, ?_⟩
    have := VR.sl (M := M) (N := N.with s.nx (N.blk i) (N.ext i)) (U := (· < s.nx + 1)) s.nx 0 (len + b.size) 1 cap (by omega) (by omega) hroom hc (by simpa using hext)
    simpa [sapS] using this
   ·have hold2 : ∀ (j : Nat) (v : Value), (cur.toList.take len)[j]? = some v → w.cell? ((⟨N.blk i, 0, none⟩ : Addr).add j) = some v := by
     intro j v hv
     rw [List.getElem?_take] at hv
     split at hv
     ·rw [add_addr, Nat.zero_add]; simp only [World.cell?, q1]; simpa using hv
     ·cases hv
    have hrun := Lib.run_append_grow_string (P := P) w t tu o.type u ii (.int .u8 0) hut hus hii hiz ⟨N.blk i, 0, none⟩ len cap (cur.toList.take len) (by rw [his]; simp; omega) hold2 b (by omega) (by omega)
     (by rw [hib]; exact growslice_fits (by omega) (by omega))
    obtain ⟨M', N', g1, g2, g3⟩ := fresh (cur.toList.take len) (grownCap w (len + b.size) cap u) (by simp; omega) (fun j x hj => by
      have := q4 j x hj
      have hlt : j < len := by rw [← hlen]; exact (List.getElem?_eq_some_iff.1 hj).1
      rw [List.getD_eq_getElem?_getD, List.getElem?_take, if_pos hlt, Array.getElem?_toList]
      rw [Array.getD_eq_getD_getElem?] at this; exact this) (grownCap_ge w _ _ _) (grownCap_le_maxLen w _ _ _ (by simp only [maxLen]; omega)) (by omega) _ rfl
    exact ⟨_, _, M', N', hexec _ _ hrun, g1, g2, g3⟩
theorem go_sapp (hty : TyOK P ty) {all rest : List Oper} {o : Oper} {x y : Operand} {t tu u d : Nat} {e et eu : TyE} {i len : Nat} {l : List UInt8} {b : ByteArray} (ho : o.op = .call ⟨.builtin .append, #[x, y], #[t, tu]⟩) (hg : o.guard = none) (ht : ty t = some e) (hk : e.k = .prim (.slice u)) (htu : ty tu = some et) (hkt : et.k = .prim .string) (hu : ty u = some eu)
  (hx : ev s.f x = .sl i 0 len 1) (hi : s.h.get i = some (.brow l u)) (hsz : eu.size = 1) (hby : eu.bytes = 1) (hz : eu.zero = .int .u8 0)
  (hpy : ev s.f y = .iv (.v (.string b))) (hd : o.dst = some d) (hlt : Nat.blt d nt = true) (hlen : l.length = len) (hb2 : len + b.size ≤ 140737488355328)
  (h : GO P nt (.ops all rest :: k) Q ⟨(d, .sl s.nx 0 (l ++ b.data.toList).length 1) :: s.f, (s.nx, some (.brow (l ++ b.data.toList) u)) :: (i, none) :: s.h, s.nx + 1⟩) : GO P nt (.ops all (o :: rest) :: k) Q s := by
 have e : (l ++ b.data.toList).length = len + b.size := by rw [List.length_append, hlen]; simp
 rw [e] at h
 exact go_op hg (sapp_OT hty ho ht hk htu hkt hu hx hi hlen hsz hby hz hpy hb2 (s' := ⟨(d, .sl s.nx 0 (len + b.size) 1) :: s.f, (s.nx, some (.brow (l ++ b.data.toList) u)) :: (i, none) :: s.h, s.nx + 1⟩) (by
  simp only [putDst, sapS, hd, hlt, cond_true, forceP_eq])) fun t ht => by subst ht; exact h
theorem snext_OT {o : Oper} {it : Operand} (ho : o.op = .next it true) {i : Nat} (hit : ev s.f it = .ptr i 0) {b : ByteArray} {pos : Nat} (hi : s.h.get i = some (.siter b pos)) {d : Nat} (hd : o.dst = some d) (hlt : Nat.blt d nt = true) :
  OT P nt o s (fun t => (b.size ≤ pos ∧ t = ⟨(d, .tup [.kb false]) :: s.f, s.h, s.nx⟩) ∨
   (pos < b.size ∧ t = ⟨(d, .tup [.kb true, .iv (.v (.int .i64 (pos : Nat))), .iv (.v (.int .i32 (Utf8.decode b pos).1))]) :: s.f, (i, some (.siter b (pos + (Utf8.decode b pos).2))) :: s.h, s.nx⟩)) := by
 intro M N a w hf K Z hk
 have hx := ev_ok hf.2.1 it
 rw [hit] at hx
 have hio : w.heap[N.blk i]? = some (.stringIter b pos) := hf.1.obj i _ hi
 have hblk : N.blk i < w.heap.size := (Array.getElem?_eq_some_iff.1 hio).1
 have hdn : d < nt := Nat.le_of_ble_eq_true hlt
 have hev : a.eval it = .pointer (some ⟨N.blk i, 0, none⟩) := by
  generalize a.eval it = y at hx
  cases hx; rfl
 unfold Oper.wp
 by_cases hp : pos < b.size
 ·have hrun : (execOp a.eval o).run P w = .ok (.value (.tuple #[.bool true, .int .i64 (pos : Nat), .int .i32 (Utf8.decode b pos).1])) { w with heap := w.heap.setIfInBounds (N.blk i) (.stringIter b (pos + (Utf8.decode b pos).2)) } := by
   simp only [execOp, ho, hev]
   simp [Instr.next, getObj, setObj, Sem.run, hio, hp, Result.andThen, goInt]
  rw [hrun]
  simp only [Oper.upon]
  obtain ⟨q1, q2⟩ := hf.1.write hi rfl { w with heap := w.heap.setIfInBounds (N.blk i) (.stringIter b (pos + (Utf8.decode b pos).2)) } (.siter b (pos + (Utf8.decode b pos).2)) rfl rfl rfl (by simp) (fun c hc => by
   show (w.heap.setIfInBounds _ _)[c]? = _
   rw [Array.getElem?_setIfInBounds, if_neg (fun e => hc e.symm)]) (by
   show (w.heap.setIfInBounds _ _)[_]? = _
   rw [Array.getElem?_setIfInBounds, if_pos rfl, if_pos hblk])
  refine hk M N _ _ _ q1 ?_ (.inr ⟨hp, rfl⟩)
  rw [hd]
  refine Fits.put (s := ⟨s.f, (i, some (.siter b (pos + (Utf8.decode b pos).2))) :: s.h, s.nx⟩) ⟨q2, hf.2⟩ d _ _ hdn (.tup _ _ rfl fun q p hp => ?_)
  match q with
  | 0 => simp at hp; subst hp; exact .kb _
  | 1 => simp at hp; subst hp; exact .iv _ _ (.v _)
  | 2 => simp at hp; subst hp; exact .iv _ _ (.v _)
  | q + 3 => simp at hp
 ·have hrun : (execOp a.eval o).run P w = .ok (.value (.tuple #[.bool false])) w := by
   simp only [execOp, ho, hev]
   simp [Instr.next, getObj, Sem.run, hio, hp, Result.andThen]
  rw [hrun]
  simp only [Oper.upon]
  refine hk M N ⟨(d, .tup [.kb false]) :: s.f, s.h, s.nx⟩ _ w (.refl _ _ _ _ _) ?_ (.inl ⟨by omega, rfl⟩)
  rw [hd]
  exact hf.put d _ _ hdn (.tup _ _ rfl fun j p hp => by
    match j with
    | 0 => simp at hp; subst hp; exact .kb _
    | j + 1 => simp at hp)
theorem go_snext {all rest : List Oper} {o : Oper} {it : Operand} {i : Nat} {b : ByteArray} {pos d : Nat} (ho : o.op = .next it true) (hg : o.guard = none) (hit : ev s.f it = .ptr i 0) (hi : s.h.get i = some (.siter b pos)) (hd : o.dst = some d) (hlt : Nat.blt d nt = true)
  (h1 : b.size ≤ pos → GO P nt (.ops all rest :: k) Q ⟨(d, .tup [.kb false]) :: s.f, s.h, s.nx⟩)
  (h2 : pos < b.size → GO P nt (.ops all rest :: k) Q ⟨(d, .tup [.kb true, .iv (.v (.int .i64 (pos : Nat))), .iv (.v (.int .i32 (Utf8.decode b pos).1))]) :: s.f, (i, some (.siter b (pos + (Utf8.decode b pos).2))) :: s.h, s.nx⟩) :
  GO P nt (.ops all (o :: rest) :: k) Q s := by
 refine go_op hg (snext_OT ho hit hi hd hlt) fun t ht => ?_
 rcases ht with ⟨g1, rfl⟩ | ⟨g1, rfl⟩
 ·exact h1 g1
 ·exact h2 g1
theorem go_srange (hty : TyOK P ty) {all rest : List Oper} {o : Oper} {x : Operand} {t d : Nat} {b : ByteArray} {e : TyE} (ho : o.op = .range t x) (hg : o.guard = none) (ht : ty t = some e) (hk : e.k = .prim .string) (hx : ev s.f x = .iv (.v (.string b))) (hd : o.dst = some d) (hlt : Nat.blt d nt = true)
  (h : GO P nt (.ops all rest :: k) Q ⟨(d, .ptr s.nx 0) :: s.f, (s.nx, some (.siter b 0)) :: s.h, s.nx + 1⟩) : GO P nt (.ops all (o :: rest) :: k) Q s := by
 have hus : P.underlying t = some .string := by
  have := (hty t _ ht).2.1; rw [hk] at this; exact this.1
 refine go_op (R := fun t => t = ⟨(d, .ptr s.nx 0) :: s.f, (s.nx, some (.siter b 0)) :: s.h, s.nx + 1⟩) hg (OT.value (s1 := newObj s (.siter b 0)) (p := .ptr s.nx 0) (by cases s; simp only [putDst, newObj, hd, hlt, cond_true, forceP_eq]) fun M N a w hf => ?_) fun t ht => by subst ht; exact h
 have hvx := ev_ok hf.2.1 x
 rw [hx] at hvx
 have hyv : a.eval x = .string b := by
  generalize a.eval x = v at hvx
  cases hvx with
  | iv _ _ h => cases h; rfl
 obtain ⟨N', h1, h2, h3, h4, h5⟩ := hf.1.alloc (.stringIter b 0) (.siter b 0) 0 (fun N' g1 g2 g3 => by
  show (w.alloc _).heap[N'.blk s.nx]? = _
  rw [g1]; exact heap_alloc_new w _)
 refine ⟨.pointer (some ⟨w.heap.size, 0, none⟩), _, M, N', ?_, h4, fits_alloc hf h4 h5, ?_⟩
 ·simp only [execOp, ho, hyv]
  simp [Instr.range, run_underlying hus]
 ·have := VR.ptr (M := M) (N := N') (U := (· < s.nx + 1)) s.nx 0 (by omega)
  rw [h1] at this; exact this
end
end Go.Al
namespace Go.Proofs.YtpnclpbkecjinaaGreatDoorR
open Go Go.Al
set_option maxRecDepth 10000
def okN (c : Nat) : Bool := (decide (97 ≤ c) && decide (c ≤ 122)) || ((decide (65 ≤ c) && decide (c ≤ 90)) || ((decide (48 ≤ c) && decide (c ≤ 57)) || decide (c = 95)))
def okB (b : UInt8) : Bool := okN b.toNat
def hd (s : Str) : Int := ((s.data.toList.getD 0 0).toNat : Int)
def wordB (s : Str) (lo hi : Int) : Bool := !decide (s = ⟨#[]⟩) && (decide (s.size ≤ 32) && (decide (lo ≤ hd s) && (decide (hd s ≤ hi) && s.data.toList.all okB)))
theorem okN_lt {c : Nat} (h : okN c = true) : c < 128 := by
 simp only [okN, Bool.or_eq_true, Bool.and_eq_true, decide_eq_true_eq] at h; omega
theorem size_ne {s : Str} (h : ¬ s = ⟨#[]⟩) : 0 < s.size := by
 refine Nat.pos_of_ne_zero fun h0 => h ?_
 have : s.data = #[] := Array.eq_empty_of_size_eq_zero h0
 cases s; simp_all
theorem c181 (c : Nat) : Pure Tryz.prog 181 [.iv (.v (.int .i32 (c : Int)))] (pB (!okN c)) := by
 refine pure_end tyA_ok Tryz.func181 rfl (by decide) Tryz.ntmps181 rfl (by simp) rfl ?_
 repeat' (first | (refine gA rfl (zI (fun _ => ?_) (fun _ => ?_))) | (refine gA rfl (zL (.of_eq ?_))))
 all_goals (refine (pBE ?_ : pB _ = pB _))
 all_goals (simp only [Bool.not_true, Bool.not_false, decide_eq_true_eq, decide_eq_false_iff_not] at *; rw [Bool.eq_iff_iff]; simp [okN]; omega)
theorem dec_lo {s : Str} {i : Nat} (h : i < s.size) (hb : okB (s.data.toList.getD i 0) = true) : Utf8.decode s i = ((s.data.toList.getD i 0).toNat, 1) := by
 have hg : (s[i]'h) = s.data.toList.getD i 0 := by
  have : i < s.data.toList.length := by simpa using h
  rw [List.getD_eq_getElem?_getD, List.getElem?_eq_getElem this]; simp; rfl
 have := decode_ascii s i h (by rw [hg]; exact okN_lt hb)
 rw [this, hg]
theorem dec_hi {s : Str} {i : Nat} (h : i < s.size) (hb : okB (s.data.toList.getD i 0) = false) : okN (Utf8.decode s i).1 = false := by
 by_cases h1 : (s.data.toList.getD i 0).toNat < 128
 ·have hg : (s[i]'h) = s.data.toList.getD i 0 := by
   have : i < s.data.toList.length := by simpa using h
   rw [List.getD_eq_getElem?_getD, List.getElem?_eq_getElem this]; simp; rfl
  have := decode_ascii s i h (by rw [hg]; exact h1)
  rw [this, hg]; exact hb
 ·have hg : (s.get! (i + 0)).toNat = (s.data.toList.getD i 0).toNat := by
   have : i < s.data.toList.length := by simpa using h
   rw [List.getD_eq_getElem?_getD, List.getElem?_eq_getElem this]
   simp [ByteArray.get!, getElem!_pos, h]
  have : 128 ≤ (Utf8.decode s i).1 := by
   simp only [Utf8.decode, hg, if_neg h1]
   repeat' split
   all_goals (dsimp only [Utf8.runeError]; (try simp only [Bool.and_eq_true, decide_eq_true_eq] at *); omega)
  cases hk : okN (Utf8.decode s i).1 with
  | false => rfl
  | true => have := okN_lt hk; omega
def badIx (s : Str) : Int := idxI (fun b => !okB b) s.data.toList
theorem d217 (s : Str) : Det Tryz.prog 217 [pS s, .clo (.func 181) [] [], pB true] [] (pI (badIx s)) [] 0 := by
 have hlen : s.data.toList.length = s.size := by simp
 refine det_end tyA_ok Tryz.func217 rfl (by decide) Tryz.ntmps217 rfl (by simp) ?_
 refine gA rfl ?_
 refine go_srange tyA_ok rfl rfl rfl rfl rfl rfl rfl ?_
 refine gA rfl ?_
 refine go_for 0 s.size (Nat.zero_le _) (fun i => ⟨[(0, pS s), (1, .clo (.func 181) [] []), (2, pB true), (10, .ptr 0 0)], [(0, some (.siter s i))], 1⟩) (fun i => (s.data.toList.take i).any (fun b => !okB b) = false) [] (by simp)
  (zW ⟨⟨_, rfl, .of_eq rfl⟩, Nat.le_of_ble_eq_true rfl, trivial, trivial⟩) fun i hi hJ => ?_
 refine gA rfl ?_
 refine go_snext rfl rfl rfl rfl rfl rfl (fun h1 => ?_) (fun h1 => ?_)
 ·have h2 : s.data.toList.length ≤ i := by omega
  rw [badIx, idxI_none (any_none hJ h2)]
  refine gA rfl (end_det [] (by first | exact .inr rfl | exact .inl rfl) rfl (zW trivial))
 ·have hi2 : i < s.data.toList.length := by omega
  have hg : s.data.toList.getD i default = s.data.toList.getD i 0 := rfl
  refine gA rfl (zp (c181 (Utf8.decode s i).1) ?_)
  refine gA rfl (zI (fun h2 => ?_) fun h2 => ?_)
  ·have h2 : okN (Utf8.decode s i).1 = false := by simpa using h2
   have hb : okB (s.data.toList.getD i 0) = false := by
    cases hk : okB (s.data.toList.getD i 0) with
    | false => rfl
    | true =>
     rw [dec_lo h1 hk] at h2
     exact absurd (hk.symm.trans h2) (by simp)
   rw [badIx, idxI_hit hJ hi2 (by rw [hg, hb]; rfl)]
   refine gA rfl (end_det [] (by first | exact .inr rfl | exact .inl rfl) rfl (zW trivial))
  ·have h2 : okN (Utf8.decode s i).1 = true := by simpa using h2
   have hb : okB (s.data.toList.getD i 0) = true := by
    cases hk : okB (s.data.toList.getD i 0) with
    | true => rfl
    | false => exact absurd ((dec_hi h1 hk).symm.trans h2) (by simp)
   have hd := dec_lo h1 hb
   refine gA rfl ?_
   exact ⟨h1, (any_step hJ hi2).2 (by rw [hg, hb]; rfl), [], zW ⟨⟨_, rfl, .of_eq (by rw [hd]; rfl)⟩, Nat.le_of_ble_eq_true rfl, trivial, trivial⟩⟩
theorem any_not (l : List UInt8) : (l.any fun b => !okB b) = !l.all okB := by
 induction l with
 | nil => rfl
 | cons x r ih => simp only [List.any_cons, List.all_cons, ih]; cases okB x <;> rfl
theorem d203 (s : Str) : Det Tryz.prog 203 [pS s, .clo (.func 181) [] []] [] (pI (badIx s)) [] 0 := by
 refine det_end tyA_ok Tryz.func203 rfl (by decide) Tryz.ntmps203 rfl (by simp) ?_
 refine gA rfl (zq [] (d217 s) ?_)
 refine gA rfl (end_det [] (by first | exact .inr rfl | exact .inl rfl) rfl (zW trivial))
theorem d180 (s : Str) : Det Tryz.prog 180 [pS s, .clo (.func 181) [] []] [] (pB (!s.data.toList.all okB)) [] 0 := by
 refine det_end tyA_ok Tryz.func180 rfl (by decide) Tryz.ntmps180 rfl (by simp) ?_
 refine gA rfl (zq [] (d203 s) ?_)
 refine gA rfl (end_det [] (by first | exact .inr rfl | exact .inl rfl) rfl (zM ⟨.of_eq (pBE ((idxI_any _ _).trans (any_not _))), rfl, trivial⟩ trivial))
theorem c140 (s : Str) (lo hi : Int) : Pure Tryz.prog 140 [pS s, .iv (.v (.int .u8 lo)), .iv (.v (.int .u8 hi))] (pB (wordB s lo hi)) := by
 refine pure_end tyA_ok Tryz.func140 rfl (by decide) Tryz.ntmps140 rfl (by simp) rfl ?_
 refine gA rfl (zI (fun h1 => ?_) fun h1 => ?_)
 rotate_left
 ·have h1 : s = ⟨#[]⟩ := zT h1
  refine gA rfl (zL (.of_eq ?_))
  refine (pBE ?_ : pB _ = pB _)
  subst h1; rfl
 have h1 : ¬ s = ⟨#[]⟩ := zF h1
 have hp := size_ne h1
 refine gA rfl (zI (fun h2 => ?_) fun h2 => ?_)
 rotate_left
 ·have h2 : 32 < s.size := zN h2
  refine gA rfl (zL (.of_eq ?_))
  refine (pBE ?_ : pB _ = pB _)
  have : ¬ s.size ≤ 32 := by omega
  simp [wordB, this]
 have h2 : s.size ≤ 32 := by have := zF h2; omega
 refine gA rfl (zI (fun h3 => ?_) fun h3 => ?_)
 rotate_left
 ·have h3 : hd s < lo := zT h3
  refine gA rfl (zL (.of_eq ?_))
  refine (pBE ?_ : pB _ = pB _)
  have : ¬ lo ≤ hd s := by omega
  simp [wordB, this]
 have h3 : lo ≤ hd s := by have : ¬ hd s < lo := zF h3; omega
 refine gA rfl (zI (fun h4 => ?_) fun h4 => ?_)
 ·have h4 : hi < hd s := zT h4
  refine gA rfl (zL (.of_eq ?_))
  refine (pBE ?_ : pB _ = pB _)
  have : ¬ hd s ≤ hi := by omega
  simp [wordB, this]
 have h4 : hd s ≤ hi := by have : ¬ hd s > hi := zF h4; omega
 refine gA rfl (zq [] (d180 s) ?_)
 refine gA rfl (zL (.of_eq ?_))
 refine (pBE ?_ : pB _ = pB _)
 simp [wordB, h1, h2, h3, h4]
def resL : List Str := [⟨#[114, 101, 108, 97, 116, 105, 111, 110]⟩, ⟨#[110, 111, 116]⟩, ⟨#[110, 117, 109]⟩, ⟨#[115, 121, 109]⟩, ⟨#[109, 111, 100]⟩, ⟨#[99, 111, 117, 110, 116]⟩, ⟨#[115, 117, 109]⟩, ⟨#[109, 105, 110]⟩, ⟨#[109, 97, 120]⟩]
def resB (s : Str) : Bool := resL.any fun x => decide (s = x)
def nameB (s : Str) : Bool := !resB s && wordB s 97 122
def varB (s : Str) : Bool := wordB s 65 90
theorem c148 (s : Str) : Pure Tryz.prog 148 [pS s] (pB (varB s)) := by
 refine pure_end tyA_ok Tryz.func148 rfl (by decide) Tryz.ntmps148 rfl (by simp) rfl ?_
 refine gA rfl (zp (c140 s 65 90) ?_)
 refine gA rfl (zL (.of_eq ?_))
 rfl
theorem c97 (s : Str) : Pure Tryz.prog 97 [pS s] (pB (nameB s)) := by
 refine pure_end tyA_ok Tryz.func97 rfl (by decide) Tryz.ntmps97 rfl (by simp) rfl ?_
 repeat' (first | (refine gA rfl (zI (fun _ => ?_) (fun _ => ?_))) | (refine gA rfl (zp (c140 s 97 122) ?_)) | (refine gA rfl (zL (.of_eq ?_))))
 all_goals (refine (pBE ?_ : pB _ = pB _))
 all_goals (simp only [nameB, resB, resL, List.any_cons, List.any_nil, *]; rfl)
theorem c142 (v : Val) : Pure Tryz.prog 142 [ag v.c] (pB (!decide (vCheck v = 0))) := by
 refine pure_end tyA_ok Tryz.func142 rfl (by decide) Tryz.ntmps142 rfl (by simp) rfl ?_
 refine gA rfl (zp (c143 v) ?_)
 refine gA rfl (zL (.of_eq ?_))
 rfl
theorem i182 (l : List Val) : Det Tryz.prog 182 [.iv (slc 3 l Val.c), .clo (.func 142) [] []] [] (pI (idxI (fun x : Val => !decide (vCheck x = 0)) l)) [] 0 := by
 refine detLen (callable_of Tryz.func182 rfl (by decide)) ⟨_, _, List.mem_cons_self⟩ fun hlen => ?_
 simp only [maxLen] at hlen
 refine det_end tyA_ok Tryz.func182 rfl (by decide) Tryz.ntmps182 rfl (by simp) ?_
 refine gA rfl ?_
 refine go_for 0 l.length (Nat.zero_le _) (fun i => ⟨[(0, .iv (slc 3 l Val.c)), (1, .clo (.func 142) [] []), (7, pI l.length), (8, pI i)], [], 0⟩) (fun i => (l.take i).any (fun x : Val => !decide (vCheck x = 0)) = false) [] (by simp)
  (zW trivial) fun i hi hJ => ?_
 refine gA rfl (zI (fun h1 => ?_) fun h1 => ?_)
 ·have h1 : i < l.length := by simpa using h1
  refine gA rfl (zp (c142 (l.getD i default)) ?_)
  refine gA rfl (zI (fun h2 => ?_) fun h2 => ?_)
  ·have h2 : (fun x : Val => !decide (vCheck x = 0)) (l.getD i default) = true := h2
   rw [idxI_hit hJ h1 h2]
   refine gA rfl (end_det [] (by first | exact .inr rfl | exact .inl rfl) rfl (zW trivial))
  ·have h2 : (fun x : Val => !decide (vCheck x = 0)) (l.getD i default) = false := h2
   refine gA rfl ?_
   exact ⟨h1, (any_step hJ h1).2 h2, [], zW trivial⟩
 ·have h1 : l.length ≤ i := by simpa using h1
  rw [idxI_none (any_none hJ h1)]
  refine gA rfl (end_det [] (by first | exact .inr rfl | exact .inl rfl) rfl (zW trivial))
theorem d141 (l : List Val) : Det Tryz.prog 141 [.iv (slc 3 l Val.c), .clo (.func 142) [] []] [] (pB (l.any (fun x : Val => !decide (vCheck x = 0)))) [] 0 := by
 refine det_end tyA_ok Tryz.func141 rfl (by decide) Tryz.ntmps141 rfl (by simp) ?_
 refine gA rfl (zq [] (i182 l) ?_)
 refine gA rfl (end_det [] (by first | exact .inr rfl | exact .inl rfl) rfl (zM ⟨.of_eq (pBE (idxI_any _ l)), rfl, trivial⟩ trivial))
def factOK (f : Fact) : Bool := nameB f.rel && (decide (f.args.length ≤ 8) && f.args.all fun v => decide (vCheck v = 0))
theorem all_vals (l : List Val) : (l.any fun x : Val => !decide (vCheck x = 0)) = !l.all fun v => decide (vCheck v = 0) := by
 induction l with
 | nil => rfl
 | cons x r ih => simp only [List.any_cons, List.all_cons, ih]; cases decide (vCheck x = 0) <;> rfl
theorem c98 (l : List Val) : Pure Tryz.prog 98 [.iv (slc 3 l Val.c)] (pB (l.all fun v => decide (vCheck v = 0))) := by
 refine pure_end tyA_ok Tryz.func98 rfl (by decide) Tryz.ntmps98 rfl (by simp) rfl ?_
 refine gA rfl (zq [] (d141 l) ?_)
 refine gA rfl (zL (.of_eq ?_))
 refine (pBE ?_ : pB _ = pB _)
 rw [all_vals, Bool.not_not]
theorem c55 (f : Fact) : Pure Tryz.prog 55 [ag f.c] (pI (if factOK f then 0 else 20)) := by
 refine pure_end tyA_ok Tryz.func55 rfl (by decide) Tryz.ntmps55 rfl (by simp) rfl ?_
 repeat' (first | (refine gA rfl (zI (fun _ => ?_) (fun _ => ?_))) | (refine gA rfl (zp (c97 f.rel) ?_)) | (refine gA rfl (zp (c98 f.args) ?_)) | (refine gA rfl (zL (.of_eq ?_))))
 all_goals (refine (pIE ?_ : pI _ = pI _))
 all_goals (simp only [factOK]; simp_all)
 all_goals omega
end Go.Proofs.YtpnclpbkecjinaaGreatDoorR
namespace Go.Proofs.YtpnclpbkecjinaaGreatDoorR
open Go Go.Al
set_option maxRecDepth 10000
theorem Rel.of_get {M : Mem} {N : Nm} {U : Nat → Prop} {h h2 : AH} {w : World} (hr : Rel M N U h w) (e : ∀ i, AH.get h2 i = h.get i) : Rel M N U h2 w :=
 ⟨hr.frz, fun i o hi => hr.used i o (by rw [← e]; exact hi), fun i o hi => hr.nfrz i o (by rw [← e]; exact hi), fun i o hi => hr.obj i o (by rw [← e]; exact hi), fun i j o p hi hj => hr.inj i j o p (by rw [← e]; exact hi) (by rw [← e]; exact hj)⟩
theorem Ext.of_get {M M' : Mem} {N N' : Nm} {U U' : Nat → Prop} {h0 h h2 : AH} {w w' : World} (hx : Ext M N U h0 w M' N' U' h w') (e : ∀ i, AH.get h2 i = h.get i) : Ext M N U h0 w M' N' U' h2 w' :=
 ⟨hx.os, hx.tape, hx.output, hx.size, hx.keep, hx.mle, hx.mnew, hx.nm, hx.ule, fun i o hi => hx.pnew i o (by rw [← e]; exact hi)⟩
structure WS where
 fr : Bool
 l : List UInt8
 bad : Bool
 br : Int
abbrev WS.cAt (w : WS) (i j : Nat) : AO := .cells [.optr w.fr i, .sl j 0 w.l.length 1, pB w.bad, pI w.br] (some 180)
abbrev WS.c (w : WS) : AO := w.cAt 0 1
abbrev WS.O (w : WS) : List AO := [w.c, .brow w.l 5]
abbrev WS.H (w : WS) : AH := [(0, some (w.cAt 0 2)), (2, some (.brow w.l 5))]
theorem d204 (w : WS) : Det Tryz.prog 204 [.ptr 0 0] w.O (.tup []) [(0, some ({ w with fr := false } : WS).c), (1, some (.brow w.l 5))] 2 := by
 refine ⟨callable_of Tryz.func204 rfl (by decide), fun M N wd vs hr hlen hv => ?_⟩
 obtain ⟨v, rfl⟩ : ∃ v, vs = [v] := by
  cases vs with
  | nil => cases hlen
  | cons v r => cases r with
   | nil => exact ⟨v, rfl⟩
   | cons a b => simp at hlen
 have hv0 : VR M N (· < 2) (.ptr 0 0) v := hv 0 _ rfl
 have hvv : v = .pointer (some ⟨N.blk 0, 0, none⟩) := by cases hv0; rfl
 subst hvv
 have ho0 : AH.get (initH 0 w.O) 0 = some w.c := rfl
 obtain ⟨c, T, h1, h2, h3, h4, h5⟩ := hr.obj 0 _ ho0
 have hT := h5 180 rfl
 subst hT
 have hc4 : c.size = 4 := h3.symm
 have hlt : N.blk 0 < wd.heap.size := (Array.getElem?_eq_some_iff.1 h1).1
 have hc0 : c.getD 0 undef = .pointer (bif w.fr then none else some ⟨N.blk 0, 0, none⟩) := by
  have := h4 0 _ rfl
  generalize c.getD 0 undef = x at this
  cases this; rfl
 have hcell : wd.cell? ⟨N.blk 0, 0, none⟩ = some (c.getD 0 undef) := by
  rw [Lib.cell_of_heap h1, Array.getD_eq_getD_getElem?, Array.getElem?_eq_getElem (by omega)]; rfl
 rw [hc0] at hcell
 show Calls Tryz.prog 204 #[_] wd _
 cases hfr : w.fr with
 | false =>
  rw [hfr] at hcell
  refine (cc_used (N.blk 0) wd hcell).mono ?_
  rintro e w' ⟨rfl, rfl⟩
  have hw : ({ w with fr := false } : WS) = w := by cases w; simp_all
  rw [hw]
  exact ⟨_, M, N, .tup [], _, 2, rfl, ⟨rfl, rfl, rfl⟩, .refl _ _ _ _ _, hr, .tup [] #[] rfl (by simp)⟩
 | true =>
  rw [hfr] at hcell
  refine (cc_fresh (N.blk 0) wd hcell (by simp [World.shape?, h1, hc4]) (Lib.frozen_of_heap h1 0)).mono ?_
  rintro e w' ⟨rfl, rfl⟩
  have hheap : (wd.setCell ⟨N.blk 0, 0, none⟩ (.pointer (some ⟨N.blk 0, 0, none⟩))).heap[N.blk 0]? = some (.cells (c.setIfInBounds 0 (.pointer (some ⟨N.blk 0, 0, none⟩))) 180 (0, 0)) := by
   simp [World.setCell, Array.getElem?_modify, h1]
  obtain ⟨g1, g2⟩ := hr.write (i := 0) (o0 := w.c) ho0 rfl (wd.setCell ⟨N.blk 0, 0, none⟩ (.pointer (some ⟨N.blk 0, 0, none⟩))) ({ w with fr := false } : WS).c rfl rfl rfl (by simp [World.setCell]) (fun b hb => by
   simp only [World.setCell, Array.getElem?_modify]
   rw [if_neg (fun e => hb e.symm)]) ⟨_, 180, hheap, by simpa using h2, by simp [hc4], fun j p hj => by
    match j, hj with
    | 0, hj =>
     cases hj
     rw [Array.getD_eq_getD_getElem?, Array.getElem?_setIfInBounds]
     simp only [if_true, hc4]
     exact .optr false 0 (by show 0 < 2; decide)
    | j + 1, hj =>
     have := h4 (j + 1) p (by exact hj)
     rw [Array.getD_eq_getD_getElem?, Array.getElem?_setIfInBounds, if_neg (by omega)]
     rw [Array.getD_eq_getD_getElem?] at this
     exact this, h5⟩
  have hget : ∀ i, AH.get [(0, some ({ w with fr := false } : WS).c), (1, some (.brow w.l 5))] i = AH.get ((0, some ({ w with fr := false } : WS).c) :: initH 0 w.O) i := by
   intro i
   match i with
   | 0 => rfl
   | 1 => rfl
   | i + 2 => rfl
  exact ⟨_, M, N, .tup [], _, 2, rfl, ⟨rfl, rfl, rfl⟩, Ext.of_get g1 hget, Rel.of_get g2 hget, .tup [] #[] rfl (by simp)⟩
theorem d150 (w : WS) : Det Tryz.prog 150 [.ptr 0 0] w.O (pS ⟨w.l.toArray⟩) [] 2 := by
 refine ⟨callable_of Tryz.func150 rfl (by decide), fun M N wd vs hr hlen hv => ?_⟩
 obtain ⟨v, rfl⟩ : ∃ v, vs = [v] := by
  cases vs with
  | nil => cases hlen
  | cons v r => cases r with
   | nil => exact ⟨v, rfl⟩
   | cons a b => simp at hlen
 have hv0 : VR M N (· < 2) (.ptr 0 0) v := hv 0 _ rfl
 have hvv : v = .pointer (some ⟨N.blk 0, 0, none⟩) := by cases hv0; rfl
 subst hvv
 have ho0 : AH.get (initH 0 w.O) 0 = some w.c := rfl
 have ho1 : AH.get (initH 0 w.O) 1 = some (.brow w.l 5) := rfl
 obtain ⟨c, T, h1, h2, h3, h4, h5⟩ := hr.obj 0 _ ho0
 have hT := h5 180 rfl
 subst hT
 have hc4 : c.size = 4 := h3.symm
 have hex : ∀ (x1 : Value), c.getD 1 undef = x1 → ∃ p x y, c = #[p, x1, x, y] := by
  intro x1 hx1
  refine ⟨c.getD 0 undef, c.getD 2 undef, c.getD 3 undef, ?_⟩
  apply Array.ext
  ·simpa using hc4
  ·intro i hi hi2
   match i, hi with
   | 0, hi => simp [Array.getD_eq_getD_getElem?, hi]
   | 1, hi => rw [← hx1]; simp [Array.getD_eq_getD_getElem?, hi]
   | 2, hi => simp [Array.getD_eq_getD_getElem?, hi]
   | 3, hi => simp [Array.getD_eq_getD_getElem?, hi]
   | i + 4, hi => omega
 have hsl := h4 1 _ rfl
 have hor := hr.obj 1 _ ho1
 show Calls Tryz.prog 150 #[_] wd _
 by_cases hl : w.l = []
 ·have hx1 : c.getD 1 undef = .slice none 0 0 := by
   generalize c.getD 1 undef = x at hsl
   rw [hl] at hsl
   generalize hq : PV.sl 1 0 ([] : List UInt8).length 1 = q at hsl
   cases hsl with
   | sl i off len sz cap h h0 h1 hc he => cases hq; simp at h0
   | sl0 i sz h => rfl
   | _ => cases hq
  obtain ⟨p, x, y, rfl⟩ := hex _ hx1
  refine (bs_nil (N.blk 0) p x y wd h1).mono ?_
  rintro e w' ⟨rfl, rfl⟩
  refine ⟨.string ⟨#[]⟩, M, N, pS ⟨w.l.toArray⟩, [], 2, rfl, ⟨rfl, rfl, rfl⟩, ?_, ?_, .iv _ _ (by rw [hl]; exact .v _)⟩
  ·have := Ext.drew (M := M) (N := N) (U := (· < w.O.length)) (h := initH 0 w.O) (w := wd)
   exact ⟨this.os, this.tape, this.output, this.size, this.keep, this.mle, this.mnew, this.nm, this.ule, fun i o hi => (nomatch hi)⟩
  ·exact ⟨hr.drew.frz, fun i o hi => (nomatch hi), fun i o hi => (nomatch hi), fun i o hi => (nomatch hi), fun i j o p hi => (nomatch hi)⟩
 ·have hpos : 0 < w.l.length := List.length_pos_iff.2 hl
  obtain ⟨cap, hx1, hcap, hcm⟩ : ∃ cap, c.getD 1 undef = .slice (some ⟨N.blk 1, 0, none⟩) w.l.length cap ∧ w.l.length ≤ cap ∧ cap ≤ maxLen := by
   generalize c.getD 1 undef = x at hsl
   generalize hn : w.l.length = n at hsl hpos
   generalize hq : PV.sl 1 0 n 1 = q at hsl
   cases hsl with
   | sl i off len sz cap h h0 hl hc he => cases hq; exact ⟨cap, by simp, hl, hc⟩
   | sl0 i sz h => cases hq; omega
   | _ => cases hq
  rcases hor with hor | ⟨cur, q1, q2, q3, q4⟩
  ·exact absurd hor hl
  obtain ⟨p, x, y, rfl⟩ := hex _ hx1
  refine (bs_some (N.blk 0) (N.blk 1) cap p x y cur w.l wd h1 q1 q3 hcap hcm q4 hl).mono ?_
  rintro e w' ⟨rfl, rfl⟩
  have hre : (AO.brow w.l 5).real = true := by cases hll : w.l with
   | nil => exact absurd hll hl
   | cons => rfl
  have hk : ∀ b, b ≠ N.blk 1 → (wd.drew.freeze ⟨N.blk 1, 0, none⟩ w.l.length).heap[b]? = wd.heap[b]? := by
   intro b hb
   unfold World.freeze
   split
   ·rfl
   ·show (wd.heap.modify _ _)[b]? = _
    simp only [Array.getElem?_modify]
    rw [if_neg (fun e => hb e.symm)]
  have hos : (wd.drew.freeze ⟨N.blk 1, 0, none⟩ w.l.length).os = wd.os ∧ (wd.drew.freeze ⟨N.blk 1, 0, none⟩ w.l.length).tape = wd.tape ∧ (wd.drew.freeze ⟨N.blk 1, 0, none⟩ w.l.length).output = wd.output ∧ (wd.drew.freeze ⟨N.blk 1, 0, none⟩ w.l.length).heap.size = wd.heap.size := by
   unfold World.freeze
   split
   ·exact ⟨rfl, rfl, rfl, rfl⟩
   ·exact ⟨rfl, rfl, rfl, by show (wd.heap.modify _ _).size = _; simp⟩
  refine ⟨_, M, N, pS ⟨w.l.toArray⟩, [], 2, rfl, ⟨rfl, rfl, rfl⟩, ?_, ?_, .iv _ _ (.v _)⟩
  ·exact ⟨hos.1, hos.2.1, hos.2.2.1, by rw [hos.2.2.2]; exact Nat.le_refl _, fun b hb hn => hk b fun e => hn 1 _ ho1 hre e.symm, .refl _, fun b c h1 h2 => by simp [h1] at h2, .refl _ _, fun _ h => h, fun i o hi => (nomatch hi)⟩
  ·refine ⟨fun b d hb => ?_, fun i o hi => (nomatch hi), fun i o hi => (nomatch hi), fun i o hi => (nomatch hi), fun i j o p hi => (nomatch hi)⟩
   have hne : b ≠ N.blk 1 := fun e => by
    have := hr.nfrz 1 _ ho1 hre
    rw [← e, hb] at this; cases this
   exact (hr.frz b d hb).mono (hk b hne)
section
variable {nt : Nat} {Q : AQ} {k : List KI} {s : AS}
def wS (s : AS) (w' : WS) (i j : Nat) : AS := match s with | ⟨f, h, n⟩ => ⟨f, (i, some (w'.cAt i n)) :: (n, some (.brow w'.l 5)) :: (i, none) :: (j, none) :: h, n + 1⟩
theorem wS_eq (s : AS) (w' : WS) (i j : Nat) : wS s w' i j = ⟨s.f, (i, some (w'.cAt i s.nx)) :: (s.nx, some (.brow w'.l 5)) :: (i, none) :: (j, none) :: s.h, s.nx + 1⟩ := by cases s; rfl
def wSp (s : AS) (w' : WS) (i j m : Nat) : AS := match s with | ⟨f, h, n⟩ => ⟨f, (i, some (w'.cAt i n)) :: (n, some (.brow w'.l 5)) :: (i, none) :: (j, none) :: (m, none) :: h, n + 1⟩
theorem wSp_eq (s : AS) (w' : WS) (i j m : Nat) : wSp s w' i j m = ⟨s.f, (i, some (w'.cAt i s.nx)) :: (s.nx, some (.brow w'.l 5)) :: (i, none) :: (j, none) :: (m, none) :: s.h, s.nx + 1⟩ := by cases s; rfl
theorem wcall_OT {o : Oper} {c : Call} {g : FuncId} {args al : List PV} {w w' : WS} {r : PV} {i j : Nat} {s' : AS} (hc : Det Tryz.prog g (.ptr 0 0 :: args) w.O r w'.H 3) (ho : o.op = .call c) (ha : argsOf s.f c = some (g, .ptr i 0 :: al))
  (hi : s.h.get i = some (w.cAt i j)) (hj : s.h.get j = some (.brow w.l 5)) (hlt : Nat.blt i s.nx = true) (hlj : Nat.blt j s.nx = true) (hne : Nat.beq i j = false) (has : al = args) (hlow : belowL 0 args = true) (hr : r.low 0 = true)
  (hp : putDst nt o r (wS s w' i j) = some s') : OT Tryz.prog nt o s (fun t => t = s') := by
 have hij : i ≠ j := fun e => by subst e; simp at hne
 have hnd : ([i, j] : List Nat).Nodup := by simp [hij]
 have hL : ∀ x ∈ [i, j], x < s.nx := by
  intro x hx
  simp only [List.mem_cons, List.not_mem_nil, or_false] at hx
  rcases hx with rfl | rfl
  ·exact Nat.le_of_ble_eq_true hlt
  ·exact Nat.le_of_ble_eq_true hlj
 subst has
 have hargs : ∀ σ, renL σ al = al := fun σ => renL_low σ al hlow
 refine call_OT ho ha hc hnd hL ?_ ?_ ?_
 ·simp only [List.map_cons, List.map_nil, hi, hj]; rfl
 ·simp only [renL, hargs]; rfl
 ·rintro q h0 n0 ⟨rfl, rfl, rfl⟩
  rw [PV.ren_low _ _ hr]
  rw [wS_eq] at hp
  exact ⟨s', hp, rfl⟩
theorem go_w {all rest : List Oper} {o : Oper} {c : Call} {g : FuncId} {args al : List PV} {w w' : WS} {r : PV} {i j : Nat} {s' : AS} (hc : Det Tryz.prog g (.ptr 0 0 :: args) w.O r w'.H 3) (ho : o.op = .call c) (hg : o.guard = none) (ha : argsOf s.f c = some (g, .ptr i 0 :: al))
  (hi : s.h.get i = some (w.cAt i j)) (hj : s.h.get j = some (.brow w.l 5)) (hlt : Nat.blt i s.nx = true) (hlj : Nat.blt j s.nx = true) (hne : Nat.beq i j = false) (has : al = args) (hlow : belowL 0 args = true) (hr : r.low 0 = true)
  (hp : putDst nt o r (wS s w' i j) = some s') (h : GO Tryz.prog nt (.ops all rest :: k) Q s') : GO Tryz.prog nt (.ops all (o :: rest) :: k) Q s :=
 go_op hg (wcall_OT hc ho ha hi hj hlt hlj hne has hlow hr hp) fun t ht => by subst ht; exact h
theorem gwA {all rest : List Oper} {o : Oper} {c : Call} {g : FuncId} {args al : List PV} {w w' : WS} {r : PV} {i j : Nat} {s' : AS} (hc : Det Tryz.prog g (.ptr 0 0 :: args) w.O r w'.H 3) (h : GO Tryz.prog nt (.ops all rest :: k) Q s') (ho : o.op = .call c := by exact rfl) (hg : o.guard = none := by exact rfl) (ha : argsOf s.f c = some (g, .ptr i 0 :: al) := by exact rfl) (hi : s.h.get i = some (w.cAt i j) := by exact rfl) (hj : s.h.get j = some (.brow w.l 5) := by exact rfl) (hlt : Nat.blt i s.nx = true := by exact rfl) (hlj : Nat.blt j s.nx = true := by exact rfl) (hne : Nat.beq i j = false := by exact rfl) (has : al = args := by exact rfl) (hlow : belowL 0 args = true := by exact rfl) (hr : r.low 0 = true := by exact rfl) (hp : putDst nt o r (wS s w' i j) = some s' := by exact rfl) : GO Tryz.prog nt (.ops all (o :: rest) :: k) Q s := go_w (hc := hc) (ho := ho) (hg := hg) (ha := ha) (hi := hi) (hj := hj) (hlt := hlt) (hlj := hlj) (hne := hne) (has := has) (hlow := hlow) (hr := hr) (hp := hp) (h := h)
theorem wput_OT {o : Oper} {c : Call} {g : FuncId} {ss : List Str} {w w' : WS} {i j m n : Nat} {s' : AS} (hc : Det Tryz.prog g [.ptr 0 0, .sl 2 0 ss.length 1] [w.c, .brow w.l 5, rowI 1 ss strC] (.tup []) [(0, some (w'.cAt 0 3)), (3, some (.brow w'.l 5))] 4) (ho : o.op = .call c) (ha : argsOf s.f c = some (g, [.ptr i 0, .sl m 0 n 1]))
  (hi : s.h.get i = some (w.cAt i j)) (hj : s.h.get j = some (.brow w.l 5)) (hm : s.h.get m = some (rowI 1 ss strC)) (hn : n = ss.length) (hlt : Nat.blt i s.nx = true) (hlj : Nat.blt j s.nx = true) (hlm : Nat.blt m s.nx = true) (hnd : nodupB [i, j, m] = true)
  (hp : putDst nt o (.tup []) (wSp s w' i j m) = some s') : OT Tryz.prog nt o s (fun t => t = s') := by
 have hL : ∀ x ∈ [i, j, m], x < s.nx := by
  intro x hx
  simp only [List.mem_cons, List.not_mem_nil, or_false] at hx
  rcases hx with rfl | rfl | rfl
  ·exact Nat.le_of_ble_eq_true hlt
  ·exact Nat.le_of_ble_eq_true hlj
  ·exact Nat.le_of_ble_eq_true hlm
 subst hn
 refine call_OT ho ha hc (nodupB_ok hnd) hL ?_ rfl ?_
 ·simp only [List.map_cons, List.map_nil, hi, hj, hm, rowI_ren]; rfl
 ·rintro q h0 n0 ⟨rfl, rfl, rfl⟩
  rw [wSp_eq] at hp
  exact ⟨s', hp, rfl⟩
theorem go_wp {all rest : List Oper} {o : Oper} {c : Call} {g : FuncId} {ss : List Str} {w w' : WS} {i j m n : Nat} {s' : AS} (hc : Det Tryz.prog g [.ptr 0 0, .sl 2 0 ss.length 1] [w.c, .brow w.l 5, rowI 1 ss strC] (.tup []) [(0, some (w'.cAt 0 3)), (3, some (.brow w'.l 5))] 4) (ho : o.op = .call c) (hg : o.guard = none) (ha : argsOf s.f c = some (g, [.ptr i 0, .sl m 0 n 1]))
  (hi : s.h.get i = some (w.cAt i j)) (hj : s.h.get j = some (.brow w.l 5)) (hm : s.h.get m = some (rowI 1 ss strC)) (hn : n = ss.length) (hlt : Nat.blt i s.nx = true) (hlj : Nat.blt j s.nx = true) (hlm : Nat.blt m s.nx = true) (hnd : nodupB [i, j, m] = true)
  (hp : putDst nt o (.tup []) (wSp s w' i j m) = some s')
  (h : GO Tryz.prog nt (.ops all rest :: k) Q s') : GO Tryz.prog nt (.ops all (o :: rest) :: k) Q s :=
 go_op hg (wput_OT hc ho ha hi hj hm hn hlt hlj hlm hnd hp) fun t ht => by subst ht; exact h
theorem gwpA {all rest : List Oper} {o : Oper} {c : Call} {g : FuncId} {ss : List Str} {w w' : WS} {i j m n : Nat} {s' : AS} (hc : Det Tryz.prog g [.ptr 0 0, .sl 2 0 ss.length 1] [w.c, .brow w.l 5, rowI 1 ss strC] (.tup []) [(0, some (w'.cAt 0 3)), (3, some (.brow w'.l 5))] 4) (h : GO Tryz.prog nt (.ops all rest :: k) Q s') (ho : o.op = .call c := by exact rfl) (hg : o.guard = none := by exact rfl) (ha : argsOf s.f c = some (g, [.ptr i 0, .sl m 0 n 1]) := by exact rfl) (hi : s.h.get i = some (w.cAt i j) := by exact rfl) (hj : s.h.get j = some (.brow w.l 5) := by exact rfl) (hm : s.h.get m = some (rowI 1 ss strC) := by exact rfl) (hn : n = ss.length := by exact rfl) (hlt : Nat.blt i s.nx = true := by exact rfl) (hlj : Nat.blt j s.nx = true := by exact rfl) (hlm : Nat.blt m s.nx = true := by exact rfl) (hnd : nodupB [i, j, m] = true := by exact rfl) (hp : putDst nt o (.tup []) (wSp s w' i j m) = some s' := by exact rfl) : GO Tryz.prog nt (.ops all (o :: rest) :: k) Q s := go_wp (hc := hc) (ho := ho) (hg := hg) (ha := ha) (hi := hi) (hj := hj) (hm := hm) (hn := hn) (hlt := hlt) (hlj := hlj) (hlm := hlm) (hnd := hnd) (hp := hp) (h := h)
theorem go_dwp {all : List Oper} {todo pend : List (Nat × Oper)} {j' : Nat} {CA C2 : Prop} {o : Oper} {c : Call} {g : FuncId} {ss : List Str} {w w' : WS} {i j m n : Nat} {s' : AS} (hc : Det Tryz.prog g [.ptr 0 0, .sl 2 0 ss.length 1] [w.c, .brow w.l 5, rowI 1 ss strC] (.tup []) [(0, some (w'.cAt 0 3)), (3, some (.brow w'.l 5))] 4)
  (hrd : readyE todo = [(j', o)]) (ho : o.op = .call c) (ha : argsOf s.f c = some (g, [.ptr i 0, .sl m 0 n 1]))
  (hi : s.h.get i = some (w.cAt i j)) (hj : s.h.get j = some (.brow w.l 5)) (hm : s.h.get m = some (rowI 1 ss strC)) (hn : n = ss.length) (hlt : Nat.blt i s.nx = true) (hlj : Nat.blt j s.nx = true) (hlm : Nat.blt m s.nx = true) (hnd : nodupB [i, j, m] = true)
  (hp : putDst nt o (.tup []) (wSp s w' i j m) = some s')
  (hg : guardIs nt all s.f o = some true) (hpb : pendB all pend o = true) (hE : effE todo [j'] = true)
  (hag : agnC tyA nt all s todo pend = some CA) (hCA : CA) (hag2 : againC tyA nt all s' (restOf pend o) = some C2) (hC2 : C2)
  (h : GO Tryz.prog nt (.dops all (todo.filter fun x => !Nat.beq x.1 j') (restOf pend o) :: k) Q s') : GO Tryz.prog nt (.dops all todo pend :: k) Q s :=
 go_dot tyA_ok hrd hg hpb hE hag hCA (wput_OT hc ho ha hi hj hm hn hlt hlj hlm hnd hp) hag2 hC2 h
theorem go_dw {all : List Oper} {todo pend : List (Nat × Oper)} {j' : Nat} {CA C2 : Prop} {o : Oper} {c : Call} {g : FuncId} {args al : List PV} {w w' : WS} {r : PV} {i j : Nat} {s' : AS} (hc : Det Tryz.prog g (.ptr 0 0 :: args) w.O r w'.H 3)
  (hrd : readyE todo = [(j', o)]) (ho : o.op = .call c) (ha : argsOf s.f c = some (g, .ptr i 0 :: al))
  (hi : s.h.get i = some (w.cAt i j)) (hj : s.h.get j = some (.brow w.l 5)) (hlt : Nat.blt i s.nx = true) (hlj : Nat.blt j s.nx = true) (hne : Nat.beq i j = false) (has : al = args) (hlow : belowL 0 args = true) (hr : r.low 0 = true)
  (hp : putDst nt o r (wS s w' i j) = some s')
  (hg : guardIs nt all s.f o = some true) (hpb : pendB all pend o = true) (hE : effE todo [j'] = true)
  (hag : agnC tyA nt all s todo pend = some CA) (hCA : CA) (hag2 : againC tyA nt all s' (restOf pend o) = some C2) (hC2 : C2)
  (h : GO Tryz.prog nt (.dops all (todo.filter fun x => !Nat.beq x.1 j') (restOf pend o) :: k) Q s') : GO Tryz.prog nt (.dops all todo pend :: k) Q s :=
 go_dot tyA_ok hrd hg hpb hE hag hCA (wcall_OT hc ho ha hi hj hlt hlj hne has hlow hr hp) hag2 hC2 h
theorem gdwA {all : List Oper} {todo pend : List (Nat × Oper)} {j' : Nat} {CA C2 : Prop} {o : Oper} {c : Call} {g : FuncId} {args al : List PV} {w w' : WS} {r : PV} {i j : Nat} {s' : AS} (hc : Det Tryz.prog g (.ptr 0 0 :: args) w.O r w'.H 3) (h : GO Tryz.prog nt (.dops all (todo.filter fun x => !Nat.beq x.1 j') (restOf pend o) :: k) Q s') (hrd : readyE todo = [(j', o)] := by exact rfl) (ho : o.op = .call c := by exact rfl) (ha : argsOf s.f c = some (g, .ptr i 0 :: al) := by exact rfl) (hi : s.h.get i = some (w.cAt i j) := by exact rfl) (hj : s.h.get j = some (.brow w.l 5) := by exact rfl) (hlt : Nat.blt i s.nx = true := by exact rfl) (hlj : Nat.blt j s.nx = true := by exact rfl) (hne : Nat.beq i j = false := by exact rfl) (has : al = args := by exact rfl) (hlow : belowL 0 args = true := by exact rfl) (hr : r.low 0 = true := by exact rfl) (hp : putDst nt o r (wS s w' i j) = some s' := by exact rfl) (hg : guardIs nt all s.f o = some true := by exact rfl) (hpb : pendB all pend o = true := by exact rfl) (hE : effE todo [j'] = true := by exact rfl) (hag : agnC tyA nt all s todo pend = some CA := by exact rfl) (hCA : CA := by (repeat' (first | exact trivial | exact rfl | exact PVle.refl _ | exact PVle.bk (by assumption) | apply And.intro)) <;> first | omega | (simp only [Int.toNat_natCast]; omega) | (simp; done) | (simp; omega)) (hag2 : againC tyA nt all s' (restOf pend o) = some C2 := by exact rfl) (hC2 : C2 := by (repeat' (first | exact trivial | exact rfl | exact PVle.refl _ | exact PVle.bk (by assumption) | apply And.intro)) <;> first | omega | (simp only [Int.toNat_natCast]; omega) | (simp; done) | (simp; omega)) : GO Tryz.prog nt (.dops all todo pend :: k) Q s := go_dw (hc := hc) (hrd := hrd) (ho := ho) (ha := ha) (hi := hi) (hj := hj) (hlt := hlt) (hlj := hlj) (hne := hne) (has := has) (hlow := hlow) (hr := hr) (hp := hp) (hg := hg) (hpb := hpb) (hE := hE) (hag := hag) (hCA := hCA) (hag2 := hag2) (hC2 := hC2) (h := h)
theorem end_w {l : List ResultVar} {r r0 a b c d : PV} {e : Exit} {w' : WS} {j n : Nat} (he : e = .normal ∨ e = .ret) (hr : resA tyA s l = some r0) (hi : s.h.get 0 = some (.cells [a, b, c, d] (some 180))) (ha : a = .optr w'.fr 0) (hb : b = .sl j 0 n 1) (hn : n = w'.l.length) (hc : PVle c (pB w'.bad)) (hd : PVle d (pI w'.br))
  (hj : s.h.get j = some (.brow w'.l 5)) (hlj : Nat.blt j s.nx = true) (hne : Nat.beq 0 j = false) (hns : Nat.ble 2 s.nx = true)
  (hrl : PVle r0 r) (hlow : r.low 0 = true) (hlow3 : r.low 3 = true) : EndD tyA l 2 r w'.H 3 e s := by
 subst ha; subst hb; subst hn
 refine end_det [j] he hr ⟨rfl, Nat.le_of_ble_eq_true hns, fun x hx => ?_, ⟨?_, hlow3, trivial⟩, ⟨⟨_, hi, .cells ⟨.refl _, .refl _, hc, hd, trivial⟩⟩, Nat.le_of_ble_eq_true rfl, rfl, ⟨.brow w'.l 5, hj, .of_eq rfl⟩, Nat.le_of_ble_eq_true rfl, trivial, trivial⟩, ?_⟩
 ·simp only [List.mem_singleton] at hx; subst hx; exact Nat.le_of_ble_eq_true hlj
 ·rw [PV.ren_low _ _ hlow]; exact hrl
 ·have : (0 : Nat) ≠ j := fun e => by subst e; simp at hne
  show ([0, j] : List Nat).Nodup
  simpa using this
theorem weA {l : List ResultVar} {r r0 a b c d : PV} {e : Exit} {w' : WS} {j n : Nat}  (he : e = .normal ∨ e = .ret := by first | exact .inr rfl | exact .inl rfl) (hr : resA tyA s l = some r0 := by exact rfl) (hi : s.h.get 0 = some (.cells [a, b, c, d] (some 180)) := by exact rfl) (ha : a = .optr w'.fr 0 := by exact rfl) (hb : b = .sl j 0 n 1 := by exact rfl) (hn : n = w'.l.length := by exact rfl) (hc : PVle c (pB w'.bad) := by first | exact .refl _ | exact .kb _) (hd : PVle d (pI w'.br) := by first | exact .refl _ | exact .kb _) (hj : s.h.get j = some (.brow w'.l 5) := by exact rfl) (hlj : Nat.blt j s.nx = true := by exact rfl) (hne : Nat.beq 0 j = false := by exact rfl) (hns : Nat.ble 2 s.nx = true := by exact rfl) (hrl : PVle r0 r := by exact .refl _) (hlow : r.low 0 = true := by exact rfl) (hlow3 : r.low 3 = true := by exact rfl) : EndD tyA l 2 r w'.H 3 e s := end_w (he := he) (hr := hr) (hi := hi) (ha := ha) (hb := hb) (hn := hn) (hc := hc) (hd := hd) (hj := hj) (hlj := hlj) (hne := hne) (hns := hns) (hrl := hrl) (hlow := hlow) (hlow3 := hlow3)
theorem wkW {n0 j m : Nat} {tf : AF} {w w' : WS} {a b c d : PV} (hw : w = w') (hi : s.h.get 0 = some (.cells [a, b, c, d] (some 180))) (ha : a = .optr w.fr 0) (hb : b = .sl j 0 m 1) (hm : m = w.l.length) (hc : PVle c (pB w.bad)) (hd : PVle d (pI w.br)) (hj : s.h.get j = some (.brow w.l 5))
  (hlj : Nat.blt j s.nx = true) (hne : Nat.beq 0 j = false) (h0 : Nat.blt 0 n0 = true) (hns : Nat.ble n0 s.nx = true) (hf : wkF (n0 + 1) (sg n0 [j]) s.f tf) : Wk n0 [j] s ⟨tf, [(0, some (w'.cAt 0 n0)), (n0, some (.brow w'.l 5))], n0 + 1⟩ := by
 subst hw; subst ha; subst hb; subst hm
 have h0' : 0 < n0 := Nat.le_of_ble_eq_true h0
 have s0 : sg n0 [j] 0 = 0 := sg_lt h0'
 have b0 : Nat.blt n0 n0 = false := Bool.eq_false_iff.2 fun e => absurd (Nat.le_of_ble_eq_true e) (by omega)
 have b1 : Nat.blt 0 (n0 + 1) = true := Nat.ble_eq_true_of_le (by omega)
 have b2 : Nat.blt n0 (n0 + 1) = true := Nat.ble_eq_true_of_le (by omega)
 have s1 : sg n0 [j] n0 = j := by simp [sg, b0]
 refine ⟨rfl, Nat.le_of_ble_eq_true hns, fun x hx => ?_, hf, ⟨⟨_, by rw [s0]; exact hi, ?_⟩, Nat.lt_succ_of_lt h0', ?_, ⟨.brow w.l 5, by rw [s1]; exact hj, .of_eq rfl⟩, Nat.lt_succ_self _, trivial, trivial⟩, ?_⟩
 ·simp only [List.mem_singleton] at hx; subst hx; exact Nat.le_of_ble_eq_true hlj
 ·simp only [AO.ren, renL, PV.ren, s0, s1]
  exact .cells ⟨.refl _, .refl _, hc, hd, trivial⟩
 ·simp [AO.low, belowL, PV.low, b1, b2]
 ·have : (0 : Nat) ≠ j := fun e => by subst e; simp at hne
  simp only [realKeys, s0, s1]
  simpa using this
theorem wkWA {n0 j m : Nat} {tf : AF} {w w' : WS} {a b c d : PV} (hw : w = w') (hi : s.h.get 0 = some (.cells [a, b, c, d] (some 180)) := by exact rfl) (ha : a = .optr w.fr 0 := by exact rfl) (hb : b = .sl j 0 m 1 := by exact rfl) (hm : m = w.l.length := by exact rfl) (hc : PVle c (pB w.bad) := by first | exact .refl _ | exact .kb _) (hd : PVle d (pI w.br) := by first | exact .refl _ | exact .kb _) (hj : s.h.get j = some (.brow w.l 5) := by exact rfl) (hlj : Nat.blt j s.nx = true := by exact rfl) (hne : Nat.beq 0 j = false := by exact rfl) (h0 : Nat.blt 0 n0 = true := by exact rfl) (hns : Nat.ble n0 s.nx = true := by exact rfl) (hf : wkF (n0 + 1) (sg n0 [j]) s.f tf := by repeat' (first | exact trivial | exact PVle.refl _ | exact rfl | apply And.intro)) : Wk n0 [j] s ⟨tf, [(0, some (w'.cAt 0 n0)), (n0, some (.brow w'.l 5))], n0 + 1⟩ := wkW (hw := hw) (hi := hi) (ha := ha) (hb := hb) (hm := hm) (hc := hc) (hd := hd) (hj := hj) (hlj := hlj) (hne := hne) (h0 := h0) (hns := hns) (hf := hf)
end
end Go.Proofs.YtpnclpbkecjinaaGreatDoorR
namespace Go.Proofs.YtpnclpbkecjinaaGreatDoorR
open Go Go.Al
set_option maxRecDepth 10000
def ltS (a b : Str) : Prop := toB a < toB b
theorem bl_eq (a b : Str) : Op.bytesLess a.toList b.toList = true ↔ ltS a b := by
 rw [ByteArray.toList_eq, ByteArray.toList_eq, bytesLess_eq, decide_eq_true_eq]; rfl
theorem toB_inj {a b : Str} (h : toB a = toB b) : a = b := by rw [← ofB_toB a, ← ofB_toB b, h]
theorem ltS_trans {a b c : Str} (h : ltS a b) (k : ltS b c) : ltS a c := List.lt_trans h k
theorem ltS_irrefl (a : Str) : ¬ ltS a a := List.lt_irrefl _
theorem ltS_tri {a b : Str} (h : ¬ a = b) (k : ¬ ltS a b) : ltS b a := by
 refine Classical.byContradiction fun hc => h (toB_inj (List.le_antisymm ?_ ?_))
 ·exact List.not_lt.1 hc
 ·exact List.not_lt.1 k
abbrev StS (l : List Str) : Prop := l.Pairwise ltS
theorem ins_sorted : ∀ {l : List Str} (_ : StS l) (s : Str), StS (ins l s)
 | [], _, s => List.pairwise_singleton _ _
 | x :: r, h, s => by
  obtain ⟨h1, h2⟩ := List.pairwise_cons.1 h
  simp only [ins]
  split
  ·exact h
  ·rename_i hne
   split
   ·rename_i hlt
    have hlt := (bl_eq x s).1 hlt
    refine List.pairwise_cons.2 ⟨fun y hy => ?_, ins_sorted h2 s⟩
    rcases mem_ins.1 hy with hy | rfl
    ·exact h1 y hy
    ·exact hlt
   ·rename_i hlt
    have hlt : ltS s x := ltS_tri hne fun h => hlt ((bl_eq x s).2 h)
    refine List.pairwise_cons.2 ⟨fun y hy => ?_, h⟩
    rcases List.mem_cons.1 hy with rfl | hy
    ·exact hlt
    ·exact ltS_trans hlt (h1 y hy)
theorem withL_sorted {l : List Str} (h : StS l) (s : Str) : StS (withL l s) := by rw [withL_ins]; exact ins_sorted h s
theorem withAll_sorted : ∀ {m l : List Str} (_ : StS l), StS (withAll l m)
 | [], _, h => h
 | x :: r, _, h => withAll_sorted (m := r) (withL_sorted h x)
theorem sorted_ext : ∀ {a b : List Str}, StS a → StS b → (∀ x, x ∈ a ↔ x ∈ b) → a = b
 | [], [], _, _, _ => rfl
 | [], y :: s, _, _, h => by have := (h y).2 List.mem_cons_self; cases this
 | x :: r, [], _, _, h => by have := (h x).1 List.mem_cons_self; cases this
 | x :: r, y :: s, ha, hb, h => by
  obtain ⟨a1, a2⟩ := List.pairwise_cons.1 ha
  obtain ⟨b1, b2⟩ := List.pairwise_cons.1 hb
  have hxy : x = y := by
   rcases List.mem_cons.1 ((h x).1 List.mem_cons_self) with h1 | h1
   ·exact h1
   ·rcases List.mem_cons.1 ((h y).2 List.mem_cons_self) with h2 | h2
    ·exact h2.symm
    ·exact absurd (ltS_trans (b1 x h1) (a1 y h2)) (ltS_irrefl _)
  subst hxy
  rw [sorted_ext a2 b2 fun z => ?_]
  constructor
  ·intro hz
   rcases List.mem_cons.1 ((h z).1 (List.mem_cons_of_mem _ hz)) with rfl | h3
   ·exact absurd (a1 z hz) (ltS_irrefl _)
   ·exact h3
  ·intro hz
   rcases List.mem_cons.1 ((h z).2 (List.mem_cons_of_mem _ hz)) with rfl | h3
   ·exact absurd (b1 z hz) (ltS_irrefl _)
   ·exact h3
theorem sortB_sorted {l : List Str} (h : l.Nodup) : StS (sortB l) := by
 have h1 := sortBytes_sorted (l.map toB)
 rw [← sortB_map] at h1
 have hn : (sortB l).Nodup := by
  have hp : ((sortB l).map toB).Perm (l.map toB) := by rw [sortB_map]; exact sortBytes_perm _
  have hln : (l.map toB).Nodup := List.Pairwise.map toB (fun a b hab e => hab (toB_inj e)) h
  have := hp.nodup_iff.2 hln
  exact List.Pairwise.of_map toB (fun a b hab e => hab (by rw [e])) this
 have h2 : (sortB l).Pairwise fun a b => toB a ≤ toB b := (List.pairwise_map.1 h1).imp fun {a b} hab => zT hab
 refine (List.Pairwise.and h2 hn).imp fun {a b} hab => ?_
 obtain ⟨h3, h4⟩ := hab
 exact Classical.byContradiction fun hc => h4 (toB_inj (List.le_antisymm h3 (List.not_lt.1 hc)))
theorem told_eq {m : NM} {l : List Str} (hm : (m.map (·.1)).Nodup) (hl : StS l) (h : ∀ x, x ∈ m.map (·.1) ↔ x ∈ l) : toldM m = l := by
 refine sorted_ext (sortB_sorted hm) hl fun x => ?_
 rw [toldM, mem_sortB]
 exact h x
theorem told_occ {occ l : List Str} (hl : StS l) (h : ∀ x, x ∈ occ ↔ x ∈ l) : toldM (occM occ) = l :=
 told_eq (occM_keys occ).1 hl fun x => ((occM_keys occ).2 x).trans (h x)
theorem mem_foldTerms {x : Str} : ∀ {l : List Term} {a : List Str}, x ∈ l.foldl tvStep a ↔ x ∈ a ∨ x ∈ l.flatMap fun t => if t.kind = 1 then [t.var] else []
 | [], a => by simp
 | t :: r, a => by
  rw [List.foldl_cons, mem_foldTerms, List.flatMap_cons, List.mem_append]
  unfold tvStep
  split
  ·rw [mem_withL, List.mem_singleton, or_assoc]
  ·simp
theorem mem_atomVars {x : Str} {a : Atom} : x ∈ atomVars a ↔ x ∈ atomOcc a := by
 unfold atomVars atomOcc
 rw [mem_foldTerms]; simp
mutual
theorem mem_exprVars {x : Str} : ∀ {e : Expr}, x ∈ exprVars e ↔ x ∈ exprOcc e
 | .mk k v _ _ args => by
  simp only [exprVars, exprOcc]
  split
  ·rw [mem_withL]; simp
  ·split
   ·rw [mem_exprsVars]; simp
   ·rfl
theorem mem_exprsVars {x : Str} : ∀ {l : List Expr} {a : List Str}, x ∈ exprsVars a l ↔ x ∈ a ∨ x ∈ exprsOcc l
 | [], a => by simp [exprsVars, exprsOcc]
 | e :: r, a => by
  simp only [exprsVars, exprsOcc]
  rw [mem_exprsVars, mem_withAll, mem_exprVars, List.mem_append, or_assoc]
end
theorem mem_plainVars {x : Str} {l : Lit} : x ∈ plainVars l ↔ x ∈ litOcc l := by
 unfold plainVars litOcc
 split
 ·exact mem_atomVars
 ·split
  ·rw [mem_withAll, mem_exprVars, mem_exprVars, List.mem_append]
  ·rfl
theorem mem_inner {x : Str} {a : Agg} : x ∈ innerVars a ↔ x ∈ aggOcc a := by
 unfold innerVars aggOcc
 have key : ∀ (l : List Lit) (b : List Str), x ∈ l.foldl plF b ↔ x ∈ b ∨ x ∈ l.flatMap litOcc := by
  intro l
  induction l with
  | nil => simp
  | cons y r ih =>
   intro b
   rw [List.foldl_cons, ih, List.flatMap_cons, List.mem_append, mem_withAll, mem_plainVars, or_assoc]
 rw [key, List.mem_append]
 split
 ·rfl
 ·rw [mem_exprVars]
theorem mem_outer {x : Str} {r : Rule} : x ∈ outer r ↔ x ∈ outerOcc r := by
 unfold outer outerOcc
 have key : ∀ (l : List Lit) (b : List Str), x ∈ l.foldl outF b ↔ x ∈ b ∨ x ∈ l.flatMap litOut := by
  intro l
  induction l with
  | nil => simp
  | cons y r ih =>
   intro b
   rw [List.foldl_cons, ih, List.flatMap_cons, List.mem_append]
   by_cases hk : y.kind = 4
   ·rw [outF_pos hk, show litOut y = litOcc y ++ [y.avar] by unfold litOut; rw [if_pos hk], mem_withL, mem_withAll, mem_plainVars, List.mem_append, List.mem_singleton]
    simp only [or_assoc]
   ·rw [outF_neg hk, show litOut y = litOcc y by unfold litOut; rw [if_neg hk, List.append_nil], mem_withAll, mem_plainVars, or_assoc]
 rw [key, List.mem_append, mem_atomVars]
theorem atomVars_sorted (a : Atom) : StS (atomVars a) := by
 have key : ∀ (l : List Term) (b : List Str), StS b → StS (l.foldl tvStep b) := by
  intro l
  induction l with
  | nil => exact fun _ h => h
  | cons t r ih =>
   intro b h
   rw [List.foldl_cons]
   refine ih _ ?_
   unfold tvStep
   split
   ·exact withL_sorted h _
   ·exact h
 exact key _ _ List.Pairwise.nil
theorem outer_sorted (r : Rule) : StS (outer r) := by
 have key : ∀ (l : List Lit) (b : List Str), StS b → StS (l.foldl outF b) := by
  intro l
  induction l with
  | nil => exact fun _ h => h
  | cons t r ih =>
   intro b h
   rw [List.foldl_cons]
   refine ih _ ?_
   unfold outF
   split
   ·exact withL_sorted (withAll_sorted h) _
   ·exact withAll_sorted h
 exact key _ _ (atomVars_sorted _)
theorem told_outer (r : Rule) : toldM (occM (outerOcc r)) = outer r := told_occ (outer_sorted r) fun _ => mem_outer.symm
theorem inL_congr {a b : List Str} (h : ∀ x, x ∈ a ↔ x ∈ b) (x : Str) : inL a x = inL b x := by
 rw [Bool.eq_iff_iff, inL_iff, inL_iff]; exact h x
theorem exprVars_sorted : ∀ (e : Expr), StS (exprVars e)
 | .mk k v _ _ args => by
  simp only [exprVars]
  split
  ·exact withL_sorted List.Pairwise.nil _
  ·split
   ·rw [exprsVars_eq]
    have key : ∀ (l : List Expr) (b : List Str), StS b → StS (l.foldl (fun a e => withAll a (exprVars e)) b) := by
     intro l
     induction l with
     | nil => exact fun _ h => h
     | cons t r ih => intro b h; exact ih _ (withAll_sorted h)
    exact key _ _ List.Pairwise.nil
   ·exact List.Pairwise.nil
theorem inner_sorted (a : Agg) : StS (innerVars a) := by
 have key : ∀ (l : List Lit) (b : List Str), StS b → StS (l.foldl plF b) := by
  intro l
  induction l with
  | nil => exact fun _ h => h
  | cons t r ih => intro b h; exact ih _ (withAll_sorted h)
 refine key _ _ ?_
 split
 ·exact List.Pairwise.nil
 ·exact exprVars_sorted _
theorem told_local (r : Rule) (lit : Int) : locOut r lit = localL r lit := by
 unfold locOut localL
 split
 ·rfl
 ·refine told_eq (nodup_filterM (occM_keys _).1) ((inner_sorted _).sublist List.filter_sublist) fun x => ?_
  unfold locM
  have hk := (occM_keys (aggOcc (litAt r lit).agg)).2 x
  rw [List.mem_filter, mem_inner, inL_congr (fun _ => mem_outer) x, ← hk]
  constructor
  ·intro h
   obtain ⟨y, hy, rfl⟩ := List.mem_map.1 h
   obtain ⟨h1, h2⟩ := List.mem_filter.1 hy
   exact ⟨List.mem_map.2 ⟨y, h1, rfl⟩, h2⟩
  ·rintro ⟨h1, h2⟩
   obtain ⟨y, hy, rfl⟩ := List.mem_map.1 h1
   exact List.mem_map.2 ⟨y, List.mem_filter.2 ⟨hy, h2⟩, rfl⟩
def limitedL (r : Rule) : List Str := grownL true (outer r) r.body []
theorem c32 (r : Rule) (hb : 4 * r.size ≤ 1000000000000) : Pure Tryz.prog 32 [ag r.c] (.iv (strs (limitedL r))) := by
 have hu := hb
 unfold Rule.size at hu
 refine pure_end tyA_ok Tryz.func32 rfl (by decide) Tryz.ntmps32 rfl (by simp) rfl ?_
 refine gA rfl (zp (c30 r (by omega)) ?_)
 refine gA rfl (zp ((c74 r.body [] (outer r) true (by simp; omega)).le (aa := [.iv (lits r.body), .iv (.v (.slice none 0 0)), .iv (strs (outer r)), pB true]) ⟨.refl _, .nil _ _, .refl _, .refl _, trivial⟩) ?_)
 refine gA rfl (zL (.of_eq ?_))
 rfl
def limInK (r : Rule) (lit : Int) : List Str := (innerVars (litAt r lit).agg).foldl (fun k x => if inL (outer r) x then withL k x else k) []
def limitedInL (r : Rule) (lit : Int) : List Str := grownL false [] (litAt r lit).abody (limInK r lit)
theorem fold_if_len (p : Str → Bool) : ∀ (l k : List Str), (l.foldl (fun k x => if p x then withL k x else k) k).length ≤ k.length + l.length
 | [], k => by simp
 | x :: r, k => by
  have h1 := fold_if_len p r (if p x then withL k x else k)
  have h2 := withL_len k x
  simp only [List.foldl_cons, List.length_cons]
  split at h1 <;> rename_i h3 <;> simp only [h3, if_true, Bool.false_eq_true, if_false] <;> omega
theorem c196 (r : Rule) (lit : Int) (h0 : 0 ≤ lit) (h1 : lit < r.body.length) (hb : 8 * r.size ≤ 1000000000000) : Pure Tryz.prog 196 [ag r.c, pI lit] (.iv (strs (limitedInL r lit))) := by
 have hu := hb
 unfold Rule.size at hu
 have hk : lit.toNat < r.body.length := by omega
 have hsz : (litAt r lit).size ≤ Lit.sizes r.body := Lit.sizes_get r.body lit.toNat hk
 have hag := (litAt r lit).agg_size
 have hiv := innerVars_len (litAt r lit).agg
 have hse := (litAt r lit).size_eq
 refine pure_end tyA_ok Tryz.func196 rfl (by decide) Tryz.ntmps196 rfl (by simp) rfl ?_
 refine gA rfl (zp (c30 r (by omega)) ?_)
 refine gA rfl (zp (c80 (litAt r lit).agg (by omega)) ?_)
 refine gA rfl ?_
 refine go_for 0 (innerVars (litAt r lit).agg).length (Nat.zero_le _) (fun i => ⟨[(5, .ptr 1 0), (6, .iv (strs (outer r))), (7, .iv (strs (((innerVars (litAt r lit).agg).take i).foldl (fun k x => if inL (outer r) x then withL k x else k) []))), (8, .iv (strs (innerVars (litAt r lit).agg))), (9, pI i)], [(1, some (cellsI (litAt r lit).agg.c1))], 2⟩) (fun _ => True) [] trivial
  ?_ fun i hi _ => ?_
 ·refine zM ⟨.refl _, rfl, .refl _, rfl, .nil _ _, rfl, .refl _, rfl, .refl _, rfl, trivial⟩ ⟨⟨_, rfl, ?_⟩, Nat.le_of_ble_eq_true rfl, belowL_iv _ _, trivial⟩
  rw [cellsI_ren]
  exact AOle.cells ⟨.refl _, .refl _, .refl _, .refl _, .refl _, .refl _, .refl _, .refl _, .refl _, .iv (litsIL _), trivial⟩
 have hfl := fold_if_len (inL (outer r)) ((innerVars (litAt r lit).agg).take i) []
 simp only [List.length_nil, List.length_take] at hfl
 refine gA rfl (zI (fun h4 => ?_) fun h4 => ?_)
 ·have h4 : i < (innerVars (litAt r lit).agg).length := by simpa using h4
  have hs := fold_step (g := fun k x => if inL (outer r) x then withL k x else k) (b := []) h4
  refine gA rfl (go_pure (c81 _ ((innerVars (litAt r lit).agg).getD i default)) rfl rfl rfl rfl rfl rfl ?_)
  refine gA rfl (zI (fun h5 => ?_) fun h5 => ?_)
  ·rw [if_pos h5] at hs
   refine gA rfl (go_pure (c72 _ _ (by omega)) rfl rfl rfl rfl rfl rfl ?_)
   refine gA rfl ?_
   exact ⟨h4, trivial, [], zM ⟨.refl _, rfl, .refl _, rfl, .of_eq (by rw [hs]; rfl), rfl, .refl _, rfl, .refl _, rfl, trivial⟩ (zK trivial)⟩
  ·rw [if_neg (by rw [h5]; simp)] at hs
   refine gA rfl ?_
   exact ⟨h4, trivial, [], zM ⟨.refl _, rfl, .refl _, rfl, .of_eq (by rw [hs]; rfl), rfl, .refl _, rfl, .refl _, rfl, trivial⟩ (zK trivial)⟩
 ·have h4 : (innerVars (litAt r lit).agg).length ≤ i := by simpa using h4
  have e0 : ((innerVars (litAt r lit).agg).take i).foldl (fun k x => if inL (outer r) x then withL k x else k) [] = limInK r lit := fold_done h4
  rw [e0] at hfl ⊢
  refine gA rfl (zp ((c74 (litAt r lit).abody (limInK r lit) [] false (by omega)).le (aa := [.iv (lits (litAt r lit).abody), .iv (strs (limInK r lit)), .iv (.v (.slice none 0 0)), pB false]) ⟨.refl _, .refl _, .nil _ _, .refl _, trivial⟩) ?_)
  refine gA rfl (zL (.of_eq ?_))
  rfl
end Go.Proofs.YtpnclpbkecjinaaGreatDoorR
namespace Go.Proofs.YtpnclpbkecjinaaGreatDoorR
open Go Go.Al
set_option maxRecDepth 10000
section
variable (stp : List Str → Lit → Str × Bool)
def gS (a : List Str × Bool) (l : Lit) : List Str × Bool := if (stp a.1 l).2 = true then (withL a.1 (stp a.1 l).1, true) else a
def gR (body : List Lit) (k : List Str) : List Str × Bool := body.foldl (gS stp) (k, false)
def gN (body : List Lit) : Nat → List Str → List Str
 | 0, k => k
 | n + 1, k => if (gR stp body k).2 = true then gN body n (gR stp body k).1 else (gR stp body k).1
variable {stp}
theorem gS_flag : ∀ (body : List Lit) (k : List Str), (body.foldl (gS stp) (k, true)).2 = true
 | [], k => rfl
 | l :: r, k => by
  rw [List.foldl_cons]
  have : ∃ k', gS stp (k, true) l = (k', true) := by
   unfold gS; split
   ·exact ⟨_, rfl⟩
   ·exact ⟨_, rfl⟩
  obtain ⟨k', hk⟩ := this
  rw [hk]; exact gS_flag r k'
theorem gR_quiet : ∀ {body : List Lit} {k : List Str}, (body.foldl (gS stp) (k, false)).2 = false → (body.foldl (gS stp) (k, false)).1 = k ∧ ∀ l ∈ body, (stp k l).2 = false
 | [], k, _ => ⟨rfl, by simp⟩
 | l :: r, k, h => by
  rw [List.foldl_cons] at h ⊢
  cases hs : (stp k l).2 with
  | true =>
   have : gS stp (k, false) l = (withL k (stp k l).1, true) := if_pos hs
   rw [this, gS_flag] at h; cases h
  | false =>
   have : gS stp (k, false) l = (k, false) := if_neg (by rw [hs]; simp)
   rw [this] at h ⊢
   obtain ⟨h1, h2⟩ := gR_quiet h
   exact ⟨h1, fun x hx => by
    rcases List.mem_cons.1 hx with rfl | hx
    ·exact hs
    ·exact h2 x hx⟩
theorem gS_ext : ∀ (body : List Lit) (a : List Str × Bool), ∀ x ∈ a.1, x ∈ (body.foldl (gS stp) a).1
 | [], a, x, h => h
 | l :: r, a, x, h => by
  rw [List.foldl_cons]
  refine gS_ext r _ x ?_
  unfold gS
  split
  ·exact mem_withL.2 (.inl h)
  ·exact h
theorem gN_ext {body : List Lit} : ∀ (n : Nat) (k : List Str), ∀ x ∈ k, x ∈ gN stp body n k
 | 0, k, x, h => h
 | n + 1, k, x, h => by
  unfold gN
  split
  ·exact gN_ext n _ x (gS_ext body (k, false) x h)
  ·exact gS_ext body (k, false) x h
variable (hnew : ∀ (k : List Str) (l : Lit), (stp k l).2 = true → (stp k l).1 ∈ [l.left.var, l.right.var, l.avar] ∧ (stp k l).1 ∉ k)
include hnew
theorem gS_miss {c : List Str} : ∀ {body : List Lit} {a : List Str × Bool}, (∀ l ∈ body, ∀ v ∈ [l.left.var, l.right.var, l.avar], v ∈ c) →
  miss c (body.foldl (gS stp) a).1 ≤ miss c a.1 ∧ ((body.foldl (gS stp) a).2 = true → a.2 = true ∨ miss c (body.foldl (gS stp) a).1 < miss c a.1)
 | [], a, _ => ⟨Nat.le_refl _, fun h => .inl h⟩
 | l :: r, a, hc => by
  have h1 : miss c (gS stp a l).1 ≤ miss c a.1 ∧ ((gS stp a l).2 = true → a.2 = true ∨ miss c (gS stp a l).1 < miss c a.1) := by
   unfold gS
   split
   ·rename_i h
    obtain ⟨g1, g2⟩ := hnew _ _ h
    have := miss_lt (hc l List.mem_cons_self _ g1) g2
    exact ⟨by dsimp only; omega, fun _ => .inr this⟩
   ·exact ⟨Nat.le_refl _, fun h => .inl h⟩
  obtain ⟨g1, g2⟩ := gS_miss (body := r) (a := gS stp a l) fun l hl => hc l (List.mem_cons_of_mem _ hl)
  rw [List.foldl_cons]
  refine ⟨by omega, fun h => ?_⟩
  rcases g2 h with g3 | g3
  ·rcases h1.2 g3 with g4 | g4
   ·exact .inl g4
   ·exact .inr (by omega)
  ·exact .inr (by omega)
theorem gN_fix {body : List Lit} : ∀ (n : Nat) (k : List Str), miss (cands body) k < n → ∀ l ∈ body, (stp (gN stp body n k) l).2 = false
 | 0, k, h, _, _ => by omega
 | n + 1, k, h, l, hl => by
  unfold gN
  cases hr : (gR stp body k).2 with
  | true =>
   rw [if_pos rfl]
   refine gN_fix n _ ?_ l hl
   obtain ⟨_, g2⟩ := gS_miss hnew (c := cands body) (body := body) (a := (k, false)) fun l hl v hv => cands_mem hl hv
   rcases g2 hr with g3 | g3
   ·cases g3
   ·unfold gR; dsimp only at g3; omega
  | false =>
   rw [if_neg (by simp)]
   obtain ⟨g1, g2⟩ := gR_quiet hr
   unfold gR
   rw [g1]; exact g2 l hl
end
theorem firstV_of_none {m1 : Expr → Bool} {m2 : Agg → Bool} {occ : List Str} : ∀ {l : List Lit}, (∀ x ∈ l, newV m1 m2 occ x = none) → firstV m1 m2 occ l = none
 | [], _ => rfl
 | y :: r, h => by
  simp only [firstV, h y List.mem_cons_self]
  exact firstV_of_none fun x hx => h x (List.mem_cons_of_mem _ hx)
section
variable {stp : List Str → Lit → Str × Bool} {may : List Str → Expr → Bool} {more : List Str → Agg → Bool} {body : List Lit}
variable (hE : ∀ (k : List Str) (l : Lit), newV (may k) (more k) k l = if (stp k l).2 = true then some (stp k l).1 else none)
variable (hmay : ∀ a b : List Str, (∀ x ∈ a, x ∈ b) → ∀ e, may a e = true → may b e = true) (hmore : ∀ a b : List Str, (∀ x ∈ a, x ∈ b) → ∀ e, more a e = true → more b e = true)
include hE
theorem stp_new (k : List Str) (l : Lit) (h : (stp k l).2 = true) : (stp k l).1 ∈ [l.left.var, l.right.var, l.avar] ∧ (stp k l).1 ∉ k := by
 have := hE k l
 rw [if_pos h] at this
 exact newV_new this
include hmay hmore
theorem gS_sub {C : List Str} (hC : ∀ l ∈ body, newV (may C) (more C) C l = none) : ∀ (b : List Lit) (a : List Str × Bool), (∀ l ∈ b, l ∈ body) → (∀ x ∈ a.1, x ∈ C) → ∀ x ∈ (b.foldl (gS stp) a).1, x ∈ C
 | [], a, _, h, x, hx => h x hx
 | l :: r, a, hb, h, x, hx => by
  rw [List.foldl_cons] at hx
  refine gS_sub hC r _ (fun l hl => hb l (List.mem_cons_of_mem _ hl)) (fun y hy => ?_) x hx
  unfold gS at hy
  split at hy
  ·rename_i hs
   rcases mem_withL.1 hy with hy | rfl
   ·exact h y hy
   ·have := hE a.1 l
    rw [if_pos hs] at this
    exact newV_in hmay hmore h this (hC l (hb l List.mem_cons_self))
  ·exact h y hy
theorem gN_sub {C : List Str} (hC : ∀ l ∈ body, newV (may C) (more C) C l = none) : ∀ (n : Nat) (k : List Str), (∀ x ∈ k, x ∈ C) → ∀ x ∈ gN stp body n k, x ∈ C
 | 0, k, h, x, hx => h x hx
 | n + 1, k, h, x, hx => by
  unfold gN at hx
  have hr := gS_sub hE hmay hmore hC body (k, false) (fun _ h => h) h
  split at hx
  ·exact gN_sub hC n _ hr x hx
  ·exact hr x hx
theorem same_closed {k occ : List Str} (hk : ∀ x, x ∈ k ↔ x ∈ occ ++ body.flatMap posOcc) (x : Str) : x ∈ gN stp body (3 * body.length + 1) k ↔ x ∈ closedL may more body occ := by
 constructor
 ·refine gN_sub hE hmay hmore (C := closedL may more body occ) (firstV_none (closedL_fix occ)) _ _ (fun y hy => ?_) x
  exact closedN_ext _ _ y ((hk y).1 hy)
 ·refine closedN_sub hmay hmore (C := gN stp body (3 * body.length + 1) k) (firstV_of_none fun l hl => ?_) _ _ (fun y hy => gN_ext _ _ y ((hk y).2 hy)) x
  have h1 := miss_le (cands body) k
  have h2 := cands_len body
  rw [hE, gN_fix (stp_new hE) _ _ (by omega) l hl, if_neg (by simp)]
end
theorem mem_posF {x : Str} : ∀ {l : List Lit} {a : List Str}, x ∈ l.foldl posF a ↔ x ∈ a ∨ x ∈ l.flatMap posOcc
 | [], a => by simp
 | t :: r, a => by
  rw [List.foldl_cons, mem_posF, List.flatMap_cons, List.mem_append]
  by_cases hk : t.kind = 1
  ·rw [show posF a t = withAll a (atomVars t.atom) from if_pos hk, show posOcc t = atomOcc t.atom from if_pos hk, mem_withAll, mem_atomVars, or_assoc]
  ·rw [show posF a t = a from if_neg hk, show posOcc t = [] from if_neg hk]; simp
theorem allL_var {k : List Str} {e : Expr} (h : e.kind = 1) : allL k (exprVars e) = inL k e.var := by
 rw [exprVars_var h]; simp [allL]
theorem allL_covers (k : List Str) (e : Expr) : allL k (exprVars e) = coversB k e := by
 rw [Bool.eq_iff_iff, allL_iff]
 unfold coversB
 rw [List.all_eq_true]
 exact ⟨fun h x hx => inL_iff.2 (h x (mem_exprVars.2 hx)), fun h x hx => inL_iff.1 (h x (mem_exprVars.1 hx))⟩
theorem sets_cop (k : List Str) (l : Lit) : setsL l k = copB (coversB k) k l := by
 unfold setsL copB
 split
 ·rfl
 ·have e1 : l.left.kind = 1 → coversB k l.left = inL k l.left.var := fun h => by rw [← allL_covers, allL_var h]
  have e2 : l.right.kind = 1 → coversB k l.right = inL k l.right.var := fun h => by rw [← allL_covers, allL_var h]
  simp only [allL_covers]
  by_cases h1 : l.left.kind = 1 <;> by_cases h2 : l.right.kind = 1 <;> simp [h1, h2, e1, e2]
theorem cop_kind {may : Expr → Bool} {k : List Str} {l : Lit} (h : (copB may k l).2 = true) : l.kind = 3 := by
 unfold copB at h
 split at h
 ·cases h
 ·rename_i h1; exact Classical.byContradiction fun hc => h1 (.inl hc)
theorem aggr_more (out : List Str) (r : Rule) (k : List Str) (a : Agg) (ho : ∀ x, x ∈ out ↔ x ∈ outerOcc r) : aggrB a k out = (!inL k a.var && moreB (outerOcc r) k a) := by
 unfold aggrB moreB
 congr 1
 rw [Bool.eq_iff_iff, List.all_eq_true, List.all_eq_true]
 have key : ∀ x, (!(inL out x && (!inL k x && !decide (x = a.var)))) = (decide (x = a.var) || (!inL (outerOcc r) x || inL k x)) := fun x => by
  rw [inL_congr ho x]
  cases inL (outerOcc r) x <;> cases inL k x <;> cases decide (x = a.var) <;> rfl
 constructor
 ·intro h x hx; rw [← key]; exact h x (mem_inner.2 hx)
 ·intro h x hx; rw [key]; exact h x (mem_inner.1 hx)
theorem newV_step (r : Rule) (k : List Str) (l : Lit) : newV (coversB k) (moreB (outerOcc r) k) k l = if (stepV true (outer r) k l).2 = true then some (stepV true (outer r) k l).1 else none := by
 unfold newV stepV
 by_cases h4 : l.kind = 4
 ·have hc : ¬ (copB (coversB k) k l).2 = true := fun h => by have := cop_kind h; omega
  rw [if_neg hc, if_pos (c := true = true ∧ l.kind = 4) ⟨rfl, h4⟩]
  dsimp only
  rw [aggr_more (outer r) r k l.agg fun _ => mem_outer]
  show (if l.kind = 4 ∧ inL k l.avar = false ∧ moreB (outerOcc r) k l.agg = true then some l.avar else none) = if (!inL k l.avar && moreB (outerOcc r) k l.agg) = true then some l.avar else none
  cases inL k l.avar <;> cases moreB (outerOcc r) k l.agg <;> simp [h4]
 ·rw [if_neg (c := l.kind = 4 ∧ _) (fun h => h4 h.1), if_neg (c := true = true ∧ _) (fun h => h4 h.2), sets_cop]
theorem growN_gN (own : Bool) (out : List Str) (body : List Lit) : ∀ (n : Nat) (k : List Str), growN own out body n k = gN (stepV own out) body n k
 | 0, k => rfl
 | n + 1, k => by
  rw [growN_succ, growN_gN own out body n]; rfl
end Go.Proofs.YtpnclpbkecjinaaGreatDoorR
namespace Go.Proofs
open Go.Shelf
def Tryz.lays190_ren : Go.Shelf.Ren := ⟨fun | 190 => 94 | 125 => 139 | 258 => 138 | 128 => 178 | 129 => 179 | 302 => 169 | 303 => 170 | 304 => 171 | 305 => 172 | 306 => 173 | 307 => 174 | 308 => 175 | 309 => 176 | 310 => 177 | 333 => 197 | 329 => 198 | 330 => 199 | 334 => 200 | 335 => 201 | 336 => 202 | 344 => 216 | n => n, fun | 31 => 63 | 9 => 9 | 3 => 3 | 46 => 201 | 0 => 0 | 51 => 230 | 53 => 232 | 4 => 4 | 183 => 223 | 182 => 222 | 131 => 128 | 5 => 5 | 218 => 250 | 222 => 254 | 228 => 261 | 229 => 262 | n => n, fun | n => n⟩
theorem Tryz.lays190 : Go.Proofs.Lays.n190 Tryz.prog Tryz.lays190_ren := {
 mixed := by kernel_rfl
 f125 := Tryz.func139.trans (congrArg some (by kernel_rfl))
 f128 := Tryz.func178.trans (congrArg some (by kernel_rfl))
 f129 := Tryz.func179.trans (congrArg some (by kernel_rfl))
 f190 := Tryz.func94.trans (congrArg some (by kernel_rfl))
 f258 := Tryz.func138.trans (congrArg some (by kernel_rfl))
 f302 := Tryz.func169.trans (congrArg some (by kernel_rfl))
 f303 := Tryz.func170.trans (congrArg some (by kernel_rfl))
 f304 := Tryz.func171.trans (congrArg some (by kernel_rfl))
 f305 := Tryz.func172.trans (congrArg some (by kernel_rfl))
 f306 := Tryz.func173.trans (congrArg some (by kernel_rfl))
 f307 := Tryz.func174.trans (congrArg some (by kernel_rfl))
 f308 := Tryz.func175.trans (congrArg some (by kernel_rfl))
 f309 := Tryz.func176.trans (congrArg some (by kernel_rfl))
 f310 := Tryz.func177.trans (congrArg some (by kernel_rfl))
 f329 := Tryz.func198.trans (congrArg some (by kernel_rfl))
 f330 := Tryz.func199.trans (congrArg some (by kernel_rfl))
 f333 := Tryz.func197.trans (congrArg some (by kernel_rfl))
 f334 := Tryz.func200.trans (congrArg some (by kernel_rfl))
 f335 := Tryz.func201.trans (congrArg some (by kernel_rfl))
 f336 := Tryz.func202.trans (congrArg some (by kernel_rfl))
 f344 := Tryz.func216.trans (congrArg some (by kernel_rfl))
 t0 := Tryz.underlying0
 a0 := Tryz.isAgg0
 z0 := Tryz.sizeOf0
 v0 := Tryz.zeroValue0
 t3 := Tryz.underlying3
 a3 := Tryz.isAgg3
 z3 := Tryz.sizeOf3
 v3 := Tryz.zeroValue3
 t4 := Tryz.underlying4
 a4 := Tryz.isAgg4
 z4 := Tryz.sizeOf4
 v4 := Tryz.zeroValue4
 t5 := Tryz.underlying5
 a5 := Tryz.isAgg5
 z5 := Tryz.sizeOf5
 v5 := Tryz.zeroValue5
 t9 := Tryz.underlying9
 a9 := Tryz.isAgg9
 z9 := Tryz.sizeOf9
 v9 := Tryz.zeroValue9
 t31 := Tryz.underlying63
 a31 := Tryz.isAgg63
 z31 := Tryz.sizeOf63
 v31 := Tryz.zeroValue63
 t46 := Tryz.underlying201
 a46 := Tryz.isAgg201
 z46 := Tryz.sizeOf201
 v46 := Tryz.zeroValue201
 t51 := Tryz.underlying230
 a51 := Tryz.isAgg230
 z51 := Tryz.sizeOf230
 v51 := Tryz.zeroValue230
 t53 := Tryz.underlying232
 a53 := Tryz.isAgg232
 z53 := Tryz.sizeOf232
 v53 := Tryz.zeroValue232
 t131 := Tryz.underlying128
 a131 := Tryz.isAgg128
 z131 := Tryz.sizeOf128
 v131 := Tryz.zeroValue128
 t182 := Tryz.underlying222
 a182 := Tryz.isAgg222
 z182 := Tryz.sizeOf222
 v182 := Tryz.zeroValue222
 t183 := Tryz.underlying223
 a183 := Tryz.isAgg223
 z183 := Tryz.sizeOf223
 v183 := Tryz.zeroValue223
 t218 := Tryz.underlying250
 a218 := Tryz.isAgg250
 z218 := Tryz.sizeOf250
 v218 := Tryz.zeroValue250
 t222 := Tryz.underlying254
 a222 := Tryz.isAgg254
 z222 := Tryz.sizeOf254
 v222 := Tryz.zeroValue254
 t228 := Tryz.underlying261
 a228 := Tryz.isAgg261
 z228 := Tryz.sizeOf261
 v228 := Tryz.zeroValue261
 t229 := Tryz.underlying262
 a229 := Tryz.isAgg262
 z229 := Tryz.sizeOf262
 v229 := Tryz.zeroValue262 }
theorem YtpnclpbkecjinaaGreatDoorR.sortS : YtpnclpbkecjinaaGreatDoorR.SortS :=
 ⟨fun blk off cap ss w hH hblk hsz => Any.slices_Sort_string Tryz.lays190 blk off cap ss w hH hblk hsz, fun p cap w => Any.slices_Sort_string_none Tryz.lays190 p cap w⟩
end Go.Proofs
namespace Go.Proofs.YtpnclpbkecjinaaGreatDoorR
open Go Go.Al
set_option maxRecDepth 10000
theorem allOnes_src {α : Type} [Inhabited α] {f : α → List IV} (h : ∀ x, allOne ((f x).map .iv) = true) (l : List α) : allOnes ((List.range l.length).map fun k => (f (l.getD k default)).map PV.iv) = true := by rw [src_map]; exact allOnes_map h l
theorem c20 (a : Atom) (hb : a.terms.length ≤ 100000000000) : Pure Tryz.prog 20 [ag a.c] (ag a.c) := by
 refine pure_end tyA_ok Tryz.func20 rfl (by decide) Tryz.ntmps20 rfl (by simp) rfl ?_
 refine gA rfl (end_frz (.inr rfl) rfl (FrzS.rowL 3 a.terms Term.c rfl (src_map _ _) (by simp [PV.inRow, inRowL]) (.done (.of_eq (by simp only [PV.frz, frzL, Nat.zero_add]; rfl)))))
theorem c95 : ∀ (n : Nat) (e : Expr), e.size ≤ n → e.size ≤ 100000000000 → Pure Tryz.prog 95 [ag e.c] (ag e.c)
 | 0, e, h, _ => absurd e.size_pos (by omega)
 | n + 1, e, h, hb => by
  have hse := e.size_eq
  have hls := Expr.length_sizes e.args
  refine Al.Pure.le (aa := [ag e.c]) (args := [ag e.c1]) ?_ ⟨e.le1, trivial⟩
  refine pure_end tyA_ok Tryz.func95 rfl (by decide) Tryz.ntmps95 rfl (by simp) rfl ?_
  refine gA rfl ?_
  refine go_virtC 2 6 7 rfl rfl ?_
  refine go_for 0 e.args.length (Nat.zero_le _) (fun i => ⟨[(1, .ptr 0 0), (2, .ptr 1 0), (3, .ptr 2 0), (4, pI i)], [(0, some (cellsI e.c1)), (1, some (.cells [pI 0, pS ByteArray.empty, pI 0, pI 0, pS ByteArray.empty, pI 0, .iv (.v (.slice none 0 0))])), (2, some (.cells [.iv (iI e.kind), .iv (iS e.var), .iv (iI e.val.kind), .iv (iI e.val.num), .iv (iS e.val.sym), .iv (iI e.op), .sl 4 0 i 7])), (4, some (rowI 7 (e.args.take i) Expr.c))], 5⟩) (fun _ => True) [3] trivial
   (zW (zK (zO (zO (zS trivial))))) fun i hi _ => ?_
  refine gA rfl (zI (fun h1 => ?_) fun h1 => ?_)
  ·have h1 : i < e.args.length := by simpa using h1
   have hss := Expr.sizes_get e.args i h1
   have hlt : (e.args.take i).length = i := by rw [List.length_take]; omega
   have hts := take_step (l := e.args) h1
   refine gA rfl (zdp (c95 n (e.args.getD i default) (by omega) (by omega)) ?_)
   refine gA rfl ?_
   exact ⟨h1, trivial, [6], zW (zK (zO (zO (hR rfl (by rw [hts, List.map_append]; rfl) rfl trivial))))⟩
  ·have h1 : e.args.length ≤ i := by simpa using h1
   have hie : i = e.args.length := by omega
   subst hie
   rw [List.take_of_length_le (Nat.le_refl _)]
   refine gA rfl (end_frz (.inr rfl) rfl (FrzS.rowL 4 e.args Expr.c rfl rfl (by simp [PV.inRow, inRowL]) (.done ?_)))
   have : PVle (ag e.c1) (ag e.c) := e.le1'
   simp only [PV.frz, frzL, Nat.zero_add]
   exact this
theorem c95' (e : Expr) (hb : e.size ≤ 100000000000) : Pure Tryz.prog 95 [ag e.c] (ag e.c) := c95 e.size e (Nat.le_refl _) hb
theorem c53y : ∀ (n : Nat) (l : List Lit) (y : IV), Lit.sizes l ≤ n → Lit.sizes l ≤ 100000000000 → IVle (lits l) y → Pure Tryz.prog 53 [.iv (lits l)] (.iv y) := by
 intro n
 induction n with
 | zero =>
  intro l y h hb hy
  have hl := Lit.length_sizes l
  have h0 : l.length = 0 := by omega
  refine pure_end tyA_ok Tryz.func53 rfl (by decide) Tryz.ntmps53 rfl (by simp) rfl ?_
  refine gA rfl ?_
  refine go_for 0 l.length (Nat.zero_le _) (fun i => ⟨[(0, .iv (lits l)), (3, .iv (.v (.slice none 0 0))), (4, pI i)], [], 0⟩) (fun _ => True) [] trivial
   (wk0 rfl rfl ⟨.refl _, rfl, .refl _, rfl, .refl _, rfl, trivial⟩ rfl) fun i hi _ => ?_
  refine gA rfl (zI (fun h1 => ?_) fun h1 => ?_)
  ·have h1 : i < l.length := by simpa using h1
   omega
  ·refine gA rfl (zL ?_)
   have hnil : l = [] := List.length_eq_zero_iff.1 h0
   subst hnil
   exact .iv (fun M x hx => hy M x (by cases hx; exact .imm0 _ _ _ _))
 | succ n ih =>
  intro l y h hb hy
  have hl := Lit.length_sizes l
  refine pure_end tyA_ok Tryz.func53 rfl (by decide) Tryz.ntmps53 rfl (by simp) rfl ?_
  refine gA rfl ?_
  refine go_virt 3 30 rfl ?_
  refine go_for 0 l.length (Nat.zero_le _) (fun i => ⟨[(0, .iv (lits l)), (3, .sl 1 0 i 30), (4, pI i)], [(1, some (rowI 30 (l.take i) Lit.c))], 2⟩) (fun _ => True) [0] trivial
   (zW (zS trivial)) fun i hi _ => ?_
  refine gA rfl (zI (fun h1 => ?_) fun h1 => ?_)
  ·have h1 : i < l.length := by simpa using h1
   have hss := Lit.sizes_get l i h1
   have hse := (l.getD i default).size_eq
   have hlt : (l.take i).length = i := by rw [List.length_take]; omega
   have hts := take_step (l := l) h1
   refine gA rfl (zp (c20 (l.getD i default).atom (by omega)) ?_)
   refine gA rfl (zp (c95' (l.getD i default).left (by omega)) ?_)
   refine gA rfl (zp (c95' (l.getD i default).right (by omega)) ?_)
   refine gA rfl (zp (c95' (l.getD i default).aof (by omega)) ?_)
   refine gA rfl (go_pure (Al.Pure.le (aa := [.iv (bodyR (l.getD i default).abody)]) (ih (l.getD i default).abody (bodyR (l.getD i default).abody) (by omega) (by omega) (litsIR _)) ⟨.iv (litsIL _), trivial⟩) rfl rfl rfl rfl rfl rfl ?_)
   refine gA rfl ?_
   exact ⟨h1, trivial, [4], zW (hR rfl (by rw [hts, List.map_append]; rfl) rfl trivial)⟩
  ·have h1 : l.length ≤ i := by simpa using h1
   have hie : i = l.length := by omega
   subst hie
   rw [List.take_of_length_le (Nat.le_refl _)]
   refine gA rfl (end_frz (r0 := .sl 1 0 l.length 30) (.inr rfl) rfl (FrzS.rowL 1 l Lit.c rfl rfl (by simp [PV.inRow]) (.done ?_)))
   have : PVle (.iv (lits l)) (.iv y) := .iv hy
   simp only [PV.frz, Nat.zero_add]
   exact this
theorem c53 (l : List Lit) (hb : Lit.sizes l ≤ 100000000000) : Pure Tryz.prog 53 [.iv (lits l)] (.iv (lits l)) := c53y _ l _ (Nat.le_refl _) hb (fun _ _ h => h)
def Prog.size (p : Prog) : Nat := p.rels.length + (p.rels.map fun d => d.types.length).sum + p.rules.length + (p.rules.map Rule.size).sum
theorem sum_get {α : Type} [Inhabited α] (f : α → Nat) : ∀ (l : List α) (i : Nat), i < l.length → f (l.getD i default) ≤ (l.map f).sum
 | x :: r, 0, _ => by simp
 | x :: r, i + 1, h => by
  have := sum_get f r i (by simpa using h)
  simp only [List.getD_cons_succ, List.map_cons, List.sum_cons]; omega
theorem inRowL_iv (i sz n : Nat) : ∀ l : List IV, inRowL i sz n (l.map .iv)
 | [] => trivial
 | _x :: r => ⟨trivial, inRowL_iv i sz n r⟩
theorem rowI_okR {α : Type} (i sz n sz' : Nat) (l : List α) (f : α → List IV) : (rowI sz' l f).okR i sz n := by
 intro k e j p he hp
 rw [List.getElem?_map, Option.map_eq_some_iff] at he
 obtain ⟨x, _, rfl⟩ := he
 rw [List.getElem?_map, Option.map_eq_some_iff] at hp
 obtain ⟨y, _, rfl⟩ := hp
 exact ⟨y, rfl⟩
theorem c14 (p : Prog) (hb : p.size ≤ 100000000000) : Pure Tryz.prog 14 [ag p.c] (ag p.c) := by
 unfold Prog.size at hb
 have hrl : ∀ (l : List Rule), l.length ≤ 100000000000 → True := fun _ _ => trivial
 refine pure_end tyA_ok Tryz.func14 rfl (by decide) Tryz.ntmps14 rfl (by simp) rfl ?_
 refine gA rfl ?_
 refine go_virtC 2 0 4 rfl rfl ?_
 refine go_virtC 2 1 5 rfl rfl ?_
 refine go_for 0 p.rels.length (Nat.zero_le _) (fun i => ⟨[(1, .ptr 0 0), (2, .ptr 1 0), (3, .ptr 2 0), (4, pI i)], [(0, some (cellsI p.c)), (1, some (.cells [.iv (.v (.slice none 0 0)), .iv (.v (.slice none 0 0))])), (2, some (.cells [.sl 5 0 i 4, .sl 4 0 0 5])), (4, some (rowI 5 ([] : List Rule) Rule.c)), (5, some (rowI 4 (p.rels.take i) Decl.c))], 6⟩) (fun _ => True) [3] trivial
  (zW (zK ⟨⟨_, rfl, .of_eq rfl⟩, Nat.le_of_ble_eq_true rfl, rfl, ⟨_, rfl, .of_eq rfl⟩, Nat.le_of_ble_eq_true rfl, rfl, zS (zS trivial)⟩)) fun i hi _ => ?_
 refine gA rfl (zI (fun h1 => ?_) fun h1 => ?_)
 ·have h1 : i < p.rels.length := by simpa using h1
  have hlt : (p.rels.take i).length = i := by rw [List.length_take]; omega
  have hts := take_step (l := p.rels) h1
  have htl := sum_get (fun d : Decl => d.types.length) p.rels i h1
  refine gM 26 rfl ?_
  refine go_wk (L := []) (t := ⟨[(1, .ptr 0 0), (2, .ptr 1 0), (3, .ptr 2 0), (4, pI i), (5, .ptr 6 0), (6, .sl 8 0 (p.rels.getD i default).types.length 1)], [(0, some (cellsI p.c)), (1, some (.cells [.iv (.v (.slice none 0 0)), .iv (.v (.slice none 0 0))])), (2, some (.cells [.sl 5 0 i 4, .sl 4 0 0 5])), (4, some (rowI 5 ([] : List Rule) Rule.c)), (5, some (rowI 4 (p.rels.take i) Decl.c)), (6, some (cellsI (p.rels.getD i default).c)), (8, some (rowI 1 (p.rels.getD i default).types intC))], 9⟩)
   (zM ⟨.refl _, rfl, .refl _, rfl, .refl _, rfl, .refl _, rfl, .refl _, rfl, .row (by rw [Nat.zero_add]; rfl), rfl, trivial⟩ (zK (zO (zO (zS (zS (zK (hR rfl (src_map _ _) rfl trivial)))))))) ?_
  refine go_frzR 8 (fun k => intC ((p.rels.getD i default).types.getD k default)) rfl (rowI_el rfl) (by simp [AF.okR, PV.inRow]) ⟨inRowL_iv _ _ _ _, (by simp [AO.okR, inRowL, PV.inRow]), (by simp [AO.okR, inRowL, PV.inRow]), rowI_okR _ _ _ _ _ _, rowI_okR _ _ _ _ _ _, inRowL_iv _ _ _ _, rowI_okR _ _ _ _ _ _, trivial⟩ ?_
  refine gA rfl ?_
  exact ⟨h1, trivial, [10], zW (zK (zO (zO (zS (hR rfl (by rw [hts, List.map_append]; simp only [Nat.zero_add]; rfl) rfl trivial)))))⟩
 ·have h1 : p.rels.length ≤ i := by simpa using h1
  have hie : i = p.rels.length := by omega
  subst hie
  rw [List.take_of_length_le (Nat.le_refl _)]
  refine gA rfl ?_
  refine go_for 0 p.rules.length (Nat.zero_le _) (fun i => ⟨[(1, .ptr 0 0), (2, .ptr 1 0), (3, .ptr 2 0), (7, pI i)], [(0, some (cellsI p.c)), (1, some (.cells [.iv (.v (.slice none 0 0)), .iv (.v (.slice none 0 0))])), (2, some (.cells [.sl 5 0 p.rels.length 4, .sl 6 0 i 5])), (5, some (rowI 4 p.rels Decl.c)), (6, some (rowI 5 (p.rules.take i) Rule.c))], 7⟩) (fun _ => True) [4] trivial
   (zW (zK (zO (zO (zS (zS trivial)))))) fun i hi _ => ?_
  refine gA rfl (zI (fun h2 => ?_) fun h2 => ?_)
  ·have h2 : i < p.rules.length := by simpa using h2
   have hlt : (p.rules.take i).length = i := by rw [List.length_take]; omega
   have hts := take_step (l := p.rules) h2
   have htl := sum_get Rule.size p.rules i h2
   have hrs : (p.rules.getD i default).size = (p.rules.getD i default).head.terms.length + Lit.sizes (p.rules.getD i default).body := rfl
   refine gA rfl (zdp (c20 (p.rules.getD i default).head (by omega)) ?_)
   refine gA rfl (zdp (c53 (p.rules.getD i default).body (by omega)) ?_)
   refine gA rfl ?_
   exact ⟨h2, trivial, [8], zW (zK (zO (zO (zS (hR rfl (by rw [hts, List.map_append]; rfl) rfl trivial)))))⟩
  ·have h2 : p.rules.length ≤ i := by simpa using h2
   have hie : i = p.rules.length := by omega
   subst hie
   rw [List.take_of_length_le (Nat.le_refl _)]
   refine gA rfl (end_frz (r0 := .agg [.sl 5 0 p.rels.length 4, .sl 6 0 p.rules.length 5]) (.inr rfl) rfl (FrzS.rowL 5 p.rels Decl.c rfl rfl (by simp [PV.inRow, inRowL]) (FrzS.rowL 6 p.rules Rule.c rfl rfl (by simp [PV.inRow, inRowL, PV.frz, frzL, show Nat.beq 6 5 = false from rfl]) (.done (.of_eq (by simp only [PV.frz, frzL, Nat.zero_add, show Nat.beq 6 5 = false from rfl, show Nat.beq 5 5 = true from rfl, show Nat.beq 6 6 = true from rfl, cond_true, cond_false]; rfl))))))
def putS (w : WS) (s : Str) : WS := ⟨false, w.l ++ s.data.toList, w.bad, w.br⟩
theorem d183 (w : WS) (s : Str) (hb : w.l.length + s.size ≤ 140737488355328) : Det Tryz.prog 183 [.ptr 0 0, pS s] w.O (.tup [pI s.size, .iv (.v .nilIface)]) (putS w s).H 3 := by
 refine det_end tyA_ok Tryz.func183 rfl (by decide) Tryz.ntmps183 rfl (by simp) ?_
 refine gA rfl (zq [0, 1] (d204 w) ?_)
 refine gA rfl ?_
 refine go_sapp tyA_ok rfl rfl rfl rfl rfl rfl rfl rfl rfl rfl rfl rfl rfl rfl rfl rfl hb ?_
 refine gA rfl weA
def mustW (w : WS) (b : Bool) : WS := ⟨w.fr, w.l, w.bad || !b, w.br⟩
theorem mustW_t (w : WS) {b : Bool} (h : (!b) = false) : mustW w b = w := by cases w; simp_all [mustW]
theorem mustW_f (w : WS) {b : Bool} (h : (!b) = true) : mustW w b = ⟨w.fr, w.l, true, w.br⟩ := by cases w; simp_all [mustW]
theorem d146 (w : WS) (b : Bool) : Det Tryz.prog 146 [.ptr 0 0, pB b] w.O (.tup []) (mustW w b).H 3 := by
 refine det_end tyA_ok Tryz.func146 rfl (by decide) Tryz.ntmps146 rfl (by simp) ?_
 refine gA rfl (zI (fun h => ?_) fun h => ?_)
 ·rw [mustW_f w h]
  refine gA rfl weA
 ·rw [mustW_t w h]
  refine gA rfl weA
def putA (w : WS) (ss : List Str) : WS := ss.foldl putS w
def sizeA (ss : List Str) : Nat := (ss.map ByteArray.size).sum
theorem putS_len (w : WS) (s : Str) : (putS w s).l.length = w.l.length + s.size := by simp [putS]
theorem putA_len : ∀ (ss : List Str) (w : WS), (putA w ss).l.length = w.l.length + sizeA ss
 | [], w => by simp [putA, sizeA]
 | s :: r, w => by
  have := putA_len r (putS w s)
  simp only [putA, List.foldl_cons] at this ⊢
  rw [this, putS_len]; simp [sizeA]; omega
theorem sizeA_take : ∀ (ss : List Str) (i : Nat), i < ss.length → sizeA (ss.take i) + (ss.getD i default).size ≤ sizeA ss
 | [], i, h => by simp at h
 | s :: r, 0, _ => by simp [sizeA]
 | s :: r, i + 1, h => by
  have := sizeA_take r i (by simpa using h)
  simp [sizeA] at this ⊢; omega
theorem d147 (w : WS) (ss : List Str) (hl : ss.length ≤ 1000) (hb : w.l.length + sizeA ss ≤ 140737488355328) : Det Tryz.prog 147 [.ptr 0 0, .sl 2 0 ss.length 1] [w.c, .brow w.l 5, rowI 1 ss strC] (.tup []) [(0, some ((putA w ss).cAt 0 3)), (3, some (.brow (putA w ss).l 5))] 4 := by
 refine det_end tyA_ok Tryz.func147 rfl (by decide) Tryz.ntmps147 rfl (by simp) ?_
 refine gA rfl ?_
 refine go_frzR 2 (fun k => strC (ss.getD k default)) rfl (rowI_el rfl) (by simp [AF.okR, PV.inRow, argF]) ⟨(by simp [AO.okR, inRowL, PV.inRow]), trivial, rowI_okR _ _ _ _ _ _, trivial⟩ ?_
 refine go_for 0 ss.length (Nat.zero_le _) (fun i => ⟨[(0, .ptr 0 0), (6, .iv (strs ss)), (7, pI ss.length), (8, pI i)], [(0, some ((putA w (ss.take i)).cAt 0 3)), (3, some (.brow (putA w (ss.take i)).l 5))], 4⟩) (fun _ => True) [1] trivial
  (zM ⟨.refl _, rfl, .imm rfl (fun k _ => by rw [Nat.zero_add]), rfl, .refl _, rfl, .refl _, rfl, trivial⟩ ⟨⟨_, rfl, .of_eq rfl⟩, Nat.le_of_ble_eq_true rfl, rfl, ⟨_, rfl, .of_eq rfl⟩, Nat.le_of_ble_eq_true rfl, trivial, trivial⟩) fun i hi _ => ?_
 refine gA rfl (zI (fun h1 => ?_) fun h1 => ?_)
 ·have h1 : i < ss.length := zN h1
  have hs : putA w (ss.take (i + 1)) = putS (putA w (ss.take i)) (ss.getD i default) := fold_step (g := putS) (b := w) h1
  have hpl := putA_len (ss.take i) w
  have hz := sizeA_take ss i h1
  refine gA rfl (gwA (d183 (putA w (ss.take i)) (ss.getD i default) (by omega)) ?_)
  refine gA rfl ?_
  exact ⟨h1, trivial, [4], zW ⟨⟨_, rfl, .of_eq (by rw [hs]; rfl)⟩, Nat.le_of_ble_eq_true rfl, rfl, ⟨_, rfl, .of_eq (by rw [hs]; rfl)⟩, Nat.le_of_ble_eq_true rfl, trivial, trivial⟩⟩
 ·have h1 : ss.length ≤ i := zG h1
  rw [List.take_of_length_le h1]
  refine gA rfl (end_det [3] (by first | exact .inr rfl | exact .inl rfl) rfl (zW ⟨⟨_, rfl, .of_eq rfl⟩, Nat.le_of_ble_eq_true rfl, rfl, ⟨_, rfl, .of_eq rfl⟩, Nat.le_of_ble_eq_true rfl, trivial, trivial⟩))
end Go.Proofs.YtpnclpbkecjinaaGreatDoorR
namespace Go.Proofs
open Go.Shelf
def Tryz.laysM171_ren : Go.Shelf.Ren := ⟨fun | 171 => 219 | 243 => 234 | 246 => 241 | 283 => 242 | 284 => 243 | 285 => 244 | 286 => 245 | 129 => 179 | 317 => 246 | 318 => 247 | 319 => 248 | 320 => 249 | 337 => 250 | 338 => 251 | n => n, fun | 3 => 3 | 9 => 9 | 2 => 2 | 4 => 4 | 171 => 276 | 0 => 0 | 53 => 232 | 37 => 176 | 5 => 5 | 173 => 278 | 212 => 281 | 51 => 230 | 20 => 20 | 213 => 282 | 46 => 201 | 232 => 283 | 233 => 284 | n => n, fun | 17 => 0 | 18 => 1 | 19 => 2 | n => n⟩
theorem Tryz.laysM171 : Go.Proofs.LaysM.n171 Tryz.prog Tryz.laysM171_ren := {
 mixed := by kernel_rfl
 f129 := Tryz.func179.trans (congrArg some (by kernel_rfl))
 f171 := Tryz.func219.trans (congrArg some (by kernel_rfl))
 f243 := Tryz.func234.trans (congrArg some (by kernel_rfl))
 f246 := Tryz.func241.trans (congrArg some (by kernel_rfl))
 f283 := Tryz.func242.trans (congrArg some (by kernel_rfl))
 f284 := Tryz.func243.trans (congrArg some (by kernel_rfl))
 f285 := Tryz.func244.trans (congrArg some (by kernel_rfl))
 f286 := Tryz.func245.trans (congrArg some (by kernel_rfl))
 f317 := Tryz.func246.trans (congrArg some (by kernel_rfl))
 f318 := Tryz.func247.trans (congrArg some (by kernel_rfl))
 f319 := Tryz.func248.trans (congrArg some (by kernel_rfl))
 f320 := Tryz.func249.trans (congrArg some (by kernel_rfl))
 f337 := Tryz.func250.trans (congrArg some (by kernel_rfl))
 f338 := Tryz.func251.trans (congrArg some (by kernel_rfl))
 t0 := Tryz.underlying0
 a0 := Tryz.isAgg0
 z0 := Tryz.sizeOf0
 v0 := Tryz.zeroValue0
 t2 := Tryz.underlying2
 a2 := Tryz.isAgg2
 z2 := Tryz.sizeOf2
 v2 := Tryz.zeroValue2
 t3 := Tryz.underlying3
 a3 := Tryz.isAgg3
 z3 := Tryz.sizeOf3
 v3 := Tryz.zeroValue3
 t4 := Tryz.underlying4
 a4 := Tryz.isAgg4
 z4 := Tryz.sizeOf4
 v4 := Tryz.zeroValue4
 t5 := Tryz.underlying5
 a5 := Tryz.isAgg5
 z5 := Tryz.sizeOf5
 v5 := Tryz.zeroValue5
 t9 := Tryz.underlying9
 a9 := Tryz.isAgg9
 z9 := Tryz.sizeOf9
 v9 := Tryz.zeroValue9
 t20 := Tryz.underlying20
 a20 := Tryz.isAgg20
 z20 := Tryz.sizeOf20
 v20 := Tryz.zeroValue20
 t37 := Tryz.underlying176
 a37 := Tryz.isAgg176
 z37 := Tryz.sizeOf176
 v37 := Tryz.zeroValue176
 t46 := Tryz.underlying201
 a46 := Tryz.isAgg201
 z46 := Tryz.sizeOf201
 v46 := Tryz.zeroValue201
 t51 := Tryz.underlying230
 a51 := Tryz.isAgg230
 z51 := Tryz.sizeOf230
 v51 := Tryz.zeroValue230
 t53 := Tryz.underlying232
 a53 := Tryz.isAgg232
 z53 := Tryz.sizeOf232
 v53 := Tryz.zeroValue232
 t171 := Tryz.underlying276
 a171 := Tryz.isAgg276
 z171 := Tryz.sizeOf276
 v171 := Tryz.zeroValue276
 t173 := Tryz.underlying278
 a173 := Tryz.isAgg278
 z173 := Tryz.sizeOf278
 v173 := Tryz.zeroValue278
 t212 := Tryz.underlying281
 a212 := Tryz.isAgg281
 z212 := Tryz.sizeOf281
 v212 := Tryz.zeroValue281
 t213 := Tryz.underlying282
 a213 := Tryz.isAgg282
 z213 := Tryz.sizeOf282
 t232 := Tryz.underlying283
 a232 := Tryz.isAgg283
 z232 := Tryz.sizeOf283
 v232 := Tryz.zeroValue283
 t233 := Tryz.underlying284
 a233 := Tryz.isAgg284
 z233 := Tryz.sizeOf284
 v233 := Tryz.zeroValue284
 g17 := by kernel_rfl
 g18 := by kernel_rfl
 g19 := by kernel_rfl
 i0 := by kernel_rfl
 i2 := by kernel_rfl
 i3 := by kernel_rfl
 i4 := by kernel_rfl
 i5 := by kernel_rfl
 i9 := by kernel_rfl
 i20 := by kernel_rfl
 i37 := by kernel_rfl
 i46 := by kernel_rfl
 i51 := by kernel_rfl
 i53 := by kernel_rfl
 i171 := by kernel_rfl
 i173 := by kernel_rfl
 i212 := by kernel_rfl
 i232 := by kernel_rfl
 i233 := by kernel_rfl
 m17 := by kernel_rfl
 m18 := by kernel_rfl
 m19 := by kernel_rfl }
theorem YtpnclpbkecjinaaGreatDoorR.itoaK (n : Int) (h0 : -9223372036854775808 ≤ n) (h1 : n ≤ 9223372036854775807) (w : World) (htab : Lib.TabIs Tryz.prog w "internal/strconv.uint64pow10" .u64 Lib.pow10Tab) :
  Calls Tryz.prog 219 #[.int .i64 n] w fun e w' => e = .returned (.string ⟨(Lib.itoa n).toArray⟩) ∧ ∃ k os, w' = Go.Sort.grow (w.drewN k) os := Any.strconv_Itoa Tryz.laysM171 n h0 h1 w htab
end Go.Proofs
namespace Go.Proofs.YtpnclpbkecjinaaGreatDoorR
open Go Go.Al
set_option maxRecDepth 10000
theorem gPow : Tryz.prog.globalNamed "internal/strconv.uint64pow10" = some 0 := by kernel_rfl
theorem pow_eq : pow10L = Lib.pow10Tab := by decide
theorem tabs {M : Mem} {N : Nm} {U : Nat → Prop} {h : AH} {w : World} (hr : Rel M N U h w) : Lib.TabIs Tryz.prog w "internal/strconv.uint64pow10" .u64 Lib.pow10Tab := by
 obtain ⟨T, fr, h1⟩ := hr.frz 0 _ (M.glob 0 _ rfl)
 show World.var? _ _ _ = _
 simp only [World.var?, gPow, Option.bind_some, h1, pow_eq]
theorem c219 (n : Int) (h0 : -9223372036854775808 ≤ n) (h1 : n ≤ 9223372036854775807) : Pure Tryz.prog 219 [pI n] (pS ⟨(Lib.itoa n).toArray⟩) := by
 refine ⟨callable_of Tryz.func219 rfl (by decide), fun M N w vs hr hlen hv => ?_⟩
 obtain ⟨v, rfl⟩ : ∃ v, vs = [v] := by
  cases vs with
  | nil => cases hlen
  | cons v r => cases r with
   | nil => exact ⟨v, rfl⟩
   | cons a b => simp at hlen
 have hv0 : VR M N (· < 0) (pI n) v := hv 0 _ rfl
 have hvv : v = .int .i64 n := by
  cases hv0 with
  | iv _ _ h => cases h; rfl
 subst hvv
 refine (itoaK n h0 h1 w (tabs hr)).mono ?_
 rintro e w' ⟨rfl, k, os, rfl⟩
 have hk : ∀ b, b < w.heap.size → (Go.Sort.grow (w.drewN k) os).heap[b]? = w.heap[b]? := fun b hb => by
  show (w.heap ++ os)[b]? = _
  rw [Array.getElem?_append_left hb]
 refine ⟨_, M, N, pS ⟨(Lib.itoa n).toArray⟩, [], 0, rfl, ⟨rfl, rfl, rfl⟩, ⟨rfl, rfl, rfl, ?_, fun b hb _ => hk b hb, .refl _, fun b c h1 h2 => (nomatch (h1.symm.trans h2)), .refl _ _, fun _ h => h, fun i o hi => (nomatch hi)⟩, ⟨fun b c hb => ?_, fun i o hi => (nomatch hi), fun i o hi => (nomatch hi), fun i o hi => (nomatch hi), fun i j o p hi => (nomatch hi)⟩, .iv _ _ (.v _)⟩
 ·show w.heap.size ≤ (w.heap ++ os).size
  simp
 ·exact (hr.frz b c hb).mono (hk b (hr.frz b c hb).lt)
end Go.Proofs.YtpnclpbkecjinaaGreatDoorR
namespace Go.Al
section
variable {P : Program} {ty : Ty} {nt : Nat} {s : AS} {Q : AQ} {k : List KI}
theorem go_sbytes (hty : TyOK P ty) {all rest : List Oper} {o : Oper} {x : Operand} {t t' u d : Nat} {b : ByteArray} {et et' eu : TyE} (ho : o.op = .convert t t' x) (hg : o.guard = none) (ht : ty t = some et) (hk : et.k = .prim .string) (ht' : ty t' = some et') (hk' : et'.k = .prim (.slice u)) (hu : ty u = some eu) (hku : eu.k = .prim (.int .u8))
  (hx : ev s.f x = .iv (.v (.string b))) (hd : o.dst = some d) (hlt : Nat.blt d nt = true) (hb : b.size ≤ 1000000)
  (h : GO P nt (.ops all rest :: k) Q ⟨(d, .iv (.imm 1 b.data.toList.length fun k => byteC (b.data.toList.getD k default))) :: s.f, s.h, s.nx⟩) : GO P nt (.ops all (o :: rest) :: k) Q s := by
 have hs : P.underlying t = some .string := by have := (hty t _ ht).2.1; rw [hk] at this; exact this.1
 have hsl : P.underlying t' = some (.slice u) := by have := (hty t' _ ht').2.1; rw [hk'] at this; exact this.1
 have hu8 : P.underlying u = some (.int .u8) := by have := (hty u _ hu).2.1; rw [hku] at this; exact this.1
 refine go_op (R := fun t => t = ⟨(d, .iv (.imm 1 b.data.toList.length fun k => byteC (b.data.toList.getD k default))) :: s.f, s.h, s.nx⟩) hg (OT.value (s1 := s) (p := .iv (.imm 1 b.data.toList.length fun k => byteC (b.data.toList.getD k default))) (by cases s; simp only [putDst, hd, hlt, cond_true, forceP_eq]) fun M N a w hf => ?_) fun t ht => by subst ht; exact h
 have hvx := ev_ok hf.2.1 x
 rw [hx] at hvx
 have hyv : a.eval x = .string b := by
  generalize a.eval x = v at hvx
  cases hvx with
  | iv _ _ h => cases h; rfl
 have hrun := Go.run_bytes_of_string (P := P) w t t' u b hs hsl hu8
 generalize hC : bytesRow b (grownCap w b.size 0 u) = C at hrun
 have hMn : M w.heap.size = none := by
  cases hm : M w.heap.size with
  | none => rfl
  | some c => exact absurd (hf.1.frz _ _ hm).lt (Nat.lt_irrefl _)
 have hold : ∀ c, c < w.heap.size → (w.drew.alloc (.cells C u (C.size, C.size + 1))).heap[c]? = w.heap[c]? := fun c hc => by
  show (w.heap.push _)[c]? = _
  rw [Array.getElem?_push, if_neg (by omega)]
 have hnew : (w.drew.alloc (.cells C u (C.size, C.size + 1))).heap[w.heap.size]? = some (.cells C u (C.size, C.size + 1)) := by
  show (w.heap.push _)[w.heap.size]? = _
  simp
 have hCb : ∀ j, j < b.data.toList.length → C[j]? = some (.int .u8 ((b.data.toList.getD j default).toNat : Int)) := by
  intro j hj
  have hj' : j < b.data.size := by simpa using hj
  rw [← hC]
  simp only [bytesRow]
  rw [Array.getElem?_append_left (by simpa using hj')]
  simp [List.getD_eq_getElem?_getD]
  exact ⟨b.data[j], Array.getElem?_eq_getElem hj', by rw [Array.getElem?_eq_getElem hj']; rfl⟩
 have hcapge := grownCap_ge w b.size 0 u
 refine ⟨.slice (some ⟨w.heap.size, 0, none⟩) b.size (grownCap w b.size 0 u), w.drew.alloc (.cells C u (C.size, C.size + 1)), M.set w.heap.size (.cells C) hMn, N, ?_, ?_, ?_, ?_⟩
 ·simp only [execOp, ho, hyv]
  rw [Sem.run_bind, hrun]; rfl
 ·have q1 : M.le (M.set w.heap.size (.cells C) hMn) := fun c e hc => by
   simp only [Mem.set]
   rw [if_neg fun e2 => by rw [e2, hMn] at hc; cases hc]
   exact hc
  have q2 : ∀ c e, M c = none → (M.set w.heap.size (.cells C) hMn) c = some e → w.heap.size ≤ c ∨ ∃ i o, s.h.get i = some o ∧ o.real = true ∧ N.blk i = c := fun c e h1 h2 => by
   simp only [Mem.set] at h2
   by_cases he : c = w.heap.size
   ·exact .inl (by omega)
   ·rw [if_neg he, h1] at h2
    cases h2
  exact ⟨rfl, rfl, rfl, (by show w.heap.size ≤ (w.heap.push _).size; simp), fun c hc _ => hold c hc, q1, q2, .refl _ _, fun _ h => h, fun i o hi hre => .inr ⟨i, o, hi, hre, rfl⟩⟩
 ·have hle : M.le (M.set w.heap.size (.cells C) hMn) := fun c e hc => by
   simp only [Mem.set]
   rw [if_neg fun e2 => by rw [e2, hMn] at hc; cases hc]; exact hc
  refine ⟨⟨fun c e hc => ?_, hf.1.used, fun i o hi hre => ?_, fun i o hi => ?_, hf.1.inj⟩, fun i => (hf.2.1 i).mono hle (.refl _ _) fun _ h => h, hf.2.2⟩
  ·simp only [Mem.set] at hc
   by_cases he : c = w.heap.size
   ·rw [if_pos he] at hc; cases hc
    exact ⟨u, (C.size, C.size + 1), by rw [he]; exact hnew⟩
   ·rw [if_neg he] at hc
    exact (hf.1.frz c e hc).mono (hold c (hf.1.frz c e hc).lt)
  ·simp only [Mem.set]
   have := hf.1.lt hi hre
   rw [if_neg (by omega)]; exact hf.1.nfrz i o hi hre
  ·cases hre : o.real with
   | true => exact (hf.1.obj i o hi).mono hle (.refl _ _) (fun _ h => h) (hf.1.used i o hi) (hold _ (hf.1.lt hi hre))
   | false =>
    cases o with
    | row sz es => cases es with
     | nil => exact .inl rfl
     | cons => cases hre
    | brow l T => cases l with
     | nil => exact .inl rfl
     | cons => cases hre
    | _ => cases hre
 ·have hbl : b.data.toList.length = b.size := by simp
  rw [← hbl] at hcapge ⊢
  by_cases h0 : b.data.toList.length = 0
  ·rw [h0]; exact .iv _ _ (.imm0 _ _ _ _)
  ·refine .iv _ _ (.imm _ _ _ _ _ _ (by omega) (grownCap_le_maxLen w _ _ _ (by simp only [maxLen]; omega)) (fun _ _ => rfl) (fun k j hk hj => ?_) (fun k j p hk hp => ?_))
   ·have hj0 : j = 0 := by omega
    subst hj0
    have := hCb k hk
    simp only [Mem.cell, Mem.set, if_true, Nat.zero_add, Nat.mul_one, Nat.add_zero, this, Option.isSome_some]
   ·have hj0 : j = 0 := by
     have := (List.getElem?_eq_some_iff.1 hp).1
     simp [byteC] at this; exact this
    subst hj0
    cases hp
    have := hCb k hk
    simp only [Mem.cell, Mem.set, if_true, Nat.zero_add, Nat.mul_one, Nat.add_zero, this, Option.getD_some]
    exact .v _
theorem go_bstr (hty : TyOK P ty) (l : List UInt8) {all rest : List Oper} {o : Oper} {x : Operand} {t t' u d i n : Nat} {es : List (List PV)} {et et' eu : TyE} (ho : o.op = .convert t t' x) (hg : o.guard = none) (ht : ty t = some et) (hk : et.k = .prim (.slice u)) (ht' : ty t' = some et') (hk' : et'.k = .prim .string) (hu : ty u = some eu) (hku : eu.k = .prim (.int .u8))
  (hx : ev s.f x = .sl i 0 n 1) (hi : s.h.get i = some (.row 1 es)) (hd : o.dst = some d) (hlt : Nat.blt d nt = true) (hes : es = l.map fun x => (byteC x).map .iv) (hn : n = l.length)
  (h : GO P nt (.ops all rest :: k) Q ⟨(d, .iv (.v (.string ⟨l.toArray⟩))) :: s.f, s.h, s.nx⟩) : GO P nt (.ops all (o :: rest) :: k) Q s := by
 have hs : P.underlying t' = some .string := by have := (hty t' _ ht').2.1; rw [hk'] at this; exact this.1
 have hsl : P.underlying t = some (.slice u) := by have := (hty t _ ht).2.1; rw [hk] at this; exact this.1
 have hu8 : P.underlying u = some (.int .u8) := by have := (hty u _ hu).2.1; rw [hku] at this; exact this.1
 subst hn
 subst hes
 refine go_op (R := fun t => t = ⟨(d, .iv (.v (.string ⟨l.toArray⟩))) :: s.f, s.h, s.nx⟩) hg (OT.value (s1 := s) (p := .iv (.v (.string ⟨l.toArray⟩))) (by cases s; simp only [putDst, hd, hlt, cond_true, forceP_eq]) fun M N a w hf => ?_) fun t ht => by subst ht; exact h
 have hvx := ev_ok hf.2.1 x
 rw [hx] at hvx
 have hrun : (convert t t' (a.eval x)).run P w = .ok (.string ⟨l.toArray⟩) w := by
  generalize a.eval x = v at hvx
  cases hor : l with
  | nil =>
   rw [hor] at hvx
   generalize hq : PV.sl i 0 ([] : List UInt8).length 1 = q at hvx
   cases hvx with
   | sl _ _ _ _ _ _ h0 => cases hq; simp at h0
   | sl0 _ _ _ =>
    have := run_convert_bytes_nil (P := P) w t u hsl hu8 0 0 t' hs
    exact this
   | _ => cases hq
  | cons x0 r0 =>
   rw [← hor]
   have hpos : 0 < l.length := by rw [hor]; simp
   generalize hln : l.length = n at hvx hpos
   generalize hq : PV.sl i 0 n 1 = q at hvx
   cases hvx with
   | sl _ _ _ _ cap hU h0 hl hc he =>
    cases hq
    rcases hf.1.obj i _ hi with hnil | ⟨_, c, T, q1, q2, q3, q4, q5⟩
    ·rw [hor] at hnil; cases hnil
    rw [Nat.zero_mul, ← hln]
    refine run_convert_bytes_back (P := P) w t t' u ⟨N.blk i, 0, none⟩ cap l hsl hu8 hs fun j hj => ?_
    rw [add_addr, Nat.zero_add]
    have hjc : j < c.size := by rw [List.length_map] at q3; omega
    have := q5 j [.iv (.v (.int .u8 (l[j].toNat : Int)))] 0 _ (by rw [List.getElem?_map, List.getElem?_eq_getElem hj]; rfl) rfl
    rw [Nat.mul_one, Nat.add_zero, Array.getD_eq_getD_getElem?, Array.getElem?_eq_getElem hjc, Option.getD_some] at this
    simp only [World.cell?, q1]
    generalize hcj : c[j] = y at this
    cases this with
    | iv _ _ h => cases h; simp [hjc, hcj]
   | sl0 _ _ _ => cases hq; omega
   | _ => cases hq
 exact ⟨_, w, M, N, by simp only [execOp, ho]; exact ok_value hrun, .refl _ _ _ _ _, hf, .iv _ _ (.v _)⟩
theorem go_rstr (hty : TyOK P ty) {all rest : List Oper} {o : Oper} {x : Operand} {t t' d : Nat} {q kk : IntKind} {n : Int} {et et' : TyE} (ho : o.op = .convert t t' x) (hg : o.guard = none) (ht : ty t = some et) (hk : et.k = .prim (.int q)) (ht' : ty t' = some et') (hk' : et'.k = .prim .string)
  (hx : ev s.f x = .iv (.v (.int kk n))) (hd : o.dst = some d) (hlt : Nat.blt d nt = true)
  (h : GO P nt (.ops all rest :: k) Q ⟨(d, .iv (.v (.string (Utf8.encode n)))) :: s.f, s.h, s.nx⟩) : GO P nt (.ops all (o :: rest) :: k) Q s := by
 have hs : P.underlying t' = some .string := by have := (hty t' _ ht').2.1; rw [hk'] at this; exact this.1
 have hi : P.underlying t = some (.int q) := by have := (hty t _ ht).2.1; rw [hk] at this; exact this.1
 refine go_op (R := fun t => t = ⟨(d, .iv (.v (.string (Utf8.encode n)))) :: s.f, s.h, s.nx⟩) hg (OT.value (s1 := s) (p := .iv (.v (.string (Utf8.encode n)))) (by cases s; simp only [putDst, hd, hlt, cond_true, forceP_eq]) fun M N a w hf => ?_) fun t ht => by subst ht; exact h
 have hvx := ev_ok hf.2.1 x
 rw [hx] at hvx
 have hyv : a.eval x = .int kk n := by
  generalize a.eval x = v at hvx
  cases hvx with
  | iv _ _ h => cases h; rfl
 refine ⟨_, w, M, N, ?_, .refl _ _ _ _ _, hf, .iv _ _ (.v _)⟩
 simp only [execOp, ho, hyv]
 refine ok_value ?_
 simp [convert, run_underlying hi, run_underlying hs, Conv.intToString]
end
end Go.Al
namespace Go.Proofs.YtpnclpbkecjinaaGreatDoorR
open Go Go.Al
set_option maxRecDepth 10000
def hexL : Str := ⟨#[48, 49, 50, 51, 52, 53, 54, 55, 56, 57, 65, 66, 67, 68, 69, 70]⟩
def hiN (c : UInt8) : Int := (c.toNat : Int).fdiv (2 ^ min (Int.toNat 4) IntKind.u8.bits)
def loN (c : UInt8) : Int := IntKind.u8.wrap ((BitVec.ofInt IntKind.u8.bits (c.toNat : Int) &&& BitVec.ofInt IntKind.u8.bits 15).toNat : Int)
theorem hiN_lt (c : UInt8) : 0 ≤ hiN c ∧ hiN c < 16 := by
 have h : c.toNat < 256 := c.toNat_lt
 have e : hiN c = (c.toNat : Int) / 16 := by
  unfold hiN
  have : (2 : Int) ^ min (Int.toNat 4) IntKind.u8.bits = 16 := by decide
  rw [this]
  exact Int.fdiv_eq_ediv_of_nonneg _ (by decide)
 rw [e]; omega
theorem loN_lt : ∀ c : UInt8, 0 ≤ loN c ∧ loN c < 16 := by
 intro c
 have h : ∀ n : Fin 256, 0 ≤ loN (UInt8.ofNat n.val) ∧ loN (UInt8.ofNat n.val) < 16 := by decide
 have := h ⟨c.toNat, c.toNat_lt⟩
 simpa using this
def hexD (n : Int) : UInt8 := hexL.data.toList.getD n.toNat 0
def qB (c : UInt8) : List UInt8 := if c.toNat = 34 ∨ c.toNat = 92 then [92, c] else if c.toNat = 10 then [92, 110] else if c.toNat < 32 ∨ 126 < c.toNat then [92, 120, hexD (hiN c), hexD (loN c)] else [c]
theorem qB_len (c : UInt8) : (qB c).length ≤ 4 := by
 unfold qB
 repeat' split
 all_goals simp
def outQ (s : Str) (i : Nat) : List UInt8 := 34 :: (s.data.toList.take i).flatMap qB
def quoteS (s : Str) : Str := ⟨(34 :: s.data.toList.flatMap qB ++ [34]).toArray⟩
theorem outQ_len (s : Str) : ∀ i, (outQ s i).length ≤ 1 + 4 * i
 | 0 => by simp [outQ]
 | i + 1 => by
  have h := outQ_len s i
  rcases Nat.lt_or_ge i s.data.toList.length with hi | hi
  ·have := qB_len (s.data.toList.getD i default)
   simp only [outQ, List.length_cons] at h ⊢
   rw [flatMap_step hi, List.length_append]
   omega
  ·simp only [outQ, List.take_of_length_le hi] at h
   simp only [outQ, List.take_of_length_le (by omega : s.data.toList.length ≤ i + 1)]
   omega
theorem outQ_succ {s : Str} {i : Nat} (h : i < s.data.toList.length) : outQ s (i + 1) = outQ s i ++ qB (s.data.toList.getD i default) := by
 simp only [outQ, flatMap_step h, List.cons_append]
theorem c220 (s : Str) (hs : s.size ≤ 1000) : Pure Tryz.prog 220 [pS s] (pS (quoteS s)) := by
 have hl : s.data.toList.length = s.size := by simp
 refine pure_end tyA_ok Tryz.func220 rfl (by decide) Tryz.ntmps220 rfl (by simp) rfl ?_
 refine gA rfl ?_
 refine go_sbytes tyA_ok rfl rfl rfl rfl rfl rfl rfl rfl rfl rfl rfl (by omega) ?_
 refine gA rfl ?_
 refine go_for 0 s.data.toList.length (Nat.zero_le _) (fun i => ⟨[(3, .sl 1 0 (outQ s i).length 1), (8, .iv (.imm 1 s.data.toList.length fun k => byteC (s.data.toList.getD k default))), (9, pI s.data.toList.length), (10, pI i)], [(1, some (rowI 1 (outQ s i) byteC))], 2⟩) (fun _ => True) [0] trivial
  (zW (zS trivial)) fun i hi _ => ?_
 have hq := outQ_len s i
 refine gA rfl (zI (fun h1 => ?_) fun h1 => ?_)
 rotate_left
 ·have h1 : s.data.toList.length ≤ i := zG h1
  refine gA rfl ?_
  refine go_bstr tyA_ok (outQ s i ++ [34]) rfl rfl rfl rfl rfl rfl rfl rfl rfl rfl rfl rfl (by rw [List.map_append]; rfl) (by rw [List.length_append]; rfl) ?_
  refine gA rfl (zL (.of_eq ?_))
  simp only [outQ, quoteS, List.take_of_length_le h1]
  rfl
 have h1 : i < s.data.toList.length := zN h1
 have hsu := outQ_succ h1
 have hgc : s.data.toList.getD (i : Int).toNat default = s.data.toList.getD i default := rfl
 generalize hc : s.data.toList.getD i default = c at hsu hgc
 refine gA rfl (zI (fun h2 => ?_) fun h2 => ?_)
 ·have h2 : c.toNat = 34 := by have := zT h2; rw [hgc] at this; omega
  rw [qB, if_pos (.inl h2)] at hsu
  refine gA rfl ?_
  exact ⟨h1, trivial, [3], zM ⟨.row (by rw [hsu, List.length_append]; rfl), rfl, .refl _, rfl, .refl _, rfl, .refl _, rfl, trivial⟩ (hR rfl (by rw [hsu, List.map_append, ← hc]; rfl) rfl trivial)⟩
 have h2 : ¬ c.toNat = 34 := by have := zF h2; rw [hgc] at this; omega
 refine gA rfl (zI (fun h3 => ?_) fun h3 => ?_)
 ·have h3 : c.toNat = 92 := by have := zT h3; rw [hgc] at this; omega
  rw [qB, if_pos (.inr h3)] at hsu
  refine gA rfl ?_
  exact ⟨h1, trivial, [3], zM ⟨.row (by rw [hsu, List.length_append]; rfl), rfl, .refl _, rfl, .refl _, rfl, .refl _, rfl, trivial⟩ (hR rfl (by rw [hsu, List.map_append, ← hc]; rfl) rfl trivial)⟩
 have h3 : ¬ c.toNat = 92 := by have := zF h3; rw [hgc] at this; omega
 rw [qB, if_neg (by omega)] at hsu
 refine gA rfl (zI (fun h4 => ?_) fun h4 => ?_)
 ·have h4 : c.toNat = 10 := by have := zT h4; rw [hgc] at this; omega
  rw [if_pos h4] at hsu
  refine gA rfl ?_
  exact ⟨h1, trivial, [3], zM ⟨.row (by rw [hsu, List.length_append]; rfl), rfl, .refl _, rfl, .refl _, rfl, .refl _, rfl, trivial⟩ (hR rfl (by rw [hsu, List.map_append]; rfl) rfl trivial)⟩
 have h4 : ¬ c.toNat = 10 := by have := zF h4; rw [hgc] at this; omega
 rw [if_neg h4] at hsu
 have hhi := hiN_lt c
 have hlo := loN_lt c
 rw [← hc] at hhi hlo
 simp only [hiN, loN] at hhi hlo
 refine gA rfl (zI (fun h5 => ?_) fun h5 => ?_)
 ·have h5 : c.toNat < 32 := by have := zT h5; rw [hgc] at this; omega
  rw [if_pos (.inl h5)] at hsu
  refine goR rfl (by (repeat' (first | exact trivial | exact rfl | exact PVle.refl _ | exact hhi | exact hlo | apply And.intro)) <;> first | omega | exact hhi.1 | exact hhi.2 | exact hlo.1 | exact hlo.2 | simp) ?_
  exact ⟨h1, trivial, [3], zM ⟨.row (by rw [hsu, List.length_append]; rfl), rfl, .refl _, rfl, .refl _, rfl, .refl _, rfl, trivial⟩ (hR rfl (by rw [hsu, List.map_append, ← hc]; rfl) rfl trivial)⟩
 have h5 : ¬ c.toNat < 32 := by have := zF h5; rw [hgc] at this; omega
 refine gA rfl (zI (fun h6 => ?_) fun h6 => ?_)
 ·have h6 : 126 < c.toNat := by have := zT h6; rw [hgc] at this; omega
  rw [if_pos (.inr h6)] at hsu
  refine goR rfl (by (repeat' (first | exact trivial | exact rfl | exact PVle.refl _ | exact hhi | exact hlo | apply And.intro)) <;> first | omega | exact hhi.1 | exact hhi.2 | exact hlo.1 | exact hlo.2 | simp) ?_
  exact ⟨h1, trivial, [3], zM ⟨.row (by rw [hsu, List.length_append]; rfl), rfl, .refl _, rfl, .refl _, rfl, .refl _, rfl, trivial⟩ (hR rfl (by rw [hsu, List.map_append, ← hc]; rfl) rfl trivial)⟩
 have h6 : ¬ 126 < c.toNat := by have := zF h6; rw [hgc] at this; omega
 rw [if_neg (by omega)] at hsu
 refine gA rfl ?_
 exact ⟨h1, trivial, [3], zM ⟨.row (by rw [hsu, List.length_append]; rfl), rfl, .refl _, rfl, .refl _, rfl, .refl _, rfl, trivial⟩ (hR rfl (by rw [hsu, List.map_append, ← hc]; rfl) rfl trivial)⟩
def textI (v : Val) : Str := if v.kind = 1 then ⟨(Lib.itoa v.num).toArray⟩ else if nameB v.sym then v.sym else quoteS v.sym
theorem vCheck_num {v : Val} (h : vCheck v = 0) (h1 : v.kind = 1) : -2147483647 ≤ v.num ∧ v.num ≤ 2147483647 := by
 unfold vCheck at h
 rw [if_pos h1] at h
 split at h
 ·rename_i h2; exact h2.2
 ·cases h
theorem vCheck_sym {v : Val} (h : vCheck v = 0) (h1 : ¬ v.kind = 1) : v.sym.size ≤ 64 := by
 unfold vCheck at h
 rw [if_neg h1] at h
 split at h
 ·split at h
  ·rename_i h2; exact h2.2
  ·cases h
 ·cases h
theorem c205 (v : Val) (hv : vCheck v = 0) : Pure Tryz.prog 205 [ag v.c] (pS (textI v)) := by
 refine pure_end tyA_ok Tryz.func205 rfl (by decide) Tryz.ntmps205 rfl (by simp) rfl ?_
 refine gA rfl (zI (fun h1 => ?_) fun h1 => ?_)
 ·have h1 : v.kind = 1 := by simpa using h1
  have := vCheck_num hv h1
  refine gA rfl (zp (c219 v.num (by omega) (by omega)) ?_)
  refine gA rfl (zL (.of_eq ?_))
  rw [textI, if_pos h1]; rfl
 have h1 : ¬ v.kind = 1 := by simpa using h1
 have hs := vCheck_sym hv h1
 refine gA rfl (zp (c97 v.sym) ?_)
 refine gA rfl (zI (fun h2 => ?_) fun h2 => ?_)
 ·have h2 : nameB v.sym = true := h2
  refine gA rfl (zL (.of_eq ?_))
  rw [textI, if_neg h1, if_pos h2]; rfl
 ·have h2 : nameB v.sym = false := h2
  refine gA rfl (zp (c220 v.sym (by omega)) ?_)
  refine gA rfl (zL (.of_eq ?_))
  rw [textI, if_neg h1, if_neg (by rw [h2]; simp)]; rfl
def textV (v : Val) : Str := if vCheck v = 0 then textI v else ⟨#[]⟩
theorem c184 (v : Val) : Pure Tryz.prog 184 [ag v.c] (.tup [pS (textV v), pI (vCheck v)]) := by
 refine pure_end tyA_ok Tryz.func184 rfl (by decide) Tryz.ntmps184 rfl (by simp) rfl ?_
 refine gA rfl (zp (c143 v) ?_)
 refine gA rfl (zI (fun h1 => ?_) fun h1 => ?_)
 ·have h1 : ¬ vCheck v = 0 := by simpa using h1
  refine gA rfl (zL (.of_eq ?_))
  rw [textV, if_neg h1]; rfl
 ·have h1 : vCheck v = 0 := by simpa using h1
  refine gA rfl (zp (c205 v h1) ?_)
  refine gA rfl (zL (.of_eq ?_))
  rw [textV, if_pos h1, h1]; rfl
def valueW (w : WS) (v : Val) : WS := putA (mustW w (decide (vCheck v = 0))) [textV v]
theorem d149 (w : WS) (v : Val) (hb : w.l.length ≤ 1000000000000) (ht : (textV v).size ≤ 1000) : Det Tryz.prog 149 [.ptr 0 0, ag v.c] w.O (.tup []) (valueW w v).H 3 := by
 refine det_end tyA_ok Tryz.func149 rfl (by decide) Tryz.ntmps149 rfl (by simp) ?_
 refine gA rfl (zp (c184 v) ?_)
 refine gA rfl (go_w (d146 ⟨_, _, _, _⟩ (decide (vCheck v = 0))) rfl rfl rfl rfl rfl rfl rfl rfl rfl rfl rfl rfl ?_)
 refine gA rfl (go_wp (d147 ⟨_, _, _, _⟩ [textV v] (by simp) (by simp [sizeA]; omega)) rfl rfl rfl rfl rfl rfl rfl rfl rfl rfl rfl rfl ?_)
 refine gA rfl weA
def strengthI (op : Int) : Int := if op = 1 ∨ op = 2 then 1 else if op = 3 ∨ op = 4 ∨ op = 5 then 2 else if op = 6 then 3 else 0
theorem c212 (op : Int) : Pure Tryz.prog 212 [pI op] (pI (strengthI op)) := by
 refine pure_end tyA_ok Tryz.func212 rfl (by decide) Tryz.ntmps212 rfl (by simp) rfl ?_
 repeat' (first | (refine gA rfl (zI (fun _ => ?_) (fun _ => ?_))) | (refine gA rfl (zL (.of_eq ?_))))
 all_goals (refine (pIE ?_ : pI _ = pI _); simp only [decide_eq_true_eq, decide_eq_false_iff_not] at *; simp_all [strengthI])
def bindsI (e : Expr) : Int := if e.kind = 4 then strengthI e.op else 4
theorem c226 (e : Expr) : Pure Tryz.prog 226 [ag e.c] (pI (bindsI e)) := by
 refine pure_end tyA_ok Tryz.func226 rfl (by decide) Tryz.ntmps226 rfl (by simp) rfl ?_
 repeat' (first | (refine gA rfl (zI (fun _ => ?_) (fun _ => ?_))) | (refine gA rfl (zp (c212 e.op) ?_)) | (refine gA rfl (zL (.of_eq ?_))))
 all_goals (refine (pIE ?_ : pI _ = pI _); simp_all [bindsI])
def zValB (v : Val) : Bool := decide (v.kind = 0) && (decide (v.num = 0) && (decide (v.sym = ByteArray.empty) && true))
def noExprB (e : Expr) : Bool := decide (e.kind = 0) && (decide (e.var = ⟨#[]⟩) && (zValB e.val && (decide (e.op = 0) && decide ((e.args.length : Int) = 0))))
theorem c211 (e : Expr) : Pure Tryz.prog 211 [ag e.c] (pB (noExprB e)) := by
 refine pure_end tyA_ok Tryz.func211 rfl (by decide) Tryz.ntmps211 rfl (by simp) rfl ?_
 repeat' (first | (refine gA rfl (zI (fun _ => ?_) (fun _ => ?_))) | (refine gA rfl (zL (.of_eq ?_))))
 all_goals (refine (pBE ?_ : pB _ = pB _))
 all_goals (simp only [noExprB, zValB, *]; rfl)
def lacksB (l : Lit) : Bool :=
 (decide (l.kind = 1) || decide (l.kind = 2) || !(!decide (l.atom.rel = ⟨#[]⟩) || decide ((l.atom.terms.length : Int) > 0))) &&
 ((!(!decide (l.kind = 3)) || !(!decide (l.op = 0) || (!noExprB l.left || !noExprB l.right))) &&
 (decide (l.kind = 4) || (decide (l.afunc = 0) && (decide (l.avar = ⟨#[]⟩) && (noExprB l.aof && decide ((l.abody.length : Int) = 0))))))
set_option maxHeartbeats 4000000 in
theorem c188 (l : Lit) : Pure Tryz.prog 188 [ag l.c] (pB (lacksB l)) := by
 refine pure_end tyA_ok Tryz.func188 rfl (by decide) Tryz.ntmps188 rfl (by simp) rfl ?_
 repeat' (first | (refine gA rfl (zI (fun _ => ?_) (fun _ => ?_))) | (refine gA rfl (zp (c211 l.left) ?_)) | (refine gA rfl (zp (c211 l.right) ?_)) | (refine gA rfl (zp (c211 l.aof) ?_)) | (refine gA rfl (zL (.of_eq ?_))))
 all_goals (refine (pBE ?_ : pB _ = pB _))
 all_goals (try simp only [Bool.not_true, Bool.not_false] at *)
 all_goals (simp_all [lacksB])
def signS (op : Int) : Str := if op = 1 then ⟨#[43]⟩ else if op = 2 then ⟨#[45]⟩ else if op = 3 then ⟨#[42]⟩ else if op = 4 then ⟨#[47]⟩ else ⟨#[109, 111, 100]⟩
def sgL : Str := ⟨#[43, 45, 42, 47]⟩
theorem c227 (op : Int) : Pure Tryz.prog 227 [pI op] (pS (signS op)) := by
 refine pure_end tyA_ok Tryz.func227 rfl (by decide) Tryz.ntmps227 rfl (by simp) rfl ?_
 refine gA rfl ?_
 refine go_srange tyA_ok rfl rfl rfl rfl rfl rfl rfl ?_
 refine gA rfl ?_
 refine go_for 0 4 (by decide) (fun i => ⟨[(0, pI op), (5, .ptr 0 0)], [(0, some (.siter sgL i))], 1⟩) (fun i => ∀ k : Nat, k < i → ¬ (k : Int) + 1 = op) [] (by simp)
  (zW ⟨⟨_, rfl, .of_eq rfl⟩, Nat.le_of_ble_eq_true rfl, trivial, trivial⟩) fun i hi hJ => ?_
 have hcs : i = 0 ∨ i = 1 ∨ i = 2 ∨ i = 3 ∨ i = 4 := by omega
 rcases hcs with rfl | rfl | rfl | rfl | rfl
 ·refine gA rfl ?_
  refine go_snext rfl rfl rfl rfl rfl rfl (fun h => absurd h (by decide)) (fun _ => ?_)
  refine gA rfl (zI (fun h => ?_) fun h => ?_)
  ·have h : op = 1 := by have := zT h; omega
   refine gA rfl ?_
   refine go_rstr tyA_ok rfl rfl rfl rfl rfl rfl rfl rfl rfl ?_
   refine gA rfl (zL (.of_eq ?_))
   refine (congrArg pS ?_ : pS _ = pS _)
   subst h
   decide
  ·have h : ¬ op = 1 := by have := zF h; omega
   refine gA rfl ?_
   exact ⟨by decide, fun k hk => (by rcases (by omega : k < 0 ∨ k = 0) with h' | rfl; exact hJ k h'; omega), [], zW ⟨⟨_, rfl, .of_eq rfl⟩, Nat.le_of_ble_eq_true rfl, trivial, trivial⟩⟩
 ·refine gA rfl ?_
  refine go_snext rfl rfl rfl rfl rfl rfl (fun h => absurd h (by decide)) (fun _ => ?_)
  refine gA rfl (zI (fun h => ?_) fun h => ?_)
  ·have h : op = 2 := by have := zT h; omega
   refine gA rfl ?_
   refine go_rstr tyA_ok rfl rfl rfl rfl rfl rfl rfl rfl rfl ?_
   refine gA rfl (zL (.of_eq ?_))
   refine (congrArg pS ?_ : pS _ = pS _)
   subst h
   decide
  ·have h : ¬ op = 2 := by have := zF h; omega
   refine gA rfl ?_
   exact ⟨by decide, fun k hk => (by rcases (by omega : k < 1 ∨ k = 1) with h' | rfl; exact hJ k h'; omega), [], zW ⟨⟨_, rfl, .of_eq rfl⟩, Nat.le_of_ble_eq_true rfl, trivial, trivial⟩⟩
 ·refine gA rfl ?_
  refine go_snext rfl rfl rfl rfl rfl rfl (fun h => absurd h (by decide)) (fun _ => ?_)
  refine gA rfl (zI (fun h => ?_) fun h => ?_)
  ·have h : op = 3 := by have := zT h; omega
   refine gA rfl ?_
   refine go_rstr tyA_ok rfl rfl rfl rfl rfl rfl rfl rfl rfl ?_
   refine gA rfl (zL (.of_eq ?_))
   refine (congrArg pS ?_ : pS _ = pS _)
   subst h
   decide
  ·have h : ¬ op = 3 := by have := zF h; omega
   refine gA rfl ?_
   exact ⟨by decide, fun k hk => (by rcases (by omega : k < 2 ∨ k = 2) with h' | rfl; exact hJ k h'; omega), [], zW ⟨⟨_, rfl, .of_eq rfl⟩, Nat.le_of_ble_eq_true rfl, trivial, trivial⟩⟩
 ·refine gA rfl ?_
  refine go_snext rfl rfl rfl rfl rfl rfl (fun h => absurd h (by decide)) (fun _ => ?_)
  refine gA rfl (zI (fun h => ?_) fun h => ?_)
  ·have h : op = 4 := by have := zT h; omega
   refine gA rfl ?_
   refine go_rstr tyA_ok rfl rfl rfl rfl rfl rfl rfl rfl rfl ?_
   refine gA rfl (zL (.of_eq ?_))
   refine (congrArg pS ?_ : pS _ = pS _)
   subst h
   decide
  ·have h : ¬ op = 4 := by have := zF h; omega
   refine gA rfl ?_
   exact ⟨by decide, fun k hk => (by rcases (by omega : k < 3 ∨ k = 3) with h' | rfl; exact hJ k h'; omega), [], zW ⟨⟨_, rfl, .of_eq rfl⟩, Nat.le_of_ble_eq_true rfl, trivial, trivial⟩⟩
 ·refine gA rfl ?_
  refine go_snext rfl rfl rfl rfl rfl rfl (fun _ => ?_) (fun h => absurd h (by decide))
  refine gA rfl (zL (.of_eq ?_))
  have h1 := hJ 0 (by decide)
  have h2 := hJ 1 (by decide)
  have h3 := hJ 2 (by decide)
  have h4 := hJ 3 (by decide)
  rw [signS, if_neg (by omega), if_neg (by omega), if_neg (by omega), if_neg (by omega)]; rfl
theorem quoteS_len (s : Str) : (quoteS s).size ≤ 2 + 4 * s.size := by
 have h := outQ_len s s.data.toList.length
 simp only [outQ, List.take_length, List.length_cons] at h
 have e : (quoteS s).size = (34 :: s.data.toList.flatMap qB ++ [34]).length := by simp [quoteS, ByteArray.size]
 have : s.data.toList.length = s.size := by simp
 rw [e, List.length_append, List.length_cons, List.length_singleton]; omega
theorem textV_len (v : Val) : (textV v).size ≤ 300 := by
 unfold textV
 split
 ·rename_i hv
  unfold textI
  split
  ·rename_i h1
   have := vCheck_num hv h1
   have h2 := Lib.itoa_length_le v.num (by omega) (by omega)
   have e : (⟨(Lib.itoa v.num).toArray⟩ : ByteArray).size = (Lib.itoa v.num).length := by simp [ByteArray.size]
   omega
  ·rename_i h1
   have h2 := vCheck_sym hv h1
   split
   ·omega
   ·have := quoteS_len v.sym; omega
 ·decide
mutual
def Expr.ts : Expr → Nat
 | .mk _ v _ _ args => v.size + 400 + Expr.tss args
def Expr.tss : List Expr → Nat
 | [] => 0
 | e :: r => e.ts + Expr.tss r
end
theorem Expr.ts_eq (e : Expr) : e.ts = e.var.size + 400 + Expr.tss e.args := by cases e; rfl
theorem Expr.tss_get : ∀ (l : List Expr) (k : Nat), k < l.length → (l.getD k default).ts ≤ Expr.tss l
 | e :: r, 0, _ => by simp [Expr.tss]
 | e :: r, k + 1, h => by
  have := Expr.tss_get r k (by simpa using h)
  simp only [List.getD_cons_succ, Expr.tss]; omega
 | [], k, h => by simp at h
theorem Expr.tss_two : ∀ (l : List Expr), l.length = 2 → (l.getD 0 default).ts + (l.getD 1 default).ts ≤ Expr.tss l
 | [a, b], _ => by simp [Expr.tss]
 | [], h => by simp at h
 | [a], h => by simp at h
 | a :: b :: c :: r, h => by simp at h
def sM : Str := ⟨#[45]⟩
def sO : Str := ⟨#[40]⟩
def sC : Str := ⟨#[41]⟩
def sSp : Str := ⟨#[32]⟩
def badW (w : WS) : WS := ⟨w.fr, w.l, true, w.br⟩
def okVar (e : Expr) : Bool := varB e.var && (zValB e.val && (decide (e.op = 0) && decide ((e.args.length : Int) = 0)))
def okVal (e : Expr) : Bool := decide (e.var = ⟨#[]⟩) && (decide (e.op = 0) && decide ((e.args.length : Int) = 0))
def okOp (e : Expr) : Bool := decide (e.var = ⟨#[]⟩) && (zValB e.val && decide (strengthI e.op > 0))
def arg0 (e : Expr) : Expr := e.args.getD 0 default
def arg1 (e : Expr) : Expr := e.args.getD 1 default
def numB (e : Expr) : Bool := decide (e.kind = 2) && decide (e.val.kind = 1)
def must1 (a : Expr) : Bool := decide (bindsI a < 3) || (numB a && decide (a.val.num > 0))
def leafW (w : WS) (e : Expr) (k : WS) : WS :=
 if w.bad = true then badW w else if e.kind = 1 then putA (mustW w (okVar e)) [e.var] else if e.kind = 2 then valueW (mustW w (okVal e)) e.val else if e.kind = 4 then k else badW w
def operW (arg : Bool → WS → Expr → WS) (w : WS) (e : Expr) : WS :=
 if w.bad = true then badW w else if e.op = 6 then
  (if e.args.length = 1 then arg (must1 (arg0 e)) (if (numB (arg0 e) && decide ((arg0 e).val.num = 0)) = true then putA (putA w [sM]) [sM] else putA w [sM]) (arg0 e) else badW w)
 else if e.args.length = 2 then arg (decide (bindsI (arg1 e) ≤ strengthI e.op)) (putA (arg (decide (bindsI (arg0 e) < strengthI e.op)) w (arg0 e)) [sSp, signS e.op, sSp]) (arg1 e) else badW w
def exprW : Nat → WS → Expr → WS
 | 0, w, _ => badW w
 | 1, w, e => leafW w e (badW (mustW w (okOp e)))
 | m + 2, w, e => leafW w e (operW (fun must w a => if must = true then putA (exprW m (putA w [sO]) a) [sC] else exprW (m + 1) w a) (mustW w (okOp e)) e)
def argW (m : Nat) (must : Bool) (w : WS) (a : Expr) : WS := if must = true then putA (exprW m (putA w [sO]) a) [sC] else exprW (m + 1) w a
theorem mustW_len (w : WS) (b : Bool) : (mustW w b).l = w.l := rfl
theorem badW_len (w : WS) : (badW w).l = w.l := rfl
theorem sizeA1 (s : Str) : sizeA [s] = s.size := by simp [sizeA]
theorem sign_len (op : Int) : (signS op).size ≤ 3 := by
 unfold signS
 repeat' split
 all_goals decide
theorem putA1_len (w : WS) (s : Str) : (putA w [s]).l.length = w.l.length + s.size := by rw [putA_len, sizeA1]
theorem valueW_len (w : WS) (v : Val) : (valueW w v).l.length ≤ w.l.length + 300 := by
 have := textV_len v
 rw [valueW, putA1_len, mustW_len]; omega
theorem leafW_len (w k : WS) (e : Expr) (h : k.l.length ≤ w.l.length + e.ts) : (leafW w e k).l.length ≤ w.l.length + e.ts := by
 have := e.ts_eq
 unfold leafW
 repeat' split
 ·rw [badW_len]; omega
 ·rw [putA1_len, mustW_len]; omega
 ·have := valueW_len (mustW w (okVal e)) e.val
  rw [mustW_len] at this; omega
 ·exact h
 ·rw [badW_len]; omega
theorem operW_len (arg : Bool → WS → Expr → WS) (harg : ∀ b w a, (arg b w a).l.length ≤ w.l.length + (2 + a.ts)) (w : WS) (e : Expr) : (operW arg w e).l.length ≤ w.l.length + e.ts := by
 have h0 := e.ts_eq
 unfold operW
 split
 ·rw [badW_len]; omega
 split
 ·split
  ·rename_i h1
   have hg := Expr.tss_get e.args 0 (by omega)
   have e1 : sM.size = 1 := rfl
   split
   ·have := harg (must1 (arg0 e)) (putA (putA w [sM]) [sM]) (arg0 e)
    rw [putA1_len, putA1_len] at this
    simp only [arg0] at this ⊢; omega
   ·have := harg (must1 (arg0 e)) (putA w [sM]) (arg0 e)
    rw [putA1_len] at this
    simp only [arg0] at this ⊢; omega
  ·rw [badW_len]; omega
 ·split
  ·rename_i h1
   have hg := Expr.tss_two e.args h1
   have h2 := harg (decide (bindsI (arg1 e) ≤ strengthI e.op)) (putA (arg (decide (bindsI (arg0 e) < strengthI e.op)) w (arg0 e)) [sSp, signS e.op, sSp]) (arg1 e)
   have h3 := harg (decide (bindsI (arg0 e) < strengthI e.op)) w (arg0 e)
   have h4 := sign_len e.op
   have e1 : sSp.size = 1 := rfl
   rw [putA_len] at h2
   have e2 : sizeA [sSp, signS e.op, sSp] = 1 + ((signS e.op).size + 1) := by simp [sizeA, e1]
   simp only [arg0, arg1] at *; omega
  ·rw [badW_len]; omega
theorem exprW_len : ∀ (n : Nat) (w : WS) (e : Expr), (exprW n w e).l.length ≤ w.l.length + e.ts
 | 0, w, e => by rw [exprW, badW_len]; omega
 | 1, w, e => by rw [exprW]; exact leafW_len _ _ _ (by rw [badW_len, mustW_len]; omega)
 | m + 2, w, e => by
  rw [exprW]
  refine leafW_len _ _ _ ?_
  have := operW_len (fun must w a => if must = true then putA (exprW m (putA w [sO]) a) [sC] else exprW (m + 1) w a) (fun b w a => by
   split
   ·have h1 := exprW_len m (putA w [sO]) a
    have e1 : sO.size = 1 := rfl
    have e2 : sC.size = 1 := rfl
    rw [putA1_len] at h1 ⊢
    omega
   ·have := exprW_len (m + 1) w a
    omega) (mustW w (okOp e)) e
  rwa [mustW_len] at this
theorem argW_len (m : Nat) (b : Bool) (w : WS) (a : Expr) : (argW m b w a).l.length ≤ w.l.length + (2 + a.ts) := by
 unfold argW
 split
 ·have h1 := exprW_len m (putA w [sO]) a
  have e1 : sO.size = 1 := rfl
  have e2 : sC.size = 1 := rfl
  rw [putA1_len] at h1 ⊢
  omega
 ·have := exprW_len (m + 1) w a
  omega
def PE (n : Nat) : Prop := ∀ (d : Int) (w : WS) (e : Expr), d + 1 = n → w.l.length + e.ts ≤ 1000000000 → Det Tryz.prog 189 [.ptr 0 0, ag e.c, pI d] w.O (.tup []) (exprW n w e).H 3
theorem d225 (n : Nat) (hn : n ≤ 1000) (hA : PE (n + 1)) (hB : PE n) (must : Bool) (d : Int) (hd : d = n) (w : WS) (e : Expr) (hb : w.l.length + e.ts + 2 ≤ 1000000000) : Det Tryz.prog 225 [.ptr 0 0, ag e.c, pB must, pI d] w.O (.tup []) (argW n must w e).H 3 := by
 refine det_end tyA_ok Tryz.func225 rfl (by decide) Tryz.ntmps225 rfl (by simp) ?_
 refine gA rfl (zI (fun h => ?_) fun h => ?_)
 ·have h : must = false := by simpa using h
  rw [argW, if_neg (by rw [h]; simp)]
  refine gA rfl (gwA (hA d w e (by omega) (by omega)) ?_)
  refine gA rfl weA
 ·have h : must = true := by simpa using h
  rw [argW, if_pos h]
  have e1 : sO.size = 1 := rfl
  have e2 : sC.size = 1 := rfl
  have hl := exprW_len n (putA w [sO]) e
  have hp := putA1_len w sO
  refine gA rfl (gwpA (d147 w [sO] (by simp) (by rw [sizeA1, e1]; omega)) ?_)
  refine gA rfl (gwA (hB (d - 1) (putA w [sO]) e (by omega) (by omega)) ?_)
  refine gA rfl (gwpA (d147 (exprW n (putA w [sO]) e) [sC] (by simp) (by rw [sizeA1, e2]; omega)) ?_)
  refine gA rfl weA
theorem d213z (d : Int) (hd : d < 0) (w : WS) (e : Expr) : Det Tryz.prog 213 [.ptr 0 0, ag e.c, pI d] w.O (.tup []) (badW w).H 3 := by
 refine det_end tyA_ok Tryz.func213 rfl (by decide) Tryz.ntmps213 rfl (by simp) ?_
 repeat' (first
  | ((rename_i h; exact absurd hd (zF h)))
  | (refine gA rfl (zI (fun _ => ?_) (fun _ => ?_)))
  | (refine gA rfl (end_w (by first | exact .inr rfl | exact .inl rfl) rfl rfl rfl rfl rfl (by first | exact .refl _ | exact .kb _) (by first | exact .refl _ | exact .kb _) rfl rfl rfl rfl (.refl _) rfl rfl)))
set_option maxHeartbeats 2000000 in
theorem d213 (m : Nat) (hm : m ≤ 900) (hA : PE (m + 1)) (hB : PE m) (d : Int) (hd : d = m) (w : WS) (e : Expr) (hb : w.l.length + e.ts ≤ 1000000000) : Det Tryz.prog 213 [.ptr 0 0, ag e.c, pI d] w.O (.tup []) (operW (argW m) w e).H 3 := by
 refine Det.le (aa := [.ptr 0 0, ag e.c, pI d]) (args := [.ptr 0 0, ag e.c1, pI d]) ?_ ⟨.refl _, e.le1, .refl _, trivial⟩
 have hts := e.ts_eq
 have e1 : sM.size = 1 := rfl
 have hm' : m ≤ 1000 := by omega
 refine det_end tyA_ok Tryz.func213 rfl (by decide) Tryz.ntmps213 rfl (by simp) ?_
 refine gA rfl (zI (fun h6 => ?_) fun h6 => ?_)
 ·have h6 : e.op = 6 := zT h6
  refine gA rfl (zI (fun h1 => ?_) fun h1 => ?_)
  rotate_left
  ·have h1 : w.bad = true := h1
   rw [operW, if_pos h1]
   refine gA rfl weA
  have h1 : ¬ w.bad = true := by rw [show w.bad = false from h1]; simp
  refine gA rfl (zI (fun h2 => ?_) fun h2 => ?_)
  rotate_left
  ·have h2 : ¬ e.args.length = 1 := by simp at h2; omega
   rw [operW, if_neg h1, if_pos h6, if_neg h2]
   refine gA rfl weA
  have h2 : e.args.length = 1 := by simp at h2; omega
  have hg : (arg0 e).ts ≤ _ := Expr.tss_get e.args 0 (by omega)
  have hop : operW (argW m) w e = argW m (must1 (arg0 e)) (if (numB (arg0 e) && decide ((arg0 e).val.num = 0)) = true then putA (putA w [sM]) [sM] else putA w [sM]) (arg0 e) := by rw [operW, if_neg h1, if_pos h6, if_pos h2]
  have hga : e.args.getD 0 default = arg0 e := rfl
  refine gA rfl (zI (fun h3 => ?_) fun h3 => ?_)
  ·exact absurd (zT h3) (by omega)
  refine gA rfl (zI (fun h7 => ?_) fun h7 => ?_)
  rotate_left
  ·exact absurd (zF h7) (by simp)
  have hl1 := putA1_len w sM
  refine gA rfl (zI (fun hk => ?_) fun hk => ?_)
  ·have hk' : (arg0 e).kind = 2 := zT hk
   refine gA rfl (gwpA (d147 w [sM] (by simp) (by rw [sizeA1, e1]; omega)) ?_)
   refine gA rfl (zI (fun hv => ?_) fun hv => ?_)
   rotate_left
   ·have hv' : ¬ (arg0 e).val.kind = 1 := zF hv
    have hnb : numB (arg0 e) = false := by rw [numB, decide_eq_false hv', Bool.and_false]
    rw [hnb, Bool.false_and, if_neg (by simp)] at hop
    refine gA rfl (zdp (c226 (arg0 e)) ?_)
    refine gA rfl (zI (fun hb3 => ?_) fun hb3 => ?_)
    ·have hb3' : bindsI (arg0 e) < 3 := zT hb3
     rw [must1, decide_eq_true hb3', Bool.true_or] at hop
     rw [hop]
     refine gA rfl (gdwA (d225 m hm' hA hB true d hd (putA w [sM]) (arg0 e) (by rw [hl1, e1]; omega)) ?_)
     refine gA rfl weA
    ·have hb3' : ¬ bindsI (arg0 e) < 3 := zF hb3
     refine gA rfl (zI (fun hz => ?_) fun hz => ?_)
     ·exact absurd (zT hz) hv'
     rw [must1, decide_eq_false hb3', Bool.false_or, hnb, Bool.false_and] at hop
     rw [hop]
     refine gA rfl (gdwA (d225 m hm' hA hB false d hd (putA w [sM]) (arg0 e) (by rw [hl1, e1]; omega)) ?_)
     refine gA rfl weA
   ·have hv' : (arg0 e).val.kind = 1 := zT hv
    have hnb : numB (arg0 e) = true := by rw [numB, decide_eq_true hv', decide_eq_true hk']; rfl
    rw [hnb, Bool.true_and] at hop
    refine gA rfl (zI (fun h0 => ?_) fun h0 => ?_)
    ·have h0' : (arg0 e).val.num = 0 := zT h0
     rw [if_pos (decide_eq_true h0')] at hop
     refine gA rfl (gwpA (d147 (putA w [sM]) [sM] (by simp) (by rw [sizeA1, hl1, e1]; omega)) ?_)
     refine gA rfl (zdp (c226 (arg0 e)) ?_)
     refine gA rfl (zI (fun hb3 => ?_) fun hb3 => ?_)
     ·have hb3' : bindsI (arg0 e) < 3 := zT hb3
      rw [must1, decide_eq_true hb3', Bool.true_or] at hop
      rw [hop]
      refine gA rfl (gdwA (d225 m hm' hA hB true d hd (putA (putA w [sM]) [sM]) (arg0 e) (by rw [putA1_len, hl1, e1]; omega)) ?_)
      refine gA rfl weA
     ·have hb3' : ¬ bindsI (arg0 e) < 3 := zF hb3
      refine gA rfl (zI (fun hz => ?_) fun hz => ?_)
      rotate_left
      ·exact absurd hv' (zF hz)
      rw [must1, decide_eq_false hb3', Bool.false_or, hnb, Bool.true_and] at hop
      rw [hop]
      refine gA rfl (gdwA (d225 m hm' hA hB (decide ((arg0 e).val.num > 0)) d hd (putA (putA w [sM]) [sM]) (arg0 e) (by rw [putA1_len, hl1, e1]; omega)) ?_)
      refine gA rfl weA
    ·have h0' : ¬ (arg0 e).val.num = 0 := zF h0
     rw [if_neg (by simpa using h0')] at hop
     refine gA rfl (zdp (c226 (arg0 e)) ?_)
     refine gA rfl (zI (fun hb3 => ?_) fun hb3 => ?_)
     ·have hb3' : bindsI (arg0 e) < 3 := zT hb3
      rw [must1, decide_eq_true hb3', Bool.true_or] at hop
      rw [hop]
      refine gA rfl (gdwA (d225 m hm' hA hB true d hd (putA w [sM]) (arg0 e) (by rw [hl1, e1]; omega)) ?_)
      refine gA rfl weA
     ·have hb3' : ¬ bindsI (arg0 e) < 3 := zF hb3
      refine gA rfl (zI (fun hz => ?_) fun hz => ?_)
      rotate_left
      ·exact absurd hv' (zF hz)
      rw [must1, decide_eq_false hb3', Bool.false_or, hnb, Bool.true_and] at hop
      rw [hop]
      refine gA rfl (gdwA (d225 m hm' hA hB (decide ((arg0 e).val.num > 0)) d hd (putA w [sM]) (arg0 e) (by rw [hl1, e1]; omega)) ?_)
      refine gA rfl weA
  ·have hk' : ¬ (arg0 e).kind = 2 := zF hk
   have hnb : numB (arg0 e) = false := by rw [numB, decide_eq_false hk']; rfl
   rw [hnb, Bool.false_and, if_neg (by simp)] at hop
   refine gA rfl (gwpA (d147 w [sM] (by simp) (by rw [sizeA1, e1]; omega)) ?_)
   refine gA rfl (zdp (c226 (arg0 e)) ?_)
   refine gA rfl (zI (fun hb3 => ?_) fun hb3 => ?_)
   ·have hb3' : bindsI (arg0 e) < 3 := zT hb3
    rw [must1, decide_eq_true hb3', Bool.true_or] at hop
    rw [hop]
    refine gA rfl (gdwA (d225 m hm' hA hB true d hd (putA w [sM]) (arg0 e) (by rw [hl1, e1]; omega)) ?_)
    refine gA rfl weA
   ·have hb3' : ¬ bindsI (arg0 e) < 3 := zF hb3
    rw [must1, decide_eq_false hb3', Bool.false_or, hnb, Bool.false_and] at hop
    rw [hop]
    refine gA rfl (gdwA (d225 m hm' hA hB false d hd (putA w [sM]) (arg0 e) (by rw [hl1, e1]; omega)) ?_)
    refine gA rfl weA
 ·have h6 : ¬ e.op = 6 := zF h6
  refine gA rfl (zI (fun h1 => ?_) fun h1 => ?_)
  rotate_left
  ·have h1 : w.bad = true := h1
   rw [operW, if_pos h1]
   refine gA rfl weA
  have h1 : ¬ w.bad = true := by rw [show w.bad = false from h1]; simp
  refine gA rfl (zI (fun h2 => ?_) fun h2 => ?_)
  rotate_left
  ·have h2 : ¬ e.args.length = 2 := by simp at h2; omega
   rw [operW, if_neg h1, if_neg h6, if_neg h2]
   refine gA rfl weA
  have h2 : e.args.length = 2 := by simp at h2; omega
  have hg : (arg0 e).ts + (arg1 e).ts ≤ _ := Expr.tss_two e.args h2
  rw [operW, if_neg h1, if_neg h6, if_pos h2]
  refine gA rfl (zI (fun h3 => ?_) fun h3 => ?_)
  ·exact absurd (zT h3) (by omega)
  refine gA rfl (zI (fun h7 => ?_) fun h7 => ?_)
  ·exact absurd (zT h7) (by simp)
  refine gA rfl (zdp (c226 (arg0 e)) ?_)
  refine gA rfl (zdp (c212 e.op) ?_)
  refine gA rfl (gdwA (d225 m hm' hA hB (decide (bindsI (arg0 e) < strengthI e.op)) d hd w (arg0 e) (by omega)) ?_)
  refine gA rfl (zp (c227 e.op) ?_)
  have hla := argW_len m (decide (bindsI (arg0 e) < strengthI e.op)) w (arg0 e)
  have hsg := sign_len e.op
  have e2 : sSp.size = 1 := rfl
  have e3 : sizeA [sSp, signS e.op, sSp] = 1 + ((signS e.op).size + 1) := by simp [sizeA, e2]
  refine gA rfl (gwpA (d147 (argW m (decide (bindsI (arg0 e) < strengthI e.op)) w (arg0 e)) [sSp, signS e.op, sSp] (by simp) (by rw [e3]; omega)) ?_)
  refine gA rfl (zdp (c226 (arg1 e)) ?_)
  refine gA rfl (zdp (c212 e.op) ?_)
  refine gA rfl (gdwA (d225 m hm' hA hB (decide (bindsI (arg1 e) ≤ strengthI e.op)) d hd (putA (argW m (decide (bindsI (arg0 e) < strengthI e.op)) w (arg0 e)) [sSp, signS e.op, sSp]) (arg1 e) (by rw [putA_len, e3]; omega)) ?_)
  refine gA rfl weA
theorem d189 (d : Int) (hd0 : 0 ≤ d) (hd1 : d ≤ 1000) (w : WS) (e : Expr) (hb : w.l.length + e.ts ≤ 1000000000) (k : WS) (hk : Det Tryz.prog 213 [.ptr 0 0, ag e.c, pI (d - 1)] (mustW w (okOp e)).O (.tup []) k.H 3) : Det Tryz.prog 189 [.ptr 0 0, ag e.c, pI d] w.O (.tup []) (leafW w e k).H 3 := by
 have hts := e.ts_eq
 refine det_end tyA_ok Tryz.func189 rfl (by decide) Tryz.ntmps189 rfl (by simp) ?_
 refine gA rfl (zI (fun h1 => ?_) fun h1 => ?_)
 rotate_left
 ·have h1 : w.bad = true := h1
  rw [leafW, if_pos h1]
  refine gA rfl weA
 have h1' : ¬ w.bad = true := by rw [show w.bad = false from h1]; simp
 refine gA rfl (zI (fun h2 => ?_) fun h2 => ?_)
 ·exact absurd (zT h2) (by omega)
 refine gA rfl (zI (fun hk1 => ?_) fun hk1 => ?_)
 ·have hk1' : e.kind = 1 := zT hk1
  have hlf : leafW w e k = putA (mustW w (okVar e)) [e.var] := by rw [leafW, if_neg h1', if_pos hk1']
  rw [hlf]
  refine gA rfl (zp (c148 e.var) ?_)
  refine gA rfl (zI (fun g0 => ?_) fun g0 => ?_)
  rotate_left
  ·have hx : okVar e = false := by simp only [okVar, zValB, *]; rfl
   rw [hx]
   refine gA rfl (gwA (d146 w false) ?_)
   refine gA rfl (gwpA (d147 (mustW w false) [e.var] (by simp) (by rw [sizeA1, mustW_len]; omega)) ?_)
   refine gA rfl weA
  refine gA rfl (zI (fun g1 => ?_) fun g1 => ?_)
  rotate_left
  ·have hx : okVar e = false := by simp only [okVar, zValB, *]; rfl
   rw [hx]
   refine gA rfl (gwA (d146 w false) ?_)
   refine gA rfl (gwpA (d147 (mustW w false) [e.var] (by simp) (by rw [sizeA1, mustW_len]; omega)) ?_)
   refine gA rfl weA
  refine gA rfl (zI (fun g2 => ?_) fun g2 => ?_)
  rotate_left
  ·have hx : okVar e = false := by simp only [okVar, zValB, *]; rfl
   rw [hx]
   refine gA rfl (gwA (d146 w false) ?_)
   refine gA rfl (gwpA (d147 (mustW w false) [e.var] (by simp) (by rw [sizeA1, mustW_len]; omega)) ?_)
   refine gA rfl weA
  have hx : okVar e = decide ((e.args.length : Int) = 0) := by simp only [okVar, zValB, *]; rfl
  rw [hx]
  refine gA rfl (gwA (d146 w (decide ((e.args.length : Int) = 0))) ?_)
  refine gA rfl (gwpA (d147 (mustW w (decide ((e.args.length : Int) = 0))) [e.var] (by simp) (by rw [sizeA1, mustW_len]; omega)) ?_)
  refine gA rfl weA
 have hk1' : ¬ e.kind = 1 := zF hk1
 refine gA rfl (zI (fun hk2 => ?_) fun hk2 => ?_)
 ·have hk2' : e.kind = 2 := zT hk2
  have hlf : leafW w e k = valueW (mustW w (okVal e)) e.val := by rw [leafW, if_neg h1', if_neg hk1', if_pos hk2']
  rw [hlf]
  have htv := textV_len e.val
  refine gA rfl (zI (fun g0 => ?_) fun g0 => ?_)
  rotate_left
  ·have hx : okVal e = false := by simp only [okVal, *]; rfl
   rw [hx]
   refine gA rfl (gwA (d146 w false) ?_)
   refine gA rfl (gwA (d149 (mustW w false) e.val (by rw [mustW_len]; omega) (by omega)) ?_)
   refine gA rfl weA
  refine gA rfl (zI (fun g1 => ?_) fun g1 => ?_)
  rotate_left
  ·have hx : okVal e = false := by simp only [okVal, *]; rfl
   rw [hx]
   refine gA rfl (gwA (d146 w false) ?_)
   refine gA rfl (gwA (d149 (mustW w false) e.val (by rw [mustW_len]; omega) (by omega)) ?_)
   refine gA rfl weA
  have hx : okVal e = decide ((e.args.length : Int) = 0) := by simp only [okVal, *]; rfl
  rw [hx]
  refine gA rfl (gwA (d146 w (decide ((e.args.length : Int) = 0))) ?_)
  refine gA rfl (gwA (d149 (mustW w (decide ((e.args.length : Int) = 0))) e.val (by rw [mustW_len]; omega) (by omega)) ?_)
  refine gA rfl weA
 have hk2' : ¬ e.kind = 2 := zF hk2
 refine gA rfl (zI (fun hk4 => ?_) fun hk4 => ?_)
 ·have hk4' : e.kind = 4 := zT hk4
  have hlf : leafW w e k = k := by rw [leafW, if_neg h1', if_neg hk1', if_neg hk2', if_pos hk4']
  rw [hlf]
  refine gA rfl (zI (fun g0 => ?_) fun g0 => ?_)
  rotate_left
  ·have hx : okOp e = false := by simp only [okOp, zValB, *]; rfl
   rw [hx] at hk
   refine gA rfl (gwA (d146 w false) ?_)
   refine gA rfl (gwA (hk) ?_)
   refine gA rfl weA
  refine gA rfl (zI (fun g1 => ?_) fun g1 => ?_)
  rotate_left
  ·have hx : okOp e = false := by simp only [okOp, zValB, *]; rfl
   rw [hx] at hk
   refine gA rfl (gwA (d146 w false) ?_)
   refine gA rfl (gwA (hk) ?_)
   refine gA rfl weA
  refine gA rfl (zp (c212 e.op) ?_)
  have hx : okOp e = decide (strengthI e.op > 0) := by simp only [okOp, zValB, *]; rfl
  rw [hx] at hk
  refine gA rfl (gwA (d146 w (decide (strengthI e.op > 0))) ?_)
  refine gA rfl (gwA (hk) ?_)
  refine gA rfl weA
 have hk4' : ¬ e.kind = 4 := zF hk4
 rw [leafW, if_neg h1', if_neg hk1', if_neg hk2', if_neg hk4']
 refine gA rfl weA
theorem pe0 : PE 0 := fun d w e hd hb => by
 refine det_end tyA_ok Tryz.func189 rfl (by decide) Tryz.ntmps189 rfl (by simp) ?_
 rw [exprW]
 repeat' (first
  | ((rename_i h; exact absurd (by omega : d < 0) (zF h)))
  | (refine gA rfl (zI (fun _ => ?_) (fun _ => ?_)))
  | (refine gA rfl (end_w (by first | exact .inr rfl | exact .inl rfl) rfl rfl rfl rfl rfl (by first | exact .refl _ | exact .kb _) (by first | exact .refl _ | exact .kb _) rfl rfl rfl rfl (.refl _) rfl rfl)))
theorem pe_all : ∀ n, n ≤ 900 → PE n
 | 0, _ => pe0
 | 1, _ => fun d w e hd hb => d189 d (by omega) (by omega) w e hb _ (d213z (d - 1) (by omega) (mustW w (okOp e)) e)
 | m + 2, h => fun d w e hd hb => d189 d (by omega) (by omega) w e (by omega) _ (d213 m (by omega) (pe_all (m + 1) (by omega)) (pe_all m (by omega)) (d - 1) (by omega) (mustW w (okOp e)) e (by rw [mustW_len]; omega))
theorem d189' (w : WS) (e : Expr) (hb : w.l.length + e.ts ≤ 900000000) : Det Tryz.prog 189 [.ptr 0 0, ag e.c, pI 16] w.O (.tup []) (exprW 17 w e).H 3 := pe_all 17 (by omega) 16 w e (by omega) (by omega)
def sCm : Str := ⟨#[44, 32]⟩
def sUn : Str := ⟨#[95]⟩
def commaW (i : Nat) (w : WS) : WS := if i = 0 then w else putA w [sCm]
def okTV (t : Term) : Bool := varB t.var && zValB t.val
def okTA (t : Term) : Bool := decide (t.var = ⟨#[]⟩) && zValB t.val
def termW (w : WS) (t : Term) : WS :=
 if t.kind = 1 then putA (mustW w (okTV t)) [t.var] else if t.kind = 2 then valueW (mustW w (decide (t.var = ⟨#[]⟩))) t.val else if t.kind = 3 then putA (mustW w (okTA t)) [sUn] else badW w
def termsW (l : List Term) (w : WS) : Nat → WS
 | 0 => w
 | i + 1 => termW (commaW i (termsW l w i)) (l.getD i default)
def atomW (w : WS) (a : Atom) : WS := putA (termsW a.terms (putA (mustW w (nameB a.rel)) [a.rel, sO]) a.terms.length) [sC]
def Term.ts (t : Term) : Nat := t.var.size + 310
def Atom.ts (a : Atom) : Nat := a.rel.size + 10 + (a.terms.map Term.ts).sum
theorem commaW_len (i : Nat) (w : WS) : (commaW i w).l.length ≤ w.l.length + 2 := by
 have e : sCm.size = 2 := rfl
 unfold commaW
 split
 ·omega
 ·rw [putA1_len, e]; omega
theorem termW_len (w : WS) (t : Term) : (termW w t).l.length ≤ w.l.length + 300 + t.var.size := by
 have e : sUn.size = 1 := rfl
 unfold termW
 repeat' split
 ·rw [putA1_len, mustW_len]; omega
 ·have := valueW_len (mustW w (decide (t.var = ⟨#[]⟩))) t.val
  rw [mustW_len] at this; omega
 ·rw [putA1_len, mustW_len, e]; omega
 ·rw [badW_len]; omega
theorem sumT_take : ∀ (l : List Term) (i : Nat), i < l.length → ((l.take i).map Term.ts).sum + (l.getD i default).ts ≤ (l.map Term.ts).sum
 | [], i, h => by simp at h
 | s :: r, 0, _ => by simp
 | s :: r, i + 1, h => by
  have := sumT_take r i (by simpa using h)
  simp at this ⊢; omega
theorem sumT_le : ∀ (l : List Term) (i : Nat), ((l.take i).map Term.ts).sum ≤ (l.map Term.ts).sum
 | [], i => by simp
 | s :: r, 0 => by simp
 | s :: r, i + 1 => by have := sumT_le r i; simp at this ⊢; omega
theorem termsW_len (l : List Term) (w : WS) : ∀ i, i ≤ l.length → (termsW l w i).l.length ≤ w.l.length + ((l.take i).map Term.ts).sum
 | 0, _ => by simp [termsW]
 | i + 1, h => by
  have h1 := termsW_len l w i (by omega)
  have h2 := commaW_len i (termsW l w i)
  have h3 := termW_len (commaW i (termsW l w i)) (l.getD i default)
  have h4 : (l.getD i default).ts = (l.getD i default).var.size + 310 := rfl
  have h5 : ((l.take (i + 1)).map Term.ts).sum = ((l.take i).map Term.ts).sum + (l.getD i default).ts := by
   rw [take_step (by omega), List.map_append, List.sum_append]; simp
  rw [termsW]; omega
theorem atomW_len (w : WS) (a : Atom) : (atomW w a).l.length ≤ w.l.length + a.ts := by
 have e1 : sO.size = 1 := rfl
 have e2 : sC.size = 1 := rfl
 have e3 : sizeA [a.rel, sO] = a.rel.size + 1 := by simp [sizeA, e1]
 have h1 := termsW_len a.terms (putA (mustW w (nameB a.rel)) [a.rel, sO]) a.terms.length (Nat.le_refl _)
 rw [putA_len, e3, mustW_len, List.take_length] at h1
 rw [atomW, putA1_len, e2]
 unfold Atom.ts; omega
theorem length_ts : ∀ l : List Term, l.length ≤ (l.map Term.ts).sum
 | [] => by simp
 | t :: r => by have := length_ts r; simp [Term.ts] at this ⊢; omega
set_option maxHeartbeats 1000000 in
theorem d104 (w : WS) (a : Atom) (hb : w.l.length + a.ts ≤ 900000000) : Det Tryz.prog 104 [.ptr 0 0, ag a.c] w.O (.tup []) (atomW w a).H 3 := by
 have e1 : sO.size = 1 := rfl
 have e2 : sC.size = 1 := rfl
 have e4 : sCm.size = 2 := rfl
 have e5 : sUn.size = 1 := rfl
 have e3 : sizeA [a.rel, sO] = a.rel.size + 1 := by simp [sizeA, e1]
 have hts : a.ts = a.rel.size + 10 + (a.terms.map Term.ts).sum := rfl
 have hlt := length_ts a.terms
 have hl0 : (putA (mustW w (nameB a.rel)) [a.rel, sO]).l.length = w.l.length + (a.rel.size + 1) := by rw [putA_len, e3, mustW_len]
 refine det_end tyA_ok Tryz.func104 rfl (by decide) Tryz.ntmps104 rfl (by simp) ?_
 refine gA rfl (zp (c97 a.rel) ?_)
 refine gA rfl (gwA (d146 w (nameB a.rel)) ?_)
 refine gA rfl (gwpA (d147 (mustW w (nameB a.rel)) [a.rel, sO] (by simp) (by rw [e3, mustW_len]; omega)) ?_)
 generalize hW : putA (mustW w (nameB a.rel)) [a.rel, sO] = w1 at *
 refine gA rfl ?_
 refine go_for 0 a.terms.length (Nat.zero_le _) (fun i => ⟨[(0, .ptr 0 0), (17, .iv (slc 5 a.terms Term.c)), (18, pI a.terms.length), (19, pI i)], [(0, some ((termsW a.terms w1 i).cAt 0 6)), (6, some (.brow (termsW a.terms w1 i).l 5))], 7⟩) (fun _ => True) _ trivial
  (wkW (w := w1) rfl rfl rfl rfl rfl (.refl _) (.refl _) rfl rfl rfl rfl rfl ⟨.refl _, rfl, .refl _, rfl, .refl _, rfl, .refl _, rfl, trivial⟩) fun i hi _ => ?_
 have hln := termsW_len a.terms w1 i hi
 have hsl := sumT_le a.terms i
 refine gA rfl (zI (fun h1 => ?_) fun h1 => ?_)
 rotate_left
 ·have h1 : a.terms.length ≤ i := zG h1
  have hie : i = a.terms.length := by omega
  subst hie
  refine gA rfl (gwpA (d147 (termsW a.terms w1 a.terms.length) [sC] (by simp) (by rw [sizeA1, e2]; omega)) ?_)
  rw [atomW, hW]
  refine gA rfl weA
 have h1 : i < a.terms.length := zN h1
 have hst := sumT_take a.terms i h1
 have hs : termsW a.terms w1 (i + 1) = termW (commaW i (termsW a.terms w1 i)) (a.terms.getD i default) := rfl
 have ht : (a.terms.getD i default).ts = (a.terms.getD i default).var.size + 310 := rfl
 have htv := textV_len (a.terms.getD i default).val
 have hcl := commaW_len i (termsW a.terms w1 i)
 generalize hT : termsW a.terms w1 i = w2 at *
 refine gA rfl (zI (fun h2 => ?_) fun h2 => ?_)
 ·have h2 : ¬ i = 0 := by have := zT h2; omega
  rw [commaW, if_neg h2] at hs
  refine gA rfl (gwpA (d147 w2 [sCm] (by simp) (by rw [sizeA1, e4]; omega)) ?_)
  refine gA rfl (zI (fun k1 => ?_) fun k1 => ?_)
  ·have k1' : (a.terms.getD i default).kind = 1 := zT k1
   rw [termW, if_pos k1'] at hs
   refine gA rfl (zp (c148 (a.terms.getD i default).var) ?_)
   refine gA rfl (zI (fun g0 => ?_) fun g0 => ?_)
   rotate_left
   ·have hx : okTV (a.terms.getD i default) = false := by have g : varB (a.terms.getD i default).var = false := g0; rw [okTV, g]; rfl
    rw [hx] at hs
    refine gA rfl (gwA (d146 (putA w2 [sCm]) false) ?_)
    refine gA rfl (gwpA (d147 (mustW (putA w2 [sCm]) false) [(a.terms.getD i default).var] (by simp) (by rw [sizeA1, mustW_len]; first | omega | (rw [putA1_len, e4]; omega))) ?_)
    refine gA rfl ⟨h1, trivial, _, wkWA (hs.symm)⟩
   have hx : okTV (a.terms.getD i default) = zValB (a.terms.getD i default).val := by have g : varB (a.terms.getD i default).var = true := g0; rw [okTV, g]; rfl
   rw [hx] at hs
   refine gA rfl (gwA (d146 (putA w2 [sCm]) (zValB (a.terms.getD i default).val)) ?_)
   refine gA rfl (gwpA (d147 (mustW (putA w2 [sCm]) (zValB (a.terms.getD i default).val)) [(a.terms.getD i default).var] (by simp) (by rw [sizeA1, mustW_len]; first | omega | (rw [putA1_len, e4]; omega))) ?_)
   refine gA rfl ⟨h1, trivial, _, wkWA (hs.symm)⟩
  have k1' : ¬ (a.terms.getD i default).kind = 1 := zF k1
  refine gA rfl (zI (fun k2 => ?_) fun k2 => ?_)
  ·have k2' : (a.terms.getD i default).kind = 2 := zT k2
   rw [termW, if_neg k1', if_pos k2'] at hs
   refine gA rfl (gwA (d146 (putA w2 [sCm]) (decide ((a.terms.getD i default).var = ⟨#[]⟩))) ?_)
   refine gA rfl (gwA (d149 (mustW (putA w2 [sCm]) (decide ((a.terms.getD i default).var = ⟨#[]⟩))) (a.terms.getD i default).val (by rw [mustW_len]; first | omega | (rw [putA1_len, e4]; omega)) (by omega)) ?_)
   refine gA rfl ⟨h1, trivial, _, wkWA (hs.symm)⟩
  have k2' : ¬ (a.terms.getD i default).kind = 2 := zF k2
  refine gA rfl (zI (fun k3 => ?_) fun k3 => ?_)
  ·have k3' : (a.terms.getD i default).kind = 3 := zT k3
   rw [termW, if_neg k1', if_neg k2', if_pos k3'] at hs
   refine gA rfl (zI (fun g0 => ?_) fun g0 => ?_)
   rotate_left
   ·have hx : okTA (a.terms.getD i default) = false := by have g : decide ((a.terms.getD i default).var = ⟨#[]⟩) = false := g0; rw [okTA, g]; rfl
    rw [hx] at hs
    refine gA rfl (gwA (d146 (putA w2 [sCm]) false) ?_)
    refine gA rfl (gwpA (d147 (mustW (putA w2 [sCm]) false) [sUn] (by simp) (by rw [sizeA1, mustW_len]; first | omega | (rw [putA1_len, e4]; omega))) ?_)
    refine gA rfl ⟨h1, trivial, _, wkWA (hs.symm)⟩
   have hx : okTA (a.terms.getD i default) = zValB (a.terms.getD i default).val := by have g : decide ((a.terms.getD i default).var = ⟨#[]⟩) = true := g0; rw [okTA, g]; rfl
   rw [hx] at hs
   refine gA rfl (gwA (d146 (putA w2 [sCm]) (zValB (a.terms.getD i default).val)) ?_)
   refine gA rfl (gwpA (d147 (mustW (putA w2 [sCm]) (zValB (a.terms.getD i default).val)) [sUn] (by simp) (by rw [sizeA1, mustW_len]; first | omega | (rw [putA1_len, e4]; omega))) ?_)
   refine gA rfl ⟨h1, trivial, _, wkWA (hs.symm)⟩
  have k3' : ¬ (a.terms.getD i default).kind = 3 := zF k3
  rw [termW, if_neg k1', if_neg k2', if_neg k3'] at hs
  refine gA rfl ⟨h1, trivial, _, wkWA (hs.symm)⟩
 ·have h2 : i = 0 := by have := zF h2; omega
  rw [commaW, if_pos h2] at hs
  refine gA rfl (zI (fun k1 => ?_) fun k1 => ?_)
  ·have k1' : (a.terms.getD i default).kind = 1 := zT k1
   rw [termW, if_pos k1'] at hs
   refine gA rfl (zp (c148 (a.terms.getD i default).var) ?_)
   refine gA rfl (zI (fun g0 => ?_) fun g0 => ?_)
   rotate_left
   ·have hx : okTV (a.terms.getD i default) = false := by have g : varB (a.terms.getD i default).var = false := g0; rw [okTV, g]; rfl
    rw [hx] at hs
    refine gA rfl (gwA (d146 w2 false) ?_)
    refine gA rfl (gwpA (d147 (mustW w2 false) [(a.terms.getD i default).var] (by simp) (by rw [sizeA1, mustW_len]; first | omega | (rw [putA1_len, e4]; omega))) ?_)
    refine gA rfl ⟨h1, trivial, _, wkWA (hs.symm)⟩
   have hx : okTV (a.terms.getD i default) = zValB (a.terms.getD i default).val := by have g : varB (a.terms.getD i default).var = true := g0; rw [okTV, g]; rfl
   rw [hx] at hs
   refine gA rfl (gwA (d146 w2 (zValB (a.terms.getD i default).val)) ?_)
   refine gA rfl (gwpA (d147 (mustW w2 (zValB (a.terms.getD i default).val)) [(a.terms.getD i default).var] (by simp) (by rw [sizeA1, mustW_len]; first | omega | (rw [putA1_len, e4]; omega))) ?_)
   refine gA rfl ⟨h1, trivial, _, wkWA (hs.symm)⟩
  have k1' : ¬ (a.terms.getD i default).kind = 1 := zF k1
  refine gA rfl (zI (fun k2 => ?_) fun k2 => ?_)
  ·have k2' : (a.terms.getD i default).kind = 2 := zT k2
   rw [termW, if_neg k1', if_pos k2'] at hs
   refine gA rfl (gwA (d146 w2 (decide ((a.terms.getD i default).var = ⟨#[]⟩))) ?_)
   refine gA rfl (gwA (d149 (mustW w2 (decide ((a.terms.getD i default).var = ⟨#[]⟩))) (a.terms.getD i default).val (by rw [mustW_len]; first | omega | (rw [putA1_len, e4]; omega)) (by omega)) ?_)
   refine gA rfl ⟨h1, trivial, _, wkWA (hs.symm)⟩
  have k2' : ¬ (a.terms.getD i default).kind = 2 := zF k2
  refine gA rfl (zI (fun k3 => ?_) fun k3 => ?_)
  ·have k3' : (a.terms.getD i default).kind = 3 := zT k3
   rw [termW, if_neg k1', if_neg k2', if_pos k3'] at hs
   refine gA rfl (zI (fun g0 => ?_) fun g0 => ?_)
   rotate_left
   ·have hx : okTA (a.terms.getD i default) = false := by have g : decide ((a.terms.getD i default).var = ⟨#[]⟩) = false := g0; rw [okTA, g]; rfl
    rw [hx] at hs
    refine gA rfl (gwA (d146 w2 false) ?_)
    refine gA rfl (gwpA (d147 (mustW w2 false) [sUn] (by simp) (by rw [sizeA1, mustW_len]; first | omega | (rw [putA1_len, e4]; omega))) ?_)
    refine gA rfl ⟨h1, trivial, _, wkWA (hs.symm)⟩
   have hx : okTA (a.terms.getD i default) = zValB (a.terms.getD i default).val := by have g : decide ((a.terms.getD i default).var = ⟨#[]⟩) = true := g0; rw [okTA, g]; rfl
   rw [hx] at hs
   refine gA rfl (gwA (d146 w2 (zValB (a.terms.getD i default).val)) ?_)
   refine gA rfl (gwpA (d147 (mustW w2 (zValB (a.terms.getD i default).val)) [sUn] (by simp) (by rw [sizeA1, mustW_len]; first | omega | (rw [putA1_len, e4]; omega))) ?_)
   refine gA rfl ⟨h1, trivial, _, wkWA (hs.symm)⟩
  have k3' : ¬ (a.terms.getD i default).kind = 3 := zF k3
  rw [termW, if_neg k1', if_neg k2', if_neg k3'] at hs
  refine gA rfl ⟨h1, trivial, _, wkWA (hs.symm)⟩
def sNot : Str := ⟨#[110, 111, 116, 32]⟩
def sEq : Str := ⟨#[32, 61, 32]⟩
def sBr : Str := ⟨#[32, 123, 32]⟩
def sCl : Str := ⟨#[32, 58, 32]⟩
def sEnd : Str := ⟨#[32, 125]⟩
def cmpS (op : Int) : Str := if op = 1 then ⟨#[32, 61, 32]⟩ else if op = 2 then ⟨#[32, 33, 61, 32]⟩ else if op = 3 then ⟨#[32, 60, 32]⟩ else if op = 4 then ⟨#[32, 60, 61, 32]⟩ else if op = 5 then ⟨#[32, 62, 32]⟩ else ⟨#[32, 62, 61, 32]⟩
def funS (f : Int) : Str := if f = 1 then ⟨#[99, 111, 117, 110, 116]⟩ else if f = 2 then ⟨#[115, 117, 109]⟩ else if f = 3 then ⟨#[109, 105, 110]⟩ else ⟨#[109, 97, 120]⟩
def brW (w : WS) (n : Int) : WS := ⟨w.fr, w.l, w.bad, w.br + n⟩
def bodyN (f : Lit → WS → WS) (l : List Lit) (w : WS) : Nat → WS
 | 0 => w
 | i + 1 => if (bodyN f l w i).bad = true then bodyN f l w i else f (l.getD i default) (commaW i (bodyN f l w i))
def ofW (w : WS) (a : Agg) : WS := if a.func = 1 then mustW w (noExprB a.of_) else putA (exprW 17 w a.of_) [sCl]
def aggW (f : Lit → WS → WS) (w : WS) (a : Agg) : WS :=
 if a.func < 1 ∨ 5 ≤ a.func ∨ 16 ≤ w.br ∨ a.body.length = 0 then badW w
 else putA (brW (bodyN f a.body (brW (ofW (putA (mustW w (varB a.var)) [a.var, sEq, funS a.func, sBr]) a) 1) a.body.length) (-1)) [sEnd]
def litK (f : Lit → WS → WS) (l : Lit) (w : WS) : WS :=
 if l.kind = 2 then atomW (putA w [sNot]) l.atom else if l.kind = 1 then atomW w l.atom
 else if l.kind = 3 then (if l.op < 1 ∨ 7 ≤ l.op then badW (exprW 17 w l.left) else exprW 17 (putA (exprW 17 w l.left) [cmpS l.op]) l.right)
 else if l.kind = 4 then aggW f w l.agg else badW w
def litF : Nat → Lit → WS → WS
 | 0, _, w => w
 | n + 1, l, w => litK (litF n) l (mustW w (lacksB l))
theorem putA_br : ∀ (ss : List Str) (w : WS), (putA w ss).br = w.br
 | [], _w => rfl
 | s :: r, w => putA_br r (putS w s)
theorem mustW_br (w : WS) (b : Bool) : (mustW w b).br = w.br := rfl
theorem badW_br (w : WS) : (badW w).br = w.br := rfl
theorem valueW_br (w : WS) (v : Val) : (valueW w v).br = w.br := by rw [valueW, putA_br]; rfl
theorem leafW_br (w k : WS) (e : Expr) (h : k.br = w.br) : (leafW w e k).br = w.br := by
 unfold leafW
 repeat' split
 ·rfl
 ·rw [putA_br]; rfl
 ·rw [valueW_br]; rfl
 ·exact h
 ·rfl
theorem operW_br (arg : Bool → WS → Expr → WS) (harg : ∀ b w a, (arg b w a).br = w.br) (w : WS) (e : Expr) : (operW arg w e).br = w.br := by
 unfold operW
 repeat' split
 ·rfl
 ·rw [harg, putA_br, putA_br]
 ·rw [harg, putA_br]
 ·rfl
 ·rw [harg, putA_br, harg]
 ·rfl
theorem exprW_br : ∀ (n : Nat) (w : WS) (e : Expr), (exprW n w e).br = w.br
 | 0, w, e => rfl
 | 1, w, e => by rw [exprW]; exact leafW_br _ _ _ rfl
 | m + 2, w, e => by
  rw [exprW]
  refine leafW_br _ _ _ ?_
  rw [operW_br _ (fun b w a => ?_)]
  ·rfl
  ·split
   ·rw [putA_br, exprW_br m, putA_br]
   ·exact exprW_br (m + 1) _ _
theorem commaW_br (i : Nat) (w : WS) : (commaW i w).br = w.br := by
 unfold commaW; split
 ·rfl
 ·exact putA_br _ _
theorem termW_br (w : WS) (t : Term) : (termW w t).br = w.br := by
 unfold termW
 repeat' split
 ·rw [putA_br]; rfl
 ·rw [valueW_br]; rfl
 ·rw [putA_br]; rfl
 ·rfl
theorem termsW_br (l : List Term) (w : WS) : ∀ i, (termsW l w i).br = w.br
 | 0 => rfl
 | i + 1 => by rw [termsW, termW_br, commaW_br, termsW_br l w i]
theorem atomW_br (w : WS) (a : Atom) : (atomW w a).br = w.br := by rw [atomW, putA_br, termsW_br, putA_br]; rfl
theorem bodyN_br (f : Lit → WS → WS) (hf : ∀ l w, (f l w).br = w.br) (l : List Lit) (w : WS) : ∀ i, (bodyN f l w i).br = w.br
 | 0 => rfl
 | i + 1 => by
  rw [bodyN]
  split
  ·exact bodyN_br f hf l w i
  ·rw [hf, commaW_br, bodyN_br f hf l w i]
theorem ofW_br (w : WS) (a : Agg) : (ofW w a).br = w.br := by
 unfold ofW; split
 ·rfl
 ·rw [putA_br, exprW_br]
theorem aggW_br (f : Lit → WS → WS) (hf : ∀ l w, (f l w).br = w.br) (w : WS) (a : Agg) : (aggW f w a).br = w.br := by
 unfold aggW; split
 ·rfl
 ·rw [putA_br]
  show (bodyN _ _ _ _).br + -1 = _
  rw [bodyN_br f hf]
  show (ofW _ _).br + 1 + -1 = _
  rw [ofW_br, putA_br, mustW_br]; omega
theorem litK_br (f : Lit → WS → WS) (hf : ∀ l w, (f l w).br = w.br) (l : Lit) (w : WS) : (litK f l w).br = w.br := by
 unfold litK
 repeat' split
 ·rw [atomW_br, putA_br]
 ·exact atomW_br _ _
 ·rw [badW_br, exprW_br]
 ·rw [exprW_br, putA_br, exprW_br]
 ·exact aggW_br f hf _ _
 ·rfl
theorem litF_br : ∀ (n : Nat) (l : Lit) (w : WS), (litF n l w).br = w.br
 | 0, _, _ => rfl
 | n + 1, l, w => by rw [litF, litK_br (litF n) (litF_br n)]; rfl
mutual
def Lit.ts : Lit → Nat
 | .mk _ a _ l r _ v o b _ => 100 + a.ts + l.ts + r.ts + v.size + o.ts + Lit.tss b
def Lit.tss : List Lit → Nat
 | [] => 0
 | e :: r => e.ts + Lit.tss r
end
theorem Lit.ts_eq (l : Lit) : l.ts = 100 + l.atom.ts + l.left.ts + l.right.ts + l.avar.size + l.aof.ts + Lit.tss l.abody := by cases l; rfl
theorem Lit.tss_take : ∀ (l : List Lit) (i : Nat), i < l.length → Lit.tss (l.take i) + (l.getD i default).ts ≤ Lit.tss l
 | [], i, h => by simp at h
 | s :: r, 0, _ => by simp [Lit.tss]
 | s :: r, i + 1, h => by
  have := Lit.tss_take r i (by simpa using h)
  simp only [List.take_succ_cons, Lit.tss, List.getD_cons_succ]; omega
theorem Lit.tss_le : ∀ (l : List Lit) (i : Nat), Lit.tss (l.take i) ≤ Lit.tss l
 | [], i => by simp
 | s :: r, 0 => by simp [Lit.tss]
 | s :: r, i + 1 => by have := Lit.tss_le r i; simp only [List.take_succ_cons, Lit.tss]; omega
theorem Lit.ts_pos (l : Lit) : 100 ≤ l.ts := by rw [l.ts_eq]; omega
theorem cmpS_len (op : Int) : (cmpS op).size ≤ 4 := by
 unfold cmpS
 repeat' split
 all_goals decide
theorem funS_len (op : Int) : (funS op).size ≤ 5 := by
 unfold funS
 repeat' split
 all_goals decide
def LenF (f : Lit → WS → WS) : Prop := ∀ l w, (f l w).l.length + 4 ≤ w.l.length + l.ts
theorem bodyN_len (f : Lit → WS → WS) (hf : LenF f) (l : List Lit) (w : WS) : ∀ i, i ≤ l.length → (bodyN f l w i).l.length ≤ w.l.length + Lit.tss (l.take i)
 | 0, _ => by simp [bodyN, Lit.tss]
 | i + 1, h => by
  have h1 := bodyN_len f hf l w i (by omega)
  have h5 : Lit.tss (l.take (i + 1)) = Lit.tss (l.take i) + (l.getD i default).ts := by
   rw [take_step (by omega)]
   have : ∀ (a : List Lit) (b : Lit), Lit.tss (a ++ [b]) = Lit.tss a + b.ts := by
    intro a b
    induction a with
    | nil => simp [Lit.tss]
    | cons x r ih => simp only [List.cons_append, Lit.tss, ih]; omega
   exact this _ _
  rw [bodyN]
  split
  ·omega
  ·have h2 := hf (l.getD i default) (commaW i (bodyN f l w i))
   have h3 := commaW_len i (bodyN f l w i)
   omega
theorem ofW_len (w : WS) (a : Agg) : (ofW w a).l.length ≤ w.l.length + a.of_.ts + 3 := by
 have e : sCl.size = 3 := rfl
 unfold ofW; split
 ·rw [mustW_len]; omega
 ·have := exprW_len 17 w a.of_
  rw [putA1_len, e]; omega
theorem headW_len (w : WS) (a : Agg) : (putA (mustW w (varB a.var)) [a.var, sEq, funS a.func, sBr]).l.length ≤ w.l.length + a.var.size + 11 := by
 have e1 : sEq.size = 3 := rfl
 have e2 : sBr.size = 3 := rfl
 have h := funS_len a.func
 have e : sizeA [a.var, sEq, funS a.func, sBr] = a.var.size + (3 + ((funS a.func).size + 3)) := by simp [sizeA, e1, e2]
 rw [putA_len, mustW_len, e]; omega
theorem aggW_len (f : Lit → WS → WS) (hf : LenF f) (w : WS) (a : Agg) : (aggW f w a).l.length ≤ w.l.length + a.var.size + a.of_.ts + Lit.tss a.body + 20 := by
 have e : sEnd.size = 2 := rfl
 unfold aggW; split
 ·rw [badW_len]; omega
 ·rw [putA1_len, e]
  show (bodyN _ _ _ _).l.length + 2 ≤ _
  have h1 := bodyN_len f hf a.body (brW (ofW (putA (mustW w (varB a.var)) [a.var, sEq, funS a.func, sBr]) a) 1) a.body.length (Nat.le_refl _)
  rw [List.take_length] at h1
  have h2 := ofW_len (putA (mustW w (varB a.var)) [a.var, sEq, funS a.func, sBr]) a
  have h3 := headW_len w a
  have h4 : (brW (ofW (putA (mustW w (varB a.var)) [a.var, sEq, funS a.func, sBr]) a) 1).l.length = (ofW (putA (mustW w (varB a.var)) [a.var, sEq, funS a.func, sBr]) a).l.length := rfl
  omega
theorem litK_len (f : Lit → WS → WS) (hf : LenF f) (l : Lit) (w : WS) : (litK f l w).l.length + 4 ≤ w.l.length + l.ts := by
 have h0 := l.ts_eq
 have e : sNot.size = 4 := rfl
 unfold litK
 repeat' split
 ·have h1 := atomW_len (putA w [sNot]) l.atom
  rw [putA1_len, e] at h1; omega
 ·have h1 := atomW_len w l.atom; omega
 ·have h1 := exprW_len 17 w l.left
  rw [badW_len]; omega
 ·have h1 := exprW_len 17 w l.left
  have h2 := exprW_len 17 (putA (exprW 17 w l.left) [cmpS l.op]) l.right
  have h3 := cmpS_len l.op
  rw [putA1_len] at h2; omega
 ·have h1 := aggW_len f hf w l.agg
  have h2 : l.agg.var = l.avar := rfl
  have h3 : l.agg.of_ = l.aof := rfl
  have h4 : l.agg.body = l.abody := rfl
  rw [h2, h3, h4] at h1; omega
 ·rw [badW_len]; omega
theorem litF_len : ∀ n, LenF (litF n)
 | 0 => fun l w => by have := l.ts_pos; rw [litF]; omega
 | n + 1 => fun l w => litK_len (litF n) (litF_len n) l (mustW w (lacksB l))
theorem bodyN_bad {f : Lit → WS → WS} {l : List Lit} {w : WS} {i : Nat} (h : (bodyN f l w i).bad = true) : ∀ k, bodyN f l w (i + k) = bodyN f l w i
 | 0 => rfl
 | k + 1 => by
  have := bodyN_bad h k
  rw [← Nat.add_assoc, bodyN, this, if_pos h]
end Go.Proofs.YtpnclpbkecjinaaGreatDoorR
