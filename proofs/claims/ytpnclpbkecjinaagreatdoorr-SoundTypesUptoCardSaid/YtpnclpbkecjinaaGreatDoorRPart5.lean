/-
  What the proofs of the claims need: XPm, XRd. Part 5 of 7.
-/
import Derived.Test.YtpnclpbkecjinaaGreatDoorRPart4
import Derived.KernelRfl
import Derived.Test.YtpnclpbkecjinaaGreatDoorRRows
namespace Go.Proofs.YtpnclpbkecjinaaGreatDoorR
open Go Go.Al
set_option maxRecDepth 10000
def LitD (n : Nat) : Prop := ∀ (l : Lit) (w : WS), l.size ≤ n → 0 ≤ w.br → w.br ≤ 16 → w.l.length + l.ts ≤ 900000000 → Det Tryz.prog 155 [.ptr 0 0, ag l.c] w.O (.tup []) (litF n l w).H 3
set_option maxHeartbeats 1000000 in
theorem d214 (n : Nat) (ih : LitD n) (w : WS) (ls : List Lit) (hs : Lit.sizes ls ≤ n) (hb0 : 0 ≤ w.br) (hb1 : w.br ≤ 16) (hb : w.l.length + Lit.tss ls + 2 ≤ 900000000) (hn : n ≤ 100000000) :
  Det Tryz.prog 214 [.ptr 0 0, .iv (lits ls)] w.O (.tup []) (bodyN (litF n) ls w ls.length).H 3 := by
 have e4 : sCm.size = 2 := rfl
 have hlt := Lit.length_sizes ls
 refine det_end tyA_ok Tryz.func214 rfl (by decide) Tryz.ntmps214 rfl (by simp) ?_
 refine gA rfl ?_
 refine go_for 0 ls.length (Nat.zero_le _) (fun i => ⟨[(0, .ptr 0 0), (6, .iv (lits ls)), (7, pI ls.length), (8, pI i)], [(0, some ((bodyN (litF n) ls w i).cAt 0 2)), (2, some (.brow (bodyN (litF n) ls w i).l 5))], 3⟩) (fun _ => True) _ trivial
  (wkW (w := w) rfl rfl rfl rfl rfl (.refl _) (.refl _) rfl rfl rfl rfl rfl ⟨.refl _, rfl, .refl _, rfl, .refl _, rfl, .refl _, rfl, trivial⟩) fun i hi _ => ?_
 have hln := bodyN_len (litF n) (litF_len n) ls w i hi
 have hbr := bodyN_br (litF n) (litF_br n) ls w i
 have hsl := Lit.tss_le ls i
 refine gA rfl (zI (fun h1 => ?_) fun h1 => ?_)
 rotate_left
 ·have h1 : ls.length ≤ i := zG h1
  have hie : i = ls.length := by omega
  subst hie
  refine gA rfl weA
 have h1 : i < ls.length := zN h1
 have hst := Lit.tss_take ls i h1
 have hsg := Lit.sizes_get ls i h1
 have hs1 : bodyN (litF n) ls w (i + 1) = if (bodyN (litF n) ls w i).bad = true then bodyN (litF n) ls w i else litF n (ls.getD i default) (commaW i (bodyN (litF n) ls w i)) := rfl
 have hbad := fun h => bodyN_bad (f := litF n) (l := ls) (w := w) (i := i) h (ls.length - i)
 rw [Nat.add_sub_cancel' (Nat.le_of_lt h1)] at hbad
 have hcl := commaW_len i (bodyN (litF n) ls w i)
 have hcb := commaW_br i (bodyN (litF n) ls w i)
 generalize bodyN (litF n) ls w i = w2 at *
 refine gA rfl (zI (fun g => ?_) fun g => ?_)
 ·have g : w2.bad = true := g
  rw [hbad g]
  refine gA rfl weA
 have g : ¬ w2.bad = true := by
  have g : w2.bad = false := g
  rw [g]; decide
 rw [if_neg g] at hs1
 refine gA rfl (zI (fun h2 => ?_) fun h2 => ?_)
 ·have h2 : ¬ i = 0 := by have := zT h2; omega
  rw [commaW, if_neg h2] at hs1 hcl hcb
  refine gA rfl (gwpA (d147 w2 [sCm] (by simp) (by rw [sizeA1, e4]; omega)) ?_)
  refine gA rfl (gwA (ih (ls.getD i default) (putA w2 [sCm]) (by omega) (by omega) (by omega) (by omega)) ?_)
  refine gA rfl ⟨h1, trivial, _, wkWA (hs1.symm)⟩
 ·have h2 : i = 0 := by have := zF h2; omega
  rw [commaW, if_pos h2] at hs1 hcl hcb
  refine gA rfl (gwA (ih (ls.getD i default) w2 (by omega) (by omega) (by omega) (by omega)) ?_)
  refine gA rfl ⟨h1, trivial, _, wkWA (hs1.symm)⟩
def Agg.ts (a : Agg) : Nat := a.var.size + a.of_.ts + Lit.tss a.body
set_option maxHeartbeats 4000000 in
theorem d190 (n : Nat) (ih : LitD n) (w : WS) (a : Agg) (hs : Lit.sizes a.body ≤ n) (hb0 : 0 ≤ w.br) (hb1 : w.br ≤ 16) (hb : w.l.length + a.ts + 30 ≤ 900000000) (hn : n ≤ 100000000) :
  Det Tryz.prog 190 [.ptr 0 0, ag a.c] w.O (.tup []) (aggW (litF n) w a).H 3 := by
 refine Det.le (args := [.ptr 0 0, ag a.c1]) ?_ ⟨.refl _, a.le1, trivial⟩
 have e4 : sEnd.size = 2 := rfl
 have e5 : sCl.size = 3 := rfl
 have hlt := Lit.length_sizes a.body
 have hts : a.ts = a.var.size + a.of_.ts + Lit.tss a.body := rfl
 have hW : ¬ (a.func < 1 ∨ 5 ≤ a.func ∨ 16 ≤ w.br ∨ a.body.length = 0) → aggW (litF n) w a = putA (brW (bodyN (litF n) a.body (brW (ofW (putA (mustW w (varB a.var)) [a.var, sEq, funS a.func, sBr]) a) 1) a.body.length) (-1)) [sEnd] := fun h => if_neg h
 have hB : a.func < 1 ∨ 5 ≤ a.func ∨ 16 ≤ w.br ∨ a.body.length = 0 → aggW (litF n) w a = badW w := fun h => if_pos h
 have hh := headW_len w a
 have hh2 := ofW_len (putA (mustW w (varB a.var)) [a.var, sEq, funS a.func, sBr]) a
 have hh3 := ofW_br (putA (mustW w (varB a.var)) [a.var, sEq, funS a.func, sBr]) a
 rw [putA_br, mustW_br] at hh3
 have hh4 : (brW (ofW (putA (mustW w (varB a.var)) [a.var, sEq, funS a.func, sBr]) a) 1).l.length = (ofW (putA (mustW w (varB a.var)) [a.var, sEq, funS a.func, sBr]) a).l.length := rfl
 have hh5 : (brW (ofW (putA (mustW w (varB a.var)) [a.var, sEq, funS a.func, sBr]) a) 1).br = (ofW (putA (mustW w (varB a.var)) [a.var, sEq, funS a.func, sBr]) a).br + 1 := rfl
 have hh6 := bodyN_len (litF n) (litF_len n) a.body (brW (ofW (putA (mustW w (varB a.var)) [a.var, sEq, funS a.func, sBr]) a) 1) a.body.length (Nat.le_refl _)
 rw [List.take_length] at hh6
 have hh7 := bodyN_br (litF n) (litF_br n) a.body (brW (ofW (putA (mustW w (varB a.var)) [a.var, sEq, funS a.func, sBr]) a) 1) a.body.length
 have hz1 : sizeA [a.var, sEq, funS a.func, sBr] = a.var.size + (3 + ((funS a.func).size + 3)) := by simp [sizeA, sEq, sBr]; rfl
 have hz2 := funS_len a.func
 obtain ⟨func, var, of_, body⟩ := a
 dsimp only at *
 refine det_end tyA_ok Tryz.func190 rfl (by decide) Tryz.ntmps190 rfl (by simp) ?_
 refine gA rfl (zI (fun g1 => ?_) fun g1 => ?_)
 rotate_left
 ·rw [hB (.inl (zT g1))]
  refine gA rfl weA
 refine gA rfl (zI (fun g2 => ?_) fun g2 => ?_)
 rotate_left
 ·rw [hB (.inr (.inl (zT g2)))]
  refine gA rfl weA
 refine gA rfl (zI (fun g3 => ?_) fun g3 => ?_)
 rotate_left
 ·rw [hB (.inr (.inr (.inl (zT g3))))]
  refine gA rfl weA
 refine gA rfl (zI (fun g4 => ?_) fun g4 => ?_)
 ·rw [hB (.inr (.inr (.inr (Int.ofNat_eq_zero.1 (zT g4)))))]
  refine gA rfl weA
 have g1 : ¬ func < 1 := zF g1
 have g2 : ¬ func ≥ 5 := zF g2
 have g3 : ¬ w.br ≥ 16 := zF g3
 have g4 : ¬ body.length = 0 := fun h => zF g4 (Int.ofNat_eq_zero.2 h)
 rw [hW (by rintro (h | h | h | h) <;> omega)]
 have hf : func = 1 ∨ func = 2 ∨ func = 3 ∨ func = 4 := by omega
 clear hW hB
 rcases hf with rfl | rfl | rfl | rfl
 ·have e : funS 1 = ⟨#[99, 111, 117, 110, 116]⟩ := rfl
  rw [e] at hh hh2 hh3 hh4 hh5 hh6 hh7 hz1 hz2 ⊢
  refine gA rfl (zp (c148 var) ?_)
  refine gA rfl (gwA (d146 w (varB var)) ?_)
  refine gA rfl (go_dwp (d147 (mustW w (varB var)) [var, sEq, ⟨#[99, 111, 117, 110, 116]⟩, sBr] (by simp) (by rw [hz1, mustW_len]; omega)) rfl rfl rfl rfl rfl rfl rfl rfl rfl rfl rfl rfl rfl rfl rfl rfl (by (repeat' (first | exact trivial | exact rfl | exact PVle.refl _ | exact PVle.bk (by assumption) | apply And.intro)) <;> first | omega | (simp only [Int.toNat_natCast]; omega) | (simp; done) | (simp; omega)) rfl (by (repeat' (first | exact trivial | exact rfl | exact PVle.refl _ | exact PVle.bk (by assumption) | apply And.intro)) <;> first | omega | (simp only; omega) | (simp; done) | (simp; omega)) ?_)
  generalize hW1 : putA (mustW w (varB var)) [var, sEq, ⟨#[99, 111, 117, 110, 116]⟩, sBr] = w1 at *
  have eo : ofW w1 ⟨1, var, of_, body⟩ = mustW w1 (noExprB of_) := rfl
  rw [eo] at hh2 hh3 hh4 hh5 hh6 hh7 ⊢
  refine gA rfl (zI (fun q => ?_) fun q => ?_)
  rotate_left
  ·exact absurd (show true = false from q) (by decide)
  refine gA rfl (zp (c211 of_) ?_)
  refine gA rfl (gwA (d146 w1 (noExprB of_)) ?_)
  generalize mustW w1 (noExprB of_) = w2 at *
  refine gA rfl (gwA (d214 n ih (brW w2 1) body hs (by omega) (by omega) (by omega) hn) ?_)
  generalize bodyN (litF n) body (brW w2 1) body.length = w3 at *
  refine gA rfl (go_wp (d147 (brW w3 (-1)) [sEnd] (by simp) (by rw [sizeA1, e4]; show w3.l.length + 2 ≤ _; omega)) rfl rfl rfl rfl rfl rfl rfl rfl rfl rfl rfl rfl ?_)
  refine gA rfl weA
 ·have e : funS 2 = ⟨#[115, 117, 109]⟩ := rfl
  rw [e] at hh hh2 hh3 hh4 hh5 hh6 hh7 hz1 hz2 ⊢
  refine gA rfl (zp (c148 var) ?_)
  refine gA rfl (gwA (d146 w (varB var)) ?_)
  refine gA rfl (go_dwp (d147 (mustW w (varB var)) [var, sEq, ⟨#[115, 117, 109]⟩, sBr] (by simp) (by rw [hz1, mustW_len]; omega)) rfl rfl rfl rfl rfl rfl rfl rfl rfl rfl rfl rfl rfl rfl rfl rfl (by (repeat' (first | exact trivial | exact rfl | exact PVle.refl _ | exact PVle.bk (by assumption) | apply And.intro)) <;> first | omega | (simp only [Int.toNat_natCast]; omega) | (simp; done) | (simp; omega)) rfl (by (repeat' (first | exact trivial | exact rfl | exact PVle.refl _ | exact PVle.bk (by assumption) | apply And.intro)) <;> first | omega | (simp only; omega) | (simp; done) | (simp; omega)) ?_)
  generalize hW1 : putA (mustW w (varB var)) [var, sEq, ⟨#[115, 117, 109]⟩, sBr] = w1 at *
  have eo : ofW w1 ⟨2, var, of_, body⟩ = putA (exprW 17 w1 of_) [sCl] := rfl
  rw [eo] at hh2 hh3 hh4 hh5 hh6 hh7 ⊢
  refine gA rfl (zI (fun q => ?_) fun q => ?_)
  ·exact absurd (show false = true from q) (by decide)
  have hx := exprW_len 17 w1 of_
  refine gA rfl (gwA (d189' w1 of_ (by omega)) ?_)
  refine gA rfl (gwpA (d147 (exprW 17 w1 of_) [sCl] (by simp) (by rw [sizeA1, e5]; omega)) ?_)
  generalize putA (exprW 17 w1 of_) [sCl] = w2 at *
  refine gA rfl (gwA (d214 n ih (brW w2 1) body hs (by omega) (by omega) (by omega) hn) ?_)
  generalize bodyN (litF n) body (brW w2 1) body.length = w3 at *
  refine gA rfl (go_wp (d147 (brW w3 (-1)) [sEnd] (by simp) (by rw [sizeA1, e4]; show w3.l.length + 2 ≤ _; omega)) rfl rfl rfl rfl rfl rfl rfl rfl rfl rfl rfl rfl ?_)
  refine gA rfl weA
 ·have e : funS 3 = ⟨#[109, 105, 110]⟩ := rfl
  rw [e] at hh hh2 hh3 hh4 hh5 hh6 hh7 hz1 hz2 ⊢
  refine gA rfl (zp (c148 var) ?_)
  refine gA rfl (gwA (d146 w (varB var)) ?_)
  refine gA rfl (go_dwp (d147 (mustW w (varB var)) [var, sEq, ⟨#[109, 105, 110]⟩, sBr] (by simp) (by rw [hz1, mustW_len]; omega)) rfl rfl rfl rfl rfl rfl rfl rfl rfl rfl rfl rfl rfl rfl rfl rfl (by (repeat' (first | exact trivial | exact rfl | exact PVle.refl _ | exact PVle.bk (by assumption) | apply And.intro)) <;> first | omega | (simp only [Int.toNat_natCast]; omega) | (simp; done) | (simp; omega)) rfl (by (repeat' (first | exact trivial | exact rfl | exact PVle.refl _ | exact PVle.bk (by assumption) | apply And.intro)) <;> first | omega | (simp only; omega) | (simp; done) | (simp; omega)) ?_)
  generalize hW1 : putA (mustW w (varB var)) [var, sEq, ⟨#[109, 105, 110]⟩, sBr] = w1 at *
  have eo : ofW w1 ⟨3, var, of_, body⟩ = putA (exprW 17 w1 of_) [sCl] := rfl
  rw [eo] at hh2 hh3 hh4 hh5 hh6 hh7 ⊢
  refine gA rfl (zI (fun q => ?_) fun q => ?_)
  ·exact absurd (show false = true from q) (by decide)
  have hx := exprW_len 17 w1 of_
  refine gA rfl (gwA (d189' w1 of_ (by omega)) ?_)
  refine gA rfl (gwpA (d147 (exprW 17 w1 of_) [sCl] (by simp) (by rw [sizeA1, e5]; omega)) ?_)
  generalize putA (exprW 17 w1 of_) [sCl] = w2 at *
  refine gA rfl (gwA (d214 n ih (brW w2 1) body hs (by omega) (by omega) (by omega) hn) ?_)
  generalize bodyN (litF n) body (brW w2 1) body.length = w3 at *
  refine gA rfl (go_wp (d147 (brW w3 (-1)) [sEnd] (by simp) (by rw [sizeA1, e4]; show w3.l.length + 2 ≤ _; omega)) rfl rfl rfl rfl rfl rfl rfl rfl rfl rfl rfl rfl ?_)
  refine gA rfl weA
 ·have e : funS 4 = ⟨#[109, 97, 120]⟩ := rfl
  rw [e] at hh hh2 hh3 hh4 hh5 hh6 hh7 hz1 hz2 ⊢
  refine gA rfl (zp (c148 var) ?_)
  refine gA rfl (gwA (d146 w (varB var)) ?_)
  refine gA rfl (go_dwp (d147 (mustW w (varB var)) [var, sEq, ⟨#[109, 97, 120]⟩, sBr] (by simp) (by rw [hz1, mustW_len]; omega)) rfl rfl rfl rfl rfl rfl rfl rfl rfl rfl rfl rfl rfl rfl rfl rfl (by (repeat' (first | exact trivial | exact rfl | exact PVle.refl _ | exact PVle.bk (by assumption) | apply And.intro)) <;> first | omega | (simp only [Int.toNat_natCast]; omega) | (simp; done) | (simp; omega)) rfl (by (repeat' (first | exact trivial | exact rfl | exact PVle.refl _ | exact PVle.bk (by assumption) | apply And.intro)) <;> first | omega | (simp only; omega) | (simp; done) | (simp; omega)) ?_)
  generalize hW1 : putA (mustW w (varB var)) [var, sEq, ⟨#[109, 97, 120]⟩, sBr] = w1 at *
  have eo : ofW w1 ⟨4, var, of_, body⟩ = putA (exprW 17 w1 of_) [sCl] := rfl
  rw [eo] at hh2 hh3 hh4 hh5 hh6 hh7 ⊢
  refine gA rfl (zI (fun q => ?_) fun q => ?_)
  ·exact absurd (show false = true from q) (by decide)
  have hx := exprW_len 17 w1 of_
  refine gA rfl (gwA (d189' w1 of_ (by omega)) ?_)
  refine gA rfl (gwpA (d147 (exprW 17 w1 of_) [sCl] (by simp) (by rw [sizeA1, e5]; omega)) ?_)
  generalize putA (exprW 17 w1 of_) [sCl] = w2 at *
  refine gA rfl (gwA (d214 n ih (brW w2 1) body hs (by omega) (by omega) (by omega) hn) ?_)
  generalize bodyN (litF n) body (brW w2 1) body.length = w3 at *
  refine gA rfl (go_wp (d147 (brW w3 (-1)) [sEnd] (by simp) (by rw [sizeA1, e4]; show w3.l.length + 2 ≤ _; omega)) rfl rfl rfl rfl rfl rfl rfl rfl rfl rfl rfl rfl ?_)
  refine gA rfl weA
set_option maxHeartbeats 4000000 in
theorem d155_succ (n : Nat) (ih : LitD n) (hn : n ≤ 100000000) : LitD (n + 1) := by
 intro l w hs hb0 hb1 hb
 have e4 : sNot.size = 4 := rfl
 have hsz := l.size_eq
 have hts := l.ts_eq
 have hag : l.agg.ts = l.avar.size + l.aof.ts + Lit.tss l.abody := rfl
 have hL : litF (n + 1) l w = litK (litF n) l (mustW w (lacksB l)) := rfl
 rw [hL]
 have hm1 : (mustW w (lacksB l)).l.length = w.l.length := rfl
 have hm2 := mustW_br w (lacksB l)
 have hx := exprW_len 17 (mustW w (lacksB l)) l.left
 obtain ⟨kind, atom, op, left, right, afunc, avar, aof, abody, at_⟩ := l
 dsimp only [Lit.atom, Lit.left, Lit.right, Lit.avar, Lit.aof, Lit.abody] at hsz hts hag hx
 refine det_end tyA_ok Tryz.func155 rfl (by decide) Tryz.ntmps155 rfl (by simp) ?_
 refine gA rfl (zp (c188 (.mk kind atom op left right afunc avar aof abody at_)) ?_)
 refine gA rfl (gwA (d146 w (lacksB (.mk kind atom op left right afunc avar aof abody at_))) ?_)
 generalize mustW w (lacksB (.mk kind atom op left right afunc avar aof abody at_)) = w1 at *
 have hK : litK (litF n) (.mk kind atom op left right afunc avar aof abody at_) w1 = if kind = 2 then atomW (putA w1 [sNot]) atom else if kind = 1 then atomW w1 atom
  else if kind = 3 then (if op < 1 ∨ 7 ≤ op then badW (exprW 17 w1 left) else exprW 17 (putA (exprW 17 w1 left) [cmpS op]) right)
  else if kind = 4 then aggW (litF n) w1 (Lit.mk kind atom op left right afunc avar aof abody at_).agg else badW w1 := rfl
 rw [hK]
 refine gA rfl (zI (fun k2 => ?_) fun k2 => ?_)
 ·have k2 : kind = 2 := zT k2
  rw [if_pos k2]
  refine gA rfl (gwpA (d147 w1 [sNot] (by simp) (by rw [sizeA1, e4]; omega)) ?_)
  refine gA rfl (gwA (d104 (putA w1 [sNot]) atom (by rw [putA1_len, e4]; omega)) ?_)
  refine gA rfl weA
 have k2 : ¬ kind = 2 := zF k2
 rw [if_neg k2]
 refine gA rfl (zI (fun k1 => ?_) fun k1 => ?_)
 ·have k1 : kind = 1 := zT k1
  rw [if_pos k1]
  refine gA rfl (gwA (d104 w1 atom (by omega)) ?_)
  refine gA rfl weA
 have k1 : ¬ kind = 1 := zF k1
 rw [if_neg k1]
 refine gA rfl (zI (fun k3 => ?_) fun k3 => ?_)
 rotate_left
 ·have k3 : ¬ kind = 3 := zF k3
  rw [if_neg k3]
  refine gA rfl (zI (fun k4 => ?_) fun k4 => ?_)
  ·have k4 : kind = 4 := zT k4
   rw [if_pos k4]
   refine gA rfl (gwA (d190 n ih w1 (Lit.mk kind atom op left right afunc avar aof abody at_).agg (by show Lit.sizes abody ≤ n; omega) (by omega) (by omega) (by omega) hn) ?_)
   refine gA rfl weA
  ·have k4 : ¬ kind = 4 := zF k4
   rw [if_neg k4]
   refine gA rfl weA
 have k3 : kind = 3 := zT k3
 rw [if_pos k3]
 refine gA rfl (gwA (d189' w1 left (by omega)) ?_)
 refine gA rfl (zI (fun g1 => ?_) fun g1 => ?_)
 rotate_left
 ·rw [if_pos (.inl (zT g1))]
  refine gA rfl weA
 refine gA rfl (zI (fun g2 => ?_) fun g2 => ?_)
 ·rw [if_pos (.inr (zT g2))]
  refine gA rfl weA
 have g1 : ¬ op < 1 := zF g1
 have g2 : ¬ op ≥ 7 := zF g2
 rw [if_neg (by rintro (h | h) <;> omega)]
 generalize exprW 17 w1 left = w2 at *
 have ho : op = 1 ∨ op = 2 ∨ op = 3 ∨ op = 4 ∨ op = 5 ∨ op = 6 := by omega
 clear hK hL
 rcases ho with rfl | rfl | rfl | rfl | rfl | rfl
 ·have e : cmpS 1 = ⟨#[32, 61, 32]⟩ := rfl
  have e6 : ((⟨#[32, 61, 32]⟩ : Str)).size = 3 := rfl
  rw [e]
  refine goR rfl (by dsimp only [Lit.op]; exact (by (repeat' (first | exact trivial | exact rfl | exact PVle.refl _ | exact PVle.bk (by assumption) | apply And.intro)) <;> first | omega | (simp only [Int.toNat_natCast]; omega) | (simp; done) | (simp; omega))) (go_wp (d147 w2 [⟨#[32, 61, 32]⟩] (by simp) (by rw [sizeA1, e6]; omega)) rfl rfl rfl rfl rfl rfl rfl rfl rfl rfl rfl rfl ?_)
  refine gA rfl (gwA (d189' (putA w2 [⟨#[32, 61, 32]⟩]) right (by rw [putA1_len, e6]; omega)) ?_)
  refine gA rfl weA
 ·have e : cmpS 2 = ⟨#[32, 33, 61, 32]⟩ := rfl
  have e6 : ((⟨#[32, 33, 61, 32]⟩ : Str)).size = 4 := rfl
  rw [e]
  refine goR rfl (by dsimp only [Lit.op]; exact (by (repeat' (first | exact trivial | exact rfl | exact PVle.refl _ | exact PVle.bk (by assumption) | apply And.intro)) <;> first | omega | (simp only [Int.toNat_natCast]; omega) | (simp; done) | (simp; omega))) (go_wp (d147 w2 [⟨#[32, 33, 61, 32]⟩] (by simp) (by rw [sizeA1, e6]; omega)) rfl rfl rfl rfl rfl rfl rfl rfl rfl rfl rfl rfl ?_)
  refine gA rfl (gwA (d189' (putA w2 [⟨#[32, 33, 61, 32]⟩]) right (by rw [putA1_len, e6]; omega)) ?_)
  refine gA rfl weA
 ·have e : cmpS 3 = ⟨#[32, 60, 32]⟩ := rfl
  have e6 : ((⟨#[32, 60, 32]⟩ : Str)).size = 3 := rfl
  rw [e]
  refine goR rfl (by dsimp only [Lit.op]; exact (by (repeat' (first | exact trivial | exact rfl | exact PVle.refl _ | exact PVle.bk (by assumption) | apply And.intro)) <;> first | omega | (simp only [Int.toNat_natCast]; omega) | (simp; done) | (simp; omega))) (go_wp (d147 w2 [⟨#[32, 60, 32]⟩] (by simp) (by rw [sizeA1, e6]; omega)) rfl rfl rfl rfl rfl rfl rfl rfl rfl rfl rfl rfl ?_)
  refine gA rfl (gwA (d189' (putA w2 [⟨#[32, 60, 32]⟩]) right (by rw [putA1_len, e6]; omega)) ?_)
  refine gA rfl weA
 ·have e : cmpS 4 = ⟨#[32, 60, 61, 32]⟩ := rfl
  have e6 : ((⟨#[32, 60, 61, 32]⟩ : Str)).size = 4 := rfl
  rw [e]
  refine goR rfl (by dsimp only [Lit.op]; exact (by (repeat' (first | exact trivial | exact rfl | exact PVle.refl _ | exact PVle.bk (by assumption) | apply And.intro)) <;> first | omega | (simp only [Int.toNat_natCast]; omega) | (simp; done) | (simp; omega))) (go_wp (d147 w2 [⟨#[32, 60, 61, 32]⟩] (by simp) (by rw [sizeA1, e6]; omega)) rfl rfl rfl rfl rfl rfl rfl rfl rfl rfl rfl rfl ?_)
  refine gA rfl (gwA (d189' (putA w2 [⟨#[32, 60, 61, 32]⟩]) right (by rw [putA1_len, e6]; omega)) ?_)
  refine gA rfl weA
 ·have e : cmpS 5 = ⟨#[32, 62, 32]⟩ := rfl
  have e6 : ((⟨#[32, 62, 32]⟩ : Str)).size = 3 := rfl
  rw [e]
  refine goR rfl (by dsimp only [Lit.op]; exact (by (repeat' (first | exact trivial | exact rfl | exact PVle.refl _ | exact PVle.bk (by assumption) | apply And.intro)) <;> first | omega | (simp only [Int.toNat_natCast]; omega) | (simp; done) | (simp; omega))) (go_wp (d147 w2 [⟨#[32, 62, 32]⟩] (by simp) (by rw [sizeA1, e6]; omega)) rfl rfl rfl rfl rfl rfl rfl rfl rfl rfl rfl rfl ?_)
  refine gA rfl (gwA (d189' (putA w2 [⟨#[32, 62, 32]⟩]) right (by rw [putA1_len, e6]; omega)) ?_)
  refine gA rfl weA
 ·have e : cmpS 6 = ⟨#[32, 62, 61, 32]⟩ := rfl
  have e6 : ((⟨#[32, 62, 61, 32]⟩ : Str)).size = 4 := rfl
  rw [e]
  refine goR rfl (by dsimp only [Lit.op]; exact (by (repeat' (first | exact trivial | exact rfl | exact PVle.refl _ | exact PVle.bk (by assumption) | apply And.intro)) <;> first | omega | (simp only [Int.toNat_natCast]; omega) | (simp; done) | (simp; omega))) (go_wp (d147 w2 [⟨#[32, 62, 61, 32]⟩] (by simp) (by rw [sizeA1, e6]; omega)) rfl rfl rfl rfl rfl rfl rfl rfl rfl rfl rfl rfl ?_)
  refine gA rfl (gwA (d189' (putA w2 [⟨#[32, 62, 61, 32]⟩]) right (by rw [putA1_len, e6]; omega)) ?_)
  refine gA rfl weA
theorem litD : ∀ n, n ≤ 100000001 → LitD n
 | 0, _ => fun l w hs => by have := l.size_pos; omega
 | n + 1, h => d155_succ n (litD n (by omega)) (by omega)
abbrev WS.o : WS := ⟨true, [], false, 0⟩
section
variable {nt : Nat} {Q : AQ} {k : List KI} {s : AS}
def wN (s : AS) (i : Nat) : AS := match s with | ⟨f, h, n⟩ => ⟨f, (i, some (WS.o.cAt i n)) :: (n, some (.brow [] 5)) :: h, n + 1⟩
theorem go_wnew {P : Program} {c : Code} {s' : AS} (i : Nat) (hi : s.h.get i = some (.cells [.iv (.v (.pointer none)), .iv (.v (.slice none 0 0)), pB false, pI 0] (some 180)))
  (hs : wN s i = s') (h : GO P nt (.code c :: k) Q s') : GO P nt (.code c :: k) Q s := by
 subst hs
 intro M N a w hf
 obtain ⟨sf, sh, sn⟩ := s
 obtain ⟨h1, h2⟩ := hf.1.virtB 5
 have hlt : i < sn := hf.1.used i _ hi
 have hne : i ≠ sn := fun e => by omega
 have hget : AH.get ((sn, some (AO.brow [] 5)) :: sh) i = some (.cells [.iv (.v (.pointer none)), .iv (.v (.slice none 0 0)), pB false, pI 0] (some 180)) := by
  rw [AH.get_cons, if_neg hne]; exact hi
 obtain ⟨c0, T, e1, e2, e3, e4, e5⟩ := h2.obj i _ hget
 have hv : ∀ (j : Nat) (p : PV), [PV.optr true i, .sl sn 0 0 1, pB false, pI 0][j]? = some p → VR M N (· < sn + 1) p (c0.getD j undef) := by
  intro j p hp
  match j, hp with
  | 0, hp =>
   cases hp
   have := e4 0 _ rfl
   generalize c0.getD 0 undef = v at this ⊢
   cases this with
   | iv _ _ h => cases h with
    | v => exact .optr true i (Nat.lt_succ_of_lt hlt)
  | 1, hp =>
   cases hp
   have := e4 1 _ rfl
   generalize c0.getD 1 undef = v at this ⊢
   cases this with
   | iv _ _ h => cases h with
    | v => exact .sl0 _ _ (Nat.lt_succ_self _)
  | 2, hp => exact e4 2 p hp
  | 3, hp => exact e4 3 p hp
  | j + 4, hp => cases hp
 obtain ⟨g1, g2⟩ := h2.write (i := i) (o0 := .cells [.iv (.v (.pointer none)), .iv (.v (.slice none 0 0)), pB false, pI 0] (some 180)) hget rfl w (WS.o.cAt i sn) rfl rfl rfl rfl (fun _ _ => rfl) ⟨c0, T, e1, e2, e3, hv, e5⟩
 have hf1 : Fits M N ⟨sf, (i, some (WS.o.cAt i sn)) :: (sn, some (.brow [] 5)) :: sh, sn + 1⟩ nt a w :=
  ⟨g2, fun k => (hf.2.1 k).mono (.refl _) (.refl _ _) (fun i hi => Nat.lt_succ_of_lt hi), hf.2.2⟩
 exact AW.then h hf1 fun e a2 w2 M2 N2 s2 hx2 hf2 hr2 => ⟨M2, N2, s2, (h1.trans g1).trans hx2, hf2, hr2⟩
end
def WS.told (w : WS) : PV := .tup [pS (if w.bad = true then ⟨#[]⟩ else ⟨w.l.toArray⟩), pI (if w.bad = true then 50 else 0)]
theorem d105 (w : WS) : Det Tryz.prog 105 [.ptr 0 0] w.O w.told [] 2 := by
 refine det_end tyA_ok Tryz.func105 rfl (by decide) Tryz.ntmps105 rfl (by simp) ?_
 refine gA rfl (zI (fun g => ?_) fun g => ?_)
 ·have g : w.bad = true := g
  unfold WS.told
  rw [if_pos g, if_pos g]
  refine gA rfl (end_det [] (by first | exact .inr rfl | exact .inl rfl) rfl (zW trivial))
 ·have g : ¬ w.bad = true := by
   have g : w.bad = false := g
   rw [g]; decide
  unfold WS.told
  rw [if_neg g, if_neg g]
  refine gA rfl (zq [0, 1] (d150 w) ?_)
  refine gA rfl (end_det [] (by first | exact .inr rfl | exact .inl rfl) rfl (zW trivial))
def atomP (a : Atom) : PV := (atomW WS.o a).told
def litP (l : Lit) : PV := (litF l.size l WS.o).told
theorem c61 (a : Atom) (hb : a.ts ≤ 900000000) : Pure Tryz.prog 61 [ag a.c] (atomP a) := by
 refine pure_end tyA_ok Tryz.func61 rfl (by decide) Tryz.ntmps61 rfl (by simp) rfl ?_
 refine gM 12 rfl (go_wnew 1 rfl rfl ?_)
 refine gA rfl (gwA (d104 WS.o a (by simpa using hb)) ?_)
 refine gA rfl (zq [1, 3] (d105 (atomW WS.o a)) ?_)
 refine gA rfl (zL (.of_eq ?_))
 rfl
theorem c108 (l : Lit) (hb : l.ts ≤ 900000000) (hs : l.size ≤ 100000000) : Pure Tryz.prog 108 [ag l.c] (litP l) := by
 refine pure_end tyA_ok Tryz.func108 rfl (by decide) Tryz.ntmps108 rfl (by simp) rfl ?_
 refine gM 12 rfl (go_wnew 1 rfl rfl ?_)
 refine gA rfl (gwA (litD l.size (by omega) l WS.o (Nat.le_refl _) (by decide) (by decide) (by simpa using hb)) ?_)
 refine gA rfl (zq [1, 3] (d105 (litF l.size l WS.o)) ?_)
 refine gA rfl (zL (.of_eq ?_))
 rfl
def relErr (d : Decl) (i k : Int) : Int :=
 if (d.types.any fun x => !decide (x = 1) && !decide (x = 2)) = true ∨ nameB d.name = false then 1
 else if i ≥ 64 ∨ (d.types.length : Int) > 8 then 66 else if k > 0 then 60 else 0
theorem c107 (d : Decl) (i k : Int) : Pure Tryz.prog 107 [ag d.c, pI i, pI k] (pI (relErr d i k)) := by
 refine pure_end tyA_ok Tryz.func107 rfl (by decide) Tryz.ntmps107 rfl (by simp) rfl ?_
 refine gA rfl (zq [] (d153 d.types) ?_)
 refine gA rfl (zI (fun g1 => ?_) fun g1 => ?_)
 rotate_left
 ·rw [relErr, if_pos (.inl (by simpa using g1))]
  refine gA rfl (zL (.of_eq ?_))
  rfl
 have g1 : ¬ (d.types.any fun x => !decide (x = 1) && !decide (x = 2)) = true := by
  have g1 : (d.types.any fun x => !decide (x = 1) && !decide (x = 2)) = false := g1
  rw [g1]; decide
 refine gA rfl (zp (c97 d.name) ?_)
 refine gA rfl (zI (fun g2 => ?_) fun g2 => ?_)
 ·have g2 : nameB d.name = false := by simpa using g2
  rw [relErr, if_pos (.inr g2)]
  refine gA rfl (zL (.of_eq ?_))
  rfl
 have g2 : ¬ nameB d.name = false := by
  have g2 : nameB d.name = true := by simpa using g2
  rw [g2]; decide
 rw [relErr, if_neg (by rintro (h | h); exact g1 h; exact g2 h)]
 refine gA rfl (zI (fun g3 => ?_) fun g3 => ?_)
 rotate_left
 ·rw [if_pos (.inl (by simpa using g3))]
  refine gA rfl (zL (.of_eq ?_))
  rfl
 have g3 : ¬ i ≥ 64 := zF g3
 refine gA rfl (zI (fun g4 => ?_) fun g4 => ?_)
 ·rw [if_pos (.inr (zT g4))]
  refine gA rfl (zL (.of_eq ?_))
  rfl
 have g4 : ¬ (d.types.length : Int) > 8 := zF g4
 rw [if_neg (by rintro (h | h); exact g3 h; exact g4 h)]
 refine gA rfl (zI (fun g5 => ?_) fun g5 => ?_)
 ·rw [if_pos (zT g5)]
  refine gA rfl (zL (.of_eq ?_))
  rfl
 ·rw [if_neg (zF g5)]
  refine gA rfl (zL (.of_eq ?_))
  rfl
abbrev Spot := (KC.si .i64).K
def Spot.z : Spot := (ByteArray.empty, 0)
def Spot.c (s : Spot) : List IV := [iS s.1, iI s.2]
def spE (s : Spot) : IV := .agg s.c
def spZ : Value := .agg #[.string ByteArray.empty, .int .i64 0]
def dvP : PV → Spot
 | .agg [.iv (.v (.string s)), .iv (.v (.int _ a))] => (s, a)
 | _ => Spot.z
abbrev UM := List (Spot × Spot)
abbrev KM := List (Spot × Int)
abbrev upO (m : UM) : AO := .map (.si .i64) spE Spot.z spZ dvP m
abbrev upI (m : UM) : IV := .imap (.si .i64) spE Spot.z spZ m
abbrev kdO (m : KM) : AO := .map (.si .i64) evI 0 (.int .i64 0) dvI m
abbrev kdI (m : KM) : IV := .imap (.si .i64) evI 0 (.int .i64 0) m
structure Want where
 lit : Int
 at_ : Spot
 kind : Int
 has : Int
 deriving Inhabited
def Want.c (w : Want) : List IV := [iI w.lit, iS w.at_.1, iI w.at_.2, iI w.kind, iI w.has]
structure TS where
 up : UM
 ws : List Want
 kind : KM
abbrev TS.cell (r : Rule) (u j n k : Nat) : AO := .cells [.iv (bookI r), .mp u, .sl j 0 n 5, .mp k]
abbrev TS.O (r : Rule) (t : TS) : List AO := [TS.cell r 1 2 t.ws.length 3, upO t.up, rowI 5 t.ws Want.c, kdO t.kind]
abbrev TS.K (r : Rule) (t : TS) : AH := [(0, some (TS.cell r 1 2 t.ws.length 3)), (1, some (upO t.up)), (2, some (rowI 5 t.ws Want.c)), (3, some (kdO t.kind))]
abbrev TS.H (r : Rule) (t : TS) : AH := [(0, some (TS.cell r 1 4 t.ws.length 3)), (1, some (upO t.up)), (4, some (rowI 5 t.ws Want.c)), (3, some (kdO t.kind))]
def spotF (r : Rule) (s : Str) (w : Int) : Spot := (s, if lkD .str (occM (outerOcc r)) s 0 > 0 then -1 else w)
theorem d136 (r : Rule) (t : TS) (s : Str) (w : Int) : Det Tryz.prog 136 [.ptr 0 0, pS s, pI w] (t.O r) (ag (spotF r s w).c) (t.K r) 4 := by
 refine det_end tyA_ok Tryz.func136 rfl (by decide) Tryz.ntmps136 rfl (by simp) ?_
 refine gA rfl (zI (fun g => ?_) fun g => ?_)
 ·have e : spotF r s w = (s, -1) := by unfold spotF; rw [if_pos (zT g)]
  rw [e]
  refine gA rfl (end_det [] (by first | exact .inr rfl | exact .inl rfl) rfl (zW (zO (hM rfl rfl rfl ⟨⟨_, rfl, .of_eq (rowI_ren _).symm⟩, Nat.le_of_ble_eq_true rfl, rowI_low _, hM rfl rfl rfl trivial⟩))))
 ·have e : spotF r s w = (s, w) := by unfold spotF; rw [if_neg (zF g)]
  rw [e]
  refine gA rfl (end_det [] (by first | exact .inr rfl | exact .inl rfl) rfl (zW (zO (hM rfl rfl rfl ⟨⟨_, rfl, .of_eq (rowI_ren _).symm⟩, Nat.le_of_ble_eq_true rfl, rowI_low _, hM rfl rfl rfl trivial⟩))))
def rootL : UM → Spot → Spot
 | [], v => v
 | (x, y) :: r, v => if x = v then rootL r y else rootL r v
def upOK : UM → Prop
 | [] => True
 | (x, y) :: r => x ≠ y ∧ (∀ q ∈ r, q.1 ≠ x) ∧ (∀ q ∈ r, q.2 ≠ x) ∧ upOK r
def upM : UM → Spot → Nat
 | [], _ => 0
 | (x, _) :: r, v => if x = v then r.length + 1 else upM r v
theorem upM_le : ∀ (m : UM) (v : Spot), upM m v ≤ m.length
 | [], _ => Nat.le_refl _
 | (x, y) :: r, v => by
  have := upM_le r v
  unfold upM; split
  ·simp
  ·simp; omega
theorem root_no : ∀ (m : UM) (v : Spot), hasK (.si .i64) m v = false → rootL m v = v
 | [], _, _ => rfl
 | (x, y) :: r, v, h => by
  unfold hasK at h
  unfold rootL
  split at h
  ·cases h
  ·rename_i hx
   rw [if_neg hx]; exact root_no r v h
theorem root_ne {m : UM} {v : Spot} (h : ∀ q ∈ m, q.1 ≠ v) : rootL m v = v := by
 induction m with
 | nil => rfl
 | cons a r ih =>
  obtain ⟨x, y⟩ := a
  unfold rootL
  rw [if_neg (h _ (List.mem_cons_self))]
  exact ih fun q hq => h q (List.mem_cons_of_mem _ hq)
theorem root_yes : ∀ (m : UM) (v : Spot), upOK m → hasK (.si .i64) m v = true → rootL m (lkD (.si .i64) m v Spot.z) = rootL m v ∧ upM m (lkD (.si .i64) m v Spot.z) < upM m v
 | [], _, _, h => nomatch h
 | (x, y) :: r, v, ok, h => by
  obtain ⟨o1, o2, o3, o4⟩ := ok
  by_cases hx : x = v
  ·subst hx
   have e : lkD (.si .i64) ((x, y) :: r) x Spot.z = y := if_pos rfl
   rw [e]
   refine ⟨?_, ?_⟩
   ·show (if x = y then rootL r y else rootL r y) = if x = x then rootL r y else rootL r x
    rw [if_pos rfl]; split <;> rfl
   ·show (if x = y then r.length + 1 else upM r y) < if x = x then r.length + 1 else upM r x
    rw [if_pos rfl, if_neg o1]
    have := upM_le r y; omega
  ·have e : lkD (.si .i64) ((x, y) :: r) v Spot.z = lkD (.si .i64) r v Spot.z := if_neg hx
   have h2 : hasK (.si .i64) r v = true := by
    unfold hasK at h; rw [if_neg hx] at h; exact h
   rw [e]
   obtain ⟨g1, g2⟩ := root_yes r v o4 h2
   have hne : lkD (.si .i64) r v Spot.z ≠ x := by
    have : ∀ (m : UM), (∀ q ∈ m, q.2 ≠ x) → hasK (.si .i64) m v = true → lkD (.si .i64) m v Spot.z ≠ x := by
     intro m
     induction m with
     | nil => intro _ h; cases h
     | cons a r ih =>
      obtain ⟨x', y'⟩ := a
      intro hm h
      unfold hasK at h
      unfold lkD
      split at h
      ·rename_i hx'; rw [if_pos hx']; exact hm _ List.mem_cons_self
      ·rename_i hx'; rw [if_neg hx']; exact ih (fun q hq => hm q (List.mem_cons_of_mem _ hq)) h
    exact this r o3 h2
   refine ⟨?_, ?_⟩
   ·show (if x = _ then rootL r y else rootL r _) = if x = v then rootL r y else rootL r v
    rw [if_neg (fun e => hne e.symm), if_neg hx]; exact g1
   ·show (if x = _ then r.length + 1 else upM r _) < if x = v then r.length + 1 else upM r v
    rw [if_neg (fun e => hne e.symm), if_neg hx]; exact g2
theorem d52 (r : Rule) (t : TS) (v0 : Spot) (ok : upOK t.up) : Det Tryz.prog 52 [.ptr 0 0, ag v0.c] (t.O r) (ag (rootL t.up v0).c) (t.K r) 4 := by
 refine det_end tyA_ok Tryz.func52 rfl (by decide) Tryz.ntmps52 rfl (by simp) ?_
 refine gA rfl ?_
 refine go_lp (σ := { v : Spot // rootL t.up v = rootL t.up v0 }) (fun v => ⟨[(0, .ptr 0 0), (3, .ptr 4 0), (4, .ptr 5 0)],
  [(0, some (TS.cell r 1 2 t.ws.length 3)), (1, some (upO t.up)), (2, some (rowI 5 t.ws Want.c)), (3, some (kdO t.kind)), (4, some (.cells [pS v.1.1, pI v.1.2])), (5, some (.cells [pS ⟨#[]⟩, pI 0]))], 6⟩) (fun v => upM t.up v.1) ⟨v0, rfl⟩ []
  (zW (zO (hM rfl rfl rfl ⟨⟨_, rfl, .of_eq (rowI_ren _).symm⟩, Nat.le_of_ble_eq_true rfl, rowI_low _, hM rfl rfl rfl ⟨⟨_, rfl, .of_eq rfl⟩, Nat.le_of_ble_eq_true rfl, rfl, ⟨_, rfl, .of_eq rfl⟩, Nat.le_of_ble_eq_true rfl, rfl, trivial⟩⟩))) fun v => ?_
 obtain ⟨v, hv⟩ := v
 refine gA rfl (zI (fun g => ?_) fun g => ?_)
 ·have h : hasK (.si .i64) t.up v = false := by simpa using g
  have e : rootL t.up v0 = v := by rw [← hv]; exact root_no t.up v h
  refine gA rfl (end_det [] (by first | exact .inr rfl | exact .inl rfl) rfl (zM ⟨.of_eq (congrArg (fun x : Spot => ag x.c) e.symm), rfl, trivial⟩ (zO (hM rfl rfl rfl ⟨⟨_, rfl, .of_eq (rowI_ren _).symm⟩, Nat.le_of_ble_eq_true rfl, rowI_low _, hM rfl rfl rfl trivial⟩))))
 ·have h : hasK (.si .i64) t.up v = true := by simpa using g
  obtain ⟨h1, h2⟩ := root_yes t.up v ok h
  refine gA rfl ?_
  exact ⟨⟨lkD (.si .i64) t.up v Spot.z, h1.trans hv⟩, [], h2, zW (zO (hM rfl rfl rfl ⟨⟨_, rfl, .of_eq (rowI_ren _).symm⟩, Nat.le_of_ble_eq_true rfl, rowI_low _, hM rfl rfl rfl ⟨⟨_, rfl, .of_eq rfl⟩, Nat.le_of_ble_eq_true rfl, rfl, ⟨_, rfl, .of_eq rfl⟩, Nat.le_of_ble_eq_true rfl, rfl, trivial⟩⟩))⟩
def tyI (r : Rule) (t : TS) : IV := .iptr [bookI r, upI t.up, slc 5 t.ws Want.c, kdI t.kind]
theorem c52 (r : Rule) (t : TS) (v0 : Spot) (ok : upOK t.up) : Pure Tryz.prog 52 [.iv (tyI r t), ag v0.c] (ag (rootL t.up v0).c) := by
 refine pure_end tyA_ok Tryz.func52 rfl (by decide) Tryz.ntmps52 rfl (by simp) rfl ?_
 refine gA rfl ?_
 refine go_lp (σ := { v : Spot // rootL t.up v = rootL t.up v0 }) (fun v => ⟨[(0, .iv (tyI r t)), (3, .ptr 0 0), (4, .ptr 1 0)],
  [(0, some (.cells [pS v.1.1, pI v.1.2])), (1, some (.cells [pS ⟨#[]⟩, pI 0]))], 2⟩) (fun v => upM t.up v.1) ⟨v0, rfl⟩ []
  (zW ⟨⟨_, rfl, .of_eq rfl⟩, Nat.le_of_ble_eq_true rfl, rfl, ⟨_, rfl, .of_eq rfl⟩, Nat.le_of_ble_eq_true rfl, rfl, trivial⟩) fun v => ?_
 obtain ⟨v, hv⟩ := v
 refine gA rfl (zI (fun g => ?_) fun g => ?_)
 ·have h : hasK (.si .i64) t.up v = false := by simpa using g
  have e : rootL t.up v0 = v := by rw [← hv]; exact root_no t.up v h
  refine gA rfl (zL (.of_eq ?_))
  exact congrArg (fun x : Spot => ag x.c) e.symm
 ·have h : hasK (.si .i64) t.up v = true := by simpa using g
  obtain ⟨h1, h2⟩ := root_yes t.up v ok h
  refine gA rfl ?_
  exact ⟨⟨lkD (.si .i64) t.up v Spot.z, h1.trans hv⟩, [], h2, zW ⟨⟨_, rfl, .of_eq rfl⟩, Nat.le_of_ble_eq_true rfl, rfl, ⟨_, rfl, .of_eq rfl⟩, Nat.le_of_ble_eq_true rfl, rfl, trivial⟩⟩
def wantK (t : TS) (w : Want) : Int := if w.has = 0 then lkD (.si .i64) t.kind (rootL t.up w.at_) 0 else w.has
def wantB (t : TS) (lit : Int) (w : Want) : Bool := decide (w.lit = lit) && !decide (wantK t w = w.kind)
def wrongB (t : TS) (lit : Int) : Bool := t.ws.any (wantB t lit)
theorem c118 (r : Rule) (t : TS) (lit : Int) (ok : upOK t.up) (hb : t.ws.length ≤ 1000000000000) : Pure Tryz.prog 118 [.iv (tyI r t), pI lit] (pB (wrongB t lit)) := by
 refine pure_end tyA_ok Tryz.func118 rfl (by decide) Tryz.ntmps118 rfl (by simp) rfl ?_
 refine gA rfl ?_
 refine go_for 0 t.ws.length (Nat.zero_le _) (fun i => ⟨[(0, .iv (tyI r t)), (1, pI lit), (11, .iv (slc 5 t.ws Want.c)), (12, pI t.ws.length), (13, pI i)], [], 0⟩) (fun i => (t.ws.take i).any (wantB t lit) = false) [] rfl
  (zW trivial) fun i hi hJ => ?_
 refine gA rfl (zI (fun h1 => ?_) fun h1 => ?_)
 ·have h1 : i < t.ws.length := by simpa using h1
  have hA := any_step hJ h1
  refine gA rfl (zI (fun h2 => ?_) fun h2 => ?_)
  ·have h2 : (t.ws.getD i default).has = 0 := zT h2
   refine gA rfl (zdp (c52 r t (t.ws.getD i default).at_ ok) ?_)
   have hk : wantK t (t.ws.getD i default) = lkD (.si .i64) t.kind (rootL t.up (t.ws.getD i default).at_) 0 := if_pos h2
   refine gA rfl (zI (fun k1 => ?_) fun k1 => ?_)
   ·have k1 : (t.ws.getD i default).lit = lit := zT k1
    refine gA rfl (zI (fun k2 => ?_) fun k2 => ?_)
    ·have k2 : ¬ wantK t (t.ws.getD i default) = (t.ws.getD i default).kind := by rw [hk]; simpa using k2
     have e : wrongB t lit = true := List.any_eq_true.2 ⟨t.ws.getD i default, by rw [List.getD_eq_getElem?_getD, List.getElem?_eq_getElem h1]; exact List.getElem_mem h1, by rw [wantB, decide_eq_true k1, decide_eq_false k2]; rfl⟩
     refine gA rfl (zL (.of_eq ?_))
     rw [e]
    ·have k2 : wantK t (t.ws.getD i default) = (t.ws.getD i default).kind := by rw [hk]; simpa using k2
     refine gA rfl ?_
     exact ⟨h1, hA.2 (by rw [wantB, decide_eq_true k2, Bool.not_true, Bool.and_false]), [], zW trivial⟩
   ·have k1 : ¬ (t.ws.getD i default).lit = lit := by simpa using k1
    refine gA rfl ?_
    exact ⟨h1, hA.2 (by rw [wantB, decide_eq_false k1]; rfl), [], zW trivial⟩
  ·have h2 : ¬ (t.ws.getD i default).has = 0 := zF h2
   have hk : wantK t (t.ws.getD i default) = (t.ws.getD i default).has := if_neg h2
   refine gA rfl (zI (fun k1 => ?_) fun k1 => ?_)
   ·have k1 : (t.ws.getD i default).lit = lit := zT k1
    refine gA rfl (zI (fun k2 => ?_) fun k2 => ?_)
    ·have k2 : ¬ wantK t (t.ws.getD i default) = (t.ws.getD i default).kind := by rw [hk]; simpa using k2
     have e : wrongB t lit = true := List.any_eq_true.2 ⟨t.ws.getD i default, by rw [List.getD_eq_getElem?_getD, List.getElem?_eq_getElem h1]; exact List.getElem_mem h1, by rw [wantB, decide_eq_true k1, decide_eq_false k2]; rfl⟩
     refine gA rfl (zL (.of_eq ?_))
     rw [e]
    ·have k2 : wantK t (t.ws.getD i default) = (t.ws.getD i default).kind := by rw [hk]; simpa using k2
     refine gA rfl ?_
     exact ⟨h1, hA.2 (by rw [wantB, decide_eq_true k2, Bool.not_true, Bool.and_false]), [], zW trivial⟩
   ·have k1 : ¬ (t.ws.getD i default).lit = lit := by simpa using k1
    refine gA rfl ?_
    exact ⟨h1, hA.2 (by rw [wantB, decide_eq_false k1]; rfl), [], zW trivial⟩
 ·have h1 : t.ws.length ≤ i := by simpa using h1
  rw [List.take_of_length_le h1] at hJ
  refine gA rfl (zL (.of_eq ?_))
  rw [wrongB, hJ]
end Go.Proofs.YtpnclpbkecjinaaGreatDoorR
namespace Go.Proofs.YtpnclpbkecjinaaGreatDoorR
open Go Go.Al
set_option maxRecDepth 10000
section
variable (r : Rule) (lit w : Int)
def leafWs (e : Expr) : List Want := if e.kind = 1 then [⟨lit, spotF r e.var w, 1, 0⟩] else if e.kind = 2 then [⟨lit, Spot.z, 1, e.val.kind⟩] else []
mutual
def numR : Expr → List Want
 | .mk k v val op args => leafWs r lit w (.mk k v val op args) ++ (if k = 4 then numRs args else [])
def numRs : List Expr → List Want
 | [] => []
 | e :: s => numR e ++ numRs s
end
theorem numRs_eq : ∀ l : List Expr, numRs r lit w l = l.flatMap (numR r lit w)
 | [] => rfl
 | e :: s => by rw [numRs, List.flatMap_cons, numRs_eq s]
def insR (e : Expr) : List Want := if e.kind = 4 then e.args.flatMap (numR r lit w) else []
theorem numR_eq (e : Expr) : numR r lit w e = leafWs r lit w e ++ insR r lit w e := by
 cases e
 rw [numR, numRs_eq]; rfl
end
abbrev TS.add (t : TS) (l : List Want) : TS := ⟨t.up, t.ws ++ l, t.kind⟩
section
variable {nt : Nat} {Q : AQ} {k : List KI} {s : AS}
def tS (s : AS) (r : Rule) (t : TS) (i u j m : Nat) : AS := match s with | ⟨f, h, n⟩ => ⟨f, (i, some (TS.cell r u n t.ws.length m)) :: (u, some (upO t.up)) :: (n, some (rowI 5 t.ws Want.c)) :: (m, some (kdO t.kind)) :: (i, none) :: (u, none) :: (j, none) :: (m, none) :: h, n + 1⟩
theorem tS_eq (s : AS) (r : Rule) (t : TS) (i u j m : Nat) : tS s r t i u j m = ⟨s.f, (i, some (TS.cell r u s.nx t.ws.length m)) :: (u, some (upO t.up)) :: (s.nx, some (rowI 5 t.ws Want.c)) :: (m, some (kdO t.kind)) :: (i, none) :: (u, none) :: (j, none) :: (m, none) :: s.h, s.nx + 1⟩ := by cases s; rfl
def tR (s : AS) (r : Rule) (t : TS) (i u j m : Nat) : AS := match s with | ⟨f, h, n⟩ => ⟨f, (i, some (TS.cell r u j t.ws.length m)) :: (u, some (upO t.up)) :: (j, some (rowI 5 t.ws Want.c)) :: (m, some (kdO t.kind)) :: (i, none) :: (u, none) :: (j, none) :: (m, none) :: h, n⟩
theorem tR_eq (s : AS) (r : Rule) (t : TS) (i u j m : Nat) : tR s r t i u j m = ⟨s.f, (i, some (TS.cell r u j t.ws.length m)) :: (u, some (upO t.up)) :: (j, some (rowI 5 t.ws Want.c)) :: (m, some (kdO t.kind)) :: (i, none) :: (u, none) :: (j, none) :: (m, none) :: s.h, s.nx⟩ := by cases s; rfl
theorem tcall_OT {o : Oper} {c : Call} {g : FuncId} {args al : List PV} {r : Rule} {t t' : TS} {res : PV} {i u j m n : Nat} {es : List (List PV)} {s' : AS} (hc : Det Tryz.prog g (.ptr 0 0 :: args) (t.O r) res (t'.H r) 5) (ho : o.op = .call c) (ha : argsOf s.f c = some (g, .ptr i 0 :: al))
  (hi : s.h.get i = some (TS.cell r u j n m)) (hu : s.h.get u = some (upO t.up)) (hj : s.h.get j = some (.row 5 es)) (hm : s.h.get m = some (kdO t.kind)) (hn : n = t.ws.length) (he : es = t.ws.map fun x => (Want.c x).map .iv)
  (hlt : [i, u, j, m].all (fun x => Nat.blt x s.nx) = true) (hnd : nodupB [i, u, j, m] = true) (has : al = args) (hlow : belowL 0 args = true) (hr : res.low 0 = true)
  (hp : putDst nt o res (tS s r t' i u j m) = some s') : OT Tryz.prog nt o s (fun t => t = s') := by
 subst has; subst hn; subst he
 have hargs : ∀ σ, renL σ al = al := fun σ => renL_low σ al hlow
 refine call_OT ho ha hc (nodupB_ok hnd) (fun j hj => Nat.le_of_ble_eq_true (List.all_eq_true.1 hlt j hj)) ?_ ?_ ?_
 ·simp only [List.map_cons, List.map_nil, hi, hu, hj, hm, rowI_ren]; rfl
 ·simp only [renL, hargs]; rfl
 ·rintro q h0 n0 ⟨rfl, rfl, rfl⟩
  rw [PV.ren_low _ _ hr]
  rw [tS_eq] at hp
  refine ⟨s', ?_, rfl⟩
  rw [← hp]
  simp only [behindCall, renH, rowI_ren]
  rfl
theorem tread_OT {o : Oper} {c : Call} {g : FuncId} {args al : List PV} {r : Rule} {t : TS} {res : PV} {i u j m n : Nat} {es : List (List PV)} {s' : AS} (hc : Det Tryz.prog g (.ptr 0 0 :: args) (t.O r) res (t.K r) 4) (ho : o.op = .call c) (ha : argsOf s.f c = some (g, .ptr i 0 :: al))
  (hi : s.h.get i = some (TS.cell r u j n m)) (hu : s.h.get u = some (upO t.up)) (hj : s.h.get j = some (.row 5 es)) (hm : s.h.get m = some (kdO t.kind)) (hn : n = t.ws.length) (he : es = t.ws.map fun x => (Want.c x).map .iv)
  (hlt : [i, u, j, m].all (fun x => Nat.blt x s.nx) = true) (hnd : nodupB [i, u, j, m] = true) (has : al = args) (hlow : belowL 0 args = true) (hr : res.low 0 = true)
  (hp : putDst nt o res (tR s r t i u j m) = some s') : OT Tryz.prog nt o s (fun t => t = s') := by
 subst has; subst hn; subst he
 have hargs : ∀ σ, renL σ al = al := fun σ => renL_low σ al hlow
 refine call_OT ho ha hc (nodupB_ok hnd) (fun j hj => Nat.le_of_ble_eq_true (List.all_eq_true.1 hlt j hj)) ?_ ?_ ?_
 ·simp only [List.map_cons, List.map_nil, hi, hu, hj, hm, rowI_ren]; rfl
 ·simp only [renL, hargs]; rfl
 ·rintro q h0 n0 ⟨rfl, rfl, rfl⟩
  rw [PV.ren_low _ _ hr]
  rw [tR_eq] at hp
  refine ⟨s', ?_, rfl⟩
  rw [← hp]
  simp only [behindCall, renH, rowI_ren]
  rfl
theorem go_t {all rest : List Oper} {o : Oper} {c : Call} {g : FuncId} {args al : List PV} {r : Rule} {t t' : TS} {res : PV} {i u j m n : Nat} {es : List (List PV)} {s' : AS} (hc : Det Tryz.prog g (.ptr 0 0 :: args) (t.O r) res (t'.H r) 5) (ho : o.op = .call c) (hg : o.guard = none) (ha : argsOf s.f c = some (g, .ptr i 0 :: al))
  (hi : s.h.get i = some (TS.cell r u j n m)) (hu : s.h.get u = some (upO t.up)) (hj : s.h.get j = some (.row 5 es)) (hm : s.h.get m = some (kdO t.kind)) (hn : n = t.ws.length) (he : es = t.ws.map fun x => (Want.c x).map .iv)
  (hlt : [i, u, j, m].all (fun x => Nat.blt x s.nx) = true) (hnd : nodupB [i, u, j, m] = true) (has : al = args) (hlow : belowL 0 args = true) (hr : res.low 0 = true)
  (hp : putDst nt o res (tS s r t' i u j m) = some s') (h : GO Tryz.prog nt (.ops all rest :: k) Q s') : GO Tryz.prog nt (.ops all (o :: rest) :: k) Q s :=
 go_op hg (tcall_OT hc ho ha hi hu hj hm hn he hlt hnd has hlow hr hp) fun t ht => by subst ht; exact h
theorem gtA {all rest : List Oper} {o : Oper} {c : Call} {g : FuncId} {args al : List PV} {r : Rule} {t t' : TS} {res : PV} {i u j m n : Nat} {es : List (List PV)} {s' : AS} (hc : Det Tryz.prog g (.ptr 0 0 :: args) (t.O r) res (t'.H r) 5) (h : GO Tryz.prog nt (.ops all rest :: k) Q s') (ho : o.op = .call c := by exact rfl) (hg : o.guard = none := by exact rfl) (ha : argsOf s.f c = some (g, .ptr i 0 :: al) := by exact rfl) (hi : s.h.get i = some (TS.cell r u j n m) := by exact rfl) (hu : s.h.get u = some (upO t.up) := by exact rfl) (hj : s.h.get j = some (.row 5 es) := by exact rfl) (hm : s.h.get m = some (kdO t.kind) := by exact rfl) (hn : n = t.ws.length := by first | rfl | (rw [List.length_append]; rfl) | simp) (he : es = t.ws.map fun x => (Want.c x).map .iv := by first | rfl | (rw [List.map_append]; rfl) | (simp only [List.map_append, List.append_assoc]; rfl)) (hlt : [i, u, j, m].all (fun x => Nat.blt x s.nx) = true := by exact rfl) (hnd : nodupB [i, u, j, m] = true := by exact rfl) (has : al = args := by exact rfl) (hlow : belowL 0 args = true := by exact rfl) (hr : res.low 0 = true := by exact rfl) (hp : putDst nt o res (tS s r t' i u j m) = some s' := by exact rfl) : GO Tryz.prog nt (.ops all (o :: rest) :: k) Q s := go_t (hc := hc) (ho := ho) (hg := hg) (ha := ha) (hi := hi) (hu := hu) (hj := hj) (hm := hm) (hn := hn) (he := he) (hlt := hlt) (hnd := hnd) (has := has) (hlow := hlow) (hr := hr) (hp := hp) (h := h)
theorem go_dtr {all : List Oper} {todo pend : List (Nat × Oper)} {j' : Nat} {CA C2 : Prop} {o : Oper} {c : Call} {g : FuncId} {args al : List PV} {r : Rule} {t : TS} {res : PV} {i u j m n : Nat} {es : List (List PV)} {s' : AS} (hc : Det Tryz.prog g (.ptr 0 0 :: args) (t.O r) res (t.K r) 4)
  (hrd : readyE todo = [(j', o)]) (ho : o.op = .call c) (ha : argsOf s.f c = some (g, .ptr i 0 :: al))
  (hi : s.h.get i = some (TS.cell r u j n m)) (hu : s.h.get u = some (upO t.up)) (hj : s.h.get j = some (.row 5 es)) (hm : s.h.get m = some (kdO t.kind)) (hn : n = t.ws.length) (he : es = t.ws.map fun x => (Want.c x).map .iv)
  (hlt : [i, u, j, m].all (fun x => Nat.blt x s.nx) = true) (hnd : nodupB [i, u, j, m] = true) (has : al = args) (hlow : belowL 0 args = true) (hr : res.low 0 = true)
  (hp : putDst nt o res (tR s r t i u j m) = some s')
  (hg : guardIs nt all s.f o = some true) (hpb : pendB all pend o = true) (hE : effE todo [j'] = true)
  (hag : agnC tyA nt all s todo pend = some CA) (hCA : CA) (hag2 : againC tyA nt all s' (restOf pend o) = some C2) (hC2 : C2)
  (h : GO Tryz.prog nt (.dops all (todo.filter fun x => !Nat.beq x.1 j') (restOf pend o) :: k) Q s') : GO Tryz.prog nt (.dops all todo pend :: k) Q s :=
 go_dot tyA_ok hrd hg hpb hE hag hCA (tread_OT hc ho ha hi hu hj hm hn he hlt hnd has hlow hr hp) hag2 hC2 h
theorem gdtrA {all : List Oper} {todo pend : List (Nat × Oper)} {j' : Nat} {CA C2 : Prop} {o : Oper} {c : Call} {g : FuncId} {args al : List PV} {r : Rule} {t : TS} {res : PV} {i u j m n : Nat} {es : List (List PV)} {s' : AS} (hc : Det Tryz.prog g (.ptr 0 0 :: args) (t.O r) res (t.K r) 4) (h : GO Tryz.prog nt (.dops all (todo.filter fun x => !Nat.beq x.1 j') (restOf pend o) :: k) Q s') (hrd : readyE todo = [(j', o)] := by exact rfl) (ho : o.op = .call c := by exact rfl) (ha : argsOf s.f c = some (g, .ptr i 0 :: al) := by exact rfl) (hi : s.h.get i = some (TS.cell r u j n m) := by exact rfl) (hu : s.h.get u = some (upO t.up) := by exact rfl) (hj : s.h.get j = some (.row 5 es) := by exact rfl) (hm : s.h.get m = some (kdO t.kind) := by exact rfl) (hn : n = t.ws.length := by first | rfl | (rw [List.length_append]; rfl) | simp) (he : es = t.ws.map fun x => (Want.c x).map .iv := by first | rfl | (rw [List.map_append]; rfl) | (simp only [List.map_append, List.append_assoc]; rfl)) (hlt : [i, u, j, m].all (fun x => Nat.blt x s.nx) = true := by exact rfl) (hnd : nodupB [i, u, j, m] = true := by exact rfl) (has : al = args := by exact rfl) (hlow : belowL 0 args = true := by exact rfl) (hr : res.low 0 = true := by exact rfl) (hp : putDst nt o res (tR s r t i u j m) = some s' := by exact rfl) (hg : guardIs nt all s.f o = some true := by exact rfl) (hpb : pendB all pend o = true := by exact rfl) (hE : effE todo [j'] = true := by exact rfl) (hag : agnC tyA nt all s todo pend = some CA := by exact rfl) (hCA : CA := by (repeat' (first | exact trivial | exact rfl | exact PVle.refl _ | exact PVle.bk (by assumption) | apply And.intro)) <;> first | omega | (simp only [Int.toNat_natCast]; omega) | (simp; done) | (simp; omega)) (hag2 : againC tyA nt all s' (restOf pend o) = some C2 := by exact rfl) (hC2 : C2 := by (repeat' (first | exact trivial | exact rfl | exact PVle.refl _ | exact PVle.bk (by assumption) | apply And.intro)) <;> first | omega | (simp only [Int.toNat_natCast]; omega) | (simp; done) | (simp; omega)) : GO Tryz.prog nt (.dops all todo pend :: k) Q s := go_dtr (hc := hc) (hrd := hrd) (ho := ho) (ha := ha) (hi := hi) (hu := hu) (hj := hj) (hm := hm) (hn := hn) (he := he) (hlt := hlt) (hnd := hnd) (has := has) (hlow := hlow) (hr := hr) (hp := hp) (hg := hg) (hpb := hpb) (hE := hE) (hag := hag) (hCA := hCA) (hag2 := hag2) (hC2 := hC2) (h := h)
theorem end_t {l : List ResultVar} {r0 : PV} {e : Exit} {r : Rule} {t' : TS} {res : PV} {j n : Nat} {es : List (List PV)} (he : e = .normal ∨ e = .ret) (hr : resA tyA s l = some r0) (hi : s.h.get 0 = some (TS.cell r 1 j n 3)) (hu : s.h.get 1 = some (upO t'.up)) (hj : s.h.get j = some (.row 5 es)) (hm : s.h.get 3 = some (kdO t'.kind))
  (hn : n = t'.ws.length) (hes : es = t'.ws.map fun x => (Want.c x).map .iv) (hlt : Nat.blt j s.nx = true) (hnd : nodupB [0, 1, j, 3] = true) (hns : Nat.ble 4 s.nx = true) (hrl : PVle r0 res) (hlow : res.low 0 = true) (hlow5 : res.low 5 = true) : EndD tyA l 4 res (t'.H r) 5 e s := by
 subst hn; subst hes
 refine end_det [j] he hr ⟨rfl, Nat.le_of_ble_eq_true hns, fun x hx => ?_, ⟨?_, hlow5, trivial⟩, ⟨⟨_, hi, .of_eq rfl⟩, Nat.le_of_ble_eq_true rfl, rfl, ⟨_, hu, .of_eq rfl⟩, Nat.le_of_ble_eq_true rfl, trivial, ⟨_, hj, .of_eq (rowI_ren _).symm⟩, Nat.le_of_ble_eq_true rfl, rowI_low _, ⟨_, hm, .of_eq rfl⟩, Nat.le_of_ble_eq_true rfl, trivial, trivial⟩, ?_⟩
 ·simp only [List.mem_singleton] at hx; subst hx; exact Nat.le_of_ble_eq_true hlt
 ·rw [PV.ren_low _ _ hlow]; exact hrl
 ·exact nodupB_ok hnd
theorem teA {l : List ResultVar} {r0 : PV} {e : Exit} {r : Rule} {t' : TS} {res : PV} {j n : Nat} {es : List (List PV)}  (he : e = .normal ∨ e = .ret := by first | exact .inr rfl | exact .inl rfl) (hr : resA tyA s l = some r0 := by exact rfl) (hi : s.h.get 0 = some (TS.cell r 1 j n 3) := by exact rfl) (hu : s.h.get 1 = some (upO t'.up) := by exact rfl) (hj : s.h.get j = some (.row 5 es) := by exact rfl) (hm : s.h.get 3 = some (kdO t'.kind) := by exact rfl) (hn : n = t'.ws.length := by first | rfl | (rw [List.length_append]; rfl) | simp) (hes : es = t'.ws.map fun x => (Want.c x).map .iv := by first | rfl | (rw [List.map_append]; rfl) | (simp only [List.map_append, List.append_assoc]; rfl)) (hlt : Nat.blt j s.nx = true := by exact rfl) (hnd : nodupB [0, 1, j, 3] = true := by exact rfl) (hns : Nat.ble 4 s.nx = true := by exact rfl) (hrl : PVle r0 res := by exact .refl _) (hlow : res.low 0 = true := by exact rfl) (hlow5 : res.low 5 = true := by exact rfl) : EndD tyA l 4 res (t'.H r) 5 e s := end_t (he := he) (hr := hr) (hi := hi) (hu := hu) (hj := hj) (hm := hm) (hn := hn) (hes := hes) (hlt := hlt) (hnd := hnd) (hns := hns) (hrl := hrl) (hlow := hlow) (hlow5 := hlow5)
theorem wkT {n0 i u j m n : Nat} {es : List (List PV)} {tf : AF} {r : Rule} {t t' : TS} (hw : t = t') (hi : s.h.get i = some (TS.cell r u j n m)) (hu : s.h.get u = some (upO t.up)) (hj : s.h.get j = some (.row 5 es)) (hm : s.h.get m = some (kdO t.kind))
  (hn : n = t.ws.length) (hes : es = t.ws.map fun x => (Want.c x).map .iv) (hlt : Nat.blt j s.nx = true) (hnd : nodupB [i, u, j, m] = true) (h0 : [i, u, m].all (fun x => Nat.blt x n0) = true) (hns : Nat.ble n0 s.nx = true) (hf : wkF (n0 + 1) (sg n0 [j]) s.f tf) :
  Wk n0 [j] s ⟨tf, [(i, some (TS.cell r u n0 t'.ws.length m)), (u, some (upO t'.up)), (n0, some (rowI 5 t'.ws Want.c)), (m, some (kdO t'.kind))], n0 + 1⟩ := by
 subst hw; subst hn; subst hes
 simp only [List.all_cons, List.all_nil, Bool.and_true, Bool.and_eq_true] at h0
 have hi0 : i < n0 := Nat.le_of_ble_eq_true h0.1
 have hu0 : u < n0 := Nat.le_of_ble_eq_true h0.2.1
 have hm0 : m < n0 := Nat.le_of_ble_eq_true h0.2.2
 have s0 : sg n0 [j] i = i := sg_lt hi0
 have s1 : sg n0 [j] u = u := sg_lt hu0
 have s3 : sg n0 [j] m = m := sg_lt hm0
 have b0 : Nat.blt n0 n0 = false := Bool.eq_false_iff.2 fun e => absurd (Nat.le_of_ble_eq_true e) (by omega)
 have sn : sg n0 [j] n0 = j := by simp [sg, b0]
 have c1 : Nat.blt u (n0 + 1) = true := Nat.ble_eq_true_of_le (by omega)
 have c3 : Nat.blt m (n0 + 1) = true := Nat.ble_eq_true_of_le (by omega)
 have cn : Nat.blt n0 (n0 + 1) = true := Nat.ble_eq_true_of_le (by omega)
 refine ⟨rfl, Nat.le_of_ble_eq_true hns, fun x hx => ?_, hf, ⟨⟨_, by rw [s0]; exact hi, ?_⟩, by show i < n0 + 1; omega, ?_, ⟨_, by rw [s1]; exact hu, .of_eq rfl⟩, by show u < n0 + 1; omega, trivial, ⟨_, by rw [sn]; exact hj, .of_eq (rowI_ren _).symm⟩, Nat.lt_succ_self _, rowI_low _, ⟨_, by rw [s3]; exact hm, .of_eq rfl⟩, by show m < n0 + 1; omega, trivial, trivial⟩, ?_⟩
 ·simp only [List.mem_singleton] at hx; subst hx; exact Nat.le_of_ble_eq_true hlt
 ·simp only [AO.ren, renL, PV.ren, s1, s3, sn]
  exact .of_eq rfl
 ·simp [AO.low, belowL, PV.low, c1, c3, cn]
 ·simp only [realKeys, s0, s1, s3, sn]
  exact nodupB_ok hnd
theorem wkTA {n0 i u j m n : Nat} {es : List (List PV)} {tf : AF} {r : Rule} {t t' : TS} (hw : t = t') (hi : s.h.get i = some (TS.cell r u j n m) := by exact rfl) (hu : s.h.get u = some (upO t.up) := by exact rfl) (hj : s.h.get j = some (.row 5 es) := by exact rfl) (hm : s.h.get m = some (kdO t.kind) := by exact rfl) (hn : n = t.ws.length := by first | rfl | (rw [List.length_append]; rfl) | simp) (hes : es = t.ws.map fun x => (Want.c x).map .iv := by first | rfl | (rw [List.map_append]; rfl) | (simp only [List.map_append, List.append_assoc]; rfl)) (hlt : Nat.blt j s.nx = true := by exact rfl) (hnd : nodupB [i, u, j, m] = true := by exact rfl) (h0 : [i, u, m].all (fun x => Nat.blt x n0) = true := by exact rfl) (hns : Nat.ble n0 s.nx = true := by exact rfl) (hf : wkF (n0 + 1) (sg n0 [j]) s.f tf := by repeat' (first | exact trivial | exact PVle.refl _ | exact rfl | apply And.intro)) : Wk n0 [j] s ⟨tf, [(i, some (TS.cell r u n0 t'.ws.length m)), (u, some (upO t'.up)), (n0, some (rowI 5 t'.ws Want.c)), (m, some (kdO t'.kind))], n0 + 1⟩ := wkT (hw := hw) (hi := hi) (hu := hu) (hj := hj) (hm := hm) (hn := hn) (hes := hes) (hlt := hlt) (hnd := hnd) (h0 := h0) (hns := hns) (hf := hf)
end
theorem TS.add_add (t : TS) (a b : List Want) : (t.add a).add b = t.add (a ++ b) := by simp [TS.add]
theorem TS.add_nil (t : TS) : t.add [] = t := by simp [TS.add]
def InsD (r : Rule) (n : Nat) : Prop := ∀ (t : TS) (e : Expr) (lit w : Int), e.size ≤ n → t.ws.length + Expr.sizes e.args ≤ 1000000000 → Det Tryz.prog 137 [.ptr 0 0, ag e.c, pI lit, pI w] (t.O r) (.tup []) ((t.add (insR r lit w e)).H r) 5
def NumD (r : Rule) (n : Nat) : Prop := ∀ (t : TS) (e : Expr) (lit w : Int), e.size ≤ n → t.ws.length + e.size ≤ 1000000000 → Det Tryz.prog 92 [.ptr 0 0, ag e.c, pI lit, pI w] (t.O r) (.tup []) ((t.add (numR r lit w e)).H r) 5
theorem d92 (r : Rule) (n : Nat) (ih : InsD r n) : NumD r n := by
 intro t e lit w hs hb
 have hsz := e.size_eq
 rw [numR_eq, ← TS.add_add]
 refine det_end tyA_ok Tryz.func92 rfl (by decide) Tryz.ntmps92 rfl (by simp) ?_
 refine gA rfl (zI (fun k1 => ?_) fun k1 => ?_)
 ·have k1 : e.kind = 1 := zT k1
  have hl : leafWs r lit w e = [⟨lit, spotF r e.var w, 1, 0⟩] := if_pos k1
  rw [hl]
  refine gA rfl (gdtrA (d136 r t e.var w) ?_)
  refine gA rfl (go_t (ih (t.add [⟨lit, spotF r e.var w, 1, 0⟩]) e lit w hs (by show (t.ws ++ _).length + _ ≤ _; rw [List.length_append, List.length_singleton]; omega)) rfl rfl rfl rfl rfl rfl rfl (by first | rfl | (rw [List.length_append]; rfl) | simp) (by first | rfl | (rw [List.map_append]; rfl) | (simp only [List.map_append, List.append_assoc]; rfl)) rfl rfl rfl rfl rfl rfl ?_)
  refine gA rfl teA
 have k1 : ¬ e.kind = 1 := zF k1
 refine gA rfl (zI (fun k2 => ?_) fun k2 => ?_)
 ·have k2 : e.kind = 2 := zT k2
  have hl : leafWs r lit w e = [⟨lit, Spot.z, 1, e.val.kind⟩] := by unfold leafWs; rw [if_neg k1, if_pos k2]
  rw [hl]
  refine gA rfl (go_t (ih (t.add [⟨lit, Spot.z, 1, e.val.kind⟩]) e lit w hs (by show (t.ws ++ _).length + _ ≤ _; rw [List.length_append, List.length_singleton]; omega)) rfl rfl rfl rfl rfl rfl rfl (by first | rfl | (rw [List.length_append]; rfl) | simp) (by first | rfl | (rw [List.map_append]; rfl) | (simp only [List.map_append, List.append_assoc]; rfl)) rfl rfl rfl rfl rfl rfl ?_)
  refine gA rfl teA
 ·have k2 : ¬ e.kind = 2 := zF k2
  have hl : leafWs r lit w e = [] := by unfold leafWs; rw [if_neg k1, if_neg k2]
  rw [hl, TS.add_nil]
  refine gA rfl (gtA (ih t e lit w hs (by omega)) ?_)
  refine gA rfl teA
theorem numR_len (r : Rule) (lit w : Int) : ∀ e : Expr, (numR r lit w e).length ≤ e.size
 | .mk k v val op args => by
  rw [numR, Expr.size, List.length_append]
  have h1 : (leafWs r lit w (.mk k v val op args)).length ≤ 1 := by
   unfold leafWs
   repeat' split
   all_goals simp
  have h2 : (if k = 4 then numRs r lit w args else []).length ≤ Expr.sizes args := by
   split
   ·exact numRs_len args
   ·simp
  omega
where
 numRs_len : ∀ l : List Expr, (numRs r lit w l).length ≤ Expr.sizes l
 | [] => by simp [numRs]
 | e :: s => by
  have h1 := numR_len r lit w e
  have h2 := numRs_len s
  rw [numRs, Expr.sizes, List.length_append]; omega
theorem numF_len (r : Rule) (lit w : Int) (l : List Expr) (i : Nat) (h : i < l.length) : ((l.take i).flatMap (numR r lit w)).length + (l.getD i default).size ≤ Expr.sizes l := by
 have h1 : ∀ l : List Expr, (l.flatMap (numR r lit w)).length ≤ Expr.sizes l := by
  intro l
  induction l with
  | nil => simp
  | cons e s ih =>
   have := numR_len r lit w e
   rw [List.flatMap_cons, List.length_append, Expr.sizes]; omega
 have h2 := h1 (l.take i)
 have h3 : ∀ (l : List Expr) (i : Nat), i < l.length → Expr.sizes (l.take i) + (l.getD i default).size ≤ Expr.sizes l := by
  intro l
  induction l with
  | nil => intro i h; simp at h
  | cons e s ih =>
   intro i h
   cases i with
   | zero => simp [Expr.sizes]
   | succ i =>
    have := ih i (by simpa using h)
    simp only [List.take_succ_cons, List.getD_cons_succ, Expr.sizes]; omega
 have := h3 l i h
 omega
theorem d137 (r : Rule) (n : Nat) (ih : NumD r n) : InsD r (n + 1) := by
 intro t e lit w hs hb
 have hsz := e.size_eq
 refine Det.le (args := [.ptr 0 0, ag e.c1, pI lit, pI w]) ?_ ⟨.refl _, e.le1, .refl _, .refl _, trivial⟩
 have hal := Expr.length_sizes e.args
 refine det_end tyA_ok Tryz.func137 rfl (by decide) Tryz.ntmps137 rfl (by simp) ?_
 refine gA rfl (zI (fun k => ?_) fun k => ?_)
 rotate_left
 ·have k : ¬ e.kind = 4 := zF k
  have hl : insR r lit w e = [] := if_neg k
  rw [hl, TS.add_nil]
  refine gA rfl teA
 have k : e.kind = 4 := zT k
 have hl : insR r lit w e = e.args.flatMap (numR r lit w) := if_pos k
 rw [hl]
 refine gA rfl ?_
 refine go_for 0 e.args.length (Nat.zero_le _) (fun i => ⟨[(0, .ptr 0 0), (2, pI lit), (3, pI w), (14, .iv (slc 7 e.args Expr.c)), (15, pI e.args.length), (16, pI i)],
  [(0, some (TS.cell r 1 5 (t.add ((e.args.take i).flatMap (numR r lit w))).ws.length 3)), (1, some (upO (t.add ((e.args.take i).flatMap (numR r lit w))).up)), (5, some (rowI 5 (t.add ((e.args.take i).flatMap (numR r lit w))).ws Want.c)), (3, some (kdO (t.add ((e.args.take i).flatMap (numR r lit w))).kind))], 6⟩) (fun _ => True) _ trivial
  (wkT (t := t) (TS.add_nil t).symm rfl rfl rfl rfl rfl rfl rfl rfl rfl rfl ⟨.refl _, rfl, .refl _, rfl, .refl _, rfl, .refl _, rfl, .refl _, rfl, .refl _, rfl, trivial⟩) fun i hi _ => ?_
 refine gA rfl (zI (fun h1 => ?_) fun h1 => ?_)
 ·have h1 : i < e.args.length := by simpa using h1
  have hs2 := flatMap_step (f := numR r lit w) h1
  have hn := numF_len r lit w e.args i h1
  have hg := Expr.sizes_get e.args i h1
  refine gA rfl (go_t (ih (t.add ((e.args.take i).flatMap (numR r lit w))) (e.args.getD i default) lit w (by omega) (by show (t.ws ++ _).length + _ ≤ _; rw [List.length_append]; omega)) rfl rfl rfl rfl rfl rfl rfl (by first | rfl | (rw [List.length_append]; rfl) | simp) (by first | rfl | (rw [List.map_append]; rfl) | (simp only [List.map_append, List.append_assoc]; rfl)) rfl rfl rfl rfl rfl rfl ?_)
  refine gA rfl ⟨h1, trivial, _, wkT ((by rw [TS.add_add, hs2])) rfl rfl rfl rfl (by first | rfl | (rw [List.length_append]; rfl) | simp) (by first | rfl | (rw [List.map_append]; rfl) | (simp only [List.map_append, List.append_assoc]; rfl)) rfl rfl rfl rfl ⟨.refl _, rfl, .refl _, rfl, .refl _, rfl, .refl _, rfl, .refl _, rfl, .refl _, rfl, trivial⟩⟩
 ·have h1 : e.args.length ≤ i := by simpa using h1
  rw [List.take_of_length_le h1]
  refine gA rfl teA
end Go.Proofs.YtpnclpbkecjinaaGreatDoorR
namespace Go.Proofs.YtpnclpbkecjinaaGreatDoorR
open Go Go.Al
set_option maxRecDepth 10000
theorem numD_insD (r : Rule) : ∀ n, NumD r n ∧ InsD r n
 | 0 => by
  have h0 : InsD r 0 := fun t e lit w hs => by have := e.size_pos; omega
  exact ⟨d92 r 0 h0, h0⟩
 | n + 1 => by
  have h1 := d137 r n (numD_insD r n).1
  exact ⟨d92 r (n + 1) h1, h1⟩
theorem d92' (r : Rule) (t : TS) (e : Expr) (lit w : Int) (hb : t.ws.length + e.size ≤ 1000000000) : Det Tryz.prog 92 [.ptr 0 0, ag e.c, pI lit, pI w] (t.O r) (.tup []) ((t.add (numR r lit w e)).H r) 5 := (numD_insD r e.size).1 t e lit w (Nat.le_refl _) hb
theorem d137' (r : Rule) (t : TS) (e : Expr) (lit w : Int) (hb : t.ws.length + e.size ≤ 1000000000) : Det Tryz.prog 137 [.ptr 0 0, ag e.c, pI lit, pI w] (t.O r) (.tup []) ((t.add (insR r lit w e)).H r) 5 := (numD_insD r e.size).2 t e lit w (Nat.le_refl _) (by have := e.size_eq; omega)
def typeAt (p : Prog) (a : Atom) (i : Nat) : Int := (declOf p a.rel).types.getD i default
def typedB (p : Prog) (a : Atom) (i : Nat) : Bool := decide (i < (declOf p a.rel).types.length) && (decide (typeAt p a i = 1) || decide (typeAt p a i = 2))
def termWs (p : Prog) (r : Rule) (a : Atom) (lit w : Int) (i : Nat) : List Want :=
 if typedB p a i = false then []
 else if (a.terms.getD i default).kind = 1 then [⟨lit, spotF r (a.terms.getD i default).var w, typeAt p a i, 0⟩]
 else if (a.terms.getD i default).kind = 2 then [⟨lit, Spot.z, typeAt p a i, (a.terms.getD i default).val.kind⟩] else []
def atomWs (p : Prog) (r : Rule) (a : Atom) (lit w : Int) : Nat → List Want
 | 0 => []
 | i + 1 => atomWs p r a lit w i ++ termWs p r a lit w i
theorem termWs_len (p : Prog) (r : Rule) (a : Atom) (lit w : Int) (i : Nat) : (termWs p r a lit w i).length ≤ 1 := by
 unfold termWs
 repeat' split
 all_goals simp
theorem atomWs_len (p : Prog) (r : Rule) (a : Atom) (lit w : Int) : ∀ i, (atomWs p r a lit w i).length ≤ i
 | 0 => Nat.le_refl _
 | i + 1 => by
  have h1 := atomWs_len p r a lit w i
  have h2 := termWs_len p r a lit w i
  rw [atomWs, List.length_append]; omega
set_option maxHeartbeats 1000000 in
theorem d90 (p : Prog) (r : Rule) (t : TS) (a : Atom) (lit w : Int) (hb : t.ws.length + a.terms.length ≤ 1000000000) : Det Tryz.prog 90 [.ptr 0 0, .iv (relsI p), ag a.c, pI lit, pI w] (t.O r) (.tup []) ((t.add (atomWs p r a lit w a.terms.length)).H r) 5 := by
 refine det_end tyA_ok Tryz.func90 rfl (by decide) Tryz.ntmps90 rfl (by simp) ?_
 refine gA rfl ?_
 refine go_for 0 a.terms.length (Nat.zero_le _) (fun i => ⟨[(0, .ptr 0 0), (3, pI lit), (4, pI w), (10, .iv (slc 1 (declOf p a.rel).types intC)), (19, .iv (slc 5 a.terms Term.c)), (20, pI a.terms.length), (21, pI i)],
  [(0, some (TS.cell r 1 5 (t.add (atomWs p r a lit w i)).ws.length 3)), (1, some (upO (t.add (atomWs p r a lit w i)).up)), (5, some (rowI 5 (t.add (atomWs p r a lit w i)).ws Want.c)), (3, some (kdO (t.add (atomWs p r a lit w i)).kind))], 6⟩) (fun _ => True) _ trivial
  (wkT (t := t) (TS.add_nil t).symm rfl rfl rfl rfl rfl rfl rfl rfl rfl rfl ⟨.refl _, rfl, .refl _, rfl, .refl _, rfl, .refl _, rfl, .refl _, rfl, .refl _, rfl, .refl _, rfl, trivial⟩) fun i hi _ => ?_
 refine gA rfl (zI (fun h1 => ?_) fun h1 => ?_)
 rotate_left
 ·have h1 : a.terms.length ≤ i := by simpa using h1
  have : i = a.terms.length := by omega
  subst this
  refine gA rfl teA
 have h1 : i < a.terms.length := by simpa using h1
 have hl := atomWs_len p r a lit w i
 have hs : t.add (atomWs p r a lit w (i + 1)) = (t.add (atomWs p r a lit w i)).add (termWs p r a lit w i) := by rw [TS.add_add]; rfl
 have hwl : (t.add (atomWs p r a lit w i)).ws.length ≤ t.ws.length + i := by show (t.ws ++ _).length ≤ _; rw [List.length_append]; omega
 generalize t.add (atomWs p r a lit w i) = t1 at *
 refine gA rfl (zI (fun g1 => ?_) fun g1 => ?_)
 rotate_left
 ·have g1 : ¬ i < (declOf p a.rel).types.length := by have g := zT (show decide ((i : Int) ≥ ((declOf p a.rel).types.length : Int)) = true from g1); omega
  have hf : typedB p a i = false := by rw [typedB, decide_eq_false g1]; rfl
  have hW : termWs p r a lit w i = [] := if_pos hf
  rw [hW, TS.add_nil] at hs
  refine gA rfl ⟨h1, trivial, _, wkTA (hs.symm)⟩
 have g1 : i < (declOf p a.rel).types.length := by have g := zF (show decide ((i : Int) ≥ ((declOf p a.rel).types.length : Int)) = false from g1); omega
 refine gA rfl (zI (fun g2 => ?_) fun g2 => ?_)
 ·have g2 : ¬ typeAt p a i = 1 := by simpa [typeAt] using g2
  refine gA rfl (zI (fun g3 => ?_) fun g3 => ?_)
  ·have g3 : ¬ typeAt p a i = 2 := by simpa [typeAt] using g3
   have hf : typedB p a i = false := by rw [typedB, decide_eq_true g1, decide_eq_false g2, decide_eq_false g3]; rfl
   have hW : termWs p r a lit w i = [] := if_pos hf
   rw [hW, TS.add_nil] at hs
   refine gA rfl ⟨h1, trivial, _, wkTA (hs.symm)⟩
  ·have g3 : typeAt p a i = 2 := by simpa [typeAt] using g3
   have ht : typedB p a i = true := by rw [typedB, decide_eq_true g1, decide_eq_true g3, Bool.or_true]; rfl
   have hW : termWs p r a lit w i = if (a.terms.getD i default).kind = 1 then [⟨lit, spotF r (a.terms.getD i default).var w, typeAt p a i, 0⟩]
    else if (a.terms.getD i default).kind = 2 then [⟨lit, Spot.z, typeAt p a i, (a.terms.getD i default).val.kind⟩] else [] := by unfold termWs; rw [ht]; exact if_neg (by decide)
   rw [hW] at hs
   refine gA rfl (zI (fun k1 => ?_) fun k1 => ?_)
   ·have k1 : (a.terms.getD i default).kind = 1 := zT k1
    rw [if_pos k1] at hs
    refine gA rfl (gdtrA (d136 r t1 (a.terms.getD i default).var w) ?_)
    refine gA rfl ⟨h1, trivial, _, wkTA (hs.symm)⟩
   have k1 : ¬ (a.terms.getD i default).kind = 1 := zF k1
   rw [if_neg k1] at hs
   refine gA rfl (zI (fun k2 => ?_) fun k2 => ?_)
   ·have k2 : (a.terms.getD i default).kind = 2 := zT k2
    rw [if_pos k2] at hs
    refine gA rfl ⟨h1, trivial, _, wkTA (hs.symm)⟩
   ·have k2 : ¬ (a.terms.getD i default).kind = 2 := zF k2
    rw [if_neg k2, TS.add_nil] at hs
    refine gA rfl ⟨h1, trivial, _, wkTA (hs.symm)⟩
 ·have g2 : typeAt p a i = 1 := by simpa [typeAt] using g2
  have ht : typedB p a i = true := by rw [typedB, decide_eq_true g1, decide_eq_true g2]; rfl
  have hW : termWs p r a lit w i = if (a.terms.getD i default).kind = 1 then [⟨lit, spotF r (a.terms.getD i default).var w, typeAt p a i, 0⟩]
   else if (a.terms.getD i default).kind = 2 then [⟨lit, Spot.z, typeAt p a i, (a.terms.getD i default).val.kind⟩] else [] := by unfold termWs; rw [ht]; exact if_neg (by decide)
  rw [hW] at hs
  refine gA rfl (zI (fun k1 => ?_) fun k1 => ?_)
  ·have k1 : (a.terms.getD i default).kind = 1 := zT k1
   rw [if_pos k1] at hs
   refine gA rfl (gdtrA (d136 r t1 (a.terms.getD i default).var w) ?_)
   refine gA rfl ⟨h1, trivial, _, wkTA (hs.symm)⟩
  have k1 : ¬ (a.terms.getD i default).kind = 1 := zF k1
  rw [if_neg k1] at hs
  refine gA rfl (zI (fun k2 => ?_) fun k2 => ?_)
  ·have k2 : (a.terms.getD i default).kind = 2 := zT k2
   rw [if_pos k2] at hs
   refine gA rfl ⟨h1, trivial, _, wkTA (hs.symm)⟩
  ·have k2 : ¬ (a.terms.getD i default).kind = 2 := zF k2
   rw [if_neg k2, TS.add_nil] at hs
   refine gA rfl ⟨h1, trivial, _, wkTA (hs.symm)⟩
def tieT (t : TS) (u v : Spot) : TS := if u = v then t else ⟨putK (.si .i64) t.up u v, t.ws, t.kind⟩
def hasY (y : Expr) : Int := if y.kind = 2 then y.val.kind else 1
def alikeX (r : Rule) (lit w : Int) (t : TS) (x y : Expr) : TS :=
 if y.kind = 1 then tieT t (rootL t.up (spotF r x.var w)) (rootL t.up (spotF r y.var w))
 else t.add (if x.kind = 1 then [⟨lit, spotF r x.var w, hasY y, 0⟩] else if x.kind = 2 then [⟨lit, Spot.z, hasY y, x.val.kind⟩] else [⟨lit, Spot.z, hasY y, 1⟩])
def alikeT (r : Rule) (lit w : Int) (t : TS) (a b : Expr) : TS :=
 if b.kind = 1 then alikeX r lit w ((t.add (insR r lit w a)).add (insR r lit w b)) b a else alikeX r lit w ((t.add (insR r lit w a)).add (insR r lit w b)) a b
theorem spot_ne {u v : Spot} (h : (!(decide (u.1 = v.1) && (decide (u.2 = v.2) && true))) = true) : u ≠ v := by
 rintro rfl
 simp at h
theorem spot_eq {u v : Spot} (h : (!(decide (u.1 = v.1) && (decide (u.2 = v.2) && true))) = false) : u = v := by
 simp at h
 exact Prod.ext h.1 h.2
theorem insR_len (r : Rule) (lit w : Int) (e : Expr) : (insR r lit w e).length ≤ e.size := by
 have h1 := numR_len r lit w e
 rw [numR_eq, List.length_append] at h1; omega
set_option maxHeartbeats 1000000 in
theorem d93 (r : Rule) (t : TS) (a b : Expr) (lit w : Int) (ok : upOK t.up) (hb : t.ws.length + a.size + b.size ≤ 1000000000) : Det Tryz.prog 93 [.ptr 0 0, ag a.c, ag b.c, pI lit, pI w] (t.O r) (.tup []) ((alikeT r lit w t a b).H r) 5 := by
 have h1 := insR_len r lit w a
 have h2 := insR_len r lit w b
 have hA : alikeT r lit w t a b = if b.kind = 1 then alikeX r lit w ((t.add (insR r lit w a)).add (insR r lit w b)) b a else alikeX r lit w ((t.add (insR r lit w a)).add (insR r lit w b)) a b := rfl
 rw [hA]
 have ok1 : upOK ((t.add (insR r lit w a)).add (insR r lit w b)).up := ok
 refine det_end tyA_ok Tryz.func93 rfl (by decide) Tryz.ntmps93 rfl (by simp) ?_
 refine gA rfl (gtA (d137' r t a lit w (by omega)) ?_)
 refine gA rfl (go_t (d137' r (t.add (insR r lit w a)) b lit w (by show (t.ws ++ _).length + _ ≤ _; rw [List.length_append]; omega)) rfl rfl rfl rfl rfl rfl rfl (by first | rfl | (rw [List.length_append]; rfl) | simp) (by first | rfl | (rw [List.map_append]; rfl) | (simp only [List.map_append, List.append_assoc]; rfl)) rfl rfl rfl rfl rfl rfl ?_)
 have hl : ((t.add (insR r lit w a)).add (insR r lit w b)).ws.length ≤ t.ws.length + a.size + b.size := by
  show ((t.ws ++ _) ++ _).length ≤ _
  rw [List.length_append, List.length_append]; omega
 generalize (t.add (insR r lit w a)).add (insR r lit w b) = t1 at *
 refine gA rfl (zI (fun k1 => ?_) fun k1 => ?_)
 ·have k1 : b.kind = 1 := zT k1
  rw [if_pos k1]
  refine gA rfl (zI (fun k2 => ?_) fun k2 => ?_)
  ·have k2 : a.kind = 2 := zT k2
   have hy : ¬ a.kind = 1 := by omega
   have hh : hasY a = a.val.kind := if_pos k2
   have hX : alikeX r lit w t1 b a = t1.add [⟨lit, spotF r b.var w, hasY a, 0⟩] := by unfold alikeX; rw [if_neg hy, if_pos k1]
   rw [hX, hh]
   refine gA rfl (zI (fun k3 => ?_) fun k3 => ?_)
   ·exact absurd (zT k3) hy
   refine gA rfl (zI (fun k4 => ?_) fun k4 => ?_)
   rotate_left
   ·exact absurd k1 (zF k4)
   refine gA rfl (gdtrA (d136 r t1 b.var w) ?_)
   refine gA rfl teA
  ·have k2 : ¬ a.kind = 2 := zF k2
   refine gA rfl (zI (fun k3 => ?_) fun k3 => ?_)
   ·have k3 : a.kind = 1 := zT k3
    have hX : alikeX r lit w t1 b a = tieT t1 (rootL t1.up (spotF r b.var w)) (rootL t1.up (spotF r a.var w)) := if_pos k3
    rw [hX]
    refine gA rfl (gdtrA (d136 r t1 b.var w) ?_)
    refine gA rfl (gdtrA (d52 r t1 (spotF r b.var w) ok1) ?_)
    refine gA rfl (gdtrA (d136 r t1 a.var w) ?_)
    refine gA rfl (gdtrA (d52 r t1 (spotF r a.var w) ok1) ?_)
    refine gA rfl (zI (fun k4 => ?_) fun k4 => ?_)
    ·have e : tieT t1 (rootL t1.up (spotF r b.var w)) (rootL t1.up (spotF r a.var w)) = ⟨putK (.si .i64) t1.up (rootL t1.up (spotF r b.var w)) (rootL t1.up (spotF r a.var w)), t1.ws, t1.kind⟩ := if_neg (spot_ne k4)
     rw [e]
     refine goR rfl (by repeat' (first | exact trivial | exact rfl | exact agI (Spot.c (rootL t1.up (spotF r a.var w))) | exact PVle.refl _ | apply And.intro)) (end_t (by first | exact .inr rfl | exact .inl rfl) rfl rfl rfl rfl rfl rfl rfl rfl rfl rfl (.refl _) rfl rfl)
    ·have e : tieT t1 (rootL t1.up (spotF r b.var w)) (rootL t1.up (spotF r a.var w)) = t1 := if_pos (spot_eq k4)
     rw [e]
     refine gA rfl teA
   ·have hy : ¬ a.kind = 1 := zF k3
    have hh : hasY a = 1 := if_neg k2
    have hX : alikeX r lit w t1 b a = t1.add [⟨lit, spotF r b.var w, hasY a, 0⟩] := by unfold alikeX; rw [if_neg hy, if_pos k1]
    rw [hX, hh]
    refine gA rfl (zI (fun k4 => ?_) fun k4 => ?_)
    rotate_left
    ·exact absurd k1 (zF k4)
    refine gA rfl (gdtrA (d136 r t1 b.var w) ?_)
    refine gA rfl teA
 have k1 : ¬ b.kind = 1 := zF k1
 rw [if_neg k1]
 have hX : alikeX r lit w t1 a b = t1.add (if a.kind = 1 then [⟨lit, spotF r a.var w, hasY b, 0⟩] else if a.kind = 2 then [⟨lit, Spot.z, hasY b, a.val.kind⟩] else [⟨lit, Spot.z, hasY b, 1⟩]) := if_neg k1
 rw [hX]
 refine gA rfl (zI (fun k2 => ?_) fun k2 => ?_)
 ·have k2 : b.kind = 2 := zT k2
  have hh : hasY b = b.val.kind := if_pos k2
  rw [hh]
  refine gA rfl (zI (fun k3 => ?_) fun k3 => ?_)
  ·exact absurd (zT k3) k1
  refine gA rfl (zI (fun k4 => ?_) fun k4 => ?_)
  ·rw [if_pos (zT k4)]
   refine gA rfl (gdtrA (d136 r t1 a.var w) ?_)
   refine gA rfl teA
  rw [if_neg (zF k4)]
  refine gA rfl (zI (fun k5 => ?_) fun k5 => ?_)
  ·rw [if_pos (zT k5)]
   refine gA rfl teA
  ·rw [if_neg (zF k5)]
   refine gA rfl teA
 ·have k2 : ¬ b.kind = 2 := zF k2
  have hh : hasY b = 1 := if_neg k2
  rw [hh]
  refine gA rfl (zI (fun k3 => ?_) fun k3 => ?_)
  ·exact absurd (zT k3) k1
  refine gA rfl (zI (fun k4 => ?_) fun k4 => ?_)
  ·rw [if_pos (zT k4)]
   refine gA rfl (gdtrA (d136 r t1 a.var w) ?_)
   refine gA rfl teA
  rw [if_neg (zF k4)]
  refine gA rfl (zI (fun k5 => ?_) fun k5 => ?_)
  ·rw [if_pos (zT k5)]
   refine gA rfl teA
  ·rw [if_neg (zF k5)]
   refine gA rfl teA
def litT (p : Prog) (r : Rule) (lit w : Int) (t : TS) (l : Lit) : TS :=
 if l.kind = 1 ∨ l.kind = 2 then t.add (atomWs p r l.atom lit w l.atom.terms.length)
 else if l.kind = 3 then (if l.op = 1 ∨ l.op = 2 then alikeT r lit w t l.left l.right else (t.add (numR r lit w l.left)).add (numR r lit w l.right)) else t
theorem d91 (p : Prog) (r : Rule) (t : TS) (l : Lit) (lit w : Int) (ok : upOK t.up) (hb : t.ws.length + l.size ≤ 1000000000) : Det Tryz.prog 91 [.ptr 0 0, .iv (relsI p), ag l.c, pI lit, pI w] (t.O r) (.tup []) ((litT p r lit w t l).H r) 5 := by
 have hsz := l.size_eq
 have hx := numR_len r lit w l.left
 refine det_end tyA_ok Tryz.func91 rfl (by decide) Tryz.ntmps91 rfl (by simp) ?_
 refine gA rfl (zI (fun k1 => ?_) fun k1 => ?_)
 rotate_left
 ·have k1 : l.kind = 1 := by simpa using k1
  have hL : litT p r lit w t l = t.add (atomWs p r l.atom lit w l.atom.terms.length) := if_pos (.inl k1)
  rw [hL]
  refine gA rfl (gtA (d90 p r t l.atom lit w (by omega)) ?_)
  refine gA rfl teA
 have k1 : ¬ l.kind = 1 := zF k1
 refine gA rfl (zI (fun k2 => ?_) fun k2 => ?_)
 ·have k2 : l.kind = 2 := zT k2
  have hL : litT p r lit w t l = t.add (atomWs p r l.atom lit w l.atom.terms.length) := if_pos (.inr k2)
  rw [hL]
  refine gA rfl (gtA (d90 p r t l.atom lit w (by omega)) ?_)
  refine gA rfl teA
 have k2 : ¬ l.kind = 2 := zF k2
 have hL : litT p r lit w t l = if l.kind = 3 then (if l.op = 1 ∨ l.op = 2 then alikeT r lit w t l.left l.right else (t.add (numR r lit w l.left)).add (numR r lit w l.right)) else t := if_neg (by rintro (h | h); exact k1 h; exact k2 h)
 refine gA rfl (zI (fun k3 => ?_) fun k3 => ?_)
 ·have k3 : ¬ l.kind = 3 := by simpa using k3
  rw [if_neg k3] at hL
  rw [hL]
  refine gA rfl teA
 have k3 : l.kind = 3 := by simpa using k3
 rw [if_pos k3] at hL
 refine gA rfl (zI (fun k4 => ?_) fun k4 => ?_)
 rotate_left
 ·have k4 : l.op = 1 := by simpa using k4
  rw [if_pos (.inl k4)] at hL
  rw [hL]
  refine gA rfl (gtA (d93 r t l.left l.right lit w ok (by omega)) ?_)
  refine gA rfl teA
 have k4 : ¬ l.op = 1 := zF k4
 refine gA rfl (zI (fun k5 => ?_) fun k5 => ?_)
 ·have k5 : l.op = 2 := zT k5
  rw [if_pos (.inr k5)] at hL
  rw [hL]
  refine gA rfl (gtA (d93 r t l.left l.right lit w ok (by omega)) ?_)
  refine gA rfl teA
 ·have k5 : ¬ l.op = 2 := zF k5
  rw [if_neg (by rintro (h | h); exact k4 h; exact k5 h)] at hL
  rw [hL]
  refine gA rfl (gtA (d92' r t l.left lit w (by omega)) ?_)
  refine gA rfl (go_t (d92' r (t.add (numR r lit w l.left)) l.right lit w (by show (t.ws ++ _).length + _ ≤ _; rw [List.length_append]; omega)) rfl rfl rfl rfl rfl rfl rfl (by first | rfl | (rw [List.length_append]; rfl) | simp) (by first | rfl | (rw [List.map_append]; rfl) | (simp only [List.map_append, List.append_assoc]; rfl)) rfl rfl rfl rfl rfl rfl ?_)
  refine gA rfl teA
theorem root_nokey : ∀ (n : Nat) (m : UM) (v : Spot), upOK m → upM m v ≤ n → hasK (.si .i64) m (rootL m v) = false
 | n, m, v, ok, hn => by
  cases h : hasK (.si .i64) m v with
  | false => rw [root_no m v h]; exact h
  | true =>
   obtain ⟨h1, h2⟩ := root_yes m v ok h
   cases n with
   | zero => omega
   | succ n => rw [← h1]; exact root_nokey n m _ ok (by omega)
theorem putK_new : ∀ (m : UM) (u v : Spot), hasK (.si .i64) m u = false → putK (.si .i64) m u v = m ++ [(u, v)]
 | [], _, _, _ => rfl
 | (x, y) :: r, u, v, h => by
  unfold hasK at h
  split at h
  ·cases h
  ·rename_i hx
   show (if x = u then _ else (x, y) :: putK (.si .i64) r u v) = _
   rw [if_neg hx, putK_new r u v h]; rfl
theorem hasK_all {m : UM} {u : Spot} (h : hasK (.si .i64) m u = false) : ∀ q ∈ m, q.1 ≠ u := by
 induction m with
 | nil => intro q hq; cases hq
 | cons a r ih =>
  obtain ⟨x, y⟩ := a
  unfold hasK at h
  split at h
  ·cases h
  ·rename_i hx
   intro q hq
   rcases List.mem_cons.1 hq with rfl | hq
   ·exact hx
   ·exact ih h q hq
theorem upOK_snoc : ∀ {m : UM} {u v : Spot}, upOK m → (∀ q ∈ m, q.1 ≠ u) → (∀ q ∈ m, q.1 ≠ v) → u ≠ v → upOK (m ++ [(u, v)])
 | [], u, v, _, _, _, hne => ⟨hne, fun q hq => (nomatch hq), fun q hq => (nomatch hq), trivial⟩
 | (x, y) :: r, u, v, ⟨o1, o2, o3, o4⟩, hu, hv, hne => by
  refine ⟨o1, fun q hq => ?_, fun q hq => ?_, upOK_snoc o4 (fun q hq => hu q (List.mem_cons_of_mem _ hq)) (fun q hq => hv q (List.mem_cons_of_mem _ hq)) hne⟩
  ·rcases List.mem_append.1 hq with hq | hq
   ·exact o2 q hq
   ·simp only [List.mem_singleton] at hq; subst hq
    exact fun e => hu _ List.mem_cons_self e.symm
  ·rcases List.mem_append.1 hq with hq | hq
   ·exact o3 q hq
   ·simp only [List.mem_singleton] at hq; subst hq
    exact fun e => hv _ List.mem_cons_self e.symm
theorem tie_ok {t : TS} (ok : upOK t.up) (a b : Spot) : upOK (tieT t (rootL t.up a) (rootL t.up b)).up := by
 unfold tieT
 split
 ·exact ok
 ·rename_i hne
  have h1 := root_nokey _ t.up a ok (Nat.le_refl _)
  have h2 := root_nokey _ t.up b ok (Nat.le_refl _)
  show upOK (putK _ _ _ _)
  rw [putK_new _ _ _ h1]
  exact upOK_snoc ok (hasK_all h1) (hasK_all h2) hne
theorem alikeX_ok (r : Rule) (lit w : Int) {t : TS} (ok : upOK t.up) (x y : Expr) : upOK (alikeX r lit w t x y).up := by
 unfold alikeX
 split
 ·exact tie_ok ok _ _
 ·exact ok
theorem alike_ok (r : Rule) (lit w : Int) {t : TS} (ok : upOK t.up) (a b : Expr) : upOK (alikeT r lit w t a b).up := by
 unfold alikeT
 split
 ·exact alikeX_ok r lit w (t := (t.add (insR r lit w a)).add (insR r lit w b)) ok _ _
 ·exact alikeX_ok r lit w (t := (t.add (insR r lit w a)).add (insR r lit w b)) ok _ _
theorem lit_ok (p : Prog) (r : Rule) (lit w : Int) {t : TS} (ok : upOK t.up) (l : Lit) : upOK (litT p r lit w t l).up := by
 unfold litT
 repeat' split
 ·exact ok
 ·exact alike_ok r lit w ok _ _
 ·exact ok
 ·exact ok
theorem tie_ws (t : TS) (u v : Spot) : (tieT t u v).ws = t.ws := by unfold tieT; split <;> rfl
theorem alikeX_len (r : Rule) (lit w : Int) (t : TS) (x y : Expr) : (alikeX r lit w t x y).ws.length ≤ t.ws.length + 1 := by
 unfold alikeX
 repeat' split
 ·rw [tie_ws]; omega
 all_goals (show (t.ws ++ _).length ≤ _; rw [List.length_append, List.length_singleton]; omega)
theorem alike_len (r : Rule) (lit w : Int) (t : TS) (a b : Expr) : (alikeT r lit w t a b).ws.length ≤ t.ws.length + a.size + b.size + 1 := by
 have h1 := insR_len r lit w a
 have h2 := insR_len r lit w b
 have h3 : ((t.add (insR r lit w a)).add (insR r lit w b)).ws.length ≤ t.ws.length + a.size + b.size := by
  show ((t.ws ++ _) ++ _).length ≤ _
  rw [List.length_append, List.length_append]; omega
 unfold alikeT
 split
 ·exact Nat.le_trans (alikeX_len _ _ _ _ _ _) (by omega)
 ·exact Nat.le_trans (alikeX_len _ _ _ _ _ _) (by omega)
theorem lit_len (p : Prog) (r : Rule) (lit w : Int) (t : TS) (l : Lit) : (litT p r lit w t l).ws.length ≤ t.ws.length + l.size := by
 have hsz := l.size_eq
 have h1 := atomWs_len p r l.atom lit w l.atom.terms.length
 have h2 := alike_len r lit w t l.left l.right
 have h3 := numR_len r lit w l.left
 have h4 := numR_len r lit w l.right
 unfold litT
 repeat' split
 ·show (t.ws ++ _).length ≤ _
  rw [List.length_append]; omega
 ·omega
 ·show ((t.ws ++ _) ++ _).length ≤ _
  rw [List.length_append, List.length_append]; omega
 ·omega
theorem go_wk {P : Program} {nt : Nat} {Q : AQ} {k : List KI} {s t : AS} {c : Code} (L : List Nat) (h0 : Wk s.nx L s t) (h : GO P nt (.code c :: k) Q t) : GO P nt (.code c :: k) Q s := by
 intro M N a w hf
 exact AW.then h (h0.fits hf) fun e a' w' M' N' s' hx hf' hr => ⟨M', N', s', (h0.ext (.refl _ _ _ _ _)).trans hx, hf', hr⟩
theorem map0_up : AOle .map0 (upO []) := ⟨id, fun M N U w j hj => ⟨#[], 0, hj, ⟨rfl, by simp, by simp, by simp, by simp⟩, .agg _ _ rfl fun j p hj => by
 match j, hj with
 | 0, hj => cases hj; exact .v _
 | 1, hj => cases hj; exact .v _
 | j + 2, hj => simp [Spot.c] at hj⟩⟩
theorem map0_kd : AOle .map0 (kdO []) := ⟨id, fun M N U w j hj => ⟨#[], 0, hj, ⟨rfl, by simp, by simp, by simp, by simp⟩, evI_zero M⟩⟩
def varE (s : Str) : Expr := .mk 1 s ⟨0, 0, ByteArray.empty⟩ 0 []
abbrev vArg (s : Str) : PV := .agg [pI 1, pS s, pI 0, pI 0, pS ByteArray.empty, pI 0, .iv (.v (.slice none 0 0))]
theorem vArg_le (s : Str) : PVle (vArg s) (ag (varE s).c) := .agg ⟨.refl _, .refl _, .refl _, .refl _, .refl _, .refl _, .nil _ _, trivial⟩
theorem varE_size (s : Str) : (varE s).size = 1 := rfl
def varT (r : Rule) (i : Int) (t : TS) (f : Int) (v : Str) (o : Expr) : TS :=
 if f = 2 then (t.add (numR r i i o)).add (numR r i i (varE v)) else if f = 1 then t.add (numR r i i (varE v)) else alikeT r i i t (varE v) o
def inT (p : Prog) (r : Rule) (i : Int) (t : TS) (ls : List Lit) : Nat → TS
 | 0 => t
 | k + 1 => litT p r i i (inT p r i t ls k) (ls.getD k default)
def stepT (p : Prog) (r : Rule) (i : Int) (t : TS) (l : Lit) : TS :=
 if l.kind = 4 then inT p r i (varT r i t l.afunc l.avar l.aof) l.abody l.abody.length else litT p r i (-1) t l
def TS.o : TS := ⟨[], [], []⟩
def bodyT (p : Prog) (r : Rule) : Nat → TS
 | 0 => TS.o.add (atomWs p r r.head (-1) (-1) r.head.terms.length)
 | k + 1 => stepT p r k (bodyT p r k) (r.body.getD k default)
def kindStep (up : UM) (m : KM) (w : Want) : KM := if w.has = 0 ∧ lkD (.si .i64) m (rootL up w.at_) 0 = 0 then putK (.si .i64) m (rootL up w.at_) w.kind else m
def typesT (p : Prog) (r : Rule) : TS := ⟨(bodyT p r r.body.length).up, (bodyT p r r.body.length).ws, (bodyT p r r.body.length).ws.foldl (kindStep (bodyT p r r.body.length).up) []⟩
theorem var_ok (r : Rule) (i : Int) {t : TS} (ok : upOK t.up) (f : Int) (v : Str) (o : Expr) : upOK (varT r i t f v o).up := by
 unfold varT
 repeat' split
 ·exact ok
 ·exact ok
 ·exact alike_ok r i i ok _ _
theorem in_ok (p : Prog) (r : Rule) (i : Int) {t : TS} (ok : upOK t.up) (ls : List Lit) : ∀ k, upOK (inT p r i t ls k).up
 | 0 => ok
 | k + 1 => lit_ok p r i i (in_ok p r i ok ls k) _
theorem step_ok (p : Prog) (r : Rule) (i : Int) {t : TS} (ok : upOK t.up) (l : Lit) : upOK (stepT p r i t l).up := by
 unfold stepT
 split
 ·exact in_ok p r i (var_ok r i ok _ _ _) _ _
 ·exact lit_ok p r i (-1) ok l
theorem body_ok (p : Prog) (r : Rule) : ∀ k, upOK (bodyT p r k).up
 | 0 => trivial
 | k + 1 => step_ok p r k (body_ok p r k) _
theorem alike_kind (r : Rule) (lit w : Int) (t : TS) (a b : Expr) : (alikeT r lit w t a b).kind = t.kind := by
 have h1 : ∀ (t : TS) u v, (tieT t u v).kind = t.kind := fun t u v => by unfold tieT; split <;> rfl
 have h2 : ∀ (t : TS) x y, (alikeX r lit w t x y).kind = t.kind := fun t x y => by
  unfold alikeX
  split
  ·exact h1 _ _ _
  ·rfl
 unfold alikeT
 split <;> exact h2 _ _ _
theorem lit_kind (p : Prog) (r : Rule) (lit w : Int) (t : TS) (l : Lit) : (litT p r lit w t l).kind = t.kind := by
 unfold litT
 repeat' split
 ·rfl
 ·exact alike_kind r lit w t _ _
 ·rfl
 ·rfl
theorem in_kind (p : Prog) (r : Rule) (i : Int) (t : TS) (ls : List Lit) : ∀ k, (inT p r i t ls k).kind = t.kind
 | 0 => rfl
 | k + 1 => by rw [inT, lit_kind, in_kind p r i t ls k]
theorem step_kind (p : Prog) (r : Rule) (i : Int) (t : TS) (l : Lit) : (stepT p r i t l).kind = t.kind := by
 unfold stepT
 split
 ·rw [in_kind]
  unfold varT
  repeat' split
  ·rfl
  ·rfl
  ·exact alike_kind r i i t _ _
 ·exact lit_kind p r i (-1) t l
theorem body_kind (p : Prog) (r : Rule) : ∀ k, (bodyT p r k).kind = []
 | 0 => rfl
 | k + 1 => by rw [bodyT, step_kind, body_kind p r k]
theorem var_len (r : Rule) (i : Int) (t : TS) (f : Int) (v : Str) (o : Expr) : (varT r i t f v o).ws.length ≤ t.ws.length + o.size + 2 := by
 have h1 := numR_len r i i o
 have h2 := numR_len r i i (varE v)
 have h3 := alike_len r i i t (varE v) o
 rw [varE_size] at h2 h3
 unfold varT
 repeat' split
 ·show ((t.ws ++ _) ++ _).length ≤ _
  rw [List.length_append, List.length_append]; omega
 ·show (t.ws ++ _).length ≤ _
  rw [List.length_append]; omega
 ·omega
theorem sizesT_take : ∀ (l : List Lit) (i : Nat), i < l.length → Lit.sizes (l.take i) + (l.getD i default).size ≤ Lit.sizes l
 | [], i, h => by simp at h
 | s :: r, 0, _ => by simp [Lit.sizes]
 | s :: r, i + 1, h => by
  have := sizesT_take r i (by simpa using h)
  simp only [List.take_succ_cons, List.getD_cons_succ, Lit.sizes]; omega
theorem Lit.sizes_snoc (l : List Lit) (i : Nat) (h : i < l.length) : Lit.sizes (l.take (i + 1)) = Lit.sizes (l.take i) + (l.getD i default).size := by
 rw [take_step h]
 have : ∀ (a : List Lit) (b : Lit), Lit.sizes (a ++ [b]) = Lit.sizes a + b.size := by
  intro a b
  induction a with
  | nil => simp [Lit.sizes]
  | cons x r ih => simp only [List.cons_append, Lit.sizes, ih]; omega
 exact this _ _
theorem in_len (p : Prog) (r : Rule) (i : Int) (t : TS) (ls : List Lit) : ∀ k, k ≤ ls.length → (inT p r i t ls k).ws.length ≤ t.ws.length + Lit.sizes (ls.take k)
 | 0, _ => by simp [inT, Lit.sizes]
 | k + 1, h => by
  have h1 := in_len p r i t ls k (by omega)
  have h2 := lit_len p r i i (inT p r i t ls k) (ls.getD k default)
  rw [inT, Lit.sizes_snoc ls k (by omega)]; omega
theorem step_len (p : Prog) (r : Rule) (i : Int) (t : TS) (l : Lit) : (stepT p r i t l).ws.length ≤ t.ws.length + l.size := by
 have hsz := l.size_eq
 unfold stepT
 split
 ·have h1 := in_len p r i (varT r i t l.afunc l.avar l.aof) l.abody l.abody.length (Nat.le_refl _)
  have h2 := var_len r i t l.afunc l.avar l.aof
  rw [List.take_length] at h1; omega
 ·exact lit_len p r i (-1) t l
theorem body_len (p : Prog) (r : Rule) : ∀ k, k ≤ r.body.length → (bodyT p r k).ws.length ≤ r.head.terms.length + Lit.sizes (r.body.take k)
 | 0, _ => by
  have := atomWs_len p r r.head (-1) (-1) r.head.terms.length
  show ([] ++ _).length ≤ _
  simp only [List.nil_append]; omega
 | k + 1, h => by
  have h1 := body_len p r k (by omega)
  have h2 := step_len p r k (bodyT p r k) (r.body.getD k default)
  rw [bodyT, Lit.sizes_snoc r.body k (by omega)]; omega
theorem d52f (r : Rule) (up : UM) (kd : KM) (W : IV) (v0 : Spot) (ok : upOK up) : Det Tryz.prog 52 [.ptr 0 0, ag v0.c] [.cells [.iv (bookI r), .mp 1, .iv W, .mp 2], upO up, kdO kd] (ag (rootL up v0).c) [(0, some (.cells [.iv (bookI r), .mp 1, .iv W, .mp 2])), (1, some (upO up)), (2, some (kdO kd))] 3 := by
 refine det_end tyA_ok Tryz.func52 rfl (by decide) Tryz.ntmps52 rfl (by simp) ?_
 refine gA rfl ?_
 refine go_lp (σ := { v : Spot // rootL up v = rootL up v0 }) (fun v => ⟨[(0, .ptr 0 0), (3, .ptr 3 0), (4, .ptr 4 0)],
  [(0, some (.cells [.iv (bookI r), .mp 1, .iv W, .mp 2])), (1, some (upO up)), (2, some (kdO kd)), (3, some (.cells [pS v.1.1, pI v.1.2])), (4, some (.cells [pS ⟨#[]⟩, pI 0]))], 5⟩) (fun v => upM up v.1) ⟨v0, rfl⟩ []
  (zW (zO (hM rfl rfl rfl (hM rfl rfl rfl ⟨⟨_, rfl, .of_eq rfl⟩, Nat.le_of_ble_eq_true rfl, rfl, ⟨_, rfl, .of_eq rfl⟩, Nat.le_of_ble_eq_true rfl, rfl, trivial⟩)))) fun v => ?_
 obtain ⟨v, hv⟩ := v
 refine gA rfl (zI (fun g => ?_) fun g => ?_)
 ·have h : hasK (.si .i64) up v = false := by simpa using g
  have e : rootL up v0 = v := by rw [← hv]; exact root_no up v h
  refine gA rfl (end_det [] (by first | exact .inr rfl | exact .inl rfl) rfl (zM ⟨.of_eq (congrArg (fun x : Spot => ag x.c) e.symm), rfl, trivial⟩ (zO (hM rfl rfl rfl (hM rfl rfl rfl trivial)))))
 ·have h : hasK (.si .i64) up v = true := by simpa using g
  obtain ⟨h1, h2⟩ := root_yes up v ok h
  refine gA rfl ?_
  exact ⟨⟨lkD (.si .i64) up v Spot.z, h1.trans hv⟩, [], h2, zW (zO (hM rfl rfl rfl (hM rfl rfl rfl ⟨⟨_, rfl, .of_eq rfl⟩, Nat.le_of_ble_eq_true rfl, rfl, ⟨_, rfl, .of_eq rfl⟩, Nat.le_of_ble_eq_true rfl, rfl, trivial⟩)))⟩
set_option maxHeartbeats 2000000 in
theorem c49 (p : Prog) (r : Rule) (hb : r.size ≤ 100000000) : Pure Tryz.prog 49 [.iv (relsI p), .iv (bookI r)] (.iv (tyI r (typesT p r))) := by
 unfold Rule.size at hb
 have hal := Lit.length_sizes r.body
 have hbs : r.body.length ≤ Lit.sizes r.body := hal
 refine pure_end tyA_ok Tryz.func49 rfl (by decide) Tryz.ntmps49 rfl (by simp) rfl ?_
 refine gM 14 rfl (go_virtC 2 2 5 rfl rfl ?_)
 refine go_wk [] (t := ⟨[(0, .iv (relsI p)), (1, .iv (bookI r)), (5, .ptr 2 0)], [(2, some (TS.cell r 0 3 TS.o.ws.length 1)), (0, some (upO TS.o.up)), (3, some (rowI 5 TS.o.ws Want.c)), (1, some (kdO TS.o.kind))], 4⟩)
  (zW ⟨⟨_, rfl, .of_eq rfl⟩, Nat.le_of_ble_eq_true rfl, rfl, ⟨_, rfl, map0_up⟩, Nat.le_of_ble_eq_true rfl, trivial, ⟨_, rfl, .of_eq rfl⟩, Nat.le_of_ble_eq_true rfl, rowI_low _, ⟨_, rfl, map0_kd⟩, Nat.le_of_ble_eq_true rfl, trivial, trivial⟩) ?_
 refine gA rfl (go_t (d90 p r TS.o r.head (-1) (-1) (by show 0 + _ ≤ _; omega)) rfl rfl rfl rfl rfl rfl rfl (by first | rfl | (rw [List.length_append]; rfl) | simp) (by first | rfl | (rw [List.map_append]; rfl) | (simp only [List.map_append, List.append_assoc]; rfl)) rfl rfl rfl rfl rfl rfl ?_)
 refine gA rfl ?_
 refine go_for 0 r.body.length (Nat.zero_le _) (fun i => ⟨[(0, .iv (relsI p)), (1, .iv (bookI r)), (5, .ptr 2 0), (31, .iv (lits r.body)), (32, pI r.body.length), (33, pI i)],
  [(2, some (TS.cell r 0 5 (bodyT p r i).ws.length 1)), (0, some (upO (bodyT p r i).up)), (5, some (rowI 5 (bodyT p r i).ws Want.c)), (1, some (kdO (bodyT p r i).kind))], 6⟩) (fun _ => True) _ trivial
  (wkT (t := bodyT p r 0) rfl rfl rfl rfl rfl rfl rfl rfl rfl rfl rfl ⟨.refl _, rfl, .refl _, rfl, .refl _, rfl, .refl _, rfl, .refl _, rfl, .refl _, rfl, trivial⟩) fun i hi _ => ?_
 have hln := body_len p r i hi
 have hok := body_ok p r i
 refine gA rfl (zI (fun h1 => ?_) fun h1 => ?_)
 ·have h1 : i < r.body.length := by simpa using h1
  have hst := sizesT_take r.body i h1
  have hs : bodyT p r (i + 1) = stepT p r i (bodyT p r i) (r.body.getD i default) := rfl
  generalize bodyT p r i = t1 at *
  have hsz := (r.body.getD i default).size_eq
  refine gA rfl (zI (fun k4 => ?_) fun k4 => ?_)
  ·have k4 : ¬ (r.body.getD i default).kind = 4 := by have g : (!decide ((r.body.getD i default).kind = 4)) = true := k4; simpa only [Bool.not_eq_true', decide_eq_false_iff_not] using g
   have hS : stepT p r i t1 (r.body.getD i default) = litT p r i (-1) t1 (r.body.getD i default) := if_neg k4
   rw [hS] at hs
   refine gA rfl (gtA (d91 p r t1 (r.body.getD i default) i (-1) hok (by omega)) ?_)
   refine gA rfl ⟨h1, trivial, _, wkTA (hs.symm)⟩
  have k4 : (r.body.getD i default).kind = 4 := by have g : (!decide ((r.body.getD i default).kind = 4)) = false := k4; simpa only [Bool.not_eq_false', decide_eq_true_eq] using g
  have hS : stepT p r i t1 (r.body.getD i default) = inT p r i (varT r i t1 (r.body.getD i default).afunc (r.body.getD i default).avar (r.body.getD i default).aof) (r.body.getD i default).abody (r.body.getD i default).abody.length := if_pos k4
  rw [hS] at hs
  have hV : varT r i t1 (r.body.getD i default).afunc (r.body.getD i default).avar (r.body.getD i default).aof = if (r.body.getD i default).afunc = 2 then (t1.add (numR r i i (r.body.getD i default).aof)).add (numR r i i (varE (r.body.getD i default).avar)) else if (r.body.getD i default).afunc = 1 then t1.add (numR r i i (varE (r.body.getD i default).avar)) else alikeT r i i t1 (varE (r.body.getD i default).avar) (r.body.getD i default).aof := rfl
  have hVo := var_ok r i hok (r.body.getD i default).afunc (r.body.getD i default).avar (r.body.getD i default).aof
  have hVl := var_len r i t1 (r.body.getD i default).afunc (r.body.getD i default).avar (r.body.getD i default).aof
  have habl := Lit.length_sizes (r.body.getD i default).abody
  have hvs := varE_size (r.body.getD i default).avar
  have hol := numR_len r i i (r.body.getD i default).aof
  generalize varT r i t1 (r.body.getD i default).afunc (r.body.getD i default).avar (r.body.getD i default).aof = V at *
  refine gA rfl (zI (fun f2 => ?_) fun f2 => ?_)
  ·have f2 : (r.body.getD i default).afunc = 2 := zT f2
   have hv : V = (t1.add (numR r i i (r.body.getD i default).aof)).add (numR r i i (varE (r.body.getD i default).avar)) := by rw [hV, if_pos f2]
   refine gA rfl (gtA (d92' r t1 (r.body.getD i default).aof i i (by omega)) ?_)
   refine gA rfl (go_t (Det.le (aa := [.ptr 0 0, vArg (r.body.getD i default).avar, pI i, pI i]) (d92' r (t1.add (numR r i i (r.body.getD i default).aof)) (varE (r.body.getD i default).avar) i i (by show (t1.ws ++ _).length + _ ≤ _; rw [List.length_append, varE_size]; omega)) ⟨.refl _, vArg_le _, .refl _, .refl _, trivial⟩) rfl rfl rfl rfl rfl rfl rfl (by first | rfl | (rw [List.length_append]; rfl) | simp) (by first | rfl | (rw [List.map_append]; rfl) | (simp only [List.map_append, List.append_assoc]; rfl)) rfl rfl rfl rfl rfl rfl ?_)
   refine gA rfl ?_
   refine go_for 0 (r.body.getD i default).abody.length (Nat.zero_le _) (fun k => ⟨[(0, .iv (relsI p)), (1, .iv (bookI r)), (5, .ptr 2 0), (6, pI i), (31, .iv (lits r.body)), (32, pI r.body.length), (33, pI i), (79, .iv (lits (r.body.getD i default).abody)), (80, pI (r.body.getD i default).abody.length), (81, pI k)], [(2, some (TS.cell r 0 10 (inT p r i V (r.body.getD i default).abody k).ws.length 1)), (0, some (upO (inT p r i V (r.body.getD i default).abody k).up)), (10, some (rowI 5 (inT p r i V (r.body.getD i default).abody k).ws Want.c)), (1, some (kdO (inT p r i V (r.body.getD i default).abody k).kind))], 11⟩) (fun _ => True) _ trivial
    (wkT hv.symm rfl rfl rfl rfl rfl rfl rfl rfl rfl rfl ⟨.refl _, rfl, .refl _, rfl, .refl _, rfl, .refl _, rfl, .refl _, rfl, .refl _, rfl, .refl _, rfl, .iv (litsIL _), rfl, .refl _, rfl, .refl _, rfl, trivial⟩) fun k hk _ => ?_
   have hil := in_len p r i V (r.body.getD i default).abody k hk
   have hio := in_ok p r i hVo (r.body.getD i default).abody k
   have his : inT p r i V (r.body.getD i default).abody (k + 1) = litT p r i i (inT p r i V (r.body.getD i default).abody k) ((r.body.getD i default).abody.getD k default) := rfl
   refine gA rfl (zI (fun h2 => ?_) fun h2 => ?_)
   ·have h2 : k < (r.body.getD i default).abody.length := zN h2
    have hkt := sizesT_take (r.body.getD i default).abody k h2
    refine gA rfl (gtA (d91 p r (inT p r i V (r.body.getD i default).abody k) ((r.body.getD i default).abody.getD k default) i i hio (by omega)) ?_)
    refine gA rfl ⟨h2, trivial, _, wkTA (rfl)⟩
   ·have h2 : (r.body.getD i default).abody.length ≤ k := zG h2
    have hke : k = (r.body.getD i default).abody.length := by omega
    subst hke
    refine gA rfl ⟨h1, trivial, _, wkTA (hs.symm)⟩
  have f2 : ¬ (r.body.getD i default).afunc = 2 := zF f2
  rw [if_neg f2] at hV
  refine gA rfl (zI (fun f1 => ?_) fun f1 => ?_)
  ·have f1 : (r.body.getD i default).afunc = 1 := zT f1
   have hv : V = t1.add (numR r i i (varE (r.body.getD i default).avar)) := by rw [hV, if_pos f1]
   refine gA rfl (gtA (Det.le (aa := [.ptr 0 0, vArg (r.body.getD i default).avar, pI i, pI i]) (d92' r t1 (varE (r.body.getD i default).avar) i i (by rw [varE_size]; omega)) ⟨.refl _, vArg_le _, .refl _, .refl _, trivial⟩) ?_)
   refine gA rfl ?_
   refine go_for 0 (r.body.getD i default).abody.length (Nat.zero_le _) (fun k => ⟨[(0, .iv (relsI p)), (1, .iv (bookI r)), (5, .ptr 2 0), (6, pI i), (31, .iv (lits r.body)), (32, pI r.body.length), (33, pI i), (79, .iv (lits (r.body.getD i default).abody)), (80, pI (r.body.getD i default).abody.length), (81, pI k)], [(2, some (TS.cell r 0 9 (inT p r i V (r.body.getD i default).abody k).ws.length 1)), (0, some (upO (inT p r i V (r.body.getD i default).abody k).up)), (9, some (rowI 5 (inT p r i V (r.body.getD i default).abody k).ws Want.c)), (1, some (kdO (inT p r i V (r.body.getD i default).abody k).kind))], 10⟩) (fun _ => True) _ trivial
    (wkT hv.symm rfl rfl rfl rfl rfl rfl rfl rfl rfl rfl ⟨.refl _, rfl, .refl _, rfl, .refl _, rfl, .refl _, rfl, .refl _, rfl, .refl _, rfl, .refl _, rfl, .iv (litsIL _), rfl, .refl _, rfl, .refl _, rfl, trivial⟩) fun k hk _ => ?_
   have hil := in_len p r i V (r.body.getD i default).abody k hk
   have hio := in_ok p r i hVo (r.body.getD i default).abody k
   have his : inT p r i V (r.body.getD i default).abody (k + 1) = litT p r i i (inT p r i V (r.body.getD i default).abody k) ((r.body.getD i default).abody.getD k default) := rfl
   refine gA rfl (zI (fun h2 => ?_) fun h2 => ?_)
   ·have h2 : k < (r.body.getD i default).abody.length := zN h2
    have hkt := sizesT_take (r.body.getD i default).abody k h2
    refine gA rfl (gtA (d91 p r (inT p r i V (r.body.getD i default).abody k) ((r.body.getD i default).abody.getD k default) i i hio (by omega)) ?_)
    refine gA rfl ⟨h2, trivial, _, wkTA (rfl)⟩
   ·have h2 : (r.body.getD i default).abody.length ≤ k := zG h2
    have hke : k = (r.body.getD i default).abody.length := by omega
    subst hke
    refine gA rfl ⟨h1, trivial, _, wkTA (hs.symm)⟩
  ·have f1 : ¬ (r.body.getD i default).afunc = 1 := zF f1
   have hv : V = alikeT r i i t1 (varE (r.body.getD i default).avar) (r.body.getD i default).aof := by rw [hV, if_neg f1]
   refine gA rfl (gtA (Det.le (aa := [.ptr 0 0, vArg (r.body.getD i default).avar, ag (r.body.getD i default).aof.c, pI i, pI i]) (d93 r t1 (varE (r.body.getD i default).avar) (r.body.getD i default).aof i i hok (by rw [varE_size]; omega)) ⟨.refl _, vArg_le _, .refl _, .refl _, .refl _, trivial⟩) ?_)
   refine gA rfl ?_
   refine go_for 0 (r.body.getD i default).abody.length (Nat.zero_le _) (fun k => ⟨[(0, .iv (relsI p)), (1, .iv (bookI r)), (5, .ptr 2 0), (6, pI i), (31, .iv (lits r.body)), (32, pI r.body.length), (33, pI i), (79, .iv (lits (r.body.getD i default).abody)), (80, pI (r.body.getD i default).abody.length), (81, pI k)], [(2, some (TS.cell r 0 9 (inT p r i V (r.body.getD i default).abody k).ws.length 1)), (0, some (upO (inT p r i V (r.body.getD i default).abody k).up)), (9, some (rowI 5 (inT p r i V (r.body.getD i default).abody k).ws Want.c)), (1, some (kdO (inT p r i V (r.body.getD i default).abody k).kind))], 10⟩) (fun _ => True) _ trivial
    (wkT hv.symm rfl rfl rfl rfl rfl rfl rfl rfl rfl rfl ⟨.refl _, rfl, .refl _, rfl, .refl _, rfl, .refl _, rfl, .refl _, rfl, .refl _, rfl, .refl _, rfl, .iv (litsIL _), rfl, .refl _, rfl, .refl _, rfl, trivial⟩) fun k hk _ => ?_
   have hil := in_len p r i V (r.body.getD i default).abody k hk
   have hio := in_ok p r i hVo (r.body.getD i default).abody k
   have his : inT p r i V (r.body.getD i default).abody (k + 1) = litT p r i i (inT p r i V (r.body.getD i default).abody k) ((r.body.getD i default).abody.getD k default) := rfl
   refine gA rfl (zI (fun h2 => ?_) fun h2 => ?_)
   ·have h2 : k < (r.body.getD i default).abody.length := zN h2
    have hkt := sizesT_take (r.body.getD i default).abody k h2
    refine gA rfl (gtA (d91 p r (inT p r i V (r.body.getD i default).abody k) ((r.body.getD i default).abody.getD k default) i i hio (by omega)) ?_)
    refine gA rfl ⟨h2, trivial, _, wkTA (rfl)⟩
   ·have h2 : (r.body.getD i default).abody.length ≤ k := zG h2
    have hke : k = (r.body.getD i default).abody.length := by omega
    subst hke
    refine gA rfl ⟨h1, trivial, _, wkTA (hs.symm)⟩
 ·have h1 : r.body.length ≤ i := by simpa using h1
  have hie : i = r.body.length := by omega
  subst hie
  have hT : typesT p r = ⟨(bodyT p r r.body.length).up, (bodyT p r r.body.length).ws, (bodyT p r r.body.length).ws.foldl (kindStep (bodyT p r r.body.length).up) []⟩ := rfl
  rw [hT]
  rw [List.take_length] at hln
  have hkd : (bodyT p r r.body.length).kind = [] := body_kind p r _
  generalize bodyT p r r.body.length = t1 at *
  have hK0 : t1.kind = (t1.ws.take 0).foldl (kindStep t1.up) [] := hkd
  refine gA rfl ?_
  refine go_frzR 5 (fun k => Want.c (t1.ws.getD k default)) rfl (rowI_el rfl) (by simp [AF.okR, PV.inRow]) ⟨(by simp [AO.okR, inRowL, PV.inRow]), trivial, rowI_okR _ _ _ _ _ _, trivial, trivial⟩ ?_
  refine go_for 0 t1.ws.length (Nat.zero_le _) (fun i => ⟨[(5, .ptr 2 0), (96, .iv (slc 5 t1.ws Want.c)), (97, pI t1.ws.length), (98, pI i)],
   [(2, some (.cells [.iv (bookI r), .mp 0, .iv (slc 5 t1.ws Want.c), .mp 1])), (0, some (upO t1.up)), (1, some (kdO ((t1.ws.take i).foldl (kindStep t1.up) [])))], 6⟩) (fun _ => True) [] trivial
   (zM ⟨.refl _, rfl, .imm rfl (fun k _ => by rw [Nat.zero_add]), rfl, .refl _, rfl, .refl _, rfl, trivial⟩ ⟨⟨_, rfl, .cells ⟨.refl _, .refl _, .imm rfl (fun k _ => by rw [Nat.zero_add]), .refl _, trivial⟩⟩, Nat.le_of_ble_eq_true rfl, rfl, hM rfl rfl rfl (hM rfl hK0 rfl trivial)⟩) fun i hi _ => ?_
  refine gA rfl (zI (fun h2 => ?_) fun h2 => ?_)
  ·have h2 : i < t1.ws.length := zN h2
   have hf := fold_step (g := kindStep t1.up) (b := []) h2
   refine gA rfl (zq [2, 0, 1] (d52f r t1.up ((t1.ws.take i).foldl (kindStep t1.up) []) (slc 5 t1.ws Want.c) (t1.ws.getD i default).at_ hok) ?_)
   refine gA rfl (zI (fun g1 => ?_) fun g1 => ?_)
   ·have g1 : (t1.ws.getD i default).has = 0 := zT g1
    refine gA rfl (zI (fun g2 => ?_) fun g2 => ?_)
    ·have g2 : lkD (.si .i64) ((t1.ws.take i).foldl (kindStep t1.up) []) (rootL t1.up (t1.ws.getD i default).at_) 0 = 0 := zT g2
     have hk : kindStep t1.up ((t1.ws.take i).foldl (kindStep t1.up) []) (t1.ws.getD i default) = putK (.si .i64) ((t1.ws.take i).foldl (kindStep t1.up) []) (rootL t1.up (t1.ws.getD i default).at_) (t1.ws.getD i default).kind := if_pos ⟨g1, g2⟩
     rw [hk] at hf
     refine gA rfl ?_
     exact ⟨h2, trivial, [], zW (zO (hM rfl rfl rfl (hM rfl (by first | exact hf.symm | (rw [hf]; rfl)) rfl trivial)))⟩
    ·have g2 : ¬ lkD (.si .i64) ((t1.ws.take i).foldl (kindStep t1.up) []) (rootL t1.up (t1.ws.getD i default).at_) 0 = 0 := zF g2
     have hk : kindStep t1.up ((t1.ws.take i).foldl (kindStep t1.up) []) (t1.ws.getD i default) = (t1.ws.take i).foldl (kindStep t1.up) [] := if_neg fun h => g2 h.2
     rw [hk] at hf
     refine gA rfl ?_
     exact ⟨h2, trivial, [], zW (zO (hM rfl rfl rfl (hM rfl (by first | exact hf.symm | (rw [hf]; rfl)) rfl trivial)))⟩
   ·have g1 : ¬ (t1.ws.getD i default).has = 0 := zF g1
    have hk : kindStep t1.up ((t1.ws.take i).foldl (kindStep t1.up) []) (t1.ws.getD i default) = (t1.ws.take i).foldl (kindStep t1.up) [] := if_neg fun h => g1 h.1
    rw [hk] at hf
    refine gA rfl ?_
    exact ⟨h2, trivial, [], zW (zO (hM rfl rfl rfl (hM rfl (by first | exact hf.symm | (rw [hf]; rfl)) rfl trivial)))⟩
  ·have h2 : t1.ws.length ≤ i := zG h2
   have e0 : t1.ws.take i = t1.ws := List.take_of_length_le h2
   refine goR rfl trivial (end_frz (.inr rfl) rfl (.map 0 rfl (.map 1 rfl (.cells 2 _ rfl (show _ = List.map PV.iv [bookI r, upI t1.up, slc 5 t1.ws Want.c, kdI (t1.ws.foldl (kindStep t1.up) [])] by rw [e0]; rfl) (.done (.of_eq rfl))))))
def atomBad (a : Atom) : Bool := (atomW WS.o a).bad
def litBad (l : Lit) : Bool := (litF l.size l WS.o).bad
def wideB (l : Lit) : Bool := decide (l.kind = 4) && decide ((l.abody.length : Int) > 12)
def litsN (n : Nat) : List Int := (List.range (n + 1)).map fun k : Nat => (k : Int) - 1
theorem litsN_len (n : Nat) : (litsN n).length = n + 1 := by simp [litsN]
theorem litsN_get (n k : Nat) (h : k < n + 1) : (litsN n).getD k default = (k : Int) - 1 := by simp [litsN, h]
def firstL (f : Int → Bool) (n : Nat) : Option Int := (litsN n).find? f
abbrev Diag := Int × Pos
def Diag.c (d : Diag) : List IV := [iI d.1, iI d.2.line, iI d.2.col]
def lookD (r : Rule) (e : Int) (f : Int → Bool) (k : Diag) : Diag := match firstL f r.body.length with
 | some lit => (e, placeL r lit)
 | none => k
def looksD (p : Prog) (r : Rule) : Diag :=
 lookD r 61 (fun lit => (atomsL r lit).any fun x => absB p x) <| lookD r 62 (fun lit => (atomsL r lit).any fun x => aryB p x) <| lookD r 65 (scopeB r) <| lookD r 63 (wrongB (typesT p r)) <| lookD r 64 (looseB r) (0, ⟨0, 0⟩)
def ruleD (p : Prog) (r : Rule) (n : Int) : Diag :=
 if atomBad r.head = true then (1, r.at_) else match r.body.find? litBad with
 | some l => (1, l.at)
 | none => if n > 256 ∨ (r.body.length : Int) > 12 then (66, r.at_) else if (sizeN r : Int) > 24 then (66, r.at_) else match r.body.find? wideB with
  | some l => (66, l.at)
  | none => looksD p r
def Rule.fit (r : Rule) : Prop := r.size ≤ 10000000 ∧ r.head.ts ≤ 900000000 ∧ ∀ l ∈ r.body, l.ts ≤ 900000000
theorem find_none {α : Type} {p : α → Bool} {l : List α} (h : l.any p = false) : l.find? p = none := by
 rw [List.find?_eq_none]
 intro x hx
 have := List.any_eq_false.1 h x hx
 simpa using this
theorem find_hit {α : Type} [Inhabited α] {p : α → Bool} {l : List α} {i : Nat} (h : (l.take i).any p = false) (hi : i < l.length) (hp : p (l.getD i default) = true) : l.find? p = some (l.getD i default) := by
 have hg : l.getD i default = l[i] := by simp [hi]
 rw [hg] at hp ⊢
 rw [List.find?_eq_some_iff_getElem]
 refine ⟨hp, i, hi, rfl, fun j hj => ?_⟩
 have := List.any_eq_false.1 h l[j] (List.mem_iff_getElem?.2 ⟨j, by rw [List.getElem?_take, if_pos hj, List.getElem?_eq_getElem (by omega)]⟩)
 simpa using this
def looksRow (p : Prog) (r : Rule) : List (List PV) := [[pI 61, .clo (.func 110) [] [.ptr 1 0, .ptr 0 0]], [pI 62, .clo (.func 114) [] [.ptr 1 0, .ptr 0 0]], [pI 65, .clo (.func 116) [] [.ptr 1 0]], [pI 63, .clo (.func 118) [.iv (tyI r (typesT p r))] []], [pI 64, .clo (.func 119) [.iv (bookI r)] []]]
theorem looksRow_low (p : Prog) (r : Rule) (n : Nat) (h : Nat.blt 1 n = true) : (AO.row 2 (looksRow p r)).low n := by
 have h0 : Nat.blt 0 n = true := Nat.ble_eq_true_of_le (by have := Nat.le_of_ble_eq_true h; omega)
 intro k e hk
 match k, hk with
 | 0, hk => cases hk; simp [belowL, PV.low, h, h0]
 | 1, hk => cases hk; simp [belowL, PV.low, h, h0]
 | 2, hk => cases hk; simp [belowL, PV.low, h]
 | 3, hk => cases hk; simp [belowL, PV.low]
 | 4, hk => cases hk; simp [belowL, PV.low]
 | k + 5, hk => simp [looksRow] at hk
theorem look_hit {r : Rule} {e : Int} {f : Int → Bool} {k : Diag} {i : Nat} (hJ : ((litsN r.body.length).take i).any f = false) (hi : i < r.body.length + 1) (h : f ((i : Int) - 1) = true) : lookD r e f k = (e, placeL r ((i : Int) - 1)) := by
 have h1 := litsN_get r.body.length i hi
 have := find_hit hJ (by rw [litsN_len]; exact hi) (by rw [h1]; exact h)
 rw [h1] at this
 rw [lookD, firstL, this]
theorem look_none {r : Rule} {e : Int} {f : Int → Bool} {k : Diag} {i : Nat} (hJ : ((litsN r.body.length).take i).any f = false) (hi : r.body.length + 1 ≤ i) : lookD r e f k = k := by
 rw [List.take_of_length_le (by rw [litsN_len]; exact hi)] at hJ
 rw [lookD, firstL, find_none hJ]
theorem look_step {r : Rule} {f : Int → Bool} {i : Nat} (hJ : ((litsN r.body.length).take i).any f = false) (hi : i < r.body.length + 1) (h : f ((i : Int) - 1) = false) : ((litsN r.body.length).take (i + 1)).any f = false := by
 refine (any_step hJ (by rw [litsN_len]; exact hi)).2 ?_
 rw [litsN_get _ _ hi]; exact h
set_option maxHeartbeats 4000000 in
theorem c65 (p : Prog) (r : Rule) (n : Int) (hb : r.fit) : Pure Tryz.prog 65 [.iv (relsI p), ag r.c, pI n] (ag (ruleD p r n).c) := by
 obtain ⟨hb, hb2, hb3⟩ := hb
 have hsz : r.size = r.head.terms.length + Lit.sizes r.body := rfl
 have hal := Lit.length_sizes r.body
 refine pure_end tyA_ok Tryz.func65 rfl (by decide) Tryz.ntmps65 rfl (by simp) rfl ?_
 refine gA rfl (zp (c61 r.head hb2) ?_)
 refine gA rfl (zI (fun g1 => ?_) fun g1 => ?_)
 ·have g1 : atomBad r.head = true := by
   cases h : atomBad r.head with
   | true => rfl
   | false =>
    have h : (atomW WS.o r.head).bad = false := h
    rw [h] at g1; simp at g1
  rw [ruleD, if_pos g1]
  refine gA rfl (zL (.of_eq ?_))
  rfl
 have g1 : ¬ atomBad r.head = true := by
  intro h
  have h : (atomW WS.o r.head).bad = true := h
  rw [h] at g1; simp at g1
 rw [ruleD, if_neg g1]
 refine gA rfl ?_
 refine go_for 0 r.body.length (Nat.zero_le _) (fun i => ⟨[(2, pI n), (3, .ptr 0 0), (4, .ptr 1 0), (6, .ptr 2 0), (32, .iv (lits r.body)), (33, pI r.body.length), (34, pI i)], [(0, some (.cells [.iv (relsI p)])), (1, some (cellsI r.c)), (2, some (.cells [pI 0, pI 0, pI 0]))], 3⟩) (fun i => (r.body.take i).any litBad = false) [] (by simp)
  (zW ⟨⟨_, rfl, .of_eq rfl⟩, Nat.le_of_ble_eq_true rfl, rfl, ⟨_, rfl, .of_eq rfl⟩, Nat.le_of_ble_eq_true rfl, rfl, ⟨_, rfl, .of_eq rfl⟩, Nat.le_of_ble_eq_true rfl, rfl, trivial⟩) fun i hi hJ => ?_
 refine gA rfl (zI (fun h1 => ?_) fun h1 => ?_)
 ·have h1 : i < r.body.length := zN h1
  have hA := any_step hJ h1
  have hm : r.body.getD i default ∈ r.body := by rw [List.getD_eq_getElem?_getD, List.getElem?_eq_getElem h1]; exact List.getElem_mem h1
  have hsg := Lit.sizes_get r.body i h1
  refine gA rfl (go_pure (c108 (r.body.getD i default) (hb3 _ hm) (by omega)) rfl rfl rfl rfl rfl rfl ?_)
  refine gA rfl (zI (fun h2 => ?_) fun h2 => ?_)
  ·have h2 : litBad (r.body.getD i default) = true := by
    cases h : litBad (r.body.getD i default) with
    | true => rfl
    | false =>
     have h : (litF (r.body.getD i default).size (r.body.getD i default) WS.o).bad = false := h
     have g : (!decide ((if (litF (r.body.getD i default).size (r.body.getD i default) WS.o).bad = true then (50 : Int) else 0) = 0)) = true := h2
     rw [h] at g; simp at g
   rw [find_hit hJ h1 h2]
   refine gA rfl (zL (.of_eq ?_))
   rfl
  ·have h2 : litBad (r.body.getD i default) = false := by
    cases h : litBad (r.body.getD i default) with
    | false => rfl
    | true =>
     have h : (litF (r.body.getD i default).size (r.body.getD i default) WS.o).bad = true := h
     have g : (!decide ((if (litF (r.body.getD i default).size (r.body.getD i default) WS.o).bad = true then (50 : Int) else 0) = 0)) = false := h2
     rw [h] at g; simp at g
   refine gA rfl ?_
   exact ⟨h1, hA.2 h2, [], zW ⟨⟨_, rfl, .of_eq rfl⟩, Nat.le_of_ble_eq_true rfl, rfl, ⟨_, rfl, .of_eq rfl⟩, Nat.le_of_ble_eq_true rfl, rfl, ⟨_, rfl, .of_eq rfl⟩, Nat.le_of_ble_eq_true rfl, rfl, trivial⟩⟩
 have h1 : r.body.length ≤ i := zG h1
 rw [List.take_of_length_le h1] at hJ
 rw [find_none hJ]
 refine gA rfl (zI (fun g2 => ?_) fun g2 => ?_)
 rotate_left
 ·have g2 : n > 256 := by simpa using g2
  rw [if_pos (.inl g2)]
  refine gA rfl (zL (.of_eq ?_))
  rfl
 have g2 : ¬ n > 256 := zF g2
 refine gA rfl (zI (fun g3 => ?_) fun g3 => ?_)
 ·rw [if_pos (.inr (zT g3))]
  refine gA rfl (zL (.of_eq ?_))
  rfl
 have g3 : ¬ (r.body.length : Int) > 12 := zF g3
 rw [if_neg (by rintro (h | h); exact g2 h; exact g3 h)]
 refine gA rfl (zp (c48 r (by omega)) ?_)
 refine gA rfl (zp (c109 r (by omega)) ?_)
 refine gA rfl (zI (fun g4 => ?_) fun g4 => ?_)
 ·rw [if_pos (zT g4)]
  refine gA rfl (zL (.of_eq ?_))
  rfl
 have g4 : ¬ (sizeN r : Int) > 24 := zF g4
 rw [if_neg g4]
 refine gA rfl ?_
 refine go_for 0 r.body.length (Nat.zero_le _) (fun i => ⟨[(3, .ptr 0 0), (4, .ptr 1 0), (6, .ptr 2 0), (13, .iv (bookI r)), (69, .iv (lits r.body)), (70, pI r.body.length), (71, pI i)], [(0, some (.cells [.iv (relsI p)])), (1, some (cellsI r.c)), (2, some (.cells [pI 0, pI 0, pI 0]))], 3⟩) (fun i => (r.body.take i).any wideB = false) [] (by simp)
  (zW ⟨⟨_, rfl, .of_eq rfl⟩, Nat.le_of_ble_eq_true rfl, rfl, ⟨_, rfl, .of_eq rfl⟩, Nat.le_of_ble_eq_true rfl, rfl, ⟨_, rfl, .of_eq rfl⟩, Nat.le_of_ble_eq_true rfl, rfl, trivial⟩) fun i hi hJ => ?_
 refine gA rfl (zI (fun h2 => ?_) fun h2 => ?_)
 ·have h2 : i < r.body.length := zN h2
  have hA := any_step hJ h2
  refine gA rfl (zI (fun k1 => ?_) fun k1 => ?_)
  ·have k1 : (r.body.getD i default).kind = 4 := zT k1
   refine gA rfl (zI (fun k2 => ?_) fun k2 => ?_)
   ·have k2 : wideB (r.body.getD i default) = true := by rw [wideB, decide_eq_true k1]; exact k2
    rw [find_hit hJ h2 k2]
    refine gA rfl (zL (.of_eq ?_))
    rfl
   ·have k2 : wideB (r.body.getD i default) = false := by rw [wideB, decide_eq_true k1]; exact k2
    refine gA rfl ?_
    exact ⟨h2, hA.2 k2, [], zW ⟨⟨_, rfl, .of_eq rfl⟩, Nat.le_of_ble_eq_true rfl, rfl, ⟨_, rfl, .of_eq rfl⟩, Nat.le_of_ble_eq_true rfl, rfl, ⟨_, rfl, .of_eq rfl⟩, Nat.le_of_ble_eq_true rfl, rfl, trivial⟩⟩
  ·have k1 : ¬ (r.body.getD i default).kind = 4 := zF (by have g : decide ((r.body.getD i default).kind = 4) = false := k1; exact g)
   refine gA rfl ?_
   exact ⟨h2, hA.2 (by rw [wideB, decide_eq_false k1]; rfl), [], zW ⟨⟨_, rfl, .of_eq rfl⟩, Nat.le_of_ble_eq_true rfl, rfl, ⟨_, rfl, .of_eq rfl⟩, Nat.le_of_ble_eq_true rfl, rfl, ⟨_, rfl, .of_eq rfl⟩, Nat.le_of_ble_eq_true rfl, rfl, trivial⟩⟩
 have h2 : r.body.length ≤ i := zG h2
 rw [List.take_of_length_le h2] at hJ
 rw [find_none hJ]
 refine gA rfl (zp (c49 p r (by omega)) ?_)
 refine gA rfl ?_
 refine go_wk [] (t := ⟨[(3, .ptr 0 0), (4, .ptr 1 0), (6, .ptr 2 0), (104, .sl 3 0 5 2), (105, pI 5), (106, pI 0)], [(0, some (.cells [.iv (relsI p)])), (1, some (cellsI r.c)), (2, some (.cells [pI 0, pI 0, pI 0])), (3, some (.row 2 (looksRow p r)))], 4⟩)
  (zW (zO (zO (zO ⟨⟨_, rfl, .of_eq rfl⟩, Nat.le_of_ble_eq_true rfl, looksRow_low p r _ rfl, trivial⟩)))) ?_
 have hwl : (typesT p r).ws.length ≤ 1000000000000 := by have := body_len p r r.body.length (Nat.le_refl _); rw [List.take_length] at this; show (bodyT p r r.body.length).ws.length ≤ _; omega
 rw [looksD]
 refine go_unr (n := 6) ?_
 refine gA rfl (zI (fun q => ?_) fun q => ?_)
 rotate_left
 ·exact absurd (show true = false from q) (by decide)
 refine gA rfl ?_
 refine go_for 0 (r.body.length + 1) (Nat.zero_le _) (fun k => ⟨[(3, .ptr 0 0), (4, .ptr 1 0), (6, .ptr 2 0), (18, .ptr 4 0), (19, pI ((k : Int) - 1)), (104, .sl 3 0 5 2), (105, pI 5), (106, pI 0)], [(0, some (.cells [.iv (relsI p)])), (1, some (cellsI r.c)), (2, some (.cells [pI 0, pI 0, pI 0])), (3, some (.row 2 (looksRow p r))), (4, some (.cells [pI 61, .clo (.func 110) [] [.ptr 1 0, .ptr 0 0]]))], 5⟩) (fun k => ((litsN r.body.length).take k).any (fun lit => (atomsL r lit).any fun x => absB p x) = false) [] rfl
  (zW (zO (zO (zO ⟨⟨_, rfl, .of_eq rfl⟩, Nat.le_of_ble_eq_true rfl, looksRow_low p r _ rfl, (zO trivial)⟩)))) fun k hk hJ => ?_
 refine gA rfl (zI (fun q1 => ?_) fun q1 => ?_)
 ·have q1 : (k : Int) - 1 < r.body.length := zT q1
  have hk1 : k < r.body.length + 1 := by omega
  refine gA rfl (zq [1, 0] (d110 p r ((k : Int) - 1) (by omega) (by omega)) ?_)
  refine gA rfl (zI (fun q2 => ?_) fun q2 => ?_)
  ·rw [look_hit hJ hk1 q2]
   refine gA rfl (zdp (c120 r ((k : Int) - 1) q1) ?_)
   refine gA rfl (zL (.of_eq ?_))
   rfl
  ·refine gA rfl ?_
   exact ⟨hk1, look_step hJ hk1 q2, [], zM ⟨.refl _, rfl, .refl _, rfl, .refl _, rfl, .refl _, rfl, .of_eq (pIE (by omega)), rfl, .refl _, rfl, .refl _, rfl, .refl _, rfl, trivial⟩ (zO (zO (zO ⟨⟨_, rfl, .of_eq rfl⟩, Nat.le_of_ble_eq_true rfl, looksRow_low p r _ rfl, (zO trivial)⟩)))⟩
 have q1 : ¬ (k : Int) - 1 < r.body.length := zF q1
 rw [look_none hJ (by omega)]
 clear hJ hk q1
 refine gA rfl (zI (fun q => ?_) fun q => ?_)
 rotate_left
 ·exact absurd (show true = false from q) (by decide)
 refine gA rfl ?_
 refine go_for 0 (r.body.length + 1) (Nat.zero_le _) (fun k => ⟨[(3, .ptr 0 0), (4, .ptr 1 0), (6, .ptr 2 0), (18, .ptr 5 0), (19, pI ((k : Int) - 1)), (104, .sl 3 0 5 2), (105, pI 5), (106, pI 1)], [(0, some (.cells [.iv (relsI p)])), (1, some (cellsI r.c)), (2, some (.cells [pI 0, pI 0, pI 0])), (3, some (.row 2 (looksRow p r))), (5, some (.cells [pI 62, .clo (.func 114) [] [.ptr 1 0, .ptr 0 0]]))], 6⟩) (fun k => ((litsN r.body.length).take k).any (fun lit => (atomsL r lit).any fun x => aryB p x) = false) [] rfl
  (zW (zO (zO (zO ⟨⟨_, rfl, .of_eq rfl⟩, Nat.le_of_ble_eq_true rfl, looksRow_low p r _ rfl, (zO trivial)⟩)))) fun k hk hJ => ?_
 refine gA rfl (zI (fun q1 => ?_) fun q1 => ?_)
 ·have q1 : (k : Int) - 1 < r.body.length := zT q1
  have hk1 : k < r.body.length + 1 := by omega
  refine gA rfl (zq [1, 0] (d114 p r ((k : Int) - 1) (by omega) (by omega)) ?_)
  refine gA rfl (zI (fun q2 => ?_) fun q2 => ?_)
  ·rw [look_hit hJ hk1 q2]
   refine gA rfl (zdp (c120 r ((k : Int) - 1) q1) ?_)
   refine gA rfl (zL (.of_eq ?_))
   rfl
  ·refine gA rfl ?_
   exact ⟨hk1, look_step hJ hk1 q2, [], zM ⟨.refl _, rfl, .refl _, rfl, .refl _, rfl, .refl _, rfl, .of_eq (pIE (by omega)), rfl, .refl _, rfl, .refl _, rfl, .refl _, rfl, trivial⟩ (zO (zO (zO ⟨⟨_, rfl, .of_eq rfl⟩, Nat.le_of_ble_eq_true rfl, looksRow_low p r _ rfl, (zO trivial)⟩)))⟩
 have q1 : ¬ (k : Int) - 1 < r.body.length := zF q1
 rw [look_none hJ (by omega)]
 clear hJ hk q1
 refine gA rfl (zI (fun q => ?_) fun q => ?_)
 rotate_left
 ·exact absurd (show true = false from q) (by decide)
 refine gA rfl ?_
 refine go_for 0 (r.body.length + 1) (Nat.zero_le _) (fun k => ⟨[(3, .ptr 0 0), (4, .ptr 1 0), (6, .ptr 2 0), (18, .ptr 6 0), (19, pI ((k : Int) - 1)), (104, .sl 3 0 5 2), (105, pI 5), (106, pI 2)], [(0, some (.cells [.iv (relsI p)])), (1, some (cellsI r.c)), (2, some (.cells [pI 0, pI 0, pI 0])), (3, some (.row 2 (looksRow p r))), (6, some (.cells [pI 65, .clo (.func 116) [] [.ptr 1 0]]))], 7⟩) (fun k => ((litsN r.body.length).take k).any (scopeB r) = false) [] rfl
  (zW (zO (zO (zO ⟨⟨_, rfl, .of_eq rfl⟩, Nat.le_of_ble_eq_true rfl, looksRow_low p r _ rfl, (zO trivial)⟩)))) fun k hk hJ => ?_
 refine gA rfl (zI (fun q1 => ?_) fun q1 => ?_)
 ·have q1 : (k : Int) - 1 < r.body.length := zT q1
  have hk1 : k < r.body.length + 1 := by omega
  refine gA rfl (zq [1] (d116 r ((k : Int) - 1) (by omega) (by omega)) ?_)
  refine gA rfl (zI (fun q2 => ?_) fun q2 => ?_)
  ·rw [look_hit hJ hk1 q2]
   refine gA rfl (zdp (c120 r ((k : Int) - 1) q1) ?_)
   refine gA rfl (zL (.of_eq ?_))
   rfl
  ·refine gA rfl ?_
   exact ⟨hk1, look_step hJ hk1 q2, [], zM ⟨.refl _, rfl, .refl _, rfl, .refl _, rfl, .refl _, rfl, .of_eq (pIE (by omega)), rfl, .refl _, rfl, .refl _, rfl, .refl _, rfl, trivial⟩ (zO (zO (zO ⟨⟨_, rfl, .of_eq rfl⟩, Nat.le_of_ble_eq_true rfl, looksRow_low p r _ rfl, (zO trivial)⟩)))⟩
 have q1 : ¬ (k : Int) - 1 < r.body.length := zF q1
 rw [look_none hJ (by omega)]
 clear hJ hk q1
 refine gA rfl (zI (fun q => ?_) fun q => ?_)
 rotate_left
 ·exact absurd (show true = false from q) (by decide)
 refine gA rfl ?_
 refine go_for 0 (r.body.length + 1) (Nat.zero_le _) (fun k => ⟨[(3, .ptr 0 0), (4, .ptr 1 0), (6, .ptr 2 0), (18, .ptr 7 0), (19, pI ((k : Int) - 1)), (104, .sl 3 0 5 2), (105, pI 5), (106, pI 3)], [(0, some (.cells [.iv (relsI p)])), (1, some (cellsI r.c)), (2, some (.cells [pI 0, pI 0, pI 0])), (3, some (.row 2 (looksRow p r))), (7, some (.cells [pI 63, .clo (.func 118) [.iv (tyI r (typesT p r))] []]))], 8⟩) (fun k => ((litsN r.body.length).take k).any (wrongB (typesT p r)) = false) [] rfl
  (zW (zO (zO (zO ⟨⟨_, rfl, .of_eq rfl⟩, Nat.le_of_ble_eq_true rfl, looksRow_low p r _ rfl, (zO trivial)⟩)))) fun k hk hJ => ?_
 refine gA rfl (zI (fun q1 => ?_) fun q1 => ?_)
 ·have q1 : (k : Int) - 1 < r.body.length := zT q1
  have hk1 : k < r.body.length + 1 := by omega
  refine gA rfl (go_pure (c118 r (typesT p r) ((k : Int) - 1) (body_ok p r _) hwl) rfl rfl rfl rfl rfl rfl ?_)
  refine gA rfl (zI (fun q2 => ?_) fun q2 => ?_)
  ·rw [look_hit hJ hk1 q2]
   refine gA rfl (zdp (c120 r ((k : Int) - 1) q1) ?_)
   refine gA rfl (zL (.of_eq ?_))
   rfl
  ·refine gA rfl ?_
   exact ⟨hk1, look_step hJ hk1 q2, [], zM ⟨.refl _, rfl, .refl _, rfl, .refl _, rfl, .refl _, rfl, .of_eq (pIE (by omega)), rfl, .refl _, rfl, .refl _, rfl, .refl _, rfl, trivial⟩ (zO (zO (zO ⟨⟨_, rfl, .of_eq rfl⟩, Nat.le_of_ble_eq_true rfl, looksRow_low p r _ rfl, (zO trivial)⟩)))⟩
 have q1 : ¬ (k : Int) - 1 < r.body.length := zF q1
 rw [look_none hJ (by omega)]
 clear hJ hk q1
 refine gA rfl (zI (fun q => ?_) fun q => ?_)
 rotate_left
 ·exact absurd (show true = false from q) (by decide)
 refine gA rfl ?_
 refine go_for 0 (r.body.length + 1) (Nat.zero_le _) (fun k => ⟨[(3, .ptr 0 0), (4, .ptr 1 0), (6, .ptr 2 0), (18, .ptr 8 0), (19, pI ((k : Int) - 1)), (104, .sl 3 0 5 2), (105, pI 5), (106, pI 4)], [(0, some (.cells [.iv (relsI p)])), (1, some (cellsI r.c)), (2, some (.cells [pI 0, pI 0, pI 0])), (3, some (.row 2 (looksRow p r))), (8, some (.cells [pI 64, .clo (.func 119) [.iv (bookI r)] []]))], 9⟩) (fun k => ((litsN r.body.length).take k).any (looseB r) = false) [] rfl
  (zW (zO (zO (zO ⟨⟨_, rfl, .of_eq rfl⟩, Nat.le_of_ble_eq_true rfl, looksRow_low p r _ rfl, (zO trivial)⟩)))) fun k hk hJ => ?_
 refine gA rfl (zI (fun q1 => ?_) fun q1 => ?_)
 ·have q1 : (k : Int) - 1 < r.body.length := zT q1
  have hk1 : k < r.body.length + 1 := by omega
  refine gA rfl (zp (c119 r ((k : Int) - 1) (by omega) (by omega)) ?_)
  refine gA rfl (zI (fun q2 => ?_) fun q2 => ?_)
  ·rw [look_hit hJ hk1 q2]
   refine gA rfl (zdp (c120 r ((k : Int) - 1) q1) ?_)
   refine gA rfl (zL (.of_eq ?_))
   rfl
  ·refine gA rfl ?_
   exact ⟨hk1, look_step hJ hk1 q2, [], zM ⟨.refl _, rfl, .refl _, rfl, .refl _, rfl, .refl _, rfl, .of_eq (pIE (by omega)), rfl, .refl _, rfl, .refl _, rfl, .refl _, rfl, trivial⟩ (zO (zO (zO ⟨⟨_, rfl, .of_eq rfl⟩, Nat.le_of_ble_eq_true rfl, looksRow_low p r _ rfl, (zO trivial)⟩)))⟩
 have q1 : ¬ (k : Int) - 1 < r.body.length := zF q1
 rw [look_none hJ (by omega)]
 clear hJ hk q1
 refine gA rfl (zI (fun q => ?_) fun q => ?_)
 ·exact absurd (show false = true from q) (by decide)
 refine gA rfl (zL (.of_eq ?_))
 rfl
def Diag.z : Diag := (0, ⟨0, 0⟩)
theorem d64 (d e : Diag) : Det Tryz.prog 64 [ag d.c, .ptr 0 0] [cellsI e.c] (pB false) [(0, some (cellsI d.c))] 1 := by
 refine det_end tyA_ok Tryz.func64 rfl (by decide) Tryz.ntmps64 rfl (by simp) ?_
 refine gA rfl (end_det [] (by first | exact .inr rfl | exact .inl rfl) rfl (zW (zO trivial)))
def relName (p : Prog) (i : Nat) : List Str := (p.rels.take i).map Decl.name
def relFault (p : Prog) (i : Nat) : Int := relErr (p.rels.getD i default) i (lkD .str (occM (relName p i)) (p.rels.getD i default).name 0)
def relF (p : Prog) : Nat → List Diag
 | 0 => []
 | i + 1 => relF p i ++ (if relFault p i = 0 then [] else [(relFault p i, (p.rels.getD i default).at_)])
def rulD (p : Prog) (i : Nat) : Diag := ruleD p (p.rules.getD i default) ((i : Int) + 1)
def rulF (p : Prog) : Nat → List Diag
 | 0 => []
 | i + 1 => rulF p i ++ (if (rulD p i).1 = 0 then [] else [rulD p i])
def faultsD (p : Prog) : List Diag := relF p p.rels.length ++ rulF p p.rules.length
def checkD (p : Prog) : Diag := (faultsD p).headD Diag.z
theorem relF_pre (p : Prog) (i : Nat) : ∀ k, ∃ t, relF p (i + k) = relF p i ++ t
 | 0 => ⟨[], by simp⟩
 | k + 1 => by
  obtain ⟨t, h⟩ := relF_pre p i k
  exact ⟨_, by rw [← Nat.add_assoc, relF, h, List.append_assoc]⟩
theorem rulF_pre (p : Prog) (i : Nat) : ∀ k, ∃ t, rulF p (i + k) = rulF p i ++ t
 | 0 => ⟨[], by simp⟩
 | k + 1 => by
  obtain ⟨t, h⟩ := rulF_pre p i k
  exact ⟨_, by rw [← Nat.add_assoc, rulF, h, List.append_assoc]⟩
theorem check_rel {p : Prog} {i : Nat} (hJ : relF p i = []) (hi : i < p.rels.length) (h : ¬ relFault p i = 0) : checkD p = (relFault p i, (p.rels.getD i default).at_) := by
 obtain ⟨t, ht⟩ := relF_pre p (i + 1) (p.rels.length - (i + 1))
 have e : i + 1 + (p.rels.length - (i + 1)) = p.rels.length := by omega
 rw [e, relF, hJ, if_neg h] at ht
 rw [checkD, faultsD, ht]; rfl
theorem check_rul {p : Prog} {i : Nat} (h0 : relF p p.rels.length = []) (hJ : rulF p i = []) (hi : i < p.rules.length) (h : ¬ (rulD p i).1 = 0) : checkD p = rulD p i := by
 obtain ⟨t, ht⟩ := rulF_pre p (i + 1) (p.rules.length - (i + 1))
 have e : i + 1 + (p.rules.length - (i + 1)) = p.rules.length := by omega
 rw [e, rulF, hJ, if_neg h] at ht
 rw [checkD, faultsD, ht, h0]; rfl
theorem check_no {p : Prog} (h0 : relF p p.rels.length = []) (h1 : rulF p p.rules.length = []) : checkD p = Diag.z := by
 rw [checkD, faultsD, h0, h1]; rfl
theorem relName_step {p : Prog} {i : Nat} (h : i < p.rels.length) : occM (relName p (i + 1)) = bump (occM (relName p i)) (p.rels.getD i default).name := by
 rw [relName, take_step h, List.map_append]; exact occM_snoc _ _
theorem relName_lk (p : Prog) (i : Nat) (s : Str) : 0 ≤ lkD .str (occM (relName p i)) s 0 ∧ lkD .str (occM (relName p i)) s 0 ≤ i := by
 have h := cntL_le (relName p i) s
 have h2 : (relName p i).length ≤ i := by simp [relName]; omega
 rw [occM_lk]; omega
def Prog.fit (p : Prog) : Prop := p.rels.length ≤ 1000000000 ∧ p.rules.length ≤ 1000000000 ∧ ∀ r ∈ p.rules, r.fit
theorem d63A (p : Prog) (hb : p.fit) : Det Tryz.prog 63 [ag p.c, .clo (.func 64) [] [.ptr 0 0]] [cellsI Diag.z.c] (.tup []) [(0, some (cellsI (checkD p).c))] 1 := by
 obtain ⟨hb1, hb2, hb3⟩ := hb
 refine det_end tyA_ok Tryz.func63 rfl (by decide) Tryz.ntmps63 rfl (by simp) ?_
 refine gA rfl ?_
 refine go_for 0 p.rels.length (Nat.zero_le _) (fun i => ⟨[(1, .clo (.func 64) [] [.ptr 0 0]), (2, .ptr 1 0), (4, .mp 2), (13, .iv (slc 4 p.rels Decl.c)), (14, pI p.rels.length), (15, pI i)], [(0, some (cellsI Diag.z.c)), (1, some (cellsI p.c)), (2, some (nmO (occM (relName p i))))], 3⟩) (fun i => relF p i = []) [] rfl
  (zW ⟨⟨_, rfl, .of_eq rfl⟩, Nat.le_of_ble_eq_true rfl, rfl, ⟨_, rfl, .of_eq rfl⟩, Nat.le_of_ble_eq_true rfl, rfl, hM0 rfl evI_zero rfl trivial⟩) fun i hi hJ => ?_
 refine gA rfl (zI (fun h1 => ?_) fun h1 => ?_)
 ·have h1 : i < p.rels.length := zN h1
  have hl := relName_lk p i (p.rels.getD i default).name
  have hn := relName_step h1
  refine gA rfl (zp (c107 (p.rels.getD i default) i (lkD .str (occM (relName p i)) (p.rels.getD i default).name 0)) ?_)
  refine gA rfl (zI (fun g => ?_) fun g => ?_)
  ·have g : ¬ relFault p i = 0 := by
    have g : (!decide (relFault p i = 0)) = true := g
    simpa only [Bool.not_eq_true', decide_eq_false_iff_not] using g
   rw [check_rel hJ h1 g]
   refine gA rfl (zq [0] (d64 (relFault p i, (p.rels.getD i default).at_) Diag.z) ?_)
   refine gA rfl (zI (fun q => ?_) fun q => ?_)
   rotate_left
   ·exact absurd (show true = false from q) (by decide)
   refine gA rfl (end_det [] (by first | exact .inr rfl | exact .inl rfl) rfl (zW (zO trivial)))
  ·have g : relFault p i = 0 := by
    have g : (!decide (relFault p i = 0)) = false := g
    simpa only [Bool.not_eq_false', decide_eq_true_eq] using g
   refine gA rfl ?_
   exact ⟨h1, by rw [relF, hJ, if_pos g]; rfl, [], zW (zO (zO (hM rfl (by rw [hn]; rfl) rfl trivial)))⟩
 have h1 : p.rels.length ≤ i := zG h1
 have hie : i = p.rels.length := by omega
 subst hie
 refine gA rfl (zq [] (d50 p (by omega)) ?_)
 refine gA rfl ?_
 refine go_frzM 3 rfl ?_
 refine go_for 0 p.rules.length (Nat.zero_le _) (fun i => ⟨[(1, .clo (.func 64) [] [.ptr 0 0]), (2, .ptr 1 0), (8, .iv (relsI p)), (47, .iv (slc 5 p.rules Rule.c)), (48, pI p.rules.length), (49, pI i)], [(0, some (cellsI Diag.z.c)), (1, some (cellsI p.c))], 4⟩) (fun i => rulF p i = []) [] rfl
  (zW (zO (zO trivial))) fun i hi hK => ?_
 refine gA rfl (zI (fun h2 => ?_) fun h2 => ?_)
 ·have h2 : i < p.rules.length := zN h2
  have hm : p.rules.getD i default ∈ p.rules := by rw [List.getD_eq_getElem?_getD, List.getElem?_eq_getElem h2]; exact List.getElem_mem h2
  refine gA rfl (go_pure (c65 p (p.rules.getD i default) ((i : Int) + 1) (hb3 _ hm)) rfl rfl rfl rfl rfl rfl ?_)
  refine gA rfl (zI (fun g => ?_) fun g => ?_)
  ·have g : ¬ (rulD p i).1 = 0 := by
    have g : (!decide ((rulD p i).1 = 0)) = true := g
    simpa only [Bool.not_eq_true', decide_eq_false_iff_not] using g
   rw [check_rul hJ hK h2 g]
   refine gA rfl (zq [0] (d64 (rulD p i) Diag.z) ?_)
   refine gA rfl (zI (fun q => ?_) fun q => ?_)
   rotate_left
   ·exact absurd (show true = false from q) (by decide)
   refine gA rfl (end_det [] (by first | exact .inr rfl | exact .inl rfl) rfl (zW (zO trivial)))
  ·have g : (rulD p i).1 = 0 := by
    have g : (!decide ((rulD p i).1 = 0)) = false := g
    simpa only [Bool.not_eq_false', decide_eq_true_eq] using g
   refine gA rfl ?_
   exact ⟨h2, by rw [rulF, hK, if_pos g]; rfl, [], zW (zO (zO trivial))⟩
 have h2 : p.rules.length ≤ i := zG h2
 have hie : i = p.rules.length := by omega
 subst hie
 rw [check_no hJ hK]
 refine gA rfl (end_det [] (by first | exact .inr rfl | exact .inl rfl) rfl (zW (zO trivial)))
theorem c24 (p : Prog) (hb : p.fit) : Pure Tryz.prog 24 [ag p.c] (ag (checkD p).c) := by
 refine pure_end tyA_ok Tryz.func24 rfl (by decide) Tryz.ntmps24 rfl (by simp) rfl ?_
 refine gA rfl (zq [2] (d63A p hb) ?_)
 refine gA rfl (zL (.of_eq ?_))
 rfl
theorem ownM_of2 {P : Program} {k : FuncId} {kc : KC} {V : Type} {e : V → IV} {z : V} {zv : Value} {dv : PV → V} {m : List (kc.K × V)} {rest : List PV} {y : PV} (hlow : belowL 0 rest = true) (hy : y.low 0 = true) (h : Al.Pure P k (.iv (.imap kc e z zv m) :: rest) y) : Det P k (.mp 0 :: rest) [.map kc e z zv dv m] y [] 1 := by
 refine ⟨h.1, fun M N w vs hr hl hv => ?_⟩
 obtain ⟨M1, h1, h2, h3, h4⟩ := frz_mapH (n := 1) hr (i := 0) rfl
 have hr2 : Rel M1 N (· < 0) (initH 0 []) w := ⟨h2.frz, fun i o hi => (nomatch hi), fun i o hi => (nomatch hi), fun i o hi => (nomatch hi), fun i j o p hi => (nomatch hi)⟩
 refine (h.2 M1 N w vs hr2 hl fun j p hj => ?_).mono ?_
 ·cases j with
  | zero =>
   cases hj
   have := h4 _ _ (hv 0 _ rfl)
   generalize vs.getD 0 undef = x at this ⊢
   cases this with
   | iv _ _ h => exact .iv _ _ h
  | succ j => exact VR.down ((hv (j + 1) p hj).mono h1.mle (.refl _ _) fun _ h => h) (belowL_mem hlow j p hj)
 ·rintro _ w' ⟨x, M', N', r, h', n', rfl, ⟨rfl, rfl, rfl⟩, hx, hrr, hvr⟩
  refine ⟨x, M', N, r, [], 1, rfl, ⟨rfl, rfl, rfl⟩, ?_, ⟨hrr.frz, fun i o hi => (nomatch hi), fun i o hi => (nomatch hi), fun i o hi => (nomatch hi), fun i j o p hi => (nomatch hi)⟩, ?_⟩
  ·refine ⟨hx.os, hx.tape, hx.output, hx.size, fun b hb hn => hx.keep b hb fun i o hi => (nomatch hi), h1.mle.trans hx.mle, fun b c g1 g2 => ?_, .refl _ _, fun _ h => h, fun i o hi => (nomatch hi)⟩
   cases g3 : M1 b with
   | some c' => exact h1.mnew b c' g1 g3
   | none =>
    rcases hx.mnew b c g3 g2 with g4 | ⟨i, o, g4, _⟩
    ·exact .inl g4
    ·exact nomatch g4
  ·exact (VR.down hvr hy).mono (.refl _) ⟨fun i hi => absurd hi (Nat.not_lt_zero i), fun i hi => absurd hi (Nat.not_lt_zero i)⟩ fun i hi => absurd hi (Nat.not_lt_zero i)
theorem c26 (p : Prog) (n : Int) (hb : p.fit) : Pure Tryz.prog 26 [ag p.c, pI n] (ag (if n < 1 ∨ (p.rules.length : Int) < n then (1, ⟨0, 0⟩) else ruleD p (p.rules.getD (n - 1).toNat default) n : Diag).c) := by
 obtain ⟨hb1, hb2, hb3⟩ := hb
 refine pure_end tyA_ok Tryz.func26 rfl (by decide) Tryz.ntmps26 rfl (by simp) rfl ?_
 refine gA rfl (zI (fun g1 => ?_) fun g1 => ?_)
 rotate_left
 ·rw [if_pos (.inl (by simpa using g1))]
  refine gA rfl (zL (.of_eq ?_))
  rfl
 have g1 : ¬ n < 1 := zF g1
 refine gA rfl (zI (fun g2 => ?_) fun g2 => ?_)
 ·rw [if_pos (.inr (by simpa using g2))]
  refine gA rfl (zL (.of_eq ?_))
  rfl
 have g2 : ¬ (p.rules.length : Int) < n := by
  have g := zF (show decide (n > (p.rules.length : Int)) = false from g2)
  omega
 rw [if_neg (by rintro (h | h); exact g1 h; exact g2 h)]
 have hlt : (n - 1).toNat < p.rules.length := by omega
 have hm : p.rules.getD (n - 1).toNat default ∈ p.rules := by rw [List.getD_eq_getElem?_getD, List.getElem?_eq_getElem hlt]; exact List.getElem_mem hlt
 refine gA rfl (zd [] (d50 p (by omega)) ?_)
 refine gA rfl (go_ddet tyA_ok [2] (ownM_of2 rfl rfl (c65 p (p.rules.getD (n - 1).toNat default) n (hb3 _ hm))) rfl rfl rfl rfl rfl rfl rfl rfl rfl rfl rfl rfl (by (repeat' (first | exact trivial | exact rfl | exact PVle.refl _ | exact PVle.bk (by assumption) | apply And.intro)) <;> first | omega | (simp only [Int.toNat_natCast]; omega) | (simp; done) | (simp; omega)) rfl (by (repeat' (first | exact trivial | exact rfl | exact PVle.refl _ | exact PVle.bk (by assumption) | apply And.intro)) <;> first | omega | (simp only [Int.toNat_natCast]; omega) | (simp; done) | (simp; omega)) ?_)
 refine gA rfl (zL (.of_eq ?_))
 rfl
def fitB (p : Prog) (f : Fact) (j : Nat) : Bool := decide ((f.args.getD j default).kind = (declOf p f.rel).types.getD j default)
def factR (p : Prog) (f : Fact) : Int :=
 if hasK .str (relsM p) f.rel = false ∨ factOK f = false ∨ ¬ (f.args.length : Int) = ((declOf p f.rel).types.length : Int) then 5
 else if (List.range f.args.length).all (fitB p f) = true then 0 else 5
theorem range_all {q : Nat → Bool} {n : Nat} (h : ∀ j, j < n → q j = true) : (List.range n).all q = true := List.all_eq_true.2 fun j hj => h j (List.mem_range.1 hj)
theorem range_not {q : Nat → Bool} {n j : Nat} (h : j < n) (hq : q j = false) : ¬ (List.range n).all q = true := fun e => by
 have := List.all_eq_true.1 e j (List.mem_range.2 h)
 rw [hq] at this; cases this
theorem c16 (p : Prog) (f : Fact) (hb : p.rels.length ≤ 1000000000) (hf : f.args.length ≤ 1000000000) : Pure Tryz.prog 16 [ag p.c, ag f.c] (pI (factR p f)) := by
 refine pure_end tyA_ok Tryz.func16 rfl (by decide) Tryz.ntmps16 rfl (by simp) rfl ?_
 refine gA rfl (zd [] (d50 p (by omega)) ?_)
 refine gA rfl (zI (fun g1 => ?_) fun g1 => ?_)
 rotate_left
 ·have g1 : hasK .str (relsM p) f.rel = false := by simpa using g1
  rw [factR, if_pos (.inl g1)]
  refine gA rfl (zL (.of_eq ?_))
  rfl
 have g1 : ¬ hasK .str (relsM p) f.rel = false := by
  have g : (!hasK .str (relsM p) f.rel) = false := g1
  intro h; rw [h] at g; cases g
 refine gA rfl (zp (c55 f) ?_)
 refine gA rfl (zI (fun g2 => ?_) fun g2 => ?_)
 rotate_left
 ·have g2 : factOK f = false := by
   cases h : factOK f with
   | false => rfl
   | true =>
    have g : (!decide ((if factOK f then (0 : Int) else 20) = 0)) = true := g2
    rw [h] at g; simp at g
  rw [factR, if_pos (.inr (.inl g2))]
  refine gA rfl (zL (.of_eq ?_))
  rfl
 have g2 : ¬ factOK f = false := by
  intro h
  have g : (!decide ((if factOK f then (0 : Int) else 20) = 0)) = false := g2
  rw [h] at g; simp at g
 refine gA rfl (zI (fun g3 => ?_) fun g3 => ?_)
 ·have g3 : ¬ (f.args.length : Int) = ((declOf p f.rel).types.length : Int) := by
   have g : (!decide ((f.args.length : Int) = ((declOf p f.rel).types.length : Int))) = true := g3
   simpa only [Bool.not_eq_true', decide_eq_false_iff_not] using g
  rw [factR, if_pos (.inr (.inr g3))]
  refine gA rfl (zL (.of_eq ?_))
  rfl
 have g3 : (f.args.length : Int) = ((declOf p f.rel).types.length : Int) := by
  have g : (!decide ((f.args.length : Int) = ((declOf p f.rel).types.length : Int))) = false := g3
  simpa only [Bool.not_eq_false', decide_eq_true_eq] using g
 rw [factR, if_neg (by rintro (h | h | h); exact g1 h; exact g2 h; exact h g3)]
 refine gA rfl ?_
 refine go_for 0 f.args.length (Nat.zero_le _) (fun i => ⟨[(5, .ptr 3 0), (34, .iv (slc 3 f.args Val.c)), (35, pI f.args.length), (36, pI i)], [(3, some (cellsI (declOf p f.rel).c))], 4⟩) (fun i => ∀ j, j < i → fitB p f j = true) [] (fun j hj => absurd hj (Nat.not_lt_zero j))
  (zW (zO trivial)) fun i hi hJ => ?_
 refine gA rfl (zI (fun h1 => ?_) fun h1 => ?_)
 ·have h1 : i < f.args.length := zN h1
  refine gA rfl (zI (fun h2 => ?_) fun h2 => ?_)
  ·have h2 : fitB p f i = false := by
    have g : (!fitB p f i) = true := h2
    simpa using g
   rw [if_neg (range_not h1 h2)]
   refine gA rfl (zL (.of_eq ?_))
   rfl
  ·have h2 : fitB p f i = true := by
    have g : (!fitB p f i) = false := h2
    simpa using g
   refine gA rfl ?_
   exact ⟨h1, fun j hj => by rcases Nat.lt_succ_iff_lt_or_eq.1 hj with h | h; exact hJ j h; exact h ▸ h2, [], zW (zO trivial)⟩
 ·have h1 : f.args.length ≤ i := zG h1
  rw [if_pos (range_all fun j hj => hJ j (by omega))]
  refine gA rfl (zL (.of_eq ?_))
  rfl
def goalT (p : Prog) (a : Atom) (i : Nat) : Int := (declOf p a.rel).types.getD i default
def goalStep (p : Prog) (a : Atom) (i : Nat) (m : NM) : Option NM :=
 if (a.terms.getD i default).kind = 2 then (if (a.terms.getD i default).val.kind = goalT p a i then some m else none)
 else if (a.terms.getD i default).kind = 1 then (if hasK .str m (a.terms.getD i default).var = true ∧ ¬ lkD .str m (a.terms.getD i default).var 0 = goalT p a i then none else some (putK .str m (a.terms.getD i default).var (goalT p a i)))
 else some m
def goalM (p : Prog) (a : Atom) : Nat → Option NM
 | 0 => some []
 | i + 1 => (goalM p a i).bind (goalStep p a i)
theorem goalM_none (p : Prog) (a : Atom) (i : Nat) (h : goalM p a i = none) : ∀ k, goalM p a (i + k) = none
 | 0 => h
 | k + 1 => by rw [← Nat.add_assoc, goalM, goalM_none p a i h k]; rfl
def goalR (p : Prog) (a : Atom) : Int :=
 if atomBad a = true ∨ hasK .str (relsM p) a.rel = false ∨ ¬ (a.terms.length : Int) = ((declOf p a.rel).types.length : Int) then 6
 else if (goalM p a a.terms.length).isSome = true then 0 else 6
theorem goal_out {p : Prog} {a : Atom} {i : Nat} {m : NM} (hm : goalM p a i = some m) (hi : i < a.terms.length) (h : goalStep p a i m = none) : ¬ (goalM p a a.terms.length).isSome = true := by
 have h1 : goalM p a (i + 1) = none := by rw [goalM, hm]; exact h
 have h2 := goalM_none p a (i + 1) h1 (a.terms.length - (i + 1))
 have e : i + 1 + (a.terms.length - (i + 1)) = a.terms.length := by omega
 rw [e] at h2
 rw [h2]; simp
def goalN (p : Prog) (a : Atom) (i : Nat) : NM := (goalM p a i).getD []
theorem goalN_of {p : Prog} {a : Atom} {i : Nat} {m : NM} (h : goalM p a i = some m) : goalN p a i = m := by rw [goalN, h]; rfl
set_option maxHeartbeats 1000000 in
theorem c21 (p : Prog) (a : Atom) (hb : p.rels.length ≤ 1000000000) (ha : a.terms.length ≤ 1000000000) (hts : a.ts ≤ 900000000) : Pure Tryz.prog 21 [ag p.c, ag a.c] (pI (goalR p a)) := by
 refine pure_end tyA_ok Tryz.func21 rfl (by decide) Tryz.ntmps21 rfl (by simp) rfl ?_
 refine gA rfl (zd [] (d50 p (by omega)) ?_)
 refine gA rfl (zp (c61 a hts) ?_)
 refine gA rfl (zI (fun g1 => ?_) fun g1 => ?_)
 rotate_left
 ·have g1 : atomBad a = true := by
   cases h : atomBad a with
   | true => rfl
   | false =>
    have h : (atomW WS.o a).bad = false := h
    have g : (!decide ((if (atomW WS.o a).bad = true then (50 : Int) else 0) = 0)) = true := g1
    rw [h] at g; simp at g
  rw [goalR, if_pos (.inl g1)]
  refine gA rfl (zL (.of_eq ?_))
  rfl
 have g1 : ¬ atomBad a = true := by
  intro h
  have h : (atomW WS.o a).bad = true := h
  have g : (!decide ((if (atomW WS.o a).bad = true then (50 : Int) else 0) = 0)) = false := g1
  rw [h] at g; simp at g
 refine gA rfl (zI (fun g2 => ?_) fun g2 => ?_)
 rotate_left
 ·have g2 : hasK .str (relsM p) a.rel = false := by
   cases h : hasK .str (relsM p) a.rel with
   | false => rfl
   | true =>
    have g : (!hasK .str (relsM p) a.rel) = true := g2
    rw [h] at g; cases g
  rw [goalR, if_pos (.inr (.inl g2))]
  refine gA rfl (zL (.of_eq ?_))
  rfl
 have g2 : ¬ hasK .str (relsM p) a.rel = false := by
  intro h
  have g : (!hasK .str (relsM p) a.rel) = false := g2
  rw [h] at g; cases g
 refine gA rfl (zI (fun g3 => ?_) fun g3 => ?_)
 ·have g3 : ¬ (a.terms.length : Int) = ((declOf p a.rel).types.length : Int) := by
   have g : (!decide ((a.terms.length : Int) = ((declOf p a.rel).types.length : Int))) = true := g3
   simpa only [Bool.not_eq_true', decide_eq_false_iff_not] using g
  rw [goalR, if_pos (.inr (.inr g3))]
  refine gA rfl (zL (.of_eq ?_))
  rfl
 have g3 : (a.terms.length : Int) = ((declOf p a.rel).types.length : Int) := by
  have g : (!decide ((a.terms.length : Int) = ((declOf p a.rel).types.length : Int))) = false := g3
  simpa only [Bool.not_eq_false', decide_eq_true_eq] using g
 rw [goalR, if_neg (by rintro (h | h | h); exact g1 h; exact g2 h; exact h g3)]
 refine gA rfl ?_
 refine go_for 0 a.terms.length (Nat.zero_le _) (fun i => ⟨[(5, .ptr 3 0), (9, .mp 4), (45, .iv (slc 5 a.terms Term.c)), (46, pI a.terms.length), (47, pI i)], [(3, some (cellsI (declOf p a.rel).c)), (4, some (nmO (goalN p a i)))], 5⟩) (fun i => ∃ m, goalM p a i = some m) [] ⟨_, rfl⟩
  (zW ⟨⟨_, rfl, .of_eq rfl⟩, Nat.le_of_ble_eq_true rfl, rfl, hM0 rfl evI_zero rfl trivial⟩) fun i hi hJ => ?_
 obtain ⟨m, hm⟩ := hJ
 rw [goalN_of hm]
 refine gA rfl (zI (fun h1 => ?_) fun h1 => ?_)
 ·have h1 : i < a.terms.length := zN h1
  have hs : goalM p a (i + 1) = goalStep p a i m := by rw [goalM, hm]; rfl
  refine gA rfl (zI (fun k2 => ?_) fun k2 => ?_)
  ·have k2 : (a.terms.getD i default).kind = 2 := zT k2
   refine gA rfl (zI (fun e2 => ?_) fun e2 => ?_)
   ·have e2 : ¬ (a.terms.getD i default).val.kind = goalT p a i := by
     have g : (!decide ((a.terms.getD i default).val.kind = goalT p a i)) = true := e2
     simpa only [Bool.not_eq_true', decide_eq_false_iff_not] using g
    rw [if_neg (goal_out hm h1 (by unfold goalStep; rw [if_pos k2, if_neg e2]))]
    refine gA rfl (zL (.of_eq ?_))
    rfl
   ·have e2 : (a.terms.getD i default).val.kind = goalT p a i := by
     have g : (!decide ((a.terms.getD i default).val.kind = goalT p a i)) = false := e2
     simpa only [Bool.not_eq_false', decide_eq_true_eq] using g
    have hs2 : goalM p a (i + 1) = some m := by rw [hs]; unfold goalStep; rw [if_pos k2, if_pos e2]
    refine gA rfl ?_
    exact ⟨h1, ⟨m, hs2⟩, [], zW (zO (hM rfl (goalN_of hs2).symm rfl trivial))⟩
  have k2 : ¬ (a.terms.getD i default).kind = 2 := zF k2
  refine gA rfl (zI (fun k1 => ?_) fun k1 => ?_)
  ·have k1 : (a.terms.getD i default).kind = 1 := zT k1
   have hst : goalStep p a i m = if hasK .str m (a.terms.getD i default).var = true ∧ ¬ lkD .str m (a.terms.getD i default).var 0 = goalT p a i then none else some (putK .str m (a.terms.getD i default).var (goalT p a i)) := by unfold goalStep; rw [if_neg k2, if_pos k1]
   refine gA rfl (zI (fun q1 => ?_) fun q1 => ?_)
   ·have q1 : hasK .str m (a.terms.getD i default).var = true := q1
    refine gA rfl (zI (fun q2 => ?_) fun q2 => ?_)
    ·have q2 : ¬ lkD .str m (a.terms.getD i default).var 0 = goalT p a i := by
      have g : (!decide (lkD .str m (a.terms.getD i default).var 0 = goalT p a i)) = true := q2
      simpa only [Bool.not_eq_true', decide_eq_false_iff_not] using g
     rw [if_neg (goal_out hm h1 (by rw [hst, if_pos ⟨q1, q2⟩]))]
     refine gA rfl (zL (.of_eq ?_))
     rfl
    ·have q2 : lkD .str m (a.terms.getD i default).var 0 = goalT p a i := by
      have g : (!decide (lkD .str m (a.terms.getD i default).var 0 = goalT p a i)) = false := q2
      simpa only [Bool.not_eq_false', decide_eq_true_eq] using g
     have hs2 : goalM p a (i + 1) = some (putK .str m (a.terms.getD i default).var (goalT p a i)) := by rw [hs, hst, if_neg fun h => h.2 q2]
     refine gA rfl ?_
     exact ⟨h1, ⟨_, hs2⟩, [], zW (zO (hM rfl (goalN_of hs2).symm rfl trivial))⟩
   ·have q1 : ¬ hasK .str m (a.terms.getD i default).var = true := by
     intro h
     have g : hasK .str m (a.terms.getD i default).var = !true := q1
     rw [h] at g; cases g
    have hs2 : goalM p a (i + 1) = some (putK .str m (a.terms.getD i default).var (goalT p a i)) := by rw [hs, hst, if_neg fun h => q1 h.1]
    refine gA rfl ?_
    exact ⟨h1, ⟨_, hs2⟩, [], zW (zO (hM rfl (goalN_of hs2).symm rfl trivial))⟩
  ·have k1 : ¬ (a.terms.getD i default).kind = 1 := zF k1
   have hs2 : goalM p a (i + 1) = some m := by rw [hs]; unfold goalStep; rw [if_neg k2, if_neg k1]
   refine gA rfl ?_
   exact ⟨h1, ⟨m, hs2⟩, [], zW (zO (hM rfl (goalN_of hs2).symm rfl trivial))⟩
 ·have h1 : a.terms.length ≤ i := zG h1
  have hie : i = a.terms.length := by omega
  subst hie
  have hx : (if (goalM p a a.terms.length).isSome = true then (0 : Int) else 6) = 0 := if_pos (by rw [hm]; rfl)
  rw [hx]
  refine gA rfl (zL (.of_eq ?_))
  rfl
def tyOf (p : Prog) (r : Rule) (s : Str) : Spot := (s, lkD (.si .i64) (typesT p r).kind (rootL (typesT p r).up (s, -1)) 0)
def typesR (p : Prog) (n : Int) : List Spot × Int :=
 if n < 1 ∨ (p.rules.length : Int) < n then ([], 1) else if ¬ (checkD p).1 = 0 then ([], 4)
 else ((toldM (occM (outerOcc (p.rules.getD (n - 1).toNat default)))).map (tyOf p (p.rules.getD (n - 1).toNat default)), 0)
theorem typesT_ok (p : Prog) (r : Rule) : upOK (typesT p r).up := body_ok p r _
theorem c13 (hS : SortS) (p : Prog) (n : Int) (hb : p.fit) : Pure Tryz.prog 13 [ag p.c, pI n] (.tup [.iv (slc 2 (typesR p n).1 Spot.c), pI (typesR p n).2]) := by
 have hb0 := hb
 obtain ⟨hb1, hb2, hb3⟩ := hb
 refine pure_end tyA_ok Tryz.func13 rfl (by decide) Tryz.ntmps13 rfl (by simp) rfl ?_
 refine gA rfl (zI (fun g1 => ?_) fun g1 => ?_)
 rotate_left
 ·rw [typesR, if_pos (.inl (by simpa using g1))]
  refine gA rfl (zL ?_)
  exact .tup ⟨.nil _ _, .refl _, trivial⟩
 have g1 : ¬ n < 1 := zF g1
 refine gA rfl (zI (fun g2 => ?_) fun g2 => ?_)
 ·rw [typesR, if_pos (.inr (by simpa using g2))]
  refine gA rfl (zL ?_)
  exact .tup ⟨.nil _ _, .refl _, trivial⟩
 have g2 : ¬ (p.rules.length : Int) < n := by
  have g := zF (show decide (n > (p.rules.length : Int)) = false from g2)
  omega
 have hT : typesR p n = if ¬ (checkD p).1 = 0 then ([], 4) else ((toldM (occM (outerOcc (p.rules.getD (n - 1).toNat default)))).map (tyOf p (p.rules.getD (n - 1).toNat default)), 0) := if_neg (by rintro (h | h); exact g1 h; exact g2 h)
 rw [hT]
 have hlt : (n - 1).toNat < p.rules.length := by omega
 have hm : p.rules.getD (n - 1).toNat default ∈ p.rules := by rw [List.getD_eq_getElem?_getD, List.getElem?_eq_getElem hlt]; exact List.getElem_mem hlt
 have hf := hb3 _ hm
 obtain ⟨hf1, hf2, hf3⟩ := hf
 refine gA rfl (zp (c24 p hb0) ?_)
 refine gA rfl (zI (fun g3 => ?_) fun g3 => ?_)
 ·have g3 : ¬ (checkD p).1 = 0 := by
   have g : (!decide ((checkD p).1 = 0)) = true := g3
   simpa only [Bool.not_eq_true', decide_eq_false_iff_not] using g
  rw [if_pos g3]
  refine gA rfl (zL ?_)
  exact .tup ⟨.nil _ _, .refl _, trivial⟩
 have g3 : (checkD p).1 = 0 := by
  have g : (!decide ((checkD p).1 = 0)) = false := g3
  simpa only [Bool.not_eq_false', decide_eq_true_eq] using g
 rw [if_neg fun h => h g3]
 refine gA rfl (zp (c48 (p.rules.getD (n - 1).toNat default) (by omega)) ?_)
 refine gA rfl (zq [] (d50 p (by omega)) ?_)
 refine gA rfl (zq [1] (ownM_of2 rfl rfl (c49 p (p.rules.getD (n - 1).toNat default) (by omega))) ?_)
 have hol := outerOcc_len (p.rules.getD (n - 1).toNat default)
 have hoc := occM_len (outerOcc (p.rules.getD (n - 1).toNat default))
 generalize p.rules.getD (n - 1).toNat default = r at *
 refine gA rfl (zp (c51 hS (occM (outerOcc r)) (by omega)) ?_)
 refine gA rfl ?_
 have htl : (toldM (occM (outerOcc r))).length ≤ 100000000 := by rw [toldM, sortB_len, List.length_map]; omega
 generalize toldM (occM (outerOcc r)) = L at *
 refine go_virt 8 2 rfl ?_
 refine go_for 0 L.length (Nat.zero_le _) (fun i => ⟨[(7, .iv (tyI r (typesT p r))), (8, .sl 3 0 i 2), (39, .iv (strs L)), (40, pI L.length), (41, pI i)], [(3, some (rowI 2 ((L.take i).map (tyOf p r)) Spot.c))], 4⟩) (fun _ => True) [2] trivial
  (zW (zS trivial)) fun i hi _ => ?_
 refine gA rfl (zI (fun h1 => ?_) fun h1 => ?_)
 ·have h1 : i < L.length := zN h1
  have hlt : (L.take i).length = i := by rw [List.length_take]; omega
  have hts := take_step (l := L) h1
  refine gA rfl (zdp (c52 r (typesT p r) (L.getD i default, -1) (typesT_ok p r)) ?_)
  refine gA rfl ?_
  exact ⟨h1, trivial, [5], zW (hR rfl (by rw [hts, List.map_append, List.map_append]; rfl) rfl trivial)⟩
 ·have h1 : L.length ≤ i := zG h1
  have hie : i = L.length := by omega
  subst hie
  rw [List.take_length]
  refine gA rfl (end_frz (r0 := .tup [.sl 3 0 L.length 2, pI 0]) (.inr rfl) rfl (FrzS.rowL 3 (L.map (tyOf p r)) Spot.c rfl rfl (by simp [PV.inRow, inRowL]) (.done (.tup ⟨.imm (by simp) (fun k _ => by rw [Nat.zero_add]), .refl _, trivial⟩))))
theorem c40 (s : Str) : Pure Tryz.prog 40 [pS s] (ag (Term.mk 1 s ⟨0, 0, ByteArray.empty⟩).c) := by
 refine pure_end tyA_ok Tryz.func40 rfl (by decide) Tryz.ntmps40 rfl (by simp) rfl ?_
 refine gA rfl (zL (.of_eq ?_))
 rfl
theorem c44 (n : Int) : Pure Tryz.prog 44 [pI n] (ag (Val.mk 1 n ByteArray.empty).c) := by
 refine pure_end tyA_ok Tryz.func44 rfl (by decide) Tryz.ntmps44 rfl (by simp) rfl ?_
 refine gA rfl (zL (.of_eq ?_))
 rfl
theorem row_low {n sz : Nat} {es : List (List PV)} (h : es.all (belowL n) = true) : (AO.row sz es).low n := fun _ e he => List.all_eq_true.1 h e (List.mem_of_getElem? he)
abbrev pE : PV := pS ByteArray.empty
abbrev pN : PV := .iv (.v (.slice none 0 0))
def exR0 : List (List PV) := [[pI 1, pS ⟨#[88]⟩, pI 0, pI 0, pE, pI 0, pN], [pI 2, pE, pI 1, pI 1, pE, pI 0, pN]]
def exR1 : List (List PV) := [[pI 1, pS ⟨#[88]⟩, pI 0, pI 0, pE]]
def exR2 (nm : Str) : List (List PV) := [[pI 1, pS nm, .sl 1 0 1 5, pI 0, pI 0, pE, pI 0, pI 0, pE, pI 0, pN, pI 0, pE, pI 0, pI 0, pE, pI 0, pN, pI 0, pE, pI 0, pE, pI 0, pI 0, pE, pI 0, pN, pN, pI 1, pI 26],
 [pI 3, pE, pN, pI 1, pI 1, pS ⟨#[89]⟩, pI 0, pI 0, pE, pI 0, pN, pI 4, pE, pI 0, pI 0, pE, pI 2, .sl 0 0 2 7, pI 0, pE, pI 0, pE, pI 0, pI 0, pE, pI 0, pN, pN, pI 1, pI 32]]
def exR3 : List (List PV) := [[pI 1, pS ⟨#[89]⟩, pI 0, pI 0, pE]]
def exR4 : List (List PV) := [[pI 1]]
def exR5 : List (List PV) := [[pS ⟨#[112]⟩, .sl 4 0 1 1, pI 1, pI 10]]
def exR6 : List (List PV) := [[pS ⟨#[112]⟩, .sl 3 0 1 5, .sl 2 0 2 30, pI 1, pI 18]]
abbrev exH (nm : Str) : AH := [(0, some (.row 7 exR0)), (1, some (.row 5 exR1)), (2, some (.row 30 (exR2 nm))), (3, some (.row 5 exR3)), (4, some (.row 1 exR4)), (5, some (.row 4 exR5)), (6, some (.row 5 exR6))]
theorem d43 : Det Tryz.prog 43 [] [] (.agg [.sl 5 0 1 4, .sl 6 0 1 5]) (exH ⟨#[112]⟩) 7 := by
 refine det_end tyA_ok Tryz.func43 rfl (by decide) Tryz.ntmps43 rfl (by simp) ?_
 refine gA rfl (zdp (c44 1) ?_)
 refine gA rfl (zdp (c40 ⟨#[88]⟩) ?_)
 refine gA rfl (zp (c40 ⟨#[89]⟩) ?_)
 refine gA rfl (end_det [2, 4, 5, 6, 8, 9, 10] (by first | exact .inr rfl | exact .inl rfl) rfl (zM ⟨.of_eq rfl, rfl, trivial⟩ ⟨⟨_, rfl, .of_eq rfl⟩, Nat.le_of_ble_eq_true rfl, row_low rfl, ⟨⟨_, rfl, .of_eq rfl⟩, Nat.le_of_ble_eq_true rfl, row_low rfl, ⟨⟨_, rfl, .of_eq rfl⟩, Nat.le_of_ble_eq_true rfl, row_low rfl, ⟨⟨_, rfl, .of_eq rfl⟩, Nat.le_of_ble_eq_true rfl, row_low rfl, ⟨⟨_, rfl, .of_eq rfl⟩, Nat.le_of_ble_eq_true rfl, row_low rfl, ⟨⟨_, rfl, .of_eq rfl⟩, Nat.le_of_ble_eq_true rfl, row_low rfl, ⟨⟨_, rfl, .of_eq rfl⟩, Nat.le_of_ble_eq_true rfl, row_low rfl, trivial⟩⟩⟩⟩⟩⟩⟩))
def IVles : List IV → List IV → Prop
 | [], [] => True
 | p :: r, q :: s => IVle p q ∧ IVles r s
 | _, _ => False
theorem IVles.length : ∀ {a b : List IV}, IVles a b → a.length = b.length
 | [], [], _ => rfl
 | _ :: _, _ :: _, h => congrArg (· + 1) (IVles.length h.2)
 | [], _ :: _, h => h.elim
 | _ :: _, [], h => h.elim
theorem IVles.get : ∀ {a b : List IV}, IVles a b → ∀ (j : Nat) (q : IV), b[j]? = some q → ∃ p, a[j]? = some p ∧ IVle p q
 | [], [], _, j, q, h => by simp at h
 | p :: r, q0 :: s, hh, j, q, h => by
  cases j with
  | zero => simp at h; subst h; exact ⟨p, rfl, hh.1⟩
  | succ j => simpa using IVles.get hh.2 j q (by simpa using h)
 | [], _ :: _, hh, _, _, _ => hh.elim
 | _ :: _, [], hh, _, _, _ => hh.elim
theorem imm2L {sz n : Nat} {el el' : Nat → List IV} (h : ∀ k, k < n → IVles (el k) (el' k)) : IVle (.imm sz n el) (.imm sz n el') := by
 intro M x hx
 cases hx with
 | imm0 => exact .imm0 _ _ _ _
 | imm _ _ _ b off cap hn hc hl hm hr =>
  refine .imm _ _ _ _ _ _ hn hc (fun k hk => by rw [← (h k hk).length]; exact hl k hk) hm (fun k j q hk hq => ?_)
  obtain ⟨p, hp, hle⟩ := (h k hk).get j q hq
  exact hle _ _ (hr k j p hk hp)
abbrev iE : IV := iS ByteArray.empty
abbrev iN : IV := .v (.slice none 0 0)
def exL0 : List (List IV) := [[iI 1, iS ⟨#[88]⟩, iI 0, iI 0, iE, iI 0, iN], [iI 2, iE, iI 1, iI 1, iE, iI 0, iN]]
def exL1 : List (List IV) := [[iI 1, iS ⟨#[88]⟩, iI 0, iI 0, iE]]
abbrev elOf (l : List (List IV)) : Nat → List IV := fun k => l.getD k []
abbrev imOf (sz n : Nat) (l : List (List IV)) : IV := .imm sz n (fun k => elOf l (0 + k))
def exL2 (nm : Str) : List (List IV) := [[iI 1, iS nm, imOf 5 1 exL1, iI 0, iI 0, iE, iI 0, iI 0, iE, iI 0, iN, iI 0, iE, iI 0, iI 0, iE, iI 0, iN, iI 0, iE, iI 0, iE, iI 0, iI 0, iE, iI 0, iN, iN, iI 1, iI 26],
 [iI 3, iE, iN, iI 1, iI 1, iS ⟨#[89]⟩, iI 0, iI 0, iE, iI 0, iN, iI 4, iE, iI 0, iI 0, iE, iI 2, imOf 7 2 exL0, iI 0, iE, iI 0, iE, iI 0, iI 0, iE, iI 0, iN, iN, iI 1, iI 32]]
def exL3 : List (List IV) := [[iI 1, iS ⟨#[89]⟩, iI 0, iI 0, iE]]
def exL4 : List (List IV) := [[iI 1]]
def exL5 : List (List IV) := [[iS ⟨#[112]⟩, imOf 1 1 exL4, iI 1, iI 10]]
def exL6 (nm : Str) : List (List IV) := [[iS ⟨#[112]⟩, imOf 5 1 exL3, imOf 30 2 (exL2 nm), iI 1, iI 18]]
theorem hel_of {es : List (List PV)} {l : List (List IV)} (h : es = l.map fun x => x.map .iv) : ∀ k e, es[k]? = some e → e = (elOf l k).map .iv := by
 subst h
 intro k e he
 rw [List.getElem?_map, Option.map_eq_some_iff] at he
 obtain ⟨x, hx, rfl⟩ := he
 simp [elOf, hx]
def exV : Val := ⟨0, 0, ByteArray.empty⟩
def exZ : Expr := .mk 0 ByteArray.empty exV 0 []
def exVar (s : Str) : Expr := .mk 1 s exV 0 []
def exPlus : Expr := .mk 4 ByteArray.empty exV 2 [exVar ⟨#[88]⟩, .mk 2 ByteArray.empty ⟨1, 1, ByteArray.empty⟩ 0 []]
def exLit1 (nm : Str) : Lit := .mk 1 ⟨nm, [⟨1, ⟨#[88]⟩, exV⟩]⟩ 0 exZ exZ 0 ByteArray.empty exZ [] ⟨1, 26⟩
def exLit2 : Lit := .mk 3 ⟨ByteArray.empty, []⟩ 1 (exVar ⟨#[89]⟩) exPlus 0 ByteArray.empty exZ [] ⟨1, 32⟩
def exRule (nm : Str) : Rule := ⟨⟨⟨#[112]⟩, [⟨1, ⟨#[89]⟩, exV⟩]⟩, [exLit1 nm, exLit2], ⟨1, 18⟩⟩
def exP (nm : Str) : Prog := ⟨[⟨⟨#[112]⟩, [1], ⟨1, 10⟩⟩], [exRule nm]⟩
theorem ex_args : IVle (imOf 7 2 exL0) (.imm 7 2 (fun j => (Expr.crs exPlus.args).getD j [])) := imm2L fun k hk => by
 match k, hk with
 | 0, _ => exact ⟨.refl _, .refl _, .refl _, .refl _, .refl _, .refl _, .nil _ _, trivial⟩
 | 1, _ => exact ⟨.refl _, .refl _, .refl _, .refl _, .refl _, .refl _, .nil _ _, trivial⟩
theorem ex_lit1 (nm : Str) : IVles (elOf (exL2 nm) (0 + 0)) (exLit1 nm).c := ⟨.refl _, .refl _, imm2L fun k hk => by match k, hk with | 0, _ => exact ⟨.refl _, .refl _, .refl _, .refl _, .refl _, trivial⟩, .refl _, .refl _, .refl _, .refl _, .refl _, .refl _, .refl _, .nil _ _, .refl _, .refl _, .refl _, .refl _, .refl _, .refl _, .nil _ _, .refl _, .refl _, .refl _, .refl _, .refl _, .refl _, .refl _, .refl _, .nil _ _, .nil _ _, .refl _, .refl _, trivial⟩
theorem ex_lit2 (nm : Str) : IVles (elOf (exL2 nm) (0 + 1)) exLit2.c := ⟨.refl _, .refl _, .nil _ _, .refl _, .refl _, .refl _, .refl _, .refl _, .refl _, .refl _, .nil _ _, .refl _, .refl _, .refl _, .refl _, .refl _, .refl _, ex_args, .refl _, .refl _, .refl _, .refl _, .refl _, .refl _, .refl _, .refl _, .nil _ _, .nil _ _, .refl _, .refl _, trivial⟩
theorem ex_body (nm : Str) : IVle (imOf 30 2 (exL2 nm)) (lits (exRule nm).body) := imm2L fun k hk => by
 match k, hk with
 | 0, _ => exact ex_lit1 nm
 | 1, _ => exact ex_lit2 nm
theorem ex_head : IVle (imOf 5 1 exL3) (slc 5 (exRule ⟨#[112]⟩).head.terms Term.c) := imm2L fun k hk => by
 match k, hk with
 | 0, _ => exact ⟨.refl _, .refl _, .refl _, .refl _, .refl _, trivial⟩
theorem ex_rels : IVle (imOf 4 1 exL5) (slc 4 (exP ⟨#[112]⟩).rels Decl.c) := imm2L fun k hk => by
 match k, hk with
 | 0, _ => exact ⟨.refl _, imm2L fun k hk => by match k, hk with | 0, _ => exact ⟨.refl _, trivial⟩, .refl _, .refl _, trivial⟩
theorem ex_rules (nm : Str) : IVle (imOf 5 1 (exL6 nm)) (slc 5 (exP nm).rules Rule.c) := imm2L fun k hk => by
 match k, hk with
 | 0, _ => exact ⟨.refl _, ex_head, ex_body nm, .refl _, .refl _, trivial⟩
def cellRB (i sz n : Nat) : PV → Bool
 | .iv _ => true
 | .sl j off len s => bif Nat.beq j i then Nat.beq s sz && Nat.ble (off + len) n else true
 | _ => false
theorem cellRB_ok {i sz n : Nat} {p : PV} (h : cellRB i sz n p = true) : p.inRow i sz n := by
 cases p with
 | iv => trivial
 | sl j off len s =>
  simp only [cellRB] at h
  show if j = i then s = sz ∧ off + len ≤ n else True
  split
  ·rename_i e
   subst e
   simp only [Nat.beq_refl, cond_true, Bool.and_eq_true] at h
   exact ⟨Nat.eq_of_beq_eq_true h.1, Nat.le_of_ble_eq_true h.2⟩
  ·trivial
 | _ => cases h
theorem rowRB_ok {i sz n : Nat} : ∀ {l : List PV}, l.all (cellRB i sz n) = true → inRowL i sz n l
 | [], _ => trivial
 | p :: r, h => by
  rw [List.all_cons, Bool.and_eq_true] at h
  exact ⟨cellRB_ok h.1, rowRB_ok h.2⟩
def okRB (i sz n : Nat) : AH → Bool
 | [] => true
 | (_, none) :: r => okRB i sz n r
 | (_, some (.cells cs _)) :: r => cs.all (cellRB i sz n) && okRB i sz n r
 | (_, some (.row _ es)) :: r => (es.all fun e => e.all (cellRB i sz n)) && okRB i sz n r
 | _ :: _ => false
theorem okRB_ok {i sz n : Nat} : ∀ {h : AH}, okRB i sz n h = true → h.okRR i sz n
 | [], _ => trivial
 | (_, none) :: r, h => okRB_ok (h := r) h
 | (_, some (.cells cs _)) :: r, h => by
  simp only [okRB, Bool.and_eq_true] at h
  exact ⟨rowRB_ok h.1, okRB_ok h.2⟩
 | (_, some (.row _ es)) :: r, h => by
  simp only [okRB, Bool.and_eq_true] at h
  exact ⟨fun e he => rowRB_ok (List.all_eq_true.1 h.1 e he), okRB_ok h.2⟩
 | (_, some (.brow _ _)) :: r, h => by simp [okRB] at h
 | (_, some .map0) :: r, h => by simp [okRB] at h
 | (_, some (.map ..)) :: r, h => by simp [okRB] at h
 | (_, some (.miter ..)) :: r, h => by simp [okRB] at h
 | (_, some (.siter ..)) :: r, h => by simp [okRB] at h
theorem relSub {M : Mem} {N : Nm} {U : Nat → Prop} {h h2 : AH} {w : World} (hr : Rel M N U h w) (hs : ∀ i o, h2.get i = some o → h.get i = some o) : Rel M N U h2 w :=
 ⟨hr.frz, fun i o hi => hr.used i o (hs i o hi), fun i o hi => hr.nfrz i o (hs i o hi), fun i o hi => hr.obj i o (hs i o hi), fun i j o p hi hj => hr.inj i j o p (hs i o hi) (hs j p hj)⟩
theorem ex_frz2 (nm : Str) {M : Mem} {N : Nm} {w : World} {n : Nat} {h : AH} (hr0 : Rel M N (· < n) h w) (g0 : h.get 0 = some (.row 7 exR0)) (g1 : h.get 1 = some (.row 5 exR1)) (g2 : h.get 2 = some (.row 30 (exR2 nm))) (g3 : h.get 3 = some (.row 5 exR3)) (g4 : h.get 4 = some (.row 1 exR4)) (g5 : h.get 5 = some (.row 4 exR5)) (g6 : h.get 6 = some (.row 5 exR6)) :
  ∃ M1 : Mem, M.le M1 ∧ Rel M1 N (· < n) [] w ∧ (∀ x, VR M N (· < n) (.agg [.sl 5 0 1 4, .sl 6 0 1 5]) x → VR M1 N (· < n) (ag (exP nm).c) x) ∧
   ∀ x, VR M N (· < n) (.agg [pS ⟨#[112]⟩, .sl 3 0 1 5, .sl 2 0 2 30, pI 1, pI 18]) x → VR M1 N (· < n) (ag (exRule nm).c) x := by
 have hr : Rel M N (· < n) (exH nm) w := relSub hr0 fun i o hi => by
  match i, hi with
  | 0, hi => cases hi; exact g0
  | 1, hi => cases hi; exact g1
  | 2, hi => cases hi; exact g2
  | 3, hi => cases hi; exact g3
  | 4, hi => cases hi; exact g4
  | 5, hi => cases hi; exact g5
  | 6, hi => cases hi; exact g6
  | i + 7, hi => exact nomatch hi
 obtain ⟨M0, l0, r0, v0⟩ := rel_frzRR hr 0 (elOf exL0) rfl (hel_of rfl) (okRB_ok rfl)
 obtain ⟨M1, l1, r1, v1⟩ := rel_frzRR r0 1 (elOf exL1) rfl (hel_of rfl) (okRB_ok rfl)
 obtain ⟨M2, l2, r2, v2⟩ := rel_frzRR r1 2 (elOf (exL2 nm)) rfl (hel_of rfl) (okRB_ok rfl)
 obtain ⟨M3, l3, r3, v3⟩ := rel_frzRR r2 3 (elOf exL3) rfl (hel_of rfl) (okRB_ok rfl)
 obtain ⟨M4, l4, r4, v4⟩ := rel_frzRR r3 4 (elOf exL4) rfl (hel_of rfl) (okRB_ok rfl)
 obtain ⟨M5, l5, r5, v5⟩ := rel_frzRR r4 5 (elOf exL5) rfl (hel_of rfl) (okRB_ok rfl)
 obtain ⟨M6, l6, r6, v6⟩ := rel_frzRR r5 6 (elOf (exL6 nm)) rfl (hel_of rfl) (okRB_ok rfl)
 refine ⟨M6, l0.trans (l1.trans (l2.trans (l3.trans (l4.trans (l5.trans l6))))), ⟨r6.frz, fun i o hi => (nomatch hi), fun i o hi => (nomatch hi), fun i o hi => (nomatch hi), fun i j o p hi => (nomatch hi)⟩, fun x hx => ?_, fun x hx => ?_⟩
 ·have h6 : VR M6 N (· < n) (.agg [.iv (imOf 4 1 exL5), .iv (imOf 5 1 (exL6 nm))]) x :=
   v6 _ _ (v5 _ _ (v4 _ _ (v3 _ _ (v2 _ _ (v1 _ _ (v0 _ _ hx (rowRB_ok rfl)) (rowRB_ok rfl)) (rowRB_ok rfl)) (rowRB_ok rfl)) (rowRB_ok rfl)) (rowRB_ok rfl)) (rowRB_ok rfl)
  exact (show PVle (.agg [.iv (imOf 4 1 exL5), .iv (imOf 5 1 (exL6 nm))]) (ag (exP nm).c) from .agg ⟨.iv ex_rels, .iv (ex_rules nm), trivial⟩) _ _ _ _ h6
 ·have h6 : VR M6 N (· < n) (.agg [pS ⟨#[112]⟩, .iv (imOf 5 1 exL3), .iv (imOf 30 2 (exL2 nm)), pI 1, pI 18]) x :=
   v6 _ _ (v5 _ _ (v4 _ _ (v3 _ _ (v2 _ _ (v1 _ _ (v0 _ _ hx (rowRB_ok rfl)) (rowRB_ok rfl)) (rowRB_ok rfl)) (rowRB_ok rfl)) (rowRB_ok rfl)) (rowRB_ok rfl)) (rowRB_ok rfl)
  exact (show PVle (.agg [pS ⟨#[112]⟩, .iv (imOf 5 1 exL3), .iv (imOf 30 2 (exL2 nm)), pI 1, pI 18]) (ag (exRule nm).c) from .agg ⟨.refl _, .iv ex_head, .iv (ex_body nm), .refl _, .refl _, trivial⟩) _ _ _ _ h6
theorem go_frzMo {P : Program} {nt : Nat} {Q : AQ} {k : List KI} {s : AS} {all rest : List Oper} (i : Nat) {kc : KC} {V : Type} {e : V → IV} {z : V} {zv : Value} {dv : PV → V} {m : List (kc.K × V)} (hi : s.h.get i = some (.map kc e z zv dv m))
  (h : GO P nt (.ops all rest :: k) Q ⟨s.f.frzM i (.imap kc e z zv m), (i, none) :: s.h.frzM i (.imap kc e z zv m), s.nx⟩) : GO P nt (.ops all rest :: k) Q s := by
 intro M N a w hf
 obtain ⟨M', h1, h2, h3, h4⟩ := frz_mapH hf.1 hi
 have hf' : Fits M' N ⟨s.f.frzM i (.imap kc e z zv m), (i, none) :: s.h.frzM i (.imap kc e z zv m), s.nx⟩ nt a w := ⟨h2, fun d => by
  rw [AF.frzM_get]; exact h4 _ _ (hf.2.1 d), hf.2.2⟩
 exact wpList_mono (fun e a2 w2 ⟨M2, N2, s2, hx2, hf2, hr2⟩ => ⟨M2, N2, s2, h1.trans hx2, hf2, hr2⟩) _ _ _ (h M' N a w hf')
theorem d51o (hS : SortS) (m : NM) (hm : m.length ≤ 100000000) : Det Tryz.prog 51 [.iv (nmI m)] [] (.sl 0 0 (toldM m).length 1) [(0, some (rowI 1 (toldM m) strC))] 1 := by
 refine det_end tyA_ok Tryz.func51 rfl (by decide) Tryz.ntmps51 rfl (by simp) ?_
 refine gA rfl ?_
 refine go_virt 3 1 rfl ?_
 refine go_rng m (fun vs => ⟨[(3, .sl 2 0 (keysAt m vs).length 1), (6, .ptr 0 0)], [(0, some (.miter .str evI m vs none)), (2, some (rowI 1 (keysAt m vs) strC))], 3⟩) (fun vs => vs.Nodup ∧ ∀ j ∈ vs, j < m.length) [1] ⟨List.nodup_nil, by simp⟩
  (zW (hI rfl rfl (.inl rfl) rfl (zS trivial))) fun vs hJ => ?_
 obtain ⟨hJ1, hJ2⟩ := hJ
 have hvl := nodup_lt hJ1 hJ2
 have hkl := keysAt_len m vs
 refine goR rfl trivial (go_next rfl rfl rfl rfl rfl (by decide) (fun hall => ?_) fun j x hx hj => ?_)
 ·refine goR rfl trivial (go_det [2] (c94of hS (keysAt m vs) (by omega)) rfl rfl rfl rfl rfl (congrArg (fun o => [some o]) (rowI_ren _).symm) rfl rfl ?_)
  have hpm : sortB (keysAt m vs) = toldM m := by rw [toldM, sortB_perm (keysAt_all m vs hJ1 hJ2 hall)]
  rw [hpm]
  refine gA rfl (end_det [2] (by first | exact .inr rfl | exact .inl rfl) rfl (zM ⟨.row (by rw [← hpm, sortB_len]), rfl, trivial⟩ (hR rfl (rows_ren _ _) rfl trivial)))
 ·have hk := keysAt_cons m vs j x hx
  refine gA rfl ?_
  exact ⟨j, x, hx, hj, ⟨List.nodup_cons.2 ⟨hj, hJ1⟩, fun i hi => (List.mem_cons.1 hi).elim (fun h => h ▸ (List.getElem?_eq_some_iff.1 hx).1) (hJ2 i)⟩, [4], zM ⟨.row (by rw [hk, List.length_append]; rfl), rfl, .refl _, rfl, trivial⟩ (hI rfl rfl (.inr rfl) rfl (hR rfl (by rw [hk, List.map_append]; rfl) rfl trivial))⟩
theorem d31o (hS : SortS) (r : Rule) (hb : r.size ≤ 10000000) : Det Tryz.prog 31 [ag r.c] [] (.sl 0 0 (toldM (occM (limOcc r))).length 1) [(0, some (rowI 1 (toldM (occM (limOcc r))) strC))] 1 := by
 have h1 := occM_len (limOcc r)
 have h2 := limOcc_len r
 have h3 : Lit.sizes r.body ≤ r.size := Nat.le_add_left _ _
 refine det_end tyA_ok Tryz.func31 rfl (by decide) Tryz.ntmps31 rfl (by simp) ?_
 refine gA rfl (zp (c48 r (by omega)) ?_)
 refine gA rfl (zq [] (d73 r (by omega)) ?_)
 refine go_frzMo 1 rfl ?_
 refine gA rfl (zq [] (d51o hS (occM (limOcc r)) (by omega)) ?_)
 refine gA rfl (end_det [2] (by first | exact .inr rfl | exact .inl rfl) rfl (zW (hR rfl (rows_ren _ _) rfl trivial)))
theorem d33o (hS : SortS) (r : Rule) (hb : r.size ≤ 10000000) : Det Tryz.prog 33 [ag r.c] [] (.sl 0 0 (toldM (occM (plOcc r))).length 1) [(0, some (rowI 1 (toldM (occM (plOcc r))) strC))] 1 := by
 have h1 := occM_len (plOcc r)
 have h2 := plOcc_len r
 have h3 : Lit.sizes r.body ≤ r.size := Nat.le_add_left _ _
 refine det_end tyA_ok Tryz.func33 rfl (by decide) Tryz.ntmps33 rfl (by simp) ?_
 refine gA rfl ?_
 refine gA rfl (zq [1, 2] (d75B0 r (by omega)) ?_)
 refine go_frzMo 1 rfl ?_
 refine gA rfl (zq [] (d51o hS (occM (plOcc r)) (by omega)) ?_)
 refine gA rfl (end_det [3] (by first | exact .inr rfl | exact .inl rfl) rfl (zW (hR rfl (rows_ren _ _) rfl trivial)))
theorem d13o (hS : SortS) (p : Prog) (n : Int) (hb : p.fit) (h1n : 1 ≤ n) (h2n : n ≤ p.rules.length) (hck : (checkD p).1 = 0) : Det Tryz.prog 13 [ag p.c, pI n] [] (.tup [.sl 0 0 (typesR p n).1.length 2, pI 0]) [(0, some (rowI 2 (typesR p n).1 Spot.c))] 1 := by
 have hb0 := hb
 obtain ⟨hb1, hb2, hb3⟩ := hb
 have hT : typesR p n = ((toldM (occM (outerOcc (p.rules.getD (n - 1).toNat default)))).map (tyOf p (p.rules.getD (n - 1).toNat default)), 0) := by
  unfold typesR
  rw [if_neg (by omega), if_neg (fun h => h hck)]
 rw [hT]
 have hlt : (n - 1).toNat < p.rules.length := by omega
 have hm : p.rules.getD (n - 1).toNat default ∈ p.rules := by rw [List.getD_eq_getElem?_getD, List.getElem?_eq_getElem hlt]; exact List.getElem_mem hlt
 have hf := hb3 _ hm
 obtain ⟨hf1, hf2, hf3⟩ := hf
 refine det_end tyA_ok Tryz.func13 rfl (by decide) Tryz.ntmps13 rfl (by simp) ?_
 refine gA rfl (zI (fun g1 => ?_) fun g1 => ?_)
 rotate_left
 ·have g : n < 1 := zT (show decide (n < 1) = true from g1)
  omega
 refine gA rfl (zI (fun g2 => ?_) fun g2 => ?_)
 ·have g := zT (show decide (n > (p.rules.length : Int)) = true from g2)
  omega
 refine gA rfl (zp (c24 p hb0) ?_)
 refine gA rfl (zI (fun g3 => ?_) fun g3 => ?_)
 ·have g : (!decide ((checkD p).1 = 0)) = true := g3
  rw [hck] at g; simp at g
 refine gA rfl (zp (c48 (p.rules.getD (n - 1).toNat default) (by omega)) ?_)
 refine gA rfl (zq [] (d50 p (by omega)) ?_)
 refine gA rfl (zq [1] (ownM_of2 rfl rfl (c49 p (p.rules.getD (n - 1).toNat default) (by omega))) ?_)
 have hol := outerOcc_len (p.rules.getD (n - 1).toNat default)
 have hoc := occM_len (outerOcc (p.rules.getD (n - 1).toNat default))
 generalize p.rules.getD (n - 1).toNat default = r at *
 refine gA rfl (zp (c51 hS (occM (outerOcc r)) (by omega)) ?_)
 refine gA rfl ?_
 have htl : (toldM (occM (outerOcc r))).length ≤ 100000000 := by rw [toldM, sortB_len, List.length_map]; omega
 generalize toldM (occM (outerOcc r)) = L at *
 refine go_virt 8 2 rfl ?_
 refine go_for 0 L.length (Nat.zero_le _) (fun i => ⟨[(7, .iv (tyI r (typesT p r))), (8, .sl 3 0 i 2), (39, .iv (strs L)), (40, pI L.length), (41, pI i)], [(3, some (rowI 2 ((L.take i).map (tyOf p r)) Spot.c))], 4⟩) (fun _ => True) [2] trivial
  (zW (zS trivial)) fun i hi _ => ?_
 refine gA rfl (zI (fun h1 => ?_) fun h1 => ?_)
 ·have h1 : i < L.length := zN h1
  have hlt : (L.take i).length = i := by rw [List.length_take]; omega
  have hts := take_step (l := L) h1
  refine gA rfl (zdp (c52 r (typesT p r) (L.getD i default, -1) (typesT_ok p r)) ?_)
  refine gA rfl ?_
  exact ⟨h1, trivial, [5], zW (hR rfl (by rw [hts, List.map_append, List.map_append]; rfl) rfl trivial)⟩
 ·have h1 : L.length ≤ i := zG h1
  have hie : i = L.length := by omega
  subst hie
  rw [List.take_length]
  refine gA rfl (end_det [3] (by first | exact .inr rfl | exact .inl rfl) rfl (zM ⟨.tup ⟨.row (by simp), .refl _, trivial⟩, rfl, trivial⟩ (zS trivial)))
end Go.Proofs.YtpnclpbkecjinaaGreatDoorR
namespace Go.Proofs.YtpnclpbkecjinaaGreatDoorR
open Go Go.Al
set_option maxRecDepth 100000
abbrev nP : Str := ⟨#[112]⟩
abbrev nQ : Str := ⟨#[113]⟩
abbrev nX : Str := ⟨#[88]⟩
abbrev nY : Str := ⟨#[89]⟩
theorem sortB_same {l : List Str} (h : (l.map toB).Pairwise fun x y => decide (x ≤ y) = true) : sortB l = l := by
 rw [sortB, sortBytes, List.mergeSort_of_pairwise h, List.map_map]
 have : ofB ∘ toB = id := by funext x; exact ofB_toB x
 rw [this, List.map_id]
theorem sort_XY : sortB [nX, nY] = [nX, nY] := sortB_same (by decide +kernel)
theorem lim_v : toldM (occM (limOcc (exRule nP))) = [nX, nY] := by
 rw [toldM, show occM (limOcc (exRule nP)) = [(nX, 1), (nY, 1)] from by decide +kernel]
 exact sort_XY
theorem pl_v : toldM (occM (plOcc (exRule nP))) = [nX] := by
 rw [toldM, show occM (plOcc (exRule nP)) = [(nX, 1)] from by decide +kernel]
 exact sortB_same (by decide +kernel)
theorem out_v : toldM (occM (outerOcc (exRule nP))) = [nX, nY] := by
 rw [toldM, show (occM (outerOcc (exRule nP))).map (·.1) = [nY, nX] from by decide +kernel, sortB_perm (List.Perm.swap nX nY [])]
 exact sort_XY
theorem ty_v : (typesR (exP nP) 1).1 = [(nX, 1), (nY, 1)] := by
 unfold typesR
 rw [if_neg (by decide), if_neg (by decide +kernel)]
 show (toldM (occM (outerOcc (exRule nP)))).map (tyOf (exP nP) (exRule nP)) = _
 rw [out_v]
 decide +kernel
theorem chk_P : checkD (exP nP) = Diag.z := by decide +kernel
theorem chk_Q : checkD (exP nQ) = (61, ⟨1, 26⟩) := by decide +kernel
def exFact : Fact := ⟨nP, [⟨1, 1, ByteArray.empty⟩]⟩
def exGoal : Atom := ⟨nP, [⟨1, nX, exV⟩]⟩
theorem fact_v : factR (exP nQ) exFact = 0 := by decide +kernel
theorem goal_v : goalR (exP nQ) exGoal = 0 := by decide +kernel
theorem ex_fit (nm : Str) (h : ∀ l ∈ (exRule nm).body, l.ts ≤ 900000000) (h2 : (exRule nm).size ≤ 10000000) (h3 : (exRule nm).head.ts ≤ 900000000) : (exP nm).fit :=
 ⟨by show 1 ≤ _; omega, by show 1 ≤ _; omega, fun r hr => by
  have : r = exRule nm := List.mem_singleton.1 hr
  subst this; exact ⟨h2, h3, h⟩⟩
theorem fit_P : (exP nP).fit := ex_fit nP (by decide +kernel) (by decide +kernel) (by decide +kernel)
theorem fit_Q : (exP nQ).fit := ex_fit nQ (by decide +kernel) (by decide +kernel) (by decide +kernel)
end Go.Proofs.YtpnclpbkecjinaaGreatDoorR
namespace Go.Proofs.YtpnclpbkecjinaaGreatDoorR
open Go Go.Al
set_option maxRecDepth 10000
abbrev exA : PV := .agg [.sl 5 0 1 4, .sl 6 0 1 5]
abbrev exB : PV := .agg [pS ⟨#[112]⟩, .sl 3 0 1 5, .sl 2 0 2 30, pI 1, pI 18]
abbrev exC : AO := .cells [.sl 5 0 1 4, .sl 6 0 1 5]
theorem fzP (nm : Str) (rest : List PV) (hb : bareL rest = true) {M : Mem} {N : Nm} {w : World} {n : Nat} {h : AH} (hr0 : Rel M N (· < n) h w) (g0 : h.get 0 = some (.row 7 exR0)) (g1 : h.get 1 = some (.row 5 exR1)) (g2 : h.get 2 = some (.row 30 (exR2 nm))) (g3 : h.get 3 = some (.row 5 exR3)) (g4 : h.get 4 = some (.row 1 exR4)) (g5 : h.get 5 = some (.row 4 exR5)) (g6 : h.get 6 = some (.row 5 exR6)) :
  ∃ M1 : Mem, M.le M1 ∧ Rel M1 N (· < n) [] w ∧ ∀ (j : Nat) (p : PV) (x : Value), (ag (exP nm).c :: rest)[j]? = some p → (∀ q, (exA :: rest)[j]? = some q → VR M N (· < n) q x) → VR M1 N (· < n) p x := by
 obtain ⟨M1, h1, h2, h3, h4⟩ := ex_frz2 nm hr0 g0 g1 g2 g3 g4 g5 g6
 refine ⟨M1, h1, h2, fun j p x hj hq => ?_⟩
 cases j with
 | zero => cases hj; exact h3 x (hq _ rfl)
 | succ j => exact bareR_ok (hq p hj) (bareL_mem hb j p hj)
theorem fzB (nm : Str) {M : Mem} {N : Nm} {w : World} {n : Nat} {h : AH} (hr0 : Rel M N (· < n) h w) (g0 : h.get 0 = some (.row 7 exR0)) (g1 : h.get 1 = some (.row 5 exR1)) (g2 : h.get 2 = some (.row 30 (exR2 nm))) (g3 : h.get 3 = some (.row 5 exR3)) (g4 : h.get 4 = some (.row 1 exR4)) (g5 : h.get 5 = some (.row 4 exR5)) (g6 : h.get 6 = some (.row 5 exR6)) :
  ∃ M1 : Mem, M.le M1 ∧ Rel M1 N (· < n) [] w ∧ ∀ (j : Nat) (p : PV) (x : Value), [ag (exRule nm).c][j]? = some p → (∀ q, [exB][j]? = some q → VR M N (· < n) q x) → VR M1 N (· < n) p x := by
 obtain ⟨M1, h1, h2, h3, h4⟩ := ex_frz2 nm hr0 g0 g1 g2 g3 g4 g5 g6
 refine ⟨M1, h1, h2, fun j p x hj hq => ?_⟩
 cases j with
 | zero => cases hj; exact h4 x (hq _ rfl)
 | succ j => exact nomatch hj
theorem c24P : Pure Tryz.prog 24 [ag (exP nP).c] (ag Diag.z.c) := by have := c24 (exP nP) fit_P; rw [chk_P] at this; exact this
theorem c24Q : Pure Tryz.prog 24 [ag (exP nQ).c] (ag (Diag.c (61, ⟨1, 26⟩))) := by have := c24 (exP nQ) fit_Q; rw [chk_Q] at this; exact this
theorem d31P (hS : SortS) : Det Tryz.prog 31 [ag (exRule nP).c] [] (.sl 0 0 2 1) [(0, some (.row 1 [[pS nX], [pS nY]]))] 1 := by
 have := d31o hS (exRule nP) (by decide +kernel)
 rw [lim_v] at this; exact this
theorem d33P (hS : SortS) : Det Tryz.prog 33 [ag (exRule nP).c] [] (.sl 0 0 1 1) [(0, some (.row 1 [[pS nX]]))] 1 := by
 have := d33o hS (exRule nP) (by decide +kernel)
 rw [pl_v] at this; exact this
theorem d13P (hS : SortS) : Det Tryz.prog 13 [ag (exP nP).c, pI 1] [] (.tup [.sl 0 0 2 2, pI 0]) [(0, some (.row 2 [[pS nX, pI 1], [pS nY, pI 1]]))] 1 := by
 have := d13o hS (exP nP) 1 fit_P (by decide) (by decide) (by rw [chk_P]; rfl)
 rw [ty_v] at this; exact this
theorem bare1 {σ : Nat → Nat} {sz : Nat} {es : List (List PV)} (h : (es.map (renL σ)).all bareL = true) : ∀ j o, (renH σ [(0, some (.row sz es))]).get j = some o → bareO o := by
 intro j o hj
 simp only [renH, AO.ren] at hj
 rw [AH.get_cons] at hj
 split at hj
 ·cases hj; exact fun e he => List.all_eq_true.1 h e he
 ·exact nomatch hj
theorem go_dbcall {nt : Nat} {Q : AQ} {k : List KI} {s : AS} {all : List Oper} {todo pend : List (Nat × Oper)} {j' : Nat} {CA C2 : Prop} {o : Oper} {c : Call} {g : FuncId} {asv args : List PV} {r : PV} {h' : AH} {n' : Nat} {s' : AS} (hc : Det Tryz.prog g args [] r h' n')
  (hrd : readyE todo = [(j', o)]) (ho : o.op = .call c) (ha : argsOf s.f c = some (g, asv)) (hlen : args.length = asv.length) (hlow : belowL 0 args = true)
  (hfz : ∀ M N w, Rel M N (· < s.nx) s.h w → ∃ M1 : Mem, M.le M1 ∧ Rel M1 N (· < s.nx) [] w ∧ ∀ (j : Nat) (p : PV) (x : Value), args[j]? = some p → (∀ q, asv[j]? = some q → VR M N (· < s.nx) q x) → VR M1 N (· < s.nx) p x)
  (hbr : bareR (r.ren (sig [] s.nx)) = true) (hbh : ∀ j o, (renH (sig [] s.nx) h').get j = some o → bareO o) (hp : putDst nt o (r.ren (sig [] s.nx)) (behindCall s [] h' n') = some s')
  (hg : guardIs nt all s.f o = some true) (hpb : pendB all pend o = true) (hE : effE todo [j'] = true)
  (hag : agnC tyA nt all s todo pend = some CA) (hCA : CA) (hag2 : againC tyA nt all s' (restOf pend o) = some C2) (hC2 : C2)
  (h : GO Tryz.prog nt (.dops all (todo.filter fun x => !Nat.beq x.1 j') (restOf pend o) :: k) Q s') : GO Tryz.prog nt (.dops all todo pend :: k) Q s :=
 go_dot tyA_ok hrd hg hpb hE hag hCA (bcall_OT ho ha hc hlen hlow hfz hbr hbh hp) hag2 hC2 h
theorem fzX (nm : Str) (R sz : Nat) (l : List (List IV)) (p2 : PV) (d2 : List IV) (hin : p2.inRow R sz l.length) (hle : PVle (p2.frz R sz (elOf l)) (ag d2)) {M : Mem} {N : Nm} {w : World} {n : Nat} {h : AH} (hr : Rel M N (· < n) h w) (hR : h.get R = some (.row sz (l.map fun x => x.map .iv))) (hok : okRB R sz l.length h = true) (hA : exA.frz R sz (elOf l) = exA) (hAi : exA.inRow R sz l.length)
  (g0 : AH.get ((R, none) :: h.frzRR R sz (elOf l)) 0 = some (.row 7 exR0)) (g1 : AH.get ((R, none) :: h.frzRR R sz (elOf l)) 1 = some (.row 5 exR1)) (g2 : AH.get ((R, none) :: h.frzRR R sz (elOf l)) 2 = some (.row 30 (exR2 nm))) (g3 : AH.get ((R, none) :: h.frzRR R sz (elOf l)) 3 = some (.row 5 exR3)) (g4 : AH.get ((R, none) :: h.frzRR R sz (elOf l)) 4 = some (.row 1 exR4)) (g5 : AH.get ((R, none) :: h.frzRR R sz (elOf l)) 5 = some (.row 4 exR5)) (g6 : AH.get ((R, none) :: h.frzRR R sz (elOf l)) 6 = some (.row 5 exR6)) :
  ∃ M1 : Mem, M.le M1 ∧ Rel M1 N (· < n) [] w ∧ ∀ (j : Nat) (p : PV) (x : Value), [ag (exP nm).c, ag d2][j]? = some p → (∀ q, [exA, p2][j]? = some q → VR M N (· < n) q x) → VR M1 N (· < n) p x := by
 obtain ⟨Ma, la, ra, va⟩ := rel_frzRR hr R (elOf l) hR (hel_of rfl) (by rw [List.length_map]; exact okRB_ok hok)
 rw [List.length_map] at va
 obtain ⟨M1, h1, h2, h3, h4⟩ := ex_frz2 nm ra g0 g1 g2 g3 g4 g5 g6
 refine ⟨M1, la.trans h1, h2, fun j p x hj hq => ?_⟩
 match j, hj with
 | 0, hj => cases hj; exact h3 x (by have := va _ _ (hq _ rfl) hAi; rw [hA] at this; exact this)
 | 1, hj => cases hj; exact hle _ _ _ _ ((va _ _ (hq _ rfl) hin).mono h1 (.refl _ _) fun _ h => h)
 | j + 2, hj => exact nomatch hj
def exLF : List (List IV) := [[iI 1, iI 1, iE]]
def exLG : List (List IV) := [[iI 1, iS ⟨#[88]⟩, iI 0, iI 0, iE]]
theorem fact_le : PVle (.agg [pS ⟨#[112]⟩, .iv (imOf 3 1 exLF)]) (ag exFact.c) := .agg ⟨.refl _, .iv (imm2L fun k hk => by match k, hk with | 0, _ => exact ⟨.refl _, .refl _, .refl _, trivial⟩), trivial⟩
theorem goal_le : PVle (.agg [pS ⟨#[112]⟩, .iv (imOf 5 1 exLG)]) (ag exGoal.c) := .agg ⟨.refl _, .iv (imm2L fun k hk => by match k, hk with | 0, _ => exact ⟨.refl _, .refl _, .refl _, .refl _, .refl _, trivial⟩), trivial⟩
theorem c16Q : Pure Tryz.prog 16 [ag (exP nQ).c, ag exFact.c] (pI 0) := by have := c16 (exP nQ) exFact (by decide +kernel) (by decide +kernel); rw [fact_v] at this; exact this
theorem c21Q : Pure Tryz.prog 21 [ag (exP nQ).c, ag exGoal.c] (pI 0) := by have := c21 (exP nQ) exGoal (by decide +kernel) (by decide +kernel) (by decide +kernel); rw [goal_v] at this; exact this
set_option maxHeartbeats 4000000 in
theorem c11 (hS : SortS) : Pure Tryz.prog 11 [] (pB true) := by
 refine pure_end tyA_ok Tryz.func11 rfl (by decide) Tryz.ntmps11 rfl (by simp) rfl ?_
 refine gA rfl (zq [] (d43) ?_)
 refine gM 3 rfl (go_wk [] (t := ⟨[(1, .ptr 7 0)], [(0, some (.row 7 exR0)), (1, some (.row 5 exR1)), (2, some (.row 30 (exR2 nP))), (3, some (.row 5 exR3)), (4, some (.row 1 exR4)), (5, some (.row 4 exR5)), (6, some (.row 5 exR6)), (7, some exC)], 8⟩) (zW ⟨⟨_, rfl, .of_eq rfl⟩, Nat.le_of_ble_eq_true rfl, row_low rfl, ⟨⟨_, rfl, .of_eq rfl⟩, Nat.le_of_ble_eq_true rfl, row_low rfl, ⟨⟨_, rfl, .of_eq rfl⟩, Nat.le_of_ble_eq_true rfl, row_low rfl, ⟨⟨_, rfl, .of_eq rfl⟩, Nat.le_of_ble_eq_true rfl, row_low rfl, ⟨⟨_, rfl, .of_eq rfl⟩, Nat.le_of_ble_eq_true rfl, row_low rfl, ⟨⟨_, rfl, .of_eq rfl⟩, Nat.le_of_ble_eq_true rfl, row_low rfl, ⟨⟨_, rfl, .of_eq rfl⟩, Nat.le_of_ble_eq_true rfl, row_low rfl, (zO trivial)⟩⟩⟩⟩⟩⟩⟩) ?_)
 refine gA rfl (go_bcall (asv := [exA]) c24P rfl rfl rfl rfl rfl (fun M N w hr => fzP nP [] rfl hr rfl rfl rfl rfl rfl rfl rfl) rfl (fun j o hj => nomatch hj) rfl ?_)
 refine gM 3 rfl (go_wk [] (t := ⟨[(1, .ptr 7 0), (2, .ptr 8 0)], [(0, some (.row 7 exR0)), (1, some (.row 5 exR1)), (2, some (.row 30 (exR2 nP))), (3, some (.row 5 exR3)), (4, some (.row 1 exR4)), (5, some (.row 4 exR5)), (6, some (.row 5 exR6)), (7, some exC), (8, some (.cells [pI 0, pI 0, pI 0]))], 9⟩) (zW ⟨⟨_, rfl, .of_eq rfl⟩, Nat.le_of_ble_eq_true rfl, row_low rfl, ⟨⟨_, rfl, .of_eq rfl⟩, Nat.le_of_ble_eq_true rfl, row_low rfl, ⟨⟨_, rfl, .of_eq rfl⟩, Nat.le_of_ble_eq_true rfl, row_low rfl, ⟨⟨_, rfl, .of_eq rfl⟩, Nat.le_of_ble_eq_true rfl, row_low rfl, ⟨⟨_, rfl, .of_eq rfl⟩, Nat.le_of_ble_eq_true rfl, row_low rfl, ⟨⟨_, rfl, .of_eq rfl⟩, Nat.le_of_ble_eq_true rfl, row_low rfl, ⟨⟨_, rfl, .of_eq rfl⟩, Nat.le_of_ble_eq_true rfl, row_low rfl, (zO (zO trivial))⟩⟩⟩⟩⟩⟩⟩) ?_)
 refine gA rfl (go_bcall (asv := [exB]) (d31P hS) rfl rfl rfl rfl rfl (fun M N w hr => fzB nP hr rfl rfl rfl rfl rfl rfl rfl) rfl (bare1 rfl) rfl ?_)
 refine gM 2 rfl (go_wk [] (t := ⟨[(1, .ptr 7 0), (2, .ptr 8 0), (3, .sl 9 0 2 1)], [(0, some (.row 7 exR0)), (1, some (.row 5 exR1)), (2, some (.row 30 (exR2 nP))), (3, some (.row 5 exR3)), (4, some (.row 1 exR4)), (5, some (.row 4 exR5)), (6, some (.row 5 exR6)), (7, some exC), (8, some (.cells [pI 0, pI 0, pI 0])), (9, some (.row 1 [[pS nX], [pS nY]]))], 10⟩) (zW ⟨⟨_, rfl, .of_eq rfl⟩, Nat.le_of_ble_eq_true rfl, row_low rfl, ⟨⟨_, rfl, .of_eq rfl⟩, Nat.le_of_ble_eq_true rfl, row_low rfl, ⟨⟨_, rfl, .of_eq rfl⟩, Nat.le_of_ble_eq_true rfl, row_low rfl, ⟨⟨_, rfl, .of_eq rfl⟩, Nat.le_of_ble_eq_true rfl, row_low rfl, ⟨⟨_, rfl, .of_eq rfl⟩, Nat.le_of_ble_eq_true rfl, row_low rfl, ⟨⟨_, rfl, .of_eq rfl⟩, Nat.le_of_ble_eq_true rfl, row_low rfl, ⟨⟨_, rfl, .of_eq rfl⟩, Nat.le_of_ble_eq_true rfl, row_low rfl, (zO (zO ⟨⟨_, rfl, .of_eq rfl⟩, Nat.le_of_ble_eq_true rfl, row_low rfl, trivial⟩))⟩⟩⟩⟩⟩⟩⟩) ?_)
 refine gA rfl (go_bcall (asv := [exB]) (d33P hS) rfl rfl rfl rfl rfl (fun M N w hr => fzB nP hr rfl rfl rfl rfl rfl rfl rfl) rfl (bare1 rfl) rfl ?_)
 refine gM 2 rfl (go_wk [] (t := ⟨[(1, .ptr 7 0), (2, .ptr 8 0), (3, .sl 9 0 2 1), (4, .sl 10 0 1 1)], [(0, some (.row 7 exR0)), (1, some (.row 5 exR1)), (2, some (.row 30 (exR2 nP))), (3, some (.row 5 exR3)), (4, some (.row 1 exR4)), (5, some (.row 4 exR5)), (6, some (.row 5 exR6)), (7, some exC), (8, some (.cells [pI 0, pI 0, pI 0])), (9, some (.row 1 [[pS nX], [pS nY]])), (10, some (.row 1 [[pS nX]]))], 11⟩) (zW ⟨⟨_, rfl, .of_eq rfl⟩, Nat.le_of_ble_eq_true rfl, row_low rfl, ⟨⟨_, rfl, .of_eq rfl⟩, Nat.le_of_ble_eq_true rfl, row_low rfl, ⟨⟨_, rfl, .of_eq rfl⟩, Nat.le_of_ble_eq_true rfl, row_low rfl, ⟨⟨_, rfl, .of_eq rfl⟩, Nat.le_of_ble_eq_true rfl, row_low rfl, ⟨⟨_, rfl, .of_eq rfl⟩, Nat.le_of_ble_eq_true rfl, row_low rfl, ⟨⟨_, rfl, .of_eq rfl⟩, Nat.le_of_ble_eq_true rfl, row_low rfl, ⟨⟨_, rfl, .of_eq rfl⟩, Nat.le_of_ble_eq_true rfl, row_low rfl, (zO (zO ⟨⟨_, rfl, .of_eq rfl⟩, Nat.le_of_ble_eq_true rfl, row_low rfl, ⟨⟨_, rfl, .of_eq rfl⟩, Nat.le_of_ble_eq_true rfl, row_low rfl, trivial⟩⟩))⟩⟩⟩⟩⟩⟩⟩) ?_)
 refine gA rfl (go_bcall (asv := [exA, pI 1]) (d13P hS) rfl rfl rfl rfl rfl (fun M N w hr => fzP nP [pI 1] rfl hr rfl rfl rfl rfl rfl rfl rfl) rfl (bare1 rfl) rfl ?_)
 refine gM 6 rfl (go_wk [] (t := ⟨[(1, .ptr 7 0), (2, .ptr 8 0), (3, .sl 9 0 2 1), (4, .sl 10 0 1 1), (5, .sl 11 0 2 2), (6, pI 0)], [(0, some (.row 7 exR0)), (1, some (.row 5 exR1)), (2, some (.row 30 (exR2 nP))), (3, some (.row 5 exR3)), (4, some (.row 1 exR4)), (5, some (.row 4 exR5)), (6, some (.row 5 exR6)), (7, some exC), (8, some (.cells [pI 0, pI 0, pI 0])), (9, some (.row 1 [[pS nX], [pS nY]])), (10, some (.row 1 [[pS nX]])), (11, some (.row 2 [[pS nX, pI 1], [pS nY, pI 1]]))], 12⟩) (zW ⟨⟨_, rfl, .of_eq rfl⟩, Nat.le_of_ble_eq_true rfl, row_low rfl, ⟨⟨_, rfl, .of_eq rfl⟩, Nat.le_of_ble_eq_true rfl, row_low rfl, ⟨⟨_, rfl, .of_eq rfl⟩, Nat.le_of_ble_eq_true rfl, row_low rfl, ⟨⟨_, rfl, .of_eq rfl⟩, Nat.le_of_ble_eq_true rfl, row_low rfl, ⟨⟨_, rfl, .of_eq rfl⟩, Nat.le_of_ble_eq_true rfl, row_low rfl, ⟨⟨_, rfl, .of_eq rfl⟩, Nat.le_of_ble_eq_true rfl, row_low rfl, ⟨⟨_, rfl, .of_eq rfl⟩, Nat.le_of_ble_eq_true rfl, row_low rfl, (zO (zO ⟨⟨_, rfl, .of_eq rfl⟩, Nat.le_of_ble_eq_true rfl, row_low rfl, ⟨⟨_, rfl, .of_eq rfl⟩, Nat.le_of_ble_eq_true rfl, row_low rfl, ⟨⟨_, rfl, .of_eq rfl⟩, Nat.le_of_ble_eq_true rfl, row_low rfl, trivial⟩⟩⟩))⟩⟩⟩⟩⟩⟩⟩) ?_)
 iterate 10
  refine gA rfl (zI (fun q => ?_) (fun q => ?_))
  all_goals (try exact absurd q (by decide +kernel))
 refine gM 1 rfl (go_wk [] (t := ⟨[(1, .ptr 7 0)], [(0, some (.row 7 exR0)), (1, some (.row 5 exR1)), (2, some (.row 30 (exR2 nP))), (3, some (.row 5 exR3)), (4, some (.row 1 exR4)), (5, some (.row 4 exR5)), (6, some (.row 5 exR6)), (7, some exC)], 12⟩) (zW ⟨⟨_, rfl, .of_eq rfl⟩, Nat.le_of_ble_eq_true rfl, row_low rfl, ⟨⟨_, rfl, .of_eq rfl⟩, Nat.le_of_ble_eq_true rfl, row_low rfl, ⟨⟨_, rfl, .of_eq rfl⟩, Nat.le_of_ble_eq_true rfl, row_low rfl, ⟨⟨_, rfl, .of_eq rfl⟩, Nat.le_of_ble_eq_true rfl, row_low rfl, ⟨⟨_, rfl, .of_eq rfl⟩, Nat.le_of_ble_eq_true rfl, row_low rfl, ⟨⟨_, rfl, .of_eq rfl⟩, Nat.le_of_ble_eq_true rfl, row_low rfl, ⟨⟨_, rfl, .of_eq rfl⟩, Nat.le_of_ble_eq_true rfl, row_low rfl, (zO trivial)⟩⟩⟩⟩⟩⟩⟩) ?_)
 refine gA rfl (go_storeRow tyA_ok rfl rfl rfl rfl rfl (i := 2) (sz := 30) (q := 0) (off := 1) (es := exR2 nP) rfl rfl rfl rfl rfl rfl rfl rfl ?_)
 refine gM 1 rfl (go_wk [] (t := ⟨[(1, .ptr 7 0)], [(0, some (.row 7 exR0)), (1, some (.row 5 exR1)), (2, some (.row 30 (exR2 nQ))), (3, some (.row 5 exR3)), (4, some (.row 1 exR4)), (5, some (.row 4 exR5)), (6, some (.row 5 exR6)), (7, some exC)], 12⟩) (zW ⟨⟨_, rfl, .of_eq rfl⟩, Nat.le_of_ble_eq_true rfl, row_low rfl, ⟨⟨_, rfl, .of_eq rfl⟩, Nat.le_of_ble_eq_true rfl, row_low rfl, ⟨⟨_, rfl, .of_eq rfl⟩, Nat.le_of_ble_eq_true rfl, row_low rfl, ⟨⟨_, rfl, .of_eq rfl⟩, Nat.le_of_ble_eq_true rfl, row_low rfl, ⟨⟨_, rfl, .of_eq rfl⟩, Nat.le_of_ble_eq_true rfl, row_low rfl, ⟨⟨_, rfl, .of_eq rfl⟩, Nat.le_of_ble_eq_true rfl, row_low rfl, ⟨⟨_, rfl, .of_eq rfl⟩, Nat.le_of_ble_eq_true rfl, row_low rfl, (zO trivial)⟩⟩⟩⟩⟩⟩⟩) ?_)
 refine gA rfl (go_bcall (asv := [exA]) c24Q rfl rfl rfl rfl rfl (fun M N w hr => fzP nQ [] rfl hr rfl rfl rfl rfl rfl rfl rfl) rfl (fun j o hj => nomatch hj) rfl ?_)
 refine gM 3 rfl (go_wk [] (t := ⟨[(1, .ptr 7 0), (7, .ptr 12 0)], [(0, some (.row 7 exR0)), (1, some (.row 5 exR1)), (2, some (.row 30 (exR2 nQ))), (3, some (.row 5 exR3)), (4, some (.row 1 exR4)), (5, some (.row 4 exR5)), (6, some (.row 5 exR6)), (7, some exC), (12, some (.cells [pI 61, pI 1, pI 26]))], 13⟩) (zW ⟨⟨_, rfl, .of_eq rfl⟩, Nat.le_of_ble_eq_true rfl, row_low rfl, ⟨⟨_, rfl, .of_eq rfl⟩, Nat.le_of_ble_eq_true rfl, row_low rfl, ⟨⟨_, rfl, .of_eq rfl⟩, Nat.le_of_ble_eq_true rfl, row_low rfl, ⟨⟨_, rfl, .of_eq rfl⟩, Nat.le_of_ble_eq_true rfl, row_low rfl, ⟨⟨_, rfl, .of_eq rfl⟩, Nat.le_of_ble_eq_true rfl, row_low rfl, ⟨⟨_, rfl, .of_eq rfl⟩, Nat.le_of_ble_eq_true rfl, row_low rfl, ⟨⟨_, rfl, .of_eq rfl⟩, Nat.le_of_ble_eq_true rfl, row_low rfl, (zO (zO trivial))⟩⟩⟩⟩⟩⟩⟩) ?_)
 refine gA rfl (zdp (c44 1) ?_)
 refine gA rfl (go_dbcall (asv := [exA, (.agg [pS ⟨#[112]⟩, .sl 13 0 1 3])]) c16Q rfl rfl rfl rfl rfl (fun M N w hr => fzX nQ 13 3 exLF (.agg [pS ⟨#[112]⟩, .sl 13 0 1 3]) exFact.c (rowRB_ok rfl) fact_le hr rfl rfl rfl (rowRB_ok rfl) rfl rfl rfl rfl rfl rfl rfl) rfl (fun j o hj => nomatch hj) rfl rfl rfl rfl rfl (by (repeat' (first | exact trivial | exact rfl | exact PVle.refl _ | exact PVle.bk (by assumption) | apply And.intro)) <;> first | omega | (simp only [Int.toNat_natCast]; omega) | (simp; done) | (simp; omega)) rfl (by (repeat' (first | exact trivial | exact rfl | exact PVle.refl _ | exact PVle.bk (by assumption) | apply And.intro)) <;> first | omega | (simp only [Int.toNat_natCast]; omega) | (simp; done) | (simp; omega)) ?_)
 refine gM 2 rfl (go_wk [] (t := ⟨[(1, .ptr 7 0), (7, .ptr 12 0), (8, pI 0)], [(0, some (.row 7 exR0)), (1, some (.row 5 exR1)), (2, some (.row 30 (exR2 nQ))), (3, some (.row 5 exR3)), (4, some (.row 1 exR4)), (5, some (.row 4 exR5)), (6, some (.row 5 exR6)), (7, some exC), (12, some (.cells [pI 61, pI 1, pI 26]))], 14⟩) (zW ⟨⟨_, rfl, .of_eq rfl⟩, Nat.le_of_ble_eq_true rfl, row_low rfl, ⟨⟨_, rfl, .of_eq rfl⟩, Nat.le_of_ble_eq_true rfl, row_low rfl, ⟨⟨_, rfl, .of_eq rfl⟩, Nat.le_of_ble_eq_true rfl, row_low rfl, ⟨⟨_, rfl, .of_eq rfl⟩, Nat.le_of_ble_eq_true rfl, row_low rfl, ⟨⟨_, rfl, .of_eq rfl⟩, Nat.le_of_ble_eq_true rfl, row_low rfl, ⟨⟨_, rfl, .of_eq rfl⟩, Nat.le_of_ble_eq_true rfl, row_low rfl, ⟨⟨_, rfl, .of_eq rfl⟩, Nat.le_of_ble_eq_true rfl, row_low rfl, (zO (zO trivial))⟩⟩⟩⟩⟩⟩⟩) ?_)
 refine gA rfl (zdp (c40 nX) ?_)
 refine gA rfl (go_dbcall (asv := [exA, (.agg [pS ⟨#[112]⟩, .sl 14 0 1 5])]) c21Q rfl rfl rfl rfl rfl (fun M N w hr => fzX nQ 14 5 exLG (.agg [pS ⟨#[112]⟩, .sl 14 0 1 5]) exGoal.c (rowRB_ok rfl) goal_le hr rfl rfl rfl (rowRB_ok rfl) rfl rfl rfl rfl rfl rfl rfl) rfl (fun j o hj => nomatch hj) rfl rfl rfl rfl rfl (by (repeat' (first | exact trivial | exact rfl | exact PVle.refl _ | exact PVle.bk (by assumption) | apply And.intro)) <;> first | omega | (simp only [Int.toNat_natCast]; omega) | (simp; done) | (simp; omega)) rfl (by (repeat' (first | exact trivial | exact rfl | exact PVle.refl _ | exact PVle.bk (by assumption) | apply And.intro)) <;> first | omega | (simp only [Int.toNat_natCast]; omega) | (simp; done) | (simp; omega)) ?_)
 iterate 4
  refine gA rfl (zI (fun q => ?_) (fun q => ?_))
  all_goals (try exact absurd q (by decide +kernel))
 refine gA rfl (zL (.of_eq ?_))
 rfl
end Go.Proofs.YtpnclpbkecjinaaGreatDoorR
namespace Go.Proofs.YtpnclpbkecjinaaGreatDoorR
open Go Go.Al
theorem known_ok : Pure Tryz.prog 11 [] (pB true) := c11 sortS
end Go.Proofs.YtpnclpbkecjinaaGreatDoorR
namespace Go.Proofs.YtpnclpbkecjinaaGreatDoorR
open Go Go.Al
set_option maxRecDepth 10000
theorem cells3 : Tryz.prog.cellsOf 3 = 1 := by kernel_rfl
theorem cells9 : Tryz.prog.cellsOf 9 = 1 := by kernel_rfl
theorem cells69 : Tryz.prog.cellsOf 69 = 3 := by kernel_rfl
theorem cells79 : Tryz.prog.cellsOf 79 = 5 := by kernel_rfl
theorem cells45 : Tryz.prog.cellsOf 45 = 1 := by kernel_rfl
theorem cells47 : Tryz.prog.cellsOf 47 = 2 := by kernel_rfl
theorem cells70 : Tryz.prog.cellsOf 70 = 1 := by kernel_rfl
theorem cells72 : Tryz.prog.cellsOf 72 = 7 := by kernel_rfl
theorem cells74 : Tryz.prog.cellsOf 74 = 10 := by kernel_rfl
theorem cells59 : Tryz.prog.cellsOf 59 = 1 := by kernel_rfl
theorem cells76 : Tryz.prog.cellsOf 76 = 30 := by kernel_rfl
theorem cells53 : Tryz.prog.cellsOf 53 = 2 := by kernel_rfl
theorem cells61 : Tryz.prog.cellsOf 61 = 5 := by kernel_rfl
theorem cells90 : Tryz.prog.cellsOf 90 = 1 := by kernel_rfl
theorem cells116 : Tryz.prog.cellsOf 116 = 4 := by kernel_rfl
theorem cells22 : Tryz.prog.cellsOf 22 = 1 := by kernel_rfl
theorem cells23 : Tryz.prog.cellsOf 23 = 1 := by kernel_rfl
theorem cells25 : Tryz.prog.cellsOf 25 = 2 := by kernel_rfl
section
variable {H : Type}
abbrev bk (d : DataW H) : Nat := Rows.uptoBulk d
theorem bk_pos (d : DataW H) : 1 ≤ bk d := by
 cases d with
 | lit l => cases l <;> simp [bk, Rows.uptoBulk]
 | nil => simp [bk, Rows.uptoBulk]
 | ptr d => simp [bk, Rows.uptoBulk]
 | slice elems spare => simp [bk, Rows.uptoBulk]
 | agg parts => simp [bk, Rows.uptoBulk]
 | iface t d => simp [bk, Rows.uptoBulk]
 | map entries => simp [bk, Rows.uptoBulk]
 | held h => simp [bk, Rows.uptoBulk]
theorem bk_str (s : ByteArray) : bk (DataW.lit (H := H) (.string s.data.toList)) = s.size + 1 := by
 simp [bk, Rows.uptoBulk]
theorem _root_.Go.Al.QL.sum {α : Type} {Q : α → DataW H → Prop} {l : List α} {d : DataW H} (h : QL Q l d) {f : α → Nat} {c : Nat} (hf : ∀ x e, Q x e → f x ≤ c * bk e) : (l.map f).sum ≤ c * bk d := by
 obtain ⟨el, hd, hlen, hq⟩ := h
 have key : ∀ (l : List α) (el : List (DataW H)), l.length = el.length → (∀ (i : Nat) (x : α) (e : DataW H), l[i]? = some x → el[i]? = some e → Q x e) → (l.map f).sum ≤ c * Rows.uptoBulkAll el := by
  intro l
  induction l with
  | nil => intro el _ _; simp
  | cons x r ih =>
   intro el hl hq
   cases el with
   | nil => simp at hl
   | cons e el =>
    have h1 := hf x e (hq 0 x e rfl rfl)
    have h2 := ih el (by simpa using hl) fun i x e hx he => hq (i + 1) x e (by simpa using hx) (by simpa using he)
    simp only [List.map_cons, List.sum_cons, Rows.uptoBulkAll, Nat.mul_add]
    simp only [bk] at h1
    omega
 have h1 := key l el hlen hq
 rcases hd with ⟨rfl, rfl⟩ | ⟨sp, rfl⟩
 ·simp [Rows.uptoBulkAll] at h1; omega
 ·refine Nat.le_trans h1 (Nat.mul_le_mul_left c ?_)
  simp only [bk, Rows.uptoBulk]; omega
theorem sum_ones {α : Type} : ∀ l : List α, (l.map fun _ => 1).sum = l.length
 | [] => rfl
 | x :: r => by simp only [List.map_cons, List.sum_cons, List.length_cons, sum_ones r]; omega
theorem _root_.Go.Al.QL.len {α : Type} {Q : α → DataW H → Prop} {l : List α} {d : DataW H} (h : QL Q l d) : l.length ≤ bk d := by
 have := h.sum (f := fun _ => 1) (c := 1) fun x e _ => by have := bk_pos e; omega
 have e := sum_ones l
 omega
theorem _root_.Go.Al.QL.all {α : Type} {Q : α → DataW H → Prop} {l : List α} {d : DataW H} (h : QL Q l d) : ∀ x ∈ l, ∃ e, Q x e ∧ bk e ≤ bk d := by
 intro x hx
 obtain ⟨el, hd, hlen, hq⟩ := h
 obtain ⟨i, hi, rfl⟩ := List.mem_iff_getElem.1 hx
 have hie : i < el.length := by omega
 refine ⟨el[i], hq i _ _ (List.getElem?_eq_getElem hi) (List.getElem?_eq_getElem hie), ?_⟩
 have key : ∀ (el : List (DataW H)), ∀ e ∈ el, bk e ≤ Rows.uptoBulkAll el := by
  intro el
  induction el with
  | nil => intro e he; cases he
  | cons y r ih =>
   intro e he
   simp only [Rows.uptoBulkAll]
   rcases List.mem_cons.1 he with rfl | he
   ·simp only [bk]; omega
   ·have := ih e he; omega
 have h1 := key el el[i] (List.getElem_mem hie)
 rcases hd with ⟨rfl, rfl⟩ | ⟨sp, rfl⟩
 ·simp at hie
 ·refine Nat.le_trans h1 ?_
  simp only [bk, Rows.uptoBulk]; omega
end
theorem Expr.sizes_sum : ∀ l : List Expr, Expr.sizes l = (l.map Expr.size).sum
 | [] => rfl
 | e :: r => by simp only [Expr.sizes, List.map_cons, List.sum_cons, Expr.sizes_sum r]
theorem Expr.tss_sum : ∀ l : List Expr, Expr.tss l = (l.map Expr.ts).sum
 | [] => rfl
 | e :: r => by simp only [Expr.tss, List.map_cons, List.sum_cons, Expr.tss_sum r]
theorem Lit.sizes_sum : ∀ l : List Lit, Lit.sizes l = (l.map Lit.size).sum
 | [] => rfl
 | e :: r => by simp only [Lit.sizes, List.map_cons, List.sum_cons, Lit.sizes_sum r]
theorem Lit.tss_sum : ∀ l : List Lit, Lit.tss l = (l.map Lit.ts).sum
 | [] => rfl
 | e :: r => by simp only [Lit.tss, List.map_cons, List.sum_cons, Lit.tss_sum r]
section
variable {H : Type} {enc : TypeId × Value → H} {W : World} {hT : TabOK W} {sp : Nat → Bool} {held : Bool}
def QV (v : Val) (d : DataW H) : Prop := v.sym.size ≤ bk d
def QT (t : Term) (d : DataW H) : Prop := t.ts ≤ 400 * bk d
def QA (a : Atom) (d : DataW H) : Prop := a.ts ≤ 400 * bk d ∧ a.terms.length ≤ bk d
def QE (e : Expr) (d : DataW H) : Prop := e.ts ≤ 400 * bk d ∧ e.size ≤ bk d
def QP (_ : Pos) (_ : DataW H) : Prop := True
def Pos.c (p : Pos) : List IV := [iI p.line, iI p.col]
def QG (g : Agg) (d : DataW H) : Prop := g.var.size + g.of_.ts + Lit.tss g.body ≤ 400 * bk d ∧ g.of_.size + Lit.sizes g.body ≤ bk d
def QB (l : Lit) (d : DataW H) : Prop := l.ts ≤ 400 * bk d ∧ l.size ≤ bk d
theorem rd_val (n : Nat) : Rd enc Tryz.prog W hT sp held 69 Val.c QV n := by
 intro m _ cs y h
 obtain ⟨xs, k, rfl, rfl, hl, hx, hf⟩ := DataW.trod_struct Tryz.underlying69 h
 match xs, hx with
 | [x0, x1, x2], _ =>
  obtain ⟨a, ca, qa, _⟩ := rd_int (hT := hT) Tryz.underlying3 k k (Nat.le_refl _) _ _ (fld hf 0 rfl rfl rfl cells3 rfl)
  obtain ⟨b, cb, qb, _⟩ := rd_int (hT := hT) Tryz.underlying3 k k (Nat.le_refl _) _ _ (fld hf 1 rfl rfl rfl cells3 rfl)
  obtain ⟨c, cc, qc, _⟩ := rd_string (hT := hT) Tryz.underlying9 k k (Nat.le_refl _) _ _ (fld hf 2 rfl rfl rfl cells9 rfl)
  refine ⟨⟨a, b, c⟩, ca.tile (o' := 1) rfl (cb.tile (o' := 2) rfl (cc.tile (o' := 3) rfl (.end_ (hl.trans cells69)))), ?_⟩
  simp only [QV, bk, List.map_cons, List.map_nil, Rows.uptoBulk, Rows.uptoBulkAll]
  have := bk_str (H := H) c
  rw [← qc] at this
  simp only [bk] at this
  omega
theorem rd_pos (n : Nat) : Rd enc Tryz.prog W hT sp held 53 Pos.c QP n := by
 intro m _ cs y h
 obtain ⟨xs, k, rfl, rfl, hl, hx, hf⟩ := DataW.trod_struct Tryz.underlying53 h
 match xs, hx with
 | [x0, x1], _ =>
  obtain ⟨a, ca, qa, _⟩ := rd_int (hT := hT) Tryz.underlying3 k k (Nat.le_refl _) _ _ (fld hf 0 rfl rfl rfl cells3 rfl)
  obtain ⟨b, cb, qb, _⟩ := rd_int (hT := hT) Tryz.underlying3 k k (Nat.le_refl _) _ _ (fld hf 1 rfl rfl rfl cells3 rfl)
  exact ⟨⟨a, b⟩, ca.tile (o' := 1) rfl (cb.tile (o' := 2) rfl (.end_ (hl.trans cells53))), trivial⟩
theorem rd_term (n : Nat) : Rd enc Tryz.prog W hT sp held 79 Term.c QT n := by
 intro m _ cs y h
 obtain ⟨xs, k, rfl, rfl, hl, hx, hf⟩ := DataW.trod_struct Tryz.underlying79 h
 match xs, hx with
 | [x0, x1, x2], _ =>
  obtain ⟨a, ca, qa, _⟩ := rd_int (hT := hT) Tryz.underlying3 k k (Nat.le_refl _) _ _ (fld hf 0 rfl rfl rfl cells3 rfl)
  obtain ⟨b, cb, qb, _⟩ := rd_string (hT := hT) Tryz.underlying9 k k (Nat.le_refl _) _ _ (fld hf 1 rfl rfl rfl cells9 rfl)
  obtain ⟨c, cc, qc⟩ := rd_val (hT := hT) k k (Nat.le_refl _) _ _ (fld hf 2 rfl rfl rfl cells69 rfl)
  refine ⟨⟨a, b, c⟩, ca.tile (o' := 1) rfl (cb.tile (o' := 2) rfl (cc.tile (o' := 5) rfl (.end_ (hl.trans cells79)))), ?_⟩
  simp only [QT, Term.ts, bk, List.map_cons, List.map_nil, Rows.uptoBulk, Rows.uptoBulkAll]
  have := bk_str (H := H) b
  rw [← qb] at this
  simp only [bk] at this
  omega
theorem rd_atom (n : Nat) : Rd enc Tryz.prog W hT sp held 47 Atom.c QA n := by
 intro m _ cs y h
 obtain ⟨xs, k, rfl, rfl, hl, hx, hf⟩ := DataW.trod_struct Tryz.underlying47 h
 match xs, hx with
 | [x0, x1], _ =>
  obtain ⟨a, ca, qa, _⟩ := rd_string (hT := hT) Tryz.underlying9 k k (Nat.le_refl _) _ _ (fld hf 0 rfl rfl rfl cells9 rfl)
  obtain ⟨b, cb, qb⟩ := (rd_slice (hT := hT) Tryz.underlying45 cells79 (by decide) (fun _ => rfl) (rd_term k)).mono (Nat.le_succ k) k (Nat.le_refl _) _ _ (fld hf 1 rfl rfl rfl cells45 rfl)
  refine ⟨⟨a, b⟩, ca.tile (o' := 1) rfl (cb.tile (o' := 2) rfl (.end_ (hl.trans cells47))), ?_⟩
  have h1 := bk_str (H := H) a
  rw [← qa] at h1
  have h2 := qb.sum (f := Term.ts) (c := 400) fun _ _ h => h
  have h3 := qb.len
  simp only [bk] at h1 h2 h3
  simp only [QA, Atom.ts, bk, List.map_cons, List.map_nil, Rows.uptoBulk, Rows.uptoBulkAll]
  omega
theorem rd_expr : ∀ n : Nat, Rd enc Tryz.prog W hT sp held 72 Expr.c QE n
 | 0 => fun m hm cs y h => by
  obtain rfl : m = 0 := by omega
  simp [DataW.trod] at h
 | n + 1 => fun m hm cs y h => by
  obtain ⟨xs, k, rfl, rfl, hl, hx, hf⟩ := DataW.trod_struct Tryz.underlying72 h
  have hs := rd_slice (hT := hT) Tryz.underlying70 cells72 (by decide) (fun _ => rfl) (rd_expr n)
  match xs, hx with
  | [x0, x1, x2, x3, x4], _ =>
   obtain ⟨a, ca, qa, _⟩ := rd_int (hT := hT) Tryz.underlying3 k k (Nat.le_refl _) _ _ (fld hf 0 rfl rfl rfl cells3 rfl)
   obtain ⟨b, cb, qb, _⟩ := rd_string (hT := hT) Tryz.underlying9 k k (Nat.le_refl _) _ _ (fld hf 1 rfl rfl rfl cells9 rfl)
   obtain ⟨c, cc, qc⟩ := rd_val (hT := hT) k k (Nat.le_refl _) _ _ (fld hf 2 rfl rfl rfl cells69 rfl)
   obtain ⟨d, cd, qd, _⟩ := rd_int (hT := hT) Tryz.underlying3 k k (Nat.le_refl _) _ _ (fld hf 3 rfl rfl rfl cells3 rfl)
   obtain ⟨e, ce, qe⟩ := hs k (by omega) _ _ (fld hf 4 rfl rfl rfl cells70 rfl)
   refine ⟨.mk a b c d e, ca.tile (o' := 1) rfl (cb.tile (o' := 2) rfl (cc.tile (o' := 5) rfl (cd.tile (o' := 6) rfl ((ce.le1 (eargsL' (.mk a b c d e))).tile (o' := 7) rfl (.end_ (hl.trans cells72)))))), ?_⟩
   have h1 := bk_str (H := H) b
   rw [← qb] at h1
   have h2 := qe.sum (f := Expr.ts) (c := 400) fun _ _ h => h.1
   have h3 := qe.sum (f := Expr.size) (c := 1) fun _ _ h => by have := h.2; omega
   rw [← Expr.tss_sum] at h2
   rw [← Expr.sizes_sum] at h3
   simp only [bk] at h1 h2 h3
   simp only [QE, Expr.ts, Expr.size, bk, List.map_cons, List.map_nil, Rows.uptoBulk, Rows.uptoBulkAll]
   omega
theorem rd_agg {n : Nat} (hb : Rd enc Tryz.prog W hT sp held 59 (fun l : List Lit => [slc 30 l Lit.c]) (QL QB) n) : Rd enc Tryz.prog W hT sp held 74 Agg.c QG (n + 1) := by
 intro m hm cs y h
 obtain ⟨xs, k, rfl, rfl, hl, hx, hf⟩ := DataW.trod_struct Tryz.underlying74 h
 match xs, hx with
 | [x0, x1, x2, x3], _ =>
  obtain ⟨a, ca, qa, _⟩ := rd_int (hT := hT) Tryz.underlying3 k k (Nat.le_refl _) _ _ (fld hf 0 rfl rfl rfl cells3 rfl)
  obtain ⟨b, cb, qb, _⟩ := rd_string (hT := hT) Tryz.underlying9 k k (Nat.le_refl _) _ _ (fld hf 1 rfl rfl rfl cells9 rfl)
  obtain ⟨c, cc, qc⟩ := rd_expr (hT := hT) k k (Nat.le_refl _) _ _ (fld hf 2 rfl rfl rfl cells72 rfl)
  obtain ⟨d, cd, qd⟩ := hb k (by omega) _ _ (fld hf 3 rfl rfl rfl cells59 rfl)
  refine ⟨⟨a, b, c, d⟩, ca.tile (o' := 1) rfl (cb.tile (o' := 2) rfl (cc.tile (o' := 9) rfl ((cd.le1 (litsIR d)).tile (o' := 10) rfl (.end_ (hl.trans cells74))))), ?_⟩
  have h1 := bk_str (H := H) b
  rw [← qb] at h1
  have h2 := qd.sum (f := Lit.ts) (c := 400) fun _ _ h => h.1
  have h3 := qd.sum (f := Lit.size) (c := 1) fun _ _ h => by have := h.2; omega
  rw [← Lit.tss_sum] at h2
  rw [← Lit.sizes_sum] at h3
  obtain ⟨h4, h5⟩ := qc
  simp only [bk] at h1 h2 h3 h4 h5
  simp only [QG, bk, List.map_cons, List.map_nil, Rows.uptoBulk, Rows.uptoBulkAll]
  omega
theorem rd_lit : ∀ n : Nat, Rd enc Tryz.prog W hT sp held 76 Lit.c QB n
 | 0 => fun m hm cs y h => by
  obtain rfl : m = 0 := by omega
  simp [DataW.trod] at h
 | n + 1 => fun m hm cs y h => by
  obtain ⟨xs, k, rfl, rfl, hl, hx, hf⟩ := DataW.trod_struct Tryz.underlying76 h
  have hs := rd_agg (rd_slice (hT := hT) Tryz.underlying59 cells76 (by decide) (fun _ => rfl) (rd_lit n))
  match xs, hx with
  | [x0, x1, x2, x3, x4, x5, x6], _ =>
   obtain ⟨a, ca, qa, _⟩ := rd_int (hT := hT) Tryz.underlying3 k k (Nat.le_refl _) _ _ (fld hf 0 rfl rfl rfl cells3 rfl)
   obtain ⟨b, cb, qb⟩ := rd_atom (hT := hT) k k (Nat.le_refl _) _ _ (fld hf 1 rfl rfl rfl cells47 rfl)
   obtain ⟨c, cc, qc, _⟩ := rd_int (hT := hT) Tryz.underlying3 k k (Nat.le_refl _) _ _ (fld hf 2 rfl rfl rfl cells3 rfl)
   obtain ⟨d, cd, qd⟩ := rd_expr (hT := hT) k k (Nat.le_refl _) _ _ (fld hf 3 rfl rfl rfl cells72 rfl)
   obtain ⟨e, ce, qe⟩ := rd_expr (hT := hT) k k (Nat.le_refl _) _ _ (fld hf 4 rfl rfl rfl cells72 rfl)
   obtain ⟨g, cg, qg⟩ := hs k (by omega) _ _ (fld hf 5 rfl rfl rfl cells74 rfl)
   obtain ⟨p, cp, _⟩ := rd_pos (hT := hT) k k (Nat.le_refl _) _ _ (fld hf 6 rfl rfl rfl cells53 rfl)
   refine ⟨.mk a b c d e g.func g.var g.of_ g.body p, ca.tile (o' := 1) rfl (cb.tile (o' := 3) rfl (cc.tile (o' := 4) rfl (cd.tile (o' := 11) rfl (ce.tile (o' := 18) rfl (cg.tile (o' := 28) rfl (cp.tile (o' := 30) rfl (.end_ (hl.trans cells76)))))))), ?_⟩
   obtain ⟨h1, h2⟩ := qb
   obtain ⟨h3, h4⟩ := qd
   obtain ⟨h5, h6⟩ := qe
   obtain ⟨h7, h8⟩ := qg
   have h9 := bk_pos x0.1
   have h10 := bk_pos x2.1
   simp only [bk] at h1 h2 h3 h4 h5 h6 h7 h8 h9 h10
   simp only [QB, Lit.ts, Lit.size, bk, List.map_cons, List.map_nil, Rows.uptoBulk, Rows.uptoBulkAll]
   omega
theorem rd_lits (n : Nat) : Rd enc Tryz.prog W hT sp held 59 (fun l : List Lit => [lits l]) (QL QB) n :=
 (rd_slice (hT := hT) Tryz.underlying59 cells76 (by decide) (fun _ => rfl) (rd_lit n)).mono (Nat.le_succ n)
end
end Go.Proofs.YtpnclpbkecjinaaGreatDoorR
