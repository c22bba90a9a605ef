/-
  What the proofs of the claims need: XHf, XFl. Part 7 of 7.
-/
import Derived.Test.YtpnclpbkecjinaaGreatDoorRPart6
namespace Go.Proofs.YtpnclpbkecjinaaGreatDoorR
open Go Go.Al
set_option maxRecDepth 10000
theorem c237 (e : Expr) : Pure Tryz.prog 237 [ag e.c] (pI (bindsR e)) := by
 refine pure_end tyA_ok Tryz.func237 rfl (by decide) Tryz.ntmps237 rfl (by simp) rfl ?_
 repeat' (first | (refine gA rfl (zI (fun _ => ?_) (fun _ => ?_))) | (refine gA rfl (zL (.of_eq ?_))))
 all_goals (refine congrArg pI ?_; simp_all [bindsR])
theorem c238 (op : Int) : Pure Tryz.prog 238 [pI op] (pS (signR op)) := by
 refine pure_end tyA_ok Tryz.func238 rfl (by decide) Tryz.ntmps238 rfl (by simp) rfl ?_
 repeat' (first | (refine gA rfl (zI (fun _ => ?_) (fun _ => ?_))) | (refine gA rfl (zL (.of_eq ?_))))
 all_goals (refine congrArg pS ?_; simp_all [signR])
theorem headT_bad {e : Expr} {b : Bool} {k : Txt} (h12 : ¬ (e.kind = 1 ∨ e.kind = 2)) (h : ¬ e.kind = 4 ∨ b = true ∨ ¬ e.var = ⟨#[]⟩ ∨ zValB e.val = false ∨ e.op < 1 ∨ e.op > 6) : headT e b k = badT := by
 unfold headT; rw [if_neg h12, if_pos h]
theorem headT_leaf {e : Expr} {b : Bool} {k : Txt} (h12 : e.kind = 1 ∨ e.kind = 2) : headT e b k = ((plainT e.kind e.var e.val).1, (plainT e.kind e.var e.val).2 || (b || (!decide (e.op = 0) || decide ((e.args.length : Int) > 0)))) := by
 unfold headT; rw [if_pos h12]; rfl
theorem headT_oper {e : Expr} {k : Txt} (h4 : e.kind = 4) (h : e.var = ⟨#[]⟩) (hz : zValB e.val = true) (h1 : ¬ e.op < 1) (h6 : ¬ e.op > 6) : headT e false k = k := by
 unfold headT
 rw [if_neg (by omega), if_neg]
 rintro (g | g | g | g | g | g)
 ·exact g h4
 ·cases g
 ·exact g h
 ·rw [hz] at g; cases g
 ·exact h1 g
 ·exact h6 g
theorem exprT_low {e : Expr} {n : Nat} (hn : n ≤ 1) (h12 : ¬ (e.kind = 1 ∨ e.kind = 2)) : exprT n e = badT := by
 have hk : ∀ b, headT e b badT = badT := fun b => by
  unfold headT
  rw [if_neg h12]
  split <;> rfl
 match n, hn with
 | 0, _ => exact hk true
 | 1, _ => exact hk false
theorem exprT_leaf {e : Expr} {n : Nat} (h12 : e.kind = 1 ∨ e.kind = 2) : exprT n e = ((plainT e.kind e.var e.val).1, (plainT e.kind e.var e.val).2 || (decide (n = 0) || (!decide (e.op = 0) || decide ((e.args.length : Int) > 0)))) := by
 match n with
 | 0 => exact headT_leaf h12
 | 1 => exact headT_leaf h12
 | m + 2 => exact headT_leaf h12
theorem badT_le : PVle (.agg [pS ByteArray.empty, .kb true]) (ag badT.c) := .agg ⟨.of_eq rfl, .kb' rfl, trivial⟩
def PT (n : Nat) : Prop := ∀ (d : Int) (e : Expr), d = (n : Int) - 1 → e.ts ≤ 900000000 → Pure Tryz.prog 231 [ag e.c, pI d] (ag (exprT n e).c)
theorem c236 (n : Nat) (hn : n ≤ 1000) (hA : PT (n + 1)) (hB : PT n) (must : Bool) (d : Int) (hd : d = n) (a : Expr) (hts : a.ts ≤ 900000000) : Pure Tryz.prog 236 [ag a.c, pB must, pI d] (ag (argT n must a).c) := by
 have h0 := exprT_len n a
 have e1 : (⟨#[40]⟩ : ByteArray).size = 1 := rfl
 have e2 : (⟨#[41]⟩ : ByteArray).size = 1 := rfl
 have e3 : ((⟨#[40]⟩ : ByteArray) ++ (exprT n a).1).size = (⟨#[40]⟩ : ByteArray).size + (exprT n a).1.size := ByteArray.size_append
 have hdn : decide (d < 1) = decide (n < 1) := decide_eq_decide.2 (by omega)
 refine pure_end tyA_ok Tryz.func236 rfl (by decide) Tryz.ntmps236 rfl (by simp) rfl ?_
 refine gA rfl (zI (fun g => ?_) fun g => ?_)
 ·have g : must = false := by simpa using g
  rw [argT, if_neg (by rw [g]; decide)]
  refine gA rfl (zp (hA d a (by omega) hts) ?_)
  refine gA rfl (zL (.of_eq ?_))
  rfl
 ·have g : must = true := by simpa using g
  rw [argT, if_pos g]
  refine gA rfl (zp (hB (d - 1) a (by omega) hts) ?_)
  refine gA rfl (zI (fun q => ?_) fun q => ?_)
  ·have q : (exprT n a).2 = false := q
   refine gA rfl (zL ?_)
   exact .agg ⟨.refl _, .of_eq (pBE (by rw [q, hdn]; rfl)), trivial⟩
  ·have q : (exprT n a).2 = true := by simpa using q
   refine gA rfl (zL ?_)
   rw [q]
   first
    | exact .agg ⟨.refl _, .of_eq (pBE (by first | rfl | rw [q]; rfl)), trivial⟩
    | exact .agg ⟨.refl _, .kb' (by first | rfl | rw [q]; rfl), trivial⟩
theorem PT_leaf (n : Nat) (d : Int) (e : Expr) (hd : d = (n : Int) - 1) (h12 : e.kind = 1 ∨ e.kind = 2) (hts : e.ts ≤ 900000000) : Pure Tryz.prog 231 [ag e.c, pI d] (ag (exprT n e).c) := by
 have h0 := e.ts_eq
 have hdn : decide (n = 0) = decide (d < 0) := decide_eq_decide.2 (by omega)
 rw [exprT_leaf h12, hdn]
 clear hdn hd
 refine pure_end tyA_ok Tryz.func231 rfl (by decide) Tryz.ntmps231 rfl (by simp) rfl ?_
 repeat' (first
  | (refine gA rfl (zI (fun q => ?_) (fun q => ?_)))
  | (refine gA rfl (go_pure (c186 e.kind e.var e.val (by omega)) rfl rfl rfl rfl rfl rfl ?_)))
 all_goals first
  | (exfalso; simp_all; done)
  | skip
 all_goals (refine gA rfl (zL ?_))
 all_goals first
  | refine .agg ⟨.refl _, .of_eq (pBE ?_), trivial⟩
  | refine .agg ⟨.refl _, .kb' ?_, trivial⟩
 all_goals (simp_all <;> omega)
theorem PT_low (n : Nat) (hn : n ≤ 1) : PT n := by
 intro d e hd hts
 by_cases h12 : e.kind = 1 ∨ e.kind = 2
 ·exact PT_leaf n d e hd h12 hts
 rw [exprT_low hn h12]
 refine pure_end tyA_ok Tryz.func231 rfl (by decide) Tryz.ntmps231 rfl (by simp) rfl ?_
 refine gA rfl (zI (fun k1 => ?_) fun k1 => ?_)
 rotate_left
 ·exact absurd (.inl (zT k1)) h12
 refine gA rfl (zI (fun k2 => ?_) fun k2 => ?_)
 ·exact absurd (.inr (zT k2)) h12
 refine gA rfl (zI (fun g1 => ?_) fun g1 => ?_)
 ·refine gA rfl (zI (fun g2 => ?_) fun g2 => ?_)
  ·exact absurd (zF g2) (by omega)
  ·repeat (refine gA rfl (zI (fun q => ?_) (fun q => ?_)); all_goals (try (simp at q; done)))
   refine gA rfl (zL ?_)
   exact badT_le
 ·repeat (refine gA rfl (zI (fun q => ?_) (fun q => ?_)); all_goals (try (simp at q; done)))
  refine gA rfl (zL ?_)
  exact badT_le
set_option maxHeartbeats 2000000 in
theorem PT_step (m : Nat) (hm : m ≤ 100) (hB : PT m) (hA : PT (m + 1)) : PT (m + 2) := by
 intro d e hd hts
 by_cases h12 : e.kind = 1 ∨ e.kind = 2
 ·exact PT_leaf (m + 2) d e hd h12 hts
 have hm' : m ≤ 1000 := by omega
 have h0 := e.ts_eq
 rw [exprT_two]
 refine Al.Pure.le (aa := [ag e.c, pI d]) (args := [ag e.c1, pI d]) ?_ ⟨e.le1, .refl _, trivial⟩
 refine pure_end tyA_ok Tryz.func231 rfl (by decide) Tryz.ntmps231 rfl (by simp) rfl ?_
 refine gA rfl (zI (fun k1 => ?_) fun k1 => ?_)
 rotate_left
 ·exact absurd (.inl (zT k1)) h12
 refine gA rfl (zI (fun k2 => ?_) fun k2 => ?_)
 ·exact absurd (.inr (zT k2)) h12
 refine gA rfl (zI (fun g1 => ?_) fun g1 => ?_)
 rotate_left
 ·have g1 : ¬ e.kind = 4 := by
   have g : (!decide (e.kind = 4)) = true := g1
   simpa using g
  rw [headT_bad h12 (.inl g1)]
  repeat (refine gA rfl (zI (fun q => ?_) (fun q => ?_)); all_goals (try (simp at q; done)))
  refine gA rfl (zL ?_)
  exact badT_le
 have g1 : e.kind = 4 := by
  have g : (!decide (e.kind = 4)) = false := g1
  simpa using g
 refine gA rfl (zI (fun g2 => ?_) fun g2 => ?_)
 rotate_left
 ·exact absurd (zT g2) (by omega)
 refine gA rfl (zI (fun g3 => ?_) fun g3 => ?_)
 rotate_left
 ·have g3 : ¬ e.var = ⟨#[]⟩ := by
   have g : (!decide (e.var = ⟨#[]⟩)) = true := g3
   simpa using g
  rw [headT_bad h12 (.inr (.inr (.inl g3)))]
  repeat (refine gA rfl (zI (fun q => ?_) (fun q => ?_)); all_goals (try (simp at q; done)))
  refine gA rfl (zL ?_)
  exact badT_le
 have g3 : e.var = ⟨#[]⟩ := by
  have g : (!decide (e.var = ⟨#[]⟩)) = false := g3
  simpa using g
 refine gA rfl (zI (fun g4 => ?_) fun g4 => ?_)
 rotate_left
 ·have g4 : zValB e.val = false := by
   have g : (!zValB e.val) = true := g4
   simpa using g
  rw [headT_bad h12 (.inr (.inr (.inr (.inl g4))))]
  repeat (refine gA rfl (zI (fun q => ?_) (fun q => ?_)); all_goals (try (simp at q; done)))
  refine gA rfl (zL ?_)
  exact badT_le
 have g4 : zValB e.val = true := by
  have g : (!zValB e.val) = false := g4
  simpa using g
 refine gA rfl (zI (fun g5 => ?_) fun g5 => ?_)
 rotate_left
 ·have g5 : e.op < 1 := zT g5
  rw [headT_bad h12 (.inr (.inr (.inr (.inr (.inl g5)))))]
  repeat (refine gA rfl (zI (fun q => ?_) (fun q => ?_)); all_goals (try (simp at q; done)))
  refine gA rfl (zL ?_)
  exact badT_le
 have g5 : ¬ e.op < 1 := zF g5
 refine gA rfl (zI (fun g6 => ?_) fun g6 => ?_)
 ·have g6 : e.op > 6 := zT g6
  rw [headT_bad h12 (.inr (.inr (.inr (.inr (.inr g6)))))]
  refine gA rfl (zL ?_)
  exact badT_le
 have g6 : ¬ e.op > 6 := zF g6
 rw [headT_oper g1 g3 g4 g5 g6]
 refine gM 1 rfl (go_wk [] (t := ⟨[(1, pI d), (2, .ptr 0 0), (4, .ptr 1 0)], [(0, some (cellsI e.c1)), (1, some (cellsI [iS ByteArray.empty, .v (.bool false)]))], 2⟩) (zW (zK (zK trivial))) ?_)
 refine gA rfl (zI (fun h6 => ?_) fun h6 => ?_)
 ·have h6 : e.op = 6 := zT h6
  refine gA rfl (zI (fun h2 => ?_) fun h2 => ?_)
  ·have h2 : ¬ e.args.length = 1 := by simp at h2; omega
   rw [operT, if_pos h6, if_neg h2]
   refine gA rfl (zL ?_)
   exact badT_le
  have h2 : e.args.length = 1 := by simp at h2; omega
  have hg : (arg0 e).ts ≤ _ := Expr.tss_get e.args 0 (by omega)
  have hta : (arg0 e).ts ≤ 900000000 := by omega
  have hop : operT (argT m) e = (sM ++ (if num0 (arg0 e) = true then (⟨#[45, 48]⟩ : ByteArray) else (argT m (mustR (arg0 e)) (arg0 e)).1), (argT m (mustR (arg0 e)) (arg0 e)).2) := by rw [operT, if_pos h6, if_pos h2]
  have e1 : (⟨#[45]⟩ : ByteArray).size = 1 := rfl
  have e2 : (⟨#[45, 48]⟩ : ByteArray).size = 2 := rfl
  have hlt := argT_len m true (arg0 e)
  have hlf := argT_len m false (arg0 e)
  have hld := argT_len m (decide ((arg0 e).val.num > 0)) (arg0 e)
  refine gA rfl (zI (fun hk => ?_) fun hk => ?_)
  ·have hk' : (arg0 e).kind = 2 := zT hk
   refine gA rfl (zI (fun hv => ?_) fun hv => ?_)
   rotate_left
   ·have hv' : ¬ (arg0 e).val.kind = 1 := zF hv
    have hnb : numB (arg0 e) = false := by rw [numB, decide_eq_false hv', Bool.and_false]
    rw [num0, mustR, numP, hnb, Bool.false_and, Bool.false_and, Bool.or_false, if_neg (by decide)] at hop
    refine gA rfl (zdp (c237 (arg0 e)) ?_)
    refine gA rfl (zI (fun hb3 => ?_) fun hb3 => ?_)
    rotate_left
    ·have hb3' : ¬ bindsR (arg0 e) < 3 := zF hb3
     rw [decide_eq_false hb3'] at hop
     rw [hop]
     refine gA rfl (zdp (c236 m hm' hA hB false (d - 1) (by omega) (arg0 e) hta) ?_)
     refine gA rfl (zI (fun u1 => ?_) fun u1 => ?_)
     ·refine gA rfl (zI (fun u2 => ?_) fun u2 => ?_)
      ·exact absurd (zT u2) hv'
      refine gA rfl (zL (.of_eq ?_))
      rfl
     ·exact absurd hk' (zF u1)
    ·have hb3' : bindsR (arg0 e) < 3 := zT hb3
     rw [decide_eq_true hb3'] at hop
     rw [hop]
     refine gA rfl (zdp (c236 m hm' hA hB true (d - 1) (by omega) (arg0 e) hta) ?_)
     refine gA rfl (zI (fun u1 => ?_) fun u1 => ?_)
     ·refine gA rfl (zI (fun u2 => ?_) fun u2 => ?_)
      ·exact absurd (zT u2) hv'
      refine gA rfl (zL (.of_eq ?_))
      rfl
     ·exact absurd hk' (zF u1)
   ·have hv' : (arg0 e).val.kind = 1 := zT hv
    have hnb : numB (arg0 e) = true := by rw [numB, decide_eq_true hv', decide_eq_true hk']; rfl
    rw [num0, mustR, numP, hnb, Bool.true_and, Bool.true_and] at hop
    refine gA rfl (zdp (c237 (arg0 e)) ?_)
    refine gA rfl (zI (fun hb3 => ?_) fun hb3 => ?_)
    rotate_left
    ·have hb3' : ¬ bindsR (arg0 e) < 3 := zF hb3
     rw [decide_eq_false hb3', Bool.false_or] at hop
     rw [hop]
     refine gA rfl (zdp (c236 m hm' hA hB (decide ((arg0 e).val.num > 0)) (d - 1) (by omega) (arg0 e) hta) ?_)
     refine gA rfl (zI (fun u1 => ?_) fun u1 => ?_)
     ·refine gA rfl (zI (fun u2 => ?_) fun u2 => ?_)
      ·refine gA rfl (zI (fun u3 => ?_) fun u3 => ?_)
       ·rw [if_pos (show decide ((arg0 e).val.num = 0) = true from u3)]
        refine gA rfl (zL (.of_eq ?_))
        rfl
       ·have u3 : decide ((arg0 e).val.num = 0) = false := u3
        rw [if_neg (by rw [u3]; decide)]
        refine gA rfl (zL (.of_eq ?_))
        rfl
      ·exact absurd hv' (zF u2)
     ·exact absurd hk' (zF u1)
    ·have hb3' : bindsR (arg0 e) < 3 := zT hb3
     rw [decide_eq_true hb3', Bool.true_or] at hop
     rw [hop]
     refine gA rfl (zdp (c236 m hm' hA hB true (d - 1) (by omega) (arg0 e) hta) ?_)
     refine gA rfl (zI (fun u1 => ?_) fun u1 => ?_)
     ·refine gA rfl (zI (fun u2 => ?_) fun u2 => ?_)
      ·refine gA rfl (zI (fun u3 => ?_) fun u3 => ?_)
       ·rw [if_pos (show decide ((arg0 e).val.num = 0) = true from u3)]
        refine gA rfl (zL (.of_eq ?_))
        rfl
       ·have u3 : decide ((arg0 e).val.num = 0) = false := u3
        rw [if_neg (by rw [u3]; decide)]
        refine gA rfl (zL (.of_eq ?_))
        rfl
      ·exact absurd hv' (zF u2)
     ·exact absurd hk' (zF u1)
  ·have hk' : ¬ (arg0 e).kind = 2 := zF hk
   have hnb : numB (arg0 e) = false := by rw [numB, decide_eq_false hk']; rfl
   rw [num0, mustR, numP, hnb, Bool.false_and, Bool.false_and, Bool.or_false, if_neg (by decide)] at hop
   refine gA rfl (zdp (c237 (arg0 e)) ?_)
   refine gA rfl (zI (fun hb3 => ?_) fun hb3 => ?_)
   rotate_left
   ·have hb3' : ¬ bindsR (arg0 e) < 3 := zF hb3
    rw [decide_eq_false hb3'] at hop
    rw [hop]
    refine gA rfl (zdp (c236 m hm' hA hB false (d - 1) (by omega) (arg0 e) hta) ?_)
    refine gA rfl (zI (fun u1 => ?_) fun u1 => ?_)
    ·exact absurd (zT u1) hk'
    refine gA rfl (zL (.of_eq ?_))
    rfl
   ·have hb3' : bindsR (arg0 e) < 3 := zT hb3
    rw [decide_eq_true hb3'] at hop
    rw [hop]
    refine gA rfl (zdp (c236 m hm' hA hB true (d - 1) (by omega) (arg0 e) hta) ?_)
    refine gA rfl (zI (fun u1 => ?_) fun u1 => ?_)
    ·exact absurd (zT u1) hk'
    refine gA rfl (zL (.of_eq ?_))
    rfl
 ·have h6 : ¬ e.op = 6 := zF h6
  refine gA rfl (zI (fun h2 => ?_) fun h2 => ?_)
  ·have h2 : ¬ e.args.length = 2 := by simp at h2; omega
   rw [operT, if_neg h6, if_neg h2]
   refine gA rfl (zL ?_)
   exact badT_le
  have h2 : e.args.length = 2 := by simp at h2; omega
  have hg : (arg0 e).ts + (arg1 e).ts ≤ _ := Expr.tss_two e.args h2
  rw [operT, if_neg h6, if_pos h2]
  have hl0 := argT_len m (decide (bindsR (arg0 e) < bindsR e)) (arg0 e)
  have hl1 := argT_len m (decide (bindsR (arg1 e) ≤ bindsR e)) (arg1 e)
  have hsg := signR_len e.op
  have hap : ((argT m (decide (bindsR (arg0 e) < bindsR e)) (arg0 e)).1 ++ signR e.op).size = (argT m (decide (bindsR (arg0 e) < bindsR e)) (arg0 e)).1.size + (signR e.op).size := ByteArray.size_append
  refine gA rfl (zdp (c237 (arg0 e)) ?_)
  refine gA rfl (zdp (Al.Pure.le (aa := [ag e.c1]) (c237 e) ⟨e.le1', trivial⟩) ?_)
  refine gA rfl (zdp (c236 m hm' hA hB (decide (bindsR (arg0 e) < bindsR e)) (d - 1) (by omega) (arg0 e) (by omega)) ?_)
  refine gM 3 rfl (go_wk [] (t := ⟨[(1, pI d), (2, .ptr 0 0), (4, .ptr 1 0), (9, .ptr 2 0)], [(0, some (cellsI e.c1)), (1, some (cellsI [iS ByteArray.empty, .v (.bool false)])), (2, some (cellsI (argT m (decide (bindsR (arg0 e) < bindsR e)) (arg0 e)).c))], 3⟩) (zW (zK (zK (zK trivial)))) ?_)
  refine gA rfl (zdp (c237 (arg1 e)) ?_)
  refine gA rfl (zdp (Al.Pure.le (aa := [ag e.c1]) (c237 e) ⟨e.le1', trivial⟩) ?_)
  refine gA rfl (zdp (c236 m hm' hA hB (decide (bindsR (arg1 e) ≤ bindsR e)) (d - 1) (by omega) (arg1 e) (by omega)) ?_)
  refine gM 3 rfl (go_wk [] (t := ⟨[(1, pI d), (2, .ptr 0 0), (4, .ptr 1 0), (9, .ptr 2 0), (10, .ptr 3 0)], [(0, some (cellsI e.c1)), (1, some (cellsI [iS ByteArray.empty, .v (.bool false)])), (2, some (cellsI (argT m (decide (bindsR (arg0 e) < bindsR e)) (arg0 e)).c)), (3, some (cellsI (argT m (decide (bindsR (arg1 e) ≤ bindsR e)) (arg1 e)).c))], 4⟩) (zW (zK (zK (zK (zK trivial))))) ?_)
  refine gA rfl (zdp (c238 e.op) ?_)
  refine gA rfl (zI (fun q => ?_) fun q => ?_)
  rotate_left
  ·have q : (argT m (decide (bindsR (arg0 e) < bindsR e)) (arg0 e)).2 = false := q
   rw [q]
   refine gA rfl (zL (.of_eq ?_))
   rfl
  ·have q : (argT m (decide (bindsR (arg0 e) < bindsR e)) (arg0 e)).2 = true := by simpa using q
   rw [q]
   refine gA rfl (zL ?_)
   first
    | exact .agg ⟨.refl _, .of_eq (pBE (by first | rfl | rw [q]; rfl)), trivial⟩
    | exact .agg ⟨.refl _, .kb' (by first | rfl | rw [q]; rfl), trivial⟩
theorem PT_all : ∀ n, n ≤ 100 → PT n ∧ PT (n + 1)
 | 0, _ => ⟨PT_low 0 (by decide), PT_low 1 (by decide)⟩
 | n + 1, h => by
  obtain ⟨h1, h2⟩ := PT_all n (by omega)
  exact ⟨h2, PT_step n (by omega) h1 h2⟩
theorem c231 (e : Expr) (hts : e.ts ≤ 900000000) : Pure Tryz.prog 231 [ag e.c, pI 16] (ag (exprT 17 e).c) := (PT_all 17 (by decide)).1 16 e rfl hts
theorem c228 (a : Atom) : Pure Tryz.prog 228 [ag a.c] (pB (noAtomB a)) := by
 refine pure_end tyA_ok Tryz.func228 rfl (by decide) Tryz.ntmps228 rfl (by simp) rfl ?_
 repeat' (first | (refine gA rfl (zI (fun _ => ?_) (fun _ => ?_))) | (refine gA rfl (zL (.of_eq ?_))))
 all_goals (refine (pBE ?_ : pB _ = pB _))
 all_goals (simp only [noAtomB, *]; rfl)
theorem c229 (e : Expr) : Pure Tryz.prog 229 [ag e.c] (pB (noExprB e)) := by
 refine pure_end tyA_ok Tryz.func229 rfl (by decide) Tryz.ntmps229 rfl (by simp) rfl ?_
 repeat' (first | (refine gA rfl (zI (fun _ => ?_) (fun _ => ?_))) | (refine gA rfl (zL (.of_eq ?_))))
 all_goals (refine (pBE ?_ : pB _ = pB _))
 all_goals (simp only [noExprB, zValB, *]; rfl)
theorem c230 (g : Agg) : Pure Tryz.prog 230 [ag g.c] (pB (noAggB g)) := by
 refine pure_end tyA_ok Tryz.func230 rfl (by decide) Tryz.ntmps230 rfl (by simp) rfl ?_
 repeat' (first | (refine gA rfl (zI (fun _ => ?_) (fun _ => ?_))) | (refine gA rfl (zp (c229 g.of_) ?_)) | (refine gA rfl (zL (.of_eq ?_))))
 all_goals (refine (pBE ?_ : pB _ = pB _))
 all_goals (simp only [noAggB, *]; rfl)
theorem c232 (op : Int) : Pure Tryz.prog 232 [pI op] (pS (cmpS op)) := by
 refine pure_end tyA_ok Tryz.func232 rfl (by decide) Tryz.ntmps232 rfl (by simp) rfl ?_
 repeat' (first | (refine gA rfl (zI (fun _ => ?_) (fun _ => ?_))) | (refine gA rfl (zL (.of_eq ?_))))
 all_goals (refine congrArg pS ?_; simp_all [cmpS])
theorem c239 (f : Int) : Pure Tryz.prog 239 [pI f] (pS (funS f)) := by
 refine pure_end tyA_ok Tryz.func239 rfl (by decide) Tryz.ntmps239 rfl (by simp) rfl ?_
 repeat' (first | (refine gA rfl (zI (fun _ => ?_) (fun _ => ?_))) | (refine gA rfl (zL (.of_eq ?_))))
 all_goals (refine congrArg pS ?_; simp_all [funS])
theorem szA (a b : ByteArray) : (a ++ b).size = a.size + b.size := ByteArray.size_append
theorem sz0 : (⟨#[]⟩ : ByteArray).size = 0 := rfl
theorem litsTN_stop {f : Lit → Txt} {l : List Lit} {i : Nat} (h : litsTN f l i = badT) : ∀ k, litsTN f l (i + k) = badT
 | 0 => h
 | k + 1 => by
  rw [← Nat.add_assoc, litsTN, litsTN_stop h k]
  exact if_pos rfl
theorem litsTN_hit {f : Lit → Txt} {l : List Lit} {i : Nat} (h : (litsTN f l i).2 = false) (hi : i < l.length) (hf : (f (l.getD i default)).2 = true) : litsTN f l l.length = badT := by
 have e : litsTN f l (i + 1) = badT := by rw [litsTN, if_neg (by rw [h]; decide), if_pos hf]
 have := litsTN_stop e (l.length - (i + 1))
 rwa [show i + 1 + (l.length - (i + 1)) = l.length by omega] at this
theorem litsTN_step {f : Lit → Txt} {l : List Lit} {i : Nat} (h : (litsTN f l i).2 = false) (hf : (f (l.getD i default)).2 = false) : litsTN f l (i + 1) = ((if (i : Int) > 0 then (litsTN f l i).1 ++ sCm else (litsTN f l i).1) ++ (f (l.getD i default)).1, false) := by
 rw [litsTN, if_neg (by rw [h]; decide), if_neg (by rw [hf]; decide)]
theorem tss_step : ∀ (l : List Lit) (i : Nat), i < l.length → Lit.tss (l.take (i + 1)) = Lit.tss (l.take i) + (l.getD i default).ts
 | [], i, h => by simp at h
 | s :: r, 0, _ => by simp [Lit.tss]
 | s :: r, i + 1, h => by
  have := tss_step r i (by simpa using h)
  simp only [List.take_succ_cons, List.getD_cons_succ, Lit.tss, this]; omega
theorem litsTN_len {f : Lit → Txt} {l : List Lit} (hf : ∀ i, i < l.length → (f (l.getD i default)).1.size + 2 ≤ (l.getD i default).ts) : ∀ i, i ≤ l.length → (litsTN f l i).1.size ≤ Lit.tss (l.take i)
 | 0, _ => by show (⟨#[]⟩ : ByteArray).size ≤ _; rw [sz0]; exact Nat.zero_le _
 | i + 1, h => by
  have h1 := litsTN_len hf i (by omega)
  have h2 := hf i (by omega)
  have h3 : sCm.size = 2 := rfl
  rw [tss_step l i (by omega), litsTN]
  split
  ·show (⟨#[]⟩ : ByteArray).size ≤ _; rw [sz0]; exact Nat.zero_le _
  split
  ·show (⟨#[]⟩ : ByteArray).size ≤ _; rw [sz0]; exact Nat.zero_le _
  ·show ((if (i : Int) > 0 then (litsTN f l i).1 ++ sCm else (litsTN f l i).1) ++ (f (l.getD i default)).1).size ≤ _
   rw [szA]
   split
   ·rw [szA]; omega
   ·omega
theorem atomT_len (a : Atom) : (atomT a).1.size ≤ a.ts := by
 have h1 := atomTn_len a a.terms.length (Nat.le_refl _)
 rw [List.take_of_length_le (Nat.le_refl _)] at h1
 have h2 : a.ts = a.rel.size + 10 + (a.terms.map Term.ts).sum := rfl
 have h3 : sC.size = 1 := rfl
 show ((atomTn a a.terms.length).1 ++ sC).size ≤ _
 rw [szA]; omega
theorem terms_ts (a : Atom) : a.terms.length ≤ a.ts := by
 have h2 : a.ts = a.rel.size + 10 + (a.terms.map Term.ts).sum := rfl
 have : ∀ l : List Term, l.length ≤ (l.map Term.ts).sum := by
  intro l
  induction l with
  | nil => exact Nat.le_refl _
  | cons x r ih =>
   have : x.ts = x.var.size + 310 := rfl
   simp only [List.length_cons, List.map_cons, List.sum_cons]; omega
 have := this a.terms
 omega
theorem ofT_len (a : Agg) : (ofT a).1.size ≤ a.var.size + a.of_.ts + 14 := by
 have h1 := funS_len a.func
 have h2 := exprT_len 17 a.of_
 have e1 : sEq.size = 3 := rfl
 have e2 : sBr.size = 3 := rfl
 have e3 : sCl.size = 3 := rfl
 unfold ofT
 split
 ·show (((a.var ++ sEq) ++ funS a.func) ++ sBr).size ≤ _
  rw [szA, szA, szA]; omega
 ·show (((((a.var ++ sEq) ++ funS a.func) ++ sBr) ++ (exprT 17 a.of_).1) ++ sCl).size ≤ _
  rw [szA, szA, szA, szA, szA]; omega
theorem aggT_len {f : Lit → Txt} {a : Agg} {br : Int} (hf : ∀ i, i < a.body.length → (f (a.body.getD i default)).1.size + 2 ≤ (a.body.getD i default).ts) : (aggT f a br).1.size ≤ a.var.size + a.of_.ts + Lit.tss a.body + 16 := by
 have h1 := ofT_len a
 have h2 := litsTN_len hf a.body.length (Nat.le_refl _)
 rw [List.take_of_length_le (Nat.le_refl _)] at h2
 have e1 : sEnd.size = 2 := rfl
 unfold aggT
 split
 ·show (⟨#[]⟩ : ByteArray).size ≤ _; rw [sz0]; exact Nat.zero_le _
 ·show (((ofT a).1 ++ (litsTN f a.body a.body.length).1) ++ sEnd).size ≤ _
  rw [szA, szA]; omega
theorem litTN_len : ∀ (n : Nat) (br : Int) (l : Lit), (litTN n br l).1.size + 2 ≤ l.ts
 | 0, _, l => by
  have := l.ts_eq
  show (⟨#[]⟩ : ByteArray).size + 2 ≤ _; rw [sz0]; omega
 | n + 1, br, l => by
  have h := l.ts_eq
  have h1 := atomT_len l.atom
  have h2 := exprT_len 17 l.left
  have h3 := exprT_len 17 l.right
  have h4 := cmpS_len l.op
  have h5 := aggT_len (f := litTN n (br - 1)) (a := l.agg) (br := br) fun i _ => litTN_len n (br - 1) _
  have h6 : l.agg.var.size + l.agg.of_.ts + Lit.tss l.agg.body = l.avar.size + l.aof.ts + Lit.tss l.abody := rfl
  have e1 : sNot.size = 4 := rfl
  rw [litTN]
  unfold litT'
  split
  ·show (if l.kind = 2 then sNot ++ (atomT l.atom).1 else (atomT l.atom).1).size + 2 ≤ _
   split
   ·rw [szA]; omega
   ·omega
  split
  ·show (((exprT 17 l.left).1 ++ cmpS l.op) ++ (exprT 17 l.right).1).size + 2 ≤ _
   rw [szA, szA]; omega
  split
  ·show (aggT (litTN n (br - 1)) l.agg br).1.size + 2 ≤ _
   omega
  ·show (⟨#[]⟩ : ByteArray).size + 2 ≤ _; rw [sz0]; omega
theorem c240 (f : Lit → Txt) (l : List Lit) (br : Int) (hc : ∀ i, i < l.length → Pure Tryz.prog 215 [ag (l.getD i default).c, pI br] (ag (f (l.getD i default)).c)) (hf : ∀ i, i < l.length → (f (l.getD i default)).1.size + 2 ≤ (l.getD i default).ts) (hts : Lit.tss l ≤ 900000000) : Pure Tryz.prog 240 [.iv (lits l), pI br] (ag (litsTN f l l.length).c) := by
 refine pure_len (callable_of Tryz.func240 rfl (by decide)) ⟨_, _, List.mem_cons_self⟩ fun hlen => ?_
 simp only [maxLen] at hlen
 refine pure_end tyA_ok Tryz.func240 rfl (by decide) Tryz.ntmps240 rfl (by simp) rfl ?_
 refine gA rfl ?_
 refine go_for 0 l.length (Nat.zero_le _) (fun i => ⟨[(0, .iv (lits l)), (1, pI br), (4, .ptr 0 0), (5, .ptr 1 0), (6, pI i)], [(0, some (.cells [pS ByteArray.empty, pB false])), (1, some (.cells [pS (litsTN f l i).1, pB false]))], 2⟩) (fun i => (litsTN f l i).2 = false) [] rfl
  (zW (zO (zO trivial))) fun i hi hJ => ?_
 refine gA rfl (zI (fun h1 => ?_) fun h1 => ?_)
 rotate_left
 ·have h1 : l.length ≤ i := zG h1
  have hie : i = l.length := by omega
  subst hie
  refine gA rfl (zL ?_)
  exact .agg ⟨.refl _, .of_eq (pBE hJ.symm), trivial⟩
 have h1 : i < l.length := zN h1
 have hl1 := litsTN_len hf i hi
 have hl2 := hf i h1
 have hl3 := Lit.tss_take l i h1
 have e1 : (⟨#[44, 32]⟩ : ByteArray).size = 2 := rfl
 have e2 := szA (litsTN f l i).1 ⟨#[44, 32]⟩
 refine gA rfl (zp (hc i h1) ?_)
 refine gA rfl (zI (fun g => ?_) fun g => ?_)
 ·have g : (f (l.getD i default)).2 = true := g
  rw [litsTN_hit hJ h1 g]
  refine gA rfl (zL ?_)
  exact badT_le
 have g : (f (l.getD i default)).2 = false := by simpa using g
 have hs := litsTN_step hJ g
 refine gA rfl (zI (fun k => ?_) fun k => ?_)
 ·have k : (i : Int) > 0 := zT k
  rw [if_pos k] at hs
  refine gA rfl ?_
  exact ⟨h1, by rw [hs], [], zW (zO ⟨⟨_, rfl, .cells ⟨.of_eq (congrArg pS (by rw [hs]; rfl)), .refl _, trivial⟩⟩, Nat.le_of_ble_eq_true rfl, rfl, trivial⟩)⟩
 ·have k : ¬ (i : Int) > 0 := zF k
  rw [if_neg k] at hs
  refine gA rfl ?_
  exact ⟨h1, by rw [hs], [], zW (zO ⟨⟨_, rfl, .cells ⟨.of_eq (congrArg pS (by rw [hs])), .refl _, trivial⟩⟩, Nat.le_of_ble_eq_true rfl, rfl, trivial⟩)⟩
set_option maxHeartbeats 2000000 in
theorem c233 (f : Lit → Txt) (a : Agg) (br : Int) (hb : br ≤ 16) (hc : 1 ≤ br → ∀ i, i < a.body.length → Pure Tryz.prog 215 [ag (a.body.getD i default).c, pI (br - 1)] (ag (f (a.body.getD i default)).c)) (hf : ∀ i, i < a.body.length → (f (a.body.getD i default)).1.size + 2 ≤ (a.body.getD i default).ts) (hts : a.var.size + a.of_.ts + Lit.tss a.body ≤ 900000000) : Pure Tryz.prog 233 [ag a.c, pI br] (ag (aggT f a br).c) := by
 have hl1 := funS_len a.func
 have hl2 := exprT_len 17 a.of_
 have hl3 := litsTN_len hf a.body.length (Nat.le_refl _)
 rw [List.take_of_length_le (Nat.le_refl _)] at hl3
 have e1 : (⟨#[32, 61, 32]⟩ : ByteArray).size = 3 := rfl
 have e2 : (⟨#[32, 123, 32]⟩ : ByteArray).size = 3 := rfl
 have e3 : (⟨#[32, 58, 32]⟩ : ByteArray).size = 3 := rfl
 have e4 : (⟨#[32, 125]⟩ : ByteArray).size = 2 := rfl
 have s1 := szA a.var ⟨#[32, 61, 32]⟩
 have s2 := szA (a.var ++ ⟨#[32, 61, 32]⟩) (funS a.func)
 have s3 := szA ((a.var ++ ⟨#[32, 61, 32]⟩) ++ funS a.func) ⟨#[32, 123, 32]⟩
 have s4 := szA (((a.var ++ ⟨#[32, 61, 32]⟩) ++ funS a.func) ++ ⟨#[32, 123, 32]⟩) (exprT 17 a.of_).1
 have s5 := szA ((((a.var ++ ⟨#[32, 61, 32]⟩) ++ funS a.func) ++ ⟨#[32, 123, 32]⟩) ++ (exprT 17 a.of_).1) ⟨#[32, 58, 32]⟩
 have s6 := szA (((((a.var ++ ⟨#[32, 61, 32]⟩) ++ funS a.func) ++ ⟨#[32, 123, 32]⟩) ++ (exprT 17 a.of_).1) ++ ⟨#[32, 58, 32]⟩) (litsTN f a.body a.body.length).1
 have s7 := szA (((a.var ++ ⟨#[32, 61, 32]⟩) ++ funS a.func) ++ ⟨#[32, 123, 32]⟩) (litsTN f a.body a.body.length).1
 refine Al.Pure.le (aa := [ag a.c, pI br]) (args := [ag a.c1, pI br]) ?_ ⟨a.le1, .refl _, trivial⟩
 refine pure_end tyA_ok Tryz.func233 rfl (by decide) Tryz.ntmps233 rfl (by simp) rfl ?_
 refine gA rfl (zI (fun g1 => ?_) fun g1 => ?_)
 rotate_left
 ·have g1 : a.func < 1 := zT g1
  rw [aggT, if_pos (.inl g1)]
  repeat (refine gA rfl (zI (fun q => ?_) (fun q => ?_)); all_goals (try (simp at q; done)))
  refine gA rfl (zL ?_)
  exact badT_le
 have g1 : ¬ a.func < 1 := zF g1
 refine gA rfl (zI (fun g2 => ?_) fun g2 => ?_)
 rotate_left
 ·have g2 : a.func > 4 := zT g2
  rw [aggT, if_pos (.inr (.inl g2))]
  repeat (refine gA rfl (zI (fun q => ?_) (fun q => ?_)); all_goals (try (simp at q; done)))
  refine gA rfl (zL ?_)
  exact badT_le
 have g2 : ¬ a.func > 4 := zF g2
 refine gA rfl (zI (fun g3 => ?_) fun g3 => ?_)
 rotate_left
 ·have g3 : br < 1 := zT g3
  rw [aggT, if_pos (.inr (.inr (.inl g3)))]
  repeat (refine gA rfl (zI (fun q => ?_) (fun q => ?_)); all_goals (try (simp at q; done)))
  refine gA rfl (zL ?_)
  exact badT_le
 have g3 : ¬ br < 1 := zF g3
 refine gA rfl (zI (fun g4 => ?_) fun g4 => ?_)
 ·have g4 : (a.body.length : Int) = 0 := zT g4
  rw [aggT, if_pos (.inr (.inr (.inr g4)))]
  refine gA rfl (zL ?_)
  exact badT_le
 have g4 : ¬ (a.body.length : Int) = 0 := zF g4
 have hA : aggT f a br = (((ofT a).1 ++ (litsTN f a.body a.body.length).1) ++ sEnd, (ofT a).2 || (litsTN f a.body a.body.length).2) := by rw [aggT, if_neg (by omega)]
 have hlits := c240 f a.body (br - 1) (hc (by omega)) hf (by omega)
 rw [hA]
 refine gA rfl (zp (c209 a.var (by omega)) ?_)
 refine gA rfl (zdp (c239 a.func) ?_)
 refine gA rfl (zI (fun g5 => ?_) fun g5 => ?_)
 ·have g5 : a.func = 1 := zT g5
  have hO : ofT a = (((a.var ++ sEq) ++ funS a.func) ++ sBr, !varB a.var || !noExprB a.of_) := if_pos g5
  rw [hO]
  clear hl2 hA hO hf hc
  repeat' (first
   | (refine gA rfl (zI (fun q => ?_) (fun q => ?_)))
   | (refine gA rfl (go_pure (c229 a.of_) rfl rfl rfl rfl rfl rfl ?_))
   | (refine gA rfl (go_pure hlits rfl rfl rfl rfl rfl rfl ?_)))
  all_goals (refine gA rfl (zL ?_))
  all_goals clear hl1 hl3 e1 e2 e3 e4 s1 s2 s3 s4 s5 s6 s7 hts hlits
  all_goals first
   | refine .agg ⟨.of_eq rfl, .of_eq (pBE ?_), trivial⟩
   | refine .agg ⟨.of_eq rfl, .kb' ?_, trivial⟩
  all_goals simp_all
 ·have g5 : ¬ a.func = 1 := zF g5
  have hO : ofT a = (((((a.var ++ sEq) ++ funS a.func) ++ sBr) ++ (exprT 17 a.of_).1) ++ sCl, !varB a.var || (exprT 17 a.of_).2) := if_neg g5
  rw [hO]
  have he := c231 a.of_ (by omega)
  clear hA hO hf hc
  repeat' (first
   | (refine gA rfl (zI (fun q => ?_) (fun q => ?_)))
   | (refine gA rfl (go_pure he rfl rfl rfl rfl rfl rfl ?_))
   | (refine gA rfl (go_pure hlits rfl rfl rfl rfl rfl rfl ?_)))
  all_goals (refine gA rfl (zL ?_))
  all_goals clear hl1 hl2 hl3 e1 e2 e3 e4 s1 s2 s3 s4 s5 s6 s7 hts hlits he
  all_goals first
   | refine .agg ⟨.of_eq rfl, .of_eq (pBE ?_), trivial⟩
   | refine .agg ⟨.of_eq rfl, .kb' ?_, trivial⟩
  all_goals simp_all
set_option maxHeartbeats 4000000 in
theorem c215 : ∀ (n : Nat) (l : Lit) (br : Int), l.size ≤ n → br ≤ 16 → l.ts ≤ 900000000 → Pure Tryz.prog 215 [ag l.c, pI br] (ag (litTN n br l).c)
 | 0, l, _, h, _, _ => absurd l.size_pos (by omega)
 | n + 1, l, br, hs, hb, hts => by
  have hz := l.size_eq
  have ht := l.ts_eq
  have ha := terms_ts l.atom
  have hl1 := atomT_len l.atom
  have hl2 := exprT_len 17 l.left
  have hl3 := exprT_len 17 l.right
  have hl4 := cmpS_len l.op
  have e1 : (⟨#[110, 111, 116, 32]⟩ : ByteArray).size = 4 := rfl
  have s1 := szA (exprT 17 l.left).1 (cmpS l.op)
  have hag := c233 (litTN n (br - 1)) l.agg br hb (fun _ i hi => by
   have hi : i < l.abody.length := hi
   have h1 := Lit.sizes_get l.abody i hi
   have h2 := l.left.size_pos
   have h3 := Lit.tss_take l.abody i hi
   exact c215 n (l.abody.getD i default) (br - 1) (by omega) (by omega) (by omega)) (fun i _ => litTN_len n (br - 1) _) (by show l.avar.size + l.aof.ts + Lit.tss l.abody ≤ _; omega)
  rw [litTN]
  refine pure_end tyA_ok Tryz.func215 rfl (by decide) Tryz.ntmps215 rfl (by simp) rfl ?_
  refine gA rfl (zp (c228 l.atom) ?_)
  refine gA rfl (zp (c229 l.left) ?_)
  refine gA rfl (zp (c229 l.right) ?_)
  refine gA rfl (zp (c230 l.agg) ?_)
  refine gM 2 rfl (go_cut 1 (fun (_ : Unit) => ⟨[(1, pI br), (2, .ptr 0 0), (4, .ptr 1 0), (5, pB (noAtomB l.atom)), (8, pB (noAggB l.agg)), (9, pB (sidesB l))], [(0, some (cellsI l.c)), (1, some (.cells [pS ByteArray.empty, pB false]))], 2⟩) rfl ?_ ?_)
  ·repeat' (first
    | (refine gA rfl (zI (fun q => ?_) (fun q => ?_)))
    | fail)
   all_goals (refine gA rfl (cut_at () [] (zM ⟨.refl _, rfl, .refl _, rfl, .refl _, rfl, .refl _, rfl, .refl _, rfl, ?_, rfl, trivial⟩ (zK (zO trivial)))))
   all_goals clear hl1 hl2 hl3 hl4 e1 s1 hag ht hz ha hts hs
   all_goals first
    | refine .of_eq (pBE ?_)
    | refine .kb' ?_
   all_goals simp_all [sidesB]
  rintro ⟨⟩
  have hL : litT' (litTN n) br l = litT' (litTN n) br l := rfl
  refine gA rfl (zI (fun k1 => ?_) fun k1 => ?_)
  ·have k1 : l.kind = 1 := zT k1
   have hL : litT' (litTN n) br l = ((atomT l.atom).1, (atomT l.atom).2 || (!sidesB l || !noAggB l.agg)) := by unfold litT'; rw [if_pos (.inl k1), if_neg (by omega)]
   rw [hL]
   refine gA rfl (zp (c152 l.atom (by omega) (by omega)) ?_)
   clear hL
   generalize noAtomB l.atom = NA at *
   generalize noAggB l.agg = NG at *
   generalize sidesB l = SD at *
   repeat' (first
    | (refine gA rfl (zI (fun q => ?_) (fun q => ?_)))
    | fail)
   all_goals first
    | (exfalso; simp_all; done)
    | skip
   all_goals (refine gA rfl (zL ?_))
   all_goals clear hl1 hl2 hl3 hl4 e1 s1 hag ht hz ha hts hs
   all_goals first
    | refine .agg ⟨.of_eq rfl, .of_eq (pBE ?_), trivial⟩
    | refine .agg ⟨.of_eq rfl, .kb' ?_, trivial⟩
   all_goals simp_all
  have k1 : ¬ l.kind = 1 := zF k1
  refine gA rfl (zI (fun k2 => ?_) fun k2 => ?_)
  ·have k2 : l.kind = 2 := zT k2
   have hL : litT' (litTN n) br l = (sNot ++ (atomT l.atom).1, (atomT l.atom).2 || (!sidesB l || !noAggB l.agg)) := by unfold litT'; rw [if_pos (.inr k2), if_pos k2]
   rw [hL]
   refine gA rfl (zp (c152 l.atom (by omega) (by omega)) ?_)
   clear hL
   generalize noAtomB l.atom = NA at *
   generalize noAggB l.agg = NG at *
   generalize sidesB l = SD at *
   repeat' (first
    | (refine gA rfl (zI (fun q => ?_) (fun q => ?_)))
    | fail)
   all_goals first
    | (exfalso; simp_all; done)
    | skip
   all_goals (refine gA rfl (zL ?_))
   all_goals clear hl1 hl2 hl3 hl4 e1 s1 hag ht hz ha hts hs
   all_goals first
    | refine .agg ⟨.of_eq rfl, .of_eq (pBE ?_), trivial⟩
    | refine .agg ⟨.of_eq rfl, .kb' ?_, trivial⟩
   all_goals simp_all
  have k2 : ¬ l.kind = 2 := zF k2
  have k12 : ¬ (l.kind = 1 ∨ l.kind = 2) := by omega
  refine gA rfl (zI (fun k3 => ?_) fun k3 => ?_)
  ·have k3 : l.kind = 3 := zT k3
   have hL : litT' (litTN n) br l = (((exprT 17 l.left).1 ++ cmpS l.op) ++ (exprT 17 l.right).1, (exprT 17 l.left).2 || ((exprT 17 l.right).2 || (!noAtomB l.atom || (!noAggB l.agg || (decide (l.op < 1) || decide (l.op > 6)))))) := by unfold litT'; rw [if_neg k12, if_pos k3]
   rw [hL]
   refine gA rfl (zp (c231 l.left (by omega)) ?_)
   refine gA rfl (zp (c231 l.right (by omega)) ?_)
   refine gA rfl (zdp (c232 l.op) ?_)
   clear hL
   generalize noAtomB l.atom = NA at *
   generalize noAggB l.agg = NG at *
   generalize sidesB l = SD at *
   repeat' (first
    | (refine gA rfl (zI (fun q => ?_) (fun q => ?_)))
    | fail)
   all_goals (refine gA rfl (zL ?_))
   all_goals clear hl1 hl2 hl3 hl4 e1 s1 hag ht hz ha hts hs
   all_goals first
    | refine .agg ⟨.of_eq rfl, .of_eq (pBE ?_), trivial⟩
    | refine .agg ⟨.of_eq rfl, .kb' ?_, trivial⟩
   all_goals (simp_all <;> omega)
  have k3 : ¬ l.kind = 3 := zF k3
  refine gA rfl (zI (fun k4 => ?_) fun k4 => ?_)
  ·have k4 : l.kind = 4 := zT k4
   have hL : litT' (litTN n) br l = ((aggT (litTN n (br - 1)) l.agg br).1, (aggT (litTN n (br - 1)) l.agg br).2 || (!noAtomB l.atom || !sidesB l)) := by unfold litT'; rw [if_neg k12, if_neg k3, if_pos k4]
   rw [hL]
   refine gA rfl (zp (hag) ?_)
   clear hL
   generalize noAtomB l.atom = NA at *
   generalize noAggB l.agg = NG at *
   generalize sidesB l = SD at *
   repeat' (first
    | (refine gA rfl (zI (fun q => ?_) (fun q => ?_)))
    | fail)
   all_goals (refine gA rfl (zL ?_))
   all_goals clear hl1 hl2 hl3 hl4 e1 s1 hag ht hz ha hts hs
   all_goals first
    | refine .agg ⟨.of_eq rfl, .of_eq (pBE ?_), trivial⟩
    | refine .agg ⟨.of_eq rfl, .kb' ?_, trivial⟩
   all_goals simp_all
  ·have k4 : ¬ l.kind = 4 := zF k4
   have hL : litT' (litTN n) br l = badT := by unfold litT'; rw [if_neg k12, if_neg k3, if_neg k4]
   rw [hL]
   refine gA rfl (zL ?_)
   exact badT_le
theorem c194 (l : Lit) (hts : l.ts ≤ 900000000) : Pure Tryz.prog 194 [ag l.c] (.tup [pS (if (litTx l).2 = true then ⟨#[]⟩ else (litTx l).1), pI (if (litTx l).2 = true then 50 else 0)]) := by
 refine pure_end tyA_ok Tryz.func194 rfl (by decide) Tryz.ntmps194 rfl (by simp) rfl ?_
 refine gA rfl (zp (c215 l.size l 16 (Nat.le_refl _) (by decide) hts) ?_)
 refine gA rfl (zp (c151 (litTx l)) ?_)
 refine gA rfl (zL (.of_eq ?_))
 rfl
theorem c162 (l : Lit) (hts : l.ts ≤ 900000000) : Pure Tryz.prog 162 [ag l.c] (pB (!(litTx l).2)) := by
 refine pure_end tyA_ok Tryz.func162 rfl (by decide) Tryz.ntmps162 rfl (by simp) rfl ?_
 refine gA rfl (zp (c194 l hts) ?_)
 refine gA rfl (zL (.of_eq ?_))
 refine (pBE ?_ : pB _ = pB _)
 cases (litTx l).2 <;> rfl
theorem Lit.les1 (l : Lit) : PVles (l.c.map .iv) (l.c1.map .iv) :=
 ⟨.refl _, .refl _, .refl _, .refl _, .refl _, .refl _, .refl _, .refl _, .refl _, .refl _, .refl _, .refl _, .refl _, .refl _, .refl _, .refl _, .refl _, .refl _, .refl _, .refl _, .refl _, .refl _, .refl _, .refl _, .refl _, .refl _, .refl _, .iv (litsIL _), .refl _, .refl _, trivial⟩
theorem hCL {n i : Nat} {σ : Nat → Nat} {h r : AH} {cs : List PV} {T0 : Option TypeId} {c : List IV} (ho : h.get (σ i) = some (.cells cs T0)) (he : PVles cs (c.map .iv)) (hi : Nat.blt i n = true) (hr : wkH n σ h r) : wkH n σ h ((i, some (cellsI c)) :: r) :=
 ⟨⟨_, ho, by rw [cellsI_ren]; exact .trans (.untag cs T0) (.cells he)⟩, Nat.le_of_ble_eq_true hi, belowL_iv n c, hr⟩
theorem c195 (l : Lit) : Pure Tryz.prog 195 [ag l.c] (.iv (slc 2 (posNeg l) Atom.c)) := by
 refine pure_end tyA_ok Tryz.func195 rfl (by decide) Tryz.ntmps195 rfl (by simp) rfl ?_
 refine gA rfl (zI (fun k1 => ?_) fun k1 => ?_)
 ·have k1 : ¬ l.kind = 1 := zF k1
  refine gA rfl (zI (fun k2 => ?_) fun k2 => ?_)
  ·have k2 : l.kind = 2 := zT k2
   have e : posNeg l = [l.atom] := if_pos (.inr k2)
   refine gA rfl (end_row (by first | exact .inr rfl | exact .inl rfl) rfl rfl (by rw [e]; rfl) (by rw [e]; rfl))
  ·have k2 : ¬ l.kind = 2 := zF k2
   have e : posNeg l = [] := if_neg (by omega)
   rw [e]
   refine gA rfl (zL ?_)
   exact .nil _ _
 ·have k1 : l.kind = 1 := zT k1
  have e : posNeg l = [l.atom] := if_pos (.inl k1)
  repeat (refine gA rfl (zI (fun q => ?_) (fun q => ?_)); all_goals (try (simp at q; done)))
  refine gA rfl (end_row (by first | exact .inr rfl | exact .inl rfl) rfl rfl (by rw [e]; rfl) (by rw [e]; rfl))
theorem c163 (r : Rule) (lit : Int) (h1 : lit < r.body.length) (hb : r.size ≤ 100000000) : Pure Tryz.prog 163 [ag r.c, pI lit] (.iv (slc 2 (atomsL r lit) Atom.c)) := by
 have hbl := Lit.length_sizes r.body
 have h0 : Lit.sizes r.body ≤ r.size := Nat.le_add_left _ _
 refine pure_end tyA_ok Tryz.func163 rfl (by decide) Tryz.ntmps163 rfl (by simp) rfl ?_
 refine gA rfl (zI (fun h2 => ?_) fun h2 => ?_)
 ·have h2 : lit < 0 := by simpa using h2
  refine gA rfl (end_row (by first | exact .inr rfl | exact .inl rfl) rfl rfl (by rw [atomsL, if_pos h2]; rfl) (by rw [atomsL, if_pos h2]; rfl))
 have h2 : ¬ lit < 0 := by simpa using h2
 have hk : lit.toNat < r.body.length := by omega
 have hsz := Lit.sizes_get r.body lit.toNat hk
 have hse := (litAt r lit).size_eq
 have hsl := Lit.length_sizes (litAt r lit).abody
 have hle : (litAt r lit).size ≤ Lit.sizes r.body := hsz
 refine gA rfl (zI (fun h3 => ?_) fun h3 => ?_)
 ·have h3 : ¬ (litAt r lit).kind = 4 := by simpa [litAt] using h3
  have hat : atomsL r lit = posNeg (litAt r lit) := by rw [atomsL, if_neg h2, litsAt, if_neg h3]; simp
  rw [hat]
  refine gA rfl (zp (c195 (litAt r lit)) ?_)
  refine gA rfl (zL (.of_eq ?_))
  rfl
 have h3 : (litAt r lit).kind = 4 := by simpa [litAt] using h3
 have hat : atomsL r lit = (litAt r lit).abody.flatMap posNeg := by rw [atomsL, if_neg h2, litsAt, if_pos h3]
 refine gA rfl ?_
 refine go_virt 6 2 rfl ?_
 refine go_for 0 (litAt r lit).abody.length (Nat.zero_le _) (fun i => ⟨[(5, .ptr 1 0), (6, .sl 3 0 (((litAt r lit).abody.take i).flatMap posNeg).length 2), (7, pI i)], [(1, some (cellsI (litAt r lit).c1)), (3, some (rowI 2 (((litAt r lit).abody.take i).flatMap posNeg) Atom.c))], 4⟩) (fun _ => True) [2] trivial
  (zW (hCL rfl (litAt r lit).les1 rfl (zS trivial))) fun i hi _ => ?_
 have hpl := posNeg_len ((litAt r lit).abody.take i)
 have htl : ((litAt r lit).abody.take i).length ≤ (litAt r lit).abody.length := by rw [List.length_take]; exact Nat.min_le_right _ _
 refine gA rfl (zI (fun h4 => ?_) fun h4 => ?_)
 ·have h4 : i < (litAt r lit).abody.length := zN h4
  have hs := flatMap_step (f := posNeg) h4
  have hl1 : (posNeg ((litAt r lit).abody.getD i default)).length ≤ 1 := by unfold posNeg; split <;> simp
  refine gA rfl (zp (c195 ((litAt r lit).abody.getD i default)) ?_)
  refine gA rfl ?_
  first
   | exact ⟨h4, trivial, [4], zM ⟨.refl _, rfl, .row (by rw [hs, List.length_append]), rfl, .refl _, rfl, trivial⟩ (zK (hR rfl (by rw [src_map, hs, List.map_append]) rfl trivial))⟩
   | exact ⟨h4, trivial, [5], zM ⟨.refl _, rfl, .row (by rw [hs, List.length_append]), rfl, .refl _, rfl, trivial⟩ (zK (hR rfl (by rw [src_map, hs, List.map_append]) rfl trivial))⟩
 ·have h4 : (litAt r lit).abody.length ≤ i := zG h4
  rw [List.take_of_length_le h4] at *
  refine gA rfl (end_row (by first | exact .inr rfl | exact .inl rfl) rfl rfl (by rw [hat]) (by rw [hat]))
theorem c164 (r : Rule) (lit : Int) (h1 : lit < r.body.length) (hb : r.size ≤ 100000000) : Pure Tryz.prog 164 [ag r.c, pI lit] (pB (scopeB r lit)) := by
 have hbl := Lit.length_sizes r.body
 have h0 : Lit.sizes r.body ≤ r.size := Nat.le_add_left _ _
 have h00 : r.size = r.head.terms.length + Lit.sizes r.body := rfl
 refine pure_end tyA_ok Tryz.func164 rfl (by decide) Tryz.ntmps164 rfl (by simp) rfl ?_
 refine gA rfl (zI (fun h2 => ?_) fun h2 => ?_)
 ·have h2 : lit < 0 := by simpa using h2
  have hS : scopeB r lit = r.head.terms.any fun x => decide (x.kind = 3) := if_pos h2
  refine gA rfl ?_
  refine go_for 0 r.head.terms.length (Nat.zero_le _) (fun i => ⟨[(2, .ptr 0 0), (5, pI i)], [(0, some (cellsI r.c))], 1⟩) (fun i => (r.head.terms.take i).any (fun x => decide (x.kind = 3)) = false) [] (by simp)
   (zW (zK trivial)) fun i hi hJ => ?_
  refine gA rfl (zI (fun h4 => ?_) fun h4 => ?_)
  ·have h4 : i < r.head.terms.length := zN h4
   refine gA rfl (zI (fun g => ?_) fun g => ?_)
   ·rw [hS, any_hit h4 g]
    refine gA rfl (zL (.of_eq ?_))
    rfl
   ·refine gA rfl ?_
    exact ⟨h4, (any_step hJ h4).2 g, [], zW (zK trivial)⟩
  ·have h4 : r.head.terms.length ≤ i := zG h4
   rw [hS, any_none hJ h4]
   refine gA rfl (zL (.of_eq ?_))
   rfl
 have h2 : ¬ lit < 0 := by simpa using h2
 have hk : lit.toNat < r.body.length := by omega
 have hsz := Lit.sizes_get r.body lit.toNat hk
 have hse := (litAt r lit).size_eq
 have hsl := Lit.length_sizes (litAt r lit).abody
 have hag := (litAt r lit).agg_size
 have hle : (litAt r lit).size ≤ Lit.sizes r.body := hsz
 refine gA rfl (zI (fun h3 => ?_) fun h3 => ?_)
 ·have h3 : ¬ (litAt r lit).kind = 4 := by simpa [litAt] using h3
  rw [scopeB, if_neg h2, if_neg h3]
  refine gA rfl (zL (.of_eq ?_))
  rfl
 have h3 : (litAt r lit).kind = 4 := by simpa [litAt] using h3
 have hS : scopeB r lit = ((litAt r lit).abody.any (fun x => decide (x.kind = 4)) || inL (innerVars (litAt r lit).agg) (litAt r lit).avar) := by
  rw [scopeB, if_neg h2, if_pos h3, inL_congr (fun x => mem_inner)]
 refine gA rfl ?_
 refine go_for 0 (litAt r lit).abody.length (Nat.zero_le _) (fun i => ⟨[(6, .ptr 1 0), (7, pI i)], [(1, some (cellsI (litAt r lit).c1))], 2⟩) (fun i => ((litAt r lit).abody.take i).any (fun x => decide (x.kind = 4)) = false) [] (by simp)
  (zW (hCL rfl (litAt r lit).les1 rfl trivial)) fun i hi hJ => ?_
 refine gA rfl (zI (fun h4 => ?_) fun h4 => ?_)
 ·have h4 : i < (litAt r lit).abody.length := zN h4
  refine gA rfl (zI (fun g => ?_) fun g => ?_)
  ·rw [hS, any_hit h4 g]
   refine gA rfl (zL (.of_eq ?_))
   rfl
  ·refine gA rfl ?_
   exact ⟨h4, (any_step hJ h4).2 g, [], zW (zK trivial)⟩
 ·have h4 : (litAt r lit).abody.length ≤ i := zG h4
  rw [hS, any_none hJ h4, Bool.false_or]
  refine gA rfl (zp (Al.Pure.le (aa := [ag (litAt r lit).agg.c1]) (c80 (litAt r lit).agg (by omega)) ⟨Agg.le1' _, trivial⟩) ?_)
  refine gA rfl (zp (c81 (innerVars (litAt r lit).agg) (litAt r lit).avar) ?_)
  refine gA rfl (zL (.of_eq ?_))
  rfl
theorem atomsL_len (r : Rule) (lit : Int) (h1 : lit < r.body.length) : (atomsL r lit).length ≤ 1 + Lit.sizes r.body := by
 unfold atomsL
 split
 ·show 1 ≤ _; omega
 ·rename_i h2
  have hp := posNeg_len (litsAt r lit)
  have hsz := Lit.sizes_get r.body lit.toNat (by omega)
  have hse := (litAt r lit).size_eq
  have hsl := Lit.length_sizes (litAt r lit).abody
  have hle : (litAt r lit).size ≤ Lit.sizes r.body := hsz
  have hl : (litsAt r lit).length ≤ 1 + (litAt r lit).abody.length := by
   unfold litsAt
   split
   ·omega
   ·show 1 ≤ _; omega
  omega
theorem standL_len (r : Rule) (lit : Int) (h1 : lit < r.body.length) : (standL r lit).length ≤ 1 + r.size := by
 have h00 : r.size = r.head.terms.length + Lit.sizes r.body := rfl
 unfold standL
 split
 ·have := atomVars_len r.head; omega
 ·rename_i h2
  have hsz := Lit.sizes_get r.body lit.toNat (by omega)
  have hle : (litAt r lit).size ≤ Lit.sizes r.body := hsz
  have hag := (litAt r lit).agg_size
  split
  ·have g1 := withL_len (innerVars (litAt r lit).agg) (litAt r lit).avar
   have g2 := innerVars_len (litAt r lit).agg
   omega
  ·have := plainVars_len (litAt r lit); omega
theorem c165 (r : Rule) (lit : Int) (h1 : lit < r.body.length) (hb : r.size ≤ 100000000) : Pure Tryz.prog 165 [ag r.c, pI lit] (pB (looseB r lit)) := by
 have hbl := Lit.length_sizes r.body
 have h0 : Lit.sizes r.body ≤ r.size := Nat.le_add_left _ _
 have h00 : r.size = r.head.terms.length + Lit.sizes r.body := rfl
 rw [← loose_eq r lit h1]
 refine pure_end tyA_ok Tryz.func165 rfl (by decide) Tryz.ntmps165 rfl (by simp) rfl ?_
 refine gA rfl (zp (c30 r (by omega)) ?_)
 refine gA rfl (zp (c32 r (by omega)) ?_)
 refine gM 2 rfl (go_cut 3 (fun (_ : Unit) => ⟨[(5, .iv (strs (outer r))), (6, .iv (strs (limitedL r))), (7, .iv (strs (standL r lit))), (8, .iv (strs (knownL r lit)))], [], 1⟩) rfl ?_ ?_)
 ·refine gA rfl (zI (fun h2 => ?_) fun h2 => ?_)
  ·have h2 : lit < 0 := zT h2
   have hS : standL r lit = atomVars r.head := if_pos h2
   have hK : knownL r lit = [] := if_pos h2
   rw [hS, hK]
   refine gA rfl (zp (c69 r.head (by omega)) ?_)
   refine gA rfl (cut_at () [] (zM ⟨.refl _, rfl, .refl _, rfl, .refl _, rfl, .nil _ _, rfl, trivial⟩ trivial))
  have h2 : ¬ lit < 0 := zF h2
  have hk : lit.toNat < r.body.length := by omega
  have hsz := Lit.sizes_get r.body lit.toNat hk
  have hag := (litAt r lit).agg_size
  have hle : (litAt r lit).size ≤ Lit.sizes r.body := hsz
  refine gA rfl (zp (c70 (litAt r lit) (by omega)) ?_)
  refine gA rfl (zI (fun h3 => ?_) fun h3 => ?_)
  ·have h3 : (litAt r lit).kind = 4 := zT h3
   have hS : standL r lit = withL (innerVars (litAt r lit).agg) (litAt r lit).avar := by unfold standL; rw [if_neg h2, if_pos h3]
   have hK : knownL r lit = limitedInL r lit := by unfold knownL; rw [if_neg h2, if_pos h3]
   have hil := innerVars_len (litAt r lit).agg
   rw [hS, hK]
   refine gA rfl (zp (c80 (litAt r lit).agg (by omega)) ?_)
   refine gA rfl (zp (c72 (innerVars (litAt r lit).agg) (litAt r lit).avar (by omega)) ?_)
   refine gA rfl (zp (c196 r lit (by omega) h1 (by omega)) ?_)
   refine gA rfl (cut_at () [] (zW trivial))
  ·have h3 : ¬ (litAt r lit).kind = 4 := zF h3
   have hS : standL r lit = plainVars (litAt r lit) := by unfold standL; rw [if_neg h2, if_neg h3]
   have hK : knownL r lit = [] := by unfold knownL; rw [if_neg h2, if_neg h3]
   rw [hS, hK]
   refine gA rfl (cut_at () [] (zM ⟨.refl _, rfl, .refl _, rfl, .refl _, rfl, .nil _ _, rfl, trivial⟩ trivial))
 rintro ⟨⟩
 have hsl := standL_len r lit h1
 have hL : looseR r lit = (standL r lit).any (freeB r (knownL r lit)) := rfl
 rw [hL]
 generalize standL r lit = S at *
 generalize knownL r lit = K at *
 refine gA rfl ?_
 refine go_for 0 S.length (Nat.zero_le _) (fun i => ⟨[(5, .iv (strs (outer r))), (6, .iv (strs (limitedL r))), (7, .iv (strs S)), (8, .iv (strs K)), (10, pI i)], [], 1⟩) (fun i => (S.take i).any (freeB r K) = false) [] (by simp)
  (zW trivial) fun i hi hJ => ?_
 refine gA rfl (zI (fun h4 => ?_) fun h4 => ?_)
 rotate_left
 ·have h4 : S.length ≤ i := zG h4
  rw [any_none hJ h4]
  refine gA rfl (zL (.of_eq ?_))
  rfl
 have h4 : i < S.length := zN h4
 have hF : freeB r K (S.getD i default) = !(if inL (outer r) (S.getD i default) = true then inL (limitedL r) (S.getD i default) else inL K (S.getD i default)) := rfl
 refine gA rfl (zp (c81 (outer r) (S.getD i default)) ?_)
 refine gA rfl (zp (c81 (limitedL r) (S.getD i default)) ?_)
 refine gA rfl (zI (fun g => ?_) fun g => ?_)
 ·have g : inL (outer r) (S.getD i default) = false := by simpa using g
  rw [if_neg (by rw [g]; decide)] at hF
  refine gA rfl (zp (c81 K (S.getD i default)) ?_)
  refine gA rfl (zI (fun q => ?_) fun q => ?_)
  ·rw [any_hit h4 (hF.trans q)]
   refine gA rfl (zL (.of_eq ?_))
   rfl
  ·refine gA rfl ?_
   exact ⟨h4, (any_step hJ h4).2 (hF.trans q), [], zW trivial⟩
 ·have g : inL (outer r) (S.getD i default) = true := by simpa using g
  rw [if_pos g] at hF
  refine gA rfl (zI (fun q => ?_) fun q => ?_)
  ·rw [any_hit h4 (hF.trans q)]
   refine gA rfl (zL (.of_eq ?_))
   rfl
  ·refine gA rfl ?_
   exact ⟨h4, (any_step hJ h4).2 (hF.trans q), [], zW trivial⟩
def varsN (r : Rule) : Nat → Nat
 | 0 => (outer r).length
 | i + 1 => varsN r i + (localL r i).length
theorem local_len (r : Rule) (i : Nat) (h : i < r.body.length) : (localL r i).length = locLen r (r.body.getD i default) := by
 have e : litAt r i = r.body.getD i default := rfl
 rw [← told_local, locOut, locLen, e]
 by_cases k4 : (r.body.getD i default).kind = 4
 ·rw [if_neg (by rintro (g | g | g) <;> omega), if_pos k4, toldM, sortB_len, List.length_map]
 ·rw [if_pos (.inr (.inr k4)), if_neg k4]; rfl
theorem varsN_eq (r : Rule) : ∀ i, i ≤ r.body.length → varsN r i = (r.body.take i).foldl (fun n l => n + locLen r l) (occM (outerOcc r)).length
 | 0, _ => by
  show (outer r).length = (occM (outerOcc r)).length
  rw [← told_outer, toldM, sortB_len, List.length_map]
 | i + 1, h => by
  rw [varsN, varsN_eq r i (by omega), local_len r i (by omega), fold_step (g := fun n l => n + locLen r l) (show i < r.body.length by omega)]
theorem c123 (r : Rule) (hb : r.size ≤ 100000000) : Pure Tryz.prog 123 [ag r.c] (pI (sizeN r)) := by
 have hbl := Lit.length_sizes r.body
 have h0 : Lit.sizes r.body ≤ r.size := Nat.le_add_left _ _
 have ho := outerOcc_len r
 have ho2 := occM_len (outerOcc r)
 refine pure_end tyA_ok Tryz.func123 rfl (by decide) Tryz.ntmps123 rfl (by simp) rfl ?_
 refine gA rfl (zp (c30 r (by omega)) ?_)
 refine gA rfl ?_
 refine go_for 0 r.body.length (Nat.zero_le _) (fun i => ⟨[(1, .ptr 0 0), (4, pI (varsN r i : Nat)), (5, pI i)], [(0, some (cellsI r.c))], 1⟩) (fun _ => True) [] trivial
  (zW (zK trivial)) fun i hi _ => ?_
 have hv := varsN_eq r i hi
 have hs1 := sizeN_le r (r.body.take i) (occM (outerOcc r)).length
 have hs2 := Lit.sizes_take r.body i
 refine gA rfl (zI (fun h1 => ?_) fun h1 => ?_)
 ·have h1 : i < r.body.length := zN h1
  have hsz := Lit.sizes_get r.body i h1
  have hll := locLen_le r (r.body.getD i default)
  have hlc := local_len r i h1
  refine gA rfl (zp (c36 r i (by omega)) ?_)
  refine gA rfl ?_
  exact ⟨h1, trivial, [], zM ⟨.refl _, rfl, .of_eq (pIE (by show _ = ((varsN r i + (localL r i).length : Nat) : Int); omega)), rfl, .refl _, rfl, trivial⟩ (zK trivial)⟩
 ·have h1 : r.body.length ≤ i := zG h1
  have hie : i = r.body.length := by omega
  subst hie
  have e : varsN r r.body.length = sizeN r := by rw [hv, List.take_of_length_le (Nat.le_refl _)]; rfl
  rw [← e]
  refine gA rfl (zL (.of_eq ?_))
  rfl
theorem c67 (r : Rule) (n : Int) (hb : r.size ≤ 100000000) : Pure Tryz.prog 67 [ag r.c, pI n] (ag (limD r n).c) := by
 have hbl := Lit.length_sizes r.body
 have h0 : Lit.sizes r.body ≤ r.size := Nat.le_add_left _ _
 refine pure_end tyA_ok Tryz.func67 rfl (by decide) Tryz.ntmps67 rfl (by simp) rfl ?_
 refine gA rfl (zI (fun g1 => ?_) fun g1 => ?_)
 rotate_left
 ·have g1 : n > 256 := zT g1
  rw [limD, if_pos (.inl g1)]
  repeat (refine gA rfl (zI (fun q => ?_) (fun q => ?_)); all_goals (try (simp at q; done)))
  refine gA rfl (zp (c83 66 r.at_) ?_)
  refine gA rfl (zL (.of_eq ?_))
  rfl
 have g1 : ¬ n > 256 := zF g1
 refine gA rfl (zI (fun g2 => ?_) fun g2 => ?_)
 ·have g2 : (r.body.length : Int) > 12 := zT g2
  rw [limD, if_pos (.inr g2)]
  refine gA rfl (zp (c83 66 r.at_) ?_)
  refine gA rfl (zL (.of_eq ?_))
  rfl
 have g2 : ¬ (r.body.length : Int) > 12 := zF g2
 refine gA rfl (zp (c123 r hb) ?_)
 refine gA rfl (zI (fun g3 => ?_) fun g3 => ?_)
 ·have g3 : (sizeN r : Int) > 24 := zT g3
  rw [limD, if_neg (by omega), if_pos g3]
  refine gA rfl (zp (c83 66 r.at_) ?_)
  refine gA rfl (zL (.of_eq ?_))
  rfl
 have g3 : ¬ (sizeN r : Int) > 24 := zF g3
 have hL : limD r n = match r.body.find? wideB with
  | some l => (66, l.at)
  | none => Diag.z := by rw [limD, if_neg (by omega), if_neg g3]; rfl
 refine gA rfl ?_
 refine go_for 0 r.body.length (Nat.zero_le _) (fun i => ⟨[(2, .ptr 0 0), (4, .ptr 1 0), (6, pI i)], [(0, some (cellsI r.c)), (1, some (cellsI Diag.z.c))], 2⟩) (fun i => (r.body.take i).any wideB = false) [] (by simp)
  (zW (zK (zK trivial))) fun i hi hJ => ?_
 refine gA rfl (zI (fun h1 => ?_) fun h1 => ?_)
 rotate_left
 ·have h1 : r.body.length ≤ i := zG h1
  rw [hL, find_none (any_none hJ h1)]
  refine gA rfl (zL (.of_eq ?_))
  rfl
 have h1 : i < r.body.length := zN h1
 have hW : wideB (r.body.getD i default) = (decide ((r.body.getD i default).kind = 4) && decide (((r.body.getD i default).abody.length : Int) > 12)) := rfl
 refine gA rfl (zI (fun k4 => ?_) fun k4 => ?_)
 rotate_left
 ·have k4 : decide ((r.body.getD i default).kind = 4) = false := k4
  rw [k4, Bool.false_and] at hW
  repeat (refine gA rfl (zI (fun q => ?_) (fun q => ?_)); all_goals (try (simp at q; done)))
  refine gA rfl ?_
  exact ⟨h1, (any_step hJ h1).2 hW, [], zW (zK (zK trivial))⟩
 have k4 : decide ((r.body.getD i default).kind = 4) = true := k4
 rw [k4, Bool.true_and] at hW
 refine gA rfl (zI (fun w => ?_) fun w => ?_)
 ·rw [hL, find_hit hJ h1 (hW.trans w)]
  refine gA rfl (zp (c83 66 (r.body.getD i default).at) ?_)
  refine gA rfl (zL (.of_eq ?_))
  rfl
 ·refine gA rfl ?_
  exact ⟨h1, (any_step hJ h1).2 (hW.trans w), [], zW (zK (zK trivial))⟩
def wrongR (p : Prog) (r : Rule) (e lit : Int) : Bool :=
 if e = 1 then badB r lit else if e = 61 then (atomsL r lit).any (fun x => absB p x) else if e = 62 then (atomsL r lit).any (fun x => aryB p x) else if e = 65 then scopeB r lit else if e = 64 then looseB r lit else false
theorem c121 (p : Prog) (r : Rule) (lit e : Int) (hp : p.rels.length ≤ 1000000000) (hf : r.fit) (h1 : lit < r.body.length) : Pure Tryz.prog 121 [ag p.c, ag r.c, pI lit, pI e] (pB (wrongR p r e lit)) := by
 obtain ⟨hb, hh, hB⟩ := hf
 have ha := terms_ts r.head
 have h0 : Lit.sizes r.body ≤ r.size := Nat.le_add_left _ _
 refine pure_end tyA_ok Tryz.func121 rfl (by decide) Tryz.ntmps121 rfl (by simp) rfl ?_
 refine gA rfl (zI (fun z1 => ?_) fun z1 => ?_)
 ·have z1 : e = 1 := zT z1
  have hW : wrongR p r e lit = badB r lit := if_pos z1
  rw [hW]
  refine gA rfl (zI (fun h2 => ?_) fun h2 => ?_)
  ·have h2 : lit < 0 := zT h2
   have e1 : badB r lit = (atomT r.head).2 := if_pos h2
   rw [e1]
   refine gA rfl (zp (c62 r.head hh (by omega)) ?_)
   refine gA rfl (zL (.of_eq ?_))
   refine (pBE ?_ : pB _ = pB _)
   cases (atomT r.head).2 <;> rfl
  ·have h2 : ¬ lit < 0 := zF h2
   have e1 : badB r lit = (litTx (litAt r lit)).2 := if_neg h2
   have hm : litAt r lit ∈ r.body := by
    unfold litAt
    rw [List.getD_eq_getElem?_getD, List.getElem?_eq_getElem (show lit.toNat < r.body.length by omega)]; exact List.getElem_mem _
   rw [e1]
   refine gA rfl (go_pure (c162 (litAt r lit) (hB _ hm)) rfl rfl rfl rfl rfl rfl ?_)
   refine gA rfl (zL (.of_eq ?_))
   refine (pBE ?_ : pB _ = pB _)
   cases (litTx (litAt r lit)).2 <;> rfl
 have z1 : ¬ e = 1 := zF z1
 refine gA rfl (zI (fun z2 => ?_) fun z2 => ?_)
 ·have z2 : e = 61 := zT z2
  have hW : wrongR p r e lit = (atomsL r lit).any (fun x => absB p x) := by unfold wrongR; rw [if_neg z1, if_pos z2]
  rw [hW]
  refine gA rfl (zp (c163 r lit h1 (by omega)) ?_)
  refine gA rfl ?_
  have hal := atomsL_len r lit h1
  generalize atomsL r lit = L at *
  refine go_for 0 L.length (Nat.zero_le _) (fun i => ⟨[(3, pI e), (4, .ptr 0 0), (11, .iv (slc 2 L Atom.c)), (12, pI i)], [(0, some (cellsI p.c))], 2⟩) (fun i => (L.take i).any (fun x => absB p x) = false) [] (by simp)
   (zW (zK trivial)) fun i hi hJ => ?_
  refine gA rfl (zI (fun h4 => ?_) fun h4 => ?_)
  rotate_left
  ·have h4 : L.length ≤ i := zG h4
   rw [any_none hJ h4]
   refine gA rfl (zL (.of_eq ?_))
   rfl
  have h4 : i < L.length := zN h4
  refine gA rfl (zdp (c57 p (L.getD i default).rel (by omega)) ?_)
  refine gA rfl (zI (fun y1 => ?_) fun y1 => ?_)
  ·refine gA rfl (zI (fun y2 => ?_) fun y2 => ?_)
   ·rw [any_hit h4 (show absB p (L.getD i default) = true from y2)]
    repeat (refine gA rfl (zI (fun q => ?_) (fun q => ?_)); all_goals (try (simp at q; done)))
    refine gA rfl (zL (.of_eq ?_))
    rfl
   ·refine gA rfl (zI (fun y3 => ?_) fun y3 => ?_)
    ·exact absurd (zT y3) (by omega)
    repeat (refine gA rfl (zI (fun q => ?_) (fun q => ?_)); all_goals (try (simp at q; done)))
    refine gA rfl ?_
    exact ⟨h4, (any_step hJ h4).2 y2, [], zW (zK trivial)⟩
  ·exact absurd z2 (zF y1)
 have z2 : ¬ e = 61 := zF z2
 refine gA rfl (zI (fun z3 => ?_) fun z3 => ?_)
 ·have z3 : e = 62 := zT z3
  have hW : wrongR p r e lit = (atomsL r lit).any (fun x => aryB p x) := by unfold wrongR; rw [if_neg z1, if_neg z2, if_pos z3]
  rw [hW]
  refine gA rfl (zp (c163 r lit h1 (by omega)) ?_)
  refine gA rfl ?_
  have hal := atomsL_len r lit h1
  generalize atomsL r lit = L at *
  refine go_for 0 L.length (Nat.zero_le _) (fun i => ⟨[(3, pI e), (4, .ptr 0 0), (11, .iv (slc 2 L Atom.c)), (12, pI i)], [(0, some (cellsI p.c))], 2⟩) (fun i => (L.take i).any (fun x => aryB p x) = false) [] (by simp)
   (zW (zK trivial)) fun i hi hJ => ?_
  refine gA rfl (zI (fun h4 => ?_) fun h4 => ?_)
  rotate_left
  ·have h4 : L.length ≤ i := zG h4
   rw [any_none hJ h4]
   refine gA rfl (zL (.of_eq ?_))
   rfl
  have h4 : i < L.length := zN h4
  refine gA rfl (zdp (c57 p (L.getD i default).rel (by omega)) ?_)
  refine gA rfl (zI (fun y1 => ?_) fun y1 => ?_)
  ·exact absurd (zT y1) z2
  refine gA rfl (zI (fun y3 => ?_) fun y3 => ?_)
  ·refine gA rfl (zI (fun y4 => ?_) fun y4 => ?_)
   ·rw [any_hit h4 (show aryB p (L.getD i default) = true from y4)]
    refine gA rfl (zL (.of_eq ?_))
    rfl
   ·refine gA rfl ?_
    exact ⟨h4, (any_step hJ h4).2 y4, [], zW (zK trivial)⟩
  ·exact absurd z3 (zF y3)
 have z3 : ¬ e = 62 := zF z3
 refine gA rfl (zI (fun z4 => ?_) fun z4 => ?_)
 ·have z4 : e = 65 := zT z4
  have hW : wrongR p r e lit = scopeB r lit := by unfold wrongR; rw [if_neg z1, if_neg z2, if_neg z3, if_pos z4]
  rw [hW]
  refine gA rfl (zp (c164 r lit h1 (by omega)) ?_)
  refine gA rfl (zL (.of_eq ?_))
  rfl
 have z4 : ¬ e = 65 := zF z4
 refine gA rfl (zI (fun z5 => ?_) fun z5 => ?_)
 ·have z5 : e = 64 := zT z5
  have hW : wrongR p r e lit = looseB r lit := by unfold wrongR; rw [if_neg z1, if_neg z2, if_neg z3, if_neg z4, if_pos z5]
  rw [hW]
  refine gA rfl (zp (c165 r lit h1 (by omega)) ?_)
  refine gA rfl (zL (.of_eq ?_))
  rfl
 ·have z5 : ¬ e = 64 := zF z5
  have hW : wrongR p r e lit = false := by unfold wrongR; rw [if_neg z1, if_neg z2, if_neg z3, if_neg z4, if_neg z5]
  rw [hW]
  refine gA rfl (zL (.of_eq ?_))
  rfl
theorem c66 (p : Prog) (r : Rule) (e : Int) (hp : p.rels.length ≤ 1000000000) (hf : r.fit) : Pure Tryz.prog 66 [ag p.c, ag r.c, pI e] (ag (lookD r e (wrongR p r e) Diag.z).c) := by
 have hbl := Lit.length_sizes r.body
 have h0 : Lit.sizes r.body ≤ r.size := Nat.le_add_left _ _
 have hfb := hf.1
 have hll := litsN_len r.body.length
 refine pure_end tyA_ok Tryz.func66 rfl (by decide) Tryz.ntmps66 rfl (by simp) rfl ?_
 refine gA rfl ?_
 refine go_for 0 (r.body.length + 1) (Nat.zero_le _) (fun i => ⟨[(2, pI e), (3, .ptr 0 0), (4, .ptr 1 0), (6, .ptr 2 0), (7, pI ((i : Int) - 1))], [(0, some (cellsI p.c)), (1, some (cellsI r.c)), (2, some (cellsI Diag.z.c))], 3⟩) (fun i => ((litsN r.body.length).take i).any (wrongR p r e) = false) [] (by simp)
  (zW (zK (zK (zK trivial)))) fun i hi hJ => ?_
 refine gA rfl (zI (fun h1 => ?_) fun h1 => ?_)
 rotate_left
 ·have h1 : ¬ (i : Int) - 1 < (r.body.length : Int) := zF h1
  have e0 : lookD r e (wrongR p r e) Diag.z = Diag.z := by
   unfold lookD firstL
   rw [find_none (any_none hJ (by omega))]
  rw [e0]
  refine gA rfl (zL (.of_eq ?_))
  rfl
 have h1 : (i : Int) - 1 < (r.body.length : Int) := zT h1
 have hg := litsN_get r.body.length i (by omega)
 refine gA rfl (zp (c121 p r ((i : Int) - 1) e hp hf h1) ?_)
 refine gA rfl (zI (fun g => ?_) fun g => ?_)
 ·rw [look_hit hJ (by omega) g]
  refine gA rfl (zp (c122 r ((i : Int) - 1) h1) ?_)
  refine gA rfl (zp (c83 e (placeL r ((i : Int) - 1))) ?_)
  refine gA rfl (zL (.of_eq ?_))
  rfl
 ·refine gA rfl ?_
  exact ⟨by omega, (any_step hJ (by omega)).2 (by rw [hg]; exact g), [], zM ⟨.refl _, rfl, .refl _, rfl, .refl _, rfl, .refl _, rfl, .of_eq (pIE (by omega)), rfl, trivial⟩ (zK (zK (zK trivial)))⟩
theorem relF_len (p : Prog) : ∀ i, (relF p i).length ≤ i
 | 0 => Nat.le_refl _
 | i + 1 => by
  have := relF_len p i
  unfold relF
  split <;> simp <;> omega
theorem rulF_len (p : Prog) : ∀ i, (rulF p i).length ≤ i
 | 0 => Nat.le_refl _
 | i + 1 => by
  have := rulF_len p i
  unfold rulF
  split <;> simp <;> omega
theorem diag_snoc (l : List Diag) (d : Diag) : (l.map fun x => x.c.map PV.iv) ++ [d.c.map .iv] = (l ++ [d]).map fun x => x.c.map PV.iv := by rw [List.map_append]; rfl
theorem rows_diag (σ : Nat → Nat) (l : List Diag) : (l.map fun x => x.c.map PV.iv).map (renL σ) = l.map fun x => x.c.map PV.iv := by
 rw [List.map_map]
 exact List.map_congr_left fun x _ => renL_iv σ _
theorem rows_frzM (i : Nat) (y : IV) (l : List Diag) : (l.map fun x => x.c.map PV.iv).map (frzML i y) = l.map fun x => x.c.map PV.iv := by
 rw [List.map_map]
 exact List.map_congr_left fun x _ => rfl
theorem d84 (d : Diag) (l : List Diag) (hb : l.length ≤ 10000000000) : Det Tryz.prog 84 [ag d.c, .ptr 0 0] [.cells [.sl 1 0 l.length 3], rowI 3 l Diag.c] (pB true) [(0, some (.cells [.sl 2 0 (l.length + 1) 3])), (2, some (rowI 3 (l ++ [d]) Diag.c))] 3 := by
 refine det_end tyA_ok Tryz.func84 rfl (by decide) Tryz.ntmps84 rfl (by simp) ?_
 refine gA rfl (end_det [4] (by first | exact .inr rfl | exact .inl rfl) rfl (zW (zO (hR rfl (diag_snoc l d) rfl trivial))))
theorem d63B (p : Prog) (hb : p.fit) : Det Tryz.prog 63 [ag p.c, .clo (.func 84) [] [.ptr 0 0]] [.cells [.sl 1 0 0 3], rowI 3 [] Diag.c] (.tup []) [(0, some (.cells [.sl 2 0 (faultsD p).length 3])), (2, some (rowI 3 (faultsD p) Diag.c))] 3 := by
 obtain ⟨hb1, hb2, hb3⟩ := hb
 refine det_end tyA_ok Tryz.func63 rfl (by decide) Tryz.ntmps63 rfl (by simp) ?_
 refine gA rfl ?_
 refine go_for 0 p.rels.length (Nat.zero_le _) (fun i => ⟨[(1, .clo (.func 84) [] [.ptr 0 0]), (2, .ptr 2 0), (4, .mp 3), (13, .iv (slc 4 p.rels Decl.c)), (14, pI p.rels.length), (15, pI i)], [(0, some (.cells [.sl 4 0 (relF p i).length 3])), (2, some (cellsI p.c)), (3, some (nmO (occM (relName p i)))), (4, some (rowI 3 (relF p i) Diag.c))], 5⟩) (fun _ => True) [1] trivial
  (zW (zO ⟨⟨_, rfl, .of_eq rfl⟩, Nat.le_of_ble_eq_true rfl, rfl, hM0 rfl evI_zero rfl (zS trivial)⟩)) fun i hi _ => ?_
 refine gA rfl (zI (fun h1 => ?_) fun h1 => ?_)
 ·have h1 : i < p.rels.length := zN h1
  have hl := relName_lk p i (p.rels.getD i default).name
  have hn := relName_step h1
  have hrl := relF_len p i
  refine gA rfl (zp (c107 (p.rels.getD i default) i (lkD .str (occM (relName p i)) (p.rels.getD i default).name 0)) ?_)
  refine gA rfl (zI (fun g => ?_) fun g => ?_)
  ·have g : ¬ relFault p i = 0 := by
    have g : (!decide (relFault p i = 0)) = true := g
    simpa only [Bool.not_eq_true', decide_eq_false_iff_not] using g
   refine gA rfl (go_det [0, 4] (d84 (relFault p i, (p.rels.getD i default).at_) (relF p i) (by omega)) rfl rfl rfl rfl rfl (congrArg (fun o => [some (AO.cells [.sl 4 0 (relF p i).length 3]), some o]) (rowI_ren _).symm) rfl rfl ?_)
   refine gA rfl (zI (fun q => ?_) fun q => ?_)
   ·cases q
   have hr : relF p (i + 1) = relF p i ++ [(relFault p i, (p.rels.getD i default).at_)] := by rw [relF, if_neg g]
   refine gA rfl ?_
   rw [hr]
   exact ⟨h1, trivial, [6], zW ⟨⟨_, rfl, .of_eq (by rw [List.length_append]; rfl)⟩, Nat.le_of_ble_eq_true rfl, rfl, (zO (hM rfl (by rw [hn]; rfl) rfl (hR rfl (rows_diag _ _) rfl trivial)))⟩⟩
  ·have g : relFault p i = 0 := by
    have g : (!decide (relFault p i = 0)) = false := g
    simpa only [Bool.not_eq_false', decide_eq_true_eq] using g
   have hr : relF p (i + 1) = relF p i := by rw [relF, if_pos g, List.append_nil]
   refine gA rfl ?_
   rw [hr]
   exact ⟨h1, trivial, [4], zW (zO (zO (hM rfl (by rw [hn]; rfl) rfl (zS trivial))))⟩
 have h1 : p.rels.length ≤ i := zG h1
 have hie : i = p.rels.length := by omega
 subst hie
 have hrl := relF_len p p.rels.length
 refine gA rfl (zq [] (d50 p (by omega)) ?_)
 refine gA rfl ?_
 refine go_frzM 5 rfl ?_
 refine go_for 0 p.rules.length (Nat.zero_le _) (fun i => ⟨[(1, .clo (.func 84) [] [.ptr 0 0]), (2, .ptr 2 0), (8, .iv (relsI p)), (47, .iv (slc 5 p.rules Rule.c)), (48, pI p.rules.length), (49, pI i)], [(0, some (.cells [.sl 6 0 (relF p p.rels.length ++ rulF p i).length 3])), (2, some (cellsI p.c)), (6, some (rowI 3 (relF p p.rels.length ++ rulF p i) Diag.c))], 7⟩) (fun _ => True) [4] trivial
  (zW ⟨⟨_, rfl, .of_eq (by rw [List.length_append]; rfl)⟩, Nat.le_of_ble_eq_true rfl, rfl, (zO (hR rfl (by rw [rulF, List.append_nil]; exact rows_frzM _ _ _) rfl trivial))⟩) fun i hi _ => ?_
 refine gA rfl (zI (fun h2 => ?_) fun h2 => ?_)
 ·have h2 : i < p.rules.length := zN h2
  have hm : p.rules.getD i default ∈ p.rules := by rw [List.getD_eq_getElem?_getD, List.getElem?_eq_getElem h2]; exact List.getElem_mem h2
  have hul := rulF_len p i
  refine gA rfl (go_pure (c65 p (p.rules.getD i default) ((i : Int) + 1) (hb3 _ hm)) rfl rfl rfl rfl rfl rfl ?_)
  refine gA rfl (zI (fun g => ?_) fun g => ?_)
  ·have g : ¬ (rulD p i).1 = 0 := by
    have g : (!decide ((rulD p i).1 = 0)) = true := g
    simpa only [Bool.not_eq_true', decide_eq_false_iff_not] using g
   refine gA rfl (go_det [0, 6] (d84 (rulD p i) (relF p p.rels.length ++ rulF p i) (by rw [List.length_append]; omega)) rfl rfl rfl rfl rfl (congrArg (fun o => [some (AO.cells [.sl 6 0 (relF p p.rels.length ++ rulF p i).length 3]), some o]) (rowI_ren _).symm) rfl rfl ?_)
   refine gA rfl (zI (fun q => ?_) fun q => ?_)
   ·cases q
   have hr : relF p p.rels.length ++ rulF p (i + 1) = (relF p p.rels.length ++ rulF p i) ++ [rulD p i] := by rw [rulF, if_neg g, List.append_assoc]
   refine gA rfl ?_
   rw [hr]
   exact ⟨h2, trivial, [8], zW ⟨⟨_, rfl, .of_eq (by rw [show ((relF p p.rels.length ++ rulF p i) ++ [rulD p i]).length = (relF p p.rels.length ++ rulF p i).length + 1 from List.length_append]; rfl)⟩, Nat.le_of_ble_eq_true rfl, rfl, (zO (hR rfl (rows_diag _ _) rfl trivial))⟩⟩
  ·have g : (rulD p i).1 = 0 := by
    have g : (!decide ((rulD p i).1 = 0)) = false := g
    simpa only [Bool.not_eq_false', decide_eq_true_eq] using g
   have hr : rulF p (i + 1) = rulF p i := by rw [rulF, if_pos g, List.append_nil]
   refine gA rfl ?_
   rw [hr]
   exact ⟨h2, trivial, [6], zW (zO (zO (zS trivial)))⟩
 have h2 : p.rules.length ≤ i := zG h2
 have hie : i = p.rules.length := by omega
 subst hie
 refine gA rfl (end_det [6] (by first | exact .inr rfl | exact .inl rfl) rfl (zW (zO (zS trivial))))
theorem c42 (p : Prog) (hb : p.fit) : Pure Tryz.prog 42 [ag p.c] (.iv (slc 3 (faultsD p) Diag.c)) := by
 refine pure_end tyA_ok Tryz.func42 rfl (by decide) Tryz.ntmps42 rfl (by simp) rfl ?_
 refine gM 9 rfl ?_
 refine go_virtC 1 0 3 rfl rfl ?_
 refine gA rfl (zq [1, 2] (d63B p hb) ?_)
 refine gA rfl (end_row (by first | exact .inr rfl | exact .inl rfl) rfl rfl ((rows_diag _ _)) (rfl))
theorem rel_dup (p : Prog) (i : Nat) (s : Str) : lkD .str (occM (relName p i)) s 0 > 0 ↔ s ∈ relName p i := by
 rw [occM_lk]
 constructor
 ·intro h; exact cntL_pos.1 (by omega)
 ·intro h; have := cntL_pos.2 h; omega
theorem rel_any (p : Prog) (i : Nat) (s : Str) : ((p.rels.take i).any fun d => decide (d.name = s)) = true ↔ s ∈ relName p i := by
 unfold relName
 rw [List.any_eq_true, List.mem_map]
 constructor
 ·rintro ⟨d, h1, h2⟩; exact ⟨d, h1, zT h2⟩
 ·rintro ⟨d, h1, h2⟩; exact ⟨d, h1, decide_eq_true h2⟩
def okTy (x : Int) : Bool := decide (x = 1) || decide (x = 2)
def okRel (d : Decl) (k : Nat) : Bool := nameB d.name && (d.types.take k).all okTy
theorem okRel_step {d : Decl} {k : Nat} (h : k < d.types.length) : okRel d (k + 1) = (okRel d k && okTy (d.types.getD k default)) := by
 unfold okRel
 rw [take_step h, List.all_append, ← Bool.and_assoc]
 simp
theorem okRel_all (d : Decl) : okRel d d.types.length = false ↔ ((d.types.any fun x => !decide (x = 1) && !decide (x = 2)) = true ∨ nameB d.name = false) := by
 unfold okRel
 rw [List.take_of_length_le (Nat.le_refl _), Bool.and_eq_false_iff]
 have : d.types.all okTy = false ↔ (d.types.any fun x => !decide (x = 1) && !decide (x = 2)) = true := by
  rw [List.all_eq_false, List.any_eq_true]
  constructor
  ·rintro ⟨x, h1, h2⟩
   refine ⟨x, h1, ?_⟩
   unfold okTy at h2
   simpa using h2
  ·rintro ⟨x, h1, h2⟩
   refine ⟨x, h1, ?_⟩
   unfold okTy
   simpa using h2
 rw [this]
 exact Or.comm
theorem c82 (p : Prog) (i : Nat) (hi : i < p.rels.length) (hs : p.size ≤ 10000000) : Pure Tryz.prog 82 [ag p.c, pI i] (pI (relFault p i)) := by
 have hpl : p.rels.length ≤ p.size := by unfold Prog.size; omega
 have htl : (p.rels.getD i default).types.length ≤ p.size := by
  have := sum_get (fun d : Decl => d.types.length) p.rels i hi
  unfold Prog.size
  have h2 : (p.rels.getD i default).types.length ≤ (p.rels.map fun d => d.types.length).sum := this
  omega
 have hR : relFault p i = if (((p.rels.getD i default).types.any fun x => !decide (x = 1) && !decide (x = 2)) = true ∨ nameB (p.rels.getD i default).name = false) then 1 else if (i : Int) ≥ 64 ∨ ((p.rels.getD i default).types.length : Int) > 8 then 66 else if lkD .str (occM (relName p i)) (p.rels.getD i default).name 0 > 0 then 60 else 0 := rfl
 have hA := okRel_all (p.rels.getD i default)
 have hD := rel_dup p i (p.rels.getD i default).name
 have hN := rel_any p i (p.rels.getD i default).name
 refine pure_end tyA_ok Tryz.func82 rfl (by decide) Tryz.ntmps82 rfl (by simp) rfl ?_
 refine gA rfl (zp (c56 (p.rels.getD i default).name) ?_)
 refine gA rfl ?_
 refine go_for 0 (p.rels.getD i default).types.length (Nat.zero_le _) (fun k => ⟨[(1, pI i), (2, .ptr 0 0), (5, .ptr 1 0), (6, pB (okRel (p.rels.getD i default) k)), (7, pI k)], [(0, some (cellsI p.c)), (1, some (cellsI (p.rels.getD i default).c))], 2⟩) (fun _ => True) [] trivial
  (zM ⟨.refl _, rfl, .refl _, rfl, .refl _, rfl, .of_eq (pBE (by unfold okRel; simp)), rfl, .refl _, rfl, trivial⟩ (zK (zK trivial))) fun k hk _ => ?_
 refine gA rfl (zI (fun h1 => ?_) fun h1 => ?_)
 ·have h1 : k < (p.rels.getD i default).types.length := zN h1
  have hst := okRel_step h1
  repeat' (first
   | (refine gA rfl (zI (fun q => ?_) (fun q => ?_)))
   | fail)
  all_goals (refine gA rfl ?_)
  all_goals first
   | exact ⟨h1, trivial, [], zM ⟨.refl _, rfl, .refl _, rfl, .refl _, rfl, .of_eq (pBE (by rw [hst]; unfold okTy; simp_all)), rfl, .refl _, rfl, trivial⟩ (zK (zK trivial))⟩
   | exact ⟨h1, trivial, [], zM ⟨.refl _, rfl, .refl _, rfl, .refl _, rfl, .kb' (by rw [hst]; unfold okTy; simp_all), rfl, .refl _, rfl, trivial⟩ (zK (zK trivial))⟩
 have h1 : (p.rels.getD i default).types.length ≤ k := zG h1
 have hke : k = (p.rels.getD i default).types.length := by omega
 subst hke
 refine gA rfl (zI (fun g1 => ?_) fun g1 => ?_)
 ·have g1 : okRel (p.rels.getD i default) (p.rels.getD i default).types.length = false := by simpa using g1
  rw [hR, if_pos (hA.1 g1)]
  refine gA rfl (zL (.of_eq ?_))
  rfl
 have g1 : ¬ okRel (p.rels.getD i default) (p.rels.getD i default).types.length = false := by
  intro h
  rw [h] at g1; simp at g1
 rw [if_neg fun h => g1 (hA.2 h)] at hR
 refine gA rfl (zI (fun g2 => ?_) fun g2 => ?_)
 rotate_left
 ·have g2 : (i : Int) ≥ 64 := zT g2
  rw [hR, if_pos (.inl g2)]
  repeat (refine gA rfl (zI (fun q => ?_) (fun q => ?_)); all_goals (try (simp at q; done)))
  refine gA rfl (zL (.of_eq ?_))
  rfl
 have g2 : ¬ (i : Int) ≥ 64 := zF g2
 refine gA rfl (zI (fun g3 => ?_) fun g3 => ?_)
 ·have g3 : ((p.rels.getD i default).types.length : Int) > 8 := zT g3
  rw [hR, if_pos (.inr g3)]
  refine gA rfl (zL (.of_eq ?_))
  rfl
 have g3 : ¬ ((p.rels.getD i default).types.length : Int) > 8 := zF g3
 rw [if_neg (by omega)] at hR
 refine gA rfl ?_
 refine go_for 0 i (Nat.zero_le _) (fun k => ⟨[(1, pI i), (2, .ptr 0 0), (5, .ptr 1 0), (8, pI k)], [(0, some (cellsI p.c)), (1, some (cellsI (p.rels.getD i default).c))], 2⟩) (fun k => ((p.rels.take k).any fun x => decide (x.name = (p.rels.getD i default).name)) = false) [] (by simp)
  (zW (zK (zK trivial))) fun k hk hJ => ?_
 refine gA rfl (zI (fun h4 => ?_) fun h4 => ?_)
 ·have h4 : k < i := zN h4
  have hkl : k < p.rels.length := by omega
  refine gA rfl (zI (fun w => ?_) fun w => ?_)
  ·have w : decide ((p.rels.getD k default).name = (p.rels.getD i default).name) = true := w
   have hin : (p.rels.getD i default).name ∈ relName p i := by
    refine hN.1 (List.any_eq_true.2 ⟨p.rels.getD k default, ?_, w⟩)
    rw [List.getD_eq_getElem?_getD, List.getElem?_eq_getElem hkl]
    exact List.mem_take_iff_getElem.2 ⟨k, by omega, rfl⟩
   rw [hR, if_pos (hD.2 hin)]
   refine gA rfl (zL (.of_eq ?_))
   rfl
  ·have w : decide ((p.rels.getD k default).name = (p.rels.getD i default).name) = false := w
   refine gA rfl ?_
   exact ⟨h4, (any_step hJ hkl).2 w, [], zW (zK (zK trivial))⟩
 ·have h4 : i ≤ k := zG h4
  have hke : k = i := by omega
  subst hke
  rw [hR, if_neg fun h => by rw [hN.2 (hD.1 h)] at hJ; cases hJ]
  refine gA rfl (zL (.of_eq ?_))
  rfl
theorem k1 (p : Prog) (r : Rule) (hp : p.rels.length ≤ 1000000000) (hf : r.fit) : Pure Tryz.prog 66 [ag p.c, ag r.c, pI 1] (ag (Diag.c (lookD r 1 (badB r) Diag.z))) := by
 have e : wrongR p r 1 = badB r := funext fun lit => if_pos rfl
 have := c66 p r 1 hp hf
 rwa [e] at this
theorem k61 (p : Prog) (r : Rule) (hp : p.rels.length ≤ 1000000000) (hf : r.fit) : Pure Tryz.prog 66 [ag p.c, ag r.c, pI 61] (ag (Diag.c (lookD r 61 (fun lit => (atomsL r lit).any fun x => absB p x) Diag.z))) := by
 have e : wrongR p r 61 = fun lit => (atomsL r lit).any fun x => absB p x := funext fun lit => by unfold wrongR; rw [if_neg (by decide), if_pos rfl]
 have := c66 p r 61 hp hf
 rwa [e] at this
theorem k62 (p : Prog) (r : Rule) (hp : p.rels.length ≤ 1000000000) (hf : r.fit) : Pure Tryz.prog 66 [ag p.c, ag r.c, pI 62] (ag (Diag.c (lookD r 62 (fun lit => (atomsL r lit).any fun x => aryB p x) Diag.z))) := by
 have e : wrongR p r 62 = fun lit => (atomsL r lit).any fun x => aryB p x := funext fun lit => by unfold wrongR; rw [if_neg (by decide), if_neg (by decide), if_pos rfl]
 have := c66 p r 62 hp hf
 rwa [e] at this
theorem k65 (p : Prog) (r : Rule) (hp : p.rels.length ≤ 1000000000) (hf : r.fit) : Pure Tryz.prog 66 [ag p.c, ag r.c, pI 65] (ag (Diag.c (lookD r 65 (scopeB r) Diag.z))) := by
 have e : wrongR p r 65 = scopeB r := funext fun lit => by unfold wrongR; rw [if_neg (by decide), if_neg (by decide), if_neg (by decide), if_pos rfl]
 have := c66 p r 65 hp hf
 rwa [e] at this
theorem k64 (p : Prog) (r : Rule) (hp : p.rels.length ≤ 1000000000) (hf : r.fit) : Pure Tryz.prog 66 [ag p.c, ag r.c, pI 64] (ag (Diag.c (lookD r 64 (looseB r) Diag.z))) := by
 have e : wrongR p r 64 = looseB r := funext fun lit => by unfold wrongR; rw [if_neg (by decide), if_neg (by decide), if_neg (by decide), if_neg (by decide), if_pos rfl]
 have := c66 p r 64 hp hf
 rwa [e] at this
theorem orD_assoc (a b c : Diag) : orD (orD a b) c = orD a (orD b c) := by
 unfold orD
 by_cases h : a.1 = 0
 ·rw [if_pos h, if_pos h]
 ·rw [if_neg h, if_neg h, if_neg h]
set_option maxHeartbeats 2000000 in
theorem c27 (p : Prog) (n : Int) (hf : p.fit) : Pure Tryz.prog 27 [ag p.c, pI n] (ag (if n < 1 ∨ (p.rules.length : Int) < n then (1, ⟨0, 0⟩) else ruleD p (p.rules.getD (n - 1).toNat default) n : Diag).c) := by
 obtain ⟨hp, hp2, hp3⟩ := hf
 refine pure_end tyA_ok Tryz.func27 rfl (by decide) Tryz.ntmps27 rfl (by simp) rfl ?_
 refine gA rfl (zI (fun g1 => ?_) fun g1 => ?_)
 rotate_left
 ·have g1 : n < 1 := zT g1
  rw [if_pos (.inl g1)]
  repeat (refine gA rfl (zI (fun q => ?_) (fun q => ?_)); all_goals (try (simp at q; done)))
  refine gA rfl (zL (.of_eq ?_))
  rfl
 have g1 : ¬ n < 1 := zF g1
 refine gA rfl (zI (fun g2 => ?_) fun g2 => ?_)
 ·have g2 : n > (p.rules.length : Int) := zT g2
  rw [if_pos (.inr g2)]
  refine gA rfl (zL (.of_eq ?_))
  rfl
 have g2 : ¬ n > (p.rules.length : Int) := zF g2
 rw [if_neg (by omega)]
 have hlt : (n - 1).toNat < p.rules.length := by omega
 have hr : (p.rules.getD (n - 1).toNat default).fit := hp3 _ (by rw [List.getD_eq_getElem?_getD, List.getElem?_eq_getElem hlt]; exact List.getElem_mem hlt)
 have hrb := hr.1
 refine gA rfl (zp (k1 p (p.rules.getD (n - 1).toNat default) hp hr) ?_)
 generalize p.rules.getD (n - 1).toNat default = r at *
 rw [← rule_eq]
 have hR : ruleR p r n = orD (orD (orD (orD (orD (orD (lookD r 1 (badB r) Diag.z) (limD r n)) (lookD r 61 (fun lit => (atomsL r lit).any fun x => absB p x) Diag.z)) (lookD r 62 (fun lit => (atomsL r lit).any fun x => aryB p x) Diag.z)) (lookD r 65 (scopeB r) Diag.z)) (typedD r (asksK p r))) (lookD r 64 (looseB r) Diag.z) := by
  simp only [orD_assoc]; rfl
 rw [hR]
 clear hR
 generalize hD0 : lookD r 1 (badB r) Diag.z = D0 at *
 refine gM 3 rfl (go_cut 1 (fun (_ : Unit) => ⟨[(1, pI n), (2, .ptr 0 0), (4, .ptr 1 0), (5, .ptr 2 0), (6, .ptr 3 0)], [(0, some (cellsI p.c)), (1, some (cellsI Diag.z.c)), (2, some (cellsI r.c)), (3, some (cellsI (Diag.c (orD D0 (limD r n)))))], 4⟩) rfl ?_ ?_)
 ·refine gA rfl (zI (fun g => ?_) fun g => ?_)
  ·have g : Prod.fst D0 = 0 := zT g
   refine gA rfl (zp (c67 r n (by omega)) ?_)
   rw [show orD D0 (limD r n) = (limD r n) from if_pos g]
   refine gA rfl (cut_at () [] (zW (zK (zK (zK (zK trivial))))))
  ·have g : ¬ Prod.fst D0 = 0 := zF g
   rw [show orD D0 (limD r n) = D0 from if_neg g]
   refine gA rfl (cut_at () [] (zW (zK (zK (zK (zK trivial))))))
 rintro ⟨⟩
 generalize hD1 : orD D0 (limD r n) = D1 at *
 refine go_cut 1 (fun (_ : Unit) => ⟨[(1, pI n), (2, .ptr 0 0), (4, .ptr 1 0), (5, .ptr 2 0), (6, .ptr 3 0)], [(0, some (cellsI p.c)), (1, some (cellsI Diag.z.c)), (2, some (cellsI r.c)), (3, some (cellsI (Diag.c (orD D1 (lookD r 61 (fun lit => (atomsL r lit).any fun x => absB p x) Diag.z)))))], 4⟩) rfl ?_ ?_
 ·refine gA rfl (zI (fun g => ?_) fun g => ?_)
  ·have g : Prod.fst D1 = 0 := zT g
   refine gA rfl (zp (k61 p r hp hr) ?_)
   rw [show orD D1 (lookD r 61 (fun lit => (atomsL r lit).any fun x => absB p x) Diag.z) = (lookD r 61 (fun lit => (atomsL r lit).any fun x => absB p x) Diag.z) from if_pos g]
   refine gA rfl (cut_at () [] (zW (zK (zK (zK (zK trivial))))))
  ·have g : ¬ Prod.fst D1 = 0 := zF g
   rw [show orD D1 (lookD r 61 (fun lit => (atomsL r lit).any fun x => absB p x) Diag.z) = D1 from if_neg g]
   refine gA rfl (cut_at () [] (zW (zK (zK (zK (zK trivial))))))
 rintro ⟨⟩
 generalize hD2 : orD D1 (lookD r 61 (fun lit => (atomsL r lit).any fun x => absB p x) Diag.z) = D2 at *
 refine go_cut 1 (fun (_ : Unit) => ⟨[(1, pI n), (2, .ptr 0 0), (4, .ptr 1 0), (5, .ptr 2 0), (6, .ptr 3 0)], [(0, some (cellsI p.c)), (1, some (cellsI Diag.z.c)), (2, some (cellsI r.c)), (3, some (cellsI (Diag.c (orD D2 (lookD r 62 (fun lit => (atomsL r lit).any fun x => aryB p x) Diag.z)))))], 4⟩) rfl ?_ ?_
 ·refine gA rfl (zI (fun g => ?_) fun g => ?_)
  ·have g : Prod.fst D2 = 0 := zT g
   refine gA rfl (zp (k62 p r hp hr) ?_)
   rw [show orD D2 (lookD r 62 (fun lit => (atomsL r lit).any fun x => aryB p x) Diag.z) = (lookD r 62 (fun lit => (atomsL r lit).any fun x => aryB p x) Diag.z) from if_pos g]
   refine gA rfl (cut_at () [] (zW (zK (zK (zK (zK trivial))))))
  ·have g : ¬ Prod.fst D2 = 0 := zF g
   rw [show orD D2 (lookD r 62 (fun lit => (atomsL r lit).any fun x => aryB p x) Diag.z) = D2 from if_neg g]
   refine gA rfl (cut_at () [] (zW (zK (zK (zK (zK trivial))))))
 rintro ⟨⟩
 generalize hD3 : orD D2 (lookD r 62 (fun lit => (atomsL r lit).any fun x => aryB p x) Diag.z) = D3 at *
 refine go_cut 1 (fun (_ : Unit) => ⟨[(1, pI n), (2, .ptr 0 0), (4, .ptr 1 0), (5, .ptr 2 0), (6, .ptr 3 0)], [(0, some (cellsI p.c)), (1, some (cellsI Diag.z.c)), (2, some (cellsI r.c)), (3, some (cellsI (Diag.c (orD D3 (lookD r 65 (scopeB r) Diag.z)))))], 4⟩) rfl ?_ ?_
 ·refine gA rfl (zI (fun g => ?_) fun g => ?_)
  ·have g : Prod.fst D3 = 0 := zT g
   refine gA rfl (zp (k65 p r hp hr) ?_)
   rw [show orD D3 (lookD r 65 (scopeB r) Diag.z) = (lookD r 65 (scopeB r) Diag.z) from if_pos g]
   refine gA rfl (cut_at () [] (zW (zK (zK (zK (zK trivial))))))
  ·have g : ¬ Prod.fst D3 = 0 := zF g
   rw [show orD D3 (lookD r 65 (scopeB r) Diag.z) = D3 from if_neg g]
   refine gA rfl (cut_at () [] (zW (zK (zK (zK (zK trivial))))))
 rintro ⟨⟩
 generalize hD4 : orD D3 (lookD r 65 (scopeB r) Diag.z) = D4 at *
 refine go_cut 1 (fun (_ : Unit) => ⟨[(1, pI n), (2, .ptr 0 0), (4, .ptr 1 0), (5, .ptr 2 0), (6, .ptr 3 0)], [(0, some (cellsI p.c)), (1, some (cellsI Diag.z.c)), (2, some (cellsI r.c)), (3, some (cellsI (Diag.c (orD D4 (typedD r (asksK p r))))))], 4⟩) rfl ?_ ?_
 ·refine gA rfl (zI (fun g => ?_) fun g => ?_)
  ·have g : Prod.fst D4 = 0 := zT g
   refine gA rfl (zp (c68 p r hp (by omega)) ?_)
   rw [show orD D4 (typedD r (asksK p r)) = (typedD r (asksK p r)) from if_pos g]
   refine gA rfl (cut_at () [] (zW (zK (zK (zK (zK trivial))))))
  ·have g : ¬ Prod.fst D4 = 0 := zF g
   rw [show orD D4 (typedD r (asksK p r)) = D4 from if_neg g]
   refine gA rfl (cut_at () [] (zW (zK (zK (zK (zK trivial))))))
 rintro ⟨⟩
 generalize hD5 : orD D4 (typedD r (asksK p r)) = D5 at *
 refine go_cut 1 (fun (_ : Unit) => ⟨[(1, pI n), (2, .ptr 0 0), (4, .ptr 1 0), (5, .ptr 2 0), (6, .ptr 3 0)], [(0, some (cellsI p.c)), (1, some (cellsI Diag.z.c)), (2, some (cellsI r.c)), (3, some (cellsI (Diag.c (orD D5 (lookD r 64 (looseB r) Diag.z)))))], 4⟩) rfl ?_ ?_
 ·refine gA rfl (zI (fun g => ?_) fun g => ?_)
  ·have g : Prod.fst D5 = 0 := zT g
   refine gA rfl (zp (k64 p r hp hr) ?_)
   rw [show orD D5 (lookD r 64 (looseB r) Diag.z) = (lookD r 64 (looseB r) Diag.z) from if_pos g]
   refine gA rfl (cut_at () [] (zW (zK (zK (zK (zK trivial))))))
  ·have g : ¬ Prod.fst D5 = 0 := zF g
   rw [show orD D5 (lookD r 64 (looseB r) Diag.z) = D5 from if_neg g]
   refine gA rfl (cut_at () [] (zW (zK (zK (zK (zK trivial))))))
 rintro ⟨⟩
 generalize hD6 : orD D5 (lookD r 64 (looseB r) Diag.z) = D6 at *
 refine gA rfl (zL (.of_eq ?_))
 rfl
theorem c27k (p : Prog) (k : Nat) (hk : k < p.rules.length) (hf : p.fit) : Pure Tryz.prog 27 [ag p.c, pI ((k : Int) + 1)] (ag (rulD p k).c) := by
 have := c27 p ((k : Int) + 1) hf
 rw [if_neg (by omega), show ((k : Int) + 1 - 1).toNat = k by omega] at this
 exact this
theorem snoc_len {α : Type} (l : List α) (x : α) : l.length + 1 = (l ++ [x]).length := by simp
theorem snoc_map {α : Type} {β : Type _} (f : α → β) (l : List α) (x : α) : l.map f ++ [f x] = (l ++ [x]).map f := by simp
set_option maxHeartbeats 1000000 in
theorem c41 (p : Prog) (hf : p.fit) (hs : p.size ≤ 10000000) : Pure Tryz.prog 41 [ag p.c] (.iv (slc 3 (faultsD p) Diag.c)) := by
 have hb1 := hf.1
 have hb2 := hf.2.1
 refine pure_end tyA_ok Tryz.func41 rfl (by decide) Tryz.ntmps41 rfl (by simp) rfl ?_
 refine gA rfl ?_
 refine go_virt 3 3 rfl ?_
 refine go_for 0 p.rels.length (Nat.zero_le _) (fun i => ⟨[(1, .ptr 0 0), (3, .sl 2 0 (relF p i).length 3), (4, pI i)], [(0, some (cellsI p.c)), (2, some (rowI 3 (relF p i) Diag.c))], 3⟩) (fun _ => True) [1] trivial
  (zW (zK (zS trivial))) fun i hi _ => ?_
 have hrl := relF_len p i
 refine gA rfl (zI (fun h1 => ?_) fun h1 => ?_)
 ·have h1 : i < p.rels.length := zN h1
  refine gA rfl (zp (c82 p i h1 hs) ?_)
  refine gA rfl (zI (fun g => ?_) fun g => ?_)
  ·have g : ¬ relFault p i = 0 := by
    have g : (!decide (relFault p i = 0)) = true := g
    simpa using g
   have hs2 : relF p (i + 1) = relF p i ++ [(relFault p i, (p.rels.getD i default).at_)] := by rw [relF, if_neg g]
   refine gA rfl (zp (c83 (relFault p i) (p.rels.getD i default).at_) ?_)
   refine gA rfl ?_
   exact ⟨h1, trivial, [4], zM ⟨.refl _, rfl, .row (by rw [hs2, List.length_append]; rfl), rfl, .refl _, rfl, trivial⟩ (zK (hR rfl (by rw [hs2, List.map_append]; rfl) rfl trivial))⟩
  ·have g : relFault p i = 0 := by
    have g : (!decide (relFault p i = 0)) = false := g
    simpa using g
   have hs2 : relF p (i + 1) = relF p i := by rw [relF, if_pos g, List.append_nil]
   refine gA rfl ?_
   exact ⟨h1, trivial, [2], zM ⟨.refl _, rfl, .row (by rw [hs2]), rfl, .refl _, rfl, trivial⟩ (zK (hR rfl (by rw [hs2]) rfl trivial))⟩
 have h1 : p.rels.length ≤ i := zG h1
 have hie : i = p.rels.length := by omega
 subst hie
 refine gA rfl ?_
 refine go_for 0 p.rules.length (Nat.zero_le _) (fun i => ⟨[(1, .ptr 0 0), (3, .sl 3 0 (relF p p.rels.length ++ rulF p i).length 3), (6, pI ((i : Int) + 1))], [(0, some (cellsI p.c)), (3, some (rowI 3 (relF p p.rels.length ++ rulF p i) Diag.c))], 4⟩) (fun _ => True) [2] trivial
  (zM ⟨.refl _, rfl, .row (by rw [rulF, List.append_nil]), rfl, .refl _, rfl, trivial⟩ (zK (hR rfl (by rw [rulF, List.append_nil]) rfl trivial))) fun i hi _ => ?_
 have hul := rulF_len p i
 have hal : (relF p p.rels.length ++ rulF p i).length = (relF p p.rels.length).length + (rulF p i).length := List.length_append
 refine gA rfl (zI (fun h2 => ?_) fun h2 => ?_)
 ·have h2 : (i : Int) + 1 ≤ (p.rules.length : Int) := zT h2
  have h2 : i < p.rules.length := by omega
  refine gA rfl (zp (c27k p i h2 hf) ?_)
  refine gA rfl (zI (fun g => ?_) fun g => ?_)
  ·have g : ¬ (rulD p i).1 = 0 := by
    have g : (!decide ((rulD p i).1 = 0)) = true := g
    simpa using g
   have hs2 : relF p p.rels.length ++ rulF p (i + 1) = (relF p p.rels.length ++ rulF p i) ++ [rulD p i] := by rw [rulF, if_neg g, List.append_assoc]
   refine gA rfl ?_
   exact ⟨h2, trivial, [6], zM ⟨.refl _, rfl, .row (by rw [hs2]; exact snoc_len _ _), rfl, .of_eq (pIE (by omega)), rfl, trivial⟩ (zK (hR rfl (by rw [hs2]; exact snoc_map _ _ (rulD p i)) rfl trivial))⟩
  ·have g : (rulD p i).1 = 0 := by
    have g : (!decide ((rulD p i).1 = 0)) = false := g
    simpa using g
   have hs2 : rulF p (i + 1) = rulF p i := by rw [rulF, if_pos g, List.append_nil]
   refine gA rfl ?_
   exact ⟨h2, trivial, [3], zM ⟨.refl _, rfl, .row (by rw [hs2]), rfl, .of_eq (pIE (by omega)), rfl, trivial⟩ (zK (hR rfl (by rw [hs2]) rfl trivial))⟩
 have h2 : ¬ (i : Int) + 1 ≤ (p.rules.length : Int) := zF h2
 have hie : i = p.rules.length := by omega
 subst hie
 refine gA rfl (end_row (by first | exact .inr rfl | exact .inl rfl) rfl rfl (rfl) (rfl))
theorem c25 (p : Prog) (hf : p.fit) (hs : p.size ≤ 10000000) : Pure Tryz.prog 25 [ag p.c] (ag (checkD p).c) := by
 refine pure_end tyA_ok Tryz.func25 rfl (by decide) Tryz.ntmps25 rfl (by simp) rfl ?_
 refine gA rfl (zp (c41 p hf hs) ?_)
 have hC : checkD p = (faultsD p).headD Diag.z := rfl
 rw [hC]
 generalize faultsD p = L at *
 refine gA rfl (zI (fun g => ?_) fun g => ?_)
 ·have g : (L.length : Int) = 0 := zT g
  have : L = [] := List.eq_nil_of_length_eq_zero (by omega)
  subst this
  refine gA rfl (zL (.of_eq ?_))
  rfl
 ·have g : ¬ (L.length : Int) = 0 := zF g
  refine gA rfl (zL (.of_eq ?_))
  cases L with
  | nil => simp at g
  | cons d l => rfl
theorem tyK_snoc : ∀ (l : List Str) (A : AK) (s : Str), tyK A (l ++ [s]) = ((tyK A l).1.item (s, -1), (tyK A l).2 ++ [(s, ((tyK A l).1.item (s, -1)).kind ((tyK A l).1.ix (s, -1)))])
 | [], A, s => rfl
 | x :: l, A, s => by
  rw [List.cons_append, tyK, tyK_snoc l]
  rfl
theorem gr_tyK : ∀ (l : List Str) (A : AK), Gr l.length A (tyK A l).1
 | [], A => .refl A
 | s :: l, A => by
  have := (gr_item A (s, -1)).trans (gr_tyK l (A.item (s, -1)))
  rw [List.length_cons, Nat.add_comm]
  exact this
theorem tyK_out : ∀ (l : List Str) (A : AK), (tyK A l).2.length = l.length
 | [], _ => rfl
 | s :: l, A => by
  have := tyK_out l (A.item (s, -1))
  rw [tyK]; simp [this]
theorem spotF_one (r : Rule) (s : Str) : spotF r s (-1) = (s, -1) := by
 rw [spotF_in]; split <;> rfl
theorem d46o (r : Rule) (A : AK) (s : Str) (hf : A.fit 1) : Det Tryz.prog 46 [.ptr 0 0, pS s, pI (-1)] (A.O (outer r)) (pI (A.ix (s, -1))) ((A.item (s, -1)).H (outer r)) 7 := by
 have := d46 r A s (-1) hf
 rwa [spotF_one] at this
set_option maxHeartbeats 2000000 in
theorem c12 (p : Prog) (n : Int) (hf : p.fit) (hs : p.size ≤ 10000000) : Pure Tryz.prog 12 [ag p.c, pI n] (.tup [.iv (slc 2 (typesR p n).1 Spot.c), pI (typesR p n).2]) := by
 have hp1 := hf.1
 have hp2 := hf.2.1
 refine pure_end tyA_ok Tryz.func12 rfl (by decide) Tryz.ntmps12 rfl (by simp) rfl ?_
 refine gA rfl (zI (fun g1 => ?_) fun g1 => ?_)
 rotate_left
 ·have g1 : n < 1 := zT g1
  have e : typesR p n = ([], 1) := if_pos (.inl g1)
  rw [e]
  repeat (refine gA rfl (zI (fun q => ?_) (fun q => ?_)); all_goals (try (simp at q; done)))
  refine gA rfl (zL ?_)
  exact .tup ⟨.nil _ _, .refl _, trivial⟩
 have g1 : ¬ n < 1 := zF g1
 refine gA rfl (zI (fun g2 => ?_) fun g2 => ?_)
 ·have g2 : n > (p.rules.length : Int) := zT g2
  have e : typesR p n = ([], 1) := if_pos (.inr g2)
  rw [e]
  refine gA rfl (zL ?_)
  exact .tup ⟨.nil _ _, .refl _, trivial⟩
 have g2 : ¬ n > (p.rules.length : Int) := zF g2
 refine gA rfl (zp (c25 p hf hs) ?_)
 refine gA rfl (zI (fun g3 => ?_) fun g3 => ?_)
 ·have g3 : ¬ (checkD p).1 = 0 := by
   have g : (!decide ((checkD p).1 = 0)) = true := g3
   simpa using g
  have e : typesR p n = ([], 4) := by unfold typesR; rw [if_neg (by omega), if_pos g3]
  rw [e]
  refine gA rfl (zL ?_)
  exact .tup ⟨.nil _ _, .refl _, trivial⟩
 have g3 : (checkD p).1 = 0 := by
  have g : (!decide ((checkD p).1 = 0)) = false := g3
  simpa using g
 rw [types_eq (by omega) g3]
 have hlt : (n - 1).toNat < p.rules.length := by omega
 have hr : (p.rules.getD (n - 1).toNat default).fit := hf.2.2 _ (by rw [List.getD_eq_getElem?_getD, List.getElem?_eq_getElem hlt]; exact List.getElem_mem hlt)
 have hrb := hr.1
 refine gA rfl (zq [] (d45 p (p.rules.getD (n - 1).toNat default) hp1 (by omega)) ?_)
 generalize p.rules.getD (n - 1).toNat default = r at *
 have hz : r.size = r.head.terms.length + Lit.sizes r.body := rfl
 have hgr := gr_body p r r.body.length (Nat.le_refl _)
 rw [List.take_length] at hgr
 have hok : (asksK p r).ok := hgr.ok ok_o
 have hit : (asksK p r).items.length ≤ r.size := by have := hgr.it; have h0 : AK.o.items.length = 0 := rfl; show (bodyK p r r.body.length).items.length ≤ _; omega
 have hln : (asksK p r).l.length ≤ r.size := by have := hgr.ln; have h0 : AK.o.l.length = 0 := rfl; show (bodyK p r r.body.length).l.length ≤ _; omega
 have hol : (outer r).length ≤ 100000000 := by
  have := outerOcc_len r
  have := occM_len (outerOcc r)
  rw [← told_outer, toldM, sortB_len, List.length_map]; omega
 generalize asksK p r = A at *
 refine gA rfl ?_
 refine go_virt 9 2 rfl ?_
 refine go_for 0 (outer r).length (Nat.zero_le _) (fun i => ⟨[(8, .ptr 3 0), (9, .sl 11 0 i 2), (10, pI i)], [(3, some (AK.cell (outer r) 8 9 10 (tyK A ((outer r).take i)).1.items.length (tyK A ((outer r).take i)).1.root.length (tyK A ((outer r).take i)).1.l.length)), (8, some (rowI 2 (tyK A ((outer r).take i)).1.items Spot.c)), (9, some (rowI 1 (tyK A ((outer r).take i)).1.root intC)), (10, some (rowI 4 (tyK A ((outer r).take i)).1.l Ask.c)), (11, some (rowI 2 (tyK A ((outer r).take i)).2 Spot.c))], 12⟩) (fun _ => True) [4, 5, 6, 7] trivial
  (zW (zO (hR rfl (rows_ren6 _ _ _) rfl (hR rfl (rows_ren6 _ _ _) rfl (hR rfl (rows_ren6 _ _ _) rfl (zS trivial)))))) fun i hi _ => ?_
 have hgt := gr_tyK ((outer r).take i) A
 have hto := tyK_out ((outer r).take i) A
 have htk : ((outer r).take i).length = i := by rw [List.length_take]; omega
 refine gA rfl (zI (fun h1 => ?_) fun h1 => ?_)
 ·have h1 : i < (outer r).length := zN h1
  have hsn := tyK_snoc ((outer r).take i) A ((outer r).getD i default)
  rw [← take_step h1] at hsn
  have g1 := hgt.it
  have g2 := hgt.ln
  have hfB : (tyK A ((outer r).take i)).1.fit 1 := ⟨hgt.ok hok, by omega, by omega⟩
  generalize hB : (tyK A ((outer r).take i)).1 = B at *
  generalize hO : (tyK A ((outer r).take i)).2 = O at *
  have hgi := gr_item B ((outer r).getD i default, -1)
  have hi2 := hgi.ok hfB.1
  have hi3 := hgi.ln
  have hix := item_lt B ((outer r).getD i default, -1)
  have hip := ix_pos B ((outer r).getD i default, -1)
  refine gA rfl (gkA (d46o r B ((outer r).getD i default) hfB) ?_)
  refine gA rfl (go_dbcall (asv := [.ptr 3 0, pI (B.ix ((outer r).getD i default, -1))]) (Pure.det (c47 (B.item ((outer r).getD i default, -1)) (outer r) (B.ix ((outer r).getD i default, -1)) hip (by rw [hi2.1]; exact hix) (fun k hk => by rw [hi2.1]; exact hi2.2 k hk) (by omega))) rfl rfl rfl rfl rfl (fun M N w hr => fzK (B.item ((outer r).getD i default, -1)) (outer r) [pI (B.ix ((outer r).getD i default, -1))] rfl rfl rfl rfl rfl rfl hr) rfl (fun j o hj => nomatch hj) rfl rfl rfl rfl rfl (by (repeat' (first | exact trivial | exact rfl | exact PVle.refl _ | exact PVle.bk (by assumption) | apply And.intro)) <;> first | omega | (simp only [Int.toNat_natCast]; omega) | (simp; done) | (simp; omega)) rfl (by (repeat' (first | exact trivial | exact rfl | exact PVle.refl _ | exact PVle.bk (by assumption) | apply And.intro)) <;> first | omega | (simp only [Int.toNat_natCast]; omega) | (simp; done) | (simp; omega)) ?_)
  refine gA rfl ?_
  have hlO : O.length = i := by omega
  rw [hsn]
  first
   | exact ⟨h1, trivial, [12, 13, 14, 16], zM ⟨.refl _, rfl, .row (by first | rfl | omega), rfl, .refl _, rfl, trivial⟩ (zO (zS (zS (zS (hR rfl (by rw [List.map_append]; rfl) rfl trivial)))))⟩
   | exact ⟨h1, trivial, [12, 13, 14, 15], zM ⟨.refl _, rfl, .row (by first | rfl | omega), rfl, .refl _, rfl, trivial⟩ (zO (zS (zS (zS (hR rfl (by rw [List.map_append]; rfl) rfl trivial)))))⟩
 ·have h1 : (outer r).length ≤ i := zG h1
  have hie : i = (outer r).length := by omega
  subst hie
  rw [List.take_of_length_le (Nat.le_refl _)] at *
  refine gA rfl (end_frz (r0 := .tup [.sl 11 0 (outer r).length 2, pI 0]) (.inr rfl) rfl (FrzS.rowL 11 (tyK A (outer r)).2 Spot.c rfl rfl (by simp [PV.inRow, inRowL, hto]) (.done (.tup ⟨.imm hto.symm (fun k _ => by rw [Nat.zero_add]), .refl _, trivial⟩))))
set_option maxHeartbeats 1000000 in
theorem checks_all (p : Prog) (hf : p.fit) (hs : p.size ≤ 10000000) : Pure Tryz.prog 6 [ag p.c] (pB true) := by
 have hpl := hf.2.1
 refine pure_end tyA_ok Tryz.func6 rfl (by decide) Tryz.ntmps6 rfl (by simp) rfl ?_
 refine gA rfl (zp (known_ok) ?_)
 refine gA rfl (zp (c14 p (by omega)) ?_)
 refine gA rfl (zp (c24 p hf) ?_)
 repeat (refine gA rfl (zI (fun q => ?_) (fun q => ?_)); all_goals (try (simp at q; done)))
 refine gA rfl (zdp (c25 p hf hs) ?_)
 repeat (refine gA rfl (zI (fun q => ?_) (fun q => ?_)); all_goals (try (simp at q; done)))
 refine gA rfl ?_
 refine go_for 0 (p.rules.length + 3) (Nat.zero_le _) (fun i => ⟨[(1, .ptr 0 0), (4, .ptr 1 0), (6, pI ((i : Int) - 1))], [(0, some (cellsI p.c)), (1, some (cellsI p.c))], 3⟩) (fun _ => True) [] trivial
  (zW (zK (zK trivial))) fun i hi _ => ?_
 refine gA rfl (zI (fun h1 => ?_) fun h1 => ?_)
 ·have h1 : (i : Int) - 1 ≤ (p.rules.length : Int) + 1 := zT h1
  refine gA rfl (zp (c26 p ((i : Int) - 1) hf) ?_)
  refine gA rfl (zdp (c27 p ((i : Int) - 1) hf) ?_)
  generalize (if (i : Int) - 1 < 1 ∨ (p.rules.length : Int) < (i : Int) - 1 then (1, ⟨0, 0⟩) else ruleD p (p.rules.getD ((i : Int) - 1 - 1).toNat default) ((i : Int) - 1) : Diag) = D
  repeat (refine gA rfl (zI (fun q => ?_) (fun q => ?_)); all_goals (try (simp at q; done)))
  refine gA rfl ?_
  exact ⟨by omega, trivial, [], zM ⟨.refl _, rfl, .refl _, rfl, .of_eq (pIE (by omega)), rfl, trivial⟩ (zK (zK trivial))⟩
 ·refine gA rfl (zp (c18s p (by omega)) ?_)
  refine gA rfl (zL (.of_eq ?_))
  rfl
theorem faults_all (p : Prog) (hf : p.fit) (hs : p.size ≤ 10000000) : Pure Tryz.prog 9 [ag p.c] (pB true) := by
 have hl1 := relF_len p p.rels.length
 have hl2 := rulF_len p p.rules.length
 have hl3 : (faultsD p).length = (relF p p.rels.length).length + (rulF p p.rules.length).length := List.length_append
 have hb1 := hf.1
 have hb2 := hf.2.1
 refine pure_end tyA_ok Tryz.func9 rfl (by decide) Tryz.ntmps9 rfl (by simp) rfl ?_
 refine gA rfl (zp (known_ok) ?_)
 refine gA rfl (zp (c41 p hf hs) ?_)
 refine gA rfl (zp (c42 p hf) ?_)
 generalize faultsD p = L at *
 repeat (refine gA rfl (zI (fun q => ?_) (fun q => ?_)); all_goals (try (simp at q; done)))
 refine gA rfl ?_
 refine go_for 0 L.length (Nat.zero_le _) (fun i => ⟨[(4, .iv (slc 3 L Diag.c)), (5, .iv (slc 3 L Diag.c)), (6, pI i)], [], 1⟩) (fun _ => True) [] trivial
  (zW trivial) fun i hi _ => ?_
 refine gA rfl (zI (fun h1 => ?_) fun h1 => ?_)
 ·have h1 : i < L.length := zN h1
  repeat (refine gA rfl (zI (fun q => ?_) (fun q => ?_)); all_goals (try (simp at q; done)))
  refine gA rfl ?_
  exact ⟨h1, trivial, [], zW trivial⟩
 ·refine gA rfl (zL (.of_eq ?_))
  rfl
theorem typesR_len (p : Prog) (n : Int) (hs : p.size ≤ 10000000) : (typesR p n).1.length ≤ 100000000 := by
 unfold typesR
 split
 ·exact Nat.zero_le _
 split
 ·exact Nat.zero_le _
 ·rename_i h1 _
  have hlt : (n - 1).toNat < p.rules.length := by omega
  have hsz := sum_get Rule.size p.rules (n - 1).toNat hlt
  have h2 := outerOcc_len (p.rules.getD (n - 1).toNat default)
  have h3 := occM_len (outerOcc (p.rules.getD (n - 1).toNat default))
  have h4 : (p.rules.map Rule.size).sum ≤ p.size := by unfold Prog.size; omega
  show (List.map _ _).length ≤ _
  rw [List.length_map, toldM, sortB_len, List.length_map]; omega
theorem types_all (p : Prog) (n : Int) (hf : p.fit) (hs : p.size ≤ 10000000) : Pure Tryz.prog 3 [ag p.c, pI n] (pB true) := by
 have hl := typesR_len p n hs
 refine pure_end tyA_ok Tryz.func3 rfl (by decide) Tryz.ntmps3 rfl (by simp) rfl ?_
 refine gA rfl (zp (known_ok) ?_)
 refine gA rfl (zp (c12 p n hf hs) ?_)
 refine gA rfl (zp (c13 sortS p n hf) ?_)
 generalize typesR p n = R at *
 repeat (refine gA rfl (zI (fun q => ?_) (fun q => ?_)); all_goals (try (simp at q; done)))
 refine gA rfl ?_
 refine go_for 0 R.1.length (Nat.zero_le _) (fun i => ⟨[(6, .iv (slc 2 R.1 Spot.c)), (8, .iv (slc 2 R.1 Spot.c)), (10, pI i)], [], 1⟩) (fun _ => True) [] trivial
  (zW trivial) fun i hi _ => ?_
 refine gA rfl (zI (fun h1 => ?_) fun h1 => ?_)
 ·have h1 : i < R.1.length := zN h1
  repeat (refine gA rfl (zI (fun q => ?_) (fun q => ?_)); all_goals (try (simp at q; done)))
  refine gA rfl ?_
  exact ⟨h1, trivial, [], zW trivial⟩
 ·refine gA rfl (zL (.of_eq ?_))
  rfl
end Go.Proofs.YtpnclpbkecjinaaGreatDoorR
