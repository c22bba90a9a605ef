/-
  What the proofs of the claims need: XPe, XEa. Part 5 of 7.
-/
import Derived.Test.YtpnclpbkecjinaaGreatDoorRPart4
import Derived.Lib.ItoaLen
/-
  The printer: expressions.
-/
namespace Go.Proofs.YtpnclpbkecjinaaGreatDoorR
open Go Go.Al
set_option maxRecDepth 10000
/-! How long texts are. -/
theorem quoteS_len (s : Str) : (quoteS s).size ≤ 2 + 4 * s.size := by
  have h := outQ_len s s.data.toList.length
  simp only [outQ, List.take_length, List.length_cons] at h
  have e : (quoteS s).size = (34 :: s.data.toList.flatMap qB ++ [34]).length := by simp [quoteS, ByteArray.size]
  have : s.data.toList.length = s.size := by simp
  rw [e, List.length_append, List.length_cons, List.length_singleton]; omega
theorem textV_len (v : Val) : (textV v).size ≤ 300 := by
  unfold textV
  split
  · rename_i hv
    unfold textI
    split
    · rename_i h1
      have := vCheck_num hv h1
      have h2 := Lib.itoa_length_le v.num (by omega) (by omega)
      have e : (⟨(Lib.itoa v.num).toArray⟩ : ByteArray).size = (Lib.itoa v.num).length := by simp [ByteArray.size]
      omega
    · rename_i h1
      have h2 := vCheck_sym hv h1
      split
      · omega
      · have := quoteS_len v.sym; omega
  · decide
mutual
def Expr.ts : Expr → Nat
  | .mk _ v _ _ args => v.size + 400 + Expr.tss args
def Expr.tss : List Expr → Nat
  | [] => 0
  | e :: r => e.ts + Expr.tss r
end
theorem Expr.ts_eq (e : Expr) : e.ts = e.var.size + 400 + Expr.tss e.args := by cases e; rfl
theorem Expr.tss_get : ∀ (l : List Expr) (k : Nat), k < l.length → (l.getD k default).ts ≤ Expr.tss l
  | e :: r, 0, _ => by simp [Expr.tss]
  | e :: r, k + 1, h => by
    have := Expr.tss_get r k (by simpa using h)
    simp only [List.getD_cons_succ, Expr.tss]; omega
  | [], k, h => by simp at h
theorem Expr.tss_two : ∀ (l : List Expr), l.length = 2 → (l.getD 0 default).ts + (l.getD 1 default).ts ≤ Expr.tss l
  | [a, b], _ => by simp [Expr.tss]
  | [], h => by simp at h
  | [a], h => by simp at h
  | a :: b :: c :: r, h => by simp at h
def sM : Str := ⟨#[45]⟩
def sO : Str := ⟨#[40]⟩
def sC : Str := ⟨#[41]⟩
def sSp : Str := ⟨#[32]⟩
def badW (w : WS) : WS := ⟨w.fr, w.l, true, w.br⟩
def okVar (e : Expr) : Bool := varB e.var && (zValB e.val && (decide (e.op = 0) && decide ((e.args.length : Int) = 0)))
def okVal (e : Expr) : Bool := decide (e.var = ⟨#[]⟩) && (decide (e.op = 0) && decide ((e.args.length : Int) = 0))
def okOp (e : Expr) : Bool := decide (e.var = ⟨#[]⟩) && (zValB e.val && decide (strengthI e.op > 0))
def arg0 (e : Expr) : Expr := e.args.getD 0 default
def arg1 (e : Expr) : Expr := e.args.getD 1 default
def numB (e : Expr) : Bool := decide (e.kind = 2) && decide (e.val.kind = 1)
def must1 (a : Expr) : Bool := decide (bindsI a < 3) || (numB a && decide (a.val.num > 0))
def leafW (w : WS) (e : Expr) (k : WS) : WS :=
  if w.bad = true then badW w else if e.kind = 1 then putA (mustW w (okVar e)) [e.var] else if e.kind = 2 then valueW (mustW w (okVal e)) e.val else if e.kind = 4 then k else badW w
def operW (arg : Bool → WS → Expr → WS) (w : WS) (e : Expr) : WS :=
  if w.bad = true then badW w else if e.op = 6 then
    (if e.args.length = 1 then arg (must1 (arg0 e)) (if (numB (arg0 e) && decide ((arg0 e).val.num = 0)) = true then putA (putA w [sM]) [sM] else putA w [sM]) (arg0 e) else badW w)
  else if e.args.length = 2 then arg (decide (bindsI (arg1 e) ≤ strengthI e.op)) (putA (arg (decide (bindsI (arg0 e) < strengthI e.op)) w (arg0 e)) [sSp, signS e.op, sSp]) (arg1 e) else badW w
def exprW : Nat → WS → Expr → WS
  | 0, w, _ => badW w
  | 1, w, e => leafW w e (badW (mustW w (okOp e)))
  | m + 2, w, e => leafW w e (operW (fun must w a => if must = true then putA (exprW m (putA w [sO]) a) [sC] else exprW (m + 1) w a) (mustW w (okOp e)) e)
def argW (m : Nat) (must : Bool) (w : WS) (a : Expr) : WS := if must = true then putA (exprW m (putA w [sO]) a) [sC] else exprW (m + 1) w a
theorem mustW_len (w : WS) (b : Bool) : (mustW w b).l = w.l := rfl
theorem badW_len (w : WS) : (badW w).l = w.l := rfl
theorem sizeA1 (s : Str) : sizeA [s] = s.size := by simp [sizeA]
theorem sign_len (op : Int) : (signS op).size ≤ 3 := by
  unfold signS
  repeat' split
  all_goals decide
theorem putA1_len (w : WS) (s : Str) : (putA w [s]).l.length = w.l.length + s.size := by rw [putA_len, sizeA1]
theorem valueW_len (w : WS) (v : Val) : (valueW w v).l.length ≤ w.l.length + 300 := by
  have := textV_len v
  rw [valueW, putA1_len, mustW_len]; omega
theorem leafW_len (w k : WS) (e : Expr) (h : k.l.length ≤ w.l.length + e.ts) : (leafW w e k).l.length ≤ w.l.length + e.ts := by
  have := e.ts_eq
  unfold leafW
  repeat' split
  · rw [badW_len]; omega
  · rw [putA1_len, mustW_len]; omega
  · have := valueW_len (mustW w (okVal e)) e.val
    rw [mustW_len] at this; omega
  · exact h
  · rw [badW_len]; omega
theorem operW_len (arg : Bool → WS → Expr → WS) (harg : ∀ b w a, (arg b w a).l.length ≤ w.l.length + (2 + a.ts)) (w : WS) (e : Expr) : (operW arg w e).l.length ≤ w.l.length + e.ts := by
  have h0 := e.ts_eq
  unfold operW
  split
  · rw [badW_len]; omega
  split
  · split
    · rename_i h1
      have hg := Expr.tss_get e.args 0 (by omega)
      have e1 : sM.size = 1 := rfl
      split
      · have := harg (must1 (arg0 e)) (putA (putA w [sM]) [sM]) (arg0 e)
        rw [putA1_len, putA1_len] at this
        simp only [arg0] at this ⊢; omega
      · have := harg (must1 (arg0 e)) (putA w [sM]) (arg0 e)
        rw [putA1_len] at this
        simp only [arg0] at this ⊢; omega
    · rw [badW_len]; omega
  · split
    · rename_i h1
      have hg := Expr.tss_two e.args h1
      have h2 := harg (decide (bindsI (arg1 e) ≤ strengthI e.op)) (putA (arg (decide (bindsI (arg0 e) < strengthI e.op)) w (arg0 e)) [sSp, signS e.op, sSp]) (arg1 e)
      have h3 := harg (decide (bindsI (arg0 e) < strengthI e.op)) w (arg0 e)
      have h4 := sign_len e.op
      have e1 : sSp.size = 1 := rfl
      rw [putA_len] at h2
      have e2 : sizeA [sSp, signS e.op, sSp] = 1 + ((signS e.op).size + 1) := by simp [sizeA, e1]
      simp only [arg0, arg1] at *; omega
    · rw [badW_len]; omega
theorem exprW_len : ∀ (n : Nat) (w : WS) (e : Expr), (exprW n w e).l.length ≤ w.l.length + e.ts
  | 0, w, e => by rw [exprW, badW_len]; omega
  | 1, w, e => by rw [exprW]; exact leafW_len _ _ _ (by rw [badW_len, mustW_len]; omega)
  | m + 2, w, e => by
    rw [exprW]
    refine leafW_len _ _ _ ?_
    have := operW_len (fun must w a => if must = true then putA (exprW m (putA w [sO]) a) [sC] else exprW (m + 1) w a) (fun b w a => by
      split
      · have h1 := exprW_len m (putA w [sO]) a
        have e1 : sO.size = 1 := rfl
        have e2 : sC.size = 1 := rfl
        rw [putA1_len] at h1 ⊢
        omega
      · have := exprW_len (m + 1) w a
        omega) (mustW w (okOp e)) e
    rwa [mustW_len] at this
theorem argW_len (m : Nat) (b : Bool) (w : WS) (a : Expr) : (argW m b w a).l.length ≤ w.l.length + (2 + a.ts) := by
  unfold argW
  split
  · have h1 := exprW_len m (putA w [sO]) a
    have e1 : sO.size = 1 := rfl
    have e2 : sC.size = 1 := rfl
    rw [putA1_len] at h1 ⊢
    omega
  · have := exprW_len (m + 1) w a
    omega
/-- The contract of expr at a depth. -/
def PE (n : Nat) : Prop := ∀ (d : Int) (w : WS) (e : Expr), d + 1 = n → w.l.length + e.ts ≤ 1000000000 → Det Tryz.prog 189 [.ptr 0 0, ag e.c, pI d] w.O (.tup []) (exprW n w e).H 3
theorem d225 (n : Nat) (hn : n ≤ 1000) (hA : PE (n + 1)) (hB : PE n) (must : Bool) (d : Int) (hd : d = n) (w : WS) (e : Expr) (hb : w.l.length + e.ts + 2 ≤ 1000000000) : Det Tryz.prog 225 [.ptr 0 0, ag e.c, pB must, pI d] w.O (.tup []) (argW n must w e).H 3 := by
  refine det_end tyA_ok Tryz.func225 rfl (by decide) Tryz.ntmps225 rfl (by simp) ?_
  refine gA rfl ?_
  refine And.intro (fun h => ?_) (fun h => ?_)
  · have h : must = false := by simpa using h
    rw [argW, if_neg (by rw [h]; simp)]
    refine gA rfl (go_w (hA d w e (by omega) (by omega)) rfl rfl rfl rfl rfl rfl rfl rfl rfl rfl rfl rfl ?_)
    refine gA rfl (end_w (by first | exact .inr rfl | exact .inl rfl) rfl rfl rfl rfl rfl (by first | exact .refl _ | exact .kb _) (by first | exact .refl _ | exact .kb _) rfl rfl rfl rfl (.refl _) rfl rfl)
  · have h : must = true := by simpa using h
    rw [argW, if_pos h]
    have e1 : sO.size = 1 := rfl
    have e2 : sC.size = 1 := rfl
    have hl := exprW_len n (putA w [sO]) e
    have hp := putA1_len w sO
    refine gA rfl (go_wp (d147 w [sO] (by simp) (by rw [sizeA1, e1]; omega)) rfl rfl rfl rfl rfl rfl rfl rfl rfl rfl rfl rfl ?_)
    refine gA rfl (go_w (hB (d - 1) (putA w [sO]) e (by omega) (by omega)) rfl rfl rfl rfl rfl rfl rfl rfl rfl rfl rfl rfl ?_)
    refine gA rfl (go_wp (d147 (exprW n (putA w [sO]) e) [sC] (by simp) (by rw [sizeA1, e2]; omega)) rfl rfl rfl rfl rfl rfl rfl rfl rfl rfl rfl rfl ?_)
    refine gA rfl (end_w (by first | exact .inr rfl | exact .inl rfl) rfl rfl rfl rfl rfl (by first | exact .refl _ | exact .kb _) (by first | exact .refl _ | exact .kb _) rfl rfl rfl rfl (.refl _) rfl rfl)
theorem d213z (d : Int) (hd : d < 0) (w : WS) (e : Expr) : Det Tryz.prog 213 [.ptr 0 0, ag e.c, pI d] w.O (.tup []) (badW w).H 3 := by
  refine det_end tyA_ok Tryz.func213 rfl (by decide) Tryz.ntmps213 rfl (by simp) ?_
  repeat' (first
    | ((rename_i h; exact absurd hd (of_decide_eq_false h)))
    | (refine gA rfl (And.intro (fun _ => ?_) (fun _ => ?_)))
    | (refine gA rfl (end_w (by first | exact .inr rfl | exact .inl rfl) rfl rfl rfl rfl rfl (by first | exact .refl _ | exact .kb _) (by first | exact .refl _ | exact .kb _) rfl rfl rfl rfl (.refl _) rfl rfl)))
set_option maxHeartbeats 2000000 in
theorem d213 (m : Nat) (hm : m ≤ 900) (hA : PE (m + 1)) (hB : PE m) (d : Int) (hd : d = m) (w : WS) (e : Expr) (hb : w.l.length + e.ts ≤ 1000000000) : Det Tryz.prog 213 [.ptr 0 0, ag e.c, pI d] w.O (.tup []) (operW (argW m) w e).H 3 := by
  refine Det.le (aa := [.ptr 0 0, ag e.c, pI d]) (args := [.ptr 0 0, ag e.c1, pI d]) ?_ ⟨.refl _, e.le1, .refl _, trivial⟩
  have hts := e.ts_eq
  have e1 : sM.size = 1 := rfl
  have hm' : m ≤ 1000 := by omega
  refine det_end tyA_ok Tryz.func213 rfl (by decide) Tryz.ntmps213 rfl (by simp) ?_
  refine gA rfl ?_
  refine And.intro (fun h6 => ?_) (fun h6 => ?_)
  · have h6 : e.op = 6 := of_decide_eq_true h6
    refine gA rfl ?_
    refine And.intro (fun h1 => ?_) (fun h1 => ?_)
    rotate_left
    · have h1 : w.bad = true := h1
      rw [operW, if_pos h1]
      refine gA rfl (end_w (by first | exact .inr rfl | exact .inl rfl) rfl rfl rfl rfl rfl (by first | exact .refl _ | exact .kb _) (by first | exact .refl _ | exact .kb _) rfl rfl rfl rfl (.refl _) rfl rfl)
    have h1 : ¬ w.bad = true := by rw [show w.bad = false from h1]; simp
    refine gA rfl ?_
    refine And.intro (fun h2 => ?_) (fun h2 => ?_)
    rotate_left
    · have h2 : ¬ e.args.length = 1 := by simp at h2; omega
      rw [operW, if_neg h1, if_pos h6, if_neg h2]
      refine gA rfl (end_w (by first | exact .inr rfl | exact .inl rfl) rfl rfl rfl rfl rfl (by first | exact .refl _ | exact .kb _) (by first | exact .refl _ | exact .kb _) rfl rfl rfl rfl (.refl _) rfl rfl)
    have h2 : e.args.length = 1 := by simp at h2; omega
    have hg : (arg0 e).ts ≤ _ := Expr.tss_get e.args 0 (by omega)
    have hop : operW (argW m) w e = argW m (must1 (arg0 e)) (if (numB (arg0 e) && decide ((arg0 e).val.num = 0)) = true then putA (putA w [sM]) [sM] else putA w [sM]) (arg0 e) := by rw [operW, if_neg h1, if_pos h6, if_pos h2]
    have hga : e.args.getD 0 default = arg0 e := rfl
    refine gA rfl ?_
    refine And.intro (fun h3 => ?_) (fun h3 => ?_)
    · exact absurd (of_decide_eq_true h3) (by omega)
    refine gA rfl ?_
    refine And.intro (fun h7 => ?_) (fun h7 => ?_)
    rotate_left
    · exact absurd (of_decide_eq_false h7) (by simp)
    have hl1 := putA1_len w sM
    refine gA rfl ?_
    refine And.intro (fun hk => ?_) (fun hk => ?_)
    · have hk' : (arg0 e).kind = 2 := of_decide_eq_true hk
      refine gA rfl (go_wp (d147 w [sM] (by simp) (by rw [sizeA1, e1]; omega)) rfl rfl rfl rfl rfl rfl rfl rfl rfl rfl rfl rfl ?_)
      refine gA rfl ?_
      refine And.intro (fun hv => ?_) (fun hv => ?_)
      rotate_left
      · have hv' : ¬ (arg0 e).val.kind = 1 := of_decide_eq_false hv
        have hnb : numB (arg0 e) = false := by rw [numB, decide_eq_false hv', Bool.and_false]
        rw [hnb, Bool.false_and, if_neg (by simp)] at hop
        refine gA rfl (go_ddet tyA_ok [] (Pure.det (c226 (arg0 e))) rfl rfl rfl rfl rfl rfl rfl rfl rfl rfl rfl rfl (by (repeat' (first | exact trivial | exact rfl | exact PVle.refl _ | exact PVle.bk (by assumption) | apply And.intro)) <;> first | omega | (simp only [Int.toNat_natCast]; omega) | (simp; done) | (simp; omega)) rfl (by (repeat' (first | exact trivial | exact rfl | exact PVle.refl _ | exact PVle.bk (by assumption) | apply And.intro)) <;> first | omega | (simp only [Int.toNat_natCast]; omega) | (simp; done) | (simp; omega)) ?_)
        refine gA rfl ?_
        refine And.intro (fun hb3 => ?_) (fun hb3 => ?_)
        · have hb3' : bindsI (arg0 e) < 3 := of_decide_eq_true hb3
          rw [must1, decide_eq_true hb3', Bool.true_or] at hop
          rw [hop]
          refine gA rfl (go_dw (d225 m hm' hA hB true d hd (putA w [sM]) (arg0 e) (by rw [hl1, e1]; omega)) rfl rfl rfl rfl rfl rfl rfl rfl rfl rfl rfl rfl rfl rfl rfl rfl (by (repeat' (first | exact trivial | exact rfl | exact PVle.refl _ | exact PVle.bk (by assumption) | apply And.intro)) <;> first | omega | (simp only [Int.toNat_natCast]; omega) | (simp; done) | (simp; omega)) rfl (by (repeat' (first | exact trivial | exact rfl | exact PVle.refl _ | exact PVle.bk (by assumption) | apply And.intro)) <;> first | omega | (simp only [Int.toNat_natCast]; omega) | (simp; done) | (simp; omega)) ?_)
          refine gA rfl (end_w (by first | exact .inr rfl | exact .inl rfl) rfl rfl rfl rfl rfl (by first | exact .refl _ | exact .kb _) (by first | exact .refl _ | exact .kb _) rfl rfl rfl rfl (.refl _) rfl rfl)
        · have hb3' : ¬ bindsI (arg0 e) < 3 := of_decide_eq_false hb3
          refine gA rfl ?_
          refine And.intro (fun hz => ?_) (fun hz => ?_)
          · exact absurd (of_decide_eq_true hz) hv'
          rw [must1, decide_eq_false hb3', Bool.false_or, hnb, Bool.false_and] at hop
          rw [hop]
          refine gA rfl (go_dw (d225 m hm' hA hB false d hd (putA w [sM]) (arg0 e) (by rw [hl1, e1]; omega)) rfl rfl rfl rfl rfl rfl rfl rfl rfl rfl rfl rfl rfl rfl rfl rfl (by (repeat' (first | exact trivial | exact rfl | exact PVle.refl _ | exact PVle.bk (by assumption) | apply And.intro)) <;> first | omega | (simp only [Int.toNat_natCast]; omega) | (simp; done) | (simp; omega)) rfl (by (repeat' (first | exact trivial | exact rfl | exact PVle.refl _ | exact PVle.bk (by assumption) | apply And.intro)) <;> first | omega | (simp only [Int.toNat_natCast]; omega) | (simp; done) | (simp; omega)) ?_)
          refine gA rfl (end_w (by first | exact .inr rfl | exact .inl rfl) rfl rfl rfl rfl rfl (by first | exact .refl _ | exact .kb _) (by first | exact .refl _ | exact .kb _) rfl rfl rfl rfl (.refl _) rfl rfl)
      · have hv' : (arg0 e).val.kind = 1 := of_decide_eq_true hv
        have hnb : numB (arg0 e) = true := by rw [numB, decide_eq_true hv', decide_eq_true hk']; rfl
        rw [hnb, Bool.true_and] at hop
        refine gA rfl ?_
        refine And.intro (fun h0 => ?_) (fun h0 => ?_)
        · have h0' : (arg0 e).val.num = 0 := of_decide_eq_true h0
          rw [if_pos (decide_eq_true h0')] at hop
          refine gA rfl (go_wp (d147 (putA w [sM]) [sM] (by simp) (by rw [sizeA1, hl1, e1]; omega)) rfl rfl rfl rfl rfl rfl rfl rfl rfl rfl rfl rfl ?_)
          refine gA rfl (go_ddet tyA_ok [] (Pure.det (c226 (arg0 e))) rfl rfl rfl rfl rfl rfl rfl rfl rfl rfl rfl rfl (by (repeat' (first | exact trivial | exact rfl | exact PVle.refl _ | exact PVle.bk (by assumption) | apply And.intro)) <;> first | omega | (simp only [Int.toNat_natCast]; omega) | (simp; done) | (simp; omega)) rfl (by (repeat' (first | exact trivial | exact rfl | exact PVle.refl _ | exact PVle.bk (by assumption) | apply And.intro)) <;> first | omega | (simp only [Int.toNat_natCast]; omega) | (simp; done) | (simp; omega)) ?_)
          refine gA rfl ?_
          refine And.intro (fun hb3 => ?_) (fun hb3 => ?_)
          · have hb3' : bindsI (arg0 e) < 3 := of_decide_eq_true hb3
            rw [must1, decide_eq_true hb3', Bool.true_or] at hop
            rw [hop]
            refine gA rfl (go_dw (d225 m hm' hA hB true d hd (putA (putA w [sM]) [sM]) (arg0 e) (by rw [putA1_len, hl1, e1]; omega)) rfl rfl rfl rfl rfl rfl rfl rfl rfl rfl rfl rfl rfl rfl rfl rfl (by (repeat' (first | exact trivial | exact rfl | exact PVle.refl _ | exact PVle.bk (by assumption) | apply And.intro)) <;> first | omega | (simp only [Int.toNat_natCast]; omega) | (simp; done) | (simp; omega)) rfl (by (repeat' (first | exact trivial | exact rfl | exact PVle.refl _ | exact PVle.bk (by assumption) | apply And.intro)) <;> first | omega | (simp only [Int.toNat_natCast]; omega) | (simp; done) | (simp; omega)) ?_)
            refine gA rfl (end_w (by first | exact .inr rfl | exact .inl rfl) rfl rfl rfl rfl rfl (by first | exact .refl _ | exact .kb _) (by first | exact .refl _ | exact .kb _) rfl rfl rfl rfl (.refl _) rfl rfl)
          · have hb3' : ¬ bindsI (arg0 e) < 3 := of_decide_eq_false hb3
            refine gA rfl ?_
            refine And.intro (fun hz => ?_) (fun hz => ?_)
            rotate_left
            · exact absurd hv' (of_decide_eq_false hz)
            rw [must1, decide_eq_false hb3', Bool.false_or, hnb, Bool.true_and] at hop
            rw [hop]
            refine gA rfl (go_dw (d225 m hm' hA hB (decide ((arg0 e).val.num > 0)) d hd (putA (putA w [sM]) [sM]) (arg0 e) (by rw [putA1_len, hl1, e1]; omega)) rfl rfl rfl rfl rfl rfl rfl rfl rfl rfl rfl rfl rfl rfl rfl rfl (by (repeat' (first | exact trivial | exact rfl | exact PVle.refl _ | exact PVle.bk (by assumption) | apply And.intro)) <;> first | omega | (simp only [Int.toNat_natCast]; omega) | (simp; done) | (simp; omega)) rfl (by (repeat' (first | exact trivial | exact rfl | exact PVle.refl _ | exact PVle.bk (by assumption) | apply And.intro)) <;> first | omega | (simp only [Int.toNat_natCast]; omega) | (simp; done) | (simp; omega)) ?_)
            refine gA rfl (end_w (by first | exact .inr rfl | exact .inl rfl) rfl rfl rfl rfl rfl (by first | exact .refl _ | exact .kb _) (by first | exact .refl _ | exact .kb _) rfl rfl rfl rfl (.refl _) rfl rfl)
        · have h0' : ¬ (arg0 e).val.num = 0 := of_decide_eq_false h0
          rw [if_neg (by simpa using h0')] at hop
          refine gA rfl (go_ddet tyA_ok [] (Pure.det (c226 (arg0 e))) rfl rfl rfl rfl rfl rfl rfl rfl rfl rfl rfl rfl (by (repeat' (first | exact trivial | exact rfl | exact PVle.refl _ | exact PVle.bk (by assumption) | apply And.intro)) <;> first | omega | (simp only [Int.toNat_natCast]; omega) | (simp; done) | (simp; omega)) rfl (by (repeat' (first | exact trivial | exact rfl | exact PVle.refl _ | exact PVle.bk (by assumption) | apply And.intro)) <;> first | omega | (simp only [Int.toNat_natCast]; omega) | (simp; done) | (simp; omega)) ?_)
          refine gA rfl ?_
          refine And.intro (fun hb3 => ?_) (fun hb3 => ?_)
          · have hb3' : bindsI (arg0 e) < 3 := of_decide_eq_true hb3
            rw [must1, decide_eq_true hb3', Bool.true_or] at hop
            rw [hop]
            refine gA rfl (go_dw (d225 m hm' hA hB true d hd (putA w [sM]) (arg0 e) (by rw [hl1, e1]; omega)) rfl rfl rfl rfl rfl rfl rfl rfl rfl rfl rfl rfl rfl rfl rfl rfl (by (repeat' (first | exact trivial | exact rfl | exact PVle.refl _ | exact PVle.bk (by assumption) | apply And.intro)) <;> first | omega | (simp only [Int.toNat_natCast]; omega) | (simp; done) | (simp; omega)) rfl (by (repeat' (first | exact trivial | exact rfl | exact PVle.refl _ | exact PVle.bk (by assumption) | apply And.intro)) <;> first | omega | (simp only [Int.toNat_natCast]; omega) | (simp; done) | (simp; omega)) ?_)
            refine gA rfl (end_w (by first | exact .inr rfl | exact .inl rfl) rfl rfl rfl rfl rfl (by first | exact .refl _ | exact .kb _) (by first | exact .refl _ | exact .kb _) rfl rfl rfl rfl (.refl _) rfl rfl)
          · have hb3' : ¬ bindsI (arg0 e) < 3 := of_decide_eq_false hb3
            refine gA rfl ?_
            refine And.intro (fun hz => ?_) (fun hz => ?_)
            rotate_left
            · exact absurd hv' (of_decide_eq_false hz)
            rw [must1, decide_eq_false hb3', Bool.false_or, hnb, Bool.true_and] at hop
            rw [hop]
            refine gA rfl (go_dw (d225 m hm' hA hB (decide ((arg0 e).val.num > 0)) d hd (putA w [sM]) (arg0 e) (by rw [hl1, e1]; omega)) rfl rfl rfl rfl rfl rfl rfl rfl rfl rfl rfl rfl rfl rfl rfl rfl (by (repeat' (first | exact trivial | exact rfl | exact PVle.refl _ | exact PVle.bk (by assumption) | apply And.intro)) <;> first | omega | (simp only [Int.toNat_natCast]; omega) | (simp; done) | (simp; omega)) rfl (by (repeat' (first | exact trivial | exact rfl | exact PVle.refl _ | exact PVle.bk (by assumption) | apply And.intro)) <;> first | omega | (simp only [Int.toNat_natCast]; omega) | (simp; done) | (simp; omega)) ?_)
            refine gA rfl (end_w (by first | exact .inr rfl | exact .inl rfl) rfl rfl rfl rfl rfl (by first | exact .refl _ | exact .kb _) (by first | exact .refl _ | exact .kb _) rfl rfl rfl rfl (.refl _) rfl rfl)
    · have hk' : ¬ (arg0 e).kind = 2 := of_decide_eq_false hk
      have hnb : numB (arg0 e) = false := by rw [numB, decide_eq_false hk']; rfl
      rw [hnb, Bool.false_and, if_neg (by simp)] at hop
      refine gA rfl (go_wp (d147 w [sM] (by simp) (by rw [sizeA1, e1]; omega)) rfl rfl rfl rfl rfl rfl rfl rfl rfl rfl rfl rfl ?_)
      refine gA rfl (go_ddet tyA_ok [] (Pure.det (c226 (arg0 e))) rfl rfl rfl rfl rfl rfl rfl rfl rfl rfl rfl rfl (by (repeat' (first | exact trivial | exact rfl | exact PVle.refl _ | exact PVle.bk (by assumption) | apply And.intro)) <;> first | omega | (simp only [Int.toNat_natCast]; omega) | (simp; done) | (simp; omega)) rfl (by (repeat' (first | exact trivial | exact rfl | exact PVle.refl _ | exact PVle.bk (by assumption) | apply And.intro)) <;> first | omega | (simp only [Int.toNat_natCast]; omega) | (simp; done) | (simp; omega)) ?_)
      refine gA rfl ?_
      refine And.intro (fun hb3 => ?_) (fun hb3 => ?_)
      · have hb3' : bindsI (arg0 e) < 3 := of_decide_eq_true hb3
        rw [must1, decide_eq_true hb3', Bool.true_or] at hop
        rw [hop]
        refine gA rfl (go_dw (d225 m hm' hA hB true d hd (putA w [sM]) (arg0 e) (by rw [hl1, e1]; omega)) rfl rfl rfl rfl rfl rfl rfl rfl rfl rfl rfl rfl rfl rfl rfl rfl (by (repeat' (first | exact trivial | exact rfl | exact PVle.refl _ | exact PVle.bk (by assumption) | apply And.intro)) <;> first | omega | (simp only [Int.toNat_natCast]; omega) | (simp; done) | (simp; omega)) rfl (by (repeat' (first | exact trivial | exact rfl | exact PVle.refl _ | exact PVle.bk (by assumption) | apply And.intro)) <;> first | omega | (simp only [Int.toNat_natCast]; omega) | (simp; done) | (simp; omega)) ?_)
        refine gA rfl (end_w (by first | exact .inr rfl | exact .inl rfl) rfl rfl rfl rfl rfl (by first | exact .refl _ | exact .kb _) (by first | exact .refl _ | exact .kb _) rfl rfl rfl rfl (.refl _) rfl rfl)
      · have hb3' : ¬ bindsI (arg0 e) < 3 := of_decide_eq_false hb3
        rw [must1, decide_eq_false hb3', Bool.false_or, hnb, Bool.false_and] at hop
        rw [hop]
        refine gA rfl (go_dw (d225 m hm' hA hB false d hd (putA w [sM]) (arg0 e) (by rw [hl1, e1]; omega)) rfl rfl rfl rfl rfl rfl rfl rfl rfl rfl rfl rfl rfl rfl rfl rfl (by (repeat' (first | exact trivial | exact rfl | exact PVle.refl _ | exact PVle.bk (by assumption) | apply And.intro)) <;> first | omega | (simp only [Int.toNat_natCast]; omega) | (simp; done) | (simp; omega)) rfl (by (repeat' (first | exact trivial | exact rfl | exact PVle.refl _ | exact PVle.bk (by assumption) | apply And.intro)) <;> first | omega | (simp only [Int.toNat_natCast]; omega) | (simp; done) | (simp; omega)) ?_)
        refine gA rfl (end_w (by first | exact .inr rfl | exact .inl rfl) rfl rfl rfl rfl rfl (by first | exact .refl _ | exact .kb _) (by first | exact .refl _ | exact .kb _) rfl rfl rfl rfl (.refl _) rfl rfl)
  · have h6 : ¬ e.op = 6 := of_decide_eq_false h6
    refine gA rfl ?_
    refine And.intro (fun h1 => ?_) (fun h1 => ?_)
    rotate_left
    · have h1 : w.bad = true := h1
      rw [operW, if_pos h1]
      refine gA rfl (end_w (by first | exact .inr rfl | exact .inl rfl) rfl rfl rfl rfl rfl (by first | exact .refl _ | exact .kb _) (by first | exact .refl _ | exact .kb _) rfl rfl rfl rfl (.refl _) rfl rfl)
    have h1 : ¬ w.bad = true := by rw [show w.bad = false from h1]; simp
    refine gA rfl ?_
    refine And.intro (fun h2 => ?_) (fun h2 => ?_)
    rotate_left
    · have h2 : ¬ e.args.length = 2 := by simp at h2; omega
      rw [operW, if_neg h1, if_neg h6, if_neg h2]
      refine gA rfl (end_w (by first | exact .inr rfl | exact .inl rfl) rfl rfl rfl rfl rfl (by first | exact .refl _ | exact .kb _) (by first | exact .refl _ | exact .kb _) rfl rfl rfl rfl (.refl _) rfl rfl)
    have h2 : e.args.length = 2 := by simp at h2; omega
    have hg : (arg0 e).ts + (arg1 e).ts ≤ _ := Expr.tss_two e.args h2
    rw [operW, if_neg h1, if_neg h6, if_pos h2]
    refine gA rfl ?_
    refine And.intro (fun h3 => ?_) (fun h3 => ?_)
    · exact absurd (of_decide_eq_true h3) (by omega)
    refine gA rfl ?_
    refine And.intro (fun h7 => ?_) (fun h7 => ?_)
    · exact absurd (of_decide_eq_true h7) (by simp)
    refine gA rfl (go_ddet tyA_ok [] (Pure.det (c226 (arg0 e))) rfl rfl rfl rfl rfl rfl rfl rfl rfl rfl rfl rfl (by (repeat' (first | exact trivial | exact rfl | exact PVle.refl _ | exact PVle.bk (by assumption) | apply And.intro)) <;> first | omega | (simp only [Int.toNat_natCast]; omega) | (simp; done) | (simp; omega)) rfl (by (repeat' (first | exact trivial | exact rfl | exact PVle.refl _ | exact PVle.bk (by assumption) | apply And.intro)) <;> first | omega | (simp only [Int.toNat_natCast]; omega) | (simp; done) | (simp; omega)) ?_)
    refine gA rfl (go_ddet tyA_ok [] (Pure.det (c212 e.op)) rfl rfl rfl rfl rfl rfl rfl rfl rfl rfl rfl rfl (by (repeat' (first | exact trivial | exact rfl | exact PVle.refl _ | exact PVle.bk (by assumption) | apply And.intro)) <;> first | omega | (simp only [Int.toNat_natCast]; omega) | (simp; done) | (simp; omega)) rfl (by (repeat' (first | exact trivial | exact rfl | exact PVle.refl _ | exact PVle.bk (by assumption) | apply And.intro)) <;> first | omega | (simp only [Int.toNat_natCast]; omega) | (simp; done) | (simp; omega)) ?_)
    refine gA rfl (go_dw (d225 m hm' hA hB (decide (bindsI (arg0 e) < strengthI e.op)) d hd w (arg0 e) (by omega)) rfl rfl rfl rfl rfl rfl rfl rfl rfl rfl rfl rfl rfl rfl rfl rfl (by (repeat' (first | exact trivial | exact rfl | exact PVle.refl _ | exact PVle.bk (by assumption) | apply And.intro)) <;> first | omega | (simp only [Int.toNat_natCast]; omega) | (simp; done) | (simp; omega)) rfl (by (repeat' (first | exact trivial | exact rfl | exact PVle.refl _ | exact PVle.bk (by assumption) | apply And.intro)) <;> first | omega | (simp only [Int.toNat_natCast]; omega) | (simp; done) | (simp; omega)) ?_)
    refine gA rfl (go_pure (c227 e.op) rfl rfl rfl rfl rfl rfl ?_)
    have hla := argW_len m (decide (bindsI (arg0 e) < strengthI e.op)) w (arg0 e)
    have hsg := sign_len e.op
    have e2 : sSp.size = 1 := rfl
    have e3 : sizeA [sSp, signS e.op, sSp] = 1 + ((signS e.op).size + 1) := by simp [sizeA, e2]
    refine gA rfl (go_wp (d147 (argW m (decide (bindsI (arg0 e) < strengthI e.op)) w (arg0 e)) [sSp, signS e.op, sSp] (by simp) (by rw [e3]; omega)) rfl rfl rfl rfl rfl rfl rfl rfl rfl rfl rfl rfl ?_)
    refine gA rfl (go_ddet tyA_ok [] (Pure.det (c226 (arg1 e))) rfl rfl rfl rfl rfl rfl rfl rfl rfl rfl rfl rfl (by (repeat' (first | exact trivial | exact rfl | exact PVle.refl _ | exact PVle.bk (by assumption) | apply And.intro)) <;> first | omega | (simp only [Int.toNat_natCast]; omega) | (simp; done) | (simp; omega)) rfl (by (repeat' (first | exact trivial | exact rfl | exact PVle.refl _ | exact PVle.bk (by assumption) | apply And.intro)) <;> first | omega | (simp only [Int.toNat_natCast]; omega) | (simp; done) | (simp; omega)) ?_)
    refine gA rfl (go_ddet tyA_ok [] (Pure.det (c212 e.op)) rfl rfl rfl rfl rfl rfl rfl rfl rfl rfl rfl rfl (by (repeat' (first | exact trivial | exact rfl | exact PVle.refl _ | exact PVle.bk (by assumption) | apply And.intro)) <;> first | omega | (simp only [Int.toNat_natCast]; omega) | (simp; done) | (simp; omega)) rfl (by (repeat' (first | exact trivial | exact rfl | exact PVle.refl _ | exact PVle.bk (by assumption) | apply And.intro)) <;> first | omega | (simp only [Int.toNat_natCast]; omega) | (simp; done) | (simp; omega)) ?_)
    refine gA rfl (go_dw (d225 m hm' hA hB (decide (bindsI (arg1 e) ≤ strengthI e.op)) d hd (putA (argW m (decide (bindsI (arg0 e) < strengthI e.op)) w (arg0 e)) [sSp, signS e.op, sSp]) (arg1 e) (by rw [putA_len, e3]; omega)) rfl rfl rfl rfl rfl rfl rfl rfl rfl rfl rfl rfl rfl rfl rfl rfl (by (repeat' (first | exact trivial | exact rfl | exact PVle.refl _ | exact PVle.bk (by assumption) | apply And.intro)) <;> first | omega | (simp only [Int.toNat_natCast]; omega) | (simp; done) | (simp; omega)) rfl (by (repeat' (first | exact trivial | exact rfl | exact PVle.refl _ | exact PVle.bk (by assumption) | apply And.intro)) <;> first | omega | (simp only [Int.toNat_natCast]; omega) | (simp; done) | (simp; omega)) ?_)
    refine gA rfl (end_w (by first | exact .inr rfl | exact .inl rfl) rfl rfl rfl rfl rfl (by first | exact .refl _ | exact .kb _) (by first | exact .refl _ | exact .kb _) rfl rfl rfl rfl (.refl _) rfl rfl)
end Go.Proofs.YtpnclpbkecjinaaGreatDoorR
/-
  The printer: expr at every depth.
-/
namespace Go.Proofs.YtpnclpbkecjinaaGreatDoorR
open Go Go.Al
set_option maxRecDepth 10000
theorem d189 (d : Int) (hd0 : 0 ≤ d) (hd1 : d ≤ 1000) (w : WS) (e : Expr) (hb : w.l.length + e.ts ≤ 1000000000) (k : WS) (hk : Det Tryz.prog 213 [.ptr 0 0, ag e.c, pI (d - 1)] (mustW w (okOp e)).O (.tup []) k.H 3) : Det Tryz.prog 189 [.ptr 0 0, ag e.c, pI d] w.O (.tup []) (leafW w e k).H 3 := by
  have hts := e.ts_eq
  refine det_end tyA_ok Tryz.func189 rfl (by decide) Tryz.ntmps189 rfl (by simp) ?_
  refine gA rfl ?_
  refine And.intro (fun h1 => ?_) (fun h1 => ?_)
  rotate_left
  · have h1 : w.bad = true := h1
    rw [leafW, if_pos h1]
    refine gA rfl (end_w (by first | exact .inr rfl | exact .inl rfl) rfl rfl rfl rfl rfl (by first | exact .refl _ | exact .kb _) (by first | exact .refl _ | exact .kb _) rfl rfl rfl rfl (.refl _) rfl rfl)
  have h1' : ¬ w.bad = true := by rw [show w.bad = false from h1]; simp
  refine gA rfl ?_
  refine And.intro (fun h2 => ?_) (fun h2 => ?_)
  · exact absurd (of_decide_eq_true h2) (by omega)
  refine gA rfl ?_
  refine And.intro (fun hk1 => ?_) (fun hk1 => ?_)
  · have hk1' : e.kind = 1 := of_decide_eq_true hk1
    have hlf : leafW w e k = putA (mustW w (okVar e)) [e.var] := by rw [leafW, if_neg h1', if_pos hk1']
    rw [hlf]
    refine gA rfl (go_pure (c148 e.var) rfl rfl rfl rfl rfl rfl ?_)
    refine gA rfl ?_
    refine And.intro (fun g0 => ?_) (fun g0 => ?_)
    rotate_left
    · have hx : okVar e = false := by simp only [okVar, zValB, *]; rfl
      rw [hx]
      refine gA rfl (go_w (d146 w false) rfl rfl rfl rfl rfl rfl rfl rfl rfl rfl rfl rfl ?_)
      refine gA rfl (go_wp (d147 (mustW w false) [e.var] (by simp) (by rw [sizeA1, mustW_len]; omega)) rfl rfl rfl rfl rfl rfl rfl rfl rfl rfl rfl rfl ?_)
      refine gA rfl (end_w (by first | exact .inr rfl | exact .inl rfl) rfl rfl rfl rfl rfl (by first | exact .refl _ | exact .kb _) (by first | exact .refl _ | exact .kb _) rfl rfl rfl rfl (.refl _) rfl rfl)
    refine gA rfl ?_
    refine And.intro (fun g1 => ?_) (fun g1 => ?_)
    rotate_left
    · have hx : okVar e = false := by simp only [okVar, zValB, *]; rfl
      rw [hx]
      refine gA rfl (go_w (d146 w false) rfl rfl rfl rfl rfl rfl rfl rfl rfl rfl rfl rfl ?_)
      refine gA rfl (go_wp (d147 (mustW w false) [e.var] (by simp) (by rw [sizeA1, mustW_len]; omega)) rfl rfl rfl rfl rfl rfl rfl rfl rfl rfl rfl rfl ?_)
      refine gA rfl (end_w (by first | exact .inr rfl | exact .inl rfl) rfl rfl rfl rfl rfl (by first | exact .refl _ | exact .kb _) (by first | exact .refl _ | exact .kb _) rfl rfl rfl rfl (.refl _) rfl rfl)
    refine gA rfl ?_
    refine And.intro (fun g2 => ?_) (fun g2 => ?_)
    rotate_left
    · have hx : okVar e = false := by simp only [okVar, zValB, *]; rfl
      rw [hx]
      refine gA rfl (go_w (d146 w false) rfl rfl rfl rfl rfl rfl rfl rfl rfl rfl rfl rfl ?_)
      refine gA rfl (go_wp (d147 (mustW w false) [e.var] (by simp) (by rw [sizeA1, mustW_len]; omega)) rfl rfl rfl rfl rfl rfl rfl rfl rfl rfl rfl rfl ?_)
      refine gA rfl (end_w (by first | exact .inr rfl | exact .inl rfl) rfl rfl rfl rfl rfl (by first | exact .refl _ | exact .kb _) (by first | exact .refl _ | exact .kb _) rfl rfl rfl rfl (.refl _) rfl rfl)
    have hx : okVar e = decide ((e.args.length : Int) = 0) := by simp only [okVar, zValB, *]; rfl
    rw [hx]
    refine gA rfl (go_w (d146 w (decide ((e.args.length : Int) = 0))) rfl rfl rfl rfl rfl rfl rfl rfl rfl rfl rfl rfl ?_)
    refine gA rfl (go_wp (d147 (mustW w (decide ((e.args.length : Int) = 0))) [e.var] (by simp) (by rw [sizeA1, mustW_len]; omega)) rfl rfl rfl rfl rfl rfl rfl rfl rfl rfl rfl rfl ?_)
    refine gA rfl (end_w (by first | exact .inr rfl | exact .inl rfl) rfl rfl rfl rfl rfl (by first | exact .refl _ | exact .kb _) (by first | exact .refl _ | exact .kb _) rfl rfl rfl rfl (.refl _) rfl rfl)
  have hk1' : ¬ e.kind = 1 := of_decide_eq_false hk1
  refine gA rfl ?_
  refine And.intro (fun hk2 => ?_) (fun hk2 => ?_)
  · have hk2' : e.kind = 2 := of_decide_eq_true hk2
    have hlf : leafW w e k = valueW (mustW w (okVal e)) e.val := by rw [leafW, if_neg h1', if_neg hk1', if_pos hk2']
    rw [hlf]
    have htv := textV_len e.val
    refine gA rfl ?_
    refine And.intro (fun g0 => ?_) (fun g0 => ?_)
    rotate_left
    · have hx : okVal e = false := by simp only [okVal, zValB, *]; rfl
      rw [hx]
      refine gA rfl (go_w (d146 w false) rfl rfl rfl rfl rfl rfl rfl rfl rfl rfl rfl rfl ?_)
      refine gA rfl (go_w (d149 (mustW w false) e.val (by rw [mustW_len]; omega) (by omega)) rfl rfl rfl rfl rfl rfl rfl rfl rfl rfl rfl rfl ?_)
      refine gA rfl (end_w (by first | exact .inr rfl | exact .inl rfl) rfl rfl rfl rfl rfl (by first | exact .refl _ | exact .kb _) (by first | exact .refl _ | exact .kb _) rfl rfl rfl rfl (.refl _) rfl rfl)
    refine gA rfl ?_
    refine And.intro (fun g1 => ?_) (fun g1 => ?_)
    rotate_left
    · have hx : okVal e = false := by simp only [okVal, zValB, *]; rfl
      rw [hx]
      refine gA rfl (go_w (d146 w false) rfl rfl rfl rfl rfl rfl rfl rfl rfl rfl rfl rfl ?_)
      refine gA rfl (go_w (d149 (mustW w false) e.val (by rw [mustW_len]; omega) (by omega)) rfl rfl rfl rfl rfl rfl rfl rfl rfl rfl rfl rfl ?_)
      refine gA rfl (end_w (by first | exact .inr rfl | exact .inl rfl) rfl rfl rfl rfl rfl (by first | exact .refl _ | exact .kb _) (by first | exact .refl _ | exact .kb _) rfl rfl rfl rfl (.refl _) rfl rfl)
    have hx : okVal e = decide ((e.args.length : Int) = 0) := by simp only [okVal, zValB, *]; rfl
    rw [hx]
    refine gA rfl (go_w (d146 w (decide ((e.args.length : Int) = 0))) rfl rfl rfl rfl rfl rfl rfl rfl rfl rfl rfl rfl ?_)
    refine gA rfl (go_w (d149 (mustW w (decide ((e.args.length : Int) = 0))) e.val (by rw [mustW_len]; omega) (by omega)) rfl rfl rfl rfl rfl rfl rfl rfl rfl rfl rfl rfl ?_)
    refine gA rfl (end_w (by first | exact .inr rfl | exact .inl rfl) rfl rfl rfl rfl rfl (by first | exact .refl _ | exact .kb _) (by first | exact .refl _ | exact .kb _) rfl rfl rfl rfl (.refl _) rfl rfl)
  have hk2' : ¬ e.kind = 2 := of_decide_eq_false hk2
  refine gA rfl ?_
  refine And.intro (fun hk4 => ?_) (fun hk4 => ?_)
  · have hk4' : e.kind = 4 := of_decide_eq_true hk4
    have hlf : leafW w e k = k := by rw [leafW, if_neg h1', if_neg hk1', if_neg hk2', if_pos hk4']
    rw [hlf]
    refine gA rfl ?_
    refine And.intro (fun g0 => ?_) (fun g0 => ?_)
    rotate_left
    · have hx : okOp e = false := by simp only [okOp, zValB, *]; rfl
      rw [hx] at hk
      refine gA rfl (go_w (d146 w false) rfl rfl rfl rfl rfl rfl rfl rfl rfl rfl rfl rfl ?_)
      refine gA rfl (go_w (hk) rfl rfl rfl rfl rfl rfl rfl rfl rfl rfl rfl rfl ?_)
      refine gA rfl (end_w (by first | exact .inr rfl | exact .inl rfl) rfl rfl rfl rfl rfl (by first | exact .refl _ | exact .kb _) (by first | exact .refl _ | exact .kb _) rfl rfl rfl rfl (.refl _) rfl rfl)
    refine gA rfl ?_
    refine And.intro (fun g1 => ?_) (fun g1 => ?_)
    rotate_left
    · have hx : okOp e = false := by simp only [okOp, zValB, *]; rfl
      rw [hx] at hk
      refine gA rfl (go_w (d146 w false) rfl rfl rfl rfl rfl rfl rfl rfl rfl rfl rfl rfl ?_)
      refine gA rfl (go_w (hk) rfl rfl rfl rfl rfl rfl rfl rfl rfl rfl rfl rfl ?_)
      refine gA rfl (end_w (by first | exact .inr rfl | exact .inl rfl) rfl rfl rfl rfl rfl (by first | exact .refl _ | exact .kb _) (by first | exact .refl _ | exact .kb _) rfl rfl rfl rfl (.refl _) rfl rfl)
    refine gA rfl (go_pure (c212 e.op) rfl rfl rfl rfl rfl rfl ?_)
    have hx : okOp e = decide (strengthI e.op > 0) := by simp only [okOp, zValB, *]; rfl
    rw [hx] at hk
    refine gA rfl (go_w (d146 w (decide (strengthI e.op > 0))) rfl rfl rfl rfl rfl rfl rfl rfl rfl rfl rfl rfl ?_)
    refine gA rfl (go_w (hk) rfl rfl rfl rfl rfl rfl rfl rfl rfl rfl rfl rfl ?_)
    refine gA rfl (end_w (by first | exact .inr rfl | exact .inl rfl) rfl rfl rfl rfl rfl (by first | exact .refl _ | exact .kb _) (by first | exact .refl _ | exact .kb _) rfl rfl rfl rfl (.refl _) rfl rfl)
  have hk4' : ¬ e.kind = 4 := of_decide_eq_false hk4
  rw [leafW, if_neg h1', if_neg hk1', if_neg hk2', if_neg hk4']
  refine gA rfl (end_w (by first | exact .inr rfl | exact .inl rfl) rfl rfl rfl rfl rfl (by first | exact .refl _ | exact .kb _) (by first | exact .refl _ | exact .kb _) rfl rfl rfl rfl (.refl _) rfl rfl)
theorem pe0 : PE 0 := fun d w e hd hb => by
  refine det_end tyA_ok Tryz.func189 rfl (by decide) Tryz.ntmps189 rfl (by simp) ?_
  rw [exprW]
  repeat' (first
    | ((rename_i h; exact absurd (by omega : d < 0) (of_decide_eq_false h)))
    | (refine gA rfl (And.intro (fun _ => ?_) (fun _ => ?_)))
    | (refine gA rfl (end_w (by first | exact .inr rfl | exact .inl rfl) rfl rfl rfl rfl rfl (by first | exact .refl _ | exact .kb _) (by first | exact .refl _ | exact .kb _) rfl rfl rfl rfl (.refl _) rfl rfl)))
theorem pe_all : ∀ n, n ≤ 900 → PE n
  | 0, _ => pe0
  | 1, _ => fun d w e hd hb => d189 d (by omega) (by omega) w e hb _ (d213z (d - 1) (by omega) (mustW w (okOp e)) e)
  | m + 2, h => fun d w e hd hb => d189 d (by omega) (by omega) w e (by omega) _ (d213 m (by omega) (pe_all (m + 1) (by omega)) (pe_all m (by omega)) (d - 1) (by omega) (mustW w (okOp e)) e (by rw [mustW_len]; omega))
/-- expr, at the depth of the language. -/
theorem d189' (w : WS) (e : Expr) (hb : w.l.length + e.ts ≤ 900000000) : Det Tryz.prog 189 [.ptr 0 0, ag e.c, pI 16] w.O (.tup []) (exprW 17 w e).H 3 := pe_all 17 (by omega) 16 w e (by omega) (by omega)
end Go.Proofs.YtpnclpbkecjinaaGreatDoorR
/-
  The printer: atoms.
-/
namespace Go.Proofs.YtpnclpbkecjinaaGreatDoorR
open Go Go.Al
set_option maxRecDepth 10000
def sCm : Str := ⟨#[44, 32]⟩
def sUn : Str := ⟨#[95]⟩
def commaW (i : Nat) (w : WS) : WS := if i = 0 then w else putA w [sCm]
def okTV (t : Term) : Bool := varB t.var && zValB t.val
def okTA (t : Term) : Bool := decide (t.var = ⟨#[]⟩) && zValB t.val
def termW (w : WS) (t : Term) : WS :=
  if t.kind = 1 then putA (mustW w (okTV t)) [t.var] else if t.kind = 2 then valueW (mustW w (decide (t.var = ⟨#[]⟩))) t.val else if t.kind = 3 then putA (mustW w (okTA t)) [sUn] else badW w
def termsW (l : List Term) (w : WS) : Nat → WS
  | 0 => w
  | i + 1 => termW (commaW i (termsW l w i)) (l.getD i default)
def atomW (w : WS) (a : Atom) : WS := putA (termsW a.terms (putA (mustW w (nameB a.rel)) [a.rel, sO]) a.terms.length) [sC]
def Term.ts (t : Term) : Nat := t.var.size + 310
def Atom.ts (a : Atom) : Nat := a.rel.size + 10 + (a.terms.map Term.ts).sum
theorem commaW_len (i : Nat) (w : WS) : (commaW i w).l.length ≤ w.l.length + 2 := by
  have e : sCm.size = 2 := rfl
  unfold commaW
  split
  · omega
  · rw [putA1_len, e]; omega
theorem termW_len (w : WS) (t : Term) : (termW w t).l.length ≤ w.l.length + 300 + t.var.size := by
  have e : sUn.size = 1 := rfl
  unfold termW
  repeat' split
  · rw [putA1_len, mustW_len]; omega
  · have := valueW_len (mustW w (decide (t.var = ⟨#[]⟩))) t.val
    rw [mustW_len] at this; omega
  · rw [putA1_len, mustW_len, e]; omega
  · rw [badW_len]; omega
theorem sumT_take : ∀ (l : List Term) (i : Nat), i < l.length → ((l.take i).map Term.ts).sum + (l.getD i default).ts ≤ (l.map Term.ts).sum
  | [], i, h => by simp at h
  | s :: r, 0, _ => by simp
  | s :: r, i + 1, h => by
    have := sumT_take r i (by simpa using h)
    simp at this ⊢; omega
theorem sumT_le : ∀ (l : List Term) (i : Nat), ((l.take i).map Term.ts).sum ≤ (l.map Term.ts).sum
  | [], i => by simp
  | s :: r, 0 => by simp
  | s :: r, i + 1 => by have := sumT_le r i; simp at this ⊢; omega
theorem termsW_len (l : List Term) (w : WS) : ∀ i, i ≤ l.length → (termsW l w i).l.length ≤ w.l.length + ((l.take i).map Term.ts).sum
  | 0, _ => by simp [termsW]
  | i + 1, h => by
    have h1 := termsW_len l w i (by omega)
    have h2 := commaW_len i (termsW l w i)
    have h3 := termW_len (commaW i (termsW l w i)) (l.getD i default)
    have h4 : (l.getD i default).ts = (l.getD i default).var.size + 310 := rfl
    have h5 : ((l.take (i + 1)).map Term.ts).sum = ((l.take i).map Term.ts).sum + (l.getD i default).ts := by
      rw [take_step (by omega), List.map_append, List.sum_append]; simp
    rw [termsW]; omega
theorem atomW_len (w : WS) (a : Atom) : (atomW w a).l.length ≤ w.l.length + a.ts := by
  have e1 : sO.size = 1 := rfl
  have e2 : sC.size = 1 := rfl
  have e3 : sizeA [a.rel, sO] = a.rel.size + 1 := by simp [sizeA, e1]
  have h1 := termsW_len a.terms (putA (mustW w (nameB a.rel)) [a.rel, sO]) a.terms.length (Nat.le_refl _)
  rw [putA_len, e3, mustW_len, List.take_length] at h1
  rw [atomW, putA1_len, e2]
  unfold Atom.ts; omega
theorem length_ts : ∀ l : List Term, l.length ≤ (l.map Term.ts).sum
  | [] => by simp
  | t :: r => by have := length_ts r; simp [Term.ts] at this ⊢; omega
set_option maxHeartbeats 1000000 in
theorem d104 (w : WS) (a : Atom) (hb : w.l.length + a.ts ≤ 900000000) : Det Tryz.prog 104 [.ptr 0 0, ag a.c] w.O (.tup []) (atomW w a).H 3 := by
  have e1 : sO.size = 1 := rfl
  have e2 : sC.size = 1 := rfl
  have e4 : sCm.size = 2 := rfl
  have e5 : sUn.size = 1 := rfl
  have e3 : sizeA [a.rel, sO] = a.rel.size + 1 := by simp [sizeA, e1]
  have hts : a.ts = a.rel.size + 10 + (a.terms.map Term.ts).sum := rfl
  have hlt := length_ts a.terms
  have hl0 : (putA (mustW w (nameB a.rel)) [a.rel, sO]).l.length = w.l.length + (a.rel.size + 1) := by rw [putA_len, e3, mustW_len]
  refine det_end tyA_ok Tryz.func104 rfl (by decide) Tryz.ntmps104 rfl (by simp) ?_
  refine gA rfl (go_pure (c97 a.rel) rfl rfl rfl rfl rfl rfl ?_)
  refine gA rfl (go_w (d146 w (nameB a.rel)) rfl rfl rfl rfl rfl rfl rfl rfl rfl rfl rfl rfl ?_)
  refine gA rfl (go_wp (d147 (mustW w (nameB a.rel)) [a.rel, sO] (by simp) (by rw [e3, mustW_len]; omega)) rfl rfl rfl rfl rfl rfl rfl rfl rfl rfl rfl rfl ?_)
  generalize hW : putA (mustW w (nameB a.rel)) [a.rel, sO] = w1 at *
  refine gA rfl ?_
  refine go_for 0 a.terms.length (Nat.zero_le _) (fun i => ⟨[(0, .ptr 0 0), (17, .iv (slc 5 a.terms Term.c)), (18, pI a.terms.length), (19, pI i)], [(0, some ((termsW a.terms w1 i).cAt 0 6)), (6, some (.brow (termsW a.terms w1 i).l 5))], 7⟩) (fun _ => True) _ trivial
    (wkW (w := w1) rfl rfl rfl rfl rfl (.refl _) (.refl _) rfl rfl rfl rfl rfl ⟨.refl _, rfl, .refl _, rfl, .refl _, rfl, .refl _, rfl, trivial⟩) fun i hi _ => ?_
  have hln := termsW_len a.terms w1 i hi
  have hsl := sumT_le a.terms i
  refine gA rfl ?_
  refine And.intro (fun h1 => ?_) (fun h1 => ?_)
  rotate_left
  · have h1 : a.terms.length ≤ i := Nat.le_of_not_lt fun hh => absurd (Int.ofNat_lt.2 hh) (of_decide_eq_false h1)
    have hie : i = a.terms.length := by omega
    subst hie
    refine gA rfl (go_wp (d147 (termsW a.terms w1 a.terms.length) [sC] (by simp) (by rw [sizeA1, e2]; omega)) rfl rfl rfl rfl rfl rfl rfl rfl rfl rfl rfl rfl ?_)
    rw [atomW, hW]
    refine gA rfl (end_w (by first | exact .inr rfl | exact .inl rfl) rfl rfl rfl rfl rfl (by first | exact .refl _ | exact .kb _) (by first | exact .refl _ | exact .kb _) rfl rfl rfl rfl (.refl _) rfl rfl)
  have h1 : i < a.terms.length := Int.ofNat_lt.1 (of_decide_eq_true h1)
  have hst := sumT_take a.terms i h1
  have hs : termsW a.terms w1 (i + 1) = termW (commaW i (termsW a.terms w1 i)) (a.terms.getD i default) := rfl
  have ht : (a.terms.getD i default).ts = (a.terms.getD i default).var.size + 310 := rfl
  have htv := textV_len (a.terms.getD i default).val
  have hcl := commaW_len i (termsW a.terms w1 i)
  generalize hT : termsW a.terms w1 i = w2 at *
  refine gA rfl ?_
  refine And.intro (fun h2 => ?_) (fun h2 => ?_)
  · have h2 : ¬ i = 0 := by have := of_decide_eq_true h2; omega
    rw [commaW, if_neg h2] at hs
    refine gA rfl (go_wp (d147 w2 [sCm] (by simp) (by rw [sizeA1, e4]; omega)) rfl rfl rfl rfl rfl rfl rfl rfl rfl rfl rfl rfl ?_)
    refine gA rfl ?_
    refine And.intro (fun k1 => ?_) (fun k1 => ?_)
    · have k1' : (a.terms.getD i default).kind = 1 := of_decide_eq_true k1
      rw [termW, if_pos k1'] at hs
      refine gA rfl (go_pure (c148 (a.terms.getD i default).var) rfl rfl rfl rfl rfl rfl ?_)
      refine gA rfl ?_
      refine And.intro (fun g0 => ?_) (fun g0 => ?_)
      rotate_left
      · have hx : okTV (a.terms.getD i default) = false := by have g : varB (a.terms.getD i default).var = false := g0; rw [okTV, g]; rfl
        rw [hx] at hs
        refine gA rfl (go_w (d146 (putA w2 [sCm]) false) rfl rfl rfl rfl rfl rfl rfl rfl rfl rfl rfl rfl ?_)
        refine gA rfl (go_wp (d147 (mustW (putA w2 [sCm]) false) [(a.terms.getD i default).var] (by simp) (by rw [sizeA1, mustW_len]; first | omega | (rw [putA1_len, e4]; omega))) rfl rfl rfl rfl rfl rfl rfl rfl rfl rfl rfl rfl ?_)
        refine gA rfl ⟨h1, trivial, _, wkW (hs.symm) rfl rfl rfl rfl (by first | exact .refl _ | exact .kb _) (by first | exact .refl _ | exact .kb _) rfl rfl rfl rfl rfl ⟨.refl _, rfl, .refl _, rfl, .refl _, rfl, .refl _, rfl, trivial⟩⟩
      have hx : okTV (a.terms.getD i default) = zValB (a.terms.getD i default).val := by have g : varB (a.terms.getD i default).var = true := g0; rw [okTV, g]; rfl
      rw [hx] at hs
      refine gA rfl (go_w (d146 (putA w2 [sCm]) (zValB (a.terms.getD i default).val)) rfl rfl rfl rfl rfl rfl rfl rfl rfl rfl rfl rfl ?_)
      refine gA rfl (go_wp (d147 (mustW (putA w2 [sCm]) (zValB (a.terms.getD i default).val)) [(a.terms.getD i default).var] (by simp) (by rw [sizeA1, mustW_len]; first | omega | (rw [putA1_len, e4]; omega))) rfl rfl rfl rfl rfl rfl rfl rfl rfl rfl rfl rfl ?_)
      refine gA rfl ⟨h1, trivial, _, wkW (hs.symm) rfl rfl rfl rfl (by first | exact .refl _ | exact .kb _) (by first | exact .refl _ | exact .kb _) rfl rfl rfl rfl rfl ⟨.refl _, rfl, .refl _, rfl, .refl _, rfl, .refl _, rfl, trivial⟩⟩
    have k1' : ¬ (a.terms.getD i default).kind = 1 := of_decide_eq_false k1
    refine gA rfl ?_
    refine And.intro (fun k2 => ?_) (fun k2 => ?_)
    · have k2' : (a.terms.getD i default).kind = 2 := of_decide_eq_true k2
      rw [termW, if_neg k1', if_pos k2'] at hs
      refine gA rfl (go_w (d146 (putA w2 [sCm]) (decide ((a.terms.getD i default).var = ⟨#[]⟩))) rfl rfl rfl rfl rfl rfl rfl rfl rfl rfl rfl rfl ?_)
      refine gA rfl (go_w (d149 (mustW (putA w2 [sCm]) (decide ((a.terms.getD i default).var = ⟨#[]⟩))) (a.terms.getD i default).val (by rw [mustW_len]; first | omega | (rw [putA1_len, e4]; omega)) (by omega)) rfl rfl rfl rfl rfl rfl rfl rfl rfl rfl rfl rfl ?_)
      refine gA rfl ⟨h1, trivial, _, wkW (hs.symm) rfl rfl rfl rfl (by first | exact .refl _ | exact .kb _) (by first | exact .refl _ | exact .kb _) rfl rfl rfl rfl rfl ⟨.refl _, rfl, .refl _, rfl, .refl _, rfl, .refl _, rfl, trivial⟩⟩
    have k2' : ¬ (a.terms.getD i default).kind = 2 := of_decide_eq_false k2
    refine gA rfl ?_
    refine And.intro (fun k3 => ?_) (fun k3 => ?_)
    · have k3' : (a.terms.getD i default).kind = 3 := of_decide_eq_true k3
      rw [termW, if_neg k1', if_neg k2', if_pos k3'] at hs
      refine gA rfl ?_
      refine And.intro (fun g0 => ?_) (fun g0 => ?_)
      rotate_left
      · have hx : okTA (a.terms.getD i default) = false := by have g : decide ((a.terms.getD i default).var = ⟨#[]⟩) = false := g0; rw [okTA, g]; rfl
        rw [hx] at hs
        refine gA rfl (go_w (d146 (putA w2 [sCm]) false) rfl rfl rfl rfl rfl rfl rfl rfl rfl rfl rfl rfl ?_)
        refine gA rfl (go_wp (d147 (mustW (putA w2 [sCm]) false) [sUn] (by simp) (by rw [sizeA1, mustW_len]; first | omega | (rw [putA1_len, e4]; omega))) rfl rfl rfl rfl rfl rfl rfl rfl rfl rfl rfl rfl ?_)
        refine gA rfl ⟨h1, trivial, _, wkW (hs.symm) rfl rfl rfl rfl (by first | exact .refl _ | exact .kb _) (by first | exact .refl _ | exact .kb _) rfl rfl rfl rfl rfl ⟨.refl _, rfl, .refl _, rfl, .refl _, rfl, .refl _, rfl, trivial⟩⟩
      have hx : okTA (a.terms.getD i default) = zValB (a.terms.getD i default).val := by have g : decide ((a.terms.getD i default).var = ⟨#[]⟩) = true := g0; rw [okTA, g]; rfl
      rw [hx] at hs
      refine gA rfl (go_w (d146 (putA w2 [sCm]) (zValB (a.terms.getD i default).val)) rfl rfl rfl rfl rfl rfl rfl rfl rfl rfl rfl rfl ?_)
      refine gA rfl (go_wp (d147 (mustW (putA w2 [sCm]) (zValB (a.terms.getD i default).val)) [sUn] (by simp) (by rw [sizeA1, mustW_len]; first | omega | (rw [putA1_len, e4]; omega))) rfl rfl rfl rfl rfl rfl rfl rfl rfl rfl rfl rfl ?_)
      refine gA rfl ⟨h1, trivial, _, wkW (hs.symm) rfl rfl rfl rfl (by first | exact .refl _ | exact .kb _) (by first | exact .refl _ | exact .kb _) rfl rfl rfl rfl rfl ⟨.refl _, rfl, .refl _, rfl, .refl _, rfl, .refl _, rfl, trivial⟩⟩
    have k3' : ¬ (a.terms.getD i default).kind = 3 := of_decide_eq_false k3
    rw [termW, if_neg k1', if_neg k2', if_neg k3'] at hs
    refine gA rfl ⟨h1, trivial, _, wkW (hs.symm) rfl rfl rfl rfl (by first | exact .refl _ | exact .kb _) (by first | exact .refl _ | exact .kb _) rfl rfl rfl rfl rfl ⟨.refl _, rfl, .refl _, rfl, .refl _, rfl, .refl _, rfl, trivial⟩⟩
  · have h2 : i = 0 := by have := of_decide_eq_false h2; omega
    rw [commaW, if_pos h2] at hs
    refine gA rfl ?_
    refine And.intro (fun k1 => ?_) (fun k1 => ?_)
    · have k1' : (a.terms.getD i default).kind = 1 := of_decide_eq_true k1
      rw [termW, if_pos k1'] at hs
      refine gA rfl (go_pure (c148 (a.terms.getD i default).var) rfl rfl rfl rfl rfl rfl ?_)
      refine gA rfl ?_
      refine And.intro (fun g0 => ?_) (fun g0 => ?_)
      rotate_left
      · have hx : okTV (a.terms.getD i default) = false := by have g : varB (a.terms.getD i default).var = false := g0; rw [okTV, g]; rfl
        rw [hx] at hs
        refine gA rfl (go_w (d146 w2 false) rfl rfl rfl rfl rfl rfl rfl rfl rfl rfl rfl rfl ?_)
        refine gA rfl (go_wp (d147 (mustW w2 false) [(a.terms.getD i default).var] (by simp) (by rw [sizeA1, mustW_len]; first | omega | (rw [putA1_len, e4]; omega))) rfl rfl rfl rfl rfl rfl rfl rfl rfl rfl rfl rfl ?_)
        refine gA rfl ⟨h1, trivial, _, wkW (hs.symm) rfl rfl rfl rfl (by first | exact .refl _ | exact .kb _) (by first | exact .refl _ | exact .kb _) rfl rfl rfl rfl rfl ⟨.refl _, rfl, .refl _, rfl, .refl _, rfl, .refl _, rfl, trivial⟩⟩
      have hx : okTV (a.terms.getD i default) = zValB (a.terms.getD i default).val := by have g : varB (a.terms.getD i default).var = true := g0; rw [okTV, g]; rfl
      rw [hx] at hs
      refine gA rfl (go_w (d146 w2 (zValB (a.terms.getD i default).val)) rfl rfl rfl rfl rfl rfl rfl rfl rfl rfl rfl rfl ?_)
      refine gA rfl (go_wp (d147 (mustW w2 (zValB (a.terms.getD i default).val)) [(a.terms.getD i default).var] (by simp) (by rw [sizeA1, mustW_len]; first | omega | (rw [putA1_len, e4]; omega))) rfl rfl rfl rfl rfl rfl rfl rfl rfl rfl rfl rfl ?_)
      refine gA rfl ⟨h1, trivial, _, wkW (hs.symm) rfl rfl rfl rfl (by first | exact .refl _ | exact .kb _) (by first | exact .refl _ | exact .kb _) rfl rfl rfl rfl rfl ⟨.refl _, rfl, .refl _, rfl, .refl _, rfl, .refl _, rfl, trivial⟩⟩
    have k1' : ¬ (a.terms.getD i default).kind = 1 := of_decide_eq_false k1
    refine gA rfl ?_
    refine And.intro (fun k2 => ?_) (fun k2 => ?_)
    · have k2' : (a.terms.getD i default).kind = 2 := of_decide_eq_true k2
      rw [termW, if_neg k1', if_pos k2'] at hs
      refine gA rfl (go_w (d146 w2 (decide ((a.terms.getD i default).var = ⟨#[]⟩))) rfl rfl rfl rfl rfl rfl rfl rfl rfl rfl rfl rfl ?_)
      refine gA rfl (go_w (d149 (mustW w2 (decide ((a.terms.getD i default).var = ⟨#[]⟩))) (a.terms.getD i default).val (by rw [mustW_len]; first | omega | (rw [putA1_len, e4]; omega)) (by omega)) rfl rfl rfl rfl rfl rfl rfl rfl rfl rfl rfl rfl ?_)
      refine gA rfl ⟨h1, trivial, _, wkW (hs.symm) rfl rfl rfl rfl (by first | exact .refl _ | exact .kb _) (by first | exact .refl _ | exact .kb _) rfl rfl rfl rfl rfl ⟨.refl _, rfl, .refl _, rfl, .refl _, rfl, .refl _, rfl, trivial⟩⟩
    have k2' : ¬ (a.terms.getD i default).kind = 2 := of_decide_eq_false k2
    refine gA rfl ?_
    refine And.intro (fun k3 => ?_) (fun k3 => ?_)
    · have k3' : (a.terms.getD i default).kind = 3 := of_decide_eq_true k3
      rw [termW, if_neg k1', if_neg k2', if_pos k3'] at hs
      refine gA rfl ?_
      refine And.intro (fun g0 => ?_) (fun g0 => ?_)
      rotate_left
      · have hx : okTA (a.terms.getD i default) = false := by have g : decide ((a.terms.getD i default).var = ⟨#[]⟩) = false := g0; rw [okTA, g]; rfl
        rw [hx] at hs
        refine gA rfl (go_w (d146 w2 false) rfl rfl rfl rfl rfl rfl rfl rfl rfl rfl rfl rfl ?_)
        refine gA rfl (go_wp (d147 (mustW w2 false) [sUn] (by simp) (by rw [sizeA1, mustW_len]; first | omega | (rw [putA1_len, e4]; omega))) rfl rfl rfl rfl rfl rfl rfl rfl rfl rfl rfl rfl ?_)
        refine gA rfl ⟨h1, trivial, _, wkW (hs.symm) rfl rfl rfl rfl (by first | exact .refl _ | exact .kb _) (by first | exact .refl _ | exact .kb _) rfl rfl rfl rfl rfl ⟨.refl _, rfl, .refl _, rfl, .refl _, rfl, .refl _, rfl, trivial⟩⟩
      have hx : okTA (a.terms.getD i default) = zValB (a.terms.getD i default).val := by have g : decide ((a.terms.getD i default).var = ⟨#[]⟩) = true := g0; rw [okTA, g]; rfl
      rw [hx] at hs
      refine gA rfl (go_w (d146 w2 (zValB (a.terms.getD i default).val)) rfl rfl rfl rfl rfl rfl rfl rfl rfl rfl rfl rfl ?_)
      refine gA rfl (go_wp (d147 (mustW w2 (zValB (a.terms.getD i default).val)) [sUn] (by simp) (by rw [sizeA1, mustW_len]; first | omega | (rw [putA1_len, e4]; omega))) rfl rfl rfl rfl rfl rfl rfl rfl rfl rfl rfl rfl ?_)
      refine gA rfl ⟨h1, trivial, _, wkW (hs.symm) rfl rfl rfl rfl (by first | exact .refl _ | exact .kb _) (by first | exact .refl _ | exact .kb _) rfl rfl rfl rfl rfl ⟨.refl _, rfl, .refl _, rfl, .refl _, rfl, .refl _, rfl, trivial⟩⟩
    have k3' : ¬ (a.terms.getD i default).kind = 3 := of_decide_eq_false k3
    rw [termW, if_neg k1', if_neg k2', if_neg k3'] at hs
    refine gA rfl ⟨h1, trivial, _, wkW (hs.symm) rfl rfl rfl rfl (by first | exact .refl _ | exact .kb _) (by first | exact .refl _ | exact .kb _) rfl rfl rfl rfl rfl ⟨.refl _, rfl, .refl _, rfl, .refl _, rfl, .refl _, rfl, trivial⟩⟩
end Go.Proofs.YtpnclpbkecjinaaGreatDoorR
/-
  The printer: literals.
-/
namespace Go.Proofs.YtpnclpbkecjinaaGreatDoorR
open Go Go.Al
set_option maxRecDepth 10000
def sNot : Str := ⟨#[110, 111, 116, 32]⟩
def sEq : Str := ⟨#[32, 61, 32]⟩
def sBr : Str := ⟨#[32, 123, 32]⟩
def sCl : Str := ⟨#[32, 58, 32]⟩
def sEnd : Str := ⟨#[32, 125]⟩
def cmpS (op : Int) : Str := if op = 1 then ⟨#[32, 61, 32]⟩ else if op = 2 then ⟨#[32, 33, 61, 32]⟩ else if op = 3 then ⟨#[32, 60, 32]⟩ else if op = 4 then ⟨#[32, 60, 61, 32]⟩ else if op = 5 then ⟨#[32, 62, 32]⟩ else ⟨#[32, 62, 61, 32]⟩
def funS (f : Int) : Str := if f = 1 then ⟨#[99, 111, 117, 110, 116]⟩ else if f = 2 then ⟨#[115, 117, 109]⟩ else if f = 3 then ⟨#[109, 105, 110]⟩ else ⟨#[109, 97, 120]⟩
def brW (w : WS) (n : Int) : WS := ⟨w.fr, w.l, w.bad, w.br + n⟩
def bodyN (f : Lit → WS → WS) (l : List Lit) (w : WS) : Nat → WS
  | 0 => w
  | i + 1 => if (bodyN f l w i).bad = true then bodyN f l w i else f (l.getD i default) (commaW i (bodyN f l w i))
def ofW (w : WS) (a : Agg) : WS := if a.func = 1 then mustW w (noExprB a.of_) else putA (exprW 17 w a.of_) [sCl]
def aggW (f : Lit → WS → WS) (w : WS) (a : Agg) : WS :=
  if a.func < 1 ∨ 5 ≤ a.func ∨ 16 ≤ w.br ∨ a.body.length = 0 then badW w
  else putA (brW (bodyN f a.body (brW (ofW (putA (mustW w (varB a.var)) [a.var, sEq, funS a.func, sBr]) a) 1) a.body.length) (-1)) [sEnd]
def litK (f : Lit → WS → WS) (l : Lit) (w : WS) : WS :=
  if l.kind = 2 then atomW (putA w [sNot]) l.atom else if l.kind = 1 then atomW w l.atom
  else if l.kind = 3 then (if l.op < 1 ∨ 7 ≤ l.op then badW (exprW 17 w l.left) else exprW 17 (putA (exprW 17 w l.left) [cmpS l.op]) l.right)
  else if l.kind = 4 then aggW f w l.agg else badW w
def litF : Nat → Lit → WS → WS
  | 0, _, w => w
  | n + 1, l, w => litK (litF n) l (mustW w (lacksB l))
/-! Braces. -/
theorem putA_br : ∀ (ss : List Str) (w : WS), (putA w ss).br = w.br
  | [], w => rfl
  | s :: r, w => putA_br r (putS w s)
theorem mustW_br (w : WS) (b : Bool) : (mustW w b).br = w.br := rfl
theorem badW_br (w : WS) : (badW w).br = w.br := rfl
theorem valueW_br (w : WS) (v : Val) : (valueW w v).br = w.br := by rw [valueW, putA_br]; rfl
theorem leafW_br (w k : WS) (e : Expr) (h : k.br = w.br) : (leafW w e k).br = w.br := by
  unfold leafW
  repeat' split
  · rfl
  · rw [putA_br]; rfl
  · rw [valueW_br]; rfl
  · exact h
  · rfl
theorem operW_br (arg : Bool → WS → Expr → WS) (harg : ∀ b w a, (arg b w a).br = w.br) (w : WS) (e : Expr) : (operW arg w e).br = w.br := by
  unfold operW
  repeat' split
  · rfl
  · rw [harg, putA_br, putA_br]
  · rw [harg, putA_br]
  · rfl
  · rw [harg, putA_br, harg]
  · rfl
theorem exprW_br : ∀ (n : Nat) (w : WS) (e : Expr), (exprW n w e).br = w.br
  | 0, w, e => rfl
  | 1, w, e => by rw [exprW]; exact leafW_br _ _ _ rfl
  | m + 2, w, e => by
    rw [exprW]
    refine leafW_br _ _ _ ?_
    rw [operW_br _ (fun b w a => ?_)]
    · rfl
    · split
      · rw [putA_br, exprW_br m, putA_br]
      · exact exprW_br (m + 1) _ _
theorem commaW_br (i : Nat) (w : WS) : (commaW i w).br = w.br := by
  unfold commaW; split
  · rfl
  · exact putA_br _ _
theorem termW_br (w : WS) (t : Term) : (termW w t).br = w.br := by
  unfold termW
  repeat' split
  · rw [putA_br]; rfl
  · rw [valueW_br]; rfl
  · rw [putA_br]; rfl
  · rfl
theorem termsW_br (l : List Term) (w : WS) : ∀ i, (termsW l w i).br = w.br
  | 0 => rfl
  | i + 1 => by rw [termsW, termW_br, commaW_br, termsW_br l w i]
theorem atomW_br (w : WS) (a : Atom) : (atomW w a).br = w.br := by rw [atomW, putA_br, termsW_br, putA_br]; rfl
theorem bodyN_br (f : Lit → WS → WS) (hf : ∀ l w, (f l w).br = w.br) (l : List Lit) (w : WS) : ∀ i, (bodyN f l w i).br = w.br
  | 0 => rfl
  | i + 1 => by
    rw [bodyN]
    split
    · exact bodyN_br f hf l w i
    · rw [hf, commaW_br, bodyN_br f hf l w i]
theorem ofW_br (w : WS) (a : Agg) : (ofW w a).br = w.br := by
  unfold ofW; split
  · rfl
  · rw [putA_br, exprW_br]
theorem aggW_br (f : Lit → WS → WS) (hf : ∀ l w, (f l w).br = w.br) (w : WS) (a : Agg) : (aggW f w a).br = w.br := by
  unfold aggW; split
  · rfl
  · rw [putA_br]
    show (bodyN _ _ _ _).br + -1 = _
    rw [bodyN_br f hf]
    show (ofW _ _).br + 1 + -1 = _
    rw [ofW_br, putA_br, mustW_br]; omega
theorem litK_br (f : Lit → WS → WS) (hf : ∀ l w, (f l w).br = w.br) (l : Lit) (w : WS) : (litK f l w).br = w.br := by
  unfold litK
  repeat' split
  · rw [atomW_br, putA_br]
  · exact atomW_br _ _
  · rw [badW_br, exprW_br]
  · rw [exprW_br, putA_br, exprW_br]
  · exact aggW_br f hf _ _
  · rfl
theorem litF_br : ∀ (n : Nat) (l : Lit) (w : WS), (litF n l w).br = w.br
  | 0, _, _ => rfl
  | n + 1, l, w => by rw [litF, litK_br (litF n) (litF_br n)]; rfl
/-! Length. -/
mutual
def Lit.ts : Lit → Nat
  | .mk _ a _ l r _ v o b _ => 100 + a.ts + l.ts + r.ts + v.size + o.ts + Lit.tss b
def Lit.tss : List Lit → Nat
  | [] => 0
  | e :: r => e.ts + Lit.tss r
end
theorem Lit.ts_eq (l : Lit) : l.ts = 100 + l.atom.ts + l.left.ts + l.right.ts + l.avar.size + l.aof.ts + Lit.tss l.abody := by cases l; rfl
theorem Lit.tss_take : ∀ (l : List Lit) (i : Nat), i < l.length → Lit.tss (l.take i) + (l.getD i default).ts ≤ Lit.tss l
  | [], i, h => by simp at h
  | s :: r, 0, _ => by simp [Lit.tss]
  | s :: r, i + 1, h => by
    have := Lit.tss_take r i (by simpa using h)
    simp only [List.take_succ_cons, Lit.tss, List.getD_cons_succ]; omega
theorem Lit.tss_le : ∀ (l : List Lit) (i : Nat), Lit.tss (l.take i) ≤ Lit.tss l
  | [], i => by simp
  | s :: r, 0 => by simp [Lit.tss]
  | s :: r, i + 1 => by have := Lit.tss_le r i; simp only [List.take_succ_cons, Lit.tss]; omega
theorem Lit.ts_pos (l : Lit) : 100 ≤ l.ts := by rw [l.ts_eq]; omega
theorem cmpS_len (op : Int) : (cmpS op).size ≤ 4 := by
  unfold cmpS
  repeat' split
  all_goals decide
theorem funS_len (op : Int) : (funS op).size ≤ 5 := by
  unfold funS
  repeat' split
  all_goals decide
/-- A literal's text takes no more than this, less four for a comma ahead. -/
def LenF (f : Lit → WS → WS) : Prop := ∀ l w, (f l w).l.length + 4 ≤ w.l.length + l.ts
theorem bodyN_len (f : Lit → WS → WS) (hf : LenF f) (l : List Lit) (w : WS) : ∀ i, i ≤ l.length → (bodyN f l w i).l.length ≤ w.l.length + Lit.tss (l.take i)
  | 0, _ => by simp [bodyN, Lit.tss]
  | i + 1, h => by
    have h1 := bodyN_len f hf l w i (by omega)
    have h5 : Lit.tss (l.take (i + 1)) = Lit.tss (l.take i) + (l.getD i default).ts := by
      rw [take_step (by omega)]
      have : ∀ (a : List Lit) (b : Lit), Lit.tss (a ++ [b]) = Lit.tss a + b.ts := by
        intro a b
        induction a with
        | nil => simp [Lit.tss]
        | cons x r ih => simp only [List.cons_append, Lit.tss, ih]; omega
      exact this _ _
    rw [bodyN]
    split
    · omega
    · have h2 := hf (l.getD i default) (commaW i (bodyN f l w i))
      have h3 := commaW_len i (bodyN f l w i)
      omega
theorem ofW_len (w : WS) (a : Agg) : (ofW w a).l.length ≤ w.l.length + a.of_.ts + 3 := by
  have e : sCl.size = 3 := rfl
  unfold ofW; split
  · rw [mustW_len]; omega
  · have := exprW_len 17 w a.of_
    rw [putA1_len, e]; omega
theorem headW_len (w : WS) (a : Agg) : (putA (mustW w (varB a.var)) [a.var, sEq, funS a.func, sBr]).l.length ≤ w.l.length + a.var.size + 11 := by
  have e1 : sEq.size = 3 := rfl
  have e2 : sBr.size = 3 := rfl
  have h := funS_len a.func
  have e : sizeA [a.var, sEq, funS a.func, sBr] = a.var.size + (3 + ((funS a.func).size + 3)) := by simp [sizeA, e1, e2]
  rw [putA_len, mustW_len, e]; omega
theorem aggW_len (f : Lit → WS → WS) (hf : LenF f) (w : WS) (a : Agg) : (aggW f w a).l.length ≤ w.l.length + a.var.size + a.of_.ts + Lit.tss a.body + 20 := by
  have e : sEnd.size = 2 := rfl
  unfold aggW; split
  · rw [badW_len]; omega
  · rw [putA1_len, e]
    show (bodyN _ _ _ _).l.length + 2 ≤ _
    have h1 := bodyN_len f hf a.body (brW (ofW (putA (mustW w (varB a.var)) [a.var, sEq, funS a.func, sBr]) a) 1) a.body.length (Nat.le_refl _)
    rw [List.take_length] at h1
    have h2 := ofW_len (putA (mustW w (varB a.var)) [a.var, sEq, funS a.func, sBr]) a
    have h3 := headW_len w a
    have h4 : (brW (ofW (putA (mustW w (varB a.var)) [a.var, sEq, funS a.func, sBr]) a) 1).l.length = (ofW (putA (mustW w (varB a.var)) [a.var, sEq, funS a.func, sBr]) a).l.length := rfl
    omega
theorem litK_len (f : Lit → WS → WS) (hf : LenF f) (l : Lit) (w : WS) : (litK f l w).l.length + 4 ≤ w.l.length + l.ts := by
  have h0 := l.ts_eq
  have e : sNot.size = 4 := rfl
  unfold litK
  repeat' split
  · have h1 := atomW_len (putA w [sNot]) l.atom
    rw [putA1_len, e] at h1; omega
  · have h1 := atomW_len w l.atom; omega
  · have h1 := exprW_len 17 w l.left
    rw [badW_len]; omega
  · have h1 := exprW_len 17 w l.left
    have h2 := exprW_len 17 (putA (exprW 17 w l.left) [cmpS l.op]) l.right
    have h3 := cmpS_len l.op
    rw [putA1_len] at h2; omega
  · have h1 := aggW_len f hf w l.agg
    have h2 : l.agg.var = l.avar := rfl
    have h3 : l.agg.of_ = l.aof := rfl
    have h4 : l.agg.body = l.abody := rfl
    rw [h2, h3, h4] at h1; omega
  · rw [badW_len]; omega
theorem litF_len : ∀ n, LenF (litF n)
  | 0 => fun l w => by have := l.ts_pos; rw [litF]; omega
  | n + 1 => fun l w => litK_len (litF n) (litF_len n) l (mustW w (lacksB l))
theorem bodyN_bad {f : Lit → WS → WS} {l : List Lit} {w : WS} {i : Nat} (h : (bodyN f l w i).bad = true) : ∀ k, bodyN f l w (i + k) = bodyN f l w i
  | 0 => rfl
  | k + 1 => by
    have := bodyN_bad h k
    rw [← Nat.add_assoc, bodyN, this, if_pos h]
end Go.Proofs.YtpnclpbkecjinaaGreatDoorR
/-
  The printer: a body's literals, aggregates, literals.
-/
namespace Go.Proofs.YtpnclpbkecjinaaGreatDoorR
open Go Go.Al
set_option maxRecDepth 10000
/-- What a contract for literals up to a size says. -/
def LitD (n : Nat) : Prop := ∀ (l : Lit) (w : WS), l.size ≤ n → 0 ≤ w.br → w.br ≤ 16 → w.l.length + l.ts ≤ 900000000 → Det Tryz.prog 155 [.ptr 0 0, ag l.c] w.O (.tup []) (litF n l w).H 3
set_option maxHeartbeats 1000000 in
theorem d214 (n : Nat) (ih : LitD n) (w : WS) (ls : List Lit) (hs : Lit.sizes ls ≤ n) (hb0 : 0 ≤ w.br) (hb1 : w.br ≤ 16) (hb : w.l.length + Lit.tss ls + 2 ≤ 900000000) (hn : n ≤ 100000000) :
    Det Tryz.prog 214 [.ptr 0 0, .iv (lits ls)] w.O (.tup []) (bodyN (litF n) ls w ls.length).H 3 := by
  have e4 : sCm.size = 2 := rfl
  have hlt := Lit.length_sizes ls
  refine det_end tyA_ok Tryz.func214 rfl (by decide) Tryz.ntmps214 rfl (by simp) ?_
  refine gA rfl ?_
  refine go_for 0 ls.length (Nat.zero_le _) (fun i => ⟨[(0, .ptr 0 0), (6, .iv (lits ls)), (7, pI ls.length), (8, pI i)], [(0, some ((bodyN (litF n) ls w i).cAt 0 2)), (2, some (.brow (bodyN (litF n) ls w i).l 5))], 3⟩) (fun _ => True) _ trivial
    (wkW (w := w) rfl rfl rfl rfl rfl (.refl _) (.refl _) rfl rfl rfl rfl rfl ⟨.refl _, rfl, .refl _, rfl, .refl _, rfl, .refl _, rfl, trivial⟩) fun i hi _ => ?_
  have hln := bodyN_len (litF n) (litF_len n) ls w i hi
  have hbr := bodyN_br (litF n) (litF_br n) ls w i
  have hsl := Lit.tss_le ls i
  refine gA rfl ?_
  refine And.intro (fun h1 => ?_) (fun h1 => ?_)
  rotate_left
  · have h1 : ls.length ≤ i := Nat.le_of_not_lt fun hh => absurd (Int.ofNat_lt.2 hh) (of_decide_eq_false h1)
    have hie : i = ls.length := by omega
    subst hie
    refine gA rfl (end_w (by first | exact .inr rfl | exact .inl rfl) rfl rfl rfl rfl rfl (by first | exact .refl _ | exact .kb _) (by first | exact .refl _ | exact .kb _) rfl rfl rfl rfl (.refl _) rfl rfl)
  have h1 : i < ls.length := Int.ofNat_lt.1 (of_decide_eq_true h1)
  have hst := Lit.tss_take ls i h1
  have hsg := Lit.sizes_get ls i h1
  have hs1 : bodyN (litF n) ls w (i + 1) = if (bodyN (litF n) ls w i).bad = true then bodyN (litF n) ls w i else litF n (ls.getD i default) (commaW i (bodyN (litF n) ls w i)) := rfl
  have hbad := fun h => bodyN_bad (f := litF n) (l := ls) (w := w) (i := i) h (ls.length - i)
  rw [Nat.add_sub_cancel' (Nat.le_of_lt h1)] at hbad
  have hcl := commaW_len i (bodyN (litF n) ls w i)
  have hcb := commaW_br i (bodyN (litF n) ls w i)
  generalize bodyN (litF n) ls w i = w2 at *
  refine gA rfl ?_
  refine And.intro (fun g => ?_) (fun g => ?_)
  · have g : w2.bad = true := g
    rw [hbad g]
    refine gA rfl (end_w (by first | exact .inr rfl | exact .inl rfl) rfl rfl rfl rfl rfl (by first | exact .refl _ | exact .kb _) (by first | exact .refl _ | exact .kb _) rfl rfl rfl rfl (.refl _) rfl rfl)
  have g : ¬ w2.bad = true := by
    have g : w2.bad = false := g
    rw [g]; decide
  rw [if_neg g] at hs1
  refine gA rfl ?_
  refine And.intro (fun h2 => ?_) (fun h2 => ?_)
  · have h2 : ¬ i = 0 := by have := of_decide_eq_true h2; omega
    rw [commaW, if_neg h2] at hs1 hcl hcb
    refine gA rfl (go_wp (d147 w2 [sCm] (by simp) (by rw [sizeA1, e4]; omega)) rfl rfl rfl rfl rfl rfl rfl rfl rfl rfl rfl rfl ?_)
    refine gA rfl (go_w (ih (ls.getD i default) (putA w2 [sCm]) (by omega) (by omega) (by omega) (by omega)) rfl rfl rfl rfl rfl rfl rfl rfl rfl rfl rfl rfl ?_)
    refine gA rfl ⟨h1, trivial, _, wkW (hs1.symm) rfl rfl rfl rfl (by first | exact .refl _ | exact .kb _) (by first | exact .refl _ | exact .kb _) rfl rfl rfl rfl rfl ⟨.refl _, rfl, .refl _, rfl, .refl _, rfl, .refl _, rfl, trivial⟩⟩
  · have h2 : i = 0 := by have := of_decide_eq_false h2; omega
    rw [commaW, if_pos h2] at hs1 hcl hcb
    refine gA rfl (go_w (ih (ls.getD i default) w2 (by omega) (by omega) (by omega) (by omega)) rfl rfl rfl rfl rfl rfl rfl rfl rfl rfl rfl rfl ?_)
    refine gA rfl ⟨h1, trivial, _, wkW (hs1.symm) rfl rfl rfl rfl (by first | exact .refl _ | exact .kb _) (by first | exact .refl _ | exact .kb _) rfl rfl rfl rfl rfl ⟨.refl _, rfl, .refl _, rfl, .refl _, rfl, .refl _, rfl, trivial⟩⟩
def Agg.ts (a : Agg) : Nat := a.var.size + a.of_.ts + Lit.tss a.body
set_option maxHeartbeats 4000000 in
theorem d190 (n : Nat) (ih : LitD n) (w : WS) (a : Agg) (hs : Lit.sizes a.body ≤ n) (hb0 : 0 ≤ w.br) (hb1 : w.br ≤ 16) (hb : w.l.length + a.ts + 30 ≤ 900000000) (hn : n ≤ 100000000) :
    Det Tryz.prog 190 [.ptr 0 0, ag a.c] w.O (.tup []) (aggW (litF n) w a).H 3 := by
  refine Det.le (args := [.ptr 0 0, ag a.c1]) ?_ ⟨.refl _, a.le1, trivial⟩
  have e4 : sEnd.size = 2 := rfl
  have e5 : sCl.size = 3 := rfl
  have hlt := Lit.length_sizes a.body
  have hts : a.ts = a.var.size + a.of_.ts + Lit.tss a.body := rfl
  have hW : ¬ (a.func < 1 ∨ 5 ≤ a.func ∨ 16 ≤ w.br ∨ a.body.length = 0) → aggW (litF n) w a = putA (brW (bodyN (litF n) a.body (brW (ofW (putA (mustW w (varB a.var)) [a.var, sEq, funS a.func, sBr]) a) 1) a.body.length) (-1)) [sEnd] := fun h => if_neg h
  have hB : a.func < 1 ∨ 5 ≤ a.func ∨ 16 ≤ w.br ∨ a.body.length = 0 → aggW (litF n) w a = badW w := fun h => if_pos h
  have hh := headW_len w a
  have hh2 := ofW_len (putA (mustW w (varB a.var)) [a.var, sEq, funS a.func, sBr]) a
  have hh3 := ofW_br (putA (mustW w (varB a.var)) [a.var, sEq, funS a.func, sBr]) a
  rw [putA_br, mustW_br] at hh3
  have hh4 : (brW (ofW (putA (mustW w (varB a.var)) [a.var, sEq, funS a.func, sBr]) a) 1).l.length = (ofW (putA (mustW w (varB a.var)) [a.var, sEq, funS a.func, sBr]) a).l.length := rfl
  have hh5 : (brW (ofW (putA (mustW w (varB a.var)) [a.var, sEq, funS a.func, sBr]) a) 1).br = (ofW (putA (mustW w (varB a.var)) [a.var, sEq, funS a.func, sBr]) a).br + 1 := rfl
  have hh6 := bodyN_len (litF n) (litF_len n) a.body (brW (ofW (putA (mustW w (varB a.var)) [a.var, sEq, funS a.func, sBr]) a) 1) a.body.length (Nat.le_refl _)
  rw [List.take_length] at hh6
  have hh7 := bodyN_br (litF n) (litF_br n) a.body (brW (ofW (putA (mustW w (varB a.var)) [a.var, sEq, funS a.func, sBr]) a) 1) a.body.length
  have hz1 : sizeA [a.var, sEq, funS a.func, sBr] = a.var.size + (3 + ((funS a.func).size + 3)) := by simp [sizeA, sEq, sBr]; rfl
  have hz2 := funS_len a.func
  obtain ⟨func, var, of_, body⟩ := a
  dsimp only at *
  refine det_end tyA_ok Tryz.func190 rfl (by decide) Tryz.ntmps190 rfl (by simp) ?_
  refine gA rfl ?_
  refine And.intro (fun g1 => ?_) (fun g1 => ?_)
  rotate_left
  · rw [hB (.inl (of_decide_eq_true g1))]
    refine gA rfl (end_w (by first | exact .inr rfl | exact .inl rfl) rfl rfl rfl rfl rfl (by first | exact .refl _ | exact .kb _) (by first | exact .refl _ | exact .kb _) rfl rfl rfl rfl (.refl _) rfl rfl)
  refine gA rfl ?_
  refine And.intro (fun g2 => ?_) (fun g2 => ?_)
  rotate_left
  · rw [hB (.inr (.inl (of_decide_eq_true g2)))]
    refine gA rfl (end_w (by first | exact .inr rfl | exact .inl rfl) rfl rfl rfl rfl rfl (by first | exact .refl _ | exact .kb _) (by first | exact .refl _ | exact .kb _) rfl rfl rfl rfl (.refl _) rfl rfl)
  refine gA rfl ?_
  refine And.intro (fun g3 => ?_) (fun g3 => ?_)
  rotate_left
  · rw [hB (.inr (.inr (.inl (of_decide_eq_true g3))))]
    refine gA rfl (end_w (by first | exact .inr rfl | exact .inl rfl) rfl rfl rfl rfl rfl (by first | exact .refl _ | exact .kb _) (by first | exact .refl _ | exact .kb _) rfl rfl rfl rfl (.refl _) rfl rfl)
  refine gA rfl ?_
  refine And.intro (fun g4 => ?_) (fun g4 => ?_)
  · rw [hB (.inr (.inr (.inr (Int.ofNat_eq_zero.1 (of_decide_eq_true g4)))))]
    refine gA rfl (end_w (by first | exact .inr rfl | exact .inl rfl) rfl rfl rfl rfl rfl (by first | exact .refl _ | exact .kb _) (by first | exact .refl _ | exact .kb _) rfl rfl rfl rfl (.refl _) rfl rfl)
  have g1 : ¬ func < 1 := of_decide_eq_false g1
  have g2 : ¬ func ≥ 5 := of_decide_eq_false g2
  have g3 : ¬ w.br ≥ 16 := of_decide_eq_false g3
  have g4 : ¬ body.length = 0 := fun h => of_decide_eq_false g4 (Int.ofNat_eq_zero.2 h)
  rw [hW (by rintro (h | h | h | h) <;> omega)]
  have hf : func = 1 ∨ func = 2 ∨ func = 3 ∨ func = 4 := by omega
  clear hW hB
  rcases hf with rfl | rfl | rfl | rfl
  · have e : funS 1 = ⟨#[99, 111, 117, 110, 116]⟩ := rfl
    rw [e] at hh hh2 hh3 hh4 hh5 hh6 hh7 hz1 hz2 ⊢
    refine gA rfl (go_pure (c148 var) rfl rfl rfl rfl rfl rfl ?_)
    refine gA rfl (go_w (d146 w (varB var)) rfl rfl rfl rfl rfl rfl rfl rfl rfl rfl rfl rfl ?_)
    refine gA rfl (go_dwp (d147 (mustW w (varB var)) [var, sEq, ⟨#[99, 111, 117, 110, 116]⟩, sBr] (by simp) (by rw [hz1, mustW_len]; omega)) rfl rfl rfl rfl rfl rfl rfl rfl rfl rfl rfl rfl rfl rfl rfl rfl (by (repeat' (first | exact trivial | exact rfl | exact PVle.refl _ | exact PVle.bk (by assumption) | apply And.intro)) <;> first | omega | (simp only [Int.toNat_natCast]; omega) | (simp; done) | (simp; omega)) rfl (by (repeat' (first | exact trivial | exact rfl | exact PVle.refl _ | exact PVle.bk (by assumption) | apply And.intro)) <;> first | omega | (simp only [Int.toNat_natCast]; omega) | (simp; done) | (simp; omega)) ?_)
    generalize hW1 : putA (mustW w (varB var)) [var, sEq, ⟨#[99, 111, 117, 110, 116]⟩, sBr] = w1 at *
    have eo : ofW w1 ⟨1, var, of_, body⟩ = mustW w1 (noExprB of_) := rfl
    rw [eo] at hh2 hh3 hh4 hh5 hh6 hh7 ⊢
    refine gA rfl ?_
    refine And.intro (fun q => ?_) (fun q => ?_)
    rotate_left
    · exact absurd (show true = false from q) (by decide)
    refine gA rfl (go_pure (c211 of_) rfl rfl rfl rfl rfl rfl ?_)
    refine gA rfl (go_w (d146 w1 (noExprB of_)) rfl rfl rfl rfl rfl rfl rfl rfl rfl rfl rfl rfl ?_)
    generalize mustW w1 (noExprB of_) = w2 at *
    refine gA rfl (go_w (d214 n ih (brW w2 1) body hs (by omega) (by omega) (by omega) hn) rfl rfl rfl rfl rfl rfl rfl rfl rfl rfl rfl rfl ?_)
    generalize bodyN (litF n) body (brW w2 1) body.length = w3 at *
    refine gA rfl (go_wp (d147 (brW w3 (-1)) [sEnd] (by simp) (by rw [sizeA1, e4]; show w3.l.length + 2 ≤ _; omega)) rfl rfl rfl rfl rfl rfl rfl rfl rfl rfl rfl rfl ?_)
    refine gA rfl (end_w (by first | exact .inr rfl | exact .inl rfl) rfl rfl rfl rfl rfl (by first | exact .refl _ | exact .kb _) (by first | exact .refl _ | exact .kb _) rfl rfl rfl rfl (.refl _) rfl rfl)
  · have e : funS 2 = ⟨#[115, 117, 109]⟩ := rfl
    rw [e] at hh hh2 hh3 hh4 hh5 hh6 hh7 hz1 hz2 ⊢
    refine gA rfl (go_pure (c148 var) rfl rfl rfl rfl rfl rfl ?_)
    refine gA rfl (go_w (d146 w (varB var)) rfl rfl rfl rfl rfl rfl rfl rfl rfl rfl rfl rfl ?_)
    refine gA rfl (go_dwp (d147 (mustW w (varB var)) [var, sEq, ⟨#[115, 117, 109]⟩, sBr] (by simp) (by rw [hz1, mustW_len]; omega)) rfl rfl rfl rfl rfl rfl rfl rfl rfl rfl rfl rfl rfl rfl rfl rfl (by (repeat' (first | exact trivial | exact rfl | exact PVle.refl _ | exact PVle.bk (by assumption) | apply And.intro)) <;> first | omega | (simp only [Int.toNat_natCast]; omega) | (simp; done) | (simp; omega)) rfl (by (repeat' (first | exact trivial | exact rfl | exact PVle.refl _ | exact PVle.bk (by assumption) | apply And.intro)) <;> first | omega | (simp only [Int.toNat_natCast]; omega) | (simp; done) | (simp; omega)) ?_)
    generalize hW1 : putA (mustW w (varB var)) [var, sEq, ⟨#[115, 117, 109]⟩, sBr] = w1 at *
    have eo : ofW w1 ⟨2, var, of_, body⟩ = putA (exprW 17 w1 of_) [sCl] := rfl
    rw [eo] at hh2 hh3 hh4 hh5 hh6 hh7 ⊢
    refine gA rfl ?_
    refine And.intro (fun q => ?_) (fun q => ?_)
    · exact absurd (show false = true from q) (by decide)
    have hx := exprW_len 17 w1 of_
    refine gA rfl (go_w (d189' w1 of_ (by omega)) rfl rfl rfl rfl rfl rfl rfl rfl rfl rfl rfl rfl ?_)
    refine gA rfl (go_wp (d147 (exprW 17 w1 of_) [sCl] (by simp) (by rw [sizeA1, e5]; omega)) rfl rfl rfl rfl rfl rfl rfl rfl rfl rfl rfl rfl ?_)
    generalize putA (exprW 17 w1 of_) [sCl] = w2 at *
    refine gA rfl (go_w (d214 n ih (brW w2 1) body hs (by omega) (by omega) (by omega) hn) rfl rfl rfl rfl rfl rfl rfl rfl rfl rfl rfl rfl ?_)
    generalize bodyN (litF n) body (brW w2 1) body.length = w3 at *
    refine gA rfl (go_wp (d147 (brW w3 (-1)) [sEnd] (by simp) (by rw [sizeA1, e4]; show w3.l.length + 2 ≤ _; omega)) rfl rfl rfl rfl rfl rfl rfl rfl rfl rfl rfl rfl ?_)
    refine gA rfl (end_w (by first | exact .inr rfl | exact .inl rfl) rfl rfl rfl rfl rfl (by first | exact .refl _ | exact .kb _) (by first | exact .refl _ | exact .kb _) rfl rfl rfl rfl (.refl _) rfl rfl)
  · have e : funS 3 = ⟨#[109, 105, 110]⟩ := rfl
    rw [e] at hh hh2 hh3 hh4 hh5 hh6 hh7 hz1 hz2 ⊢
    refine gA rfl (go_pure (c148 var) rfl rfl rfl rfl rfl rfl ?_)
    refine gA rfl (go_w (d146 w (varB var)) rfl rfl rfl rfl rfl rfl rfl rfl rfl rfl rfl rfl ?_)
    refine gA rfl (go_dwp (d147 (mustW w (varB var)) [var, sEq, ⟨#[109, 105, 110]⟩, sBr] (by simp) (by rw [hz1, mustW_len]; omega)) rfl rfl rfl rfl rfl rfl rfl rfl rfl rfl rfl rfl rfl rfl rfl rfl (by (repeat' (first | exact trivial | exact rfl | exact PVle.refl _ | exact PVle.bk (by assumption) | apply And.intro)) <;> first | omega | (simp only [Int.toNat_natCast]; omega) | (simp; done) | (simp; omega)) rfl (by (repeat' (first | exact trivial | exact rfl | exact PVle.refl _ | exact PVle.bk (by assumption) | apply And.intro)) <;> first | omega | (simp only [Int.toNat_natCast]; omega) | (simp; done) | (simp; omega)) ?_)
    generalize hW1 : putA (mustW w (varB var)) [var, sEq, ⟨#[109, 105, 110]⟩, sBr] = w1 at *
    have eo : ofW w1 ⟨3, var, of_, body⟩ = putA (exprW 17 w1 of_) [sCl] := rfl
    rw [eo] at hh2 hh3 hh4 hh5 hh6 hh7 ⊢
    refine gA rfl ?_
    refine And.intro (fun q => ?_) (fun q => ?_)
    · exact absurd (show false = true from q) (by decide)
    have hx := exprW_len 17 w1 of_
    refine gA rfl (go_w (d189' w1 of_ (by omega)) rfl rfl rfl rfl rfl rfl rfl rfl rfl rfl rfl rfl ?_)
    refine gA rfl (go_wp (d147 (exprW 17 w1 of_) [sCl] (by simp) (by rw [sizeA1, e5]; omega)) rfl rfl rfl rfl rfl rfl rfl rfl rfl rfl rfl rfl ?_)
    generalize putA (exprW 17 w1 of_) [sCl] = w2 at *
    refine gA rfl (go_w (d214 n ih (brW w2 1) body hs (by omega) (by omega) (by omega) hn) rfl rfl rfl rfl rfl rfl rfl rfl rfl rfl rfl rfl ?_)
    generalize bodyN (litF n) body (brW w2 1) body.length = w3 at *
    refine gA rfl (go_wp (d147 (brW w3 (-1)) [sEnd] (by simp) (by rw [sizeA1, e4]; show w3.l.length + 2 ≤ _; omega)) rfl rfl rfl rfl rfl rfl rfl rfl rfl rfl rfl rfl ?_)
    refine gA rfl (end_w (by first | exact .inr rfl | exact .inl rfl) rfl rfl rfl rfl rfl (by first | exact .refl _ | exact .kb _) (by first | exact .refl _ | exact .kb _) rfl rfl rfl rfl (.refl _) rfl rfl)
  · have e : funS 4 = ⟨#[109, 97, 120]⟩ := rfl
    rw [e] at hh hh2 hh3 hh4 hh5 hh6 hh7 hz1 hz2 ⊢
    refine gA rfl (go_pure (c148 var) rfl rfl rfl rfl rfl rfl ?_)
    refine gA rfl (go_w (d146 w (varB var)) rfl rfl rfl rfl rfl rfl rfl rfl rfl rfl rfl rfl ?_)
    refine gA rfl (go_dwp (d147 (mustW w (varB var)) [var, sEq, ⟨#[109, 97, 120]⟩, sBr] (by simp) (by rw [hz1, mustW_len]; omega)) rfl rfl rfl rfl rfl rfl rfl rfl rfl rfl rfl rfl rfl rfl rfl rfl (by (repeat' (first | exact trivial | exact rfl | exact PVle.refl _ | exact PVle.bk (by assumption) | apply And.intro)) <;> first | omega | (simp only [Int.toNat_natCast]; omega) | (simp; done) | (simp; omega)) rfl (by (repeat' (first | exact trivial | exact rfl | exact PVle.refl _ | exact PVle.bk (by assumption) | apply And.intro)) <;> first | omega | (simp only [Int.toNat_natCast]; omega) | (simp; done) | (simp; omega)) ?_)
    generalize hW1 : putA (mustW w (varB var)) [var, sEq, ⟨#[109, 97, 120]⟩, sBr] = w1 at *
    have eo : ofW w1 ⟨4, var, of_, body⟩ = putA (exprW 17 w1 of_) [sCl] := rfl
    rw [eo] at hh2 hh3 hh4 hh5 hh6 hh7 ⊢
    refine gA rfl ?_
    refine And.intro (fun q => ?_) (fun q => ?_)
    · exact absurd (show false = true from q) (by decide)
    have hx := exprW_len 17 w1 of_
    refine gA rfl (go_w (d189' w1 of_ (by omega)) rfl rfl rfl rfl rfl rfl rfl rfl rfl rfl rfl rfl ?_)
    refine gA rfl (go_wp (d147 (exprW 17 w1 of_) [sCl] (by simp) (by rw [sizeA1, e5]; omega)) rfl rfl rfl rfl rfl rfl rfl rfl rfl rfl rfl rfl ?_)
    generalize putA (exprW 17 w1 of_) [sCl] = w2 at *
    refine gA rfl (go_w (d214 n ih (brW w2 1) body hs (by omega) (by omega) (by omega) hn) rfl rfl rfl rfl rfl rfl rfl rfl rfl rfl rfl rfl ?_)
    generalize bodyN (litF n) body (brW w2 1) body.length = w3 at *
    refine gA rfl (go_wp (d147 (brW w3 (-1)) [sEnd] (by simp) (by rw [sizeA1, e4]; show w3.l.length + 2 ≤ _; omega)) rfl rfl rfl rfl rfl rfl rfl rfl rfl rfl rfl rfl ?_)
    refine gA rfl (end_w (by first | exact .inr rfl | exact .inl rfl) rfl rfl rfl rfl rfl (by first | exact .refl _ | exact .kb _) (by first | exact .refl _ | exact .kb _) rfl rfl rfl rfl (.refl _) rfl rfl)
/-! Literals. -/
set_option maxHeartbeats 4000000 in
theorem d155_succ (n : Nat) (ih : LitD n) (hn : n ≤ 100000000) : LitD (n + 1) := by
  intro l w hs hb0 hb1 hb
  have e4 : sNot.size = 4 := rfl
  have hsz := l.size_eq
  have hts := l.ts_eq
  have hag : l.agg.ts = l.avar.size + l.aof.ts + Lit.tss l.abody := rfl
  have hL : litF (n + 1) l w = litK (litF n) l (mustW w (lacksB l)) := rfl
  rw [hL]
  have hm1 : (mustW w (lacksB l)).l.length = w.l.length := rfl
  have hm2 := mustW_br w (lacksB l)
  have hx := exprW_len 17 (mustW w (lacksB l)) l.left
  obtain ⟨kind, atom, op, left, right, afunc, avar, aof, abody, at_⟩ := l
  dsimp only [Lit.atom, Lit.left, Lit.right, Lit.avar, Lit.aof, Lit.abody] at hsz hts hag hx
  refine det_end tyA_ok Tryz.func155 rfl (by decide) Tryz.ntmps155 rfl (by simp) ?_
  refine gA rfl (go_pure (c188 (.mk kind atom op left right afunc avar aof abody at_)) rfl rfl rfl rfl rfl rfl ?_)
  refine gA rfl (go_w (d146 w (lacksB (.mk kind atom op left right afunc avar aof abody at_))) rfl rfl rfl rfl rfl rfl rfl rfl rfl rfl rfl rfl ?_)
  generalize mustW w (lacksB (.mk kind atom op left right afunc avar aof abody at_)) = w1 at *
  have hK : litK (litF n) (.mk kind atom op left right afunc avar aof abody at_) w1 = if kind = 2 then atomW (putA w1 [sNot]) atom else if kind = 1 then atomW w1 atom
    else if kind = 3 then (if op < 1 ∨ 7 ≤ op then badW (exprW 17 w1 left) else exprW 17 (putA (exprW 17 w1 left) [cmpS op]) right)
    else if kind = 4 then aggW (litF n) w1 (Lit.mk kind atom op left right afunc avar aof abody at_).agg else badW w1 := rfl
  rw [hK]
  refine gA rfl ?_
  refine And.intro (fun k2 => ?_) (fun k2 => ?_)
  · have k2 : kind = 2 := of_decide_eq_true k2
    rw [if_pos k2]
    refine gA rfl (go_wp (d147 w1 [sNot] (by simp) (by rw [sizeA1, e4]; omega)) rfl rfl rfl rfl rfl rfl rfl rfl rfl rfl rfl rfl ?_)
    refine gA rfl (go_w (d104 (putA w1 [sNot]) atom (by rw [putA1_len, e4]; omega)) rfl rfl rfl rfl rfl rfl rfl rfl rfl rfl rfl rfl ?_)
    refine gA rfl (end_w (by first | exact .inr rfl | exact .inl rfl) rfl rfl rfl rfl rfl (by first | exact .refl _ | exact .kb _) (by first | exact .refl _ | exact .kb _) rfl rfl rfl rfl (.refl _) rfl rfl)
  have k2 : ¬ kind = 2 := of_decide_eq_false k2
  rw [if_neg k2]
  refine gA rfl ?_
  refine And.intro (fun k1 => ?_) (fun k1 => ?_)
  · have k1 : kind = 1 := of_decide_eq_true k1
    rw [if_pos k1]
    refine gA rfl (go_w (d104 w1 atom (by omega)) rfl rfl rfl rfl rfl rfl rfl rfl rfl rfl rfl rfl ?_)
    refine gA rfl (end_w (by first | exact .inr rfl | exact .inl rfl) rfl rfl rfl rfl rfl (by first | exact .refl _ | exact .kb _) (by first | exact .refl _ | exact .kb _) rfl rfl rfl rfl (.refl _) rfl rfl)
  have k1 : ¬ kind = 1 := of_decide_eq_false k1
  rw [if_neg k1]
  refine gA rfl ?_
  refine And.intro (fun k3 => ?_) (fun k3 => ?_)
  rotate_left
  · have k3 : ¬ kind = 3 := of_decide_eq_false k3
    rw [if_neg k3]
    refine gA rfl ?_
    refine And.intro (fun k4 => ?_) (fun k4 => ?_)
    · have k4 : kind = 4 := of_decide_eq_true k4
      rw [if_pos k4]
      refine gA rfl (go_w (d190 n ih w1 (Lit.mk kind atom op left right afunc avar aof abody at_).agg (by show Lit.sizes abody ≤ n; omega) (by omega) (by omega) (by omega) hn) rfl rfl rfl rfl rfl rfl rfl rfl rfl rfl rfl rfl ?_)
      refine gA rfl (end_w (by first | exact .inr rfl | exact .inl rfl) rfl rfl rfl rfl rfl (by first | exact .refl _ | exact .kb _) (by first | exact .refl _ | exact .kb _) rfl rfl rfl rfl (.refl _) rfl rfl)
    · have k4 : ¬ kind = 4 := of_decide_eq_false k4
      rw [if_neg k4]
      refine gA rfl (end_w (by first | exact .inr rfl | exact .inl rfl) rfl rfl rfl rfl rfl (by first | exact .refl _ | exact .kb _) (by first | exact .refl _ | exact .kb _) rfl rfl rfl rfl (.refl _) rfl rfl)
  have k3 : kind = 3 := of_decide_eq_true k3
  rw [if_pos k3]
  refine gA rfl (go_w (d189' w1 left (by omega)) rfl rfl rfl rfl rfl rfl rfl rfl rfl rfl rfl rfl ?_)
  refine gA rfl ?_
  refine And.intro (fun g1 => ?_) (fun g1 => ?_)
  rotate_left
  · rw [if_pos (.inl (of_decide_eq_true g1))]
    refine gA rfl (end_w (by first | exact .inr rfl | exact .inl rfl) rfl rfl rfl rfl rfl (by first | exact .refl _ | exact .kb _) (by first | exact .refl _ | exact .kb _) rfl rfl rfl rfl (.refl _) rfl rfl)
  refine gA rfl ?_
  refine And.intro (fun g2 => ?_) (fun g2 => ?_)
  · rw [if_pos (.inr (of_decide_eq_true g2))]
    refine gA rfl (end_w (by first | exact .inr rfl | exact .inl rfl) rfl rfl rfl rfl rfl (by first | exact .refl _ | exact .kb _) (by first | exact .refl _ | exact .kb _) rfl rfl rfl rfl (.refl _) rfl rfl)
  have g1 : ¬ op < 1 := of_decide_eq_false g1
  have g2 : ¬ op ≥ 7 := of_decide_eq_false g2
  rw [if_neg (by rintro (h | h) <;> omega)]
  generalize exprW 17 w1 left = w2 at *
  have ho : op = 1 ∨ op = 2 ∨ op = 3 ∨ op = 4 ∨ op = 5 ∨ op = 6 := by omega
  clear hK hL
  rcases ho with rfl | rfl | rfl | rfl | rfl | rfl
  · have e : cmpS 1 = ⟨#[32, 61, 32]⟩ := rfl
    have e6 : ((⟨#[32, 61, 32]⟩ : Str)).size = 3 := rfl
    rw [e]
    refine goR rfl (by dsimp only [Lit.op]; exact (by (repeat' (first | exact trivial | exact rfl | exact PVle.refl _ | exact PVle.bk (by assumption) | apply And.intro)) <;> first | omega | (simp only [Int.toNat_natCast]; omega) | (simp; done) | (simp; omega))) (go_wp (d147 w2 [⟨#[32, 61, 32]⟩] (by simp) (by rw [sizeA1, e6]; omega)) rfl rfl rfl rfl rfl rfl rfl rfl rfl rfl rfl rfl ?_)
    refine gA rfl (go_w (d189' (putA w2 [⟨#[32, 61, 32]⟩]) right (by rw [putA1_len, e6]; omega)) rfl rfl rfl rfl rfl rfl rfl rfl rfl rfl rfl rfl ?_)
    refine gA rfl (end_w (by first | exact .inr rfl | exact .inl rfl) rfl rfl rfl rfl rfl (by first | exact .refl _ | exact .kb _) (by first | exact .refl _ | exact .kb _) rfl rfl rfl rfl (.refl _) rfl rfl)
  · have e : cmpS 2 = ⟨#[32, 33, 61, 32]⟩ := rfl
    have e6 : ((⟨#[32, 33, 61, 32]⟩ : Str)).size = 4 := rfl
    rw [e]
    refine goR rfl (by dsimp only [Lit.op]; exact (by (repeat' (first | exact trivial | exact rfl | exact PVle.refl _ | exact PVle.bk (by assumption) | apply And.intro)) <;> first | omega | (simp only [Int.toNat_natCast]; omega) | (simp; done) | (simp; omega))) (go_wp (d147 w2 [⟨#[32, 33, 61, 32]⟩] (by simp) (by rw [sizeA1, e6]; omega)) rfl rfl rfl rfl rfl rfl rfl rfl rfl rfl rfl rfl ?_)
    refine gA rfl (go_w (d189' (putA w2 [⟨#[32, 33, 61, 32]⟩]) right (by rw [putA1_len, e6]; omega)) rfl rfl rfl rfl rfl rfl rfl rfl rfl rfl rfl rfl ?_)
    refine gA rfl (end_w (by first | exact .inr rfl | exact .inl rfl) rfl rfl rfl rfl rfl (by first | exact .refl _ | exact .kb _) (by first | exact .refl _ | exact .kb _) rfl rfl rfl rfl (.refl _) rfl rfl)
  · have e : cmpS 3 = ⟨#[32, 60, 32]⟩ := rfl
    have e6 : ((⟨#[32, 60, 32]⟩ : Str)).size = 3 := rfl
    rw [e]
    refine goR rfl (by dsimp only [Lit.op]; exact (by (repeat' (first | exact trivial | exact rfl | exact PVle.refl _ | exact PVle.bk (by assumption) | apply And.intro)) <;> first | omega | (simp only [Int.toNat_natCast]; omega) | (simp; done) | (simp; omega))) (go_wp (d147 w2 [⟨#[32, 60, 32]⟩] (by simp) (by rw [sizeA1, e6]; omega)) rfl rfl rfl rfl rfl rfl rfl rfl rfl rfl rfl rfl ?_)
    refine gA rfl (go_w (d189' (putA w2 [⟨#[32, 60, 32]⟩]) right (by rw [putA1_len, e6]; omega)) rfl rfl rfl rfl rfl rfl rfl rfl rfl rfl rfl rfl ?_)
    refine gA rfl (end_w (by first | exact .inr rfl | exact .inl rfl) rfl rfl rfl rfl rfl (by first | exact .refl _ | exact .kb _) (by first | exact .refl _ | exact .kb _) rfl rfl rfl rfl (.refl _) rfl rfl)
  · have e : cmpS 4 = ⟨#[32, 60, 61, 32]⟩ := rfl
    have e6 : ((⟨#[32, 60, 61, 32]⟩ : Str)).size = 4 := rfl
    rw [e]
    refine goR rfl (by dsimp only [Lit.op]; exact (by (repeat' (first | exact trivial | exact rfl | exact PVle.refl _ | exact PVle.bk (by assumption) | apply And.intro)) <;> first | omega | (simp only [Int.toNat_natCast]; omega) | (simp; done) | (simp; omega))) (go_wp (d147 w2 [⟨#[32, 60, 61, 32]⟩] (by simp) (by rw [sizeA1, e6]; omega)) rfl rfl rfl rfl rfl rfl rfl rfl rfl rfl rfl rfl ?_)
    refine gA rfl (go_w (d189' (putA w2 [⟨#[32, 60, 61, 32]⟩]) right (by rw [putA1_len, e6]; omega)) rfl rfl rfl rfl rfl rfl rfl rfl rfl rfl rfl rfl ?_)
    refine gA rfl (end_w (by first | exact .inr rfl | exact .inl rfl) rfl rfl rfl rfl rfl (by first | exact .refl _ | exact .kb _) (by first | exact .refl _ | exact .kb _) rfl rfl rfl rfl (.refl _) rfl rfl)
  · have e : cmpS 5 = ⟨#[32, 62, 32]⟩ := rfl
    have e6 : ((⟨#[32, 62, 32]⟩ : Str)).size = 3 := rfl
    rw [e]
    refine goR rfl (by dsimp only [Lit.op]; exact (by (repeat' (first | exact trivial | exact rfl | exact PVle.refl _ | exact PVle.bk (by assumption) | apply And.intro)) <;> first | omega | (simp only [Int.toNat_natCast]; omega) | (simp; done) | (simp; omega))) (go_wp (d147 w2 [⟨#[32, 62, 32]⟩] (by simp) (by rw [sizeA1, e6]; omega)) rfl rfl rfl rfl rfl rfl rfl rfl rfl rfl rfl rfl ?_)
    refine gA rfl (go_w (d189' (putA w2 [⟨#[32, 62, 32]⟩]) right (by rw [putA1_len, e6]; omega)) rfl rfl rfl rfl rfl rfl rfl rfl rfl rfl rfl rfl ?_)
    refine gA rfl (end_w (by first | exact .inr rfl | exact .inl rfl) rfl rfl rfl rfl rfl (by first | exact .refl _ | exact .kb _) (by first | exact .refl _ | exact .kb _) rfl rfl rfl rfl (.refl _) rfl rfl)
  · have e : cmpS 6 = ⟨#[32, 62, 61, 32]⟩ := rfl
    have e6 : ((⟨#[32, 62, 61, 32]⟩ : Str)).size = 4 := rfl
    rw [e]
    refine goR rfl (by dsimp only [Lit.op]; exact (by (repeat' (first | exact trivial | exact rfl | exact PVle.refl _ | exact PVle.bk (by assumption) | apply And.intro)) <;> first | omega | (simp only [Int.toNat_natCast]; omega) | (simp; done) | (simp; omega))) (go_wp (d147 w2 [⟨#[32, 62, 61, 32]⟩] (by simp) (by rw [sizeA1, e6]; omega)) rfl rfl rfl rfl rfl rfl rfl rfl rfl rfl rfl rfl ?_)
    refine gA rfl (go_w (d189' (putA w2 [⟨#[32, 62, 61, 32]⟩]) right (by rw [putA1_len, e6]; omega)) rfl rfl rfl rfl rfl rfl rfl rfl rfl rfl rfl rfl ?_)
    refine gA rfl (end_w (by first | exact .inr rfl | exact .inl rfl) rfl rfl rfl rfl rfl (by first | exact .refl _ | exact .kb _) (by first | exact .refl _ | exact .kb _) rfl rfl rfl rfl (.refl _) rfl rfl)
theorem litD : ∀ n, n ≤ 100000001 → LitD n
  | 0, _ => fun l w hs => by have := l.size_pos; omega
  | n + 1, h => d155_succ n (litD n (by omega)) (by omega)
end Go.Proofs.YtpnclpbkecjinaaGreatDoorR
/-
  The printer's exported functions.
-/
namespace Go.Proofs.YtpnclpbkecjinaaGreatDoorR
open Go Go.Al
set_option maxRecDepth 10000
abbrev WS.o : WS := ⟨true, [], false, 0⟩
section
variable {nt : Nat} {Q : AQ} {k : List KI} {s : AS}
/-- A writer of zeros. -/
def wN (s : AS) (i : Nat) : AS := match s with | ⟨f, h, n⟩ => ⟨f, (i, some (WS.o.cAt i n)) :: (n, some (.brow [] 5)) :: h, n + 1⟩
theorem go_wnew {P : Program} {c : Code} {s' : AS} (i : Nat) (hi : s.h.get i = some (.cells [.iv (.v (.pointer none)), .iv (.v (.slice none 0 0)), pB false, pI 0] (some 180)))
    (hs : wN s i = s') (h : GO P nt (.code c :: k) Q s') : GO P nt (.code c :: k) Q s := by
  subst hs
  intro M N a w hf
  obtain ⟨sf, sh, sn⟩ := s
  obtain ⟨h1, h2⟩ := hf.1.virtB 5
  have hlt : i < sn := hf.1.used i _ hi
  have hne : i ≠ sn := fun e => by omega
  have hget : AH.get ((sn, some (AO.brow [] 5)) :: sh) i = some (.cells [.iv (.v (.pointer none)), .iv (.v (.slice none 0 0)), pB false, pI 0] (some 180)) := by
    rw [AH.get_cons, if_neg hne]; exact hi
  obtain ⟨c0, T, e1, e2, e3, e4, e5⟩ := h2.obj i _ hget
  have hv : ∀ (j : Nat) (p : PV), [PV.optr true i, .sl sn 0 0 1, pB false, pI 0][j]? = some p → VR M N (· < sn + 1) p (c0.getD j undef) := by
    intro j p hp
    match j, hp with
    | 0, hp =>
      cases hp
      have := e4 0 _ rfl
      generalize c0.getD 0 undef = v at this ⊢
      cases this with
      | iv _ _ h => cases h with
        | v => exact .optr true i (Nat.lt_succ_of_lt hlt)
    | 1, hp =>
      cases hp
      have := e4 1 _ rfl
      generalize c0.getD 1 undef = v at this ⊢
      cases this with
      | iv _ _ h => cases h with
        | v => exact .sl0 _ _ (Nat.lt_succ_self _)
    | 2, hp => exact e4 2 p hp
    | 3, hp => exact e4 3 p hp
    | j + 4, hp => cases hp
  obtain ⟨g1, g2⟩ := h2.write (i := i) (o0 := .cells [.iv (.v (.pointer none)), .iv (.v (.slice none 0 0)), pB false, pI 0] (some 180)) hget rfl w (WS.o.cAt i sn) rfl rfl rfl rfl (fun _ _ => rfl) ⟨c0, T, e1, e2, e3, hv, e5⟩
  have hf1 : Fits M N ⟨sf, (i, some (WS.o.cAt i sn)) :: (sn, some (.brow [] 5)) :: sh, sn + 1⟩ nt a w :=
    ⟨g2, fun k => (hf.2.1 k).mono (.refl _) (.refl _ _) (fun i hi => Nat.lt_succ_of_lt hi), hf.2.2⟩
  exact AW.then h hf1 fun e a2 w2 M2 N2 s2 hx2 hf2 hr2 => ⟨M2, N2, s2, (h1.trans g1).trans hx2, hf2, hr2⟩
end
def WS.told (w : WS) : PV := .tup [pS (if w.bad = true then ⟨#[]⟩ else ⟨w.l.toArray⟩), pI (if w.bad = true then 50 else 0)]
theorem d105 (w : WS) : Det Tryz.prog 105 [.ptr 0 0] w.O w.told [] 2 := by
  refine det_end tyA_ok Tryz.func105 rfl (by decide) Tryz.ntmps105 rfl (by simp) ?_
  refine gA rfl ?_
  refine And.intro (fun g => ?_) (fun g => ?_)
  · have g : w.bad = true := g
    unfold WS.told
    rw [if_pos g, if_pos g]
    refine gA rfl (end_det [] (by first | exact .inr rfl | exact .inl rfl) rfl (wk rfl rfl rfl ⟨.refl _, rfl, trivial⟩ trivial rfl))
  · have g : ¬ w.bad = true := by
      have g : w.bad = false := g
      rw [g]; decide
    unfold WS.told
    rw [if_neg g, if_neg g]
    refine gA rfl (go_det [0, 1] (d150 w) rfl rfl rfl rfl rfl rfl rfl rfl ?_)
    refine gA rfl (end_det [] (by first | exact .inr rfl | exact .inl rfl) rfl (wk rfl rfl rfl ⟨.refl _, rfl, trivial⟩ trivial rfl))
def atomP (a : Atom) : PV := (atomW WS.o a).told
def litP (l : Lit) : PV := (litF l.size l WS.o).told
theorem c61 (a : Atom) (hb : a.ts ≤ 900000000) : Pure Tryz.prog 61 [ag a.c] (atomP a) := by
  refine pure_end tyA_ok Tryz.func61 rfl (by decide) Tryz.ntmps61 rfl (by simp) rfl ?_
  refine gM 12 rfl (go_wnew 1 rfl rfl ?_)
  refine gA rfl (go_w (d104 WS.o a (by simpa using hb)) rfl rfl rfl rfl rfl rfl rfl rfl rfl rfl rfl rfl ?_)
  refine gA rfl (go_det [1, 3] (d105 (atomW WS.o a)) rfl rfl rfl rfl rfl rfl rfl rfl ?_)
  refine gA rfl (end_le (by first | exact .inr rfl | exact .inl rfl) rfl (.of_eq ?_))
  rfl
theorem c108 (l : Lit) (hb : l.ts ≤ 900000000) (hs : l.size ≤ 100000000) : Pure Tryz.prog 108 [ag l.c] (litP l) := by
  refine pure_end tyA_ok Tryz.func108 rfl (by decide) Tryz.ntmps108 rfl (by simp) rfl ?_
  refine gM 12 rfl (go_wnew 1 rfl rfl ?_)
  refine gA rfl (go_w (litD l.size (by omega) l WS.o (Nat.le_refl _) (by decide) (by decide) (by simpa using hb)) rfl rfl rfl rfl rfl rfl rfl rfl rfl rfl rfl rfl ?_)
  refine gA rfl (go_det [1, 3] (d105 (litF l.size l WS.o)) rfl rfl rfl rfl rfl rfl rfl rfl ?_)
  refine gA rfl (end_le (by first | exact .inr rfl | exact .inl rfl) rfl (.of_eq ?_))
  rfl
end Go.Proofs.YtpnclpbkecjinaaGreatDoorR
/-
  Relations' faults; the types of variables: where they stand, what is tied.
-/
namespace Go.Proofs.YtpnclpbkecjinaaGreatDoorR
open Go Go.Al
set_option maxRecDepth 10000
/-- The fault of a declaration: the i-th, k of its name ahead. -/
def relErr (d : Decl) (i k : Int) : Int :=
  if (d.types.any fun x => !decide (x = 1) && !decide (x = 2)) = true ∨ nameB d.name = false then 1
  else if i ≥ 64 ∨ (d.types.length : Int) > 8 then 66 else if k > 0 then 60 else 0
theorem c107 (d : Decl) (i k : Int) : Pure Tryz.prog 107 [ag d.c, pI i, pI k] (pI (relErr d i k)) := by
  refine pure_end tyA_ok Tryz.func107 rfl (by decide) Tryz.ntmps107 rfl (by simp) rfl ?_
  refine gA rfl (go_det [] (d153 d.types) rfl rfl rfl rfl rfl rfl rfl rfl ?_)
  refine gA rfl ?_
  refine And.intro (fun g1 => ?_) (fun g1 => ?_)
  rotate_left
  · rw [relErr, if_pos (.inl (by simpa using g1))]
    refine gA rfl (end_le (by first | exact .inr rfl | exact .inl rfl) rfl (.of_eq ?_))
    rfl
  have g1 : ¬ (d.types.any fun x => !decide (x = 1) && !decide (x = 2)) = true := by
    have g1 : (d.types.any fun x => !decide (x = 1) && !decide (x = 2)) = false := g1
    rw [g1]; decide
  refine gA rfl (go_pure (c97 d.name) rfl rfl rfl rfl rfl rfl ?_)
  refine gA rfl ?_
  refine And.intro (fun g2 => ?_) (fun g2 => ?_)
  · have g2 : nameB d.name = false := by simpa using g2
    rw [relErr, if_pos (.inr g2)]
    refine gA rfl (end_le (by first | exact .inr rfl | exact .inl rfl) rfl (.of_eq ?_))
    rfl
  have g2 : ¬ nameB d.name = false := by
    have g2 : nameB d.name = true := by simpa using g2
    rw [g2]; decide
  rw [relErr, if_neg (by rintro (h | h); exact g1 h; exact g2 h)]
  refine gA rfl ?_
  refine And.intro (fun g3 => ?_) (fun g3 => ?_)
  rotate_left
  · rw [if_pos (.inl (by simpa using g3))]
    refine gA rfl (end_le (by first | exact .inr rfl | exact .inl rfl) rfl (.of_eq ?_))
    rfl
  have g3 : ¬ i ≥ 64 := of_decide_eq_false g3
  refine gA rfl ?_
  refine And.intro (fun g4 => ?_) (fun g4 => ?_)
  · rw [if_pos (.inr (of_decide_eq_true g4))]
    refine gA rfl (end_le (by first | exact .inr rfl | exact .inl rfl) rfl (.of_eq ?_))
    rfl
  have g4 : ¬ (d.types.length : Int) > 8 := of_decide_eq_false g4
  rw [if_neg (by rintro (h | h); exact g3 h; exact g4 h)]
  refine gA rfl ?_
  refine And.intro (fun g5 => ?_) (fun g5 => ?_)
  · rw [if_pos (of_decide_eq_true g5)]
    refine gA rfl (end_le (by first | exact .inr rfl | exact .inl rfl) rfl (.of_eq ?_))
    rfl
  · rw [if_neg (of_decide_eq_false g5)]
    refine gA rfl (end_le (by first | exact .inr rfl | exact .inl rfl) rfl (.of_eq ?_))
    rfl
/-! Spots, wants. -/
abbrev Spot := (KC.si .i64).K
def Spot.z : Spot := (ByteArray.empty, 0)
def Spot.c (s : Spot) : List IV := [iS s.1, iI s.2]
def spE (s : Spot) : IV := .agg s.c
def spZ : Value := .agg #[.string ByteArray.empty, .int .i64 0]
def dvP : PV → Spot
  | .agg [.iv (.v (.string s)), .iv (.v (.int _ a))] => (s, a)
  | _ => Spot.z
abbrev UM := List (Spot × Spot)
abbrev KM := List (Spot × Int)
abbrev upO (m : UM) : AO := .map (.si .i64) spE Spot.z spZ dvP m
abbrev upI (m : UM) : IV := .imap (.si .i64) spE Spot.z spZ m
abbrev kdO (m : KM) : AO := .map (.si .i64) evI 0 (.int .i64 0) dvI m
abbrev kdI (m : KM) : IV := .imap (.si .i64) evI 0 (.int .i64 0) m
structure Want where
  lit : Int
  at_ : Spot
  kind : Int
  has : Int
  deriving Inhabited
def Want.c (w : Want) : List IV := [iI w.lit, iS w.at_.1, iI w.at_.2, iI w.kind, iI w.has]
/-- What is known of a rule's variables: ties, wants, types. -/
structure TS where
  up : UM
  ws : List Want
  kind : KM
abbrev TS.cell (r : Rule) (u j n k : Nat) : AO := .cells [.iv (bookI r), .mp u, .sl j 0 n 5, .mp k]
abbrev TS.O (r : Rule) (t : TS) : List AO := [TS.cell r 1 2 t.ws.length 3, upO t.up, rowI 5 t.ws Want.c, kdO t.kind]
abbrev TS.K (r : Rule) (t : TS) : AH := [(0, some (TS.cell r 1 2 t.ws.length 3)), (1, some (upO t.up)), (2, some (rowI 5 t.ws Want.c)), (3, some (kdO t.kind))]
abbrev TS.H (r : Rule) (t : TS) : AH := [(0, some (TS.cell r 1 4 t.ws.length 3)), (1, some (upO t.up)), (4, some (rowI 5 t.ws Want.c)), (3, some (kdO t.kind))]
def spotF (r : Rule) (s : Str) (w : Int) : Spot := (s, if lkD .str (occM (outerOcc r)) s 0 > 0 then -1 else w)
theorem d136 (r : Rule) (t : TS) (s : Str) (w : Int) : Det Tryz.prog 136 [.ptr 0 0, pS s, pI w] (t.O r) (ag (spotF r s w).c) (t.K r) 4 := by
  refine det_end tyA_ok Tryz.func136 rfl (by decide) Tryz.ntmps136 rfl (by simp) ?_
  refine gA rfl ?_
  refine And.intro (fun g => ?_) (fun g => ?_)
  · have e : spotF r s w = (s, -1) := by unfold spotF; rw [if_pos (of_decide_eq_true g)]
    rw [e]
    refine gA rfl (end_det [] (by first | exact .inr rfl | exact .inl rfl) rfl (wk rfl rfl rfl ⟨.refl _, rfl, trivial⟩ ⟨⟨_, rfl, .of_eq rfl⟩, Nat.le_of_ble_eq_true rfl, rfl, hM rfl rfl rfl ⟨⟨_, rfl, .of_eq (rowI_ren _).symm⟩, Nat.le_of_ble_eq_true rfl, rowI_low _, hM rfl rfl rfl trivial⟩⟩ rfl))
  · have e : spotF r s w = (s, w) := by unfold spotF; rw [if_neg (of_decide_eq_false g)]
    rw [e]
    refine gA rfl (end_det [] (by first | exact .inr rfl | exact .inl rfl) rfl (wk rfl rfl rfl ⟨.refl _, rfl, trivial⟩ ⟨⟨_, rfl, .of_eq rfl⟩, Nat.le_of_ble_eq_true rfl, rfl, hM rfl rfl rfl ⟨⟨_, rfl, .of_eq (rowI_ren _).symm⟩, Nat.le_of_ble_eq_true rfl, rowI_low _, hM rfl rfl rfl trivial⟩⟩ rfl))
/-! Roots. -/
def rootL : UM → Spot → Spot
  | [], v => v
  | (x, y) :: r, v => if x = v then rootL r y else rootL r v
/-- No spot is tied to one that was tied ahead. -/
def upOK : UM → Prop
  | [] => True
  | (x, y) :: r => x ≠ y ∧ (∀ q ∈ r, q.1 ≠ x) ∧ (∀ q ∈ r, q.2 ≠ x) ∧ upOK r
def upM : UM → Spot → Nat
  | [], _ => 0
  | (x, _) :: r, v => if x = v then r.length + 1 else upM r v
theorem upM_le : ∀ (m : UM) (v : Spot), upM m v ≤ m.length
  | [], _ => Nat.le_refl _
  | (x, y) :: r, v => by
    have := upM_le r v
    unfold upM; split
    · simp
    · simp; omega
theorem root_no : ∀ (m : UM) (v : Spot), hasK (.si .i64) m v = false → rootL m v = v
  | [], _, _ => rfl
  | (x, y) :: r, v, h => by
    unfold hasK at h
    unfold rootL
    split at h
    · cases h
    · rename_i hx
      rw [if_neg hx]; exact root_no r v h
theorem root_yes : ∀ (m : UM) (v : Spot), upOK m → hasK (.si .i64) m v = true → rootL m (lkD (.si .i64) m v Spot.z) = rootL m v ∧ upM m (lkD (.si .i64) m v Spot.z) < upM m v
  | [], _, _, h => nomatch h
  | (x, y) :: r, v, ok, h => by
    obtain ⟨o1, o2, o3, o4⟩ := ok
    by_cases hx : x = v
    · subst hx
      have e : lkD (.si .i64) ((x, y) :: r) x Spot.z = y := if_pos rfl
      rw [e]
      refine ⟨?_, ?_⟩
      · show (if x = y then rootL r y else rootL r y) = if x = x then rootL r y else rootL r x
        rw [if_pos rfl]; split <;> rfl
      · show (if x = y then r.length + 1 else upM r y) < if x = x then r.length + 1 else upM r x
        rw [if_pos rfl, if_neg o1]
        have := upM_le r y; omega
    · have e : lkD (.si .i64) ((x, y) :: r) v Spot.z = lkD (.si .i64) r v Spot.z := if_neg hx
      have h2 : hasK (.si .i64) r v = true := by
        unfold hasK at h; rw [if_neg hx] at h; exact h
      rw [e]
      obtain ⟨g1, g2⟩ := root_yes r v o4 h2
      have hne : lkD (.si .i64) r v Spot.z ≠ x := by
        have : ∀ (m : UM), (∀ q ∈ m, q.2 ≠ x) → hasK (.si .i64) m v = true → lkD (.si .i64) m v Spot.z ≠ x := by
          intro m
          induction m with
          | nil => intro _ h; cases h
          | cons a r ih =>
            obtain ⟨x', y'⟩ := a
            intro hm h
            unfold hasK at h
            unfold lkD
            split at h
            · rename_i hx'; rw [if_pos hx']; exact hm _ List.mem_cons_self
            · rename_i hx'; rw [if_neg hx']; exact ih (fun q hq => hm q (List.mem_cons_of_mem _ hq)) h
        exact this r o3 h2
      refine ⟨?_, ?_⟩
      · show (if x = _ then rootL r y else rootL r _) = if x = v then rootL r y else rootL r v
        rw [if_neg (fun e => hne e.symm), if_neg hx]; exact g1
      · show (if x = _ then r.length + 1 else upM r _) < if x = v then r.length + 1 else upM r v
        rw [if_neg (fun e => hne e.symm), if_neg hx]; exact g2
theorem d52 (r : Rule) (t : TS) (v0 : Spot) (ok : upOK t.up) : Det Tryz.prog 52 [.ptr 0 0, ag v0.c] (t.O r) (ag (rootL t.up v0).c) (t.K r) 4 := by
  refine det_end tyA_ok Tryz.func52 rfl (by decide) Tryz.ntmps52 rfl (by simp) ?_
  refine gA rfl ?_
  refine go_lp (σ := { v : Spot // rootL t.up v = rootL t.up v0 }) (fun v => ⟨[(0, .ptr 0 0), (3, .ptr 4 0), (4, .ptr 5 0)],
    [(0, some (TS.cell r 1 2 t.ws.length 3)), (1, some (upO t.up)), (2, some (rowI 5 t.ws Want.c)), (3, some (kdO t.kind)), (4, some (.cells [pS v.1.1, pI v.1.2])), (5, some (.cells [pS ⟨#[]⟩, pI 0]))], 6⟩) (fun v => upM t.up v.1) ⟨v0, rfl⟩ []
    (wk rfl rfl rfl ⟨.refl _, rfl, .refl _, rfl, .refl _, rfl, trivial⟩ ⟨⟨_, rfl, .of_eq rfl⟩, Nat.le_of_ble_eq_true rfl, rfl, hM rfl rfl rfl ⟨⟨_, rfl, .of_eq (rowI_ren _).symm⟩, Nat.le_of_ble_eq_true rfl, rowI_low _, hM rfl rfl rfl ⟨⟨_, rfl, .of_eq rfl⟩, Nat.le_of_ble_eq_true rfl, rfl, ⟨_, rfl, .of_eq rfl⟩, Nat.le_of_ble_eq_true rfl, rfl, trivial⟩⟩⟩ rfl) fun v => ?_
  obtain ⟨v, hv⟩ := v
  refine gA rfl ?_
  refine And.intro (fun g => ?_) (fun g => ?_)
  · have h : hasK (.si .i64) t.up v = false := by simpa using g
    have e : rootL t.up v0 = v := by rw [← hv]; exact root_no t.up v h
    refine gA rfl (end_det [] (by first | exact .inr rfl | exact .inl rfl) rfl (wk rfl rfl rfl ⟨.of_eq (congrArg (fun x : Spot => ag x.c) e.symm), rfl, trivial⟩ ⟨⟨_, rfl, .of_eq rfl⟩, Nat.le_of_ble_eq_true rfl, rfl, hM rfl rfl rfl ⟨⟨_, rfl, .of_eq (rowI_ren _).symm⟩, Nat.le_of_ble_eq_true rfl, rowI_low _, hM rfl rfl rfl trivial⟩⟩ rfl))
  · have h : hasK (.si .i64) t.up v = true := by simpa using g
    obtain ⟨h1, h2⟩ := root_yes t.up v ok h
    refine gA rfl ?_
    exact ⟨⟨lkD (.si .i64) t.up v Spot.z, h1.trans hv⟩, [], h2, wk rfl rfl rfl ⟨.refl _, rfl, .refl _, rfl, .refl _, rfl, trivial⟩ ⟨⟨_, rfl, .of_eq rfl⟩, Nat.le_of_ble_eq_true rfl, rfl, hM rfl rfl rfl ⟨⟨_, rfl, .of_eq (rowI_ren _).symm⟩, Nat.le_of_ble_eq_true rfl, rowI_low _, hM rfl rfl rfl ⟨⟨_, rfl, .of_eq rfl⟩, Nat.le_of_ble_eq_true rfl, rfl, ⟨_, rfl, .of_eq rfl⟩, Nat.le_of_ble_eq_true rfl, rfl, trivial⟩⟩⟩ rfl⟩
/-! What was found is kept as data. -/
def tyI (r : Rule) (t : TS) : IV := .iptr [bookI r, upI t.up, slc 5 t.ws Want.c, kdI t.kind]
theorem c52 (r : Rule) (t : TS) (v0 : Spot) (ok : upOK t.up) : Pure Tryz.prog 52 [.iv (tyI r t), ag v0.c] (ag (rootL t.up v0).c) := by
  refine pure_end tyA_ok Tryz.func52 rfl (by decide) Tryz.ntmps52 rfl (by simp) rfl ?_
  refine gA rfl ?_
  refine go_lp (σ := { v : Spot // rootL t.up v = rootL t.up v0 }) (fun v => ⟨[(0, .iv (tyI r t)), (3, .ptr 0 0), (4, .ptr 1 0)],
    [(0, some (.cells [pS v.1.1, pI v.1.2])), (1, some (.cells [pS ⟨#[]⟩, pI 0]))], 2⟩) (fun v => upM t.up v.1) ⟨v0, rfl⟩ []
    (wk rfl rfl rfl ⟨.refl _, rfl, .refl _, rfl, .refl _, rfl, trivial⟩ ⟨⟨_, rfl, .of_eq rfl⟩, Nat.le_of_ble_eq_true rfl, rfl, ⟨_, rfl, .of_eq rfl⟩, Nat.le_of_ble_eq_true rfl, rfl, trivial⟩ rfl) fun v => ?_
  obtain ⟨v, hv⟩ := v
  refine gA rfl ?_
  refine And.intro (fun g => ?_) (fun g => ?_)
  · have h : hasK (.si .i64) t.up v = false := by simpa using g
    have e : rootL t.up v0 = v := by rw [← hv]; exact root_no t.up v h
    refine gA rfl (end_le (by first | exact .inr rfl | exact .inl rfl) rfl (.of_eq ?_))
    exact congrArg (fun x : Spot => ag x.c) e.symm
  · have h : hasK (.si .i64) t.up v = true := by simpa using g
    obtain ⟨h1, h2⟩ := root_yes t.up v ok h
    refine gA rfl ?_
    exact ⟨⟨lkD (.si .i64) t.up v Spot.z, h1.trans hv⟩, [], h2, wk rfl rfl rfl ⟨.refl _, rfl, .refl _, rfl, .refl _, rfl, trivial⟩ ⟨⟨_, rfl, .of_eq rfl⟩, Nat.le_of_ble_eq_true rfl, rfl, ⟨_, rfl, .of_eq rfl⟩, Nat.le_of_ble_eq_true rfl, rfl, trivial⟩ rfl⟩
/-- Is a want of that literal not met. -/
def wantK (t : TS) (w : Want) : Int := if w.has = 0 then lkD (.si .i64) t.kind (rootL t.up w.at_) 0 else w.has
def wantB (t : TS) (lit : Int) (w : Want) : Bool := decide (w.lit = lit) && !decide (wantK t w = w.kind)
def wrongB (t : TS) (lit : Int) : Bool := t.ws.any (wantB t lit)
theorem c118 (r : Rule) (t : TS) (lit : Int) (ok : upOK t.up) (hb : t.ws.length ≤ 1000000000000) : Pure Tryz.prog 118 [.iv (tyI r t), pI lit] (pB (wrongB t lit)) := by
  refine pure_end tyA_ok Tryz.func118 rfl (by decide) Tryz.ntmps118 rfl (by simp) rfl ?_
  refine gA rfl ?_
  refine go_for 0 t.ws.length (Nat.zero_le _) (fun i => ⟨[(0, .iv (tyI r t)), (1, pI lit), (11, .iv (slc 5 t.ws Want.c)), (12, pI t.ws.length), (13, pI i)], [], 0⟩) (fun i => (t.ws.take i).any (wantB t lit) = false) [] rfl
    (wk rfl rfl rfl ⟨.refl _, rfl, .refl _, rfl, .refl _, rfl, .refl _, rfl, .refl _, rfl, trivial⟩ trivial rfl) fun i hi hJ => ?_
  refine gA rfl ?_
  refine And.intro (fun h1 => ?_) (fun h1 => ?_)
  · have h1 : i < t.ws.length := by simpa using h1
    have hA := any_step hJ h1
    refine gA rfl ?_
    refine And.intro (fun h2 => ?_) (fun h2 => ?_)
    · have h2 : (t.ws.getD i default).has = 0 := of_decide_eq_true h2
      refine gA rfl (go_ddet tyA_ok [] (Pure.det (c52 r t (t.ws.getD i default).at_ ok)) rfl rfl rfl rfl rfl rfl rfl rfl rfl rfl rfl rfl (by (repeat' (first | exact trivial | exact rfl | exact PVle.refl _ | exact PVle.bk (by assumption) | apply And.intro)) <;> first | omega | (simp only [Int.toNat_natCast]; omega) | (simp; done) | (simp; omega)) rfl (by (repeat' (first | exact trivial | exact rfl | exact PVle.refl _ | exact PVle.bk (by assumption) | apply And.intro)) <;> first | omega | (simp only [Int.toNat_natCast]; omega) | (simp; done) | (simp; omega)) ?_)
      have hk : wantK t (t.ws.getD i default) = lkD (.si .i64) t.kind (rootL t.up (t.ws.getD i default).at_) 0 := if_pos h2
      refine gA rfl ?_
      refine And.intro (fun k1 => ?_) (fun k1 => ?_)
      · have k1 : (t.ws.getD i default).lit = lit := of_decide_eq_true k1
        refine gA rfl ?_
        refine And.intro (fun k2 => ?_) (fun k2 => ?_)
        · have k2 : ¬ wantK t (t.ws.getD i default) = (t.ws.getD i default).kind := by rw [hk]; simpa using k2
          have e : wrongB t lit = true := List.any_eq_true.2 ⟨t.ws.getD i default, by rw [List.getD_eq_getElem?_getD, List.getElem?_eq_getElem h1]; exact List.getElem_mem h1, by rw [wantB, decide_eq_true k1, decide_eq_false k2]; rfl⟩
          refine gA rfl (end_le (by first | exact .inr rfl | exact .inl rfl) rfl (.of_eq ?_))
          rw [e]
        · have k2 : wantK t (t.ws.getD i default) = (t.ws.getD i default).kind := by rw [hk]; simpa using k2
          refine gA rfl ?_
          exact ⟨h1, hA.2 (by rw [wantB, decide_eq_true k2, Bool.not_true, Bool.and_false]), [], wk rfl rfl rfl ⟨.refl _, rfl, .refl _, rfl, .refl _, rfl, .refl _, rfl, .refl _, rfl, trivial⟩ trivial rfl⟩
      · have k1 : ¬ (t.ws.getD i default).lit = lit := by simpa using k1
        refine gA rfl ?_
        exact ⟨h1, hA.2 (by rw [wantB, decide_eq_false k1]; rfl), [], wk rfl rfl rfl ⟨.refl _, rfl, .refl _, rfl, .refl _, rfl, .refl _, rfl, .refl _, rfl, trivial⟩ trivial rfl⟩
    · have h2 : ¬ (t.ws.getD i default).has = 0 := of_decide_eq_false h2
      have hk : wantK t (t.ws.getD i default) = (t.ws.getD i default).has := if_neg h2
      refine gA rfl ?_
      refine And.intro (fun k1 => ?_) (fun k1 => ?_)
      · have k1 : (t.ws.getD i default).lit = lit := of_decide_eq_true k1
        refine gA rfl ?_
        refine And.intro (fun k2 => ?_) (fun k2 => ?_)
        · have k2 : ¬ wantK t (t.ws.getD i default) = (t.ws.getD i default).kind := by rw [hk]; simpa using k2
          have e : wrongB t lit = true := List.any_eq_true.2 ⟨t.ws.getD i default, by rw [List.getD_eq_getElem?_getD, List.getElem?_eq_getElem h1]; exact List.getElem_mem h1, by rw [wantB, decide_eq_true k1, decide_eq_false k2]; rfl⟩
          refine gA rfl (end_le (by first | exact .inr rfl | exact .inl rfl) rfl (.of_eq ?_))
          rw [e]
        · have k2 : wantK t (t.ws.getD i default) = (t.ws.getD i default).kind := by rw [hk]; simpa using k2
          refine gA rfl ?_
          exact ⟨h1, hA.2 (by rw [wantB, decide_eq_true k2, Bool.not_true, Bool.and_false]), [], wk rfl rfl rfl ⟨.refl _, rfl, .refl _, rfl, .refl _, rfl, .refl _, rfl, .refl _, rfl, trivial⟩ trivial rfl⟩
      · have k1 : ¬ (t.ws.getD i default).lit = lit := by simpa using k1
        refine gA rfl ?_
        exact ⟨h1, hA.2 (by rw [wantB, decide_eq_false k1]; rfl), [], wk rfl rfl rfl ⟨.refl _, rfl, .refl _, rfl, .refl _, rfl, .refl _, rfl, .refl _, rfl, trivial⟩ trivial rfl⟩
  · have h1 : t.ws.length ≤ i := by simpa using h1
    rw [List.take_of_length_le h1] at hJ
    refine gA rfl (end_le (by first | exact .inr rfl | exact .inl rfl) rfl (.of_eq ?_))
    rw [wrongB, hJ]
end Go.Proofs.YtpnclpbkecjinaaGreatDoorR
/-
  What an expression wants of its variables' types.
-/
namespace Go.Proofs.YtpnclpbkecjinaaGreatDoorR
open Go Go.Al
set_option maxRecDepth 10000
section
variable (r : Rule) (lit w : Int)
def leafWs (e : Expr) : List Want := if e.kind = 1 then [⟨lit, spotF r e.var w, 1, 0⟩] else if e.kind = 2 then [⟨lit, Spot.z, 1, e.val.kind⟩] else []
mutual
def numR : Expr → List Want
  | .mk k v val op args => leafWs r lit w (.mk k v val op args) ++ (if k = 4 then numRs args else [])
def numRs : List Expr → List Want
  | [] => []
  | e :: s => numR e ++ numRs s
end
theorem numRs_eq : ∀ l : List Expr, numRs r lit w l = l.flatMap (numR r lit w)
  | [] => rfl
  | e :: s => by rw [numRs, List.flatMap_cons, numRs_eq s]
def insR (e : Expr) : List Want := if e.kind = 4 then e.args.flatMap (numR r lit w) else []
theorem numR_eq (e : Expr) : numR r lit w e = leafWs r lit w e ++ insR r lit w e := by
  cases e
  rw [numR, numRs_eq]; rfl
end
abbrev TS.add (t : TS) (l : List Want) : TS := ⟨t.up, t.ws ++ l, t.kind⟩
section
variable {nt : Nat} {Q : AQ} {k : List KI} {s : AS}
/-- The state behind a method that writes, and behind one that reads. -/
def tS (s : AS) (r : Rule) (t : TS) (i u j m : Nat) : AS := match s with | ⟨f, h, n⟩ => ⟨f, (i, some (TS.cell r u n t.ws.length m)) :: (u, some (upO t.up)) :: (n, some (rowI 5 t.ws Want.c)) :: (m, some (kdO t.kind)) :: (i, none) :: (u, none) :: (j, none) :: (m, none) :: h, n + 1⟩
theorem tS_eq (s : AS) (r : Rule) (t : TS) (i u j m : Nat) : tS s r t i u j m = ⟨s.f, (i, some (TS.cell r u s.nx t.ws.length m)) :: (u, some (upO t.up)) :: (s.nx, some (rowI 5 t.ws Want.c)) :: (m, some (kdO t.kind)) :: (i, none) :: (u, none) :: (j, none) :: (m, none) :: s.h, s.nx + 1⟩ := by cases s; rfl
def tR (s : AS) (r : Rule) (t : TS) (i u j m : Nat) : AS := match s with | ⟨f, h, n⟩ => ⟨f, (i, some (TS.cell r u j t.ws.length m)) :: (u, some (upO t.up)) :: (j, some (rowI 5 t.ws Want.c)) :: (m, some (kdO t.kind)) :: (i, none) :: (u, none) :: (j, none) :: (m, none) :: h, n⟩
theorem tR_eq (s : AS) (r : Rule) (t : TS) (i u j m : Nat) : tR s r t i u j m = ⟨s.f, (i, some (TS.cell r u j t.ws.length m)) :: (u, some (upO t.up)) :: (j, some (rowI 5 t.ws Want.c)) :: (m, some (kdO t.kind)) :: (i, none) :: (u, none) :: (j, none) :: (m, none) :: s.h, s.nx⟩ := by cases s; rfl
theorem tcall_OT {o : Oper} {c : Call} {g : FuncId} {args al : List PV} {r : Rule} {t t' : TS} {res : PV} {i u j m n : Nat} {es : List (List PV)} {s' : AS} (hc : Det Tryz.prog g (.ptr 0 0 :: args) (t.O r) res (t'.H r) 5) (ho : o.op = .call c) (ha : argsOf s.f c = some (g, .ptr i 0 :: al))
    (hi : s.h.get i = some (TS.cell r u j n m)) (hu : s.h.get u = some (upO t.up)) (hj : s.h.get j = some (.row 5 es)) (hm : s.h.get m = some (kdO t.kind)) (hn : n = t.ws.length) (he : es = t.ws.map fun x => (Want.c x).map .iv)
    (hlt : [i, u, j, m].all (fun x => Nat.blt x s.nx) = true) (hnd : nodupB [i, u, j, m] = true) (has : al = args) (hlow : belowL 0 args = true) (hr : res.low 0 = true)
    (hp : putDst nt o res (tS s r t' i u j m) = some s') : OT Tryz.prog nt o s (fun t => t = s') := by
  subst has; subst hn; subst he
  have hargs : ∀ σ, renL σ al = al := fun σ => renL_low σ al hlow
  refine call_OT ho ha hc (nodupB_ok hnd) (fun j hj => Nat.le_of_ble_eq_true (List.all_eq_true.1 hlt j hj)) ?_ ?_ ?_
  · simp only [List.map_cons, List.map_nil, hi, hu, hj, hm, rowI_ren]; rfl
  · simp only [renL, hargs]; rfl
  · rintro q h0 n0 ⟨rfl, rfl, rfl⟩
    rw [PV.ren_low _ _ hr]
    rw [tS_eq] at hp
    refine ⟨s', ?_, rfl⟩
    rw [← hp]
    simp only [TS.H, behindCall, renH, Option.map_some, rowI_ren]
    rfl
theorem tread_OT {o : Oper} {c : Call} {g : FuncId} {args al : List PV} {r : Rule} {t : TS} {res : PV} {i u j m n : Nat} {es : List (List PV)} {s' : AS} (hc : Det Tryz.prog g (.ptr 0 0 :: args) (t.O r) res (t.K r) 4) (ho : o.op = .call c) (ha : argsOf s.f c = some (g, .ptr i 0 :: al))
    (hi : s.h.get i = some (TS.cell r u j n m)) (hu : s.h.get u = some (upO t.up)) (hj : s.h.get j = some (.row 5 es)) (hm : s.h.get m = some (kdO t.kind)) (hn : n = t.ws.length) (he : es = t.ws.map fun x => (Want.c x).map .iv)
    (hlt : [i, u, j, m].all (fun x => Nat.blt x s.nx) = true) (hnd : nodupB [i, u, j, m] = true) (has : al = args) (hlow : belowL 0 args = true) (hr : res.low 0 = true)
    (hp : putDst nt o res (tR s r t i u j m) = some s') : OT Tryz.prog nt o s (fun t => t = s') := by
  subst has; subst hn; subst he
  have hargs : ∀ σ, renL σ al = al := fun σ => renL_low σ al hlow
  refine call_OT ho ha hc (nodupB_ok hnd) (fun j hj => Nat.le_of_ble_eq_true (List.all_eq_true.1 hlt j hj)) ?_ ?_ ?_
  · simp only [List.map_cons, List.map_nil, hi, hu, hj, hm, rowI_ren]; rfl
  · simp only [renL, hargs]; rfl
  · rintro q h0 n0 ⟨rfl, rfl, rfl⟩
    rw [PV.ren_low _ _ hr]
    rw [tR_eq] at hp
    refine ⟨s', ?_, rfl⟩
    rw [← hp]
    simp only [TS.K, behindCall, renH, Option.map_some, rowI_ren]
    rfl
/-- A call of a method that writes; of one that reads; of one that reads where the order is open. -/
theorem go_t {all rest : List Oper} {o : Oper} {c : Call} {g : FuncId} {args al : List PV} {r : Rule} {t t' : TS} {res : PV} {i u j m n : Nat} {es : List (List PV)} {s' : AS} (hc : Det Tryz.prog g (.ptr 0 0 :: args) (t.O r) res (t'.H r) 5) (ho : o.op = .call c) (hg : o.guard = none) (ha : argsOf s.f c = some (g, .ptr i 0 :: al))
    (hi : s.h.get i = some (TS.cell r u j n m)) (hu : s.h.get u = some (upO t.up)) (hj : s.h.get j = some (.row 5 es)) (hm : s.h.get m = some (kdO t.kind)) (hn : n = t.ws.length) (he : es = t.ws.map fun x => (Want.c x).map .iv)
    (hlt : [i, u, j, m].all (fun x => Nat.blt x s.nx) = true) (hnd : nodupB [i, u, j, m] = true) (has : al = args) (hlow : belowL 0 args = true) (hr : res.low 0 = true)
    (hp : putDst nt o res (tS s r t' i u j m) = some s') (h : GO Tryz.prog nt (.ops all rest :: k) Q s') : GO Tryz.prog nt (.ops all (o :: rest) :: k) Q s :=
  go_op hg (tcall_OT hc ho ha hi hu hj hm hn he hlt hnd has hlow hr hp) fun t ht => by subst ht; exact h
theorem go_dtr {all : List Oper} {todo pend : List (Nat × Oper)} {j' : Nat} {CA C2 : Prop} {o : Oper} {c : Call} {g : FuncId} {args al : List PV} {r : Rule} {t : TS} {res : PV} {i u j m n : Nat} {es : List (List PV)} {s' : AS} (hc : Det Tryz.prog g (.ptr 0 0 :: args) (t.O r) res (t.K r) 4)
    (hrd : readyE todo = [(j', o)]) (ho : o.op = .call c) (ha : argsOf s.f c = some (g, .ptr i 0 :: al))
    (hi : s.h.get i = some (TS.cell r u j n m)) (hu : s.h.get u = some (upO t.up)) (hj : s.h.get j = some (.row 5 es)) (hm : s.h.get m = some (kdO t.kind)) (hn : n = t.ws.length) (he : es = t.ws.map fun x => (Want.c x).map .iv)
    (hlt : [i, u, j, m].all (fun x => Nat.blt x s.nx) = true) (hnd : nodupB [i, u, j, m] = true) (has : al = args) (hlow : belowL 0 args = true) (hr : res.low 0 = true)
    (hp : putDst nt o res (tR s r t i u j m) = some s')
    (hg : guardIs nt all s.f o = some true) (hpb : pendB all pend o = true) (hE : effE todo [j'] = true)
    (hag : agnC tyA nt all s todo pend = some CA) (hCA : CA) (hag2 : againC tyA nt all s' (restOf pend o) = some C2) (hC2 : C2)
    (h : GO Tryz.prog nt (.dops all (todo.filter fun x => !Nat.beq x.1 j') (restOf pend o) :: k) Q s') : GO Tryz.prog nt (.dops all todo pend :: k) Q s :=
  go_dot tyA_ok hrd hg hpb hE hag hCA (tread_OT hc ho ha hi hu hj hm hn he hlt hnd has hlow hr hp) hag2 hC2 h
/-- The end of a method that writes. -/
theorem end_t {l : List ResultVar} {r0 : PV} {e : Exit} {r : Rule} {t' : TS} {res : PV} {j n : Nat} {es : List (List PV)} (he : e = .normal ∨ e = .ret) (hr : resA tyA s l = some r0) (hi : s.h.get 0 = some (TS.cell r 1 j n 3)) (hu : s.h.get 1 = some (upO t'.up)) (hj : s.h.get j = some (.row 5 es)) (hm : s.h.get 3 = some (kdO t'.kind))
    (hn : n = t'.ws.length) (hes : es = t'.ws.map fun x => (Want.c x).map .iv) (hlt : Nat.blt j s.nx = true) (hnd : nodupB [0, 1, j, 3] = true) (hns : Nat.ble 4 s.nx = true) (hrl : PVle r0 res) (hlow : res.low 0 = true) (hlow5 : res.low 5 = true) : EndD tyA l 4 res (t'.H r) 5 e s := by
  subst hn; subst hes
  refine end_det [j] he hr ⟨rfl, Nat.le_of_ble_eq_true hns, fun x hx => ?_, ⟨?_, hlow5, trivial⟩, ⟨⟨_, hi, .of_eq rfl⟩, Nat.le_of_ble_eq_true rfl, rfl, ⟨_, hu, .of_eq rfl⟩, Nat.le_of_ble_eq_true rfl, trivial, ⟨_, hj, .of_eq (rowI_ren _).symm⟩, Nat.le_of_ble_eq_true rfl, rowI_low _, ⟨_, hm, .of_eq rfl⟩, Nat.le_of_ble_eq_true rfl, trivial, trivial⟩, ?_⟩
  · simp only [List.mem_singleton] at hx; subst hx; exact Nat.le_of_ble_eq_true hlt
  · rw [PV.ren_low _ _ hlow]; exact hrl
  · exact nodupB_ok hnd
/-- .. at a loop's head: the row under the first number of the loop's own. -/
theorem wkT {n0 i u j m n : Nat} {es : List (List PV)} {tf : AF} {r : Rule} {t t' : TS} (hw : t = t') (hi : s.h.get i = some (TS.cell r u j n m)) (hu : s.h.get u = some (upO t.up)) (hj : s.h.get j = some (.row 5 es)) (hm : s.h.get m = some (kdO t.kind))
    (hn : n = t.ws.length) (hes : es = t.ws.map fun x => (Want.c x).map .iv) (hlt : Nat.blt j s.nx = true) (hnd : nodupB [i, u, j, m] = true) (h0 : [i, u, m].all (fun x => Nat.blt x n0) = true) (hns : Nat.ble n0 s.nx = true) (hf : wkF (n0 + 1) (sg n0 [j]) s.f tf) :
    Wk n0 [j] s ⟨tf, [(i, some (TS.cell r u n0 t'.ws.length m)), (u, some (upO t'.up)), (n0, some (rowI 5 t'.ws Want.c)), (m, some (kdO t'.kind))], n0 + 1⟩ := by
  subst hw; subst hn; subst hes
  simp only [List.all_cons, List.all_nil, Bool.and_true, Bool.and_eq_true] at h0
  have hi0 : i < n0 := Nat.le_of_ble_eq_true h0.1
  have hu0 : u < n0 := Nat.le_of_ble_eq_true h0.2.1
  have hm0 : m < n0 := Nat.le_of_ble_eq_true h0.2.2
  have s0 : sg n0 [j] i = i := sg_lt hi0
  have s1 : sg n0 [j] u = u := sg_lt hu0
  have s3 : sg n0 [j] m = m := sg_lt hm0
  have b0 : Nat.blt n0 n0 = false := Bool.eq_false_iff.2 fun e => absurd (Nat.le_of_ble_eq_true e) (by omega)
  have sn : sg n0 [j] n0 = j := by simp [sg, b0]
  have c1 : Nat.blt u (n0 + 1) = true := Nat.ble_eq_true_of_le (by omega)
  have c3 : Nat.blt m (n0 + 1) = true := Nat.ble_eq_true_of_le (by omega)
  have cn : Nat.blt n0 (n0 + 1) = true := Nat.ble_eq_true_of_le (by omega)
  refine ⟨rfl, Nat.le_of_ble_eq_true hns, fun x hx => ?_, hf, ⟨⟨_, by rw [s0]; exact hi, ?_⟩, by show i < n0 + 1; omega, ?_, ⟨_, by rw [s1]; exact hu, .of_eq rfl⟩, by show u < n0 + 1; omega, trivial, ⟨_, by rw [sn]; exact hj, .of_eq (rowI_ren _).symm⟩, Nat.lt_succ_self _, rowI_low _, ⟨_, by rw [s3]; exact hm, .of_eq rfl⟩, by show m < n0 + 1; omega, trivial, trivial⟩, ?_⟩
  · simp only [List.mem_singleton] at hx; subst hx; exact Nat.le_of_ble_eq_true hlt
  · simp only [AO.ren, renL, PV.ren, s1, s3, sn]
    exact .of_eq rfl
  · simp [AO.low, belowL, PV.low, c1, c3, cn]
  · simp only [realKeys, s0, s1, s3, sn]
    exact nodupB_ok hnd
end
theorem TS.add_add (t : TS) (a b : List Want) : (t.add a).add b = t.add (a ++ b) := by simp [TS.add]
theorem TS.add_nil (t : TS) : t.add [] = t := by simp [TS.add]
def InsD (r : Rule) (n : Nat) : Prop := ∀ (t : TS) (e : Expr) (lit w : Int), e.size ≤ n → t.ws.length + Expr.sizes e.args ≤ 1000000000 → Det Tryz.prog 137 [.ptr 0 0, ag e.c, pI lit, pI w] (t.O r) (.tup []) ((t.add (insR r lit w e)).H r) 5
def NumD (r : Rule) (n : Nat) : Prop := ∀ (t : TS) (e : Expr) (lit w : Int), e.size ≤ n → t.ws.length + e.size ≤ 1000000000 → Det Tryz.prog 92 [.ptr 0 0, ag e.c, pI lit, pI w] (t.O r) (.tup []) ((t.add (numR r lit w e)).H r) 5
theorem d92 (r : Rule) (n : Nat) (ih : InsD r n) : NumD r n := by
  intro t e lit w hs hb
  have hsz := e.size_eq
  rw [numR_eq, ← TS.add_add]
  refine det_end tyA_ok Tryz.func92 rfl (by decide) Tryz.ntmps92 rfl (by simp) ?_
  refine gA rfl ?_
  refine And.intro (fun k1 => ?_) (fun k1 => ?_)
  · have k1 : e.kind = 1 := of_decide_eq_true k1
    have hl : leafWs r lit w e = [⟨lit, spotF r e.var w, 1, 0⟩] := if_pos k1
    rw [hl]
    refine gA rfl (go_dtr (d136 r t e.var w) rfl rfl rfl rfl rfl rfl rfl (by first | rfl | (rw [List.length_append]; rfl) | simp) (by first | rfl | (rw [List.map_append]; rfl) | (simp only [List.map_append, List.append_assoc]; rfl)) rfl rfl rfl rfl rfl rfl rfl rfl rfl rfl (by (repeat' (first | exact trivial | exact rfl | exact PVle.refl _ | exact PVle.bk (by assumption) | apply And.intro)) <;> first | omega | (simp only [Int.toNat_natCast]; omega) | (simp; done) | (simp; omega)) rfl (by (repeat' (first | exact trivial | exact rfl | exact PVle.refl _ | exact PVle.bk (by assumption) | apply And.intro)) <;> first | omega | (simp only [Int.toNat_natCast]; omega) | (simp; done) | (simp; omega)) ?_)
    refine gA rfl (go_t (ih (t.add [⟨lit, spotF r e.var w, 1, 0⟩]) e lit w hs (by show (t.ws ++ _).length + _ ≤ _; rw [List.length_append, List.length_singleton]; omega)) rfl rfl rfl rfl rfl rfl rfl (by first | rfl | (rw [List.length_append]; rfl) | simp) (by first | rfl | (rw [List.map_append]; rfl) | (simp only [List.map_append, List.append_assoc]; rfl)) rfl rfl rfl rfl rfl rfl ?_)
    refine gA rfl (end_t (by first | exact .inr rfl | exact .inl rfl) rfl rfl rfl rfl rfl (by first | rfl | (rw [List.length_append]; rfl) | simp) (by first | rfl | (rw [List.map_append]; rfl) | (simp only [List.map_append, List.append_assoc]; rfl)) rfl rfl rfl (.refl _) rfl rfl)
  have k1 : ¬ e.kind = 1 := of_decide_eq_false k1
  refine gA rfl ?_
  refine And.intro (fun k2 => ?_) (fun k2 => ?_)
  · have k2 : e.kind = 2 := of_decide_eq_true k2
    have hl : leafWs r lit w e = [⟨lit, Spot.z, 1, e.val.kind⟩] := by unfold leafWs; rw [if_neg k1, if_pos k2]
    rw [hl]
    refine gA rfl (go_t (ih (t.add [⟨lit, Spot.z, 1, e.val.kind⟩]) e lit w hs (by show (t.ws ++ _).length + _ ≤ _; rw [List.length_append, List.length_singleton]; omega)) rfl rfl rfl rfl rfl rfl rfl (by first | rfl | (rw [List.length_append]; rfl) | simp) (by first | rfl | (rw [List.map_append]; rfl) | (simp only [List.map_append, List.append_assoc]; rfl)) rfl rfl rfl rfl rfl rfl ?_)
    refine gA rfl (end_t (by first | exact .inr rfl | exact .inl rfl) rfl rfl rfl rfl rfl (by first | rfl | (rw [List.length_append]; rfl) | simp) (by first | rfl | (rw [List.map_append]; rfl) | (simp only [List.map_append, List.append_assoc]; rfl)) rfl rfl rfl (.refl _) rfl rfl)
  · have k2 : ¬ e.kind = 2 := of_decide_eq_false k2
    have hl : leafWs r lit w e = [] := by unfold leafWs; rw [if_neg k1, if_neg k2]
    rw [hl, TS.add_nil]
    refine gA rfl (go_t (ih t e lit w hs (by omega)) rfl rfl rfl rfl rfl rfl rfl (by first | rfl | (rw [List.length_append]; rfl) | simp) (by first | rfl | (rw [List.map_append]; rfl) | (simp only [List.map_append, List.append_assoc]; rfl)) rfl rfl rfl rfl rfl rfl ?_)
    refine gA rfl (end_t (by first | exact .inr rfl | exact .inl rfl) rfl rfl rfl rfl rfl (by first | rfl | (rw [List.length_append]; rfl) | simp) (by first | rfl | (rw [List.map_append]; rfl) | (simp only [List.map_append, List.append_assoc]; rfl)) rfl rfl rfl (.refl _) rfl rfl)
theorem numR_len (r : Rule) (lit w : Int) : ∀ e : Expr, (numR r lit w e).length ≤ e.size
  | .mk k v val op args => by
    rw [numR, Expr.size, List.length_append]
    have h1 : (leafWs r lit w (.mk k v val op args)).length ≤ 1 := by
      unfold leafWs
      repeat' split
      all_goals simp
    have h2 : (if k = 4 then numRs r lit w args else []).length ≤ Expr.sizes args := by
      split
      · exact numRs_len args
      · simp
    omega
where
  numRs_len : ∀ l : List Expr, (numRs r lit w l).length ≤ Expr.sizes l
  | [] => by simp [numRs]
  | e :: s => by
    have h1 := numR_len r lit w e
    have h2 := numRs_len s
    rw [numRs, Expr.sizes, List.length_append]; omega
theorem numF_len (r : Rule) (lit w : Int) (l : List Expr) (i : Nat) (h : i < l.length) : ((l.take i).flatMap (numR r lit w)).length + (l.getD i default).size ≤ Expr.sizes l := by
  have h1 : ∀ l : List Expr, (l.flatMap (numR r lit w)).length ≤ Expr.sizes l := by
    intro l
    induction l with
    | nil => simp
    | cons e s ih =>
      have := numR_len r lit w e
      rw [List.flatMap_cons, List.length_append, Expr.sizes]; omega
  have h2 := h1 (l.take i)
  have h3 : ∀ (l : List Expr) (i : Nat), i < l.length → Expr.sizes (l.take i) + (l.getD i default).size ≤ Expr.sizes l := by
    intro l
    induction l with
    | nil => intro i h; simp at h
    | cons e s ih =>
      intro i h
      cases i with
      | zero => simp [Expr.sizes]
      | succ i =>
        have := ih i (by simpa using h)
        simp only [List.take_succ_cons, List.getD_cons_succ, Expr.sizes]; omega
  have := h3 l i h
  omega
theorem d137 (r : Rule) (n : Nat) (ih : NumD r n) : InsD r (n + 1) := by
  intro t e lit w hs hb
  have hsz := e.size_eq
  refine Det.le (args := [.ptr 0 0, ag e.c1, pI lit, pI w]) ?_ ⟨.refl _, e.le1, .refl _, .refl _, trivial⟩
  have hal := Expr.length_sizes e.args
  refine det_end tyA_ok Tryz.func137 rfl (by decide) Tryz.ntmps137 rfl (by simp) ?_
  refine gA rfl ?_
  refine And.intro (fun k => ?_) (fun k => ?_)
  rotate_left
  · have k : ¬ e.kind = 4 := of_decide_eq_false k
    have hl : insR r lit w e = [] := if_neg k
    rw [hl, TS.add_nil]
    refine gA rfl (end_t (by first | exact .inr rfl | exact .inl rfl) rfl rfl rfl rfl rfl (by first | rfl | (rw [List.length_append]; rfl) | simp) (by first | rfl | (rw [List.map_append]; rfl) | (simp only [List.map_append, List.append_assoc]; rfl)) rfl rfl rfl (.refl _) rfl rfl)
  have k : e.kind = 4 := of_decide_eq_true k
  have hl : insR r lit w e = e.args.flatMap (numR r lit w) := if_pos k
  rw [hl]
  refine gA rfl ?_
  refine go_for 0 e.args.length (Nat.zero_le _) (fun i => ⟨[(0, .ptr 0 0), (2, pI lit), (3, pI w), (14, .iv (slc 7 e.args Expr.c)), (15, pI e.args.length), (16, pI i)],
    [(0, some (TS.cell r 1 5 (t.add ((e.args.take i).flatMap (numR r lit w))).ws.length 3)), (1, some (upO (t.add ((e.args.take i).flatMap (numR r lit w))).up)), (5, some (rowI 5 (t.add ((e.args.take i).flatMap (numR r lit w))).ws Want.c)), (3, some (kdO (t.add ((e.args.take i).flatMap (numR r lit w))).kind))], 6⟩) (fun _ => True) _ trivial
    (wkT (t := t) (TS.add_nil t).symm rfl rfl rfl rfl rfl rfl rfl rfl rfl rfl ⟨.refl _, rfl, .refl _, rfl, .refl _, rfl, .refl _, rfl, .refl _, rfl, .refl _, rfl, trivial⟩) fun i hi _ => ?_
  refine gA rfl ?_
  refine And.intro (fun h1 => ?_) (fun h1 => ?_)
  · have h1 : i < e.args.length := by simpa using h1
    have hs2 := flatMap_step (f := numR r lit w) h1
    have hn := numF_len r lit w e.args i h1
    have hg := Expr.sizes_get e.args i h1
    refine gA rfl (go_t (ih (t.add ((e.args.take i).flatMap (numR r lit w))) (e.args.getD i default) lit w (by omega) (by show (t.ws ++ _).length + _ ≤ _; rw [List.length_append]; omega)) rfl rfl rfl rfl rfl rfl rfl (by first | rfl | (rw [List.length_append]; rfl) | simp) (by first | rfl | (rw [List.map_append]; rfl) | (simp only [List.map_append, List.append_assoc]; rfl)) rfl rfl rfl rfl rfl rfl ?_)
    refine gA rfl ⟨h1, trivial, _, wkT ((by rw [TS.add_add, hs2])) rfl rfl rfl rfl (by first | rfl | (rw [List.length_append]; rfl) | simp) (by first | rfl | (rw [List.map_append]; rfl) | (simp only [List.map_append, List.append_assoc]; rfl)) rfl rfl rfl rfl ⟨.refl _, rfl, .refl _, rfl, .refl _, rfl, .refl _, rfl, .refl _, rfl, .refl _, rfl, trivial⟩⟩
  · have h1 : e.args.length ≤ i := by simpa using h1
    rw [List.take_of_length_le h1]
    refine gA rfl (end_t (by first | exact .inr rfl | exact .inl rfl) rfl rfl rfl rfl rfl (by first | rfl | (rw [List.length_append]; rfl) | simp) (by first | rfl | (rw [List.map_append]; rfl) | (simp only [List.map_append, List.append_assoc]; rfl)) rfl rfl rfl (.refl _) rfl rfl)
end Go.Proofs.YtpnclpbkecjinaaGreatDoorR
/-
  What atoms want; what an equality ties; literals.
-/
namespace Go.Proofs.YtpnclpbkecjinaaGreatDoorR
open Go Go.Al
set_option maxRecDepth 10000
theorem numD_insD (r : Rule) : ∀ n, NumD r n ∧ InsD r n
  | 0 => by
    have h0 : InsD r 0 := fun t e lit w hs => by have := e.size_pos; omega
    exact ⟨d92 r 0 h0, h0⟩
  | n + 1 => by
    have h1 := d137 r n (numD_insD r n).1
    exact ⟨d92 r (n + 1) h1, h1⟩
theorem d92' (r : Rule) (t : TS) (e : Expr) (lit w : Int) (hb : t.ws.length + e.size ≤ 1000000000) : Det Tryz.prog 92 [.ptr 0 0, ag e.c, pI lit, pI w] (t.O r) (.tup []) ((t.add (numR r lit w e)).H r) 5 := (numD_insD r e.size).1 t e lit w (Nat.le_refl _) hb
theorem d137' (r : Rule) (t : TS) (e : Expr) (lit w : Int) (hb : t.ws.length + e.size ≤ 1000000000) : Det Tryz.prog 137 [.ptr 0 0, ag e.c, pI lit, pI w] (t.O r) (.tup []) ((t.add (insR r lit w e)).H r) 5 := (numD_insD r e.size).2 t e lit w (Nat.le_refl _) (by have := e.size_eq; omega)
/-! Atoms. -/
def typeAt (p : Prog) (a : Atom) (i : Nat) : Int := (declOf p a.rel).types.getD i default
/-- Is the i-th place's type known. -/
def typedB (p : Prog) (a : Atom) (i : Nat) : Bool := decide (i < (declOf p a.rel).types.length) && (decide (typeAt p a i = 1) || decide (typeAt p a i = 2))
def termWs (p : Prog) (r : Rule) (a : Atom) (lit w : Int) (i : Nat) : List Want :=
  if typedB p a i = false then []
  else if (a.terms.getD i default).kind = 1 then [⟨lit, spotF r (a.terms.getD i default).var w, typeAt p a i, 0⟩]
  else if (a.terms.getD i default).kind = 2 then [⟨lit, Spot.z, typeAt p a i, (a.terms.getD i default).val.kind⟩] else []
def atomWs (p : Prog) (r : Rule) (a : Atom) (lit w : Int) : Nat → List Want
  | 0 => []
  | i + 1 => atomWs p r a lit w i ++ termWs p r a lit w i
theorem termWs_len (p : Prog) (r : Rule) (a : Atom) (lit w : Int) (i : Nat) : (termWs p r a lit w i).length ≤ 1 := by
  unfold termWs
  repeat' split
  all_goals simp
theorem atomWs_len (p : Prog) (r : Rule) (a : Atom) (lit w : Int) : ∀ i, (atomWs p r a lit w i).length ≤ i
  | 0 => Nat.le_refl _
  | i + 1 => by
    have h1 := atomWs_len p r a lit w i
    have h2 := termWs_len p r a lit w i
    rw [atomWs, List.length_append]; omega
set_option maxHeartbeats 1000000 in
theorem d90 (p : Prog) (r : Rule) (t : TS) (a : Atom) (lit w : Int) (hb : t.ws.length + a.terms.length ≤ 1000000000) : Det Tryz.prog 90 [.ptr 0 0, .iv (relsI p), ag a.c, pI lit, pI w] (t.O r) (.tup []) ((t.add (atomWs p r a lit w a.terms.length)).H r) 5 := by
  refine det_end tyA_ok Tryz.func90 rfl (by decide) Tryz.ntmps90 rfl (by simp) ?_
  refine gA rfl ?_
  refine go_for 0 a.terms.length (Nat.zero_le _) (fun i => ⟨[(0, .ptr 0 0), (3, pI lit), (4, pI w), (10, .iv (slc 1 (declOf p a.rel).types intC)), (19, .iv (slc 5 a.terms Term.c)), (20, pI a.terms.length), (21, pI i)],
    [(0, some (TS.cell r 1 5 (t.add (atomWs p r a lit w i)).ws.length 3)), (1, some (upO (t.add (atomWs p r a lit w i)).up)), (5, some (rowI 5 (t.add (atomWs p r a lit w i)).ws Want.c)), (3, some (kdO (t.add (atomWs p r a lit w i)).kind))], 6⟩) (fun _ => True) _ trivial
    (wkT (t := t) (TS.add_nil t).symm rfl rfl rfl rfl rfl rfl rfl rfl rfl rfl ⟨.refl _, rfl, .refl _, rfl, .refl _, rfl, .refl _, rfl, .refl _, rfl, .refl _, rfl, .refl _, rfl, trivial⟩) fun i hi _ => ?_
  refine gA rfl ?_
  refine And.intro (fun h1 => ?_) (fun h1 => ?_)
  rotate_left
  · have h1 : a.terms.length ≤ i := by simpa using h1
    have : i = a.terms.length := by omega
    subst this
    refine gA rfl (end_t (by first | exact .inr rfl | exact .inl rfl) rfl rfl rfl rfl rfl (by first | rfl | (rw [List.length_append]; rfl) | simp) (by first | rfl | (rw [List.map_append]; rfl) | (simp only [List.map_append, List.append_assoc]; rfl)) rfl rfl rfl (.refl _) rfl rfl)
  have h1 : i < a.terms.length := by simpa using h1
  have hl := atomWs_len p r a lit w i
  have hs : t.add (atomWs p r a lit w (i + 1)) = (t.add (atomWs p r a lit w i)).add (termWs p r a lit w i) := by rw [TS.add_add]; rfl
  have hwl : (t.add (atomWs p r a lit w i)).ws.length ≤ t.ws.length + i := by show (t.ws ++ _).length ≤ _; rw [List.length_append]; omega
  generalize t.add (atomWs p r a lit w i) = t1 at *
  refine gA rfl ?_
  refine And.intro (fun g1 => ?_) (fun g1 => ?_)
  rotate_left
  · have g1 : ¬ i < (declOf p a.rel).types.length := by have g := of_decide_eq_true (show decide ((i : Int) ≥ ((declOf p a.rel).types.length : Int)) = true from g1); omega
    have hf : typedB p a i = false := by rw [typedB, decide_eq_false g1]; rfl
    have hW : termWs p r a lit w i = [] := if_pos hf
    rw [hW, TS.add_nil] at hs
    refine gA rfl ⟨h1, trivial, _, wkT (hs.symm) rfl rfl rfl rfl (by first | rfl | (rw [List.length_append]; rfl) | simp) (by first | rfl | (rw [List.map_append]; rfl) | (simp only [List.map_append, List.append_assoc]; rfl)) rfl rfl rfl rfl ⟨.refl _, rfl, .refl _, rfl, .refl _, rfl, .refl _, rfl, .refl _, rfl, .refl _, rfl, .refl _, rfl, trivial⟩⟩
  have g1 : i < (declOf p a.rel).types.length := by have g := of_decide_eq_false (show decide ((i : Int) ≥ ((declOf p a.rel).types.length : Int)) = false from g1); omega
  refine gA rfl ?_
  refine And.intro (fun g2 => ?_) (fun g2 => ?_)
  · have g2 : ¬ typeAt p a i = 1 := by simpa [typeAt] using g2
    refine gA rfl ?_
    refine And.intro (fun g3 => ?_) (fun g3 => ?_)
    · have g3 : ¬ typeAt p a i = 2 := by simpa [typeAt] using g3
      have hf : typedB p a i = false := by rw [typedB, decide_eq_true g1, decide_eq_false g2, decide_eq_false g3]; rfl
      have hW : termWs p r a lit w i = [] := if_pos hf
      rw [hW, TS.add_nil] at hs
      refine gA rfl ⟨h1, trivial, _, wkT (hs.symm) rfl rfl rfl rfl (by first | rfl | (rw [List.length_append]; rfl) | simp) (by first | rfl | (rw [List.map_append]; rfl) | (simp only [List.map_append, List.append_assoc]; rfl)) rfl rfl rfl rfl ⟨.refl _, rfl, .refl _, rfl, .refl _, rfl, .refl _, rfl, .refl _, rfl, .refl _, rfl, .refl _, rfl, trivial⟩⟩
    · have g3 : typeAt p a i = 2 := by simpa [typeAt] using g3
      have ht : typedB p a i = true := by rw [typedB, decide_eq_true g1, decide_eq_true g3, Bool.or_true]; rfl
      have hW : termWs p r a lit w i = if (a.terms.getD i default).kind = 1 then [⟨lit, spotF r (a.terms.getD i default).var w, typeAt p a i, 0⟩]
        else if (a.terms.getD i default).kind = 2 then [⟨lit, Spot.z, typeAt p a i, (a.terms.getD i default).val.kind⟩] else [] := by unfold termWs; rw [ht]; exact if_neg (by decide)
      rw [hW] at hs
      refine gA rfl ?_
      refine And.intro (fun k1 => ?_) (fun k1 => ?_)
      · have k1 : (a.terms.getD i default).kind = 1 := of_decide_eq_true k1
        rw [if_pos k1] at hs
        refine gA rfl (go_dtr (d136 r t1 (a.terms.getD i default).var w) rfl rfl rfl rfl rfl rfl rfl (by first | rfl | (rw [List.length_append]; rfl) | simp) (by first | rfl | (rw [List.map_append]; rfl) | (simp only [List.map_append, List.append_assoc]; rfl)) rfl rfl rfl rfl rfl rfl rfl rfl rfl rfl (by (repeat' (first | exact trivial | exact rfl | exact PVle.refl _ | exact PVle.bk (by assumption) | apply And.intro)) <;> first | omega | (simp only [Int.toNat_natCast]; omega) | (simp; done) | (simp; omega)) rfl (by (repeat' (first | exact trivial | exact rfl | exact PVle.refl _ | exact PVle.bk (by assumption) | apply And.intro)) <;> first | omega | (simp only [Int.toNat_natCast]; omega) | (simp; done) | (simp; omega)) ?_)
        refine gA rfl ⟨h1, trivial, _, wkT (hs.symm) rfl rfl rfl rfl (by first | rfl | (rw [List.length_append]; rfl) | simp) (by first | rfl | (rw [List.map_append]; rfl) | (simp only [List.map_append, List.append_assoc]; rfl)) rfl rfl rfl rfl ⟨.refl _, rfl, .refl _, rfl, .refl _, rfl, .refl _, rfl, .refl _, rfl, .refl _, rfl, .refl _, rfl, trivial⟩⟩
      have k1 : ¬ (a.terms.getD i default).kind = 1 := of_decide_eq_false k1
      rw [if_neg k1] at hs
      refine gA rfl ?_
      refine And.intro (fun k2 => ?_) (fun k2 => ?_)
      · have k2 : (a.terms.getD i default).kind = 2 := of_decide_eq_true k2
        rw [if_pos k2] at hs
        refine gA rfl ⟨h1, trivial, _, wkT (hs.symm) rfl rfl rfl rfl (by first | rfl | (rw [List.length_append]; rfl) | simp) (by first | rfl | (rw [List.map_append]; rfl) | (simp only [List.map_append, List.append_assoc]; rfl)) rfl rfl rfl rfl ⟨.refl _, rfl, .refl _, rfl, .refl _, rfl, .refl _, rfl, .refl _, rfl, .refl _, rfl, .refl _, rfl, trivial⟩⟩
      · have k2 : ¬ (a.terms.getD i default).kind = 2 := of_decide_eq_false k2
        rw [if_neg k2, TS.add_nil] at hs
        refine gA rfl ⟨h1, trivial, _, wkT (hs.symm) rfl rfl rfl rfl (by first | rfl | (rw [List.length_append]; rfl) | simp) (by first | rfl | (rw [List.map_append]; rfl) | (simp only [List.map_append, List.append_assoc]; rfl)) rfl rfl rfl rfl ⟨.refl _, rfl, .refl _, rfl, .refl _, rfl, .refl _, rfl, .refl _, rfl, .refl _, rfl, .refl _, rfl, trivial⟩⟩
  · have g2 : typeAt p a i = 1 := by simpa [typeAt] using g2
    have ht : typedB p a i = true := by rw [typedB, decide_eq_true g1, decide_eq_true g2]; rfl
    have hW : termWs p r a lit w i = if (a.terms.getD i default).kind = 1 then [⟨lit, spotF r (a.terms.getD i default).var w, typeAt p a i, 0⟩]
      else if (a.terms.getD i default).kind = 2 then [⟨lit, Spot.z, typeAt p a i, (a.terms.getD i default).val.kind⟩] else [] := by unfold termWs; rw [ht]; exact if_neg (by decide)
    rw [hW] at hs
    refine gA rfl ?_
    refine And.intro (fun k1 => ?_) (fun k1 => ?_)
    · have k1 : (a.terms.getD i default).kind = 1 := of_decide_eq_true k1
      rw [if_pos k1] at hs
      refine gA rfl (go_dtr (d136 r t1 (a.terms.getD i default).var w) rfl rfl rfl rfl rfl rfl rfl (by first | rfl | (rw [List.length_append]; rfl) | simp) (by first | rfl | (rw [List.map_append]; rfl) | (simp only [List.map_append, List.append_assoc]; rfl)) rfl rfl rfl rfl rfl rfl rfl rfl rfl rfl (by (repeat' (first | exact trivial | exact rfl | exact PVle.refl _ | exact PVle.bk (by assumption) | apply And.intro)) <;> first | omega | (simp only [Int.toNat_natCast]; omega) | (simp; done) | (simp; omega)) rfl (by (repeat' (first | exact trivial | exact rfl | exact PVle.refl _ | exact PVle.bk (by assumption) | apply And.intro)) <;> first | omega | (simp only [Int.toNat_natCast]; omega) | (simp; done) | (simp; omega)) ?_)
      refine gA rfl ⟨h1, trivial, _, wkT (hs.symm) rfl rfl rfl rfl (by first | rfl | (rw [List.length_append]; rfl) | simp) (by first | rfl | (rw [List.map_append]; rfl) | (simp only [List.map_append, List.append_assoc]; rfl)) rfl rfl rfl rfl ⟨.refl _, rfl, .refl _, rfl, .refl _, rfl, .refl _, rfl, .refl _, rfl, .refl _, rfl, .refl _, rfl, trivial⟩⟩
    have k1 : ¬ (a.terms.getD i default).kind = 1 := of_decide_eq_false k1
    rw [if_neg k1] at hs
    refine gA rfl ?_
    refine And.intro (fun k2 => ?_) (fun k2 => ?_)
    · have k2 : (a.terms.getD i default).kind = 2 := of_decide_eq_true k2
      rw [if_pos k2] at hs
      refine gA rfl ⟨h1, trivial, _, wkT (hs.symm) rfl rfl rfl rfl (by first | rfl | (rw [List.length_append]; rfl) | simp) (by first | rfl | (rw [List.map_append]; rfl) | (simp only [List.map_append, List.append_assoc]; rfl)) rfl rfl rfl rfl ⟨.refl _, rfl, .refl _, rfl, .refl _, rfl, .refl _, rfl, .refl _, rfl, .refl _, rfl, .refl _, rfl, trivial⟩⟩
    · have k2 : ¬ (a.terms.getD i default).kind = 2 := of_decide_eq_false k2
      rw [if_neg k2, TS.add_nil] at hs
      refine gA rfl ⟨h1, trivial, _, wkT (hs.symm) rfl rfl rfl rfl (by first | rfl | (rw [List.length_append]; rfl) | simp) (by first | rfl | (rw [List.map_append]; rfl) | (simp only [List.map_append, List.append_assoc]; rfl)) rfl rfl rfl rfl ⟨.refl _, rfl, .refl _, rfl, .refl _, rfl, .refl _, rfl, .refl _, rfl, .refl _, rfl, .refl _, rfl, trivial⟩⟩
/-! What is alike. -/
def tieT (t : TS) (u v : Spot) : TS := if u = v then t else ⟨putK (.si .i64) t.up u v, t.ws, t.kind⟩
def hasY (y : Expr) : Int := if y.kind = 2 then y.val.kind else 1
def alikeX (r : Rule) (lit w : Int) (t : TS) (x y : Expr) : TS :=
  if y.kind = 1 then tieT t (rootL t.up (spotF r x.var w)) (rootL t.up (spotF r y.var w))
  else t.add (if x.kind = 1 then [⟨lit, spotF r x.var w, hasY y, 0⟩] else if x.kind = 2 then [⟨lit, Spot.z, hasY y, x.val.kind⟩] else [⟨lit, Spot.z, hasY y, 1⟩])
def alikeT (r : Rule) (lit w : Int) (t : TS) (a b : Expr) : TS :=
  if b.kind = 1 then alikeX r lit w ((t.add (insR r lit w a)).add (insR r lit w b)) b a else alikeX r lit w ((t.add (insR r lit w a)).add (insR r lit w b)) a b
theorem spot_ne {u v : Spot} (h : (!(decide (u.1 = v.1) && (decide (u.2 = v.2) && true))) = true) : u ≠ v := by
  rintro rfl
  simp at h
theorem spot_eq {u v : Spot} (h : (!(decide (u.1 = v.1) && (decide (u.2 = v.2) && true))) = false) : u = v := by
  simp at h
  exact Prod.ext h.1 h.2
theorem insR_len (r : Rule) (lit w : Int) (e : Expr) : (insR r lit w e).length ≤ e.size := by
  have h1 := numR_len r lit w e
  rw [numR_eq, List.length_append] at h1; omega
set_option maxHeartbeats 1000000 in
theorem d93 (r : Rule) (t : TS) (a b : Expr) (lit w : Int) (ok : upOK t.up) (hb : t.ws.length + a.size + b.size ≤ 1000000000) : Det Tryz.prog 93 [.ptr 0 0, ag a.c, ag b.c, pI lit, pI w] (t.O r) (.tup []) ((alikeT r lit w t a b).H r) 5 := by
  have h1 := insR_len r lit w a
  have h2 := insR_len r lit w b
  have hA : alikeT r lit w t a b = if b.kind = 1 then alikeX r lit w ((t.add (insR r lit w a)).add (insR r lit w b)) b a else alikeX r lit w ((t.add (insR r lit w a)).add (insR r lit w b)) a b := rfl
  rw [hA]
  have ok1 : upOK ((t.add (insR r lit w a)).add (insR r lit w b)).up := ok
  refine det_end tyA_ok Tryz.func93 rfl (by decide) Tryz.ntmps93 rfl (by simp) ?_
  refine gA rfl (go_t (d137' r t a lit w (by omega)) rfl rfl rfl rfl rfl rfl rfl (by first | rfl | (rw [List.length_append]; rfl) | simp) (by first | rfl | (rw [List.map_append]; rfl) | (simp only [List.map_append, List.append_assoc]; rfl)) rfl rfl rfl rfl rfl rfl ?_)
  refine gA rfl (go_t (d137' r (t.add (insR r lit w a)) b lit w (by show (t.ws ++ _).length + _ ≤ _; rw [List.length_append]; omega)) rfl rfl rfl rfl rfl rfl rfl (by first | rfl | (rw [List.length_append]; rfl) | simp) (by first | rfl | (rw [List.map_append]; rfl) | (simp only [List.map_append, List.append_assoc]; rfl)) rfl rfl rfl rfl rfl rfl ?_)
  have hl : ((t.add (insR r lit w a)).add (insR r lit w b)).ws.length ≤ t.ws.length + a.size + b.size := by
    show ((t.ws ++ _) ++ _).length ≤ _
    rw [List.length_append, List.length_append]; omega
  generalize (t.add (insR r lit w a)).add (insR r lit w b) = t1 at *
  refine gA rfl ?_
  refine And.intro (fun k1 => ?_) (fun k1 => ?_)
  · have k1 : b.kind = 1 := of_decide_eq_true k1
    rw [if_pos k1]
    refine gA rfl ?_
    refine And.intro (fun k2 => ?_) (fun k2 => ?_)
    · have k2 : a.kind = 2 := of_decide_eq_true k2
      have hy : ¬ a.kind = 1 := by omega
      have hh : hasY a = a.val.kind := if_pos k2
      have hX : alikeX r lit w t1 b a = t1.add [⟨lit, spotF r b.var w, hasY a, 0⟩] := by unfold alikeX; rw [if_neg hy, if_pos k1]
      rw [hX, hh]
      refine gA rfl ?_
      refine And.intro (fun k3 => ?_) (fun k3 => ?_)
      · exact absurd (of_decide_eq_true k3) hy
      refine gA rfl ?_
      refine And.intro (fun k4 => ?_) (fun k4 => ?_)
      rotate_left
      · exact absurd k1 (of_decide_eq_false k4)
      refine gA rfl (go_dtr (d136 r t1 b.var w) rfl rfl rfl rfl rfl rfl rfl (by first | rfl | (rw [List.length_append]; rfl) | simp) (by first | rfl | (rw [List.map_append]; rfl) | (simp only [List.map_append, List.append_assoc]; rfl)) rfl rfl rfl rfl rfl rfl rfl rfl rfl rfl (by (repeat' (first | exact trivial | exact rfl | exact PVle.refl _ | exact PVle.bk (by assumption) | apply And.intro)) <;> first | omega | (simp only [Int.toNat_natCast]; omega) | (simp; done) | (simp; omega)) rfl (by (repeat' (first | exact trivial | exact rfl | exact PVle.refl _ | exact PVle.bk (by assumption) | apply And.intro)) <;> first | omega | (simp only [Int.toNat_natCast]; omega) | (simp; done) | (simp; omega)) ?_)
      refine gA rfl (end_t (by first | exact .inr rfl | exact .inl rfl) rfl rfl rfl rfl rfl (by first | rfl | (rw [List.length_append]; rfl) | simp) (by first | rfl | (rw [List.map_append]; rfl) | (simp only [List.map_append, List.append_assoc]; rfl)) rfl rfl rfl (.refl _) rfl rfl)
    · have k2 : ¬ a.kind = 2 := of_decide_eq_false k2
      refine gA rfl ?_
      refine And.intro (fun k3 => ?_) (fun k3 => ?_)
      · have k3 : a.kind = 1 := of_decide_eq_true k3
        have hX : alikeX r lit w t1 b a = tieT t1 (rootL t1.up (spotF r b.var w)) (rootL t1.up (spotF r a.var w)) := if_pos k3
        rw [hX]
        refine gA rfl (go_dtr (d136 r t1 b.var w) rfl rfl rfl rfl rfl rfl rfl (by first | rfl | (rw [List.length_append]; rfl) | simp) (by first | rfl | (rw [List.map_append]; rfl) | (simp only [List.map_append, List.append_assoc]; rfl)) rfl rfl rfl rfl rfl rfl rfl rfl rfl rfl (by (repeat' (first | exact trivial | exact rfl | exact PVle.refl _ | exact PVle.bk (by assumption) | apply And.intro)) <;> first | omega | (simp only [Int.toNat_natCast]; omega) | (simp; done) | (simp; omega)) rfl (by (repeat' (first | exact trivial | exact rfl | exact PVle.refl _ | exact PVle.bk (by assumption) | apply And.intro)) <;> first | omega | (simp only [Int.toNat_natCast]; omega) | (simp; done) | (simp; omega)) ?_)
        refine gA rfl (go_dtr (d52 r t1 (spotF r b.var w) ok1) rfl rfl rfl rfl rfl rfl rfl (by first | rfl | (rw [List.length_append]; rfl) | simp) (by first | rfl | (rw [List.map_append]; rfl) | (simp only [List.map_append, List.append_assoc]; rfl)) rfl rfl rfl rfl rfl rfl rfl rfl rfl rfl (by (repeat' (first | exact trivial | exact rfl | exact PVle.refl _ | exact PVle.bk (by assumption) | apply And.intro)) <;> first | omega | (simp only [Int.toNat_natCast]; omega) | (simp; done) | (simp; omega)) rfl (by (repeat' (first | exact trivial | exact rfl | exact PVle.refl _ | exact PVle.bk (by assumption) | apply And.intro)) <;> first | omega | (simp only [Int.toNat_natCast]; omega) | (simp; done) | (simp; omega)) ?_)
        refine gA rfl (go_dtr (d136 r t1 a.var w) rfl rfl rfl rfl rfl rfl rfl (by first | rfl | (rw [List.length_append]; rfl) | simp) (by first | rfl | (rw [List.map_append]; rfl) | (simp only [List.map_append, List.append_assoc]; rfl)) rfl rfl rfl rfl rfl rfl rfl rfl rfl rfl (by (repeat' (first | exact trivial | exact rfl | exact PVle.refl _ | exact PVle.bk (by assumption) | apply And.intro)) <;> first | omega | (simp only [Int.toNat_natCast]; omega) | (simp; done) | (simp; omega)) rfl (by (repeat' (first | exact trivial | exact rfl | exact PVle.refl _ | exact PVle.bk (by assumption) | apply And.intro)) <;> first | omega | (simp only [Int.toNat_natCast]; omega) | (simp; done) | (simp; omega)) ?_)
        refine gA rfl (go_dtr (d52 r t1 (spotF r a.var w) ok1) rfl rfl rfl rfl rfl rfl rfl (by first | rfl | (rw [List.length_append]; rfl) | simp) (by first | rfl | (rw [List.map_append]; rfl) | (simp only [List.map_append, List.append_assoc]; rfl)) rfl rfl rfl rfl rfl rfl rfl rfl rfl rfl (by (repeat' (first | exact trivial | exact rfl | exact PVle.refl _ | exact PVle.bk (by assumption) | apply And.intro)) <;> first | omega | (simp only [Int.toNat_natCast]; omega) | (simp; done) | (simp; omega)) rfl (by (repeat' (first | exact trivial | exact rfl | exact PVle.refl _ | exact PVle.bk (by assumption) | apply And.intro)) <;> first | omega | (simp only [Int.toNat_natCast]; omega) | (simp; done) | (simp; omega)) ?_)
        refine gA rfl ?_
        refine And.intro (fun k4 => ?_) (fun k4 => ?_)
        · have e : tieT t1 (rootL t1.up (spotF r b.var w)) (rootL t1.up (spotF r a.var w)) = ⟨putK (.si .i64) t1.up (rootL t1.up (spotF r b.var w)) (rootL t1.up (spotF r a.var w)), t1.ws, t1.kind⟩ := if_neg (spot_ne k4)
          rw [e]
          refine goR rfl (by repeat' (first | exact trivial | exact rfl | exact agI (Spot.c (rootL t1.up (spotF r a.var w))) | exact PVle.refl _ | apply And.intro)) (end_t (by first | exact .inr rfl | exact .inl rfl) rfl rfl rfl rfl rfl rfl rfl rfl rfl rfl (.refl _) rfl rfl)
        · have e : tieT t1 (rootL t1.up (spotF r b.var w)) (rootL t1.up (spotF r a.var w)) = t1 := if_pos (spot_eq k4)
          rw [e]
          refine gA rfl (end_t (by first | exact .inr rfl | exact .inl rfl) rfl rfl rfl rfl rfl (by first | rfl | (rw [List.length_append]; rfl) | simp) (by first | rfl | (rw [List.map_append]; rfl) | (simp only [List.map_append, List.append_assoc]; rfl)) rfl rfl rfl (.refl _) rfl rfl)
      · have hy : ¬ a.kind = 1 := of_decide_eq_false k3
        have hh : hasY a = 1 := if_neg k2
        have hX : alikeX r lit w t1 b a = t1.add [⟨lit, spotF r b.var w, hasY a, 0⟩] := by unfold alikeX; rw [if_neg hy, if_pos k1]
        rw [hX, hh]
        refine gA rfl ?_
        refine And.intro (fun k4 => ?_) (fun k4 => ?_)
        rotate_left
        · exact absurd k1 (of_decide_eq_false k4)
        refine gA rfl (go_dtr (d136 r t1 b.var w) rfl rfl rfl rfl rfl rfl rfl (by first | rfl | (rw [List.length_append]; rfl) | simp) (by first | rfl | (rw [List.map_append]; rfl) | (simp only [List.map_append, List.append_assoc]; rfl)) rfl rfl rfl rfl rfl rfl rfl rfl rfl rfl (by (repeat' (first | exact trivial | exact rfl | exact PVle.refl _ | exact PVle.bk (by assumption) | apply And.intro)) <;> first | omega | (simp only [Int.toNat_natCast]; omega) | (simp; done) | (simp; omega)) rfl (by (repeat' (first | exact trivial | exact rfl | exact PVle.refl _ | exact PVle.bk (by assumption) | apply And.intro)) <;> first | omega | (simp only [Int.toNat_natCast]; omega) | (simp; done) | (simp; omega)) ?_)
        refine gA rfl (end_t (by first | exact .inr rfl | exact .inl rfl) rfl rfl rfl rfl rfl (by first | rfl | (rw [List.length_append]; rfl) | simp) (by first | rfl | (rw [List.map_append]; rfl) | (simp only [List.map_append, List.append_assoc]; rfl)) rfl rfl rfl (.refl _) rfl rfl)
  have k1 : ¬ b.kind = 1 := of_decide_eq_false k1
  rw [if_neg k1]
  have hX : alikeX r lit w t1 a b = t1.add (if a.kind = 1 then [⟨lit, spotF r a.var w, hasY b, 0⟩] else if a.kind = 2 then [⟨lit, Spot.z, hasY b, a.val.kind⟩] else [⟨lit, Spot.z, hasY b, 1⟩]) := if_neg k1
  rw [hX]
  refine gA rfl ?_
  refine And.intro (fun k2 => ?_) (fun k2 => ?_)
  · have k2 : b.kind = 2 := of_decide_eq_true k2
    have hh : hasY b = b.val.kind := if_pos k2
    rw [hh]
    refine gA rfl ?_
    refine And.intro (fun k3 => ?_) (fun k3 => ?_)
    · exact absurd (of_decide_eq_true k3) k1
    refine gA rfl ?_
    refine And.intro (fun k4 => ?_) (fun k4 => ?_)
    · rw [if_pos (of_decide_eq_true k4)]
      refine gA rfl (go_dtr (d136 r t1 a.var w) rfl rfl rfl rfl rfl rfl rfl (by first | rfl | (rw [List.length_append]; rfl) | simp) (by first | rfl | (rw [List.map_append]; rfl) | (simp only [List.map_append, List.append_assoc]; rfl)) rfl rfl rfl rfl rfl rfl rfl rfl rfl rfl (by (repeat' (first | exact trivial | exact rfl | exact PVle.refl _ | exact PVle.bk (by assumption) | apply And.intro)) <;> first | omega | (simp only [Int.toNat_natCast]; omega) | (simp; done) | (simp; omega)) rfl (by (repeat' (first | exact trivial | exact rfl | exact PVle.refl _ | exact PVle.bk (by assumption) | apply And.intro)) <;> first | omega | (simp only [Int.toNat_natCast]; omega) | (simp; done) | (simp; omega)) ?_)
      refine gA rfl (end_t (by first | exact .inr rfl | exact .inl rfl) rfl rfl rfl rfl rfl (by first | rfl | (rw [List.length_append]; rfl) | simp) (by first | rfl | (rw [List.map_append]; rfl) | (simp only [List.map_append, List.append_assoc]; rfl)) rfl rfl rfl (.refl _) rfl rfl)
    rw [if_neg (of_decide_eq_false k4)]
    refine gA rfl ?_
    refine And.intro (fun k5 => ?_) (fun k5 => ?_)
    · rw [if_pos (of_decide_eq_true k5)]
      refine gA rfl (end_t (by first | exact .inr rfl | exact .inl rfl) rfl rfl rfl rfl rfl (by first | rfl | (rw [List.length_append]; rfl) | simp) (by first | rfl | (rw [List.map_append]; rfl) | (simp only [List.map_append, List.append_assoc]; rfl)) rfl rfl rfl (.refl _) rfl rfl)
    · rw [if_neg (of_decide_eq_false k5)]
      refine gA rfl (end_t (by first | exact .inr rfl | exact .inl rfl) rfl rfl rfl rfl rfl (by first | rfl | (rw [List.length_append]; rfl) | simp) (by first | rfl | (rw [List.map_append]; rfl) | (simp only [List.map_append, List.append_assoc]; rfl)) rfl rfl rfl (.refl _) rfl rfl)
  · have k2 : ¬ b.kind = 2 := of_decide_eq_false k2
    have hh : hasY b = 1 := if_neg k2
    rw [hh]
    refine gA rfl ?_
    refine And.intro (fun k3 => ?_) (fun k3 => ?_)
    · exact absurd (of_decide_eq_true k3) k1
    refine gA rfl ?_
    refine And.intro (fun k4 => ?_) (fun k4 => ?_)
    · rw [if_pos (of_decide_eq_true k4)]
      refine gA rfl (go_dtr (d136 r t1 a.var w) rfl rfl rfl rfl rfl rfl rfl (by first | rfl | (rw [List.length_append]; rfl) | simp) (by first | rfl | (rw [List.map_append]; rfl) | (simp only [List.map_append, List.append_assoc]; rfl)) rfl rfl rfl rfl rfl rfl rfl rfl rfl rfl (by (repeat' (first | exact trivial | exact rfl | exact PVle.refl _ | exact PVle.bk (by assumption) | apply And.intro)) <;> first | omega | (simp only [Int.toNat_natCast]; omega) | (simp; done) | (simp; omega)) rfl (by (repeat' (first | exact trivial | exact rfl | exact PVle.refl _ | exact PVle.bk (by assumption) | apply And.intro)) <;> first | omega | (simp only [Int.toNat_natCast]; omega) | (simp; done) | (simp; omega)) ?_)
      refine gA rfl (end_t (by first | exact .inr rfl | exact .inl rfl) rfl rfl rfl rfl rfl (by first | rfl | (rw [List.length_append]; rfl) | simp) (by first | rfl | (rw [List.map_append]; rfl) | (simp only [List.map_append, List.append_assoc]; rfl)) rfl rfl rfl (.refl _) rfl rfl)
    rw [if_neg (of_decide_eq_false k4)]
    refine gA rfl ?_
    refine And.intro (fun k5 => ?_) (fun k5 => ?_)
    · rw [if_pos (of_decide_eq_true k5)]
      refine gA rfl (end_t (by first | exact .inr rfl | exact .inl rfl) rfl rfl rfl rfl rfl (by first | rfl | (rw [List.length_append]; rfl) | simp) (by first | rfl | (rw [List.map_append]; rfl) | (simp only [List.map_append, List.append_assoc]; rfl)) rfl rfl rfl (.refl _) rfl rfl)
    · rw [if_neg (of_decide_eq_false k5)]
      refine gA rfl (end_t (by first | exact .inr rfl | exact .inl rfl) rfl rfl rfl rfl rfl (by first | rfl | (rw [List.length_append]; rfl) | simp) (by first | rfl | (rw [List.map_append]; rfl) | (simp only [List.map_append, List.append_assoc]; rfl)) rfl rfl rfl (.refl _) rfl rfl)
end Go.Proofs.YtpnclpbkecjinaaGreatDoorR
/-
  What literals want; the types of a rule's variables.
-/
namespace Go.Proofs.YtpnclpbkecjinaaGreatDoorR
open Go Go.Al
set_option maxRecDepth 10000
def litT (p : Prog) (r : Rule) (lit w : Int) (t : TS) (l : Lit) : TS :=
  if l.kind = 1 ∨ l.kind = 2 then t.add (atomWs p r l.atom lit w l.atom.terms.length)
  else if l.kind = 3 then (if l.op = 1 ∨ l.op = 2 then alikeT r lit w t l.left l.right else (t.add (numR r lit w l.left)).add (numR r lit w l.right)) else t
theorem d91 (p : Prog) (r : Rule) (t : TS) (l : Lit) (lit w : Int) (ok : upOK t.up) (hb : t.ws.length + l.size ≤ 1000000000) : Det Tryz.prog 91 [.ptr 0 0, .iv (relsI p), ag l.c, pI lit, pI w] (t.O r) (.tup []) ((litT p r lit w t l).H r) 5 := by
  have hsz := l.size_eq
  have hx := numR_len r lit w l.left
  refine det_end tyA_ok Tryz.func91 rfl (by decide) Tryz.ntmps91 rfl (by simp) ?_
  refine gA rfl ?_
  refine And.intro (fun k1 => ?_) (fun k1 => ?_)
  rotate_left
  · have k1 : l.kind = 1 := by simpa using k1
    have hL : litT p r lit w t l = t.add (atomWs p r l.atom lit w l.atom.terms.length) := if_pos (.inl k1)
    rw [hL]
    refine gA rfl (go_t (d90 p r t l.atom lit w (by omega)) rfl rfl rfl rfl rfl rfl rfl (by first | rfl | (rw [List.length_append]; rfl) | simp) (by first | rfl | (rw [List.map_append]; rfl) | (simp only [List.map_append, List.append_assoc]; rfl)) rfl rfl rfl rfl rfl rfl ?_)
    refine gA rfl (end_t (by first | exact .inr rfl | exact .inl rfl) rfl rfl rfl rfl rfl (by first | rfl | (rw [List.length_append]; rfl) | simp) (by first | rfl | (rw [List.map_append]; rfl) | (simp only [List.map_append, List.append_assoc]; rfl)) rfl rfl rfl (.refl _) rfl rfl)
  have k1 : ¬ l.kind = 1 := of_decide_eq_false k1
  refine gA rfl ?_
  refine And.intro (fun k2 => ?_) (fun k2 => ?_)
  · have k2 : l.kind = 2 := of_decide_eq_true k2
    have hL : litT p r lit w t l = t.add (atomWs p r l.atom lit w l.atom.terms.length) := if_pos (.inr k2)
    rw [hL]
    refine gA rfl (go_t (d90 p r t l.atom lit w (by omega)) rfl rfl rfl rfl rfl rfl rfl (by first | rfl | (rw [List.length_append]; rfl) | simp) (by first | rfl | (rw [List.map_append]; rfl) | (simp only [List.map_append, List.append_assoc]; rfl)) rfl rfl rfl rfl rfl rfl ?_)
    refine gA rfl (end_t (by first | exact .inr rfl | exact .inl rfl) rfl rfl rfl rfl rfl (by first | rfl | (rw [List.length_append]; rfl) | simp) (by first | rfl | (rw [List.map_append]; rfl) | (simp only [List.map_append, List.append_assoc]; rfl)) rfl rfl rfl (.refl _) rfl rfl)
  have k2 : ¬ l.kind = 2 := of_decide_eq_false k2
  have hL : litT p r lit w t l = if l.kind = 3 then (if l.op = 1 ∨ l.op = 2 then alikeT r lit w t l.left l.right else (t.add (numR r lit w l.left)).add (numR r lit w l.right)) else t := if_neg (by rintro (h | h); exact k1 h; exact k2 h)
  refine gA rfl ?_
  refine And.intro (fun k3 => ?_) (fun k3 => ?_)
  · have k3 : ¬ l.kind = 3 := by simpa using k3
    rw [if_neg k3] at hL
    rw [hL]
    refine gA rfl (end_t (by first | exact .inr rfl | exact .inl rfl) rfl rfl rfl rfl rfl (by first | rfl | (rw [List.length_append]; rfl) | simp) (by first | rfl | (rw [List.map_append]; rfl) | (simp only [List.map_append, List.append_assoc]; rfl)) rfl rfl rfl (.refl _) rfl rfl)
  have k3 : l.kind = 3 := by simpa using k3
  rw [if_pos k3] at hL
  refine gA rfl ?_
  refine And.intro (fun k4 => ?_) (fun k4 => ?_)
  rotate_left
  · have k4 : l.op = 1 := by simpa using k4
    rw [if_pos (.inl k4)] at hL
    rw [hL]
    refine gA rfl (go_t (d93 r t l.left l.right lit w ok (by omega)) rfl rfl rfl rfl rfl rfl rfl (by first | rfl | (rw [List.length_append]; rfl) | simp) (by first | rfl | (rw [List.map_append]; rfl) | (simp only [List.map_append, List.append_assoc]; rfl)) rfl rfl rfl rfl rfl rfl ?_)
    refine gA rfl (end_t (by first | exact .inr rfl | exact .inl rfl) rfl rfl rfl rfl rfl (by first | rfl | (rw [List.length_append]; rfl) | simp) (by first | rfl | (rw [List.map_append]; rfl) | (simp only [List.map_append, List.append_assoc]; rfl)) rfl rfl rfl (.refl _) rfl rfl)
  have k4 : ¬ l.op = 1 := of_decide_eq_false k4
  refine gA rfl ?_
  refine And.intro (fun k5 => ?_) (fun k5 => ?_)
  · have k5 : l.op = 2 := of_decide_eq_true k5
    rw [if_pos (.inr k5)] at hL
    rw [hL]
    refine gA rfl (go_t (d93 r t l.left l.right lit w ok (by omega)) rfl rfl rfl rfl rfl rfl rfl (by first | rfl | (rw [List.length_append]; rfl) | simp) (by first | rfl | (rw [List.map_append]; rfl) | (simp only [List.map_append, List.append_assoc]; rfl)) rfl rfl rfl rfl rfl rfl ?_)
    refine gA rfl (end_t (by first | exact .inr rfl | exact .inl rfl) rfl rfl rfl rfl rfl (by first | rfl | (rw [List.length_append]; rfl) | simp) (by first | rfl | (rw [List.map_append]; rfl) | (simp only [List.map_append, List.append_assoc]; rfl)) rfl rfl rfl (.refl _) rfl rfl)
  · have k5 : ¬ l.op = 2 := of_decide_eq_false k5
    rw [if_neg (by rintro (h | h); exact k4 h; exact k5 h)] at hL
    rw [hL]
    refine gA rfl (go_t (d92' r t l.left lit w (by omega)) rfl rfl rfl rfl rfl rfl rfl (by first | rfl | (rw [List.length_append]; rfl) | simp) (by first | rfl | (rw [List.map_append]; rfl) | (simp only [List.map_append, List.append_assoc]; rfl)) rfl rfl rfl rfl rfl rfl ?_)
    refine gA rfl (go_t (d92' r (t.add (numR r lit w l.left)) l.right lit w (by show (t.ws ++ _).length + _ ≤ _; rw [List.length_append]; omega)) rfl rfl rfl rfl rfl rfl rfl (by first | rfl | (rw [List.length_append]; rfl) | simp) (by first | rfl | (rw [List.map_append]; rfl) | (simp only [List.map_append, List.append_assoc]; rfl)) rfl rfl rfl rfl rfl rfl ?_)
    refine gA rfl (end_t (by first | exact .inr rfl | exact .inl rfl) rfl rfl rfl rfl rfl (by first | rfl | (rw [List.length_append]; rfl) | simp) (by first | rfl | (rw [List.map_append]; rfl) | (simp only [List.map_append, List.append_assoc]; rfl)) rfl rfl rfl (.refl _) rfl rfl)
/-! Ties are kept in order. -/
theorem root_nokey : ∀ (n : Nat) (m : UM) (v : Spot), upOK m → upM m v ≤ n → hasK (.si .i64) m (rootL m v) = false
  | n, m, v, ok, hn => by
    cases h : hasK (.si .i64) m v with
    | false => rw [root_no m v h]; exact h
    | true =>
      obtain ⟨h1, h2⟩ := root_yes m v ok h
      cases n with
      | zero => omega
      | succ n => rw [← h1]; exact root_nokey n m _ ok (by omega)
theorem putK_new : ∀ (m : UM) (u v : Spot), hasK (.si .i64) m u = false → putK (.si .i64) m u v = m ++ [(u, v)]
  | [], _, _, _ => rfl
  | (x, y) :: r, u, v, h => by
    unfold hasK at h
    split at h
    · cases h
    · rename_i hx
      show (if x = u then _ else (x, y) :: putK (.si .i64) r u v) = _
      rw [if_neg hx, putK_new r u v h]; rfl
theorem hasK_all {m : UM} {u : Spot} (h : hasK (.si .i64) m u = false) : ∀ q ∈ m, q.1 ≠ u := by
  induction m with
  | nil => intro q hq; cases hq
  | cons a r ih =>
    obtain ⟨x, y⟩ := a
    unfold hasK at h
    split at h
    · cases h
    · rename_i hx
      intro q hq
      rcases List.mem_cons.1 hq with rfl | hq
      · exact hx
      · exact ih h q hq
theorem upOK_snoc : ∀ {m : UM} {u v : Spot}, upOK m → (∀ q ∈ m, q.1 ≠ u) → (∀ q ∈ m, q.1 ≠ v) → u ≠ v → upOK (m ++ [(u, v)])
  | [], u, v, _, _, _, hne => ⟨hne, fun q hq => (nomatch hq), fun q hq => (nomatch hq), trivial⟩
  | (x, y) :: r, u, v, ⟨o1, o2, o3, o4⟩, hu, hv, hne => by
    refine ⟨o1, fun q hq => ?_, fun q hq => ?_, upOK_snoc o4 (fun q hq => hu q (List.mem_cons_of_mem _ hq)) (fun q hq => hv q (List.mem_cons_of_mem _ hq)) hne⟩
    · rcases List.mem_append.1 hq with hq | hq
      · exact o2 q hq
      · simp only [List.mem_singleton] at hq; subst hq
        exact fun e => hu _ List.mem_cons_self e.symm
    · rcases List.mem_append.1 hq with hq | hq
      · exact o3 q hq
      · simp only [List.mem_singleton] at hq; subst hq
        exact fun e => hv _ List.mem_cons_self e.symm
theorem tie_ok {t : TS} (ok : upOK t.up) (a b : Spot) : upOK (tieT t (rootL t.up a) (rootL t.up b)).up := by
  unfold tieT
  split
  · exact ok
  · rename_i hne
    have h1 := root_nokey _ t.up a ok (Nat.le_refl _)
    have h2 := root_nokey _ t.up b ok (Nat.le_refl _)
    show upOK (putK _ _ _ _)
    rw [putK_new _ _ _ h1]
    exact upOK_snoc ok (hasK_all h1) (hasK_all h2) hne
theorem alikeX_ok (r : Rule) (lit w : Int) {t : TS} (ok : upOK t.up) (x y : Expr) : upOK (alikeX r lit w t x y).up := by
  unfold alikeX
  split
  · exact tie_ok ok _ _
  · exact ok
theorem alike_ok (r : Rule) (lit w : Int) {t : TS} (ok : upOK t.up) (a b : Expr) : upOK (alikeT r lit w t a b).up := by
  unfold alikeT
  split
  · exact alikeX_ok r lit w (t := (t.add (insR r lit w a)).add (insR r lit w b)) ok _ _
  · exact alikeX_ok r lit w (t := (t.add (insR r lit w a)).add (insR r lit w b)) ok _ _
theorem lit_ok (p : Prog) (r : Rule) (lit w : Int) {t : TS} (ok : upOK t.up) (l : Lit) : upOK (litT p r lit w t l).up := by
  unfold litT
  repeat' split
  · exact ok
  · exact alike_ok r lit w ok _ _
  · exact ok
  · exact ok
theorem tie_ws (t : TS) (u v : Spot) : (tieT t u v).ws = t.ws := by unfold tieT; split <;> rfl
theorem alikeX_len (r : Rule) (lit w : Int) (t : TS) (x y : Expr) : (alikeX r lit w t x y).ws.length ≤ t.ws.length + 1 := by
  unfold alikeX
  repeat' split
  · rw [tie_ws]; omega
  all_goals (show (t.ws ++ _).length ≤ _; rw [List.length_append, List.length_singleton]; omega)
theorem alike_len (r : Rule) (lit w : Int) (t : TS) (a b : Expr) : (alikeT r lit w t a b).ws.length ≤ t.ws.length + a.size + b.size + 1 := by
  have h1 := insR_len r lit w a
  have h2 := insR_len r lit w b
  have h3 : ((t.add (insR r lit w a)).add (insR r lit w b)).ws.length ≤ t.ws.length + a.size + b.size := by
    show ((t.ws ++ _) ++ _).length ≤ _
    rw [List.length_append, List.length_append]; omega
  unfold alikeT
  split
  · exact Nat.le_trans (alikeX_len _ _ _ _ _ _) (by omega)
  · exact Nat.le_trans (alikeX_len _ _ _ _ _ _) (by omega)
theorem lit_len (p : Prog) (r : Rule) (lit w : Int) (t : TS) (l : Lit) : (litT p r lit w t l).ws.length ≤ t.ws.length + l.size := by
  have hsz := l.size_eq
  have h1 := atomWs_len p r l.atom lit w l.atom.terms.length
  have h2 := alike_len r lit w t l.left l.right
  have h3 := numR_len r lit w l.left
  have h4 := numR_len r lit w l.right
  unfold litT
  repeat' split
  · show (t.ws ++ _).length ≤ _
    rw [List.length_append]; omega
  · omega
  · show ((t.ws ++ _) ++ _).length ≤ _
    rw [List.length_append, List.length_append]; omega
  · omega
end Go.Proofs.YtpnclpbkecjinaaGreatDoorR
/-
  The types of a rule's variables: all literals, then the kinds.
-/
namespace Go.Proofs.YtpnclpbkecjinaaGreatDoorR
open Go Go.Al
set_option maxRecDepth 10000
/-- At the head of a piece of code: knowing less. -/
theorem go_wk {P : Program} {nt : Nat} {Q : AQ} {k : List KI} {s t : AS} {c : Code} (L : List Nat) (h0 : Wk s.nx L s t) (h : GO P nt (.code c :: k) Q t) : GO P nt (.code c :: k) Q s := by
  intro M N a w hf
  exact AW.then h (h0.fits hf) fun e a' w' M' N' s' hx hf' hr => ⟨M', N', s', (h0.ext (.refl _ _ _ _ _)).trans hx, hf', hr⟩
theorem map0_up : AOle .map0 (upO []) := ⟨id, fun M N U w j hj => ⟨#[], 0, hj, ⟨rfl, by simp, by simp, by simp, by simp⟩, .agg _ _ rfl fun j p hj => by
  match j, hj with
  | 0, hj => cases hj; exact .v _
  | 1, hj => cases hj; exact .v _
  | j + 2, hj => simp [Spot.c] at hj⟩⟩
theorem map0_kd : AOle .map0 (kdO []) := ⟨id, fun M N U w j hj => ⟨#[], 0, hj, ⟨rfl, by simp, by simp, by simp, by simp⟩, evI_zero M⟩⟩
def varE (s : Str) : Expr := .mk 1 s ⟨0, 0, ByteArray.empty⟩ 0 []
abbrev vArg (s : Str) : PV := .agg [pI 1, pS s, pI 0, pI 0, pS ByteArray.empty, pI 0, .iv (.v (.slice none 0 0))]
theorem vArg_le (s : Str) : PVle (vArg s) (ag (varE s).c) := .agg ⟨.refl _, .refl _, .refl _, .refl _, .refl _, .refl _, .nil _ _, trivial⟩
theorem varE_size (s : Str) : (varE s).size = 1 := rfl
def varT (r : Rule) (i : Int) (t : TS) (f : Int) (v : Str) (o : Expr) : TS :=
  if f = 2 then (t.add (numR r i i o)).add (numR r i i (varE v)) else if f = 1 then t.add (numR r i i (varE v)) else alikeT r i i t (varE v) o
def inT (p : Prog) (r : Rule) (i : Int) (t : TS) (ls : List Lit) : Nat → TS
  | 0 => t
  | k + 1 => litT p r i i (inT p r i t ls k) (ls.getD k default)
def stepT (p : Prog) (r : Rule) (i : Int) (t : TS) (l : Lit) : TS :=
  if l.kind = 4 then inT p r i (varT r i t l.afunc l.avar l.aof) l.abody l.abody.length else litT p r i (-1) t l
def TS.o : TS := ⟨[], [], []⟩
def bodyT (p : Prog) (r : Rule) : Nat → TS
  | 0 => TS.o.add (atomWs p r r.head (-1) (-1) r.head.terms.length)
  | k + 1 => stepT p r k (bodyT p r k) (r.body.getD k default)
def kindStep (up : UM) (m : KM) (w : Want) : KM := if w.has = 0 ∧ lkD (.si .i64) m (rootL up w.at_) 0 = 0 then putK (.si .i64) m (rootL up w.at_) w.kind else m
def typesT (p : Prog) (r : Rule) : TS := ⟨(bodyT p r r.body.length).up, (bodyT p r r.body.length).ws, (bodyT p r r.body.length).ws.foldl (kindStep (bodyT p r r.body.length).up) []⟩
theorem var_ok (r : Rule) (i : Int) {t : TS} (ok : upOK t.up) (f : Int) (v : Str) (o : Expr) : upOK (varT r i t f v o).up := by
  unfold varT
  repeat' split
  · exact ok
  · exact ok
  · exact alike_ok r i i ok _ _
theorem in_ok (p : Prog) (r : Rule) (i : Int) {t : TS} (ok : upOK t.up) (ls : List Lit) : ∀ k, upOK (inT p r i t ls k).up
  | 0 => ok
  | k + 1 => lit_ok p r i i (in_ok p r i ok ls k) _
theorem step_ok (p : Prog) (r : Rule) (i : Int) {t : TS} (ok : upOK t.up) (l : Lit) : upOK (stepT p r i t l).up := by
  unfold stepT
  split
  · exact in_ok p r i (var_ok r i ok _ _ _) _ _
  · exact lit_ok p r i (-1) ok l
theorem body_ok (p : Prog) (r : Rule) : ∀ k, upOK (bodyT p r k).up
  | 0 => trivial
  | k + 1 => step_ok p r k (body_ok p r k) _
theorem alike_kind (r : Rule) (lit w : Int) (t : TS) (a b : Expr) : (alikeT r lit w t a b).kind = t.kind := by
  have h1 : ∀ (t : TS) u v, (tieT t u v).kind = t.kind := fun t u v => by unfold tieT; split <;> rfl
  have h2 : ∀ (t : TS) x y, (alikeX r lit w t x y).kind = t.kind := fun t x y => by
    unfold alikeX
    split
    · exact h1 _ _ _
    · rfl
  unfold alikeT
  split <;> exact h2 _ _ _
theorem lit_kind (p : Prog) (r : Rule) (lit w : Int) (t : TS) (l : Lit) : (litT p r lit w t l).kind = t.kind := by
  unfold litT
  repeat' split
  · rfl
  · exact alike_kind r lit w t _ _
  · rfl
  · rfl
theorem in_kind (p : Prog) (r : Rule) (i : Int) (t : TS) (ls : List Lit) : ∀ k, (inT p r i t ls k).kind = t.kind
  | 0 => rfl
  | k + 1 => by rw [inT, lit_kind, in_kind p r i t ls k]
theorem step_kind (p : Prog) (r : Rule) (i : Int) (t : TS) (l : Lit) : (stepT p r i t l).kind = t.kind := by
  unfold stepT
  split
  · rw [in_kind]
    unfold varT
    repeat' split
    · rfl
    · rfl
    · exact alike_kind r i i t _ _
  · exact lit_kind p r i (-1) t l
theorem body_kind (p : Prog) (r : Rule) : ∀ k, (bodyT p r k).kind = []
  | 0 => rfl
  | k + 1 => by rw [bodyT, step_kind, body_kind p r k]
theorem var_len (r : Rule) (i : Int) (t : TS) (f : Int) (v : Str) (o : Expr) : (varT r i t f v o).ws.length ≤ t.ws.length + o.size + 2 := by
  have h1 := numR_len r i i o
  have h2 := numR_len r i i (varE v)
  have h3 := alike_len r i i t (varE v) o
  rw [varE_size] at h2 h3
  unfold varT
  repeat' split
  · show ((t.ws ++ _) ++ _).length ≤ _
    rw [List.length_append, List.length_append]; omega
  · show (t.ws ++ _).length ≤ _
    rw [List.length_append]; omega
  · omega
theorem sizesT_take : ∀ (l : List Lit) (i : Nat), i < l.length → Lit.sizes (l.take i) + (l.getD i default).size ≤ Lit.sizes l
  | [], i, h => by simp at h
  | s :: r, 0, _ => by simp [Lit.sizes]
  | s :: r, i + 1, h => by
    have := sizesT_take r i (by simpa using h)
    simp only [List.take_succ_cons, List.getD_cons_succ, Lit.sizes]; omega
theorem Lit.sizes_snoc (l : List Lit) (i : Nat) (h : i < l.length) : Lit.sizes (l.take (i + 1)) = Lit.sizes (l.take i) + (l.getD i default).size := by
  rw [take_step h]
  have : ∀ (a : List Lit) (b : Lit), Lit.sizes (a ++ [b]) = Lit.sizes a + b.size := by
    intro a b
    induction a with
    | nil => simp [Lit.sizes]
    | cons x r ih => simp only [List.cons_append, Lit.sizes, ih]; omega
  exact this _ _
theorem in_len (p : Prog) (r : Rule) (i : Int) (t : TS) (ls : List Lit) : ∀ k, k ≤ ls.length → (inT p r i t ls k).ws.length ≤ t.ws.length + Lit.sizes (ls.take k)
  | 0, _ => by simp [inT, Lit.sizes]
  | k + 1, h => by
    have h1 := in_len p r i t ls k (by omega)
    have h2 := lit_len p r i i (inT p r i t ls k) (ls.getD k default)
    rw [inT, Lit.sizes_snoc ls k (by omega)]; omega
theorem step_len (p : Prog) (r : Rule) (i : Int) (t : TS) (l : Lit) : (stepT p r i t l).ws.length ≤ t.ws.length + l.size := by
  have hsz := l.size_eq
  unfold stepT
  split
  · have h1 := in_len p r i (varT r i t l.afunc l.avar l.aof) l.abody l.abody.length (Nat.le_refl _)
    have h2 := var_len r i t l.afunc l.avar l.aof
    rw [List.take_length] at h1; omega
  · exact lit_len p r i (-1) t l
theorem body_len (p : Prog) (r : Rule) : ∀ k, k ≤ r.body.length → (bodyT p r k).ws.length ≤ r.head.terms.length + Lit.sizes (r.body.take k)
  | 0, _ => by
    have := atomWs_len p r r.head (-1) (-1) r.head.terms.length
    show ([] ++ _).length ≤ _
    simp only [List.nil_append]; omega
  | k + 1, h => by
    have h1 := body_len p r k (by omega)
    have h2 := step_len p r k (bodyT p r k) (r.body.getD k default)
    rw [bodyT, Lit.sizes_snoc r.body k (by omega)]; omega
/-- The root, the wants being data. -/
theorem d52f (r : Rule) (up : UM) (kd : KM) (W : IV) (v0 : Spot) (ok : upOK up) : Det Tryz.prog 52 [.ptr 0 0, ag v0.c] [.cells [.iv (bookI r), .mp 1, .iv W, .mp 2], upO up, kdO kd] (ag (rootL up v0).c) [(0, some (.cells [.iv (bookI r), .mp 1, .iv W, .mp 2])), (1, some (upO up)), (2, some (kdO kd))] 3 := by
  refine det_end tyA_ok Tryz.func52 rfl (by decide) Tryz.ntmps52 rfl (by simp) ?_
  refine gA rfl ?_
  refine go_lp (σ := { v : Spot // rootL up v = rootL up v0 }) (fun v => ⟨[(0, .ptr 0 0), (3, .ptr 3 0), (4, .ptr 4 0)],
    [(0, some (.cells [.iv (bookI r), .mp 1, .iv W, .mp 2])), (1, some (upO up)), (2, some (kdO kd)), (3, some (.cells [pS v.1.1, pI v.1.2])), (4, some (.cells [pS ⟨#[]⟩, pI 0]))], 5⟩) (fun v => upM up v.1) ⟨v0, rfl⟩ []
    (wk rfl rfl rfl ⟨.refl _, rfl, .refl _, rfl, .refl _, rfl, trivial⟩ ⟨⟨_, rfl, .of_eq rfl⟩, Nat.le_of_ble_eq_true rfl, rfl, hM rfl rfl rfl (hM rfl rfl rfl ⟨⟨_, rfl, .of_eq rfl⟩, Nat.le_of_ble_eq_true rfl, rfl, ⟨_, rfl, .of_eq rfl⟩, Nat.le_of_ble_eq_true rfl, rfl, trivial⟩)⟩ rfl) fun v => ?_
  obtain ⟨v, hv⟩ := v
  refine gA rfl ?_
  refine And.intro (fun g => ?_) (fun g => ?_)
  · have h : hasK (.si .i64) up v = false := by simpa using g
    have e : rootL up v0 = v := by rw [← hv]; exact root_no up v h
    refine gA rfl (end_det [] (by first | exact .inr rfl | exact .inl rfl) rfl (wk rfl rfl rfl ⟨.of_eq (congrArg (fun x : Spot => ag x.c) e.symm), rfl, trivial⟩ ⟨⟨_, rfl, .of_eq rfl⟩, Nat.le_of_ble_eq_true rfl, rfl, hM rfl rfl rfl (hM rfl rfl rfl trivial)⟩ rfl))
  · have h : hasK (.si .i64) up v = true := by simpa using g
    obtain ⟨h1, h2⟩ := root_yes up v ok h
    refine gA rfl ?_
    exact ⟨⟨lkD (.si .i64) up v Spot.z, h1.trans hv⟩, [], h2, wk rfl rfl rfl ⟨.refl _, rfl, .refl _, rfl, .refl _, rfl, trivial⟩ ⟨⟨_, rfl, .of_eq rfl⟩, Nat.le_of_ble_eq_true rfl, rfl, hM rfl rfl rfl (hM rfl rfl rfl ⟨⟨_, rfl, .of_eq rfl⟩, Nat.le_of_ble_eq_true rfl, rfl, ⟨_, rfl, .of_eq rfl⟩, Nat.le_of_ble_eq_true rfl, rfl, trivial⟩)⟩ rfl⟩
set_option maxHeartbeats 2000000 in
theorem c49 (p : Prog) (r : Rule) (hb : r.size ≤ 100000000) : Pure Tryz.prog 49 [.iv (relsI p), .iv (bookI r)] (.iv (tyI r (typesT p r))) := by
  unfold Rule.size at hb
  have hal := Lit.length_sizes r.body
  have hbs : r.body.length ≤ Lit.sizes r.body := hal
  refine pure_end tyA_ok Tryz.func49 rfl (by decide) Tryz.ntmps49 rfl (by simp) rfl ?_
  refine gM 14 rfl (go_virtC 2 2 5 rfl rfl ?_)
  refine go_wk [] (t := ⟨[(0, .iv (relsI p)), (1, .iv (bookI r)), (5, .ptr 2 0)], [(2, some (TS.cell r 0 3 TS.o.ws.length 1)), (0, some (upO TS.o.up)), (3, some (rowI 5 TS.o.ws Want.c)), (1, some (kdO TS.o.kind))], 4⟩)
    (wk rfl rfl rfl ⟨.refl _, rfl, .refl _, rfl, .refl _, rfl, trivial⟩ ⟨⟨_, rfl, .of_eq rfl⟩, Nat.le_of_ble_eq_true rfl, rfl, ⟨_, rfl, map0_up⟩, Nat.le_of_ble_eq_true rfl, trivial, ⟨_, rfl, .of_eq rfl⟩, Nat.le_of_ble_eq_true rfl, rowI_low _, ⟨_, rfl, map0_kd⟩, Nat.le_of_ble_eq_true rfl, trivial, trivial⟩ rfl) ?_
  refine gA rfl (go_t (d90 p r TS.o r.head (-1) (-1) (by show 0 + _ ≤ _; omega)) rfl rfl rfl rfl rfl rfl rfl (by first | rfl | (rw [List.length_append]; rfl) | simp) (by first | rfl | (rw [List.map_append]; rfl) | (simp only [List.map_append, List.append_assoc]; rfl)) rfl rfl rfl rfl rfl rfl ?_)
  refine gA rfl ?_
  refine go_for 0 r.body.length (Nat.zero_le _) (fun i => ⟨[(0, .iv (relsI p)), (1, .iv (bookI r)), (5, .ptr 2 0), (31, .iv (lits r.body)), (32, pI r.body.length), (33, pI i)],
    [(2, some (TS.cell r 0 5 (bodyT p r i).ws.length 1)), (0, some (upO (bodyT p r i).up)), (5, some (rowI 5 (bodyT p r i).ws Want.c)), (1, some (kdO (bodyT p r i).kind))], 6⟩) (fun _ => True) _ trivial
    (wkT (t := bodyT p r 0) rfl rfl rfl rfl rfl rfl rfl rfl rfl rfl rfl ⟨.refl _, rfl, .refl _, rfl, .refl _, rfl, .refl _, rfl, .refl _, rfl, .refl _, rfl, trivial⟩) fun i hi _ => ?_
  have hln := body_len p r i hi
  have hok := body_ok p r i
  refine gA rfl ?_
  refine And.intro (fun h1 => ?_) (fun h1 => ?_)
  · have h1 : i < r.body.length := by simpa using h1
    have hst := sizesT_take r.body i h1
    have hs : bodyT p r (i + 1) = stepT p r i (bodyT p r i) (r.body.getD i default) := rfl
    generalize bodyT p r i = t1 at *
    have hsz := (r.body.getD i default).size_eq
    refine gA rfl ?_
    refine And.intro (fun k4 => ?_) (fun k4 => ?_)
    · have k4 : ¬ (r.body.getD i default).kind = 4 := by have g : (!decide ((r.body.getD i default).kind = 4)) = true := k4; simpa only [Bool.not_eq_true', decide_eq_false_iff_not] using g
      have hS : stepT p r i t1 (r.body.getD i default) = litT p r i (-1) t1 (r.body.getD i default) := if_neg k4
      rw [hS] at hs
      refine gA rfl (go_t (d91 p r t1 (r.body.getD i default) i (-1) hok (by omega)) rfl rfl rfl rfl rfl rfl rfl (by first | rfl | (rw [List.length_append]; rfl) | simp) (by first | rfl | (rw [List.map_append]; rfl) | (simp only [List.map_append, List.append_assoc]; rfl)) rfl rfl rfl rfl rfl rfl ?_)
      refine gA rfl ⟨h1, trivial, _, wkT (hs.symm) rfl rfl rfl rfl (by first | rfl | (rw [List.length_append]; rfl) | simp) (by first | rfl | (rw [List.map_append]; rfl) | (simp only [List.map_append, List.append_assoc]; rfl)) rfl rfl rfl rfl ⟨.refl _, rfl, .refl _, rfl, .refl _, rfl, .refl _, rfl, .refl _, rfl, .refl _, rfl, trivial⟩⟩
    have k4 : (r.body.getD i default).kind = 4 := by have g : (!decide ((r.body.getD i default).kind = 4)) = false := k4; simpa only [Bool.not_eq_false', decide_eq_true_eq] using g
    have hS : stepT p r i t1 (r.body.getD i default) = inT p r i (varT r i t1 (r.body.getD i default).afunc (r.body.getD i default).avar (r.body.getD i default).aof) (r.body.getD i default).abody (r.body.getD i default).abody.length := if_pos k4
    rw [hS] at hs
    have hV : varT r i t1 (r.body.getD i default).afunc (r.body.getD i default).avar (r.body.getD i default).aof = if (r.body.getD i default).afunc = 2 then (t1.add (numR r i i (r.body.getD i default).aof)).add (numR r i i (varE (r.body.getD i default).avar)) else if (r.body.getD i default).afunc = 1 then t1.add (numR r i i (varE (r.body.getD i default).avar)) else alikeT r i i t1 (varE (r.body.getD i default).avar) (r.body.getD i default).aof := rfl
    have hVo := var_ok r i hok (r.body.getD i default).afunc (r.body.getD i default).avar (r.body.getD i default).aof
    have hVl := var_len r i t1 (r.body.getD i default).afunc (r.body.getD i default).avar (r.body.getD i default).aof
    have habl := Lit.length_sizes (r.body.getD i default).abody
    have hvs := varE_size (r.body.getD i default).avar
    have hol := numR_len r i i (r.body.getD i default).aof
    generalize varT r i t1 (r.body.getD i default).afunc (r.body.getD i default).avar (r.body.getD i default).aof = V at *
    refine gA rfl ?_
    refine And.intro (fun f2 => ?_) (fun f2 => ?_)
    · have f2 : (r.body.getD i default).afunc = 2 := of_decide_eq_true f2
      have hv : V = (t1.add (numR r i i (r.body.getD i default).aof)).add (numR r i i (varE (r.body.getD i default).avar)) := by rw [hV, if_pos f2]
      refine gA rfl (go_t (d92' r t1 (r.body.getD i default).aof i i (by omega)) rfl rfl rfl rfl rfl rfl rfl (by first | rfl | (rw [List.length_append]; rfl) | simp) (by first | rfl | (rw [List.map_append]; rfl) | (simp only [List.map_append, List.append_assoc]; rfl)) rfl rfl rfl rfl rfl rfl ?_)
      refine gA rfl (go_t (Det.le (aa := [.ptr 0 0, vArg (r.body.getD i default).avar, pI i, pI i]) (d92' r (t1.add (numR r i i (r.body.getD i default).aof)) (varE (r.body.getD i default).avar) i i (by show (t1.ws ++ _).length + _ ≤ _; rw [List.length_append, varE_size]; omega)) ⟨.refl _, vArg_le _, .refl _, .refl _, trivial⟩) rfl rfl rfl rfl rfl rfl rfl (by first | rfl | (rw [List.length_append]; rfl) | simp) (by first | rfl | (rw [List.map_append]; rfl) | (simp only [List.map_append, List.append_assoc]; rfl)) rfl rfl rfl rfl rfl rfl ?_)
      refine gA rfl ?_
      refine go_for 0 (r.body.getD i default).abody.length (Nat.zero_le _) (fun k => ⟨[(0, .iv (relsI p)), (1, .iv (bookI r)), (5, .ptr 2 0), (6, pI i), (31, .iv (lits r.body)), (32, pI r.body.length), (33, pI i), (79, .iv (lits (r.body.getD i default).abody)), (80, pI (r.body.getD i default).abody.length), (81, pI k)], [(2, some (TS.cell r 0 10 (inT p r i V (r.body.getD i default).abody k).ws.length 1)), (0, some (upO (inT p r i V (r.body.getD i default).abody k).up)), (10, some (rowI 5 (inT p r i V (r.body.getD i default).abody k).ws Want.c)), (1, some (kdO (inT p r i V (r.body.getD i default).abody k).kind))], 11⟩) (fun _ => True) _ trivial
        (wkT hv.symm rfl rfl rfl rfl rfl rfl rfl rfl rfl rfl ⟨.refl _, rfl, .refl _, rfl, .refl _, rfl, .refl _, rfl, .refl _, rfl, .refl _, rfl, .refl _, rfl, .iv (litsIL _), rfl, .refl _, rfl, .refl _, rfl, trivial⟩) fun k hk _ => ?_
      have hil := in_len p r i V (r.body.getD i default).abody k hk
      have hio := in_ok p r i hVo (r.body.getD i default).abody k
      have his : inT p r i V (r.body.getD i default).abody (k + 1) = litT p r i i (inT p r i V (r.body.getD i default).abody k) ((r.body.getD i default).abody.getD k default) := rfl
      refine gA rfl ?_
      refine And.intro (fun h2 => ?_) (fun h2 => ?_)
      · have h2 : k < (r.body.getD i default).abody.length := Int.ofNat_lt.1 (of_decide_eq_true h2)
        have hkt := sizesT_take (r.body.getD i default).abody k h2
        refine gA rfl (go_t (d91 p r (inT p r i V (r.body.getD i default).abody k) ((r.body.getD i default).abody.getD k default) i i hio (by omega)) rfl rfl rfl rfl rfl rfl rfl (by first | rfl | (rw [List.length_append]; rfl) | simp) (by first | rfl | (rw [List.map_append]; rfl) | (simp only [List.map_append, List.append_assoc]; rfl)) rfl rfl rfl rfl rfl rfl ?_)
        refine gA rfl ⟨h2, trivial, _, wkT (rfl) rfl rfl rfl rfl (by first | rfl | (rw [List.length_append]; rfl) | simp) (by first | rfl | (rw [List.map_append]; rfl) | (simp only [List.map_append, List.append_assoc]; rfl)) rfl rfl rfl rfl ⟨.refl _, rfl, .refl _, rfl, .refl _, rfl, .refl _, rfl, .refl _, rfl, .refl _, rfl, .refl _, rfl, .refl _, rfl, .refl _, rfl, .refl _, rfl, trivial⟩⟩
      · have h2 : (r.body.getD i default).abody.length ≤ k := Nat.le_of_not_lt fun hh => absurd (Int.ofNat_lt.2 hh) (of_decide_eq_false h2)
        have hke : k = (r.body.getD i default).abody.length := by omega
        subst hke
        refine gA rfl ⟨h1, trivial, _, wkT (hs.symm) rfl rfl rfl rfl (by first | rfl | (rw [List.length_append]; rfl) | simp) (by first | rfl | (rw [List.map_append]; rfl) | (simp only [List.map_append, List.append_assoc]; rfl)) rfl rfl rfl rfl ⟨.refl _, rfl, .refl _, rfl, .refl _, rfl, .refl _, rfl, .refl _, rfl, .refl _, rfl, trivial⟩⟩
    have f2 : ¬ (r.body.getD i default).afunc = 2 := of_decide_eq_false f2
    rw [if_neg f2] at hV
    refine gA rfl ?_
    refine And.intro (fun f1 => ?_) (fun f1 => ?_)
    · have f1 : (r.body.getD i default).afunc = 1 := of_decide_eq_true f1
      have hv : V = t1.add (numR r i i (varE (r.body.getD i default).avar)) := by rw [hV, if_pos f1]
      refine gA rfl (go_t (Det.le (aa := [.ptr 0 0, vArg (r.body.getD i default).avar, pI i, pI i]) (d92' r t1 (varE (r.body.getD i default).avar) i i (by rw [varE_size]; omega)) ⟨.refl _, vArg_le _, .refl _, .refl _, trivial⟩) rfl rfl rfl rfl rfl rfl rfl (by first | rfl | (rw [List.length_append]; rfl) | simp) (by first | rfl | (rw [List.map_append]; rfl) | (simp only [List.map_append, List.append_assoc]; rfl)) rfl rfl rfl rfl rfl rfl ?_)
      refine gA rfl ?_
      refine go_for 0 (r.body.getD i default).abody.length (Nat.zero_le _) (fun k => ⟨[(0, .iv (relsI p)), (1, .iv (bookI r)), (5, .ptr 2 0), (6, pI i), (31, .iv (lits r.body)), (32, pI r.body.length), (33, pI i), (79, .iv (lits (r.body.getD i default).abody)), (80, pI (r.body.getD i default).abody.length), (81, pI k)], [(2, some (TS.cell r 0 9 (inT p r i V (r.body.getD i default).abody k).ws.length 1)), (0, some (upO (inT p r i V (r.body.getD i default).abody k).up)), (9, some (rowI 5 (inT p r i V (r.body.getD i default).abody k).ws Want.c)), (1, some (kdO (inT p r i V (r.body.getD i default).abody k).kind))], 10⟩) (fun _ => True) _ trivial
        (wkT hv.symm rfl rfl rfl rfl rfl rfl rfl rfl rfl rfl ⟨.refl _, rfl, .refl _, rfl, .refl _, rfl, .refl _, rfl, .refl _, rfl, .refl _, rfl, .refl _, rfl, .iv (litsIL _), rfl, .refl _, rfl, .refl _, rfl, trivial⟩) fun k hk _ => ?_
      have hil := in_len p r i V (r.body.getD i default).abody k hk
      have hio := in_ok p r i hVo (r.body.getD i default).abody k
      have his : inT p r i V (r.body.getD i default).abody (k + 1) = litT p r i i (inT p r i V (r.body.getD i default).abody k) ((r.body.getD i default).abody.getD k default) := rfl
      refine gA rfl ?_
      refine And.intro (fun h2 => ?_) (fun h2 => ?_)
      · have h2 : k < (r.body.getD i default).abody.length := Int.ofNat_lt.1 (of_decide_eq_true h2)
        have hkt := sizesT_take (r.body.getD i default).abody k h2
        refine gA rfl (go_t (d91 p r (inT p r i V (r.body.getD i default).abody k) ((r.body.getD i default).abody.getD k default) i i hio (by omega)) rfl rfl rfl rfl rfl rfl rfl (by first | rfl | (rw [List.length_append]; rfl) | simp) (by first | rfl | (rw [List.map_append]; rfl) | (simp only [List.map_append, List.append_assoc]; rfl)) rfl rfl rfl rfl rfl rfl ?_)
        refine gA rfl ⟨h2, trivial, _, wkT (rfl) rfl rfl rfl rfl (by first | rfl | (rw [List.length_append]; rfl) | simp) (by first | rfl | (rw [List.map_append]; rfl) | (simp only [List.map_append, List.append_assoc]; rfl)) rfl rfl rfl rfl ⟨.refl _, rfl, .refl _, rfl, .refl _, rfl, .refl _, rfl, .refl _, rfl, .refl _, rfl, .refl _, rfl, .refl _, rfl, .refl _, rfl, .refl _, rfl, trivial⟩⟩
      · have h2 : (r.body.getD i default).abody.length ≤ k := Nat.le_of_not_lt fun hh => absurd (Int.ofNat_lt.2 hh) (of_decide_eq_false h2)
        have hke : k = (r.body.getD i default).abody.length := by omega
        subst hke
        refine gA rfl ⟨h1, trivial, _, wkT (hs.symm) rfl rfl rfl rfl (by first | rfl | (rw [List.length_append]; rfl) | simp) (by first | rfl | (rw [List.map_append]; rfl) | (simp only [List.map_append, List.append_assoc]; rfl)) rfl rfl rfl rfl ⟨.refl _, rfl, .refl _, rfl, .refl _, rfl, .refl _, rfl, .refl _, rfl, .refl _, rfl, trivial⟩⟩
    · have f1 : ¬ (r.body.getD i default).afunc = 1 := of_decide_eq_false f1
      have hv : V = alikeT r i i t1 (varE (r.body.getD i default).avar) (r.body.getD i default).aof := by rw [hV, if_neg f1]
      refine gA rfl (go_t (Det.le (aa := [.ptr 0 0, vArg (r.body.getD i default).avar, ag (r.body.getD i default).aof.c, pI i, pI i]) (d93 r t1 (varE (r.body.getD i default).avar) (r.body.getD i default).aof i i hok (by rw [varE_size]; omega)) ⟨.refl _, vArg_le _, .refl _, .refl _, .refl _, trivial⟩) rfl rfl rfl rfl rfl rfl rfl (by first | rfl | (rw [List.length_append]; rfl) | simp) (by first | rfl | (rw [List.map_append]; rfl) | (simp only [List.map_append, List.append_assoc]; rfl)) rfl rfl rfl rfl rfl rfl ?_)
      refine gA rfl ?_
      refine go_for 0 (r.body.getD i default).abody.length (Nat.zero_le _) (fun k => ⟨[(0, .iv (relsI p)), (1, .iv (bookI r)), (5, .ptr 2 0), (6, pI i), (31, .iv (lits r.body)), (32, pI r.body.length), (33, pI i), (79, .iv (lits (r.body.getD i default).abody)), (80, pI (r.body.getD i default).abody.length), (81, pI k)], [(2, some (TS.cell r 0 9 (inT p r i V (r.body.getD i default).abody k).ws.length 1)), (0, some (upO (inT p r i V (r.body.getD i default).abody k).up)), (9, some (rowI 5 (inT p r i V (r.body.getD i default).abody k).ws Want.c)), (1, some (kdO (inT p r i V (r.body.getD i default).abody k).kind))], 10⟩) (fun _ => True) _ trivial
        (wkT hv.symm rfl rfl rfl rfl rfl rfl rfl rfl rfl rfl ⟨.refl _, rfl, .refl _, rfl, .refl _, rfl, .refl _, rfl, .refl _, rfl, .refl _, rfl, .refl _, rfl, .iv (litsIL _), rfl, .refl _, rfl, .refl _, rfl, trivial⟩) fun k hk _ => ?_
      have hil := in_len p r i V (r.body.getD i default).abody k hk
      have hio := in_ok p r i hVo (r.body.getD i default).abody k
      have his : inT p r i V (r.body.getD i default).abody (k + 1) = litT p r i i (inT p r i V (r.body.getD i default).abody k) ((r.body.getD i default).abody.getD k default) := rfl
      refine gA rfl ?_
      refine And.intro (fun h2 => ?_) (fun h2 => ?_)
      · have h2 : k < (r.body.getD i default).abody.length := Int.ofNat_lt.1 (of_decide_eq_true h2)
        have hkt := sizesT_take (r.body.getD i default).abody k h2
        refine gA rfl (go_t (d91 p r (inT p r i V (r.body.getD i default).abody k) ((r.body.getD i default).abody.getD k default) i i hio (by omega)) rfl rfl rfl rfl rfl rfl rfl (by first | rfl | (rw [List.length_append]; rfl) | simp) (by first | rfl | (rw [List.map_append]; rfl) | (simp only [List.map_append, List.append_assoc]; rfl)) rfl rfl rfl rfl rfl rfl ?_)
        refine gA rfl ⟨h2, trivial, _, wkT (rfl) rfl rfl rfl rfl (by first | rfl | (rw [List.length_append]; rfl) | simp) (by first | rfl | (rw [List.map_append]; rfl) | (simp only [List.map_append, List.append_assoc]; rfl)) rfl rfl rfl rfl ⟨.refl _, rfl, .refl _, rfl, .refl _, rfl, .refl _, rfl, .refl _, rfl, .refl _, rfl, .refl _, rfl, .refl _, rfl, .refl _, rfl, .refl _, rfl, trivial⟩⟩
      · have h2 : (r.body.getD i default).abody.length ≤ k := Nat.le_of_not_lt fun hh => absurd (Int.ofNat_lt.2 hh) (of_decide_eq_false h2)
        have hke : k = (r.body.getD i default).abody.length := by omega
        subst hke
        refine gA rfl ⟨h1, trivial, _, wkT (hs.symm) rfl rfl rfl rfl (by first | rfl | (rw [List.length_append]; rfl) | simp) (by first | rfl | (rw [List.map_append]; rfl) | (simp only [List.map_append, List.append_assoc]; rfl)) rfl rfl rfl rfl ⟨.refl _, rfl, .refl _, rfl, .refl _, rfl, .refl _, rfl, .refl _, rfl, .refl _, rfl, trivial⟩⟩
  · have h1 : r.body.length ≤ i := by simpa using h1
    have hie : i = r.body.length := by omega
    subst hie
    have hT : typesT p r = ⟨(bodyT p r r.body.length).up, (bodyT p r r.body.length).ws, (bodyT p r r.body.length).ws.foldl (kindStep (bodyT p r r.body.length).up) []⟩ := rfl
    rw [hT]
    rw [List.take_length] at hln
    have hkd : (bodyT p r r.body.length).kind = [] := body_kind p r _
    generalize bodyT p r r.body.length = t1 at *
    have hK0 : t1.kind = (t1.ws.take 0).foldl (kindStep t1.up) [] := hkd
    refine gA rfl ?_
    refine go_frzR 5 (fun k => Want.c (t1.ws.getD k default)) rfl (rowI_el rfl) (by simp [AF.okR, PV.inRow, argF]) ⟨(by simp [AO.okR, inRowL, PV.inRow]), trivial, rowI_okR _ _ _ _ _ _, trivial, trivial⟩ ?_
    refine go_for 0 t1.ws.length (Nat.zero_le _) (fun i => ⟨[(5, .ptr 2 0), (96, .iv (slc 5 t1.ws Want.c)), (97, pI t1.ws.length), (98, pI i)],
      [(2, some (.cells [.iv (bookI r), .mp 0, .iv (slc 5 t1.ws Want.c), .mp 1])), (0, some (upO t1.up)), (1, some (kdO ((t1.ws.take i).foldl (kindStep t1.up) [])))], 6⟩) (fun _ => True) [] trivial
      (wk rfl rfl rfl ⟨.refl _, rfl, .imm rfl (fun k _ => by rw [Nat.zero_add]), rfl, .refl _, rfl, .refl _, rfl, trivial⟩ ⟨⟨_, rfl, .cells ⟨.refl _, .refl _, .imm rfl (fun k _ => by rw [Nat.zero_add]), .refl _, trivial⟩⟩, Nat.le_of_ble_eq_true rfl, rfl, hM rfl rfl rfl (hM rfl hK0 rfl trivial)⟩ rfl) fun i hi _ => ?_
    refine gA rfl ?_
    refine And.intro (fun h2 => ?_) (fun h2 => ?_)
    · have h2 : i < t1.ws.length := Int.ofNat_lt.1 (of_decide_eq_true h2)
      have hf := fold_step (g := kindStep t1.up) (b := []) h2
      refine gA rfl (go_det [2, 0, 1] (d52f r t1.up ((t1.ws.take i).foldl (kindStep t1.up) []) (slc 5 t1.ws Want.c) (t1.ws.getD i default).at_ hok) rfl rfl rfl rfl rfl rfl rfl rfl ?_)
      refine gA rfl ?_
      refine And.intro (fun g1 => ?_) (fun g1 => ?_)
      · have g1 : (t1.ws.getD i default).has = 0 := of_decide_eq_true g1
        refine gA rfl ?_
        refine And.intro (fun g2 => ?_) (fun g2 => ?_)
        · have g2 : lkD (.si .i64) ((t1.ws.take i).foldl (kindStep t1.up) []) (rootL t1.up (t1.ws.getD i default).at_) 0 = 0 := of_decide_eq_true g2
          have hk : kindStep t1.up ((t1.ws.take i).foldl (kindStep t1.up) []) (t1.ws.getD i default) = putK (.si .i64) ((t1.ws.take i).foldl (kindStep t1.up) []) (rootL t1.up (t1.ws.getD i default).at_) (t1.ws.getD i default).kind := if_pos ⟨g1, g2⟩
          rw [hk] at hf
          refine gA rfl ?_
          exact ⟨h2, trivial, [], wk rfl rfl rfl ⟨.refl _, rfl, .refl _, rfl, .refl _, rfl, .refl _, rfl, trivial⟩ ⟨⟨_, rfl, .of_eq rfl⟩, Nat.le_of_ble_eq_true rfl, rfl, hM rfl rfl rfl (hM rfl (by first | exact hf.symm | (rw [hf]; rfl)) rfl trivial)⟩ rfl⟩
        · have g2 : ¬ lkD (.si .i64) ((t1.ws.take i).foldl (kindStep t1.up) []) (rootL t1.up (t1.ws.getD i default).at_) 0 = 0 := of_decide_eq_false g2
          have hk : kindStep t1.up ((t1.ws.take i).foldl (kindStep t1.up) []) (t1.ws.getD i default) = (t1.ws.take i).foldl (kindStep t1.up) [] := if_neg fun h => g2 h.2
          rw [hk] at hf
          refine gA rfl ?_
          exact ⟨h2, trivial, [], wk rfl rfl rfl ⟨.refl _, rfl, .refl _, rfl, .refl _, rfl, .refl _, rfl, trivial⟩ ⟨⟨_, rfl, .of_eq rfl⟩, Nat.le_of_ble_eq_true rfl, rfl, hM rfl rfl rfl (hM rfl (by first | exact hf.symm | (rw [hf]; rfl)) rfl trivial)⟩ rfl⟩
      · have g1 : ¬ (t1.ws.getD i default).has = 0 := of_decide_eq_false g1
        have hk : kindStep t1.up ((t1.ws.take i).foldl (kindStep t1.up) []) (t1.ws.getD i default) = (t1.ws.take i).foldl (kindStep t1.up) [] := if_neg fun h => g1 h.1
        rw [hk] at hf
        refine gA rfl ?_
        exact ⟨h2, trivial, [], wk rfl rfl rfl ⟨.refl _, rfl, .refl _, rfl, .refl _, rfl, .refl _, rfl, trivial⟩ ⟨⟨_, rfl, .of_eq rfl⟩, Nat.le_of_ble_eq_true rfl, rfl, hM rfl rfl rfl (hM rfl (by first | exact hf.symm | (rw [hf]; rfl)) rfl trivial)⟩ rfl⟩
    · have h2 : t1.ws.length ≤ i := Nat.le_of_not_lt fun hh => absurd (Int.ofNat_lt.2 hh) (of_decide_eq_false h2)
      have e0 : t1.ws.take i = t1.ws := List.take_of_length_le h2
      refine goR rfl trivial (end_frz (.inr rfl) rfl (.map 0 rfl (.map 1 rfl (.cells 2 _ rfl (show _ = List.map PV.iv [bookI r, upI t1.up, slc 5 t1.ws Want.c, kdI (t1.ws.foldl (kindStep t1.up) [])] by rw [e0]; rfl) (.done (.of_eq rfl))))))
end Go.Proofs.YtpnclpbkecjinaaGreatDoorR
/-
  The first fault of a rule.
-/
namespace Go.Proofs.YtpnclpbkecjinaaGreatDoorR
open Go Go.Al
set_option maxRecDepth 10000
def atomBad (a : Atom) : Bool := (atomW WS.o a).bad
def litBad (l : Lit) : Bool := (litF l.size l WS.o).bad
def wideB (l : Lit) : Bool := decide (l.kind = 4) && decide ((l.abody.length : Int) > 12)
/-- The first literal, from -1 on, where f holds. -/
def litsN (n : Nat) : List Int := (List.range (n + 1)).map fun k : Nat => (k : Int) - 1
theorem litsN_len (n : Nat) : (litsN n).length = n + 1 := by simp [litsN]
theorem litsN_get (n k : Nat) (h : k < n + 1) : (litsN n).getD k default = (k : Int) - 1 := by simp [litsN, h]
def firstL (f : Int → Bool) (n : Nat) : Option Int := (litsN n).find? f
abbrev Diag := Int × Pos
def Diag.c (d : Diag) : List IV := [iI d.1, iI d.2.line, iI d.2.col]
def lookD (r : Rule) (e : Int) (f : Int → Bool) (k : Diag) : Diag := match firstL f r.body.length with
  | some lit => (e, placeL r lit)
  | none => k
def looksD (p : Prog) (r : Rule) : Diag :=
  lookD r 61 (fun lit => (atomsL r lit).any fun x => absB p x) <| lookD r 62 (fun lit => (atomsL r lit).any fun x => aryB p x) <| lookD r 65 (scopeB r) <| lookD r 63 (wrongB (typesT p r)) <| lookD r 64 (looseB r) (0, ⟨0, 0⟩)
def ruleD (p : Prog) (r : Rule) (n : Int) : Diag :=
  if atomBad r.head = true then (1, r.at_) else match r.body.find? litBad with
  | some l => (1, l.at)
  | none => if n > 256 ∨ (r.body.length : Int) > 12 then (66, r.at_) else if (sizeN r : Int) > 24 then (66, r.at_) else match r.body.find? wideB with
    | some l => (66, l.at)
    | none => looksD p r
def Rule.fit (r : Rule) : Prop := r.size ≤ 10000000 ∧ r.head.ts ≤ 900000000 ∧ ∀ l ∈ r.body, l.ts ≤ 900000000
theorem find_none {α : Type} {p : α → Bool} {l : List α} (h : l.any p = false) : l.find? p = none := by
  rw [List.find?_eq_none]
  intro x hx
  have := List.any_eq_false.1 h x hx
  simpa using this
theorem find_hit {α : Type} [Inhabited α] {p : α → Bool} {l : List α} {i : Nat} (h : (l.take i).any p = false) (hi : i < l.length) (hp : p (l.getD i default) = true) : l.find? p = some (l.getD i default) := by
  have hg : l.getD i default = l[i] := by simp [hi]
  rw [hg] at hp ⊢
  rw [List.find?_eq_some_iff_getElem]
  refine ⟨hp, i, hi, rfl, fun j hj => ?_⟩
  have := List.any_eq_false.1 h l[j] (List.mem_iff_getElem?.2 ⟨j, by rw [List.getElem?_take, if_pos hj, List.getElem?_eq_getElem (by omega)]⟩)
  simpa using this
def looksRow (p : Prog) (r : Rule) : List (List PV) := [[pI 61, .clo (.func 110) [] [.ptr 1 0, .ptr 0 0]], [pI 62, .clo (.func 114) [] [.ptr 1 0, .ptr 0 0]], [pI 65, .clo (.func 116) [] [.ptr 1 0]], [pI 63, .clo (.func 118) [.iv (tyI r (typesT p r))] []], [pI 64, .clo (.func 119) [.iv (bookI r)] []]]
theorem looksRow_low (p : Prog) (r : Rule) (n : Nat) (h : Nat.blt 1 n = true) : (AO.row 2 (looksRow p r)).low n := by
  have h0 : Nat.blt 0 n = true := Nat.ble_eq_true_of_le (by have := Nat.le_of_ble_eq_true h; omega)
  intro k e hk
  match k, hk with
  | 0, hk => cases hk; simp [belowL, PV.low, h, h0]
  | 1, hk => cases hk; simp [belowL, PV.low, h, h0]
  | 2, hk => cases hk; simp [belowL, PV.low, h, h0]
  | 3, hk => cases hk; simp [belowL, PV.low, h, h0]
  | 4, hk => cases hk; simp [belowL, PV.low, h, h0]
  | k + 5, hk => simp [looksRow] at hk
theorem look_hit {r : Rule} {e : Int} {f : Int → Bool} {k : Diag} {i : Nat} (hJ : ((litsN r.body.length).take i).any f = false) (hi : i < r.body.length + 1) (h : f ((i : Int) - 1) = true) : lookD r e f k = (e, placeL r ((i : Int) - 1)) := by
  have h1 := litsN_get r.body.length i hi
  have := find_hit hJ (by rw [litsN_len]; exact hi) (by rw [h1]; exact h)
  rw [h1] at this
  rw [lookD, firstL, this]
theorem look_none {r : Rule} {e : Int} {f : Int → Bool} {k : Diag} {i : Nat} (hJ : ((litsN r.body.length).take i).any f = false) (hi : r.body.length + 1 ≤ i) : lookD r e f k = k := by
  rw [List.take_of_length_le (by rw [litsN_len]; exact hi)] at hJ
  rw [lookD, firstL, find_none hJ]
theorem look_step {r : Rule} {f : Int → Bool} {i : Nat} (hJ : ((litsN r.body.length).take i).any f = false) (hi : i < r.body.length + 1) (h : f ((i : Int) - 1) = false) : ((litsN r.body.length).take (i + 1)).any f = false := by
  refine (any_step hJ (by rw [litsN_len]; exact hi)).2 ?_
  rw [litsN_get _ _ hi]; exact h
set_option maxHeartbeats 4000000 in
theorem c65 (p : Prog) (r : Rule) (n : Int) (hb : r.fit) : Pure Tryz.prog 65 [.iv (relsI p), ag r.c, pI n] (ag (ruleD p r n).c) := by
  obtain ⟨hb, hb2, hb3⟩ := hb
  have hsz : r.size = r.head.terms.length + Lit.sizes r.body := rfl
  have hal := Lit.length_sizes r.body
  refine pure_end tyA_ok Tryz.func65 rfl (by decide) Tryz.ntmps65 rfl (by simp) rfl ?_
  refine gA rfl (go_pure (c61 r.head hb2) rfl rfl rfl rfl rfl rfl ?_)
  refine gA rfl ?_
  refine And.intro (fun g1 => ?_) (fun g1 => ?_)
  · have g1 : atomBad r.head = true := by
      cases h : atomBad r.head with
      | true => rfl
      | false =>
        have h : (atomW WS.o r.head).bad = false := h
        rw [h] at g1; simp at g1
    rw [ruleD, if_pos g1]
    refine gA rfl (end_le (by first | exact .inr rfl | exact .inl rfl) rfl (.of_eq ?_))
    rfl
  have g1 : ¬ atomBad r.head = true := by
    intro h
    have h : (atomW WS.o r.head).bad = true := h
    rw [h] at g1; simp at g1
  rw [ruleD, if_neg g1]
  refine gA rfl ?_
  refine go_for 0 r.body.length (Nat.zero_le _) (fun i => ⟨[(2, pI n), (3, .ptr 0 0), (4, .ptr 1 0), (6, .ptr 2 0), (32, .iv (lits r.body)), (33, pI r.body.length), (34, pI i)], [(0, some (.cells [.iv (relsI p)])), (1, some (cellsI r.c)), (2, some (.cells [pI 0, pI 0, pI 0]))], 3⟩) (fun i => (r.body.take i).any litBad = false) [] (by simp)
    (wk rfl rfl rfl ⟨.refl _, rfl, .refl _, rfl, .refl _, rfl, .refl _, rfl, .refl _, rfl, .refl _, rfl, .refl _, rfl, trivial⟩ ⟨⟨_, rfl, .of_eq rfl⟩, Nat.le_of_ble_eq_true rfl, rfl, ⟨_, rfl, .of_eq rfl⟩, Nat.le_of_ble_eq_true rfl, rfl, ⟨_, rfl, .of_eq rfl⟩, Nat.le_of_ble_eq_true rfl, rfl, trivial⟩ rfl) fun i hi hJ => ?_
  refine gA rfl ?_
  refine And.intro (fun h1 => ?_) (fun h1 => ?_)
  · have h1 : i < r.body.length := Int.ofNat_lt.1 (of_decide_eq_true h1)
    have hA := any_step hJ h1
    have hm : r.body.getD i default ∈ r.body := by rw [List.getD_eq_getElem?_getD, List.getElem?_eq_getElem h1]; exact List.getElem_mem h1
    have hsg := Lit.sizes_get r.body i h1
    refine gA rfl (go_pure (c108 (r.body.getD i default) (hb3 _ hm) (by omega)) rfl rfl rfl rfl rfl rfl ?_)
    refine gA rfl ?_
    refine And.intro (fun h2 => ?_) (fun h2 => ?_)
    · have h2 : litBad (r.body.getD i default) = true := by
        cases h : litBad (r.body.getD i default) with
        | true => rfl
        | false =>
          have h : (litF (r.body.getD i default).size (r.body.getD i default) WS.o).bad = false := h
          have g : (!decide ((if (litF (r.body.getD i default).size (r.body.getD i default) WS.o).bad = true then (50 : Int) else 0) = 0)) = true := h2
          rw [h] at g; simp at g
      rw [find_hit hJ h1 h2]
      refine gA rfl (end_le (by first | exact .inr rfl | exact .inl rfl) rfl (.of_eq ?_))
      rfl
    · have h2 : litBad (r.body.getD i default) = false := by
        cases h : litBad (r.body.getD i default) with
        | false => rfl
        | true =>
          have h : (litF (r.body.getD i default).size (r.body.getD i default) WS.o).bad = true := h
          have g : (!decide ((if (litF (r.body.getD i default).size (r.body.getD i default) WS.o).bad = true then (50 : Int) else 0) = 0)) = false := h2
          rw [h] at g; simp at g
      refine gA rfl ?_
      exact ⟨h1, hA.2 h2, [], wk rfl rfl rfl ⟨.refl _, rfl, .refl _, rfl, .refl _, rfl, .refl _, rfl, .refl _, rfl, .refl _, rfl, .refl _, rfl, trivial⟩ ⟨⟨_, rfl, .of_eq rfl⟩, Nat.le_of_ble_eq_true rfl, rfl, ⟨_, rfl, .of_eq rfl⟩, Nat.le_of_ble_eq_true rfl, rfl, ⟨_, rfl, .of_eq rfl⟩, Nat.le_of_ble_eq_true rfl, rfl, trivial⟩ rfl⟩
  have h1 : r.body.length ≤ i := Nat.le_of_not_lt fun hh => absurd (Int.ofNat_lt.2 hh) (of_decide_eq_false h1)
  rw [List.take_of_length_le h1] at hJ
  rw [find_none hJ]
  refine gA rfl ?_
  refine And.intro (fun g2 => ?_) (fun g2 => ?_)
  rotate_left
  · have g2 : n > 256 := by simpa using g2
    rw [if_pos (.inl g2)]
    refine gA rfl (end_le (by first | exact .inr rfl | exact .inl rfl) rfl (.of_eq ?_))
    rfl
  have g2 : ¬ n > 256 := of_decide_eq_false g2
  refine gA rfl ?_
  refine And.intro (fun g3 => ?_) (fun g3 => ?_)
  · rw [if_pos (.inr (of_decide_eq_true g3))]
    refine gA rfl (end_le (by first | exact .inr rfl | exact .inl rfl) rfl (.of_eq ?_))
    rfl
  have g3 : ¬ (r.body.length : Int) > 12 := of_decide_eq_false g3
  rw [if_neg (by rintro (h | h); exact g2 h; exact g3 h)]
  refine gA rfl (go_pure (c48 r (by omega)) rfl rfl rfl rfl rfl rfl ?_)
  refine gA rfl (go_pure (c109 r (by omega)) rfl rfl rfl rfl rfl rfl ?_)
  refine gA rfl ?_
  refine And.intro (fun g4 => ?_) (fun g4 => ?_)
  · rw [if_pos (of_decide_eq_true g4)]
    refine gA rfl (end_le (by first | exact .inr rfl | exact .inl rfl) rfl (.of_eq ?_))
    rfl
  have g4 : ¬ (sizeN r : Int) > 24 := of_decide_eq_false g4
  rw [if_neg g4]
  refine gA rfl ?_
  refine go_for 0 r.body.length (Nat.zero_le _) (fun i => ⟨[(3, .ptr 0 0), (4, .ptr 1 0), (6, .ptr 2 0), (13, .iv (bookI r)), (69, .iv (lits r.body)), (70, pI r.body.length), (71, pI i)], [(0, some (.cells [.iv (relsI p)])), (1, some (cellsI r.c)), (2, some (.cells [pI 0, pI 0, pI 0]))], 3⟩) (fun i => (r.body.take i).any wideB = false) [] (by simp)
    (wk rfl rfl rfl ⟨.refl _, rfl, .refl _, rfl, .refl _, rfl, .refl _, rfl, .refl _, rfl, .refl _, rfl, .refl _, rfl, trivial⟩ ⟨⟨_, rfl, .of_eq rfl⟩, Nat.le_of_ble_eq_true rfl, rfl, ⟨_, rfl, .of_eq rfl⟩, Nat.le_of_ble_eq_true rfl, rfl, ⟨_, rfl, .of_eq rfl⟩, Nat.le_of_ble_eq_true rfl, rfl, trivial⟩ rfl) fun i hi hJ => ?_
  refine gA rfl ?_
  refine And.intro (fun h2 => ?_) (fun h2 => ?_)
  · have h2 : i < r.body.length := Int.ofNat_lt.1 (of_decide_eq_true h2)
    have hA := any_step hJ h2
    refine gA rfl ?_
    refine And.intro (fun k1 => ?_) (fun k1 => ?_)
    · have k1 : (r.body.getD i default).kind = 4 := of_decide_eq_true k1
      refine gA rfl ?_
      refine And.intro (fun k2 => ?_) (fun k2 => ?_)
      · have k2 : wideB (r.body.getD i default) = true := by rw [wideB, decide_eq_true k1]; exact k2
        rw [find_hit hJ h2 k2]
        refine gA rfl (end_le (by first | exact .inr rfl | exact .inl rfl) rfl (.of_eq ?_))
        rfl
      · have k2 : wideB (r.body.getD i default) = false := by rw [wideB, decide_eq_true k1]; exact k2
        refine gA rfl ?_
        exact ⟨h2, hA.2 k2, [], wk rfl rfl rfl ⟨.refl _, rfl, .refl _, rfl, .refl _, rfl, .refl _, rfl, .refl _, rfl, .refl _, rfl, .refl _, rfl, trivial⟩ ⟨⟨_, rfl, .of_eq rfl⟩, Nat.le_of_ble_eq_true rfl, rfl, ⟨_, rfl, .of_eq rfl⟩, Nat.le_of_ble_eq_true rfl, rfl, ⟨_, rfl, .of_eq rfl⟩, Nat.le_of_ble_eq_true rfl, rfl, trivial⟩ rfl⟩
    · have k1 : ¬ (r.body.getD i default).kind = 4 := of_decide_eq_false (by have g : decide ((r.body.getD i default).kind = 4) = false := k1; exact g)
      refine gA rfl ?_
      exact ⟨h2, hA.2 (by rw [wideB, decide_eq_false k1]; rfl), [], wk rfl rfl rfl ⟨.refl _, rfl, .refl _, rfl, .refl _, rfl, .refl _, rfl, .refl _, rfl, .refl _, rfl, .refl _, rfl, trivial⟩ ⟨⟨_, rfl, .of_eq rfl⟩, Nat.le_of_ble_eq_true rfl, rfl, ⟨_, rfl, .of_eq rfl⟩, Nat.le_of_ble_eq_true rfl, rfl, ⟨_, rfl, .of_eq rfl⟩, Nat.le_of_ble_eq_true rfl, rfl, trivial⟩ rfl⟩
  have h2 : r.body.length ≤ i := Nat.le_of_not_lt fun hh => absurd (Int.ofNat_lt.2 hh) (of_decide_eq_false h2)
  rw [List.take_of_length_le h2] at hJ
  rw [find_none hJ]
  refine gA rfl (go_pure (c49 p r (by omega)) rfl rfl rfl rfl rfl rfl ?_)
  refine gA rfl ?_
  refine go_wk [] (t := ⟨[(3, .ptr 0 0), (4, .ptr 1 0), (6, .ptr 2 0), (104, .sl 3 0 5 2), (105, pI 5), (106, pI 0)], [(0, some (.cells [.iv (relsI p)])), (1, some (cellsI r.c)), (2, some (.cells [pI 0, pI 0, pI 0])), (3, some (.row 2 (looksRow p r)))], 4⟩)
    (wk rfl rfl rfl ⟨.refl _, rfl, .refl _, rfl, .refl _, rfl, .refl _, rfl, .refl _, rfl, .refl _, rfl, trivial⟩ ⟨⟨_, rfl, .of_eq rfl⟩, Nat.le_of_ble_eq_true rfl, rfl, ⟨⟨_, rfl, .of_eq rfl⟩, Nat.le_of_ble_eq_true rfl, rfl, ⟨⟨_, rfl, .of_eq rfl⟩, Nat.le_of_ble_eq_true rfl, rfl, ⟨⟨_, rfl, .of_eq rfl⟩, Nat.le_of_ble_eq_true rfl, looksRow_low p r _ rfl, trivial⟩⟩⟩⟩ rfl) ?_
  have hwl : (typesT p r).ws.length ≤ 1000000000000 := by have := body_len p r r.body.length (Nat.le_refl _); rw [List.take_length] at this; show (bodyT p r r.body.length).ws.length ≤ _; omega
  rw [looksD]
  refine go_unr (n := 6) ?_
  refine gA rfl ?_
  refine And.intro (fun q => ?_) (fun q => ?_)
  rotate_left
  · exact absurd (show true = false from q) (by decide)
  refine gA rfl ?_
  refine go_for 0 (r.body.length + 1) (Nat.zero_le _) (fun k => ⟨[(3, .ptr 0 0), (4, .ptr 1 0), (6, .ptr 2 0), (18, .ptr 4 0), (19, pI ((k : Int) - 1)), (104, .sl 3 0 5 2), (105, pI 5), (106, pI 0)], [(0, some (.cells [.iv (relsI p)])), (1, some (cellsI r.c)), (2, some (.cells [pI 0, pI 0, pI 0])), (3, some (.row 2 (looksRow p r))), (4, some (.cells [pI 61, .clo (.func 110) [] [.ptr 1 0, .ptr 0 0]]))], 5⟩) (fun k => ((litsN r.body.length).take k).any (fun lit => (atomsL r lit).any fun x => absB p x) = false) [] rfl
    (wk rfl rfl rfl ⟨.refl _, rfl, .refl _, rfl, .refl _, rfl, .refl _, rfl, .refl _, rfl, .refl _, rfl, .refl _, rfl, .refl _, rfl, trivial⟩ ⟨⟨_, rfl, .of_eq rfl⟩, Nat.le_of_ble_eq_true rfl, rfl, ⟨⟨_, rfl, .of_eq rfl⟩, Nat.le_of_ble_eq_true rfl, rfl, ⟨⟨_, rfl, .of_eq rfl⟩, Nat.le_of_ble_eq_true rfl, rfl, ⟨⟨_, rfl, .of_eq rfl⟩, Nat.le_of_ble_eq_true rfl, looksRow_low p r _ rfl, ⟨⟨_, rfl, .of_eq rfl⟩, Nat.le_of_ble_eq_true rfl, rfl, trivial⟩⟩⟩⟩⟩ rfl) fun k hk hJ => ?_
  refine gA rfl ?_
  refine And.intro (fun q1 => ?_) (fun q1 => ?_)
  · have q1 : (k : Int) - 1 < r.body.length := of_decide_eq_true q1
    have hk1 : k < r.body.length + 1 := by omega
    refine gA rfl (go_det [1, 0] (d110 p r ((k : Int) - 1) (by omega) (by omega)) rfl rfl rfl rfl rfl rfl rfl rfl ?_)
    refine gA rfl ?_
    refine And.intro (fun q2 => ?_) (fun q2 => ?_)
    · rw [look_hit hJ hk1 q2]
      refine gA rfl (go_ddet tyA_ok [] (Pure.det (c120 r ((k : Int) - 1) q1)) rfl rfl rfl rfl rfl rfl rfl rfl rfl rfl rfl rfl (by (repeat' (first | exact trivial | exact rfl | exact PVle.refl _ | exact PVle.bk (by assumption) | apply And.intro)) <;> first | omega | (simp only [Int.toNat_natCast]; omega) | (simp; done) | (simp; omega)) rfl (by (repeat' (first | exact trivial | exact rfl | exact PVle.refl _ | exact PVle.bk (by assumption) | apply And.intro)) <;> first | omega | (simp only [Int.toNat_natCast]; omega) | (simp; done) | (simp; omega)) ?_)
      refine gA rfl (end_le (by first | exact .inr rfl | exact .inl rfl) rfl (.of_eq ?_))
      rfl
    · refine gA rfl ?_
      exact ⟨hk1, look_step hJ hk1 q2, [], wk rfl rfl rfl ⟨.refl _, rfl, .refl _, rfl, .refl _, rfl, .refl _, rfl, .of_eq (pIE (by omega)), rfl, .refl _, rfl, .refl _, rfl, .refl _, rfl, trivial⟩ ⟨⟨_, rfl, .of_eq rfl⟩, Nat.le_of_ble_eq_true rfl, rfl, ⟨⟨_, rfl, .of_eq rfl⟩, Nat.le_of_ble_eq_true rfl, rfl, ⟨⟨_, rfl, .of_eq rfl⟩, Nat.le_of_ble_eq_true rfl, rfl, ⟨⟨_, rfl, .of_eq rfl⟩, Nat.le_of_ble_eq_true rfl, looksRow_low p r _ rfl, ⟨⟨_, rfl, .of_eq rfl⟩, Nat.le_of_ble_eq_true rfl, rfl, trivial⟩⟩⟩⟩⟩ rfl⟩
  have q1 : ¬ (k : Int) - 1 < r.body.length := of_decide_eq_false q1
  rw [look_none hJ (by omega)]
  clear hJ hk q1
  refine gA rfl ?_
  refine And.intro (fun q => ?_) (fun q => ?_)
  rotate_left
  · exact absurd (show true = false from q) (by decide)
  refine gA rfl ?_
  refine go_for 0 (r.body.length + 1) (Nat.zero_le _) (fun k => ⟨[(3, .ptr 0 0), (4, .ptr 1 0), (6, .ptr 2 0), (18, .ptr 5 0), (19, pI ((k : Int) - 1)), (104, .sl 3 0 5 2), (105, pI 5), (106, pI 1)], [(0, some (.cells [.iv (relsI p)])), (1, some (cellsI r.c)), (2, some (.cells [pI 0, pI 0, pI 0])), (3, some (.row 2 (looksRow p r))), (5, some (.cells [pI 62, .clo (.func 114) [] [.ptr 1 0, .ptr 0 0]]))], 6⟩) (fun k => ((litsN r.body.length).take k).any (fun lit => (atomsL r lit).any fun x => aryB p x) = false) [] rfl
    (wk rfl rfl rfl ⟨.refl _, rfl, .refl _, rfl, .refl _, rfl, .refl _, rfl, .refl _, rfl, .refl _, rfl, .refl _, rfl, .refl _, rfl, trivial⟩ ⟨⟨_, rfl, .of_eq rfl⟩, Nat.le_of_ble_eq_true rfl, rfl, ⟨⟨_, rfl, .of_eq rfl⟩, Nat.le_of_ble_eq_true rfl, rfl, ⟨⟨_, rfl, .of_eq rfl⟩, Nat.le_of_ble_eq_true rfl, rfl, ⟨⟨_, rfl, .of_eq rfl⟩, Nat.le_of_ble_eq_true rfl, looksRow_low p r _ rfl, ⟨⟨_, rfl, .of_eq rfl⟩, Nat.le_of_ble_eq_true rfl, rfl, trivial⟩⟩⟩⟩⟩ rfl) fun k hk hJ => ?_
  refine gA rfl ?_
  refine And.intro (fun q1 => ?_) (fun q1 => ?_)
  · have q1 : (k : Int) - 1 < r.body.length := of_decide_eq_true q1
    have hk1 : k < r.body.length + 1 := by omega
    refine gA rfl (go_det [1, 0] (d114 p r ((k : Int) - 1) (by omega) (by omega)) rfl rfl rfl rfl rfl rfl rfl rfl ?_)
    refine gA rfl ?_
    refine And.intro (fun q2 => ?_) (fun q2 => ?_)
    · rw [look_hit hJ hk1 q2]
      refine gA rfl (go_ddet tyA_ok [] (Pure.det (c120 r ((k : Int) - 1) q1)) rfl rfl rfl rfl rfl rfl rfl rfl rfl rfl rfl rfl (by (repeat' (first | exact trivial | exact rfl | exact PVle.refl _ | exact PVle.bk (by assumption) | apply And.intro)) <;> first | omega | (simp only [Int.toNat_natCast]; omega) | (simp; done) | (simp; omega)) rfl (by (repeat' (first | exact trivial | exact rfl | exact PVle.refl _ | exact PVle.bk (by assumption) | apply And.intro)) <;> first | omega | (simp only [Int.toNat_natCast]; omega) | (simp; done) | (simp; omega)) ?_)
      refine gA rfl (end_le (by first | exact .inr rfl | exact .inl rfl) rfl (.of_eq ?_))
      rfl
    · refine gA rfl ?_
      exact ⟨hk1, look_step hJ hk1 q2, [], wk rfl rfl rfl ⟨.refl _, rfl, .refl _, rfl, .refl _, rfl, .refl _, rfl, .of_eq (pIE (by omega)), rfl, .refl _, rfl, .refl _, rfl, .refl _, rfl, trivial⟩ ⟨⟨_, rfl, .of_eq rfl⟩, Nat.le_of_ble_eq_true rfl, rfl, ⟨⟨_, rfl, .of_eq rfl⟩, Nat.le_of_ble_eq_true rfl, rfl, ⟨⟨_, rfl, .of_eq rfl⟩, Nat.le_of_ble_eq_true rfl, rfl, ⟨⟨_, rfl, .of_eq rfl⟩, Nat.le_of_ble_eq_true rfl, looksRow_low p r _ rfl, ⟨⟨_, rfl, .of_eq rfl⟩, Nat.le_of_ble_eq_true rfl, rfl, trivial⟩⟩⟩⟩⟩ rfl⟩
  have q1 : ¬ (k : Int) - 1 < r.body.length := of_decide_eq_false q1
  rw [look_none hJ (by omega)]
  clear hJ hk q1
  refine gA rfl ?_
  refine And.intro (fun q => ?_) (fun q => ?_)
  rotate_left
  · exact absurd (show true = false from q) (by decide)
  refine gA rfl ?_
  refine go_for 0 (r.body.length + 1) (Nat.zero_le _) (fun k => ⟨[(3, .ptr 0 0), (4, .ptr 1 0), (6, .ptr 2 0), (18, .ptr 6 0), (19, pI ((k : Int) - 1)), (104, .sl 3 0 5 2), (105, pI 5), (106, pI 2)], [(0, some (.cells [.iv (relsI p)])), (1, some (cellsI r.c)), (2, some (.cells [pI 0, pI 0, pI 0])), (3, some (.row 2 (looksRow p r))), (6, some (.cells [pI 65, .clo (.func 116) [] [.ptr 1 0]]))], 7⟩) (fun k => ((litsN r.body.length).take k).any (scopeB r) = false) [] rfl
    (wk rfl rfl rfl ⟨.refl _, rfl, .refl _, rfl, .refl _, rfl, .refl _, rfl, .refl _, rfl, .refl _, rfl, .refl _, rfl, .refl _, rfl, trivial⟩ ⟨⟨_, rfl, .of_eq rfl⟩, Nat.le_of_ble_eq_true rfl, rfl, ⟨⟨_, rfl, .of_eq rfl⟩, Nat.le_of_ble_eq_true rfl, rfl, ⟨⟨_, rfl, .of_eq rfl⟩, Nat.le_of_ble_eq_true rfl, rfl, ⟨⟨_, rfl, .of_eq rfl⟩, Nat.le_of_ble_eq_true rfl, looksRow_low p r _ rfl, ⟨⟨_, rfl, .of_eq rfl⟩, Nat.le_of_ble_eq_true rfl, rfl, trivial⟩⟩⟩⟩⟩ rfl) fun k hk hJ => ?_
  refine gA rfl ?_
  refine And.intro (fun q1 => ?_) (fun q1 => ?_)
  · have q1 : (k : Int) - 1 < r.body.length := of_decide_eq_true q1
    have hk1 : k < r.body.length + 1 := by omega
    refine gA rfl (go_det [1] (d116 r ((k : Int) - 1) (by omega) (by omega)) rfl rfl rfl rfl rfl rfl rfl rfl ?_)
    refine gA rfl ?_
    refine And.intro (fun q2 => ?_) (fun q2 => ?_)
    · rw [look_hit hJ hk1 q2]
      refine gA rfl (go_ddet tyA_ok [] (Pure.det (c120 r ((k : Int) - 1) q1)) rfl rfl rfl rfl rfl rfl rfl rfl rfl rfl rfl rfl (by (repeat' (first | exact trivial | exact rfl | exact PVle.refl _ | exact PVle.bk (by assumption) | apply And.intro)) <;> first | omega | (simp only [Int.toNat_natCast]; omega) | (simp; done) | (simp; omega)) rfl (by (repeat' (first | exact trivial | exact rfl | exact PVle.refl _ | exact PVle.bk (by assumption) | apply And.intro)) <;> first | omega | (simp only [Int.toNat_natCast]; omega) | (simp; done) | (simp; omega)) ?_)
      refine gA rfl (end_le (by first | exact .inr rfl | exact .inl rfl) rfl (.of_eq ?_))
      rfl
    · refine gA rfl ?_
      exact ⟨hk1, look_step hJ hk1 q2, [], wk rfl rfl rfl ⟨.refl _, rfl, .refl _, rfl, .refl _, rfl, .refl _, rfl, .of_eq (pIE (by omega)), rfl, .refl _, rfl, .refl _, rfl, .refl _, rfl, trivial⟩ ⟨⟨_, rfl, .of_eq rfl⟩, Nat.le_of_ble_eq_true rfl, rfl, ⟨⟨_, rfl, .of_eq rfl⟩, Nat.le_of_ble_eq_true rfl, rfl, ⟨⟨_, rfl, .of_eq rfl⟩, Nat.le_of_ble_eq_true rfl, rfl, ⟨⟨_, rfl, .of_eq rfl⟩, Nat.le_of_ble_eq_true rfl, looksRow_low p r _ rfl, ⟨⟨_, rfl, .of_eq rfl⟩, Nat.le_of_ble_eq_true rfl, rfl, trivial⟩⟩⟩⟩⟩ rfl⟩
  have q1 : ¬ (k : Int) - 1 < r.body.length := of_decide_eq_false q1
  rw [look_none hJ (by omega)]
  clear hJ hk q1
  refine gA rfl ?_
  refine And.intro (fun q => ?_) (fun q => ?_)
  rotate_left
  · exact absurd (show true = false from q) (by decide)
  refine gA rfl ?_
  refine go_for 0 (r.body.length + 1) (Nat.zero_le _) (fun k => ⟨[(3, .ptr 0 0), (4, .ptr 1 0), (6, .ptr 2 0), (18, .ptr 7 0), (19, pI ((k : Int) - 1)), (104, .sl 3 0 5 2), (105, pI 5), (106, pI 3)], [(0, some (.cells [.iv (relsI p)])), (1, some (cellsI r.c)), (2, some (.cells [pI 0, pI 0, pI 0])), (3, some (.row 2 (looksRow p r))), (7, some (.cells [pI 63, .clo (.func 118) [.iv (tyI r (typesT p r))] []]))], 8⟩) (fun k => ((litsN r.body.length).take k).any (wrongB (typesT p r)) = false) [] rfl
    (wk rfl rfl rfl ⟨.refl _, rfl, .refl _, rfl, .refl _, rfl, .refl _, rfl, .refl _, rfl, .refl _, rfl, .refl _, rfl, .refl _, rfl, trivial⟩ ⟨⟨_, rfl, .of_eq rfl⟩, Nat.le_of_ble_eq_true rfl, rfl, ⟨⟨_, rfl, .of_eq rfl⟩, Nat.le_of_ble_eq_true rfl, rfl, ⟨⟨_, rfl, .of_eq rfl⟩, Nat.le_of_ble_eq_true rfl, rfl, ⟨⟨_, rfl, .of_eq rfl⟩, Nat.le_of_ble_eq_true rfl, looksRow_low p r _ rfl, ⟨⟨_, rfl, .of_eq rfl⟩, Nat.le_of_ble_eq_true rfl, rfl, trivial⟩⟩⟩⟩⟩ rfl) fun k hk hJ => ?_
  refine gA rfl ?_
  refine And.intro (fun q1 => ?_) (fun q1 => ?_)
  · have q1 : (k : Int) - 1 < r.body.length := of_decide_eq_true q1
    have hk1 : k < r.body.length + 1 := by omega
    refine gA rfl (go_pure (c118 r (typesT p r) ((k : Int) - 1) (body_ok p r _) hwl) rfl rfl rfl rfl rfl rfl ?_)
    refine gA rfl ?_
    refine And.intro (fun q2 => ?_) (fun q2 => ?_)
    · rw [look_hit hJ hk1 q2]
      refine gA rfl (go_ddet tyA_ok [] (Pure.det (c120 r ((k : Int) - 1) q1)) rfl rfl rfl rfl rfl rfl rfl rfl rfl rfl rfl rfl (by (repeat' (first | exact trivial | exact rfl | exact PVle.refl _ | exact PVle.bk (by assumption) | apply And.intro)) <;> first | omega | (simp only [Int.toNat_natCast]; omega) | (simp; done) | (simp; omega)) rfl (by (repeat' (first | exact trivial | exact rfl | exact PVle.refl _ | exact PVle.bk (by assumption) | apply And.intro)) <;> first | omega | (simp only [Int.toNat_natCast]; omega) | (simp; done) | (simp; omega)) ?_)
      refine gA rfl (end_le (by first | exact .inr rfl | exact .inl rfl) rfl (.of_eq ?_))
      rfl
    · refine gA rfl ?_
      exact ⟨hk1, look_step hJ hk1 q2, [], wk rfl rfl rfl ⟨.refl _, rfl, .refl _, rfl, .refl _, rfl, .refl _, rfl, .of_eq (pIE (by omega)), rfl, .refl _, rfl, .refl _, rfl, .refl _, rfl, trivial⟩ ⟨⟨_, rfl, .of_eq rfl⟩, Nat.le_of_ble_eq_true rfl, rfl, ⟨⟨_, rfl, .of_eq rfl⟩, Nat.le_of_ble_eq_true rfl, rfl, ⟨⟨_, rfl, .of_eq rfl⟩, Nat.le_of_ble_eq_true rfl, rfl, ⟨⟨_, rfl, .of_eq rfl⟩, Nat.le_of_ble_eq_true rfl, looksRow_low p r _ rfl, ⟨⟨_, rfl, .of_eq rfl⟩, Nat.le_of_ble_eq_true rfl, rfl, trivial⟩⟩⟩⟩⟩ rfl⟩
  have q1 : ¬ (k : Int) - 1 < r.body.length := of_decide_eq_false q1
  rw [look_none hJ (by omega)]
  clear hJ hk q1
  refine gA rfl ?_
  refine And.intro (fun q => ?_) (fun q => ?_)
  rotate_left
  · exact absurd (show true = false from q) (by decide)
  refine gA rfl ?_
  refine go_for 0 (r.body.length + 1) (Nat.zero_le _) (fun k => ⟨[(3, .ptr 0 0), (4, .ptr 1 0), (6, .ptr 2 0), (18, .ptr 8 0), (19, pI ((k : Int) - 1)), (104, .sl 3 0 5 2), (105, pI 5), (106, pI 4)], [(0, some (.cells [.iv (relsI p)])), (1, some (cellsI r.c)), (2, some (.cells [pI 0, pI 0, pI 0])), (3, some (.row 2 (looksRow p r))), (8, some (.cells [pI 64, .clo (.func 119) [.iv (bookI r)] []]))], 9⟩) (fun k => ((litsN r.body.length).take k).any (looseB r) = false) [] rfl
    (wk rfl rfl rfl ⟨.refl _, rfl, .refl _, rfl, .refl _, rfl, .refl _, rfl, .refl _, rfl, .refl _, rfl, .refl _, rfl, .refl _, rfl, trivial⟩ ⟨⟨_, rfl, .of_eq rfl⟩, Nat.le_of_ble_eq_true rfl, rfl, ⟨⟨_, rfl, .of_eq rfl⟩, Nat.le_of_ble_eq_true rfl, rfl, ⟨⟨_, rfl, .of_eq rfl⟩, Nat.le_of_ble_eq_true rfl, rfl, ⟨⟨_, rfl, .of_eq rfl⟩, Nat.le_of_ble_eq_true rfl, looksRow_low p r _ rfl, ⟨⟨_, rfl, .of_eq rfl⟩, Nat.le_of_ble_eq_true rfl, rfl, trivial⟩⟩⟩⟩⟩ rfl) fun k hk hJ => ?_
  refine gA rfl ?_
  refine And.intro (fun q1 => ?_) (fun q1 => ?_)
  · have q1 : (k : Int) - 1 < r.body.length := of_decide_eq_true q1
    have hk1 : k < r.body.length + 1 := by omega
    refine gA rfl (go_pure (c119 r ((k : Int) - 1) (by omega) (by omega)) rfl rfl rfl rfl rfl rfl ?_)
    refine gA rfl ?_
    refine And.intro (fun q2 => ?_) (fun q2 => ?_)
    · rw [look_hit hJ hk1 q2]
      refine gA rfl (go_ddet tyA_ok [] (Pure.det (c120 r ((k : Int) - 1) q1)) rfl rfl rfl rfl rfl rfl rfl rfl rfl rfl rfl rfl (by (repeat' (first | exact trivial | exact rfl | exact PVle.refl _ | exact PVle.bk (by assumption) | apply And.intro)) <;> first | omega | (simp only [Int.toNat_natCast]; omega) | (simp; done) | (simp; omega)) rfl (by (repeat' (first | exact trivial | exact rfl | exact PVle.refl _ | exact PVle.bk (by assumption) | apply And.intro)) <;> first | omega | (simp only [Int.toNat_natCast]; omega) | (simp; done) | (simp; omega)) ?_)
      refine gA rfl (end_le (by first | exact .inr rfl | exact .inl rfl) rfl (.of_eq ?_))
      rfl
    · refine gA rfl ?_
      exact ⟨hk1, look_step hJ hk1 q2, [], wk rfl rfl rfl ⟨.refl _, rfl, .refl _, rfl, .refl _, rfl, .refl _, rfl, .of_eq (pIE (by omega)), rfl, .refl _, rfl, .refl _, rfl, .refl _, rfl, trivial⟩ ⟨⟨_, rfl, .of_eq rfl⟩, Nat.le_of_ble_eq_true rfl, rfl, ⟨⟨_, rfl, .of_eq rfl⟩, Nat.le_of_ble_eq_true rfl, rfl, ⟨⟨_, rfl, .of_eq rfl⟩, Nat.le_of_ble_eq_true rfl, rfl, ⟨⟨_, rfl, .of_eq rfl⟩, Nat.le_of_ble_eq_true rfl, looksRow_low p r _ rfl, ⟨⟨_, rfl, .of_eq rfl⟩, Nat.le_of_ble_eq_true rfl, rfl, trivial⟩⟩⟩⟩⟩ rfl⟩
  have q1 : ¬ (k : Int) - 1 < r.body.length := of_decide_eq_false q1
  rw [look_none hJ (by omega)]
  clear hJ hk q1
  refine gA rfl ?_
  refine And.intro (fun q => ?_) (fun q => ?_)
  · exact absurd (show false = true from q) (by decide)
  refine gA rfl (end_le (by first | exact .inr rfl | exact .inl rfl) rfl (.of_eq ?_))
  rfl
end Go.Proofs.YtpnclpbkecjinaaGreatDoorR
/-
  Check: the first of all faults.
-/
namespace Go.Proofs.YtpnclpbkecjinaaGreatDoorR
open Go Go.Al
set_option maxRecDepth 10000
def Diag.z : Diag := (0, ⟨0, 0⟩)
theorem d64 (d e : Diag) : Det Tryz.prog 64 [ag d.c, .ptr 0 0] [cellsI e.c] (pB false) [(0, some (cellsI d.c))] 1 := by
  refine det_end tyA_ok Tryz.func64 rfl (by decide) Tryz.ntmps64 rfl (by simp) ?_
  refine gA rfl (end_det [] (by first | exact .inr rfl | exact .inl rfl) rfl (wk rfl rfl rfl ⟨.refl _, rfl, trivial⟩ ⟨⟨_, rfl, .of_eq rfl⟩, Nat.le_of_ble_eq_true rfl, rfl, trivial⟩ rfl))
def relName (p : Prog) (i : Nat) : List Str := (p.rels.take i).map Decl.name
def relFault (p : Prog) (i : Nat) : Int := relErr (p.rels.getD i default) i (lkD .str (occM (relName p i)) (p.rels.getD i default).name 0)
def relF (p : Prog) : Nat → List Diag
  | 0 => []
  | i + 1 => relF p i ++ (if relFault p i = 0 then [] else [(relFault p i, (p.rels.getD i default).at_)])
def rulD (p : Prog) (i : Nat) : Diag := ruleD p (p.rules.getD i default) ((i : Int) + 1)
def rulF (p : Prog) : Nat → List Diag
  | 0 => []
  | i + 1 => rulF p i ++ (if (rulD p i).1 = 0 then [] else [rulD p i])
def faultsD (p : Prog) : List Diag := relF p p.rels.length ++ rulF p p.rules.length
def checkD (p : Prog) : Diag := (faultsD p).headD Diag.z
theorem relF_pre (p : Prog) (i : Nat) : ∀ k, ∃ t, relF p (i + k) = relF p i ++ t
  | 0 => ⟨[], by simp⟩
  | k + 1 => by
    obtain ⟨t, h⟩ := relF_pre p i k
    exact ⟨_, by rw [← Nat.add_assoc, relF, h, List.append_assoc]⟩
theorem rulF_pre (p : Prog) (i : Nat) : ∀ k, ∃ t, rulF p (i + k) = rulF p i ++ t
  | 0 => ⟨[], by simp⟩
  | k + 1 => by
    obtain ⟨t, h⟩ := rulF_pre p i k
    exact ⟨_, by rw [← Nat.add_assoc, rulF, h, List.append_assoc]⟩
theorem check_rel {p : Prog} {i : Nat} (hJ : relF p i = []) (hi : i < p.rels.length) (h : ¬ relFault p i = 0) : checkD p = (relFault p i, (p.rels.getD i default).at_) := by
  obtain ⟨t, ht⟩ := relF_pre p (i + 1) (p.rels.length - (i + 1))
  have e : i + 1 + (p.rels.length - (i + 1)) = p.rels.length := by omega
  rw [e, relF, hJ, if_neg h] at ht
  rw [checkD, faultsD, ht]; rfl
theorem check_rul {p : Prog} {i : Nat} (h0 : relF p p.rels.length = []) (hJ : rulF p i = []) (hi : i < p.rules.length) (h : ¬ (rulD p i).1 = 0) : checkD p = rulD p i := by
  obtain ⟨t, ht⟩ := rulF_pre p (i + 1) (p.rules.length - (i + 1))
  have e : i + 1 + (p.rules.length - (i + 1)) = p.rules.length := by omega
  rw [e, rulF, hJ, if_neg h] at ht
  rw [checkD, faultsD, ht, h0]; rfl
theorem check_no {p : Prog} (h0 : relF p p.rels.length = []) (h1 : rulF p p.rules.length = []) : checkD p = Diag.z := by
  rw [checkD, faultsD, h0, h1]; rfl
theorem relName_step {p : Prog} {i : Nat} (h : i < p.rels.length) : occM (relName p (i + 1)) = bump (occM (relName p i)) (p.rels.getD i default).name := by
  rw [relName, take_step h, List.map_append]; exact occM_snoc _ _
theorem relName_lk (p : Prog) (i : Nat) (s : Str) : 0 ≤ lkD .str (occM (relName p i)) s 0 ∧ lkD .str (occM (relName p i)) s 0 ≤ i := by
  have h := cntL_le (relName p i) s
  have h2 : (relName p i).length ≤ i := by simp [relName]; omega
  rw [occM_lk]; omega
def Prog.fit (p : Prog) : Prop := p.rels.length ≤ 1000000000 ∧ p.rules.length ≤ 1000000000 ∧ ∀ r ∈ p.rules, r.fit
theorem d63A (p : Prog) (hb : p.fit) : Det Tryz.prog 63 [ag p.c, .clo (.func 64) [] [.ptr 0 0]] [cellsI Diag.z.c] (.tup []) [(0, some (cellsI (checkD p).c))] 1 := by
  obtain ⟨hb1, hb2, hb3⟩ := hb
  refine det_end tyA_ok Tryz.func63 rfl (by decide) Tryz.ntmps63 rfl (by simp) ?_
  refine gA rfl ?_
  refine go_for 0 p.rels.length (Nat.zero_le _) (fun i => ⟨[(1, .clo (.func 64) [] [.ptr 0 0]), (2, .ptr 1 0), (4, .mp 2), (13, .iv (slc 4 p.rels Decl.c)), (14, pI p.rels.length), (15, pI i)], [(0, some (cellsI Diag.z.c)), (1, some (cellsI p.c)), (2, some (nmO (occM (relName p i))))], 3⟩) (fun i => relF p i = []) [] rfl
    (wk rfl rfl rfl ⟨.refl _, rfl, .refl _, rfl, .refl _, rfl, .refl _, rfl, .refl _, rfl, .refl _, rfl, trivial⟩ ⟨⟨_, rfl, .of_eq rfl⟩, Nat.le_of_ble_eq_true rfl, rfl, ⟨_, rfl, .of_eq rfl⟩, Nat.le_of_ble_eq_true rfl, rfl, hM0 rfl evI_zero rfl trivial⟩ rfl) fun i hi hJ => ?_
  refine gA rfl ?_
  refine And.intro (fun h1 => ?_) (fun h1 => ?_)
  · have h1 : i < p.rels.length := Int.ofNat_lt.1 (of_decide_eq_true h1)
    have hl := relName_lk p i (p.rels.getD i default).name
    have hn := relName_step h1
    refine gA rfl (go_pure (c107 (p.rels.getD i default) i (lkD .str (occM (relName p i)) (p.rels.getD i default).name 0)) rfl rfl rfl rfl rfl rfl ?_)
    refine gA rfl ?_
    refine And.intro (fun g => ?_) (fun g => ?_)
    · have g : ¬ relFault p i = 0 := by
        have g : (!decide (relFault p i = 0)) = true := g
        simpa only [Bool.not_eq_true', decide_eq_false_iff_not] using g
      rw [check_rel hJ h1 g]
      refine gA rfl (go_det [0] (d64 (relFault p i, (p.rels.getD i default).at_) Diag.z) rfl rfl rfl rfl rfl rfl rfl rfl ?_)
      refine gA rfl ?_
      refine And.intro (fun q => ?_) (fun q => ?_)
      rotate_left
      · exact absurd (show true = false from q) (by decide)
      refine gA rfl (end_det [] (by first | exact .inr rfl | exact .inl rfl) rfl (wk rfl rfl rfl ⟨.refl _, rfl, trivial⟩ ⟨⟨_, rfl, .of_eq rfl⟩, Nat.le_of_ble_eq_true rfl, rfl, trivial⟩ rfl))
    · have g : relFault p i = 0 := by
        have g : (!decide (relFault p i = 0)) = false := g
        simpa only [Bool.not_eq_false', decide_eq_true_eq] using g
      refine gA rfl ?_
      exact ⟨h1, by rw [relF, hJ, if_pos g]; rfl, [], wk rfl rfl rfl ⟨.refl _, rfl, .refl _, rfl, .refl _, rfl, .refl _, rfl, .refl _, rfl, .refl _, rfl, trivial⟩ ⟨⟨_, rfl, .of_eq rfl⟩, Nat.le_of_ble_eq_true rfl, rfl, ⟨⟨_, rfl, .of_eq rfl⟩, Nat.le_of_ble_eq_true rfl, rfl, hM rfl (by rw [hn]; rfl) rfl trivial⟩⟩ rfl⟩
  have h1 : p.rels.length ≤ i := Nat.le_of_not_lt fun hh => absurd (Int.ofNat_lt.2 hh) (of_decide_eq_false h1)
  have hie : i = p.rels.length := by omega
  subst hie
  refine gA rfl (go_det [] (d50 p (by omega)) rfl rfl rfl rfl rfl rfl rfl rfl ?_)
  refine gA rfl ?_
  refine go_frzM 3 rfl ?_
  refine go_for 0 p.rules.length (Nat.zero_le _) (fun i => ⟨[(1, .clo (.func 64) [] [.ptr 0 0]), (2, .ptr 1 0), (8, .iv (relsI p)), (47, .iv (slc 5 p.rules Rule.c)), (48, pI p.rules.length), (49, pI i)], [(0, some (cellsI Diag.z.c)), (1, some (cellsI p.c))], 4⟩) (fun i => rulF p i = []) [] rfl
    (wk rfl rfl rfl ⟨.refl _, rfl, .refl _, rfl, .refl _, rfl, .refl _, rfl, .refl _, rfl, .refl _, rfl, trivial⟩ ⟨⟨_, rfl, .of_eq rfl⟩, Nat.le_of_ble_eq_true rfl, rfl, ⟨⟨_, rfl, .of_eq rfl⟩, Nat.le_of_ble_eq_true rfl, rfl, trivial⟩⟩ rfl) fun i hi hK => ?_
  refine gA rfl ?_
  refine And.intro (fun h2 => ?_) (fun h2 => ?_)
  · have h2 : i < p.rules.length := Int.ofNat_lt.1 (of_decide_eq_true h2)
    have hm : p.rules.getD i default ∈ p.rules := by rw [List.getD_eq_getElem?_getD, List.getElem?_eq_getElem h2]; exact List.getElem_mem h2
    refine gA rfl (go_pure (c65 p (p.rules.getD i default) ((i : Int) + 1) (hb3 _ hm)) rfl rfl rfl rfl rfl rfl ?_)
    refine gA rfl ?_
    refine And.intro (fun g => ?_) (fun g => ?_)
    · have g : ¬ (rulD p i).1 = 0 := by
        have g : (!decide ((rulD p i).1 = 0)) = true := g
        simpa only [Bool.not_eq_true', decide_eq_false_iff_not] using g
      rw [check_rul hJ hK h2 g]
      refine gA rfl (go_det [0] (d64 (rulD p i) Diag.z) rfl rfl rfl rfl rfl rfl rfl rfl ?_)
      refine gA rfl ?_
      refine And.intro (fun q => ?_) (fun q => ?_)
      rotate_left
      · exact absurd (show true = false from q) (by decide)
      refine gA rfl (end_det [] (by first | exact .inr rfl | exact .inl rfl) rfl (wk rfl rfl rfl ⟨.refl _, rfl, trivial⟩ ⟨⟨_, rfl, .of_eq rfl⟩, Nat.le_of_ble_eq_true rfl, rfl, trivial⟩ rfl))
    · have g : (rulD p i).1 = 0 := by
        have g : (!decide ((rulD p i).1 = 0)) = false := g
        simpa only [Bool.not_eq_false', decide_eq_true_eq] using g
      refine gA rfl ?_
      exact ⟨h2, by rw [rulF, hK, if_pos g]; rfl, [], wk rfl rfl rfl ⟨.refl _, rfl, .refl _, rfl, .refl _, rfl, .refl _, rfl, .refl _, rfl, .refl _, rfl, trivial⟩ ⟨⟨_, rfl, .of_eq rfl⟩, Nat.le_of_ble_eq_true rfl, rfl, ⟨⟨_, rfl, .of_eq rfl⟩, Nat.le_of_ble_eq_true rfl, rfl, trivial⟩⟩ rfl⟩
  have h2 : p.rules.length ≤ i := Nat.le_of_not_lt fun hh => absurd (Int.ofNat_lt.2 hh) (of_decide_eq_false h2)
  have hie : i = p.rules.length := by omega
  subst hie
  rw [check_no hJ hK]
  refine gA rfl (end_det [] (by first | exact .inr rfl | exact .inl rfl) rfl (wk rfl rfl rfl ⟨.refl _, rfl, trivial⟩ ⟨⟨_, rfl, .of_eq rfl⟩, Nat.le_of_ble_eq_true rfl, rfl, trivial⟩ rfl))
theorem c24 (p : Prog) (hb : p.fit) : Pure Tryz.prog 24 [ag p.c] (ag (checkD p).c) := by
  refine pure_end tyA_ok Tryz.func24 rfl (by decide) Tryz.ntmps24 rfl (by simp) rfl ?_
  refine gA rfl (go_det [2] (d63A p hb) rfl rfl rfl rfl rfl rfl rfl rfl ?_)
  refine gA rfl (end_le (by first | exact .inr rfl | exact .inl rfl) rfl (.of_eq ?_))
  rfl
theorem ownM_of2 {P : Program} {k : FuncId} {kc : KC} {V : Type} {e : V → IV} {z : V} {zv : Value} {dv : PV → V} {m : List (kc.K × V)} {rest : List PV} {y : PV} (hlow : belowL 0 rest = true) (hy : y.low 0 = true) (h : Al.Pure P k (.iv (.imap kc e z zv m) :: rest) y) : Det P k (.mp 0 :: rest) [.map kc e z zv dv m] y [] 1 := by
  refine ⟨h.1, fun M N w vs hr hl hv => ?_⟩
  obtain ⟨M1, h1, h2, h3, h4⟩ := frz_mapH (n := 1) hr (i := 0) rfl
  have hr2 : Rel M1 N (· < 0) (initH 0 []) w := ⟨h2.frz, fun i o hi => (nomatch hi), fun i o hi => (nomatch hi), fun i o hi => (nomatch hi), fun i j o p hi => (nomatch hi)⟩
  refine (h.2 M1 N w vs hr2 hl fun j p hj => ?_).mono ?_
  · cases j with
    | zero =>
      cases hj
      have := h4 _ _ (hv 0 _ rfl)
      generalize vs.getD 0 undef = x at this ⊢
      cases this with
      | iv _ _ h => exact .iv _ _ h
    | succ j => exact VR.down ((hv (j + 1) p hj).mono h1.mle (.refl _ _) fun _ h => h) (belowL_mem hlow j p hj)
  · rintro _ w' ⟨x, M', N', r, h', n', rfl, ⟨rfl, rfl, rfl⟩, hx, hrr, hvr⟩
    refine ⟨x, M', N, r, [], 1, rfl, ⟨rfl, rfl, rfl⟩, ?_, ⟨hrr.frz, fun i o hi => (nomatch hi), fun i o hi => (nomatch hi), fun i o hi => (nomatch hi), fun i j o p hi => (nomatch hi)⟩, ?_⟩
    · refine ⟨hx.os, hx.tape, hx.output, hx.size, fun b hb hn => hx.keep b hb fun i o hi => (nomatch hi), h1.mle.trans hx.mle, fun b c g1 g2 => ?_, .refl _ _, fun _ h => h, fun i o hi => (nomatch hi)⟩
      cases g3 : M1 b with
      | some c' => exact h1.mnew b c' g1 g3
      | none =>
        rcases hx.mnew b c g3 g2 with g4 | ⟨i, o, g4, _⟩
        · exact .inl g4
        · exact nomatch g4
    · exact (VR.down hvr hy).mono (.refl _) ⟨fun i hi => absurd hi (Nat.not_lt_zero i), fun i hi => absurd hi (Nat.not_lt_zero i)⟩ fun i hi => absurd hi (Nat.not_lt_zero i)
end Go.Proofs.YtpnclpbkecjinaaGreatDoorR
