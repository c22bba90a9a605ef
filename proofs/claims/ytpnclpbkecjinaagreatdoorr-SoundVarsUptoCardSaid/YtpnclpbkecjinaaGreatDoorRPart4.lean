/-
  SoundVars (up to the bound): what its proof needs. Part 4 of 7.
-/
import Derived.Test.YtpnclpbkecjinaaGreatDoorRPart3
import Derived.Sort.EncStr
import Derived.Sort.Grow
import Derived.WalkKit
import Derived.Lib.Builder
import Derived.Lib.UnsafeStr
import Derived.Laws.Externs
import Derived.Shelf.RegionOpenPlain
import Derived.KernelRfl
import Derived.Test.YtpnclpbkecjinaaGreatDoorRProg
import Derived.Lib.AppendStr
import Derived.Laws.RangeString
/-
  Local variables, and what a comparison or an aggregate limits, as the document has them: contracts of the reference's functions.
-/
namespace Go.Proofs.YtpnclpbkecjinaaGreatDoorR
open Go Go.Al
set_option maxRecDepth 10000

theorem filter_step {α : Type} [Inhabited α] {l : List α} {p : α → Bool} {i : Nat} (h : i < l.length) : (l.take (i + 1)).filter p = if p (l.getD i default) then (l.take i).filter p ++ [l.getD i default] else (l.take i).filter p := by
  rw [take_step h, List.filter_append]
  cases hp : p (l.getD i default) <;> simp only [List.filter_cons, List.filter_nil, hp] <;> simp
theorem filter_take_len {α : Type} (l : List α) (p : α → Bool) (i : Nat) : ((l.take i).filter p).length ≤ l.length := by
  have h1 := List.length_filter_le p (l.take i)
  have h2 : (l.take i).length ≤ l.length := by simp; omega
  omega

def litAt (r : Rule) (lit : Int) : Lit := r.body.getD lit.toNat default
def localL (r : Rule) (lit : Int) : List Str := if lit < 0 ∨ (r.body.length : Int) ≤ lit ∨ ¬ (litAt r lit).kind = 4 then [] else (innerVars (litAt r lit).agg).filter fun x => !inL (outer r) x

theorem Lit.agg_size (l : Lit) : l.agg.size + 2 ≤ l.size := by
  rw [l.size_eq]; unfold Agg.size Lit.agg; dsimp only; omega

theorem c36 (r : Rule) (lit : Int) (hb : r.size ≤ 1000000000000) : Pure Tryz.prog 36 [ag r.c, pI lit] (.iv (strs (localL r lit))) := by
  have hbu := hb
  unfold Rule.size at hbu
  refine pure_end tyA_ok Tryz.func36 rfl (by decide) Tryz.ntmps36 rfl (by simp) rfl ?_
  refine goR rfl (by trivial) ?_
  refine And.intro (fun h1 => ?_) (fun h1 => ?_)
  rotate_left
  · have h1 : lit < 0 := by simpa using h1
    refine goR rfl (by trivial) (end_le (by first | exact .inr rfl | exact .inl rfl) rfl ?_)
    rw [localL, if_pos (.inl h1)]; exact .nil _ _
  have h1 : ¬ lit < 0 := by simpa using h1
  refine goR rfl (by trivial) ?_
  refine And.intro (fun h2 => ?_) (fun h2 => ?_)
  rotate_left
  · have h2 : (r.body.length : Int) ≤ lit := by simpa using h2
    refine goR rfl (by trivial) (end_le (by first | exact .inr rfl | exact .inl rfl) rfl ?_)
    rw [localL, if_pos (.inr (.inl h2))]; exact .nil _ _
  have h2 : ¬ (r.body.length : Int) ≤ lit := by simpa using h2
  refine goR rfl (by simp; omega) ?_
  refine And.intro (fun h3 => ?_) (fun h3 => ?_)
  · have h3 : ¬ (litAt r lit).kind = 4 := by simpa [litAt] using h3
    refine goR rfl (by trivial) (end_le (by first | exact .inr rfl | exact .inl rfl) rfl ?_)
    rw [localL, if_pos (.inr (.inr h3))]; exact .nil _ _
  have h3 : (litAt r lit).kind = 4 := by simpa [litAt] using h3
  have hk : lit.toNat < r.body.length := by omega
  have hsz := Lit.sizes_get r.body lit.toNat hk
  have hag := (litAt r lit).agg_size
  have hiv := innerVars_len (litAt r lit).agg
  have hle : (litAt r lit).size ≤ Lit.sizes r.body := hsz
  refine goR rfl (by trivial) (go_pure (c30 r hb) rfl rfl rfl rfl rfl rfl ?_)
  refine goR rfl (by simp; omega) (go_pure (c80 (litAt r lit).agg (by omega)) rfl rfl rfl rfl rfl rfl ?_)
  refine goR rfl (by trivial) ?_
  refine go_virt 7 1 rfl ?_
  refine go_for 0 (innerVars (litAt r lit).agg).length (Nat.zero_le _) (fun i => ⟨[(5, .iv (strs (outer r))), (6, .iv (strs (innerVars (litAt r lit).agg))), (7, .sl 2 0 (((innerVars (litAt r lit).agg).take i).filter fun x => !inL (outer r) x).length 1), (8, pI i)], [(2, some (rowI 1 (((innerVars (litAt r lit).agg).take i).filter fun x => !inL (outer r) x) strC))], 3⟩) (fun _ => True) [1] trivial
    (wk rfl rfl rfl ⟨.refl _, rfl, .refl _, rfl, .refl _, rfl, .refl _, rfl, trivial⟩ (hR rfl rfl rfl trivial) rfl) fun i hi hJ => ?_
  have hfl := filter_take_len (innerVars (litAt r lit).agg) (fun x => !inL (outer r) x) i
  refine goR rfl (by trivial) ?_
  refine And.intro (fun h4 => ?_) (fun h4 => ?_)
  · have h4 : i < (innerVars (litAt r lit).agg).length := by simpa using h4
    have hs := filter_step (p := fun x => !inL (outer r) x) h4
    refine goR rfl (by simp; omega) (go_pure (c81 _ ((innerVars (litAt r lit).agg).getD i default)) rfl rfl rfl rfl rfl rfl ?_)
    refine goR rfl (by trivial) ?_
    refine And.intro (fun h5 => ?_) (fun h5 => ?_)
    · rw [if_pos h5] at hs
      refine goR rfl ?_ ⟨h4, trivial, [4], wk rfl rfl rfl ⟨.refl _, rfl, .refl _, rfl, .row (by rw [hs]; simp), rfl, .refl _, rfl, trivial⟩ (hR rfl (by rw [hs, List.map_append]; rfl) rfl trivial) rfl⟩
      repeat' (first | exact trivial | exact rfl | apply And.intro)
      all_goals first | omega | (simp; omega) | simp
    · rw [h5] at hs
      refine goR rfl (by (repeat' (first | exact trivial | exact rfl | exact PVle.refl _ | exact PVle.bk (by assumption) | apply And.intro)) <;> first | omega | (simp only [Int.toNat_natCast]; omega) | (simp; done) | (simp; omega)) ?_
      exact ⟨h4, trivial, [2], wk rfl rfl rfl ⟨.refl _, rfl, .refl _, rfl, .row (by rw [hs]; simp), rfl, .refl _, rfl, trivial⟩ (hR rfl (by rw [hs]; simp; try rfl) rfl trivial) rfl⟩
  · have h4 : (innerVars (litAt r lit).agg).length ≤ i := by simpa using h4
    have hin : localL r lit = ((innerVars (litAt r lit).agg).take i).filter fun x => !inL (outer r) x := by
      rw [List.take_of_length_le h4, localL, if_neg (by simp [h1, h3]; omega)]
    refine goR rfl (by trivial) (end_row (by first | exact .inr rfl | exact .inl rfl) rfl rfl (by rw [hin]) (by rw [hin]))

/-- The variable that a comparison sets. -/
def setsL (l : Lit) (known : List Str) : Str × Bool :=
  if ¬ l.kind = 3 ∨ ¬ l.op = 1 then (ByteArray.empty, false)
  else if l.left.kind = 1 ∧ allL known (exprVars l.left) = false ∧ allL known (exprVars l.right) = true then (l.left.var, true)
  else if l.right.kind = 1 ∧ allL known (exprVars l.right) = false ∧ allL known (exprVars l.left) = true then (l.right.var, true)
  else (ByteArray.empty, false)

theorem tupE {a b : Str × Bool} (h : a = b) : PV.tup [pS a.1, pB a.2] = .tup [pS b.1, pB b.2] := by rw [h]

theorem c128 (l : Lit) (known : List Str) (hb : l.size ≤ 1000000000000) : Pure Tryz.prog 128 [ag l.c, .iv (strs known)] (.tup [pS (setsL l known).1, pB (setsL l known).2]) := by
  have hsz := l.size_eq
  refine pure_end tyA_ok Tryz.func128 rfl (by decide) Tryz.ntmps128 rfl (by simp) rfl ?_
  refine goR rfl (by trivial) ?_
  refine And.intro (fun h1 => ?_) (fun h1 => ?_)
  rotate_left
  · have h1 : ¬ l.kind = 3 := by simpa using h1
    refine goR rfl (by trivial) (end_le (by first | exact .inr rfl | exact .inl rfl) rfl (.of_eq ?_))
    exact tupE (a := (ByteArray.empty, false)) (by rw [setsL, if_pos (.inl h1)])
  have h1 : l.kind = 3 := by simpa using h1
  refine goR rfl (by trivial) ?_
  refine And.intro (fun h2 => ?_) (fun h2 => ?_)
  · have h2 : ¬ l.op = 1 := by simpa using h2
    refine goR rfl (by trivial) (end_le (by first | exact .inr rfl | exact .inl rfl) rfl (.of_eq ?_))
    exact tupE (a := (ByteArray.empty, false)) (by rw [setsL, if_pos (.inr h2)])
  have h2 : l.op = 1 := by simpa using h2
  have e1 : setsL l known = if l.left.kind = 1 ∧ allL known (exprVars l.left) = false ∧ allL known (exprVars l.right) = true then (l.left.var, true)
      else if l.right.kind = 1 ∧ allL known (exprVars l.right) = false ∧ allL known (exprVars l.left) = true then (l.right.var, true)
      else (ByteArray.empty, false) := by rw [setsL, if_neg (by simp [h1, h2])]
  refine goR rfl (by trivial) (go_pure (c124' l.left (by omega)) rfl rfl rfl rfl rfl rfl ?_)
  refine goR rfl (by trivial) (go_pure (c124' l.right (by omega)) rfl rfl rfl rfl rfl rfl ?_)
  refine goR rfl (by trivial) (go_pure (c166 known (exprVars l.left)) rfl rfl rfl rfl rfl rfl ?_)
  refine goR rfl (by trivial) (go_pure (c166 known (exprVars l.right)) rfl rfl rfl rfl rfl rfl ?_)
  refine goR rfl (by trivial) ?_
  refine And.intro (fun h3 => ?_) (fun h3 => ?_)
  · have h3 : l.left.kind = 1 := by simpa using h3
    refine goR rfl (by trivial) ?_
    refine And.intro (fun h4 => ?_) (fun h4 => ?_)
    · have h4 : allL known (exprVars l.left) = false := by simpa using h4
      refine goR rfl (by trivial) ?_
      refine And.intro (fun h5 => ?_) (fun h5 => ?_)
      · refine goR rfl (by trivial) (end_le (by first | exact .inr rfl | exact .inl rfl) rfl (.of_eq ?_))
        exact tupE (a := (l.left.var, true)) (by rw [e1, if_pos ⟨h3, h4, h5⟩])
      · refine goR rfl (by trivial) ?_
        refine And.intro (fun h6 => ?_) (fun h6 => ?_)
        · have h6 : l.right.kind = 1 := by simpa using h6
          refine goR rfl (by trivial) ?_
          refine And.intro (fun h7 => ?_) (fun h7 => ?_)
          · refine goR rfl (by trivial) ?_
            refine And.intro (fun h8 => ?_) (fun h8 => ?_)
            · rw [h4] at h8; cases h8
            · refine goR rfl (by trivial) (end_le (by first | exact .inr rfl | exact .inl rfl) rfl (.of_eq ?_))
              exact tupE (a := (ByteArray.empty, false)) (by rw [e1, if_neg (by simp [h5]), if_neg (by simp [h4])])
          · rw [h5] at h7; cases h7
        · have h6 : ¬ l.right.kind = 1 := by simpa using h6
          refine goR rfl (by trivial) (end_le (by first | exact .inr rfl | exact .inl rfl) rfl (.of_eq ?_))
          exact tupE (a := (ByteArray.empty, false)) (by rw [e1, if_neg (by simp [h5]), if_neg (by simp [h4])])
    · have h4 : allL known (exprVars l.left) = true := by simpa using h4
      refine goR rfl (by trivial) ?_
      refine And.intro (fun h6 => ?_) (fun h6 => ?_)
      · have h6 : l.right.kind = 1 := by simpa using h6
        refine goR rfl (by trivial) ?_
        refine And.intro (fun h7 => ?_) (fun h7 => ?_)
        · have h7 : allL known (exprVars l.right) = false := by simpa using h7
          refine goR rfl (by trivial) ?_
          refine And.intro (fun h8 => ?_) (fun h8 => ?_)
          · refine goR rfl (by trivial) (end_le (by first | exact .inr rfl | exact .inl rfl) rfl (.of_eq ?_))
            exact tupE (a := (l.right.var, true)) (by rw [e1, if_neg (by simp [h4]), if_pos ⟨h6, h7, h4⟩])
          · rw [h4] at h8; cases h8
        · have h7 : allL known (exprVars l.right) = true := by simpa using h7
          refine goR rfl (by trivial) (end_le (by first | exact .inr rfl | exact .inl rfl) rfl (.of_eq ?_))
          exact tupE (a := (ByteArray.empty, false)) (by rw [e1, if_neg (by simp [h4]), if_neg (by simp [h7])])
      · have h6 : ¬ l.right.kind = 1 := by simpa using h6
        refine goR rfl (by trivial) (end_le (by first | exact .inr rfl | exact .inl rfl) rfl (.of_eq ?_))
        exact tupE (a := (ByteArray.empty, false)) (by rw [e1, if_neg (by simp [h4]), if_neg (by simp [h6])])
  · have h3 : ¬ l.left.kind = 1 := by simpa using h3
    refine goR rfl (by trivial) ?_
    refine And.intro (fun h6 => ?_) (fun h6 => ?_)
    · have h6 : l.right.kind = 1 := by simpa using h6
      refine goR rfl (by trivial) ?_
      refine And.intro (fun h7 => ?_) (fun h7 => ?_)
      · have h7 : allL known (exprVars l.right) = false := by simpa using h7
        refine goR rfl (by trivial) ?_
        refine And.intro (fun h8 => ?_) (fun h8 => ?_)
        · refine goR rfl (by trivial) (end_le (by first | exact .inr rfl | exact .inl rfl) rfl (.of_eq ?_))
          exact tupE (a := (l.right.var, true)) (by rw [e1, if_neg (by simp [h3]), if_pos ⟨h6, h7, h8⟩])
        · refine goR rfl (by trivial) (end_le (by first | exact .inr rfl | exact .inl rfl) rfl (.of_eq ?_))
          exact tupE (a := (ByteArray.empty, false)) (by rw [e1, if_neg (by simp [h3]), if_neg (by simp [h8])])
      · have h7 : allL known (exprVars l.right) = true := by simpa using h7
        refine goR rfl (by trivial) (end_le (by first | exact .inr rfl | exact .inl rfl) rfl (.of_eq ?_))
        exact tupE (a := (ByteArray.empty, false)) (by rw [e1, if_neg (by simp [h3]), if_neg (by simp [h7])])
    · have h6 : ¬ l.right.kind = 1 := by simpa using h6
      refine goR rfl (by trivial) (end_le (by first | exact .inr rfl | exact .inl rfl) rfl (.of_eq ?_))
      exact tupE (a := (ByteArray.empty, false)) (by rw [e1, if_neg (by simp [h3]), if_neg (by simp [h6])])

/-- Does an aggregate limit its variable? -/
def aggrB (a : Agg) (known outer : List Str) : Bool := !inL known a.var && (innerVars a).all fun x => !(inL outer x && (!inL known x && !decide (x = a.var)))

theorem c129 (a : Agg) (known outer : List Str) (hb : a.size ≤ 1000000000000) : Pure Tryz.prog 129 [ag a.c, .iv (strs known), .iv (strs outer)] (pB (aggrB a known outer)) := by
  have hiv := innerVars_len a
  refine pure_end tyA_ok Tryz.func129 rfl (by decide) Tryz.ntmps129 rfl (by simp) rfl ?_
  refine goR rfl (by trivial) (go_pure (c81 known a.var) rfl rfl rfl rfl rfl rfl ?_)
  refine goR rfl (by trivial) ?_
  refine And.intro (fun h1 => ?_) (fun h1 => ?_)
  · refine goR rfl (by trivial) (end_le (by first | exact .inr rfl | exact .inl rfl) rfl (.of_eq ?_))
    rw [aggrB, h1]; try rfl
  refine goR rfl (by trivial) (go_pure (c80 a hb) rfl rfl rfl rfl rfl rfl ?_)
  refine goR rfl (by trivial) ?_
  refine go_for 0 (innerVars a).length (Nat.zero_le _) (fun i => ⟨[(1, .iv (strs known)), (2, .iv (strs outer)), (3, .ptr 0 0), (8, .iv (strs (innerVars a))), (9, pI i)], [(0, some (cellsI a.c))], 1⟩) (fun i => ((innerVars a).take i).all (fun x => !(inL outer x && (!inL known x && !decide (x = a.var)))) = true) [] rfl
    (wk rfl rfl rfl ⟨.refl _, rfl, .refl _, rfl, .refl _, rfl, .refl _, rfl, .refl _, rfl, trivial⟩ (hC rfl rfl rfl trivial) rfl) fun i hi hJ => ?_
  refine goR rfl (by trivial) ?_
  refine And.intro (fun h2 => ?_) (fun h2 => ?_)
  · have h2 : i < (innerVars a).length := by simpa using h2
    refine goR rfl (by simp; omega) (go_pure (c81 outer ((innerVars a).getD i default)) rfl rfl rfl rfl rfl rfl ?_)
    refine goR rfl (by simp; omega) (go_pure (c81 known ((innerVars a).getD i default)) rfl rfl rfl rfl rfl rfl ?_)
    refine goR rfl (by trivial) ?_
    refine And.intro (fun h3 => ?_) (fun h3 => ?_)
    · refine goR rfl (by trivial) ?_
      refine And.intro (fun h4 => ?_) (fun h4 => ?_)
      · refine goR rfl (by simp; omega) ?_
        refine And.intro (fun h5 => ?_) (fun h5 => ?_)
        · refine goR rfl (by trivial) (end_le (by first | exact .inr rfl | exact .inl rfl) rfl (.of_eq ?_))
          rw [aggrB, all_miss h2 (show (!(inL outer ((innerVars a).getD i default) && (!inL known ((innerVars a).getD i default) && !decide ((innerVars a).getD i default = a.var)))) = false by rw [h3, h4, show (!decide ((innerVars a).getD i default = a.var)) = true from h5]; rfl)]; simp; try rfl
        · refine goR rfl (by (repeat' (first | exact trivial | exact rfl | exact PVle.refl _ | exact PVle.bk (by assumption) | apply And.intro)) <;> first | omega | (simp only [Int.toNat_natCast]; omega) | (simp; done) | (simp; omega)) ?_
          exact ⟨h2, (all_step hJ h2).2 (by rw [h3]; simp only [Bool.true_and]; rw [show (!decide ((innerVars a).getD i default = a.var)) = false from h5]; simp), [], wk rfl rfl rfl ⟨.refl _, rfl, .refl _, rfl, .refl _, rfl, .refl _, rfl, .refl _, rfl, trivial⟩ (hC rfl rfl rfl trivial) rfl⟩
      · refine goR rfl (by (repeat' (first | exact trivial | exact rfl | exact PVle.refl _ | exact PVle.bk (by assumption) | apply And.intro)) <;> first | omega | (simp only [Int.toNat_natCast]; omega) | (simp; done) | (simp; omega)) ?_
        exact ⟨h2, (all_step hJ h2).2 (by rw [h4]; simp), [], wk rfl rfl rfl ⟨.refl _, rfl, .refl _, rfl, .refl _, rfl, .refl _, rfl, .refl _, rfl, trivial⟩ (hC rfl rfl rfl trivial) rfl⟩
    · refine goR rfl (by (repeat' (first | exact trivial | exact rfl | exact PVle.refl _ | exact PVle.bk (by assumption) | apply And.intro)) <;> first | omega | (simp only [Int.toNat_natCast]; omega) | (simp; done) | (simp; omega)) ?_
      exact ⟨h2, (all_step hJ h2).2 (by rw [h3]; simp), [], wk rfl rfl rfl ⟨.refl _, rfl, .refl _, rfl, .refl _, rfl, .refl _, rfl, .refl _, rfl, trivial⟩ (hC rfl rfl rfl trivial) rfl⟩
  · have h2 : (innerVars a).length ≤ i := by simpa using h2
    refine goR rfl (by trivial) (end_le (by first | exact .inr rfl | exact .inl rfl) rfl (.of_eq ?_))
    rw [aggrB, h1, all_done hJ h2]; try rfl
end Go.Proofs.YtpnclpbkecjinaaGreatDoorR
/-
  Limited and plain variables as the document has them: contracts of the reference's functions.
-/
namespace Go.Proofs.YtpnclpbkecjinaaGreatDoorR
open Go Go.Al
set_option maxRecDepth 10000

/-- The variable that a comparison makes plain. -/
def copiesL (l : Lit) (known : List Str) : Str × Bool :=
  if ¬ l.kind = 3 ∨ ¬ l.op = 1 then (ByteArray.empty, false)
  else if l.left.kind = 1 ∧ inL known l.left.var = false ∧ (l.right.kind = 2 ∨ l.right.kind = 1 ∧ inL known l.right.var = true) then (l.left.var, true)
  else if l.right.kind = 1 ∧ (if l.left.kind = 1 then inL known l.left.var else decide (l.left.kind = 2)) = true then (l.right.var, !inL known l.right.var)
  else (ByteArray.empty, false)

theorem c78 (l : Lit) (known : List Str) : Pure Tryz.prog 78 [ag l.c, .iv (strs known)] (.tup [pS (copiesL l known).1, pB (copiesL l known).2]) := by
  refine pure_end tyA_ok Tryz.func78 rfl (by decide) Tryz.ntmps78 rfl (by simp) rfl ?_
  repeat' (first
    | (refine goR rfl (by trivial) (And.intro (fun _ => ?_) (fun _ => ?_)))
    | (refine goR rfl (by trivial) (go_pure (c81 known l.left.var) rfl rfl rfl rfl rfl rfl ?_))
    | (refine goR rfl (by trivial) (go_pure (c81 known l.right.var) rfl rfl rfl rfl rfl rfl ?_))
    | (refine goR rfl (by trivial) (end_le (by first | exact .inr rfl | exact .inl rfl) rfl (.of_eq ?_))))
  all_goals first
    | exact tupE (a := (ByteArray.empty, false)) (by simp_all [copiesL])
    | exact tupE (a := (l.left.var, true)) (by simp_all [copiesL])
    | exact tupE (a := (l.right.var, !inL known l.right.var)) (by simp_all [copiesL])
    | (exfalso; simp_all; done)
/-! What grows till nothing is new. -/
theorem exprVars_var {e : Expr} (h : e.kind = 1) : exprVars e = [e.var] := by
  rw [exprVars_eq, if_pos h, withL_ins]; rfl
theorem setsL_new {l : Lit} {k : List Str} (h : (setsL l k).2 = true) : ((setsL l k).1 = l.left.var ∨ (setsL l k).1 = l.right.var) ∧ (setsL l k).1 ∉ k := by
  unfold setsL at h ⊢
  split at h
  · cases h
  · rename_i h0
    rw [if_neg h0]
    split at h
    · rename_i h1
      rw [if_pos h1]
      refine ⟨.inl rfl, fun hk => ?_⟩
      have := h1.2.1
      rw [exprVars_var h1.1] at this
      simp [allL, inL_iff.2 hk] at this
    · rename_i h1
      rw [if_neg h1]
      split at h
      · rename_i h2
        rw [if_pos h2]
        refine ⟨.inr rfl, fun hk => ?_⟩
        have := h2.2.1
        rw [exprVars_var h2.1] at this
        simp [allL, inL_iff.2 hk] at this
      · cases h
theorem aggrB_new {a : Agg} {k o : List Str} (h : aggrB a k o = true) : a.var ∉ k := by
  unfold aggrB at h
  simp only [Bool.and_eq_true, Bool.not_eq_true'] at h
  exact inL_false.1 h.1

def cands (body : List Lit) : List Str := body.flatMap fun l => [l.left.var, l.right.var, l.avar]
def miss (c k : List Str) : Nat := (c.filter fun x => !inL k x).length
theorem cands_len : ∀ body : List Lit, (cands body).length = 3 * body.length
  | [] => rfl
  | l :: r => by have := cands_len r; simp only [cands, List.flatMap_cons, List.length_append, List.length_cons, List.length_nil] at this ⊢; omega
theorem miss_le (c k : List Str) : miss c k ≤ c.length := List.length_filter_le _ _
theorem miss_lt {v : Str} {k : List Str} : ∀ {c : List Str}, v ∈ c → v ∉ k → miss c (withL k v) < miss c k := by
  have mono : ∀ c : List Str, miss c (withL k v) ≤ miss c k := by
    intro c
    induction c with
    | nil => exact Nat.le_refl _
    | cons x r ih =>
      simp only [miss] at ih ⊢
      simp only [List.filter_cons]
      by_cases h1 : x ∈ k
      · have : inL (withL k v) x = true := inL_iff.2 (mem_withL.2 (.inl h1))
        rw [this, inL_iff.2 h1]; exact ih
      · simp only [inL_false.2 h1, Bool.not_false, if_true, List.length_cons]
        split <;> (try simp only [List.length_cons]) <;> omega
  intro c hc hk
  induction c with
  | nil => cases hc
  | cons x r ih =>
    have hm := mono r
    simp only [miss] at ih hm ⊢
    simp only [List.filter_cons]
    by_cases hx : x = v
    · subst hx
      have : inL (withL k x) x = true := inL_iff.2 (mem_withL.2 (.inr rfl))
      simp [this, inL_false.2 hk]; omega
    · have hr : v ∈ r := by
        rcases List.mem_cons.1 hc with h | h
        · exact absurd h.symm hx
        · exact h
      have ih := ih hr
      by_cases h1 : x ∈ k
      · have : inL (withL k v) x = true := inL_iff.2 (mem_withL.2 (.inl h1))
        simp [this, inL_iff.2 h1]; exact ih
      · have : inL (withL k v) x = false := inL_false.2 fun h => by rcases mem_withL.1 h with h | h; exact h1 h; exact hx h
        simp [this, inL_false.2 h1]; omega

/-- What a step yields: the variable, and whether it is one. -/
def stepV (own : Bool) (outer : List Str) (k : List Str) (l : Lit) : Str × Bool := if own = true ∧ l.kind = 4 then (l.avar, aggrB l.agg k outer) else setsL l k
def stepG (own : Bool) (outer : List Str) (a : List Str × Bool) (l : Lit) : List Str × Bool := if (stepV own outer a.1 l).2 = true then (withL a.1 (stepV own outer a.1 l).1, true) else a
def roundG (own : Bool) (outer : List Str) (body : List Lit) (k : List Str) : List Str × Bool := body.foldl (stepG own outer) (k, false)
def growN (own : Bool) (outer : List Str) (body : List Lit) : Nat → List Str → List Str
  | 0, k => k
  | n + 1, k => if (roundG own outer body k).2 = true then growN own outer body n (roundG own outer body k).1 else (roundG own outer body k).1
theorem growN_succ {own : Bool} {outer : List Str} {body : List Lit} {n : Nat} {k : List Str} : growN own outer body (n + 1) k = if (roundG own outer body k).2 = true then growN own outer body n (roundG own outer body k).1 else (roundG own outer body k).1 := rfl
def posF (k : List Str) (l : Lit) : List Str := if l.kind = 1 then withAll k (atomVars l.atom) else k
def grownL (own : Bool) (outer : List Str) (body : List Lit) (k : List Str) : List Str := growN own outer body (3 * body.length + 1) (body.foldl posF k)

theorem stepV_new {own : Bool} {outer k : List Str} {l : Lit} (h : (stepV own outer k l).2 = true) : (stepV own outer k l).1 ∈ [l.left.var, l.right.var, l.avar] ∧ (stepV own outer k l).1 ∉ k := by
  unfold stepV at h ⊢
  split at h
  · rename_i h1; rw [if_pos h1]; exact ⟨by simp, aggrB_new (a := l.agg) h⟩
  · rename_i h1; rw [if_neg h1]
    obtain ⟨h2, h3⟩ := setsL_new h
    refine ⟨?_, h3⟩
    rcases h2 with h2 | h2 <;> simp [h2]
theorem cands_mem {body : List Lit} {l : Lit} (h : l ∈ body) {v : Str} (hv : v ∈ [l.left.var, l.right.var, l.avar]) : v ∈ cands body := List.mem_flatMap.2 ⟨l, h, hv⟩
/-- A step's bounds. -/
theorem stepG_ok {own : Bool} {outer c : List Str} {a : List Str × Bool} {l : Lit} (hc : ∀ v ∈ [l.left.var, l.right.var, l.avar], v ∈ c) :
    (stepG own outer a l).1.length + miss c (stepG own outer a l).1 ≤ a.1.length + miss c a.1 ∧ miss c (stepG own outer a l).1 ≤ miss c a.1 ∧
    ((stepG own outer a l).2 = true → a.2 = true ∨ miss c (stepG own outer a l).1 < miss c a.1) := by
  unfold stepG
  split
  · rename_i h
    obtain ⟨h1, h2⟩ := stepV_new h
    have h3 := miss_lt (hc _ h1) h2
    have h4 := withL_len a.1 (stepV own outer a.1 l).1
    exact ⟨by dsimp only; omega, by dsimp only; omega, fun _ => .inr h3⟩
  · exact ⟨Nat.le_refl _, Nat.le_refl _, fun h => .inl h⟩
theorem foldG_ok {own : Bool} {outer c : List Str} : ∀ {body : List Lit} {a : List Str × Bool}, (∀ l ∈ body, ∀ v ∈ [l.left.var, l.right.var, l.avar], v ∈ c) →
    (body.foldl (stepG own outer) a).1.length + miss c (body.foldl (stepG own outer) a).1 ≤ a.1.length + miss c a.1 ∧ miss c (body.foldl (stepG own outer) a).1 ≤ miss c a.1 ∧
    ((body.foldl (stepG own outer) a).2 = true → a.2 = true ∨ miss c (body.foldl (stepG own outer) a).1 < miss c a.1)
  | [], a, _ => ⟨Nat.le_refl _, Nat.le_refl _, fun h => .inl h⟩
  | l :: r, a, hc => by
    obtain ⟨h1, h2, h3⟩ := stepG_ok (own := own) (outer := outer) (a := a) (hc l List.mem_cons_self)
    obtain ⟨g1, g2, g3⟩ := foldG_ok (own := own) (outer := outer) (body := r) (a := stepG own outer a l) fun l hl => hc l (List.mem_cons_of_mem _ hl)
    simp only [List.foldl_cons]
    refine ⟨by omega, by omega, fun h => ?_⟩
    rcases g3 h with g | g
    · rcases h3 g with h | h
      · exact .inl h
      · exact .inr (by omega)
    · exact .inr (by omega)
theorem posF_len (k : List Str) (l : Lit) : (posF k l).length + 2 ≤ k.length + l.size := by
  have h1 := withAll_len (atomVars l.atom) k
  have h2 := atomVars_len l.atom
  have h3 := l.size_eq
  unfold posF
  split <;> omega
theorem posF_fold_len : ∀ (l : List Lit) (a : List Str), (l.foldl posF a).length ≤ a.length + Lit.sizes l
  | [], a => by simp [Lit.sizes]
  | e :: r, a => by
    have h1 := posF_fold_len r (posF a e)
    have h2 := posF_len a e
    simp only [List.foldl_cons, Lit.sizes]; omega

theorem c74 (body : List Lit) (known outer : List Str) (own : Bool) (hb : known.length + 4 * Lit.sizes body ≤ 1000000000000) : Pure Tryz.prog 74 [.iv (lits body), .iv (strs known), .iv (strs outer), pB own] (.iv (strs (grownL own outer body known))) := by
  have hal := Lit.length_sizes body
  have hpl := posF_fold_len body known
  have hcl := cands_len body
  have hml := miss_le (cands body) (body.foldl posF known)
  refine pure_end tyA_ok Tryz.func74 rfl (by decide) Tryz.ntmps74 rfl (by simp) rfl ?_
  refine goR rfl (by trivial) ?_
  refine go_for 0 body.length (Nat.zero_le _) (fun i => ⟨[(0, .iv (lits body)), (1, .iv (strs ((body.take i).foldl posF known))), (2, .iv (strs outer)), (3, pB own), (9, pI i)], [], 0⟩) (fun _ => True) [] trivial
    (wk0 rfl rfl ⟨.refl _, rfl, .refl _, rfl, .refl _, rfl, .refl _, rfl, .refl _, rfl, trivial⟩ rfl) fun i hi _ => ?_
  refine goR rfl (by trivial) ?_
  refine And.intro (fun h1 => ?_) (fun h1 => ?_)
  · have h1 : i < body.length := by simpa using h1
    have hs := fold_step (g := posF) (b := known) h1
    have hv := posF_fold_len (body.take i) known
    have hn := Lit.sizes_next body i h1
    have hav := atomVars_len (body.getD i default).atom
    have hsz := (body.getD i default).size_eq
    refine goR rfl (by simp; omega) ?_
    refine And.intro (fun h2 => ?_) (fun h2 => ?_)
    · have h2 : (body.getD i default).kind = 1 := by simpa using h2
      rw [show posF ((body.take i).foldl posF known) (body.getD i default) = _ from if_pos h2] at hs
      refine goR rfl (by simp; omega) (go_pure (c69 (body.getD i default).atom (by omega)) rfl rfl rfl rfl rfl rfl ?_)
      refine goR rfl (by trivial) (go_pure (c71 _ _ (by omega)) rfl rfl rfl rfl rfl rfl ?_)
      refine goR rfl (by (repeat' (first | exact trivial | exact rfl | exact PVle.refl _ | exact PVle.bk (by assumption) | apply And.intro)) <;> first | omega | (simp only [Int.toNat_natCast]; omega) | (simp; done) | (simp; omega)) ?_
      exact ⟨h1, trivial, [], wk0 rfl rfl ⟨.refl _, rfl, .of_eq (by rw [hs]; rfl), rfl, .refl _, rfl, .refl _, rfl, .refl _, rfl, trivial⟩ rfl⟩
    · have h2 : ¬ (body.getD i default).kind = 1 := by simpa using h2
      rw [show posF ((body.take i).foldl posF known) (body.getD i default) = _ from if_neg h2] at hs
      refine goR rfl (by (repeat' (first | exact trivial | exact rfl | exact PVle.refl _ | exact PVle.bk (by assumption) | apply And.intro)) <;> first | omega | (simp only [Int.toNat_natCast]; omega) | (simp; done) | (simp; omega)) ?_
      exact ⟨h1, trivial, [], wk0 rfl rfl ⟨.refl _, rfl, .of_eq (by rw [hs]; rfl), rfl, .refl _, rfl, .refl _, rfl, .refl _, rfl, trivial⟩ rfl⟩
  have h1 : body.length ≤ i := by simpa using h1
  have e0 : (body.take i).foldl posF known = body.foldl posF known := fold_done h1
  rw [e0]
  refine goR rfl (by trivial) ?_
  refine go_lp (σ := { x : List Str × Bool × Nat // grownL own outer body known = (if x.2.1 = true then growN own outer body (x.2.2 + 1) x.1 else x.1) ∧ (x.2.1 = true → miss (cands body) x.1 ≤ x.2.2) ∧ x.1.length + miss (cands body) x.1 ≤ (body.foldl posF known).length + miss (cands body) (body.foldl posF known) })
    (fun x => ⟨[(0, .iv (lits body)), (1, .iv (strs x.1.1)), (2, .iv (strs outer)), (3, pB own), (11, pB x.1.2.1)], [], 0⟩) (fun x => if x.1.2.1 = true then miss (cands body) x.1.1 + 1 else 0)
    ⟨(body.foldl posF known, true, 3 * body.length), by simp [grownL], fun _ => by dsimp only; omega, Nat.le_refl _⟩ [] (wk0 rfl rfl ⟨.refl _, rfl, .refl _, rfl, .refl _, rfl, .refl _, rfl, .kb' rfl, rfl, trivial⟩ rfl) ?_
  rintro ⟨⟨k, more, f⟩, hx1, hx2, hx3⟩
  dsimp only at hx1 hx2 hx3 ⊢
  refine goR rfl (by trivial) ?_
  refine And.intro (fun h2 => ?_) (fun h2 => ?_)
  · subst h2
    rw [if_pos rfl] at hx1
    have hmf := hx2 rfl
    refine goR rfl (by trivial) ?_
    refine go_for 0 body.length (Nat.zero_le _) (fun i => ⟨[(0, .iv (lits body)), (1, .iv (strs ((body.take i).foldl (stepG own outer) (k, false)).1)), (2, .iv (strs outer)), (3, pB own), (11, pB ((body.take i).foldl (stepG own outer) (k, false)).2), (12, pI i)], [], 0⟩) (fun _ => True) [] trivial
      (wk0 rfl rfl ⟨.refl _, rfl, .refl _, rfl, .refl _, rfl, .refl _, rfl, .kb' rfl, rfl, .refl _, rfl, trivial⟩ rfl) fun i hi _ => ?_
    have hfo := foldG_ok (own := own) (outer := outer) (c := cands body) (body := body.take i) (a := (k, false)) fun l hl v hv => cands_mem (List.mem_of_mem_take hl) hv
    dsimp only at hfo
    refine goR rfl (by trivial) ?_
    refine And.intro (fun h3 => ?_) (fun h3 => ?_)
    · have h3 : i < body.length := by simpa using h3
      have hs := fold_step (g := stepG own outer) (b := (k, false)) h3
      generalize hka : (body.take i).foldl (stepG own outer) (k, false) = ka at hfo hs ⊢
      have hsl := Lit.sizes_get body i h3
      have hag := (body.getD i default).agg_size
      refine goR rfl (by simp; omega) (go_pure (c128 (body.getD i default) ka.1 (by omega)) rfl rfl rfl rfl rfl rfl ?_)
      refine goR rfl (by trivial) ?_
      refine And.intro (fun h4 => ?_) (fun h4 => ?_)
      · subst h4
        refine goR rfl (by simp; omega) ?_
        refine And.intro (fun h5 => ?_) (fun h5 => ?_)
        · have h5 : (body.getD i default).kind = 4 := by simpa using h5
          have hst : stepV true outer ka.1 (body.getD i default) = ((body.getD i default).avar, aggrB (body.getD i default).agg ka.1 outer) := if_pos ⟨rfl, h5⟩
          refine goR rfl (by simp; omega) (go_pure (c129 (body.getD i default).agg ka.1 outer (by omega)) rfl rfl rfl rfl rfl rfl ?_)
          refine goR rfl (by trivial) ?_
          refine And.intro (fun h6 => ?_) (fun h6 => ?_)
          · have hs2 : stepG true outer ka (body.getD i default) = (withL ka.1 (body.getD i default).avar, true) := by unfold stepG; rw [hst, if_pos h6]
            rw [hs2] at hs
            refine goR rfl (by trivial) (go_pure (c72 ka.1 _ (by omega)) rfl rfl rfl rfl rfl rfl ?_)
            refine goR rfl (by (repeat' (first | exact trivial | exact rfl | exact PVle.refl _ | exact PVle.bk (by assumption) | apply And.intro)) <;> first | omega | (simp only [Int.toNat_natCast]; omega) | (simp; done) | (simp; omega)) ?_
            exact ⟨h3, trivial, [], wk0 rfl rfl ⟨.refl _, rfl, .of_eq (by rw [hs]; rfl), rfl, .refl _, rfl, .refl _, rfl, .kb' (by rw [hs]), rfl, .refl _, rfl, trivial⟩ rfl⟩
          · have hs2 : stepG true outer ka (body.getD i default) = ka := by unfold stepG; rw [hst, if_neg (by rw [h6]; simp)]
            rw [hs2] at hs
            refine goR rfl (by (repeat' (first | exact trivial | exact rfl | exact PVle.refl _ | exact PVle.bk (by assumption) | apply And.intro)) <;> first | omega | (simp only [Int.toNat_natCast]; omega) | (simp; done) | (simp; omega)) ?_
            exact ⟨h3, trivial, [], wk0 rfl rfl ⟨.refl _, rfl, .of_eq (by rw [hs]; rfl), rfl, .refl _, rfl, .refl _, rfl, .of_eq (by rw [hs]; rfl), rfl, .refl _, rfl, trivial⟩ rfl⟩
        · have h5 : ¬ (body.getD i default).kind = 4 := by simpa using h5
          have hst : stepV true outer ka.1 (body.getD i default) = setsL (body.getD i default) ka.1 := if_neg (fun h => h5 h.2)
          refine goR rfl (by trivial) ?_
          refine And.intro (fun h6 => ?_) (fun h6 => ?_)
          · have hs2 : stepG true outer ka (body.getD i default) = (withL ka.1 (setsL (body.getD i default) ka.1).1, true) := by unfold stepG; rw [hst, if_pos h6]
            rw [hs2] at hs
            refine goR rfl (by trivial) (go_pure (c72 ka.1 _ (by omega)) rfl rfl rfl rfl rfl rfl ?_)
            refine goR rfl (by (repeat' (first | exact trivial | exact rfl | exact PVle.refl _ | exact PVle.bk (by assumption) | apply And.intro)) <;> first | omega | (simp only [Int.toNat_natCast]; omega) | (simp; done) | (simp; omega)) ?_
            exact ⟨h3, trivial, [], wk0 rfl rfl ⟨.refl _, rfl, .of_eq (by rw [hs]; rfl), rfl, .refl _, rfl, .refl _, rfl, .kb' (by rw [hs]), rfl, .refl _, rfl, trivial⟩ rfl⟩
          · have hs2 : stepG true outer ka (body.getD i default) = ka := by unfold stepG; rw [hst, if_neg (by rw [h6]; simp)]
            rw [hs2] at hs
            refine goR rfl (by (repeat' (first | exact trivial | exact rfl | exact PVle.refl _ | exact PVle.bk (by assumption) | apply And.intro)) <;> first | omega | (simp only [Int.toNat_natCast]; omega) | (simp; done) | (simp; omega)) ?_
            exact ⟨h3, trivial, [], wk0 rfl rfl ⟨.refl _, rfl, .of_eq (by rw [hs]; rfl), rfl, .refl _, rfl, .refl _, rfl, .of_eq (by rw [hs]; rfl), rfl, .refl _, rfl, trivial⟩ rfl⟩
      · have h4 : own = false := h4
        subst h4
        have hst : stepV false outer ka.1 (body.getD i default) = setsL (body.getD i default) ka.1 := if_neg (fun h => by cases h.1)
        refine goR rfl (by trivial) ?_
        refine And.intro (fun h6 => ?_) (fun h6 => ?_)
        · have hs2 : stepG false outer ka (body.getD i default) = (withL ka.1 (setsL (body.getD i default) ka.1).1, true) := by unfold stepG; rw [hst, if_pos h6]
          rw [hs2] at hs
          refine goR rfl (by trivial) (go_pure (c72 ka.1 _ (by omega)) rfl rfl rfl rfl rfl rfl ?_)
          refine goR rfl (by (repeat' (first | exact trivial | exact rfl | exact PVle.refl _ | exact PVle.bk (by assumption) | apply And.intro)) <;> first | omega | (simp only [Int.toNat_natCast]; omega) | (simp; done) | (simp; omega)) ?_
          exact ⟨h3, trivial, [], wk0 rfl rfl ⟨.refl _, rfl, .of_eq (by rw [hs]; rfl), rfl, .refl _, rfl, .refl _, rfl, .kb' (by rw [hs]), rfl, .refl _, rfl, trivial⟩ rfl⟩
        · have hs2 : stepG false outer ka (body.getD i default) = ka := by unfold stepG; rw [hst, if_neg (by rw [h6]; simp)]
          rw [hs2] at hs
          refine goR rfl (by (repeat' (first | exact trivial | exact rfl | exact PVle.refl _ | exact PVle.bk (by assumption) | apply And.intro)) <;> first | omega | (simp only [Int.toNat_natCast]; omega) | (simp; done) | (simp; omega)) ?_
          exact ⟨h3, trivial, [], wk0 rfl rfl ⟨.refl _, rfl, .of_eq (by rw [hs]; rfl), rfl, .refl _, rfl, .refl _, rfl, .of_eq (by rw [hs]; rfl), rfl, .refl _, rfl, trivial⟩ rfl⟩
    · have h3 : body.length ≤ i := by simpa using h3
      have e1 : (body.take i).foldl (stepG own outer) (k, false) = roundG own outer body k := fold_done h3
      rw [e1] at hfo ⊢
      refine goR rfl (by trivial) ?_
      refine ⟨⟨((roundG own outer body k).1, (roundG own outer body k).2, f - 1), ?_, fun hm => ?_, by dsimp only; omega⟩, [], ?_, wk0 rfl rfl ⟨.refl _, rfl, .refl _, rfl, .refl _, rfl, .refl _, rfl, .refl _, rfl, trivial⟩ rfl⟩
      · dsimp only
        rw [hx1, growN_succ]
        by_cases hm : (roundG own outer body k).2 = true
        · have := hfo.2.2 hm
          have hf1 : f - 1 + 1 = f := by simp at this; omega
          rw [if_pos hm, if_pos hm, hf1]
        · rw [if_neg hm, if_neg hm]
      · have := hfo.2.2 hm
        simp at this
        dsimp only; omega
      · dsimp only
        split
        · rename_i hm
          have := hfo.2.2 hm
          simp at this
          simp; omega
        · simp
  · subst h2
    rw [if_neg (by simp)] at hx1
    refine goR rfl (by trivial) (end_le (by first | exact .inr rfl | exact .inl rfl) rfl (.of_eq ?_))
    rw [hx1]; rfl
end Go.Proofs.YtpnclpbkecjinaaGreatDoorR
/-
  What closes a set of names: the ways in which the program calls it.
-/
namespace Go.Proofs.YtpnclpbkecjinaaGreatDoorR
open Go Go.Al
set_option maxRecDepth 10000

def copB (may : Expr → Bool) (occ : List Str) (l : Lit) : Str × Bool :=
  if ¬ l.kind = 3 ∨ ¬ l.op = 1 then (ByteArray.empty, false)
  else if l.left.kind = 1 ∧ inL occ l.left.var = false ∧ may l.right = true then (l.left.var, true)
  else if l.right.kind = 1 ∧ inL occ l.right.var = false ∧ may l.left = true then (l.right.var, true)
  else (ByteArray.empty, false)
theorem inL_cnt {occ : List Str} {s : Str} : inL occ s = !decide (lkD .str (occM occ) s 0 = 0) := by
  rw [occM_lk]
  by_cases h : s ∈ occ
  · have := cntL_pos.2 h
    rw [inL_iff.2 h]; simp; omega
  · rw [inL_false.2 h, cntL_zero.2 h]; rfl

def plainB (occ : List Str) (e : Expr) : Bool := decide (e.kind = 2) || (decide (e.kind = 1) && inL occ e.var)
theorem pBE {a b : Bool} (h : a = b) : pB a = pB b := by rw [h]
theorem d76 (occ : List Str) (e : Expr) (hb : e.size ≤ 1000000000000) : Det Tryz.prog 76 [ag e.c, .ptr 1 0] [nmO (occM occ), .cells [.mp 0]] (pB (plainB occ e)) [(0, some (nmO (occM occ))), (1, some (.cells [.mp 0]))] 2 := by
  have hlk := occM_lk occ e.var
  have hi := inL_cnt (occ := occ) (s := e.var)
  refine det_end tyA_ok Tryz.func76 rfl (by decide) Tryz.ntmps76 rfl (by simp) ?_
  repeat' (first
    | (refine goR rfl (by trivial) (And.intro (fun _ => ?_) (fun _ => ?_)))
    | fail)
  all_goals first
    | (refine goR rfl (by trivial) (end_det [] (.inr rfl) rfl (wk rfl rfl rfl ⟨.of_eq (pBE (a := true) ?_), rfl, trivial⟩ (hM rfl rfl rfl ⟨⟨_, rfl, .of_eq rfl⟩, Nat.le_of_ble_eq_true rfl, rfl, trivial⟩) rfl)); simp_all [plainB]; done)
    | (refine goR rfl (by trivial) (end_det [] (.inr rfl) rfl (wk rfl rfl rfl ⟨.of_eq (pBE (a := false) ?_), rfl, trivial⟩ (hM rfl rfl rfl ⟨⟨_, rfl, .of_eq rfl⟩, Nat.le_of_ble_eq_true rfl, rfl, trivial⟩) rfl)); simp_all [plainB]; done)
    | (refine goR rfl (by trivial) (end_det [] (.inr rfl) rfl (wk rfl rfl rfl ⟨.of_eq (pBE (a := decide (lkD .str (occM occ) e.var 0 > 0)) ?_), rfl, trivial⟩ (hM rfl rfl rfl ⟨⟨_, rfl, .of_eq rfl⟩, Nat.le_of_ble_eq_true rfl, rfl, trivial⟩) rfl)); rw [plainB, hi, hlk]; simp_all; by_cases hz : cntL occ e.var = 0 <;> simp [hz] <;> omega)
theorem c77 (a : Agg) : Pure Tryz.prog 77 [ag a.c] (pB false) := by
  refine pure_end tyA_ok Tryz.func77 rfl (by decide) Tryz.ntmps77 rfl (by simp) rfl ?_
  refine goR rfl (by trivial) (end_le (by first | exact .inr rfl | exact .inl rfl) rfl (.of_eq ?_))
  rfl
theorem c193 (a : Agg) : Pure Tryz.prog 193 [ag a.c] (pB false) := by
  refine pure_end tyA_ok Tryz.func193 rfl (by decide) Tryz.ntmps193 rfl (by simp) rfl ?_
  refine goR rfl (by trivial) (end_le (by first | exact .inr rfl | exact .inl rfl) rfl (.of_eq ?_))
  rfl

/-- May an aggregate limit its variable? -/
def moreB (out occ : List Str) (a : Agg) : Bool := (aggOcc a).all fun x => decide (x = a.var) || (!inL out x || inL occ x)
theorem d126 (r : Rule) (occ : List Str) (a : Agg) (hb : a.size ≤ 1000000000000) : Det Tryz.prog 126 [ag a.c, .ptr 1 0, .ptr 2 0] [nmO (occM occ), .cells [.iv (bookI r)], .cells [.mp 0]] (pB (moreB (outerOcc r) occ a)) [(0, some (nmO (occM occ))), (1, some (.cells [.iv (bookI r)])), (2, some (.cells [.mp 0]))] 3 := by
  refine det_end tyA_ok Tryz.func126 rfl (by decide) Tryz.ntmps126 rfl (by simp) ?_
  refine goR rfl (by trivial) (go_det [] (d127 a hb) rfl rfl rfl rfl rfl rfl rfl rfl ?_)
  refine goR rfl (by trivial) ?_
  refine go_rng (occM (aggOcc a)) (fun vs => ⟨[(1, .ptr 1 0), (2, .ptr 2 0), (3, .ptr 3 0), (8, .ptr 5 0)], [(0, some (nmO (occM occ))), (1, some (.cells [.iv (bookI r)])), (2, some (.cells [.mp 0])), (3, some (cellsI a.c)), (5, some (.miter .str evI (occM (aggOcc a)) vs none))], 6⟩) (fun vs => ∀ j ∈ vs, ∀ x, (occM (aggOcc a))[j]? = some x → (decide (x.1 = a.var) || (!inL (outerOcc r) x.1 || inL occ x.1)) = true) [] (by simp)
    (wk rfl rfl rfl ⟨.refl _, rfl, .refl _, rfl, .refl _, rfl, .refl _, rfl, trivial⟩ (hM rfl rfl rfl ⟨⟨_, rfl, .of_eq rfl⟩, Nat.le_of_ble_eq_true rfl, rfl, ⟨_, rfl, .of_eq rfl⟩, Nat.le_of_ble_eq_true rfl, rfl, hC rfl rfl rfl (hI rfl rfl (.inl rfl) rfl trivial)⟩) rfl) fun vs hJ => ?_
  refine goR rfl trivial (go_next rfl rfl rfl rfl rfl (by decide) (fun hall => ?_) fun j x hx hj => ?_)
  · refine goR rfl (by trivial) (end_det [] (by first | exact .inr rfl | exact .inl rfl) rfl (wk rfl rfl rfl ⟨.of_eq (pBE (a := true) (List.all_eq_true.2 fun t ht => all_keys (p := fun t => (decide (t = a.var) || (!inL (outerOcc r) t || inL occ t)) = true) hall hJ t ht).symm), rfl, trivial⟩ (hM rfl rfl rfl ⟨⟨_, rfl, .of_eq rfl⟩, Nat.le_of_ble_eq_true rfl, rfl, ⟨_, rfl, .of_eq rfl⟩, Nat.le_of_ble_eq_true rfl, rfl, trivial⟩) rfl))
  · have more : (decide (x.1 = a.var) || (!inL (outerOcc r) x.1 || inL occ x.1)) = true → ∀ i ∈ j :: vs, ∀ x, (occM (aggOcc a))[i]? = some x → (decide (x.1 = a.var) || (!inL (outerOcc r) x.1 || inL occ x.1)) = true := fun h i hi y hy => by
      rcases List.mem_cons.1 hi with rfl | hi
      · rw [hx] at hy; cases hy; exact h
      · exact hJ i hi y hy
    have h5 := inL_cnt (occ := outerOcc r) (s := x.1)
    have h6 := inL_cnt (occ := occ) (s := x.1)
    have h7 := occM_lk (outerOcc r) x.1
    have h8 := occM_lk occ x.1
    refine goR rfl (by trivial) ?_
    refine And.intro (fun g1 => ?_) (fun g1 => ?_)
    · have g1 : decide (x.1 = a.var) = false := by simpa using g1
      refine goR rfl (by trivial) ?_
      refine And.intro (fun g2 => ?_) (fun g2 => ?_)
      · have g2 : inL (outerOcc r) x.1 = true := by
          have := of_decide_eq_true g2
          rw [h5]; simp; omega
        refine goR rfl (by trivial) ?_
        refine And.intro (fun g3 => ?_) (fun g3 => ?_)
        · have g3 : inL occ x.1 = false := by rw [h6, g3]; rfl
          refine goR rfl (by trivial) (end_det [] (by first | exact .inr rfl | exact .inl rfl) rfl (wk rfl rfl rfl ⟨.of_eq (pBE (a := false) (List.all_eq_false.2 ⟨x.1, key_mem hx, by rw [g1, g2, g3]; simp⟩).symm), rfl, trivial⟩ (hM rfl rfl rfl ⟨⟨_, rfl, .of_eq rfl⟩, Nat.le_of_ble_eq_true rfl, rfl, ⟨_, rfl, .of_eq rfl⟩, Nat.le_of_ble_eq_true rfl, rfl, trivial⟩) rfl))
        · have g3 : inL occ x.1 = true := by rw [h6, g3]; rfl
          refine goR rfl (by trivial) ?_
          exact ⟨j, x, hx, hj, more (by rw [g3]; simp), [], wk rfl rfl rfl ⟨.refl _, rfl, .refl _, rfl, .refl _, rfl, .refl _, rfl, trivial⟩ (hM rfl rfl rfl ⟨⟨_, rfl, .of_eq rfl⟩, Nat.le_of_ble_eq_true rfl, rfl, ⟨_, rfl, .of_eq rfl⟩, Nat.le_of_ble_eq_true rfl, rfl, hC rfl rfl rfl (hI rfl rfl (.inr rfl) rfl trivial)⟩) rfl⟩
      · have g2 : inL (outerOcc r) x.1 = false := by
          have := of_decide_eq_false g2
          rw [h5]; simp; omega
        refine goR rfl (by trivial) ?_
        exact ⟨j, x, hx, hj, more (by rw [g2]; simp), [], wk rfl rfl rfl ⟨.refl _, rfl, .refl _, rfl, .refl _, rfl, .refl _, rfl, trivial⟩ (hM rfl rfl rfl ⟨⟨_, rfl, .of_eq rfl⟩, Nat.le_of_ble_eq_true rfl, rfl, ⟨_, rfl, .of_eq rfl⟩, Nat.le_of_ble_eq_true rfl, rfl, hC rfl rfl rfl (hI rfl rfl (.inr rfl) rfl trivial)⟩) rfl⟩
    · have g1 : decide (x.1 = a.var) = true := by simpa using g1
      refine goR rfl (by trivial) ?_
      exact ⟨j, x, hx, hj, more (by rw [g1]; simp), [], wk rfl rfl rfl ⟨.refl _, rfl, .refl _, rfl, .refl _, rfl, .refl _, rfl, trivial⟩ (hM rfl rfl rfl ⟨⟨_, rfl, .of_eq rfl⟩, Nat.le_of_ble_eq_true rfl, rfl, ⟨_, rfl, .of_eq rfl⟩, Nat.le_of_ble_eq_true rfl, rfl, hC rfl rfl rfl (hI rfl rfl (.inr rfl) rfl trivial)⟩) rfl⟩

/-! What is new next. -/
def newV (may : Expr → Bool) (more : Agg → Bool) (occ : List Str) (l : Lit) : Option Str :=
  if (copB may occ l).2 = true then some (copB may occ l).1 else if l.kind = 4 ∧ inL occ l.avar = false ∧ more l.agg = true then some l.avar else none
def firstV (may : Expr → Bool) (more : Agg → Bool) (occ : List Str) : List Lit → Option Str
  | [] => none
  | l :: r => match newV may more occ l with
    | some v => some v
    | none => firstV may more occ r
def closedN (may : List Str → Expr → Bool) (more : List Str → Agg → Bool) (body : List Lit) : Nat → List Str → List Str
  | 0, occ => occ
  | n + 1, occ => match firstV (may occ) (more occ) occ body with
    | some v => closedN may more body n (occ ++ [v])
    | none => occ
def posOcc (l : Lit) : List Str := if l.kind = 1 then atomOcc l.atom else []
def closedL (may : List Str → Expr → Bool) (more : List Str → Agg → Bool) (body : List Lit) (occ : List Str) : List Str := closedN may more body (3 * body.length + 1) (occ ++ body.flatMap posOcc)
theorem closedN_some {may : List Str → Expr → Bool} {more : List Str → Agg → Bool} {body : List Lit} {n : Nat} {occ : List Str} {v : Str} (h : firstV (may occ) (more occ) occ body = some v) : closedN may more body (n + 1) occ = closedN may more body n (occ ++ [v]) := by
  simp only [closedN, h]
theorem closedN_none {may : List Str → Expr → Bool} {more : List Str → Agg → Bool} {body : List Lit} {n : Nat} {occ : List Str} (h : firstV (may occ) (more occ) occ body = none) : closedN may more body (n + 1) occ = occ := by
  simp only [closedN, h]
theorem firstV_append {may : Expr → Bool} {more : Agg → Bool} {occ : List Str} : ∀ {l m : List Lit}, firstV may more occ l = none → firstV may more occ (l ++ m) = firstV may more occ m
  | [], _, _ => rfl
  | x :: r, m, h => by
    simp only [firstV] at h
    split at h
    · cases h
    · rename_i h1
      simp only [List.cons_append, firstV, h1]
      exact firstV_append h
theorem firstV_step {may : Expr → Bool} {more : Agg → Bool} {occ : List Str} {l : List Lit} {i : Nat} (h : firstV may more occ (l.take i) = none) (hi : i < l.length) (hx : newV may more occ (l.getD i default) = none) : firstV may more occ (l.take (i + 1)) = none := by
  rw [take_step hi, firstV_append h]; simp only [firstV, hx]
theorem firstV_hit {may : Expr → Bool} {more : Agg → Bool} {occ : List Str} {l : List Lit} {i : Nat} {v : Str} (h : firstV may more occ (l.take i) = none) (hi : i < l.length) (hx : newV may more occ (l.getD i default) = some v) : firstV may more occ l = some v := by
  have e : l = l.take i ++ (l.getD i default :: l.drop (i + 1)) := by
    rw [List.getD_eq_getElem?_getD, List.getElem?_eq_getElem hi, Option.getD_some, List.getElem_cons_drop, List.take_append_drop]
  rw [e, firstV_append h]
  simp only [firstV, hx]
theorem newV_new {may : Expr → Bool} {more : Agg → Bool} {occ : List Str} {l : Lit} {v : Str} (h : newV may more occ l = some v) : v ∈ [l.left.var, l.right.var, l.avar] ∧ v ∉ occ := by
  unfold newV at h
  split at h
  · rename_i h1
    simp only [Option.some.injEq] at h
    subst h
    unfold copB at h1 ⊢
    split at h1
    · cases h1
    · rename_i h0
      rw [if_neg h0]
      split at h1
      · rename_i h2; rw [if_pos h2]; exact ⟨by simp, inL_false.1 h2.2.1⟩
      · rename_i h2
        rw [if_neg h2]
        split at h1
        · rename_i h3; rw [if_pos h3]; exact ⟨by simp, inL_false.1 h3.2.1⟩
        · cases h1
  · split at h
    · rename_i h2
      simp only [Option.some.injEq] at h
      subst h
      exact ⟨by simp, inL_false.1 h2.2.1⟩
    · cases h
theorem firstV_new {may : Expr → Bool} {more : Agg → Bool} {occ : List Str} {v : Str} : ∀ {l : List Lit}, firstV may more occ l = some v → v ∈ cands l ∧ v ∉ occ
  | [], h => by cases h
  | x :: r, h => by
    simp only [firstV] at h
    split at h
    · rename_i w hw
      simp only [Option.some.injEq] at h
      subst h
      obtain ⟨h1, h2⟩ := newV_new hw
      exact ⟨cands_mem List.mem_cons_self h1, h2⟩
    · obtain ⟨h1, h2⟩ := firstV_new h
      refine ⟨?_, h2⟩
      simp only [cands, List.flatMap_cons, List.mem_append] at h1 ⊢
      exact .inr h1
theorem posOcc_len : ∀ l : List Lit, (l.flatMap posOcc).length ≤ Lit.sizes l
  | [] => by simp
  | e :: r => by
    have h2 := posOcc_len r
    have h3 : (posOcc e).length ≤ e.size := by
      have := atomOcc_len e.atom
      have := e.size_eq
      unfold posOcc
      split
      · omega
      · simp
    rw [List.flatMap_cons, List.length_append]
    simp only [Lit.sizes]; omega
theorem d130A (occ : List Str) (l : Lit) (hb : l.size ≤ 100000000000) : Det Tryz.prog 130 [ag l.c, .clo (.func 125) [.mp 0] [], .mp 0] [nmO (occM occ)] (.tup [pS (copB (coversB occ) occ l).1, pB (copB (coversB occ) occ l).2]) [(0, some (nmO (occM occ)))] 1 := by
  have hsz := l.size_eq
  have hl1 := occM_lk occ l.left.var
  have hl2 := occM_lk occ l.right.var
  refine det_end tyA_ok Tryz.func130 rfl (by decide) Tryz.ntmps130 rfl (by simp) ?_
  refine goR rfl (by trivial) ?_
  refine And.intro (fun h1 => ?_) (fun h1 => ?_)
  rotate_left
  · have h1 : ¬ l.kind = 3 := by simpa using h1
    refine goR rfl (by trivial) (end_det [] (by first | exact .inr rfl | exact .inl rfl) rfl (wk rfl rfl rfl ⟨.of_eq (tupE (a := (ByteArray.empty, false)) (by rw [copB, if_pos (.inl h1)])), rfl, trivial⟩ (hM rfl rfl rfl trivial) rfl))
  have h1 : l.kind = 3 := by simpa using h1
  refine goR rfl (by trivial) ?_
  refine And.intro (fun h2 => ?_) (fun h2 => ?_)
  · have h2 : ¬ l.op = 1 := by simpa using h2
    refine goR rfl (by trivial) (end_det [] (by first | exact .inr rfl | exact .inl rfl) rfl (wk rfl rfl rfl ⟨.of_eq (tupE (a := (ByteArray.empty, false)) (by rw [copB, if_pos (.inr h2)])), rfl, trivial⟩ (hM rfl rfl rfl trivial) rfl))
  have h2 : l.op = 1 := by simpa using h2
  have e1 : copB (coversB occ) occ l = if l.left.kind = 1 ∧ inL occ l.left.var = false ∧ (coversB occ) l.right = true then (l.left.var, true) else if l.right.kind = 1 ∧ inL occ l.right.var = false ∧ (coversB occ) l.left = true then (l.right.var, true) else (ByteArray.empty, false) := by
    rw [copB, if_neg (by simp [h1, h2])]
  repeat' (first
    | (refine goR rfl (by trivial) (And.intro (fun _ => ?_) (fun _ => ?_)))
    | (refine goR rfl (by trivial) (go_det [0] (d125 occ l.left (by omega)) rfl rfl rfl rfl rfl rfl rfl rfl ?_))
    | (refine goR rfl (by trivial) (go_det [0] (d125 occ l.right (by omega)) rfl rfl rfl rfl rfl rfl rfl rfl ?_))
    | fail)
  all_goals first
    | (refine goR rfl (by trivial) (end_det [] (.inr rfl) rfl (wk rfl rfl rfl ⟨.of_eq (tupE (a := (ByteArray.empty, false)) ?_), rfl, trivial⟩ (hM rfl rfl rfl trivial) rfl)); rw [e1]; simp only [inL_cnt] at *; simp_all; done)
    | (refine goR rfl (by trivial) (end_det [] (.inr rfl) rfl (wk rfl rfl rfl ⟨.of_eq (tupE (a := (l.left.var, true)) ?_), rfl, trivial⟩ (hM rfl rfl rfl trivial) rfl)); rw [e1]; simp only [inL_cnt] at *; simp_all; done)
    | (refine goR rfl (by trivial) (end_det [] (.inr rfl) rfl (wk rfl rfl rfl ⟨.of_eq (tupE (a := (l.right.var, true)) ?_), rfl, trivial⟩ (hM rfl rfl rfl trivial) rfl)); rw [e1]; simp only [inL_cnt] at *; simp_all; done)
    | (exfalso; simp_all; done)

theorem d75A (occ : List Str) (body : List Lit) (hb : occ.length + 8 * Lit.sizes body ≤ 100000000000) : Det Tryz.prog 75 [.iv (lits body), .mp 0, .clo (.func 125) [.mp 0] [], .clo (.func 193) [] []] [nmO (occM occ)] (.tup []) [(0, some (nmO (occM (closedL (fun occ => coversB occ) (fun occ => fun _ => false) body occ))))] 1 := by
  have hal := Lit.length_sizes body
  have hpl := posOcc_len body
  have hcl := cands_len body
  have hml := miss_le (cands body) (occ ++ body.flatMap posOcc)
  refine det_end tyA_ok Tryz.func75 rfl (by decide) Tryz.ntmps75 rfl (by simp) ?_
  refine goR rfl (by trivial) ?_
  refine go_for 0 body.length (Nat.zero_le _) (fun i => ⟨[(0, .iv (lits body)), (1, .mp 0), (2, .clo (.func 125) [.mp 0] []), (3, .clo (.func 193) [] []), (14, .iv (lits body)), (15, pI body.length), (16, pI i)], [(0, some (nmO (occM (occ ++ (body.take i).flatMap posOcc))))], 1⟩) (fun _ => True) [] trivial
    (wk rfl rfl rfl ⟨.refl _, rfl, .refl _, rfl, .refl _, rfl, .refl _, rfl, .refl _, rfl, .refl _, rfl, .refl _, rfl, trivial⟩ (hM rfl (by simp) rfl trivial) rfl) fun i hi _ => ?_
  refine goR rfl (by trivial) ?_
  refine And.intro (fun h1 => ?_) (fun h1 => ?_)
  · have h1 : i < body.length := by simpa using h1
    have hs := flatMap_step (f := posOcc) h1
    have hn := Lit.sizes_next body i h1
    have hv := posOcc_len (body.take i)
    have hsz := (body.getD i default).size_eq
    refine goR rfl (by simp; omega) ?_
    refine And.intro (fun h2 => ?_) (fun h2 => ?_)
    · have h2 : (body.getD i default).kind = 1 := by simpa using h2
      rw [show posOcc (body.getD i default) = _ from if_pos h2] at hs
      refine goR rfl (by trivial) (go_det [0] (d88 (occ ++ (body.take i).flatMap posOcc) (body.getD i default).atom (by rw [List.length_append]; omega)) rfl rfl rfl rfl rfl rfl rfl rfl ?_)
      refine goR rfl (by (repeat' (first | exact trivial | exact rfl | exact PVle.refl _ | exact PVle.bk (by assumption) | apply And.intro)) <;> first | omega | (simp only [Int.toNat_natCast]; omega) | (simp; done) | (simp; omega)) ?_
      exact ⟨h1, trivial, [], wk rfl rfl rfl ⟨.refl _, rfl, .refl _, rfl, .refl _, rfl, .refl _, rfl, .refl _, rfl, .refl _, rfl, .refl _, rfl, trivial⟩ (hM rfl (by rw [hs, List.append_assoc]) rfl trivial) rfl⟩
    · have h2 : ¬ (body.getD i default).kind = 1 := by simpa using h2
      rw [show posOcc (body.getD i default) = _ from if_neg h2, List.append_nil] at hs
      refine goR rfl (by (repeat' (first | exact trivial | exact rfl | exact PVle.refl _ | exact PVle.bk (by assumption) | apply And.intro)) <;> first | omega | (simp only [Int.toNat_natCast]; omega) | (simp; done) | (simp; omega)) ?_
      exact ⟨h1, trivial, [], wk rfl rfl rfl ⟨.refl _, rfl, .refl _, rfl, .refl _, rfl, .refl _, rfl, .refl _, rfl, .refl _, rfl, .refl _, rfl, trivial⟩ (hM rfl (by rw [hs]) rfl trivial) rfl⟩
  have h1 : body.length ≤ i := by simpa using h1
  have e0 : body.take i = body := List.take_of_length_le h1
  rw [e0]
  refine goR rfl (by trivial) ?_
  refine go_lp (σ := { x : List Str × Nat // closedL (fun occ => coversB occ) (fun occ => fun _ => false) body occ = closedN (fun occ => coversB occ) (fun occ => fun _ => false) body (x.2 + 1) x.1 ∧ miss (cands body) x.1 ≤ x.2 ∧ x.1.length + miss (cands body) x.1 ≤ (occ ++ body.flatMap posOcc).length + miss (cands body) (occ ++ body.flatMap posOcc) })
    (fun x => ⟨[(0, .iv (lits body)), (1, .mp 0), (2, .clo (.func 125) [.mp 0] []), (3, .clo (.func 193) [] [])], [(0, some (nmO (occM x.1.1)))], 1⟩) (fun x => miss (cands body) x.1.1)
    ⟨(occ ++ body.flatMap posOcc, 3 * body.length), rfl, by dsimp only; omega, Nat.le_refl _⟩ [] (wk rfl rfl rfl ⟨.refl _, rfl, .refl _, rfl, .refl _, rfl, .refl _, rfl, trivial⟩ (hM rfl rfl rfl trivial) rfl) ?_
  rintro ⟨⟨ok, f⟩, hx1, hx2, hx3⟩
  dsimp only at hx1 hx2 hx3 ⊢
  rw [List.length_append] at hx3
  refine goR rfl (by trivial) ?_
  refine go_for 0 body.length (Nat.zero_le _) (fun i => ⟨[(0, .iv (lits body)), (1, .mp 0), (2, .clo (.func 125) [.mp 0] []), (3, .clo (.func 193) [] []), (28, .iv (lits body)), (29, pI body.length), (30, pI i)], [(0, some (nmO (occM ok)))], 1⟩) (fun i => firstV ((fun occ => coversB occ) ok) ((fun occ => fun _ => false) ok) ok (body.take i) = none) [] rfl
    (wk rfl rfl rfl ⟨.refl _, rfl, .refl _, rfl, .refl _, rfl, .refl _, rfl, .refl _, rfl, .refl _, rfl, .refl _, rfl, trivial⟩ (hM rfl rfl rfl trivial) rfl) fun i hi hJ => ?_
  refine goR rfl (by trivial) ?_
  refine And.intro (fun h3 => ?_) (fun h3 => ?_)
  · have h3 : i < body.length := by simpa using h3
    have hsl := Lit.sizes_get body i h3
    have hag := (body.getD i default).agg_size
    have found : ∀ v, newV ((fun occ => coversB occ) ok) ((fun occ => fun _ => false) ok) ok (body.getD i default) = some v → closedL (fun occ => coversB occ) (fun occ => fun _ => false) body occ = closedN (fun occ => coversB occ) (fun occ => fun _ => false) body (f - 1 + 1) (ok ++ [v]) ∧ miss (cands body) (ok ++ [v]) ≤ f - 1 ∧
        (ok ++ [v]).length + miss (cands body) (ok ++ [v]) ≤ (occ ++ body.flatMap posOcc).length + miss (cands body) (occ ++ body.flatMap posOcc) ∧ miss (cands body) (ok ++ [v]) < miss (cands body) ok := by
      intro v hv
      have hf := firstV_hit hJ h3 hv
      obtain ⟨g1, g2⟩ := firstV_new hf
      have hlt := miss_lt g1 g2
      have hlt2 : miss (cands body) (ok ++ [v]) = miss (cands body) (withL ok v) := by
        unfold miss
        congr 2
        funext x
        congr 1
        rw [Bool.eq_iff_iff, inL_iff, inL_iff, mem_withL, List.mem_append, List.mem_singleton]
      have hf1 : f - 1 + 1 = f := by omega
      refine ⟨?_, by omega, ?_, by omega⟩
      · rw [hx1, closedN_some hf, hf1]
      · rw [List.length_append, List.length_append, List.length_singleton]; omega
    have hlk1 := occM_lk ok (copB (coversB ok) ok (body.getD i default)).1
    have hct1 := cntL_le ok (copB (coversB ok) ok (body.getD i default)).1
    have hlk2 := occM_lk ok (body.getD i default).avar
    have hct2 := cntL_le ok (body.getD i default).avar
    refine goR rfl (by simp; omega) (go_det [0] (d130A  ok (body.getD i default) (by omega)) rfl rfl rfl rfl rfl rfl rfl rfl ?_)
    refine goR rfl (by trivial) ?_
    refine And.intro (fun h4 => ?_) (fun h4 => ?_)
    · obtain ⟨g1, g2, g3, g4⟩ := found _ (if_pos h4)
      refine goR rfl (by (repeat' (first | exact trivial | exact rfl | exact PVle.refl _ | exact PVle.bk (by assumption) | apply And.intro)) <;> first | omega | (simp only [Int.toNat_natCast]; omega) | (simp; done) | (simp; omega)) ?_
      exact ⟨⟨(_, f - 1), g1, g2, g3⟩, [], g4, wk rfl rfl rfl ⟨.refl _, rfl, .refl _, rfl, .refl _, rfl, .refl _, rfl, trivial⟩ (hM rfl (by dsimp only; rw [occM_snoc]; rfl) rfl trivial) rfl⟩
    · refine goR rfl (by trivial) ?_
      refine And.intro (fun h5 => ?_) (fun h5 => ?_)
      · have h5 : (body.getD i default).kind = 4 := by simpa using h5
        refine goR rfl (by trivial) ?_
        refine And.intro (fun h6 => ?_) (fun h6 => ?_)
        · have h6 : inL ok (body.getD i default).avar = false := by rw [inL_cnt]; simpa using h6
          refine goR rfl (by trivial) (go_pure (c193 (body.getD i default).agg) rfl rfl rfl rfl rfl rfl ?_)
          refine goR rfl (by trivial) ?_
          refine And.intro (fun h7 => ?_) (fun h7 => ?_)
          · obtain ⟨g1, g2, g3, g4⟩ := found _ ((if_neg (by rw [h4]; simp)).trans (if_pos ⟨h5, h6, h7⟩))
            refine goR rfl (by trivial) ?_
            exact ⟨⟨(_, f - 1), g1, g2, g3⟩, [], g4, wk rfl rfl rfl ⟨.refl _, rfl, .refl _, rfl, .refl _, rfl, .refl _, rfl, trivial⟩ (hM rfl (by dsimp only; rw [occM_snoc]; rfl) rfl trivial) rfl⟩
          · refine goR rfl (by (repeat' (first | exact trivial | exact rfl | exact PVle.refl _ | exact PVle.bk (by assumption) | apply And.intro)) <;> first | omega | (simp only [Int.toNat_natCast]; omega) | (simp; done) | (simp; omega)) ?_
            exact ⟨h3, firstV_step hJ h3 ((if_neg (by rw [h4]; simp)).trans (if_neg (fun h => nomatch (h.2.2.symm.trans h7)))), [], wk rfl rfl rfl ⟨.refl _, rfl, .refl _, rfl, .refl _, rfl, .refl _, rfl, .refl _, rfl, .refl _, rfl, .refl _, rfl, trivial⟩ (hM rfl rfl rfl trivial) rfl⟩
        · have h6 : inL ok (body.getD i default).avar = true := by rw [inL_cnt]; simpa using h6
          refine goR rfl (by (repeat' (first | exact trivial | exact rfl | exact PVle.refl _ | exact PVle.bk (by assumption) | apply And.intro)) <;> first | omega | (simp only [Int.toNat_natCast]; omega) | (simp; done) | (simp; omega)) ?_
          exact ⟨h3, firstV_step hJ h3 ((if_neg (by rw [h4]; simp)).trans (if_neg (by rw [h6]; simp))), [], wk rfl rfl rfl ⟨.refl _, rfl, .refl _, rfl, .refl _, rfl, .refl _, rfl, .refl _, rfl, .refl _, rfl, .refl _, rfl, trivial⟩ (hM rfl rfl rfl trivial) rfl⟩
      · have h5 : ¬ (body.getD i default).kind = 4 := by simpa using h5
        refine goR rfl (by (repeat' (first | exact trivial | exact rfl | exact PVle.refl _ | exact PVle.bk (by assumption) | apply And.intro)) <;> first | omega | (simp only [Int.toNat_natCast]; omega) | (simp; done) | (simp; omega)) ?_
        exact ⟨h3, firstV_step hJ h3 ((if_neg (by rw [h4]; simp)).trans (if_neg (fun h => h5 h.1))), [], wk rfl rfl rfl ⟨.refl _, rfl, .refl _, rfl, .refl _, rfl, .refl _, rfl, .refl _, rfl, .refl _, rfl, .refl _, rfl, trivial⟩ (hM rfl rfl rfl trivial) rfl⟩
  · have h3 : body.length ≤ i := by simpa using h3
    rw [List.take_of_length_le h3] at hJ
    have hcl2 : closedL (fun occ => coversB occ) (fun occ => fun _ => false) body occ = ok := by rw [hx1, closedN_none hJ]
    refine goR rfl (by trivial) (end_det [] (by first | exact .inr rfl | exact .inl rfl) rfl (wk rfl rfl rfl ⟨.refl _, rfl, trivial⟩ (hM rfl (by rw [hcl2]) rfl trivial) rfl))


theorem d130B (occ : List Str) (l : Lit) (hb : l.size ≤ 100000000000) : Det Tryz.prog 130 [ag l.c, .clo (.func 76) [] [.ptr 1 0], .mp 0] [nmO (occM occ), .cells [.mp 0]] (.tup [pS (copB (plainB occ) occ l).1, pB (copB (plainB occ) occ l).2]) [(0, some (nmO (occM occ))), (1, some (.cells [.mp 0]))] 2 := by
  have hsz := l.size_eq
  have hl1 := occM_lk occ l.left.var
  have hl2 := occM_lk occ l.right.var
  refine det_end tyA_ok Tryz.func130 rfl (by decide) Tryz.ntmps130 rfl (by simp) ?_
  refine goR rfl (by trivial) ?_
  refine And.intro (fun h1 => ?_) (fun h1 => ?_)
  rotate_left
  · have h1 : ¬ l.kind = 3 := by simpa using h1
    refine goR rfl (by trivial) (end_det [] (by first | exact .inr rfl | exact .inl rfl) rfl (wk rfl rfl rfl ⟨.of_eq (tupE (a := (ByteArray.empty, false)) (by rw [copB, if_pos (.inl h1)])), rfl, trivial⟩ (hM rfl rfl rfl ⟨⟨_, rfl, .of_eq rfl⟩, Nat.le_of_ble_eq_true rfl, rfl, trivial⟩) rfl))
  have h1 : l.kind = 3 := by simpa using h1
  refine goR rfl (by trivial) ?_
  refine And.intro (fun h2 => ?_) (fun h2 => ?_)
  · have h2 : ¬ l.op = 1 := by simpa using h2
    refine goR rfl (by trivial) (end_det [] (by first | exact .inr rfl | exact .inl rfl) rfl (wk rfl rfl rfl ⟨.of_eq (tupE (a := (ByteArray.empty, false)) (by rw [copB, if_pos (.inr h2)])), rfl, trivial⟩ (hM rfl rfl rfl ⟨⟨_, rfl, .of_eq rfl⟩, Nat.le_of_ble_eq_true rfl, rfl, trivial⟩) rfl))
  have h2 : l.op = 1 := by simpa using h2
  have e1 : copB (plainB occ) occ l = if l.left.kind = 1 ∧ inL occ l.left.var = false ∧ (plainB occ) l.right = true then (l.left.var, true) else if l.right.kind = 1 ∧ inL occ l.right.var = false ∧ (plainB occ) l.left = true then (l.right.var, true) else (ByteArray.empty, false) := by
    rw [copB, if_neg (by simp [h1, h2])]
  repeat' (first
    | (refine goR rfl (by trivial) (And.intro (fun _ => ?_) (fun _ => ?_)))
    | (refine goR rfl (by trivial) (go_det [0, 1] (d76 occ l.left (by omega)) rfl rfl rfl rfl rfl rfl rfl rfl ?_))
    | (refine goR rfl (by trivial) (go_det [0, 1] (d76 occ l.right (by omega)) rfl rfl rfl rfl rfl rfl rfl rfl ?_))
    | fail)
  all_goals first
    | (refine goR rfl (by trivial) (end_det [] (.inr rfl) rfl (wk rfl rfl rfl ⟨.of_eq (tupE (a := (ByteArray.empty, false)) ?_), rfl, trivial⟩ (hM rfl rfl rfl ⟨⟨_, rfl, .of_eq rfl⟩, Nat.le_of_ble_eq_true rfl, rfl, trivial⟩) rfl)); rw [e1]; simp only [inL_cnt] at *; simp_all; done)
    | (refine goR rfl (by trivial) (end_det [] (.inr rfl) rfl (wk rfl rfl rfl ⟨.of_eq (tupE (a := (l.left.var, true)) ?_), rfl, trivial⟩ (hM rfl rfl rfl ⟨⟨_, rfl, .of_eq rfl⟩, Nat.le_of_ble_eq_true rfl, rfl, trivial⟩) rfl)); rw [e1]; simp only [inL_cnt] at *; simp_all; done)
    | (refine goR rfl (by trivial) (end_det [] (.inr rfl) rfl (wk rfl rfl rfl ⟨.of_eq (tupE (a := (l.right.var, true)) ?_), rfl, trivial⟩ (hM rfl rfl rfl ⟨⟨_, rfl, .of_eq rfl⟩, Nat.le_of_ble_eq_true rfl, rfl, trivial⟩) rfl)); rw [e1]; simp only [inL_cnt] at *; simp_all; done)
    | (exfalso; simp_all; done)

theorem d75B (occ : List Str) (body : List Lit) (hb : occ.length + 8 * Lit.sizes body ≤ 100000000000) : Det Tryz.prog 75 [.iv (lits body), .mp 0, .clo (.func 76) [] [.ptr 1 0], .clo (.func 77) [] []] [nmO (occM occ), .cells [.mp 0]] (.tup []) [(0, some (nmO (occM (closedL (fun occ => plainB occ) (fun occ => fun _ => false) body occ)))), (1, some (.cells [.mp 0]))] 2 := by
  have hal := Lit.length_sizes body
  have hpl := posOcc_len body
  have hcl := cands_len body
  have hml := miss_le (cands body) (occ ++ body.flatMap posOcc)
  refine det_end tyA_ok Tryz.func75 rfl (by decide) Tryz.ntmps75 rfl (by simp) ?_
  refine goR rfl (by trivial) ?_
  refine go_for 0 body.length (Nat.zero_le _) (fun i => ⟨[(0, .iv (lits body)), (1, .mp 0), (2, .clo (.func 76) [] [.ptr 1 0]), (3, .clo (.func 77) [] []), (14, .iv (lits body)), (15, pI body.length), (16, pI i)], [(0, some (nmO (occM (occ ++ (body.take i).flatMap posOcc)))), (1, some (.cells [.mp 0]))], 2⟩) (fun _ => True) [] trivial
    (wk rfl rfl rfl ⟨.refl _, rfl, .refl _, rfl, .refl _, rfl, .refl _, rfl, .refl _, rfl, .refl _, rfl, .refl _, rfl, trivial⟩ (hM rfl (by simp) rfl ⟨⟨_, rfl, .of_eq rfl⟩, Nat.le_of_ble_eq_true rfl, rfl, trivial⟩) rfl) fun i hi _ => ?_
  refine goR rfl (by trivial) ?_
  refine And.intro (fun h1 => ?_) (fun h1 => ?_)
  · have h1 : i < body.length := by simpa using h1
    have hs := flatMap_step (f := posOcc) h1
    have hn := Lit.sizes_next body i h1
    have hv := posOcc_len (body.take i)
    have hsz := (body.getD i default).size_eq
    refine goR rfl (by simp; omega) ?_
    refine And.intro (fun h2 => ?_) (fun h2 => ?_)
    · have h2 : (body.getD i default).kind = 1 := by simpa using h2
      rw [show posOcc (body.getD i default) = _ from if_pos h2] at hs
      refine goR rfl (by trivial) (go_det [0] (d88 (occ ++ (body.take i).flatMap posOcc) (body.getD i default).atom (by rw [List.length_append]; omega)) rfl rfl rfl rfl rfl rfl rfl rfl ?_)
      refine goR rfl (by (repeat' (first | exact trivial | exact rfl | exact PVle.refl _ | exact PVle.bk (by assumption) | apply And.intro)) <;> first | omega | (simp only [Int.toNat_natCast]; omega) | (simp; done) | (simp; omega)) ?_
      exact ⟨h1, trivial, [], wk rfl rfl rfl ⟨.refl _, rfl, .refl _, rfl, .refl _, rfl, .refl _, rfl, .refl _, rfl, .refl _, rfl, .refl _, rfl, trivial⟩ (hM rfl (by rw [hs, List.append_assoc]) rfl ⟨⟨_, rfl, .of_eq rfl⟩, Nat.le_of_ble_eq_true rfl, rfl, trivial⟩) rfl⟩
    · have h2 : ¬ (body.getD i default).kind = 1 := by simpa using h2
      rw [show posOcc (body.getD i default) = _ from if_neg h2, List.append_nil] at hs
      refine goR rfl (by (repeat' (first | exact trivial | exact rfl | exact PVle.refl _ | exact PVle.bk (by assumption) | apply And.intro)) <;> first | omega | (simp only [Int.toNat_natCast]; omega) | (simp; done) | (simp; omega)) ?_
      exact ⟨h1, trivial, [], wk rfl rfl rfl ⟨.refl _, rfl, .refl _, rfl, .refl _, rfl, .refl _, rfl, .refl _, rfl, .refl _, rfl, .refl _, rfl, trivial⟩ (hM rfl (by rw [hs]) rfl ⟨⟨_, rfl, .of_eq rfl⟩, Nat.le_of_ble_eq_true rfl, rfl, trivial⟩) rfl⟩
  have h1 : body.length ≤ i := by simpa using h1
  have e0 : body.take i = body := List.take_of_length_le h1
  rw [e0]
  refine goR rfl (by trivial) ?_
  refine go_lp (σ := { x : List Str × Nat // closedL (fun occ => plainB occ) (fun occ => fun _ => false) body occ = closedN (fun occ => plainB occ) (fun occ => fun _ => false) body (x.2 + 1) x.1 ∧ miss (cands body) x.1 ≤ x.2 ∧ x.1.length + miss (cands body) x.1 ≤ (occ ++ body.flatMap posOcc).length + miss (cands body) (occ ++ body.flatMap posOcc) })
    (fun x => ⟨[(0, .iv (lits body)), (1, .mp 0), (2, .clo (.func 76) [] [.ptr 1 0]), (3, .clo (.func 77) [] [])], [(0, some (nmO (occM x.1.1))), (1, some (.cells [.mp 0]))], 2⟩) (fun x => miss (cands body) x.1.1)
    ⟨(occ ++ body.flatMap posOcc, 3 * body.length), rfl, by dsimp only; omega, Nat.le_refl _⟩ [] (wk rfl rfl rfl ⟨.refl _, rfl, .refl _, rfl, .refl _, rfl, .refl _, rfl, trivial⟩ (hM rfl rfl rfl ⟨⟨_, rfl, .of_eq rfl⟩, Nat.le_of_ble_eq_true rfl, rfl, trivial⟩) rfl) ?_
  rintro ⟨⟨ok, f⟩, hx1, hx2, hx3⟩
  dsimp only at hx1 hx2 hx3 ⊢
  rw [List.length_append] at hx3
  refine goR rfl (by trivial) ?_
  refine go_for 0 body.length (Nat.zero_le _) (fun i => ⟨[(0, .iv (lits body)), (1, .mp 0), (2, .clo (.func 76) [] [.ptr 1 0]), (3, .clo (.func 77) [] []), (28, .iv (lits body)), (29, pI body.length), (30, pI i)], [(0, some (nmO (occM ok))), (1, some (.cells [.mp 0]))], 2⟩) (fun i => firstV ((fun occ => plainB occ) ok) ((fun occ => fun _ => false) ok) ok (body.take i) = none) [] rfl
    (wk rfl rfl rfl ⟨.refl _, rfl, .refl _, rfl, .refl _, rfl, .refl _, rfl, .refl _, rfl, .refl _, rfl, .refl _, rfl, trivial⟩ (hM rfl rfl rfl ⟨⟨_, rfl, .of_eq rfl⟩, Nat.le_of_ble_eq_true rfl, rfl, trivial⟩) rfl) fun i hi hJ => ?_
  refine goR rfl (by trivial) ?_
  refine And.intro (fun h3 => ?_) (fun h3 => ?_)
  · have h3 : i < body.length := by simpa using h3
    have hsl := Lit.sizes_get body i h3
    have hag := (body.getD i default).agg_size
    have found : ∀ v, newV ((fun occ => plainB occ) ok) ((fun occ => fun _ => false) ok) ok (body.getD i default) = some v → closedL (fun occ => plainB occ) (fun occ => fun _ => false) body occ = closedN (fun occ => plainB occ) (fun occ => fun _ => false) body (f - 1 + 1) (ok ++ [v]) ∧ miss (cands body) (ok ++ [v]) ≤ f - 1 ∧
        (ok ++ [v]).length + miss (cands body) (ok ++ [v]) ≤ (occ ++ body.flatMap posOcc).length + miss (cands body) (occ ++ body.flatMap posOcc) ∧ miss (cands body) (ok ++ [v]) < miss (cands body) ok := by
      intro v hv
      have hf := firstV_hit hJ h3 hv
      obtain ⟨g1, g2⟩ := firstV_new hf
      have hlt := miss_lt g1 g2
      have hlt2 : miss (cands body) (ok ++ [v]) = miss (cands body) (withL ok v) := by
        unfold miss
        congr 2
        funext x
        congr 1
        rw [Bool.eq_iff_iff, inL_iff, inL_iff, mem_withL, List.mem_append, List.mem_singleton]
      have hf1 : f - 1 + 1 = f := by omega
      refine ⟨?_, by omega, ?_, by omega⟩
      · rw [hx1, closedN_some hf, hf1]
      · rw [List.length_append, List.length_append, List.length_singleton]; omega
    have hlk1 := occM_lk ok (copB (plainB ok) ok (body.getD i default)).1
    have hct1 := cntL_le ok (copB (plainB ok) ok (body.getD i default)).1
    have hlk2 := occM_lk ok (body.getD i default).avar
    have hct2 := cntL_le ok (body.getD i default).avar
    refine goR rfl (by simp; omega) (go_det [0, 1] (d130B  ok (body.getD i default) (by omega)) rfl rfl rfl rfl rfl rfl rfl rfl ?_)
    refine goR rfl (by trivial) ?_
    refine And.intro (fun h4 => ?_) (fun h4 => ?_)
    · obtain ⟨g1, g2, g3, g4⟩ := found _ (if_pos h4)
      refine goR rfl (by (repeat' (first | exact trivial | exact rfl | exact PVle.refl _ | exact PVle.bk (by assumption) | apply And.intro)) <;> first | omega | (simp only [Int.toNat_natCast]; omega) | (simp; done) | (simp; omega)) ?_
      exact ⟨⟨(_, f - 1), g1, g2, g3⟩, [], g4, wk rfl rfl rfl ⟨.refl _, rfl, .refl _, rfl, .refl _, rfl, .refl _, rfl, trivial⟩ (hM rfl (by dsimp only; rw [occM_snoc]; rfl) rfl ⟨⟨_, rfl, .of_eq rfl⟩, Nat.le_of_ble_eq_true rfl, rfl, trivial⟩) rfl⟩
    · refine goR rfl (by trivial) ?_
      refine And.intro (fun h5 => ?_) (fun h5 => ?_)
      · have h5 : (body.getD i default).kind = 4 := by simpa using h5
        refine goR rfl (by trivial) ?_
        refine And.intro (fun h6 => ?_) (fun h6 => ?_)
        · have h6 : inL ok (body.getD i default).avar = false := by rw [inL_cnt]; simpa using h6
          refine goR rfl (by trivial) (go_pure (c77 (body.getD i default).agg) rfl rfl rfl rfl rfl rfl ?_)
          refine goR rfl (by trivial) ?_
          refine And.intro (fun h7 => ?_) (fun h7 => ?_)
          · obtain ⟨g1, g2, g3, g4⟩ := found _ ((if_neg (by rw [h4]; simp)).trans (if_pos ⟨h5, h6, h7⟩))
            refine goR rfl (by trivial) ?_
            exact ⟨⟨(_, f - 1), g1, g2, g3⟩, [], g4, wk rfl rfl rfl ⟨.refl _, rfl, .refl _, rfl, .refl _, rfl, .refl _, rfl, trivial⟩ (hM rfl (by dsimp only; rw [occM_snoc]; rfl) rfl ⟨⟨_, rfl, .of_eq rfl⟩, Nat.le_of_ble_eq_true rfl, rfl, trivial⟩) rfl⟩
          · refine goR rfl (by (repeat' (first | exact trivial | exact rfl | exact PVle.refl _ | exact PVle.bk (by assumption) | apply And.intro)) <;> first | omega | (simp only [Int.toNat_natCast]; omega) | (simp; done) | (simp; omega)) ?_
            exact ⟨h3, firstV_step hJ h3 ((if_neg (by rw [h4]; simp)).trans (if_neg (fun h => nomatch (h.2.2.symm.trans h7)))), [], wk rfl rfl rfl ⟨.refl _, rfl, .refl _, rfl, .refl _, rfl, .refl _, rfl, .refl _, rfl, .refl _, rfl, .refl _, rfl, trivial⟩ (hM rfl rfl rfl ⟨⟨_, rfl, .of_eq rfl⟩, Nat.le_of_ble_eq_true rfl, rfl, trivial⟩) rfl⟩
        · have h6 : inL ok (body.getD i default).avar = true := by rw [inL_cnt]; simpa using h6
          refine goR rfl (by (repeat' (first | exact trivial | exact rfl | exact PVle.refl _ | exact PVle.bk (by assumption) | apply And.intro)) <;> first | omega | (simp only [Int.toNat_natCast]; omega) | (simp; done) | (simp; omega)) ?_
          exact ⟨h3, firstV_step hJ h3 ((if_neg (by rw [h4]; simp)).trans (if_neg (by rw [h6]; simp))), [], wk rfl rfl rfl ⟨.refl _, rfl, .refl _, rfl, .refl _, rfl, .refl _, rfl, .refl _, rfl, .refl _, rfl, .refl _, rfl, trivial⟩ (hM rfl rfl rfl ⟨⟨_, rfl, .of_eq rfl⟩, Nat.le_of_ble_eq_true rfl, rfl, trivial⟩) rfl⟩
      · have h5 : ¬ (body.getD i default).kind = 4 := by simpa using h5
        refine goR rfl (by (repeat' (first | exact trivial | exact rfl | exact PVle.refl _ | exact PVle.bk (by assumption) | apply And.intro)) <;> first | omega | (simp only [Int.toNat_natCast]; omega) | (simp; done) | (simp; omega)) ?_
        exact ⟨h3, firstV_step hJ h3 ((if_neg (by rw [h4]; simp)).trans (if_neg (fun h => h5 h.1))), [], wk rfl rfl rfl ⟨.refl _, rfl, .refl _, rfl, .refl _, rfl, .refl _, rfl, .refl _, rfl, .refl _, rfl, .refl _, rfl, trivial⟩ (hM rfl rfl rfl ⟨⟨_, rfl, .of_eq rfl⟩, Nat.le_of_ble_eq_true rfl, rfl, trivial⟩) rfl⟩
  · have h3 : body.length ≤ i := by simpa using h3
    rw [List.take_of_length_le h3] at hJ
    have hcl2 : closedL (fun occ => plainB occ) (fun occ => fun _ => false) body occ = ok := by rw [hx1, closedN_none hJ]
    refine goR rfl (by trivial) (end_det [] (by first | exact .inr rfl | exact .inl rfl) rfl (wk rfl rfl rfl ⟨.refl _, rfl, trivial⟩ (hM rfl (by rw [hcl2]) rfl ⟨⟨_, rfl, .of_eq rfl⟩, Nat.le_of_ble_eq_true rfl, rfl, trivial⟩) rfl))


theorem d130C (r : Rule) (occ : List Str) (l : Lit) (hb : l.size ≤ 100000000000) : Det Tryz.prog 130 [ag l.c, .clo (.func 125) [.mp 0] [], .mp 0] [nmO (occM occ), .cells [.iv (bookI r)], .cells [.mp 0]] (.tup [pS (copB (coversB occ) occ l).1, pB (copB (coversB occ) occ l).2]) [(0, some (nmO (occM occ))), (1, some (.cells [.iv (bookI r)])), (2, some (.cells [.mp 0]))] 3 := by
  have hsz := l.size_eq
  have hl1 := occM_lk occ l.left.var
  have hl2 := occM_lk occ l.right.var
  refine det_end tyA_ok Tryz.func130 rfl (by decide) Tryz.ntmps130 rfl (by simp) ?_
  refine goR rfl (by trivial) ?_
  refine And.intro (fun h1 => ?_) (fun h1 => ?_)
  rotate_left
  · have h1 : ¬ l.kind = 3 := by simpa using h1
    refine goR rfl (by trivial) (end_det [] (by first | exact .inr rfl | exact .inl rfl) rfl (wk rfl rfl rfl ⟨.of_eq (tupE (a := (ByteArray.empty, false)) (by rw [copB, if_pos (.inl h1)])), rfl, trivial⟩ (hM rfl rfl rfl ⟨⟨_, rfl, .of_eq rfl⟩, Nat.le_of_ble_eq_true rfl, rfl, ⟨_, rfl, .of_eq rfl⟩, Nat.le_of_ble_eq_true rfl, rfl, trivial⟩) rfl))
  have h1 : l.kind = 3 := by simpa using h1
  refine goR rfl (by trivial) ?_
  refine And.intro (fun h2 => ?_) (fun h2 => ?_)
  · have h2 : ¬ l.op = 1 := by simpa using h2
    refine goR rfl (by trivial) (end_det [] (by first | exact .inr rfl | exact .inl rfl) rfl (wk rfl rfl rfl ⟨.of_eq (tupE (a := (ByteArray.empty, false)) (by rw [copB, if_pos (.inr h2)])), rfl, trivial⟩ (hM rfl rfl rfl ⟨⟨_, rfl, .of_eq rfl⟩, Nat.le_of_ble_eq_true rfl, rfl, ⟨_, rfl, .of_eq rfl⟩, Nat.le_of_ble_eq_true rfl, rfl, trivial⟩) rfl))
  have h2 : l.op = 1 := by simpa using h2
  have e1 : copB (coversB occ) occ l = if l.left.kind = 1 ∧ inL occ l.left.var = false ∧ (coversB occ) l.right = true then (l.left.var, true) else if l.right.kind = 1 ∧ inL occ l.right.var = false ∧ (coversB occ) l.left = true then (l.right.var, true) else (ByteArray.empty, false) := by
    rw [copB, if_neg (by simp [h1, h2])]
  repeat' (first
    | (refine goR rfl (by trivial) (And.intro (fun _ => ?_) (fun _ => ?_)))
    | (refine goR rfl (by trivial) (go_det [0] (d125 occ l.left (by omega)) rfl rfl rfl rfl rfl rfl rfl rfl ?_))
    | (refine goR rfl (by trivial) (go_det [0] (d125 occ l.right (by omega)) rfl rfl rfl rfl rfl rfl rfl rfl ?_))
    | fail)
  all_goals first
    | (refine goR rfl (by trivial) (end_det [] (.inr rfl) rfl (wk rfl rfl rfl ⟨.of_eq (tupE (a := (ByteArray.empty, false)) ?_), rfl, trivial⟩ (hM rfl rfl rfl ⟨⟨_, rfl, .of_eq rfl⟩, Nat.le_of_ble_eq_true rfl, rfl, ⟨_, rfl, .of_eq rfl⟩, Nat.le_of_ble_eq_true rfl, rfl, trivial⟩) rfl)); rw [e1]; simp only [inL_cnt] at *; simp_all; done)
    | (refine goR rfl (by trivial) (end_det [] (.inr rfl) rfl (wk rfl rfl rfl ⟨.of_eq (tupE (a := (l.left.var, true)) ?_), rfl, trivial⟩ (hM rfl rfl rfl ⟨⟨_, rfl, .of_eq rfl⟩, Nat.le_of_ble_eq_true rfl, rfl, ⟨_, rfl, .of_eq rfl⟩, Nat.le_of_ble_eq_true rfl, rfl, trivial⟩) rfl)); rw [e1]; simp only [inL_cnt] at *; simp_all; done)
    | (refine goR rfl (by trivial) (end_det [] (.inr rfl) rfl (wk rfl rfl rfl ⟨.of_eq (tupE (a := (l.right.var, true)) ?_), rfl, trivial⟩ (hM rfl rfl rfl ⟨⟨_, rfl, .of_eq rfl⟩, Nat.le_of_ble_eq_true rfl, rfl, ⟨_, rfl, .of_eq rfl⟩, Nat.le_of_ble_eq_true rfl, rfl, trivial⟩) rfl)); rw [e1]; simp only [inL_cnt] at *; simp_all; done)
    | (exfalso; simp_all; done)

theorem d75C (r : Rule) (occ : List Str) (body : List Lit) (hb : occ.length + 8 * Lit.sizes body ≤ 100000000000) : Det Tryz.prog 75 [.iv (lits body), .mp 0, .clo (.func 125) [.mp 0] [], .clo (.func 126) [] [.ptr 1 0, .ptr 2 0]] [nmO (occM occ), .cells [.iv (bookI r)], .cells [.mp 0]] (.tup []) [(0, some (nmO (occM (closedL (fun occ => coversB occ) (fun occ => moreB (outerOcc r) occ) body occ)))), (1, some (.cells [.iv (bookI r)])), (2, some (.cells [.mp 0]))] 3 := by
  have hal := Lit.length_sizes body
  have hpl := posOcc_len body
  have hcl := cands_len body
  have hml := miss_le (cands body) (occ ++ body.flatMap posOcc)
  refine det_end tyA_ok Tryz.func75 rfl (by decide) Tryz.ntmps75 rfl (by simp) ?_
  refine goR rfl (by trivial) ?_
  refine go_for 0 body.length (Nat.zero_le _) (fun i => ⟨[(0, .iv (lits body)), (1, .mp 0), (2, .clo (.func 125) [.mp 0] []), (3, .clo (.func 126) [] [.ptr 1 0, .ptr 2 0]), (14, .iv (lits body)), (15, pI body.length), (16, pI i)], [(0, some (nmO (occM (occ ++ (body.take i).flatMap posOcc)))), (1, some (.cells [.iv (bookI r)])), (2, some (.cells [.mp 0]))], 3⟩) (fun _ => True) [] trivial
    (wk rfl rfl rfl ⟨.refl _, rfl, .refl _, rfl, .refl _, rfl, .refl _, rfl, .refl _, rfl, .refl _, rfl, .refl _, rfl, trivial⟩ (hM rfl (by simp) rfl ⟨⟨_, rfl, .of_eq rfl⟩, Nat.le_of_ble_eq_true rfl, rfl, ⟨_, rfl, .of_eq rfl⟩, Nat.le_of_ble_eq_true rfl, rfl, trivial⟩) rfl) fun i hi _ => ?_
  refine goR rfl (by trivial) ?_
  refine And.intro (fun h1 => ?_) (fun h1 => ?_)
  · have h1 : i < body.length := by simpa using h1
    have hs := flatMap_step (f := posOcc) h1
    have hn := Lit.sizes_next body i h1
    have hv := posOcc_len (body.take i)
    have hsz := (body.getD i default).size_eq
    refine goR rfl (by simp; omega) ?_
    refine And.intro (fun h2 => ?_) (fun h2 => ?_)
    · have h2 : (body.getD i default).kind = 1 := by simpa using h2
      rw [show posOcc (body.getD i default) = _ from if_pos h2] at hs
      refine goR rfl (by trivial) (go_det [0] (d88 (occ ++ (body.take i).flatMap posOcc) (body.getD i default).atom (by rw [List.length_append]; omega)) rfl rfl rfl rfl rfl rfl rfl rfl ?_)
      refine goR rfl (by (repeat' (first | exact trivial | exact rfl | exact PVle.refl _ | exact PVle.bk (by assumption) | apply And.intro)) <;> first | omega | (simp only [Int.toNat_natCast]; omega) | (simp; done) | (simp; omega)) ?_
      exact ⟨h1, trivial, [], wk rfl rfl rfl ⟨.refl _, rfl, .refl _, rfl, .refl _, rfl, .refl _, rfl, .refl _, rfl, .refl _, rfl, .refl _, rfl, trivial⟩ (hM rfl (by rw [hs, List.append_assoc]) rfl ⟨⟨_, rfl, .of_eq rfl⟩, Nat.le_of_ble_eq_true rfl, rfl, ⟨_, rfl, .of_eq rfl⟩, Nat.le_of_ble_eq_true rfl, rfl, trivial⟩) rfl⟩
    · have h2 : ¬ (body.getD i default).kind = 1 := by simpa using h2
      rw [show posOcc (body.getD i default) = _ from if_neg h2, List.append_nil] at hs
      refine goR rfl (by (repeat' (first | exact trivial | exact rfl | exact PVle.refl _ | exact PVle.bk (by assumption) | apply And.intro)) <;> first | omega | (simp only [Int.toNat_natCast]; omega) | (simp; done) | (simp; omega)) ?_
      exact ⟨h1, trivial, [], wk rfl rfl rfl ⟨.refl _, rfl, .refl _, rfl, .refl _, rfl, .refl _, rfl, .refl _, rfl, .refl _, rfl, .refl _, rfl, trivial⟩ (hM rfl (by rw [hs]) rfl ⟨⟨_, rfl, .of_eq rfl⟩, Nat.le_of_ble_eq_true rfl, rfl, ⟨_, rfl, .of_eq rfl⟩, Nat.le_of_ble_eq_true rfl, rfl, trivial⟩) rfl⟩
  have h1 : body.length ≤ i := by simpa using h1
  have e0 : body.take i = body := List.take_of_length_le h1
  rw [e0]
  refine goR rfl (by trivial) ?_
  refine go_lp (σ := { x : List Str × Nat // closedL (fun occ => coversB occ) (fun occ => moreB (outerOcc r) occ) body occ = closedN (fun occ => coversB occ) (fun occ => moreB (outerOcc r) occ) body (x.2 + 1) x.1 ∧ miss (cands body) x.1 ≤ x.2 ∧ x.1.length + miss (cands body) x.1 ≤ (occ ++ body.flatMap posOcc).length + miss (cands body) (occ ++ body.flatMap posOcc) })
    (fun x => ⟨[(0, .iv (lits body)), (1, .mp 0), (2, .clo (.func 125) [.mp 0] []), (3, .clo (.func 126) [] [.ptr 1 0, .ptr 2 0])], [(0, some (nmO (occM x.1.1))), (1, some (.cells [.iv (bookI r)])), (2, some (.cells [.mp 0]))], 3⟩) (fun x => miss (cands body) x.1.1)
    ⟨(occ ++ body.flatMap posOcc, 3 * body.length), rfl, by dsimp only; omega, Nat.le_refl _⟩ [] (wk rfl rfl rfl ⟨.refl _, rfl, .refl _, rfl, .refl _, rfl, .refl _, rfl, trivial⟩ (hM rfl rfl rfl ⟨⟨_, rfl, .of_eq rfl⟩, Nat.le_of_ble_eq_true rfl, rfl, ⟨_, rfl, .of_eq rfl⟩, Nat.le_of_ble_eq_true rfl, rfl, trivial⟩) rfl) ?_
  rintro ⟨⟨ok, f⟩, hx1, hx2, hx3⟩
  dsimp only at hx1 hx2 hx3 ⊢
  rw [List.length_append] at hx3
  refine goR rfl (by trivial) ?_
  refine go_for 0 body.length (Nat.zero_le _) (fun i => ⟨[(0, .iv (lits body)), (1, .mp 0), (2, .clo (.func 125) [.mp 0] []), (3, .clo (.func 126) [] [.ptr 1 0, .ptr 2 0]), (28, .iv (lits body)), (29, pI body.length), (30, pI i)], [(0, some (nmO (occM ok))), (1, some (.cells [.iv (bookI r)])), (2, some (.cells [.mp 0]))], 3⟩) (fun i => firstV ((fun occ => coversB occ) ok) ((fun occ => moreB (outerOcc r) occ) ok) ok (body.take i) = none) [] rfl
    (wk rfl rfl rfl ⟨.refl _, rfl, .refl _, rfl, .refl _, rfl, .refl _, rfl, .refl _, rfl, .refl _, rfl, .refl _, rfl, trivial⟩ (hM rfl rfl rfl ⟨⟨_, rfl, .of_eq rfl⟩, Nat.le_of_ble_eq_true rfl, rfl, ⟨_, rfl, .of_eq rfl⟩, Nat.le_of_ble_eq_true rfl, rfl, trivial⟩) rfl) fun i hi hJ => ?_
  refine goR rfl (by trivial) ?_
  refine And.intro (fun h3 => ?_) (fun h3 => ?_)
  · have h3 : i < body.length := by simpa using h3
    have hsl := Lit.sizes_get body i h3
    have hag := (body.getD i default).agg_size
    have found : ∀ v, newV ((fun occ => coversB occ) ok) ((fun occ => moreB (outerOcc r) occ) ok) ok (body.getD i default) = some v → closedL (fun occ => coversB occ) (fun occ => moreB (outerOcc r) occ) body occ = closedN (fun occ => coversB occ) (fun occ => moreB (outerOcc r) occ) body (f - 1 + 1) (ok ++ [v]) ∧ miss (cands body) (ok ++ [v]) ≤ f - 1 ∧
        (ok ++ [v]).length + miss (cands body) (ok ++ [v]) ≤ (occ ++ body.flatMap posOcc).length + miss (cands body) (occ ++ body.flatMap posOcc) ∧ miss (cands body) (ok ++ [v]) < miss (cands body) ok := by
      intro v hv
      have hf := firstV_hit hJ h3 hv
      obtain ⟨g1, g2⟩ := firstV_new hf
      have hlt := miss_lt g1 g2
      have hlt2 : miss (cands body) (ok ++ [v]) = miss (cands body) (withL ok v) := by
        unfold miss
        congr 2
        funext x
        congr 1
        rw [Bool.eq_iff_iff, inL_iff, inL_iff, mem_withL, List.mem_append, List.mem_singleton]
      have hf1 : f - 1 + 1 = f := by omega
      refine ⟨?_, by omega, ?_, by omega⟩
      · rw [hx1, closedN_some hf, hf1]
      · rw [List.length_append, List.length_append, List.length_singleton]; omega
    have hlk1 := occM_lk ok (copB (coversB ok) ok (body.getD i default)).1
    have hct1 := cntL_le ok (copB (coversB ok) ok (body.getD i default)).1
    have hlk2 := occM_lk ok (body.getD i default).avar
    have hct2 := cntL_le ok (body.getD i default).avar
    refine goR rfl (by simp; omega) (go_det [0, 1, 2] (d130C r ok (body.getD i default) (by omega)) rfl rfl rfl rfl rfl rfl rfl rfl ?_)
    refine goR rfl (by trivial) ?_
    refine And.intro (fun h4 => ?_) (fun h4 => ?_)
    · obtain ⟨g1, g2, g3, g4⟩ := found _ (if_pos h4)
      refine goR rfl (by (repeat' (first | exact trivial | exact rfl | exact PVle.refl _ | exact PVle.bk (by assumption) | apply And.intro)) <;> first | omega | (simp only [Int.toNat_natCast]; omega) | (simp; done) | (simp; omega)) ?_
      exact ⟨⟨(_, f - 1), g1, g2, g3⟩, [], g4, wk rfl rfl rfl ⟨.refl _, rfl, .refl _, rfl, .refl _, rfl, .refl _, rfl, trivial⟩ (hM rfl (by dsimp only; rw [occM_snoc]; rfl) rfl ⟨⟨_, rfl, .of_eq rfl⟩, Nat.le_of_ble_eq_true rfl, rfl, ⟨_, rfl, .of_eq rfl⟩, Nat.le_of_ble_eq_true rfl, rfl, trivial⟩) rfl⟩
    · refine goR rfl (by trivial) ?_
      refine And.intro (fun h5 => ?_) (fun h5 => ?_)
      · have h5 : (body.getD i default).kind = 4 := by simpa using h5
        refine goR rfl (by trivial) ?_
        refine And.intro (fun h6 => ?_) (fun h6 => ?_)
        · have h6 : inL ok (body.getD i default).avar = false := by rw [inL_cnt]; simpa using h6
          refine goR rfl (by trivial) (go_det [0, 1, 2] (d126 r ok (body.getD i default).agg (by omega)) rfl rfl rfl rfl rfl rfl rfl rfl ?_)
          refine goR rfl (by trivial) ?_
          refine And.intro (fun h7 => ?_) (fun h7 => ?_)
          · obtain ⟨g1, g2, g3, g4⟩ := found _ ((if_neg (by rw [h4]; simp)).trans (if_pos ⟨h5, h6, h7⟩))
            refine goR rfl (by (repeat' (first | exact trivial | exact rfl | exact PVle.refl _ | exact PVle.bk (by assumption) | apply And.intro)) <;> first | omega | (simp only [Int.toNat_natCast]; omega) | (simp; done) | (simp; omega)) ?_
            exact ⟨⟨(_, f - 1), g1, g2, g3⟩, [], g4, wk rfl rfl rfl ⟨.refl _, rfl, .refl _, rfl, .refl _, rfl, .refl _, rfl, trivial⟩ (hM rfl (by dsimp only; rw [occM_snoc]; rfl) rfl ⟨⟨_, rfl, .of_eq rfl⟩, Nat.le_of_ble_eq_true rfl, rfl, ⟨_, rfl, .of_eq rfl⟩, Nat.le_of_ble_eq_true rfl, rfl, trivial⟩) rfl⟩
          · refine goR rfl (by (repeat' (first | exact trivial | exact rfl | exact PVle.refl _ | exact PVle.bk (by assumption) | apply And.intro)) <;> first | omega | (simp only [Int.toNat_natCast]; omega) | (simp; done) | (simp; omega)) ?_
            exact ⟨h3, firstV_step hJ h3 ((if_neg (by rw [h4]; simp)).trans (if_neg (fun h => nomatch (h.2.2.symm.trans h7)))), [], wk rfl rfl rfl ⟨.refl _, rfl, .refl _, rfl, .refl _, rfl, .refl _, rfl, .refl _, rfl, .refl _, rfl, .refl _, rfl, trivial⟩ (hM rfl rfl rfl ⟨⟨_, rfl, .of_eq rfl⟩, Nat.le_of_ble_eq_true rfl, rfl, ⟨_, rfl, .of_eq rfl⟩, Nat.le_of_ble_eq_true rfl, rfl, trivial⟩) rfl⟩
        · have h6 : inL ok (body.getD i default).avar = true := by rw [inL_cnt]; simpa using h6
          refine goR rfl (by (repeat' (first | exact trivial | exact rfl | exact PVle.refl _ | exact PVle.bk (by assumption) | apply And.intro)) <;> first | omega | (simp only [Int.toNat_natCast]; omega) | (simp; done) | (simp; omega)) ?_
          exact ⟨h3, firstV_step hJ h3 ((if_neg (by rw [h4]; simp)).trans (if_neg (by rw [h6]; simp))), [], wk rfl rfl rfl ⟨.refl _, rfl, .refl _, rfl, .refl _, rfl, .refl _, rfl, .refl _, rfl, .refl _, rfl, .refl _, rfl, trivial⟩ (hM rfl rfl rfl ⟨⟨_, rfl, .of_eq rfl⟩, Nat.le_of_ble_eq_true rfl, rfl, ⟨_, rfl, .of_eq rfl⟩, Nat.le_of_ble_eq_true rfl, rfl, trivial⟩) rfl⟩
      · have h5 : ¬ (body.getD i default).kind = 4 := by simpa using h5
        refine goR rfl (by (repeat' (first | exact trivial | exact rfl | exact PVle.refl _ | exact PVle.bk (by assumption) | apply And.intro)) <;> first | omega | (simp only [Int.toNat_natCast]; omega) | (simp; done) | (simp; omega)) ?_
        exact ⟨h3, firstV_step hJ h3 ((if_neg (by rw [h4]; simp)).trans (if_neg (fun h => h5 h.1))), [], wk rfl rfl rfl ⟨.refl _, rfl, .refl _, rfl, .refl _, rfl, .refl _, rfl, .refl _, rfl, .refl _, rfl, .refl _, rfl, trivial⟩ (hM rfl rfl rfl ⟨⟨_, rfl, .of_eq rfl⟩, Nat.le_of_ble_eq_true rfl, rfl, ⟨_, rfl, .of_eq rfl⟩, Nat.le_of_ble_eq_true rfl, rfl, trivial⟩) rfl⟩
  · have h3 : body.length ≤ i := by simpa using h3
    rw [List.take_of_length_le h3] at hJ
    have hcl2 : closedL (fun occ => coversB occ) (fun occ => moreB (outerOcc r) occ) body occ = ok := by rw [hx1, closedN_none hJ]
    refine goR rfl (by trivial) (end_det [] (by first | exact .inr rfl | exact .inl rfl) rfl (wk rfl rfl rfl ⟨.refl _, rfl, trivial⟩ (hM rfl (by rw [hcl2]) rfl ⟨⟨_, rfl, .of_eq rfl⟩, Nat.le_of_ble_eq_true rfl, rfl, ⟨_, rfl, .of_eq rfl⟩, Nat.le_of_ble_eq_true rfl, rfl, trivial⟩) rfl))


end Go.Proofs.YtpnclpbkecjinaaGreatDoorR
/-
  Limited and local variables: contracts of the program's functions.
-/
namespace Go.Proofs.YtpnclpbkecjinaaGreatDoorR
open Go Go.Al
set_option maxRecDepth 10000

theorem map0_le : AOle .map0 (nmO (occM [])) := ⟨id, fun M N U w j hj => ⟨#[], 0, hj, ⟨rfl, by simp [occM], by simp [occM], by simp, by simp⟩, evI_zero M⟩⟩

def limOcc (r : Rule) : List Str := closedL (fun occ => coversB occ) (fun occ => moreB (outerOcc r) occ) r.body []

theorem d75C0 (r : Rule) (hb : 8 * Lit.sizes r.body ≤ 100000000000) : Det Tryz.prog 75 [.iv (lits r.body), .mp 0, .clo (.func 125) [.mp 0] [], .clo (.func 126) [] [.ptr 1 0, .ptr 2 0]] [.map0, .cells [.iv (bookI r)], .cells [.mp 0]] (.tup []) [(0, some (nmO (occM (limOcc r)))), (1, some (.cells [.iv (bookI r)])), (2, some (.cells [.mp 0]))] 3 :=
  Det.leO (d75C r [] r.body (by simp; omega)) ⟨map0_le, .refl _, .refl _, trivial⟩
theorem d73 (r : Rule) (hb : 8 * r.size ≤ 100000000000) : Det Tryz.prog 73 [.iv (bookI r)] [] (.mp 0) [(0, some (nmO (occM (limOcc r))))] 1 := by
  unfold Rule.size at hb
  refine det_end tyA_ok Tryz.func73 rfl (by decide) Tryz.ntmps73 rfl (by simp) ?_
  refine goR rfl (by trivial) (go_ddet tyA_ok [1, 0, 2] (d75C0 r (by omega)) rfl rfl rfl rfl rfl rfl rfl rfl rfl rfl rfl rfl (by trivial) rfl (by (repeat' (first | exact trivial | exact rfl | exact PVle.refl _ | exact PVle.bk (by assumption) | apply And.intro)) <;> first | omega | (simp only [Int.toNat_natCast]; omega) | (simp; done) | (simp; omega)) ?_)
  refine goR rfl (by trivial) (end_det [1] (by first | exact .inr rfl | exact .inl rfl) rfl (wk rfl rfl rfl ⟨.refl _, rfl, trivial⟩ (hM rfl rfl rfl trivial) rfl))

/-- What is handed back: names of which some hold. -/
def NamesR (p : List Str → Prop) (q : PV) (h : AH) (n : Nat) : Prop := ∃ ok, p ok ∧ q = .mp 0 ∧ h = [(0, some (nmO (occM ok)))] ∧ n = 1

/-- The outer ones of an aggregate, in some order. -/
def inOut (r : Rule) (a : Agg) (occ : List Str) : Prop := occ.Nodup ∧ ∀ x, x ∈ occ ↔ x ∈ aggOcc a ∧ x ∈ outerOcc r

theorem nodup_len {l m : List Str} (h : l.Nodup) (hs : ∀ x ∈ l, x ∈ m) : l.length ≤ m.length := List.Nodup.length_le_of_subset h hs

theorem aggOcc_len (a : Agg) : (aggOcc a).length ≤ a.size := by
  have h1 := litsOcc_len a.body
  have h2 := exprOcc_len a.of_
  unfold aggOcc Agg.size
  rw [List.length_append]
  split
  · rw [List.length_nil]; omega
  · omega

theorem d127' (a : Agg) (hb : a.size ≤ 100000000000) : Det Tryz.prog 127 [ag a.c1] [] (.mp 0) [(0, some (nmO (occM (aggOcc a))))] 1 := Det.le (d127 a (by omega)) ⟨a.le1', trivial⟩
theorem d161 (r : Rule) (a : Agg) (hb : 16 * a.size ≤ 100000000000) : Al.Fn Tryz.prog 161 [.iv (bookI r), ag a.c] [] (NamesR fun ok => ∃ occ, inOut r a occ ∧ ok = closedL (fun occ => coversB occ) (fun _ => fun _ => false) a.body occ) := by
  have hal := aggOcc_len a
  have hbs : Lit.sizes a.body ≤ a.size := by unfold Agg.size; omega
  refine Al.Fn.le (args := [.iv (bookI r), ag a.c1]) ?_ ⟨.refl _, a.le1, trivial⟩
  refine fn_end tyA_ok Tryz.func161 rfl (by decide) Tryz.ntmps161 rfl (by simp) ?_
  refine goR rfl (by trivial) (go_det [] (d127' a (by omega)) rfl rfl rfl rfl rfl rfl rfl rfl ?_)
  refine goR rfl (by trivial) ?_
  -- the names met so far, in the order in which they came
  let pick : List Nat → List Str := fun vs => (vs.reverse.filterMap fun j => ((occM (aggOcc a))[j]?).bind fun x => if inL (outerOcc r) x.1 then some x.1 else none)
  refine go_rng (occM (aggOcc a)) (fun vs => ⟨[(0, .iv (bookI r)), (3, .ptr 0 0), (5, .mp 1), (10, .ptr 3 0)], [(0, some (cellsI a.c1)), (1, some (nmO (occM (pick vs)))), (3, some (.miter .str evI (occM (aggOcc a)) vs none))], 4⟩)
    (fun vs => (pick vs).Nodup ∧ ∀ x, x ∈ pick vs ↔ x ∈ outerOcc r ∧ ∃ j ∈ vs, ∃ y, (occM (aggOcc a))[j]? = some y ∧ y.1 = x) [] ⟨List.nodup_nil, by simp [pick]⟩
    (wk rfl rfl rfl ⟨.refl _, rfl, .refl _, rfl, .refl _, rfl, .refl _, rfl, trivial⟩ (hC rfl rfl rfl (hM0 rfl evI_zero rfl (hI rfl rfl (.inl rfl) rfl trivial))) rfl) fun vs hJ => ?_
  obtain ⟨hJ1, hJ2⟩ := hJ
  have hpl : (pick vs).length ≤ (aggOcc a).length := nodup_len hJ1 fun x hx => by
    obtain ⟨_, j, _, y, h2, rfl⟩ := (hJ2 x).1 hx
    exact key_mem h2
  refine goR rfl trivial (go_next rfl rfl rfl rfl rfl (by decide) (fun hall => ?_) fun j x hx hj => ?_)
  · have hio : inOut r a (pick vs) := ⟨hJ1, fun x => by
      rw [hJ2]
      constructor
      · rintro ⟨h1, j, h2, y, h3, rfl⟩
        exact ⟨key_mem h3, h1⟩
      · rintro ⟨h1, h2⟩
        refine ⟨h2, ?_⟩
        obtain ⟨y, hy, rfl⟩ := List.mem_map.1 (((occM_keys (aggOcc a)).2 x).2 h1)
        obtain ⟨j, hj⟩ := List.getElem?_of_mem hy
        exact ⟨j, hall j (List.getElem?_eq_some_iff.1 hj).1, y, hj, rfl⟩⟩
    refine goR rfl (by trivial) (go_det [1] (d75A (pick vs) a.body (by omega)) rfl rfl rfl rfl rfl rfl rfl rfl ?_)
    refine goR rfl trivial (fn_endR [1] (.inr rfl) rfl ⟨_, ⟨pick vs, hio, rfl⟩, rfl, rfl, rfl⟩ (wk rfl rfl rfl ⟨.refl _, rfl, trivial⟩ (hM rfl rfl rfl trivial) rfl))
  · have h5 := inL_cnt (occ := outerOcc r) (s := x.1)
    have h7 := occM_lk (outerOcc r) x.1
    have h8 := occM_lk (pick vs) x.1
    have h9 := cntL_le (pick vs) x.1
    have fresh : x.1 ∉ pick vs := fun h => by
      obtain ⟨_, i, hi, y, h2, h3⟩ := (hJ2 x.1).1 h
      have hnd := (occM_keys (aggOcc a)).1
      have : i = j := by
        have hi1 := (List.getElem?_eq_some_iff.1 h2)
        have hj1 := (List.getElem?_eq_some_iff.1 hx)
        obtain ⟨hi1, hi2⟩ := hi1
        obtain ⟨hj1, hj2⟩ := hj1
        refine (List.getElem_inj (i := i) (j := j) (h₀ := by rw [List.length_map]; exact hi1) (h₁ := by rw [List.length_map]; exact hj1) hnd).1 ?_
        rw [List.getElem_map, List.getElem_map, hi2, hj2, h3]
      exact hj (this ▸ hi)
    have hpk : pick (j :: vs) = pick vs ++ if inL (outerOcc r) x.1 then [x.1] else [] := by
      simp only [pick, List.reverse_cons, List.filterMap_append, List.filterMap_cons, List.filterMap_nil, hx, Option.bind_some]
      congr 1
      cases inL (outerOcc r) x.1 <;> rfl
    have step : (pick (j :: vs)).Nodup ∧ ∀ z, z ∈ pick (j :: vs) ↔ z ∈ outerOcc r ∧ ∃ i ∈ j :: vs, ∃ y, (occM (aggOcc a))[i]? = some y ∧ y.1 = z := by
      rw [hpk]
      constructor
      · split
        · rw [List.nodup_append]
          refine ⟨hJ1, List.nodup_cons.2 ⟨List.not_mem_nil, List.nodup_nil⟩, fun p hp q hq e => ?_⟩
          rw [List.mem_singleton] at hq
          exact fresh ((e.trans hq) ▸ hp)
        · rw [List.append_nil]; exact hJ1
      · intro z
        rw [List.mem_append, hJ2]
        constructor
        · rintro (⟨h1, i, h2, h3⟩ | h1)
          · exact ⟨h1, i, List.mem_cons_of_mem _ h2, h3⟩
          · split at h1
            · rename_i h2
              rw [List.mem_singleton] at h1
              exact ⟨h1 ▸ inL_iff.1 h2, j, List.mem_cons_self, x, hx, h1.symm⟩
            · cases h1
        · rintro ⟨h1, i, h2, y, h3, h4⟩
          rcases List.mem_cons.1 h2 with rfl | h2
          · rw [hx] at h3; cases h3
            exact .inr (by rw [if_pos (inL_iff.2 (h4 ▸ h1))]; simp [h4])
          · exact .inl ⟨h1, i, h2, y, h3, h4⟩
    refine goR rfl (by trivial) ?_
    refine And.intro (fun g1 => ?_) (fun g1 => ?_)
    · have g1 : inL (outerOcc r) x.1 = true := by
        have := of_decide_eq_true g1
        rw [h5]; simp; omega
      rw [g1, if_pos rfl] at hpk
      refine goR rfl (by (repeat' (first | exact trivial | exact rfl | exact PVle.refl _ | exact PVle.bk (by assumption) | apply And.intro)) <;> first | omega | (simp only [Int.toNat_natCast]; omega) | (simp; done) | (simp; omega)) ?_
      exact ⟨j, x, hx, hj, step, [], wk rfl rfl rfl ⟨.refl _, rfl, .refl _, rfl, .refl _, rfl, .refl _, rfl, trivial⟩ (hC rfl rfl rfl (hM rfl (by rw [hpk, occM_snoc]; rfl) rfl (hI rfl rfl (.inr rfl) rfl trivial))) rfl⟩
    · have g1 : inL (outerOcc r) x.1 = false := by
        have := of_decide_eq_false g1
        rw [h5]; simp; omega
      rw [g1, if_neg (by simp), List.append_nil] at hpk
      refine goR rfl (by trivial) ?_
      exact ⟨j, x, hx, hj, step, [], wk rfl rfl rfl ⟨.refl _, rfl, .refl _, rfl, .refl _, rfl, .refl _, rfl, trivial⟩ (hC rfl rfl rfl (hM rfl (by rw [hpk]) rfl (hI rfl rfl (.inr rfl) rfl trivial))) rfl⟩
end Go.Proofs.YtpnclpbkecjinaaGreatDoorR
/-
  Sorting: the kit's contract of slices.Sort as a contract over own rows. No program is walked here.
  Conditions: none.
-/
namespace Go.Proofs.YtpnclpbkecjinaaGreatDoorR
open Go Go.Al

def toB (s : Str) : List UInt8 := s.data.toList
def ofB (l : List UInt8) : Str := ⟨l.toArray⟩
theorem ofB_toB (s : Str) : ofB (toB s) = s := by simp [toB, ofB]
theorem toB_ofB (l : List UInt8) : toB (ofB l) = l := by simp [toB, ofB]
def sortBytes (l : List (List UInt8)) : List (List UInt8) := l.mergeSort fun x y => decide (x ≤ y)
def sortB (l : List Str) : List Str := (sortBytes (l.map toB)).map ofB

/-- What the kit tells of the library's sort. -/
def SortS : Prop :=
  (∀ (blk off cap : Nat) (ss : List (List UInt8)) (w : World), Go.Sort.Holds encStr w blk off ss.toArray → blk < w.heap.size → ss.length < 4611686018427387904 →
    Calls Tryz.prog 94 #[.slice (some ⟨blk, off, none⟩) ss.length cap] w fun e w' =>
      e = .returned (.tuple #[]) ∧ ∃ n os, w' = Go.Sort.grow (Go.Sort.putRow encStr (Go.Sort.ahead w n) blk off (ss.mergeSort fun x y => decide (x ≤ y)).toArray) os) ∧
  (∀ (p : Option Addr) (cap : Nat) (w : World), Calls Tryz.prog 94 #[.slice p 0 cap] w fun e w' => e = .returned (.tuple #[]) ∧ w' = w)

theorem sortB_len (l : List Str) : (sortB l).length = l.length := by simp [sortB, sortBytes]
theorem sortB_nil : sortB [] = [] := by simp [sortB, sortBytes]
theorem sortB_map (l : List Str) : (sortB l).map toB = sortBytes (l.map toB) := by
  unfold sortB
  rw [List.map_map]
  have : toB ∘ ofB = id := by funext x; exact toB_ofB x
  rw [this, List.map_id]

theorem rowI_get {l : List Str} {k : Nat} {e : List PV} (h : (l.map fun x => (strC x).map PV.iv)[k]? = some e) : ∃ s, l[k]? = some s ∧ e = [pS s] := by
  rw [List.getElem?_map, Option.map_eq_some_iff] at h
  obtain ⟨s, h1, rfl⟩ := h
  exact ⟨s, h1, rfl⟩

theorem c94of (hS : SortS) (l : List Str) (hl : l.length ≤ 1000000000000) : Det Tryz.prog 94 [.sl 0 0 l.length 1] [rowI 1 l strC] (.tup []) [(0, some (rowI 1 (sortB l) strC))] 1 := by
  refine ⟨callable_of Tryz.func94 rfl (by decide), fun M N w vs hr hlen hv => ?_⟩
  obtain ⟨v, rfl⟩ : ∃ v, vs = [v] := by
    cases vs with
    | nil => cases hlen
    | cons v r => cases r with
      | nil => exact ⟨v, rfl⟩
      | cons a b => simp at hlen
  have hv0 := hv 0 _ rfl
  simp only [List.getD_cons_zero] at hv0
  have hob := hr.obj 0 _ rfl
  cases l with
  | nil =>
    have hvs : v = .slice none 0 0 := by
      generalize hq : PV.sl 0 0 ([] : List Str).length 1 = q at hv0
      cases hv0 with
      | sl i off len sz cap h h0 h1 hc he => cases hq; simp at h0
      | sl0 i sz h => rfl
      | _ => cases hq
    subst hvs
    refine (hS.2 none 0 w).mono ?_
    rintro e w' ⟨rfl, rfl⟩
    refine ⟨_, M, N, .tup [], _, 1, rfl, ⟨rfl, rfl, rfl⟩, ?_, ?_, .tup [] #[] rfl (by simp)⟩
    · rw [sortB_nil]; exact .refl _ _ _ _ _
    · rw [sortB_nil]; exact hr
  | cons s0 r =>
    generalize hL : s0 :: r = L at *
    have hpos : 0 < L.length := by rw [← hL]; simp
    obtain ⟨cap, hvs⟩ : ∃ cap, v = .slice (some ⟨N.blk 0, 0, none⟩) L.length cap := by
      generalize hn : L.length = n at hv0 hpos
      generalize hq : PV.sl 0 0 n 1 = q at hv0
      cases hv0 with
      | sl i off len sz cap h h0 h1 hc he => cases hq; exact ⟨cap, by simp⟩
      | sl0 i sz h => cases hq; omega
      | _ => cases hq
    subst hvs
    rcases hob with h0 | ⟨_, c, T, h1, h2, h3, h4, h5⟩
    · rw [← hL] at h0; cases h0
    rw [List.length_map] at h3
    have hre : (rowI 1 L strC).real = true := by rw [← hL]; rfl
    have hval : ∀ j s, L[j]? = some s → c.getD j undef = .string s := fun j s hj => by
      have := h5 j [pS s] 0 (pS s) (by rw [List.getElem?_map, hj]; rfl) rfl
      rw [Nat.mul_one, Nat.add_zero] at this
      generalize c.getD j undef = y at this ⊢
      cases this with
      | iv _ _ h => cases h; rfl
    have hlt := hr.lt (i := 0) rfl hre
    have hlm : (L.map toB).length = L.length := by simp
    have hH : Go.Sort.Holds encStr w (N.blk 0) 0 (L.map toB).toArray := by
      intro j hj
      have hj' : j < L.length := by simpa using hj
      have hjc : j < c.size := by omega
      have := hval j L[j] (List.getElem?_eq_getElem hj')
      rw [Array.getD_eq_getD_getElem?, Array.getElem?_eq_getElem hjc, Option.getD_some] at this
      constructor
      · simp only [World.cell?, h1, Nat.zero_add, Option.isSome_none, Bool.false_eq_true, if_false]
        rw [Array.getElem?_eq_getElem hjc, this, getElem!_pos _ j hj]
        simp [encStr, toB]
      · simp [World.frozen?, h1]
    have hcall := hS.1 (N.blk 0) 0 cap (L.map toB) w hH hlt (by omega)
    rw [hlm] at hcall
    refine hcall.mono ?_
    rintro e w' ⟨rfl, n, os, rfl⟩
    let w1 := Go.Sort.putRow encStr (Go.Sort.ahead w n) (N.blk 0) 0 ((L.map toB).mergeSort fun x y => decide (x ≤ y)).toArray
    have hsl : (sortBytes (L.map toB)).length = L.length := by simp [sortBytes]
    have hw1 : Ext M N (· < 1) (initH 0 [rowI 1 L strC]) w M N (· < 1) ((0, some (rowI 1 (sortB L) strC)) :: initH 0 [rowI 1 L strC]) w1 ∧ Rel M N (· < 1) ((0, some (rowI 1 (sortB L) strC)) :: initH 0 [rowI 1 L strC]) w1 := by
      refine hr.write (i := 0) (o0 := rowI 1 L strC) rfl hre w1 (rowI 1 (sortB L) strC) rfl rfl rfl ?_ ?_ ?_
      · show (Go.Sort.putRow _ _ _ _ _).heap.size = _
        rw [Go.Sort.size_putRow]; rfl
      · intro b hb
        show ((w.heap.modify (N.blk 0) _))[b]? = _
        rw [Array.getElem?_modify, if_neg (fun e => hb e.symm)]
      · refine .inr ⟨Nat.one_pos, Go.Sort.putCells encStr 0 (sortBytes (L.map toB)).toArray c, T, ?_, ?_, ?_, ?_, ?_⟩
        · show ((w.heap.modify (N.blk 0) _))[N.blk 0]? = _
          rw [Array.getElem?_modify, if_pos rfl, h1]; rfl
        · simp [Go.Sort.putCells, h2]
        · rw [List.length_map, sortB_len]; simp [Go.Sort.putCells]; omega
        · intro k e he
          obtain ⟨s, _, rfl⟩ := rowI_get he
          rfl
        · intro k e j p he hp
          obtain ⟨s, hs, rfl⟩ := rowI_get he
          have hj : j = 0 := by
            rcases j with _ | j
            · rfl
            · simp at hp
          subst hj
          cases hp
          have hk : k < L.length := by
            have := (List.getElem?_eq_some_iff.1 hs).1
            rwa [sortB_len] at this
          have hs2 : (sortBytes (L.map toB))[k]? = some (toB s) := by
            rw [← sortB_map, List.getElem?_map, hs]; rfl
          have hkc : k < c.size := by omega
          have hval2 : (Go.Sort.putCells encStr 0 (sortBytes (L.map toB)).toArray c).getD (k * 1 + 0) undef = .string s := by
            rw [Nat.mul_one, Nat.add_zero, Array.getD_eq_getD_getElem?]
            simp only [Go.Sort.putCells, Array.getElem?_mapIdx]
            rw [Array.getElem?_eq_getElem hkc, Option.map_some, Option.getD_some, if_pos ⟨Nat.zero_le _, by simp [hsl]; omega⟩, Nat.sub_zero]
            rw [getElem!_pos _ k (by simp [hsl]; omega)]
            have h9 : (sortBytes (L.map toB)).toArray[k]'(by simp [hsl]; omega) = toB s := by
              rw [List.getElem_toArray]
              exact (List.getElem?_eq_some_iff.1 hs2).2
            rw [h9]
            simp [encStr, toB]
          rw [hval2]
          exact .iv _ _ (.v _)
    have hw2 : Rel M N (· < 1) ((0, some (rowI 1 (sortB L) strC)) :: initH 0 [rowI 1 L strC]) (Go.Sort.grow w1 os) := hw1.2.more fun b hb => by
      show (w1.heap ++ os)[b]? = _
      rw [Array.getElem?_append_left hb]
    have hsz : w1.heap.size = w.heap.size := by
      show (Go.Sort.putRow _ _ _ _ _).heap.size = _
      rw [Go.Sort.size_putRow]; rfl
    have hget : ∀ i o, AH.get [(0, some (rowI 1 (sortB L) strC))] i = some o → AH.get ((0, some (rowI 1 (sortB L) strC)) :: initH 0 [rowI 1 L strC]) i = some o := by
      intro i o h
      rw [AH.get_cons] at h ⊢
      split at h
      · rename_i h6; rw [if_pos h6]; exact h
      · simp [AH.get] at h
    refine ⟨_, M, N, .tup [], _, 1, rfl, ⟨rfl, rfl, rfl⟩, ⟨hw1.1.os, hw1.1.tape, hw1.1.output, ?_, ?_, .refl _, fun b c h1 h2 => (nomatch (h1.symm.trans h2)), .refl _ _, fun _ h => h, fun i o hi => hw1.1.pnew i o (hget i o hi)⟩, ?_, .tup [] #[] rfl (by simp)⟩
    · show w.heap.size ≤ (Go.Sort.grow w1 os).heap.size
      rw [Go.Sort.size_grow, hsz]; omega
    · intro b hb hn
      have h7 := hw1.1.keep b hb hn
      show (w1.heap ++ os)[b]? = _
      rw [Array.getElem?_append_left (by omega)]
      exact h7
    · exact ⟨hw2.frz, fun i o hi => hw2.used i o (hget i o hi), fun i o hi => hw2.nfrz i o (hget i o hi), fun i o hi => hw2.obj i o (hget i o hi), fun i j o p hi hj => hw2.inj i j o p (hget i o hi) (hget j p hj)⟩
end Go.Proofs.YtpnclpbkecjinaaGreatDoorR
/-
  Names told in order.
-/
namespace Go.Proofs.YtpnclpbkecjinaaGreatDoorR
open Go Go.Al
set_option maxRecDepth 10000

/-! Sorting by bytes: one list for all orders. -/
theorem sortBytes_perm (l : List (List UInt8)) : (sortBytes l).Perm l := List.mergeSort_perm _ _
theorem sortBytes_sorted (l : List (List UInt8)) : (sortBytes l).Pairwise (fun x y => decide (x ≤ y) = true) :=
  List.pairwise_mergeSort (le := fun x y => decide (x ≤ y)) (fun a b c h1 h2 => by simp only [decide_eq_true_eq] at *; exact List.le_trans h1 h2)
    (fun a b => by
      rcases List.le_total a b with h | h
      · simp [h]
      · simp [h]) l
theorem sorted_eq {a b : List (List UInt8)} (h : a.Perm b) (ha : a.Pairwise (fun x y => decide (x ≤ y) = true)) (hb : b.Pairwise (fun x y => decide (x ≤ y) = true)) : a = b :=
  List.Perm.eq_of_pairwise (fun x y _ _ h1 h2 => List.le_antisymm (of_decide_eq_true h1) (of_decide_eq_true h2)) ha hb h
theorem sortB_perm {a b : List Str} (h : a.Perm b) : sortB a = sortB b := by
  unfold sortB
  rw [sorted_eq (((sortBytes_perm _).trans (h.map toB)).trans (sortBytes_perm _).symm) (sortBytes_sorted _) (sortBytes_sorted _)]
theorem mem_sortB {x : Str} {l : List Str} : x ∈ sortB l ↔ x ∈ l := by
  unfold sortB
  rw [List.mem_map]
  constructor
  · rintro ⟨b, hb, rfl⟩
    obtain ⟨s, hs, rfl⟩ := List.mem_map.1 ((sortBytes_perm _).mem_iff.1 hb)
    rwa [ofB_toB]
  · intro h
    exact ⟨toB x, (sortBytes_perm _).mem_iff.2 (List.mem_map.2 ⟨x, h, rfl⟩), ofB_toB x⟩

def keysAt (m : NM) (vs : List Nat) : List Str := vs.reverse.filterMap fun j => (m[j]?).map (·.1)
theorem keysAt_cons (m : NM) (vs : List Nat) (j : Nat) (x : (KC.str).K × Int) (h : m[j]? = some x) : keysAt m (j :: vs) = keysAt m vs ++ [x.1] := by
  simp [keysAt, List.filterMap_append, h]
theorem keysAt_len (m : NM) (vs : List Nat) : (keysAt m vs).length ≤ vs.length := by
  unfold keysAt
  have := List.length_filterMap_le (fun j => (m[j]?).map (·.1)) vs.reverse
  rwa [List.length_reverse] at this
theorem keysAt_range (m : NM) : (List.range m.length).filterMap (fun j => (m[j]?).map (·.1)) = m.map (·.1) := by
  apply List.ext_getElem?
  intro k
  have h : (List.range m.length).filterMap (fun j => (m[j]?).map (·.1)) = (List.range m.length).map (fun j => (m.getD j (ByteArray.empty, 0)).1) := by
    rw [show (fun j => (m.getD j (ByteArray.empty, 0)).1) = fun j => (m.getD j (ByteArray.empty, 0)).1 from rfl]
    have key : ∀ l : List Nat, (∀ j ∈ l, j < m.length) → l.filterMap (fun j => (m[j]?).map (·.1)) = l.map (fun j => (m.getD j (ByteArray.empty, 0)).1) := by
      intro l
      induction l with
      | nil => simp
      | cons j r ih =>
        intro h
        have hj := h j List.mem_cons_self
        rw [List.filterMap_cons, List.getElem?_eq_getElem hj, ih fun k hk => h k (List.mem_cons_of_mem _ hk)]
        simp [hj]
    exact key _ fun j hj => List.mem_range.1 hj
  rw [h]
  by_cases hk : k < m.length
  · simp [hk]
  · simp [hk]
theorem keysAt_all (m : NM) (vs : List Nat) (hn : vs.Nodup) (hb : ∀ j ∈ vs, j < m.length) (hall : ∀ j, j < m.length → j ∈ vs) : (keysAt m vs).Perm (m.map (·.1)) := by
  rw [← keysAt_range]
  unfold keysAt
  apply List.Perm.filterMap
  refine (List.reverse_perm _).trans ?_
  rw [List.perm_ext_iff_of_nodup hn List.nodup_range]
  intro j
  rw [List.mem_range]
  exact ⟨hb j, hall j⟩

def toldM (m : NM) : List Str := sortB (m.map (·.1))

theorem nodup_lt {vs : List Nat} {n : Nat} (h : vs.Nodup) (hb : ∀ j ∈ vs, j < n) : vs.length ≤ n := by
  have := List.Nodup.length_le_of_subset h (l₂ := List.range n) fun j hj => List.mem_range.2 (hb j hj)
  rwa [List.length_range] at this
theorem rows_ren (σ : Nat → Nat) (l : List Str) : (l.map fun x => (strC x).map PV.iv).map (renL σ) = l.map fun x => (strC x).map PV.iv := by
  simp only [List.map_map, strC, List.map_cons, List.map_nil]
  rfl
theorem c51 (hS : SortS) (m : NM) (hm : m.length ≤ 100000000) : Pure Tryz.prog 51 [.iv (nmI m)] (.iv (strs (toldM m))) := by
  refine pure_end tyA_ok Tryz.func51 rfl (by decide) Tryz.ntmps51 rfl (by simp) rfl ?_
  refine goR rfl (by trivial) ?_
  refine go_virt 3 1 rfl ?_
  refine go_rng m (fun vs => ⟨[(3, .sl 2 0 (keysAt m vs).length 1), (6, .ptr 0 0)], [(0, some (.miter .str evI m vs none)), (2, some (rowI 1 (keysAt m vs) strC))], 3⟩) (fun vs => vs.Nodup ∧ ∀ j ∈ vs, j < m.length) [1] ⟨List.nodup_nil, by simp⟩
    (wk rfl rfl rfl ⟨.refl _, rfl, .refl _, rfl, trivial⟩ (hI rfl rfl (.inl rfl) rfl (hR rfl rfl rfl trivial)) rfl) fun vs hJ => ?_
  obtain ⟨hJ1, hJ2⟩ := hJ
  have hvl := nodup_lt hJ1 hJ2
  have hkl := keysAt_len m vs
  refine goR rfl trivial (go_next rfl rfl rfl rfl rfl (by decide) (fun hall => ?_) fun j x hx hj => ?_)
  · refine goR rfl trivial (go_det [2] (c94of hS (keysAt m vs) (by omega)) rfl rfl rfl rfl rfl (congrArg (fun o => [some o]) (rowI_ren _).symm) rfl rfl ?_)
    refine goR rfl trivial (end_row (.inr rfl) rfl rfl ((rows_ren _ _).trans (by rw [toldM, sortB_perm (keysAt_all m vs hJ1 hJ2 hall)])) ?_)
    rw [toldM, sortB_len, ← (keysAt_all m vs hJ1 hJ2 hall).length_eq]
  · have hk := keysAt_cons m vs j x hx
    refine goR rfl (by (repeat' (first | exact trivial | exact rfl | exact PVle.refl _ | exact PVle.bk (by assumption) | apply And.intro)) <;> first | omega | (simp only [Int.toNat_natCast]; omega) | (simp; done) | (simp; omega)) ?_
    exact ⟨j, x, hx, hj, ⟨List.nodup_cons.2 ⟨hj, hJ1⟩, fun i hi => (List.mem_cons.1 hi).elim (fun h => h ▸ (List.getElem?_eq_some_iff.1 hx).1) (hJ2 i)⟩, [4], wk rfl rfl rfl ⟨.row (by rw [hk, List.length_append]; rfl), rfl, .refl _, rfl, trivial⟩ (hI rfl rfl (.inr rfl) rfl (hR rfl (by rw [hk, List.map_append]; rfl) rfl trivial)) rfl⟩
end Go.Proofs.YtpnclpbkecjinaaGreatDoorR
/-
  Outer, limited, plain and local variables as the program tells them.
-/
namespace Go.Proofs.YtpnclpbkecjinaaGreatDoorR
open Go Go.Al
set_option maxRecDepth 10000

/-- A contract that asks for a frozen map, called with an own one. -/
theorem ownM_of {P : Program} {k : FuncId} {kc : KC} {V : Type} {e : V → IV} {z : V} {zv : Value} {dv : PV → V} {m : List (kc.K × V)} {y : IV} (h : Al.Pure P k [.iv (.imap kc e z zv m)] (.iv y)) : Det P k [.mp 0] [.map kc e z zv dv m] (.iv y) [] 1 := by
  refine ⟨h.1, fun M N w vs hr hl hv => ?_⟩
  obtain ⟨M1, h1, h2, h3, h4⟩ := frz_mapH (n := 1) hr (i := 0) rfl
  have hr2 : Rel M1 N (· < 0) (initH 0 []) w := ⟨h2.frz, fun i o hi => (nomatch hi), fun i o hi => (nomatch hi), fun i o hi => (nomatch hi), fun i j o p hi => (nomatch hi)⟩
  refine (h.2 M1 N w vs hr2 hl fun j p hj => ?_).mono ?_
  · cases j with
    | zero =>
      cases hj
      have := h4 _ _ (hv 0 _ rfl)
      generalize vs.getD 0 undef = x at this ⊢
      cases this with
      | iv _ _ h => exact .iv _ _ h
    | succ j => cases hj
  · rintro _ w' ⟨x, M', N', r, h', n', rfl, ⟨rfl, rfl, rfl⟩, hx, hrr, hvr⟩
    refine ⟨x, M', N, .iv y, [], 1, rfl, ⟨rfl, rfl, rfl⟩, ?_, ⟨hrr.frz, fun i o hi => (nomatch hi), fun i o hi => (nomatch hi), fun i o hi => (nomatch hi), fun i j o p hi => (nomatch hi)⟩, ?_⟩
    · refine ⟨hx.os, hx.tape, hx.output, hx.size, fun b hb hn => hx.keep b hb fun i o hi => (nomatch hi), h1.mle.trans hx.mle, fun b c g1 g2 => ?_, .refl _ _, fun _ h => h, fun i o hi => (nomatch hi)⟩
      cases g3 : M1 b with
      | some c' => exact h1.mnew b c' g1 g3
      | none =>
        rcases hx.mnew b c g3 g2 with g4 | ⟨i, o, g4, _⟩
        · exact .inl g4
        · exact nomatch g4
    · cases hvr with
      | iv _ _ h => exact .iv _ _ h

theorem c51o (hS : SortS) (m : NM) (hm : m.length ≤ 100000000) : Det Tryz.prog 51 [.mp 0] [nmO m] (.iv (strs (toldM m))) [] 1 := ownM_of (c51 hS m hm)

/-! What is taken away. -/
theorem delK_filter : ∀ {m : NM} (_ : (m.map (·.1)).Nodup) (k : Str), delK .str m k = m.filter fun x => !decide (x.1 = k)
  | [], _, k => rfl
  | (a, b) :: r, h, k => by
    rw [List.map_cons, List.nodup_cons] at h
    by_cases hk : a = k
    · subst hk
      have : r.filter (fun x => !decide (x.1 = a)) = r := List.filter_eq_self.2 fun x hx => by
        have : x.1 ≠ a := fun e => h.1 (e ▸ List.mem_map.2 ⟨x, hx, rfl⟩)
        simp [this]
      simp [delK, this]
    · have ih := delK_filter h.2 k
      simp [delK, hk, ih]
theorem nodup_filterM {m : NM} {p : (KC.str).K × Int → Bool} (h : (m.map (·.1)).Nodup) : ((m.filter p).map (·.1)).Nodup := h.sublist ((List.filter_sublist).map _)
theorem dels_filter : ∀ (ks : List Str) {m : NM} (_ : (m.map (·.1)).Nodup), ks.foldl (fun m k => delK .str m k) m = m.filter fun x => !inL ks x.1
  | [], m, h => (List.filter_eq_self.2 fun _ _ => rfl).symm
  | k :: r, m, h => by
    rw [List.foldl_cons, delK_filter h, dels_filter r (nodup_filterM h), List.filter_filter]
    congr 1
    funext x
    by_cases hk : x.1 = k
    · simp [inL, hk]
    · have : ¬ k = x.1 := fun e => hk e.symm
      simp [inL, hk, this]

def locM (r : Rule) (a : Agg) : NM := (occM (aggOcc a)).filter fun x => !inL (outerOcc r) x.1
theorem occM_len (l : List Str) : (occM l).length ≤ l.length := by
  have h := occM_keys l
  have := nodup_len h.1 fun x hx => (h.2 x).1 hx
  rwa [List.length_map] at this

theorem d79 (r : Rule) (a : Agg) (hb : a.size ≤ 100000000000) : Det Tryz.prog 79 [.iv (bookI r), ag a.c] [] (.mp 0) [(0, some (nmO (locM r a)))] 1 := by
  refine Det.le (args := [.iv (bookI r), ag a.c1]) ?_ ⟨.refl _, a.le1, trivial⟩
  have hal := aggOcc_len a
  have hkd := (occM_keys (aggOcc a)).1
  refine det_end tyA_ok Tryz.func79 rfl (by decide) Tryz.ntmps79 rfl (by simp) ?_
  refine goR rfl (by trivial) (go_det [] (d127' a (by omega)) rfl rfl rfl rfl rfl rfl rfl rfl ?_)
  refine goR rfl (by trivial) ?_
  refine go_rng (occM (outerOcc r)) (fun vs => ⟨[(5, .mp 1), (13, .ptr 2 0)], [(1, some (nmO ((keysAt (occM (outerOcc r)) vs).foldl (fun m k => delK .str m k) (occM (aggOcc a))))), (2, some (.miter .str evI (occM (outerOcc r)) vs none))], 3⟩)
    (fun vs => vs.Nodup ∧ ∀ j ∈ vs, j < (occM (outerOcc r)).length) [] ⟨List.nodup_nil, by simp⟩
    (wk rfl rfl rfl ⟨.refl _, rfl, .refl _, rfl, trivial⟩ (hM rfl rfl rfl (hI rfl rfl (.inl rfl) rfl trivial)) rfl) fun vs hJ => ?_
  obtain ⟨hJ1, hJ2⟩ := hJ
  refine goR rfl trivial (go_next rfl rfl rfl rfl rfl (by decide) (fun hall => ?_) fun j x hx hj => ?_)
  · have hlm : (keysAt (occM (outerOcc r)) vs).foldl (fun m k => delK .str m k) (occM (aggOcc a)) = locM r a := by
      rw [dels_filter _ hkd]
      unfold locM
      congr 1
      funext x
      congr 1
      rw [Bool.eq_iff_iff, inL_iff, inL_iff, (keysAt_all _ vs hJ1 hJ2 hall).mem_iff]
      exact (occM_keys (outerOcc r)).2 x.1
    rw [hlm]
    refine goR rfl (by trivial) (end_det [1] (by first | exact .inr rfl | exact .inl rfl) rfl (wk rfl rfl rfl ⟨.refl _, rfl, trivial⟩ (hM rfl rfl rfl trivial) rfl))
  · have hk := keysAt_cons (occM (outerOcc r)) vs j x hx
    refine goR rfl (by trivial) ?_
    exact ⟨j, x, hx, hj, ⟨List.nodup_cons.2 ⟨hj, hJ1⟩, fun i hi => (List.mem_cons.1 hi).elim (fun h => h ▸ (List.getElem?_eq_some_iff.1 hx).1) (hJ2 i)⟩, [], wk rfl rfl rfl ⟨.refl _, rfl, .refl _, rfl, trivial⟩ (hM rfl (by rw [hk, List.foldl_append]; rfl) rfl (hI rfl rfl (.inr rfl) rfl trivial)) rfl⟩

theorem closedN_len {may : List Str → Expr → Bool} {more : List Str → Agg → Bool} {body : List Lit} : ∀ (n : Nat) (occ : List Str), (closedN may more body n occ).length ≤ occ.length + n
  | 0, occ => Nat.le_refl _
  | n + 1, occ => by
    cases h : firstV (may occ) (more occ) occ body with
    | none => rw [closedN_none h]; omega
    | some v =>
      rw [closedN_some h]
      have := closedN_len (may := may) (more := more) (body := body) n (occ ++ [v])
      rw [List.length_append, List.length_singleton] at this
      omega
theorem closedL_len {may : List Str → Expr → Bool} {more : List Str → Agg → Bool} {body : List Lit} (occ : List Str) : (closedL may more body occ).length ≤ occ.length + 4 * Lit.sizes body + 1 := by
  have h1 := closedN_len (may := may) (more := more) (body := body) (3 * body.length + 1) (occ ++ body.flatMap posOcc)
  have h2 := posOcc_len body
  have h3 := Lit.length_sizes body
  rw [List.length_append] at h1
  unfold closedL
  omega
theorem limOcc_len (r : Rule) : (limOcc r).length ≤ 4 * Lit.sizes r.body + 1 := by
  have := closedL_len (may := fun occ => coversB occ) (more := fun occ => moreB (outerOcc r) occ) (body := r.body) []
  rw [List.length_nil] at this
  unfold limOcc
  omega
def plOcc (r : Rule) : List Str := closedL (fun occ => plainB occ) (fun _ => fun _ => false) r.body []
theorem plOcc_len (r : Rule) : (plOcc r).length ≤ 4 * Lit.sizes r.body + 1 := by
  have := closedL_len (may := fun occ => plainB occ) (more := fun _ => fun _ => false) (body := r.body) []
  rw [List.length_nil] at this
  unfold plOcc
  omega
theorem d75B0 (r : Rule) (hb : 8 * Lit.sizes r.body ≤ 100000000000) : Det Tryz.prog 75 [.iv (lits r.body), .mp 0, .clo (.func 76) [] [.ptr 1 0], .clo (.func 77) [] []] [.map0, .cells [.mp 0]] (.tup []) [(0, some (nmO (occM (plOcc r)))), (1, some (.cells [.mp 0]))] 2 :=
  Det.leO (d75B [] r.body (by simp; omega)) ⟨map0_le, .refl _, trivial⟩

theorem c29 (hS : SortS) (r : Rule) (hb : r.size ≤ 10000000) : Pure Tryz.prog 29 [ag r.c] (.iv (strs (toldM (occM (outerOcc r))))) := by
  have h1 := occM_len (outerOcc r)
  have h2 := outerOcc_len r
  refine pure_end tyA_ok Tryz.func29 rfl (by decide) Tryz.ntmps29 rfl (by simp) rfl ?_
  refine goR rfl (by trivial) (go_pure (c48 r (by omega)) rfl rfl rfl rfl rfl rfl ?_)
  refine goR rfl (by trivial) (go_pure (c51 hS (occM (outerOcc r)) (by omega)) rfl rfl rfl rfl rfl rfl ?_)
  refine goR rfl (by trivial) (end_le (by first | exact .inr rfl | exact .inl rfl) rfl (.of_eq ?_))
  rfl
theorem c31 (hS : SortS) (r : Rule) (hb : r.size ≤ 10000000) : Pure Tryz.prog 31 [ag r.c] (.iv (strs (toldM (occM (limOcc r))))) := by
  have h1 := occM_len (limOcc r)
  have h2 := limOcc_len r
  have h3 : Lit.sizes r.body ≤ r.size := Nat.le_add_left _ _
  refine pure_end tyA_ok Tryz.func31 rfl (by decide) Tryz.ntmps31 rfl (by simp) rfl ?_
  refine goR rfl (by trivial) (go_pure (c48 r (by omega)) rfl rfl rfl rfl rfl rfl ?_)
  refine goR rfl (by trivial) (go_det [] (d73 r (by omega)) rfl rfl rfl rfl rfl rfl rfl rfl ?_)
  refine goR rfl (by trivial) (go_det [1] (c51o hS (occM (limOcc r)) (by omega)) rfl rfl rfl rfl rfl rfl rfl rfl ?_)
  refine goR rfl (by trivial) (end_le (by first | exact .inr rfl | exact .inl rfl) rfl (.of_eq ?_))
  rfl
theorem c33 (hS : SortS) (r : Rule) (hb : r.size ≤ 10000000) : Pure Tryz.prog 33 [ag r.c] (.iv (strs (toldM (occM (plOcc r))))) := by
  have h1 := occM_len (plOcc r)
  have h2 := plOcc_len r
  have h3 : Lit.sizes r.body ≤ r.size := Nat.le_add_left _ _
  refine pure_end tyA_ok Tryz.func33 rfl (by decide) Tryz.ntmps33 rfl (by simp) rfl ?_
  refine goR rfl (by trivial) ?_
  refine goR rfl (by trivial) (go_det [1, 2] (d75B0 r (by omega)) rfl rfl rfl rfl rfl rfl rfl rfl ?_)
  refine goR rfl (by trivial) (go_det [1] (c51o hS (occM (plOcc r)) (by omega)) rfl rfl rfl rfl rfl rfl rfl rfl ?_)
  refine goR rfl (by trivial) (end_le (by first | exact .inr rfl | exact .inl rfl) rfl (.of_eq ?_))
  rfl
def locOut (r : Rule) (lit : Int) : List Str := if lit < 0 ∨ (r.body.length : Int) ≤ lit ∨ ¬ (litAt r lit).kind = 4 then [] else toldM (locM r (litAt r lit).agg)
theorem c35 (hS : SortS) (r : Rule) (lit : Int) (hb : r.size ≤ 10000000) : Pure Tryz.prog 35 [ag r.c, pI lit] (.iv (strs (locOut r lit))) := by
  have hbl := Lit.length_sizes r.body
  have h3 : Lit.sizes r.body ≤ r.size := Nat.le_add_left _ _
  refine pure_end tyA_ok Tryz.func35 rfl (by decide) Tryz.ntmps35 rfl (by simp) rfl ?_
  refine goR rfl (by trivial) ?_
  refine And.intro (fun h1 => ?_) (fun h1 => ?_)
  rotate_left
  · have h1 : lit < 0 := by simpa using h1
    refine goR rfl (by trivial) (end_le (by first | exact .inr rfl | exact .inl rfl) rfl ?_)
    rw [locOut, if_pos (.inl h1)]; exact .nil _ _
  have h1 : ¬ lit < 0 := by simpa using h1
  refine goR rfl (by trivial) ?_
  refine And.intro (fun h2 => ?_) (fun h2 => ?_)
  rotate_left
  · have h2 : (r.body.length : Int) ≤ lit := by simpa using h2
    refine goR rfl (by trivial) (end_le (by first | exact .inr rfl | exact .inl rfl) rfl ?_)
    rw [locOut, if_pos (.inr (.inl h2))]; exact .nil _ _
  have h2 : ¬ (r.body.length : Int) ≤ lit := by simpa using h2
  refine goR rfl (by simp; omega) ?_
  refine And.intro (fun h3 => ?_) (fun h3 => ?_)
  · have h3 : ¬ (litAt r lit).kind = 4 := by simpa [litAt] using h3
    refine goR rfl (by trivial) (end_le (by first | exact .inr rfl | exact .inl rfl) rfl ?_)
    rw [locOut, if_pos (.inr (.inr h3))]; exact .nil _ _
  have h3 : (litAt r lit).kind = 4 := by simpa [litAt] using h3
  have hk : lit.toNat < r.body.length := by omega
  have hsz := Lit.sizes_get r.body lit.toNat hk
  have hag := (litAt r lit).agg_size
  have hle : (litAt r lit).size ≤ Lit.sizes r.body := hsz
  have hal := aggOcc_len (litAt r lit).agg
  have hom := occM_len (aggOcc (litAt r lit).agg)
  have hlm : (locM r (litAt r lit).agg).length ≤ (occM (aggOcc (litAt r lit).agg)).length := List.length_filter_le _ _
  refine goR rfl (by simp; omega) (go_ddet tyA_ok [] (Pure.det (c48 r (by omega))) rfl rfl rfl rfl rfl rfl rfl rfl rfl rfl rfl rfl (by trivial) rfl (by (repeat' (first | exact trivial | exact rfl | exact PVle.refl _ | exact PVle.bk (by assumption) | apply And.intro)) <;> first | omega | (simp only [Int.toNat_natCast]; omega) | (simp; done) | (simp; omega)) ?_)
  refine goR rfl (by trivial) (go_ddet tyA_ok [] (d79 r (litAt r lit).agg (by omega)) rfl rfl rfl rfl rfl rfl rfl rfl rfl rfl rfl rfl (by trivial) rfl (by (repeat' (first | exact trivial | exact rfl | exact PVle.refl _ | exact PVle.bk (by assumption) | apply And.intro)) <;> first | omega | (simp only [Int.toNat_natCast]; omega) | (simp; done) | (simp; omega)) ?_)
  refine goR rfl (by trivial) (go_ddet tyA_ok [1] (c51o hS (locM r (litAt r lit).agg) (by omega)) rfl rfl rfl rfl rfl rfl rfl rfl rfl rfl rfl rfl (by trivial) rfl (by (repeat' (first | exact trivial | exact rfl | exact PVle.refl _ | exact PVle.bk (by assumption) | apply And.intro)) <;> first | omega | (simp only [Int.toNat_natCast]; omega) | (simp; done) | (simp; omega)) ?_)
  refine goR rfl (by trivial) (end_le (by first | exact .inr rfl | exact .inl rfl) rfl (.of_eq ?_))
  rw [locOut, if_neg (by omega)]; rfl
end Go.Proofs.YtpnclpbkecjinaaGreatDoorR
/-
  Relations by name; the library's index functions, as the program calls them.
-/
namespace Go.Proofs.YtpnclpbkecjinaaGreatDoorR
open Go Go.Al
set_option maxRecDepth 10000

theorem detLen {P : Program} {k : FuncId} {args : List PV} {os : List AO} {r : PV} {h : AH} {n0 : Nat} (hc : Callable P k) {n : Nat} (hn : ∃ sz el, PV.iv (.imm sz n el) ∈ args) (hh : n ≤ maxLen → Det P k args os r h n0) : Det P k args os r h n0 := fn_len hc hn hh

def idxI {α : Type} (p : α → Bool) (l : List α) : Int := match l.findIdx? p with
  | some i => i
  | none => -1
theorem idxI_none {α : Type} {p : α → Bool} {l : List α} (h : l.any p = false) : idxI p l = -1 := by
  have : l.findIdx? p = none := by
    rw [List.findIdx?_eq_none_iff]
    intro x hx
    have := List.any_eq_false.1 h x hx
    simpa using this
  rw [idxI, this]
theorem idxI_hit {α : Type} [Inhabited α] {p : α → Bool} {l : List α} {i : Nat} (h : (l.take i).any p = false) (hi : i < l.length) (hp : p (l.getD i default) = true) : idxI p l = i := by
  have : l.findIdx? p = some i := by
    rw [List.findIdx?_eq_some_iff_getElem]
    have hg : l.getD i default = l[i] := by simp [hi]
    refine ⟨hi, hg ▸ hp, fun j hj => ?_⟩
    have := List.any_eq_false.1 h l[j] (List.mem_iff_getElem?.2 ⟨j, by rw [List.getElem?_take, if_pos hj, List.getElem?_eq_getElem (by omega)]⟩)
    simpa using this
  rw [idxI, this]
theorem idxI_any {α : Type} (p : α → Bool) (l : List α) : decide (idxI p l ≥ 0) = l.any p := by
  unfold idxI
  cases h : l.findIdx? p with
  | none =>
    have := List.findIdx?_eq_none_iff.1 h
    have : l.any p = false := List.any_eq_false.2 fun x hx => by simp [this x hx]
    rw [this]; rfl
  | some i =>
    obtain ⟨h1, h2, _⟩ := List.findIdx?_eq_some_iff_getElem.1 h
    rw [List.any_eq_true.2 ⟨_, List.getElem_mem h1, h2⟩]
    simp

theorem pIE {a b : Int} (h : a = b) : pI a = pI b := by rw [h]
theorem c154 (x : Int) : Pure Tryz.prog 154 [pI x] (pB (!decide (x = 1) && !decide (x = 2))) := by
  refine pure_end tyA_ok Tryz.func154 rfl (by decide) Tryz.ntmps154 rfl (by simp) rfl ?_
  repeat' (first
    | (refine goR rfl (by trivial) (And.intro (fun _ => ?_) (fun _ => ?_)))
    | (refine goR rfl (by trivial) (end_le (by first | exact .inr rfl | exact .inl rfl) rfl (.of_eq ?_))))
  all_goals (refine (pBE ?_ : pB _ = pB _); simp_all)
theorem c158 (t : Term) : Pure Tryz.prog 158 [ag t.c] (pB (decide (t.kind = 3))) := by
  refine pure_end tyA_ok Tryz.func158 rfl (by decide) Tryz.ntmps158 rfl (by simp) rfl ?_
  refine goR rfl (by trivial) (end_le (by first | exact .inr rfl | exact .inl rfl) rfl (.of_eq ?_))
  rfl
theorem c160 (t : Lit) : Pure Tryz.prog 160 [ag t.c] (pB (decide (t.kind = 4))) := by
  refine pure_end tyA_ok Tryz.func160 rfl (by decide) Tryz.ntmps160 rfl (by simp) rfl ?_
  refine goR rfl (by trivial) (end_le (by first | exact .inr rfl | exact .inl rfl) rfl (.of_eq ?_))
  rfl
/-- The value's fault. -/
def vCheck (v : Val) : Int := if v.kind = 1 then (if v.sym = ByteArray.empty ∧ -2147483647 ≤ v.num ∧ v.num ≤ 2147483647 then 0 else 20) else if v.kind = 2 then (if v.num = 0 ∧ v.sym.size ≤ 64 then 0 else 20) else 20
def pC (n : Int) : PV := .iv (.v (.int .i32 n))
theorem c143 (v : Val) : Pure Tryz.prog 143 [ag v.c] (pI (vCheck v)) := by
  refine pure_end tyA_ok Tryz.func143 rfl (by decide) Tryz.ntmps143 rfl (by simp) rfl ?_
  repeat' (first
    | (refine goR rfl (by trivial) (And.intro (fun _ => ?_) (fun _ => ?_)))
    | (refine goR rfl (by trivial) (end_le (by first | exact .inr rfl | exact .inl rfl) rfl (.of_eq ?_))))
  all_goals (refine (pIE ?_ : pI _ = pI _); have hE : (⟨#[]⟩ : ByteArray) = ByteArray.empty := rfl; simp_all [vCheck]; try omega)

def Decl.z : Decl := ⟨ByteArray.empty, [], ⟨0, 0⟩⟩
def declE (d : Decl) : IV := .agg d.c
def declZ : Value := .agg #[.string ByteArray.empty, .slice none 0 0, .int .i64 0, .int .i64 0]
def intOf : List IV → Int
  | [.v (.int .i64 n)] => n
  | _ => 0
def dvD : PV → Decl
  | .agg [.iv (.v (.string s)), .iv (.imm _ n el), .iv (.v (.int _ a)), .iv (.v (.int _ b))] => ⟨s, (List.range n).map fun k => intOf (el k), ⟨a, b⟩⟩
  | _ => Decl.z
abbrev DM := List ((KC.str).K × Decl)
abbrev declO (m : DM) : AO := .map .str declE Decl.z declZ dvD m
abbrev declI (m : DM) : IV := .imap .str declE Decl.z declZ m
theorem dvD_c (d : Decl) : dvD (ag d.c) = d := by
  show (⟨d.name, (List.range d.types.length).map fun k => intOf (intC (d.types.getD k default)), ⟨d.at_.line, d.at_.col⟩⟩ : Decl) = d
  have : (List.range d.types.length).map (fun k => intOf (intC (d.types.getD k default))) = d.types := by
    apply List.ext_getElem?
    intro k
    by_cases hk : k < d.types.length
    · simp [hk, intOf, intC]
    · simp [hk]
  rw [this]
theorem declZ_ok : ∀ M, IR M (declE Decl.z) declZ := fun M => by
  refine .agg _ _ rfl fun j p hj => ?_
  match j, hj with
  | 0, hj => cases hj; exact .v _
  | 1, hj => cases hj; exact .imm0 _ _ _ _
  | 2, hj => cases hj; exact .v _
  | 3, hj => cases hj; exact .v _
  | j + 4, hj => simp [Decl.c] at hj
theorem agI (l : List IV) : PVle (ag l) (.iv (.agg l)) := by
  intro M N U x h
  generalize hq : ag l = q at h
  cases h with
  | agg cs ys hl hr =>
    cases hq
    refine .iv _ _ (.agg _ _ (by simpa using hl) fun j p hj => ?_)
    have := hr j (.iv p) (by rw [List.getElem?_map, hj]; rfl)
    generalize ys.getD j undef = y at this ⊢
    cases this with
    | iv _ _ h => exact h
  | _ => cases hq
theorem declOwed (d : Decl) : PVle (ag d.c) (.iv (declE (dvD (ag d.c)))) := by rw [dvD_c]; exact agI _

def relStep (m : DM) (d : Decl) : DM := if hasK .str m d.name = true then m else putK .str m d.name d
def relsM (p : Prog) : DM := p.rels.foldl relStep []
abbrev relsI (p : Prog) : IV := declI (relsM p)
/-- The first relation of that name. -/
theorem putK_len {V : Type} : ∀ (m : List ((KC.str).K × V)) (k : Str) (v : V), (putK .str m k v).length ≤ m.length + 1
  | [], _, _ => by simp [putK]
  | (a, b) :: r, k, v => by
    have := putK_len r k v
    simp only [putK]
    split
    · simp
    · simp only [List.length_cons]; omega
theorem rels_len : ∀ (l : List Decl) (m : DM), (l.foldl relStep m).length ≤ m.length + l.length
  | [], m => by simp
  | d :: r, m => by
    have h1 := rels_len r (relStep m d)
    have h2 : (relStep m d).length ≤ m.length + 1 := by
      unfold relStep
      split
      · omega
      · exact putK_len _ _ _
    simp only [List.foldl_cons, List.length_cons]; omega

theorem d50 (p : Prog) (hb : p.rels.length ≤ 1000000000000) : Det Tryz.prog 50 [ag p.c] [] (.mp 0) [(0, some (declO (relsM p)))] 1 := by
  refine det_end tyA_ok Tryz.func50 rfl (by decide) Tryz.ntmps50 rfl (by simp) ?_
  refine goR rfl (by trivial) ?_
  refine go_for 0 p.rels.length (Nat.zero_le _) (fun i => ⟨[(3, .mp 1), (13, .iv (slc 4 p.rels Decl.c)), (14, pI p.rels.length), (15, pI i)], [(1, some (declO ((p.rels.take i).foldl relStep [])))], 2⟩) (fun _ => True) [] trivial
    (wk rfl rfl rfl ⟨.refl _, rfl, .refl _, rfl, .refl _, rfl, .refl _, rfl, trivial⟩ (hM0 rfl declZ_ok rfl trivial) rfl) fun i hi _ => ?_
  refine goR rfl (by trivial) ?_
  refine And.intro (fun h1 => ?_) (fun h1 => ?_)
  · have h1 : i < p.rels.length := by simpa using h1
    have hs := fold_step (g := relStep) (b := []) h1
    refine goR rfl (by simp; omega) ?_
    refine And.intro (fun h2 => ?_) (fun h2 => ?_)
    · have h2 : hasK .str ((p.rels.take i).foldl relStep []) (p.rels.getD i default).name = false := by simpa using h2
      rw [relStep, if_neg (by rw [h2]; simp)] at hs
      refine goR rfl ?_ ?_
      · repeat' (first | exact trivial | exact rfl | exact declOwed _ | exact PVle.refl _ | apply And.intro)
        all_goals omega
      exact ⟨h1, trivial, [], wk rfl rfl rfl ⟨.refl _, rfl, .refl _, rfl, .refl _, rfl, .refl _, rfl, trivial⟩ (hM rfl (by rw [hs, ← dvD_c (p.rels.getD i default)]; rfl) rfl trivial) rfl⟩
    · have h2 : hasK .str ((p.rels.take i).foldl relStep []) (p.rels.getD i default).name = true := by simpa using h2
      rw [relStep, if_pos h2] at hs
      refine goR rfl (by (repeat' (first | exact trivial | exact rfl | exact PVle.refl _ | exact PVle.bk (by assumption) | apply And.intro)) <;> first | omega | (simp only [Int.toNat_natCast]; omega) | (simp; done) | (simp; omega)) ?_
      exact ⟨h1, trivial, [], wk rfl rfl rfl ⟨.refl _, rfl, .refl _, rfl, .refl _, rfl, .refl _, rfl, trivial⟩ (hM rfl (by rw [hs]) rfl trivial) rfl⟩
  · have h1 : p.rels.length ≤ i := by simpa using h1
    rw [List.take_of_length_le h1]
    refine goR rfl (by trivial) (end_det [1] (by first | exact .inr rfl | exact .inl rfl) rfl (wk rfl rfl rfl ⟨.refl _, rfl, trivial⟩ (hM rfl rfl rfl trivial) rfl))

def absB (p : Prog) (a : Atom) : Bool := !hasK .str (relsM p) a.rel
def declOf (p : Prog) (s : Str) : Decl := lkD .str (relsM p) s Decl.z
def aryB (p : Prog) (a : Atom) : Bool := !decide ((a.terms.length : Int) = ((declOf p a.rel).types.length : Int))
theorem d113 (p : Prog) (a : Atom) : Det Tryz.prog 113 [ag a.c, .ptr 0 0] [.cells [.iv (relsI p)]] (pB (absB p a)) [(0, some (.cells [.iv (relsI p)]))] 1 := by
  refine det_end tyA_ok Tryz.func113 rfl (by decide) Tryz.ntmps113 rfl (by simp) ?_
  refine goR rfl (by trivial) (end_det [] (by first | exact .inr rfl | exact .inl rfl) rfl (wk rfl rfl rfl ⟨.of_eq rfl, rfl, trivial⟩ ⟨⟨_, rfl, .of_eq rfl⟩, Nat.le_of_ble_eq_true rfl, rfl, trivial⟩ rfl))
theorem d115 (p : Prog) (a : Atom) : Det Tryz.prog 115 [ag a.c, .ptr 0 0] [.cells [.iv (relsI p)]] (pB (aryB p a)) [(0, some (.cells [.iv (relsI p)]))] 1 := by
  refine det_end tyA_ok Tryz.func115 rfl (by decide) Tryz.ntmps115 rfl (by simp) ?_
  refine goR rfl (by trivial) (end_det [] (by first | exact .inr rfl | exact .inl rfl) rfl (wk rfl rfl rfl ⟨.of_eq rfl, rfl, trivial⟩ ⟨⟨_, rfl, .of_eq rfl⟩, Nat.le_of_ble_eq_true rfl, rfl, trivial⟩ rfl))

theorem i187 (l : List Int) : Det Tryz.prog 187 [.iv (slc 1 l intC), .clo (.func 154) [] []] [] (pI (idxI (fun x => !decide (x = 1) && !decide (x = 2)) l)) [] 0 := by
  refine detLen (callable_of Tryz.func187 rfl (by decide)) ⟨_, _, List.mem_cons_self⟩ fun hlen => ?_
  simp only [maxLen] at hlen
  refine det_end tyA_ok Tryz.func187 rfl (by decide) Tryz.ntmps187 rfl (by simp) ?_
  refine goR rfl (by trivial) ?_
  refine go_for 0 l.length (Nat.zero_le _) (fun i => ⟨[(0, .iv (slc 1 l intC)), (1, .clo (.func 154) [] []), (7, pI l.length), (8, pI i)], [], 0⟩) (fun i => (l.take i).any (fun x => !decide (x = 1) && !decide (x = 2)) = false) [] (by simp)
    (wk rfl rfl rfl ⟨.refl _, rfl, .refl _, rfl, .refl _, rfl, .refl _, rfl, trivial⟩ trivial rfl) fun i hi hJ => ?_
  refine goR rfl (by trivial) ?_
  refine And.intro (fun h1 => ?_) (fun h1 => ?_)
  · have h1 : i < l.length := by simpa using h1
    refine goR rfl (by simp; omega) (go_pure (c154 (l.getD i default)) rfl rfl rfl rfl rfl rfl ?_)
    refine goR rfl (by trivial) ?_
    refine And.intro (fun h2 => ?_) (fun h2 => ?_)
    · have h2 : (fun x => !decide (x = 1) && !decide (x = 2)) (l.getD i default) = true := h2
      rw [idxI_hit hJ h1 h2]
      refine goR rfl (by trivial) (end_det [] (by first | exact .inr rfl | exact .inl rfl) rfl (wk rfl rfl rfl ⟨.refl _, rfl, trivial⟩ trivial rfl))
    · have h2 : (fun x => !decide (x = 1) && !decide (x = 2)) (l.getD i default) = false := h2
      refine goR rfl (by (repeat' (first | exact trivial | exact rfl | exact PVle.refl _ | exact PVle.bk (by assumption) | apply And.intro)) <;> first | omega | (simp only [Int.toNat_natCast]; omega) | (simp; done) | (simp; omega)) ?_
      exact ⟨h1, (any_step hJ h1).2 h2, [], wk rfl rfl rfl ⟨.refl _, rfl, .refl _, rfl, .refl _, rfl, .refl _, rfl, trivial⟩ trivial rfl⟩
  · have h1 : l.length ≤ i := by simpa using h1
    rw [idxI_none (any_none hJ h1)]
    refine goR rfl (by trivial) (end_det [] (by first | exact .inr rfl | exact .inl rfl) rfl (wk rfl rfl rfl ⟨.refl _, rfl, trivial⟩ trivial rfl))
theorem d153 (l : List Int) : Det Tryz.prog 153 [.iv (slc 1 l intC), .clo (.func 154) [] []] [] (pB (l.any (fun x => !decide (x = 1) && !decide (x = 2)))) [] 0 := by
  refine det_end tyA_ok Tryz.func153 rfl (by decide) Tryz.ntmps153 rfl (by simp) ?_
  refine goR rfl (by trivial) (go_det [] (i187 l) rfl rfl rfl rfl rfl rfl rfl rfl ?_)
  refine goR rfl (by trivial) (end_det [] (by first | exact .inr rfl | exact .inl rfl) rfl (wk rfl rfl rfl ⟨.of_eq (pBE (idxI_any _ l)), rfl, trivial⟩ trivial rfl))


theorem i191 (l : List Term) : Det Tryz.prog 191 [.iv (slc 5 l Term.c), .clo (.func 158) [] []] [] (pI (idxI (fun x : Term => decide (x.kind = 3)) l)) [] 0 := by
  refine detLen (callable_of Tryz.func191 rfl (by decide)) ⟨_, _, List.mem_cons_self⟩ fun hlen => ?_
  simp only [maxLen] at hlen
  refine det_end tyA_ok Tryz.func191 rfl (by decide) Tryz.ntmps191 rfl (by simp) ?_
  refine goR rfl (by trivial) ?_
  refine go_for 0 l.length (Nat.zero_le _) (fun i => ⟨[(0, .iv (slc 5 l Term.c)), (1, .clo (.func 158) [] []), (7, pI l.length), (8, pI i)], [], 0⟩) (fun i => (l.take i).any (fun x : Term => decide (x.kind = 3)) = false) [] (by simp)
    (wk rfl rfl rfl ⟨.refl _, rfl, .refl _, rfl, .refl _, rfl, .refl _, rfl, trivial⟩ trivial rfl) fun i hi hJ => ?_
  refine goR rfl (by trivial) ?_
  refine And.intro (fun h1 => ?_) (fun h1 => ?_)
  · have h1 : i < l.length := by simpa using h1
    refine goR rfl (by simp; omega) (go_pure (c158 (l.getD i default)) rfl rfl rfl rfl rfl rfl ?_)
    refine goR rfl (by trivial) ?_
    refine And.intro (fun h2 => ?_) (fun h2 => ?_)
    · have h2 : (fun x : Term => decide (x.kind = 3)) (l.getD i default) = true := h2
      rw [idxI_hit hJ h1 h2]
      refine goR rfl (by trivial) (end_det [] (by first | exact .inr rfl | exact .inl rfl) rfl (wk rfl rfl rfl ⟨.refl _, rfl, trivial⟩ trivial rfl))
    · have h2 : (fun x : Term => decide (x.kind = 3)) (l.getD i default) = false := h2
      refine goR rfl (by (repeat' (first | exact trivial | exact rfl | exact PVle.refl _ | exact PVle.bk (by assumption) | apply And.intro)) <;> first | omega | (simp only [Int.toNat_natCast]; omega) | (simp; done) | (simp; omega)) ?_
      exact ⟨h1, (any_step hJ h1).2 h2, [], wk rfl rfl rfl ⟨.refl _, rfl, .refl _, rfl, .refl _, rfl, .refl _, rfl, trivial⟩ trivial rfl⟩
  · have h1 : l.length ≤ i := by simpa using h1
    rw [idxI_none (any_none hJ h1)]
    refine goR rfl (by trivial) (end_det [] (by first | exact .inr rfl | exact .inl rfl) rfl (wk rfl rfl rfl ⟨.refl _, rfl, trivial⟩ trivial rfl))
theorem d157 (l : List Term) : Det Tryz.prog 157 [.iv (slc 5 l Term.c), .clo (.func 158) [] []] [] (pB (l.any (fun x : Term => decide (x.kind = 3)))) [] 0 := by
  refine det_end tyA_ok Tryz.func157 rfl (by decide) Tryz.ntmps157 rfl (by simp) ?_
  refine goR rfl (by trivial) (go_det [] (i191 l) rfl rfl rfl rfl rfl rfl rfl rfl ?_)
  refine goR rfl (by trivial) (end_det [] (by first | exact .inr rfl | exact .inl rfl) rfl (wk rfl rfl rfl ⟨.of_eq (pBE (idxI_any _ l)), rfl, trivial⟩ trivial rfl))


theorem i192 (l : List Lit) : Det Tryz.prog 192 [.iv (slc 30 l Lit.c), .clo (.func 160) [] []] [] (pI (idxI (fun x : Lit => decide (x.kind = 4)) l)) [] 0 := by
  refine detLen (callable_of Tryz.func192 rfl (by decide)) ⟨_, _, List.mem_cons_self⟩ fun hlen => ?_
  simp only [maxLen] at hlen
  refine det_end tyA_ok Tryz.func192 rfl (by decide) Tryz.ntmps192 rfl (by simp) ?_
  refine goR rfl (by trivial) ?_
  refine go_for 0 l.length (Nat.zero_le _) (fun i => ⟨[(0, .iv (slc 30 l Lit.c)), (1, .clo (.func 160) [] []), (7, pI l.length), (8, pI i)], [], 0⟩) (fun i => (l.take i).any (fun x : Lit => decide (x.kind = 4)) = false) [] (by simp)
    (wk rfl rfl rfl ⟨.refl _, rfl, .refl _, rfl, .refl _, rfl, .refl _, rfl, trivial⟩ trivial rfl) fun i hi hJ => ?_
  refine goR rfl (by trivial) ?_
  refine And.intro (fun h1 => ?_) (fun h1 => ?_)
  · have h1 : i < l.length := by simpa using h1
    refine goR rfl (by simp; omega) (go_pure (c160 (l.getD i default)) rfl rfl rfl rfl rfl rfl ?_)
    refine goR rfl (by trivial) ?_
    refine And.intro (fun h2 => ?_) (fun h2 => ?_)
    · have h2 : (fun x : Lit => decide (x.kind = 4)) (l.getD i default) = true := h2
      rw [idxI_hit hJ h1 h2]
      refine goR rfl (by trivial) (end_det [] (by first | exact .inr rfl | exact .inl rfl) rfl (wk rfl rfl rfl ⟨.refl _, rfl, trivial⟩ trivial rfl))
    · have h2 : (fun x : Lit => decide (x.kind = 4)) (l.getD i default) = false := h2
      refine goR rfl (by (repeat' (first | exact trivial | exact rfl | exact PVle.refl _ | exact PVle.bk (by assumption) | apply And.intro)) <;> first | omega | (simp only [Int.toNat_natCast]; omega) | (simp; done) | (simp; omega)) ?_
      exact ⟨h1, (any_step hJ h1).2 h2, [], wk rfl rfl rfl ⟨.refl _, rfl, .refl _, rfl, .refl _, rfl, .refl _, rfl, trivial⟩ trivial rfl⟩
  · have h1 : l.length ≤ i := by simpa using h1
    rw [idxI_none (any_none hJ h1)]
    refine goR rfl (by trivial) (end_det [] (by first | exact .inr rfl | exact .inl rfl) rfl (wk rfl rfl rfl ⟨.refl _, rfl, trivial⟩ trivial rfl))
theorem d159 (l : List Lit) : Det Tryz.prog 159 [.iv (slc 30 l Lit.c), .clo (.func 160) [] []] [] (pB (l.any (fun x : Lit => decide (x.kind = 4)))) [] 0 := by
  refine det_end tyA_ok Tryz.func159 rfl (by decide) Tryz.ntmps159 rfl (by simp) ?_
  refine goR rfl (by trivial) (go_det [] (i192 l) rfl rfl rfl rfl rfl rfl rfl rfl ?_)
  refine goR rfl (by trivial) (end_det [] (by first | exact .inr rfl | exact .inl rfl) rfl (wk rfl rfl rfl ⟨.of_eq (pBE (idxI_any _ l)), rfl, trivial⟩ trivial rfl))


theorem i156A (p : Prog) (l : List Atom) : Det Tryz.prog 156 [.iv (slc 2 l Atom.c), .clo (.func 113) [] [.ptr 0 0]] [.cells [.iv (relsI p)]] (pI (idxI (fun x : Atom => absB p x) l)) [(0, some (.cells [.iv (relsI p)]))] 1 := by
  refine detLen (callable_of Tryz.func156 rfl (by decide)) ⟨_, _, List.mem_cons_self⟩ fun hlen => ?_
  simp only [maxLen] at hlen
  refine det_end tyA_ok Tryz.func156 rfl (by decide) Tryz.ntmps156 rfl (by simp) ?_
  refine goR rfl (by trivial) ?_
  refine go_for 0 l.length (Nat.zero_le _) (fun i => ⟨[(0, .iv (slc 2 l Atom.c)), (1, .clo (.func 113) [] [.ptr 0 0]), (7, pI l.length), (8, pI i)], [(0, some (.cells [.iv (relsI p)]))], 1⟩) (fun i => (l.take i).any (fun x : Atom => absB p x) = false) [] (by simp)
    (wk rfl rfl rfl ⟨.refl _, rfl, .refl _, rfl, .refl _, rfl, .refl _, rfl, trivial⟩ ⟨⟨_, rfl, .of_eq rfl⟩, Nat.le_of_ble_eq_true rfl, rfl, trivial⟩ rfl) fun i hi hJ => ?_
  refine goR rfl (by trivial) ?_
  refine And.intro (fun h1 => ?_) (fun h1 => ?_)
  · have h1 : i < l.length := by simpa using h1
    refine goR rfl (by simp; omega) (go_det [0] (d113 p (l.getD i default)) rfl rfl rfl rfl rfl rfl rfl rfl ?_)
    refine goR rfl (by trivial) ?_
    refine And.intro (fun h2 => ?_) (fun h2 => ?_)
    · have h2 : (fun x : Atom => absB p x) (l.getD i default) = true := h2
      rw [idxI_hit hJ h1 h2]
      refine goR rfl (by trivial) (end_det [] (by first | exact .inr rfl | exact .inl rfl) rfl (wk rfl rfl rfl ⟨.refl _, rfl, trivial⟩ ⟨⟨_, rfl, .of_eq rfl⟩, Nat.le_of_ble_eq_true rfl, rfl, trivial⟩ rfl))
    · have h2 : (fun x : Atom => absB p x) (l.getD i default) = false := h2
      refine goR rfl (by (repeat' (first | exact trivial | exact rfl | exact PVle.refl _ | exact PVle.bk (by assumption) | apply And.intro)) <;> first | omega | (simp only [Int.toNat_natCast]; omega) | (simp; done) | (simp; omega)) ?_
      exact ⟨h1, (any_step hJ h1).2 h2, [], wk rfl rfl rfl ⟨.refl _, rfl, .refl _, rfl, .refl _, rfl, .refl _, rfl, trivial⟩ ⟨⟨_, rfl, .of_eq rfl⟩, Nat.le_of_ble_eq_true rfl, rfl, trivial⟩ rfl⟩
  · have h1 : l.length ≤ i := by simpa using h1
    rw [idxI_none (any_none hJ h1)]
    refine goR rfl (by trivial) (end_det [] (by first | exact .inr rfl | exact .inl rfl) rfl (wk rfl rfl rfl ⟨.refl _, rfl, trivial⟩ ⟨⟨_, rfl, .of_eq rfl⟩, Nat.le_of_ble_eq_true rfl, rfl, trivial⟩ rfl))
theorem d111A (p : Prog) (l : List Atom) : Det Tryz.prog 111 [.iv (slc 2 l Atom.c), .clo (.func 113) [] [.ptr 0 0]] [.cells [.iv (relsI p)]] (pB (l.any (fun x : Atom => absB p x))) [(0, some (.cells [.iv (relsI p)]))] 1 := by
  refine det_end tyA_ok Tryz.func111 rfl (by decide) Tryz.ntmps111 rfl (by simp) ?_
  refine goR rfl (by trivial) (go_det [0] (i156A p l) rfl rfl rfl rfl rfl rfl rfl rfl ?_)
  refine goR rfl (by trivial) (end_det [] (by first | exact .inr rfl | exact .inl rfl) rfl (wk rfl rfl rfl ⟨.of_eq (pBE (idxI_any _ l)), rfl, trivial⟩ ⟨⟨_, rfl, .of_eq rfl⟩, Nat.le_of_ble_eq_true rfl, rfl, trivial⟩ rfl))


theorem i156B (p : Prog) (l : List Atom) : Det Tryz.prog 156 [.iv (slc 2 l Atom.c), .clo (.func 115) [] [.ptr 0 0]] [.cells [.iv (relsI p)]] (pI (idxI (fun x : Atom => aryB p x) l)) [(0, some (.cells [.iv (relsI p)]))] 1 := by
  refine detLen (callable_of Tryz.func156 rfl (by decide)) ⟨_, _, List.mem_cons_self⟩ fun hlen => ?_
  simp only [maxLen] at hlen
  refine det_end tyA_ok Tryz.func156 rfl (by decide) Tryz.ntmps156 rfl (by simp) ?_
  refine goR rfl (by trivial) ?_
  refine go_for 0 l.length (Nat.zero_le _) (fun i => ⟨[(0, .iv (slc 2 l Atom.c)), (1, .clo (.func 115) [] [.ptr 0 0]), (7, pI l.length), (8, pI i)], [(0, some (.cells [.iv (relsI p)]))], 1⟩) (fun i => (l.take i).any (fun x : Atom => aryB p x) = false) [] (by simp)
    (wk rfl rfl rfl ⟨.refl _, rfl, .refl _, rfl, .refl _, rfl, .refl _, rfl, trivial⟩ ⟨⟨_, rfl, .of_eq rfl⟩, Nat.le_of_ble_eq_true rfl, rfl, trivial⟩ rfl) fun i hi hJ => ?_
  refine goR rfl (by trivial) ?_
  refine And.intro (fun h1 => ?_) (fun h1 => ?_)
  · have h1 : i < l.length := by simpa using h1
    refine goR rfl (by simp; omega) (go_det [0] (d115 p (l.getD i default)) rfl rfl rfl rfl rfl rfl rfl rfl ?_)
    refine goR rfl (by trivial) ?_
    refine And.intro (fun h2 => ?_) (fun h2 => ?_)
    · have h2 : (fun x : Atom => aryB p x) (l.getD i default) = true := h2
      rw [idxI_hit hJ h1 h2]
      refine goR rfl (by trivial) (end_det [] (by first | exact .inr rfl | exact .inl rfl) rfl (wk rfl rfl rfl ⟨.refl _, rfl, trivial⟩ ⟨⟨_, rfl, .of_eq rfl⟩, Nat.le_of_ble_eq_true rfl, rfl, trivial⟩ rfl))
    · have h2 : (fun x : Atom => aryB p x) (l.getD i default) = false := h2
      refine goR rfl (by (repeat' (first | exact trivial | exact rfl | exact PVle.refl _ | exact PVle.bk (by assumption) | apply And.intro)) <;> first | omega | (simp only [Int.toNat_natCast]; omega) | (simp; done) | (simp; omega)) ?_
      exact ⟨h1, (any_step hJ h1).2 h2, [], wk rfl rfl rfl ⟨.refl _, rfl, .refl _, rfl, .refl _, rfl, .refl _, rfl, trivial⟩ ⟨⟨_, rfl, .of_eq rfl⟩, Nat.le_of_ble_eq_true rfl, rfl, trivial⟩ rfl⟩
  · have h1 : l.length ≤ i := by simpa using h1
    rw [idxI_none (any_none hJ h1)]
    refine goR rfl (by trivial) (end_det [] (by first | exact .inr rfl | exact .inl rfl) rfl (wk rfl rfl rfl ⟨.refl _, rfl, trivial⟩ ⟨⟨_, rfl, .of_eq rfl⟩, Nat.le_of_ble_eq_true rfl, rfl, trivial⟩ rfl))
theorem d111B (p : Prog) (l : List Atom) : Det Tryz.prog 111 [.iv (slc 2 l Atom.c), .clo (.func 115) [] [.ptr 0 0]] [.cells [.iv (relsI p)]] (pB (l.any (fun x : Atom => aryB p x))) [(0, some (.cells [.iv (relsI p)]))] 1 := by
  refine det_end tyA_ok Tryz.func111 rfl (by decide) Tryz.ntmps111 rfl (by simp) ?_
  refine goR rfl (by trivial) (go_det [0] (i156B p l) rfl rfl rfl rfl rfl rfl rfl rfl ?_)
  refine goR rfl (by trivial) (end_det [] (by first | exact .inr rfl | exact .inl rfl) rfl (wk rfl rfl rfl ⟨.of_eq (pBE (idxI_any _ l)), rfl, trivial⟩ ⟨⟨_, rfl, .of_eq rfl⟩, Nat.le_of_ble_eq_true rfl, rfl, trivial⟩ rfl))

end Go.Proofs.YtpnclpbkecjinaaGreatDoorR
/-
  What a rule's checks look at.
-/
namespace Go.Proofs.YtpnclpbkecjinaaGreatDoorR
open Go Go.Al
set_option maxRecDepth 10000

def posNeg (l : Lit) : List Atom := if l.kind = 1 ∨ l.kind = 2 then [l.atom] else []
theorem posNeg_len : ∀ l : List Lit, (l.flatMap posNeg).length ≤ l.length
  | [] => by simp
  | x :: r => by
    have h1 := posNeg_len r
    have h2 : (posNeg x).length ≤ 1 := by unfold posNeg; split <;> simp
    simp only [List.flatMap_cons, List.length_append, List.length_cons]; omega
/-- The literals that are looked at with one of the body: its own, or the aggregate's. -/
def litsAt (r : Rule) (lit : Int) : List Lit := if (litAt r lit).kind = 4 then (litAt r lit).abody else [litAt r lit]
def atomsL (r : Rule) (lit : Int) : List Atom := if lit < 0 then [r.head] else (litsAt r lit).flatMap posNeg

theorem litsOne (r : Rule) (lit : Int) (h : 0 ≤ lit) : IVle (.imm 30 ((lit + 1).toNat - lit.toNat) (fun j => (r.body.getD (lit.toNat + j) default).c)) (lits [litAt r lit]) := by
  have e : (lit + 1).toNat - lit.toNat = 1 := by omega
  rw [e]
  exact .imm rfl (fun j hj => by
    have : j = 0 := by omega
    subst this; rfl)

theorem c112 (r : Rule) (lit : Int) (h1 : lit < r.body.length) (hb : r.size ≤ 1000000000000) : Pure Tryz.prog 112 [ag r.c, pI lit] (.iv (slc 2 (atomsL r lit) Atom.c)) := by
  have hbl := Lit.length_sizes r.body
  have h0 : Lit.sizes r.body ≤ r.size := Nat.le_add_left _ _
  refine pure_end tyA_ok Tryz.func112 rfl (by decide) Tryz.ntmps112 rfl (by simp) rfl ?_
  refine goR rfl (by trivial) ?_
  refine And.intro (fun h2 => ?_) (fun h2 => ?_)
  · have h2 : lit < 0 := by simpa using h2
    refine goR rfl (by trivial) (end_row (by first | exact .inr rfl | exact .inl rfl) rfl rfl (by rw [atomsL, if_pos h2]; rfl) (by rw [atomsL, if_pos h2]; rfl))
  have h2 : ¬ lit < 0 := by simpa using h2
  have hk : lit.toNat < r.body.length := by omega
  have hsz := Lit.sizes_get r.body lit.toNat hk
  have hse := (litAt r lit).size_eq
  have hsl := Lit.length_sizes (litAt r lit).abody
  have hle : (litAt r lit).size ≤ Lit.sizes r.body := hsz
  refine goR rfl (by (repeat' (first | exact trivial | exact rfl | exact PVle.refl _ | exact PVle.bk (by assumption) | apply And.intro)) <;> first | omega | (simp only [Int.toNat_natCast]; omega) | (simp; done) | (simp; omega)) ?_
  refine And.intro (fun h3 => ?_) (fun h3 => ?_)
  · have h3 : (litAt r lit).kind = 4 := by simpa [litAt] using h3
    have hat : atomsL r lit = (litAt r lit).abody.flatMap posNeg := by rw [atomsL, if_neg h2, litsAt, if_pos h3]
    refine goR rfl (by simp; omega) ?_
    refine go_virt 6 2 rfl ?_
    refine go_for 0 ((litAt r lit).abody).length (Nat.zero_le _) (fun i => ⟨[(6, .sl 2 0 ((((litAt r lit).abody).take i).flatMap posNeg).length 2), (30, .iv (lits ((litAt r lit).abody))), (31, pI ((litAt r lit).abody).length), (32, pI i)], [(2, some (rowI 2 ((((litAt r lit).abody).take i).flatMap posNeg) Atom.c))], 3⟩) (fun _ => True) [1] trivial
      (wk rfl rfl rfl ⟨.refl _, rfl, .iv (litsIL _), rfl, .refl _, rfl, .refl _, rfl, trivial⟩ (hR rfl rfl rfl trivial) rfl) fun i hi _ => ?_
    have hpl := posNeg_len (((litAt r lit).abody).take i)
    have htl : (((litAt r lit).abody).take i).length ≤ ((litAt r lit).abody).length := by rw [List.length_take]; exact Nat.min_le_right _ _
    have hLb : ((litAt r lit).abody).length ≤ 1000000000000 := by first | omega | (rw [List.length_singleton]; omega)
    refine goR rfl (by trivial) ?_
    refine And.intro (fun h4 => ?_) (fun h4 => ?_)
    · have h4 : i < ((litAt r lit).abody).length := Int.ofNat_lt.1 (of_decide_eq_true h4)
      have hs := flatMap_step (f := posNeg) h4
      have hyes : ((((litAt r lit).abody).getD i default).kind = 1 ∨ (((litAt r lit).abody).getD i default).kind = 2) → (((litAt r lit).abody).take (i + 1)).flatMap posNeg = (((litAt r lit).abody).take i).flatMap posNeg ++ [(((litAt r lit).abody).getD i default).atom] := fun h => by rw [hs, posNeg, if_pos h]
      have hno : ¬ ((((litAt r lit).abody).getD i default).kind = 1 ∨ (((litAt r lit).abody).getD i default).kind = 2) → (((litAt r lit).abody).take (i + 1)).flatMap posNeg = (((litAt r lit).abody).take i).flatMap posNeg := fun h => by rw [hs, posNeg, if_neg h, List.append_nil]
      refine goR rfl (by simp; omega) ?_
      refine And.intro (fun h5 => ?_) (fun h5 => ?_)
      · have h5 : ¬ (((litAt r lit).abody).getD i default).kind = 1 := by simpa using h5
        refine goR rfl (by trivial) ?_
        refine And.intro (fun h6 => ?_) (fun h6 => ?_)
        · have h6 : (((litAt r lit).abody).getD i default).kind = 2 := by simpa using h6
          have hs := hyes (.inr h6)
          refine goR rfl (by (repeat' (first | exact trivial | exact rfl | exact PVle.refl _ | exact PVle.bk (by assumption) | apply And.intro)) <;> first | omega | (simp only [Int.toNat_natCast]; omega) | (simp; done) | (simp; omega)) ?_
          exact ⟨h4, trivial, [5], wk rfl rfl rfl ⟨.row (by rw [hs, List.length_append]; rfl), rfl, .refl _, rfl, .refl _, rfl, .refl _, rfl, trivial⟩ (hR rfl (by rw [hs, List.map_append]; rfl) rfl trivial) rfl⟩
        · have h6 : ¬ (((litAt r lit).abody).getD i default).kind = 2 := by simpa using h6
          have hs := hno (fun h => h.elim h5 h6)
          refine goR rfl (by (repeat' (first | exact trivial | exact rfl | exact PVle.refl _ | exact PVle.bk (by assumption) | apply And.intro)) <;> first | omega | (simp only [Int.toNat_natCast]; omega) | (simp; done) | (simp; omega)) ?_
          exact ⟨h4, trivial, [2], wk rfl rfl rfl ⟨.row (by rw [hs]), rfl, .refl _, rfl, .refl _, rfl, .refl _, rfl, trivial⟩ (hR rfl (by rw [hs]) rfl trivial) rfl⟩
      · have h5 : (((litAt r lit).abody).getD i default).kind = 1 := by simpa using h5
        have hs := hyes (.inl h5)
        refine goR rfl (by (repeat' (first | exact trivial | exact rfl | exact PVle.refl _ | exact PVle.bk (by assumption) | apply And.intro)) <;> first | omega | (simp only [Int.toNat_natCast]; omega) | (simp; done) | (simp; omega)) ?_
        exact ⟨h4, trivial, [5], wk rfl rfl rfl ⟨.row (by rw [hs, List.length_append]; rfl), rfl, .refl _, rfl, .refl _, rfl, .refl _, rfl, trivial⟩ (hR rfl (by rw [hs, List.map_append]; rfl) rfl trivial) rfl⟩
    · have h4 : ((litAt r lit).abody).length ≤ i := Nat.le_of_not_lt fun hh => absurd (Int.ofNat_lt.2 hh) (of_decide_eq_false h4)
      rw [List.take_of_length_le h4] at *
      refine goR rfl (by trivial) (end_row (by first | exact .inr rfl | exact .inl rfl) rfl rfl (by rw [hat]) (by rw [hat]))
  · have h3 : ¬ (litAt r lit).kind = 4 := by simpa [litAt] using h3
    have hat : atomsL r lit = [litAt r lit].flatMap posNeg := by rw [atomsL, if_neg h2, litsAt, if_neg h3]
    refine goR rfl (by trivial) ?_
    refine go_virt 6 2 rfl ?_
    refine go_for 0 ([litAt r lit]).length (Nat.zero_le _) (fun i => ⟨[(6, .sl 2 0 ((([litAt r lit]).take i).flatMap posNeg).length 2), (30, .iv (lits ([litAt r lit]))), (31, pI ([litAt r lit]).length), (32, pI i)], [(2, some (rowI 2 ((([litAt r lit]).take i).flatMap posNeg) Atom.c))], 3⟩) (fun _ => True) [1] trivial
      (wk rfl rfl rfl ⟨.refl _, rfl, .iv (litsOne r lit (by omega)), rfl, .of_eq (pIE (by simp only [List.length_singleton]; omega)), rfl, .refl _, rfl, trivial⟩ (hR rfl rfl rfl trivial) rfl) fun i hi _ => ?_
    have hpl := posNeg_len (([litAt r lit]).take i)
    have htl : (([litAt r lit]).take i).length ≤ ([litAt r lit]).length := by rw [List.length_take]; exact Nat.min_le_right _ _
    have hLb : ([litAt r lit]).length ≤ 1000000000000 := by first | omega | (rw [List.length_singleton]; omega)
    refine goR rfl (by trivial) ?_
    refine And.intro (fun h4 => ?_) (fun h4 => ?_)
    · have h4 : i < ([litAt r lit]).length := Int.ofNat_lt.1 (of_decide_eq_true h4)
      have hs := flatMap_step (f := posNeg) h4
      have hyes : ((([litAt r lit]).getD i default).kind = 1 ∨ (([litAt r lit]).getD i default).kind = 2) → (([litAt r lit]).take (i + 1)).flatMap posNeg = (([litAt r lit]).take i).flatMap posNeg ++ [(([litAt r lit]).getD i default).atom] := fun h => by rw [hs, posNeg, if_pos h]
      have hno : ¬ ((([litAt r lit]).getD i default).kind = 1 ∨ (([litAt r lit]).getD i default).kind = 2) → (([litAt r lit]).take (i + 1)).flatMap posNeg = (([litAt r lit]).take i).flatMap posNeg := fun h => by rw [hs, posNeg, if_neg h, List.append_nil]
      refine goR rfl (by (repeat' (first | exact trivial | exact rfl | exact PVle.refl _ | exact PVle.bk (by assumption) | apply And.intro)) <;> first | omega | (simp only [Int.toNat_natCast]; omega) | (simp; done) | (simp; omega)) ?_
      refine And.intro (fun h5 => ?_) (fun h5 => ?_)
      · have h5 : ¬ (([litAt r lit]).getD i default).kind = 1 := by simpa using h5
        refine goR rfl (by trivial) ?_
        refine And.intro (fun h6 => ?_) (fun h6 => ?_)
        · have h6 : (([litAt r lit]).getD i default).kind = 2 := by simpa using h6
          have hs := hyes (.inr h6)
          refine goR rfl (by (repeat' (first | exact trivial | exact rfl | exact PVle.refl _ | exact PVle.bk (by assumption) | apply And.intro)) <;> first | omega | (simp only [Int.toNat_natCast]; omega) | (simp; done) | (simp; omega)) ?_
          exact ⟨h4, trivial, [5], wk rfl rfl rfl ⟨.row (by rw [hs, List.length_append]; rfl), rfl, .refl _, rfl, .refl _, rfl, .refl _, rfl, trivial⟩ (hR rfl (by rw [hs, List.map_append]; rfl) rfl trivial) rfl⟩
        · have h6 : ¬ (([litAt r lit]).getD i default).kind = 2 := by simpa using h6
          have hs := hno (fun h => h.elim h5 h6)
          refine goR rfl (by (repeat' (first | exact trivial | exact rfl | exact PVle.refl _ | exact PVle.bk (by assumption) | apply And.intro)) <;> first | omega | (simp only [Int.toNat_natCast]; omega) | (simp; done) | (simp; omega)) ?_
          exact ⟨h4, trivial, [2], wk rfl rfl rfl ⟨.row (by rw [hs]), rfl, .refl _, rfl, .refl _, rfl, .refl _, rfl, trivial⟩ (hR rfl (by rw [hs]) rfl trivial) rfl⟩
      · have h5 : (([litAt r lit]).getD i default).kind = 1 := by simpa using h5
        have hs := hyes (.inl h5)
        refine goR rfl (by (repeat' (first | exact trivial | exact rfl | exact PVle.refl _ | exact PVle.bk (by assumption) | apply And.intro)) <;> first | omega | (simp only [Int.toNat_natCast]; omega) | (simp; done) | (simp; omega)) ?_
        exact ⟨h4, trivial, [5], wk rfl rfl rfl ⟨.row (by rw [hs, List.length_append]; rfl), rfl, .refl _, rfl, .refl _, rfl, .refl _, rfl, trivial⟩ (hR rfl (by rw [hs, List.map_append]; rfl) rfl trivial) rfl⟩
    · have h4 : ([litAt r lit]).length ≤ i := Nat.le_of_not_lt fun hh => absurd (Int.ofNat_lt.2 hh) (of_decide_eq_false h4)
      rw [List.take_of_length_le h4] at *
      refine goR rfl (by trivial) (end_row (by first | exact .inr rfl | exact .inl rfl) rfl rfl (by rw [hat]) (by rw [hat]))

theorem d110 (p : Prog) (r : Rule) (lit : Int) (h1 : lit < r.body.length) (hb : r.size ≤ 1000000000000) : Det Tryz.prog 110 [pI lit, .ptr 0 0, .ptr 1 0] [cellsI r.c, .cells [.iv (relsI p)]] (pB ((atomsL r lit).any fun x => absB p x)) [(0, some (cellsI r.c)), (1, some (.cells [.iv (relsI p)]))] 2 := by
  refine det_end tyA_ok Tryz.func110 rfl (by decide) Tryz.ntmps110 rfl (by simp) ?_
  refine goR rfl (by trivial) (go_pure (c112 r lit h1 hb) rfl rfl rfl rfl rfl rfl ?_)
  refine goR rfl (by trivial) (go_det [1] (d111A p (atomsL r lit)) rfl rfl rfl rfl rfl rfl rfl rfl ?_)
  refine goR rfl (by trivial) (end_det [] (by first | exact .inr rfl | exact .inl rfl) rfl (wk rfl rfl rfl ⟨.refl _, rfl, trivial⟩ (hC rfl rfl rfl ⟨⟨_, rfl, .of_eq rfl⟩, Nat.le_of_ble_eq_true rfl, rfl, trivial⟩) rfl))
theorem d114 (p : Prog) (r : Rule) (lit : Int) (h1 : lit < r.body.length) (hb : r.size ≤ 1000000000000) : Det Tryz.prog 114 [pI lit, .ptr 0 0, .ptr 1 0] [cellsI r.c, .cells [.iv (relsI p)]] (pB ((atomsL r lit).any fun x => aryB p x)) [(0, some (cellsI r.c)), (1, some (.cells [.iv (relsI p)]))] 2 := by
  refine det_end tyA_ok Tryz.func114 rfl (by decide) Tryz.ntmps114 rfl (by simp) ?_
  refine goR rfl (by trivial) (go_pure (c112 r lit h1 hb) rfl rfl rfl rfl rfl rfl ?_)
  refine goR rfl (by trivial) (go_det [1] (d111B p (atomsL r lit)) rfl rfl rfl rfl rfl rfl rfl rfl ?_)
  refine goR rfl (by trivial) (end_det [] (by first | exact .inr rfl | exact .inl rfl) rfl (wk rfl rfl rfl ⟨.refl _, rfl, trivial⟩ (hC rfl rfl rfl ⟨⟨_, rfl, .of_eq rfl⟩, Nat.le_of_ble_eq_true rfl, rfl, trivial⟩) rfl))

/-- Out of its scope. -/
def scopeB (r : Rule) (lit : Int) : Bool := if lit < 0 then r.head.terms.any fun x => decide (x.kind = 3) else if (litAt r lit).kind = 4 then ((litAt r lit).abody.any fun x => decide (x.kind = 4)) || inL (aggOcc (litAt r lit).agg) (litAt r lit).avar else false
theorem c117 (r : Rule) (lit : Int) (h1 : lit < r.body.length) (hb : r.size ≤ 100000000) : Pure Tryz.prog 117 [ag r.c, pI lit] (pB (scopeB r lit)) := by
  have hbl := Lit.length_sizes r.body
  have h0 : Lit.sizes r.body ≤ r.size := Nat.le_add_left _ _
  refine pure_end tyA_ok Tryz.func117 rfl (by decide) Tryz.ntmps117 rfl (by simp) rfl ?_
  refine goR rfl (by trivial) ?_
  refine And.intro (fun h2 => ?_) (fun h2 => ?_)
  · have h2 : lit < 0 := by simpa using h2
    refine goR rfl (by trivial) (go_det [] (d157 r.head.terms) rfl rfl rfl rfl rfl rfl rfl rfl ?_)
    refine goR rfl (by trivial) (end_le (by first | exact .inr rfl | exact .inl rfl) rfl (.of_eq ?_))
    rw [scopeB, if_pos h2]; rfl
  have h2 : ¬ lit < 0 := by simpa using h2
  have hk : lit.toNat < r.body.length := by omega
  have hsz := Lit.sizes_get r.body lit.toNat hk
  have hag := (litAt r lit).agg_size
  have hle : (litAt r lit).size ≤ Lit.sizes r.body := hsz
  have hal := aggOcc_len (litAt r lit).agg
  refine goR rfl (by simp; omega) ?_
  refine And.intro (fun h3 => ?_) (fun h3 => ?_)
  · have h3 : ¬ (litAt r lit).kind = 4 := by simpa [litAt] using h3
    refine goR rfl (by trivial) (end_le (by first | exact .inr rfl | exact .inl rfl) rfl (.of_eq ?_))
    rw [scopeB, if_neg h2, if_neg h3]
  have h3 : (litAt r lit).kind = 4 := by simpa [litAt] using h3
  refine goR rfl (by simp; omega) (go_det [] (Det.le (aa := [.iv (bodyR (litAt r lit).abody), .clo (.func 160) [] []]) (d159 (litAt r lit).abody) ⟨.iv (litsIL _), .refl _, trivial⟩) rfl rfl rfl rfl rfl rfl rfl rfl ?_)
  refine goR rfl (by trivial) ?_
  refine And.intro (fun h4 => ?_) (fun h4 => ?_)
  rotate_left
  · have h4 : ((litAt r lit).abody.any fun x => decide (x.kind = 4)) = false := h4
    have hlk := occM_lk (aggOcc (litAt r lit).agg) (litAt r lit).avar
    have hct := inL_cnt (occ := aggOcc (litAt r lit).agg) (s := (litAt r lit).avar)
    refine goR rfl (by trivial) (go_ddet tyA_ok [] (d127 (litAt r lit).agg (by omega)) rfl rfl rfl rfl rfl rfl rfl rfl rfl rfl rfl rfl (by trivial) rfl (by (repeat' (first | exact trivial | exact rfl | exact PVle.refl _ | exact PVle.bk (by assumption) | apply And.intro)) <;> first | omega | (simp only [Int.toNat_natCast]; omega) | (simp; done) | (simp; omega)) ?_)
    refine goR rfl (by trivial) (end_le (by first | exact .inr rfl | exact .inl rfl) rfl (.of_eq ?_))
    refine (pBE ?_ : pB (decide (lkD .str (occM (aggOcc (litAt r lit).agg)) (litAt r lit).avar 0 > 0)) = _)
    rw [scopeB, if_neg h2, if_pos h3, h4, hct, hlk, Bool.false_or]
    by_cases hz : cntL (aggOcc (litAt r lit).agg) (litAt r lit).avar = 0 <;> simp [hz]; omega
  · have h4 : ((litAt r lit).abody.any fun x => decide (x.kind = 4)) = true := h4
    refine goR rfl (by trivial) (end_le (by first | exact .inr rfl | exact .inl rfl) rfl (.of_eq ?_))
    rw [scopeB, if_neg h2, if_pos h3, h4]; rfl
theorem d116 (r : Rule) (lit : Int) (h1 : lit < r.body.length) (hb : r.size ≤ 100000000) : Det Tryz.prog 116 [pI lit, .ptr 0 0] [cellsI r.c] (pB (scopeB r lit)) [(0, some (cellsI r.c))] 1 := by
  refine det_end tyA_ok Tryz.func116 rfl (by decide) Tryz.ntmps116 rfl (by simp) ?_
  refine goR rfl (by trivial) (go_pure (c117 r lit h1 hb) rfl rfl rfl rfl rfl rfl ?_)
  refine goR rfl (by trivial) (end_det [] (by first | exact .inr rfl | exact .inl rfl) rfl (wk rfl rfl rfl ⟨.refl _, rfl, trivial⟩ (hC rfl rfl rfl trivial) rfl))

/-- Where a rule's fault stands. -/
def placeL (r : Rule) (lit : Int) : Pos := if lit < 0 then r.at_ else (litAt r lit).at
theorem c120 (r : Rule) (lit : Int) (h1 : lit < r.body.length) : Pure Tryz.prog 120 [ag r.c, pI lit] (ag [iI (placeL r lit).line, iI (placeL r lit).col]) := by
  refine pure_end tyA_ok Tryz.func120 rfl (by decide) Tryz.ntmps120 rfl (by simp) rfl ?_
  refine goR rfl (by trivial) ?_
  refine And.intro (fun h2 => ?_) (fun h2 => ?_)
  · have h2 : lit < 0 := by simpa using h2
    refine goR rfl (by trivial) (end_le (by first | exact .inr rfl | exact .inl rfl) rfl (.of_eq ?_))
    rw [placeL, if_pos h2]; rfl
  have h2 : ¬ lit < 0 := by simpa using h2
  refine goR rfl (by simp; omega) (end_le (by first | exact .inr rfl | exact .inl rfl) rfl (.of_eq ?_))
  rw [placeL, if_neg h2]; rfl

/-- How many variables a rule has. -/
def locLen (r : Rule) (l : Lit) : Nat := if l.kind = 4 then (locM r l.agg).length else 0
def sizeN (r : Rule) : Nat := r.body.foldl (fun n l => n + locLen r l) (occM (outerOcc r)).length
theorem locLen_le (r : Rule) (l : Lit) : locLen r l ≤ l.size := by
  unfold locLen
  split
  · have h1 : (locM r l.agg).length ≤ (occM (aggOcc l.agg)).length := List.length_filter_le _ _
    have h2 := occM_len (aggOcc l.agg)
    have h3 := aggOcc_len l.agg
    have h4 := l.agg_size
    omega
  · omega
theorem sizeN_le (r : Rule) : ∀ (l : List Lit) (n : Nat), l.foldl (fun n l => n + locLen r l) n ≤ n + Lit.sizes l
  | [], n => by simp
  | x :: t, n => by
    have h1 := sizeN_le r t (n + locLen r x)
    have h2 := locLen_le r x
    simp only [List.foldl_cons, Lit.sizes]; omega
theorem c109 (r : Rule) (hb : r.size ≤ 100000000) : Pure Tryz.prog 109 [.iv (bookI r)] (pI (sizeN r)) := by
  have hbl := Lit.length_sizes r.body
  have h0 : Lit.sizes r.body ≤ r.size := Nat.le_add_left _ _
  have ho := outerOcc_len r
  have ho2 := occM_len (outerOcc r)
  refine pure_end tyA_ok Tryz.func109 rfl (by decide) Tryz.ntmps109 rfl (by simp) rfl ?_
  refine goR rfl (by trivial) ?_
  refine go_for 0 r.body.length (Nat.zero_le _) (fun i => ⟨[(0, .iv (bookI r)), (3, pI (((r.body.take i).foldl (fun n l => n + locLen r l) (occM (outerOcc r)).length : Nat))), (15, .iv (lits r.body)), (16, pI r.body.length), (17, pI i)], [], 0⟩) (fun _ => True) [] trivial
    (wk rfl rfl rfl ⟨.refl _, rfl, .refl _, rfl, .refl _, rfl, .refl _, rfl, .refl _, rfl, trivial⟩ trivial rfl) fun i hi _ => ?_
  have hs1 := sizeN_le r (r.body.take i) (occM (outerOcc r)).length
  have hs2 := Lit.sizes_take r.body i
  refine goR rfl (by trivial) ?_
  refine And.intro (fun h1 => ?_) (fun h1 => ?_)
  · have h1 : i < r.body.length := by simpa using h1
    have hs := fold_step (g := fun n l => n + locLen r l) (b := (occM (outerOcc r)).length) h1
    have hsz := Lit.sizes_get r.body i h1
    have hag := (r.body.getD i default).agg_size
    have hll := locLen_le r (r.body.getD i default)
    refine goR rfl (by simp; omega) ?_
    refine And.intro (fun h2 => ?_) (fun h2 => ?_)
    · have h2 : (r.body.getD i default).kind = 4 := by simpa using h2
      rw [locLen, if_pos h2] at hs hll
      refine goR rfl (by trivial) (go_det [] (d79 r (r.body.getD i default).agg (by omega)) rfl rfl rfl rfl rfl rfl rfl rfl ?_)
      refine goR rfl (by (repeat' (first | exact trivial | exact rfl | exact PVle.refl _ | exact PVle.bk (by assumption) | apply And.intro)) <;> first | omega | (simp only [Int.toNat_natCast]; omega) | (simp; done) | (simp; omega)) ?_
      exact ⟨h1, trivial, [], wk rfl rfl rfl ⟨.refl _, rfl, .of_eq (pIE (by rw [hs]; rfl)), rfl, .refl _, rfl, .refl _, rfl, .refl _, rfl, trivial⟩ trivial rfl⟩
    · have h2 : ¬ (r.body.getD i default).kind = 4 := by simpa using h2
      rw [locLen, if_neg h2] at hs
      refine goR rfl (by (repeat' (first | exact trivial | exact rfl | exact PVle.refl _ | exact PVle.bk (by assumption) | apply And.intro)) <;> first | omega | (simp only [Int.toNat_natCast]; omega) | (simp; done) | (simp; omega)) ?_
      exact ⟨h1, trivial, [], wk rfl rfl rfl ⟨.refl _, rfl, .of_eq (pIE (by rw [hs]; rfl)), rfl, .refl _, rfl, .refl _, rfl, .refl _, rfl, trivial⟩ trivial rfl⟩
  · have h1 : r.body.length ≤ i := by simpa using h1
    refine goR rfl (by trivial) (end_le (by first | exact .inr rfl | exact .inl rfl) rfl (.of_eq ?_))
    rw [List.take_of_length_le h1]; rfl
end Go.Proofs.YtpnclpbkecjinaaGreatDoorR
/-
  Loose variables; what closing over a body holds is the least that is closed.
-/
namespace Go.Proofs.YtpnclpbkecjinaaGreatDoorR
open Go Go.Al
set_option maxRecDepth 10000

/-! The closed set does not hang on the order. -/
section
variable {may : List Str → Expr → Bool} {more : List Str → Agg → Bool} {body : List Lit}
theorem closedN_fix : ∀ (n : Nat) (occ : List Str), miss (cands body) occ < n → firstV (may (closedN may more body n occ)) (more (closedN may more body n occ)) (closedN may more body n occ) body = none
  | 0, occ, h => by omega
  | n + 1, occ, h => by
    cases hv : firstV (may occ) (more occ) occ body with
    | none => rw [closedN_none hv]; exact hv
    | some v =>
      rw [closedN_some hv]
      refine closedN_fix n _ ?_
      obtain ⟨g1, g2⟩ := firstV_new hv
      have hlt := miss_lt g1 g2
      have hlt2 : miss (cands body) (occ ++ [v]) = miss (cands body) (withL occ v) := by
        unfold miss
        congr 2
        funext x
        congr 1
        rw [Bool.eq_iff_iff, inL_iff, inL_iff, mem_withL, List.mem_append, List.mem_singleton]
      omega
theorem closedL_fix (occ : List Str) : firstV (may (closedL may more body occ)) (more (closedL may more body occ)) (closedL may more body occ) body = none := by
  refine closedN_fix _ _ ?_
  have h1 := miss_le (cands body) (occ ++ body.flatMap posOcc)
  have h2 := cands_len body
  omega
theorem closedN_ext : ∀ (n : Nat) (occ : List Str), ∀ x ∈ occ, x ∈ closedN may more body n occ
  | 0, occ, x, h => h
  | n + 1, occ, x, h => by
    cases hv : firstV (may occ) (more occ) occ body with
    | none => rw [closedN_none hv]; exact h
    | some v => rw [closedN_some hv]; exact closedN_ext n _ x (List.mem_append_left _ h)
theorem firstV_none {m1 : Expr → Bool} {m2 : Agg → Bool} {occ : List Str} : ∀ {l : List Lit}, firstV m1 m2 occ l = none → ∀ x ∈ l, newV m1 m2 occ x = none
  | [], _, x, hx => by cases hx
  | y :: r, h, x, hx => by
    simp only [firstV] at h
    split at h
    · cases h
    · rename_i h1
      rcases List.mem_cons.1 hx with rfl | hx
      · exact h1
      · exact firstV_none h x hx
theorem firstV_some {m1 : Expr → Bool} {m2 : Agg → Bool} {occ : List Str} {v : Str} : ∀ {l : List Lit}, firstV m1 m2 occ l = some v → ∃ x ∈ l, newV m1 m2 occ x = some v
  | [], h => by cases h
  | y :: r, h => by
    simp only [firstV] at h
    split at h
    · rename_i w hw; exact ⟨y, List.mem_cons_self, hw.trans h⟩
    · obtain ⟨x, hx, h2⟩ := firstV_some h; exact ⟨x, List.mem_cons_of_mem _ hx, h2⟩
variable (hmay : ∀ a b : List Str, (∀ x ∈ a, x ∈ b) → ∀ e, may a e = true → may b e = true) (hmore : ∀ a b : List Str, (∀ x ∈ a, x ∈ b) → ∀ e, more a e = true → more b e = true)
include hmay hmore
theorem newV_in {occ C : List Str} (hsub : ∀ x ∈ occ, x ∈ C) {l : Lit} {v : Str} (h : newV (may occ) (more occ) occ l = some v) (hC : newV (may C) (more C) C l = none) : v ∈ C := by
  have hl : ∀ y, y ∉ C → inL C y = false := fun y hy => inL_false.2 hy
  have hnew := (newV_new h).2
  refine Classical.byContradiction fun hv => ?_
  unfold newV at h hC
  by_cases hc : (copB (may occ) occ l).2 = true
  · rw [if_pos hc] at h
    simp only [Option.some.injEq] at h
    have hcC : (copB (may C) C l).2 = true := by
      unfold copB at hc h ⊢
      split at hc
      · cases hc
      · rename_i h0
        rw [if_neg h0] at h ⊢
        split at hc
        · rename_i h1
          rw [if_pos h1] at h
          have e1 : l.left.var = v := h
          rw [if_pos ⟨h1.1, by rw [e1]; exact hl v hv, hmay occ C hsub _ h1.2.2⟩]
        · rename_i h1
          rw [if_neg h1] at h
          split at hc
          · rename_i h2
            rw [if_pos h2] at h
            have e1 : l.right.var = v := h
            split
            · rfl
            · rw [if_pos ⟨h2.1, by rw [e1]; exact hl v hv, hmay occ C hsub _ h2.2.2⟩]
          · cases hc
    rw [if_pos hcC] at hC
    cases hC
  · rw [if_neg hc] at h
    split at h
    · rename_i h2
      simp only [Option.some.injEq] at h
      split at hC
      · cases hC
      · rw [if_pos ⟨h2.1, by rw [h]; exact hl v hv, hmore occ C hsub _ h2.2.2⟩] at hC
        cases hC
    · cases h
theorem closedN_sub {C : List Str} (hC : firstV (may C) (more C) C body = none) : ∀ (n : Nat) (occ : List Str), (∀ x ∈ occ, x ∈ C) → ∀ x ∈ closedN may more body n occ, x ∈ C
  | 0, occ, h, x, hx => h x hx
  | n + 1, occ, h, x, hx => by
    cases hv : firstV (may occ) (more occ) occ body with
    | none => rw [closedN_none hv] at hx; exact h x hx
    | some v =>
      rw [closedN_some hv] at hx
      refine closedN_sub hC n _ (fun y hy => ?_) x hx
      rcases List.mem_append.1 hy with hy | hy
      · exact h y hy
      · rw [List.mem_singleton] at hy
        subst hy
        obtain ⟨l, hl, hl2⟩ := firstV_some hv
        exact newV_in hmay hmore h hl2 (firstV_none hC l hl)
theorem closedL_sub {occ1 occ2 : List Str} (h : ∀ x ∈ occ1, x ∈ occ2) : ∀ x ∈ closedL may more body occ1, x ∈ closedL may more body occ2 := by
  refine closedN_sub hmay hmore (closedL_fix occ2) _ _ fun x hx => ?_
  refine closedN_ext _ _ x ?_
  rcases List.mem_append.1 hx with hx | hx
  · exact List.mem_append_left _ (h x hx)
  · exact List.mem_append_right _ hx
end

theorem coversB_mono (a b : List Str) (h : ∀ x ∈ a, x ∈ b) (e : Expr) (hc : coversB a e = true) : coversB b e = true := by
  unfold coversB at *
  rw [List.all_eq_true] at *
  exact fun x hx => inL_iff.2 (h x (inL_iff.1 (hc x hx)))
theorem plainB_mono (a b : List Str) (h : ∀ x ∈ a, x ∈ b) (e : Expr) (hc : plainB a e = true) : plainB b e = true := by
  unfold plainB at *
  cases hk : decide (e.kind = 2) with
  | true => simp
  | false =>
    rw [hk, Bool.false_or, Bool.and_eq_true] at hc
    rw [Bool.false_or, Bool.and_eq_true]
    exact ⟨hc.1, inL_iff.2 (h _ (inL_iff.1 hc.2))⟩
theorem moreB_mono (out : List Str) (a b : List Str) (h : ∀ x ∈ a, x ∈ b) (e : Agg) (hc : moreB out a e = true) : moreB out b e = true := by
  unfold moreB at *
  rw [List.all_eq_true] at *
  intro x hx
  have := hc x hx
  rw [Bool.or_eq_true, Bool.or_eq_true] at *
  rcases this with h1 | h1 | h1
  · exact .inl h1
  · exact .inr (.inl h1)
  · exact .inr (.inr (inL_iff.2 (h _ (inL_iff.1 h1))))

/-! Loose. -/
def inOutL (r : Rule) (a : Agg) : List Str := ((occM (aggOcc a)).map (·.1)).filter fun x => inL (outerOcc r) x
def okIn (r : Rule) (a : Agg) : List Str := closedL (fun occ => coversB occ) (fun _ => fun _ => false) a.body (inOutL r a)
theorem okIn_of {r : Rule} {a : Agg} {occ : List Str} (h : inOut r a occ) (s : Str) : inL (closedL (fun occ => coversB occ) (fun _ => fun _ => false) a.body occ) s = inL (okIn r a) s := by
  have hm : ∀ x, x ∈ inOutL r a ↔ x ∈ occ := fun x => by
    unfold inOutL
    rw [List.mem_filter, (occM_keys (aggOcc a)).2 x, inL_iff, h.2 x]
  rw [Bool.eq_iff_iff, inL_iff, inL_iff]
  exact ⟨closedL_sub (more := fun _ => fun _ => false) coversB_mono (fun _ _ _ _ h => h) (fun x hx => (hm x).2 hx) s, closedL_sub (more := fun _ => fun _ => false) coversB_mono (fun _ _ _ _ h => h) (fun x hx => (hm x).1 hx) s⟩
def looseT (r : Rule) (m : NM) : Bool := m.any fun x => !inL (limOcc r) x.1
theorem looseT_none {r : Rule} {m : NM} (h : ∀ j, j < m.length → ∀ x, m[j]? = some x → inL (limOcc r) x.1 = true) : looseT r m = false := by
  refine List.any_eq_false.2 fun x hx => ?_
  obtain ⟨j, hj⟩ := List.getElem?_of_mem hx
  rw [h j (List.getElem?_eq_some_iff.1 hj).1 x hj]; simp
theorem looseT_hit {r : Rule} {m : NM} {j : Nat} {x : (KC.str).K × Int} (h : m[j]? = some x) (hx : inL (limOcc r) x.1 = false) : looseT r m = true :=
  List.any_eq_true.2 ⟨x, List.mem_of_getElem? h, by rw [hx]; rfl⟩
def keepM (r : Rule) (a : Agg) : NM := (occM (aggOcc a)).filter fun x => !inL ((locM r a).map (·.1)) x.1
def looseB (r : Rule) (lit : Int) : Bool :=
  if lit < 0 then looseT r (occM (atomOcc r.head))
  else if (litAt r lit).kind = 4 then (locM r (litAt r lit).agg).any (fun x => !inL (okIn r (litAt r lit).agg) x.1) || looseT r (bump (keepM r (litAt r lit).agg) (litAt r lit).avar)
  else looseT r (occM (litOcc (litAt r lit)))

theorem d88z (a : Atom) (hb : a.terms.length ≤ 100000000000) : Det Tryz.prog 88 [.mp 0, ag a.c] [.map0] (.tup []) [(0, some (nmO (occM (atomOcc a))))] 1 :=
  Det.leO (d88 [] a (by simp; omega)) ⟨map0_le, trivial⟩
theorem d89z (l : Lit) (hb : l.size ≤ 100000000000) : Det Tryz.prog 89 [.mp 0, ag l.c] [.map0] (.tup []) [(0, some (nmO (occM (litOcc l))))] 1 :=
  Det.leO (d89 l [] (by simp; omega)) ⟨map0_le, trivial⟩

theorem lk_filter (f : Str → Bool) (s : Str) : ∀ (m : NM), lkD .str (m.filter fun x => f x.1) s 0 = if f s = true then lkD .str m s 0 else 0
  | [] => by simp [lkD]
  | (a, b) :: r => by
    have ih := lk_filter f s r
    cases hf : f a with
    | true =>
      rw [List.filter_cons_of_pos (by exact hf)]
      simp only [lkD]
      split
      · rename_i h; subst h; rw [if_pos hf]
      · exact ih
    | false =>
      rw [List.filter_cons_of_neg (by simp [hf]), ih]
      simp only [lkD]
      split
      · rename_i h
        split
        · rename_i h2; subst h2; rw [hf] at h; cases h
        · rfl
      · rfl
theorem lk_keep (r : Rule) (a : Agg) (s : Str) : 0 ≤ lkD .str (keepM r a) s 0 ∧ lkD .str (keepM r a) s 0 ≤ cntL (aggOcc a) s := by
  have h1 := occM_lk (aggOcc a) s
  have h2 := lk_filter (fun x => !inL ((locM r a).map (·.1)) x) s (occM (aggOcc a))
  unfold keepM
  rw [h2, h1]
  split <;> omega
set_option maxHeartbeats 2000000 in
theorem c119 (r : Rule) (lit : Int) (hl : lit < r.body.length) (hb : r.size ≤ 10000000) : Pure Tryz.prog 119 [.iv (bookI r), pI lit] (pB (looseB r lit)) := by
  have hbl := Lit.length_sizes r.body
  have h0 : Lit.sizes r.body ≤ r.size := Nat.le_add_left _ _
  have h0' : r.head.terms.length ≤ r.size := Nat.le_add_right _ _
  have hlo := limOcc_len r
  refine pure_end tyA_ok Tryz.func119 rfl (by decide) Tryz.ntmps119 rfl (by simp) rfl ?_
  refine goR rfl (by trivial) (go_det [] (d73 r (by omega)) rfl rfl rfl rfl rfl rfl rfl rfl ?_)
  refine goR rfl (by trivial) ?_
  refine And.intro (fun h2 => ?_) (fun h2 => ?_)
  · have h2 : lit < 0 := by simpa using h2
    refine goR rfl (by trivial) (go_det [1] (d88z r.head (by omega)) rfl rfl rfl rfl rfl rfl rfl rfl ?_)
    refine goR rfl (by trivial) ?_
    have hml : (occM (atomOcc r.head)).length ≤ 1000000000000 := by have := occM_len (atomOcc r.head); have := atomOcc_len r.head; omega
    refine go_rng (occM (atomOcc r.head)) (fun vs => ⟨[(5, .mp 0), (76, .ptr 2 0)], [(0, some (nmO (occM (limOcc r)))), (2, some (.miter .str evI (occM (atomOcc r.head)) vs none))], 3⟩) (fun vs => ∀ j ∈ vs, ∀ x, (occM (atomOcc r.head))[j]? = some x → inL (limOcc r) x.1 = true) [] (by simp)
      (wk rfl rfl rfl ⟨.refl _, rfl, .refl _, rfl, trivial⟩ (hM rfl rfl rfl (hI rfl rfl (.inl rfl) rfl trivial)) rfl) fun vs hJ => ?_
    refine goR rfl trivial (go_next rfl rfl rfl rfl rfl (by decide) (fun hall => ?_) fun j x hx hj => ?_)
    · refine goR rfl (by trivial) (end_le (by first | exact .inr rfl | exact .inl rfl) rfl (.of_eq ?_))
      refine (pBE ?_ : pB false = _)
      rw [looseB, if_pos h2, looseT_none fun j hj x hx => hJ j (hall j hj) x hx]
    · have hlk := occM_lk (limOcc r) x.1
      have hct := inL_cnt (occ := limOcc r) (s := x.1)
      refine goR rfl (by trivial) ?_
      refine And.intro (fun g1 => ?_) (fun g1 => ?_)
      · have g1 : inL (limOcc r) x.1 = false := by
          have := of_decide_eq_true g1
          rw [hct]; simp; omega
        refine goR rfl (by trivial) (end_le (by first | exact .inr rfl | exact .inl rfl) rfl (.of_eq ?_))
        refine (pBE ?_ : pB true = _)
        rw [looseB, if_pos h2, looseT_hit hx g1]
      · have g1 : inL (limOcc r) x.1 = true := by
          have := of_decide_eq_false g1
          rw [hct]; simp; omega
        refine goR rfl (by trivial) ?_
        exact ⟨j, x, hx, hj, fun i hi y hy => by
          rcases List.mem_cons.1 hi with rfl | hi
          · rw [hx] at hy; cases hy; exact g1
          · exact hJ i hi y hy, [], wk rfl rfl rfl ⟨.refl _, rfl, .refl _, rfl, trivial⟩ (hM rfl rfl rfl (hI rfl rfl (.inr rfl) rfl trivial)) rfl⟩
  have h2 : ¬ lit < 0 := by simpa using h2
  have hk : lit.toNat < r.body.length := by omega
  have hsz := Lit.sizes_get r.body lit.toNat hk
  have hag := (litAt r lit).agg_size
  have hle : (litAt r lit).size ≤ Lit.sizes r.body := hsz
  have hal := aggOcc_len (litAt r lit).agg
  have hlol := litOcc_len (litAt r lit)
  refine goR rfl (by simp; omega) ?_
  refine And.intro (fun h3 => ?_) (fun h3 => ?_)
  rotate_left
  · have h3 : ¬ (litAt r lit).kind = 4 := by simpa [litAt] using h3
    refine goR rfl (by trivial) (go_det [1] (d89z (litAt r lit) (by omega)) rfl rfl rfl rfl rfl rfl rfl rfl ?_)
    refine goR rfl (by trivial) ?_
    have hml : (occM (litOcc (litAt r lit))).length ≤ 1000000000000 := by have := occM_len (litOcc (litAt r lit)); omega
    refine go_rng (occM (litOcc (litAt r lit))) (fun vs => ⟨[(5, .mp 0), (76, .ptr 3 0)], [(0, some (nmO (occM (limOcc r)))), (3, some (.miter .str evI (occM (litOcc (litAt r lit))) vs none))], 4⟩) (fun vs => ∀ j ∈ vs, ∀ x, (occM (litOcc (litAt r lit)))[j]? = some x → inL (limOcc r) x.1 = true) [] (by simp)
      (wk rfl rfl rfl ⟨.refl _, rfl, .refl _, rfl, trivial⟩ (hM rfl rfl rfl (hI rfl rfl (.inl rfl) rfl trivial)) rfl) fun vs hJ => ?_
    refine goR rfl trivial (go_next rfl rfl rfl rfl rfl (by decide) (fun hall => ?_) fun j x hx hj => ?_)
    · refine goR rfl (by trivial) (end_le (by first | exact .inr rfl | exact .inl rfl) rfl (.of_eq ?_))
      refine (pBE ?_ : pB false = _)
      rw [looseB, if_neg h2, if_neg h3, looseT_none fun j hj x hx => hJ j (hall j hj) x hx]
    · have hlk := occM_lk (limOcc r) x.1
      have hct := inL_cnt (occ := limOcc r) (s := x.1)
      refine goR rfl (by trivial) ?_
      refine And.intro (fun g1 => ?_) (fun g1 => ?_)
      · have g1 : inL (limOcc r) x.1 = false := by
          have := of_decide_eq_true g1
          rw [hct]; simp; omega
        refine goR rfl (by trivial) (end_le (by first | exact .inr rfl | exact .inl rfl) rfl (.of_eq ?_))
        refine (pBE ?_ : pB true = _)
        rw [looseB, if_neg h2, if_neg h3, looseT_hit hx g1]
      · have g1 : inL (limOcc r) x.1 = true := by
          have := of_decide_eq_false g1
          rw [hct]; simp; omega
        refine goR rfl (by trivial) ?_
        exact ⟨j, x, hx, hj, fun i hi y hy => by
          rcases List.mem_cons.1 hi with rfl | hi
          · rw [hx] at hy; cases hy; exact g1
          · exact hJ i hi y hy, [], wk rfl rfl rfl ⟨.refl _, rfl, .refl _, rfl, trivial⟩ (hM rfl rfl rfl (hI rfl rfl (.inr rfl) rfl trivial)) rfl⟩
  have h3 : (litAt r lit).kind = 4 := by simpa [litAt] using h3
  refine goR rfl (by trivial) (go_fn [] (d161 r (litAt r lit).agg (by omega)) rfl rfl rfl rfl rfl rfl rfl fun q h' n' hR => ?_)
  obtain ⟨ok, ⟨occ, hio, hok⟩, rfl, rfl, rfl⟩ := hR
  have hoki : ∀ s, inL ok s = inL (okIn r (litAt r lit).agg) s := fun s => by rw [hok]; exact okIn_of hio s
  refine ⟨_, rfl, ?_⟩
  have hom := occM_len (aggOcc (litAt r lit).agg)
  have hlm : (locM r (litAt r lit).agg).length ≤ (occM (aggOcc (litAt r lit).agg)).length := List.length_filter_le _ _
  have hkm : (keepM r (litAt r lit).agg).length ≤ (occM (aggOcc (litAt r lit).agg)).length := List.length_filter_le _ _
  have hkd := (occM_keys (aggOcc (litAt r lit).agg)).1
  refine goR rfl (by trivial) (go_det [] (d79 r (litAt r lit).agg (by omega)) rfl rfl rfl rfl rfl rfl rfl rfl ?_)
  refine goR rfl (by trivial) ?_
  -- the first of the locals that nothing limits
  refine go_rng (locM r (litAt r lit).agg) (fun vs => ⟨[(0, .iv (bookI r)), (5, .mp 0), (7, .ptr 2 0), (8, .mp 3), (43, .ptr 5 0)], [(0, some (nmO (occM (limOcc r)))), (2, some (cellsI (litAt r lit).c)), (3, some (nmO (occM ok))), (5, some (.miter .str evI (locM r (litAt r lit).agg) vs none))], 6⟩) (fun vs => ∀ j ∈ vs, ∀ x, (locM r (litAt r lit).agg)[j]? = some x → inL (okIn r (litAt r lit).agg) x.1 = true) [] (by simp)
    (wk rfl rfl rfl ⟨.refl _, rfl, .refl _, rfl, .refl _, rfl, .refl _, rfl, .refl _, rfl, trivial⟩ (hM rfl rfl rfl (hC rfl rfl rfl (hM rfl rfl rfl (hI rfl rfl (.inl rfl) rfl trivial)))) rfl) fun vs hJ => ?_
  refine goR rfl trivial (go_next rfl rfl rfl rfl rfl (by decide) (fun hall => ?_) fun j x hx hj => ?_)
  rotate_left
  · have hlk := occM_lk ok x.1
    have hct := inL_cnt (occ := ok) (s := x.1)
    have hok2 := hoki x.1
    refine goR rfl (by trivial) ?_
    refine And.intro (fun g1 => ?_) (fun g1 => ?_)
    · have g1 : inL (okIn r (litAt r lit).agg) x.1 = false := by
        have := of_decide_eq_true g1
        rw [← hok2, hct]; simp; omega
      refine goR rfl (by trivial) (end_le (by first | exact .inr rfl | exact .inl rfl) rfl (.of_eq ?_))
      refine (pBE ?_ : pB true = _)
      rw [looseB, if_neg h2, if_pos h3, List.any_eq_true.2 ⟨x, List.mem_of_getElem? hx, by rw [g1]; rfl⟩, Bool.true_or]
    · have g1 : inL (okIn r (litAt r lit).agg) x.1 = true := by
        have := of_decide_eq_false g1
        rw [← hok2, hct]; simp; omega
      refine goR rfl (by trivial) ?_
      exact ⟨j, x, hx, hj, fun i hi y hy => by
        rcases List.mem_cons.1 hi with rfl | hi
        · rw [hx] at hy; cases hy; exact g1
        · exact hJ i hi y hy, [], wk rfl rfl rfl ⟨.refl _, rfl, .refl _, rfl, .refl _, rfl, .refl _, rfl, .refl _, rfl, trivial⟩ (hM rfl rfl rfl (hC rfl rfl rfl (hM rfl rfl rfl (hI rfl rfl (.inr rfl) rfl trivial)))) rfl⟩
  have hA : (locM r (litAt r lit).agg).any (fun x => !inL (okIn r (litAt r lit).agg) x.1) = false := List.any_eq_false.2 fun x hx => by
    obtain ⟨j, hj⟩ := List.getElem?_of_mem hx
    rw [hJ j (hall j (List.getElem?_eq_some_iff.1 hj).1) x hj]; simp
  refine goR rfl (by trivial) (go_det [] (d127 (litAt r lit).agg (by omega)) rfl rfl rfl rfl rfl rfl rfl rfl ?_)
  refine goR rfl (by trivial) (go_det [] (d79 r (litAt r lit).agg (by omega)) rfl rfl rfl rfl rfl rfl rfl rfl ?_)
  refine goR rfl (by trivial) ?_
  refine go_rng (locM r (litAt r lit).agg) (fun vs => ⟨[(5, .mp 0), (6, .mp 6), (7, .ptr 2 0), (59, .ptr 8 0)], [(0, some (nmO (occM (limOcc r)))), (2, some (cellsI (litAt r lit).c)), (6, some (nmO ((keysAt (locM r (litAt r lit).agg) vs).foldl (fun m k => delK .str m k) (occM (aggOcc (litAt r lit).agg))))), (8, some (.miter .str evI (locM r (litAt r lit).agg) vs none))], 9⟩) (fun vs => vs.Nodup ∧ ∀ j ∈ vs, j < (locM r (litAt r lit).agg).length) [] ⟨List.nodup_nil, by simp⟩
    (wk rfl rfl rfl ⟨.refl _, rfl, .refl _, rfl, .refl _, rfl, .refl _, rfl, trivial⟩ (hM rfl rfl rfl (hC rfl rfl rfl (hM rfl rfl rfl (hI rfl rfl (.inl rfl) rfl trivial)))) rfl) fun vs2 hJ2 => ?_
  obtain ⟨hJ3, hJ4⟩ := hJ2
  refine goR rfl trivial (go_next rfl rfl rfl rfl rfl (by decide) (fun hall2 => ?_) fun j x hx hj => ?_)
  rotate_left
  · have hk := keysAt_cons (locM r (litAt r lit).agg) vs2 j x hx
    refine goR rfl (by trivial) ?_
    exact ⟨j, x, hx, hj, ⟨List.nodup_cons.2 ⟨hj, hJ3⟩, fun i hi => (List.mem_cons.1 hi).elim (fun h => h ▸ (List.getElem?_eq_some_iff.1 hx).1) (hJ4 i)⟩, [], wk rfl rfl rfl ⟨.refl _, rfl, .refl _, rfl, .refl _, rfl, .refl _, rfl, trivial⟩ (hM rfl rfl rfl (hC rfl rfl rfl (hM rfl (by rw [hk, List.foldl_append]; rfl) rfl (hI rfl rfl (.inr rfl) rfl trivial)))) rfl⟩
  have hkp : (keysAt (locM r (litAt r lit).agg) vs2).foldl (fun m k => delK .str m k) (occM (aggOcc (litAt r lit).agg)) = keepM r (litAt r lit).agg := by
    rw [dels_filter _ hkd]
    unfold keepM
    congr 1
    funext x
    congr 1
    rw [Bool.eq_iff_iff, inL_iff, inL_iff, (keysAt_all _ vs2 hJ3 hJ4 hall2).mem_iff]
  rw [hkp]
  have hlkk := lk_keep r (litAt r lit).agg (litAt r lit).avar
  have hctt := cntL_le (aggOcc (litAt r lit).agg) (litAt r lit).avar
  refine goR rfl (by (repeat' (first | exact trivial | exact rfl | exact PVle.refl _ | exact PVle.bk (by assumption) | apply And.intro)) <;> first | omega | (simp only [Int.toNat_natCast]; omega) | (simp; done) | (simp; omega)) ?_
  have hml : (bump (keepM r (litAt r lit).agg) (litAt r lit).avar).length ≤ 1000000000000 := by have := putK_len (keepM r (litAt r lit).agg) (litAt r lit).avar (lkD .str (keepM r (litAt r lit).agg) (litAt r lit).avar 0 + 1); unfold bump; omega
  refine go_rng (bump (keepM r (litAt r lit).agg) (litAt r lit).avar) (fun vs => ⟨[(5, .mp 0), (76, .ptr 9 0)], [(0, some (nmO (occM (limOcc r)))), (9, some (.miter .str evI (bump (keepM r (litAt r lit).agg) (litAt r lit).avar) vs none))], 10⟩) (fun vs => ∀ j ∈ vs, ∀ x, (bump (keepM r (litAt r lit).agg) (litAt r lit).avar)[j]? = some x → inL (limOcc r) x.1 = true) [] (by simp)
    (wk rfl rfl rfl ⟨.refl _, rfl, .refl _, rfl, trivial⟩ (hM rfl rfl rfl (hI rfl rfl (.inl rfl) rfl trivial)) rfl) fun vs hJ => ?_
  refine goR rfl trivial (go_next rfl rfl rfl rfl rfl (by decide) (fun hall => ?_) fun j x hx hj => ?_)
  · refine goR rfl (by trivial) (end_le (by first | exact .inr rfl | exact .inl rfl) rfl (.of_eq ?_))
    refine (pBE ?_ : pB false = _)
    rw [looseB, if_neg h2, if_pos h3, hA, Bool.false_or, looseT_none fun j hj x hx => hJ j (hall j hj) x hx]
  · have hlk := occM_lk (limOcc r) x.1
    have hct := inL_cnt (occ := limOcc r) (s := x.1)
    refine goR rfl (by trivial) ?_
    refine And.intro (fun g1 => ?_) (fun g1 => ?_)
    · have g1 : inL (limOcc r) x.1 = false := by
        have := of_decide_eq_true g1
        rw [hct]; simp; omega
      refine goR rfl (by trivial) (end_le (by first | exact .inr rfl | exact .inl rfl) rfl (.of_eq ?_))
      refine (pBE ?_ : pB true = _)
      rw [looseB, if_neg h2, if_pos h3, hA, Bool.false_or, looseT_hit hx g1]
    · have g1 : inL (limOcc r) x.1 = true := by
        have := of_decide_eq_false g1
        rw [hct]; simp; omega
      refine goR rfl (by trivial) ?_
      exact ⟨j, x, hx, hj, fun i hi y hy => by
        rcases List.mem_cons.1 hi with rfl | hi
        · rw [hx] at hy; cases hy; exact g1
        · exact hJ i hi y hy, [], wk rfl rfl rfl ⟨.refl _, rfl, .refl _, rfl, trivial⟩ (hM rfl rfl rfl (hI rfl rfl (.inr rfl) rfl trivial)) rfl⟩
end Go.Proofs.YtpnclpbkecjinaaGreatDoorR
/-
  strings.Builder within the printer's writer: the library's copy check.
-/
namespace Go.Proofs.YtpnclpbkecjinaaGreatDoorR
open Go
set_option maxHeartbeats 2000000
set_option maxRecDepth 100000

theorem info178 : ∃ j, Tryz.prog.info? 178 = some j ∧ j.size = 2 := by
  have h : (Tryz.prog.info? 178).map (fun i => i.size) = some 2 := by kernel_rfl
  rw [Option.map_eq_some_iff] at h
  exact h
theorem lies180 : liesAt Tryz.prog Tryz.prog.depth 180 (4 / Tryz.prog.cellsOf 180) 0 178 1 = true := by kernel_rfl

theorem cc_used (b : Nat) (w : World) (h0 : w.cell? ⟨b, 0, none⟩ = some (.pointer (some ⟨b, 0, none⟩))) :
    Calls Tryz.prog 204 #[.pointer (some ⟨b, 0, none⟩)] w fun e w' => e = .returned (.tuple #[]) ∧ w' = w := by
  obtain ⟨j, hj, _⟩ := info178
  go_enter Tryz.func204, Tryz.ntmps204
  go_wp2
  rw [Lib.run_neq_ptr_same w _ Tryz.underlying175 hj]
  go_wp2
  go_end0
  exact ⟨rfl, rfl⟩
theorem cc_fresh (b : Nat) (w : World) (h0 : w.cell? ⟨b, 0, none⟩ = some (.pointer none)) (hsh : w.shape? b = some (180, 4)) (hfz : w.frozen? ⟨b, 0, none⟩ = false) :
    Calls Tryz.prog 204 #[.pointer (some ⟨b, 0, none⟩)] w fun e w' => e = .returned (.tuple #[]) ∧ w' = w.setCell ⟨b, 0, none⟩ (.pointer (some ⟨b, 0, none⟩)) := by
  obtain ⟨j, hj, hjs⟩ := info178
  go_enter Tryz.func204, Tryz.ntmps204
  go_wp2
  rw [Lib.run_to_unsafe w ⟨b, 0, none⟩ Tryz.underlying175 Tryz.underlying265 hj (by rw [hjs]; decide) hsh (by show 0 < 4; decide)]
  simp only [Result.andThen]
  rw [Oper.upon_value]
  go_wp2
  rw [run_callFunc_extern Tryz.func218 (by kernel_rfl) (by kernel_rfl) (by kernel_rfl) (e := Extern.AbiNoEscape.same) (by kernel_rfl)]
  rw [Lib.run_noEscape]
  simp only [Result.andThen]
  rw [Oper.upon_value]
  go_wp2
  rw [Lib.run_from_unsafe w ⟨b, 0, none⟩ Tryz.underlying265 Tryz.underlying175 hj hsh lies180]
  simp only [Result.andThen]
  rw [Oper.upon_value]
  go_wp2
  go_end0
  exact ⟨rfl, rfl⟩
theorem cells5 : Tryz.prog.cellsOf 5 = 1 := by kernel_rfl
theorem bs_some (b g cap : Nat) (p x y : Value) (cur : Array Value) (l : List UInt8) (w : World) (hbk : w.heap[b]? = some (.cells #[p, .slice (some ⟨g, 0, none⟩) l.length cap, x, y] 180 (0, 0))) (hg : w.heap[g]? = some (.cells cur 5 (0, 0)))
    (hl : l.length ≤ cur.size) (hcap : l.length ≤ cap) (hc2 : cap ≤ maxLen) (hcur : ∀ (j : Nat) (x : UInt8), l[j]? = some x → cur.getD j undef = .int .u8 (x.toNat : Int)) (h0 : l ≠ []) :
    Calls Tryz.prog 150 #[.pointer (some ⟨b, 0, none⟩)] w fun e w' => e = .returned (.string ⟨l.toArray⟩) ∧ w' = w.drew.freeze ⟨g, 0, none⟩ l.length := by
  have hl0 : l.length ≠ 0 := by simpa using h0
  have c1 : w.drew.cell? ⟨b, 1, none⟩ = some (.slice (some ⟨g, 0, none⟩) l.length cap) := by
    have : w.drew.heap[b]? = some (.cells #[p, .slice (some ⟨g, 0, none⟩) l.length cap, x, y] 180 (0, 0)) := hbk
    rw [Lib.cell_of_heap this]; rfl
  have hSD : (Builtin.unsafeSliceData_ #[176] 241 #[.slice (some ⟨g, 0, none⟩) l.length cap]).run Tryz.prog w.drew = .ok (.pointer (some ⟨g, 0, none⟩)) w.drew :=
    Lib.run_unsafeSliceData_row _ _ _ _ _ _ (by omega)
  have hUS : (Builtin.unsafeString_ #[241, 3] 9 #[.pointer (some ⟨g, 0, none⟩), .int .i64 l.length]).run Tryz.prog w.drew = .ok (.string ⟨l.toArray⟩) (w.drew.freeze ⟨g, 0, none⟩ l.length) := by
    refine Lib.run_unsafeString_row w.drew 241 3 9 5 Tryz.underlying241 cells5 g cur.size (by have hg' : w.drew.heap[g]? = some (.cells cur 5 (0, 0)) := hg; simp [World.shape?, hg']) l h0 (by omega) (by unfold maxLen at hc2; omega) ?_
    intro j x hx
    have hlt : j < cur.size := by have := (List.getElem?_eq_some_iff.1 hx).1; omega
    have := hcur j x hx
    rw [Array.getD_eq_getD_getElem?, Array.getElem?_eq_getElem hlt] at this
    show w.drew.cell? _ = _
    have hg' : w.drew.heap[g]? = some (.cells cur 5 (0, 0)) := hg
    rw [Al.add_addr, Nat.zero_add]
    simp only [World.cell?, hg']
    simpa [hlt] using this
  have mixed : Tryz.prog.follows .mixedOrders = true := rfl
  go_enter Tryz.func150, Tryz.ntmps150
  go_wp2
  go_region_o
  all_goals (go_wp2; go_ret; exact ⟨rfl, rfl⟩)
theorem bs_nil (b : Nat) (p x y : Value) (w : World) (hbk : w.heap[b]? = some (.cells #[p, .slice none 0 0, x, y] 180 (0, 0))) :
    Calls Tryz.prog 150 #[.pointer (some ⟨b, 0, none⟩)] w fun e w' => e = .returned (.string ⟨#[]⟩) ∧ w' = w.drew := by
  have hUS : (W : World) → (Builtin.unsafeString_ #[241, 3] 9 #[.pointer none, .int .i64 0]).run Tryz.prog W = .ok (.string .empty) W := fun W => Lib.run_unsafeString_none W _ _ _ none
  have c1 : w.drew.cell? ⟨b, 1, none⟩ = some (.slice none 0 0) := by
    have : w.drew.heap[b]? = some (.cells #[p, .slice none 0 0, x, y] 180 (0, 0)) := hbk
    rw [Lib.cell_of_heap this]; rfl
  have hSD : (Builtin.unsafeSliceData_ #[176] 241 #[.slice none 0 0]).run Tryz.prog w.drew = .ok (.pointer none) w.drew := rfl
  have mixed : Tryz.prog.follows .mixedOrders = true := rfl
  go_enter Tryz.func150, Tryz.ntmps150
  go_wp2
  go_region_o
  all_goals (go_wp2; go_ret; exact ⟨rfl, rfl⟩)
end Go.Proofs.YtpnclpbkecjinaaGreatDoorR
/-
  Texts: what is appended to a row of bytes out of a text; steps over a text.
  No program stands here. Conditions: none.
-/
namespace Go.Al

section
variable {P : Program} {ty : Ty} {nt : Nat} {s : AS} {Q : AQ} {k : List KI}

/-- A text's bytes as elements of a row. -/
def byteC (c : UInt8) : List IV := [.v (.int .u8 (c.toNat : Int))]
abbrev bytesL (b : ByteArray) : List (List PV) := b.data.toList.map fun c => (byteC c).map .iv

theorem flat_one {α : Type} (f : α → PV) : ∀ l : List α, (l.map fun c => [f c]).flatten = l.map f
  | [] => rfl
  | x :: r => by simp [flat_one f r]

theorem run_sappend_room (w : World) (t u ty' e : TypeId) (i : TypeInfo) (ht : P.underlying t = some (.slice e)) (hu : P.underlying u = some .string) (hi : P.info? e = some i) (hs1 : i.size = 1) (T : TypeId)
    (g sLen sCap : Nat) (cur : Array Value) (hg : w.heap[g]? = some (.cells cur T (0, 0))) (b : ByteArray)
    (hroom : sLen + b.size ≤ sCap) (hfit : sLen + b.size ≤ cur.size) :
    (Builtin.append_ #[t, u] ty' #[.slice (some ⟨g, 0, none⟩) sLen sCap, .string b]).run P w =
      .ok (.slice (some ⟨g, 0, none⟩) (sLen + b.size) sCap) (w.setRow g (cur.toList.take sLen ++ Lib.strCells b ++ cur.toList.drop (sLen + b.size)).toArray) := by
  have hf := Lib.run_firstCells_string (P := P) w 1 b
  have hst := run_storeCells_at P g sLen T (Lib.strCells b) 0 cur w hg (by simpa [Lib.strCells_length] using hfit) (Lib.strCells_oneCell b)
  simp only [Nat.add_zero, Lib.strCells_length] at hst
  simp [Builtin.append_, run_underlying ht, run_underlying hu, sizeOf, typeInfo, hi, hs1, Builtin.lenOf, hroom, hf, Addr.add_lit, hst]

theorem run_sappend_none (w : World) (t u ty' e : TypeId) (i : TypeInfo) (ht : P.underlying t = some (.slice e)) (hu : P.underlying u = some .string) (hi : P.info? e = some i) (so : Option Addr) (sLen sCap : Nat) (hle : sLen ≤ sCap) (b : ByteArray) (hb : b.size = 0) (hs : so = none ∨ ∃ b o, so = some ⟨b, o, none⟩) :
    (Builtin.append_ #[t, u] ty' #[.slice so sLen sCap, .string b]).run P w = .ok (.slice so sLen sCap) w := by
  have hf := Lib.run_firstCells_string (P := P) w i.size b
  have hn : Lib.strCells b = [] := List.eq_nil_of_length_eq_zero (by rw [Lib.strCells_length]; exact hb)
  rw [hb, hn] at hf
  rcases hs with rfl | ⟨g, o, rfl⟩
  · simp [Builtin.append_, run_underlying ht, run_underlying hu, sizeOf, typeInfo, hi, Builtin.lenOf, hb, hle, hf]
  · simp [Builtin.append_, run_underlying ht, run_underlying hu, sizeOf, typeInfo, hi, Builtin.lenOf, hb, hle, hf, storeCells]

theorem strCells_getD (b : ByteArray) (j : Nat) (h : j < b.size) : (Lib.strCells b).getD j undef = .int .u8 ((b.data.toList.getD j 0).toNat : Int) := by
  have hj : j < b.data.toList.length := by simpa using h
  simp only [Lib.strCells, List.getD_eq_getElem?_getD, List.getElem?_map, List.getElem?_eq_getElem hj, Option.map_some, Option.getD_some]

/-- The state behind: the bytes under a new number. -/
def sapS (s : AS) (i : Nat) (l : List UInt8) (u : TypeId) : AS := ⟨s.f, (s.nx, some (.brow l u)) :: (i, none) :: s.h, s.nx + 1⟩

theorem sap_fits {i : Nat} {l : List UInt8} {u : TypeId} {M M' : Mem} {N N' : Nm} {a : Act} {w w' : World} (hf : Fits M N s nt a w) (hx : Ext M N (· < s.nx) s.h w M' N' (· < s.nx + 1) ((s.nx, some (.brow l u)) :: (i, none) :: s.h) w')
    (hr : Rel M' N' (· < s.nx + 1) ((s.nx, some (.brow l u)) :: (i, none) :: s.h) w') :
    Ext M N (· < s.nx) s.h w M' N' (· < (sapS s i l u).nx) (sapS s i l u).h w' ∧ Fits M' N' (sapS s i l u) nt a w' :=
  ⟨hx, hr, hf.2.1.ext hx, hf.2.2⟩

/-- A NEW EMPTY BUFFER: nothing is made. -/
theorem Rel.virtB {M : Mem} {N : Nm} {w : World} {n : Nat} {h : AH} (hr : Rel M N (· < n) h w) (T : TypeId) : Ext M N (· < n) h w M N (· < n + 1) ((n, some (.brow [] T)) :: h) w ∧ Rel M N (· < n + 1) ((n, some (.brow [] T)) :: h) w := by
  have hget : ∀ i p, AH.get ((n, some (.brow [] T)) :: h) i = some p → (i = n ∧ p = .brow [] T) ∨ (i < n ∧ h.get i = some p) := by
    intro i p hi
    rw [AH.get_cons] at hi
    split at hi
    · rename_i hin; exact .inl ⟨hin, by simpa using hi.symm⟩
    · exact .inr ⟨hr.used i p hi, hi⟩
  refine ⟨⟨rfl, rfl, rfl, Nat.le_refl _, fun _ _ _ => rfl, .refl _, fun b c h1 h2 => by simp [h1] at h2, .refl _ _, fun i hi => by omega, fun i p hi hre => ?_⟩, ⟨hr.frz, fun i p hi => ?_, fun i p hi hre => ?_, fun i p hi => ?_, fun i j p q hi hj hp hq hij => ?_⟩⟩
  · rcases hget i p hi with ⟨rfl, rfl⟩ | ⟨h1, h2⟩
    · cases hre
    · exact .inr ⟨i, p, h2, hre, rfl⟩
  · rcases hget i p hi with ⟨rfl, rfl⟩ | ⟨h1, h2⟩ <;> omega
  · rcases hget i p hi with ⟨rfl, rfl⟩ | ⟨h1, h2⟩
    · cases hre
    · exact hr.nfrz i p h2 hre
  · rcases hget i p hi with ⟨rfl, rfl⟩ | ⟨h1, h2⟩
    · exact .inl rfl
    · exact (hr.obj i p h2).mono (.refl _) (.refl _ _) (fun i hi => by omega) h1 rfl
  · rcases hget i p hi with ⟨rfl, rfl⟩ | ⟨h1, h2⟩ <;> rcases hget j q hj with ⟨rfl, rfl⟩ | ⟨h3, h4⟩
    · rfl
    · cases hp
    · cases hq
    · exact hr.inj i j p q h2 h4 hp hq hij

/-- APPEND of a text's bytes to a buffer. -/
theorem sapp_OT (hty : TyOK P ty) {o : Oper} {x y : Operand} {t tu u : TypeId} (ho : o.op = .call ⟨.builtin .append, #[x, y], #[t, tu]⟩) {e et eu : TyE} (ht : ty t = some e) (hk : e.k = .prim (.slice u)) (htu : ty tu = some et) (hkt : et.k = .prim .string) (hu : ty u = some eu)
    {i len : Nat} {l : List UInt8} {b : ByteArray} (hx : ev s.f x = .sl i 0 len 1) (hi : s.h.get i = some (.brow l u)) (hlen : l.length = len) (hsz : eu.size = 1) (hby : eu.bytes = 1) (hz : eu.zero = .int .u8 0)
    (hpy : ev s.f y = .iv (.v (.string b))) (hb2 : len + b.size ≤ 140737488355328)
    {s' : AS} (hp : putDst nt o (.sl s.nx 0 (len + b.size) 1) (sapS s i (l ++ b.data.toList) u) = some s') : OT P nt o s (fun t => t = s') := by
  refine OT.value hp fun M N a w hf => ?_
  obtain ⟨⟨ii, hii, his, hib, hiz⟩, _⟩ := hty u _ hu
  rw [hsz] at his
  rw [hby] at hib
  rw [hz] at hiz
  have hut : P.underlying t = some (.slice u) := by
    have := (hty t _ ht).2.1; rw [hk] at this; exact this.1
  have hus : P.underlying tu = some .string := by
    have := (hty tu _ htu).2.1; rw [hkt] at this; exact this.1
  have hvx := ev_ok hf.2.1 x
  rw [hx] at hvx
  have hvy := ev_ok hf.2.1 y
  rw [hpy] at hvy
  have hyv : a.eval y = .string b := by
    generalize a.eval y = v at hvy
    cases hvy with
    | iv _ _ h => cases h; rfl
  have hexec : ∀ v w', (Builtin.append_ #[t, tu] o.type #[a.eval x, a.eval y]).run P w = .ok v w' → (execOp a.eval o).run P w = .ok (.value v) w' := by
    intro v w' h
    simp only [execOp, ho, resolve]
    simp [invoke, builtin, h]
  rw [hyv] at hexec
  have hin : i < s.nx := hf.1.used i _ hi
  have hne : s.nx ≠ i := by omega
  have hor := hf.1.obj i _ hi
  have hbl : b.data.toList.length = b.size := by simp
  have hcells : ∀ (j : Nat) (x : UInt8), b.data.toList[j]? = some x → (Lib.strCells b).getD j undef = .int .u8 (x.toNat : Int) := by
    intro j x hx
    simp only [Lib.strCells, List.getD_eq_getElem?_getD, List.getElem?_map, hx, Option.map_some, Option.getD_some]
  -- what a block holds
  have holds : ∀ z : Array Value, (∀ (j : Nat) (x : UInt8), l[j]? = some x → z.getD j undef = .int .u8 (x.toNat : Int)) → (∀ j, j < b.size → z.getD (len + j) undef = (Lib.strCells b).getD j undef) →
      ∀ (j : Nat) (x : UInt8), (l ++ b.data.toList)[j]? = some x → z.getD j undef = .int .u8 (x.toNat : Int) := by
    intro z h1 h2 j x hj
    rcases Nat.lt_or_ge j l.length with hk | hk
    · rw [List.getElem?_append_left hk] at hj; exact h1 j x hj
    · rw [List.getElem?_append_right hk] at hj
      have hlt : j - l.length < b.size := by rw [← hbl]; exact (List.getElem?_eq_some_iff.1 hj).1
      have := h2 _ hlt
      rw [hcells _ _ hj, show len + (j - l.length) = j by omega] at this
      exact this
  -- a new block
  have fresh : ∀ (olds : List Value) (cap : Nat), olds.length = len → (∀ (j : Nat) (x : UInt8), l[j]? = some x → olds.getD j undef = .int .u8 (x.toNat : Int)) → len + b.size ≤ cap → cap ≤ maxLen → 0 < len + b.size →
      ∀ z : Array Value, z = olds.toArray ++ (Lib.strCells b).toArray ++ Builtin.zeroCells (Value.int .u8 0).cells (cap - (len + b.size)) →
      ∃ M' N', Ext M N (· < s.nx) s.h w M' N' (· < (sapS s i (l ++ b.data.toList) u).nx) (sapS s i (l ++ b.data.toList) u).h (w.drew.alloc (.cells z u)) ∧ Fits M' N' (sapS s i (l ++ b.data.toList) u) nt a (w.drew.alloc (.cells z u)) ∧
        VR M' N' (· < (sapS s i (l ++ b.data.toList) u).nx) (.sl s.nx 0 (len + b.size) 1) (.slice (some ⟨w.heap.size, 0, none⟩) (len + b.size) cap) := by
    intro olds cap hol hvo hcap hcm hpos z hzz
    have hz1 : (Value.int IntKind.u8 0).cells.size = 1 := rfl
    have hzsize : z.size = cap := by
      rw [hzz, Array.size_append, Array.size_append, size_zeroCells, hz1]
      simp only [List.size_toArray, hol, Lib.strCells_length]
      omega
    obtain ⟨N', h1, h2, h3, h4, h5⟩ := hf.1.drew.alloc (.cells z u) (.brow (l ++ b.data.toList) u) z.size (fun N' g1 g2 g3 => by
      refine .inr ⟨z, by rw [g1]; exact heap_alloc_new _ _, g2.symm, by rw [hzsize, List.length_append, hlen, hbl]; omega, holds z (fun j x hj => ?_) (fun j hj => ?_)⟩
      · have hj1 := (List.getElem?_eq_some_iff.1 hj).1
        have e1 : z.getD j undef = olds.getD j undef := by
          rw [hzz, Array.getD_eq_getD_getElem?, Array.append_assoc, Array.getElem?_append_left (by simp; omega), List.getD_eq_getElem?_getD]; simp
        rw [e1]; exact hvo j x hj
      · rw [hzz, Array.getD_eq_getD_getElem?, Array.getElem?_append_left (by simp [Lib.strCells_length]; omega), Array.getElem?_append_right (by simp; omega), List.getD_eq_getElem?_getD]
        simp [hol])
    have hr2 := (h5.del i).swap (Ne.symm hne)
    have hx2 := (((Ext.drew (M := M) (N := N) (U := (· < s.nx)) (h := s.h) (w := w)).trans h4).del i).swap (Ne.symm hne)
    obtain ⟨g1, g2⟩ := sap_fits hf hx2 hr2
    refine ⟨M, N', g1, g2, ?_⟩
    have := VR.sl (M := M) (N := N') (U := (· < s.nx + 1)) s.nx 0 (len + b.size) 1 cap (by omega) hpos hcap hcm (by rw [h2, hzsize]; simp)
    rw [h1, Nat.zero_mul] at this; exact this
  generalize a.eval x = vx at hvx hexec
  cases hvx with
  | sl0 _ _ hU =>
    have he : l = [] := List.eq_nil_of_length_eq_zero hlen
    subst he
    by_cases hm : b.size = 0
    · have hbn : b.data.toList = [] := List.eq_nil_of_length_eq_zero (by rw [hbl]; exact hm)
      have hrun := run_sappend_none (P := P) w t tu o.type u ii hut hus hii none 0 0 (Nat.le_refl _) b hm (.inl rfl)
      obtain ⟨h1, h2⟩ := hf.1.virtB u
      obtain ⟨g1, g2⟩ := sap_fits (i := i) (l := []) (u := u) hf ((h1.del i).swap (Ne.symm hne)) ((h2.del i).swap (Ne.symm hne))
      rw [hbn, hm]
      exact ⟨_, w, M, N, hexec _ _ hrun, g1, g2, .sl0 _ _ (by simp only [sapS]; omega)⟩
    · have hrun := run_append_nil_string (P := P) w t tu o.type u ii (.int .u8 0) hut hus hii hiz b (by omega) (by omega) (by rw [hib]; omega)
      have e1 : (b.data.map fun b => Value.int .u8 b.toNat) = (Lib.strCells b).toArray := by
        apply Array.ext'
        simp [Lib.strCells]
      rw [e1] at hrun
      obtain ⟨M', N', g1, g2, g3⟩ := fresh [] (grownCap w b.size 0 u) rfl (by simp) (by simpa using grownCap_ge w b.size 0 u) (grownCap_le_maxLen w _ _ _ (by simp only [maxLen]; omega)) (by omega) _ rfl
      simp only [Nat.zero_add, List.nil_append, Array.empty_append] at *
      exact ⟨_, _, M', N', hexec _ _ hrun, by simpa using g1, by simpa using g2, by simpa using g3⟩
  | sl _ _ _ _ cap hU h0 hl hc hext =>
    rcases hor with rfl | ⟨cur, q1, q2, q3, q4⟩
    · simp at hlen; omega
    have hreal : (AO.brow l u).real = true := by cases l with
      | nil => simp at hlen; omega
      | cons => rfl
    rw [Nat.zero_mul] at hexec
    have hcur : cur.size = cap := by rw [q2, ← hext]; omega
    by_cases hm : b.size = 0
    · have hbn : b.data.toList = [] := List.eq_nil_of_length_eq_zero (by rw [hbl]; exact hm)
      have hrun := run_sappend_none (P := P) w t tu o.type u ii hut hus hii (some ⟨N.blk i, 0, none⟩) len cap hl b hm (.inr ⟨_, _, rfl⟩)
      obtain ⟨h1, h2⟩ := hf.1.move hi hreal w (.brow (l ++ []) u) rfl rfl rfl rfl (fun _ _ => rfl) (by
        rw [List.append_nil]
        exact .inr ⟨cur, by simpa using q1, by simpa using q2, q3, q4⟩)
      obtain ⟨g1, g2⟩ := sap_fits (i := i) hf h1 h2
      rw [hbn, hm]
      refine ⟨_, w, M, _, hexec _ _ hrun, g1, g2, ?_⟩
      have := VR.sl (M := M) (N := N.with s.nx (N.blk i) (N.ext i)) (U := (· < s.nx + 1)) s.nx 0 len 1 cap (by omega) h0 hl hc (by simpa using hext)
      simpa [sapS] using this
    · by_cases hroom : len + b.size ≤ cap
      · have hrun := run_sappend_room (P := P) w t tu o.type u ii hut hus hii his u (N.blk i) len cap cur q1 b hroom (by omega)
        generalize hL : (cur.toList.take len ++ Lib.strCells b ++ cur.toList.drop (len + b.size)).toArray = L at hrun
        have hLs : L.size = cur.size := by rw [← hL]; simp [Lib.strCells_length]; omega
        have hrow := setRow_heap w (N.blk i) cur L u (0, 0) q1
        have hLo : ∀ j, j < len → L.getD j undef = cur.getD j undef := by
          intro j hj
          rw [← hL, Array.getD_eq_getD_getElem?, Array.getD_eq_getD_getElem?]
          simp only [List.getElem?_toArray]
          rw [List.append_assoc, List.getElem?_append_left (by simp; omega), List.getElem?_take, if_pos hj, Array.getElem?_toList]
        have hLn : ∀ j, j < b.size → L.getD (len + j) undef = (Lib.strCells b).getD j undef := by
          intro j hj
          rw [← hL, Array.getD_eq_getD_getElem?, List.getD_eq_getElem?_getD]
          simp only [List.getElem?_toArray]
          rw [List.getElem?_append_left (by simp [Lib.strCells_length]; omega), List.getElem?_append_right (by simp; omega)]
          congr 2; simp; omega
        obtain ⟨h1, h2⟩ := hf.1.move hi hreal (w.setRow (N.blk i) L) (.brow (l ++ b.data.toList) u) rfl rfl rfl (by simp) (fun b hb => by
            simp only [World.setRow, Array.getElem?_modify]
            rw [if_neg (fun e => hb e.symm)]) (by
          refine .inr ⟨L, by simpa using hrow, by rw [hLs]; simpa using q2, by rw [hLs, hcur, List.length_append, hlen, hbl]; omega, holds L (fun j x hj => ?_) hLn⟩
          rw [hLo j (by rw [← hlen]; exact (List.getElem?_eq_some_iff.1 hj).1)]
          exact q4 j x hj)
        obtain ⟨g1, g2⟩ := sap_fits (i := i) hf h1 h2
        refine ⟨_, _, M, _, hexec _ _ hrun, g1, g2, ?_⟩
        have := VR.sl (M := M) (N := N.with s.nx (N.blk i) (N.ext i)) (U := (· < s.nx + 1)) s.nx 0 (len + b.size) 1 cap (by omega) (by omega) hroom hc (by simpa using hext)
        simpa [sapS] using this
      · have hold2 : ∀ (j : Nat) (v : Value), (cur.toList.take len)[j]? = some v → w.cell? ((⟨N.blk i, 0, none⟩ : Addr).add j) = some v := by
          intro j v hv
          rw [List.getElem?_take] at hv
          split at hv
          · rw [add_addr, Nat.zero_add]; simp only [World.cell?, q1]; simpa using hv
          · cases hv
        have hrun := Lib.run_append_grow_string (P := P) w t tu o.type u ii (.int .u8 0) hut hus hii hiz ⟨N.blk i, 0, none⟩ len cap (cur.toList.take len) (by rw [his]; simp; omega) hold2 b (by omega) (by omega)
          (by rw [hib]; exact growslice_fits (by omega) (by omega))
        obtain ⟨M', N', g1, g2, g3⟩ := fresh (cur.toList.take len) (grownCap w (len + b.size) cap u) (by simp; omega) (fun j x hj => by
            have := q4 j x hj
            have hlt : j < len := by rw [← hlen]; exact (List.getElem?_eq_some_iff.1 hj).1
            rw [List.getD_eq_getElem?_getD, List.getElem?_take, if_pos hlt, Array.getElem?_toList]
            rw [Array.getD_eq_getD_getElem?] at this; exact this) (grownCap_ge w _ _ _) (grownCap_le_maxLen w _ _ _ (by simp only [maxLen]; omega)) (by omega) _ rfl
        exact ⟨_, _, M', N', hexec _ _ hrun, g1, g2, g3⟩

/-- Bytes of a text behind a buffer. -/
theorem go_sapp (hty : TyOK P ty) {all rest : List Oper} {o : Oper} {x y : Operand} {t tu u d : Nat} {e et eu : TyE} {i len : Nat} {l : List UInt8} {b : ByteArray} (ho : o.op = .call ⟨.builtin .append, #[x, y], #[t, tu]⟩) (hg : o.guard = none) (ht : ty t = some e) (hk : e.k = .prim (.slice u)) (htu : ty tu = some et) (hkt : et.k = .prim .string) (hu : ty u = some eu)
    (hx : ev s.f x = .sl i 0 len 1) (hi : s.h.get i = some (.brow l u)) (hsz : eu.size = 1) (hby : eu.bytes = 1) (hz : eu.zero = .int .u8 0)
    (hpy : ev s.f y = .iv (.v (.string b))) (hd : o.dst = some d) (hlt : Nat.blt d nt = true) (hlen : l.length = len) (hb2 : len + b.size ≤ 140737488355328)
    (h : GO P nt (.ops all rest :: k) Q ⟨(d, .sl s.nx 0 (l ++ b.data.toList).length 1) :: s.f, (s.nx, some (.brow (l ++ b.data.toList) u)) :: (i, none) :: s.h, s.nx + 1⟩) : GO P nt (.ops all (o :: rest) :: k) Q s := by
  have e : (l ++ b.data.toList).length = len + b.size := by rw [List.length_append, hlen]; simp
  rw [e] at h
  exact go_op hg (sapp_OT hty ho ht hk htu hkt hu hx hi hlen hsz hby hz hpy hb2 (s' := ⟨(d, .sl s.nx 0 (len + b.size) 1) :: s.f, (s.nx, some (.brow (l ++ b.data.toList) u)) :: (i, none) :: s.h, s.nx + 1⟩) (by
    simp only [putDst, sapS, hd, hlt, cond_true, forceP_eq])) fun t ht => by subst ht; exact h

/-- A STEP OVER A TEXT. -/
theorem snext_OT {o : Oper} {it : Operand} (ho : o.op = .next it true) {i : Nat} (hit : ev s.f it = .ptr i 0) {b : ByteArray} {pos : Nat} (hi : s.h.get i = some (.siter b pos)) {d : Nat} (hd : o.dst = some d) (hlt : Nat.blt d nt = true) :
    OT P nt o s (fun t => (b.size ≤ pos ∧ t = ⟨(d, .tup [.kb false]) :: s.f, s.h, s.nx⟩) ∨
      (pos < b.size ∧ t = ⟨(d, .tup [.kb true, .iv (.v (.int .i64 (pos : Nat))), .iv (.v (.int .i32 (Utf8.decode b pos).1))]) :: s.f, (i, some (.siter b (pos + (Utf8.decode b pos).2))) :: s.h, s.nx⟩)) := by
  intro M N a w hf K Z hk
  have hx := ev_ok hf.2.1 it
  rw [hit] at hx
  have hio : w.heap[N.blk i]? = some (.stringIter b pos) := hf.1.obj i _ hi
  have hblk : N.blk i < w.heap.size := (Array.getElem?_eq_some_iff.1 hio).1
  have hdn : d < nt := Nat.le_of_ble_eq_true hlt
  have hev : a.eval it = .pointer (some ⟨N.blk i, 0, none⟩) := by
    generalize a.eval it = y at hx
    cases hx; rfl
  unfold Oper.wp
  by_cases hp : pos < b.size
  · have hrun : (execOp a.eval o).run P w = .ok (.value (.tuple #[.bool true, .int .i64 (pos : Nat), .int .i32 (Utf8.decode b pos).1])) { w with heap := w.heap.setIfInBounds (N.blk i) (.stringIter b (pos + (Utf8.decode b pos).2)) } := by
      simp only [execOp, ho, hev]
      simp [Instr.next, getObj, setObj, Sem.run, hio, hp, Result.andThen, goInt]
    rw [hrun]
    simp only [Oper.upon]
    obtain ⟨q1, q2⟩ := hf.1.write hi rfl { w with heap := w.heap.setIfInBounds (N.blk i) (.stringIter b (pos + (Utf8.decode b pos).2)) } (.siter b (pos + (Utf8.decode b pos).2)) rfl rfl rfl (by simp) (fun c hc => by
      show (w.heap.setIfInBounds _ _)[c]? = _
      rw [Array.getElem?_setIfInBounds, if_neg (fun e => hc e.symm)]) (by
      show (w.heap.setIfInBounds _ _)[_]? = _
      rw [Array.getElem?_setIfInBounds, if_pos rfl, if_pos hblk])
    refine hk M N _ _ _ q1 ?_ (.inr ⟨hp, rfl⟩)
    rw [hd]
    refine Fits.put (s := ⟨s.f, (i, some (.siter b (pos + (Utf8.decode b pos).2))) :: s.h, s.nx⟩) ⟨q2, hf.2⟩ d _ _ hdn (.tup _ _ rfl fun q p hp => ?_)
    match q with
    | 0 => simp at hp; subst hp; exact .kb _
    | 1 => simp at hp; subst hp; exact .iv _ _ (.v _)
    | 2 => simp at hp; subst hp; exact .iv _ _ (.v _)
    | q + 3 => simp at hp
  · have hrun : (execOp a.eval o).run P w = .ok (.value (.tuple #[.bool false])) w := by
      simp only [execOp, ho, hev]
      simp [Instr.next, getObj, Sem.run, hio, hp, Result.andThen]
    rw [hrun]
    simp only [Oper.upon]
    refine hk M N ⟨(d, .tup [.kb false]) :: s.f, s.h, s.nx⟩ _ w (.refl _ _ _ _ _) ?_ (.inl ⟨by omega, rfl⟩)
    rw [hd]
    exact hf.put d _ _ hdn (.tup _ _ rfl fun j p hp => by
        match j with
        | 0 => simp at hp; subst hp; exact .kb _
        | j + 1 => simp at hp)
theorem go_snext {all rest : List Oper} {o : Oper} {it : Operand} {i : Nat} {b : ByteArray} {pos d : Nat} (ho : o.op = .next it true) (hg : o.guard = none) (hit : ev s.f it = .ptr i 0) (hi : s.h.get i = some (.siter b pos)) (hd : o.dst = some d) (hlt : Nat.blt d nt = true)
    (h1 : b.size ≤ pos → GO P nt (.ops all rest :: k) Q ⟨(d, .tup [.kb false]) :: s.f, s.h, s.nx⟩)
    (h2 : pos < b.size → GO P nt (.ops all rest :: k) Q ⟨(d, .tup [.kb true, .iv (.v (.int .i64 (pos : Nat))), .iv (.v (.int .i32 (Utf8.decode b pos).1))]) :: s.f, (i, some (.siter b (pos + (Utf8.decode b pos).2))) :: s.h, s.nx⟩) :
    GO P nt (.ops all (o :: rest) :: k) Q s := by
  refine go_op hg (snext_OT ho hit hi hd hlt) fun t ht => ?_
  rcases ht with ⟨g1, rfl⟩ | ⟨g1, rfl⟩
  · exact h1 g1
  · exact h2 g1

/-- A range over a text. -/
theorem go_srange (hty : TyOK P ty) {all rest : List Oper} {o : Oper} {x : Operand} {t d : Nat} {b : ByteArray} {e : TyE} (ho : o.op = .range t x) (hg : o.guard = none) (ht : ty t = some e) (hk : e.k = .prim .string) (hx : ev s.f x = .iv (.v (.string b))) (hd : o.dst = some d) (hlt : Nat.blt d nt = true)
    (h : GO P nt (.ops all rest :: k) Q ⟨(d, .ptr s.nx 0) :: s.f, (s.nx, some (.siter b 0)) :: s.h, s.nx + 1⟩) : GO P nt (.ops all (o :: rest) :: k) Q s := by
  have hus : P.underlying t = some .string := by
    have := (hty t _ ht).2.1; rw [hk] at this; exact this.1
  refine go_op (R := fun t => t = ⟨(d, .ptr s.nx 0) :: s.f, (s.nx, some (.siter b 0)) :: s.h, s.nx + 1⟩) hg (OT.value (s1 := newObj s (.siter b 0)) (p := .ptr s.nx 0) (by cases s; simp only [putDst, newObj, hd, hlt, cond_true, forceP_eq]) fun M N a w hf => ?_) fun t ht => by subst ht; exact h
  have hvx := ev_ok hf.2.1 x
  rw [hx] at hvx
  have hyv : a.eval x = .string b := by
    generalize a.eval x = v at hvx
    cases hvx with
    | iv _ _ h => cases h; rfl
  obtain ⟨N', h1, h2, h3, h4, h5⟩ := hf.1.alloc (.stringIter b 0) (.siter b 0) 0 (fun N' g1 g2 g3 => by
    show (w.alloc _).heap[N'.blk s.nx]? = _
    rw [g1]; exact heap_alloc_new w _)
  refine ⟨.pointer (some ⟨w.heap.size, 0, none⟩), _, M, N', ?_, h4, fits_alloc hf h4 h5, ?_⟩
  · simp only [execOp, ho, hyv]
    simp [Instr.range, run_underlying hus]
  · have := VR.ptr (M := M) (N := N') (U := (· < s.nx + 1)) s.nx 0 (by omega)
    rw [h1] at this; exact this
end
end Go.Al
/-
  Words: names of relations and variables, as the program and the references test them.
-/
namespace Go.Proofs.YtpnclpbkecjinaaGreatDoorR
open Go Go.Al
set_option maxRecDepth 10000

/-- A byte that may stand in a name. -/
def okN (c : Nat) : Bool := (decide (97 ≤ c) && decide (c ≤ 122)) || ((decide (65 ≤ c) && decide (c ≤ 90)) || ((decide (48 ≤ c) && decide (c ≤ 57)) || decide (c = 95)))
def okB (b : UInt8) : Bool := okN b.toNat
/-- The first byte. -/
def hd (s : Str) : Int := ((s.data.toList.getD 0 0).toNat : Int)
def wordB (s : Str) (lo hi : Int) : Bool := !decide (s = ⟨#[]⟩) && (decide (s.size ≤ 32) && (decide (lo ≤ hd s) && (decide (hd s ≤ hi) && s.data.toList.all okB)))

theorem okN_lt {c : Nat} (h : okN c = true) : c < 128 := by
  simp only [okN, Bool.or_eq_true, Bool.and_eq_true, decide_eq_true_eq] at h; omega
theorem size_ne {s : Str} (h : ¬ s = ⟨#[]⟩) : 0 < s.size := by
  refine Nat.pos_of_ne_zero fun h0 => h ?_
  have : s.data = #[] := Array.eq_empty_of_size_eq_zero h0
  cases s; simp_all

theorem c181 (c : Nat) : Pure Tryz.prog 181 [.iv (.v (.int .i32 (c : Int)))] (pB (!okN c)) := by
  refine pure_end tyA_ok Tryz.func181 rfl (by decide) Tryz.ntmps181 rfl (by simp) rfl ?_
  repeat' (first
    | (refine goR rfl (by trivial) (And.intro (fun _ => ?_) (fun _ => ?_)))
    | (refine goR rfl (by trivial) (end_le (by first | exact .inr rfl | exact .inl rfl) rfl (.of_eq ?_))))
  all_goals (refine (pBE ?_ : pB _ = pB _))
  all_goals (simp only [Bool.not_true, Bool.not_false, decide_eq_true_eq, decide_eq_false_iff_not] at *; rw [Bool.eq_iff_iff]; simp [okN]; omega)

theorem dec_lo {s : Str} {i : Nat} (h : i < s.size) (hb : okB (s.data.toList.getD i 0) = true) : Utf8.decode s i = ((s.data.toList.getD i 0).toNat, 1) := by
  have hg : (s[i]'h) = s.data.toList.getD i 0 := by
    have : i < s.data.toList.length := by simpa using h
    rw [List.getD_eq_getElem?_getD, List.getElem?_eq_getElem this]; simp; rfl
  have := decode_ascii s i h (by rw [hg]; exact okN_lt hb)
  rw [this, hg]
theorem dec_hi {s : Str} {i : Nat} (h : i < s.size) (hb : okB (s.data.toList.getD i 0) = false) : okN (Utf8.decode s i).1 = false := by
  by_cases h1 : (s.data.toList.getD i 0).toNat < 128
  · have hg : (s[i]'h) = s.data.toList.getD i 0 := by
      have : i < s.data.toList.length := by simpa using h
      rw [List.getD_eq_getElem?_getD, List.getElem?_eq_getElem this]; simp; rfl
    have := decode_ascii s i h (by rw [hg]; exact h1)
    rw [this, hg]; exact hb
  · have hg : (s.get! (i + 0)).toNat = (s.data.toList.getD i 0).toNat := by
      have : i < s.data.toList.length := by simpa using h
      rw [List.getD_eq_getElem?_getD, List.getElem?_eq_getElem this]
      simp [ByteArray.get!, getElem!_pos, h]
    have : 128 ≤ (Utf8.decode s i).1 := by
      simp only [Utf8.decode, hg, if_neg h1]
      repeat' split
      all_goals (dsimp only [Utf8.runeError]; (try simp only [Bool.and_eq_true, decide_eq_true_eq] at *); omega)
    cases hk : okN (Utf8.decode s i).1 with
    | false => rfl
    | true => have := okN_lt hk; omega

def badIx (s : Str) : Int := idxI (fun b => !okB b) s.data.toList
theorem d217 (s : Str) : Det Tryz.prog 217 [pS s, .clo (.func 181) [] [], pB true] [] (pI (badIx s)) [] 0 := by
  have hlen : s.data.toList.length = s.size := by simp
  refine det_end tyA_ok Tryz.func217 rfl (by decide) Tryz.ntmps217 rfl (by simp) ?_
  refine goR rfl (by trivial) ?_
  refine go_srange tyA_ok rfl rfl rfl rfl rfl rfl rfl ?_
  refine goR rfl (by trivial) ?_
  refine go_for 0 s.size (Nat.zero_le _) (fun i => ⟨[(0, pS s), (1, .clo (.func 181) [] []), (2, pB true), (10, .ptr 0 0)], [(0, some (.siter s i))], 1⟩) (fun i => (s.data.toList.take i).any (fun b => !okB b) = false) [] (by simp)
    (wk rfl rfl rfl ⟨.refl _, rfl, .refl _, rfl, .refl _, rfl, .refl _, rfl, trivial⟩ ⟨⟨_, rfl, .of_eq rfl⟩, Nat.le_of_ble_eq_true rfl, trivial, trivial⟩ rfl) fun i hi hJ => ?_
  refine goR rfl (by trivial) ?_
  refine go_snext rfl rfl rfl rfl rfl rfl (fun h1 => ?_) (fun h1 => ?_)
  · have h2 : s.data.toList.length ≤ i := by omega
    rw [badIx, idxI_none (any_none hJ h2)]
    refine goR rfl (by trivial) (end_det [] (by first | exact .inr rfl | exact .inl rfl) rfl (wk rfl rfl rfl ⟨.refl _, rfl, trivial⟩ trivial rfl))
  · have hi2 : i < s.data.toList.length := by omega
    have hg : s.data.toList.getD i default = s.data.toList.getD i 0 := rfl
    refine goR rfl (by trivial) (go_pure (c181 (Utf8.decode s i).1) rfl rfl rfl rfl rfl rfl ?_)
    refine goR rfl (by trivial) ?_
    refine And.intro (fun h2 => ?_) (fun h2 => ?_)
    · have h2 : okN (Utf8.decode s i).1 = false := by simpa using h2
      have hb : okB (s.data.toList.getD i 0) = false := by
        cases hk : okB (s.data.toList.getD i 0) with
        | false => rfl
        | true =>
          rw [dec_lo h1 hk] at h2
          exact absurd (hk.symm.trans h2) (by simp)
      rw [badIx, idxI_hit hJ hi2 (by rw [hg, hb]; rfl)]
      refine goR rfl (by trivial) (end_det [] (by first | exact .inr rfl | exact .inl rfl) rfl (wk rfl rfl rfl ⟨.refl _, rfl, trivial⟩ trivial rfl))
    · have h2 : okN (Utf8.decode s i).1 = true := by simpa using h2
      have hb : okB (s.data.toList.getD i 0) = true := by
        cases hk : okB (s.data.toList.getD i 0) with
        | true => rfl
        | false => exact absurd ((dec_hi h1 hk).symm.trans h2) (by simp)
      have hd := dec_lo h1 hb
      refine goR rfl (by trivial) ?_
      exact ⟨h1, (any_step hJ hi2).2 (by rw [hg, hb]; rfl), [], wk rfl rfl rfl ⟨.refl _, rfl, .refl _, rfl, .refl _, rfl, .refl _, rfl, trivial⟩ ⟨⟨_, rfl, .of_eq (by rw [hd]; rfl)⟩, Nat.le_of_ble_eq_true rfl, trivial, trivial⟩ rfl⟩
theorem any_not (l : List UInt8) : (l.any fun b => !okB b) = !l.all okB := by
  induction l with
  | nil => rfl
  | cons x r ih => simp only [List.any_cons, List.all_cons, ih]; cases okB x <;> rfl
theorem d203 (s : Str) : Det Tryz.prog 203 [pS s, .clo (.func 181) [] []] [] (pI (badIx s)) [] 0 := by
  refine det_end tyA_ok Tryz.func203 rfl (by decide) Tryz.ntmps203 rfl (by simp) ?_
  refine goR rfl (by trivial) (go_det [] (d217 s) rfl rfl rfl rfl rfl rfl rfl rfl ?_)
  refine goR rfl (by trivial) (end_det [] (by first | exact .inr rfl | exact .inl rfl) rfl (wk rfl rfl rfl ⟨.refl _, rfl, trivial⟩ trivial rfl))
theorem d180 (s : Str) : Det Tryz.prog 180 [pS s, .clo (.func 181) [] []] [] (pB (!s.data.toList.all okB)) [] 0 := by
  refine det_end tyA_ok Tryz.func180 rfl (by decide) Tryz.ntmps180 rfl (by simp) ?_
  refine goR rfl (by trivial) (go_det [] (d203 s) rfl rfl rfl rfl rfl rfl rfl rfl ?_)
  refine goR rfl (by trivial) (end_det [] (by first | exact .inr rfl | exact .inl rfl) rfl (wk rfl rfl rfl ⟨.of_eq (pBE ((idxI_any _ _).trans (any_not _))), rfl, trivial⟩ trivial rfl))
theorem hd_eq (s : Str) : ((s.data.toList.getD (Int.toNat 0) 0).toNat : Int) = hd s := rfl
theorem c140 (s : Str) (lo hi : Int) : Pure Tryz.prog 140 [pS s, .iv (.v (.int .u8 lo)), .iv (.v (.int .u8 hi))] (pB (wordB s lo hi)) := by
  refine pure_end tyA_ok Tryz.func140 rfl (by decide) Tryz.ntmps140 rfl (by simp) rfl ?_
  refine goR rfl (by trivial) ?_
  refine And.intro (fun h1 => ?_) (fun h1 => ?_)
  rotate_left
  · have h1 : s = ⟨#[]⟩ := of_decide_eq_true h1
    refine goR rfl (by trivial) (end_le (by first | exact .inr rfl | exact .inl rfl) rfl (.of_eq ?_))
    refine (pBE ?_ : pB _ = pB _)
    subst h1; rfl
  have h1 : ¬ s = ⟨#[]⟩ := of_decide_eq_false h1
  have hp := size_ne h1
  refine goR rfl (by trivial) ?_
  refine And.intro (fun h2 => ?_) (fun h2 => ?_)
  rotate_left
  · have h2 : 32 < s.size := Int.ofNat_lt.1 (of_decide_eq_true h2)
    refine goR rfl (by trivial) (end_le (by first | exact .inr rfl | exact .inl rfl) rfl (.of_eq ?_))
    refine (pBE ?_ : pB _ = pB _)
    have : ¬ s.size ≤ 32 := by omega
    simp [wordB, this]
  have h2 : s.size ≤ 32 := by have := of_decide_eq_false h2; omega
  refine goR rfl (by simp; omega) ?_
  refine And.intro (fun h3 => ?_) (fun h3 => ?_)
  rotate_left
  · have h3 : hd s < lo := of_decide_eq_true h3
    refine goR rfl (by trivial) (end_le (by first | exact .inr rfl | exact .inl rfl) rfl (.of_eq ?_))
    refine (pBE ?_ : pB _ = pB _)
    have : ¬ lo ≤ hd s := by omega
    simp [wordB, this]
  have h3 : lo ≤ hd s := by have : ¬ hd s < lo := of_decide_eq_false h3; omega
  refine goR rfl (by simp; omega) ?_
  refine And.intro (fun h4 => ?_) (fun h4 => ?_)
  · have h4 : hi < hd s := of_decide_eq_true h4
    refine goR rfl (by trivial) (end_le (by first | exact .inr rfl | exact .inl rfl) rfl (.of_eq ?_))
    refine (pBE ?_ : pB _ = pB _)
    have : ¬ hd s ≤ hi := by omega
    simp [wordB, this]
  have h4 : hd s ≤ hi := by have : ¬ hd s > hi := of_decide_eq_false h4; omega
  refine goR rfl (by trivial) (go_det [] (d180 s) rfl rfl rfl rfl rfl rfl rfl rfl ?_)
  refine goR rfl (by trivial) (end_le (by first | exact .inr rfl | exact .inl rfl) rfl (.of_eq ?_))
  refine (pBE ?_ : pB _ = pB _)
  simp [wordB, h1, h2, h3, h4]

/-- The words of the language. -/
def resL : List Str := [⟨#[114, 101, 108, 97, 116, 105, 111, 110]⟩, ⟨#[110, 111, 116]⟩, ⟨#[110, 117, 109]⟩, ⟨#[115, 121, 109]⟩, ⟨#[109, 111, 100]⟩, ⟨#[99, 111, 117, 110, 116]⟩, ⟨#[115, 117, 109]⟩, ⟨#[109, 105, 110]⟩, ⟨#[109, 97, 120]⟩]
def resB (s : Str) : Bool := resL.any fun x => decide (s = x)
def nameB (s : Str) : Bool := !resB s && wordB s 97 122
def varB (s : Str) : Bool := wordB s 65 90
theorem c148 (s : Str) : Pure Tryz.prog 148 [pS s] (pB (varB s)) := by
  refine pure_end tyA_ok Tryz.func148 rfl (by decide) Tryz.ntmps148 rfl (by simp) rfl ?_
  refine goR rfl (by trivial) (go_pure (c140 s 65 90) rfl rfl rfl rfl rfl rfl ?_)
  refine goR rfl (by trivial) (end_le (by first | exact .inr rfl | exact .inl rfl) rfl (.of_eq ?_))
  rfl
theorem c97 (s : Str) : Pure Tryz.prog 97 [pS s] (pB (nameB s)) := by
  refine pure_end tyA_ok Tryz.func97 rfl (by decide) Tryz.ntmps97 rfl (by simp) rfl ?_
  repeat' (first
    | (refine goR rfl (by trivial) (And.intro (fun _ => ?_) (fun _ => ?_)))
    | (refine goR rfl (by trivial) (go_pure (c140 s 97 122) rfl rfl rfl rfl rfl rfl ?_))
    | (refine goR rfl (by trivial) (end_le (by first | exact .inr rfl | exact .inl rfl) rfl (.of_eq ?_))))
  all_goals (refine (pBE ?_ : pB _ = pB _))
  all_goals (simp only [nameB, resB, resL, List.any_cons, List.any_nil, *]; rfl)

theorem c142 (v : Val) : Pure Tryz.prog 142 [ag v.c] (pB (!decide (vCheck v = 0))) := by
  refine pure_end tyA_ok Tryz.func142 rfl (by decide) Tryz.ntmps142 rfl (by simp) rfl ?_
  refine goR rfl (by trivial) (go_pure (c143 v) rfl rfl rfl rfl rfl rfl ?_)
  refine goR rfl (by trivial) (end_le (by first | exact .inr rfl | exact .inl rfl) rfl (.of_eq ?_))
  rfl

theorem i182 (l : List Val) : Det Tryz.prog 182 [.iv (slc 3 l Val.c), .clo (.func 142) [] []] [] (pI (idxI (fun x : Val => !decide (vCheck x = 0)) l)) [] 0 := by
  refine detLen (callable_of Tryz.func182 rfl (by decide)) ⟨_, _, List.mem_cons_self⟩ fun hlen => ?_
  simp only [maxLen] at hlen
  refine det_end tyA_ok Tryz.func182 rfl (by decide) Tryz.ntmps182 rfl (by simp) ?_
  refine goR rfl (by trivial) ?_
  refine go_for 0 l.length (Nat.zero_le _) (fun i => ⟨[(0, .iv (slc 3 l Val.c)), (1, .clo (.func 142) [] []), (7, pI l.length), (8, pI i)], [], 0⟩) (fun i => (l.take i).any (fun x : Val => !decide (vCheck x = 0)) = false) [] (by simp)
    (wk rfl rfl rfl ⟨.refl _, rfl, .refl _, rfl, .refl _, rfl, .refl _, rfl, trivial⟩ trivial rfl) fun i hi hJ => ?_
  refine goR rfl (by trivial) ?_
  refine And.intro (fun h1 => ?_) (fun h1 => ?_)
  · have h1 : i < l.length := by simpa using h1
    refine goR rfl (by simp; omega) (go_pure (c142 (l.getD i default)) rfl rfl rfl rfl rfl rfl ?_)
    refine goR rfl (by trivial) ?_
    refine And.intro (fun h2 => ?_) (fun h2 => ?_)
    · have h2 : (fun x : Val => !decide (vCheck x = 0)) (l.getD i default) = true := h2
      rw [idxI_hit hJ h1 h2]
      refine goR rfl (by trivial) (end_det [] (by first | exact .inr rfl | exact .inl rfl) rfl (wk rfl rfl rfl ⟨.refl _, rfl, trivial⟩ trivial rfl))
    · have h2 : (fun x : Val => !decide (vCheck x = 0)) (l.getD i default) = false := h2
      refine goR rfl (by (repeat' (first | exact trivial | exact rfl | exact PVle.refl _ | exact PVle.bk (by assumption) | apply And.intro)) <;> first | omega | (simp only [Int.toNat_natCast]; omega) | (simp; done) | (simp; omega)) ?_
      exact ⟨h1, (any_step hJ h1).2 h2, [], wk rfl rfl rfl ⟨.refl _, rfl, .refl _, rfl, .refl _, rfl, .refl _, rfl, trivial⟩ trivial rfl⟩
  · have h1 : l.length ≤ i := by simpa using h1
    rw [idxI_none (any_none hJ h1)]
    refine goR rfl (by trivial) (end_det [] (by first | exact .inr rfl | exact .inl rfl) rfl (wk rfl rfl rfl ⟨.refl _, rfl, trivial⟩ trivial rfl))
theorem d141 (l : List Val) : Det Tryz.prog 141 [.iv (slc 3 l Val.c), .clo (.func 142) [] []] [] (pB (l.any (fun x : Val => !decide (vCheck x = 0)))) [] 0 := by
  refine det_end tyA_ok Tryz.func141 rfl (by decide) Tryz.ntmps141 rfl (by simp) ?_
  refine goR rfl (by trivial) (go_det [] (i182 l) rfl rfl rfl rfl rfl rfl rfl rfl ?_)
  refine goR rfl (by trivial) (end_det [] (by first | exact .inr rfl | exact .inl rfl) rfl (wk rfl rfl rfl ⟨.of_eq (pBE (idxI_any _ l)), rfl, trivial⟩ trivial rfl))


/-- May a fact be? -/
def factOK (f : Fact) : Bool := nameB f.rel && (decide (f.args.length ≤ 8) && f.args.all fun v => decide (vCheck v = 0))
theorem all_vals (l : List Val) : (l.any fun x : Val => !decide (vCheck x = 0)) = !l.all fun v => decide (vCheck v = 0) := by
  induction l with
  | nil => rfl
  | cons x r ih => simp only [List.any_cons, List.all_cons, ih]; cases decide (vCheck x = 0) <;> rfl
theorem c98 (l : List Val) : Pure Tryz.prog 98 [.iv (slc 3 l Val.c)] (pB (l.all fun v => decide (vCheck v = 0))) := by
  refine pure_end tyA_ok Tryz.func98 rfl (by decide) Tryz.ntmps98 rfl (by simp) rfl ?_
  refine goR rfl (by trivial) (go_det [] (d141 l) rfl rfl rfl rfl rfl rfl rfl rfl ?_)
  refine goR rfl (by trivial) (end_le (by first | exact .inr rfl | exact .inl rfl) rfl (.of_eq ?_))
  refine (pBE ?_ : pB _ = pB _)
  rw [all_vals, Bool.not_not]
theorem c55 (f : Fact) : Pure Tryz.prog 55 [ag f.c] (pI (if factOK f then 0 else 20)) := by
  refine pure_end tyA_ok Tryz.func55 rfl (by decide) Tryz.ntmps55 rfl (by simp) rfl ?_
  repeat' (first
    | (refine goR rfl (by trivial) (And.intro (fun _ => ?_) (fun _ => ?_)))
    | (refine goR rfl (by trivial) (go_pure (c97 f.rel) rfl rfl rfl rfl rfl rfl ?_))
    | (refine goR rfl (by trivial) (go_pure (c98 f.args) rfl rfl rfl rfl rfl rfl ?_))
    | (refine goR rfl (by trivial) (end_le (by first | exact .inr rfl | exact .inl rfl) rfl (.of_eq ?_))))
  all_goals (refine (pIE ?_ : pI _ = pI _))
  all_goals (simp only [factOK]; simp_all)
  all_goals omega
end Go.Proofs.YtpnclpbkecjinaaGreatDoorR
