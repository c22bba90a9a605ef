/-
  What the proof of the claim needs: walks over the program's functions, and the plain laws. Part 6 of 6.
-/
import Derived.Test.YtpnclpbkecjinaaGreatDoorRPart5
import Derived.KernelRfl
import Derived.Test.YtpnclpbkecjinaaGreatDoorRRows
import Derived.WalkKit
import Derived.ProofKit
import Derived.OpenShut
import Derived.Deep.DeepHandedRow
import Derived.Lib.LaidTab
import Derived.LaidSub
import Derived.MakeChecks
import Derived.Test.YtpnclpbkecjinaaGreatDoorRCards
import Derived.Test.YtpnclpbkecjinaaGreatDoorRTie
/-
  Fact, Goal.
-/
namespace Go.Proofs.YtpnclpbkecjinaaGreatDoorR
open Go Go.Al
set_option maxRecDepth 10000
def fitB (p : Prog) (f : Fact) (j : Nat) : Bool := decide ((f.args.getD j default).kind = (declOf p f.rel).types.getD j default)
def factR (p : Prog) (f : Fact) : Int :=
  if hasK .str (relsM p) f.rel = false ∨ factOK f = false ∨ ¬ (f.args.length : Int) = ((declOf p f.rel).types.length : Int) then 5
  else if (List.range f.args.length).all (fitB p f) = true then 0 else 5
theorem range_all {q : Nat → Bool} {n : Nat} (h : ∀ j, j < n → q j = true) : (List.range n).all q = true := List.all_eq_true.2 fun j hj => h j (List.mem_range.1 hj)
theorem range_not {q : Nat → Bool} {n j : Nat} (h : j < n) (hq : q j = false) : ¬ (List.range n).all q = true := fun e => by
  have := List.all_eq_true.1 e j (List.mem_range.2 h)
  rw [hq] at this; cases this
theorem c16 (p : Prog) (f : Fact) (hb : p.rels.length ≤ 1000000000) (hf : f.args.length ≤ 1000000000) : Pure Tryz.prog 16 [ag p.c, ag f.c] (pI (factR p f)) := by
  refine pure_end tyA_ok Tryz.func16 rfl (by decide) Tryz.ntmps16 rfl (by simp) rfl ?_
  refine gA rfl (go_ddet tyA_ok [] (d50 p (by omega)) rfl rfl rfl rfl rfl rfl rfl rfl rfl rfl rfl rfl (by (repeat' (first | exact trivial | exact rfl | exact PVle.refl _ | exact PVle.bk (by assumption) | apply And.intro)) <;> first | omega | (simp only [Int.toNat_natCast]; omega) | (simp; done) | (simp; omega)) rfl (by (repeat' (first | exact trivial | exact rfl | exact PVle.refl _ | exact PVle.bk (by assumption) | apply And.intro)) <;> first | omega | (simp only [Int.toNat_natCast]; omega) | (simp; done) | (simp; omega)) ?_)
  refine gA rfl ?_
  refine And.intro (fun g1 => ?_) (fun g1 => ?_)
  rotate_left
  · have g1 : hasK .str (relsM p) f.rel = false := by simpa using g1
    rw [factR, if_pos (.inl g1)]
    refine gA rfl (end_le (by first | exact .inr rfl | exact .inl rfl) rfl (.of_eq ?_))
    rfl
  have g1 : ¬ hasK .str (relsM p) f.rel = false := by
    have g : (!hasK .str (relsM p) f.rel) = false := g1
    intro h; rw [h] at g; cases g
  refine gA rfl (go_pure (c55 f) rfl rfl rfl rfl rfl rfl ?_)
  refine gA rfl ?_
  refine And.intro (fun g2 => ?_) (fun g2 => ?_)
  rotate_left
  · have g2 : factOK f = false := by
      cases h : factOK f with
      | false => rfl
      | true =>
        have g : (!decide ((if factOK f then (0 : Int) else 20) = 0)) = true := g2
        rw [h] at g; simp at g
    rw [factR, if_pos (.inr (.inl g2))]
    refine gA rfl (end_le (by first | exact .inr rfl | exact .inl rfl) rfl (.of_eq ?_))
    rfl
  have g2 : ¬ factOK f = false := by
    intro h
    have g : (!decide ((if factOK f then (0 : Int) else 20) = 0)) = false := g2
    rw [h] at g; simp at g
  refine gA rfl ?_
  refine And.intro (fun g3 => ?_) (fun g3 => ?_)
  · have g3 : ¬ (f.args.length : Int) = ((declOf p f.rel).types.length : Int) := by
      have g : (!decide ((f.args.length : Int) = ((declOf p f.rel).types.length : Int))) = true := g3
      simpa only [Bool.not_eq_true', decide_eq_false_iff_not] using g
    rw [factR, if_pos (.inr (.inr g3))]
    refine gA rfl (end_le (by first | exact .inr rfl | exact .inl rfl) rfl (.of_eq ?_))
    rfl
  have g3 : (f.args.length : Int) = ((declOf p f.rel).types.length : Int) := by
    have g : (!decide ((f.args.length : Int) = ((declOf p f.rel).types.length : Int))) = false := g3
    simpa only [Bool.not_eq_false', decide_eq_true_eq] using g
  rw [factR, if_neg (by rintro (h | h | h); exact g1 h; exact g2 h; exact h g3)]
  refine gA rfl ?_
  refine go_for 0 f.args.length (Nat.zero_le _) (fun i => ⟨[(5, .ptr 3 0), (34, .iv (slc 3 f.args Val.c)), (35, pI f.args.length), (36, pI i)], [(3, some (cellsI (declOf p f.rel).c))], 4⟩) (fun i => ∀ j, j < i → fitB p f j = true) [] (fun j hj => absurd hj (Nat.not_lt_zero j))
    (wk rfl rfl rfl ⟨.refl _, rfl, .refl _, rfl, .refl _, rfl, .refl _, rfl, trivial⟩ ⟨⟨_, rfl, .of_eq rfl⟩, Nat.le_of_ble_eq_true rfl, rfl, trivial⟩ rfl) fun i hi hJ => ?_
  refine gA rfl ?_
  refine And.intro (fun h1 => ?_) (fun h1 => ?_)
  · have h1 : i < f.args.length := Int.ofNat_lt.1 (of_decide_eq_true h1)
    refine gA rfl ?_
    refine And.intro (fun h2 => ?_) (fun h2 => ?_)
    · have h2 : fitB p f i = false := by
        have g : (!fitB p f i) = true := h2
        simpa using g
      rw [if_neg (range_not h1 h2)]
      refine gA rfl (end_le (by first | exact .inr rfl | exact .inl rfl) rfl (.of_eq ?_))
      rfl
    · have h2 : fitB p f i = true := by
        have g : (!fitB p f i) = false := h2
        simpa using g
      refine gA rfl ?_
      exact ⟨h1, fun j hj => by rcases Nat.lt_succ_iff_lt_or_eq.1 hj with h | h; exact hJ j h; exact h ▸ h2, [], wk rfl rfl rfl ⟨.refl _, rfl, .refl _, rfl, .refl _, rfl, .refl _, rfl, trivial⟩ ⟨⟨_, rfl, .of_eq rfl⟩, Nat.le_of_ble_eq_true rfl, rfl, trivial⟩ rfl⟩
  · have h1 : f.args.length ≤ i := Nat.le_of_not_lt fun hh => absurd (Int.ofNat_lt.2 hh) (of_decide_eq_false h1)
    rw [if_pos (range_all fun j hj => hJ j (by omega))]
    refine gA rfl (end_le (by first | exact .inr rfl | exact .inl rfl) rfl (.of_eq ?_))
    rfl
/-! Goals. -/
def goalT (p : Prog) (a : Atom) (i : Nat) : Int := (declOf p a.rel).types.getD i default
def goalStep (p : Prog) (a : Atom) (i : Nat) (m : NM) : Option NM :=
  if (a.terms.getD i default).kind = 2 then (if (a.terms.getD i default).val.kind = goalT p a i then some m else none)
  else if (a.terms.getD i default).kind = 1 then (if hasK .str m (a.terms.getD i default).var = true ∧ ¬ lkD .str m (a.terms.getD i default).var 0 = goalT p a i then none else some (putK .str m (a.terms.getD i default).var (goalT p a i)))
  else some m
def goalM (p : Prog) (a : Atom) : Nat → Option NM
  | 0 => some []
  | i + 1 => (goalM p a i).bind (goalStep p a i)
theorem goalM_none (p : Prog) (a : Atom) (i : Nat) (h : goalM p a i = none) : ∀ k, goalM p a (i + k) = none
  | 0 => h
  | k + 1 => by rw [← Nat.add_assoc, goalM, goalM_none p a i h k]; rfl
def goalR (p : Prog) (a : Atom) : Int :=
  if atomBad a = true ∨ hasK .str (relsM p) a.rel = false ∨ ¬ (a.terms.length : Int) = ((declOf p a.rel).types.length : Int) then 6
  else if (goalM p a a.terms.length).isSome = true then 0 else 6
theorem goal_out {p : Prog} {a : Atom} {i : Nat} {m : NM} (hm : goalM p a i = some m) (hi : i < a.terms.length) (h : goalStep p a i m = none) : ¬ (goalM p a a.terms.length).isSome = true := by
  have h1 : goalM p a (i + 1) = none := by rw [goalM, hm]; exact h
  have h2 := goalM_none p a (i + 1) h1 (a.terms.length - (i + 1))
  have e : i + 1 + (a.terms.length - (i + 1)) = a.terms.length := by omega
  rw [e] at h2
  rw [h2]; simp
def goalN (p : Prog) (a : Atom) (i : Nat) : NM := (goalM p a i).getD []
theorem goalN_of {p : Prog} {a : Atom} {i : Nat} {m : NM} (h : goalM p a i = some m) : goalN p a i = m := by rw [goalN, h]; rfl
set_option maxHeartbeats 1000000 in
theorem c21 (p : Prog) (a : Atom) (hb : p.rels.length ≤ 1000000000) (ha : a.terms.length ≤ 1000000000) (hts : a.ts ≤ 900000000) : Pure Tryz.prog 21 [ag p.c, ag a.c] (pI (goalR p a)) := by
  refine pure_end tyA_ok Tryz.func21 rfl (by decide) Tryz.ntmps21 rfl (by simp) rfl ?_
  refine gA rfl (go_ddet tyA_ok [] (d50 p (by omega)) rfl rfl rfl rfl rfl rfl rfl rfl rfl rfl rfl rfl (by (repeat' (first | exact trivial | exact rfl | exact PVle.refl _ | exact PVle.bk (by assumption) | apply And.intro)) <;> first | omega | (simp only [Int.toNat_natCast]; omega) | (simp; done) | (simp; omega)) rfl (by (repeat' (first | exact trivial | exact rfl | exact PVle.refl _ | exact PVle.bk (by assumption) | apply And.intro)) <;> first | omega | (simp only [Int.toNat_natCast]; omega) | (simp; done) | (simp; omega)) ?_)
  refine gA rfl (go_pure (c61 a hts) rfl rfl rfl rfl rfl rfl ?_)
  refine gA rfl ?_
  refine And.intro (fun g1 => ?_) (fun g1 => ?_)
  rotate_left
  · have g1 : atomBad a = true := by
      cases h : atomBad a with
      | true => rfl
      | false =>
        have h : (atomW WS.o a).bad = false := h
        have g : (!decide ((if (atomW WS.o a).bad = true then (50 : Int) else 0) = 0)) = true := g1
        rw [h] at g; simp at g
    rw [goalR, if_pos (.inl g1)]
    refine gA rfl (end_le (by first | exact .inr rfl | exact .inl rfl) rfl (.of_eq ?_))
    rfl
  have g1 : ¬ atomBad a = true := by
    intro h
    have h : (atomW WS.o a).bad = true := h
    have g : (!decide ((if (atomW WS.o a).bad = true then (50 : Int) else 0) = 0)) = false := g1
    rw [h] at g; simp at g
  refine gA rfl ?_
  refine And.intro (fun g2 => ?_) (fun g2 => ?_)
  rotate_left
  · have g2 : hasK .str (relsM p) a.rel = false := by
      cases h : hasK .str (relsM p) a.rel with
      | false => rfl
      | true =>
        have g : (!hasK .str (relsM p) a.rel) = true := g2
        rw [h] at g; cases g
    rw [goalR, if_pos (.inr (.inl g2))]
    refine gA rfl (end_le (by first | exact .inr rfl | exact .inl rfl) rfl (.of_eq ?_))
    rfl
  have g2 : ¬ hasK .str (relsM p) a.rel = false := by
    intro h
    have g : (!hasK .str (relsM p) a.rel) = false := g2
    rw [h] at g; cases g
  refine gA rfl ?_
  refine And.intro (fun g3 => ?_) (fun g3 => ?_)
  · have g3 : ¬ (a.terms.length : Int) = ((declOf p a.rel).types.length : Int) := by
      have g : (!decide ((a.terms.length : Int) = ((declOf p a.rel).types.length : Int))) = true := g3
      simpa only [Bool.not_eq_true', decide_eq_false_iff_not] using g
    rw [goalR, if_pos (.inr (.inr g3))]
    refine gA rfl (end_le (by first | exact .inr rfl | exact .inl rfl) rfl (.of_eq ?_))
    rfl
  have g3 : (a.terms.length : Int) = ((declOf p a.rel).types.length : Int) := by
    have g : (!decide ((a.terms.length : Int) = ((declOf p a.rel).types.length : Int))) = false := g3
    simpa only [Bool.not_eq_false', decide_eq_true_eq] using g
  rw [goalR, if_neg (by rintro (h | h | h); exact g1 h; exact g2 h; exact h g3)]
  refine gA rfl ?_
  refine go_for 0 a.terms.length (Nat.zero_le _) (fun i => ⟨[(5, .ptr 3 0), (9, .mp 4), (45, .iv (slc 5 a.terms Term.c)), (46, pI a.terms.length), (47, pI i)], [(3, some (cellsI (declOf p a.rel).c)), (4, some (nmO (goalN p a i)))], 5⟩) (fun i => ∃ m, goalM p a i = some m) [] ⟨_, rfl⟩
    (wk rfl rfl rfl ⟨.refl _, rfl, .refl _, rfl, .refl _, rfl, .refl _, rfl, .refl _, rfl, trivial⟩ ⟨⟨_, rfl, .of_eq rfl⟩, Nat.le_of_ble_eq_true rfl, rfl, hM0 rfl evI_zero rfl trivial⟩ rfl) fun i hi hJ => ?_
  obtain ⟨m, hm⟩ := hJ
  rw [goalN_of hm]
  refine gA rfl ?_
  refine And.intro (fun h1 => ?_) (fun h1 => ?_)
  · have h1 : i < a.terms.length := Int.ofNat_lt.1 (of_decide_eq_true h1)
    have hs : goalM p a (i + 1) = goalStep p a i m := by rw [goalM, hm]; rfl
    refine gA rfl ?_
    refine And.intro (fun k2 => ?_) (fun k2 => ?_)
    · have k2 : (a.terms.getD i default).kind = 2 := of_decide_eq_true k2
      refine gA rfl ?_
      refine And.intro (fun e2 => ?_) (fun e2 => ?_)
      · have e2 : ¬ (a.terms.getD i default).val.kind = goalT p a i := by
          have g : (!decide ((a.terms.getD i default).val.kind = goalT p a i)) = true := e2
          simpa only [Bool.not_eq_true', decide_eq_false_iff_not] using g
        rw [if_neg (goal_out hm h1 (by unfold goalStep; rw [if_pos k2, if_neg e2]))]
        refine gA rfl (end_le (by first | exact .inr rfl | exact .inl rfl) rfl (.of_eq ?_))
        rfl
      · have e2 : (a.terms.getD i default).val.kind = goalT p a i := by
          have g : (!decide ((a.terms.getD i default).val.kind = goalT p a i)) = false := e2
          simpa only [Bool.not_eq_false', decide_eq_true_eq] using g
        have hs2 : goalM p a (i + 1) = some m := by rw [hs]; unfold goalStep; rw [if_pos k2, if_pos e2]
        refine gA rfl ?_
        exact ⟨h1, ⟨m, hs2⟩, [], wk rfl rfl rfl ⟨.refl _, rfl, .refl _, rfl, .refl _, rfl, .refl _, rfl, .refl _, rfl, trivial⟩ ⟨⟨_, rfl, .of_eq rfl⟩, Nat.le_of_ble_eq_true rfl, rfl, hM rfl (goalN_of hs2).symm rfl trivial⟩ rfl⟩
    have k2 : ¬ (a.terms.getD i default).kind = 2 := of_decide_eq_false k2
    refine gA rfl ?_
    refine And.intro (fun k1 => ?_) (fun k1 => ?_)
    · have k1 : (a.terms.getD i default).kind = 1 := of_decide_eq_true k1
      have hst : goalStep p a i m = if hasK .str m (a.terms.getD i default).var = true ∧ ¬ lkD .str m (a.terms.getD i default).var 0 = goalT p a i then none else some (putK .str m (a.terms.getD i default).var (goalT p a i)) := by unfold goalStep; rw [if_neg k2, if_pos k1]
      refine gA rfl ?_
      refine And.intro (fun q1 => ?_) (fun q1 => ?_)
      · have q1 : hasK .str m (a.terms.getD i default).var = true := q1
        refine gA rfl ?_
        refine And.intro (fun q2 => ?_) (fun q2 => ?_)
        · have q2 : ¬ lkD .str m (a.terms.getD i default).var 0 = goalT p a i := by
            have g : (!decide (lkD .str m (a.terms.getD i default).var 0 = goalT p a i)) = true := q2
            simpa only [Bool.not_eq_true', decide_eq_false_iff_not] using g
          rw [if_neg (goal_out hm h1 (by rw [hst, if_pos ⟨q1, q2⟩]))]
          refine gA rfl (end_le (by first | exact .inr rfl | exact .inl rfl) rfl (.of_eq ?_))
          rfl
        · have q2 : lkD .str m (a.terms.getD i default).var 0 = goalT p a i := by
            have g : (!decide (lkD .str m (a.terms.getD i default).var 0 = goalT p a i)) = false := q2
            simpa only [Bool.not_eq_false', decide_eq_true_eq] using g
          have hs2 : goalM p a (i + 1) = some (putK .str m (a.terms.getD i default).var (goalT p a i)) := by rw [hs, hst, if_neg fun h => h.2 q2]
          refine gA rfl ?_
          exact ⟨h1, ⟨_, hs2⟩, [], wk rfl rfl rfl ⟨.refl _, rfl, .refl _, rfl, .refl _, rfl, .refl _, rfl, .refl _, rfl, trivial⟩ ⟨⟨_, rfl, .of_eq rfl⟩, Nat.le_of_ble_eq_true rfl, rfl, hM rfl (goalN_of hs2).symm rfl trivial⟩ rfl⟩
      · have q1 : ¬ hasK .str m (a.terms.getD i default).var = true := by
          intro h
          have g : hasK .str m (a.terms.getD i default).var = !true := q1
          rw [h] at g; cases g
        have hs2 : goalM p a (i + 1) = some (putK .str m (a.terms.getD i default).var (goalT p a i)) := by rw [hs, hst, if_neg fun h => q1 h.1]
        refine gA rfl ?_
        exact ⟨h1, ⟨_, hs2⟩, [], wk rfl rfl rfl ⟨.refl _, rfl, .refl _, rfl, .refl _, rfl, .refl _, rfl, .refl _, rfl, trivial⟩ ⟨⟨_, rfl, .of_eq rfl⟩, Nat.le_of_ble_eq_true rfl, rfl, hM rfl (goalN_of hs2).symm rfl trivial⟩ rfl⟩
    · have k1 : ¬ (a.terms.getD i default).kind = 1 := of_decide_eq_false k1
      have hs2 : goalM p a (i + 1) = some m := by rw [hs]; unfold goalStep; rw [if_neg k2, if_neg k1]
      refine gA rfl ?_
      exact ⟨h1, ⟨m, hs2⟩, [], wk rfl rfl rfl ⟨.refl _, rfl, .refl _, rfl, .refl _, rfl, .refl _, rfl, .refl _, rfl, trivial⟩ ⟨⟨_, rfl, .of_eq rfl⟩, Nat.le_of_ble_eq_true rfl, rfl, hM rfl (goalN_of hs2).symm rfl trivial⟩ rfl⟩
  · have h1 : a.terms.length ≤ i := Nat.le_of_not_lt fun hh => absurd (Int.ofNat_lt.2 hh) (of_decide_eq_false h1)
    have hie : i = a.terms.length := by omega
    subst hie
    have hx : (if (goalM p a a.terms.length).isSome = true then (0 : Int) else 6) = 0 := if_pos (by rw [hm]; rfl)
    rw [hx]
    refine gA rfl (end_le (by first | exact .inr rfl | exact .inl rfl) rfl (.of_eq ?_))
    rfl
end Go.Proofs.YtpnclpbkecjinaaGreatDoorR
/-
  Types: what is told of a rule's outer variables.
-/
namespace Go.Proofs.YtpnclpbkecjinaaGreatDoorR
open Go Go.Al
set_option maxRecDepth 10000
def tyOf (p : Prog) (r : Rule) (s : Str) : Spot := (s, lkD (.si .i64) (typesT p r).kind (rootL (typesT p r).up (s, -1)) 0)
def typesR (p : Prog) (n : Int) : List Spot × Int :=
  if n < 1 ∨ (p.rules.length : Int) < n then ([], 1) else if ¬ (checkD p).1 = 0 then ([], 4)
  else ((toldM (occM (outerOcc (p.rules.getD (n - 1).toNat default)))).map (tyOf p (p.rules.getD (n - 1).toNat default)), 0)
theorem typesT_ok (p : Prog) (r : Rule) : upOK (typesT p r).up := body_ok p r _
end Go.Proofs.YtpnclpbkecjinaaGreatDoorR
/-
  The laws' own example.
-/
namespace Go.Proofs.YtpnclpbkecjinaaGreatDoorR
open Go Go.Al
set_option maxRecDepth 10000
theorem c40 (s : Str) : Pure Tryz.prog 40 [pS s] (ag (Term.mk 1 s ⟨0, 0, ByteArray.empty⟩).c) := by
  refine pure_end tyA_ok Tryz.func40 rfl (by decide) Tryz.ntmps40 rfl (by simp) rfl ?_
  refine gA rfl (end_le (by first | exact .inr rfl | exact .inl rfl) rfl (.of_eq ?_))
  rfl
theorem c44 (n : Int) : Pure Tryz.prog 44 [pI n] (ag (Val.mk 1 n ByteArray.empty).c) := by
  refine pure_end tyA_ok Tryz.func44 rfl (by decide) Tryz.ntmps44 rfl (by simp) rfl ?_
  refine gA rfl (end_le (by first | exact .inr rfl | exact .inl rfl) rfl (.of_eq ?_))
  rfl
theorem row_low {n sz : Nat} {es : List (List PV)} (h : es.all (belowL n) = true) : (AO.row sz es).low n := fun _ e he => List.all_eq_true.1 h e (List.mem_of_getElem? he)
abbrev pE : PV := pS ByteArray.empty
abbrev pN : PV := .iv (.v (.slice none 0 0))
def exR0 : List (List PV) := [[pI 1, pS ⟨#[88]⟩, pI 0, pI 0, pE, pI 0, pN], [pI 2, pE, pI 1, pI 1, pE, pI 0, pN]]
def exR1 : List (List PV) := [[pI 1, pS ⟨#[88]⟩, pI 0, pI 0, pE]]
def exR2 (nm : Str) : List (List PV) := [[pI 1, pS nm, .sl 1 0 1 5, pI 0, pI 0, pE, pI 0, pI 0, pE, pI 0, pN, pI 0, pE, pI 0, pI 0, pE, pI 0, pN, pI 0, pE, pI 0, pE, pI 0, pI 0, pE, pI 0, pN, pN, pI 1, pI 26],
  [pI 3, pE, pN, pI 1, pI 1, pS ⟨#[89]⟩, pI 0, pI 0, pE, pI 0, pN, pI 4, pE, pI 0, pI 0, pE, pI 2, .sl 0 0 2 7, pI 0, pE, pI 0, pE, pI 0, pI 0, pE, pI 0, pN, pN, pI 1, pI 32]]
def exR3 : List (List PV) := [[pI 1, pS ⟨#[89]⟩, pI 0, pI 0, pE]]
def exR4 : List (List PV) := [[pI 1]]
def exR5 : List (List PV) := [[pS ⟨#[112]⟩, .sl 4 0 1 1, pI 1, pI 10]]
def exR6 : List (List PV) := [[pS ⟨#[112]⟩, .sl 3 0 1 5, .sl 2 0 2 30, pI 1, pI 18]]
/-- The example's rows. -/
abbrev exH (nm : Str) : AH := [(0, some (.row 7 exR0)), (1, some (.row 5 exR1)), (2, some (.row 30 (exR2 nm))), (3, some (.row 5 exR3)), (4, some (.row 1 exR4)), (5, some (.row 4 exR5)), (6, some (.row 5 exR6))]
theorem d43 : Det Tryz.prog 43 [] [] (.agg [.sl 5 0 1 4, .sl 6 0 1 5]) (exH ⟨#[112]⟩) 7 := by
  refine det_end tyA_ok Tryz.func43 rfl (by decide) Tryz.ntmps43 rfl (by simp) ?_
  refine gA rfl (go_ddet tyA_ok [] (Pure.det (c44 1)) rfl rfl rfl rfl rfl rfl rfl rfl rfl rfl rfl rfl (by (repeat' (first | exact trivial | exact rfl | exact PVle.refl _ | exact PVle.bk (by assumption) | apply And.intro)) <;> first | omega | (simp only [Int.toNat_natCast]; omega) | (simp; done) | (simp; omega)) rfl (by (repeat' (first | exact trivial | exact rfl | exact PVle.refl _ | exact PVle.bk (by assumption) | apply And.intro)) <;> first | omega | (simp only [Int.toNat_natCast]; omega) | (simp; done) | (simp; omega)) ?_)
  refine gA rfl (go_ddet tyA_ok [] (Pure.det (c40 ⟨#[88]⟩)) rfl rfl rfl rfl rfl rfl rfl rfl rfl rfl rfl rfl (by (repeat' (first | exact trivial | exact rfl | exact PVle.refl _ | exact PVle.bk (by assumption) | apply And.intro)) <;> first | omega | (simp only [Int.toNat_natCast]; omega) | (simp; done) | (simp; omega)) rfl (by (repeat' (first | exact trivial | exact rfl | exact PVle.refl _ | exact PVle.bk (by assumption) | apply And.intro)) <;> first | omega | (simp only [Int.toNat_natCast]; omega) | (simp; done) | (simp; omega)) ?_)
  refine gA rfl (go_pure (c40 ⟨#[89]⟩) rfl rfl rfl rfl rfl rfl ?_)
  refine gA rfl (end_det [2, 4, 5, 6, 8, 9, 10] (by first | exact .inr rfl | exact .inl rfl) rfl (wk rfl rfl rfl ⟨.of_eq rfl, rfl, trivial⟩ ⟨⟨_, rfl, .of_eq rfl⟩, Nat.le_of_ble_eq_true rfl, row_low rfl, ⟨⟨_, rfl, .of_eq rfl⟩, Nat.le_of_ble_eq_true rfl, row_low rfl, ⟨⟨_, rfl, .of_eq rfl⟩, Nat.le_of_ble_eq_true rfl, row_low rfl, ⟨⟨_, rfl, .of_eq rfl⟩, Nat.le_of_ble_eq_true rfl, row_low rfl, ⟨⟨_, rfl, .of_eq rfl⟩, Nat.le_of_ble_eq_true rfl, row_low rfl, ⟨⟨_, rfl, .of_eq rfl⟩, Nat.le_of_ble_eq_true rfl, row_low rfl, ⟨⟨_, rfl, .of_eq rfl⟩, Nat.le_of_ble_eq_true rfl, row_low rfl, trivial⟩⟩⟩⟩⟩⟩⟩ rfl))
end Go.Proofs.YtpnclpbkecjinaaGreatDoorR
/-
  The laws' own example as data.
-/
namespace Go.Proofs.YtpnclpbkecjinaaGreatDoorR
open Go Go.Al
set_option maxRecDepth 10000
def IVles : List IV → List IV → Prop
  | [], [] => True
  | p :: r, q :: s => IVle p q ∧ IVles r s
  | _, _ => False
theorem IVles.length : ∀ {a b : List IV}, IVles a b → a.length = b.length
  | [], [], _ => rfl
  | _ :: _, _ :: _, h => congrArg (· + 1) (IVles.length h.2)
  | [], _ :: _, h => h.elim
  | _ :: _, [], h => h.elim
theorem IVles.get : ∀ {a b : List IV}, IVles a b → ∀ (j : Nat) (q : IV), b[j]? = some q → ∃ p, a[j]? = some p ∧ IVle p q
  | [], [], _, j, q, h => by simp at h
  | p :: r, q0 :: s, hh, j, q, h => by
    cases j with
    | zero => simp at h; subst h; exact ⟨p, rfl, hh.1⟩
    | succ j => simpa using IVles.get hh.2 j q (by simpa using h)
  | [], _ :: _, hh, _, _, _ => hh.elim
  | _ :: _, [], hh, _, _, _ => hh.elim
theorem imm2L {sz n : Nat} {el el' : Nat → List IV} (h : ∀ k, k < n → IVles (el k) (el' k)) : IVle (.imm sz n el) (.imm sz n el') := by
  intro M x hx
  cases hx with
  | imm0 => exact .imm0 _ _ _ _
  | imm _ _ _ b off cap hn hc hl hm hr =>
    refine .imm _ _ _ _ _ _ hn hc (fun k hk => by rw [← (h k hk).length]; exact hl k hk) hm (fun k j q hk hq => ?_)
    obtain ⟨p, hp, hle⟩ := (h k hk).get j q hq
    exact hle _ _ (hr k j p hk hp)
abbrev iE : IV := iS ByteArray.empty
abbrev iN : IV := .v (.slice none 0 0)
def exL0 : List (List IV) := [[iI 1, iS ⟨#[88]⟩, iI 0, iI 0, iE, iI 0, iN], [iI 2, iE, iI 1, iI 1, iE, iI 0, iN]]
def exL1 : List (List IV) := [[iI 1, iS ⟨#[88]⟩, iI 0, iI 0, iE]]
abbrev elOf (l : List (List IV)) : Nat → List IV := fun k => l.getD k []
abbrev imOf (sz n : Nat) (l : List (List IV)) : IV := .imm sz n (fun k => elOf l (0 + k))
def exL2 (nm : Str) : List (List IV) := [[iI 1, iS nm, imOf 5 1 exL1, iI 0, iI 0, iE, iI 0, iI 0, iE, iI 0, iN, iI 0, iE, iI 0, iI 0, iE, iI 0, iN, iI 0, iE, iI 0, iE, iI 0, iI 0, iE, iI 0, iN, iN, iI 1, iI 26],
  [iI 3, iE, iN, iI 1, iI 1, iS ⟨#[89]⟩, iI 0, iI 0, iE, iI 0, iN, iI 4, iE, iI 0, iI 0, iE, iI 2, imOf 7 2 exL0, iI 0, iE, iI 0, iE, iI 0, iI 0, iE, iI 0, iN, iN, iI 1, iI 32]]
def exL3 : List (List IV) := [[iI 1, iS ⟨#[89]⟩, iI 0, iI 0, iE]]
def exL4 : List (List IV) := [[iI 1]]
def exL5 : List (List IV) := [[iS ⟨#[112]⟩, imOf 1 1 exL4, iI 1, iI 10]]
def exL6 (nm : Str) : List (List IV) := [[iS ⟨#[112]⟩, imOf 5 1 exL3, imOf 30 2 (exL2 nm), iI 1, iI 18]]
theorem hel_of {es : List (List PV)} {l : List (List IV)} (h : es = l.map fun x => x.map .iv) : ∀ k e, es[k]? = some e → e = (elOf l k).map .iv := by
  subst h
  intro k e he
  rw [List.getElem?_map, Option.map_eq_some_iff] at he
  obtain ⟨x, hx, rfl⟩ := he
  simp [elOf, hx]
def exV : Val := ⟨0, 0, ByteArray.empty⟩
def exZ : Expr := .mk 0 ByteArray.empty exV 0 []
def exVar (s : Str) : Expr := .mk 1 s exV 0 []
def exPlus : Expr := .mk 4 ByteArray.empty exV 2 [exVar ⟨#[88]⟩, .mk 2 ByteArray.empty ⟨1, 1, ByteArray.empty⟩ 0 []]
def exLit1 (nm : Str) : Lit := .mk 1 ⟨nm, [⟨1, ⟨#[88]⟩, exV⟩]⟩ 0 exZ exZ 0 ByteArray.empty exZ [] ⟨1, 26⟩
def exLit2 : Lit := .mk 3 ⟨ByteArray.empty, []⟩ 1 (exVar ⟨#[89]⟩) exPlus 0 ByteArray.empty exZ [] ⟨1, 32⟩
def exRule (nm : Str) : Rule := ⟨⟨⟨#[112]⟩, [⟨1, ⟨#[89]⟩, exV⟩]⟩, [exLit1 nm, exLit2], ⟨1, 18⟩⟩
def exP (nm : Str) : Prog := ⟨[⟨⟨#[112]⟩, [1], ⟨1, 10⟩⟩], [exRule nm]⟩
theorem ex_args : IVle (imOf 7 2 exL0) (.imm 7 2 (fun j => (Expr.crs exPlus.args).getD j [])) := imm2L fun k hk => by
  match k, hk with
  | 0, _ => exact ⟨.refl _, .refl _, .refl _, .refl _, .refl _, .refl _, .nil _ _, trivial⟩
  | 1, _ => exact ⟨.refl _, .refl _, .refl _, .refl _, .refl _, .refl _, .nil _ _, trivial⟩
theorem ex_lit1 (nm : Str) : IVles (elOf (exL2 nm) (0 + 0)) (exLit1 nm).c := ⟨.refl _, .refl _, imm2L fun k hk => by match k, hk with | 0, _ => exact ⟨.refl _, .refl _, .refl _, .refl _, .refl _, trivial⟩, .refl _, .refl _, .refl _, .refl _, .refl _, .refl _, .refl _, .nil _ _, .refl _, .refl _, .refl _, .refl _, .refl _, .refl _, .nil _ _, .refl _, .refl _, .refl _, .refl _, .refl _, .refl _, .refl _, .refl _, .nil _ _, .nil _ _, .refl _, .refl _, trivial⟩
theorem ex_lit2 (nm : Str) : IVles (elOf (exL2 nm) (0 + 1)) exLit2.c := ⟨.refl _, .refl _, .nil _ _, .refl _, .refl _, .refl _, .refl _, .refl _, .refl _, .refl _, .nil _ _, .refl _, .refl _, .refl _, .refl _, .refl _, .refl _, ex_args, .refl _, .refl _, .refl _, .refl _, .refl _, .refl _, .refl _, .refl _, .nil _ _, .nil _ _, .refl _, .refl _, trivial⟩
theorem ex_body (nm : Str) : IVle (imOf 30 2 (exL2 nm)) (lits (exRule nm).body) := imm2L fun k hk => by
  match k, hk with
  | 0, _ => exact ex_lit1 nm
  | 1, _ => exact ex_lit2 nm
theorem ex_head : IVle (imOf 5 1 exL3) (slc 5 (exRule ⟨#[112]⟩).head.terms Term.c) := imm2L fun k hk => by
  match k, hk with
  | 0, _ => exact ⟨.refl _, .refl _, .refl _, .refl _, .refl _, trivial⟩
theorem ex_rels : IVle (imOf 4 1 exL5) (slc 4 (exP ⟨#[112]⟩).rels Decl.c) := imm2L fun k hk => by
  match k, hk with
  | 0, _ => exact ⟨.refl _, imm2L fun k hk => by match k, hk with | 0, _ => exact ⟨.refl _, trivial⟩, .refl _, .refl _, trivial⟩
theorem ex_rules (nm : Str) : IVle (imOf 5 1 (exL6 nm)) (slc 5 (exP nm).rules Rule.c) := imm2L fun k hk => by
  match k, hk with
  | 0, _ => exact ⟨.refl _, ex_head, ex_body nm, .refl _, .refl _, trivial⟩
def cellRB (i sz n : Nat) : PV → Bool
  | .iv _ => true
  | .sl j off len s => bif Nat.beq j i then Nat.beq s sz && Nat.ble (off + len) n else true
  | _ => false
theorem cellRB_ok {i sz n : Nat} {p : PV} (h : cellRB i sz n p = true) : p.inRow i sz n := by
  cases p with
  | iv => trivial
  | sl j off len s =>
    simp only [cellRB] at h
    show if j = i then s = sz ∧ off + len ≤ n else True
    split
    · rename_i e
      subst e
      simp only [Nat.beq_refl, cond_true, Bool.and_eq_true] at h
      exact ⟨Nat.eq_of_beq_eq_true h.1, Nat.le_of_ble_eq_true h.2⟩
    · trivial
  | _ => cases h
theorem rowRB_ok {i sz n : Nat} : ∀ {l : List PV}, l.all (cellRB i sz n) = true → inRowL i sz n l
  | [], _ => trivial
  | p :: r, h => by
    rw [List.all_cons, Bool.and_eq_true] at h
    exact ⟨cellRB_ok h.1, rowRB_ok h.2⟩
def okRB (i sz n : Nat) : AH → Bool
  | [] => true
  | (_, none) :: r => okRB i sz n r
  | (_, some (.cells cs _)) :: r => cs.all (cellRB i sz n) && okRB i sz n r
  | (_, some (.row _ es)) :: r => (es.all fun e => e.all (cellRB i sz n)) && okRB i sz n r
  | _ :: _ => false
theorem okRB_ok {i sz n : Nat} : ∀ {h : AH}, okRB i sz n h = true → h.okRR i sz n
  | [], _ => trivial
  | (_, none) :: r, h => okRB_ok (h := r) h
  | (_, some (.cells cs _)) :: r, h => by
    simp only [okRB, Bool.and_eq_true] at h
    exact ⟨rowRB_ok h.1, okRB_ok h.2⟩
  | (_, some (.row _ es)) :: r, h => by
    simp only [okRB, Bool.and_eq_true] at h
    exact ⟨fun e he => rowRB_ok (List.all_eq_true.1 h.1 e he), okRB_ok h.2⟩
  | (_, some (.brow _ _)) :: r, h => by simp [okRB] at h
  | (_, some .map0) :: r, h => by simp [okRB] at h
  | (_, some (.map ..)) :: r, h => by simp [okRB] at h
  | (_, some (.miter ..)) :: r, h => by simp [okRB] at h
  | (_, some (.siter ..)) :: r, h => by simp [okRB] at h
theorem relSub {M : Mem} {N : Nm} {U : Nat → Prop} {h h2 : AH} {w : World} (hr : Rel M N U h w) (hs : ∀ i o, h2.get i = some o → h.get i = some o) : Rel M N U h2 w :=
  ⟨hr.frz, fun i o hi => hr.used i o (hs i o hi), fun i o hi => hr.nfrz i o (hs i o hi), fun i o hi => hr.obj i o (hs i o hi), fun i j o p hi hj => hr.inj i j o p (hs i o hi) (hs j p hj)⟩
/-- .. for the program and its rule as values. -/
theorem ex_frz2 (nm : Str) {M : Mem} {N : Nm} {w : World} {n : Nat} {h : AH} (hr0 : Rel M N (· < n) h w) (g0 : h.get 0 = some (.row 7 exR0)) (g1 : h.get 1 = some (.row 5 exR1)) (g2 : h.get 2 = some (.row 30 (exR2 nm))) (g3 : h.get 3 = some (.row 5 exR3)) (g4 : h.get 4 = some (.row 1 exR4)) (g5 : h.get 5 = some (.row 4 exR5)) (g6 : h.get 6 = some (.row 5 exR6)) :
    ∃ M1 : Mem, M.le M1 ∧ Rel M1 N (· < n) [] w ∧ (∀ x, VR M N (· < n) (.agg [.sl 5 0 1 4, .sl 6 0 1 5]) x → VR M1 N (· < n) (ag (exP nm).c) x) ∧
      ∀ x, VR M N (· < n) (.agg [pS ⟨#[112]⟩, .sl 3 0 1 5, .sl 2 0 2 30, pI 1, pI 18]) x → VR M1 N (· < n) (ag (exRule nm).c) x := by
  have hr : Rel M N (· < n) (exH nm) w := relSub hr0 fun i o hi => by
    match i, hi with
    | 0, hi => cases hi; exact g0
    | 1, hi => cases hi; exact g1
    | 2, hi => cases hi; exact g2
    | 3, hi => cases hi; exact g3
    | 4, hi => cases hi; exact g4
    | 5, hi => cases hi; exact g5
    | 6, hi => cases hi; exact g6
    | i + 7, hi => exact nomatch hi
  obtain ⟨M0, l0, r0, v0⟩ := rel_frzRR hr 0 (elOf exL0) rfl (hel_of rfl) (okRB_ok rfl)
  obtain ⟨M1, l1, r1, v1⟩ := rel_frzRR r0 1 (elOf exL1) rfl (hel_of rfl) (okRB_ok rfl)
  obtain ⟨M2, l2, r2, v2⟩ := rel_frzRR r1 2 (elOf (exL2 nm)) rfl (hel_of rfl) (okRB_ok rfl)
  obtain ⟨M3, l3, r3, v3⟩ := rel_frzRR r2 3 (elOf exL3) rfl (hel_of rfl) (okRB_ok rfl)
  obtain ⟨M4, l4, r4, v4⟩ := rel_frzRR r3 4 (elOf exL4) rfl (hel_of rfl) (okRB_ok rfl)
  obtain ⟨M5, l5, r5, v5⟩ := rel_frzRR r4 5 (elOf exL5) rfl (hel_of rfl) (okRB_ok rfl)
  obtain ⟨M6, l6, r6, v6⟩ := rel_frzRR r5 6 (elOf (exL6 nm)) rfl (hel_of rfl) (okRB_ok rfl)
  refine ⟨M6, l0.trans (l1.trans (l2.trans (l3.trans (l4.trans (l5.trans l6))))), ⟨r6.frz, fun i o hi => (nomatch hi), fun i o hi => (nomatch hi), fun i o hi => (nomatch hi), fun i j o p hi => (nomatch hi)⟩, fun x hx => ?_, fun x hx => ?_⟩
  · have h6 : VR M6 N (· < n) (.agg [.iv (imOf 4 1 exL5), .iv (imOf 5 1 (exL6 nm))]) x :=
      v6 _ _ (v5 _ _ (v4 _ _ (v3 _ _ (v2 _ _ (v1 _ _ (v0 _ _ hx (rowRB_ok rfl)) (rowRB_ok rfl)) (rowRB_ok rfl)) (rowRB_ok rfl)) (rowRB_ok rfl)) (rowRB_ok rfl)) (rowRB_ok rfl)
    exact (show PVle (.agg [.iv (imOf 4 1 exL5), .iv (imOf 5 1 (exL6 nm))]) (ag (exP nm).c) from .agg ⟨.iv ex_rels, .iv (ex_rules nm), trivial⟩) _ _ _ _ h6
  · have h6 : VR M6 N (· < n) (.agg [pS ⟨#[112]⟩, .iv (imOf 5 1 exL3), .iv (imOf 30 2 (exL2 nm)), pI 1, pI 18]) x :=
      v6 _ _ (v5 _ _ (v4 _ _ (v3 _ _ (v2 _ _ (v1 _ _ (v0 _ _ hx (rowRB_ok rfl)) (rowRB_ok rfl)) (rowRB_ok rfl)) (rowRB_ok rfl)) (rowRB_ok rfl)) (rowRB_ok rfl)) (rowRB_ok rfl)
    exact (show PVle (.agg [pS ⟨#[112]⟩, .iv (imOf 5 1 exL3), .iv (imOf 30 2 (exL2 nm)), pI 1, pI 18]) (ag (exRule nm).c) from .agg ⟨.refl _, .iv ex_head, .iv (ex_body nm), .refl _, .refl _, trivial⟩) _ _ _ _ h6
end Go.Proofs.YtpnclpbkecjinaaGreatDoorR
/-
  What is told, as rows of the call's own.
-/
namespace Go.Proofs.YtpnclpbkecjinaaGreatDoorR
open Go Go.Al
set_option maxRecDepth 10000
/-- A map that nobody writes any more, between operations. -/
theorem go_frzMo {P : Program} {nt : Nat} {Q : AQ} {k : List KI} {s : AS} {all rest : List Oper} (i : Nat) {kc : KC} {V : Type} {e : V → IV} {z : V} {zv : Value} {dv : PV → V} {m : List (kc.K × V)} (hi : s.h.get i = some (.map kc e z zv dv m))
    (h : GO P nt (.ops all rest :: k) Q ⟨s.f.frzM i (.imap kc e z zv m), (i, none) :: s.h.frzM i (.imap kc e z zv m), s.nx⟩) : GO P nt (.ops all rest :: k) Q s := by
  intro M N a w hf
  obtain ⟨M', h1, h2, h3, h4⟩ := frz_mapH hf.1 hi
  have hf' : Fits M' N ⟨s.f.frzM i (.imap kc e z zv m), (i, none) :: s.h.frzM i (.imap kc e z zv m), s.nx⟩ nt a w := ⟨h2, fun d => by
    rw [AF.frzM_get]; exact h4 _ _ (hf.2.1 d), hf.2.2⟩
  exact wpList_mono (fun e a2 w2 ⟨M2, N2, s2, hx2, hf2, hr2⟩ => ⟨M2, N2, s2, h1.trans hx2, hf2, hr2⟩) _ _ _ (h M' N a w hf')
theorem d51o (hS : SortS) (m : NM) (hm : m.length ≤ 100000000) : Det Tryz.prog 51 [.iv (nmI m)] [] (.sl 0 0 (toldM m).length 1) [(0, some (rowI 1 (toldM m) strC))] 1 := by
  refine det_end tyA_ok Tryz.func51 rfl (by decide) Tryz.ntmps51 rfl (by simp) ?_
  refine gA rfl ?_
  refine go_virt 3 1 rfl ?_
  refine go_rng m (fun vs => ⟨[(3, .sl 2 0 (keysAt m vs).length 1), (6, .ptr 0 0)], [(0, some (.miter .str evI m vs none)), (2, some (rowI 1 (keysAt m vs) strC))], 3⟩) (fun vs => vs.Nodup ∧ ∀ j ∈ vs, j < m.length) [1] ⟨List.nodup_nil, by simp⟩
    (wk rfl rfl rfl ⟨.refl _, rfl, .refl _, rfl, trivial⟩ (hI rfl rfl (.inl rfl) rfl (hR rfl rfl rfl trivial)) rfl) fun vs hJ => ?_
  obtain ⟨hJ1, hJ2⟩ := hJ
  have hvl := nodup_lt hJ1 hJ2
  have hkl := keysAt_len m vs
  refine goR rfl trivial (go_next rfl rfl rfl rfl rfl (by decide) (fun hall => ?_) fun j x hx hj => ?_)
  · refine goR rfl trivial (go_det [2] (c94of hS (keysAt m vs) (by omega)) rfl rfl rfl rfl rfl (congrArg (fun o => [some o]) (rowI_ren _).symm) rfl rfl ?_)
    have hpm : sortB (keysAt m vs) = toldM m := by rw [toldM, sortB_perm (keysAt_all m vs hJ1 hJ2 hall)]
    rw [hpm]
    refine gA rfl (end_det [2] (by first | exact .inr rfl | exact .inl rfl) rfl (wk rfl rfl rfl ⟨.row (by rw [← hpm, sortB_len]), rfl, trivial⟩ (hR rfl (rows_ren _ _) rfl trivial) rfl))
  · have hk := keysAt_cons m vs j x hx
    refine gA rfl ?_
    exact ⟨j, x, hx, hj, ⟨List.nodup_cons.2 ⟨hj, hJ1⟩, fun i hi => (List.mem_cons.1 hi).elim (fun h => h ▸ (List.getElem?_eq_some_iff.1 hx).1) (hJ2 i)⟩, [4], wk rfl rfl rfl ⟨.row (by rw [hk, List.length_append]; rfl), rfl, .refl _, rfl, trivial⟩ (hI rfl rfl (.inr rfl) rfl (hR rfl (by rw [hk, List.map_append]; rfl) rfl trivial)) rfl⟩
theorem d31o (hS : SortS) (r : Rule) (hb : r.size ≤ 10000000) : Det Tryz.prog 31 [ag r.c] [] (.sl 0 0 (toldM (occM (limOcc r))).length 1) [(0, some (rowI 1 (toldM (occM (limOcc r))) strC))] 1 := by
  have h1 := occM_len (limOcc r)
  have h2 := limOcc_len r
  have h3 : Lit.sizes r.body ≤ r.size := Nat.le_add_left _ _
  refine det_end tyA_ok Tryz.func31 rfl (by decide) Tryz.ntmps31 rfl (by simp) ?_
  refine gA rfl (go_pure (c48 r (by omega)) rfl rfl rfl rfl rfl rfl ?_)
  refine gA rfl (go_det [] (d73 r (by omega)) rfl rfl rfl rfl rfl rfl rfl rfl ?_)
  refine go_frzMo 1 rfl ?_
  refine gA rfl (go_det [] (d51o hS (occM (limOcc r)) (by omega)) rfl rfl rfl rfl rfl rfl rfl rfl ?_)
  refine gA rfl (end_det [2] (by first | exact .inr rfl | exact .inl rfl) rfl (wk rfl rfl rfl ⟨.refl _, rfl, trivial⟩ (hR rfl (rows_ren _ _) rfl trivial) rfl))
theorem d33o (hS : SortS) (r : Rule) (hb : r.size ≤ 10000000) : Det Tryz.prog 33 [ag r.c] [] (.sl 0 0 (toldM (occM (plOcc r))).length 1) [(0, some (rowI 1 (toldM (occM (plOcc r))) strC))] 1 := by
  have h1 := occM_len (plOcc r)
  have h2 := plOcc_len r
  have h3 : Lit.sizes r.body ≤ r.size := Nat.le_add_left _ _
  refine det_end tyA_ok Tryz.func33 rfl (by decide) Tryz.ntmps33 rfl (by simp) ?_
  refine gA rfl ?_
  refine gA rfl (go_det [1, 2] (d75B0 r (by omega)) rfl rfl rfl rfl rfl rfl rfl rfl ?_)
  refine go_frzMo 1 rfl ?_
  refine gA rfl (go_det [] (d51o hS (occM (plOcc r)) (by omega)) rfl rfl rfl rfl rfl rfl rfl rfl ?_)
  refine gA rfl (end_det [3] (by first | exact .inr rfl | exact .inl rfl) rfl (wk rfl rfl rfl ⟨.refl _, rfl, trivial⟩ (hR rfl (rows_ren _ _) rfl trivial) rfl))
theorem d13o (hS : SortS) (p : Prog) (n : Int) (hb : p.fit) (h1n : 1 ≤ n) (h2n : n ≤ p.rules.length) (hck : (checkD p).1 = 0) : Det Tryz.prog 13 [ag p.c, pI n] [] (.tup [.sl 0 0 (typesR p n).1.length 2, pI 0]) [(0, some (rowI 2 (typesR p n).1 Spot.c))] 1 := by
  have hb0 := hb
  obtain ⟨hb1, hb2, hb3⟩ := hb
  have hT : typesR p n = ((toldM (occM (outerOcc (p.rules.getD (n - 1).toNat default)))).map (tyOf p (p.rules.getD (n - 1).toNat default)), 0) := by
    unfold typesR
    rw [if_neg (by omega), if_neg (fun h => h hck)]
  rw [hT]
  have hlt : (n - 1).toNat < p.rules.length := by omega
  have hm : p.rules.getD (n - 1).toNat default ∈ p.rules := by rw [List.getD_eq_getElem?_getD, List.getElem?_eq_getElem hlt]; exact List.getElem_mem hlt
  have hf := hb3 _ hm
  obtain ⟨hf1, hf2, hf3⟩ := hf
  refine det_end tyA_ok Tryz.func13 rfl (by decide) Tryz.ntmps13 rfl (by simp) ?_
  refine gA rfl ?_
  refine And.intro (fun g1 => ?_) (fun g1 => ?_)
  rotate_left
  · have g : n < 1 := of_decide_eq_true (show decide (n < 1) = true from g1)
    omega
  refine gA rfl ?_
  refine And.intro (fun g2 => ?_) (fun g2 => ?_)
  · have g := of_decide_eq_true (show decide (n > (p.rules.length : Int)) = true from g2)
    omega
  refine gA rfl (go_pure (c24 p hb0) rfl rfl rfl rfl rfl rfl ?_)
  refine gA rfl ?_
  refine And.intro (fun g3 => ?_) (fun g3 => ?_)
  · have g : (!decide ((checkD p).1 = 0)) = true := g3
    rw [hck] at g; simp at g
  refine gA rfl (go_pure (c48 (p.rules.getD (n - 1).toNat default) (by omega)) rfl rfl rfl rfl rfl rfl ?_)
  refine gA rfl (go_det [] (d50 p (by omega)) rfl rfl rfl rfl rfl rfl rfl rfl ?_)
  refine gA rfl (go_det [1] (ownM_of2 rfl rfl (c49 p (p.rules.getD (n - 1).toNat default) (by omega))) rfl rfl rfl rfl rfl rfl rfl rfl ?_)
  have hol := outerOcc_len (p.rules.getD (n - 1).toNat default)
  have hoc := occM_len (outerOcc (p.rules.getD (n - 1).toNat default))
  generalize p.rules.getD (n - 1).toNat default = r at *
  refine gA rfl (go_pure (c51 hS (occM (outerOcc r)) (by omega)) rfl rfl rfl rfl rfl rfl ?_)
  refine gA rfl ?_
  have htl : (toldM (occM (outerOcc r))).length ≤ 100000000 := by rw [toldM, sortB_len, List.length_map]; omega
  generalize toldM (occM (outerOcc r)) = L at *
  refine go_virt 8 2 rfl ?_
  refine go_for 0 L.length (Nat.zero_le _) (fun i => ⟨[(7, .iv (tyI r (typesT p r))), (8, .sl 3 0 i 2), (39, .iv (strs L)), (40, pI L.length), (41, pI i)], [(3, some (rowI 2 ((L.take i).map (tyOf p r)) Spot.c))], 4⟩) (fun _ => True) [2] trivial
    (wk rfl rfl rfl ⟨.refl _, rfl, .refl _, rfl, .refl _, rfl, .refl _, rfl, .refl _, rfl, trivial⟩ (hR rfl rfl rfl trivial) rfl) fun i hi _ => ?_
  refine gA rfl ?_
  refine And.intro (fun h1 => ?_) (fun h1 => ?_)
  · have h1 : i < L.length := Int.ofNat_lt.1 (of_decide_eq_true h1)
    have hlt : (L.take i).length = i := by rw [List.length_take]; omega
    have hts := take_step (l := L) h1
    refine gA rfl (go_ddet tyA_ok [] (Pure.det (c52 r (typesT p r) (L.getD i default, -1) (typesT_ok p r))) rfl rfl rfl rfl rfl rfl rfl rfl rfl rfl rfl rfl (by (repeat' (first | exact trivial | exact rfl | exact PVle.refl _ | exact PVle.bk (by assumption) | apply And.intro)) <;> first | omega | (simp only [Int.toNat_natCast]; omega) | (simp; done) | (simp; omega)) rfl (by (repeat' (first | exact trivial | exact rfl | exact PVle.refl _ | exact PVle.bk (by assumption) | apply And.intro)) <;> first | omega | (simp only [Int.toNat_natCast]; omega) | (simp; done) | (simp; omega)) ?_)
    refine gA rfl ?_
    exact ⟨h1, trivial, [5], wk rfl rfl rfl ⟨.refl _, rfl, .refl _, rfl, .refl _, rfl, .refl _, rfl, .refl _, rfl, trivial⟩ (hR rfl (by rw [hts, List.map_append, List.map_append]; rfl) rfl trivial) rfl⟩
  · have h1 : L.length ≤ i := Nat.le_of_not_lt fun hh => absurd (Int.ofNat_lt.2 hh) (of_decide_eq_false h1)
    have hie : i = L.length := by omega
    subst hie
    rw [List.take_length]
    refine gA rfl (end_det [3] (by first | exact .inr rfl | exact .inl rfl) rfl (wk rfl rfl rfl ⟨.tup ⟨.row (by simp), .refl _, trivial⟩, rfl, trivial⟩ (hR rfl rfl rfl trivial) rfl))
end Go.Proofs.YtpnclpbkecjinaaGreatDoorR
/-
  The example's values.
-/
namespace Go.Proofs.YtpnclpbkecjinaaGreatDoorR
open Go Go.Al
set_option maxRecDepth 100000
abbrev nP : Str := ⟨#[112]⟩
abbrev nQ : Str := ⟨#[113]⟩
abbrev nX : Str := ⟨#[88]⟩
abbrev nY : Str := ⟨#[89]⟩
theorem sortB_same {l : List Str} (h : (l.map toB).Pairwise fun x y => decide (x ≤ y) = true) : sortB l = l := by
  rw [sortB, sortBytes, List.mergeSort_of_pairwise h, List.map_map]
  have : ofB ∘ toB = id := by funext x; exact ofB_toB x
  rw [this, List.map_id]
theorem sort_XY : sortB [nX, nY] = [nX, nY] := sortB_same (by decide +kernel)
theorem lim_v : toldM (occM (limOcc (exRule nP))) = [nX, nY] := by
  rw [toldM, show occM (limOcc (exRule nP)) = [(nX, 1), (nY, 1)] from by decide +kernel]
  exact sort_XY
theorem pl_v : toldM (occM (plOcc (exRule nP))) = [nX] := by
  rw [toldM, show occM (plOcc (exRule nP)) = [(nX, 1)] from by decide +kernel]
  exact sortB_same (by decide +kernel)
theorem out_v : toldM (occM (outerOcc (exRule nP))) = [nX, nY] := by
  rw [toldM, show (occM (outerOcc (exRule nP))).map (·.1) = [nY, nX] from by decide +kernel, sortB_perm (List.Perm.swap nX nY [])]
  exact sort_XY
theorem ty_v : (typesR (exP nP) 1).1 = [(nX, 1), (nY, 1)] := by
  unfold typesR
  rw [if_neg (by decide), if_neg (by decide +kernel)]
  show (toldM (occM (outerOcc (exRule nP)))).map (tyOf (exP nP) (exRule nP)) = _
  rw [out_v]
  decide +kernel
theorem chk_P : checkD (exP nP) = Diag.z := by decide +kernel
theorem chk_Q : checkD (exP nQ) = (61, ⟨1, 26⟩) := by decide +kernel
def exFact : Fact := ⟨nP, [⟨1, 1, ByteArray.empty⟩]⟩
def exGoal : Atom := ⟨nP, [⟨1, nX, exV⟩]⟩
theorem fact_v : factR (exP nQ) exFact = 0 := by decide +kernel
theorem goal_v : goalR (exP nQ) exGoal = 0 := by decide +kernel
theorem ex_fit (nm : Str) (h : ∀ l ∈ (exRule nm).body, l.ts ≤ 900000000) (h2 : (exRule nm).size ≤ 10000000) (h3 : (exRule nm).head.ts ≤ 900000000) : (exP nm).fit :=
  ⟨by show 1 ≤ _; omega, by show 1 ≤ _; omega, fun r hr => by
    have : r = exRule nm := List.mem_singleton.1 hr
    subst this; exact ⟨h2, h3, h⟩⟩
theorem fit_P : (exP nP).fit := ex_fit nP (by decide +kernel) (by decide +kernel) (by decide +kernel)
theorem fit_Q : (exP nQ).fit := ex_fit nQ (by decide +kernel) (by decide +kernel) (by decide +kernel)
end Go.Proofs.YtpnclpbkecjinaaGreatDoorR
/-
  known().
-/
namespace Go.Proofs.YtpnclpbkecjinaaGreatDoorR
open Go Go.Al
set_option maxRecDepth 10000
abbrev exA : PV := .agg [.sl 5 0 1 4, .sl 6 0 1 5]
abbrev exB : PV := .agg [pS ⟨#[112]⟩, .sl 3 0 1 5, .sl 2 0 2 30, pI 1, pI 18]
abbrev exC : AO := .cells [.sl 5 0 1 4, .sl 6 0 1 5]
theorem fzP (nm : Str) (rest : List PV) (hb : bareL rest = true) {M : Mem} {N : Nm} {w : World} {n : Nat} {h : AH} (hr0 : Rel M N (· < n) h w) (g0 : h.get 0 = some (.row 7 exR0)) (g1 : h.get 1 = some (.row 5 exR1)) (g2 : h.get 2 = some (.row 30 (exR2 nm))) (g3 : h.get 3 = some (.row 5 exR3)) (g4 : h.get 4 = some (.row 1 exR4)) (g5 : h.get 5 = some (.row 4 exR5)) (g6 : h.get 6 = some (.row 5 exR6)) :
    ∃ M1 : Mem, M.le M1 ∧ Rel M1 N (· < n) [] w ∧ ∀ (j : Nat) (p : PV) (x : Value), (ag (exP nm).c :: rest)[j]? = some p → (∀ q, (exA :: rest)[j]? = some q → VR M N (· < n) q x) → VR M1 N (· < n) p x := by
  obtain ⟨M1, h1, h2, h3, h4⟩ := ex_frz2 nm hr0 g0 g1 g2 g3 g4 g5 g6
  refine ⟨M1, h1, h2, fun j p x hj hq => ?_⟩
  cases j with
  | zero => cases hj; exact h3 x (hq _ rfl)
  | succ j => exact bareR_ok (hq p hj) (bareL_mem hb j p hj)
theorem fzB (nm : Str) {M : Mem} {N : Nm} {w : World} {n : Nat} {h : AH} (hr0 : Rel M N (· < n) h w) (g0 : h.get 0 = some (.row 7 exR0)) (g1 : h.get 1 = some (.row 5 exR1)) (g2 : h.get 2 = some (.row 30 (exR2 nm))) (g3 : h.get 3 = some (.row 5 exR3)) (g4 : h.get 4 = some (.row 1 exR4)) (g5 : h.get 5 = some (.row 4 exR5)) (g6 : h.get 6 = some (.row 5 exR6)) :
    ∃ M1 : Mem, M.le M1 ∧ Rel M1 N (· < n) [] w ∧ ∀ (j : Nat) (p : PV) (x : Value), [ag (exRule nm).c][j]? = some p → (∀ q, [exB][j]? = some q → VR M N (· < n) q x) → VR M1 N (· < n) p x := by
  obtain ⟨M1, h1, h2, h3, h4⟩ := ex_frz2 nm hr0 g0 g1 g2 g3 g4 g5 g6
  refine ⟨M1, h1, h2, fun j p x hj hq => ?_⟩
  cases j with
  | zero => cases hj; exact h4 x (hq _ rfl)
  | succ j => exact nomatch hj
theorem c24P : Pure Tryz.prog 24 [ag (exP nP).c] (ag Diag.z.c) := by have := c24 (exP nP) fit_P; rw [chk_P] at this; exact this
theorem c24Q : Pure Tryz.prog 24 [ag (exP nQ).c] (ag (Diag.c (61, ⟨1, 26⟩))) := by have := c24 (exP nQ) fit_Q; rw [chk_Q] at this; exact this
theorem d31P (hS : SortS) : Det Tryz.prog 31 [ag (exRule nP).c] [] (.sl 0 0 2 1) [(0, some (.row 1 [[pS nX], [pS nY]]))] 1 := by
  have := d31o hS (exRule nP) (by decide +kernel)
  rw [lim_v] at this; exact this
theorem d33P (hS : SortS) : Det Tryz.prog 33 [ag (exRule nP).c] [] (.sl 0 0 1 1) [(0, some (.row 1 [[pS nX]]))] 1 := by
  have := d33o hS (exRule nP) (by decide +kernel)
  rw [pl_v] at this; exact this
theorem d13P (hS : SortS) : Det Tryz.prog 13 [ag (exP nP).c, pI 1] [] (.tup [.sl 0 0 2 2, pI 0]) [(0, some (.row 2 [[pS nX, pI 1], [pS nY, pI 1]]))] 1 := by
  have := d13o hS (exP nP) 1 fit_P (by decide) (by decide) (by rw [chk_P]; rfl)
  rw [ty_v] at this; exact this
theorem bare1 {σ : Nat → Nat} {sz : Nat} {es : List (List PV)} (h : (es.map (renL σ)).all bareL = true) : ∀ j o, (renH σ [(0, some (.row sz es))]).get j = some o → bareO o := by
  intro j o hj
  simp only [renH, AO.ren] at hj
  rw [AH.get_cons] at hj
  split at hj
  · cases hj; exact fun e he => List.all_eq_true.1 h e he
  · exact nomatch hj
theorem go_dbcall {nt : Nat} {Q : AQ} {k : List KI} {s : AS} {all : List Oper} {todo pend : List (Nat × Oper)} {j' : Nat} {CA C2 : Prop} {o : Oper} {c : Call} {g : FuncId} {asv args : List PV} {r : PV} {h' : AH} {n' : Nat} {s' : AS} (hc : Det Tryz.prog g args [] r h' n')
    (hrd : readyE todo = [(j', o)]) (ho : o.op = .call c) (ha : argsOf s.f c = some (g, asv)) (hlen : args.length = asv.length) (hlow : belowL 0 args = true)
    (hfz : ∀ M N w, Rel M N (· < s.nx) s.h w → ∃ M1 : Mem, M.le M1 ∧ Rel M1 N (· < s.nx) [] w ∧ ∀ (j : Nat) (p : PV) (x : Value), args[j]? = some p → (∀ q, asv[j]? = some q → VR M N (· < s.nx) q x) → VR M1 N (· < s.nx) p x)
    (hbr : bareR (r.ren (sig [] s.nx)) = true) (hbh : ∀ j o, (renH (sig [] s.nx) h').get j = some o → bareO o) (hp : putDst nt o (r.ren (sig [] s.nx)) (behindCall s [] h' n') = some s')
    (hg : guardIs nt all s.f o = some true) (hpb : pendB all pend o = true) (hE : effE todo [j'] = true)
    (hag : agnC tyA nt all s todo pend = some CA) (hCA : CA) (hag2 : againC tyA nt all s' (restOf pend o) = some C2) (hC2 : C2)
    (h : GO Tryz.prog nt (.dops all (todo.filter fun x => !Nat.beq x.1 j') (restOf pend o) :: k) Q s') : GO Tryz.prog nt (.dops all todo pend :: k) Q s :=
  go_dot tyA_ok hrd hg hpb hE hag hCA (bcall_OT ho ha hc hlen hlow hfz hbr hbh hp) hag2 hC2 h
/-- .. with one row more, of a second argument. -/
theorem fzX (nm : Str) (R sz : Nat) (l : List (List IV)) (p2 : PV) (d2 : List IV) (hin : p2.inRow R sz l.length) (hle : PVle (p2.frz R sz (elOf l)) (ag d2)) {M : Mem} {N : Nm} {w : World} {n : Nat} {h : AH} (hr : Rel M N (· < n) h w) (hR : h.get R = some (.row sz (l.map fun x => x.map .iv))) (hok : okRB R sz l.length h = true) (hA : exA.frz R sz (elOf l) = exA) (hAi : exA.inRow R sz l.length)
    (g0 : AH.get ((R, none) :: h.frzRR R sz (elOf l)) 0 = some (.row 7 exR0)) (g1 : AH.get ((R, none) :: h.frzRR R sz (elOf l)) 1 = some (.row 5 exR1)) (g2 : AH.get ((R, none) :: h.frzRR R sz (elOf l)) 2 = some (.row 30 (exR2 nm))) (g3 : AH.get ((R, none) :: h.frzRR R sz (elOf l)) 3 = some (.row 5 exR3)) (g4 : AH.get ((R, none) :: h.frzRR R sz (elOf l)) 4 = some (.row 1 exR4)) (g5 : AH.get ((R, none) :: h.frzRR R sz (elOf l)) 5 = some (.row 4 exR5)) (g6 : AH.get ((R, none) :: h.frzRR R sz (elOf l)) 6 = some (.row 5 exR6)) :
    ∃ M1 : Mem, M.le M1 ∧ Rel M1 N (· < n) [] w ∧ ∀ (j : Nat) (p : PV) (x : Value), [ag (exP nm).c, ag d2][j]? = some p → (∀ q, [exA, p2][j]? = some q → VR M N (· < n) q x) → VR M1 N (· < n) p x := by
  obtain ⟨Ma, la, ra, va⟩ := rel_frzRR hr R (elOf l) hR (hel_of rfl) (by rw [List.length_map]; exact okRB_ok hok)
  rw [List.length_map] at va
  obtain ⟨M1, h1, h2, h3, h4⟩ := ex_frz2 nm ra g0 g1 g2 g3 g4 g5 g6
  refine ⟨M1, la.trans h1, h2, fun j p x hj hq => ?_⟩
  match j, hj with
  | 0, hj => cases hj; exact h3 x (by have := va _ _ (hq _ rfl) hAi; rw [hA] at this; exact this)
  | 1, hj => cases hj; exact hle _ _ _ _ ((va _ _ (hq _ rfl) hin).mono h1 (.refl _ _) fun _ h => h)
  | j + 2, hj => exact nomatch hj
def exLF : List (List IV) := [[iI 1, iI 1, iE]]
def exLG : List (List IV) := [[iI 1, iS ⟨#[88]⟩, iI 0, iI 0, iE]]
theorem fact_le : PVle (.agg [pS ⟨#[112]⟩, .iv (imOf 3 1 exLF)]) (ag exFact.c) := .agg ⟨.refl _, .iv (imm2L fun k hk => by match k, hk with | 0, _ => exact ⟨.refl _, .refl _, .refl _, trivial⟩), trivial⟩
theorem goal_le : PVle (.agg [pS ⟨#[112]⟩, .iv (imOf 5 1 exLG)]) (ag exGoal.c) := .agg ⟨.refl _, .iv (imm2L fun k hk => by match k, hk with | 0, _ => exact ⟨.refl _, .refl _, .refl _, .refl _, .refl _, trivial⟩), trivial⟩
theorem c16Q : Pure Tryz.prog 16 [ag (exP nQ).c, ag exFact.c] (pI 0) := by have := c16 (exP nQ) exFact (by decide +kernel) (by decide +kernel); rw [fact_v] at this; exact this
theorem c21Q : Pure Tryz.prog 21 [ag (exP nQ).c, ag exGoal.c] (pI 0) := by have := c21 (exP nQ) exGoal (by decide +kernel) (by decide +kernel) (by decide +kernel); rw [goal_v] at this; exact this
set_option maxHeartbeats 4000000 in
theorem c11 (hS : SortS) : Pure Tryz.prog 11 [] (pB true) := by
  refine pure_end tyA_ok Tryz.func11 rfl (by decide) Tryz.ntmps11 rfl (by simp) rfl ?_
  refine gA rfl (go_det [] (d43) rfl rfl rfl rfl rfl rfl rfl rfl ?_)
  refine gM 3 rfl (go_wk [] (t := ⟨[(1, .ptr 7 0)], [(0, some (.row 7 exR0)), (1, some (.row 5 exR1)), (2, some (.row 30 (exR2 nP))), (3, some (.row 5 exR3)), (4, some (.row 1 exR4)), (5, some (.row 4 exR5)), (6, some (.row 5 exR6)), (7, some exC)], 8⟩) (wk rfl rfl rfl ⟨.refl _, rfl, trivial⟩ ⟨⟨_, rfl, .of_eq rfl⟩, Nat.le_of_ble_eq_true rfl, row_low rfl, ⟨⟨_, rfl, .of_eq rfl⟩, Nat.le_of_ble_eq_true rfl, row_low rfl, ⟨⟨_, rfl, .of_eq rfl⟩, Nat.le_of_ble_eq_true rfl, row_low rfl, ⟨⟨_, rfl, .of_eq rfl⟩, Nat.le_of_ble_eq_true rfl, row_low rfl, ⟨⟨_, rfl, .of_eq rfl⟩, Nat.le_of_ble_eq_true rfl, row_low rfl, ⟨⟨_, rfl, .of_eq rfl⟩, Nat.le_of_ble_eq_true rfl, row_low rfl, ⟨⟨_, rfl, .of_eq rfl⟩, Nat.le_of_ble_eq_true rfl, row_low rfl, ⟨⟨_, rfl, .of_eq rfl⟩, Nat.le_of_ble_eq_true rfl, rfl, trivial⟩⟩⟩⟩⟩⟩⟩⟩ rfl) ?_)
  refine gA rfl (go_bcall (asv := [exA]) c24P rfl rfl rfl rfl rfl (fun M N w hr => fzP nP [] rfl hr rfl rfl rfl rfl rfl rfl rfl) rfl (fun j o hj => nomatch hj) rfl ?_)
  refine gM 3 rfl (go_wk [] (t := ⟨[(1, .ptr 7 0), (2, .ptr 8 0)], [(0, some (.row 7 exR0)), (1, some (.row 5 exR1)), (2, some (.row 30 (exR2 nP))), (3, some (.row 5 exR3)), (4, some (.row 1 exR4)), (5, some (.row 4 exR5)), (6, some (.row 5 exR6)), (7, some exC), (8, some (.cells [pI 0, pI 0, pI 0]))], 9⟩) (wk rfl rfl rfl ⟨.refl _, rfl, .refl _, rfl, trivial⟩ ⟨⟨_, rfl, .of_eq rfl⟩, Nat.le_of_ble_eq_true rfl, row_low rfl, ⟨⟨_, rfl, .of_eq rfl⟩, Nat.le_of_ble_eq_true rfl, row_low rfl, ⟨⟨_, rfl, .of_eq rfl⟩, Nat.le_of_ble_eq_true rfl, row_low rfl, ⟨⟨_, rfl, .of_eq rfl⟩, Nat.le_of_ble_eq_true rfl, row_low rfl, ⟨⟨_, rfl, .of_eq rfl⟩, Nat.le_of_ble_eq_true rfl, row_low rfl, ⟨⟨_, rfl, .of_eq rfl⟩, Nat.le_of_ble_eq_true rfl, row_low rfl, ⟨⟨_, rfl, .of_eq rfl⟩, Nat.le_of_ble_eq_true rfl, row_low rfl, ⟨⟨_, rfl, .of_eq rfl⟩, Nat.le_of_ble_eq_true rfl, rfl, ⟨⟨_, rfl, .of_eq rfl⟩, Nat.le_of_ble_eq_true rfl, rfl, trivial⟩⟩⟩⟩⟩⟩⟩⟩⟩ rfl) ?_)
  refine gA rfl (go_bcall (asv := [exB]) (d31P hS) rfl rfl rfl rfl rfl (fun M N w hr => fzB nP hr rfl rfl rfl rfl rfl rfl rfl) rfl (bare1 rfl) rfl ?_)
  refine gM 2 rfl (go_wk [] (t := ⟨[(1, .ptr 7 0), (2, .ptr 8 0), (3, .sl 9 0 2 1)], [(0, some (.row 7 exR0)), (1, some (.row 5 exR1)), (2, some (.row 30 (exR2 nP))), (3, some (.row 5 exR3)), (4, some (.row 1 exR4)), (5, some (.row 4 exR5)), (6, some (.row 5 exR6)), (7, some exC), (8, some (.cells [pI 0, pI 0, pI 0])), (9, some (.row 1 [[pS nX], [pS nY]]))], 10⟩) (wk rfl rfl rfl ⟨.refl _, rfl, .refl _, rfl, .refl _, rfl, trivial⟩ ⟨⟨_, rfl, .of_eq rfl⟩, Nat.le_of_ble_eq_true rfl, row_low rfl, ⟨⟨_, rfl, .of_eq rfl⟩, Nat.le_of_ble_eq_true rfl, row_low rfl, ⟨⟨_, rfl, .of_eq rfl⟩, Nat.le_of_ble_eq_true rfl, row_low rfl, ⟨⟨_, rfl, .of_eq rfl⟩, Nat.le_of_ble_eq_true rfl, row_low rfl, ⟨⟨_, rfl, .of_eq rfl⟩, Nat.le_of_ble_eq_true rfl, row_low rfl, ⟨⟨_, rfl, .of_eq rfl⟩, Nat.le_of_ble_eq_true rfl, row_low rfl, ⟨⟨_, rfl, .of_eq rfl⟩, Nat.le_of_ble_eq_true rfl, row_low rfl, ⟨⟨_, rfl, .of_eq rfl⟩, Nat.le_of_ble_eq_true rfl, rfl, ⟨⟨_, rfl, .of_eq rfl⟩, Nat.le_of_ble_eq_true rfl, rfl, ⟨⟨_, rfl, .of_eq rfl⟩, Nat.le_of_ble_eq_true rfl, row_low rfl, trivial⟩⟩⟩⟩⟩⟩⟩⟩⟩⟩ rfl) ?_)
  refine gA rfl (go_bcall (asv := [exB]) (d33P hS) rfl rfl rfl rfl rfl (fun M N w hr => fzB nP hr rfl rfl rfl rfl rfl rfl rfl) rfl (bare1 rfl) rfl ?_)
  refine gM 2 rfl (go_wk [] (t := ⟨[(1, .ptr 7 0), (2, .ptr 8 0), (3, .sl 9 0 2 1), (4, .sl 10 0 1 1)], [(0, some (.row 7 exR0)), (1, some (.row 5 exR1)), (2, some (.row 30 (exR2 nP))), (3, some (.row 5 exR3)), (4, some (.row 1 exR4)), (5, some (.row 4 exR5)), (6, some (.row 5 exR6)), (7, some exC), (8, some (.cells [pI 0, pI 0, pI 0])), (9, some (.row 1 [[pS nX], [pS nY]])), (10, some (.row 1 [[pS nX]]))], 11⟩) (wk rfl rfl rfl ⟨.refl _, rfl, .refl _, rfl, .refl _, rfl, .refl _, rfl, trivial⟩ ⟨⟨_, rfl, .of_eq rfl⟩, Nat.le_of_ble_eq_true rfl, row_low rfl, ⟨⟨_, rfl, .of_eq rfl⟩, Nat.le_of_ble_eq_true rfl, row_low rfl, ⟨⟨_, rfl, .of_eq rfl⟩, Nat.le_of_ble_eq_true rfl, row_low rfl, ⟨⟨_, rfl, .of_eq rfl⟩, Nat.le_of_ble_eq_true rfl, row_low rfl, ⟨⟨_, rfl, .of_eq rfl⟩, Nat.le_of_ble_eq_true rfl, row_low rfl, ⟨⟨_, rfl, .of_eq rfl⟩, Nat.le_of_ble_eq_true rfl, row_low rfl, ⟨⟨_, rfl, .of_eq rfl⟩, Nat.le_of_ble_eq_true rfl, row_low rfl, ⟨⟨_, rfl, .of_eq rfl⟩, Nat.le_of_ble_eq_true rfl, rfl, ⟨⟨_, rfl, .of_eq rfl⟩, Nat.le_of_ble_eq_true rfl, rfl, ⟨⟨_, rfl, .of_eq rfl⟩, Nat.le_of_ble_eq_true rfl, row_low rfl, ⟨⟨_, rfl, .of_eq rfl⟩, Nat.le_of_ble_eq_true rfl, row_low rfl, trivial⟩⟩⟩⟩⟩⟩⟩⟩⟩⟩⟩ rfl) ?_)
  refine gA rfl (go_bcall (asv := [exA, pI 1]) (d13P hS) rfl rfl rfl rfl rfl (fun M N w hr => fzP nP [pI 1] rfl hr rfl rfl rfl rfl rfl rfl rfl) rfl (bare1 rfl) rfl ?_)
  refine gM 6 rfl (go_wk [] (t := ⟨[(1, .ptr 7 0), (2, .ptr 8 0), (3, .sl 9 0 2 1), (4, .sl 10 0 1 1), (5, .sl 11 0 2 2), (6, pI 0)], [(0, some (.row 7 exR0)), (1, some (.row 5 exR1)), (2, some (.row 30 (exR2 nP))), (3, some (.row 5 exR3)), (4, some (.row 1 exR4)), (5, some (.row 4 exR5)), (6, some (.row 5 exR6)), (7, some exC), (8, some (.cells [pI 0, pI 0, pI 0])), (9, some (.row 1 [[pS nX], [pS nY]])), (10, some (.row 1 [[pS nX]])), (11, some (.row 2 [[pS nX, pI 1], [pS nY, pI 1]]))], 12⟩) (wk rfl rfl rfl ⟨.refl _, rfl, .refl _, rfl, .refl _, rfl, .refl _, rfl, .refl _, rfl, .refl _, rfl, trivial⟩ ⟨⟨_, rfl, .of_eq rfl⟩, Nat.le_of_ble_eq_true rfl, row_low rfl, ⟨⟨_, rfl, .of_eq rfl⟩, Nat.le_of_ble_eq_true rfl, row_low rfl, ⟨⟨_, rfl, .of_eq rfl⟩, Nat.le_of_ble_eq_true rfl, row_low rfl, ⟨⟨_, rfl, .of_eq rfl⟩, Nat.le_of_ble_eq_true rfl, row_low rfl, ⟨⟨_, rfl, .of_eq rfl⟩, Nat.le_of_ble_eq_true rfl, row_low rfl, ⟨⟨_, rfl, .of_eq rfl⟩, Nat.le_of_ble_eq_true rfl, row_low rfl, ⟨⟨_, rfl, .of_eq rfl⟩, Nat.le_of_ble_eq_true rfl, row_low rfl, ⟨⟨_, rfl, .of_eq rfl⟩, Nat.le_of_ble_eq_true rfl, rfl, ⟨⟨_, rfl, .of_eq rfl⟩, Nat.le_of_ble_eq_true rfl, rfl, ⟨⟨_, rfl, .of_eq rfl⟩, Nat.le_of_ble_eq_true rfl, row_low rfl, ⟨⟨_, rfl, .of_eq rfl⟩, Nat.le_of_ble_eq_true rfl, row_low rfl, ⟨⟨_, rfl, .of_eq rfl⟩, Nat.le_of_ble_eq_true rfl, row_low rfl, trivial⟩⟩⟩⟩⟩⟩⟩⟩⟩⟩⟩⟩ rfl) ?_)
  iterate 10
    refine gA rfl (And.intro (fun q => ?_) (fun q => ?_))
    all_goals (try exact absurd q (by decide +kernel))
  refine gM 1 rfl (go_wk [] (t := ⟨[(1, .ptr 7 0)], [(0, some (.row 7 exR0)), (1, some (.row 5 exR1)), (2, some (.row 30 (exR2 nP))), (3, some (.row 5 exR3)), (4, some (.row 1 exR4)), (5, some (.row 4 exR5)), (6, some (.row 5 exR6)), (7, some exC)], 12⟩) (wk rfl rfl rfl ⟨.refl _, rfl, trivial⟩ ⟨⟨_, rfl, .of_eq rfl⟩, Nat.le_of_ble_eq_true rfl, row_low rfl, ⟨⟨_, rfl, .of_eq rfl⟩, Nat.le_of_ble_eq_true rfl, row_low rfl, ⟨⟨_, rfl, .of_eq rfl⟩, Nat.le_of_ble_eq_true rfl, row_low rfl, ⟨⟨_, rfl, .of_eq rfl⟩, Nat.le_of_ble_eq_true rfl, row_low rfl, ⟨⟨_, rfl, .of_eq rfl⟩, Nat.le_of_ble_eq_true rfl, row_low rfl, ⟨⟨_, rfl, .of_eq rfl⟩, Nat.le_of_ble_eq_true rfl, row_low rfl, ⟨⟨_, rfl, .of_eq rfl⟩, Nat.le_of_ble_eq_true rfl, row_low rfl, ⟨⟨_, rfl, .of_eq rfl⟩, Nat.le_of_ble_eq_true rfl, rfl, trivial⟩⟩⟩⟩⟩⟩⟩⟩ rfl) ?_)
  refine gA rfl (go_storeRow tyA_ok rfl rfl rfl rfl rfl (i := 2) (sz := 30) (q := 0) (off := 1) (es := exR2 nP) rfl rfl rfl rfl rfl rfl rfl rfl ?_)
  refine gM 1 rfl (go_wk [] (t := ⟨[(1, .ptr 7 0)], [(0, some (.row 7 exR0)), (1, some (.row 5 exR1)), (2, some (.row 30 (exR2 nQ))), (3, some (.row 5 exR3)), (4, some (.row 1 exR4)), (5, some (.row 4 exR5)), (6, some (.row 5 exR6)), (7, some exC)], 12⟩) (wk rfl rfl rfl ⟨.refl _, rfl, trivial⟩ ⟨⟨_, rfl, .of_eq rfl⟩, Nat.le_of_ble_eq_true rfl, row_low rfl, ⟨⟨_, rfl, .of_eq rfl⟩, Nat.le_of_ble_eq_true rfl, row_low rfl, ⟨⟨_, rfl, .of_eq rfl⟩, Nat.le_of_ble_eq_true rfl, row_low rfl, ⟨⟨_, rfl, .of_eq rfl⟩, Nat.le_of_ble_eq_true rfl, row_low rfl, ⟨⟨_, rfl, .of_eq rfl⟩, Nat.le_of_ble_eq_true rfl, row_low rfl, ⟨⟨_, rfl, .of_eq rfl⟩, Nat.le_of_ble_eq_true rfl, row_low rfl, ⟨⟨_, rfl, .of_eq rfl⟩, Nat.le_of_ble_eq_true rfl, row_low rfl, ⟨⟨_, rfl, .of_eq rfl⟩, Nat.le_of_ble_eq_true rfl, rfl, trivial⟩⟩⟩⟩⟩⟩⟩⟩ rfl) ?_)
  refine gA rfl (go_bcall (asv := [exA]) c24Q rfl rfl rfl rfl rfl (fun M N w hr => fzP nQ [] rfl hr rfl rfl rfl rfl rfl rfl rfl) rfl (fun j o hj => nomatch hj) rfl ?_)
  refine gM 3 rfl (go_wk [] (t := ⟨[(1, .ptr 7 0), (7, .ptr 12 0)], [(0, some (.row 7 exR0)), (1, some (.row 5 exR1)), (2, some (.row 30 (exR2 nQ))), (3, some (.row 5 exR3)), (4, some (.row 1 exR4)), (5, some (.row 4 exR5)), (6, some (.row 5 exR6)), (7, some exC), (12, some (.cells [pI 61, pI 1, pI 26]))], 13⟩) (wk rfl rfl rfl ⟨.refl _, rfl, .refl _, rfl, trivial⟩ ⟨⟨_, rfl, .of_eq rfl⟩, Nat.le_of_ble_eq_true rfl, row_low rfl, ⟨⟨_, rfl, .of_eq rfl⟩, Nat.le_of_ble_eq_true rfl, row_low rfl, ⟨⟨_, rfl, .of_eq rfl⟩, Nat.le_of_ble_eq_true rfl, row_low rfl, ⟨⟨_, rfl, .of_eq rfl⟩, Nat.le_of_ble_eq_true rfl, row_low rfl, ⟨⟨_, rfl, .of_eq rfl⟩, Nat.le_of_ble_eq_true rfl, row_low rfl, ⟨⟨_, rfl, .of_eq rfl⟩, Nat.le_of_ble_eq_true rfl, row_low rfl, ⟨⟨_, rfl, .of_eq rfl⟩, Nat.le_of_ble_eq_true rfl, row_low rfl, ⟨⟨_, rfl, .of_eq rfl⟩, Nat.le_of_ble_eq_true rfl, rfl, ⟨⟨_, rfl, .of_eq rfl⟩, Nat.le_of_ble_eq_true rfl, rfl, trivial⟩⟩⟩⟩⟩⟩⟩⟩⟩ rfl) ?_)
  refine gA rfl (go_ddet tyA_ok [] (Pure.det (c44 1)) rfl rfl rfl rfl rfl rfl rfl rfl rfl rfl rfl rfl (by (repeat' (first | exact trivial | exact rfl | exact PVle.refl _ | exact PVle.bk (by assumption) | apply And.intro)) <;> first | omega | (simp only [Int.toNat_natCast]; omega) | (simp; done) | (simp; omega)) rfl (by (repeat' (first | exact trivial | exact rfl | exact PVle.refl _ | exact PVle.bk (by assumption) | apply And.intro)) <;> first | omega | (simp only [Int.toNat_natCast]; omega) | (simp; done) | (simp; omega)) ?_)
  refine gA rfl (go_dbcall (asv := [exA, (.agg [pS ⟨#[112]⟩, .sl 13 0 1 3])]) c16Q rfl rfl rfl rfl rfl (fun M N w hr => fzX nQ 13 3 exLF (.agg [pS ⟨#[112]⟩, .sl 13 0 1 3]) exFact.c (rowRB_ok rfl) fact_le hr rfl rfl rfl (rowRB_ok rfl) rfl rfl rfl rfl rfl rfl rfl) rfl (fun j o hj => nomatch hj) rfl rfl rfl rfl rfl (by (repeat' (first | exact trivial | exact rfl | exact PVle.refl _ | exact PVle.bk (by assumption) | apply And.intro)) <;> first | omega | (simp only [Int.toNat_natCast]; omega) | (simp; done) | (simp; omega)) rfl (by (repeat' (first | exact trivial | exact rfl | exact PVle.refl _ | exact PVle.bk (by assumption) | apply And.intro)) <;> first | omega | (simp only [Int.toNat_natCast]; omega) | (simp; done) | (simp; omega)) ?_)
  refine gM 2 rfl (go_wk [] (t := ⟨[(1, .ptr 7 0), (7, .ptr 12 0), (8, pI 0)], [(0, some (.row 7 exR0)), (1, some (.row 5 exR1)), (2, some (.row 30 (exR2 nQ))), (3, some (.row 5 exR3)), (4, some (.row 1 exR4)), (5, some (.row 4 exR5)), (6, some (.row 5 exR6)), (7, some exC), (12, some (.cells [pI 61, pI 1, pI 26]))], 14⟩) (wk rfl rfl rfl ⟨.refl _, rfl, .refl _, rfl, .refl _, rfl, trivial⟩ ⟨⟨_, rfl, .of_eq rfl⟩, Nat.le_of_ble_eq_true rfl, row_low rfl, ⟨⟨_, rfl, .of_eq rfl⟩, Nat.le_of_ble_eq_true rfl, row_low rfl, ⟨⟨_, rfl, .of_eq rfl⟩, Nat.le_of_ble_eq_true rfl, row_low rfl, ⟨⟨_, rfl, .of_eq rfl⟩, Nat.le_of_ble_eq_true rfl, row_low rfl, ⟨⟨_, rfl, .of_eq rfl⟩, Nat.le_of_ble_eq_true rfl, row_low rfl, ⟨⟨_, rfl, .of_eq rfl⟩, Nat.le_of_ble_eq_true rfl, row_low rfl, ⟨⟨_, rfl, .of_eq rfl⟩, Nat.le_of_ble_eq_true rfl, row_low rfl, ⟨⟨_, rfl, .of_eq rfl⟩, Nat.le_of_ble_eq_true rfl, rfl, ⟨⟨_, rfl, .of_eq rfl⟩, Nat.le_of_ble_eq_true rfl, rfl, trivial⟩⟩⟩⟩⟩⟩⟩⟩⟩ rfl) ?_)
  refine gA rfl (go_ddet tyA_ok [] (Pure.det (c40 nX)) rfl rfl rfl rfl rfl rfl rfl rfl rfl rfl rfl rfl (by (repeat' (first | exact trivial | exact rfl | exact PVle.refl _ | exact PVle.bk (by assumption) | apply And.intro)) <;> first | omega | (simp only [Int.toNat_natCast]; omega) | (simp; done) | (simp; omega)) rfl (by (repeat' (first | exact trivial | exact rfl | exact PVle.refl _ | exact PVle.bk (by assumption) | apply And.intro)) <;> first | omega | (simp only [Int.toNat_natCast]; omega) | (simp; done) | (simp; omega)) ?_)
  refine gA rfl (go_dbcall (asv := [exA, (.agg [pS ⟨#[112]⟩, .sl 14 0 1 5])]) c21Q rfl rfl rfl rfl rfl (fun M N w hr => fzX nQ 14 5 exLG (.agg [pS ⟨#[112]⟩, .sl 14 0 1 5]) exGoal.c (rowRB_ok rfl) goal_le hr rfl rfl rfl (rowRB_ok rfl) rfl rfl rfl rfl rfl rfl rfl) rfl (fun j o hj => nomatch hj) rfl rfl rfl rfl rfl (by (repeat' (first | exact trivial | exact rfl | exact PVle.refl _ | exact PVle.bk (by assumption) | apply And.intro)) <;> first | omega | (simp only [Int.toNat_natCast]; omega) | (simp; done) | (simp; omega)) rfl (by (repeat' (first | exact trivial | exact rfl | exact PVle.refl _ | exact PVle.bk (by assumption) | apply And.intro)) <;> first | omega | (simp only [Int.toNat_natCast]; omega) | (simp; done) | (simp; omega)) ?_)
  iterate 4
    refine gA rfl (And.intro (fun q => ?_) (fun q => ?_))
    all_goals (try exact absurd q (by decide +kernel))
  refine gA rfl (end_le (by first | exact .inr rfl | exact .inl rfl) rfl (.of_eq ?_))
  rfl
end Go.Proofs.YtpnclpbkecjinaaGreatDoorR
/-
  SoundVars, but for what is told of the example.
-/
namespace Go.Proofs.YtpnclpbkecjinaaGreatDoorR
open Go Go.Al
set_option maxRecDepth 10000
/-! The four lists, as the document has them. -/
theorem c28s (a : List Str) : Pure Tryz.prog 28 [.iv (strs a), .iv (strs a)] (pB true) := by
  have := c28 a a
  rwa [sameS, decide_eq_true rfl] at this
end Go.Proofs.YtpnclpbkecjinaaGreatDoorR
/-
  SoundVars, whole.
-/
namespace Go.Proofs.YtpnclpbkecjinaaGreatDoorR
open Go Go.Al
theorem known_ok : Pure Tryz.prog 11 [] (pB true) := c11 sortS
end Go.Proofs.YtpnclpbkecjinaaGreatDoorR
/-
  What the form reads of the law's arguments is the walks' data, and not great.
-/
namespace Go.Proofs.YtpnclpbkecjinaaGreatDoorR
open Go Go.Al
set_option maxRecDepth 10000
/-! How many cells. -/
theorem cells3 : Tryz.prog.cellsOf 3 = 1 := by kernel_rfl
theorem cells9 : Tryz.prog.cellsOf 9 = 1 := by kernel_rfl
theorem cells69 : Tryz.prog.cellsOf 69 = 3 := by kernel_rfl
theorem cells79 : Tryz.prog.cellsOf 79 = 5 := by kernel_rfl
theorem cells45 : Tryz.prog.cellsOf 45 = 1 := by kernel_rfl
theorem cells47 : Tryz.prog.cellsOf 47 = 2 := by kernel_rfl
theorem cells70 : Tryz.prog.cellsOf 70 = 1 := by kernel_rfl
theorem cells72 : Tryz.prog.cellsOf 72 = 7 := by kernel_rfl
theorem cells74 : Tryz.prog.cellsOf 74 = 10 := by kernel_rfl
theorem cells59 : Tryz.prog.cellsOf 59 = 1 := by kernel_rfl
theorem cells76 : Tryz.prog.cellsOf 76 = 30 := by kernel_rfl
theorem cells53 : Tryz.prog.cellsOf 53 = 2 := by kernel_rfl
theorem cells61 : Tryz.prog.cellsOf 61 = 5 := by kernel_rfl
section
variable {H : Type}
/-- How much it is. -/
abbrev bk (d : DataW H) : Nat := Rows.uptoBulk d
theorem bk_pos (d : DataW H) : 1 ≤ bk d := by
  cases d with
  | lit l => cases l <;> simp [bk, Rows.uptoBulk]
  | nil => simp [bk, Rows.uptoBulk]
  | ptr d => simp [bk, Rows.uptoBulk]
  | slice elems spare => simp [bk, Rows.uptoBulk]
  | agg parts => simp [bk, Rows.uptoBulk]
  | iface t d => simp [bk, Rows.uptoBulk]
  | map entries => simp [bk, Rows.uptoBulk]
  | held h => simp [bk, Rows.uptoBulk]
theorem bk_str (s : ByteArray) : bk (DataW.lit (H := H) (.string s.data.toList)) = s.size + 1 := by
  simp [bk, Rows.uptoBulk]
theorem _root_.Go.Al.QL.sum {α : Type} {Q : α → DataW H → Prop} {l : List α} {d : DataW H} (h : QL Q l d) {f : α → Nat} {c : Nat} (hf : ∀ x e, Q x e → f x ≤ c * bk e) : (l.map f).sum ≤ c * bk d := by
  obtain ⟨el, hd, hlen, hq⟩ := h
  have key : ∀ (l : List α) (el : List (DataW H)), l.length = el.length → (∀ (i : Nat) (x : α) (e : DataW H), l[i]? = some x → el[i]? = some e → Q x e) → (l.map f).sum ≤ c * Rows.uptoBulkAll el := by
    intro l
    induction l with
    | nil => intro el _ _; simp
    | cons x r ih =>
      intro el hl hq
      cases el with
      | nil => simp at hl
      | cons e el =>
        have h1 := hf x e (hq 0 x e rfl rfl)
        have h2 := ih el (by simpa using hl) fun i x e hx he => hq (i + 1) x e (by simpa using hx) (by simpa using he)
        simp only [List.map_cons, List.sum_cons, Rows.uptoBulkAll, Nat.mul_add]
        simp only [bk] at h1
        omega
  have h1 := key l el hlen hq
  rcases hd with ⟨rfl, rfl⟩ | ⟨sp, rfl⟩
  · simp [Rows.uptoBulkAll] at h1; omega
  · refine Nat.le_trans h1 (Nat.mul_le_mul_left c ?_)
    simp only [bk, Rows.uptoBulk]; omega
theorem sum_ones {α : Type} : ∀ l : List α, (l.map fun _ => 1).sum = l.length
  | [] => rfl
  | x :: r => by simp only [List.map_cons, List.sum_cons, List.length_cons, sum_ones r]; omega
theorem _root_.Go.Al.QL.len {α : Type} {Q : α → DataW H → Prop} {l : List α} {d : DataW H} (h : QL Q l d) : l.length ≤ bk d := by
  have := h.sum (f := fun _ => 1) (c := 1) fun x e _ => by have := bk_pos e; omega
  have e := sum_ones l
  omega
theorem _root_.Go.Al.QL.all {α : Type} {Q : α → DataW H → Prop} {l : List α} {d : DataW H} (h : QL Q l d) : ∀ x ∈ l, ∃ e, Q x e ∧ bk e ≤ bk d := by
  intro x hx
  obtain ⟨el, hd, hlen, hq⟩ := h
  obtain ⟨i, hi, rfl⟩ := List.mem_iff_getElem.1 hx
  have hie : i < el.length := by omega
  refine ⟨el[i], hq i _ _ (List.getElem?_eq_getElem hi) (List.getElem?_eq_getElem hie), ?_⟩
  have key : ∀ (el : List (DataW H)), ∀ e ∈ el, bk e ≤ Rows.uptoBulkAll el := by
    intro el
    induction el with
    | nil => intro e he; cases he
    | cons y r ih =>
      intro e he
      simp only [Rows.uptoBulkAll]
      rcases List.mem_cons.1 he with rfl | he
      · simp only [bk]; omega
      · have := ih e he; omega
  have h1 := key el el[i] (List.getElem_mem hie)
  rcases hd with ⟨rfl, rfl⟩ | ⟨sp, rfl⟩
  · simp at hie
  · refine Nat.le_trans h1 ?_
    simp only [bk, Rows.uptoBulk]; omega
end
theorem Expr.sizes_sum : ∀ l : List Expr, Expr.sizes l = (l.map Expr.size).sum
  | [] => rfl
  | e :: r => by simp only [Expr.sizes, List.map_cons, List.sum_cons, Expr.sizes_sum r]
theorem Expr.tss_sum : ∀ l : List Expr, Expr.tss l = (l.map Expr.ts).sum
  | [] => rfl
  | e :: r => by simp only [Expr.tss, List.map_cons, List.sum_cons, Expr.tss_sum r]
theorem Lit.sizes_sum : ∀ l : List Lit, Lit.sizes l = (l.map Lit.size).sum
  | [] => rfl
  | e :: r => by simp only [Lit.sizes, List.map_cons, List.sum_cons, Lit.sizes_sum r]
theorem Lit.tss_sum : ∀ l : List Lit, Lit.tss l = (l.map Lit.ts).sum
  | [] => rfl
  | e :: r => by simp only [Lit.tss, List.map_cons, List.sum_cons, Lit.tss_sum r]
section
variable {H : Type} {enc : TypeId × Value → H} {W : World} {hT : TabOK W} {sp : Nat → Bool} {held : Bool}
def QV (v : Val) (d : DataW H) : Prop := v.sym.size ≤ bk d
def QT (t : Term) (d : DataW H) : Prop := t.ts ≤ 400 * bk d
def QA (a : Atom) (d : DataW H) : Prop := a.ts ≤ 400 * bk d ∧ a.terms.length ≤ bk d
def QE (e : Expr) (d : DataW H) : Prop := e.ts ≤ 400 * bk d ∧ e.size ≤ bk d
def QP (_ : Pos) (_ : DataW H) : Prop := True
def Pos.c (p : Pos) : List IV := [iI p.line, iI p.col]
def QG (g : Agg) (d : DataW H) : Prop := g.var.size + g.of_.ts + Lit.tss g.body ≤ 400 * bk d ∧ g.of_.size + Lit.sizes g.body ≤ bk d
def QB (l : Lit) (d : DataW H) : Prop := l.ts ≤ 400 * bk d ∧ l.size ≤ bk d
theorem rd_val (n : Nat) : Rd enc Tryz.prog W hT sp held 69 Val.c QV n := by
  intro m _ cs y h
  obtain ⟨xs, k, rfl, rfl, hl, hx, hf⟩ := DataW.trod_struct Tryz.underlying69 h
  match xs, hx with
  | [x0, x1, x2], _ =>
    obtain ⟨a, ca, qa, _⟩ := rd_int (hT := hT) Tryz.underlying3 k k (Nat.le_refl _) _ _ (fld hf 0 rfl rfl rfl cells3 rfl)
    obtain ⟨b, cb, qb, _⟩ := rd_int (hT := hT) Tryz.underlying3 k k (Nat.le_refl _) _ _ (fld hf 1 rfl rfl rfl cells3 rfl)
    obtain ⟨c, cc, qc, _⟩ := rd_string (hT := hT) Tryz.underlying9 k k (Nat.le_refl _) _ _ (fld hf 2 rfl rfl rfl cells9 rfl)
    refine ⟨⟨a, b, c⟩, ca.tile (o' := 1) rfl (cb.tile (o' := 2) rfl (cc.tile (o' := 3) rfl (.end_ (hl.trans cells69)))), ?_⟩
    simp only [QV, bk, List.map_cons, List.map_nil, Rows.uptoBulk, Rows.uptoBulkAll]
    have := bk_str (H := H) c
    rw [← qc] at this
    simp only [bk] at this
    omega
theorem rd_pos (n : Nat) : Rd enc Tryz.prog W hT sp held 53 Pos.c QP n := by
  intro m _ cs y h
  obtain ⟨xs, k, rfl, rfl, hl, hx, hf⟩ := DataW.trod_struct Tryz.underlying53 h
  match xs, hx with
  | [x0, x1], _ =>
    obtain ⟨a, ca, qa, _⟩ := rd_int (hT := hT) Tryz.underlying3 k k (Nat.le_refl _) _ _ (fld hf 0 rfl rfl rfl cells3 rfl)
    obtain ⟨b, cb, qb, _⟩ := rd_int (hT := hT) Tryz.underlying3 k k (Nat.le_refl _) _ _ (fld hf 1 rfl rfl rfl cells3 rfl)
    exact ⟨⟨a, b⟩, ca.tile (o' := 1) rfl (cb.tile (o' := 2) rfl (.end_ (hl.trans cells53))), trivial⟩
theorem rd_term (n : Nat) : Rd enc Tryz.prog W hT sp held 79 Term.c QT n := by
  intro m _ cs y h
  obtain ⟨xs, k, rfl, rfl, hl, hx, hf⟩ := DataW.trod_struct Tryz.underlying79 h
  match xs, hx with
  | [x0, x1, x2], _ =>
    obtain ⟨a, ca, qa, _⟩ := rd_int (hT := hT) Tryz.underlying3 k k (Nat.le_refl _) _ _ (fld hf 0 rfl rfl rfl cells3 rfl)
    obtain ⟨b, cb, qb, _⟩ := rd_string (hT := hT) Tryz.underlying9 k k (Nat.le_refl _) _ _ (fld hf 1 rfl rfl rfl cells9 rfl)
    obtain ⟨c, cc, qc⟩ := rd_val (hT := hT) k k (Nat.le_refl _) _ _ (fld hf 2 rfl rfl rfl cells69 rfl)
    refine ⟨⟨a, b, c⟩, ca.tile (o' := 1) rfl (cb.tile (o' := 2) rfl (cc.tile (o' := 5) rfl (.end_ (hl.trans cells79)))), ?_⟩
    simp only [QT, Term.ts, bk, List.map_cons, List.map_nil, Rows.uptoBulk, Rows.uptoBulkAll]
    have := bk_str (H := H) b
    rw [← qb] at this
    simp only [bk] at this
    omega
theorem rd_atom (n : Nat) : Rd enc Tryz.prog W hT sp held 47 Atom.c QA n := by
  intro m _ cs y h
  obtain ⟨xs, k, rfl, rfl, hl, hx, hf⟩ := DataW.trod_struct Tryz.underlying47 h
  match xs, hx with
  | [x0, x1], _ =>
    obtain ⟨a, ca, qa, _⟩ := rd_string (hT := hT) Tryz.underlying9 k k (Nat.le_refl _) _ _ (fld hf 0 rfl rfl rfl cells9 rfl)
    obtain ⟨b, cb, qb⟩ := (rd_slice (hT := hT) Tryz.underlying45 cells79 (by decide) (fun _ => rfl) (rd_term k)).mono (Nat.le_succ k) k (Nat.le_refl _) _ _ (fld hf 1 rfl rfl rfl cells45 rfl)
    refine ⟨⟨a, b⟩, ca.tile (o' := 1) rfl (cb.tile (o' := 2) rfl (.end_ (hl.trans cells47))), ?_⟩
    have h1 := bk_str (H := H) a
    rw [← qa] at h1
    have h2 := qb.sum (f := Term.ts) (c := 400) fun _ _ h => h
    have h3 := qb.len
    simp only [bk] at h1 h2 h3
    simp only [QA, Atom.ts, bk, List.map_cons, List.map_nil, Rows.uptoBulk, Rows.uptoBulkAll]
    omega
theorem rd_expr : ∀ n : Nat, Rd enc Tryz.prog W hT sp held 72 Expr.c QE n
  | 0 => fun m hm cs y h => by
    obtain rfl : m = 0 := by omega
    simp [DataW.trod] at h
  | n + 1 => fun m hm cs y h => by
    obtain ⟨xs, k, rfl, rfl, hl, hx, hf⟩ := DataW.trod_struct Tryz.underlying72 h
    have hs := rd_slice (hT := hT) Tryz.underlying70 cells72 (by decide) (fun _ => rfl) (rd_expr n)
    match xs, hx with
    | [x0, x1, x2, x3, x4], _ =>
      obtain ⟨a, ca, qa, _⟩ := rd_int (hT := hT) Tryz.underlying3 k k (Nat.le_refl _) _ _ (fld hf 0 rfl rfl rfl cells3 rfl)
      obtain ⟨b, cb, qb, _⟩ := rd_string (hT := hT) Tryz.underlying9 k k (Nat.le_refl _) _ _ (fld hf 1 rfl rfl rfl cells9 rfl)
      obtain ⟨c, cc, qc⟩ := rd_val (hT := hT) k k (Nat.le_refl _) _ _ (fld hf 2 rfl rfl rfl cells69 rfl)
      obtain ⟨d, cd, qd, _⟩ := rd_int (hT := hT) Tryz.underlying3 k k (Nat.le_refl _) _ _ (fld hf 3 rfl rfl rfl cells3 rfl)
      obtain ⟨e, ce, qe⟩ := hs k (by omega) _ _ (fld hf 4 rfl rfl rfl cells70 rfl)
      refine ⟨.mk a b c d e, ca.tile (o' := 1) rfl (cb.tile (o' := 2) rfl (cc.tile (o' := 5) rfl (cd.tile (o' := 6) rfl ((ce.le1 (eargsL' (.mk a b c d e))).tile (o' := 7) rfl (.end_ (hl.trans cells72)))))), ?_⟩
      have h1 := bk_str (H := H) b
      rw [← qb] at h1
      have h2 := qe.sum (f := Expr.ts) (c := 400) fun _ _ h => h.1
      have h3 := qe.sum (f := Expr.size) (c := 1) fun _ _ h => by have := h.2; omega
      rw [← Expr.tss_sum] at h2
      rw [← Expr.sizes_sum] at h3
      simp only [bk] at h1 h2 h3
      simp only [QE, Expr.ts, Expr.size, bk, List.map_cons, List.map_nil, Rows.uptoBulk, Rows.uptoBulkAll]
      omega
theorem rd_agg {n : Nat} (hb : Rd enc Tryz.prog W hT sp held 59 (fun l : List Lit => [slc 30 l Lit.c]) (QL QB) n) : Rd enc Tryz.prog W hT sp held 74 Agg.c QG (n + 1) := by
  intro m hm cs y h
  obtain ⟨xs, k, rfl, rfl, hl, hx, hf⟩ := DataW.trod_struct Tryz.underlying74 h
  match xs, hx with
  | [x0, x1, x2, x3], _ =>
    obtain ⟨a, ca, qa, _⟩ := rd_int (hT := hT) Tryz.underlying3 k k (Nat.le_refl _) _ _ (fld hf 0 rfl rfl rfl cells3 rfl)
    obtain ⟨b, cb, qb, _⟩ := rd_string (hT := hT) Tryz.underlying9 k k (Nat.le_refl _) _ _ (fld hf 1 rfl rfl rfl cells9 rfl)
    obtain ⟨c, cc, qc⟩ := rd_expr (hT := hT) k k (Nat.le_refl _) _ _ (fld hf 2 rfl rfl rfl cells72 rfl)
    obtain ⟨d, cd, qd⟩ := hb k (by omega) _ _ (fld hf 3 rfl rfl rfl cells59 rfl)
    refine ⟨⟨a, b, c, d⟩, ca.tile (o' := 1) rfl (cb.tile (o' := 2) rfl (cc.tile (o' := 9) rfl ((cd.le1 (litsIR d)).tile (o' := 10) rfl (.end_ (hl.trans cells74))))), ?_⟩
    have h1 := bk_str (H := H) b
    rw [← qb] at h1
    have h2 := qd.sum (f := Lit.ts) (c := 400) fun _ _ h => h.1
    have h3 := qd.sum (f := Lit.size) (c := 1) fun _ _ h => by have := h.2; omega
    rw [← Lit.tss_sum] at h2
    rw [← Lit.sizes_sum] at h3
    obtain ⟨h4, h5⟩ := qc
    simp only [bk] at h1 h2 h3 h4 h5
    simp only [QG, bk, List.map_cons, List.map_nil, Rows.uptoBulk, Rows.uptoBulkAll]
    omega
theorem rd_lit : ∀ n : Nat, Rd enc Tryz.prog W hT sp held 76 Lit.c QB n
  | 0 => fun m hm cs y h => by
    obtain rfl : m = 0 := by omega
    simp [DataW.trod] at h
  | n + 1 => fun m hm cs y h => by
    obtain ⟨xs, k, rfl, rfl, hl, hx, hf⟩ := DataW.trod_struct Tryz.underlying76 h
    have hs := rd_agg (rd_slice (hT := hT) Tryz.underlying59 cells76 (by decide) (fun _ => rfl) (rd_lit n))
    match xs, hx with
    | [x0, x1, x2, x3, x4, x5, x6], _ =>
      obtain ⟨a, ca, qa, _⟩ := rd_int (hT := hT) Tryz.underlying3 k k (Nat.le_refl _) _ _ (fld hf 0 rfl rfl rfl cells3 rfl)
      obtain ⟨b, cb, qb⟩ := rd_atom (hT := hT) k k (Nat.le_refl _) _ _ (fld hf 1 rfl rfl rfl cells47 rfl)
      obtain ⟨c, cc, qc, _⟩ := rd_int (hT := hT) Tryz.underlying3 k k (Nat.le_refl _) _ _ (fld hf 2 rfl rfl rfl cells3 rfl)
      obtain ⟨d, cd, qd⟩ := rd_expr (hT := hT) k k (Nat.le_refl _) _ _ (fld hf 3 rfl rfl rfl cells72 rfl)
      obtain ⟨e, ce, qe⟩ := rd_expr (hT := hT) k k (Nat.le_refl _) _ _ (fld hf 4 rfl rfl rfl cells72 rfl)
      obtain ⟨g, cg, qg⟩ := hs k (by omega) _ _ (fld hf 5 rfl rfl rfl cells74 rfl)
      obtain ⟨p, cp, _⟩ := rd_pos (hT := hT) k k (Nat.le_refl _) _ _ (fld hf 6 rfl rfl rfl cells53 rfl)
      refine ⟨.mk a b c d e g.func g.var g.of_ g.body p, ca.tile (o' := 1) rfl (cb.tile (o' := 3) rfl (cc.tile (o' := 4) rfl (cd.tile (o' := 11) rfl (ce.tile (o' := 18) rfl (cg.tile (o' := 28) rfl (cp.tile (o' := 30) rfl (.end_ (hl.trans cells76)))))))), ?_⟩
      obtain ⟨h1, h2⟩ := qb
      obtain ⟨h3, h4⟩ := qd
      obtain ⟨h5, h6⟩ := qe
      obtain ⟨h7, h8⟩ := qg
      have h9 := bk_pos x0.1
      have h10 := bk_pos x2.1
      simp only [bk] at h1 h2 h3 h4 h5 h6 h7 h8 h9 h10
      simp only [QB, Lit.ts, Lit.size, bk, List.map_cons, List.map_nil, Rows.uptoBulk, Rows.uptoBulkAll]
      omega
theorem rd_lits (n : Nat) : Rd enc Tryz.prog W hT sp held 59 (fun l : List Lit => [lits l]) (QL QB) n :=
  (rd_slice (hT := hT) Tryz.underlying59 cells76 (by decide) (fun _ => rfl) (rd_lit n)).mono (Nat.le_succ n)
/-- A rule is not great. -/
def QR (r : Rule) (d : DataW H) : Prop := r.size ≤ bk d ∧ r.head.ts ≤ 400 * bk d ∧ ∀ l ∈ r.body, l.ts ≤ 400 * bk d
theorem rd_rule (n : Nat) : Rd enc Tryz.prog W hT sp held 61 Rule.c QR n := by
  intro m _ cs y h
  obtain ⟨xs, k, rfl, rfl, hl, hx, hf⟩ := DataW.trod_struct Tryz.underlying61 h
  match xs, hx with
  | [x0, x1, x2], _ =>
    obtain ⟨a, ca, qa⟩ := rd_atom (hT := hT) k k (Nat.le_refl _) _ _ (fld hf 0 rfl rfl rfl cells47 rfl)
    obtain ⟨b, cb, qb⟩ := rd_lits (hT := hT) k k (Nat.le_refl _) _ _ (fld hf 1 rfl rfl rfl cells59 rfl)
    obtain ⟨c, cc, qc⟩ := rd_pos (hT := hT) k k (Nat.le_refl _) _ _ (fld hf 2 rfl rfl rfl cells53 rfl)
    refine ⟨⟨a, b, c⟩, ca.tile (o' := 2) rfl (cb.tile (o' := 3) rfl (cc.tile (o' := 5) rfl (.end_ (hl.trans cells61)))), ?_⟩
    have h3 := qb.sum (f := Lit.size) (c := 1) fun _ _ h => by have := h.2; omega
    rw [← Lit.sizes_sum] at h3
    obtain ⟨h4, h5⟩ := qa
    simp only [bk] at h3 h4 h5
    refine ⟨?_, ?_, fun l hl => ?_⟩
    · simp only [Rule.size, bk, List.map_cons, List.map_nil, Rows.uptoBulk, Rows.uptoBulkAll]; omega
    · simp only [bk, List.map_cons, List.map_nil, Rows.uptoBulk, Rows.uptoBulkAll]; omega
    · obtain ⟨e, ⟨h6, _⟩, h7⟩ := qb.all l hl
      simp only [bk] at h6 h7
      simp only [bk, List.map_cons, List.map_nil, Rows.uptoBulk, Rows.uptoBulkAll]; omega
end
end Go.Proofs.YtpnclpbkecjinaaGreatDoorR
/-
  What is common to the cards of this seat.
-/
namespace Go.Proofs.YtpnclpbkecjinaaGreatDoorR
open Go Go.Al Go.ChangeShapes Go.WideShapes Go.RowKit
set_option maxRecDepth 100000
theorem own : ownKnob Tryz.prog.godebug = none := by kernel_rfl
theorem gTab : Tryz.prog.globalNamed "internal/strconv.uint64pow10" = some 0 := by kernel_rfl
theorem gTabType : (Tryz.prog.globals[0]?).map (·.type) = some 281 := by kernel_rfl
theorem cells281 : Tryz.prog.cellsOf 281 = 20 := by kernel_rfl
theorem cells232 : Tryz.prog.cellsOf 232 = 1 := by kernel_rfl
theorem under281 : Tryz.prog.underlying 281 = some (.array 20 232) := by kernel_rfl
theorem under232 : Tryz.prog.underlying 232 = some (.int .u64) := by kernel_rfl
abbrev laid3 : List (String × DataW Unit) := [("math/bits.deBruijn32tab", Rows.laid_math_bits_deBruijn32tab), ("math/bits.deBruijn64tab", Rows.laid_math_bits_deBruijn64tab), ("internal/strconv.uint64pow10", Rows.laid_internal_strconv_uint64pow10)]
/-- The table lies in the world. -/
theorem tabOK_of {W : World} (h : laidMetH Tryz.prog laid3 W) : TabOK W := by
  have h2 := laidMetH.filter (fun x => x.1 == "internal/strconv.uint64pow10") h
  have h3 : laidMet Tryz.prog [("internal/strconv.uint64pow10", Lib.tabData .u64 pow10L)] W := by
    rw [show laid3.filter (fun x => x.1 == "internal/strconv.uint64pow10") = [("internal/strconv.uint64pow10", Lib.tabData .u64 pow10L)] by kernel_rfl] at h2
    rwa [MakeChecks.laidMetH_plain _ _ _ (by kernel_rfl)] at h2
  have h4 : Lib.TabIs Tryz.prog W "internal/strconv.uint64pow10" .u64 pow10L := Lib.tabIs_of_head (rest := []) gTab gTabType under281 under232 cells232 cells281 h3
  intro b c hb
  unfold Lib.TabIs World.var? at h4
  rw [gTab] at h4
  match b with
  | 0 =>
    have hc : (pow10L.map fun z => Value.int .u64 z).toArray = c := Option.some.inj hb
    rw [hc] at h4
    simp only [Option.bind_some] at h4
    split at h4
    · rename_i cs T fr e
      exact ⟨T, fr, by rw [e, Option.some.inj h4]⟩
    · cases h4
  | b + 1 => exact nomatch hb
theorem kids : Kids Tryz.prog (· < Tryz.prog.types.size) := kids_rows (by kernel_rfl) (by kernel_rfl)
theorem full : ∀ {t e}, t < Tryz.prog.types.size → Tryz.prog.underlying t = some (.slice e) → 0 < Tryz.prog.cellsOf e := fun {t e} => slices_full_of Tryz.prog (by kernel_rfl) t e
/-- FROM A CONTRACT ON DATA TO WHAT THE ROW OWES. -/
theorem post_of_pure {H : Type} {enc : TypeId × Value → H} {W : World} (hT : TabOK W) {k : FuncId} {f : Func} {s : ChangeSpec} {args : List PV} {vs : List Value} {ds gs : List (DataW H)} {before : List MemPlace}
    (hp : Al.Pure Tryz.prog k args (pB true)) (hlen : args.length = vs.length) (hv : ∀ (j : Nat) (p : PV), args[j]? = some p → VR (Mem.ofW W hT) nm0 (· < 0) p (vs.getD j undef))
    (hTs : ∀ t ∈ f.params.toList, t < Tryz.prog.types.size) (hvars : s.vars = []) (hres : f.resultTypes = #[4])
    (hW : DataW.Whole enc Tryz.prog f.params.toList s.vars false W vs.toArray.toList ds gs before)
    (hs1 : (s.fn H (ds ++ gs)).results = [.lit (.bool true)]) (hs2 : (s.fn H (ds ++ gs)).args = ds) (hs3 : (s.fn H (ds ++ gs)).vars = []) :
    Calls Tryz.prog k vs.toArray W fun e W' => ∃ v, e = .returned v ∧ s.post enc Tryz.prog f false true false false W vs.toArray v W' := by
  refine (hp.2 (Mem.ofW W hT) nm0 W vs (rel_ofW W hT) hlen hv).mono ?_
  rintro e W' ⟨x, M', N', r, h', n', rfl, ⟨rfl, rfl, rfl⟩, hx, hr, hvr⟩
  have hxt : x = .bool true := by
    cases hvr with
    | iv _ _ h => cases h; rfl
  subst hxt
  refine ⟨_, rfl, post_of_kept kids full hTs hvars hW hx.os hx.output (fun b hb => hx.keep b hb fun i o hi => (nomatch hi)) (fun b sp hd => ?_) hs2 hs3 ?_⟩
  · rw [hs1, hres]
    exact trodAll_cons_mk (shut_bool Tryz.underlying4 _) trodAll_mk0
  · intro j t r h1 h2
    rw [hres] at h1 h2
    match j, h1, h2 with
    | 0, h1, h2 =>
      cases h1; cases h2
      exact okWide_bool_mk Tryz.underlying4 _
    | j + 1, h1, h2 => simp at h1
/-- The bound. -/
theorem bound {H : Type} {l : List (DataW H)} (hk : Rows.uptoSmall H l = true) : Rows.uptoBulkAll l ≤ 1048576 := of_decide_eq_true hk
/-- A rule as an argument. -/
theorem arg_rule {H : Type} {enc : TypeId × Value → H} {W : World} (hT : TabOK W) {v : Value} {d : DataW H} {p : List MemPlace} (hval : ∃ base, Value.okWide Tryz.prog W .any base 61 v) (h : DataW.Trod enc Tryz.prog W 0 (fun _ => true) true 61 v d p) :
    ∃ r : Rule, QR r d ∧ VR (Mem.ofW W hT) nm0 (· < 0) (ag r.c) v := by
  obtain ⟨base, hval⟩ := hval
  obtain ⟨cs, rfl, _⟩ := okWide_struct Tryz.underlying61 hval
  obtain ⟨n, hn⟩ := h
  obtain ⟨r, h1, h2⟩ := rd_rule (hT := hT) n n (Nat.le_refl _) _ _ hn
  exact ⟨r, h2, h1.agg⟩
theorem arg_int {H : Type} {enc : TypeId × Value → H} {W : World} (hT : TabOK W) {v : Value} {d : DataW H} {p : List MemPlace} (hval : ∃ base, Value.okWide Tryz.prog W .any base 3 v) (h : DataW.Trod enc Tryz.prog W 0 (fun _ => true) true 3 v d p) :
    ∃ z : Int, (Lit.int .i64 z).wf = true ∧ VR (Mem.ofW W hT) nm0 (· < 0) (pI z) v := by
  obtain ⟨base, hval⟩ := hval
  obtain ⟨n, rfl, _, _, hw⟩ := open_int Tryz.underlying3 hval h
  exact ⟨n, hw, .iv _ _ (.v _)⟩
/-- A world for the witness: the settled one, the three tables as their initialisers lay them. -/
def layAt (b : Nat) (cs : Array Value) (h : Array Obj) : Array Obj := h.modify b fun
  | .cells _ t frozen => .cells cs t frozen
  | o => o
noncomputable def laidWorld (os : Os) : World :=
  { World.holding Tryz.prog os ⟨#[], #[], []⟩ with
    heap := layAt 2 #[.int .u8 0, .int .u8 1, .int .u8 56, .int .u8 2, .int .u8 57, .int .u8 49, .int .u8 28, .int .u8 3, .int .u8 61, .int .u8 58, .int .u8 42, .int .u8 50, .int .u8 38, .int .u8 29, .int .u8 17, .int .u8 4, .int .u8 62, .int .u8 47, .int .u8 59, .int .u8 36, .int .u8 45, .int .u8 43, .int .u8 51, .int .u8 22, .int .u8 53, .int .u8 39, .int .u8 33, .int .u8 30, .int .u8 24, .int .u8 18, .int .u8 12, .int .u8 5, .int .u8 63, .int .u8 55, .int .u8 48, .int .u8 27, .int .u8 60, .int .u8 41, .int .u8 37, .int .u8 16, .int .u8 46, .int .u8 35, .int .u8 44, .int .u8 21, .int .u8 52, .int .u8 32, .int .u8 23, .int .u8 11, .int .u8 54, .int .u8 26, .int .u8 40, .int .u8 15, .int .u8 34, .int .u8 20, .int .u8 31, .int .u8 10, .int .u8 25, .int .u8 14, .int .u8 19, .int .u8 9, .int .u8 13, .int .u8 8, .int .u8 7, .int .u8 6] (layAt 1 #[.int .u8 0, .int .u8 1, .int .u8 28, .int .u8 2, .int .u8 29, .int .u8 14, .int .u8 24, .int .u8 3, .int .u8 30, .int .u8 22, .int .u8 20, .int .u8 15, .int .u8 25, .int .u8 17, .int .u8 4, .int .u8 8, .int .u8 31, .int .u8 27, .int .u8 13, .int .u8 23, .int .u8 21, .int .u8 19, .int .u8 16, .int .u8 7, .int .u8 26, .int .u8 12, .int .u8 18, .int .u8 6, .int .u8 11, .int .u8 5, .int .u8 10, .int .u8 9] (layAt 0 (pow10L.map fun z => Value.int .u64 z).toArray (World.holding Tryz.prog os ⟨#[], #[], []⟩).heap)) }
end Go.Proofs.YtpnclpbkecjinaaGreatDoorR
/-
  SoundTurned, in plain Lean: the lists of variables do not hang on the literals' order; one more positive literal limits no less.
-/
namespace Go.Proofs.YtpnclpbkecjinaaGreatDoorR
open Go Go.Al
set_option maxRecDepth 10000
/-! Told lists: sorted, and what they hold. -/
theorem told_mem {l : List Str} {x : Str} : x ∈ toldM (occM l) ↔ x ∈ l := mem_sortB.trans ((occM_keys l).2 x)
theorem told_sorted (l : List Str) : StS (toldM (occM l)) := sortB_sorted (occM_keys l).1
theorem told_congr {a b : List Str} (h : ∀ x, x ∈ a ↔ x ∈ b) : toldM (occM a) = toldM (occM b) :=
  sorted_ext (told_sorted a) (told_sorted b) fun x => by rw [told_mem, told_mem, h x]
/-! Two literals changed about. -/
def swapL (l : List Lit) (i k : Nat) : List Lit := (l.set i (l.getD k default)).set k (l.getD i default)
theorem swapL_len (l : List Lit) (i k : Nat) : (swapL l i k).length = l.length := by simp [swapL]
theorem getD_mem {l : List Lit} {i : Nat} (h : i < l.length) : l.getD i default ∈ l := by
  rw [List.getD_eq_getElem?_getD, List.getElem?_eq_getElem h]; exact List.getElem_mem h
theorem swapL_get {l : List Lit} {i k : Nat} (hi : i < l.length) : (swapL l i k).getD i default = l.getD k default := by
  unfold swapL
  rw [List.getD_eq_getElem?_getD, List.getElem?_set]
  by_cases h : k = i
  · subst h; simp [hi, List.getD_eq_getElem?_getD]
  · rw [if_neg h, List.getElem?_set, if_pos rfl, if_pos hi]; rfl
theorem mem_swapL {l : List Lit} {i k : Nat} (h : l = [] ∨ i < l.length ∧ k < l.length) (x : Lit) : x ∈ swapL l i k ↔ x ∈ l := by
  rcases h with rfl | ⟨hi, hk⟩
  · simp [swapL]
  constructor
  · intro hx
    rcases List.mem_or_eq_of_mem_set hx with hx | rfl
    · rcases List.mem_or_eq_of_mem_set hx with hx | rfl
      · exact hx
      · exact getD_mem hk
    · exact getD_mem hi
  · intro hx
    obtain ⟨j, hj, rfl⟩ := List.mem_iff_getElem.1 hx
    by_cases h1 : j = i
    · subst h1
      refine List.mem_iff_getElem?.2 ⟨k, ?_⟩
      unfold swapL
      rw [List.getElem?_set, if_pos rfl, List.length_set, if_pos hk, List.getD_eq_getElem?_getD, List.getElem?_eq_getElem hj]; rfl
    · by_cases h2 : j = k
      · subst h2
        refine List.mem_iff_getElem?.2 ⟨i, ?_⟩
        unfold swapL
        rw [List.getElem?_set, if_neg h1, List.getElem?_set, if_pos rfl, if_pos hi, List.getD_eq_getElem?_getD, List.getElem?_eq_getElem hj]; rfl
      · refine List.mem_iff_getElem?.2 ⟨j, ?_⟩
        unfold swapL
        rw [List.getElem?_set, if_neg (fun e => h2 e.symm), List.getElem?_set, if_neg (fun e => h1 e.symm), List.getElem?_eq_getElem hj]
section
variable {r t : Rule} (hh : t.head = r.head) (hb : ∀ x, x ∈ t.body ↔ x ∈ r.body)
include hh hb
theorem outerOcc_congr (x : Str) : x ∈ outerOcc t ↔ x ∈ outerOcc r := by
  unfold outerOcc
  rw [hh, List.mem_append, List.mem_append, List.mem_flatMap, List.mem_flatMap]
  simp only [hb]
end
theorem moreB_congr {o o' k : List Str} (h : ∀ x, x ∈ o ↔ x ∈ o') (a : Agg) : moreB o k a = moreB o' k a := by
  unfold moreB
  congr 1
  funext x
  rw [inL_congr h x]
theorem newV_none_le {may : Expr → Bool} {m1 m2 : Agg → Bool} {occ : List Str} {l : Lit} (hm : m1 l.agg = true → m2 l.agg = true) (h : newV may m2 occ l = none) : newV may m1 occ l = none := by
  unfold newV at *
  split at h
  · cases h
  · rename_i h1
    rw [if_neg h1]
    split at h
    · cases h
    · rename_i h2
      rw [if_neg fun h3 => h2 ⟨h3.1, h3.2.1, hm h3.2.2⟩]
/-- What is closed over more literals holds no less, where what more is asked of aggregates is met at the end. -/
theorem closed_le {may : List Str → Expr → Bool} {m1 m2 : List Str → Agg → Bool} {b1 b2 : List Lit}
    (hmay : ∀ a b : List Str, (∀ x ∈ a, x ∈ b) → ∀ e, may a e = true → may b e = true) (hmore : ∀ a b : List Str, (∀ x ∈ a, x ∈ b) → ∀ e, m1 a e = true → m1 b e = true)
    (hb : ∀ l ∈ b1, l ∈ b2) (hm : ∀ e, m1 (closedL may m2 b2 []) e = true → m2 (closedL may m2 b2 []) e = true) : ∀ x ∈ closedL may m1 b1 [], x ∈ closedL may m2 b2 [] := by
  refine closedN_sub hmay hmore (C := closedL may m2 b2 []) (firstV_of_none fun l hl => newV_none_le (hm _) (firstV_none (closedL_fix []) l (hb l hl))) _ _ fun x hx => ?_
  refine closedN_ext _ _ x ?_
  rw [List.nil_append, List.mem_flatMap] at *
  obtain ⟨l, hl, hx⟩ := hx
  exact ⟨l, hb l hl, hx⟩
section
variable {r t : Rule} (hh : t.head = r.head) (hb : ∀ x, x ∈ t.body ↔ x ∈ r.body)
include hh hb
theorem limOcc_congr (x : Str) : x ∈ limOcc t ↔ x ∈ limOcc r := by
  have ho := outerOcc_congr hh hb
  constructor
  · exact closed_le coversB_mono (moreB_mono (outerOcc t)) (fun l hl => (hb l).1 hl) (fun e he => by rw [← moreB_congr ho]; exact he) x
  · exact closed_le coversB_mono (moreB_mono (outerOcc r)) (fun l hl => (hb l).2 hl) (fun e he => by rw [moreB_congr ho]; exact he) x
omit hh in
theorem plOcc_congr (x : Str) : x ∈ plOcc t ↔ x ∈ plOcc r := by
  constructor
  · exact closed_le (may := fun occ => plainB occ) (m1 := fun _ => fun _ => false) (m2 := fun _ => fun _ => false) plainB_mono (fun _ _ _ _ h => h) (fun l hl => (hb l).1 hl) (fun e he => he) x
  · exact closed_le (may := fun occ => plainB occ) (m1 := fun _ => fun _ => false) (m2 := fun _ => fun _ => false) plainB_mono (fun _ _ _ _ h => h) (fun l hl => (hb l).2 hl) (fun e he => he) x
theorem locM_congr (a : Agg) : locM t a = locM r a := by
  unfold locM
  congr 1
  funext x
  rw [inL_congr (outerOcc_congr hh hb) x.1]
end
theorem kind3_occ {l : Lit} (h : l.kind = 3) : (∀ x ∈ exprOcc l.left, x ∈ litOut l) ∧ (∀ x ∈ exprOcc l.right, x ∈ litOut l) := by
  unfold litOut litOcc
  rw [if_neg (by omega), if_pos h]
  exact ⟨fun x hx => List.mem_append_left _ (List.mem_append_left _ hx), fun x hx => List.mem_append_left _ (List.mem_append_right _ hx)⟩
theorem exprOcc_var {e : Expr} (h : e.kind = 1) : e.var ∈ exprOcc e := by rw [exprOcc_eq, if_pos h]; simp
theorem copB_out {may : Expr → Bool} {occ : List Str} {l : Lit} (h : (copB may occ l).2 = true) : (copB may occ l).1 ∈ litOut l ∧ (copB may occ l).1 ∉ occ := by
  have hk := cop_kind h
  unfold copB at *
  split at h
  · cases h
  · rename_i h0
    rw [if_neg h0]
    split at h
    · rename_i h1
      rw [if_pos h1]
      exact ⟨(kind3_occ hk).1 _ (exprOcc_var h1.1), inL_false.1 h1.2.1⟩
    · rename_i h1
      rw [if_neg h1]
      split at h
      · rename_i h2
        rw [if_pos h2]
        exact ⟨(kind3_occ hk).2 _ (exprOcc_var h2.1), inL_false.1 h2.2.1⟩
      · cases h
theorem posOcc_out {l : Lit} : ∀ x ∈ posOcc l, x ∈ litOut l := by
  intro x hx
  unfold posOcc at hx
  split at hx
  · rename_i h
    unfold litOut litOcc
    rw [if_pos (.inl h)]
    exact List.mem_append_left _ hx
  · simp at hx
/-- LIMITED ONES ARE OUTER. -/
theorem lim_outer (r : Rule) : ∀ x ∈ limOcc r, x ∈ outerOcc r := by
  have hin : ∀ l ∈ r.body, ∀ x ∈ litOut l, x ∈ outerOcc r := fun l hl x hx => List.mem_append_right _ (List.mem_flatMap.2 ⟨l, hl, hx⟩)
  refine closedN_sub (may := fun occ => coversB occ) (more := fun occ => moreB (outerOcc r) occ) coversB_mono (moreB_mono (outerOcc r)) (C := outerOcc r) (firstV_of_none fun l hl => ?_) _ _ fun x hx => ?_
  · unfold newV
    rw [if_neg fun h => (copB_out h).2 (hin l hl _ (copB_out h).1), if_neg fun h => inL_false.1 h.2.1 (hin l hl _ ?_)]
    unfold litOut
    rw [if_pos h.1]
    exact List.mem_append_right _ (by simp)
  · rw [List.nil_append, List.mem_flatMap] at hx
    obtain ⟨l, hl, hx⟩ := hx
    exact hin l hl x (posOcc_out x hx)
theorem plain_covers {occ : List Str} {e : Expr} (h : plainB occ e = true) : coversB occ e = true := by
  unfold plainB at h
  unfold coversB
  rw [exprOcc_eq]
  rw [Bool.or_eq_true, Bool.and_eq_true, decide_eq_true_iff, decide_eq_true_iff] at h
  rcases h with h | ⟨h, h2⟩
  · rw [if_neg (by omega), if_neg (by omega)]; rfl
  · rw [if_pos h]; simpa using h2
/-- PLAIN ONES ARE LIMITED. -/
theorem plain_lim (r : Rule) : ∀ x ∈ plOcc r, x ∈ limOcc r := by
  refine closedN_sub (may := fun occ => plainB occ) (more := fun _ => fun _ => false) plainB_mono (fun _ _ _ _ h => h) (C := limOcc r) (firstV_of_none fun l hl => ?_) _ _ fun x hx => closedN_ext _ _ x hx
  have h := firstV_none (closedL_fix (may := fun occ => coversB occ) (more := fun occ => moreB (outerOcc r) occ) (body := r.body) []) l hl
  show newV (plainB (limOcc r)) (fun _ => false) (limOcc r) l = none
  have h' : newV (coversB (limOcc r)) (moreB (outerOcc r) (limOcc r)) (limOcc r) l = none := h
  unfold newV at *
  split at h'
  · cases h'
  · rename_i h1
    rw [if_neg (c := l.kind = 4 ∧ _) (fun h => Bool.noConfusion h.2.2), if_neg fun h2 => h1 ?_]
    unfold copB at *
    split at h2
    · cases h2
    · rename_i g0
      rw [if_neg g0]
      split at h2
      · rename_i g1
        rw [if_pos ⟨g1.1, g1.2.1, plain_covers g1.2.2⟩]
      · split at h2
        · rename_i g1 g2
          split
          · rfl
          · rw [if_pos ⟨g2.1, g2.2.1, plain_covers g2.2.2⟩]
        · cases h2
/-- NO LOCAL ONE IS OUTER. -/
theorem local_not_outer (r : Rule) (lit : Int) : ∀ x ∈ locOut r lit, x ∉ outerOcc r := by
  intro x hx
  unfold locOut at hx
  split at hx
  · simp at hx
  · unfold toldM at hx
    rw [mem_sortB, List.mem_map] at hx
    obtain ⟨y, hy, rfl⟩ := hx
    unfold locM at hy
    have := (List.mem_filter.1 hy).2
    exact inL_false.1 (by simpa using this)
/-! Another positive literal. -/
theorem lim_more (r : Rule) (l : Lit) (hl : l.kind = 1) (b : List Lit) (hb : ∀ x, x ∈ b ↔ x ∈ r.body) : ∀ x ∈ limOcc r, x ∈ limOcc ⟨r.head, b ++ [l], r.at_⟩ := by
  have hpos : ∀ x ∈ litOut l, x ∈ limOcc ⟨r.head, b ++ [l], r.at_⟩ := fun x hx => by
    refine closedN_ext _ _ x ?_
    rw [List.nil_append, List.mem_flatMap]
    refine ⟨l, by simp, ?_⟩
    unfold litOut litOcc at hx
    rw [if_pos (.inl hl), if_neg (by omega), List.append_nil] at hx
    unfold posOcc; rw [if_pos hl]; exact hx
  refine closed_le coversB_mono (moreB_mono (outerOcc r)) (fun y hy => List.mem_append_left _ ((hb y).2 hy)) fun e he => ?_
  show moreB (outerOcc ⟨r.head, b ++ [l], r.at_⟩) (limOcc ⟨r.head, b ++ [l], r.at_⟩) e = true
  have he' : moreB (outerOcc r) (limOcc ⟨r.head, b ++ [l], r.at_⟩) e = true := he
  unfold moreB at *
  rw [List.all_eq_true] at *
  intro x hx
  have := he' x hx
  rw [Bool.or_eq_true, Bool.or_eq_true] at *
  rcases this with h1 | h1 | h1
  · exact .inl h1
  · by_cases h2 : x ∈ outerOcc ⟨r.head, b ++ [l], r.at_⟩
    · refine .inr (.inr (inL_iff.2 (hpos x ?_)))
      have h3 : x ∉ outerOcc r := inL_false.1 (by simpa using h1)
      unfold outerOcc at h2 h3
      rw [List.mem_append, not_or] at h3
      rcases List.mem_append.1 h2 with h4 | h4
      · exact absurd h4 h3.1
      · rw [List.flatMap_append, List.mem_append] at h4
        rcases h4 with h4 | h4
        · refine absurd ?_ h3.2
          rw [List.mem_flatMap] at h4 ⊢
          obtain ⟨y, hy, hx⟩ := h4
          exact ⟨y, (hb y).1 hy, hx⟩
        · simpa using h4
    · exact .inr (.inl (by rw [inL_false.2 h2]; rfl))
  · exact .inr (.inr h1)
/-- The literal p(X). -/
def litX : Lit := .mk 1 ⟨ofB [112], [⟨1, ofB [88], ⟨0, 0, ByteArray.empty⟩⟩]⟩ 0 (.mk 0 ByteArray.empty ⟨0, 0, ByteArray.empty⟩ 0 []) (.mk 0 ByteArray.empty ⟨0, 0, ByteArray.empty⟩ 0 []) 0 ByteArray.empty (.mk 0 ByteArray.empty ⟨0, 0, ByteArray.empty⟩ 0 []) [] ⟨0, 0⟩
theorem lim_X (h : Atom) (b : List Lit) (p : Pos) : ofB [88] ∈ limOcc ⟨h, b ++ [litX], p⟩ := by
  refine closedN_ext _ _ _ ?_
  rw [List.nil_append, List.mem_flatMap]
  exact ⟨litX, by simp, by simp [posOcc, litX, Lit.kind, atomOcc, Lit.atom]⟩
/-- ALL THAT THE LAW ASKS. -/
structure Turned (r t u : Rule) (i k : Int) : Prop where
  limOut : ∀ x ∈ toldM (occM (limOcc r)), x ∈ toldM (occM (outerOcc r))
  plainLim : ∀ x ∈ toldM (occM (plOcc r)), x ∈ toldM (occM (limOcc r))
  outer : toldM (occM (outerOcc t)) = toldM (occM (outerOcc r))
  lim : toldM (occM (limOcc t)) = toldM (occM (limOcc r))
  plain : toldM (occM (plOcc t)) = toldM (occM (plOcc r))
  loc : locOut t i = locOut r k
  locOut : ∀ x ∈ locOut r k, x ∉ toldM (occM (outerOcc r))
  more : ∀ x ∈ toldM (occM (limOcc r)), x ∈ toldM (occM (limOcc u))
  hasX : ofB [88] ∈ toldM (occM (limOcc u))
theorem turned (r : Rule) (i k : Nat) (h : r.body = [] ∨ i < r.body.length ∧ k < r.body.length) :
    Turned r ⟨r.head, swapL r.body i k, r.at_⟩ ⟨r.head, swapL r.body i k ++ [litX], r.at_⟩ i k := by
  have hb := mem_swapL h
  refine ⟨fun x hx => told_mem.2 (lim_outer r x (told_mem.1 hx)), fun x hx => told_mem.2 (plain_lim r x (told_mem.1 hx)), told_congr (outerOcc_congr rfl hb), told_congr (limOcc_congr rfl hb), told_congr (plOcc_congr hb), ?_,
    fun x hx hx2 => local_not_outer r k x hx (told_mem.1 hx2), fun x hx => told_mem.2 (lim_more r litX rfl _ hb x (told_mem.1 hx)), told_mem.2 (lim_X _ _ _)⟩
  unfold Go.Proofs.YtpnclpbkecjinaaGreatDoorR.locOut
  rcases h with h | ⟨hi, hk⟩
  · have e1 : (swapL r.body i k).length = 0 := by rw [swapL_len, h]; rfl
    have e2 : r.body.length = 0 := by rw [h]; rfl
    rw [if_pos (.inr (.inl (by rw [e1]; omega))), if_pos (.inr (.inl (by rw [e2]; omega)))]
  · have he : litAt ⟨r.head, swapL r.body i k, r.at_⟩ (i : Int) = litAt r (k : Int) := by
      show (swapL r.body i k).getD (i : Int).toNat default = r.body.getD (k : Int).toNat default
      simp only [Int.toNat_natCast]
      exact swapL_get hi
    rw [he, swapL_len, locM_congr (r := r) (t := ⟨r.head, swapL r.body i k, r.at_⟩) rfl hb]
    by_cases h4 : (litAt r (k : Int)).kind = 4
    · rw [if_neg (by omega), if_neg (by omega)]
    · rw [if_pos (.inr (.inr h4)), if_pos (.inr (.inr h4))]
end Go.Proofs.YtpnclpbkecjinaaGreatDoorR
/-
  A whole element of an own row is written; one own row that is data for a call alone.
  No program stands here. Conditions: none.
-/
namespace Go.Al
section
variable {P : Program} {ty : Ty} {nt : Nat} {Q : AQ} {k : List KI} {s : AS}
theorem storeEl_OT (hty : TyOK P ty) {o : Oper} {t : TypeId} {a x : Operand} (ho : o.op = .store t a x) (hd : o.dst = none) {i sz q : Nat} {e : TyE} (he : ty t = some e) (hsz : e.size = sz) {es : List (List PV)} {xs : List PV}
    (ha : ev s.f a = .eptr i sz q 0) (hi : s.h.get i = some (.row sz es)) (hq : q < es.length) (hxs : (ev s.f x).cells = some xs) (hxl : xs.length = sz) (hone : allOne xs = true) :
    OT P nt o s (fun u => u = ⟨s.f, (i, some (.row sz (es.set q xs))) :: s.h, s.nx⟩) := by
  have hp : putDst nt o .any ⟨s.f, (i, some (.row sz (es.set q xs))) :: s.h, s.nx⟩ = some ⟨s.f, (i, some (.row sz (es.set q xs))) :: s.h, s.nx⟩ := by simp only [putDst, hd]
  refine OT.skip hp fun M N b w hf => ?_
  have hu := ev_ok hf.2.1 a
  have hy := ev_ok hf.2.1 x
  rw [ha] at hu
  generalize hu2 : b.eval a = u at hu
  generalize hy2 : b.eval x = y at hy
  have key : ∃ w', (Instr.storeAt t u y).run P w = .ok () w' ∧ Ext M N (· < s.nx) s.h w M N (· < s.nx) ((i, some (.row sz (es.set q xs))) :: s.h) w' ∧ Fits M N ⟨s.f, (i, some (.row sz (es.set q xs))) :: s.h, s.nx⟩ nt b w' := by
    cases hu with
    | eptr _ _ _ _ hU =>
      obtain ⟨hl, hv⟩ := cells_ok hy hxs
      have hys : y.cells.size = sz := by omega
      rcases hf.1.obj i _ hi with h0 | ⟨h0, c, T, g1, g2, g3, g4, g5⟩
      · rw [h0] at hq; simp at hq
      have hmul : (q + 1) * sz ≤ es.length * sz := Nat.mul_le_mul_right _ hq
      have hle : q * sz + sz ≤ c.size := by rw [Nat.succ_mul] at hmul; omega
      have hone' : ∀ z ∈ y.cells.toList, z.oneCell' = true := by
        intro v hvm
        obtain ⟨j, hj⟩ := List.getElem?_of_mem hvm
        have hjl : j < y.cells.toList.length := (List.getElem?_eq_some_iff.1 hj).1
        have hjx : xs[j]? = some (xs[j]'(by simp at hjl; omega)) := List.getElem?_eq_getElem _
        have := (hv j _ hjx).one (allOne_ok hone j _ hjx)
        rw [Array.getD_eq_getD_getElem?] at this
        have hj' : y.cells[j]? = some v := by simpa using hj
        rw [hj'] at this; exact this
      have hrun := run_storeCells_at P (N.blk i) (q * sz) T y.cells.toList 0 c w g1 (by simp; omega) hone'
      refine ⟨w.setRow (N.blk i) (c.toList.take (q * sz + 0) ++ y.cells.toList ++ c.toList.drop (q * sz + 0 + y.cells.toList.length)).toArray, ?_, ?_⟩
      · have hsize := run_sizeOf' (w := w) (hty t e he)
        have hs1 : y.cells.size = e.size := by omega
        simp only [Instr.storeAt, Instr.sureAddr, pure_bind, storeVar, Sem.run_bind, hsize, Result.andThen_ok, hs1, ne_eq, not_true_eq_false, if_false]
        exact hrun
      · have hrow := setRow_heap w (N.blk i) c (c.toList.take (q * sz + 0) ++ y.cells.toList ++ c.toList.drop (q * sz + 0 + y.cells.toList.length)).toArray T (0, 0) g1
        have hne : ∀ b, b ≠ N.blk i → (w.setRow (N.blk i) (c.toList.take (q * sz + 0) ++ y.cells.toList ++ c.toList.drop (q * sz + 0 + y.cells.toList.length)).toArray).heap[b]? = w.heap[b]? := by
          intro b hb
          simp only [World.setRow, Array.getElem?_modify]
          rw [if_neg (fun e => hb e.symm)]
        have hre : (AO.row sz es).real = true := by cases es with
          | nil => simp at hq
          | cons => rfl
        have hgd : ∀ m, (c.toList.take (q * sz + 0) ++ y.cells.toList ++ c.toList.drop (q * sz + 0 + y.cells.toList.length)).toArray.getD m undef = if q * sz ≤ m ∧ m < q * sz + sz then y.cells.getD (m - q * sz) undef else c.getD m undef := by
          intro m
          rw [Array.getD_eq_getD_getElem?, Array.getD_eq_getD_getElem?, Array.getD_eq_getD_getElem?]
          have hlen : y.cells.toList.length = sz := by simp; omega
          split
          · rename_i hm
            have e1 : (c.toList.take (q * sz + 0) ++ y.cells.toList ++ c.toList.drop (q * sz + 0 + y.cells.toList.length)).toArray[m]? = y.cells[m - q * sz]? := by
              simp only [List.getElem?_toArray]
              rw [List.getElem?_append_left (by simp; omega), List.getElem?_append_right (by simp; omega)]
              simp only [List.length_take, Array.length_toList, Array.getElem?_toList]
              congr 1; omega
            rw [e1]
          · rename_i hm
            have e1 : (c.toList.take (q * sz + 0) ++ y.cells.toList ++ c.toList.drop (q * sz + 0 + y.cells.toList.length)).toArray[m]? = c[m]? := by
              simp only [List.getElem?_toArray]
              rcases Nat.lt_or_ge m (q * sz) with k1 | k1
              · rw [List.append_assoc, List.getElem?_append_left (by simp; omega), List.getElem?_take, if_pos (by omega), Array.getElem?_toList]
              · rw [List.getElem?_append_right (by simp; omega), List.getElem?_drop, Array.getElem?_toList]
                congr 1; simp; omega
            rw [e1]
        have := hf.1.write hi hre (w.setRow (N.blk i) (c.toList.take (q * sz + 0) ++ y.cells.toList ++ c.toList.drop (q * sz + 0 + y.cells.toList.length)).toArray) (.row sz (es.set q xs)) rfl rfl rfl (by simp) hne
          (.inr ⟨h0, _, T, hrow, by simp; omega, by simp; omega, fun k2 e2 h2 => ?_, fun k2 e2 j2 p2 h2 h3 => ?_⟩)
        · exact ⟨this.1, this.2, hf.2.1, hf.2.2⟩
        · rw [List.getElem?_set] at h2
          split at h2
          · cases h2; exact hxl
          · exact g4 k2 e2 h2
        · rw [hgd]
          rw [List.getElem?_set] at h2
          split at h2
          · rename_i hk2
            subst hk2
            cases h2
            have hj2 : j2 < sz := by rw [← hxl]; exact (List.getElem?_eq_some_iff.1 h3).1
            rw [if_pos (by omega), show q * sz + j2 - q * sz = j2 by omega]
            exact hv j2 p2 h3
          · rename_i hk2
            have hj2 : j2 < sz := by rw [← g4 k2 e2 h2]; exact (List.getElem?_eq_some_iff.1 h3).1
            rw [if_neg ?_]
            · exact g5 k2 e2 j2 p2 h2 h3
            · intro ⟨e1, e2⟩
              rcases Nat.lt_trichotomy q k2 with hlt | heq | hgt
              · have : (q + 1) * sz ≤ k2 * sz := Nat.mul_le_mul_right _ hlt
                rw [Nat.succ_mul] at this; omega
              · exact hk2 heq
              · have : (k2 + 1) * sz ≤ q * sz := Nat.mul_le_mul_right _ hgt
                rw [Nat.succ_mul] at this; omega
  obtain ⟨w', h1, h2, h3⟩ := key
  refine ⟨w', M, N, ?_, h2, h3⟩
  simp only [execOp, ho]
  simp [hu2, hy2, h1]
/-- .. as a step. -/
theorem go_storeEl (hty : TyOK P ty) {all rest : List Oper} {o : Oper} {t : TypeId} {a x : Operand} (ho : o.op = .store t a x) (hd : o.dst = none) (hg : o.guard = none) {i sz q : Nat} {e : TyE} (he : ty t = some e) (hsz : e.size = sz) {es : List (List PV)} {xs : List PV}
    (ha : ev s.f a = .eptr i sz q 0) (hi : s.h.get i = some (.row sz es)) (hq : q < es.length) (hxs : (ev s.f x).cells = some xs) (hxl : xs.length = sz) (hone : allOne xs = true)
    {s' : AS} (hs : (⟨s.f, (i, some (.row sz (es.set q xs))) :: s.h, s.nx⟩ : AS) = s') (h : GO P nt (.ops all rest :: k) Q s') : GO P nt (.ops all (o :: rest) :: k) Q s :=
  go_op hg (storeEl_OT hty ho hd he hsz ha hi hq hxs hxl hone) fun u hu => by subst hu; subst hs; exact h
end
/-- ONE OWN ROW, data for a call alone: what 'go_bcall' asks. -/
theorem fz1 {M : Mem} {N : Nm} {n : Nat} {h : AH} {w : World} (i sz : Nat) {es : List (List PV)} (el : Nat → List IV) (hi : h.get i = some (.row sz es)) (hel : ∀ k e, es[k]? = some e → e = (el k).map .iv)
    {asv args : List PV} (hm : ∀ (j : Nat) (p : PV), args[j]? = some p → ∃ q, asv[j]? = some q ∧ q.inRow i sz es.length ∧ PVle (q.frz i sz el) p) (hr : Rel M N (· < n) h w) :
    ∃ M1 : Mem, M.le M1 ∧ Rel M1 N (· < n) [] w ∧ ∀ (j : Nat) (p : PV) (x : Value), args[j]? = some p → (∀ q, asv[j]? = some q → VR M N (· < n) q x) → VR M1 N (· < n) p x := by
  obtain ⟨M1, h1, h2, h4⟩ := frz_row hr hi hel
  refine ⟨M1, h1.mle, ⟨h2.frz, fun i o hi => (nomatch hi), fun i o hi => (nomatch hi), fun i o hi => (nomatch hi), fun i j o p hi => (nomatch hi)⟩, fun j p x hj hq => ?_⟩
  obtain ⟨q, g1, g2, g3⟩ := hm j p hj
  exact g3 _ _ _ _ (h4 q x (hq q g1) g2)
end Go.Al
/-
  SoundTurned: its small functions, and lists as rows of the call's own.
-/
namespace Go.Proofs.YtpnclpbkecjinaaGreatDoorR
open Go Go.Al
set_option maxRecDepth 10000
/-- A number taken into 0 to n - 1. -/
def atZ (i n : Int) : Int := if n < 1 then 0 else if Int.tmod i n < 0 then Int.tmod i n + n else Int.tmod i n
theorem atZ_in {i n : Int} (h : 0 < n) : 0 ≤ atZ i n ∧ atZ i n < n := by
  unfold atZ
  rw [if_neg (by omega)]
  have h1 := Int.tmod_lt_of_pos i h
  have h2 : -n < Int.tmod i n := Int.lt_tmod_of_pos i h
  split <;> omega
theorem c38 (i n : Int) (h0 : 0 ≤ n) (h1 : n ≤ 1000000000000) : Pure Tryz.prog 38 [pI i, pI n] (pI (atZ i n)) := by
  refine pure_end tyA_ok Tryz.func38 rfl (by decide) Tryz.ntmps38 rfl (by simp) rfl ?_
  refine gA rfl ?_
  refine And.intro (fun g1 => ?_) (fun g1 => ?_)
  · have g1 : n < 1 := by simpa using g1
    refine gA rfl (end_le (by first | exact .inr rfl | exact .inl rfl) rfl (.of_eq ?_))
    rw [atZ, if_pos g1]; rfl
  have g1 : ¬ n < 1 := by simpa using g1
  have g3 := Int.tmod_lt_of_pos i (show 0 < n by omega)
  have g4 := Int.lt_tmod_of_pos i (show 0 < n by omega)
  refine gA rfl ?_
  refine And.intro (fun g5 => ?_) (fun g5 => ?_)
  · have g5 : Int.tmod i n < 0 := of_decide_eq_true g5
    refine gA rfl (end_le (by first | exact .inr rfl | exact .inl rfl) rfl (.of_eq ?_))
    rw [atZ, if_neg g1, if_pos g5]; rfl
  · have g5 : ¬ Int.tmod i n < 0 := of_decide_eq_false g5
    refine gA rfl (end_le (by first | exact .inr rfl | exact .inl rfl) rfl (.of_eq ?_))
    rw [atZ, if_neg g1, if_neg g5]; rfl
theorem d29o (hS : SortS) (r : Rule) (hb : r.size ≤ 10000000) : Det Tryz.prog 29 [ag r.c] [] (.sl 0 0 (toldM (occM (outerOcc r))).length 1) [(0, some (rowI 1 (toldM (occM (outerOcc r))) strC))] 1 := by
  have h1 := occM_len (outerOcc r)
  have h2 := outerOcc_len r
  refine det_end tyA_ok Tryz.func29 rfl (by decide) Tryz.ntmps29 rfl (by simp) ?_
  refine gA rfl (go_pure (c48 r (by omega)) rfl rfl rfl rfl rfl rfl ?_)
  refine gA rfl (go_det [] (d51o hS (occM (outerOcc r)) (by omega)) rfl rfl rfl rfl rfl rfl rfl rfl ?_)
  refine gA rfl (end_det [1] (by first | exact .inr rfl | exact .inl rfl) rfl (wk rfl rfl rfl ⟨.refl _, rfl, trivial⟩ (hR rfl (rows_ren _ _) rfl trivial) rfl))
/-- A contract that asks for a frozen map and leaves objects, called with an own map. -/
theorem ownM_ofD {P : Program} {k : FuncId} {kc : KC} {V : Type} {e : V → IV} {z : V} {zv : Value} {dv : PV → V} {m : List (kc.K × V)} {r0 : PV} {h0 : AH} {n0 : Nat} (h : Det P k [.iv (.imap kc e z zv m)] [] r0 h0 n0) :
    Det P k [.mp 0] [.map kc e z zv dv m] (r0.ren (sig [] 1)) (renH (sig [] 1) h0 ++ []) (1 + (n0 - 0)) := by
  refine ⟨h.1, fun M N w vs hr hl hv => ?_⟩
  obtain ⟨M1, h1, h2, h3, h4⟩ := frz_mapH (n := 1) hr (i := 0) rfl
  have hr2 : Rel M1 N (· < 1) [] w := ⟨h2.frz, fun i o hi => (nomatch hi), fun i o hi => (nomatch hi), fun i o hi => (nomatch hi), fun i j o p hi => (nomatch hi)⟩
  refine (Fn.calls (s := ⟨[], [], 1⟩) (L := []) h List.nodup_nil (by simp) rfl (M := M1) (N := N) (w := w) hr2 (vs := vs) (by simpa using hl) fun j p hj => ?_).mono ?_
  · cases j with
    | zero =>
      cases hj
      have := h4 _ _ (hv 0 _ rfl)
      generalize vs.getD 0 undef = x at this ⊢
      cases this with
      | iv _ _ h => exact .iv _ _ h
    | succ j => cases hj
  · rintro _ w' ⟨x, M', N', r, h', n', rfl, ⟨rfl, rfl, rfl⟩, hx, hrr, hvr⟩
    refine ⟨x, M', N', _, _, _, rfl, ⟨rfl, rfl, rfl⟩, ?_, hrr, hvr⟩
    refine ⟨hx.os, hx.tape, hx.output, hx.size, fun b hb hn => hx.keep b hb fun i o hi => (nomatch hi), h1.mle.trans hx.mle, fun b c g1 g2 => ?_, hx.nm, hx.ule, fun i o hi hre => ?_⟩
    · cases g3 : M1 b with
      | some c' => exact h1.mnew b c' g1 g3
      | none =>
        rcases hx.mnew b c g3 g2 with g4 | ⟨i, o, g4, _⟩
        · exact .inl g4
        · exact nomatch g4
    · rcases hx.pnew i o hi hre with g4 | ⟨j, p, g4, _⟩
      · exact .inl g4
      · exact nomatch g4
theorem d51m (hS : SortS) (m : NM) (hm : m.length ≤ 100000000) : Det Tryz.prog 51 [.mp 0] [nmO m] (.sl 1 0 (toldM m).length 1) [(1, some (rowI 1 (toldM m) strC))] 2 := by
  have := ownM_ofD (dv := dvI) (d51o hS m hm)
  rw [show renH (sig [] 1) [(0, some (rowI 1 (toldM m) strC))] ++ [] = [(1, some (rowI 1 (toldM m) strC))] from by
    simp only [renH, rowI_ren]; rfl] at this
  exact this
/-- nil as an empty row of the call's own. -/
theorem nilOwn {P : Program} {k : FuncId} {args : List PV} {sz : Nat} (h : Al.Pure P k args (.iv (.v (.slice none 0 0)))) : Det P k args [] (.sl 0 0 0 sz) [(0, some (.row sz []))] 1 := by
  refine ⟨h.1, fun M N w vs hr hl hv => ?_⟩
  refine (h.2 M N w vs hr hl hv).mono ?_
  rintro _ w' ⟨x, M', N', r, h', n', rfl, ⟨rfl, rfl, rfl⟩, hx, hrr, hvr⟩
  obtain ⟨hx2, hr2⟩ := Rel.virt hrr sz
  refine ⟨x, M', N', _, _, 1, rfl, ⟨rfl, rfl, rfl⟩, hx.trans hx2, hr2, ?_⟩
  cases hvr with
  | iv _ _ hh => cases hh; exact .sl0 0 sz (by omega)
theorem c35n (r : Rule) (lit : Int) (hc : lit < 0 ∨ (r.body.length : Int) ≤ lit ∨ ¬ (litAt r lit).kind = 4) : Pure Tryz.prog 35 [ag r.c, pI lit] (.iv (.v (.slice none 0 0))) := by
  refine pure_end tyA_ok Tryz.func35 rfl (by decide) Tryz.ntmps35 rfl (by simp) rfl ?_
  refine gA rfl ?_
  refine And.intro (fun h1 => ?_) (fun h1 => ?_)
  rotate_left
  · refine gA rfl (end_le (by first | exact .inr rfl | exact .inl rfl) rfl (.of_eq ?_))
    rfl
  have h1 : ¬ lit < 0 := by simpa using h1
  refine gA rfl ?_
  refine And.intro (fun h2 => ?_) (fun h2 => ?_)
  rotate_left
  · refine gA rfl (end_le (by first | exact .inr rfl | exact .inl rfl) rfl (.of_eq ?_))
    rfl
  have h2 : ¬ (r.body.length : Int) ≤ lit := by simpa using h2
  refine gA rfl ?_
  refine And.intro (fun h3 => ?_) (fun h3 => ?_)
  · refine gA rfl (end_le (by first | exact .inr rfl | exact .inl rfl) rfl (.of_eq ?_))
    rfl
  have h3 : (litAt r lit).kind = 4 := by simpa [litAt] using h3
  omega
theorem d35o (hS : SortS) (r : Rule) (lit : Int) (hb : r.size ≤ 10000000) : Det Tryz.prog 35 [ag r.c, pI lit] [] (.sl 0 0 (locOut r lit).length 1) [(0, some (rowI 1 (locOut r lit) strC))] 1 := by
  by_cases hc : lit < 0 ∨ (r.body.length : Int) ≤ lit ∨ ¬ (litAt r lit).kind = 4
  · rw [locOut, if_pos hc]
    exact nilOwn (c35n r lit hc)
  rw [locOut, if_neg hc]
  rw [not_or, not_or] at hc
  obtain ⟨h1, h2, h3⟩ := hc
  have h3 : (litAt r lit).kind = 4 := Classical.not_not.1 h3
  have hbl := Lit.length_sizes r.body
  have h30 : Lit.sizes r.body ≤ r.size := Nat.le_add_left _ _
  refine det_end tyA_ok Tryz.func35 rfl (by decide) Tryz.ntmps35 rfl (by simp) ?_
  refine gA rfl ?_
  refine And.intro (fun g1 => ?_) (fun g1 => ?_)
  rotate_left
  · have g1 : lit < 0 := by simpa using g1
    omega
  refine gA rfl ?_
  refine And.intro (fun g2 => ?_) (fun g2 => ?_)
  rotate_left
  · have g2 : (r.body.length : Int) ≤ lit := by simpa using g2
    omega
  refine gA rfl ?_
  refine And.intro (fun g3 => ?_) (fun g3 => ?_)
  · have g3 : ¬ (litAt r lit).kind = 4 := by simpa [litAt] using g3
    omega
  have hk : lit.toNat < r.body.length := by omega
  have hsz := Lit.sizes_get r.body lit.toNat hk
  have hag := (litAt r lit).agg_size
  have hle : (litAt r lit).size ≤ Lit.sizes r.body := hsz
  have hal := aggOcc_len (litAt r lit).agg
  have hom := occM_len (aggOcc (litAt r lit).agg)
  have hlm : (locM r (litAt r lit).agg).length ≤ (occM (aggOcc (litAt r lit).agg)).length := List.length_filter_le _ _
  refine gA rfl (go_ddet tyA_ok [] (Pure.det (c48 r (by omega))) rfl rfl rfl rfl rfl rfl rfl rfl rfl rfl rfl rfl (by (repeat' (first | exact trivial | exact rfl | exact PVle.refl _ | exact PVle.bk (by assumption) | apply And.intro)) <;> first | omega | (simp only [Int.toNat_natCast]; omega) | (simp; done) | (simp; omega)) rfl (by (repeat' (first | exact trivial | exact rfl | exact PVle.refl _ | exact PVle.bk (by assumption) | apply And.intro)) <;> first | omega | (simp only [Int.toNat_natCast]; omega) | (simp; done) | (simp; omega)) ?_)
  refine gA rfl (go_ddet tyA_ok [] (d79 r (litAt r lit).agg (by omega)) rfl rfl rfl rfl rfl rfl rfl rfl rfl rfl rfl rfl (by (repeat' (first | exact trivial | exact rfl | exact PVle.refl _ | exact PVle.bk (by assumption) | apply And.intro)) <;> first | omega | (simp only [Int.toNat_natCast]; omega) | (simp; done) | (simp; omega)) rfl (by (repeat' (first | exact trivial | exact rfl | exact PVle.refl _ | exact PVle.bk (by assumption) | apply And.intro)) <;> first | omega | (simp only [Int.toNat_natCast]; omega) | (simp; done) | (simp; omega)) ?_)
  refine gA rfl (go_ddet tyA_ok [1] (d51m hS (locM r (litAt r lit).agg) (by omega)) rfl rfl rfl rfl rfl rfl rfl rfl rfl rfl rfl rfl (by (repeat' (first | exact trivial | exact rfl | exact PVle.refl _ | exact PVle.bk (by assumption) | apply And.intro)) <;> first | omega | (simp only [Int.toNat_natCast]; omega) | (simp; done) | (simp; omega)) rfl (by (repeat' (first | exact trivial | exact rfl | exact PVle.refl _ | exact PVle.bk (by assumption) | apply And.intro)) <;> first | omega | (simp only [Int.toNat_natCast]; omega) | (simp; done) | (simp; omega)) ?_)
  refine gA rfl (end_det [2] (by first | exact .inr rfl | exact .inl rfl) rfl (wk rfl rfl rfl ⟨.refl _, rfl, trivial⟩ (hR rfl (rows_ren _ _) rfl trivial) rfl))
end Go.Proofs.YtpnclpbkecjinaaGreatDoorR
/-
  A row that nobody writes any more, named in other rows too.
  No program stands here. Conditions: none.
-/
namespace Go.Al
/-- From here on nobody writes the row i, which other rows name. -/
theorem go_frzRR {P : Program} {nt : Nat} {Q : AQ} {k : List KI} {s : AS} {c : Code} (i : Nat) {sz : Nat} {es : List (List PV)} (el : Nat → List IV) (hi : s.h.get i = some (.row sz es)) (hel : ∀ k e, es[k]? = some e → e = (el k).map .iv)
    (hf : s.f.okR i sz es.length) (hh : s.h.okRR i sz es.length) (h : GO P nt (.code c :: k) Q ⟨s.f.frzR i sz el, (i, none) :: s.h.frzRR i sz el, s.nx⟩) : GO P nt (.code c :: k) Q s := by
  intro M N a w hfit
  obtain ⟨M', h1, h2, h4⟩ := frz_row hfit.1 hi hel
  have hg : ∀ j o, AH.get ((i, none) :: s.h.frzRR i sz el) j = some o → ∃ p, AH.get ((i, none) :: s.h) j = some p ∧ s.h.get j = some p ∧ o = p.frzRR i sz el := by
    intro j o hj
    obtain ⟨g1, g2⟩ := get_del j o hj
    rw [AH.frzRR_get, Option.map_eq_some_iff] at g2
    obtain ⟨p, g3, g4⟩ := g2
    exact ⟨p, by rw [AH.get_cons, if_neg g1]; exact g3, g3, g4.symm⟩
  have hE : Ext M N (· < s.nx) s.h w M' N (· < s.nx) ((i, none) :: s.h.frzRR i sz el) w := ⟨h1.os, h1.tape, h1.output, h1.size, h1.keep, h1.mle, h1.mnew, h1.nm, h1.ule, fun j o hj hre => by
    obtain ⟨p, g1, _, rfl⟩ := hg j o hj
    rw [AO.frzRR_real] at hre
    exact h1.pnew j p g1 hre⟩
  have hR : Rel M' N (· < s.nx) ((i, none) :: s.h.frzRR i sz el) w := by
    refine ⟨h2.frz, fun j o hj => ?_, fun j o hj hre => ?_, fun j o hj => ?_, fun j k o p hj hk ho hp => ?_⟩
    · obtain ⟨p, g1, _, rfl⟩ := hg j o hj
      exact h2.used j p g1
    · obtain ⟨p, g1, _, rfl⟩ := hg j o hj
      rw [AO.frzRR_real] at hre
      exact h2.nfrz j p g1 hre
    · obtain ⟨p, g1, g2, rfl⟩ := hg j o hj
      cases p with
      | cells cs T0 =>
        obtain ⟨c, T, q1, q2, q3, q4, q5⟩ := hfit.1.obj j _ g2
        have hok := AH.okRR_get hh j _ g2
        refine ⟨c, T, q1, q2, by simpa [frzL_eq] using q3, fun k q hq => ?_, q5⟩
        rw [frzL_eq, List.getElem?_map, Option.map_eq_some_iff] at hq
        obtain ⟨q0, hq0, rfl⟩ := hq
        exact h4 _ _ (q4 k q0 hq0) (inRowL_mem hok k q0 hq0)
      | row s2 es2 =>
        have hok := AH.okRR_get hh j _ g2
        rcases hfit.1.obj j _ g2 with rfl | ⟨q0, c, T, q1, q2, q3, q4, q5⟩
        · exact .inl rfl
        · refine .inr ⟨q0, c, T, q1, q2, by simpa using q3, fun k e he => ?_, fun k e j2 p he hp => ?_⟩
          · rw [List.getElem?_map, Option.map_eq_some_iff] at he
            obtain ⟨e0, he0, rfl⟩ := he
            rw [frzL_eq, List.length_map]; exact q4 k e0 he0
          · rw [List.getElem?_map, Option.map_eq_some_iff] at he
            obtain ⟨e0, he0, rfl⟩ := he
            rw [frzL_eq, List.getElem?_map, Option.map_eq_some_iff] at hp
            obtain ⟨p0, hp0, rfl⟩ := hp
            exact h4 _ _ (q5 k e0 j2 p0 he0 hp0) (inRowL_mem (hok e0 (List.mem_of_getElem? he0)) j2 p0 hp0)
      | brow => exact h2.obj j _ g1
      | map0 => exact h2.obj j _ g1
      | map => exact h2.obj j _ g1
      | miter => exact h2.obj j _ g1
      | siter => exact h2.obj j _ g1
    · obtain ⟨o', g1, _, rfl⟩ := hg j o hj
      obtain ⟨p', g2, _, rfl⟩ := hg k p hk
      rw [AO.frzRR_real] at ho hp
      exact h2.inj j k o' p' g1 g2 ho hp
  have hf' : Fits M' N ⟨s.f.frzR i sz el, (i, none) :: s.h.frzRR i sz el, s.nx⟩ nt a w := ⟨hR, fun d => by
    rw [AF.frzR_get]; exact h4 _ _ (hfit.2.1 d) (AF.okR_get hf d), hfit.2.2⟩
  exact AW.then h hf' fun e a2 w2 M2 N2 s2 hx2 hf2 hr2 => ⟨M2, N2, s2, hE.trans hx2, hf2, hr2⟩
end Go.Al
/-
  SoundTurned on data: the walk of the law.
-/
namespace Go.Proofs.YtpnclpbkecjinaaGreatDoorR
open Go Go.Al
set_option maxRecDepth 10000
theorem map_sum_set {α : Type} [Inhabited α] (f : α → Nat) : ∀ (l : List α) (i : Nat) (x : α), i < l.length → ((l.set i x).map f).sum + f (l.getD i default) = (l.map f).sum + f x
  | y :: r, 0, x, _ => by simp; omega
  | y :: r, i + 1, x, h => by
    have := map_sum_set f r i x (by simpa using h)
    simp only [List.set_cons_succ, List.map_cons, List.sum_cons, List.getD_cons_succ]
    omega
theorem lits_sum : ∀ l : List Lit, Lit.sizes l = (l.map Lit.size).sum
  | [] => rfl
  | e :: r => by simp only [Lit.sizes, List.map_cons, List.sum_cons, lits_sum r]
theorem swapL_sizes {l : List Lit} {i k : Nat} (h : l = [] ∨ i < l.length ∧ k < l.length) : Lit.sizes (swapL l i k) = Lit.sizes l := by
  rcases h with rfl | ⟨hi, hk⟩
  · simp [swapL]
  rw [lits_sum, lits_sum]
  have h1 := map_sum_set Lit.size l i (l.getD k default) hi
  have h2 := map_sum_set Lit.size (l.set i (l.getD k default)) k (l.getD i default) (by simpa using hk)
  have h3 : (l.set i (l.getD k default)).getD k default = l.getD k default := by
    rw [List.getD_eq_getElem?_getD, List.getElem?_set]
    by_cases h : i = k
    · subst h; simp [hi]
    · rw [if_neg h]; rfl
  rw [h3] at h2
  show ((((l.set i (l.getD k default)).set k (l.getD i default)).map Lit.size).sum) = _
  omega
theorem litX_size : litX.size = 6 := by decide +kernel
theorem sizes_snoc : ∀ (l : List Lit) (x : Lit), Lit.sizes (l ++ [x]) = Lit.sizes l + x.size
  | [], x => by simp [Lit.sizes]
  | y :: r, x => by simp only [List.cons_append, Lit.sizes, sizes_snoc r x]; omega
/-! What the law compares. -/
theorem c37t {a b : List Str} (h : ∀ x ∈ b, x ∈ a) : Pure Tryz.prog 37 [.iv (strs a), .iv (strs b)] (pB true) := by
  have := c37 a b
  rwa [allL_iff.2 h] at this
theorem c39t {a : List Str} {s : Str} (h : s ∈ a) : Pure Tryz.prog 39 [.iv (strs a), pS s] (pB true) := by
  have := c39 a s
  rwa [inL_iff.2 h] at this
theorem c39f {a : List Str} {s : Str} (h : s ∉ a) : Pure Tryz.prog 39 [.iv (strs a), pS s] (pB false) := by
  have := c39 a s
  rwa [inL_false.2 h] at this
theorem bareS {σ : Nat → Nat} (L : List Str) : ∀ j o, (renH σ [(0, some (rowI 1 L strC))]).get j = some o → bareO o :=
  bare1 (by simp [List.all_eq_true, renL, PV.ren, bareL, bareR, strC])
theorem swap_rows (l : List Lit) (i k : Nat) : ((l.map fun x => x.c.map PV.iv).set i ((l.getD k default).c.map .iv)).set k ((l.getD i default).c.map .iv) = (swapL l i k).map fun x => x.c.map .iv := by
  simp only [swapL, List.map_set]
theorem locOut_len (r : Rule) (lit : Int) : (locOut r lit).length ≤ r.size := by
  unfold locOut
  split
  · simp
  · rename_i hc
    rw [not_or, not_or] at hc
    have hk : lit.toNat < r.body.length := by omega
    have hsz := Lit.sizes_get r.body lit.toNat hk
    have hag := (litAt r lit).agg_size
    have hle : (litAt r lit).size ≤ Lit.sizes r.body := hsz
    have hal := aggOcc_len (litAt r lit).agg
    have hom := occM_len (aggOcc (litAt r lit).agg)
    have hlm : (locM r (litAt r lit).agg).length ≤ (occM (aggOcc (litAt r lit).agg)).length := List.length_filter_le _ _
    have h3 : Lit.sizes r.body ≤ r.size := Nat.le_add_left _ _
    rw [toldM, sortB_len, List.length_map]
    omega
/-- The turned rule's cells, its body a row of the call's own. -/
abbrev tC (r : Rule) (b : List Lit) (R : Nat) : List PV := [pS r.head.rel, .iv (slc 5 r.head.terms Term.c), .sl R 0 b.length 30, pI r.at_.line, pI r.at_.col]
abbrev stT (r : Rule) (b : List Lit) (sl : AF) : AS := ⟨[(3, .ptr 0 0), (8, pI r.body.length), (9, .iv (strs (toldM (occM (outerOcc r))))), (10, .iv (strs (toldM (occM (limOcc r))))), (11, .iv (strs (toldM (occM (plOcc r))))), (14, .sl 2 0 b.length 30)] ++ sl, [(0, some (cellsI r.c)), (2, some (rowI 30 b Lit.c))], 3⟩
abbrev stU (r : Rule) (b : List Lit) (sl : AF) (nx : Nat) : AS := ⟨[(3, .ptr 0 0), (8, pI r.body.length), (9, .iv (strs (toldM (occM (outerOcc r))))), (10, .iv (strs (toldM (occM (limOcc r))))), (11, .iv (strs (toldM (occM (plOcc r))))), (14, .sl 2 0 b.length 30), (17, .ptr 3 0)] ++ sl, [(0, some (cellsI r.c)), (2, some (rowI 30 b Lit.c)), (3, some (.cells (tC r b 2)))], nx⟩
theorem hmT (r : Rule) (b : List Lit) (R : Nat) : ∀ (j : Nat) (p : PV), [ag (⟨r.head, b, r.at_⟩ : Rule).c][j]? = some p → ∃ q, [PV.agg (tC r b R)][j]? = some q ∧ q.inRow R 30 (b.map fun x => x.c.map PV.iv).length ∧ PVle (q.frz R 30 fun k => (b.getD k default).c) p := by
  intro j p hj
  match j, hj with
  | 0, hj =>
    cases hj
    refine ⟨_, rfl, by simp [PV.inRow, inRowL], ?_⟩
    simp only [PV.frz, frzL, Nat.zero_add, Nat.beq_refl, cond_true]
    exact .refl _
  | j + 1, hj => exact nomatch hj
theorem hmT2 (r : Rule) (b : List Lit) (R : Nat) (z : Int) : ∀ (j : Nat) (p : PV), [ag (⟨r.head, b, r.at_⟩ : Rule).c, pI z][j]? = some p → ∃ q, [PV.agg (tC r b R), pI z][j]? = some q ∧ q.inRow R 30 (b.map fun x => x.c.map PV.iv).length ∧ PVle (q.frz R 30 fun k => (b.getD k default).c) p := by
  intro j p hj
  match j, hj with
  | 0, hj => exact hmT r b R 0 p hj
  | 1, hj => cases hj; exact ⟨_, rfl, trivial, .refl _⟩
  | j + 2, hj => exact nomatch hj
theorem hmS (R : Nat) (L : List Str) (y : IV) : ∀ (j : Nat) (p : PV), [.iv (strs L), .iv y][j]? = some p → ∃ q, [PV.sl R 0 L.length 1, .iv y][j]? = some q ∧ q.inRow R 1 (L.map fun x => (strC x).map PV.iv).length ∧ PVle (q.frz R 1 fun k => strC (L.getD k default)) p := by
  intro j p hj
  match j, hj with
  | 0, hj =>
    cases hj
    refine ⟨_, rfl, by simp [PV.inRow], ?_⟩
    simp only [PV.frz, Nat.zero_add, Nat.beq_refl, cond_true]
    exact .refl _
  | 1, hj => cases hj; exact ⟨_, rfl, trivial, .refl _⟩
  | j + 2, hj => exact nomatch hj
/-- The literal that is added, as the law lays it. -/
def litXI : List IV := [iI 1, iS ⟨#[112]⟩, .imm 5 1 (fun k => elOf [[iI 1, iS ⟨#[88]⟩, iI 0, iI 0, iS ByteArray.empty]] (0 + k)), iI 0, iI 0, iS ByteArray.empty, iI 0, iI 0, iS ByteArray.empty, iI 0, .v (.slice none 0 0), iI 0, iS ByteArray.empty, iI 0, iI 0, iS ByteArray.empty, iI 0, .v (.slice none 0 0), iI 0, iS ByteArray.empty, iI 0, iS ByteArray.empty, iI 0, iI 0, iS ByteArray.empty, iI 0, .v (.slice none 0 0), .v (.slice none 0 0), iI 0, iI 0]
def litRow : List PV := [pI 1, pS ⟨#[112]⟩, .sl 8 0 1 5, pI 0, pI 0, pS ByteArray.empty, pI 0, pI 0, pS ByteArray.empty, pI 0, .iv (.v (.slice none 0 0)), pI 0, pS ByteArray.empty, pI 0, pI 0, pS ByteArray.empty, pI 0, .iv (.v (.slice none 0 0)), pI 0, pS ByteArray.empty, pI 0, pS ByteArray.empty, pI 0, pI 0, pS ByteArray.empty, pI 0, .iv (.v (.slice none 0 0)), .iv (.v (.slice none 0 0)), pI 0, pI 0]
theorem litXI_le : IVles litXI litX.c := ⟨.refl _, .refl _, imm2L fun k hk => by match k, hk with | 0, _ => exact ⟨.refl _, .refl _, .refl _, .refl _, .refl _, trivial⟩, .refl _, .refl _, .refl _, .refl _, .refl _, .refl _, .refl _, .nil _ _, .refl _, .refl _, .refl _, .refl _, .refl _, .refl _, .nil _ _, .refl _, .refl _, .refl _, .refl _, .refl _, .refl _, .refl _, .refl _, .nil _ _, .nil _ _, .refl _, .refl _, trivial⟩
theorem rowApp_le {σ : Nat → Nat} {es : List (List PV)} (b : List Lit) (x : List PV) (hes : es = (b.map fun y => y.c.map PV.iv) ++ [x]) (hx : renL σ x = x) : AOle (.row 30 es) ((AO.row 30 ((b.map fun y => y.c.map PV.iv) ++ [x])).ren σ) := by
  refine .of_eq ?_
  rw [hes]
  simp only [AO.ren, List.map_append, List.map_map, List.map_cons, List.map_nil, hx]
  congr 2
theorem rowApp_low {n : Nat} (b : List Lit) (x : List PV) (hx : belowL n x = true) : (AO.row 30 ((b.map fun y => y.c.map PV.iv) ++ [x])).low n := by
  intro k e he
  rcases List.mem_append.1 (List.mem_of_getElem? he) with h | h
  · obtain ⟨y, _, rfl⟩ := List.mem_map.1 h
    exact belowL_iv n _
  · rw [List.mem_singleton] at h; subst h; exact hx
theorem rowApp_in (b : List Lit) : ∀ e ∈ (b.map fun y => y.c.map PV.iv) ++ [litRow], inRowL 8 5 1 e := by
  intro e he
  rcases List.mem_append.1 he with h | h
  · obtain ⟨y, _, rfl⟩ := List.mem_map.1 h
    exact inRowL_iv _ _ _ _
  · rw [List.mem_singleton] at h; subst h; exact rowRB_ok rfl
theorem rowApp_frz (b : List Lit) : ((b.map fun y => y.c.map PV.iv) ++ [litRow]).map (frzL 8 5 (elOf [[iI 1, iS ⟨#[88]⟩, iI 0, iI 0, iS ByteArray.empty]])) = (b.map fun y => y.c.map PV.iv) ++ [litXI.map .iv] := by
  simp only [List.map_append, List.map_map, List.map_cons, List.map_nil]
  congr 1
/-- The longer body, element by element. -/
def elU (b : List Lit) (k : Nat) : List IV := if k < b.length then (b.getD k default).c else litXI
theorem elU_ok (b : List Lit) : ∀ k e, ((b.map fun y => y.c.map PV.iv) ++ [litXI.map .iv])[k]? = some e → e = (elU b k).map .iv := by
  intro k e he
  unfold elU
  rcases Nat.lt_or_ge k b.length with h | h
  · rw [List.getElem?_append_left (by simpa using h), List.getElem?_map, Option.map_eq_some_iff] at he
    obtain ⟨y, hy, rfl⟩ := he
    rw [if_pos h, List.getD_eq_getElem?_getD, hy]; rfl
  · rw [List.getElem?_append_right (by simpa using h), List.length_map] at he
    rw [if_neg (by omega)]
    have : k - b.length = 0 := by
      have := (List.getElem?_eq_some_iff.1 he).1
      simpa using this
    rw [this] at he
    cases he; rfl
theorem ivles_refl : ∀ l : List IV, IVles l l
  | [] => trivial
  | p :: r => ⟨.refl p, ivles_refl r⟩
theorem elU_le (b : List Lit) : IVle (.imm 30 (b.length + 1) (fun k => elU b (0 + k))) (lits (b ++ [litX])) := by
  have e : (b ++ [litX]).length = b.length + 1 := by simp
  show IVle _ (.imm 30 (b ++ [litX]).length fun k => ((b ++ [litX]).getD k default).c)
  rw [e]
  refine imm2L fun k hk => ?_
  unfold elU
  simp only [Nat.zero_add, List.getD_eq_getElem?_getD]
  split
  · rename_i h
    rw [List.getElem?_append_left h]
    exact ivles_refl _
  · rename_i h
    rw [List.getElem?_append_right (by omega), show k - b.length = 0 by omega]
    exact litXI_le
set_option maxHeartbeats 4000000 in
theorem turnedA (r : Rule) (one two : Int) (hb : r.size ≤ 2000000) (hn : 0 < r.body.length) : Pure Tryz.prog 8 [ag r.c, pI one, pI two] (pB true) := by
  have hbl := Lit.length_sizes r.body
  have hrs : r.size = r.head.terms.length + Lit.sizes r.body := rfl
  obtain ⟨i0, i1⟩ := atZ_in (i := one) (n := (r.body.length : Int)) (by omega)
  obtain ⟨k0, k1⟩ := atZ_in (i := two) (n := (r.body.length : Int)) (by omega)
  have hT := turned r (atZ one r.body.length).toNat (atZ two r.body.length).toNat (.inr ⟨by omega, by omega⟩)
  generalize hO : toldM (occM (outerOcc r)) = O at *
  refine pure_end tyA_ok Tryz.func8 rfl (by decide) Tryz.ntmps8 rfl (by simp) rfl ?_
  refine gA rfl (go_pure (known_ok) rfl rfl rfl rfl rfl rfl ?_)
  refine gA rfl (go_pure (c29 sortS r (by omega)) rfl rfl rfl rfl rfl rfl ?_)
  refine gA rfl (go_pure (c31 sortS r (by omega)) rfl rfl rfl rfl rfl rfl ?_)
  refine gA rfl (go_pure (c33 sortS r (by omega)) rfl rfl rfl rfl rfl rfl ?_)
  refine gA rfl (go_pure (c37t hT.limOut) rfl rfl rfl rfl rfl rfl ?_)
  refine gA rfl (go_pure (c37t hT.plainLim) rfl rfl rfl rfl rfl rfl ?_)
  repeat (refine gA rfl (And.intro (fun q => ?_) (fun q => ?_)); all_goals (try (simp at q; done)))
  refine gM 13 rfl ?_
  refine go_wk (L := []) (t := stT r r.body [(1, pI one), (2, pI two)])
    (wk rfl rfl rfl ⟨.refl _, rfl, .refl _, rfl, .refl _, rfl, .refl _, rfl, .refl _, rfl, .row (Nat.zero_add _), rfl, .refl _, rfl, .refl _, rfl, trivial⟩ (hC rfl rfl rfl (hR rfl (src_map _ _) rfl trivial)) rfl) ?_
  refine gA rfl (go_pure (c38 one r.body.length (by omega) (by omega)) rfl rfl rfl rfl rfl rfl ?_)
  refine gA rfl (go_pure (c38 two r.body.length (by omega) (by omega)) rfl rfl rfl rfl rfl rfl ?_)
  refine gA rfl ?_
  refine And.intro (fun g => ?_) (fun g => ?_)
  rotate_left
  · have := of_decide_eq_false (show decide ((r.body.length : Int) > 0) = false from g)
    omega
  refine gA rfl (go_storeEl tyA_ok rfl rfl rfl (i := 2) (sz := 30) (q := 0 + (atZ one r.body.length).toNat) rfl rfl rfl rfl (by simp; omega) rfl rfl rfl rfl ?_)
  refine gA rfl (go_storeEl tyA_ok rfl rfl rfl (i := 2) (sz := 30) (q := 0 + (atZ two r.body.length).toNat) rfl rfl rfl rfl (by simp; omega) rfl rfl rfl rfl ?_)
  refine gM 1 rfl ?_
  refine go_wk (L := []) (t := stT r (swapL r.body (atZ one r.body.length).toNat (atZ two r.body.length).toNat) [(15, pI (atZ one r.body.length)), (16, pI (atZ two r.body.length))])
    (wk rfl rfl rfl ⟨.refl _, rfl, .refl _, rfl, .refl _, rfl, .refl _, rfl, .refl _, rfl, .row (by rw [swapL_len]), rfl, .refl _, rfl, .refl _, rfl, trivial⟩ (hC rfl rfl rfl (hR rfl (by simp only [Nat.zero_add]; exact swap_rows _ _ _) rfl trivial)) rfl) ?_
  generalize atZ one r.body.length = z1 at *
  generalize atZ two r.body.length = z2 at *
  have hbz : Lit.sizes (swapL r.body z1.toNat z2.toNat) = Lit.sizes r.body := swapL_sizes (.inr ⟨by omega, by omega⟩)
  have hbl2 := swapL_len r.body z1.toNat z2.toNat
  generalize swapL r.body z1.toNat z2.toNat = b at *
  have hts : (⟨r.head, b, r.at_⟩ : Rule).size ≤ 10000000 := by
    show r.head.terms.length + Lit.sizes b ≤ _
    omega
  have k29 := d29o sortS ⟨r.head, b, r.at_⟩ hts
  rw [hT.outer] at k29
  have k31 := d31o sortS ⟨r.head, b, r.at_⟩ hts
  rw [hT.lim] at k31
  have k33 := d33o sortS ⟨r.head, b, r.at_⟩ hts
  rw [hT.plain] at k33
  have k35 := d35o sortS ⟨r.head, b, r.at_⟩ z1 hts
  have hlo := hT.locOut
  rw [Int.toNat_of_nonneg k0] at hlo
  have hl := hT.loc
  rw [Int.toNat_of_nonneg i0, Int.toNat_of_nonneg k0] at hl
  rw [hl] at k35
  refine gM 11 rfl ?_
  refine go_wk (L := []) (t := stU r b [(15, pI z1), (16, pI z2)] 4) (wk rfl rfl rfl ⟨.refl _, rfl, .refl _, rfl, .refl _, rfl, .refl _, rfl, .refl _, rfl, .refl _, rfl, .refl _, rfl, .refl _, rfl, .refl _, rfl, trivial⟩ (hC rfl rfl rfl (hR rfl rfl rfl ⟨⟨_, rfl, .of_eq rfl⟩, Nat.le_of_ble_eq_true rfl, rfl, trivial⟩)) rfl) ?_
  refine gA rfl (go_bcall (asv := [.agg (tC r b 2)]) k29 rfl rfl rfl rfl rfl (fun M N w hr => fz1 2 30 (fun k => (b.getD k default).c) rfl (rowI_el rfl) (hmT r b 2) hr) rfl (bareS _) rfl ?_)
  refine gA rfl (go_bcall (asv := [.sl 4 0 _ 1, .iv (strs (toldM (occM (outerOcc r))))]) (Pure.det (c28s (toldM (occM (outerOcc r))))) rfl rfl rfl rfl rfl (fun M N w hr => by refine fz1 4 1 (fun k => strC ((toldM (occM (outerOcc r))).getD k default)) (es := (toldM (occM (outerOcc r))).map fun x => (strC x).map .iv) ?_ (rowI_el rfl) (hmS 4 (toldM (occM (outerOcc r))) _) hr; exact congrArg some (rowI_ren _)) rfl (fun j o hj => nomatch hj) rfl ?_)
  refine gM 2 rfl ?_
  refine go_wk (L := []) (t := stU r b [(15, pI z1), (16, pI z2), (18, pB true)] 5) (wk rfl rfl rfl ⟨.refl _, rfl, .refl _, rfl, .refl _, rfl, .refl _, rfl, .refl _, rfl, .refl _, rfl, .refl _, rfl, .refl _, rfl, .refl _, rfl, .refl _, rfl, trivial⟩ (hC rfl rfl rfl (hR rfl rfl rfl ⟨⟨_, rfl, .of_eq rfl⟩, Nat.le_of_ble_eq_true rfl, rfl, trivial⟩)) rfl) ?_
  refine gA rfl (go_bcall (asv := [.agg (tC r b 2)]) k31 rfl rfl rfl rfl rfl (fun M N w hr => fz1 2 30 (fun k => (b.getD k default).c) rfl (rowI_el rfl) (hmT r b 2) hr) rfl (bareS _) rfl ?_)
  refine gA rfl (go_bcall (asv := [.sl 5 0 _ 1, .iv (strs (toldM (occM (limOcc r))))]) (Pure.det (c28s (toldM (occM (limOcc r))))) rfl rfl rfl rfl rfl (fun M N w hr => by refine fz1 5 1 (fun k => strC ((toldM (occM (limOcc r))).getD k default)) (es := (toldM (occM (limOcc r))).map fun x => (strC x).map .iv) ?_ (rowI_el rfl) (hmS 5 (toldM (occM (limOcc r))) _) hr; exact congrArg some (rowI_ren _)) rfl (fun j o hj => nomatch hj) rfl ?_)
  refine gM 2 rfl ?_
  refine go_wk (L := []) (t := stU r b [(15, pI z1), (16, pI z2), (18, pB true), (19, pB true)] 6) (wk rfl rfl rfl ⟨.refl _, rfl, .refl _, rfl, .refl _, rfl, .refl _, rfl, .refl _, rfl, .refl _, rfl, .refl _, rfl, .refl _, rfl, .refl _, rfl, .refl _, rfl, .refl _, rfl, trivial⟩ (hC rfl rfl rfl (hR rfl rfl rfl ⟨⟨_, rfl, .of_eq rfl⟩, Nat.le_of_ble_eq_true rfl, rfl, trivial⟩)) rfl) ?_
  refine gA rfl (go_bcall (asv := [.agg (tC r b 2)]) k33 rfl rfl rfl rfl rfl (fun M N w hr => fz1 2 30 (fun k => (b.getD k default).c) rfl (rowI_el rfl) (hmT r b 2) hr) rfl (bareS _) rfl ?_)
  refine gA rfl (go_bcall (asv := [.sl 6 0 _ 1, .iv (strs (toldM (occM (plOcc r))))]) (Pure.det (c28s (toldM (occM (plOcc r))))) rfl rfl rfl rfl rfl (fun M N w hr => by refine fz1 6 1 (fun k => strC ((toldM (occM (plOcc r))).getD k default)) (es := (toldM (occM (plOcc r))).map fun x => (strC x).map .iv) ?_ (rowI_el rfl) (hmS 6 (toldM (occM (plOcc r))) _) hr; exact congrArg some (rowI_ren _)) rfl (fun j o hj => nomatch hj) rfl ?_)
  refine gM 2 rfl ?_
  refine go_wk (L := []) (t := stU r b [(15, pI z1), (16, pI z2), (18, pB true), (19, pB true), (20, pB true)] 7) (wk rfl rfl rfl ⟨.refl _, rfl, .refl _, rfl, .refl _, rfl, .refl _, rfl, .refl _, rfl, .refl _, rfl, .refl _, rfl, .refl _, rfl, .refl _, rfl, .refl _, rfl, .refl _, rfl, .refl _, rfl, trivial⟩ (hC rfl rfl rfl (hR rfl rfl rfl ⟨⟨_, rfl, .of_eq rfl⟩, Nat.le_of_ble_eq_true rfl, rfl, trivial⟩)) rfl) ?_
  refine gA rfl (go_pure (c35 sortS r z2 (by omega)) rfl rfl rfl rfl rfl rfl ?_)
  refine gA rfl (go_bcall (asv := [.agg (tC r b 2), pI z1]) k35 rfl rfl rfl rfl rfl (fun M N w hr => fz1 2 30 (fun k => (b.getD k default).c) rfl (rowI_el rfl) (hmT2 r b 2 z1) hr) rfl (bareS _) rfl ?_)
  refine gA rfl (go_bcall (asv := [.sl 7 0 _ 1, .iv (strs (locOut r z2))]) (Pure.det (c28s (locOut r z2))) rfl rfl rfl rfl rfl (fun M N w hr => by refine fz1 7 1 (fun k => strC ((locOut r z2).getD k default)) (es := (locOut r z2).map fun x => (strC x).map .iv) ?_ (rowI_el rfl) (hmS 7 (locOut r z2) _) hr; exact congrArg some (rowI_ren _)) rfl (fun j o hj => nomatch hj) rfl ?_)
  refine gM 2 rfl ?_
  refine go_wk (L := []) (t := stU r b [(16, pI z2), (18, pB true), (19, pB true), (20, pB true), (21, .iv (strs (locOut r z2))), (22, pB true)] 8) (wk rfl rfl rfl ⟨.refl _, rfl, .refl _, rfl, .refl _, rfl, .refl _, rfl, .refl _, rfl, .refl _, rfl, .refl _, rfl, .refl _, rfl, .refl _, rfl, .refl _, rfl, .refl _, rfl, .refl _, rfl, .refl _, rfl, trivial⟩ (hC rfl rfl rfl (hR rfl rfl rfl ⟨⟨_, rfl, .of_eq rfl⟩, Nat.le_of_ble_eq_true rfl, rfl, trivial⟩)) rfl) ?_
  have hcl := locOut_len r z2
  refine gA rfl ?_
  refine go_for 0 (locOut r z2).length (Nat.zero_le _) (fun j => stU r b [(16, pI z2), (18, pB true), (19, pB true), (20, pB true), (21, .iv (strs (locOut r z2))), (22, pB true), (23, pI j)] 8) (fun _ => True) [] trivial (wk rfl rfl rfl ⟨.refl _, rfl, .refl _, rfl, .refl _, rfl, .refl _, rfl, .refl _, rfl, .refl _, rfl, .refl _, rfl, .refl _, rfl, .refl _, rfl, .refl _, rfl, .refl _, rfl, .refl _, rfl, .refl _, rfl, .refl _, rfl, trivial⟩ (hC rfl rfl rfl (hR rfl rfl rfl ⟨⟨_, rfl, .of_eq rfl⟩, Nat.le_of_ble_eq_true rfl, rfl, trivial⟩)) rfl) fun j hj _ => ?_
  refine gA rfl ?_
  refine And.intro (fun h1 => ?_) (fun h1 => ?_)
  · have h1 : j < (locOut r z2).length := by simpa using h1
    have hm : (locOut r z2).getD j default ∈ locOut r z2 := by rw [List.getD_eq_getElem?_getD, List.getElem?_eq_getElem h1]; exact List.getElem_mem h1
    refine gA rfl (go_pure (c39f (hlo _ hm)) rfl rfl rfl rfl rfl rfl ?_)
    repeat (refine gA rfl (And.intro (fun q => ?_) (fun q => ?_)); all_goals (try (simp at q; done)))
    refine gA rfl ?_
    exact ⟨h1, trivial, [], (wk rfl rfl rfl ⟨.refl _, rfl, .refl _, rfl, .refl _, rfl, .refl _, rfl, .refl _, rfl, .refl _, rfl, .refl _, rfl, .refl _, rfl, .refl _, rfl, .refl _, rfl, .refl _, rfl, .refl _, rfl, .refl _, rfl, .refl _, rfl, trivial⟩ (hC rfl rfl rfl (hR rfl rfl rfl ⟨⟨_, rfl, .of_eq rfl⟩, Nat.le_of_ble_eq_true rfl, rfl, trivial⟩)) rfl)⟩
  · have h1 : (locOut r z2).length ≤ j := by simpa using h1
    refine gA rfl ?_
    refine gA rfl (go_pure (c40 nX) rfl rfl rfl rfl rfl rfl ?_)
    refine gM 13 rfl ?_
    refine go_wk (L := []) (t := ⟨[(8, pI r.body.length), (10, .iv (strs (toldM (occM (limOcc r))))), (17, .ptr 3 0), (18, pB true), (19, pB true), (20, pB true), (22, pB true)], [(3, some (.cells [pS r.head.rel, .iv (slc 5 r.head.terms Term.c), .sl 10 0 (b.length + 1) 30, pI r.at_.line, pI r.at_.col])), (8, some (.row 5 [[pI 1, pS ⟨#[88]⟩, pI 0, pI 0, pS ByteArray.empty]])), (10, some (.row 30 ((b.map fun y => y.c.map PV.iv) ++ [litRow])))], 11⟩)
      (wk rfl rfl rfl ⟨.refl _, rfl, .refl _, rfl, .refl _, rfl, .refl _, rfl, .refl _, rfl, .refl _, rfl, .refl _, rfl, trivial⟩ ⟨⟨_, rfl, .of_eq rfl⟩, Nat.le_of_ble_eq_true rfl, rfl, ⟨_, rfl, .of_eq rfl⟩, Nat.le_of_ble_eq_true rfl, row_low rfl, ⟨_, rfl, rowApp_le b litRow rfl rfl⟩, Nat.le_of_ble_eq_true rfl, rowApp_low b _ rfl, trivial⟩ rfl) ?_
    refine go_frzRR 8 (elOf [[iI 1, iS ⟨#[88]⟩, iI 0, iI 0, iS ByteArray.empty]]) rfl (hel_of rfl) (by simp [AF.okR, PV.inRow]) ⟨rowRB_ok rfl, fun e he => by rw [List.mem_singleton] at he; subst he; exact rowRB_ok rfl, rowApp_in b, trivial⟩ ?_
    refine go_wk (L := []) (t := ⟨[(8, pI r.body.length), (10, .iv (strs (toldM (occM (limOcc r))))), (17, .ptr 3 0), (18, pB true), (19, pB true), (20, pB true), (22, pB true)], [(3, some (.cells [pS r.head.rel, .iv (slc 5 r.head.terms Term.c), .sl 10 0 (b.length + 1) 30, pI r.at_.line, pI r.at_.col])), (10, some (.row 30 ((b.map fun y => y.c.map PV.iv) ++ [litXI.map .iv])))], 11⟩)
      (wk rfl rfl rfl ⟨.refl _, rfl, .refl _, rfl, .refl _, rfl, .refl _, rfl, .refl _, rfl, .refl _, rfl, .refl _, rfl, trivial⟩ ⟨⟨_, rfl, .of_eq rfl⟩, Nat.le_of_ble_eq_true rfl, rfl, ⟨_, rfl, rowApp_le b _ (rowApp_frz b) (renL_iv _ _)⟩, Nat.le_of_ble_eq_true rfl, rowApp_low b _ (belowL_iv _ _), trivial⟩ rfl) ?_
    refine go_frzR 10 (elU b) rfl (elU_ok b) (by simp [AF.okR, PV.inRow]) ⟨by simp [AO.okR, inRowL, PV.inRow], fun k e j p he hp => by rw [elU_ok b k e he, List.getElem?_map, Option.map_eq_some_iff] at hp; obtain ⟨y, _, rfl⟩ := hp; exact ⟨y, rfl⟩, trivial⟩ ?_
    refine go_wk (L := []) (t := ⟨[(8, pI r.body.length), (10, .iv (strs (toldM (occM (limOcc r))))), (17, .ptr 3 0), (18, pB true), (19, pB true), (20, pB true), (22, pB true)], [(3, some (cellsI (⟨r.head, b ++ [litX], r.at_⟩ : Rule).c))], 11⟩)
      (wk rfl rfl rfl ⟨.refl _, rfl, .refl _, rfl, .refl _, rfl, .refl _, rfl, .refl _, rfl, .refl _, rfl, .refl _, rfl, trivial⟩ ⟨⟨_, rfl, .cells ⟨.refl _, .refl _, .iv (elU_le b), .refl _, .refl _, trivial⟩⟩, Nat.le_of_ble_eq_true rfl, rfl, trivial⟩ rfl) ?_
    have hus : (⟨r.head, b ++ [litX], r.at_⟩ : Rule).size ≤ 10000000 := by
      show r.head.terms.length + Lit.sizes (b ++ [litX]) ≤ _
      rw [sizes_snoc, litX_size]
      omega
    refine gA rfl (go_pure (c31 sortS (⟨r.head, b ++ [litX], r.at_⟩ : Rule) hus) rfl rfl rfl rfl rfl rfl ?_)
    refine gA rfl (go_pure (c37t hT.more) rfl rfl rfl rfl rfl rfl ?_)
    refine gA rfl (go_pure (c31 sortS (⟨r.head, b ++ [litX], r.at_⟩ : Rule) hus) rfl rfl rfl rfl rfl rfl ?_)
    refine gA rfl (go_pure (c39t hT.hasX) rfl rfl rfl rfl rfl rfl ?_)
    repeat (refine gA rfl (And.intro (fun q => ?_) (fun q => ?_)); all_goals (try (simp at q; done)))
    refine gA rfl (end_le (by first | exact .inr rfl | exact .inl rfl) rfl (.of_eq ?_))
    rfl
set_option maxHeartbeats 4000000 in
theorem turnedZ (r : Rule) (one two : Int) (hb : r.size ≤ 2000000) (hn : r.body = []) : Pure Tryz.prog 8 [ag r.c, pI one, pI two] (pB true) := by
  have hbl := Lit.length_sizes r.body
  have hrs : r.size = r.head.terms.length + Lit.sizes r.body := rfl
  have hl0 : r.body.length = 0 := by rw [hn]; rfl
  have e1 : atZ one r.body.length = 0 := by rw [hl0]; rfl
  have e2 : atZ two r.body.length = 0 := by rw [hl0]; rfl
  have i0 : 0 ≤ atZ one r.body.length := by omega
  have k0 : 0 ≤ atZ two r.body.length := by omega
  have hT := turned r (atZ one r.body.length).toNat (atZ two r.body.length).toNat (.inl hn)
  generalize hO : toldM (occM (outerOcc r)) = O at *
  refine pure_end tyA_ok Tryz.func8 rfl (by decide) Tryz.ntmps8 rfl (by simp) rfl ?_
  refine gA rfl (go_pure (known_ok) rfl rfl rfl rfl rfl rfl ?_)
  refine gA rfl (go_pure (c29 sortS r (by omega)) rfl rfl rfl rfl rfl rfl ?_)
  refine gA rfl (go_pure (c31 sortS r (by omega)) rfl rfl rfl rfl rfl rfl ?_)
  refine gA rfl (go_pure (c33 sortS r (by omega)) rfl rfl rfl rfl rfl rfl ?_)
  refine gA rfl (go_pure (c37t hT.limOut) rfl rfl rfl rfl rfl rfl ?_)
  refine gA rfl (go_pure (c37t hT.plainLim) rfl rfl rfl rfl rfl rfl ?_)
  repeat (refine gA rfl (And.intro (fun q => ?_) (fun q => ?_)); all_goals (try (simp at q; done)))
  refine gM 13 rfl ?_
  refine go_wk (L := []) (t := stT r r.body [(1, pI one), (2, pI two)])
    (wk rfl rfl rfl ⟨.refl _, rfl, .refl _, rfl, .refl _, rfl, .refl _, rfl, .refl _, rfl, .row (Nat.zero_add _), rfl, .refl _, rfl, .refl _, rfl, trivial⟩ (hC rfl rfl rfl (hR rfl (src_map _ _) rfl trivial)) rfl) ?_
  refine gA rfl (go_pure (c38 one r.body.length (by omega) (by omega)) rfl rfl rfl rfl rfl rfl ?_)
  refine gA rfl (go_pure (c38 two r.body.length (by omega) (by omega)) rfl rfl rfl rfl rfl rfl ?_)
  refine gA rfl ?_
  refine And.intro (fun g => ?_) (fun g => ?_)
  · have := of_decide_eq_true (show decide ((r.body.length : Int) > 0) = true from g)
    omega
  refine gM 1 rfl ?_
  refine go_wk (L := []) (t := stT r (swapL r.body (atZ one r.body.length).toNat (atZ two r.body.length).toNat) [(15, pI (atZ one r.body.length)), (16, pI (atZ two r.body.length))])
    (wk rfl rfl rfl ⟨.refl _, rfl, .refl _, rfl, .refl _, rfl, .refl _, rfl, .refl _, rfl, .row (by rw [swapL_len]), rfl, .refl _, rfl, .refl _, rfl, trivial⟩ (hC rfl rfl rfl (hR rfl (by rw [hn]; rfl) rfl trivial)) rfl) ?_
  generalize atZ one r.body.length = z1 at *
  generalize atZ two r.body.length = z2 at *
  have hbz : Lit.sizes (swapL r.body z1.toNat z2.toNat) = Lit.sizes r.body := swapL_sizes (.inl hn)
  have hbl2 := swapL_len r.body z1.toNat z2.toNat
  generalize swapL r.body z1.toNat z2.toNat = b at *
  have hts : (⟨r.head, b, r.at_⟩ : Rule).size ≤ 10000000 := by
    show r.head.terms.length + Lit.sizes b ≤ _
    omega
  have k29 := d29o sortS ⟨r.head, b, r.at_⟩ hts
  rw [hT.outer] at k29
  have k31 := d31o sortS ⟨r.head, b, r.at_⟩ hts
  rw [hT.lim] at k31
  have k33 := d33o sortS ⟨r.head, b, r.at_⟩ hts
  rw [hT.plain] at k33
  have k35 := d35o sortS ⟨r.head, b, r.at_⟩ z1 hts
  have hlo := hT.locOut
  rw [Int.toNat_of_nonneg k0] at hlo
  have hl := hT.loc
  rw [Int.toNat_of_nonneg i0, Int.toNat_of_nonneg k0] at hl
  rw [hl] at k35
  refine gM 11 rfl ?_
  refine go_wk (L := []) (t := stU r b [(15, pI z1), (16, pI z2)] 4) (wk rfl rfl rfl ⟨.refl _, rfl, .refl _, rfl, .refl _, rfl, .refl _, rfl, .refl _, rfl, .refl _, rfl, .refl _, rfl, .refl _, rfl, .refl _, rfl, trivial⟩ (hC rfl rfl rfl (hR rfl rfl rfl ⟨⟨_, rfl, .of_eq rfl⟩, Nat.le_of_ble_eq_true rfl, rfl, trivial⟩)) rfl) ?_
  refine gA rfl (go_bcall (asv := [.agg (tC r b 2)]) k29 rfl rfl rfl rfl rfl (fun M N w hr => fz1 2 30 (fun k => (b.getD k default).c) rfl (rowI_el rfl) (hmT r b 2) hr) rfl (bareS _) rfl ?_)
  refine gA rfl (go_bcall (asv := [.sl 4 0 _ 1, .iv (strs (toldM (occM (outerOcc r))))]) (Pure.det (c28s (toldM (occM (outerOcc r))))) rfl rfl rfl rfl rfl (fun M N w hr => by refine fz1 4 1 (fun k => strC ((toldM (occM (outerOcc r))).getD k default)) (es := (toldM (occM (outerOcc r))).map fun x => (strC x).map .iv) ?_ (rowI_el rfl) (hmS 4 (toldM (occM (outerOcc r))) _) hr; exact congrArg some (rowI_ren _)) rfl (fun j o hj => nomatch hj) rfl ?_)
  refine gM 2 rfl ?_
  refine go_wk (L := []) (t := stU r b [(15, pI z1), (16, pI z2), (18, pB true)] 5) (wk rfl rfl rfl ⟨.refl _, rfl, .refl _, rfl, .refl _, rfl, .refl _, rfl, .refl _, rfl, .refl _, rfl, .refl _, rfl, .refl _, rfl, .refl _, rfl, .refl _, rfl, trivial⟩ (hC rfl rfl rfl (hR rfl rfl rfl ⟨⟨_, rfl, .of_eq rfl⟩, Nat.le_of_ble_eq_true rfl, rfl, trivial⟩)) rfl) ?_
  refine gA rfl (go_bcall (asv := [.agg (tC r b 2)]) k31 rfl rfl rfl rfl rfl (fun M N w hr => fz1 2 30 (fun k => (b.getD k default).c) rfl (rowI_el rfl) (hmT r b 2) hr) rfl (bareS _) rfl ?_)
  refine gA rfl (go_bcall (asv := [.sl 5 0 _ 1, .iv (strs (toldM (occM (limOcc r))))]) (Pure.det (c28s (toldM (occM (limOcc r))))) rfl rfl rfl rfl rfl (fun M N w hr => by refine fz1 5 1 (fun k => strC ((toldM (occM (limOcc r))).getD k default)) (es := (toldM (occM (limOcc r))).map fun x => (strC x).map .iv) ?_ (rowI_el rfl) (hmS 5 (toldM (occM (limOcc r))) _) hr; exact congrArg some (rowI_ren _)) rfl (fun j o hj => nomatch hj) rfl ?_)
  refine gM 2 rfl ?_
  refine go_wk (L := []) (t := stU r b [(15, pI z1), (16, pI z2), (18, pB true), (19, pB true)] 6) (wk rfl rfl rfl ⟨.refl _, rfl, .refl _, rfl, .refl _, rfl, .refl _, rfl, .refl _, rfl, .refl _, rfl, .refl _, rfl, .refl _, rfl, .refl _, rfl, .refl _, rfl, .refl _, rfl, trivial⟩ (hC rfl rfl rfl (hR rfl rfl rfl ⟨⟨_, rfl, .of_eq rfl⟩, Nat.le_of_ble_eq_true rfl, rfl, trivial⟩)) rfl) ?_
  refine gA rfl (go_bcall (asv := [.agg (tC r b 2)]) k33 rfl rfl rfl rfl rfl (fun M N w hr => fz1 2 30 (fun k => (b.getD k default).c) rfl (rowI_el rfl) (hmT r b 2) hr) rfl (bareS _) rfl ?_)
  refine gA rfl (go_bcall (asv := [.sl 6 0 _ 1, .iv (strs (toldM (occM (plOcc r))))]) (Pure.det (c28s (toldM (occM (plOcc r))))) rfl rfl rfl rfl rfl (fun M N w hr => by refine fz1 6 1 (fun k => strC ((toldM (occM (plOcc r))).getD k default)) (es := (toldM (occM (plOcc r))).map fun x => (strC x).map .iv) ?_ (rowI_el rfl) (hmS 6 (toldM (occM (plOcc r))) _) hr; exact congrArg some (rowI_ren _)) rfl (fun j o hj => nomatch hj) rfl ?_)
  refine gM 2 rfl ?_
  refine go_wk (L := []) (t := stU r b [(15, pI z1), (16, pI z2), (18, pB true), (19, pB true), (20, pB true)] 7) (wk rfl rfl rfl ⟨.refl _, rfl, .refl _, rfl, .refl _, rfl, .refl _, rfl, .refl _, rfl, .refl _, rfl, .refl _, rfl, .refl _, rfl, .refl _, rfl, .refl _, rfl, .refl _, rfl, .refl _, rfl, trivial⟩ (hC rfl rfl rfl (hR rfl rfl rfl ⟨⟨_, rfl, .of_eq rfl⟩, Nat.le_of_ble_eq_true rfl, rfl, trivial⟩)) rfl) ?_
  refine gA rfl (go_pure (c35 sortS r z2 (by omega)) rfl rfl rfl rfl rfl rfl ?_)
  refine gA rfl (go_bcall (asv := [.agg (tC r b 2), pI z1]) k35 rfl rfl rfl rfl rfl (fun M N w hr => fz1 2 30 (fun k => (b.getD k default).c) rfl (rowI_el rfl) (hmT2 r b 2 z1) hr) rfl (bareS _) rfl ?_)
  refine gA rfl (go_bcall (asv := [.sl 7 0 _ 1, .iv (strs (locOut r z2))]) (Pure.det (c28s (locOut r z2))) rfl rfl rfl rfl rfl (fun M N w hr => by refine fz1 7 1 (fun k => strC ((locOut r z2).getD k default)) (es := (locOut r z2).map fun x => (strC x).map .iv) ?_ (rowI_el rfl) (hmS 7 (locOut r z2) _) hr; exact congrArg some (rowI_ren _)) rfl (fun j o hj => nomatch hj) rfl ?_)
  refine gM 2 rfl ?_
  refine go_wk (L := []) (t := stU r b [(16, pI z2), (18, pB true), (19, pB true), (20, pB true), (21, .iv (strs (locOut r z2))), (22, pB true)] 8) (wk rfl rfl rfl ⟨.refl _, rfl, .refl _, rfl, .refl _, rfl, .refl _, rfl, .refl _, rfl, .refl _, rfl, .refl _, rfl, .refl _, rfl, .refl _, rfl, .refl _, rfl, .refl _, rfl, .refl _, rfl, .refl _, rfl, trivial⟩ (hC rfl rfl rfl (hR rfl rfl rfl ⟨⟨_, rfl, .of_eq rfl⟩, Nat.le_of_ble_eq_true rfl, rfl, trivial⟩)) rfl) ?_
  have hcl := locOut_len r z2
  refine gA rfl ?_
  refine go_for 0 (locOut r z2).length (Nat.zero_le _) (fun j => stU r b [(16, pI z2), (18, pB true), (19, pB true), (20, pB true), (21, .iv (strs (locOut r z2))), (22, pB true), (23, pI j)] 8) (fun _ => True) [] trivial (wk rfl rfl rfl ⟨.refl _, rfl, .refl _, rfl, .refl _, rfl, .refl _, rfl, .refl _, rfl, .refl _, rfl, .refl _, rfl, .refl _, rfl, .refl _, rfl, .refl _, rfl, .refl _, rfl, .refl _, rfl, .refl _, rfl, .refl _, rfl, trivial⟩ (hC rfl rfl rfl (hR rfl rfl rfl ⟨⟨_, rfl, .of_eq rfl⟩, Nat.le_of_ble_eq_true rfl, rfl, trivial⟩)) rfl) fun j hj _ => ?_
  refine gA rfl ?_
  refine And.intro (fun h1 => ?_) (fun h1 => ?_)
  · have h1 : j < (locOut r z2).length := by simpa using h1
    have hm : (locOut r z2).getD j default ∈ locOut r z2 := by rw [List.getD_eq_getElem?_getD, List.getElem?_eq_getElem h1]; exact List.getElem_mem h1
    refine gA rfl (go_pure (c39f (hlo _ hm)) rfl rfl rfl rfl rfl rfl ?_)
    repeat (refine gA rfl (And.intro (fun q => ?_) (fun q => ?_)); all_goals (try (simp at q; done)))
    refine gA rfl ?_
    exact ⟨h1, trivial, [], (wk rfl rfl rfl ⟨.refl _, rfl, .refl _, rfl, .refl _, rfl, .refl _, rfl, .refl _, rfl, .refl _, rfl, .refl _, rfl, .refl _, rfl, .refl _, rfl, .refl _, rfl, .refl _, rfl, .refl _, rfl, .refl _, rfl, .refl _, rfl, trivial⟩ (hC rfl rfl rfl (hR rfl rfl rfl ⟨⟨_, rfl, .of_eq rfl⟩, Nat.le_of_ble_eq_true rfl, rfl, trivial⟩)) rfl)⟩
  · have h1 : (locOut r z2).length ≤ j := by simpa using h1
    refine gA rfl ?_
    refine gA rfl (go_pure (c40 nX) rfl rfl rfl rfl rfl rfl ?_)
    refine gM 13 rfl ?_
    refine go_wk (L := []) (t := ⟨[(8, pI r.body.length), (10, .iv (strs (toldM (occM (limOcc r))))), (17, .ptr 3 0), (18, pB true), (19, pB true), (20, pB true), (22, pB true)], [(3, some (.cells [pS r.head.rel, .iv (slc 5 r.head.terms Term.c), .sl 10 0 (b.length + 1) 30, pI r.at_.line, pI r.at_.col])), (8, some (.row 5 [[pI 1, pS ⟨#[88]⟩, pI 0, pI 0, pS ByteArray.empty]])), (10, some (.row 30 ((b.map fun y => y.c.map PV.iv) ++ [litRow])))], 11⟩)
      (wk rfl rfl rfl ⟨.refl _, rfl, .refl _, rfl, .refl _, rfl, .refl _, rfl, .refl _, rfl, .refl _, rfl, .refl _, rfl, trivial⟩ ⟨⟨_, rfl, .of_eq rfl⟩, Nat.le_of_ble_eq_true rfl, rfl, ⟨_, rfl, .of_eq rfl⟩, Nat.le_of_ble_eq_true rfl, row_low rfl, ⟨_, rfl, rowApp_le b litRow rfl rfl⟩, Nat.le_of_ble_eq_true rfl, rowApp_low b _ rfl, trivial⟩ rfl) ?_
    refine go_frzRR 8 (elOf [[iI 1, iS ⟨#[88]⟩, iI 0, iI 0, iS ByteArray.empty]]) rfl (hel_of rfl) (by simp [AF.okR, PV.inRow]) ⟨rowRB_ok rfl, fun e he => by rw [List.mem_singleton] at he; subst he; exact rowRB_ok rfl, rowApp_in b, trivial⟩ ?_
    refine go_wk (L := []) (t := ⟨[(8, pI r.body.length), (10, .iv (strs (toldM (occM (limOcc r))))), (17, .ptr 3 0), (18, pB true), (19, pB true), (20, pB true), (22, pB true)], [(3, some (.cells [pS r.head.rel, .iv (slc 5 r.head.terms Term.c), .sl 10 0 (b.length + 1) 30, pI r.at_.line, pI r.at_.col])), (10, some (.row 30 ((b.map fun y => y.c.map PV.iv) ++ [litXI.map .iv])))], 11⟩)
      (wk rfl rfl rfl ⟨.refl _, rfl, .refl _, rfl, .refl _, rfl, .refl _, rfl, .refl _, rfl, .refl _, rfl, .refl _, rfl, trivial⟩ ⟨⟨_, rfl, .of_eq rfl⟩, Nat.le_of_ble_eq_true rfl, rfl, ⟨_, rfl, rowApp_le b _ (rowApp_frz b) (renL_iv _ _)⟩, Nat.le_of_ble_eq_true rfl, rowApp_low b _ (belowL_iv _ _), trivial⟩ rfl) ?_
    refine go_frzR 10 (elU b) rfl (elU_ok b) (by simp [AF.okR, PV.inRow]) ⟨by simp [AO.okR, inRowL, PV.inRow], fun k e j p he hp => by rw [elU_ok b k e he, List.getElem?_map, Option.map_eq_some_iff] at hp; obtain ⟨y, _, rfl⟩ := hp; exact ⟨y, rfl⟩, trivial⟩ ?_
    refine go_wk (L := []) (t := ⟨[(8, pI r.body.length), (10, .iv (strs (toldM (occM (limOcc r))))), (17, .ptr 3 0), (18, pB true), (19, pB true), (20, pB true), (22, pB true)], [(3, some (cellsI (⟨r.head, b ++ [litX], r.at_⟩ : Rule).c))], 11⟩)
      (wk rfl rfl rfl ⟨.refl _, rfl, .refl _, rfl, .refl _, rfl, .refl _, rfl, .refl _, rfl, .refl _, rfl, .refl _, rfl, trivial⟩ ⟨⟨_, rfl, .cells ⟨.refl _, .refl _, .iv (elU_le b), .refl _, .refl _, trivial⟩⟩, Nat.le_of_ble_eq_true rfl, rfl, trivial⟩ rfl) ?_
    have hus : (⟨r.head, b ++ [litX], r.at_⟩ : Rule).size ≤ 10000000 := by
      show r.head.terms.length + Lit.sizes (b ++ [litX]) ≤ _
      rw [sizes_snoc, litX_size]
      omega
    refine gA rfl (go_pure (c31 sortS (⟨r.head, b ++ [litX], r.at_⟩ : Rule) hus) rfl rfl rfl rfl rfl rfl ?_)
    refine gA rfl (go_pure (c37t hT.more) rfl rfl rfl rfl rfl rfl ?_)
    refine gA rfl (go_pure (c31 sortS (⟨r.head, b ++ [litX], r.at_⟩ : Rule) hus) rfl rfl rfl rfl rfl rfl ?_)
    refine gA rfl (go_pure (c39t hT.hasX) rfl rfl rfl rfl rfl rfl ?_)
    repeat (refine gA rfl (And.intro (fun q => ?_) (fun q => ?_)); all_goals (try (simp at q; done)))
    refine gA rfl (end_le (by first | exact .inr rfl | exact .inl rfl) rfl (.of_eq ?_))
    rfl
/-- SoundTurned, on data, whole. -/
theorem turned_all (r : Rule) (one two : Int) (hb : r.size ≤ 2000000) : Pure Tryz.prog 8 [ag r.c, pI one, pI two] (pB true) := by
  by_cases hn : r.body = []
  · exact turnedZ r one two hb hn
  · exact turnedA r one two hb (List.length_pos_iff.2 hn)
end Go.Proofs.YtpnclpbkecjinaaGreatDoorR
/-
  The card of SoundTurned: for every input of the bound, the law answers true and leaves its arguments as they were.
-/
namespace Go.Proofs.YtpnclpbkecjinaaGreatDoorR
open Go Go.Al Go.ChangeShapes Go.WideShapes Go.RowKit
set_option maxRecDepth 100000
abbrev argsTurned : Array Value := #[.agg #[.string .empty, .slice none 0 0, .slice none 0 0, .int .i64 0, .int .i64 0], .int .i64 0, .int .i64 0]
theorem contractTurned (H : Type) (enc : TypeId × Value → H) (W : World) (base : Nat) (args : Array Value) (ds gs : List (DataW H)) (before : List MemPlace)
    (hval : ∀ (j : Nat) t v, Tryz.f8.params[j]? = some t → args[j]? = some v → Value.okWide Tryz.prog W .any base t v)
    (hW : DataW.Whole enc Tryz.prog Tryz.f8.params.toList Rows.soundTurnedSpec.vars false W args.toList ds gs before) (hk : Rows.uptoSmall H (ds ++ gs) = true) (hL : laidMetH Tryz.prog laid3 W) :
    Calls Tryz.prog 8 args W fun e W' => ∃ v, e = .returned v ∧ Rows.soundTurnedSpec.post enc Tryz.prog Tryz.f8 false true false false W args v W' := by
  have hT := tabOK_of hL
  have hW' := hW
  obtain ⟨p, q, hA0, hV, rfl, hfz, hnd⟩ := hW
  have hA : DataW.TrodAll enc Tryz.prog W 0 (fun _ => true) true Tryz.f8.params.toList args.toList ds p := hA0
  rw [Tryz.params8] at hA hval
  obtain ⟨v0, vs0, d0, ds0, p0, q0, hargs, rfl, rfl, h0, r0⟩ := trodAll_cons hA
  obtain ⟨v1, vs1, d1, ds1, p1, q1, rfl, rfl, rfl, h1, r1⟩ := trodAll_cons r0
  obtain ⟨v2, vs2, d2, ds2, p2, q2, rfl, rfl, rfl, h2, r2⟩ := trodAll_cons r1
  obtain ⟨rfl, rfl, rfl⟩ := trodAll_nil r2
  obtain rfl : args = [v0, v1, v2].toArray := by cases args; simp_all
  obtain ⟨rfl, rfl⟩ := trodVars_none hV
  obtain ⟨x0, q0, hv0⟩ := arg_rule hT ⟨base, hval 0 61 v0 rfl rfl⟩ h0
  obtain ⟨x1, q1, hv1⟩ := arg_int hT ⟨base, hval 1 3 v1 rfl rfl⟩ h1
  obtain ⟨x2, q2, hv2⟩ := arg_int hT ⟨base, hval 2 3 v2 rfl rfl⟩ h2
  have hb := bound hk
  simp only [List.append_nil, Rows.uptoBulkAll] at hb
  refine post_of_pure hT (turned_all x0 x1 x2 (by have := q0.1; simp only [bk] at this; omega)) rfl (fun j p hj => ?_) (by rw [Tryz.params8]; exact of_decide_eq_true (by kernel_rfl)) rfl (by kernel_rfl) hW' rfl rfl rfl
  match j, hj with
  | 0, hj => cases hj; exact hv0
  | 1, hj => cases hj; exact hv1
  | 2, hj => cases hj; exact hv2
theorem laidMetTurned (os : Os) : laidMet Tryz.prog Rows.soundTurnedUptoRow.laid ((laidWorld os).forCall (fun _ _ => 0) ⟨#[], argsTurned, []⟩).memory :=
  laidMet_of_run' 8 (by kernel_rfl) (by kernel_rfl)
theorem readsTurned (os : Os) {H : Type} (enc : TypeId × Value → H) : ∃ places, DataW.whole enc Tryz.prog ((laidWorld os).forCall (fun _ _ => 0) ⟨#[], argsTurned, []⟩).memory Tryz.f8.params.toList Rows.soundTurnedSpec.vars false argsTurned.toList 8 = some ([.agg [.agg [.lit (.string []), .nil], .nil, .agg [.lit (.int .i64 0), .lit (.int .i64 0)]], .lit (.int .i64 0), .lit (.int .i64 0)], [], places) :=
  ⟨[], by kernel_rfl⟩
theorem liftedTurned (os : Os) (started : os.Started) (H : Type) (enc : TypeId × Value → H) (F : Stop.Interp) :
    ReturnsInHanded {} Tryz.checked os 8 .any ((Rows.OpenSpec.upto Rows.soundTurnedSpec).preRow enc Tryz.prog Tryz.f8 Rows.soundTurnedUptoRow.domain false Rows.soundTurnedUptoRow.laid) (((Rows.OpenSpec.upto Rows.soundTurnedSpec).at F).post enc Tryz.prog Tryz.f8 false true false false) := by
  obtain ⟨places, hx⟩ := readsTurned os enc
  refine returnsInHanded_of_row (C := Tryz.checked) (s := Rows.OpenSpec.upto Rows.soundTurnedSpec) own started (by kernel_rfl) Tryz.func8
    (witness_row_at (enc := enc) (C := Tryz.checked) false (laidWorld os) argsTurned rfl (by kernel_rfl) (by kernel_rfl) (by kernel_rfl)
      (OpenSpec.preRow_of_cond 8 hx (by kernel_rfl) (fun k hk => by cases hk; kernel_rfl) (by kernel_rfl) (laidMetTurned os))) ?_
  intro W base args ds gs before hval hW _ hcond _ hL _ _
  exact contractTurned H enc W base args ds gs before hval hW (hcond _ rfl) hL
theorem saidTurned : Rows.SoundTurnedUptoSaid :=
  OpenClaim.holds_of_cond 8 Tryz.f8 rfl rfl rfl rfl rfl rfl rfl ⟨rfl, rfl, rfl, rfl, rfl⟩ rfl rfl rfl rfl rfl (by kernel_rfl) Tryz.func8 (by kernel_rfl)
    (of_decide_eq_true (by kernel_rfl)) (by unfold Func.isWrapper; first | (rw [if_pos (by decide +kernel)]; kernel_rfl) | (rw [if_neg (by decide +kernel)]; exact ⟨rfl, rfl⟩))
    (fun os started H enc _ F => by rw [OpenClaim.pre_eq_preRow]; exact liftedTurned os started H enc F)
theorem plainParamsTurned (f : FuncId) (fn : Func) (hf : Tryz.pinned.checked.prog.funcNamed "pedigree/pedigreelaw06.SoundTurned" = some f) (hfn : Tryz.pinned.checked.prog.funcs[f]? = some fn) :
    false = Tryz.pinned.checked.prog.looks [] ∧ ∀ (j : Nat) t, fn.params[j]? = some t → Tryz.pinned.checked.prog.wantsStandIn t = false := by
  obtain rfl : f = 8 := Option.some.inj ((show Tryz.prog.funcNamed "pedigree/pedigreelaw06.SoundTurned" = some 8 by kernel_rfl).symm.trans hf) |>.symm
  obtain rfl : fn = Tryz.f8 := (Option.some.inj (Tryz.func8.symm.trans hfn)).symm
  refine ⟨by kernel_rfl, fun j t ht => ?_⟩
  rw [Tryz.params8] at ht
  match j, ht with
  | 0, ht => cases ht; exact (show Tryz.prog.wantsStandIn 61 = false by kernel_rfl)
  | 1, ht => cases ht; exact (show Tryz.prog.wantsStandIn 3 = false by kernel_rfl)
  | 2, ht => cases ht; exact (show Tryz.prog.wantsStandIn 3 = false by kernel_rfl)
/-- THE CARD. -/
theorem soundTurned_card : Rows.SoundTurnedUptoCardSaid :=
  Claim7.holds_tied_plain_at .later [] _ _ _ _ saidTurned (fun _ h => by cases h) (by kernel_rfl) (fun _ h => by cases h) soundTurnedUpto_row_tie rfl ⟨rfl, rfl⟩ (by kernel_rfl) rfl plainParamsTurned (by kernel_rfl)
end Go.Proofs.YtpnclpbkecjinaaGreatDoorR
