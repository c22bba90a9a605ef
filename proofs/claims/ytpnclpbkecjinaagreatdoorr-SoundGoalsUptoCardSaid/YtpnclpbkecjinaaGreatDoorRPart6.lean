/-
  What the proofs of the claims need: XEb, XRd. Part 6 of 7.
-/
import Derived.Test.YtpnclpbkecjinaaGreatDoorRPart5
import Derived.KernelRfl
import Derived.Test.YtpnclpbkecjinaaGreatDoorRRows
/-
  Fact, Goal.
-/
namespace Go.Proofs.YtpnclpbkecjinaaGreatDoorR
open Go Go.Al
set_option maxRecDepth 10000
def fitB (p : Prog) (f : Fact) (j : Nat) : Bool := decide ((f.args.getD j default).kind = (declOf p f.rel).types.getD j default)
def factR (p : Prog) (f : Fact) : Int :=
  if hasK .str (relsM p) f.rel = false ∨ factOK f = false ∨ ¬ (f.args.length : Int) = ((declOf p f.rel).types.length : Int) then 5
  else if (List.range f.args.length).all (fitB p f) = true then 0 else 5
theorem range_all {q : Nat → Bool} {n : Nat} (h : ∀ j, j < n → q j = true) : (List.range n).all q = true := List.all_eq_true.2 fun j hj => h j (List.mem_range.1 hj)
theorem range_not {q : Nat → Bool} {n j : Nat} (h : j < n) (hq : q j = false) : ¬ (List.range n).all q = true := fun e => by
  have := List.all_eq_true.1 e j (List.mem_range.2 h)
  rw [hq] at this; cases this
theorem c16 (p : Prog) (f : Fact) (hb : p.rels.length ≤ 1000000000) (hf : f.args.length ≤ 1000000000) : Pure Tryz.prog 16 [ag p.c, ag f.c] (pI (factR p f)) := by
  refine pure_end tyA_ok Tryz.func16 rfl (by decide) Tryz.ntmps16 rfl (by simp) rfl ?_
  refine gA rfl (go_ddet tyA_ok [] (d50 p (by omega)) rfl rfl rfl rfl rfl rfl rfl rfl rfl rfl rfl rfl (by (repeat' (first | exact trivial | exact rfl | exact PVle.refl _ | exact PVle.bk (by assumption) | apply And.intro)) <;> first | omega | (simp only [Int.toNat_natCast]; omega) | (simp; done) | (simp; omega)) rfl (by (repeat' (first | exact trivial | exact rfl | exact PVle.refl _ | exact PVle.bk (by assumption) | apply And.intro)) <;> first | omega | (simp only [Int.toNat_natCast]; omega) | (simp; done) | (simp; omega)) ?_)
  refine gA rfl ?_
  refine And.intro (fun g1 => ?_) (fun g1 => ?_)
  rotate_left
  · have g1 : hasK .str (relsM p) f.rel = false := by simpa using g1
    rw [factR, if_pos (.inl g1)]
    refine gA rfl (end_le (by first | exact .inr rfl | exact .inl rfl) rfl (.of_eq ?_))
    rfl
  have g1 : ¬ hasK .str (relsM p) f.rel = false := by
    have g : (!hasK .str (relsM p) f.rel) = false := g1
    intro h; rw [h] at g; cases g
  refine gA rfl (go_pure (c55 f) rfl rfl rfl rfl rfl rfl ?_)
  refine gA rfl ?_
  refine And.intro (fun g2 => ?_) (fun g2 => ?_)
  rotate_left
  · have g2 : factOK f = false := by
      cases h : factOK f with
      | false => rfl
      | true =>
        have g : (!decide ((if factOK f then (0 : Int) else 20) = 0)) = true := g2
        rw [h] at g; simp at g
    rw [factR, if_pos (.inr (.inl g2))]
    refine gA rfl (end_le (by first | exact .inr rfl | exact .inl rfl) rfl (.of_eq ?_))
    rfl
  have g2 : ¬ factOK f = false := by
    intro h
    have g : (!decide ((if factOK f then (0 : Int) else 20) = 0)) = false := g2
    rw [h] at g; simp at g
  refine gA rfl ?_
  refine And.intro (fun g3 => ?_) (fun g3 => ?_)
  · have g3 : ¬ (f.args.length : Int) = ((declOf p f.rel).types.length : Int) := by
      have g : (!decide ((f.args.length : Int) = ((declOf p f.rel).types.length : Int))) = true := g3
      simpa only [Bool.not_eq_true', decide_eq_false_iff_not] using g
    rw [factR, if_pos (.inr (.inr g3))]
    refine gA rfl (end_le (by first | exact .inr rfl | exact .inl rfl) rfl (.of_eq ?_))
    rfl
  have g3 : (f.args.length : Int) = ((declOf p f.rel).types.length : Int) := by
    have g : (!decide ((f.args.length : Int) = ((declOf p f.rel).types.length : Int))) = false := g3
    simpa only [Bool.not_eq_false', decide_eq_true_eq] using g
  rw [factR, if_neg (by rintro (h | h | h); exact g1 h; exact g2 h; exact h g3)]
  refine gA rfl ?_
  refine go_for 0 f.args.length (Nat.zero_le _) (fun i => ⟨[(5, .ptr 3 0), (34, .iv (slc 3 f.args Val.c)), (35, pI f.args.length), (36, pI i)], [(3, some (cellsI (declOf p f.rel).c))], 4⟩) (fun i => ∀ j, j < i → fitB p f j = true) [] (fun j hj => absurd hj (Nat.not_lt_zero j))
    (wk rfl rfl rfl ⟨.refl _, rfl, .refl _, rfl, .refl _, rfl, .refl _, rfl, trivial⟩ ⟨⟨_, rfl, .of_eq rfl⟩, Nat.le_of_ble_eq_true rfl, rfl, trivial⟩ rfl) fun i hi hJ => ?_
  refine gA rfl ?_
  refine And.intro (fun h1 => ?_) (fun h1 => ?_)
  · have h1 : i < f.args.length := Int.ofNat_lt.1 (of_decide_eq_true h1)
    refine gA rfl ?_
    refine And.intro (fun h2 => ?_) (fun h2 => ?_)
    · have h2 : fitB p f i = false := by
        have g : (!fitB p f i) = true := h2
        simpa using g
      rw [if_neg (range_not h1 h2)]
      refine gA rfl (end_le (by first | exact .inr rfl | exact .inl rfl) rfl (.of_eq ?_))
      rfl
    · have h2 : fitB p f i = true := by
        have g : (!fitB p f i) = false := h2
        simpa using g
      refine gA rfl ?_
      exact ⟨h1, fun j hj => by rcases Nat.lt_succ_iff_lt_or_eq.1 hj with h | h; exact hJ j h; exact h ▸ h2, [], wk rfl rfl rfl ⟨.refl _, rfl, .refl _, rfl, .refl _, rfl, .refl _, rfl, trivial⟩ ⟨⟨_, rfl, .of_eq rfl⟩, Nat.le_of_ble_eq_true rfl, rfl, trivial⟩ rfl⟩
  · have h1 : f.args.length ≤ i := Nat.le_of_not_lt fun hh => absurd (Int.ofNat_lt.2 hh) (of_decide_eq_false h1)
    rw [if_pos (range_all fun j hj => hJ j (by omega))]
    refine gA rfl (end_le (by first | exact .inr rfl | exact .inl rfl) rfl (.of_eq ?_))
    rfl
/-! Goals. -/
def goalT (p : Prog) (a : Atom) (i : Nat) : Int := (declOf p a.rel).types.getD i default
def goalStep (p : Prog) (a : Atom) (i : Nat) (m : NM) : Option NM :=
  if (a.terms.getD i default).kind = 2 then (if (a.terms.getD i default).val.kind = goalT p a i then some m else none)
  else if (a.terms.getD i default).kind = 1 then (if hasK .str m (a.terms.getD i default).var = true ∧ ¬ lkD .str m (a.terms.getD i default).var 0 = goalT p a i then none else some (putK .str m (a.terms.getD i default).var (goalT p a i)))
  else some m
def goalM (p : Prog) (a : Atom) : Nat → Option NM
  | 0 => some []
  | i + 1 => (goalM p a i).bind (goalStep p a i)
theorem goalM_none (p : Prog) (a : Atom) (i : Nat) (h : goalM p a i = none) : ∀ k, goalM p a (i + k) = none
  | 0 => h
  | k + 1 => by rw [← Nat.add_assoc, goalM, goalM_none p a i h k]; rfl
def goalR (p : Prog) (a : Atom) : Int :=
  if atomBad a = true ∨ hasK .str (relsM p) a.rel = false ∨ ¬ (a.terms.length : Int) = ((declOf p a.rel).types.length : Int) then 6
  else if (goalM p a a.terms.length).isSome = true then 0 else 6
theorem goal_out {p : Prog} {a : Atom} {i : Nat} {m : NM} (hm : goalM p a i = some m) (hi : i < a.terms.length) (h : goalStep p a i m = none) : ¬ (goalM p a a.terms.length).isSome = true := by
  have h1 : goalM p a (i + 1) = none := by rw [goalM, hm]; exact h
  have h2 := goalM_none p a (i + 1) h1 (a.terms.length - (i + 1))
  have e : i + 1 + (a.terms.length - (i + 1)) = a.terms.length := by omega
  rw [e] at h2
  rw [h2]; simp
def goalN (p : Prog) (a : Atom) (i : Nat) : NM := (goalM p a i).getD []
theorem goalN_of {p : Prog} {a : Atom} {i : Nat} {m : NM} (h : goalM p a i = some m) : goalN p a i = m := by rw [goalN, h]; rfl
set_option maxHeartbeats 1000000 in
theorem c21 (p : Prog) (a : Atom) (hb : p.rels.length ≤ 1000000000) (ha : a.terms.length ≤ 1000000000) (hts : a.ts ≤ 900000000) : Pure Tryz.prog 21 [ag p.c, ag a.c] (pI (goalR p a)) := by
  refine pure_end tyA_ok Tryz.func21 rfl (by decide) Tryz.ntmps21 rfl (by simp) rfl ?_
  refine gA rfl (go_ddet tyA_ok [] (d50 p (by omega)) rfl rfl rfl rfl rfl rfl rfl rfl rfl rfl rfl rfl (by (repeat' (first | exact trivial | exact rfl | exact PVle.refl _ | exact PVle.bk (by assumption) | apply And.intro)) <;> first | omega | (simp only [Int.toNat_natCast]; omega) | (simp; done) | (simp; omega)) rfl (by (repeat' (first | exact trivial | exact rfl | exact PVle.refl _ | exact PVle.bk (by assumption) | apply And.intro)) <;> first | omega | (simp only [Int.toNat_natCast]; omega) | (simp; done) | (simp; omega)) ?_)
  refine gA rfl (go_pure (c61 a hts) rfl rfl rfl rfl rfl rfl ?_)
  refine gA rfl ?_
  refine And.intro (fun g1 => ?_) (fun g1 => ?_)
  rotate_left
  · have g1 : atomBad a = true := by
      cases h : atomBad a with
      | true => rfl
      | false =>
        have h : (atomW WS.o a).bad = false := h
        have g : (!decide ((if (atomW WS.o a).bad = true then (50 : Int) else 0) = 0)) = true := g1
        rw [h] at g; simp at g
    rw [goalR, if_pos (.inl g1)]
    refine gA rfl (end_le (by first | exact .inr rfl | exact .inl rfl) rfl (.of_eq ?_))
    rfl
  have g1 : ¬ atomBad a = true := by
    intro h
    have h : (atomW WS.o a).bad = true := h
    have g : (!decide ((if (atomW WS.o a).bad = true then (50 : Int) else 0) = 0)) = false := g1
    rw [h] at g; simp at g
  refine gA rfl ?_
  refine And.intro (fun g2 => ?_) (fun g2 => ?_)
  rotate_left
  · have g2 : hasK .str (relsM p) a.rel = false := by
      cases h : hasK .str (relsM p) a.rel with
      | false => rfl
      | true =>
        have g : (!hasK .str (relsM p) a.rel) = true := g2
        rw [h] at g; cases g
    rw [goalR, if_pos (.inr (.inl g2))]
    refine gA rfl (end_le (by first | exact .inr rfl | exact .inl rfl) rfl (.of_eq ?_))
    rfl
  have g2 : ¬ hasK .str (relsM p) a.rel = false := by
    intro h
    have g : (!hasK .str (relsM p) a.rel) = false := g2
    rw [h] at g; cases g
  refine gA rfl ?_
  refine And.intro (fun g3 => ?_) (fun g3 => ?_)
  · have g3 : ¬ (a.terms.length : Int) = ((declOf p a.rel).types.length : Int) := by
      have g : (!decide ((a.terms.length : Int) = ((declOf p a.rel).types.length : Int))) = true := g3
      simpa only [Bool.not_eq_true', decide_eq_false_iff_not] using g
    rw [goalR, if_pos (.inr (.inr g3))]
    refine gA rfl (end_le (by first | exact .inr rfl | exact .inl rfl) rfl (.of_eq ?_))
    rfl
  have g3 : (a.terms.length : Int) = ((declOf p a.rel).types.length : Int) := by
    have g : (!decide ((a.terms.length : Int) = ((declOf p a.rel).types.length : Int))) = false := g3
    simpa only [Bool.not_eq_false', decide_eq_true_eq] using g
  rw [goalR, if_neg (by rintro (h | h | h); exact g1 h; exact g2 h; exact h g3)]
  refine gA rfl ?_
  refine go_for 0 a.terms.length (Nat.zero_le _) (fun i => ⟨[(5, .ptr 3 0), (9, .mp 4), (45, .iv (slc 5 a.terms Term.c)), (46, pI a.terms.length), (47, pI i)], [(3, some (cellsI (declOf p a.rel).c)), (4, some (nmO (goalN p a i)))], 5⟩) (fun i => ∃ m, goalM p a i = some m) [] ⟨_, rfl⟩
    (wk rfl rfl rfl ⟨.refl _, rfl, .refl _, rfl, .refl _, rfl, .refl _, rfl, .refl _, rfl, trivial⟩ ⟨⟨_, rfl, .of_eq rfl⟩, Nat.le_of_ble_eq_true rfl, rfl, hM0 rfl evI_zero rfl trivial⟩ rfl) fun i hi hJ => ?_
  obtain ⟨m, hm⟩ := hJ
  rw [goalN_of hm]
  refine gA rfl ?_
  refine And.intro (fun h1 => ?_) (fun h1 => ?_)
  · have h1 : i < a.terms.length := Int.ofNat_lt.1 (of_decide_eq_true h1)
    have hs : goalM p a (i + 1) = goalStep p a i m := by rw [goalM, hm]; rfl
    refine gA rfl ?_
    refine And.intro (fun k2 => ?_) (fun k2 => ?_)
    · have k2 : (a.terms.getD i default).kind = 2 := of_decide_eq_true k2
      refine gA rfl ?_
      refine And.intro (fun e2 => ?_) (fun e2 => ?_)
      · have e2 : ¬ (a.terms.getD i default).val.kind = goalT p a i := by
          have g : (!decide ((a.terms.getD i default).val.kind = goalT p a i)) = true := e2
          simpa only [Bool.not_eq_true', decide_eq_false_iff_not] using g
        rw [if_neg (goal_out hm h1 (by unfold goalStep; rw [if_pos k2, if_neg e2]))]
        refine gA rfl (end_le (by first | exact .inr rfl | exact .inl rfl) rfl (.of_eq ?_))
        rfl
      · have e2 : (a.terms.getD i default).val.kind = goalT p a i := by
          have g : (!decide ((a.terms.getD i default).val.kind = goalT p a i)) = false := e2
          simpa only [Bool.not_eq_false', decide_eq_true_eq] using g
        have hs2 : goalM p a (i + 1) = some m := by rw [hs]; unfold goalStep; rw [if_pos k2, if_pos e2]
        refine gA rfl ?_
        exact ⟨h1, ⟨m, hs2⟩, [], wk rfl rfl rfl ⟨.refl _, rfl, .refl _, rfl, .refl _, rfl, .refl _, rfl, .refl _, rfl, trivial⟩ ⟨⟨_, rfl, .of_eq rfl⟩, Nat.le_of_ble_eq_true rfl, rfl, hM rfl (goalN_of hs2).symm rfl trivial⟩ rfl⟩
    have k2 : ¬ (a.terms.getD i default).kind = 2 := of_decide_eq_false k2
    refine gA rfl ?_
    refine And.intro (fun k1 => ?_) (fun k1 => ?_)
    · have k1 : (a.terms.getD i default).kind = 1 := of_decide_eq_true k1
      have hst : goalStep p a i m = if hasK .str m (a.terms.getD i default).var = true ∧ ¬ lkD .str m (a.terms.getD i default).var 0 = goalT p a i then none else some (putK .str m (a.terms.getD i default).var (goalT p a i)) := by unfold goalStep; rw [if_neg k2, if_pos k1]
      refine gA rfl ?_
      refine And.intro (fun q1 => ?_) (fun q1 => ?_)
      · have q1 : hasK .str m (a.terms.getD i default).var = true := q1
        refine gA rfl ?_
        refine And.intro (fun q2 => ?_) (fun q2 => ?_)
        · have q2 : ¬ lkD .str m (a.terms.getD i default).var 0 = goalT p a i := by
            have g : (!decide (lkD .str m (a.terms.getD i default).var 0 = goalT p a i)) = true := q2
            simpa only [Bool.not_eq_true', decide_eq_false_iff_not] using g
          rw [if_neg (goal_out hm h1 (by rw [hst, if_pos ⟨q1, q2⟩]))]
          refine gA rfl (end_le (by first | exact .inr rfl | exact .inl rfl) rfl (.of_eq ?_))
          rfl
        · have q2 : lkD .str m (a.terms.getD i default).var 0 = goalT p a i := by
            have g : (!decide (lkD .str m (a.terms.getD i default).var 0 = goalT p a i)) = false := q2
            simpa only [Bool.not_eq_false', decide_eq_true_eq] using g
          have hs2 : goalM p a (i + 1) = some (putK .str m (a.terms.getD i default).var (goalT p a i)) := by rw [hs, hst, if_neg fun h => h.2 q2]
          refine gA rfl ?_
          exact ⟨h1, ⟨_, hs2⟩, [], wk rfl rfl rfl ⟨.refl _, rfl, .refl _, rfl, .refl _, rfl, .refl _, rfl, .refl _, rfl, trivial⟩ ⟨⟨_, rfl, .of_eq rfl⟩, Nat.le_of_ble_eq_true rfl, rfl, hM rfl (goalN_of hs2).symm rfl trivial⟩ rfl⟩
      · have q1 : ¬ hasK .str m (a.terms.getD i default).var = true := by
          intro h
          have g : hasK .str m (a.terms.getD i default).var = !true := q1
          rw [h] at g; cases g
        have hs2 : goalM p a (i + 1) = some (putK .str m (a.terms.getD i default).var (goalT p a i)) := by rw [hs, hst, if_neg fun h => q1 h.1]
        refine gA rfl ?_
        exact ⟨h1, ⟨_, hs2⟩, [], wk rfl rfl rfl ⟨.refl _, rfl, .refl _, rfl, .refl _, rfl, .refl _, rfl, .refl _, rfl, trivial⟩ ⟨⟨_, rfl, .of_eq rfl⟩, Nat.le_of_ble_eq_true rfl, rfl, hM rfl (goalN_of hs2).symm rfl trivial⟩ rfl⟩
    · have k1 : ¬ (a.terms.getD i default).kind = 1 := of_decide_eq_false k1
      have hs2 : goalM p a (i + 1) = some m := by rw [hs]; unfold goalStep; rw [if_neg k2, if_neg k1]
      refine gA rfl ?_
      exact ⟨h1, ⟨m, hs2⟩, [], wk rfl rfl rfl ⟨.refl _, rfl, .refl _, rfl, .refl _, rfl, .refl _, rfl, .refl _, rfl, trivial⟩ ⟨⟨_, rfl, .of_eq rfl⟩, Nat.le_of_ble_eq_true rfl, rfl, hM rfl (goalN_of hs2).symm rfl trivial⟩ rfl⟩
  · have h1 : a.terms.length ≤ i := Nat.le_of_not_lt fun hh => absurd (Int.ofNat_lt.2 hh) (of_decide_eq_false h1)
    have hie : i = a.terms.length := by omega
    subst hie
    have hx : (if (goalM p a a.terms.length).isSome = true then (0 : Int) else 6) = 0 := if_pos (by rw [hm]; rfl)
    rw [hx]
    refine gA rfl (end_le (by first | exact .inr rfl | exact .inl rfl) rfl (.of_eq ?_))
    rfl
end Go.Proofs.YtpnclpbkecjinaaGreatDoorR
/-
  Types: what is told of a rule's outer variables.
-/
namespace Go.Proofs.YtpnclpbkecjinaaGreatDoorR
open Go Go.Al
set_option maxRecDepth 10000
def tyOf (p : Prog) (r : Rule) (s : Str) : Spot := (s, lkD (.si .i64) (typesT p r).kind (rootL (typesT p r).up (s, -1)) 0)
def typesR (p : Prog) (n : Int) : List Spot × Int :=
  if n < 1 ∨ (p.rules.length : Int) < n then ([], 1) else if ¬ (checkD p).1 = 0 then ([], 4)
  else ((toldM (occM (outerOcc (p.rules.getD (n - 1).toNat default)))).map (tyOf p (p.rules.getD (n - 1).toNat default)), 0)
theorem typesT_ok (p : Prog) (r : Rule) : upOK (typesT p r).up := body_ok p r _
end Go.Proofs.YtpnclpbkecjinaaGreatDoorR
/-
  The laws' own example.
-/
namespace Go.Proofs.YtpnclpbkecjinaaGreatDoorR
open Go Go.Al
set_option maxRecDepth 10000
theorem c40 (s : Str) : Pure Tryz.prog 40 [pS s] (ag (Term.mk 1 s ⟨0, 0, ByteArray.empty⟩).c) := by
  refine pure_end tyA_ok Tryz.func40 rfl (by decide) Tryz.ntmps40 rfl (by simp) rfl ?_
  refine gA rfl (end_le (by first | exact .inr rfl | exact .inl rfl) rfl (.of_eq ?_))
  rfl
theorem c44 (n : Int) : Pure Tryz.prog 44 [pI n] (ag (Val.mk 1 n ByteArray.empty).c) := by
  refine pure_end tyA_ok Tryz.func44 rfl (by decide) Tryz.ntmps44 rfl (by simp) rfl ?_
  refine gA rfl (end_le (by first | exact .inr rfl | exact .inl rfl) rfl (.of_eq ?_))
  rfl
theorem row_low {n sz : Nat} {es : List (List PV)} (h : es.all (belowL n) = true) : (AO.row sz es).low n := fun _ e he => List.all_eq_true.1 h e (List.mem_of_getElem? he)
abbrev pE : PV := pS ByteArray.empty
abbrev pN : PV := .iv (.v (.slice none 0 0))
def exR0 : List (List PV) := [[pI 1, pS ⟨#[88]⟩, pI 0, pI 0, pE, pI 0, pN], [pI 2, pE, pI 1, pI 1, pE, pI 0, pN]]
def exR1 : List (List PV) := [[pI 1, pS ⟨#[88]⟩, pI 0, pI 0, pE]]
def exR2 (nm : Str) : List (List PV) := [[pI 1, pS nm, .sl 1 0 1 5, pI 0, pI 0, pE, pI 0, pI 0, pE, pI 0, pN, pI 0, pE, pI 0, pI 0, pE, pI 0, pN, pI 0, pE, pI 0, pE, pI 0, pI 0, pE, pI 0, pN, pN, pI 1, pI 26],
  [pI 3, pE, pN, pI 1, pI 1, pS ⟨#[89]⟩, pI 0, pI 0, pE, pI 0, pN, pI 4, pE, pI 0, pI 0, pE, pI 2, .sl 0 0 2 7, pI 0, pE, pI 0, pE, pI 0, pI 0, pE, pI 0, pN, pN, pI 1, pI 32]]
def exR3 : List (List PV) := [[pI 1, pS ⟨#[89]⟩, pI 0, pI 0, pE]]
def exR4 : List (List PV) := [[pI 1]]
def exR5 : List (List PV) := [[pS ⟨#[112]⟩, .sl 4 0 1 1, pI 1, pI 10]]
def exR6 : List (List PV) := [[pS ⟨#[112]⟩, .sl 3 0 1 5, .sl 2 0 2 30, pI 1, pI 18]]
/-- The example's rows. -/
abbrev exH (nm : Str) : AH := [(0, some (.row 7 exR0)), (1, some (.row 5 exR1)), (2, some (.row 30 (exR2 nm))), (3, some (.row 5 exR3)), (4, some (.row 1 exR4)), (5, some (.row 4 exR5)), (6, some (.row 5 exR6))]
theorem d43 : Det Tryz.prog 43 [] [] (.agg [.sl 5 0 1 4, .sl 6 0 1 5]) (exH ⟨#[112]⟩) 7 := by
  refine det_end tyA_ok Tryz.func43 rfl (by decide) Tryz.ntmps43 rfl (by simp) ?_
  refine gA rfl (go_ddet tyA_ok [] (Pure.det (c44 1)) rfl rfl rfl rfl rfl rfl rfl rfl rfl rfl rfl rfl (by (repeat' (first | exact trivial | exact rfl | exact PVle.refl _ | exact PVle.bk (by assumption) | apply And.intro)) <;> first | omega | (simp only [Int.toNat_natCast]; omega) | (simp; done) | (simp; omega)) rfl (by (repeat' (first | exact trivial | exact rfl | exact PVle.refl _ | exact PVle.bk (by assumption) | apply And.intro)) <;> first | omega | (simp only [Int.toNat_natCast]; omega) | (simp; done) | (simp; omega)) ?_)
  refine gA rfl (go_ddet tyA_ok [] (Pure.det (c40 ⟨#[88]⟩)) rfl rfl rfl rfl rfl rfl rfl rfl rfl rfl rfl rfl (by (repeat' (first | exact trivial | exact rfl | exact PVle.refl _ | exact PVle.bk (by assumption) | apply And.intro)) <;> first | omega | (simp only [Int.toNat_natCast]; omega) | (simp; done) | (simp; omega)) rfl (by (repeat' (first | exact trivial | exact rfl | exact PVle.refl _ | exact PVle.bk (by assumption) | apply And.intro)) <;> first | omega | (simp only [Int.toNat_natCast]; omega) | (simp; done) | (simp; omega)) ?_)
  refine gA rfl (go_pure (c40 ⟨#[89]⟩) rfl rfl rfl rfl rfl rfl ?_)
  refine gA rfl (end_det [2, 4, 5, 6, 8, 9, 10] (by first | exact .inr rfl | exact .inl rfl) rfl (wk rfl rfl rfl ⟨.of_eq rfl, rfl, trivial⟩ ⟨⟨_, rfl, .of_eq rfl⟩, Nat.le_of_ble_eq_true rfl, row_low rfl, ⟨⟨_, rfl, .of_eq rfl⟩, Nat.le_of_ble_eq_true rfl, row_low rfl, ⟨⟨_, rfl, .of_eq rfl⟩, Nat.le_of_ble_eq_true rfl, row_low rfl, ⟨⟨_, rfl, .of_eq rfl⟩, Nat.le_of_ble_eq_true rfl, row_low rfl, ⟨⟨_, rfl, .of_eq rfl⟩, Nat.le_of_ble_eq_true rfl, row_low rfl, ⟨⟨_, rfl, .of_eq rfl⟩, Nat.le_of_ble_eq_true rfl, row_low rfl, ⟨⟨_, rfl, .of_eq rfl⟩, Nat.le_of_ble_eq_true rfl, row_low rfl, trivial⟩⟩⟩⟩⟩⟩⟩ rfl))
end Go.Proofs.YtpnclpbkecjinaaGreatDoorR
/-
  The laws' own example as data.
-/
namespace Go.Proofs.YtpnclpbkecjinaaGreatDoorR
open Go Go.Al
set_option maxRecDepth 10000
def IVles : List IV → List IV → Prop
  | [], [] => True
  | p :: r, q :: s => IVle p q ∧ IVles r s
  | _, _ => False
theorem IVles.length : ∀ {a b : List IV}, IVles a b → a.length = b.length
  | [], [], _ => rfl
  | _ :: _, _ :: _, h => congrArg (· + 1) (IVles.length h.2)
  | [], _ :: _, h => h.elim
  | _ :: _, [], h => h.elim
theorem IVles.get : ∀ {a b : List IV}, IVles a b → ∀ (j : Nat) (q : IV), b[j]? = some q → ∃ p, a[j]? = some p ∧ IVle p q
  | [], [], _, j, q, h => by simp at h
  | p :: r, q0 :: s, hh, j, q, h => by
    cases j with
    | zero => simp at h; subst h; exact ⟨p, rfl, hh.1⟩
    | succ j => simpa using IVles.get hh.2 j q (by simpa using h)
  | [], _ :: _, hh, _, _, _ => hh.elim
  | _ :: _, [], hh, _, _, _ => hh.elim
theorem imm2L {sz n : Nat} {el el' : Nat → List IV} (h : ∀ k, k < n → IVles (el k) (el' k)) : IVle (.imm sz n el) (.imm sz n el') := by
  intro M x hx
  cases hx with
  | imm0 => exact .imm0 _ _ _ _
  | imm _ _ _ b off cap hn hc hl hm hr =>
    refine .imm _ _ _ _ _ _ hn hc (fun k hk => by rw [← (h k hk).length]; exact hl k hk) hm (fun k j q hk hq => ?_)
    obtain ⟨p, hp, hle⟩ := (h k hk).get j q hq
    exact hle _ _ (hr k j p hk hp)
abbrev iE : IV := iS ByteArray.empty
abbrev iN : IV := .v (.slice none 0 0)
def exL0 : List (List IV) := [[iI 1, iS ⟨#[88]⟩, iI 0, iI 0, iE, iI 0, iN], [iI 2, iE, iI 1, iI 1, iE, iI 0, iN]]
def exL1 : List (List IV) := [[iI 1, iS ⟨#[88]⟩, iI 0, iI 0, iE]]
abbrev elOf (l : List (List IV)) : Nat → List IV := fun k => l.getD k []
abbrev imOf (sz n : Nat) (l : List (List IV)) : IV := .imm sz n (fun k => elOf l (0 + k))
def exL2 (nm : Str) : List (List IV) := [[iI 1, iS nm, imOf 5 1 exL1, iI 0, iI 0, iE, iI 0, iI 0, iE, iI 0, iN, iI 0, iE, iI 0, iI 0, iE, iI 0, iN, iI 0, iE, iI 0, iE, iI 0, iI 0, iE, iI 0, iN, iN, iI 1, iI 26],
  [iI 3, iE, iN, iI 1, iI 1, iS ⟨#[89]⟩, iI 0, iI 0, iE, iI 0, iN, iI 4, iE, iI 0, iI 0, iE, iI 2, imOf 7 2 exL0, iI 0, iE, iI 0, iE, iI 0, iI 0, iE, iI 0, iN, iN, iI 1, iI 32]]
def exL3 : List (List IV) := [[iI 1, iS ⟨#[89]⟩, iI 0, iI 0, iE]]
def exL4 : List (List IV) := [[iI 1]]
def exL5 : List (List IV) := [[iS ⟨#[112]⟩, imOf 1 1 exL4, iI 1, iI 10]]
def exL6 (nm : Str) : List (List IV) := [[iS ⟨#[112]⟩, imOf 5 1 exL3, imOf 30 2 (exL2 nm), iI 1, iI 18]]
theorem hel_of {es : List (List PV)} {l : List (List IV)} (h : es = l.map fun x => x.map .iv) : ∀ k e, es[k]? = some e → e = (elOf l k).map .iv := by
  subst h
  intro k e he
  rw [List.getElem?_map, Option.map_eq_some_iff] at he
  obtain ⟨x, hx, rfl⟩ := he
  simp [elOf, hx]
def exV : Val := ⟨0, 0, ByteArray.empty⟩
def exZ : Expr := .mk 0 ByteArray.empty exV 0 []
def exVar (s : Str) : Expr := .mk 1 s exV 0 []
def exPlus : Expr := .mk 4 ByteArray.empty exV 2 [exVar ⟨#[88]⟩, .mk 2 ByteArray.empty ⟨1, 1, ByteArray.empty⟩ 0 []]
def exLit1 (nm : Str) : Lit := .mk 1 ⟨nm, [⟨1, ⟨#[88]⟩, exV⟩]⟩ 0 exZ exZ 0 ByteArray.empty exZ [] ⟨1, 26⟩
def exLit2 : Lit := .mk 3 ⟨ByteArray.empty, []⟩ 1 (exVar ⟨#[89]⟩) exPlus 0 ByteArray.empty exZ [] ⟨1, 32⟩
def exRule (nm : Str) : Rule := ⟨⟨⟨#[112]⟩, [⟨1, ⟨#[89]⟩, exV⟩]⟩, [exLit1 nm, exLit2], ⟨1, 18⟩⟩
def exP (nm : Str) : Prog := ⟨[⟨⟨#[112]⟩, [1], ⟨1, 10⟩⟩], [exRule nm]⟩
theorem ex_args : IVle (imOf 7 2 exL0) (.imm 7 2 (fun j => (Expr.crs exPlus.args).getD j [])) := imm2L fun k hk => by
  match k, hk with
  | 0, _ => exact ⟨.refl _, .refl _, .refl _, .refl _, .refl _, .refl _, .nil _ _, trivial⟩
  | 1, _ => exact ⟨.refl _, .refl _, .refl _, .refl _, .refl _, .refl _, .nil _ _, trivial⟩
theorem ex_lit1 (nm : Str) : IVles (elOf (exL2 nm) (0 + 0)) (exLit1 nm).c := ⟨.refl _, .refl _, imm2L fun k hk => by match k, hk with | 0, _ => exact ⟨.refl _, .refl _, .refl _, .refl _, .refl _, trivial⟩, .refl _, .refl _, .refl _, .refl _, .refl _, .refl _, .refl _, .nil _ _, .refl _, .refl _, .refl _, .refl _, .refl _, .refl _, .nil _ _, .refl _, .refl _, .refl _, .refl _, .refl _, .refl _, .refl _, .refl _, .nil _ _, .nil _ _, .refl _, .refl _, trivial⟩
theorem ex_lit2 (nm : Str) : IVles (elOf (exL2 nm) (0 + 1)) exLit2.c := ⟨.refl _, .refl _, .nil _ _, .refl _, .refl _, .refl _, .refl _, .refl _, .refl _, .refl _, .nil _ _, .refl _, .refl _, .refl _, .refl _, .refl _, .refl _, ex_args, .refl _, .refl _, .refl _, .refl _, .refl _, .refl _, .refl _, .refl _, .nil _ _, .nil _ _, .refl _, .refl _, trivial⟩
theorem ex_body (nm : Str) : IVle (imOf 30 2 (exL2 nm)) (lits (exRule nm).body) := imm2L fun k hk => by
  match k, hk with
  | 0, _ => exact ex_lit1 nm
  | 1, _ => exact ex_lit2 nm
theorem ex_head : IVle (imOf 5 1 exL3) (slc 5 (exRule ⟨#[112]⟩).head.terms Term.c) := imm2L fun k hk => by
  match k, hk with
  | 0, _ => exact ⟨.refl _, .refl _, .refl _, .refl _, .refl _, trivial⟩
theorem ex_rels : IVle (imOf 4 1 exL5) (slc 4 (exP ⟨#[112]⟩).rels Decl.c) := imm2L fun k hk => by
  match k, hk with
  | 0, _ => exact ⟨.refl _, imm2L fun k hk => by match k, hk with | 0, _ => exact ⟨.refl _, trivial⟩, .refl _, .refl _, trivial⟩
theorem ex_rules (nm : Str) : IVle (imOf 5 1 (exL6 nm)) (slc 5 (exP nm).rules Rule.c) := imm2L fun k hk => by
  match k, hk with
  | 0, _ => exact ⟨.refl _, ex_head, ex_body nm, .refl _, .refl _, trivial⟩
def cellRB (i sz n : Nat) : PV → Bool
  | .iv _ => true
  | .sl j off len s => bif Nat.beq j i then Nat.beq s sz && Nat.ble (off + len) n else true
  | _ => false
theorem cellRB_ok {i sz n : Nat} {p : PV} (h : cellRB i sz n p = true) : p.inRow i sz n := by
  cases p with
  | iv => trivial
  | sl j off len s =>
    simp only [cellRB] at h
    show if j = i then s = sz ∧ off + len ≤ n else True
    split
    · rename_i e
      subst e
      simp only [Nat.beq_refl, cond_true, Bool.and_eq_true] at h
      exact ⟨Nat.eq_of_beq_eq_true h.1, Nat.le_of_ble_eq_true h.2⟩
    · trivial
  | _ => cases h
theorem rowRB_ok {i sz n : Nat} : ∀ {l : List PV}, l.all (cellRB i sz n) = true → inRowL i sz n l
  | [], _ => trivial
  | p :: r, h => by
    rw [List.all_cons, Bool.and_eq_true] at h
    exact ⟨cellRB_ok h.1, rowRB_ok h.2⟩
def okRB (i sz n : Nat) : AH → Bool
  | [] => true
  | (_, none) :: r => okRB i sz n r
  | (_, some (.cells cs _)) :: r => cs.all (cellRB i sz n) && okRB i sz n r
  | (_, some (.row _ es)) :: r => (es.all fun e => e.all (cellRB i sz n)) && okRB i sz n r
  | _ :: _ => false
theorem okRB_ok {i sz n : Nat} : ∀ {h : AH}, okRB i sz n h = true → h.okRR i sz n
  | [], _ => trivial
  | (_, none) :: r, h => okRB_ok (h := r) h
  | (_, some (.cells cs _)) :: r, h => by
    simp only [okRB, Bool.and_eq_true] at h
    exact ⟨rowRB_ok h.1, okRB_ok h.2⟩
  | (_, some (.row _ es)) :: r, h => by
    simp only [okRB, Bool.and_eq_true] at h
    exact ⟨fun e he => rowRB_ok (List.all_eq_true.1 h.1 e he), okRB_ok h.2⟩
  | (_, some (.brow _ _)) :: r, h => by simp [okRB] at h
  | (_, some .map0) :: r, h => by simp [okRB] at h
  | (_, some (.map ..)) :: r, h => by simp [okRB] at h
  | (_, some (.miter ..)) :: r, h => by simp [okRB] at h
  | (_, some (.siter ..)) :: r, h => by simp [okRB] at h
theorem relSub {M : Mem} {N : Nm} {U : Nat → Prop} {h h2 : AH} {w : World} (hr : Rel M N U h w) (hs : ∀ i o, h2.get i = some o → h.get i = some o) : Rel M N U h2 w :=
  ⟨hr.frz, fun i o hi => hr.used i o (hs i o hi), fun i o hi => hr.nfrz i o (hs i o hi), fun i o hi => hr.obj i o (hs i o hi), fun i j o p hi hj => hr.inj i j o p (hs i o hi) (hs j p hj)⟩
/-- .. for the program and its rule as values. -/
theorem ex_frz2 (nm : Str) {M : Mem} {N : Nm} {w : World} {n : Nat} {h : AH} (hr0 : Rel M N (· < n) h w) (g0 : h.get 0 = some (.row 7 exR0)) (g1 : h.get 1 = some (.row 5 exR1)) (g2 : h.get 2 = some (.row 30 (exR2 nm))) (g3 : h.get 3 = some (.row 5 exR3)) (g4 : h.get 4 = some (.row 1 exR4)) (g5 : h.get 5 = some (.row 4 exR5)) (g6 : h.get 6 = some (.row 5 exR6)) :
    ∃ M1 : Mem, M.le M1 ∧ Rel M1 N (· < n) [] w ∧ (∀ x, VR M N (· < n) (.agg [.sl 5 0 1 4, .sl 6 0 1 5]) x → VR M1 N (· < n) (ag (exP nm).c) x) ∧
      ∀ x, VR M N (· < n) (.agg [pS ⟨#[112]⟩, .sl 3 0 1 5, .sl 2 0 2 30, pI 1, pI 18]) x → VR M1 N (· < n) (ag (exRule nm).c) x := by
  have hr : Rel M N (· < n) (exH nm) w := relSub hr0 fun i o hi => by
    match i, hi with
    | 0, hi => cases hi; exact g0
    | 1, hi => cases hi; exact g1
    | 2, hi => cases hi; exact g2
    | 3, hi => cases hi; exact g3
    | 4, hi => cases hi; exact g4
    | 5, hi => cases hi; exact g5
    | 6, hi => cases hi; exact g6
    | i + 7, hi => exact nomatch hi
  obtain ⟨M0, l0, r0, v0⟩ := rel_frzRR hr 0 (elOf exL0) rfl (hel_of rfl) (okRB_ok rfl)
  obtain ⟨M1, l1, r1, v1⟩ := rel_frzRR r0 1 (elOf exL1) rfl (hel_of rfl) (okRB_ok rfl)
  obtain ⟨M2, l2, r2, v2⟩ := rel_frzRR r1 2 (elOf (exL2 nm)) rfl (hel_of rfl) (okRB_ok rfl)
  obtain ⟨M3, l3, r3, v3⟩ := rel_frzRR r2 3 (elOf exL3) rfl (hel_of rfl) (okRB_ok rfl)
  obtain ⟨M4, l4, r4, v4⟩ := rel_frzRR r3 4 (elOf exL4) rfl (hel_of rfl) (okRB_ok rfl)
  obtain ⟨M5, l5, r5, v5⟩ := rel_frzRR r4 5 (elOf exL5) rfl (hel_of rfl) (okRB_ok rfl)
  obtain ⟨M6, l6, r6, v6⟩ := rel_frzRR r5 6 (elOf (exL6 nm)) rfl (hel_of rfl) (okRB_ok rfl)
  refine ⟨M6, l0.trans (l1.trans (l2.trans (l3.trans (l4.trans (l5.trans l6))))), ⟨r6.frz, fun i o hi => (nomatch hi), fun i o hi => (nomatch hi), fun i o hi => (nomatch hi), fun i j o p hi => (nomatch hi)⟩, fun x hx => ?_, fun x hx => ?_⟩
  · have h6 : VR M6 N (· < n) (.agg [.iv (imOf 4 1 exL5), .iv (imOf 5 1 (exL6 nm))]) x :=
      v6 _ _ (v5 _ _ (v4 _ _ (v3 _ _ (v2 _ _ (v1 _ _ (v0 _ _ hx (rowRB_ok rfl)) (rowRB_ok rfl)) (rowRB_ok rfl)) (rowRB_ok rfl)) (rowRB_ok rfl)) (rowRB_ok rfl)) (rowRB_ok rfl)
    exact (show PVle (.agg [.iv (imOf 4 1 exL5), .iv (imOf 5 1 (exL6 nm))]) (ag (exP nm).c) from .agg ⟨.iv ex_rels, .iv (ex_rules nm), trivial⟩) _ _ _ _ h6
  · have h6 : VR M6 N (· < n) (.agg [pS ⟨#[112]⟩, .iv (imOf 5 1 exL3), .iv (imOf 30 2 (exL2 nm)), pI 1, pI 18]) x :=
      v6 _ _ (v5 _ _ (v4 _ _ (v3 _ _ (v2 _ _ (v1 _ _ (v0 _ _ hx (rowRB_ok rfl)) (rowRB_ok rfl)) (rowRB_ok rfl)) (rowRB_ok rfl)) (rowRB_ok rfl)) (rowRB_ok rfl)) (rowRB_ok rfl)
    exact (show PVle (.agg [pS ⟨#[112]⟩, .iv (imOf 5 1 exL3), .iv (imOf 30 2 (exL2 nm)), pI 1, pI 18]) (ag (exRule nm).c) from .agg ⟨.refl _, .iv ex_head, .iv (ex_body nm), .refl _, .refl _, trivial⟩) _ _ _ _ h6
end Go.Proofs.YtpnclpbkecjinaaGreatDoorR
/-
  What is told, as rows of the call's own.
-/
namespace Go.Proofs.YtpnclpbkecjinaaGreatDoorR
open Go Go.Al
set_option maxRecDepth 10000
/-- A map that nobody writes any more, between operations. -/
theorem go_frzMo {P : Program} {nt : Nat} {Q : AQ} {k : List KI} {s : AS} {all rest : List Oper} (i : Nat) {kc : KC} {V : Type} {e : V → IV} {z : V} {zv : Value} {dv : PV → V} {m : List (kc.K × V)} (hi : s.h.get i = some (.map kc e z zv dv m))
    (h : GO P nt (.ops all rest :: k) Q ⟨s.f.frzM i (.imap kc e z zv m), (i, none) :: s.h.frzM i (.imap kc e z zv m), s.nx⟩) : GO P nt (.ops all rest :: k) Q s := by
  intro M N a w hf
  obtain ⟨M', h1, h2, h3, h4⟩ := frz_mapH hf.1 hi
  have hf' : Fits M' N ⟨s.f.frzM i (.imap kc e z zv m), (i, none) :: s.h.frzM i (.imap kc e z zv m), s.nx⟩ nt a w := ⟨h2, fun d => by
    rw [AF.frzM_get]; exact h4 _ _ (hf.2.1 d), hf.2.2⟩
  exact wpList_mono (fun e a2 w2 ⟨M2, N2, s2, hx2, hf2, hr2⟩ => ⟨M2, N2, s2, h1.trans hx2, hf2, hr2⟩) _ _ _ (h M' N a w hf')
theorem d51o (hS : SortS) (m : NM) (hm : m.length ≤ 100000000) : Det Tryz.prog 51 [.iv (nmI m)] [] (.sl 0 0 (toldM m).length 1) [(0, some (rowI 1 (toldM m) strC))] 1 := by
  refine det_end tyA_ok Tryz.func51 rfl (by decide) Tryz.ntmps51 rfl (by simp) ?_
  refine gA rfl ?_
  refine go_virt 3 1 rfl ?_
  refine go_rng m (fun vs => ⟨[(3, .sl 2 0 (keysAt m vs).length 1), (6, .ptr 0 0)], [(0, some (.miter .str evI m vs none)), (2, some (rowI 1 (keysAt m vs) strC))], 3⟩) (fun vs => vs.Nodup ∧ ∀ j ∈ vs, j < m.length) [1] ⟨List.nodup_nil, by simp⟩
    (wk rfl rfl rfl ⟨.refl _, rfl, .refl _, rfl, trivial⟩ (hI rfl rfl (.inl rfl) rfl (hR rfl rfl rfl trivial)) rfl) fun vs hJ => ?_
  obtain ⟨hJ1, hJ2⟩ := hJ
  have hvl := nodup_lt hJ1 hJ2
  have hkl := keysAt_len m vs
  refine goR rfl trivial (go_next rfl rfl rfl rfl rfl (by decide) (fun hall => ?_) fun j x hx hj => ?_)
  · refine goR rfl trivial (go_det [2] (c94of hS (keysAt m vs) (by omega)) rfl rfl rfl rfl rfl (congrArg (fun o => [some o]) (rowI_ren _).symm) rfl rfl ?_)
    have hpm : sortB (keysAt m vs) = toldM m := by rw [toldM, sortB_perm (keysAt_all m vs hJ1 hJ2 hall)]
    rw [hpm]
    refine gA rfl (end_det [2] (by first | exact .inr rfl | exact .inl rfl) rfl (wk rfl rfl rfl ⟨.row (by rw [← hpm, sortB_len]), rfl, trivial⟩ (hR rfl (rows_ren _ _) rfl trivial) rfl))
  · have hk := keysAt_cons m vs j x hx
    refine gA rfl ?_
    exact ⟨j, x, hx, hj, ⟨List.nodup_cons.2 ⟨hj, hJ1⟩, fun i hi => (List.mem_cons.1 hi).elim (fun h => h ▸ (List.getElem?_eq_some_iff.1 hx).1) (hJ2 i)⟩, [4], wk rfl rfl rfl ⟨.row (by rw [hk, List.length_append]; rfl), rfl, .refl _, rfl, trivial⟩ (hI rfl rfl (.inr rfl) rfl (hR rfl (by rw [hk, List.map_append]; rfl) rfl trivial)) rfl⟩
theorem d31o (hS : SortS) (r : Rule) (hb : r.size ≤ 10000000) : Det Tryz.prog 31 [ag r.c] [] (.sl 0 0 (toldM (occM (limOcc r))).length 1) [(0, some (rowI 1 (toldM (occM (limOcc r))) strC))] 1 := by
  have h1 := occM_len (limOcc r)
  have h2 := limOcc_len r
  have h3 : Lit.sizes r.body ≤ r.size := Nat.le_add_left _ _
  refine det_end tyA_ok Tryz.func31 rfl (by decide) Tryz.ntmps31 rfl (by simp) ?_
  refine gA rfl (go_pure (c48 r (by omega)) rfl rfl rfl rfl rfl rfl ?_)
  refine gA rfl (go_det [] (d73 r (by omega)) rfl rfl rfl rfl rfl rfl rfl rfl ?_)
  refine go_frzMo 1 rfl ?_
  refine gA rfl (go_det [] (d51o hS (occM (limOcc r)) (by omega)) rfl rfl rfl rfl rfl rfl rfl rfl ?_)
  refine gA rfl (end_det [2] (by first | exact .inr rfl | exact .inl rfl) rfl (wk rfl rfl rfl ⟨.refl _, rfl, trivial⟩ (hR rfl (rows_ren _ _) rfl trivial) rfl))
theorem d33o (hS : SortS) (r : Rule) (hb : r.size ≤ 10000000) : Det Tryz.prog 33 [ag r.c] [] (.sl 0 0 (toldM (occM (plOcc r))).length 1) [(0, some (rowI 1 (toldM (occM (plOcc r))) strC))] 1 := by
  have h1 := occM_len (plOcc r)
  have h2 := plOcc_len r
  have h3 : Lit.sizes r.body ≤ r.size := Nat.le_add_left _ _
  refine det_end tyA_ok Tryz.func33 rfl (by decide) Tryz.ntmps33 rfl (by simp) ?_
  refine gA rfl ?_
  refine gA rfl (go_det [1, 2] (d75B0 r (by omega)) rfl rfl rfl rfl rfl rfl rfl rfl ?_)
  refine go_frzMo 1 rfl ?_
  refine gA rfl (go_det [] (d51o hS (occM (plOcc r)) (by omega)) rfl rfl rfl rfl rfl rfl rfl rfl ?_)
  refine gA rfl (end_det [3] (by first | exact .inr rfl | exact .inl rfl) rfl (wk rfl rfl rfl ⟨.refl _, rfl, trivial⟩ (hR rfl (rows_ren _ _) rfl trivial) rfl))
theorem d13o (hS : SortS) (p : Prog) (n : Int) (hb : p.fit) (h1n : 1 ≤ n) (h2n : n ≤ p.rules.length) (hck : (checkD p).1 = 0) : Det Tryz.prog 13 [ag p.c, pI n] [] (.tup [.sl 0 0 (typesR p n).1.length 2, pI 0]) [(0, some (rowI 2 (typesR p n).1 Spot.c))] 1 := by
  have hb0 := hb
  obtain ⟨hb1, hb2, hb3⟩ := hb
  have hT : typesR p n = ((toldM (occM (outerOcc (p.rules.getD (n - 1).toNat default)))).map (tyOf p (p.rules.getD (n - 1).toNat default)), 0) := by
    unfold typesR
    rw [if_neg (by omega), if_neg (fun h => h hck)]
  rw [hT]
  have hlt : (n - 1).toNat < p.rules.length := by omega
  have hm : p.rules.getD (n - 1).toNat default ∈ p.rules := by rw [List.getD_eq_getElem?_getD, List.getElem?_eq_getElem hlt]; exact List.getElem_mem hlt
  have hf := hb3 _ hm
  obtain ⟨hf1, hf2, hf3⟩ := hf
  refine det_end tyA_ok Tryz.func13 rfl (by decide) Tryz.ntmps13 rfl (by simp) ?_
  refine gA rfl ?_
  refine And.intro (fun g1 => ?_) (fun g1 => ?_)
  rotate_left
  · have g : n < 1 := of_decide_eq_true (show decide (n < 1) = true from g1)
    omega
  refine gA rfl ?_
  refine And.intro (fun g2 => ?_) (fun g2 => ?_)
  · have g := of_decide_eq_true (show decide (n > (p.rules.length : Int)) = true from g2)
    omega
  refine gA rfl (go_pure (c24 p hb0) rfl rfl rfl rfl rfl rfl ?_)
  refine gA rfl ?_
  refine And.intro (fun g3 => ?_) (fun g3 => ?_)
  · have g : (!decide ((checkD p).1 = 0)) = true := g3
    rw [hck] at g; simp at g
  refine gA rfl (go_pure (c48 (p.rules.getD (n - 1).toNat default) (by omega)) rfl rfl rfl rfl rfl rfl ?_)
  refine gA rfl (go_det [] (d50 p (by omega)) rfl rfl rfl rfl rfl rfl rfl rfl ?_)
  refine gA rfl (go_det [1] (ownM_of2 rfl rfl (c49 p (p.rules.getD (n - 1).toNat default) (by omega))) rfl rfl rfl rfl rfl rfl rfl rfl ?_)
  have hol := outerOcc_len (p.rules.getD (n - 1).toNat default)
  have hoc := occM_len (outerOcc (p.rules.getD (n - 1).toNat default))
  generalize p.rules.getD (n - 1).toNat default = r at *
  refine gA rfl (go_pure (c51 hS (occM (outerOcc r)) (by omega)) rfl rfl rfl rfl rfl rfl ?_)
  refine gA rfl ?_
  have htl : (toldM (occM (outerOcc r))).length ≤ 100000000 := by rw [toldM, sortB_len, List.length_map]; omega
  generalize toldM (occM (outerOcc r)) = L at *
  refine go_virt 8 2 rfl ?_
  refine go_for 0 L.length (Nat.zero_le _) (fun i => ⟨[(7, .iv (tyI r (typesT p r))), (8, .sl 3 0 i 2), (39, .iv (strs L)), (40, pI L.length), (41, pI i)], [(3, some (rowI 2 ((L.take i).map (tyOf p r)) Spot.c))], 4⟩) (fun _ => True) [2] trivial
    (wk rfl rfl rfl ⟨.refl _, rfl, .refl _, rfl, .refl _, rfl, .refl _, rfl, .refl _, rfl, trivial⟩ (hR rfl rfl rfl trivial) rfl) fun i hi _ => ?_
  refine gA rfl ?_
  refine And.intro (fun h1 => ?_) (fun h1 => ?_)
  · have h1 : i < L.length := Int.ofNat_lt.1 (of_decide_eq_true h1)
    have hlt : (L.take i).length = i := by rw [List.length_take]; omega
    have hts := take_step (l := L) h1
    refine gA rfl (go_ddet tyA_ok [] (Pure.det (c52 r (typesT p r) (L.getD i default, -1) (typesT_ok p r))) rfl rfl rfl rfl rfl rfl rfl rfl rfl rfl rfl rfl (by (repeat' (first | exact trivial | exact rfl | exact PVle.refl _ | exact PVle.bk (by assumption) | apply And.intro)) <;> first | omega | (simp only [Int.toNat_natCast]; omega) | (simp; done) | (simp; omega)) rfl (by (repeat' (first | exact trivial | exact rfl | exact PVle.refl _ | exact PVle.bk (by assumption) | apply And.intro)) <;> first | omega | (simp only [Int.toNat_natCast]; omega) | (simp; done) | (simp; omega)) ?_)
    refine gA rfl ?_
    exact ⟨h1, trivial, [5], wk rfl rfl rfl ⟨.refl _, rfl, .refl _, rfl, .refl _, rfl, .refl _, rfl, .refl _, rfl, trivial⟩ (hR rfl (by rw [hts, List.map_append, List.map_append]; rfl) rfl trivial) rfl⟩
  · have h1 : L.length ≤ i := Nat.le_of_not_lt fun hh => absurd (Int.ofNat_lt.2 hh) (of_decide_eq_false h1)
    have hie : i = L.length := by omega
    subst hie
    rw [List.take_length]
    refine gA rfl (end_det [3] (by first | exact .inr rfl | exact .inl rfl) rfl (wk rfl rfl rfl ⟨.tup ⟨.row (by simp), .refl _, trivial⟩, rfl, trivial⟩ (hR rfl rfl rfl trivial) rfl))
end Go.Proofs.YtpnclpbkecjinaaGreatDoorR
/-
  The example's values.
-/
namespace Go.Proofs.YtpnclpbkecjinaaGreatDoorR
open Go Go.Al
set_option maxRecDepth 100000
abbrev nP : Str := ⟨#[112]⟩
abbrev nQ : Str := ⟨#[113]⟩
abbrev nX : Str := ⟨#[88]⟩
abbrev nY : Str := ⟨#[89]⟩
theorem sortB_same {l : List Str} (h : (l.map toB).Pairwise fun x y => decide (x ≤ y) = true) : sortB l = l := by
  rw [sortB, sortBytes, List.mergeSort_of_pairwise h, List.map_map]
  have : ofB ∘ toB = id := by funext x; exact ofB_toB x
  rw [this, List.map_id]
theorem sort_XY : sortB [nX, nY] = [nX, nY] := sortB_same (by decide +kernel)
theorem lim_v : toldM (occM (limOcc (exRule nP))) = [nX, nY] := by
  rw [toldM, show occM (limOcc (exRule nP)) = [(nX, 1), (nY, 1)] from by decide +kernel]
  exact sort_XY
theorem pl_v : toldM (occM (plOcc (exRule nP))) = [nX] := by
  rw [toldM, show occM (plOcc (exRule nP)) = [(nX, 1)] from by decide +kernel]
  exact sortB_same (by decide +kernel)
theorem out_v : toldM (occM (outerOcc (exRule nP))) = [nX, nY] := by
  rw [toldM, show (occM (outerOcc (exRule nP))).map (·.1) = [nY, nX] from by decide +kernel, sortB_perm (List.Perm.swap nX nY [])]
  exact sort_XY
theorem ty_v : (typesR (exP nP) 1).1 = [(nX, 1), (nY, 1)] := by
  unfold typesR
  rw [if_neg (by decide), if_neg (by decide +kernel)]
  show (toldM (occM (outerOcc (exRule nP)))).map (tyOf (exP nP) (exRule nP)) = _
  rw [out_v]
  decide +kernel
theorem chk_P : checkD (exP nP) = Diag.z := by decide +kernel
theorem chk_Q : checkD (exP nQ) = (61, ⟨1, 26⟩) := by decide +kernel
def exFact : Fact := ⟨nP, [⟨1, 1, ByteArray.empty⟩]⟩
def exGoal : Atom := ⟨nP, [⟨1, nX, exV⟩]⟩
theorem fact_v : factR (exP nQ) exFact = 0 := by decide +kernel
theorem goal_v : goalR (exP nQ) exGoal = 0 := by decide +kernel
theorem ex_fit (nm : Str) (h : ∀ l ∈ (exRule nm).body, l.ts ≤ 900000000) (h2 : (exRule nm).size ≤ 10000000) (h3 : (exRule nm).head.ts ≤ 900000000) : (exP nm).fit :=
  ⟨by show 1 ≤ _; omega, by show 1 ≤ _; omega, fun r hr => by
    have : r = exRule nm := List.mem_singleton.1 hr
    subst this; exact ⟨h2, h3, h⟩⟩
theorem fit_P : (exP nP).fit := ex_fit nP (by decide +kernel) (by decide +kernel) (by decide +kernel)
theorem fit_Q : (exP nQ).fit := ex_fit nQ (by decide +kernel) (by decide +kernel) (by decide +kernel)
end Go.Proofs.YtpnclpbkecjinaaGreatDoorR
/-
  known().
-/
namespace Go.Proofs.YtpnclpbkecjinaaGreatDoorR
open Go Go.Al
set_option maxRecDepth 10000
abbrev exA : PV := .agg [.sl 5 0 1 4, .sl 6 0 1 5]
abbrev exB : PV := .agg [pS ⟨#[112]⟩, .sl 3 0 1 5, .sl 2 0 2 30, pI 1, pI 18]
abbrev exC : AO := .cells [.sl 5 0 1 4, .sl 6 0 1 5]
theorem fzP (nm : Str) (rest : List PV) (hb : bareL rest = true) {M : Mem} {N : Nm} {w : World} {n : Nat} {h : AH} (hr0 : Rel M N (· < n) h w) (g0 : h.get 0 = some (.row 7 exR0)) (g1 : h.get 1 = some (.row 5 exR1)) (g2 : h.get 2 = some (.row 30 (exR2 nm))) (g3 : h.get 3 = some (.row 5 exR3)) (g4 : h.get 4 = some (.row 1 exR4)) (g5 : h.get 5 = some (.row 4 exR5)) (g6 : h.get 6 = some (.row 5 exR6)) :
    ∃ M1 : Mem, M.le M1 ∧ Rel M1 N (· < n) [] w ∧ ∀ (j : Nat) (p : PV) (x : Value), (ag (exP nm).c :: rest)[j]? = some p → (∀ q, (exA :: rest)[j]? = some q → VR M N (· < n) q x) → VR M1 N (· < n) p x := by
  obtain ⟨M1, h1, h2, h3, h4⟩ := ex_frz2 nm hr0 g0 g1 g2 g3 g4 g5 g6
  refine ⟨M1, h1, h2, fun j p x hj hq => ?_⟩
  cases j with
  | zero => cases hj; exact h3 x (hq _ rfl)
  | succ j => exact bareR_ok (hq p hj) (bareL_mem hb j p hj)
theorem fzB (nm : Str) {M : Mem} {N : Nm} {w : World} {n : Nat} {h : AH} (hr0 : Rel M N (· < n) h w) (g0 : h.get 0 = some (.row 7 exR0)) (g1 : h.get 1 = some (.row 5 exR1)) (g2 : h.get 2 = some (.row 30 (exR2 nm))) (g3 : h.get 3 = some (.row 5 exR3)) (g4 : h.get 4 = some (.row 1 exR4)) (g5 : h.get 5 = some (.row 4 exR5)) (g6 : h.get 6 = some (.row 5 exR6)) :
    ∃ M1 : Mem, M.le M1 ∧ Rel M1 N (· < n) [] w ∧ ∀ (j : Nat) (p : PV) (x : Value), [ag (exRule nm).c][j]? = some p → (∀ q, [exB][j]? = some q → VR M N (· < n) q x) → VR M1 N (· < n) p x := by
  obtain ⟨M1, h1, h2, h3, h4⟩ := ex_frz2 nm hr0 g0 g1 g2 g3 g4 g5 g6
  refine ⟨M1, h1, h2, fun j p x hj hq => ?_⟩
  cases j with
  | zero => cases hj; exact h4 x (hq _ rfl)
  | succ j => exact nomatch hj
theorem c24P : Pure Tryz.prog 24 [ag (exP nP).c] (ag Diag.z.c) := by have := c24 (exP nP) fit_P; rw [chk_P] at this; exact this
theorem c24Q : Pure Tryz.prog 24 [ag (exP nQ).c] (ag (Diag.c (61, ⟨1, 26⟩))) := by have := c24 (exP nQ) fit_Q; rw [chk_Q] at this; exact this
theorem d31P (hS : SortS) : Det Tryz.prog 31 [ag (exRule nP).c] [] (.sl 0 0 2 1) [(0, some (.row 1 [[pS nX], [pS nY]]))] 1 := by
  have := d31o hS (exRule nP) (by decide +kernel)
  rw [lim_v] at this; exact this
theorem d33P (hS : SortS) : Det Tryz.prog 33 [ag (exRule nP).c] [] (.sl 0 0 1 1) [(0, some (.row 1 [[pS nX]]))] 1 := by
  have := d33o hS (exRule nP) (by decide +kernel)
  rw [pl_v] at this; exact this
theorem d13P (hS : SortS) : Det Tryz.prog 13 [ag (exP nP).c, pI 1] [] (.tup [.sl 0 0 2 2, pI 0]) [(0, some (.row 2 [[pS nX, pI 1], [pS nY, pI 1]]))] 1 := by
  have := d13o hS (exP nP) 1 fit_P (by decide) (by decide) (by rw [chk_P]; rfl)
  rw [ty_v] at this; exact this
theorem bare1 {σ : Nat → Nat} {sz : Nat} {es : List (List PV)} (h : (es.map (renL σ)).all bareL = true) : ∀ j o, (renH σ [(0, some (.row sz es))]).get j = some o → bareO o := by
  intro j o hj
  simp only [renH, AO.ren] at hj
  rw [AH.get_cons] at hj
  split at hj
  · cases hj; exact fun e he => List.all_eq_true.1 h e he
  · exact nomatch hj
theorem go_dbcall {nt : Nat} {Q : AQ} {k : List KI} {s : AS} {all : List Oper} {todo pend : List (Nat × Oper)} {j' : Nat} {CA C2 : Prop} {o : Oper} {c : Call} {g : FuncId} {asv args : List PV} {r : PV} {h' : AH} {n' : Nat} {s' : AS} (hc : Det Tryz.prog g args [] r h' n')
    (hrd : readyE todo = [(j', o)]) (ho : o.op = .call c) (ha : argsOf s.f c = some (g, asv)) (hlen : args.length = asv.length) (hlow : belowL 0 args = true)
    (hfz : ∀ M N w, Rel M N (· < s.nx) s.h w → ∃ M1 : Mem, M.le M1 ∧ Rel M1 N (· < s.nx) [] w ∧ ∀ (j : Nat) (p : PV) (x : Value), args[j]? = some p → (∀ q, asv[j]? = some q → VR M N (· < s.nx) q x) → VR M1 N (· < s.nx) p x)
    (hbr : bareR (r.ren (sig [] s.nx)) = true) (hbh : ∀ j o, (renH (sig [] s.nx) h').get j = some o → bareO o) (hp : putDst nt o (r.ren (sig [] s.nx)) (behindCall s [] h' n') = some s')
    (hg : guardIs nt all s.f o = some true) (hpb : pendB all pend o = true) (hE : effE todo [j'] = true)
    (hag : agnC tyA nt all s todo pend = some CA) (hCA : CA) (hag2 : againC tyA nt all s' (restOf pend o) = some C2) (hC2 : C2)
    (h : GO Tryz.prog nt (.dops all (todo.filter fun x => !Nat.beq x.1 j') (restOf pend o) :: k) Q s') : GO Tryz.prog nt (.dops all todo pend :: k) Q s :=
  go_dot tyA_ok hrd hg hpb hE hag hCA (bcall_OT ho ha hc hlen hlow hfz hbr hbh hp) hag2 hC2 h
/-- .. with one row more, of a second argument. -/
theorem fzX (nm : Str) (R sz : Nat) (l : List (List IV)) (p2 : PV) (d2 : List IV) (hin : p2.inRow R sz l.length) (hle : PVle (p2.frz R sz (elOf l)) (ag d2)) {M : Mem} {N : Nm} {w : World} {n : Nat} {h : AH} (hr : Rel M N (· < n) h w) (hR : h.get R = some (.row sz (l.map fun x => x.map .iv))) (hok : okRB R sz l.length h = true) (hA : exA.frz R sz (elOf l) = exA) (hAi : exA.inRow R sz l.length)
    (g0 : AH.get ((R, none) :: h.frzRR R sz (elOf l)) 0 = some (.row 7 exR0)) (g1 : AH.get ((R, none) :: h.frzRR R sz (elOf l)) 1 = some (.row 5 exR1)) (g2 : AH.get ((R, none) :: h.frzRR R sz (elOf l)) 2 = some (.row 30 (exR2 nm))) (g3 : AH.get ((R, none) :: h.frzRR R sz (elOf l)) 3 = some (.row 5 exR3)) (g4 : AH.get ((R, none) :: h.frzRR R sz (elOf l)) 4 = some (.row 1 exR4)) (g5 : AH.get ((R, none) :: h.frzRR R sz (elOf l)) 5 = some (.row 4 exR5)) (g6 : AH.get ((R, none) :: h.frzRR R sz (elOf l)) 6 = some (.row 5 exR6)) :
    ∃ M1 : Mem, M.le M1 ∧ Rel M1 N (· < n) [] w ∧ ∀ (j : Nat) (p : PV) (x : Value), [ag (exP nm).c, ag d2][j]? = some p → (∀ q, [exA, p2][j]? = some q → VR M N (· < n) q x) → VR M1 N (· < n) p x := by
  obtain ⟨Ma, la, ra, va⟩ := rel_frzRR hr R (elOf l) hR (hel_of rfl) (by rw [List.length_map]; exact okRB_ok hok)
  rw [List.length_map] at va
  obtain ⟨M1, h1, h2, h3, h4⟩ := ex_frz2 nm ra g0 g1 g2 g3 g4 g5 g6
  refine ⟨M1, la.trans h1, h2, fun j p x hj hq => ?_⟩
  match j, hj with
  | 0, hj => cases hj; exact h3 x (by have := va _ _ (hq _ rfl) hAi; rw [hA] at this; exact this)
  | 1, hj => cases hj; exact hle _ _ _ _ ((va _ _ (hq _ rfl) hin).mono h1 (.refl _ _) fun _ h => h)
  | j + 2, hj => exact nomatch hj
def exLF : List (List IV) := [[iI 1, iI 1, iE]]
def exLG : List (List IV) := [[iI 1, iS ⟨#[88]⟩, iI 0, iI 0, iE]]
theorem fact_le : PVle (.agg [pS ⟨#[112]⟩, .iv (imOf 3 1 exLF)]) (ag exFact.c) := .agg ⟨.refl _, .iv (imm2L fun k hk => by match k, hk with | 0, _ => exact ⟨.refl _, .refl _, .refl _, trivial⟩), trivial⟩
theorem goal_le : PVle (.agg [pS ⟨#[112]⟩, .iv (imOf 5 1 exLG)]) (ag exGoal.c) := .agg ⟨.refl _, .iv (imm2L fun k hk => by match k, hk with | 0, _ => exact ⟨.refl _, .refl _, .refl _, .refl _, .refl _, trivial⟩), trivial⟩
theorem c16Q : Pure Tryz.prog 16 [ag (exP nQ).c, ag exFact.c] (pI 0) := by have := c16 (exP nQ) exFact (by decide +kernel) (by decide +kernel); rw [fact_v] at this; exact this
theorem c21Q : Pure Tryz.prog 21 [ag (exP nQ).c, ag exGoal.c] (pI 0) := by have := c21 (exP nQ) exGoal (by decide +kernel) (by decide +kernel) (by decide +kernel); rw [goal_v] at this; exact this
set_option maxHeartbeats 4000000 in
theorem c11 (hS : SortS) : Pure Tryz.prog 11 [] (pB true) := by
  refine pure_end tyA_ok Tryz.func11 rfl (by decide) Tryz.ntmps11 rfl (by simp) rfl ?_
  refine gA rfl (go_det [] (d43) rfl rfl rfl rfl rfl rfl rfl rfl ?_)
  refine gM 3 rfl (go_wk [] (t := ⟨[(1, .ptr 7 0)], [(0, some (.row 7 exR0)), (1, some (.row 5 exR1)), (2, some (.row 30 (exR2 nP))), (3, some (.row 5 exR3)), (4, some (.row 1 exR4)), (5, some (.row 4 exR5)), (6, some (.row 5 exR6)), (7, some exC)], 8⟩) (wk rfl rfl rfl ⟨.refl _, rfl, trivial⟩ ⟨⟨_, rfl, .of_eq rfl⟩, Nat.le_of_ble_eq_true rfl, row_low rfl, ⟨⟨_, rfl, .of_eq rfl⟩, Nat.le_of_ble_eq_true rfl, row_low rfl, ⟨⟨_, rfl, .of_eq rfl⟩, Nat.le_of_ble_eq_true rfl, row_low rfl, ⟨⟨_, rfl, .of_eq rfl⟩, Nat.le_of_ble_eq_true rfl, row_low rfl, ⟨⟨_, rfl, .of_eq rfl⟩, Nat.le_of_ble_eq_true rfl, row_low rfl, ⟨⟨_, rfl, .of_eq rfl⟩, Nat.le_of_ble_eq_true rfl, row_low rfl, ⟨⟨_, rfl, .of_eq rfl⟩, Nat.le_of_ble_eq_true rfl, row_low rfl, ⟨⟨_, rfl, .of_eq rfl⟩, Nat.le_of_ble_eq_true rfl, rfl, trivial⟩⟩⟩⟩⟩⟩⟩⟩ rfl) ?_)
  refine gA rfl (go_bcall (asv := [exA]) c24P rfl rfl rfl rfl rfl (fun M N w hr => fzP nP [] rfl hr rfl rfl rfl rfl rfl rfl rfl) rfl (fun j o hj => nomatch hj) rfl ?_)
  refine gM 3 rfl (go_wk [] (t := ⟨[(1, .ptr 7 0), (2, .ptr 8 0)], [(0, some (.row 7 exR0)), (1, some (.row 5 exR1)), (2, some (.row 30 (exR2 nP))), (3, some (.row 5 exR3)), (4, some (.row 1 exR4)), (5, some (.row 4 exR5)), (6, some (.row 5 exR6)), (7, some exC), (8, some (.cells [pI 0, pI 0, pI 0]))], 9⟩) (wk rfl rfl rfl ⟨.refl _, rfl, .refl _, rfl, trivial⟩ ⟨⟨_, rfl, .of_eq rfl⟩, Nat.le_of_ble_eq_true rfl, row_low rfl, ⟨⟨_, rfl, .of_eq rfl⟩, Nat.le_of_ble_eq_true rfl, row_low rfl, ⟨⟨_, rfl, .of_eq rfl⟩, Nat.le_of_ble_eq_true rfl, row_low rfl, ⟨⟨_, rfl, .of_eq rfl⟩, Nat.le_of_ble_eq_true rfl, row_low rfl, ⟨⟨_, rfl, .of_eq rfl⟩, Nat.le_of_ble_eq_true rfl, row_low rfl, ⟨⟨_, rfl, .of_eq rfl⟩, Nat.le_of_ble_eq_true rfl, row_low rfl, ⟨⟨_, rfl, .of_eq rfl⟩, Nat.le_of_ble_eq_true rfl, row_low rfl, ⟨⟨_, rfl, .of_eq rfl⟩, Nat.le_of_ble_eq_true rfl, rfl, ⟨⟨_, rfl, .of_eq rfl⟩, Nat.le_of_ble_eq_true rfl, rfl, trivial⟩⟩⟩⟩⟩⟩⟩⟩⟩ rfl) ?_)
  refine gA rfl (go_bcall (asv := [exB]) (d31P hS) rfl rfl rfl rfl rfl (fun M N w hr => fzB nP hr rfl rfl rfl rfl rfl rfl rfl) rfl (bare1 rfl) rfl ?_)
  refine gM 2 rfl (go_wk [] (t := ⟨[(1, .ptr 7 0), (2, .ptr 8 0), (3, .sl 9 0 2 1)], [(0, some (.row 7 exR0)), (1, some (.row 5 exR1)), (2, some (.row 30 (exR2 nP))), (3, some (.row 5 exR3)), (4, some (.row 1 exR4)), (5, some (.row 4 exR5)), (6, some (.row 5 exR6)), (7, some exC), (8, some (.cells [pI 0, pI 0, pI 0])), (9, some (.row 1 [[pS nX], [pS nY]]))], 10⟩) (wk rfl rfl rfl ⟨.refl _, rfl, .refl _, rfl, .refl _, rfl, trivial⟩ ⟨⟨_, rfl, .of_eq rfl⟩, Nat.le_of_ble_eq_true rfl, row_low rfl, ⟨⟨_, rfl, .of_eq rfl⟩, Nat.le_of_ble_eq_true rfl, row_low rfl, ⟨⟨_, rfl, .of_eq rfl⟩, Nat.le_of_ble_eq_true rfl, row_low rfl, ⟨⟨_, rfl, .of_eq rfl⟩, Nat.le_of_ble_eq_true rfl, row_low rfl, ⟨⟨_, rfl, .of_eq rfl⟩, Nat.le_of_ble_eq_true rfl, row_low rfl, ⟨⟨_, rfl, .of_eq rfl⟩, Nat.le_of_ble_eq_true rfl, row_low rfl, ⟨⟨_, rfl, .of_eq rfl⟩, Nat.le_of_ble_eq_true rfl, row_low rfl, ⟨⟨_, rfl, .of_eq rfl⟩, Nat.le_of_ble_eq_true rfl, rfl, ⟨⟨_, rfl, .of_eq rfl⟩, Nat.le_of_ble_eq_true rfl, rfl, ⟨⟨_, rfl, .of_eq rfl⟩, Nat.le_of_ble_eq_true rfl, row_low rfl, trivial⟩⟩⟩⟩⟩⟩⟩⟩⟩⟩ rfl) ?_)
  refine gA rfl (go_bcall (asv := [exB]) (d33P hS) rfl rfl rfl rfl rfl (fun M N w hr => fzB nP hr rfl rfl rfl rfl rfl rfl rfl) rfl (bare1 rfl) rfl ?_)
  refine gM 2 rfl (go_wk [] (t := ⟨[(1, .ptr 7 0), (2, .ptr 8 0), (3, .sl 9 0 2 1), (4, .sl 10 0 1 1)], [(0, some (.row 7 exR0)), (1, some (.row 5 exR1)), (2, some (.row 30 (exR2 nP))), (3, some (.row 5 exR3)), (4, some (.row 1 exR4)), (5, some (.row 4 exR5)), (6, some (.row 5 exR6)), (7, some exC), (8, some (.cells [pI 0, pI 0, pI 0])), (9, some (.row 1 [[pS nX], [pS nY]])), (10, some (.row 1 [[pS nX]]))], 11⟩) (wk rfl rfl rfl ⟨.refl _, rfl, .refl _, rfl, .refl _, rfl, .refl _, rfl, trivial⟩ ⟨⟨_, rfl, .of_eq rfl⟩, Nat.le_of_ble_eq_true rfl, row_low rfl, ⟨⟨_, rfl, .of_eq rfl⟩, Nat.le_of_ble_eq_true rfl, row_low rfl, ⟨⟨_, rfl, .of_eq rfl⟩, Nat.le_of_ble_eq_true rfl, row_low rfl, ⟨⟨_, rfl, .of_eq rfl⟩, Nat.le_of_ble_eq_true rfl, row_low rfl, ⟨⟨_, rfl, .of_eq rfl⟩, Nat.le_of_ble_eq_true rfl, row_low rfl, ⟨⟨_, rfl, .of_eq rfl⟩, Nat.le_of_ble_eq_true rfl, row_low rfl, ⟨⟨_, rfl, .of_eq rfl⟩, Nat.le_of_ble_eq_true rfl, row_low rfl, ⟨⟨_, rfl, .of_eq rfl⟩, Nat.le_of_ble_eq_true rfl, rfl, ⟨⟨_, rfl, .of_eq rfl⟩, Nat.le_of_ble_eq_true rfl, rfl, ⟨⟨_, rfl, .of_eq rfl⟩, Nat.le_of_ble_eq_true rfl, row_low rfl, ⟨⟨_, rfl, .of_eq rfl⟩, Nat.le_of_ble_eq_true rfl, row_low rfl, trivial⟩⟩⟩⟩⟩⟩⟩⟩⟩⟩⟩ rfl) ?_)
  refine gA rfl (go_bcall (asv := [exA, pI 1]) (d13P hS) rfl rfl rfl rfl rfl (fun M N w hr => fzP nP [pI 1] rfl hr rfl rfl rfl rfl rfl rfl rfl) rfl (bare1 rfl) rfl ?_)
  refine gM 6 rfl (go_wk [] (t := ⟨[(1, .ptr 7 0), (2, .ptr 8 0), (3, .sl 9 0 2 1), (4, .sl 10 0 1 1), (5, .sl 11 0 2 2), (6, pI 0)], [(0, some (.row 7 exR0)), (1, some (.row 5 exR1)), (2, some (.row 30 (exR2 nP))), (3, some (.row 5 exR3)), (4, some (.row 1 exR4)), (5, some (.row 4 exR5)), (6, some (.row 5 exR6)), (7, some exC), (8, some (.cells [pI 0, pI 0, pI 0])), (9, some (.row 1 [[pS nX], [pS nY]])), (10, some (.row 1 [[pS nX]])), (11, some (.row 2 [[pS nX, pI 1], [pS nY, pI 1]]))], 12⟩) (wk rfl rfl rfl ⟨.refl _, rfl, .refl _, rfl, .refl _, rfl, .refl _, rfl, .refl _, rfl, .refl _, rfl, trivial⟩ ⟨⟨_, rfl, .of_eq rfl⟩, Nat.le_of_ble_eq_true rfl, row_low rfl, ⟨⟨_, rfl, .of_eq rfl⟩, Nat.le_of_ble_eq_true rfl, row_low rfl, ⟨⟨_, rfl, .of_eq rfl⟩, Nat.le_of_ble_eq_true rfl, row_low rfl, ⟨⟨_, rfl, .of_eq rfl⟩, Nat.le_of_ble_eq_true rfl, row_low rfl, ⟨⟨_, rfl, .of_eq rfl⟩, Nat.le_of_ble_eq_true rfl, row_low rfl, ⟨⟨_, rfl, .of_eq rfl⟩, Nat.le_of_ble_eq_true rfl, row_low rfl, ⟨⟨_, rfl, .of_eq rfl⟩, Nat.le_of_ble_eq_true rfl, row_low rfl, ⟨⟨_, rfl, .of_eq rfl⟩, Nat.le_of_ble_eq_true rfl, rfl, ⟨⟨_, rfl, .of_eq rfl⟩, Nat.le_of_ble_eq_true rfl, rfl, ⟨⟨_, rfl, .of_eq rfl⟩, Nat.le_of_ble_eq_true rfl, row_low rfl, ⟨⟨_, rfl, .of_eq rfl⟩, Nat.le_of_ble_eq_true rfl, row_low rfl, ⟨⟨_, rfl, .of_eq rfl⟩, Nat.le_of_ble_eq_true rfl, row_low rfl, trivial⟩⟩⟩⟩⟩⟩⟩⟩⟩⟩⟩⟩ rfl) ?_)
  iterate 10
    refine gA rfl (And.intro (fun q => ?_) (fun q => ?_))
    all_goals (try exact absurd q (by decide +kernel))
  refine gM 1 rfl (go_wk [] (t := ⟨[(1, .ptr 7 0)], [(0, some (.row 7 exR0)), (1, some (.row 5 exR1)), (2, some (.row 30 (exR2 nP))), (3, some (.row 5 exR3)), (4, some (.row 1 exR4)), (5, some (.row 4 exR5)), (6, some (.row 5 exR6)), (7, some exC)], 12⟩) (wk rfl rfl rfl ⟨.refl _, rfl, trivial⟩ ⟨⟨_, rfl, .of_eq rfl⟩, Nat.le_of_ble_eq_true rfl, row_low rfl, ⟨⟨_, rfl, .of_eq rfl⟩, Nat.le_of_ble_eq_true rfl, row_low rfl, ⟨⟨_, rfl, .of_eq rfl⟩, Nat.le_of_ble_eq_true rfl, row_low rfl, ⟨⟨_, rfl, .of_eq rfl⟩, Nat.le_of_ble_eq_true rfl, row_low rfl, ⟨⟨_, rfl, .of_eq rfl⟩, Nat.le_of_ble_eq_true rfl, row_low rfl, ⟨⟨_, rfl, .of_eq rfl⟩, Nat.le_of_ble_eq_true rfl, row_low rfl, ⟨⟨_, rfl, .of_eq rfl⟩, Nat.le_of_ble_eq_true rfl, row_low rfl, ⟨⟨_, rfl, .of_eq rfl⟩, Nat.le_of_ble_eq_true rfl, rfl, trivial⟩⟩⟩⟩⟩⟩⟩⟩ rfl) ?_)
  refine gA rfl (go_storeRow tyA_ok rfl rfl rfl rfl rfl (i := 2) (sz := 30) (q := 0) (off := 1) (es := exR2 nP) rfl rfl rfl rfl rfl rfl rfl rfl ?_)
  refine gM 1 rfl (go_wk [] (t := ⟨[(1, .ptr 7 0)], [(0, some (.row 7 exR0)), (1, some (.row 5 exR1)), (2, some (.row 30 (exR2 nQ))), (3, some (.row 5 exR3)), (4, some (.row 1 exR4)), (5, some (.row 4 exR5)), (6, some (.row 5 exR6)), (7, some exC)], 12⟩) (wk rfl rfl rfl ⟨.refl _, rfl, trivial⟩ ⟨⟨_, rfl, .of_eq rfl⟩, Nat.le_of_ble_eq_true rfl, row_low rfl, ⟨⟨_, rfl, .of_eq rfl⟩, Nat.le_of_ble_eq_true rfl, row_low rfl, ⟨⟨_, rfl, .of_eq rfl⟩, Nat.le_of_ble_eq_true rfl, row_low rfl, ⟨⟨_, rfl, .of_eq rfl⟩, Nat.le_of_ble_eq_true rfl, row_low rfl, ⟨⟨_, rfl, .of_eq rfl⟩, Nat.le_of_ble_eq_true rfl, row_low rfl, ⟨⟨_, rfl, .of_eq rfl⟩, Nat.le_of_ble_eq_true rfl, row_low rfl, ⟨⟨_, rfl, .of_eq rfl⟩, Nat.le_of_ble_eq_true rfl, row_low rfl, ⟨⟨_, rfl, .of_eq rfl⟩, Nat.le_of_ble_eq_true rfl, rfl, trivial⟩⟩⟩⟩⟩⟩⟩⟩ rfl) ?_)
  refine gA rfl (go_bcall (asv := [exA]) c24Q rfl rfl rfl rfl rfl (fun M N w hr => fzP nQ [] rfl hr rfl rfl rfl rfl rfl rfl rfl) rfl (fun j o hj => nomatch hj) rfl ?_)
  refine gM 3 rfl (go_wk [] (t := ⟨[(1, .ptr 7 0), (7, .ptr 12 0)], [(0, some (.row 7 exR0)), (1, some (.row 5 exR1)), (2, some (.row 30 (exR2 nQ))), (3, some (.row 5 exR3)), (4, some (.row 1 exR4)), (5, some (.row 4 exR5)), (6, some (.row 5 exR6)), (7, some exC), (12, some (.cells [pI 61, pI 1, pI 26]))], 13⟩) (wk rfl rfl rfl ⟨.refl _, rfl, .refl _, rfl, trivial⟩ ⟨⟨_, rfl, .of_eq rfl⟩, Nat.le_of_ble_eq_true rfl, row_low rfl, ⟨⟨_, rfl, .of_eq rfl⟩, Nat.le_of_ble_eq_true rfl, row_low rfl, ⟨⟨_, rfl, .of_eq rfl⟩, Nat.le_of_ble_eq_true rfl, row_low rfl, ⟨⟨_, rfl, .of_eq rfl⟩, Nat.le_of_ble_eq_true rfl, row_low rfl, ⟨⟨_, rfl, .of_eq rfl⟩, Nat.le_of_ble_eq_true rfl, row_low rfl, ⟨⟨_, rfl, .of_eq rfl⟩, Nat.le_of_ble_eq_true rfl, row_low rfl, ⟨⟨_, rfl, .of_eq rfl⟩, Nat.le_of_ble_eq_true rfl, row_low rfl, ⟨⟨_, rfl, .of_eq rfl⟩, Nat.le_of_ble_eq_true rfl, rfl, ⟨⟨_, rfl, .of_eq rfl⟩, Nat.le_of_ble_eq_true rfl, rfl, trivial⟩⟩⟩⟩⟩⟩⟩⟩⟩ rfl) ?_)
  refine gA rfl (go_ddet tyA_ok [] (Pure.det (c44 1)) rfl rfl rfl rfl rfl rfl rfl rfl rfl rfl rfl rfl (by (repeat' (first | exact trivial | exact rfl | exact PVle.refl _ | exact PVle.bk (by assumption) | apply And.intro)) <;> first | omega | (simp only [Int.toNat_natCast]; omega) | (simp; done) | (simp; omega)) rfl (by (repeat' (first | exact trivial | exact rfl | exact PVle.refl _ | exact PVle.bk (by assumption) | apply And.intro)) <;> first | omega | (simp only [Int.toNat_natCast]; omega) | (simp; done) | (simp; omega)) ?_)
  refine gA rfl (go_dbcall (asv := [exA, (.agg [pS ⟨#[112]⟩, .sl 13 0 1 3])]) c16Q rfl rfl rfl rfl rfl (fun M N w hr => fzX nQ 13 3 exLF (.agg [pS ⟨#[112]⟩, .sl 13 0 1 3]) exFact.c (rowRB_ok rfl) fact_le hr rfl rfl rfl (rowRB_ok rfl) rfl rfl rfl rfl rfl rfl rfl) rfl (fun j o hj => nomatch hj) rfl rfl rfl rfl rfl (by (repeat' (first | exact trivial | exact rfl | exact PVle.refl _ | exact PVle.bk (by assumption) | apply And.intro)) <;> first | omega | (simp only [Int.toNat_natCast]; omega) | (simp; done) | (simp; omega)) rfl (by (repeat' (first | exact trivial | exact rfl | exact PVle.refl _ | exact PVle.bk (by assumption) | apply And.intro)) <;> first | omega | (simp only [Int.toNat_natCast]; omega) | (simp; done) | (simp; omega)) ?_)
  refine gM 2 rfl (go_wk [] (t := ⟨[(1, .ptr 7 0), (7, .ptr 12 0), (8, pI 0)], [(0, some (.row 7 exR0)), (1, some (.row 5 exR1)), (2, some (.row 30 (exR2 nQ))), (3, some (.row 5 exR3)), (4, some (.row 1 exR4)), (5, some (.row 4 exR5)), (6, some (.row 5 exR6)), (7, some exC), (12, some (.cells [pI 61, pI 1, pI 26]))], 14⟩) (wk rfl rfl rfl ⟨.refl _, rfl, .refl _, rfl, .refl _, rfl, trivial⟩ ⟨⟨_, rfl, .of_eq rfl⟩, Nat.le_of_ble_eq_true rfl, row_low rfl, ⟨⟨_, rfl, .of_eq rfl⟩, Nat.le_of_ble_eq_true rfl, row_low rfl, ⟨⟨_, rfl, .of_eq rfl⟩, Nat.le_of_ble_eq_true rfl, row_low rfl, ⟨⟨_, rfl, .of_eq rfl⟩, Nat.le_of_ble_eq_true rfl, row_low rfl, ⟨⟨_, rfl, .of_eq rfl⟩, Nat.le_of_ble_eq_true rfl, row_low rfl, ⟨⟨_, rfl, .of_eq rfl⟩, Nat.le_of_ble_eq_true rfl, row_low rfl, ⟨⟨_, rfl, .of_eq rfl⟩, Nat.le_of_ble_eq_true rfl, row_low rfl, ⟨⟨_, rfl, .of_eq rfl⟩, Nat.le_of_ble_eq_true rfl, rfl, ⟨⟨_, rfl, .of_eq rfl⟩, Nat.le_of_ble_eq_true rfl, rfl, trivial⟩⟩⟩⟩⟩⟩⟩⟩⟩ rfl) ?_)
  refine gA rfl (go_ddet tyA_ok [] (Pure.det (c40 nX)) rfl rfl rfl rfl rfl rfl rfl rfl rfl rfl rfl rfl (by (repeat' (first | exact trivial | exact rfl | exact PVle.refl _ | exact PVle.bk (by assumption) | apply And.intro)) <;> first | omega | (simp only [Int.toNat_natCast]; omega) | (simp; done) | (simp; omega)) rfl (by (repeat' (first | exact trivial | exact rfl | exact PVle.refl _ | exact PVle.bk (by assumption) | apply And.intro)) <;> first | omega | (simp only [Int.toNat_natCast]; omega) | (simp; done) | (simp; omega)) ?_)
  refine gA rfl (go_dbcall (asv := [exA, (.agg [pS ⟨#[112]⟩, .sl 14 0 1 5])]) c21Q rfl rfl rfl rfl rfl (fun M N w hr => fzX nQ 14 5 exLG (.agg [pS ⟨#[112]⟩, .sl 14 0 1 5]) exGoal.c (rowRB_ok rfl) goal_le hr rfl rfl rfl (rowRB_ok rfl) rfl rfl rfl rfl rfl rfl rfl) rfl (fun j o hj => nomatch hj) rfl rfl rfl rfl rfl (by (repeat' (first | exact trivial | exact rfl | exact PVle.refl _ | exact PVle.bk (by assumption) | apply And.intro)) <;> first | omega | (simp only [Int.toNat_natCast]; omega) | (simp; done) | (simp; omega)) rfl (by (repeat' (first | exact trivial | exact rfl | exact PVle.refl _ | exact PVle.bk (by assumption) | apply And.intro)) <;> first | omega | (simp only [Int.toNat_natCast]; omega) | (simp; done) | (simp; omega)) ?_)
  iterate 4
    refine gA rfl (And.intro (fun q => ?_) (fun q => ?_))
    all_goals (try exact absurd q (by decide +kernel))
  refine gA rfl (end_le (by first | exact .inr rfl | exact .inl rfl) rfl (.of_eq ?_))
  rfl
end Go.Proofs.YtpnclpbkecjinaaGreatDoorR
/-
  SoundVars, but for what is told of the example.
-/
namespace Go.Proofs.YtpnclpbkecjinaaGreatDoorR
open Go Go.Al
set_option maxRecDepth 10000
/-! The four lists, as the document has them. -/
end Go.Proofs.YtpnclpbkecjinaaGreatDoorR
/-
  SoundVars, whole.
-/
namespace Go.Proofs.YtpnclpbkecjinaaGreatDoorR
open Go Go.Al
theorem known_ok : Pure Tryz.prog 11 [] (pB true) := c11 sortS
end Go.Proofs.YtpnclpbkecjinaaGreatDoorR
/-
  What the form reads of the law's arguments is the walks' data, and not great.
-/
namespace Go.Proofs.YtpnclpbkecjinaaGreatDoorR
open Go Go.Al
set_option maxRecDepth 10000
/-! How many cells. -/
theorem cells3 : Tryz.prog.cellsOf 3 = 1 := by kernel_rfl
theorem cells9 : Tryz.prog.cellsOf 9 = 1 := by kernel_rfl
theorem cells69 : Tryz.prog.cellsOf 69 = 3 := by kernel_rfl
theorem cells79 : Tryz.prog.cellsOf 79 = 5 := by kernel_rfl
theorem cells45 : Tryz.prog.cellsOf 45 = 1 := by kernel_rfl
theorem cells47 : Tryz.prog.cellsOf 47 = 2 := by kernel_rfl
theorem cells70 : Tryz.prog.cellsOf 70 = 1 := by kernel_rfl
theorem cells72 : Tryz.prog.cellsOf 72 = 7 := by kernel_rfl
theorem cells74 : Tryz.prog.cellsOf 74 = 10 := by kernel_rfl
theorem cells59 : Tryz.prog.cellsOf 59 = 1 := by kernel_rfl
theorem cells76 : Tryz.prog.cellsOf 76 = 30 := by kernel_rfl
theorem cells53 : Tryz.prog.cellsOf 53 = 2 := by kernel_rfl
theorem cells61 : Tryz.prog.cellsOf 61 = 5 := by kernel_rfl
theorem cells90 : Tryz.prog.cellsOf 90 = 1 := by kernel_rfl
theorem cells116 : Tryz.prog.cellsOf 116 = 4 := by kernel_rfl
theorem cells22 : Tryz.prog.cellsOf 22 = 1 := by kernel_rfl
theorem cells23 : Tryz.prog.cellsOf 23 = 1 := by kernel_rfl
theorem cells25 : Tryz.prog.cellsOf 25 = 2 := by kernel_rfl
theorem cells38 : Tryz.prog.cellsOf 38 = 1 := by kernel_rfl
theorem cells40 : Tryz.prog.cellsOf 40 = 2 := by kernel_rfl
section
variable {H : Type}
/-- How much it is. -/
abbrev bk (d : DataW H) : Nat := Rows.uptoBulk d
theorem bk_pos (d : DataW H) : 1 ≤ bk d := by
  cases d with
  | lit l => cases l <;> simp [bk, Rows.uptoBulk]
  | nil => simp [bk, Rows.uptoBulk]
  | ptr d => simp [bk, Rows.uptoBulk]
  | slice elems spare => simp [bk, Rows.uptoBulk]
  | agg parts => simp [bk, Rows.uptoBulk]
  | iface t d => simp [bk, Rows.uptoBulk]
  | map entries => simp [bk, Rows.uptoBulk]
  | held h => simp [bk, Rows.uptoBulk]
theorem bk_str (s : ByteArray) : bk (DataW.lit (H := H) (.string s.data.toList)) = s.size + 1 := by
  simp [bk, Rows.uptoBulk]
theorem _root_.Go.Al.QL.sum {α : Type} {Q : α → DataW H → Prop} {l : List α} {d : DataW H} (h : QL Q l d) {f : α → Nat} {c : Nat} (hf : ∀ x e, Q x e → f x ≤ c * bk e) : (l.map f).sum ≤ c * bk d := by
  obtain ⟨el, hd, hlen, hq⟩ := h
  have key : ∀ (l : List α) (el : List (DataW H)), l.length = el.length → (∀ (i : Nat) (x : α) (e : DataW H), l[i]? = some x → el[i]? = some e → Q x e) → (l.map f).sum ≤ c * Rows.uptoBulkAll el := by
    intro l
    induction l with
    | nil => intro el _ _; simp
    | cons x r ih =>
      intro el hl hq
      cases el with
      | nil => simp at hl
      | cons e el =>
        have h1 := hf x e (hq 0 x e rfl rfl)
        have h2 := ih el (by simpa using hl) fun i x e hx he => hq (i + 1) x e (by simpa using hx) (by simpa using he)
        simp only [List.map_cons, List.sum_cons, Rows.uptoBulkAll, Nat.mul_add]
        simp only [bk] at h1
        omega
  have h1 := key l el hlen hq
  rcases hd with ⟨rfl, rfl⟩ | ⟨sp, rfl⟩
  · simp [Rows.uptoBulkAll] at h1; omega
  · refine Nat.le_trans h1 (Nat.mul_le_mul_left c ?_)
    simp only [bk, Rows.uptoBulk]; omega
theorem sum_ones {α : Type} : ∀ l : List α, (l.map fun _ => 1).sum = l.length
  | [] => rfl
  | x :: r => by simp only [List.map_cons, List.sum_cons, List.length_cons, sum_ones r]; omega
theorem _root_.Go.Al.QL.len {α : Type} {Q : α → DataW H → Prop} {l : List α} {d : DataW H} (h : QL Q l d) : l.length ≤ bk d := by
  have := h.sum (f := fun _ => 1) (c := 1) fun x e _ => by have := bk_pos e; omega
  have e := sum_ones l
  omega
theorem _root_.Go.Al.QL.all {α : Type} {Q : α → DataW H → Prop} {l : List α} {d : DataW H} (h : QL Q l d) : ∀ x ∈ l, ∃ e, Q x e ∧ bk e ≤ bk d := by
  intro x hx
  obtain ⟨el, hd, hlen, hq⟩ := h
  obtain ⟨i, hi, rfl⟩ := List.mem_iff_getElem.1 hx
  have hie : i < el.length := by omega
  refine ⟨el[i], hq i _ _ (List.getElem?_eq_getElem hi) (List.getElem?_eq_getElem hie), ?_⟩
  have key : ∀ (el : List (DataW H)), ∀ e ∈ el, bk e ≤ Rows.uptoBulkAll el := by
    intro el
    induction el with
    | nil => intro e he; cases he
    | cons y r ih =>
      intro e he
      simp only [Rows.uptoBulkAll]
      rcases List.mem_cons.1 he with rfl | he
      · simp only [bk]; omega
      · have := ih e he; omega
  have h1 := key el el[i] (List.getElem_mem hie)
  rcases hd with ⟨rfl, rfl⟩ | ⟨sp, rfl⟩
  · simp at hie
  · refine Nat.le_trans h1 ?_
    simp only [bk, Rows.uptoBulk]; omega
end
theorem Expr.sizes_sum : ∀ l : List Expr, Expr.sizes l = (l.map Expr.size).sum
  | [] => rfl
  | e :: r => by simp only [Expr.sizes, List.map_cons, List.sum_cons, Expr.sizes_sum r]
theorem Expr.tss_sum : ∀ l : List Expr, Expr.tss l = (l.map Expr.ts).sum
  | [] => rfl
  | e :: r => by simp only [Expr.tss, List.map_cons, List.sum_cons, Expr.tss_sum r]
theorem Lit.sizes_sum : ∀ l : List Lit, Lit.sizes l = (l.map Lit.size).sum
  | [] => rfl
  | e :: r => by simp only [Lit.sizes, List.map_cons, List.sum_cons, Lit.sizes_sum r]
theorem Lit.tss_sum : ∀ l : List Lit, Lit.tss l = (l.map Lit.ts).sum
  | [] => rfl
  | e :: r => by simp only [Lit.tss, List.map_cons, List.sum_cons, Lit.tss_sum r]
section
variable {H : Type} {enc : TypeId × Value → H} {W : World} {hT : TabOK W} {sp : Nat → Bool} {held : Bool}
def QV (v : Val) (d : DataW H) : Prop := v.sym.size ≤ bk d
def QT (t : Term) (d : DataW H) : Prop := t.ts ≤ 400 * bk d
def QA (a : Atom) (d : DataW H) : Prop := a.ts ≤ 400 * bk d ∧ a.terms.length ≤ bk d
def QE (e : Expr) (d : DataW H) : Prop := e.ts ≤ 400 * bk d ∧ e.size ≤ bk d
def QP (_ : Pos) (_ : DataW H) : Prop := True
def Pos.c (p : Pos) : List IV := [iI p.line, iI p.col]
def QG (g : Agg) (d : DataW H) : Prop := g.var.size + g.of_.ts + Lit.tss g.body ≤ 400 * bk d ∧ g.of_.size + Lit.sizes g.body ≤ bk d
def QB (l : Lit) (d : DataW H) : Prop := l.ts ≤ 400 * bk d ∧ l.size ≤ bk d
theorem rd_val (n : Nat) : Rd enc Tryz.prog W hT sp held 69 Val.c QV n := by
  intro m _ cs y h
  obtain ⟨xs, k, rfl, rfl, hl, hx, hf⟩ := DataW.trod_struct Tryz.underlying69 h
  match xs, hx with
  | [x0, x1, x2], _ =>
    obtain ⟨a, ca, qa, _⟩ := rd_int (hT := hT) Tryz.underlying3 k k (Nat.le_refl _) _ _ (fld hf 0 rfl rfl rfl cells3 rfl)
    obtain ⟨b, cb, qb, _⟩ := rd_int (hT := hT) Tryz.underlying3 k k (Nat.le_refl _) _ _ (fld hf 1 rfl rfl rfl cells3 rfl)
    obtain ⟨c, cc, qc, _⟩ := rd_string (hT := hT) Tryz.underlying9 k k (Nat.le_refl _) _ _ (fld hf 2 rfl rfl rfl cells9 rfl)
    refine ⟨⟨a, b, c⟩, ca.tile (o' := 1) rfl (cb.tile (o' := 2) rfl (cc.tile (o' := 3) rfl (.end_ (hl.trans cells69)))), ?_⟩
    simp only [QV, bk, List.map_cons, List.map_nil, Rows.uptoBulk, Rows.uptoBulkAll]
    have := bk_str (H := H) c
    rw [← qc] at this
    simp only [bk] at this
    omega
theorem rd_pos (n : Nat) : Rd enc Tryz.prog W hT sp held 53 Pos.c QP n := by
  intro m _ cs y h
  obtain ⟨xs, k, rfl, rfl, hl, hx, hf⟩ := DataW.trod_struct Tryz.underlying53 h
  match xs, hx with
  | [x0, x1], _ =>
    obtain ⟨a, ca, qa, _⟩ := rd_int (hT := hT) Tryz.underlying3 k k (Nat.le_refl _) _ _ (fld hf 0 rfl rfl rfl cells3 rfl)
    obtain ⟨b, cb, qb, _⟩ := rd_int (hT := hT) Tryz.underlying3 k k (Nat.le_refl _) _ _ (fld hf 1 rfl rfl rfl cells3 rfl)
    exact ⟨⟨a, b⟩, ca.tile (o' := 1) rfl (cb.tile (o' := 2) rfl (.end_ (hl.trans cells53))), trivial⟩
theorem rd_term (n : Nat) : Rd enc Tryz.prog W hT sp held 79 Term.c QT n := by
  intro m _ cs y h
  obtain ⟨xs, k, rfl, rfl, hl, hx, hf⟩ := DataW.trod_struct Tryz.underlying79 h
  match xs, hx with
  | [x0, x1, x2], _ =>
    obtain ⟨a, ca, qa, _⟩ := rd_int (hT := hT) Tryz.underlying3 k k (Nat.le_refl _) _ _ (fld hf 0 rfl rfl rfl cells3 rfl)
    obtain ⟨b, cb, qb, _⟩ := rd_string (hT := hT) Tryz.underlying9 k k (Nat.le_refl _) _ _ (fld hf 1 rfl rfl rfl cells9 rfl)
    obtain ⟨c, cc, qc⟩ := rd_val (hT := hT) k k (Nat.le_refl _) _ _ (fld hf 2 rfl rfl rfl cells69 rfl)
    refine ⟨⟨a, b, c⟩, ca.tile (o' := 1) rfl (cb.tile (o' := 2) rfl (cc.tile (o' := 5) rfl (.end_ (hl.trans cells79)))), ?_⟩
    simp only [QT, Term.ts, bk, List.map_cons, List.map_nil, Rows.uptoBulk, Rows.uptoBulkAll]
    have := bk_str (H := H) b
    rw [← qb] at this
    simp only [bk] at this
    omega
theorem rd_atom (n : Nat) : Rd enc Tryz.prog W hT sp held 47 Atom.c QA n := by
  intro m _ cs y h
  obtain ⟨xs, k, rfl, rfl, hl, hx, hf⟩ := DataW.trod_struct Tryz.underlying47 h
  match xs, hx with
  | [x0, x1], _ =>
    obtain ⟨a, ca, qa, _⟩ := rd_string (hT := hT) Tryz.underlying9 k k (Nat.le_refl _) _ _ (fld hf 0 rfl rfl rfl cells9 rfl)
    obtain ⟨b, cb, qb⟩ := (rd_slice (hT := hT) Tryz.underlying45 cells79 (by decide) (fun _ => rfl) (rd_term k)).mono (Nat.le_succ k) k (Nat.le_refl _) _ _ (fld hf 1 rfl rfl rfl cells45 rfl)
    refine ⟨⟨a, b⟩, ca.tile (o' := 1) rfl (cb.tile (o' := 2) rfl (.end_ (hl.trans cells47))), ?_⟩
    have h1 := bk_str (H := H) a
    rw [← qa] at h1
    have h2 := qb.sum (f := Term.ts) (c := 400) fun _ _ h => h
    have h3 := qb.len
    simp only [bk] at h1 h2 h3
    simp only [QA, Atom.ts, bk, List.map_cons, List.map_nil, Rows.uptoBulk, Rows.uptoBulkAll]
    omega
theorem rd_expr : ∀ n : Nat, Rd enc Tryz.prog W hT sp held 72 Expr.c QE n
  | 0 => fun m hm cs y h => by
    obtain rfl : m = 0 := by omega
    simp [DataW.trod] at h
  | n + 1 => fun m hm cs y h => by
    obtain ⟨xs, k, rfl, rfl, hl, hx, hf⟩ := DataW.trod_struct Tryz.underlying72 h
    have hs := rd_slice (hT := hT) Tryz.underlying70 cells72 (by decide) (fun _ => rfl) (rd_expr n)
    match xs, hx with
    | [x0, x1, x2, x3, x4], _ =>
      obtain ⟨a, ca, qa, _⟩ := rd_int (hT := hT) Tryz.underlying3 k k (Nat.le_refl _) _ _ (fld hf 0 rfl rfl rfl cells3 rfl)
      obtain ⟨b, cb, qb, _⟩ := rd_string (hT := hT) Tryz.underlying9 k k (Nat.le_refl _) _ _ (fld hf 1 rfl rfl rfl cells9 rfl)
      obtain ⟨c, cc, qc⟩ := rd_val (hT := hT) k k (Nat.le_refl _) _ _ (fld hf 2 rfl rfl rfl cells69 rfl)
      obtain ⟨d, cd, qd, _⟩ := rd_int (hT := hT) Tryz.underlying3 k k (Nat.le_refl _) _ _ (fld hf 3 rfl rfl rfl cells3 rfl)
      obtain ⟨e, ce, qe⟩ := hs k (by omega) _ _ (fld hf 4 rfl rfl rfl cells70 rfl)
      refine ⟨.mk a b c d e, ca.tile (o' := 1) rfl (cb.tile (o' := 2) rfl (cc.tile (o' := 5) rfl (cd.tile (o' := 6) rfl ((ce.le1 (eargsL' (.mk a b c d e))).tile (o' := 7) rfl (.end_ (hl.trans cells72)))))), ?_⟩
      have h1 := bk_str (H := H) b
      rw [← qb] at h1
      have h2 := qe.sum (f := Expr.ts) (c := 400) fun _ _ h => h.1
      have h3 := qe.sum (f := Expr.size) (c := 1) fun _ _ h => by have := h.2; omega
      rw [← Expr.tss_sum] at h2
      rw [← Expr.sizes_sum] at h3
      simp only [bk] at h1 h2 h3
      simp only [QE, Expr.ts, Expr.size, bk, List.map_cons, List.map_nil, Rows.uptoBulk, Rows.uptoBulkAll]
      omega
theorem rd_agg {n : Nat} (hb : Rd enc Tryz.prog W hT sp held 59 (fun l : List Lit => [slc 30 l Lit.c]) (QL QB) n) : Rd enc Tryz.prog W hT sp held 74 Agg.c QG (n + 1) := by
  intro m hm cs y h
  obtain ⟨xs, k, rfl, rfl, hl, hx, hf⟩ := DataW.trod_struct Tryz.underlying74 h
  match xs, hx with
  | [x0, x1, x2, x3], _ =>
    obtain ⟨a, ca, qa, _⟩ := rd_int (hT := hT) Tryz.underlying3 k k (Nat.le_refl _) _ _ (fld hf 0 rfl rfl rfl cells3 rfl)
    obtain ⟨b, cb, qb, _⟩ := rd_string (hT := hT) Tryz.underlying9 k k (Nat.le_refl _) _ _ (fld hf 1 rfl rfl rfl cells9 rfl)
    obtain ⟨c, cc, qc⟩ := rd_expr (hT := hT) k k (Nat.le_refl _) _ _ (fld hf 2 rfl rfl rfl cells72 rfl)
    obtain ⟨d, cd, qd⟩ := hb k (by omega) _ _ (fld hf 3 rfl rfl rfl cells59 rfl)
    refine ⟨⟨a, b, c, d⟩, ca.tile (o' := 1) rfl (cb.tile (o' := 2) rfl (cc.tile (o' := 9) rfl ((cd.le1 (litsIR d)).tile (o' := 10) rfl (.end_ (hl.trans cells74))))), ?_⟩
    have h1 := bk_str (H := H) b
    rw [← qb] at h1
    have h2 := qd.sum (f := Lit.ts) (c := 400) fun _ _ h => h.1
    have h3 := qd.sum (f := Lit.size) (c := 1) fun _ _ h => by have := h.2; omega
    rw [← Lit.tss_sum] at h2
    rw [← Lit.sizes_sum] at h3
    obtain ⟨h4, h5⟩ := qc
    simp only [bk] at h1 h2 h3 h4 h5
    simp only [QG, bk, List.map_cons, List.map_nil, Rows.uptoBulk, Rows.uptoBulkAll]
    omega
theorem rd_lit : ∀ n : Nat, Rd enc Tryz.prog W hT sp held 76 Lit.c QB n
  | 0 => fun m hm cs y h => by
    obtain rfl : m = 0 := by omega
    simp [DataW.trod] at h
  | n + 1 => fun m hm cs y h => by
    obtain ⟨xs, k, rfl, rfl, hl, hx, hf⟩ := DataW.trod_struct Tryz.underlying76 h
    have hs := rd_agg (rd_slice (hT := hT) Tryz.underlying59 cells76 (by decide) (fun _ => rfl) (rd_lit n))
    match xs, hx with
    | [x0, x1, x2, x3, x4, x5, x6], _ =>
      obtain ⟨a, ca, qa, _⟩ := rd_int (hT := hT) Tryz.underlying3 k k (Nat.le_refl _) _ _ (fld hf 0 rfl rfl rfl cells3 rfl)
      obtain ⟨b, cb, qb⟩ := rd_atom (hT := hT) k k (Nat.le_refl _) _ _ (fld hf 1 rfl rfl rfl cells47 rfl)
      obtain ⟨c, cc, qc, _⟩ := rd_int (hT := hT) Tryz.underlying3 k k (Nat.le_refl _) _ _ (fld hf 2 rfl rfl rfl cells3 rfl)
      obtain ⟨d, cd, qd⟩ := rd_expr (hT := hT) k k (Nat.le_refl _) _ _ (fld hf 3 rfl rfl rfl cells72 rfl)
      obtain ⟨e, ce, qe⟩ := rd_expr (hT := hT) k k (Nat.le_refl _) _ _ (fld hf 4 rfl rfl rfl cells72 rfl)
      obtain ⟨g, cg, qg⟩ := hs k (by omega) _ _ (fld hf 5 rfl rfl rfl cells74 rfl)
      obtain ⟨p, cp, _⟩ := rd_pos (hT := hT) k k (Nat.le_refl _) _ _ (fld hf 6 rfl rfl rfl cells53 rfl)
      refine ⟨.mk a b c d e g.func g.var g.of_ g.body p, ca.tile (o' := 1) rfl (cb.tile (o' := 3) rfl (cc.tile (o' := 4) rfl (cd.tile (o' := 11) rfl (ce.tile (o' := 18) rfl (cg.tile (o' := 28) rfl (cp.tile (o' := 30) rfl (.end_ (hl.trans cells76)))))))), ?_⟩
      obtain ⟨h1, h2⟩ := qb
      obtain ⟨h3, h4⟩ := qd
      obtain ⟨h5, h6⟩ := qe
      obtain ⟨h7, h8⟩ := qg
      have h9 := bk_pos x0.1
      have h10 := bk_pos x2.1
      simp only [bk] at h1 h2 h3 h4 h5 h6 h7 h8 h9 h10
      simp only [QB, Lit.ts, Lit.size, bk, List.map_cons, List.map_nil, Rows.uptoBulk, Rows.uptoBulkAll]
      omega
theorem rd_lits (n : Nat) : Rd enc Tryz.prog W hT sp held 59 (fun l : List Lit => [lits l]) (QL QB) n :=
  (rd_slice (hT := hT) Tryz.underlying59 cells76 (by decide) (fun _ => rfl) (rd_lit n)).mono (Nat.le_succ n)
end
end Go.Proofs.YtpnclpbkecjinaaGreatDoorR
