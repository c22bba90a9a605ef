/-
  What the proofs of the claims need: AlVir, XO. Part 3 of 7.
-/
import Derived.Test.YtpnclpbkecjinaaGreatDoorRPart2
import Derived.Deep.Slices
import Derived.ReadAgain
import Derived.ChangeStays
import Derived.ChangeSame
import Derived.WideShapes
import Derived.RowKit
import Derived.KernelRfl
import Derived.Test.YtpnclpbkecjinaaGreatDoorRProg
import Derived.Sort.EncStr
import Derived.Sort.Grow
namespace Go.Al
theorem go_virtC {P : Program} {nt : Nat} {Q : AQ} {k : List KI} {s : AS} {c : Code} (i j sz : Nat) {cs : List PV} {T0 : Option TypeId} (hi : s.h.get i = some (.cells cs T0)) (hj : cs[j]? = some (.iv (.v (.slice none 0 0))))
  (h : GO P nt (.code c :: k) Q ⟨s.f, (i, some (.cells (cs.set j (.sl s.nx 0 0 sz)) T0)) :: (s.nx, some (.row sz [])) :: s.h, s.nx + 1⟩) : GO P nt (.code c :: k) Q s := by
 intro M N a w hf
 obtain ⟨sf, sh, sn⟩ := s
 obtain ⟨h1, h2⟩ := hf.1.virt sz
 have hne : i ≠ sn := fun e => by have := hf.1.used i _ hi; simp only at this; omega
 have hget : AH.get ((sn, some (AO.row sz [])) :: sh) i = some (.cells cs T0) := by
  rw [AH.get_cons, if_neg hne]; exact hi
 obtain ⟨c0, T, e1, e2, e3, e4, e5⟩ := h2.obj i _ hget
 obtain ⟨g1, g2⟩ := h2.write (i := i) (o0 := .cells cs T0) hget rfl w (.cells (cs.set j (.sl sn 0 0 sz)) T0) rfl rfl rfl rfl (fun _ _ => rfl) ⟨c0, T, e1, e2, by rw [List.length_set]; exact e3, fun k p hp => by
  rw [List.getElem?_set] at hp
  split at hp
  ·rename_i hk
   subst hk
   split at hp
   ·cases hp
    have := e4 j _ hj
    generalize c0.getD j undef = v at this ⊢
    cases this with
    | iv _ _ h => cases h with
     | v => exact .sl0 _ _ (Nat.lt_succ_self _)
   ·cases hp
  ·exact e4 k p hp, e5⟩
 have hf1 : Fits M N ⟨sf, (i, some (.cells (cs.set j (.sl sn 0 0 sz)) T0)) :: (sn, some (.row sz [])) :: sh, sn + 1⟩ nt a w :=
  ⟨g2, fun k => (hf.2.1 k).mono (.refl _) (.refl _ _) (fun i hi => Nat.lt_succ_of_lt hi), hf.2.2⟩
 exact AW.then h hf1 fun e a2 w2 M2 N2 s2 hx2 hf2 hr2 => ⟨M2, N2, s2, (h1.trans g1).trans hx2, hf2, hr2⟩
theorem FrzS.rowL {h : AH} {n : Nat} {r : PV} {K : AH → PV → Prop} {α : Type} [Inhabited α] (i : Nat) {sz : Nat} {es : List (List PV)} (L : List α) (f : α → List IV) (hi : h.get i = some (.row sz es)) (hes : es = L.map fun x => (f x).map .iv)
  (hin : r.inRow i sz L.length) (hk : FrzS ((i, none) :: h) n (r.frz i sz fun k => f (L.getD k default)) K) : FrzS h n r K :=
 .row i (fun k => f (L.getD k default)) hi (rowI_el hes) (by subst hes; simpa using hin) hk
def AO.frzR (i sz : Nat) (el : Nat → List IV) : AO → AO
 | .cells cs T => .cells (frzL i sz el cs) T
 | o => o
def AO.okR (i sz n : Nat) : AO → Prop
 | .cells cs _ => inRowL i sz n cs
 | .row _ es => ∀ (k : Nat) (e : List PV) (j : Nat) (p : PV), es[k]? = some e → e[j]? = some p → ∃ y, p = .iv y
 | _ => True
def AH.frzR (i sz : Nat) (el : Nat → List IV) : AH → AH
 | [] => []
 | (k, none) :: r => (k, none) :: AH.frzR i sz el r
 | (k, some o) :: r => (k, some (o.frzR i sz el)) :: AH.frzR i sz el r
def AH.okR (i sz n : Nat) : AH → Prop
 | [] => True
 | (_, none) :: r => AH.okR i sz n r
 | (_, some o) :: r => o.okR i sz n ∧ AH.okR i sz n r
def AF.frzR (i sz : Nat) (el : Nat → List IV) : AF → AF
 | [] => []
 | (d, p) :: r => (d, p.frz i sz el) :: AF.frzR i sz el r
def AF.okR (i sz n : Nat) : AF → Prop
 | [] => True
 | (_, p) :: r => p.inRow i sz n ∧ AF.okR i sz n r
theorem AH.frzR_get (i sz : Nat) (el : Nat → List IV) : ∀ (h : AH) (j : Nat), (AH.frzR i sz el h).get j = (h.get j).map (AO.frzR i sz el)
 | [], _ => rfl
 | (k, none) :: r, j => by
  simp only [AH.frzR, AH.get_cons, AH.frzR_get i sz el r j]
  split <;> rfl
 | (k, some o) :: r, j => by
  simp only [AH.frzR, AH.get_cons, AH.frzR_get i sz el r j]
  split <;> rfl
theorem AH.okR_get {i sz n : Nat} : ∀ {h : AH} (_ : h.okR i sz n) (j : Nat) (o : AO), h.get j = some o → o.okR i sz n
 | [], _, j, o, ho => nomatch ho
 | (k, none) :: r, hh, j, o, ho => by
  rw [AH.get_cons] at ho
  split at ho
  ·cases ho
  ·exact AH.okR_get (h := r) hh j o ho
 | (k, some q) :: r, hh, j, o, ho => by
  rw [AH.get_cons] at ho
  split at ho
  ·cases ho; exact hh.1
  ·exact AH.okR_get (h := r) hh.2 j o ho
theorem AF.frzR_get (i sz : Nat) (el : Nat → List IV) : ∀ (f : AF) (d : Nat), (AF.frzR i sz el f).get d = (f.get d).frz i sz el
 | [], _ => rfl
 | (k, p) :: r, d => by
  simp only [AF.frzR, AF.get_cons, AF.frzR_get i sz el r d]
  split <;> rfl
theorem AF.okR_get {i sz n : Nat} : ∀ {f : AF} (_ : f.okR i sz n) (d : Nat), (f.get d).inRow i sz n
 | [], _, d => trivial
 | (k, p) :: r, h, d => by
  rw [AF.get_cons]
  split
  ·exact h.1
  ·exact AF.okR_get (f := r) h.2 d
theorem AO.frzR_real (i sz : Nat) (el : Nat → List IV) (o : AO) : (o.frzR i sz el).real = o.real := by
 cases o <;> rfl
theorem go_frzR {P : Program} {nt : Nat} {Q : AQ} {k : List KI} {s : AS} {c : Code} (i : Nat) {sz : Nat} {es : List (List PV)} (el : Nat → List IV) (hi : s.h.get i = some (.row sz es)) (hel : ∀ k e, es[k]? = some e → e = (el k).map .iv)
  (hf : s.f.okR i sz es.length) (hh : s.h.okR i sz es.length) (h : GO P nt (.code c :: k) Q ⟨s.f.frzR i sz el, (i, none) :: s.h.frzR i sz el, s.nx⟩) : GO P nt (.code c :: k) Q s := by
 intro M N a w hfit
 obtain ⟨M', h1, h2, h4⟩ := frz_row hfit.1 hi hel
 have hM : M.le M' := h1.mle
 have hg : ∀ j o, AH.get ((i, none) :: s.h.frzR i sz el) j = some o → ∃ p, AH.get ((i, none) :: s.h) j = some p ∧ s.h.get j = some p ∧ o = p.frzR i sz el := by
  intro j o hj
  obtain ⟨g1, g2⟩ := get_del j o hj
  rw [AH.frzR_get, Option.map_eq_some_iff] at g2
  obtain ⟨p, g3, g4⟩ := g2
  exact ⟨p, by rw [AH.get_cons, if_neg g1]; exact g3, g3, g4.symm⟩
 have hE : Ext M N (· < s.nx) s.h w M' N (· < s.nx) ((i, none) :: s.h.frzR i sz el) w := ⟨h1.os, h1.tape, h1.output, h1.size, h1.keep, h1.mle, h1.mnew, h1.nm, h1.ule, fun j o hj hre => by
  obtain ⟨p, g1, _, rfl⟩ := hg j o hj
  rw [AO.frzR_real] at hre
  exact h1.pnew j p g1 hre⟩
 have hR : Rel M' N (· < s.nx) ((i, none) :: s.h.frzR i sz el) w := by
  refine ⟨h2.frz, fun j o hj => ?_, fun j o hj hre => ?_, fun j o hj => ?_, fun j k o p hj hk ho hp => ?_⟩
  ·obtain ⟨p, g1, _, rfl⟩ := hg j o hj
   exact h2.used j p g1
  ·obtain ⟨p, g1, _, rfl⟩ := hg j o hj
   rw [AO.frzR_real] at hre
   exact h2.nfrz j p g1 hre
  ·obtain ⟨p, g1, g2, rfl⟩ := hg j o hj
   cases p with
   | cells cs T0 =>
    obtain ⟨c, T, q1, q2, q3, q4, q5⟩ := hfit.1.obj j _ g2
    have hok := AH.okR_get hh j _ g2
    refine ⟨c, T, q1, q2, by simpa [frzL_eq] using q3, fun k q hq => ?_, q5⟩
    rw [frzL_eq, List.getElem?_map, Option.map_eq_some_iff] at hq
    obtain ⟨q0, hq0, rfl⟩ := hq
    exact h4 _ _ (q4 k q0 hq0) (inRowL_mem hok k q0 hq0)
   | row => exact h2.obj j _ g1
   | brow => exact h2.obj j _ g1
   | map0 => exact h2.obj j _ g1
   | map => exact h2.obj j _ g1
   | miter => exact h2.obj j _ g1
   | siter => exact h2.obj j _ g1
  ·obtain ⟨o', g1, _, rfl⟩ := hg j o hj
   obtain ⟨p', g2, _, rfl⟩ := hg k p hk
   rw [AO.frzR_real] at ho hp
   exact h2.inj j k o' p' g1 g2 ho hp
 have hf' : Fits M' N ⟨s.f.frzR i sz el, (i, none) :: s.h.frzR i sz el, s.nx⟩ nt a w := ⟨hR, fun d => by
  rw [AF.frzR_get]; exact h4 _ _ (hfit.2.1 d) (AF.okR_get hf d), hfit.2.2⟩
 exact AW.then h hf' fun e a2 w2 M2 N2 s2 hx2 hf2 hr2 => ⟨M2, N2, s2, hE.trans hx2, hf2, hr2⟩
end Go.Al
namespace Go.Al
def AO.frzRR (i sz : Nat) (el : Nat → List IV) : AO → AO
 | .cells cs T => .cells (frzL i sz el cs) T
 | .row s es => .row s (es.map (frzL i sz el))
 | o => o
def AO.okRR (i sz n : Nat) : AO → Prop
 | .cells cs _ => inRowL i sz n cs
 | .row _ es => ∀ e ∈ es, inRowL i sz n e
 | _ => True
def AH.frzRR (i sz : Nat) (el : Nat → List IV) : AH → AH
 | [] => []
 | (k, none) :: r => (k, none) :: AH.frzRR i sz el r
 | (k, some o) :: r => (k, some (o.frzRR i sz el)) :: AH.frzRR i sz el r
def AH.okRR (i sz n : Nat) : AH → Prop
 | [] => True
 | (_, none) :: r => AH.okRR i sz n r
 | (_, some o) :: r => o.okRR i sz n ∧ AH.okRR i sz n r
theorem AH.frzRR_get (i sz : Nat) (el : Nat → List IV) : ∀ (h : AH) (j : Nat), (AH.frzRR i sz el h).get j = (h.get j).map (AO.frzRR i sz el)
 | [], _ => rfl
 | (k, none) :: r, j => by
  simp only [AH.frzRR, AH.get_cons, AH.frzRR_get i sz el r j]
  split <;> rfl
 | (k, some o) :: r, j => by
  simp only [AH.frzRR, AH.get_cons, AH.frzRR_get i sz el r j]
  split <;> rfl
theorem AH.okRR_get {i sz n : Nat} : ∀ {h : AH} (_ : h.okRR i sz n) (j : Nat) (o : AO), h.get j = some o → o.okRR i sz n
 | [], _, j, o, ho => nomatch ho
 | (k, none) :: r, hh, j, o, ho => by
  rw [AH.get_cons] at ho
  split at ho
  ·cases ho
  ·exact AH.okRR_get (h := r) hh j o ho
 | (k, some q) :: r, hh, j, o, ho => by
  rw [AH.get_cons] at ho
  split at ho
  ·cases ho; exact hh.1
  ·exact AH.okRR_get (h := r) hh.2 j o ho
theorem AO.frzRR_real (i sz : Nat) (el : Nat → List IV) (o : AO) : (o.frzRR i sz el).real = o.real := by
 cases o with
 | row s es => cases es <;> rfl
 | _ => rfl
theorem rel_frzRR {M : Mem} {N : Nm} {n : Nat} {h : AH} {w : World} (hr : Rel M N (· < n) h w) (i : Nat) {sz : Nat} {es : List (List PV)} (el : Nat → List IV) (hi : h.get i = some (.row sz es)) (hel : ∀ k e, es[k]? = some e → e = (el k).map .iv)
  (hh : h.okRR i sz es.length) : ∃ M', M.le M' ∧ Rel M' N (· < n) ((i, none) :: h.frzRR i sz el) w ∧ ∀ p x, VR M N (· < n) p x → p.inRow i sz es.length → VR M' N (· < n) (p.frz i sz el) x := by
 obtain ⟨M', h1, h2, h4⟩ := frz_row hr hi hel
 refine ⟨M', h1.mle, ?_, h4⟩
 have hg : ∀ j o, AH.get ((i, none) :: h.frzRR i sz el) j = some o → ∃ p, AH.get ((i, none) :: h) j = some p ∧ h.get j = some p ∧ o = p.frzRR i sz el := by
  intro j o hj
  obtain ⟨g1, g2⟩ := get_del j o hj
  rw [AH.frzRR_get, Option.map_eq_some_iff] at g2
  obtain ⟨p, g3, g4⟩ := g2
  exact ⟨p, by rw [AH.get_cons, if_neg g1]; exact g3, g3, g4.symm⟩
 refine ⟨h2.frz, fun j o hj => ?_, fun j o hj hre => ?_, fun j o hj => ?_, fun j k o p hj hk ho hp => ?_⟩
 ·obtain ⟨p, g1, _, rfl⟩ := hg j o hj
  exact h2.used j p g1
 ·obtain ⟨p, g1, _, rfl⟩ := hg j o hj
  rw [AO.frzRR_real] at hre
  exact h2.nfrz j p g1 hre
 ·obtain ⟨p, g1, g2, rfl⟩ := hg j o hj
  cases p with
  | cells cs T0 =>
   obtain ⟨c, T, q1, q2, q3, q4, q5⟩ := hr.obj j _ g2
   have hok := AH.okRR_get hh j _ g2
   refine ⟨c, T, q1, q2, by simpa [frzL_eq] using q3, fun k q hq => ?_, q5⟩
   rw [frzL_eq, List.getElem?_map, Option.map_eq_some_iff] at hq
   obtain ⟨q0, hq0, rfl⟩ := hq
   exact h4 _ _ (q4 k q0 hq0) (inRowL_mem hok k q0 hq0)
  | row s2 es2 =>
   have hok := AH.okRR_get hh j _ g2
   rcases hr.obj j _ g2 with rfl | ⟨q0, c, T, q1, q2, q3, q4, q5⟩
   ·exact .inl rfl
   ·refine .inr ⟨q0, c, T, q1, q2, by simpa using q3, fun k e he => ?_, fun k e j2 p he hp => ?_⟩
    ·rw [List.getElem?_map, Option.map_eq_some_iff] at he
     obtain ⟨e0, he0, rfl⟩ := he
     rw [frzL_eq, List.length_map]; exact q4 k e0 he0
    ·rw [List.getElem?_map, Option.map_eq_some_iff] at he
     obtain ⟨e0, he0, rfl⟩ := he
     rw [frzL_eq, List.getElem?_map, Option.map_eq_some_iff] at hp
     obtain ⟨p0, hp0, rfl⟩ := hp
     exact h4 _ _ (q5 k e0 j2 p0 he0 hp0) (inRowL_mem (hok e0 (List.mem_of_getElem? he0)) j2 p0 hp0)
  | brow => exact h2.obj j _ g1
  | map0 => exact h2.obj j _ g1
  | map => exact h2.obj j _ g1
  | miter => exact h2.obj j _ g1
  | siter => exact h2.obj j _ g1
 ·obtain ⟨o', g1, _, rfl⟩ := hg j o hj
  obtain ⟨p', g2, _, rfl⟩ := hg k p hk
  rw [AO.frzRR_real] at ho hp
  exact h2.inj j k o' p' g1 g2 ho hp
def seqs : List Code → Code → Code
 | [], r => r
 | c :: l, r => .seq c (seqs l r)
def takeSeq : Nat → Code → List Code
 | n + 1, .seq a b => a :: takeSeq n b
 | _, _ => []
def dropSeq : Nat → Code → Code
 | n + 1, .seq _ b => dropSeq n b
 | _, c => c
theorem kp_exit {P : Program} {nt : Nat} {R : AQ} : ∀ {l : List Code} {e : Exit} {s : AS}, e ≠ .normal → kp P nt (l.map KI.code) R e s → R e s
 | [], _, _, _, h => h
 | c :: l, e, s, he, h => by
  cases e with
  | normal => exact absurd rfl he
  | _ => exact kp_exit (l := l) he h
end Go.Al
namespace Go.Al
mutual
def bareR : PV → Bool
 | .iv (.v _) => true
 | .iv _ => false
 | .agg cs => bareL cs
 | .tup cs => bareL cs
 | .clo _ _ _ => false
 | _ => true
def bareL : List PV → Bool
 | [] => true
 | p :: r => bareR p && bareL r
end
theorem bareL_mem : ∀ {l : List PV}, bareL l = true → ∀ (j : Nat) (p : PV), l[j]? = some p → bareR p = true
 | [], _, j, p, h => by simp at h
 | c :: l, hh, j, p, h => by
  simp only [bareL, Bool.and_eq_true] at hh
  cases j with
  | zero => simp at h; subst h; exact hh.1
  | succ j => exact bareL_mem hh.2 j p (by simpa using h)
theorem bareR_ok {M M' : Mem} {N : Nm} {U : Nat → Prop} {p : PV} {x : Value} (h : VR M N U p x) : bareR p = true → VR M' N U p x := by
 induction h with
 | iv x y h =>
  intro hb
  cases h with
  | v => exact .iv _ _ (.v _)
  | _ => cases hb
 | agg cs ys hl hr ih => exact fun hb => .agg _ _ hl fun j p hj => ih j p hj (bareL_mem hb j p hj)
 | tup cs ys hl hr ih => exact fun hb => .tup _ _ hl fun j p hj => ih j p hj (bareL_mem hb j p hj)
 | ptr i off h => exact fun _ => .ptr _ _ h
 | eptr i sz k off h => exact fun _ => .eptr _ _ _ _ h
 | optr z i h => exact fun _ => .optr _ _ h
 | sl i off len sz cap h h0 hl hc he => exact fun _ => .sl _ _ _ _ _ h h0 hl hc he
 | sl0 i sz h => exact fun _ => .sl0 _ _ h
 | mp i h => exact fun _ => .mp _ h
 | clo => intro hb; cases hb
 | kb b => exact fun _ => .kb _
 | any => exact fun _ => .any _
def bareO : AO → Prop
 | .row _ es => ∀ e ∈ es, bareL e = true
 | .cells cs _ => bareL cs = true
 | _ => False
theorem bareO_ok {M M' : Mem} {N : Nm} {U : Nat → Prop} {w : World} {i : Nat} {o : AO} (hb : bareO o) (h : OR M N U w i o) : OR M' N U w i o := by
 cases o with
 | row sz es =>
  rcases h with h | ⟨h0, c, T, h1, h2, h3, h4, h5⟩
  ·exact .inl h
  ·exact .inr ⟨h0, c, T, h1, h2, h3, h4, fun k e j p he hp => bareR_ok (h5 k e j p he hp) (bareL_mem (hb e (List.mem_of_getElem? he)) j p hp)⟩
 | cells cs T0 =>
  obtain ⟨c, T, h1, h2, h3, h4, h5⟩ := h
  exact ⟨c, T, h1, h2, h3, fun j p hp => bareR_ok (h4 j p hp) (bareL_mem hb j p hp), h5⟩
 | _ => exact hb.elim
section
variable {P : Program} {nt : Nat} {Q : AQ} {k : List KI} {s : AS}
theorem bcall_OT {o : Oper} {c : Call} {g : FuncId} {asv args : List PV} (ho : o.op = .call c) (ha : argsOf s.f c = some (g, asv)) {r : PV} {h' : AH} {n' : Nat} (hc : Det P g args [] r h' n')
  (hlen : args.length = asv.length) (hlow : belowL 0 args = true)
  (hfz : ∀ M N w, Rel M N (· < s.nx) s.h w → ∃ M1 : Mem, M.le M1 ∧ Rel M1 N (· < s.nx) [] w ∧ ∀ (j : Nat) (p : PV) (x : Value), args[j]? = some p → (∀ q, asv[j]? = some q → VR M N (· < s.nx) q x) → VR M1 N (· < s.nx) p x)
  (hbr : bareR (r.ren (sig [] s.nx)) = true) (hbh : ∀ j o, (renH (sig [] s.nx) h').get j = some o → bareO o)
  {s' : AS} (hp : putDst nt o (r.ren (sig [] s.nx)) (behindCall s [] h' n') = some s') : OT P nt o s (fun t => t = s') := by
 intro M N a w hf K Z hk
 obtain ⟨vs, hrun, hl, hv⟩ := enter_ok hf ho ha hc.1
 unfold Oper.wp
 rw [hrun]
 simp only [Oper.upon]
 obtain ⟨M1, hM1, hr1, hv1⟩ := hfz M N w hf.1
 have hcall := Fn.calls (s := ⟨s.f, [], s.nx⟩) (L := []) hc List.nodup_nil (by simp) rfl (M := M1) (N := N) (w := w) hr1 (vs := vs) (by omega) (fun j p hj => by
  rw [PV.ren_low _ _ (belowL_mem hlow j p hj)]
  exact hv1 j p _ hj fun q hq => hv j q hq)
 refine hcall.mono ?_
 rintro e w' ⟨x, M', N', r', h2, n2, rfl, ⟨rfl, rfl, rfl⟩, hx, hr, hvr⟩
 have hag : N.agree N' (· < s.nx) := hx.nm
 have hule : ∀ i, i < s.nx → i < s.nx + (n2 - 0) := fun i hi => hx.ule i hi
 have hkeep : ∀ b, b < w.heap.size → w'.heap[b]? = w.heap[b]? := fun b hb => hx.keep b hb fun i o hi => (nomatch hi)
 have hg0 : (behindCall ⟨s.f, [], s.nx⟩ [] h2 n2).h = renH (sig [] s.nx) h2 := by simp [behindCall, dels]
 have hget : ∀ j o, (behindCall s [] h2 n2).h.get j = some o → (renH (sig [] s.nx) h2).get j = some o ∨ s.h.get j = some o := by
  intro j o hj
  simp only [behindCall, dels, List.nil_append] at hj
  rw [AH.get_append] at hj
  split at hj
  ·exact .inl hj
  ·exact .inr hj
 rw [hg0] at hr hx
 have hnew : ∀ j o, (renH (sig [] s.nx) h2).get j = some o → o.real = true → w.heap.size ≤ N'.blk j := by
  intro j o hj hre
  rcases hx.pnew j o hj hre with h | ⟨i, p, hi, _⟩
  ·exact h
  ·exact nomatch hi
 have hR : Rel M N' (· < s.nx + (n2 - 0)) (behindCall s [] h2 n2).h w' := by
  refine ⟨fun b d hb => (hf.1.frz b d hb).mono (hkeep b (hf.1.frz b d hb).lt), fun j o hj => ?_, fun j o hj hre => ?_, fun j o hj => ?_, fun i j o p hi hj hio hjp e => ?_⟩
  ·rcases hget j o hj with h | h
   ·exact hr.used j o h
   ·exact hule j (hf.1.used j o h)
  ·rcases hget j o hj with h | h
   ·have := hnew j o h hre
    cases hm : M (N'.blk j) with
    | none => rfl
    | some d => have := (hf.1.frz _ d hm).lt; omega
   ·rw [hag.blk j (hf.1.used j o h)]; exact hf.1.nfrz j o h hre
  ·rcases hget j o hj with h | h
   ·exact bareO_ok (hbh j o h) (hr.obj j o h)
   ·cases hre : o.real with
    | true => exact (hf.1.obj j o h).mono (.refl _) hag hule (hf.1.used j o h) (hkeep _ ((hf.1.obj j o h).lt hre))
    | false =>
     cases o with
     | row sz es => cases es with
      | nil => exact .inl rfl
      | cons => cases hre
     | brow l T => cases l with
      | nil => exact .inl rfl
      | cons => cases hre
     | _ => cases hre
  ·rcases hget i o hi with h1 | h1 <;> rcases hget j p hj with h2' | h2'
   ·exact hr.inj i j o p h1 h2' hio hjp e
   ·have := hnew i o h1 hio
    rw [e, hag.blk j (hf.1.used j p h2')] at this
    have := (hf.1.obj j p h2').lt hjp
    omega
   ·have := hnew j p h2' hjp
    rw [← e, hag.blk i (hf.1.used i o h1)] at this
    have := (hf.1.obj i o h1).lt hio
    omega
   ·rw [hag.blk i (hf.1.used i o h1), hag.blk j (hf.1.used j p h2')] at e
    exact hf.1.inj i j o p h1 h2' hio hjp e
 have hX : Ext M N (· < s.nx) s.h w M N' (· < s.nx + (n2 - 0)) (behindCall s [] h2 n2).h w' :=
  ⟨hx.os, hx.tape, hx.output, hx.size, fun b hb _ => hkeep b hb, .refl _, fun b d g1 g2 => absurd (g1.symm.trans g2) (by simp), hag, hule, fun j o hj hre => by
   rcases hget j o hj with h | h
   ·exact .inl (hnew j o h hre)
   ·exact .inr ⟨j, o, h, hre, (hag.blk j (hf.1.used j o h)).symm⟩⟩
 have hfb : Fits M N' (behindCall s [] h2 n2) nt a w' := ⟨hR, hf.2.1.ext hX, hf.2.2⟩
 have hvr2 : VR M N' (· < (behindCall s [] h2 n2).nx) (r'.ren (sig [] s.nx)) x := bareR_ok hvr hbr
 show K (a.put o.dst x) w'
 cases hd : o.dst with
 | none =>
  have := putDst_none hp hd
  subst this
  exact hk M N' _ _ w' hX hfb rfl
 | some d =>
  obtain ⟨h1, rfl⟩ := putDst_some hp hd
  exact hk M N' { behindCall s [] h2 n2 with f := (d, r'.ren (sig [] s.nx)) :: (behindCall s [] h2 n2).f } _ w' hX (hfb.put d _ x h1 hvr2) rfl
theorem go_bcall {all rest : List Oper} {o : Oper} {c : Call} {g : FuncId} {asv args : List PV} {r : PV} {h' : AH} {n' : Nat} {s' : AS} (hc : Det P g args [] r h' n') (ho : o.op = .call c) (hg : o.guard = none) (ha : argsOf s.f c = some (g, asv))
  (hlen : args.length = asv.length) (hlow : belowL 0 args = true)
  (hfz : ∀ M N w, Rel M N (· < s.nx) s.h w → ∃ M1 : Mem, M.le M1 ∧ Rel M1 N (· < s.nx) [] w ∧ ∀ (j : Nat) (p : PV) (x : Value), args[j]? = some p → (∀ q, asv[j]? = some q → VR M N (· < s.nx) q x) → VR M1 N (· < s.nx) p x)
  (hbr : bareR (r.ren (sig [] s.nx)) = true) (hbh : ∀ j o, (renH (sig [] s.nx) h').get j = some o → bareO o) (hp : putDst nt o (r.ren (sig [] s.nx)) (behindCall s [] h' n') = some s')
  (h : GO P nt (.ops all rest :: k) Q s') : GO P nt (.ops all (o :: rest) :: k) Q s :=
 go_op hg (bcall_OT ho ha hc hlen hlow hfz hbr hbh hp) fun t ht => by subst ht; exact h
end
end Go.Al
namespace Go.Al
section
variable {P : Program} {ty : Ty} {nt : Nat} {Q : AQ} {k : List KI} {s : AS}
theorem storeRow_OT (hty : TyOK P ty) {o : Oper} {t : TypeId} {a x : Operand} (ho : o.op = .store t a x) (hd : o.dst = none) {e : TyE} (he : ty t = some e) (hsz : e.size = 1) {i sz q off : Nat} {es : List (List PV)} {row : List PV} {v : PV}
  (ha : ev s.f a = .eptr i sz q off) (hi : s.h.get i = some (.row sz es)) (hq : es[q]? = some row) (hoff : Nat.blt off sz = true) (hx : ev s.f x = v) (hxs : v.cells = some [v]) (hone : v.one = true) :
  OT P nt o s (fun u => u = ⟨s.f, (i, some (.row sz (es.set q (row.set off v)))) :: s.h, s.nx⟩) := by
 have hp : putDst nt o .any ⟨s.f, (i, some (.row sz (es.set q (row.set off v)))) :: s.h, s.nx⟩ = some ⟨s.f, (i, some (.row sz (es.set q (row.set off v)))) :: s.h, s.nx⟩ := by simp only [putDst, hd]
 refine OT.skip hp fun M N b w hf => ?_
 have hu := ev_ok hf.2.1 a
 have hy := ev_ok hf.2.1 x
 rw [ha] at hu
 rw [hx] at hy
 have hoff' : off < sz := Nat.le_of_ble_eq_true hoff
 generalize hu2 : b.eval a = u at hu
 generalize hy2 : b.eval x = y at hy
 have key : ∃ w', (Instr.storeAt t u y).run P w = .ok () w' ∧ Ext M N (· < s.nx) s.h w M N (· < s.nx) ((i, some (.row sz (es.set q (row.set off v)))) :: s.h) w' ∧ Fits M N ⟨s.f, (i, some (.row sz (es.set q (row.set off v)))) :: s.h, s.nx⟩ nt b w' := by
  cases hu with
  | eptr _ _ _ _ hU =>
   obtain ⟨hl, hv⟩ := cells_ok hy hxs
   obtain ⟨y0, hy0⟩ : ∃ y0, y.cells = #[y0] := by
    have : y.cells.size = 1 := by simpa using hl.symm
    exact Array.size_eq_one_iff.1 this
   rcases hf.1.obj i _ hi with h0 | ⟨h0, c, T, g1, g2, g3, g4, g5⟩
   ·rw [h0] at hq; cases hq
   have hql : q < es.length := (List.getElem?_eq_some_iff.1 hq).1
   have hrl := g4 q row hq
   have hmul : (q + 1) * sz ≤ es.length * sz := Nat.mul_le_mul_right _ hql
   have hle : q * sz + off + 1 ≤ c.size := by rw [Nat.succ_mul] at hmul; omega
   have hone' : ∀ z ∈ y.cells.toList, z.oneCell' = true := by
    intro z hz
    rw [hy0] at hz
    simp only [List.mem_singleton] at hz
    have := (hv 0 v rfl).one hone
    rw [hy0] at this
    subst hz; exact this
   have hrun := run_storeCells_at P (N.blk i) (q * sz + off) T y.cells.toList 0 c w g1 (by simp [hy0]; omega) hone'
   have hC : (c.toList.take (q * sz + off + 0) ++ y.cells.toList ++ c.toList.drop (q * sz + off + 0 + y.cells.toList.length)) = c.toList.set (q * sz + off) y0 := by
    rw [List.set_eq_take_append_cons_drop, if_pos (by simp; omega), hy0]
    simp
   rw [hC] at hrun
   refine ⟨w.setRow (N.blk i) (c.toList.set (q * sz + off) y0).toArray, ?_, ?_⟩
   ·have hsize := run_sizeOf' (w := w) (hty t e he)
    have hs1 : y.cells.size = e.size := by rw [hy0, hsz]; rfl
    simp only [Instr.storeAt, Instr.sureAddr, pure_bind, storeVar, Sem.run_bind, hsize, Result.andThen_ok, hs1, ne_eq, not_true_eq_false, if_false, hrun]
   ·have hrow := setRow_heap w (N.blk i) c (c.toList.set (q * sz + off) y0).toArray T (0, 0) g1
    have hne : ∀ b, b ≠ N.blk i → (w.setRow (N.blk i) (c.toList.set (q * sz + off) y0).toArray).heap[b]? = w.heap[b]? := by
     intro b hb
     simp only [World.setRow, Array.getElem?_modify]
     rw [if_neg (fun e => hb e.symm)]
    have hre : (AO.row sz es).real = true := by cases es with
     | nil => cases hq
     | cons => rfl
    have := hf.1.write hi hre (w.setRow (N.blk i) (c.toList.set (q * sz + off) y0).toArray) (.row sz (es.set q (row.set off v))) rfl rfl rfl (by simp) hne
     (.inr ⟨h0, _, T, hrow, by simp; exact g2, by simpa using g3, fun k2 e2 h2 => ?_, fun k2 e2 j2 p2 h2 h3 => ?_⟩)
    ·exact ⟨this.1, this.2, hf.2.1, hf.2.2⟩
    ·rw [List.getElem?_set] at h2
     split at h2
     ·cases h2; rw [List.length_set]; exact hrl
     ·exact g4 k2 e2 h2
    ·have hgd : ∀ m, (c.toList.set (q * sz + off) y0).toArray.getD m undef = if q * sz + off = m then y0 else c.getD m undef := by
      intro m
      rw [Array.getD_eq_getD_getElem?, Array.getD_eq_getD_getElem?, List.getElem?_toArray, List.getElem?_set]
      split
      ·rename_i e; subst e
       rw [if_pos (by simp; omega)]; rfl
      ·simp
     rw [hgd]
     rw [List.getElem?_set] at h2
     split at h2
     ·rename_i hk2
      subst hk2
      cases h2
      rw [List.getElem?_set] at h3
      split at h3
      ·rename_i hj
       subst hj
       rw [if_pos (by omega)] at h3
       cases h3
       rw [if_pos rfl]
       have := hv 0 v rfl
       rw [hy0] at this; exact this
      ·rename_i hj
       rw [if_neg (by omega)]
       exact g5 _ row j2 p2 hq h3
     ·rename_i hk2
      have hj2 : j2 < sz := by rw [← g4 k2 e2 h2]; exact (List.getElem?_eq_some_iff.1 h3).1
      rw [if_neg ?_]
      ·exact g5 k2 e2 j2 p2 h2 h3
      ·intro e
       rcases Nat.lt_trichotomy q k2 with hlt | heq | hgt
       ·have : (q + 1) * sz ≤ k2 * sz := Nat.mul_le_mul_right _ hlt
        rw [Nat.succ_mul] at this; omega
       ·exact hk2 heq
       ·have : (k2 + 1) * sz ≤ q * sz := Nat.mul_le_mul_right _ hgt
        rw [Nat.succ_mul] at this; omega
 obtain ⟨w', h1, h2, h3⟩ := key
 refine ⟨w', M, N, ?_, h2, h3⟩
 simp only [execOp, ho]
 simp [hu2, hy2, h1]
theorem go_storeRow (hty : TyOK P ty) {all rest : List Oper} {o : Oper} {t : TypeId} {a x : Operand} (ho : o.op = .store t a x) (hd : o.dst = none) (hg : o.guard = none) {e : TyE} (he : ty t = some e) (hsz : e.size = 1) {i sz q off : Nat} {es : List (List PV)} {row : List PV} {v : PV}
  (ha : ev s.f a = .eptr i sz q off) (hi : s.h.get i = some (.row sz es)) (hq : es[q]? = some row) (hoff : Nat.blt off sz = true) (hx : ev s.f x = v) (hxs : v.cells = some [v]) (hone : v.one = true)
  {s' : AS} (hs : (⟨s.f, (i, some (.row sz (es.set q (row.set off v)))) :: s.h, s.nx⟩ : AS) = s') (h : GO P nt (.ops all rest :: k) Q s') : GO P nt (.ops all (o :: rest) :: k) Q s :=
 go_op hg (storeRow_OT hty ho hd he hsz ha hi hq hoff hx hxs hone) fun u hu => by subst hu; subst hs; exact h
end
end Go.Al
namespace Go.Al
open Go.ChangeShapes Go.WideShapes Go.RowKit
def frzOf (W : World) (b : Nat) : Option MB := match W.heap[b]? with
 | some (.cells c _ _) => some (.cells c)
 | some (.map es cl) => some (.map es cl)
 | _ => none
def TabOK (W : World) : Prop := ∀ b c, gtab b = some c → ∃ T fr, W.heap[b]? = some (.cells c T fr)
def Mem.ofW (W : World) (h : TabOK W) : Mem := ⟨frzOf W, fun b c hb => by obtain ⟨T, fr, e⟩ := h b c hb; simp [frzOf, e]⟩
def nm0 : Nm := ⟨fun _ => 0, fun _ => 0⟩
theorem rel_ofW (W : World) (h : TabOK W) : Rel (Mem.ofW W h) nm0 (· < 0) [] W := by
 refine ⟨fun b c hb => ?_, fun i o hi => by simp [AH.get] at hi, fun i o hi => by simp [AH.get] at hi, fun i o hi => by simp [AH.get] at hi, fun i j o p hi => by simp [AH.get] at hi⟩
 have hb' : frzOf W b = some c := hb
 unfold frzOf at hb'
 split at hb'
 ·rename_i c' T fr e
  obtain rfl := Option.some.inj hb'
  exact ⟨T, fr, e⟩
 ·rename_i es cl e
  obtain rfl := Option.some.inj hb'
  exact e
 ·cases hb'
theorem cell_ofW {W : World} {h : TabOK W} {b o : Nat} {v : Value} (hc : W.cell? ⟨b, o, none⟩ = some v) : (Mem.ofW W h).cell b o = some v := by
 show (match frzOf W b with | some (.cells c) => c[o]? | _ => none) = some v
 unfold World.cell? at hc
 unfold frzOf
 split at hc
 ·rename_i c T fr e
  simp only at e
  rw [e]
  simpa using hc
 ·cases hc
def CR (M : Mem) (l : List IV) (cs : List Value) : Prop := l.length = cs.length ∧ ∀ j p, l[j]? = some p → IR M p (cs.getD j undef)
theorem CR.nil (M : Mem) : CR M [] [] := ⟨rfl, fun j p h => by simp at h⟩
theorem CR.one {M : Mem} {p : IV} {v : Value} (h : IR M p v) : CR M [p] [v] := ⟨rfl, fun j q hq => by
 cases j with
 | zero => simp at hq; subst hq; simpa using h
 | succ j => simp at hq⟩
theorem CR.append {M : Mem} {l l' : List IV} {cs cs' : List Value} (h : CR M l cs) (k : CR M l' cs') : CR M (l ++ l') (cs ++ cs') := by
 refine ⟨by simp [h.1, k.1], fun j p hp => ?_⟩
 rcases Nat.lt_or_ge j l.length with hj | hj
 ·rw [List.getElem?_append_left hj] at hp
  have := h.2 j p hp
  rw [List.getD_eq_getElem?_getD] at this ⊢
  rwa [List.getElem?_append_left (by rw [← h.1]; exact hj)]
 ·rw [List.getElem?_append_right hj] at hp
  have := k.2 _ p hp
  rw [List.getD_eq_getElem?_getD] at this ⊢
  rw [List.getElem?_append_right (by rw [← h.1]; exact hj), ← h.1]
  exact this
theorem CR.tile {M : Mem} {l r : List IV} {cs : List Value} {o n o' : Nat} (h : CR M l ((cs.drop o).take n)) (e : o' = o + n) (k : CR M r (cs.drop o')) : CR M (l ++ r) (cs.drop o) := by
 subst e
 have := h.append k
 rwa [← List.drop_drop, List.take_append_drop] at this
theorem CR.end_ {M : Mem} {cs : List Value} {o : Nat} (h : cs.length = o) : CR M [] (cs.drop o) := by
 rw [List.drop_eq_nil_of_le (by omega)]; exact .nil M
theorem CR.agg {M : Mem} {N : Nm} {U : Nat → Prop} {l : List IV} {ys : Array Value} (h : CR M l ys.toList) : VR M N U (ag l) (.agg ys) := by
 refine .agg _ _ (by simpa using h.1) fun j p hp => ?_
 rw [List.getElem?_map, Option.map_eq_some_iff] at hp
 obtain ⟨q, hq, rfl⟩ := hp
 have := h.2 j q hq
 exact .iv _ _ (by simpa [Array.getD_eq_getD_getElem?, List.getD_eq_getElem?_getD] using this)
theorem CR.le {M : Mem} {l l' : List IV} {cs : List Value} (h : CR M l cs) (hl : l.length = l'.length) (hle : ∀ (j : Nat) (p q : IV), l[j]? = some p → l'[j]? = some q → IVle p q) : CR M l' cs := by
 refine ⟨hl ▸ h.1, fun j q hq => ?_⟩
 have hj : j < l.length := by rw [hl]; exact (List.getElem?_eq_some_iff.1 hq).1
 exact hle j _ q (List.getElem?_eq_getElem hj) hq M _ (h.2 j _ (List.getElem?_eq_getElem hj))
theorem CR.le1 {M : Mem} {p q : IV} {cs : List Value} (h : CR M [p] cs) (hle : IVle p q) : CR M [q] cs :=
 h.le rfl fun j p' q' hp hq => by
  cases j with
  | zero => simp at hp hq; subst hp; subst hq; exact hle
  | succ j => simp at hp
section
variable {H : Type} {enc : TypeId × Value → H} {P : Program} {W : World} {hT : TabOK W} {sp : Nat → Bool} {held : Bool}
def Rd (enc : TypeId × Value → H) (P : Program) (W : World) (hT : TabOK W) (sp : Nat → Bool) (held : Bool) (t : TypeId) {α : Type} (c : α → List IV) (Q : α → DataW H → Prop) (n : Nat) : Prop :=
 ∀ m, m ≤ n → ∀ cs y, DataW.trod enc P W 0 sp held m t cs = some y → ∃ x, CR (Mem.ofW W hT) (c x) cs ∧ Q x y.1
theorem Rd.mono {t : TypeId} {α : Type} {c : α → List IV} {Q : α → DataW H → Prop} {n m : Nat} (h : Rd enc P W hT sp held t c Q n) (hm : m ≤ n) : Rd enc P W hT sp held t c Q m := fun k hk => h k (Nat.le_trans hk hm)
theorem rd_int {t : TypeId} {k : IntKind} (ht : P.underlying t = some (.int k)) (n : Nat) : Rd enc P W hT sp held t (fun z => [.v (.int k z)]) (fun z d => d = .lit (.int k z) ∧ (Lit.int k z).wf = true) n := by
 intro m _ cs y h
 cases m with
 | zero => simp [DataW.trod] at h
 | succ m =>
  unfold DataW.trod at h
  rw [ht] at h
  split at h <;> simp_all
  obtain ⟨⟨rfl, hw⟩, rfl⟩ := h
  exact ⟨_, .one (.v _), rfl, hw⟩
theorem rd_string {t : TypeId} (ht : P.underlying t = some .string) (n : Nat) : Rd enc P W hT sp held t (fun s => [.v (.string s)]) (fun s d => d = .lit (.string s.data.toList) ∧ s.size ≤ maxLen) n := by
 intro m _ cs y h
 cases m with
 | zero => simp [DataW.trod] at h
 | succ m =>
  unfold DataW.trod at h
  rw [ht] at h
  split at h <;> simp_all
  rename_i s
  obtain ⟨hw, rfl⟩ := h
  exact ⟨s, .one (.v _), rfl, hw⟩
def QL {α : Type} (Q : α → DataW H → Prop) (l : List α) (d : DataW H) : Prop :=
 ∃ el : List (DataW H), (d = .nil ∧ el = [] ∨ ∃ sp, d = .slice el sp) ∧ l.length = el.length ∧ ∀ (i : Nat) (x : α) (e : DataW H), l[i]? = some x → el[i]? = some e → Q x e
theorem rd_slice {α : Type} [Inhabited α] {t e : TypeId} {sz : Nat} {c : α → List IV} {Q : α → DataW H → Prop} {n : Nat} (ht : P.underlying t = some (.slice e)) (hc : P.cellsOf e = sz) (hpos : 0 < sz) (hl : ∀ x, (c x).length = sz)
  (he : Rd enc P W hT sp held e c Q n) : Rd enc P W hT sp held t (fun l : List α => [slc sz l c]) (QL Q) (n + 1) := by
 intro m hm cs y h
 rcases DataW.trod_slice ht h with ⟨rfl, rfl⟩ | ⟨a, len, cap, elems, rest, k, rfl, rfl, rfl, _, h1, h2, h3, h4, _⟩
 ·exact ⟨[], .one (.imm0 ..), [], .inl ⟨rfl, rfl⟩, rfl, fun i x e h => by simp at h⟩
 have key : ∀ i, i < len → ∃ x, (∃ cs', W.cells? 0 (a.add (i * sz)) sz = some cs' ∧ CR (Mem.ofW W hT) (c x) cs') ∧ ∃ y, elems[i]? = some y ∧ Q x y.1 := by
  intro i hi
  have h5 := h4 i hi
  rw [hc, List.getElem?_eq_getElem (by omega)] at h5
  obtain ⟨cs', h6, h7⟩ := Option.bind_eq_some_iff.1 h5
  obtain ⟨x, h8, h9⟩ := he k (by omega) _ _ h7
  exact ⟨x, ⟨cs', h6, h8⟩, _, List.getElem?_eq_getElem (by omega), h9⟩
 obtain ⟨f, hf⟩ := Deep.choose_lt key
 refine ⟨(List.range len).map f, .one ?_, elems.map (·.1), .inr ⟨_, rfl⟩, by simp [h3], fun i x e hx hex => ?_⟩
 ·cases len with
  | zero => exact .imm0 ..
  | succ len =>
   have hsp : ∀ i, i < len + 1 → ∀ j, j < sz → W.cell? ((a.add (i * sz)).add j) = ((c (f i))[j]?).bind fun _ => (W.cell? ((a.add (i * sz)).add j)) := by
    intro i hi j hj
    rw [List.getElem?_eq_getElem (by rw [hl]; exact hj)]; rfl
   have hcell : ∀ i, i < len + 1 → ∀ j, j < sz → ∃ v, W.cell? ⟨a.block, a.off + i * sz + j, none⟩ = some v ∧ (∀ p, (c (f i))[j]? = some p → IR (Mem.ofW W hT) p v) ∧ a.spot = none := by
    intro i hi j hj
    obtain ⟨⟨cs', h6, h8⟩, _⟩ := hf i hi
    obtain ⟨_, h9, h10⟩ := World.cells?_some h6
    have h11 := h10 j hj
    rw [List.getElem?_eq_getElem (by omega)] at h11
    have hs : ∀ j, j < sz → (a.add (i * sz + j)).spot = none := fun j hj => by
     have h12 := h10 j hj
     rw [List.getElem?_eq_getElem (by omega), Deep.add_add] at h12
     exact World.cell?_spot h12
    have hadd : a.add (i * sz + j) = ⟨a.block, a.off + i * sz + j, none⟩ := by
     have := hs j hj
     unfold Addr.add at this ⊢
     split
     ·rename_i h0
      rw [if_pos h0] at this
      cases a; simp_all
     ·rw [Nat.add_assoc]
    refine ⟨cs'[j]'(by omega), ?_, fun p hp => ?_, ?_⟩
    ·rw [← hadd, ← Deep.add_add]; exact h11
    ·have := h8.2 j p hp
     rwa [List.getD_eq_getElem?_getD, List.getElem?_eq_getElem (by omega)] at this
    ·obtain ⟨⟨cs0, g6, _⟩, _⟩ := hf 0 (by omega)
     obtain ⟨_, g9, g10⟩ := World.cells?_some g6
     have g11 := g10 0 hpos
     rw [List.getElem?_eq_getElem (by omega), Deep.add_add] at g11
     have := World.cell?_spot g11
     simpa [Addr.add] using this
   have ha : some a = some (⟨a.block, a.off, none⟩ : Addr) := by
    obtain ⟨_, _, _, hs⟩ := hcell 0 (by omega) 0 hpos
    cases a; simp_all
   rw [ha]
   have hlen : ((List.range (len + 1)).map f).length = len + 1 := by simp
   have hget : ∀ k, k < len + 1 → ((List.range (len + 1)).map f).getD k default = f k := fun k hk => by
    simp [List.getD_eq_getElem?_getD, List.getElem?_range hk]
   unfold slc
   rw [hlen]
   refine .imm _ _ _ _ _ _ h1 h2 (fun k _ => hl _) (fun k j hk hj => ?_) (fun k j p hk hp => ?_)
   ·obtain ⟨v, hv, _⟩ := hcell k hk j hj
    rw [cell_ofW hv]; rfl
   ·rw [hget k hk] at hp
    have hj : j < sz := by rw [← hl (f k)]; exact (List.getElem?_eq_some_iff.1 hp).1
    obtain ⟨v, hv, hp', _⟩ := hcell k hk j hj
    rw [cell_ofW hv]
    exact hp' p hp
 ·have hi : i < len := by simpa using (List.getElem?_eq_some_iff.1 hx).1
  obtain ⟨_, y, hy, hq⟩ := hf i hi
  rw [List.getElem?_map, hy] at hex
  rw [List.getElem?_map, List.getElem?_range hi] at hx
  simp at hex hx
  subst hex; subst hx; exact hq
theorem fld {n : Nat} {fs : Array Field} {cs : List Value} {xs : List (DataW H × List MemPlace)} (hf : ∀ (i : Nat) (f : Field), fs[i]? = some f → DataW.trod enc P W 0 sp held n f.type ((cs.drop f.offset).take (P.cellsOf f.type)) = xs[i]?)
  (i : Nat) {f : Field} (h1 : fs[i]? = some f) {t o sz : Nat} (h2 : f.type = t) (h3 : f.offset = o) (h4 : P.cellsOf t = sz) {x : DataW H × List MemPlace} (hx : xs[i]? = some x) : DataW.trod enc P W 0 sp held n t ((cs.drop o).take sz) = some x := by
 subst h2; subst h3; subst h4
 rw [hf i f h1, hx]
end
section
variable {H : Type} {enc : TypeId × Value → H} {P : Program} {W W' : World} {T : TypeId → Prop}
theorem sameAt_of {W W' : World} (hk : ∀ b, b < W.heap.size → W'.heap[b]? = W.heap[b]?) {p : MemPlace} (hp : p.block < W.heap.size) : W.sameAt W' p := by
 cases p with
 | cell b o => exact World.cell?_of_block (a := ⟨b, o, none⟩) (hk b hp)
 | map b => exact hk b hp
theorem trodAll_again (K : Kids P T) (hz : ∀ {t e}, T t → P.underlying t = some (.slice e) → 0 < P.cellsOf e) (hk : ∀ b, b < W.heap.size → W'.heap[b]? = W.heap[b]?) {sp : Nat → Bool} :
  ∀ {ts : List TypeId} {vs : List Value} {ds : List (DataW H)} {ps : List MemPlace}, (∀ t ∈ ts, T t) → DataW.TrodAll enc P W 0 (fun _ => true) true ts vs ds ps → (∀ p ∈ ps, p.block < W.heap.size) → (∀ p ∈ ps, sp p.block = true) →
   DataW.TrodAll enc P W' 0 sp true ts vs ds ps
 | [], vs, ds, ps, _, h, _, _ => by
  obtain ⟨rfl, rfl, rfl⟩ := trodAll_nil h
  exact trodAll_mk0
 | t :: ts, vs, ds, ps, hT, h, hlt, hsp => by
  obtain ⟨v, vs', d, ds', p, q, rfl, rfl, rfl, ⟨n, h1⟩, h2⟩ := trodAll_cons h
  refine ⟨p, q, ⟨n, DataW.trod_stays K hz (fun h => by cases h) (hT t (by simp)) h1 (fun x hx => sameAt_of hk (hlt x (List.mem_append_left _ hx))) (fun x hx => hsp x (List.mem_append_left _ hx))⟩, ?_, rfl⟩
  exact trodAll_again K hz hk (fun t ht => hT t (List.mem_cons_of_mem _ ht)) h2 (fun x hx => hlt x (List.mem_append_right _ hx)) (fun x hx => hsp x (List.mem_append_right _ hx))
theorem kept_of {W W' : World} (hos : W'.os = W.os) (hout : W'.output = W.output) (hk : ∀ b, b < W.heap.size → W'.heap[b]? = W.heap[b]?) (may : MemPlace → Prop) : W.keptBut W' may := by
 refine World.keptBut_mono (fun p hp => (hp : False).elim) (World.keptBut_none_iff.2 ⟨hos, hout, hk⟩)
theorem post_of_kept {f : Func} {s : ChangeSpec} {apart fresh handsOn again : Bool} {args : Array Value} {v : Value} {ds gs : List (DataW H)} {before : List MemPlace}
  (K : Kids P T) (hz : ∀ {t e}, T t → P.underlying t = some (.slice e) → 0 < P.cellsOf e) (hTs : ∀ t ∈ f.params.toList, T t) (hvars : s.vars = [])
  (hW : DataW.Whole enc P f.params.toList s.vars apart W args.toList ds gs before) (hos : W'.os = W.os) (hout : W'.output = W.output) (hk : ∀ b, b < W.heap.size → W'.heap[b]? = W.heap[b]?)
  (hres : ∀ (b : Nat) (sp : Nat → Bool) (hd : Bool), DataW.TrodAll enc P W' b sp hd f.resultTypes.toList (v.resultList f.resultTypes.size) (s.fn H (ds ++ gs)).results [])
  (hargs : (s.fn H (ds ++ gs)).args = ds) (hvs : (s.fn H (ds ++ gs)).vars = [])
  (hok : ∀ (j : Nat) (t : TypeId) (r : Value), f.resultTypes[j]? = some t → (v.resultList f.resultTypes.size)[j]? = some r → Value.okWide P W' .any 0 t r) :
  s.post enc P f apart fresh handsOn again W args v W' := by
 have hlt : ∀ p ∈ before, p.block < W.heap.size := fun p hp => by simpa using hW.lt p hp
 have hold : ∀ p ∈ before, (fun b => decide (b < W.heap.size)) p.block = true := fun p hp => by simpa using hW.lt p hp
 obtain ⟨pa, pv, hA, hV, rfl, hfz, hnd⟩ := id hW
 rw [hvars] at hV
 obtain ⟨rfl, rfl⟩ : gs = [] ∧ pv = [] := by
  cases gs with
  | nil => exact ⟨rfl, hV⟩
  | cons _ _ => exact hV.elim
 rw [List.append_nil] at hlt hold
 have hagain : ∀ sp : Nat → Bool, (∀ p ∈ pa, sp p.block = true) → DataW.TrodAll enc P W' 0 sp true f.params.toList args.toList (s.fn H (ds ++ [])).args pa := fun sp hsp => by
  rw [hargs]; exact trodAll_again K hz hk hTs hA hlt hsp
 have hva : ∀ sp : Nat → Bool, DataW.TrodVars enc P W' sp s.vars (s.fn H (ds ++ [])).vars [] := fun sp => by
  rw [hvs, hvars]; rfl
 refine ⟨ds, [], pa ++ [], [], pa, [], hW, hres _ _ _, hagain _ hold, hva _, ?_, fun _ => ⟨hok, _, _, ([] ++ pa) ++ [], ⟨[] ++ pa, [], trodAll_append (hagain _ (fun _ _ => rfl)) (hres _ _ _), hva _, rfl, ?_, ?_⟩, ?_⟩⟩
 ·exact kept_of hos hout hk _
 ·intro b off hp
  have hp' : MemPlace.cell b off ∈ pa := by simpa using hp
  have hb := hlt _ hp'
  have := hfz b off (by simpa using hp')
  rw [← this]
  simp only [World.frozen?]
  rw [hk b hb]
 ·intro ha
  have := hnd ha
  simpa using this
 ·intro p hp _
  simpa using hp
end
end Go.Al
namespace Go.Proofs.YtpnclpbkecjinaaGreatDoorR
open Go Go.Al
def ty2 : TyE := ⟨.prim (.int .i64), 1, 8, .int .i64 (0), false⟩
theorem tyOk2 : EntryOK Tryz.prog 2 ty2 := ⟨entry_info (by kernel_rfl), ⟨Tryz.underlying2, rfl⟩, fun h => nomatch h⟩
def ty3 : TyE := ⟨.prim (.int .i64), 1, 8, .int .i64 (0), false⟩
theorem tyOk3 : EntryOK Tryz.prog 3 ty3 := ⟨entry_info (by kernel_rfl), ⟨Tryz.underlying3, rfl⟩, fun h => nomatch h⟩
def ty4 : TyE := ⟨.prim (.bool), 1, 1, .bool false, false⟩
theorem tyOk4 : EntryOK Tryz.prog 4 ty4 := ⟨entry_info (by kernel_rfl), ⟨Tryz.underlying4, rfl⟩, fun h => nomatch h⟩
def ty5 : TyE := ⟨.prim (.int .u8), 1, 1, .int .u8 (0), false⟩
theorem tyOk5 : EntryOK Tryz.prog 5 ty5 := ⟨entry_info (by kernel_rfl), ⟨Tryz.underlying5, rfl⟩, fun h => nomatch h⟩
def ty9 : TyE := ⟨.prim (.string), 1, 16, .string ByteArray.empty, false⟩
theorem tyOk9 : EntryOK Tryz.prog 9 ty9 := ⟨entry_info (by kernel_rfl), ⟨Tryz.underlying9, rfl⟩, fun h => nomatch h⟩
def ty21 : TyE := ⟨.prim (.int .i32), 1, 4, .int .i32 (0), false⟩
theorem tyOk21 : EntryOK Tryz.prog 21 ty21 := ⟨entry_info (by kernel_rfl), ⟨Tryz.underlying21, rfl⟩, fun h => nomatch h⟩
def ty22 : TyE := ⟨.prim (.slice 116), 1, 24, .slice none 0 0, false⟩
theorem tyOk22 : EntryOK Tryz.prog 22 ty22 := ⟨entry_info (by kernel_rfl), ⟨Tryz.underlying22, rfl⟩, fun h => nomatch h⟩
def ty23 : TyE := ⟨.prim (.slice 61), 1, 24, .slice none 0 0, false⟩
theorem tyOk23 : EntryOK Tryz.prog 23 ty23 := ⟨entry_info (by kernel_rfl), ⟨Tryz.underlying23, rfl⟩, fun h => nomatch h⟩
def ty25 : TyE := ⟨.strct [(0, 22), (1, 23)], 2, 48, .agg #[.slice none 0 0, .slice none 0 0], true⟩
theorem tyOk25 : EntryOK Tryz.prog 25 ty25 := ⟨entry_info (by kernel_rfl), ⟨_, Tryz.underlying25, rfl⟩, fun _ => eqOK_of Tryz.underlying25 Tryz.stoodInHeld25 Tryz.eqGuardType25 (by decide)⟩
def ty27 : TyE := ⟨.prim (.slice 32), 1, 24, .slice none 0 0, false⟩
theorem tyOk27 : EntryOK Tryz.prog 27 ty27 := ⟨entry_info (by kernel_rfl), ⟨Tryz.underlying27, rfl⟩, fun h => nomatch h⟩
def ty28 : TyE := ⟨.prim (.int .i64), 1, 8, .int .i64 (0), false⟩
theorem tyOk28 : EntryOK Tryz.prog 28 ty28 := ⟨entry_info (by kernel_rfl), ⟨Tryz.underlying28, rfl⟩, fun h => nomatch h⟩
def ty32 : TyE := ⟨.strct [(0, 9), (1, 3)], 2, 24, .agg #[.string ByteArray.empty, .int .i64 (0)], true⟩
theorem tyOk32 : EntryOK Tryz.prog 32 ty32 := ⟨entry_info (by kernel_rfl), ⟨_, Tryz.underlying32, rfl⟩, fun _ => eqOK_of Tryz.underlying32 Tryz.stoodInHeld32 Tryz.eqGuardType32 (by decide)⟩
def ty34 : TyE := ⟨.prim (.slice 40), 1, 24, .slice none 0 0, false⟩
theorem tyOk34 : EntryOK Tryz.prog 34 ty34 := ⟨entry_info (by kernel_rfl), ⟨Tryz.underlying34, rfl⟩, fun h => nomatch h⟩
def ty38 : TyE := ⟨.prim (.slice 69), 1, 24, .slice none 0 0, false⟩
theorem tyOk38 : EntryOK Tryz.prog 38 ty38 := ⟨entry_info (by kernel_rfl), ⟨Tryz.underlying38, rfl⟩, fun h => nomatch h⟩
def ty40 : TyE := ⟨.strct [(0, 9), (1, 38)], 2, 40, .agg #[.string ByteArray.empty, .slice none 0 0], true⟩
theorem tyOk40 : EntryOK Tryz.prog 40 ty40 := ⟨entry_info (by kernel_rfl), ⟨_, Tryz.underlying40, rfl⟩, fun _ => eqOK_of Tryz.underlying40 Tryz.stoodInHeld40 Tryz.eqGuardType40 (by decide)⟩
def ty44 : TyE := ⟨.prim (.slice 47), 1, 24, .slice none 0 0, false⟩
theorem tyOk44 : EntryOK Tryz.prog 44 ty44 := ⟨entry_info (by kernel_rfl), ⟨Tryz.underlying44, rfl⟩, fun h => nomatch h⟩
def ty45 : TyE := ⟨.prim (.slice 79), 1, 24, .slice none 0 0, false⟩
theorem tyOk45 : EntryOK Tryz.prog 45 ty45 := ⟨entry_info (by kernel_rfl), ⟨Tryz.underlying45, rfl⟩, fun h => nomatch h⟩
def ty47 : TyE := ⟨.strct [(0, 9), (1, 45)], 2, 40, .agg #[.string ByteArray.empty, .slice none 0 0], true⟩
theorem tyOk47 : EntryOK Tryz.prog 47 ty47 := ⟨entry_info (by kernel_rfl), ⟨_, Tryz.underlying47, rfl⟩, fun _ => eqOK_of Tryz.underlying47 Tryz.stoodInHeld47 Tryz.eqGuardType47 (by decide)⟩
def ty53 : TyE := ⟨.strct [(0, 3), (1, 3)], 2, 16, .agg #[.int .i64 (0), .int .i64 (0)], true⟩
theorem tyOk53 : EntryOK Tryz.prog 53 ty53 := ⟨entry_info (by kernel_rfl), ⟨_, Tryz.underlying53, rfl⟩, fun _ => eqOK_of Tryz.underlying53 Tryz.stoodInHeld53 Tryz.eqGuardType53 (by decide)⟩
def ty55 : TyE := ⟨.strct [(0, 28), (1, 53)], 3, 24, .agg #[.int .i64 (0), .int .i64 (0), .int .i64 (0)], true⟩
theorem tyOk55 : EntryOK Tryz.prog 55 ty55 := ⟨entry_info (by kernel_rfl), ⟨_, Tryz.underlying55, rfl⟩, fun _ => eqOK_of Tryz.underlying55 Tryz.stoodInHeld55 Tryz.eqGuardType55 (by decide)⟩
def ty59 : TyE := ⟨.prim (.slice 76), 1, 24, .slice none 0 0, false⟩
theorem tyOk59 : EntryOK Tryz.prog 59 ty59 := ⟨entry_info (by kernel_rfl), ⟨Tryz.underlying59, rfl⟩, fun h => nomatch h⟩
def ty61 : TyE := ⟨.strct [(0, 47), (2, 59), (3, 53)], 5, 80, .agg #[.string ByteArray.empty, .slice none 0 0, .slice none 0 0, .int .i64 (0), .int .i64 (0)], true⟩
theorem tyOk61 : EntryOK Tryz.prog 61 ty61 := ⟨entry_info (by kernel_rfl), ⟨_, Tryz.underlying61, rfl⟩, fun _ => eqOK_of Tryz.underlying61 Tryz.stoodInHeld61 Tryz.eqGuardType61 (by decide)⟩
def ty63 : TyE := ⟨.prim (.slice 9), 1, 24, .slice none 0 0, false⟩
theorem tyOk63 : EntryOK Tryz.prog 63 ty63 := ⟨entry_info (by kernel_rfl), ⟨Tryz.underlying63, rfl⟩, fun h => nomatch h⟩
def ty69 : TyE := ⟨.strct [(0, 3), (1, 3), (2, 9)], 3, 32, .agg #[.int .i64 (0), .int .i64 (0), .string ByteArray.empty], true⟩
theorem tyOk69 : EntryOK Tryz.prog 69 ty69 := ⟨entry_info (by kernel_rfl), ⟨_, Tryz.underlying69, rfl⟩, fun _ => eqOK_of Tryz.underlying69 Tryz.stoodInHeld69 Tryz.eqGuardType69 (by decide)⟩
def ty70 : TyE := ⟨.prim (.slice 72), 1, 24, .slice none 0 0, false⟩
theorem tyOk70 : EntryOK Tryz.prog 70 ty70 := ⟨entry_info (by kernel_rfl), ⟨Tryz.underlying70, rfl⟩, fun h => nomatch h⟩
def ty72 : TyE := ⟨.strct [(0, 3), (1, 9), (2, 69), (5, 3), (6, 70)], 7, 88, .agg #[.int .i64 (0), .string ByteArray.empty, .int .i64 (0), .int .i64 (0), .string ByteArray.empty, .int .i64 (0), .slice none 0 0], true⟩
theorem tyOk72 : EntryOK Tryz.prog 72 ty72 := ⟨entry_info (by kernel_rfl), ⟨_, Tryz.underlying72, rfl⟩, fun _ => eqOK_of Tryz.underlying72 Tryz.stoodInHeld72 Tryz.eqGuardType72 (by decide)⟩
def ty74 : TyE := ⟨.strct [(0, 3), (1, 9), (2, 72), (9, 59)], 10, 136, .agg #[.int .i64 (0), .string ByteArray.empty, .int .i64 (0), .string ByteArray.empty, .int .i64 (0), .int .i64 (0), .string ByteArray.empty, .int .i64 (0), .slice none 0 0, .slice none 0 0], true⟩
theorem tyOk74 : EntryOK Tryz.prog 74 ty74 := ⟨entry_info (by kernel_rfl), ⟨_, Tryz.underlying74, rfl⟩, fun _ => eqOK_of Tryz.underlying74 Tryz.stoodInHeld74 Tryz.eqGuardType74 (by decide)⟩
def ty76 : TyE := ⟨.strct [(0, 3), (1, 47), (3, 3), (4, 72), (11, 72), (18, 74), (28, 53)], 30, 384, .agg #[.int .i64 (0), .string ByteArray.empty, .slice none 0 0, .int .i64 (0), .int .i64 (0), .string ByteArray.empty, .int .i64 (0), .int .i64 (0), .string ByteArray.empty, .int .i64 (0), .slice none 0 0, .int .i64 (0), .string ByteArray.empty, .int .i64 (0), .int .i64 (0), .string ByteArray.empty, .int .i64 (0), .slice none 0 0, .int .i64 (0), .string ByteArray.empty, .int .i64 (0), .string ByteArray.empty, .int .i64 (0), .int .i64 (0), .string ByteArray.empty, .int .i64 (0), .slice none 0 0, .slice none 0 0, .int .i64 (0), .int .i64 (0)], true⟩
theorem tyOk76 : EntryOK Tryz.prog 76 ty76 := ⟨entry_info (by kernel_rfl), ⟨_, Tryz.underlying76, rfl⟩, fun _ => eqOK_of Tryz.underlying76 Tryz.stoodInHeld76 Tryz.eqGuardType76 (by decide)⟩
def ty79 : TyE := ⟨.strct [(0, 3), (1, 9), (2, 69)], 5, 56, .agg #[.int .i64 (0), .string ByteArray.empty, .int .i64 (0), .int .i64 (0), .string ByteArray.empty], true⟩
theorem tyOk79 : EntryOK Tryz.prog 79 ty79 := ⟨entry_info (by kernel_rfl), ⟨_, Tryz.underlying79, rfl⟩, fun _ => eqOK_of Tryz.underlying79 Tryz.stoodInHeld79 Tryz.eqGuardType79 (by decide)⟩
def ty82 : TyE := ⟨.prim (.slice 55), 1, 24, .slice none 0 0, false⟩
theorem tyOk82 : EntryOK Tryz.prog 82 ty82 := ⟨entry_info (by kernel_rfl), ⟨Tryz.underlying82, rfl⟩, fun h => nomatch h⟩
def ty87 : TyE := ⟨.prim (.pointer 93), 1, 8, .pointer none, false⟩
theorem tyOk87 : EntryOK Tryz.prog 87 ty87 := ⟨entry_info (by kernel_rfl), ⟨Tryz.underlying87, rfl⟩, fun h => nomatch h⟩
def ty89 : TyE := ⟨.prim (.slice 155), 1, 24, .slice none 0 0, false⟩
theorem tyOk89 : EntryOK Tryz.prog 89 ty89 := ⟨entry_info (by kernel_rfl), ⟨Tryz.underlying89, rfl⟩, fun h => nomatch h⟩
def ty90 : TyE := ⟨.prim (.slice 3), 1, 24, .slice none 0 0, false⟩
theorem tyOk90 : EntryOK Tryz.prog 90 ty90 := ⟨entry_info (by kernel_rfl), ⟨Tryz.underlying90, rfl⟩, fun h => nomatch h⟩
def ty91 : TyE := ⟨.prim (.slice 157), 1, 24, .slice none 0 0, false⟩
theorem tyOk91 : EntryOK Tryz.prog 91 ty91 := ⟨entry_info (by kernel_rfl), ⟨Tryz.underlying91, rfl⟩, fun h => nomatch h⟩
def ty93 : TyE := ⟨.strct [(0, 89), (1, 90), (2, 91), (3, 63)], 4, 96, .agg #[.slice none 0 0, .slice none 0 0, .slice none 0 0, .slice none 0 0], true⟩
theorem tyOk93 : EntryOK Tryz.prog 93 ty93 := ⟨entry_info (by kernel_rfl), ⟨_, Tryz.underlying93, rfl⟩, fun _ => eqOK_of Tryz.underlying93 Tryz.stoodInHeld93 Tryz.eqGuardType93 (by decide)⟩
def ty96 : TyE := ⟨.prim (.pointer 106), 1, 8, .pointer none, false⟩
theorem tyOk96 : EntryOK Tryz.prog 96 ty96 := ⟨entry_info (by kernel_rfl), ⟨Tryz.underlying96, rfl⟩, fun h => nomatch h⟩
def ty98 : TyE := ⟨.prim (.pointer 111), 1, 8, .pointer none, false⟩
theorem tyOk98 : EntryOK Tryz.prog 98 ty98 := ⟨entry_info (by kernel_rfl), ⟨Tryz.underlying98, rfl⟩, fun h => nomatch h⟩
def ty100 : TyE := ⟨.prim (.map 9 116), 1, 8, .map none, false⟩
theorem tyOk100 : EntryOK Tryz.prog 100 ty100 := ⟨entry_info (by kernel_rfl), ⟨Tryz.underlying100, rfl⟩, fun h => nomatch h⟩
def ty103 : TyE := ⟨.prim (.map 9 3), 1, 8, .map none, false⟩
theorem tyOk103 : EntryOK Tryz.prog 103 ty103 := ⟨entry_info (by kernel_rfl), ⟨Tryz.underlying103, rfl⟩, fun h => nomatch h⟩
def ty104 : TyE := ⟨.prim (.map 9 3), 1, 8, .map none, false⟩
theorem tyOk104 : EntryOK Tryz.prog 104 ty104 := ⟨entry_info (by kernel_rfl), ⟨Tryz.underlying104, rfl⟩, fun h => nomatch h⟩
def ty106 : TyE := ⟨.strct [(0, 61), (5, 104)], 6, 88, .agg #[.string ByteArray.empty, .slice none 0 0, .slice none 0 0, .int .i64 (0), .int .i64 (0), .map none], true⟩
theorem tyOk106 : EntryOK Tryz.prog 106 ty106 := ⟨entry_info (by kernel_rfl), ⟨_, Tryz.underlying106, rfl⟩, fun _ => eqOK_of Tryz.underlying106 Tryz.stoodInHeld106 Tryz.eqGuardType106 (by decide)⟩
def ty107 : TyE := ⟨.prim (.map 113 113), 1, 8, .map none, false⟩
theorem tyOk107 : EntryOK Tryz.prog 107 ty107 := ⟨entry_info (by kernel_rfl), ⟨Tryz.underlying107, rfl⟩, fun h => nomatch h⟩
def ty108 : TyE := ⟨.prim (.slice 165), 1, 24, .slice none 0 0, false⟩
theorem tyOk108 : EntryOK Tryz.prog 108 ty108 := ⟨entry_info (by kernel_rfl), ⟨Tryz.underlying108, rfl⟩, fun h => nomatch h⟩
def ty109 : TyE := ⟨.prim (.map 113 3), 1, 8, .map none, false⟩
theorem tyOk109 : EntryOK Tryz.prog 109 ty109 := ⟨entry_info (by kernel_rfl), ⟨Tryz.underlying109, rfl⟩, fun h => nomatch h⟩
def ty111 : TyE := ⟨.strct [(0, 96), (1, 107), (2, 108), (3, 109)], 4, 48, .agg #[.pointer none, .map none, .slice none 0 0, .map none], true⟩
theorem tyOk111 : EntryOK Tryz.prog 111 ty111 := ⟨entry_info (by kernel_rfl), ⟨_, Tryz.underlying111, rfl⟩, fun _ => eqOK_of Tryz.underlying111 Tryz.stoodInHeld111 Tryz.eqGuardType111 (by decide)⟩
def ty113 : TyE := ⟨.strct [(0, 9), (1, 3)], 2, 24, .agg #[.string ByteArray.empty, .int .i64 (0)], true⟩
theorem tyOk113 : EntryOK Tryz.prog 113 ty113 := ⟨entry_info (by kernel_rfl), ⟨_, Tryz.underlying113, rfl⟩, fun _ => eqOK_of Tryz.underlying113 Tryz.stoodInHeld113 Tryz.eqGuardType113 (by decide)⟩
def ty116 : TyE := ⟨.strct [(0, 9), (1, 90), (2, 53)], 4, 56, .agg #[.string ByteArray.empty, .slice none 0 0, .int .i64 (0), .int .i64 (0)], true⟩
theorem tyOk116 : EntryOK Tryz.prog 116 ty116 := ⟨entry_info (by kernel_rfl), ⟨_, Tryz.underlying116, rfl⟩, fun _ => eqOK_of Tryz.underlying116 Tryz.stoodInHeld116 Tryz.eqGuardType116 (by decide)⟩
def ty123 : TyE := ⟨.prim (.func #[69] #[4] false), 1, 8, .nilFunc, false⟩
theorem tyOk123 : EntryOK Tryz.prog 123 ty123 := ⟨entry_info (by kernel_rfl), ⟨Tryz.underlying123, rfl⟩, fun h => nomatch h⟩
def ty129 : TyE := ⟨.prim (.func #[47] #[4] false), 1, 8, .nilFunc, false⟩
theorem tyOk129 : EntryOK Tryz.prog 129 ty129 := ⟨entry_info (by kernel_rfl), ⟨Tryz.underlying129, rfl⟩, fun h => nomatch h⟩
def ty131 : TyE := ⟨.prim (.func #[55] #[4] false), 1, 8, .nilFunc, false⟩
theorem tyOk131 : EntryOK Tryz.prog 131 ty131 := ⟨entry_info (by kernel_rfl), ⟨Tryz.underlying131, rfl⟩, fun h => nomatch h⟩
def ty143 : TyE := ⟨.prim (.func #[72] #[4] false), 1, 8, .nilFunc, false⟩
theorem tyOk143 : EntryOK Tryz.prog 143 ty143 := ⟨entry_info (by kernel_rfl), ⟨Tryz.underlying143, rfl⟩, fun h => nomatch h⟩
def ty144 : TyE := ⟨.prim (.func #[74] #[4] false), 1, 8, .nilFunc, false⟩
theorem tyOk144 : EntryOK Tryz.prog 144 ty144 := ⟨entry_info (by kernel_rfl), ⟨Tryz.underlying144, rfl⟩, fun h => nomatch h⟩
def ty155 : TyE := ⟨.strct [(0, 9), (1, 3)], 2, 24, .agg #[.string ByteArray.empty, .int .i64 (0)], true⟩
theorem tyOk155 : EntryOK Tryz.prog 155 ty155 := ⟨entry_info (by kernel_rfl), ⟨_, Tryz.underlying155, rfl⟩, fun _ => eqOK_of Tryz.underlying155 Tryz.stoodInHeld155 Tryz.eqGuardType155 (by decide)⟩
def ty157 : TyE := ⟨.strct [(0, 3), (1, 3), (2, 3), (3, 3)], 4, 32, .agg #[.int .i64 (0), .int .i64 (0), .int .i64 (0), .int .i64 (0)], true⟩
theorem tyOk157 : EntryOK Tryz.prog 157 ty157 := ⟨entry_info (by kernel_rfl), ⟨_, Tryz.underlying157, rfl⟩, fun _ => eqOK_of Tryz.underlying157 Tryz.stoodInHeld157 Tryz.eqGuardType157 (by decide)⟩
def ty165 : TyE := ⟨.strct [(0, 3), (1, 113), (3, 3), (4, 3)], 5, 48, .agg #[.int .i64 (0), .string ByteArray.empty, .int .i64 (0), .int .i64 (0), .int .i64 (0)], true⟩
theorem tyOk165 : EntryOK Tryz.prog 165 ty165 := ⟨entry_info (by kernel_rfl), ⟨_, Tryz.underlying165, rfl⟩, fun _ => eqOK_of Tryz.underlying165 Tryz.stoodInHeld165 Tryz.eqGuardType165 (by decide)⟩
def ty174 : TyE := ⟨.prim (.pointer 180), 1, 8, .pointer none, false⟩
theorem tyOk174 : EntryOK Tryz.prog 174 ty174 := ⟨entry_info (by kernel_rfl), ⟨Tryz.underlying174, rfl⟩, fun h => nomatch h⟩
def ty175 : TyE := ⟨.prim (.pointer 178), 1, 8, .pointer none, false⟩
theorem tyOk175 : EntryOK Tryz.prog 175 ty175 := ⟨entry_info (by kernel_rfl), ⟨Tryz.underlying175, rfl⟩, fun h => nomatch h⟩
def ty176 : TyE := ⟨.prim (.slice 5), 1, 24, .slice none 0 0, false⟩
theorem tyOk176 : EntryOK Tryz.prog 176 ty176 := ⟨entry_info (by kernel_rfl), ⟨Tryz.underlying176, rfl⟩, fun h => nomatch h⟩
def ty178 : TyE := ⟨.strct [(0, 175), (1, 176)], 2, 32, .agg #[.pointer none, .slice none 0 0], true⟩
theorem tyOk178 : EntryOK Tryz.prog 178 ty178 := ⟨entry_info (by kernel_rfl), ⟨_, Tryz.underlying178, rfl⟩, fun _ => eqOK_of Tryz.underlying178 Tryz.stoodInHeld178 Tryz.eqGuardType178 (by decide)⟩
def ty180 : TyE := ⟨.strct [(0, 178), (2, 4), (3, 3)], 4, 48, .agg #[.pointer none, .slice none 0 0, .bool false, .int .i64 (0)], true⟩
theorem tyOk180 : EntryOK Tryz.prog 180 ty180 := ⟨entry_info (by kernel_rfl), ⟨_, Tryz.underlying180, rfl⟩, fun _ => eqOK_of Tryz.underlying180 Tryz.stoodInHeld180 Tryz.eqGuardType180 (by decide)⟩
def ty187 : TyE := ⟨.prim (.func #[3] #[4] false), 1, 8, .nilFunc, false⟩
theorem tyOk187 : EntryOK Tryz.prog 187 ty187 := ⟨entry_info (by kernel_rfl), ⟨Tryz.underlying187, rfl⟩, fun h => nomatch h⟩
def ty188 : TyE := ⟨.strct [(0, 28), (1, 187)], 2, 16, .agg #[.int .i64 (0), .nilFunc], true⟩
theorem tyOk188 : EntryOK Tryz.prog 188 ty188 := ⟨entry_info (by kernel_rfl), ⟨_, Tryz.underlying188, rfl⟩, fun _ => eqOK_of Tryz.underlying188 Tryz.stoodInHeld188 Tryz.eqGuardType188 (by decide)⟩
def ty189 : TyE := ⟨.prim (.slice 188), 1, 24, .slice none 0 0, false⟩
theorem tyOk189 : EntryOK Tryz.prog 189 ty189 := ⟨entry_info (by kernel_rfl), ⟨Tryz.underlying189, rfl⟩, fun h => nomatch h⟩
def ty201 : TyE := ⟨.prim (.int .u64), 1, 8, .int .u64 (0), false⟩
theorem tyOk201 : EntryOK Tryz.prog 201 ty201 := ⟨entry_info (by kernel_rfl), ⟨Tryz.underlying201, rfl⟩, fun h => nomatch h⟩
def ty211 : TyE := ⟨.strct [(0, 9), (1, 4)], 2, 24, .agg #[.string ByteArray.empty, .bool false], true⟩
theorem tyOk211 : EntryOK Tryz.prog 211 ty211 := ⟨entry_info (by kernel_rfl), ⟨_, Tryz.underlying211, rfl⟩, fun _ => eqOK_of Tryz.underlying211 Tryz.stoodInHeld211 Tryz.eqGuardType211 (by decide)⟩
def ty216 : TyE := ⟨.prim (.func #[79] #[4] false), 1, 8, .nilFunc, false⟩
theorem tyOk216 : EntryOK Tryz.prog 216 ty216 := ⟨entry_info (by kernel_rfl), ⟨Tryz.underlying216, rfl⟩, fun h => nomatch h⟩
def ty218 : TyE := ⟨.prim (.func #[76] #[4] false), 1, 8, .nilFunc, false⟩
theorem tyOk218 : EntryOK Tryz.prog 218 ty218 := ⟨entry_info (by kernel_rfl), ⟨Tryz.underlying218, rfl⟩, fun h => nomatch h⟩
def ty222 : TyE := ⟨.prim (.int .i64), 1, 8, .int .i64 (0), false⟩
theorem tyOk222 : EntryOK Tryz.prog 222 ty222 := ⟨entry_info (by kernel_rfl), ⟨Tryz.underlying222, rfl⟩, fun h => nomatch h⟩
def ty230 : TyE := ⟨.prim (.int .u32), 1, 4, .int .u32 (0), false⟩
theorem tyOk230 : EntryOK Tryz.prog 230 ty230 := ⟨entry_info (by kernel_rfl), ⟨Tryz.underlying230, rfl⟩, fun h => nomatch h⟩
def ty232 : TyE := ⟨.prim (.int .u64), 1, 8, .int .u64 (0), false⟩
theorem tyOk232 : EntryOK Tryz.prog 232 ty232 := ⟨entry_info (by kernel_rfl), ⟨Tryz.underlying232, rfl⟩, fun h => nomatch h⟩
def ty234 : TyE := ⟨.prim (.func #[21] #[4] false), 1, 8, .nilFunc, false⟩
theorem tyOk234 : EntryOK Tryz.prog 234 ty234 := ⟨entry_info (by kernel_rfl), ⟨Tryz.underlying234, rfl⟩, fun h => nomatch h⟩
def ty241 : TyE := ⟨.prim (.pointer 5), 1, 8, .pointer none, false⟩
theorem tyOk241 : EntryOK Tryz.prog 241 ty241 := ⟨entry_info (by kernel_rfl), ⟨Tryz.underlying241, rfl⟩, fun h => nomatch h⟩
def ty244 : TyE := ⟨.arr 7 9, 7, 112, .agg #[.string ByteArray.empty, .string ByteArray.empty, .string ByteArray.empty, .string ByteArray.empty, .string ByteArray.empty, .string ByteArray.empty, .string ByteArray.empty], false⟩
theorem tyOk244 : EntryOK Tryz.prog 244 ty244 := ⟨entry_info (by kernel_rfl), Tryz.underlying244, fun h => nomatch h⟩
def ty250 : TyE := ⟨.prim (.int .u64), 1, 8, .int .u64 (0), false⟩
theorem tyOk250 : EntryOK Tryz.prog 250 ty250 := ⟨entry_info (by kernel_rfl), ⟨Tryz.underlying250, rfl⟩, fun h => nomatch h⟩
def ty254 : TyE := ⟨.prim (.pointer 3), 1, 8, .pointer none, false⟩
theorem tyOk254 : EntryOK Tryz.prog 254 ty254 := ⟨entry_info (by kernel_rfl), ⟨Tryz.underlying254, rfl⟩, fun h => nomatch h⟩
def ty258 : TyE := ⟨.arr 5 9, 5, 80, .agg #[.string ByteArray.empty, .string ByteArray.empty, .string ByteArray.empty, .string ByteArray.empty, .string ByteArray.empty], false⟩
theorem tyOk258 : EntryOK Tryz.prog 258 ty258 := ⟨entry_info (by kernel_rfl), Tryz.underlying258, fun h => nomatch h⟩
def ty261 : TyE := ⟨.prim (.pointer 250), 1, 8, .pointer none, false⟩
theorem tyOk261 : EntryOK Tryz.prog 261 ty261 := ⟨entry_info (by kernel_rfl), ⟨Tryz.underlying261, rfl⟩, fun h => nomatch h⟩
def ty265 : TyE := ⟨.prim (.unsafePointer), 1, 8, .pointer none, false⟩
theorem tyOk265 : EntryOK Tryz.prog 265 ty265 := ⟨entry_info (by kernel_rfl), ⟨Tryz.underlying265, rfl⟩, fun h => nomatch h⟩
def ty276 : TyE := ⟨.arr 24 5, 24, 24, .agg #[.int .u8 (0), .int .u8 (0), .int .u8 (0), .int .u8 (0), .int .u8 (0), .int .u8 (0), .int .u8 (0), .int .u8 (0), .int .u8 (0), .int .u8 (0), .int .u8 (0), .int .u8 (0), .int .u8 (0), .int .u8 (0), .int .u8 (0), .int .u8 (0), .int .u8 (0), .int .u8 (0), .int .u8 (0), .int .u8 (0), .int .u8 (0), .int .u8 (0), .int .u8 (0), .int .u8 (0)], false⟩
theorem tyOk276 : EntryOK Tryz.prog 276 ty276 := ⟨entry_info (by kernel_rfl), Tryz.underlying276, fun h => nomatch h⟩
def ty281 : TyE := ⟨.arr 20 232, 20, 160, .agg #[.int .u64 (0), .int .u64 (0), .int .u64 (0), .int .u64 (0), .int .u64 (0), .int .u64 (0), .int .u64 (0), .int .u64 (0), .int .u64 (0), .int .u64 (0), .int .u64 (0), .int .u64 (0), .int .u64 (0), .int .u64 (0), .int .u64 (0), .int .u64 (0), .int .u64 (0), .int .u64 (0), .int .u64 (0), .int .u64 (0)], false⟩
theorem tyOk281 : EntryOK Tryz.prog 281 ty281 := ⟨entry_info (by kernel_rfl), Tryz.underlying281, fun h => nomatch h⟩
def ty282 : TyE := ⟨.arr 65 5, 65, 65, .agg #[.int .u8 (0), .int .u8 (0), .int .u8 (0), .int .u8 (0), .int .u8 (0), .int .u8 (0), .int .u8 (0), .int .u8 (0), .int .u8 (0), .int .u8 (0), .int .u8 (0), .int .u8 (0), .int .u8 (0), .int .u8 (0), .int .u8 (0), .int .u8 (0), .int .u8 (0), .int .u8 (0), .int .u8 (0), .int .u8 (0), .int .u8 (0), .int .u8 (0), .int .u8 (0), .int .u8 (0), .int .u8 (0), .int .u8 (0), .int .u8 (0), .int .u8 (0), .int .u8 (0), .int .u8 (0), .int .u8 (0), .int .u8 (0), .int .u8 (0), .int .u8 (0), .int .u8 (0), .int .u8 (0), .int .u8 (0), .int .u8 (0), .int .u8 (0), .int .u8 (0), .int .u8 (0), .int .u8 (0), .int .u8 (0), .int .u8 (0), .int .u8 (0), .int .u8 (0), .int .u8 (0), .int .u8 (0), .int .u8 (0), .int .u8 (0), .int .u8 (0), .int .u8 (0), .int .u8 (0), .int .u8 (0), .int .u8 (0), .int .u8 (0), .int .u8 (0), .int .u8 (0), .int .u8 (0), .int .u8 (0), .int .u8 (0), .int .u8 (0), .int .u8 (0), .int .u8 (0), .int .u8 (0)], false⟩
theorem tyOk282 : EntryOK Tryz.prog 282 ty282 := ⟨entry_info (by kernel_rfl), Tryz.underlying282, fun h => nomatch h⟩
def ty283 : TyE := ⟨.arr 32 5, 32, 32, .agg #[.int .u8 (0), .int .u8 (0), .int .u8 (0), .int .u8 (0), .int .u8 (0), .int .u8 (0), .int .u8 (0), .int .u8 (0), .int .u8 (0), .int .u8 (0), .int .u8 (0), .int .u8 (0), .int .u8 (0), .int .u8 (0), .int .u8 (0), .int .u8 (0), .int .u8 (0), .int .u8 (0), .int .u8 (0), .int .u8 (0), .int .u8 (0), .int .u8 (0), .int .u8 (0), .int .u8 (0), .int .u8 (0), .int .u8 (0), .int .u8 (0), .int .u8 (0), .int .u8 (0), .int .u8 (0), .int .u8 (0), .int .u8 (0)], false⟩
theorem tyOk283 : EntryOK Tryz.prog 283 ty283 := ⟨entry_info (by kernel_rfl), Tryz.underlying283, fun h => nomatch h⟩
def ty284 : TyE := ⟨.arr 64 5, 64, 64, .agg #[.int .u8 (0), .int .u8 (0), .int .u8 (0), .int .u8 (0), .int .u8 (0), .int .u8 (0), .int .u8 (0), .int .u8 (0), .int .u8 (0), .int .u8 (0), .int .u8 (0), .int .u8 (0), .int .u8 (0), .int .u8 (0), .int .u8 (0), .int .u8 (0), .int .u8 (0), .int .u8 (0), .int .u8 (0), .int .u8 (0), .int .u8 (0), .int .u8 (0), .int .u8 (0), .int .u8 (0), .int .u8 (0), .int .u8 (0), .int .u8 (0), .int .u8 (0), .int .u8 (0), .int .u8 (0), .int .u8 (0), .int .u8 (0), .int .u8 (0), .int .u8 (0), .int .u8 (0), .int .u8 (0), .int .u8 (0), .int .u8 (0), .int .u8 (0), .int .u8 (0), .int .u8 (0), .int .u8 (0), .int .u8 (0), .int .u8 (0), .int .u8 (0), .int .u8 (0), .int .u8 (0), .int .u8 (0), .int .u8 (0), .int .u8 (0), .int .u8 (0), .int .u8 (0), .int .u8 (0), .int .u8 (0), .int .u8 (0), .int .u8 (0), .int .u8 (0), .int .u8 (0), .int .u8 (0), .int .u8 (0), .int .u8 (0), .int .u8 (0), .int .u8 (0), .int .u8 (0)], false⟩
theorem tyOk284 : EntryOK Tryz.prog 284 ty284 := ⟨entry_info (by kernel_rfl), Tryz.underlying284, fun h => nomatch h⟩
def tyTree : TT := (.node (.node (.node (.node (.node (.node (.node .leaf 2 ty2 .leaf) 3 ty3 .leaf) 4 ty4 (.node (.node .leaf 5 ty5 .leaf) 9 ty9 .leaf)) 21 ty21 (.node (.node (.node .leaf 22 ty22 .leaf) 23 ty23 .leaf) 25 ty25 (.node .leaf 27 ty27 .leaf))) 28 ty28 (.node (.node (.node (.node .leaf 32 ty32 .leaf) 34 ty34 .leaf) 38 ty38 (.node .leaf 40 ty40 .leaf)) 44 ty44 (.node (.node (.node .leaf 45 ty45 .leaf) 47 ty47 .leaf) 53 ty53 (.node .leaf 55 ty55 .leaf)))) 59 ty59 (.node (.node (.node (.node (.node .leaf 61 ty61 .leaf) 63 ty63 .leaf) 69 ty69 (.node (.node .leaf 70 ty70 .leaf) 72 ty72 .leaf)) 74 ty74 (.node (.node (.node .leaf 76 ty76 .leaf) 79 ty79 .leaf) 82 ty82 (.node .leaf 87 ty87 .leaf))) 89 ty89 (.node (.node (.node (.node .leaf 90 ty90 .leaf) 91 ty91 .leaf) 93 ty93 (.node .leaf 96 ty96 .leaf)) 98 ty98 (.node (.node (.node .leaf 100 ty100 .leaf) 103 ty103 .leaf) 104 ty104 (.node .leaf 106 ty106 .leaf))))) 107 ty107 (.node (.node (.node (.node (.node (.node .leaf 108 ty108 .leaf) 109 ty109 .leaf) 111 ty111 (.node (.node .leaf 113 ty113 .leaf) 116 ty116 .leaf)) 123 ty123 (.node (.node (.node .leaf 129 ty129 .leaf) 131 ty131 .leaf) 143 ty143 (.node .leaf 144 ty144 .leaf))) 155 ty155 (.node (.node (.node (.node .leaf 157 ty157 .leaf) 165 ty165 .leaf) 174 ty174 (.node .leaf 175 ty175 .leaf)) 176 ty176 (.node (.node (.node .leaf 178 ty178 .leaf) 180 ty180 .leaf) 187 ty187 (.node .leaf 188 ty188 .leaf)))) 189 ty189 (.node (.node (.node (.node (.node .leaf 201 ty201 .leaf) 211 ty211 .leaf) 216 ty216 (.node (.node .leaf 218 ty218 .leaf) 222 ty222 .leaf)) 230 ty230 (.node (.node (.node .leaf 232 ty232 .leaf) 234 ty234 .leaf) 241 ty241 (.node .leaf 244 ty244 .leaf))) 250 ty250 (.node (.node (.node (.node .leaf 254 ty254 .leaf) 258 ty258 .leaf) 261 ty261 (.node .leaf 265 ty265 .leaf)) 276 ty276 (.node (.node (.node .leaf 281 ty281 .leaf) 282 ty282 .leaf) 283 ty283 (.node .leaf 284 ty284 .leaf))))))
theorem tyTree_all : tyTree.All (EntryOK Tryz.prog) := ⟨tyOk107, ⟨tyOk59, ⟨tyOk28, ⟨tyOk21, ⟨tyOk4, ⟨tyOk3, ⟨tyOk2, trivial, trivial⟩, trivial⟩, ⟨tyOk9, ⟨tyOk5, trivial, trivial⟩, trivial⟩⟩, ⟨tyOk25, ⟨tyOk23, ⟨tyOk22, trivial, trivial⟩, trivial⟩, ⟨tyOk27, trivial, trivial⟩⟩⟩, ⟨tyOk44, ⟨tyOk38, ⟨tyOk34, ⟨tyOk32, trivial, trivial⟩, trivial⟩, ⟨tyOk40, trivial, trivial⟩⟩, ⟨tyOk53, ⟨tyOk47, ⟨tyOk45, trivial, trivial⟩, trivial⟩, ⟨tyOk55, trivial, trivial⟩⟩⟩⟩, ⟨tyOk89, ⟨tyOk74, ⟨tyOk69, ⟨tyOk63, ⟨tyOk61, trivial, trivial⟩, trivial⟩, ⟨tyOk72, ⟨tyOk70, trivial, trivial⟩, trivial⟩⟩, ⟨tyOk82, ⟨tyOk79, ⟨tyOk76, trivial, trivial⟩, trivial⟩, ⟨tyOk87, trivial, trivial⟩⟩⟩, ⟨tyOk98, ⟨tyOk93, ⟨tyOk91, ⟨tyOk90, trivial, trivial⟩, trivial⟩, ⟨tyOk96, trivial, trivial⟩⟩, ⟨tyOk104, ⟨tyOk103, ⟨tyOk100, trivial, trivial⟩, trivial⟩, ⟨tyOk106, trivial, trivial⟩⟩⟩⟩⟩, ⟨tyOk189, ⟨tyOk155, ⟨tyOk123, ⟨tyOk111, ⟨tyOk109, ⟨tyOk108, trivial, trivial⟩, trivial⟩, ⟨tyOk116, ⟨tyOk113, trivial, trivial⟩, trivial⟩⟩, ⟨tyOk143, ⟨tyOk131, ⟨tyOk129, trivial, trivial⟩, trivial⟩, ⟨tyOk144, trivial, trivial⟩⟩⟩, ⟨tyOk176, ⟨tyOk174, ⟨tyOk165, ⟨tyOk157, trivial, trivial⟩, trivial⟩, ⟨tyOk175, trivial, trivial⟩⟩, ⟨tyOk187, ⟨tyOk180, ⟨tyOk178, trivial, trivial⟩, trivial⟩, ⟨tyOk188, trivial, trivial⟩⟩⟩⟩, ⟨tyOk250, ⟨tyOk230, ⟨tyOk216, ⟨tyOk211, ⟨tyOk201, trivial, trivial⟩, trivial⟩, ⟨tyOk222, ⟨tyOk218, trivial, trivial⟩, trivial⟩⟩, ⟨tyOk241, ⟨tyOk234, ⟨tyOk232, trivial, trivial⟩, trivial⟩, ⟨tyOk244, trivial, trivial⟩⟩⟩, ⟨tyOk276, ⟨tyOk261, ⟨tyOk258, ⟨tyOk254, trivial, trivial⟩, trivial⟩, ⟨tyOk265, trivial, trivial⟩⟩, ⟨tyOk283, ⟨tyOk282, ⟨tyOk281, trivial, trivial⟩, trivial⟩, ⟨tyOk284, trivial, trivial⟩⟩⟩⟩⟩⟩
def tyA : Ty := tyTree.find
theorem tyA_ok : TyOK Tryz.prog tyA := TT.find_all tyTree_all
end Go.Proofs.YtpnclpbkecjinaaGreatDoorR
namespace Go.Proofs.YtpnclpbkecjinaaGreatDoorR
open Go Go.Al
theorem mixA : Tryz.prog.follows .mixedOrders = true := rfl
theorem goR {Q : AQ} {nt : Nat} {k : List KI} {s : AS} {C : Prop} {nt' : Nat} {st : Stop} (h : runA tyA ⟨fun _ => none, 0, false⟩ 400 nt k s True = some (C, nt', st)) (hC : C) (hg : StopGoal Tryz.prog nt' Q st) : GO Tryz.prog nt k Q s := go_run mixA tyA_ok 400 h hC hg
theorem gA {Q : AQ} {nt : Nat} {k : List KI} {s : AS} {C : Prop} {nt' : Nat} {st : Stop} (h : runA tyA ⟨fun _ => none, 0, false⟩ 400 nt k s True = some (C, nt', st)) (hg : StopGoal Tryz.prog nt' Q st)
  (hC : C := by (repeat' (first | exact trivial | exact rfl | exact PVle.refl _ | exact PVle.bk (by assumption) | apply And.intro)) <;> first | omega | exact allOnes_src (fun _ => rfl) _ | (simp only [Int.toNat_natCast]; omega) | (simp; done) | (simp; omega)) : GO Tryz.prog nt k Q s := go_run mixA tyA_ok 400 h hC hg
theorem gM (N : Nat) {Q : AQ} {nt : Nat} {k : List KI} {s : AS} {C : Prop} {nt' : Nat} {st : Stop} (h : runA tyA ⟨fun _ => none, 0, false⟩ N nt k s True = some (C, nt', st)) (hg : StopGoal Tryz.prog nt' Q st)
  (hC : C := by (repeat' (first | exact trivial | exact rfl | exact PVle.refl _ | exact PVle.bk (by assumption) | apply And.intro)) <;> first | omega | exact allOnes_src (fun _ => rfl) _ | (simp only [Int.toNat_natCast]; omega) | (simp; done) | (simp; omega)) : GO Tryz.prog nt k Q s := go_run mixA tyA_ok N h hC hg
theorem zp {nt : Nat} {Q : AQ} {k : List KI} {s : AS} {all rest : List Oper} {o : Oper} {c : Call} {g : FuncId} {args : List PV} {r : PV} {s' : AS} (hc : Al.Pure Tryz.prog g args r) (h : GO Tryz.prog nt (.ops all rest :: k) Q s') (ho : o.op = .call c := by exact rfl) (hg : o.guard = none := by exact rfl) (ha : argsOf s.f c = some (g, args) := by exact rfl) (hl : belowL 0 args = true := by exact rfl) (hr : r.low 0 = true := by exact rfl) (hp : putDst nt o r s = some s' := by exact rfl) : GO Tryz.prog nt (.ops all (o :: rest) :: k) Q s := go_pure hc ho hg ha hl hr hp h
theorem zL {ty : Ty} {rl : List ResultVar} {e : Exit} {s : AS} {r r0 : PV} (hle : PVle r0 r) (he : e = .normal ∨ e = .ret := by first | exact .inr rfl | exact .inl rfl) (h : resA ty s rl = some r0 := by exact rfl) : EndP ty rl r e s := end_le he h hle
theorem zq {nt : Nat} {Q : AQ} {k : List KI} {s : AS} {all rest : List Oper} {o : Oper} {c : Call} {g : FuncId} {asv args : List PV} {os : List AO} {r : PV} {h' : AH} {n' : Nat} {s' : AS} (L : List Nat) (hc : Det Tryz.prog g args os r h' n') (h : GO Tryz.prog nt (.ops all rest :: k) Q s') (ho : o.op = .call c := by exact rfl) (hg : o.guard = none := by exact rfl) (ha : argsOf s.f c = some (g, asv) := by exact rfl) (hn : nodupB L = true := by exact rfl) (hl : L.all (fun j => Nat.blt j s.nx) = true := by exact rfl) (hob : L.map s.h.get = os.map fun o => some (o.ren (sig L s.nx)) := by exact rfl) (hargs : asv = renL (sig L s.nx) args := by exact rfl) (hp : putDst nt o (r.ren (sig L s.nx)) (behindCall s L h' n') = some s' := by exact rfl) : GO Tryz.prog nt (.ops all (o :: rest) :: k) Q s := go_det L hc ho hg ha hn hl hob hargs hp h
theorem zd {nt : Nat} {Q : AQ} {k : List KI} {s : AS} {all : List Oper} {todo pend : List (Nat × Oper)} {j : Nat} {o : Oper} {c : Call} {g : FuncId} {asv args : List PV} {os : List AO} {r : PV} {h' : AH} {n' : Nat} {s' : AS} {CA C2 : Prop} (L : List Nat) (hc : Det Tryz.prog g args os r h' n') (h : GO Tryz.prog nt (.dops all (todo.filter fun x => !Nat.beq x.1 j) (restOf pend o) :: k) Q s') (hrd : readyE todo = [(j, o)] := by exact rfl) (ho : o.op = .call c := by exact rfl) (ha : argsOf s.f c = some (g, asv) := by exact rfl) (hn : nodupB L = true := by exact rfl) (hl : L.all (fun j => Nat.blt j s.nx) = true := by exact rfl) (hob : L.map s.h.get = os.map fun o => some (o.ren (sig L s.nx)) := by exact rfl) (hargs : asv = renL (sig L s.nx) args := by exact rfl) (hp : putDst nt o (r.ren (sig L s.nx)) (behindCall s L h' n') = some s' := by exact rfl) (hg : guardIs nt all s.f o = some true := by exact rfl) (hpb : pendB all pend o = true := by exact rfl) (hE : effE todo [j] = true := by exact rfl) (hag : agnC tyA nt all s todo pend = some CA := by exact rfl) (hCA : CA := by (repeat' (first | exact trivial | exact rfl | exact PVle.refl _ | exact PVle.bk (by assumption) | apply And.intro)) <;> first | omega | (simp only [Int.toNat_natCast]; omega) | (simp; done) | (simp; omega)) (hag2 : againC tyA nt all s' (restOf pend o) = some C2 := by exact rfl) (hC2 : C2 := by (repeat' (first | exact trivial | exact rfl | exact PVle.refl _ | exact PVle.bk (by assumption) | apply And.intro)) <;> first | omega | (simp only [Int.toNat_natCast]; omega) | (simp; done) | (simp; omega)) : GO Tryz.prog nt (.dops all todo pend :: k) Q s := go_ddet tyA_ok L hc hrd ho ha hn hl hob hargs hp hg hpb hE hag hCA hag2 hC2 h
theorem zdp {nt : Nat} {Q : AQ} {k : List KI} {s : AS} {all : List Oper} {todo pend : List (Nat × Oper)} {j : Nat} {o : Oper} {c : Call} {g : FuncId} {asv args : List PV} {r : PV} {s' : AS} {CA C2 : Prop} (hc : Al.Pure Tryz.prog g args r) (h : GO Tryz.prog nt (.dops all (todo.filter fun x => !Nat.beq x.1 j) (restOf pend o) :: k) Q s') (hrd : readyE todo = [(j, o)] := by exact rfl) (ho : o.op = .call c := by exact rfl) (ha : argsOf s.f c = some (g, asv) := by exact rfl) (hargs : asv = renL (sig [] s.nx) args := by exact rfl) (hp : putDst nt o (r.ren (sig [] s.nx)) (behindCall s [] [] 0) = some s' := by exact rfl) (hg : guardIs nt all s.f o = some true := by exact rfl) (hpb : pendB all pend o = true := by exact rfl) (hE : effE todo [j] = true := by exact rfl) (hag : agnC tyA nt all s todo pend = some CA := by exact rfl) (hCA : CA := by (repeat' (first | exact trivial | exact rfl | exact PVle.refl _ | exact PVle.bk (by assumption) | apply And.intro)) <;> first | omega | (simp only [Int.toNat_natCast]; omega) | (simp; done) | (simp; omega)) (hag2 : againC tyA nt all s' (restOf pend o) = some C2 := by exact rfl) (hC2 : C2 := by (repeat' (first | exact trivial | exact rfl | exact PVle.refl _ | exact PVle.bk (by assumption) | apply And.intro)) <;> first | omega | (simp only [Int.toNat_natCast]; omega) | (simp; done) | (simp; omega)) : GO Tryz.prog nt (.dops all todo pend :: k) Q s := go_ddet tyA_ok [] hc.det hrd ho ha rfl rfl rfl hargs hp hg hpb hE hag hCA hag2 hC2 h
theorem zW {n0 : Nat} {L : List Nat} {s t : AS} (hh : wkH t.nx (sg n0 L) s.h t.h) (h1 : Nat.beq t.nx (n0 + L.length) = true := by exact rfl) (h2 : Nat.ble n0 s.nx = true := by exact rfl) (h3 : L.all (fun j => Nat.blt j s.nx) = true := by exact rfl) (hf : wkF t.nx (sg n0 L) s.f t.f := by repeat' (first | exact trivial | exact PVle.refl _ | exact rfl | apply And.intro)) (h4 : nodupB (realKeys (sg n0 L) t.h) = true := by exact rfl) : Wk n0 L s t := wk h1 h2 h3 hf hh h4
theorem zM {n0 : Nat} {L : List Nat} {s t : AS} (hf : wkF t.nx (sg n0 L) s.f t.f) (hh : wkH t.nx (sg n0 L) s.h t.h) (h1 : Nat.beq t.nx (n0 + L.length) = true := by exact rfl) (h2 : Nat.ble n0 s.nx = true := by exact rfl) (h3 : L.all (fun j => Nat.blt j s.nx) = true := by exact rfl) (h4 : nodupB (realKeys (sg n0 L) t.h) = true := by exact rfl) : Wk n0 L s t := wk h1 h2 h3 hf hh h4
theorem zK {n i : Nat} {σ : Nat → Nat} {h r : AH} {cs : List PV} {T0 : Option TypeId} {c : List IV} (hr : wkH n σ h r) (ho : h.get (σ i) = some (.cells cs T0) := by exact rfl) (he : cs = c.map .iv := by exact rfl) (hi : Nat.blt i n = true := by exact rfl) : wkH n σ h ((i, some (cellsI c)) :: r) := hC ho he hi hr
theorem zS {n i : Nat} {σ : Nat → Nat} {h r : AH} {α : Type} {sz : Nat} {es : List (List PV)} {l : List α} {f : α → List IV} (hr : wkH n σ h r) (ho : h.get (σ i) = some (.row sz es) := by exact rfl) (he : es = l.map fun x => (f x).map .iv := by exact rfl) (hi : Nat.blt i n = true := by exact rfl) : wkH n σ h ((i, some (rowI sz l f)) :: r) := hR ho he hi hr
theorem zI {a b : Prop} (l : a) (r : b) : a ∧ b := ⟨l, r⟩
theorem zO {n i : Nat} {σ : Nat → Nat} {h r : AH} {o : AO} (hr : wkH n σ h r) (he : ∃ p, h.get (σ i) = some p ∧ AOle p (o.ren σ) := by exact ⟨_, rfl, .of_eq rfl⟩) (hi : i < n := by exact Nat.le_of_ble_eq_true rfl) (hl : o.low n := by exact rfl) : wkH n σ h ((i, some o) :: r) := ⟨he, hi, hl, hr⟩
theorem zT {p : Prop} [Decidable p] (h : decide p = true) : p := of_decide_eq_true h
theorem zF {p : Prop} [Decidable p] (h : decide p = false) : ¬ p := of_decide_eq_false h
theorem zN {a b : Nat} (h : decide ((a : Int) < (b : Int)) = true) : a < b := Int.ofNat_lt.1 (of_decide_eq_true h)
theorem zG {a b : Nat} (h : decide ((a : Int) < (b : Int)) = false) : b ≤ a := Nat.le_of_not_lt fun hh => absurd (Int.ofNat_lt.2 hh) (of_decide_eq_false h)
end Go.Proofs.YtpnclpbkecjinaaGreatDoorR
namespace Go.Proofs.YtpnclpbkecjinaaGreatDoorR
open Go Go.Al
abbrev Str := ByteArray
structure Val where
 kind : Int
 num : Int
 sym : Str
 deriving Inhabited, DecidableEq
structure Term where
 kind : Int
 var : Str
 val : Val
 deriving Inhabited, DecidableEq
inductive Expr where
 | mk (kind : Int) (var : Str) (val : Val) (op : Int) (args : List Expr)
instance : Inhabited Expr := ⟨.mk 0 ByteArray.empty ⟨0, 0, ByteArray.empty⟩ 0 []⟩
def Expr.kind : Expr → Int | .mk k _ _ _ _ => k
def Expr.var : Expr → Str | .mk _ v _ _ _ => v
def Expr.val : Expr → Val | .mk _ _ v _ _ => v
def Expr.op : Expr → Int | .mk _ _ _ o _ => o
def Expr.args : Expr → List Expr | .mk _ _ _ _ a => a
structure Atom where
 rel : Str
 terms : List Term
 deriving Inhabited, DecidableEq
structure Pos where
 line : Int
 col : Int
 deriving Inhabited, DecidableEq
inductive Lit where
 | mk (kind : Int) (atom : Atom) (op : Int) (left right : Expr) (afunc : Int) (avar : Str) (aof : Expr) (abody : List Lit) (at_ : Pos)
instance : Inhabited Lit := ⟨.mk 0 default 0 default default 0 ByteArray.empty default [] ⟨0, 0⟩⟩
def Lit.kind : Lit → Int | .mk k _ _ _ _ _ _ _ _ _ => k
def Lit.atom : Lit → Atom | .mk _ a _ _ _ _ _ _ _ _ => a
def Lit.op : Lit → Int | .mk _ _ o _ _ _ _ _ _ _ => o
def Lit.left : Lit → Expr | .mk _ _ _ l _ _ _ _ _ _ => l
def Lit.right : Lit → Expr | .mk _ _ _ _ r _ _ _ _ _ => r
def Lit.afunc : Lit → Int | .mk _ _ _ _ _ f _ _ _ _ => f
def Lit.avar : Lit → Str | .mk _ _ _ _ _ _ v _ _ _ => v
def Lit.aof : Lit → Expr | .mk _ _ _ _ _ _ _ o _ _ => o
def Lit.abody : Lit → List Lit | .mk _ _ _ _ _ _ _ _ b _ => b
def Lit.at : Lit → Pos | .mk _ _ _ _ _ _ _ _ _ p => p
structure Agg where
 func : Int
 var : Str
 of_ : Expr
 body : List Lit
 deriving Inhabited
def Lit.agg (l : Lit) : Agg := ⟨l.afunc, l.avar, l.aof, l.abody⟩
structure Rule where
 head : Atom
 body : List Lit
 at_ : Pos
 deriving Inhabited
structure Decl where
 name : Str
 types : List Int
 at_ : Pos
 deriving Inhabited
structure Prog where
 rels : List Decl
 rules : List Rule
 deriving Inhabited
structure Fact where
 rel : Str
 args : List Val
 deriving Inhabited
def Val.c (v : Val) : List IV := [iI v.kind, iI v.num, iS v.sym]
def Term.c (t : Term) : List IV := [iI t.kind, iS t.var, iI t.val.kind, iI t.val.num, iS t.val.sym]
def strC (s : Str) : List IV := [iS s]
def intC (n : Int) : List IV := [iI n]
abbrev strs (l : List Str) : IV := slc 1 l strC
def Atom.c (a : Atom) : List IV := [iS a.rel, slc 5 a.terms Term.c]
mutual
def Expr.cr : Expr → List IV
 | .mk k v val op args => [iI k, iS v, iI val.kind, iI val.num, iS val.sym, iI op, .imm 7 args.length (fun j => (Expr.crs args).getD j [])]
def Expr.crs : List Expr → List (List IV)
 | [] => []
 | e :: r => e.cr :: Expr.crs r
end
def Expr.c (e : Expr) : List IV := [iI e.kind, iS e.var, iI e.val.kind, iI e.val.num, iS e.val.sym, iI e.op, .imm 7 e.args.length (fun j => (Expr.crs e.args).getD j [])]
def Expr.c1 (e : Expr) : List IV := [iI e.kind, iS e.var, iI e.val.kind, iI e.val.num, iS e.val.sym, iI e.op, slc 7 e.args Expr.c]
theorem Expr.cr_eq (e : Expr) : e.cr = e.c := by cases e; rfl
theorem Expr.crs_eq : ∀ (l : List Expr) (k : Nat), k < l.length → (Expr.crs l).getD k [] = (l.getD k default).c
 | e :: r, 0, _ => by simp [Expr.crs, Expr.cr_eq]
 | e :: r, k + 1, h => by simpa [Expr.crs] using Expr.crs_eq r k (by simpa using h)
 | [], k, h => by simp at h
theorem eargsL (e : Expr) : IVle (.imm 7 e.args.length (fun j => (Expr.crs e.args).getD j [])) (slc 7 e.args Expr.c) := .imm rfl (Expr.crs_eq e.args)
theorem eargsL' (e : Expr) : IVle (slc 7 e.args Expr.c) (.imm 7 e.args.length (fun j => (Expr.crs e.args).getD j [])) := .imm rfl (fun k hk => (Expr.crs_eq e.args k hk).symm)
mutual
def Lit.cr : Lit → List IV
 | .mk kind atom op left right afunc avar aof abody at_ =>
  iI kind :: (atom.c ++ (iI op :: (left.c ++ (right.c ++ (iI afunc :: iS avar :: (aof.c ++ [.imm 30 abody.length (fun j => (Lit.crs abody).getD j []), iI at_.line, iI at_.col]))))))
def Lit.crs : List Lit → List (List IV)
 | [] => []
 | e :: r => e.cr :: Lit.crs r
end
def Lit.cw (l : Lit) (b : IV) : List IV :=
 [iI l.kind, iS l.atom.rel, slc 5 l.atom.terms Term.c, iI l.op,
  iI l.left.kind, iS l.left.var, iI l.left.val.kind, iI l.left.val.num, iS l.left.val.sym, iI l.left.op, .imm 7 l.left.args.length (fun j => (Expr.crs l.left.args).getD j []),
  iI l.right.kind, iS l.right.var, iI l.right.val.kind, iI l.right.val.num, iS l.right.val.sym, iI l.right.op, .imm 7 l.right.args.length (fun j => (Expr.crs l.right.args).getD j []),
  iI l.afunc, iS l.avar,
  iI l.aof.kind, iS l.aof.var, iI l.aof.val.kind, iI l.aof.val.num, iS l.aof.val.sym, iI l.aof.op, .imm 7 l.aof.args.length (fun j => (Expr.crs l.aof.args).getD j []),
  b, iI l.at.line, iI l.at.col]
def bodyR (l : List Lit) : IV := .imm 30 l.length (fun j => (Lit.crs l).getD j [])
def Lit.c (l : Lit) : List IV := l.cw (bodyR l.abody)
abbrev lits (l : List Lit) : IV := slc 30 l Lit.c
def Lit.c1 (l : Lit) : List IV := l.cw (lits l.abody)
theorem Lit.cr_eq (e : Lit) : e.cr = e.c := by cases e; rfl
theorem Lit.crs_eq : ∀ (l : List Lit) (k : Nat), k < l.length → (Lit.crs l).getD k [] = (l.getD k default).c
 | e :: r, 0, _ => by simp [Lit.crs, Lit.cr_eq]
 | e :: r, k + 1, h => by simpa [Lit.crs] using Lit.crs_eq r k (by simpa using h)
 | [], k, h => by simp at h
theorem litsIL (l : List Lit) : IVle (bodyR l) (lits l) := .imm rfl (Lit.crs_eq l)
theorem litsIR (l : List Lit) : IVle (lits l) (bodyR l) := .imm rfl (fun k hk => (Lit.crs_eq l k hk).symm)
def Agg.cw (a : Agg) (b : IV) : List IV := [iI a.func, iS a.var, iI a.of_.kind, iS a.of_.var, iI a.of_.val.kind, iI a.of_.val.num, iS a.of_.val.sym, iI a.of_.op, .imm 7 a.of_.args.length (fun j => (Expr.crs a.of_.args).getD j []), b]
def Agg.c (a : Agg) : List IV := a.cw (bodyR a.body)
def Agg.c1 (a : Agg) : List IV := a.cw (lits a.body)
def Rule.c (r : Rule) : List IV := [iS r.head.rel, slc 5 r.head.terms Term.c, lits r.body, iI r.at_.line, iI r.at_.col]
def Decl.c (r : Decl) : List IV := [iS r.name, slc 1 r.types intC, iI r.at_.line, iI r.at_.col]
def Prog.c (p : Prog) : List IV := [slc 4 p.rels Decl.c, slc 5 p.rules Rule.c]
def Fact.c (f : Fact) : List IV := [iS f.rel, slc 3 f.args Val.c]
theorem Expr.le1 (e : Expr) : PVle (ag e.c) (ag e.c1) := .agg ⟨.refl _, .refl _, .refl _, .refl _, .refl _, .refl _, .iv (eargsL e), trivial⟩
theorem Expr.le1' (e : Expr) : PVle (ag e.c1) (ag e.c) := .agg ⟨.refl _, .refl _, .refl _, .refl _, .refl _, .refl _, .iv (eargsL' e), trivial⟩
theorem Lit.cw_le (l : Lit) {b b' : IV} (h : IVle b b') : PVle (ag (l.cw b)) (ag (l.cw b')) :=
 .agg ⟨.refl _, .refl _, .refl _, .refl _, .refl _, .refl _, .refl _, .refl _, .refl _, .refl _, .refl _, .refl _, .refl _, .refl _, .refl _, .refl _, .refl _, .refl _, .refl _, .refl _, .refl _, .refl _, .refl _, .refl _, .refl _, .refl _, .refl _, .iv h, .refl _, .refl _, trivial⟩
theorem Lit.le1 (l : Lit) : PVle (ag l.c) (ag l.c1) := l.cw_le (litsIL _)
theorem Agg.cw_le (l : Agg) {b b' : IV} (h : IVle b b') : PVle (ag (l.cw b)) (ag (l.cw b')) :=
 .agg ⟨.refl _, .refl _, .refl _, .refl _, .refl _, .refl _, .refl _, .refl _, .refl _, .iv h, trivial⟩
theorem Agg.le1 (l : Agg) : PVle (ag l.c) (ag l.c1) := l.cw_le (litsIL _)
theorem Agg.le1' (l : Agg) : PVle (ag l.c1) (ag l.c) := l.cw_le (litsIR _)
mutual
def Expr.size : Expr → Nat
 | .mk _ _ _ _ args => 1 + Expr.sizes args
def Expr.sizes : List Expr → Nat
 | [] => 0
 | e :: r => e.size + Expr.sizes r
end
mutual
def Lit.size : Lit → Nat
 | .mk _ a _ l r _ _ o b _ => 2 + a.terms.length + l.size + r.size + o.size + Lit.sizes b
def Lit.sizes : List Lit → Nat
 | [] => 0
 | e :: r => e.size + Lit.sizes r
end
theorem Expr.size_eq (e : Expr) : e.size = 1 + Expr.sizes e.args := by cases e; rfl
theorem Lit.size_eq (l : Lit) : l.size = 2 + l.atom.terms.length + l.left.size + l.right.size + l.aof.size + Lit.sizes l.abody := by cases l; rfl
theorem Expr.sizes_get : ∀ (l : List Expr) (k : Nat), k < l.length → (l.getD k default).size ≤ Expr.sizes l
 | e :: r, 0, _ => by simp [Expr.sizes]
 | e :: r, k + 1, h => by
  have := Expr.sizes_get r k (by simpa using h)
  simp only [List.getD_cons_succ, Expr.sizes]; omega
 | [], k, h => by simp at h
theorem Lit.sizes_get : ∀ (l : List Lit) (k : Nat), k < l.length → (l.getD k default).size ≤ Lit.sizes l
 | e :: r, 0, _ => by simp [Lit.sizes]
 | e :: r, k + 1, h => by
  have := Lit.sizes_get r k (by simpa using h)
  simp only [List.getD_cons_succ, Lit.sizes]; omega
 | [], k, h => by simp at h
theorem Expr.size_pos (e : Expr) : 1 ≤ e.size := by rw [e.size_eq]; omega
theorem Lit.size_pos (e : Lit) : 2 ≤ e.size := by rw [e.size_eq]; omega
theorem Expr.length_sizes : ∀ (l : List Expr), l.length ≤ Expr.sizes l
 | [] => Nat.le_refl _
 | e :: r => by have := e.size_pos; have := Expr.length_sizes r; simp only [List.length_cons, Expr.sizes]; omega
theorem Lit.length_sizes : ∀ (l : List Lit), l.length ≤ Lit.sizes l
 | [] => Nat.le_refl _
 | e :: r => by have := e.size_pos; have := Lit.length_sizes r; simp only [List.length_cons, Lit.sizes]; omega
def Rule.size (r : Rule) : Nat := r.head.terms.length + Lit.sizes r.body
end Go.Proofs.YtpnclpbkecjinaaGreatDoorR
namespace Go.Proofs.YtpnclpbkecjinaaGreatDoorR
open Go Go.Al
set_option maxRecDepth 10000
def inL (l : List Str) (s : Str) : Bool := l.any fun x => decide (x = s)
theorem c81 (l : List Str) (s : Str) : Pure Tryz.prog 81 [.iv (strs l), pS s] (pB (inL l s)) := by
 refine pure_len (callable_of Tryz.func81 rfl (by decide)) ⟨_, _, List.mem_cons_self⟩ fun hlen => ?_
 simp only [maxLen] at hlen
 refine pure_end tyA_ok Tryz.func81 rfl (by decide) Tryz.ntmps81 rfl (by simp) rfl ?_
 refine go_run mixA tyA_ok 100 rfl trivial ?_
 refine go_for 0 l.length (Nat.zero_le _) (fun i => ⟨[(0, .iv (strs l)), (1, pS s), (5, pI i)], [], 0⟩) (fun i => inL (l.take i) s = false) [] rfl (wk0 rfl rfl ⟨.refl _, rfl, .refl _, rfl, .refl _, rfl, trivial⟩ rfl) fun i hi hJ => ?_
 refine go_run mixA tyA_ok 100 rfl trivial ?_
 refine zI (fun h1 => ?_) (fun h1 => ?_)
 ·have h1 : i < l.length := by simpa using h1
  refine go_run mixA tyA_ok 100 rfl ⟨trivial, by omega⟩ ?_
  refine zI (fun h2 => ?_) (fun h2 => ?_)
  ·refine go_run mixA tyA_ok 100 rfl trivial ?_
   refine end_le (.inr rfl) rfl (.of_eq ?_)
   rw [inL, any_hit h1 h2]
  ·refine go_run mixA tyA_ok 100 rfl ⟨trivial, by unfold fitsInt; omega⟩ ?_
   exact ⟨h1, (any_step hJ h1).2 h2, [], wk0 rfl rfl ⟨.refl _, rfl, .refl _, rfl, .refl _, rfl, trivial⟩ rfl⟩
 ·have h1 : l.length ≤ i := by simpa using h1
  refine go_run mixA tyA_ok 100 rfl trivial ?_
  refine end_le (.inr rfl) rfl (.of_eq ?_)
  rw [inL, any_none hJ h1]
def withStep (s : Str) (a : List Str × Bool) (x : Str) : List Str × Bool :=
 if (a.2 || decide (x = s)) = false ∧ (!(Op.bytesLess x.toList s.toList || decide (x = s))) = true then (a.1 ++ [s] ++ [x], true) else (a.1 ++ [x], a.2 || decide (x = s))
def withL (l : List Str) (s : Str) : List Str :=
 let r := l.foldl (withStep s) ([], false)
 if r.2 then r.1 else r.1 ++ [s]
def withA (l : List Str) (s : Str) (i : Nat) : List Str × Bool := (l.take i).foldl (withStep s) ([], false)
theorem withA_succ {l : List Str} {s : Str} {i : Nat} (h : i < l.length) : withA l s (i + 1) = withStep s (withA l s i) (l.getD i default) := fold_step h
theorem withA_done {l : List Str} {s : Str} {i : Nat} (h : l.length ≤ i) : withL l s = if (withA l s i).2 then (withA l s i).1 else (withA l s i).1 ++ [s] := by
 simp only [withA, fold_done h]; rfl
theorem withStep_len (s : Str) (a : List Str × Bool) (x : Str) (n : Nat) (h : a.1.length ≤ n + (if a.2 then 1 else 0)) : (withStep s a x).1.length ≤ (n + 1) + (if (withStep s a x).2 then 1 else 0) := by
 obtain ⟨a1, a2⟩ := a
 simp only [withStep]
 cases a2 <;> cases hd : decide (x = s) <;> simp only [Bool.false_eq_true, if_false, if_true, Bool.or_false, Bool.or_true, false_and, true_and, reduceCtorEq] at h ⊢ <;> (try split) <;> simp at h ⊢ <;> omega
theorem withA_len (l : List Str) (s : Str) : ∀ i, i ≤ l.length → (withA l s i).1.length ≤ i + (if (withA l s i).2 then 1 else 0)
 | 0, _ => by simp [withA]
 | i + 1, h => by
  rw [withA_succ (by omega)]
  exact withStep_len s _ _ i (withA_len l s i (by omega))
theorem c72 (l : List Str) (s : Str) (hb : l.length ≤ 1000000000000) : Pure Tryz.prog 72 [.iv (strs l), pS s] (.iv (strs (withL l s))) := by
 refine pure_end tyA_ok Tryz.func72 rfl (by decide) Tryz.ntmps72 rfl (by simp) rfl ?_
 refine go_run mixA tyA_ok 100 rfl trivial ?_
 refine go_virt 5 1 rfl ?_
 refine go_for 0 l.length (Nat.zero_le _) (fun i => ⟨[(0, .iv (strs l)), (1, pS s), (5, .sl 1 0 (withA l s i).1.length 1), (6, pB (withA l s i).2), (7, pI i)], [(1, some (rowI 1 (withA l s i).1 strC))], 2⟩) (fun _ => True) [0] trivial
  (zM ⟨.refl _, rfl, .refl _, rfl, .refl _, rfl, .kb' rfl, rfl, .refl _, rfl, trivial⟩ (zS trivial)) fun i hi hJ => ?_
 have hlen := withA_len l s i hi
 have hlen2 : (withA l s i).1.length ≤ i + 1 := by split at hlen <;> omega
 refine go_run mixA tyA_ok 100 rfl trivial ?_
 refine zI (fun h1 => ?_) (fun h1 => ?_)
 ·have h1 : i < l.length := by simpa using h1
  have hs := withA_succ (s := s) h1
  simp only [withStep] at hs
  refine go_run mixA tyA_ok 100 rfl ⟨trivial, by omega⟩ ?_
  refine zI (fun h2 => ?_) (fun h2 => ?_)
  ·have h2 : decide (l.getD i default = s) = true := h2
   rw [h2, Bool.or_true, if_neg (by simp)] at hs
   refine go_run mixA tyA_ok 300 rfl ?_ ⟨h1, trivial, [3], zM ⟨.refl _, rfl, .refl _, rfl, .row (by rw [hs]; simp), rfl, .kb' (by rw [hs]), rfl, .refl _, rfl, trivial⟩ (hR rfl (by rw [hs]; simp; rfl) rfl trivial)⟩
   repeat' (first | exact trivial | exact rfl | apply And.intro)
   all_goals first | omega | (simp; omega) | simp
  ·have h2 : decide (l.getD i default = s) = false := h2
   rw [h2, Bool.or_false, Bool.or_false] at hs
   refine go_run mixA tyA_ok 300 rfl trivial ?_
   refine zI (fun h3 => ?_) (fun h3 => ?_)
   ·have h3' : (withA l s i).2 = false := by simpa using h3
    refine go_run mixA tyA_ok 300 rfl ?_ ?_
    ·repeat' (first | exact trivial | exact rfl | apply And.intro)
     all_goals omega
    refine zI (fun h4 => ?_) (fun h4 => ?_)
    ·have h4 : (!(Op.bytesLess (l.getD i default).toList s.toList || decide (l.getD i default = s))) = true := h4
     rw [h2, Bool.or_false] at h4
     rw [if_pos ⟨h3', h4⟩] at hs
     refine go_run mixA tyA_ok 300 rfl ?_ ⟨h1, trivial, [5], zM ⟨.refl _, rfl, .refl _, rfl, .row (by rw [hs]; simp), rfl, .kb' (by rw [hs]), rfl, .refl _, rfl, trivial⟩ (hR rfl (by rw [hs, List.map_append, List.map_append]; rfl) rfl trivial)⟩
     repeat' (first | exact trivial | exact rfl | apply And.intro)
     all_goals first | omega | (simp; omega) | simp
    ·have h4 : (!(Op.bytesLess (l.getD i default).toList s.toList || decide (l.getD i default = s))) = false := h4
     rw [h2, Bool.or_false] at h4
     rw [if_neg (by rw [h4]; simp)] at hs
     refine go_run mixA tyA_ok 300 rfl ?_ ⟨h1, trivial, [3], zM ⟨.refl _, rfl, .refl _, rfl, .row (by rw [hs]; simp), rfl, .of_eq (by rw [hs]; rfl), rfl, .refl _, rfl, trivial⟩ (hR rfl (by rw [hs]; simp; rfl) rfl trivial)⟩
     repeat' (first | exact trivial | exact rfl | apply And.intro)
     all_goals first | omega | (simp; omega) | simp
   ·have h3' : (withA l s i).2 = true := by simpa using h3
    rw [if_neg (by rw [h3']; simp)] at hs
    refine go_run mixA tyA_ok 300 rfl ?_ ⟨h1, trivial, [3], zM ⟨.refl _, rfl, .refl _, rfl, .row (by rw [hs]; simp), rfl, .of_eq (by rw [hs]; rfl), rfl, .refl _, rfl, trivial⟩ (hR rfl (by rw [hs]; simp; rfl) rfl trivial)⟩
    repeat' (first | exact trivial | exact rfl | apply And.intro)
    all_goals first | omega | (simp; omega) | simp
 ·have h1 : l.length ≤ i := by simpa using h1
  have hs := withA_done (s := s) h1
  refine go_run mixA tyA_ok 100 rfl trivial ?_
  refine zI (fun h2 => ?_) (fun h2 => ?_)
  ·have h2 : (withA l s i).2 = false := by simpa using h2
   rw [h2, if_neg (by simp)] at hs
   refine go_run mixA tyA_ok 300 rfl ?_ (end_row (.inr rfl) rfl rfl (by rw [hs]; simp; rfl) (by rw [hs]; simp))
   repeat' (first | exact trivial | exact rfl | apply And.intro)
   all_goals first | omega | (simp; omega) | simp
  ·have h2 : (withA l s i).2 = true := by simpa using h2
   rw [h2, if_pos rfl] at hs
   refine go_run mixA tyA_ok 300 rfl trivial (end_row (.inr rfl) rfl rfl (by rw [hs]) (by rw [hs]))
theorem withL_len (l : List Str) (s : Str) : (withL l s).length ≤ l.length + 1 := by
 have h := withA_len l s l.length (Nat.le_refl _)
 rw [withA_done (Nat.le_refl _)]
 split
 ·rename_i h1; rw [h1] at h; simpa using h
 ·rename_i h1; simp [h1] at h; simp; omega
def withAll (l m : List Str) : List Str := m.foldl withL l
theorem withAll_len : ∀ (m l : List Str), (withAll l m).length ≤ l.length + m.length
 | [], l => by simp [withAll]
 | x :: r, l => by
  have h1 := withL_len l x
  have h2 := withAll_len r (withL l x)
  simp only [withAll, List.foldl_cons, List.length_cons] at h2 ⊢
  omega
theorem withAll_take_len (l m : List Str) (i : Nat) : (withAll l (m.take i)).length ≤ l.length + m.length := by
 have := withAll_len (m.take i) l
 have h2 : (m.take i).length ≤ m.length := by simp; omega
 omega
theorem withAll_step {l m : List Str} {i : Nat} (h : i < m.length) : withAll l (m.take (i + 1)) = withL (withAll l (m.take i)) (m.getD i default) := fold_step h
theorem c71 (l m : List Str) (hb : l.length + m.length ≤ 1000000000000) : Pure Tryz.prog 71 [.iv (strs l), .iv (strs m)] (.iv (strs (withAll l m))) := by
 refine pure_end tyA_ok Tryz.func71 rfl (by decide) Tryz.ntmps71 rfl (by simp) rfl ?_
 refine go_run mixA tyA_ok 100 rfl trivial ?_
 refine go_for 0 m.length (Nat.zero_le _) (fun i => ⟨[(0, .iv (strs (withAll l (m.take i)))), (1, .iv (strs m)), (5, pI i)], [], 0⟩) (fun _ => True) [] trivial (wk0 rfl rfl ⟨.refl _, rfl, .refl _, rfl, .refl _, rfl, trivial⟩ rfl) fun i hi hJ => ?_
 have hl := withAll_take_len l m i
 refine go_run mixA tyA_ok 100 rfl trivial ?_
 refine zI (fun h1 => ?_) (fun h1 => ?_)
 ·have h1 : i < m.length := by simpa using h1
  refine go_run mixA tyA_ok 100 rfl ⟨trivial, by omega⟩ (go_pure (c72 _ _ (by omega)) rfl rfl rfl rfl rfl rfl ?_)
  refine go_run mixA tyA_ok 100 rfl ⟨trivial, by unfold fitsInt; omega⟩ ?_
  exact ⟨h1, trivial, [], wk0 rfl rfl ⟨.of_eq (by rw [withAll_step h1]; rfl), rfl, .refl _, rfl, .refl _, rfl, trivial⟩ rfl⟩
 ·have h1 : m.length ≤ i := by simpa using h1
  refine go_run mixA tyA_ok 100 rfl trivial (end_le (.inr rfl) rfl (.of_eq ?_))
  rw [List.take_of_length_le h1]; rfl
theorem c72n (s : Str) : Pure Tryz.prog 72 [.iv (.v (.slice none 0 0)), pS s] (.iv (strs (withL [] s))) := (c72 [] s (by decide)).le ⟨.nil _ _, .refl _, trivial⟩
def tvStep (a : List Str) (t : Term) : List Str := if t.kind = 1 then withL a t.var else a
def atomVars (a : Atom) : List Str := a.terms.foldl tvStep []
theorem tv_len : ∀ (l : List Term) (a : List Str), (l.foldl tvStep a).length ≤ a.length + l.length
 | [], a => by simp
 | t :: r, a => by
  have h := tv_len r (tvStep a t)
  have h2 : (tvStep a t).length ≤ a.length + 1 := by
   unfold tvStep; split
   ·exact withL_len _ _
   ·omega
  simp only [List.foldl_cons, List.length_cons]; omega
theorem atomVars_len (a : Atom) : (atomVars a).length ≤ a.terms.length := by have := tv_len a.terms []; simpa [atomVars] using this
theorem c69 (a : Atom) (hb : a.terms.length ≤ 1000000000000) : Pure Tryz.prog 69 [ag a.c] (.iv (strs (atomVars a))) := by
 refine pure_end tyA_ok Tryz.func69 rfl (by decide) Tryz.ntmps69 rfl (by simp) rfl ?_
 refine go_run mixA tyA_ok 100 rfl trivial ?_
 refine go_for 0 a.terms.length (Nat.zero_le _) (fun i => ⟨[(1, .ptr 0 0), (3, .iv (strs ((a.terms.take i).foldl tvStep []))), (4, pI i)], [(0, some (cellsI a.c))], 1⟩) (fun _ => True) [] trivial
  (zM ⟨.refl _, rfl, .nil _ _, rfl, .refl _, rfl, trivial⟩ (zK trivial)) fun i hi hJ => ?_
 have hl := tv_len (a.terms.take i) []
 simp only [List.length_nil, List.length_take] at hl
 refine go_run mixA tyA_ok 100 rfl trivial ?_
 refine zI (fun h1 => ?_) (fun h1 => ?_)
 ·have h1 : i < a.terms.length := by simpa using h1
  have hs := fold_step (g := tvStep) (b := []) h1
  simp only [tvStep] at hs
  refine go_run mixA tyA_ok 100 rfl ⟨trivial, by omega⟩ ?_
  refine zI (fun h2 => ?_) (fun h2 => ?_)
  ·have h2 : (a.terms.getD i default).kind = 1 := zT h2
   rw [if_pos h2] at hs
   refine go_run mixA tyA_ok 100 rfl ⟨trivial, by omega⟩ (go_pure (c72 _ _ (by omega)) rfl rfl rfl rfl rfl rfl ?_)
   refine go_run mixA tyA_ok 100 rfl ⟨trivial, by unfold fitsInt; omega⟩ ?_
   exact ⟨h1, trivial, [], zM ⟨.refl _, rfl, .of_eq (by simp only [hs]; rfl), rfl, .refl _, rfl, trivial⟩ (zK trivial)⟩
  ·have h2 : ¬ (a.terms.getD i default).kind = 1 := zF h2
   rw [if_neg h2] at hs
   refine go_run mixA tyA_ok 100 rfl ⟨trivial, by unfold fitsInt; omega⟩ ?_
   exact ⟨h1, trivial, [], zM ⟨.refl _, rfl, .of_eq (by simp only [hs]; rfl), rfl, .refl _, rfl, trivial⟩ (zK trivial)⟩
 ·have h1 : a.terms.length ≤ i := by simpa using h1
  refine go_run mixA tyA_ok 100 rfl trivial (end_le (.inr rfl) rfl (.of_eq ?_))
  rw [List.take_of_length_le h1]; rfl
mutual
def exprVars : Expr → List Str
 | .mk k v _ _ args => if k = 1 then withL [] v else if k = 4 then exprsVars [] args else []
def exprsVars (a : List Str) : List Expr → List Str
 | [] => a
 | e :: r => exprsVars (withAll a (exprVars e)) r
end
theorem exprsVars_eq : ∀ (l : List Expr) (a : List Str), exprsVars a l = l.foldl (fun a e => withAll a (exprVars e)) a
 | [], _ => rfl
 | e :: r, a => by simp only [exprsVars, List.foldl_cons]; exact exprsVars_eq r _
theorem exprVars_eq (e : Expr) : exprVars e = if e.kind = 1 then withL [] e.var else if e.kind = 4 then e.args.foldl (fun a e => withAll a (exprVars e)) [] else [] := by
 cases e with
 | mk k v val op args => simp only [exprVars, Expr.kind, Expr.var, Expr.args, exprsVars_eq]; rfl
mutual
theorem exprVars_len : ∀ e : Expr, (exprVars e).length ≤ e.size
 | .mk k v _ _ args => by
  simp only [exprVars, Expr.size]
  split
  ·have := withL_len [] v; simp at this; omega
  ·split
   ·have := exprsVars_len args []; simp at this; omega
   ·simp
theorem exprsVars_len : ∀ (l : List Expr) (a : List Str), (exprsVars a l).length ≤ a.length + Expr.sizes l
 | [], a => by simp [exprsVars, Expr.sizes]
 | e :: r, a => by
  have h1 := exprsVars_len r (withAll a (exprVars e))
  have h2 := withAll_len (exprVars e) a
  have h3 := exprVars_len e
  simp only [exprsVars, Expr.sizes]; omega
end
theorem Expr.sizes_take : ∀ (l : List Expr) (i : Nat), Expr.sizes (l.take i) ≤ Expr.sizes l
 | [], i => by simp
 | e :: r, 0 => by simp [Expr.sizes]
 | e :: r, i + 1 => by have := Expr.sizes_take r i; simp only [List.take_succ_cons, Expr.sizes]; omega
theorem Lit.sizes_take : ∀ (l : List Lit) (i : Nat), Lit.sizes (l.take i) ≤ Lit.sizes l
 | [], i => by simp
 | e :: r, 0 => by simp [Lit.sizes]
 | e :: r, i + 1 => by have := Lit.sizes_take r i; simp only [List.take_succ_cons, Lit.sizes]; omega
theorem Expr.sizes_next : ∀ (l : List Expr) (i : Nat), i < l.length → Expr.sizes (l.take i) + (l.getD i default).size ≤ Expr.sizes l
 | e :: r, 0, _ => by simp [Expr.sizes]
 | e :: r, i + 1, h => by have := Expr.sizes_next r i (by simpa using h); simp only [List.take_succ_cons, List.getD_cons_succ, Expr.sizes]; omega
 | [], i, h => by simp at h
theorem Lit.sizes_next : ∀ (l : List Lit) (i : Nat), i < l.length → Lit.sizes (l.take i) + (l.getD i default).size ≤ Lit.sizes l
 | e :: r, 0, _ => by simp [Lit.sizes]
 | e :: r, i + 1, h => by have := Lit.sizes_next r i (by simpa using h); simp only [List.take_succ_cons, List.getD_cons_succ, Lit.sizes]; omega
 | [], i, h => by simp at h
abbrev evF (a : List Str) (e : Expr) : List Str := withAll a (exprVars e)
theorem c124 : ∀ (n : Nat) (e : Expr), e.size ≤ n → e.size ≤ 1000000000000 → Pure Tryz.prog 124 [ag e.c] (.iv (strs (exprVars e)))
 | 0, e, h, _ => by have := e.size_pos; omega
 | n + 1, e, h, hb => by
  refine Pure.le (args := [ag e.c1]) ?_ ⟨e.le1, trivial⟩
  have he := exprVars_eq e
  refine pure_end tyA_ok Tryz.func124 rfl (by decide) Tryz.ntmps124 rfl (by simp) rfl ?_
  refine go_run mixA tyA_ok 100 rfl trivial ?_
  refine zI (fun h1 => ?_) (fun h1 => ?_)
  ·have h1 : e.kind = 1 := zT h1
   rw [if_pos h1] at he
   refine go_run mixA tyA_ok 100 rfl trivial (go_pure (c72n _) rfl rfl rfl rfl rfl rfl ?_)
   refine go_run mixA tyA_ok 100 rfl trivial (end_le (.inr rfl) rfl (.of_eq ?_))
   rw [he]; rfl
  have h1 : ¬ e.kind = 1 := zF h1
  rw [if_neg h1] at he
  refine go_run mixA tyA_ok 100 rfl trivial ?_
  refine zI (fun h2 => ?_) (fun h2 => ?_)
  ·have h2 : ¬ e.kind = 4 := by simpa using h2
   rw [if_neg h2] at he
   refine go_run mixA tyA_ok 100 rfl trivial (end_le (.inr rfl) rfl ?_)
   rw [he]; exact .nil _ _
  have h2 : e.kind = 4 := by simpa using h2
  rw [if_pos h2] at he
  have hsz := e.size_eq
  refine go_run mixA tyA_ok 100 rfl trivial ?_
  refine go_for 0 e.args.length (Nat.zero_le _) (fun i => ⟨[(1, .ptr 0 0), (3, .iv (strs ((e.args.take i).foldl evF []))), (4, pI i)], [(0, some (cellsI e.c1))], 1⟩) (fun _ => True) [] trivial
   (zM ⟨.refl _, rfl, .nil _ _, rfl, .refl _, rfl, trivial⟩ (zK trivial)) fun i hi hJ => ?_
  have hal := Expr.length_sizes e.args
  refine go_run mixA tyA_ok 100 rfl trivial ?_
  refine zI (fun h3 => ?_) (fun h3 => ?_)
  ·have h3 : i < e.args.length := by simpa using h3
   have hs := fold_step (g := evF) (b := []) h3
   have hn := Expr.sizes_next e.args i h3
   have hv := exprsVars_len (e.args.take i) []
   rw [exprsVars_eq] at hv
   have hv2 := exprVars_len (e.args.getD i default)
   have hv3 : ((e.args.take i).foldl evF []).length ≤ Expr.sizes (e.args.take i) := by simpa using hv
   refine go_run mixA tyA_ok 100 rfl ⟨trivial, by omega⟩ (go_pure (c124 n (e.args.getD i default) (by omega) (by omega)) rfl rfl rfl rfl rfl rfl ?_)
   refine go_run mixA tyA_ok 100 rfl trivial (go_pure (c71 _ _ (by omega)) rfl rfl rfl rfl rfl rfl ?_)
   refine go_run mixA tyA_ok 100 rfl ⟨trivial, by unfold fitsInt; omega⟩ ?_
   exact ⟨h3, trivial, [], zM ⟨.refl _, rfl, .of_eq (by simp only [hs]; rfl), rfl, .refl _, rfl, trivial⟩ (zK trivial)⟩
  ·have h3 : e.args.length ≤ i := by simpa using h3
   refine go_run mixA tyA_ok 100 rfl trivial (end_le (.inr rfl) rfl (.of_eq ?_))
   rw [List.take_of_length_le h3, he]; rfl
theorem c124' (e : Expr) (hb : e.size ≤ 1000000000000) : Pure Tryz.prog 124 [ag e.c] (.iv (strs (exprVars e))) := c124 e.size e (Nat.le_refl _) hb
def plainVars (l : Lit) : List Str := if l.kind = 1 ∨ l.kind = 2 then atomVars l.atom else if l.kind = 3 then withAll (exprVars l.left) (exprVars l.right) else []
theorem plainVars_len (l : Lit) : (plainVars l).length + 2 ≤ l.size := by
 have h1 := atomVars_len l.atom
 have h2 := exprVars_len l.left
 have h3 := exprVars_len l.right
 have h4 := withAll_len (exprVars l.right) (exprVars l.left)
 rw [l.size_eq]
 unfold plainVars
 split
 ·omega
 ·split
  ·omega
  ·simp; omega
theorem c70 (l : Lit) (hb : l.size ≤ 1000000000000) : Pure Tryz.prog 70 [ag l.c] (.iv (strs (plainVars l))) := by
 have hsz := l.size_eq
 have h1 := exprVars_len l.left
 have h2 := exprVars_len l.right
 refine pure_end tyA_ok Tryz.func70 rfl (by decide) Tryz.ntmps70 rfl (by simp) rfl ?_
 refine go_run mixA tyA_ok 100 rfl trivial ?_
 refine zI (fun k1 => ?_) (fun k1 => ?_)
 ·have k1 : l.kind = 1 := zT k1
  refine go_run mixA tyA_ok 100 rfl trivial (go_pure (c69 l.atom (by omega)) rfl rfl rfl rfl rfl rfl ?_)
  refine go_run mixA tyA_ok 100 rfl trivial (end_le (.inr rfl) rfl (.of_eq ?_))
  rw [plainVars, if_pos (.inl k1)]; rfl
 have k1 : ¬ l.kind = 1 := zF k1
 refine go_run mixA tyA_ok 100 rfl trivial ?_
 refine zI (fun k2 => ?_) (fun k2 => ?_)
 ·have k2 : l.kind = 2 := zT k2
  refine go_run mixA tyA_ok 100 rfl trivial (go_pure (c69 l.atom (by omega)) rfl rfl rfl rfl rfl rfl ?_)
  refine go_run mixA tyA_ok 100 rfl trivial (end_le (.inr rfl) rfl (.of_eq ?_))
  rw [plainVars, if_pos (.inr k2)]; rfl
 have k2 : ¬ l.kind = 2 := zF k2
 refine go_run mixA tyA_ok 100 rfl trivial ?_
 refine zI (fun k3 => ?_) (fun k3 => ?_)
 ·have k3 : l.kind = 3 := zT k3
  refine go_run mixA tyA_ok 100 rfl trivial (go_pure (c124' l.left (by omega)) rfl rfl rfl rfl rfl rfl ?_)
  refine go_run mixA tyA_ok 100 rfl trivial (go_pure (c124' l.right (by omega)) rfl rfl rfl rfl rfl rfl ?_)
  refine go_run mixA tyA_ok 100 rfl trivial (go_pure (c71 _ _ (by omega)) rfl rfl rfl rfl rfl rfl ?_)
  refine go_run mixA tyA_ok 100 rfl trivial (end_le (.inr rfl) rfl (.of_eq ?_))
  rw [plainVars, if_neg (by simp [k1, k2]), if_pos k3]; rfl
 ·have k3 : ¬ l.kind = 3 := zF k3
  refine go_run mixA tyA_ok 100 rfl trivial (end_le (.inr rfl) rfl ?_)
  rw [plainVars, if_neg (by simp [k1, k2]), if_neg k3]; exact .nil _ _
abbrev plF (a : List Str) (l : Lit) : List Str := withAll a (plainVars l)
def innerVars (a : Agg) : List Str := a.body.foldl plF (if a.func = 1 then [] else exprVars a.of_)
theorem plF_len : ∀ (l : List Lit) (a : List Str), (l.foldl plF a).length ≤ a.length + Lit.sizes l
 | [], a => by simp [Lit.sizes]
 | e :: r, a => by
  have h1 := plF_len r (plF a e)
  have h2 : (plF a e).length ≤ _ := withAll_len (plainVars e) a
  have h3 := plainVars_len e
  simp only [List.foldl_cons, Lit.sizes]; omega
def Agg.size (a : Agg) : Nat := a.of_.size + Lit.sizes a.body
theorem innerVars_len (a : Agg) : (innerVars a).length ≤ a.size := by
 have h := plF_len a.body (if a.func = 1 then [] else exprVars a.of_)
 have h2 := exprVars_len a.of_
 unfold innerVars Agg.size
 split at h <;> rename_i h3 <;> simp [h3] at h ⊢ <;> omega
theorem c80 (a : Agg) (hb : a.size ≤ 1000000000000) : Pure Tryz.prog 80 [ag a.c] (.iv (strs (innerVars a))) := by
 refine Pure.le (args := [ag a.c1]) ?_ ⟨a.le1, trivial⟩
 have hev := exprVars_len a.of_
 unfold Agg.size at hb
 refine pure_end tyA_ok Tryz.func80 rfl (by decide) Tryz.ntmps80 rfl (by simp) rfl ?_
 refine go_run mixA tyA_ok 100 rfl trivial ?_
 refine zI (fun h1 => ?_) (fun h1 => ?_)
 ·have h1 : ¬ a.func = 1 := by simpa using h1
  have hin : innerVars a = a.body.foldl plF (exprVars a.of_) := by unfold innerVars; rw [if_neg h1]
  refine go_run mixA tyA_ok 100 rfl trivial (go_pure (c124' a.of_ (by omega)) rfl rfl rfl rfl rfl rfl ?_)
  refine go_run mixA tyA_ok 100 rfl trivial ?_
  refine go_for 0 a.body.length (Nat.zero_le _) (fun i => ⟨[(1, .ptr 0 0), (3, .iv (strs ((a.body.take i).foldl plF (exprVars a.of_)))), (4, pI i)], [(0, some (cellsI a.c1))], 1⟩) (fun _ => True) [] trivial
   (zW (zK trivial)) fun i hi hJ => ?_
  have hal := Lit.length_sizes a.body
  refine go_run mixA tyA_ok 100 rfl trivial ?_
  refine zI (fun h3 => ?_) (fun h3 => ?_)
  ·have h3 : i < a.body.length := by simpa using h3
   have hs := fold_step (g := plF) (b := exprVars a.of_) h3
   have hn := Lit.sizes_next a.body i h3
   have hv := plF_len (a.body.take i) (exprVars a.of_)
   have hv2 := plainVars_len (a.body.getD i default)
   refine go_run mixA tyA_ok 100 rfl ⟨trivial, by omega⟩ (go_pure (c70 (a.body.getD i default) (by omega)) rfl rfl rfl rfl rfl rfl ?_)
   refine go_run mixA tyA_ok 100 rfl trivial (go_pure (c71 _ _ (by omega)) rfl rfl rfl rfl rfl rfl ?_)
   refine go_run mixA tyA_ok 100 rfl ⟨trivial, by unfold fitsInt; omega⟩ ?_
   exact ⟨h3, trivial, [], zM ⟨.refl _, rfl, .of_eq (by simp only [hs]; rfl), rfl, .refl _, rfl, trivial⟩ (zK trivial)⟩
  ·have h3 : a.body.length ≤ i := by simpa using h3
   refine go_run mixA tyA_ok 100 rfl trivial (end_le (.inr rfl) rfl (.of_eq ?_))
   rw [List.take_of_length_le h3, hin]; rfl
 ·have h1 : a.func = 1 := by simpa using h1
  have hin : innerVars a = a.body.foldl plF [] := by unfold innerVars; rw [if_pos h1]
  refine go_run mixA tyA_ok 100 rfl trivial ?_
  refine go_for 0 a.body.length (Nat.zero_le _) (fun i => ⟨[(1, .ptr 0 0), (3, .iv (strs ((a.body.take i).foldl plF []))), (4, pI i)], [(0, some (cellsI a.c1))], 1⟩) (fun _ => True) [] trivial
   (zM ⟨.refl _, rfl, .nil _ _, rfl, .refl _, rfl, trivial⟩ (zK trivial)) fun i hi hJ => ?_
  have hal := Lit.length_sizes a.body
  refine go_run mixA tyA_ok 100 rfl trivial ?_
  refine zI (fun h3 => ?_) (fun h3 => ?_)
  ·have h3 : i < a.body.length := by simpa using h3
   have hs := fold_step (g := plF) (b := []) h3
   have hn := Lit.sizes_next a.body i h3
   have hv := plF_len (a.body.take i) []
   have hv2 := plainVars_len (a.body.getD i default)
   simp only [List.length_nil] at hv
   refine go_run mixA tyA_ok 100 rfl ⟨trivial, by omega⟩ (go_pure (c70 (a.body.getD i default) (by omega)) rfl rfl rfl rfl rfl rfl ?_)
   refine go_run mixA tyA_ok 100 rfl trivial (go_pure (c71 _ _ (by omega)) rfl rfl rfl rfl rfl rfl ?_)
   refine go_run mixA tyA_ok 100 rfl ⟨trivial, by unfold fitsInt; omega⟩ ?_
   exact ⟨h3, trivial, [], zM ⟨.refl _, rfl, .of_eq (by simp only [hs]; rfl), rfl, .refl _, rfl, trivial⟩ (zK trivial)⟩
  ·have h3 : a.body.length ≤ i := by simpa using h3
   refine go_run mixA tyA_ok 100 rfl trivial (end_le (.inr rfl) rfl (.of_eq ?_))
   rw [List.take_of_length_le h3, hin]; rfl
end Go.Proofs.YtpnclpbkecjinaaGreatDoorR
namespace Go.Proofs.YtpnclpbkecjinaaGreatDoorR
open Go Go.Al
set_option maxRecDepth 10000
def evI (n : Int) : IV := .v (.int .i64 n)
def dvI (p : PV) : Int := match p with
 | .iv (.v (.int _ n)) => n
 | _ => 0
abbrev NM := List ((KC.str).K × Int)
abbrev nmO (m : NM) : AO := .map .str evI 0 (.int .i64 0) dvI m
abbrev nmI (m : NM) : IV := .imap .str evI 0 (.int .i64 0) m
theorem evI_zero : ∀ M, IR M (evI 0) (.int .i64 0) := fun _ => .v _
def bump (m : NM) (s : Str) : NM := putK .str m s (lkD .str m s 0 + 1)
def occM (l : List Str) : NM := l.foldl bump []
theorem occM_snoc (l : List Str) (s : Str) : occM (l ++ [s]) = bump (occM l) s := by simp [occM]
section
variable {V : Type}
theorem lkD_putK {m : List ((KC.str).K × V)} {s t : Str} {v z : V} : lkD .str (putK .str m s v) t z = if s = t then v else lkD .str m t z := by
 induction m with
 | nil => simp only [putK, lkD]
 | cons x r ih =>
  obtain ⟨a, b⟩ := x
  simp only [putK]
  by_cases h : a = s
  ·rw [if_pos h]; simp only [lkD]
   by_cases h2 : s = t
   ·simp [h2]
   ·have : ¬ a = t := fun e => h2 (h ▸ e)
    rw [if_neg h2, if_neg h2, if_neg this]
  ·rw [if_neg h]; simp only [lkD, ih]
   by_cases h2 : a = t
   ·have : ¬ s = t := fun e => h (h2.trans e.symm)
    simp [h2, this]
   ·simp [h2]
theorem hasK_iff {m : List ((KC.str).K × V)} {t : Str} : hasK .str m t = true ↔ t ∈ m.map Prod.fst := by
 induction m with
 | nil => simp [hasK]
 | cons x r ih =>
  obtain ⟨a, b⟩ := x
  simp only [hasK, List.map_cons, List.mem_cons]
  by_cases h : a = t
  ·simp [h]
  ·have : ¬ t = a := fun e => h e.symm
   simp [h, this, ih]
theorem keys_putK_in {m : List ((KC.str).K × V)} {s : Str} {v : V} (h : s ∈ m.map Prod.fst) : (putK .str m s v).map Prod.fst = m.map Prod.fst := by
 induction m with
 | nil => simp at h
 | cons x r ih =>
  obtain ⟨a, b⟩ := x
  simp only [putK]
  by_cases h2 : a = s
  ·rw [if_pos h2]; simp [h2]
  ·have : ¬ s = a := fun e => h2 e.symm
   rw [if_neg h2, List.map_cons, ih (by simpa [this] using h)]; rfl
theorem keys_putK_out {m : List ((KC.str).K × V)} {s : Str} {v : V} (h : s ∉ m.map Prod.fst) : (putK .str m s v).map Prod.fst = m.map Prod.fst ++ [s] := by
 induction m with
 | nil => simp [putK]
 | cons x r ih =>
  obtain ⟨a, b⟩ := x
  simp only [List.map_cons, List.mem_cons, not_or] at h
  have : ¬ a = s := fun e => h.1 e.symm
  simp only [putK, if_neg this, List.map_cons, ih h.2]; rfl
theorem lkD_absent {m : List ((KC.str).K × V)} {t : Str} {z : V} (h : t ∉ m.map Prod.fst) : lkD .str m t z = z := by
 induction m with
 | nil => rfl
 | cons x r ih =>
  obtain ⟨a, b⟩ := x
  simp only [List.map_cons, List.mem_cons, not_or] at h
  have : ¬ a = t := fun e => h.1 e.symm
  simp only [lkD, if_neg this]; exact ih h.2
end
theorem snoc_ind {α : Type} {p : List α → Prop} (h0 : p []) (h1 : ∀ l a, p l → p (l ++ [a])) (l : List α) : p l := by
 have key : ∀ r : List α, p r.reverse := by
  intro r
  induction r with
  | nil => exact h0
  | cons a r ih => rw [List.reverse_cons]; exact h1 _ _ ih
 simpa using key l.reverse
def cntL (l : List Str) (t : Str) : Nat := (l.filter fun x => decide (x = t)).length
theorem cntL_append (l m : List Str) (t : Str) : cntL (l ++ m) t = cntL l t + cntL m t := by simp [cntL]
theorem cntL_le (l : List Str) (t : Str) : cntL l t ≤ l.length := List.length_filter_le _ _
theorem cntL_pos {l : List Str} {t : Str} : 0 < cntL l t ↔ t ∈ l := by
 rw [cntL, List.length_pos_iff_exists_mem]
 constructor
 ·rintro ⟨x, hx⟩
  obtain ⟨h1, h2⟩ := List.mem_filter.1 hx
  exact (zT h2) ▸ h1
 ·exact fun h => ⟨t, List.mem_filter.2 ⟨h, by simp⟩⟩
theorem cntL_zero {l : List Str} {t : Str} : cntL l t = 0 ↔ t ∉ l := by
 rw [← cntL_pos]; omega
theorem occM_lk (l : List Str) (t : Str) : lkD .str (occM l) t 0 = (cntL l t : Int) := by
 induction l using snoc_ind with
 | h0 => rfl
 | h1 l s ih =>
  rw [occM_snoc, bump, lkD_putK, cntL_append]
  by_cases h : s = t
  ·subst h; rw [ih]; simp [cntL]
  ·rw [if_neg h, ih]; simp [h, cntL]
theorem occM_keys (l : List Str) : ((occM l).map Prod.fst).Nodup ∧ ∀ t : Str, t ∈ (occM l).map Prod.fst ↔ t ∈ l := by
 induction l using snoc_ind with
 | h0 => simp [occM]
 | h1 l s ih =>
  rw [occM_snoc, bump]
  obtain ⟨h1, h2⟩ := ih
  by_cases h : s ∈ (occM l).map Prod.fst
  ·rw [keys_putK_in h]
   refine ⟨h1, fun t => ?_⟩
   rw [h2, List.mem_append, List.mem_singleton]
   exact ⟨.inl, fun h3 => h3.elim id fun e => e ▸ (h2 s).1 h⟩
  ·rw [keys_putK_out h]
   refine ⟨?_, fun t => by rw [List.mem_append, h2, List.mem_append]⟩
   rw [List.nodup_append]
   refine ⟨h1, List.nodup_cons.2 ⟨List.not_mem_nil, List.nodup_nil⟩, fun a ha b hb e => ?_⟩
   rw [List.mem_singleton] at hb
   exact h ((e.trans hb) ▸ ha)
def atomOcc (a : Atom) : List Str := a.terms.flatMap fun t => if t.kind = 1 then [t.var] else []
theorem flatMap_step {α β : Type} [Inhabited α] {l : List α} {f : α → List β} {i : Nat} (h : i < l.length) : (l.take (i + 1)).flatMap f = (l.take i).flatMap f ++ f (l.getD i default) := by
 rw [take_step h, List.flatMap_append]; simp
theorem tOcc_len : ∀ l : List Term, (l.flatMap fun t => if t.kind = 1 then [t.var] else []).length ≤ l.length
 | [] => by simp
 | t :: r => by
  have := tOcc_len r
  have h2 : (if t.kind = 1 then [t.var] else []).length ≤ 1 := by split <;> simp
  rw [List.flatMap_cons, List.length_append, List.length_cons]
  omega
theorem atomOcc_len (a : Atom) : (atomOcc a).length ≤ a.terms.length := tOcc_len a.terms
theorem d88 (occ : List Str) (a : Atom) (hb : occ.length + a.terms.length ≤ 1000000000000) : Det Tryz.prog 88 [.mp 0, ag a.c] [nmO (occM occ)] (.tup []) [(0, some (nmO (occM (occ ++ atomOcc a))))] 1 := by
 refine det_end tyA_ok Tryz.func88 rfl (by decide) Tryz.ntmps88 rfl (by simp) ?_
 refine gA rfl ?_
 refine go_for 0 a.terms.length (Nat.zero_le _) (fun i => ⟨[(0, .mp 0), (3, .ptr 1 0), (7, .iv (slc 5 a.terms Term.c)), (8, pI a.terms.length), (9, pI i)], [(0, some (nmO (occM (occ ++ (a.terms.take i).flatMap fun t => if t.kind = 1 then [t.var] else []))))], 2⟩) (fun _ => True) [] trivial
  (zW (hM rfl (by simp) rfl trivial)) fun i hi _ => ?_
 have hl := tOcc_len (a.terms.take i)
 simp only [List.length_take] at hl
 refine gA rfl (zI (fun h1 => ?_) fun h1 => ?_)
 ·have h1 : i < a.terms.length := by simpa using h1
  have hs := flatMap_step (f := fun t : Term => if t.kind = 1 then [t.var] else []) h1
  have hlk := occM_lk (occ ++ (a.terms.take i).flatMap fun t => if t.kind = 1 then [t.var] else []) (a.terms.getD i default).var
  have hct := cntL_le (occ ++ (a.terms.take i).flatMap fun t => if t.kind = 1 then [t.var] else []) (a.terms.getD i default).var
  rw [List.length_append] at hct
  refine gA rfl (zI (fun h2 => ?_) fun h2 => ?_)
  ·have h2 : (a.terms.getD i default).kind = 1 := by simpa using h2
   rw [if_pos h2] at hs
   refine gA rfl ?_
   exact ⟨h1, trivial, [], zW (hM rfl (by rw [hs, ← List.append_assoc, occM_snoc]; rfl) rfl trivial)⟩
  ·have h2 : ¬ (a.terms.getD i default).kind = 1 := by simpa using h2
   rw [if_neg h2, List.append_nil] at hs
   refine gA rfl ?_
   exact ⟨h1, trivial, [], zW (hM rfl (by rw [hs]) rfl trivial)⟩
 ·have h1 : a.terms.length ≤ i := by simpa using h1
  have e0 : a.terms.take i = a.terms := List.take_of_length_le h1
  refine gA rfl (end_det [] (by first | exact .inr rfl | exact .inl rfl) rfl (zW (hM rfl (by rw [e0]; rfl) rfl trivial)))
end Go.Proofs.YtpnclpbkecjinaaGreatDoorR
namespace Go.Proofs.YtpnclpbkecjinaaGreatDoorR
open Go Go.Al
set_option maxRecDepth 10000
mutual
def exprOcc : Expr → List Str
 | .mk k v _ _ args => if k = 1 then [v] else if k = 4 then exprsOcc args else []
def exprsOcc : List Expr → List Str
 | [] => []
 | e :: r => exprOcc e ++ exprsOcc r
end
theorem exprsOcc_eq : ∀ l : List Expr, exprsOcc l = l.flatMap exprOcc
 | [] => rfl
 | e :: r => by simp only [exprsOcc, List.flatMap_cons, exprsOcc_eq r]
theorem exprOcc_eq (e : Expr) : exprOcc e = if e.kind = 1 then [e.var] else if e.kind = 4 then e.args.flatMap exprOcc else [] := by
 cases e with
 | mk k v val op args => simp only [exprOcc, Expr.kind, Expr.var, Expr.args, exprsOcc_eq]; rfl
mutual
theorem exprOcc_len : ∀ e : Expr, (exprOcc e).length ≤ e.size
 | .mk k v _ _ args => by
  have := exprsOcc_len args
  simp only [exprOcc, Expr.size]
  split
  ·simp
  ·split
   ·omega
   ·simp
theorem exprsOcc_len : ∀ l : List Expr, (exprsOcc l).length ≤ Expr.sizes l
 | [] => by simp [exprsOcc]
 | e :: r => by
  have h1 := exprOcc_len e
  have h2 := exprsOcc_len r
  simp only [exprsOcc, Expr.sizes, List.length_append]; omega
end
theorem d135 : ∀ (n : Nat) (e : Expr) (occ : List Str), e.size ≤ n → occ.length + e.size ≤ 1000000000000 → Det Tryz.prog 135 [.mp 0, ag e.c] [nmO (occM occ)] (.tup []) [(0, some (nmO (occM (occ ++ exprOcc e))))] 1
 | 0, e, _, h, _ => by have := e.size_pos; omega
 | n + 1, e, occ, h, hb => by
  refine Det.le (args := [.mp 0, ag e.c1]) ?_ ⟨.refl _, e.le1, trivial⟩
  have he := exprOcc_eq e
  have hsz := e.size_eq
  have hlk := occM_lk occ e.var
  have hct := cntL_le occ e.var
  refine det_end tyA_ok Tryz.func135 rfl (by decide) Tryz.ntmps135 rfl (by simp) ?_
  refine gA rfl (zI (fun h1 => ?_) fun h1 => ?_)
  ·have h1 : e.kind = 1 := by simpa using h1
   rw [if_pos h1] at he
   refine gA rfl (end_det [] (by first | exact .inr rfl | exact .inl rfl) rfl (zW (hM rfl (by rw [he, occM_snoc]; rfl) rfl trivial)))
  have h1 : ¬ e.kind = 1 := by simpa using h1
  rw [if_neg h1] at he
  refine gA rfl (zI (fun h2 => ?_) fun h2 => ?_)
  ·have h2 : e.kind = 4 := by simpa using h2
   rw [if_pos h2] at he
   refine gA rfl ?_
   refine go_for 0 e.args.length (Nat.zero_le _) (fun i => ⟨[(0, .mp 0), (3, .ptr 1 0), (18, .iv (slc 7 e.args Expr.c)), (19, pI e.args.length), (20, pI i)], [(0, some (nmO (occM (occ ++ (e.args.take i).flatMap exprOcc))))], 2⟩) (fun _ => True) [] trivial
    (zW (hM rfl (by simp) rfl trivial)) fun i hi _ => ?_
   have hal := Expr.length_sizes e.args
   refine gA rfl (zI (fun h3 => ?_) fun h3 => ?_)
   ·have h3 : i < e.args.length := by simpa using h3
    have hs := flatMap_step (f := exprOcc) h3
    have hn := Expr.sizes_next e.args i h3
    have hv := exprsOcc_len (e.args.take i)
    rw [exprsOcc_eq] at hv
    refine gA rfl (go_det [0] (d135 n (e.args.getD i default) _ (by omega) (by rw [List.length_append]; omega)) rfl rfl rfl rfl rfl rfl rfl rfl ?_)
    refine gA rfl ?_
    exact ⟨h3, trivial, [], zW (hM rfl (by rw [hs, List.append_assoc]) rfl trivial)⟩
   ·have h3 : e.args.length ≤ i := by simpa using h3
    have e0 : e.args.take i = e.args := List.take_of_length_le h3
    refine gA rfl (end_det [] (by first | exact .inr rfl | exact .inl rfl) rfl (zW (hM rfl (by rw [he, e0]) rfl trivial)))
  ·have h2 : ¬ e.kind = 4 := by simpa using h2
   rw [if_neg h2] at he
   refine gA rfl (end_det [] (by first | exact .inr rfl | exact .inl rfl) rfl (zW (hM rfl (by rw [he, List.append_nil]) rfl trivial)))
theorem d135' (e : Expr) (occ : List Str) (hb : occ.length + e.size ≤ 1000000000000) : Det Tryz.prog 135 [.mp 0, ag e.c] [nmO (occM occ)] (.tup []) [(0, some (nmO (occM (occ ++ exprOcc e))))] 1 := d135 e.size e occ (Nat.le_refl _) hb
def litOcc (l : Lit) : List Str := if l.kind = 1 ∨ l.kind = 2 then atomOcc l.atom else if l.kind = 3 then exprOcc l.left ++ exprOcc l.right else []
theorem litOcc_len (l : Lit) : (litOcc l).length + 2 ≤ l.size := by
 have h1 := atomOcc_len l.atom
 have h2 := exprOcc_len l.left
 have h3 := exprOcc_len l.right
 rw [l.size_eq]
 unfold litOcc
 split
 ·omega
 ·split
  ·rw [List.length_append]; omega
  ·simp; omega
theorem d89 (l : Lit) (occ : List Str) (hb : occ.length + l.size ≤ 1000000000000) : Det Tryz.prog 89 [.mp 0, ag l.c] [nmO (occM occ)] (.tup []) [(0, some (nmO (occM (occ ++ litOcc l))))] 1 := by
 have hsz := l.size_eq
 have h2 := exprOcc_len l.left
 refine det_end tyA_ok Tryz.func89 rfl (by decide) Tryz.ntmps89 rfl (by simp) ?_
 refine gA rfl (zI (fun k1 => ?_) fun k1 => ?_)
 ·have k1 : l.kind = 1 := zT k1
  have he : litOcc l = atomOcc l.atom := if_pos (.inl k1)
  refine gA rfl (zq [0] (d88 occ l.atom (by omega)) ?_)
  refine gA rfl (end_det [] (by first | exact .inr rfl | exact .inl rfl) rfl (zW (hM rfl (by rw [he]) rfl trivial)))
 have k1 : ¬ l.kind = 1 := zF k1
 refine gA rfl (zI (fun k2 => ?_) fun k2 => ?_)
 ·have k2 : l.kind = 2 := zT k2
  have he : litOcc l = atomOcc l.atom := if_pos (.inr k2)
  refine gA rfl (zq [0] (d88 occ l.atom (by omega)) ?_)
  refine gA rfl (end_det [] (by first | exact .inr rfl | exact .inl rfl) rfl (zW (hM rfl (by rw [he]) rfl trivial)))
 have k2 : ¬ l.kind = 2 := zF k2
 have he0 : litOcc l = if l.kind = 3 then exprOcc l.left ++ exprOcc l.right else [] := if_neg (by simp [k1, k2])
 refine gA rfl (zI (fun k3 => ?_) fun k3 => ?_)
 ·have k3 : l.kind = 3 := zT k3
  rw [if_pos k3] at he0
  refine gA rfl (zq [0] (d135' l.left occ (by omega)) ?_)
  refine gA rfl (go_det [0] (d135' l.right _ (by rw [List.length_append]; omega)) rfl rfl rfl rfl rfl rfl rfl rfl ?_)
  refine gA rfl (end_det [] (by first | exact .inr rfl | exact .inl rfl) rfl (zW (hM rfl (by rw [he0, List.append_assoc]) rfl trivial)))
 ·have k3 : ¬ l.kind = 3 := zF k3
  rw [if_neg k3] at he0
  refine gA rfl (end_det [] (by first | exact .inr rfl | exact .inl rfl) rfl (zW (hM rfl (by rw [he0, List.append_nil]) rfl trivial)))
def aggOcc (a : Agg) : List Str := (if a.func = 1 then [] else exprOcc a.of_) ++ a.body.flatMap litOcc
theorem litsOcc_len : ∀ l : List Lit, (l.flatMap litOcc).length ≤ Lit.sizes l
 | [] => by simp
 | e :: r => by
  have h1 := litOcc_len e
  have h2 := litsOcc_len r
  rw [List.flatMap_cons, List.length_append]
  simp only [Lit.sizes]; omega
theorem d135n (e : Expr) (hb : e.size ≤ 1000000000000) : Det Tryz.prog 135 [.mp 0, ag e.c] [.map0] (.tup []) [(0, some (nmO (occM (exprOcc e))))] 1 :=
 (d135' e [] (by simpa using hb)).leO ⟨⟨id, fun M N U w j hj => ⟨#[], 0, hj, ⟨rfl, by simp [occM], by simp [occM], by simp, by simp⟩, evI_zero M⟩⟩, trivial⟩
theorem d88n (a : Atom) (hb : a.terms.length ≤ 1000000000000) : Det Tryz.prog 88 [.mp 0, ag a.c] [.map0] (.tup []) [(0, some (nmO (occM (atomOcc a))))] 1 :=
 (d88 [] a (by simpa using hb)).leO ⟨⟨id, fun M N U w j hj => ⟨#[], 0, hj, ⟨rfl, by simp [occM], by simp [occM], by simp, by simp⟩, evI_zero M⟩⟩, trivial⟩
theorem d127 (a : Agg) (hb : a.size ≤ 1000000000000) : Det Tryz.prog 127 [ag a.c] [] (.mp 0) [(0, some (nmO (occM (aggOcc a))))] 1 := by
 refine Det.le (args := [ag a.c1]) ?_ ⟨a.le1, trivial⟩
 unfold Agg.size at hb
 have hev := exprOcc_len a.of_
 have hal := Lit.length_sizes a.body
 refine det_end tyA_ok Tryz.func127 rfl (by decide) Tryz.ntmps127 rfl (by simp) ?_
 refine gA rfl (zI (fun h1 => ?_) fun h1 => ?_)
 ·have h1 : ¬ a.func = 1 := by simpa using h1
  have hin : aggOcc a = exprOcc a.of_ ++ a.body.flatMap litOcc := by unfold aggOcc; rw [if_neg h1]
  refine gA rfl (zq [1] (d135n a.of_ (by omega)) ?_)
  refine gA rfl ?_
  refine go_for 0 a.body.length (Nat.zero_le _) (fun i => ⟨[(3, .mp 1), (15, .iv (lits a.body)), (16, pI a.body.length), (17, pI i)], [(1, some (nmO (occM (exprOcc a.of_ ++ (a.body.take i).flatMap litOcc))))], 2⟩) (fun _ => True) [] trivial
   (zW (hM rfl (by simp) rfl trivial)) fun i hi _ => ?_
  refine gA rfl (zI (fun h3 => ?_) fun h3 => ?_)
  ·have h3 : i < a.body.length := by simpa using h3
   have hs := flatMap_step (f := litOcc) h3
   have hn := Lit.sizes_next a.body i h3
   have hv := litsOcc_len (a.body.take i)
   refine gA rfl (go_det [1] (d89 (a.body.getD i default) _ (by rw [List.length_append]; omega)) rfl rfl rfl rfl rfl rfl rfl rfl ?_)
   refine gA rfl ?_
   exact ⟨h3, trivial, [], zW (hM rfl (by rw [hs, List.append_assoc]) rfl trivial)⟩
  ·have h3 : a.body.length ≤ i := by simpa using h3
   have e0 : a.body.take i = a.body := List.take_of_length_le h3
   refine gA rfl (end_det [1] (by first | exact .inr rfl | exact .inl rfl) rfl (zW (hM rfl (by rw [e0, hin]) rfl trivial)))
 ·have h1 : a.func = 1 := by simpa using h1
  have hin : aggOcc a = a.body.flatMap litOcc := by unfold aggOcc; rw [if_pos h1]; rfl
  refine gA rfl ?_
  refine go_for 0 a.body.length (Nat.zero_le _) (fun i => ⟨[(3, .mp 1), (15, .iv (lits a.body)), (16, pI a.body.length), (17, pI i)], [(1, some (nmO (occM ((a.body.take i).flatMap litOcc))))], 2⟩) (fun _ => True) [] trivial
   (zW (hM0 rfl evI_zero rfl trivial)) fun i hi _ => ?_
  refine gA rfl (zI (fun h3 => ?_) fun h3 => ?_)
  ·have h3 : i < a.body.length := by simpa using h3
   have hs := flatMap_step (f := litOcc) h3
   have hn := Lit.sizes_next a.body i h3
   have hv := litsOcc_len (a.body.take i)
   refine gA rfl (go_det [1] (d89 (a.body.getD i default) _ (by omega)) rfl rfl rfl rfl rfl rfl rfl rfl ?_)
   refine gA rfl ?_
   exact ⟨h3, trivial, [], zW (hM rfl (by rw [hs]) rfl trivial)⟩
  ·have h3 : a.body.length ≤ i := by simpa using h3
   have e0 : a.body.take i = a.body := List.take_of_length_le h3
   refine gA rfl (end_det [1] (by first | exact .inr rfl | exact .inl rfl) rfl (zW (hM rfl (by rw [e0, hin]) rfl trivial)))
def ins : List Str → Str → List Str
 | [], s => [s]
 | x :: r, s => if x = s then x :: r else if Op.bytesLess x.toList s.toList = true then x :: ins r s else s :: x :: r
theorem fold_done_with (s : Str) : ∀ (l a : List Str), l.foldl (withStep s) (a, true) = (a ++ l, true)
 | [], a => by simp
 | x :: r, a => by
  have : withStep s (a, true) x = (a ++ [x], true) := by simp [withStep]
  rw [List.foldl_cons, this, fold_done_with s r]; simp
theorem fold_with (s : Str) : ∀ (l a : List Str), (if (l.foldl (withStep s) (a, false)).2 then (l.foldl (withStep s) (a, false)).1 else (l.foldl (withStep s) (a, false)).1 ++ [s]) = a ++ ins l s
 | [], a => by simp [ins]
 | x :: r, a => by
  by_cases h1 : x = s
  ·have : withStep s (a, false) x = (a ++ [x], true) := by simp [withStep, h1]
   rw [List.foldl_cons, this, fold_done_with]; simp [ins, h1]
  ·cases h2 : Op.bytesLess x.toList s.toList with
   | true =>
    have : withStep s (a, false) x = (a ++ [x], false) := by simp [withStep, h1, h2]
    rw [List.foldl_cons, this, fold_with s r]; simp [ins, h1, h2]
   | false =>
    have : withStep s (a, false) x = (a ++ [s] ++ [x], true) := by simp [withStep, h1, h2]
    rw [List.foldl_cons, this, fold_done_with]; simp [ins, h1, h2]
theorem withL_ins (l : List Str) (s : Str) : withL l s = ins l s := by
 have := fold_with s l []
 simpa [withL] using this
theorem mem_ins {x : Str} : ∀ {l : List Str} {s : Str}, x ∈ ins l s ↔ x ∈ l ∨ x = s
 | [], s => by simp [ins]
 | y :: r, s => by
  simp only [ins]
  split
  ·rename_i h; subst h; simp; exact fun h => .inl h
  ·split
   ·simp [mem_ins (l := r), or_assoc]
   ·simp; constructor
    ·rintro (h | h | h)
     ·exact .inr h
     ·exact .inl (.inl h)
     ·exact .inl (.inr h)
    ·rintro ((h | h) | h)
     ·exact .inr (.inl h)
     ·exact .inr (.inr h)
     ·exact .inl h
theorem mem_withL {x s : Str} {l : List Str} : x ∈ withL l s ↔ x ∈ l ∨ x = s := by rw [withL_ins]; exact mem_ins
theorem mem_withAll {x : Str} : ∀ {m l : List Str}, x ∈ withAll l m ↔ x ∈ l ∨ x ∈ m
 | [], l => by simp [withAll]
 | y :: r, l => by
  have h := mem_withAll (x := x) (m := r) (l := withL l y)
  simp only [withAll, List.foldl_cons] at h ⊢
  rw [h, mem_withL, List.mem_cons, or_assoc]
theorem inL_iff {l : List Str} {s : Str} : inL l s = true ↔ s ∈ l := by
 simp [inL]
theorem inL_false {l : List Str} {s : Str} : inL l s = false ↔ s ∉ l := by
 rw [← Bool.not_eq_true, inL_iff]
def allL (l m : List Str) : Bool := m.all fun x => inL l x
theorem allL_iff {l m : List Str} : allL l m = true ↔ ∀ x ∈ m, x ∈ l := by simp [allL, inL_iff]
theorem c166 (l m : List Str) : Pure Tryz.prog 166 [.iv (strs l), .iv (strs m)] (pB (allL l m)) := by
 refine pure_len (callable_of Tryz.func166 rfl (by decide)) ⟨_, _, List.mem_cons_of_mem _ List.mem_cons_self⟩ fun hlen => ?_
 simp only [maxLen] at hlen
 refine pure_end tyA_ok Tryz.func166 rfl (by decide) Tryz.ntmps166 rfl (by simp) rfl ?_
 refine gA rfl ?_
 refine go_for 0 m.length (Nat.zero_le _) (fun i => ⟨[(0, .iv (strs l)), (1, .iv (strs m)), (5, pI i)], [], 0⟩) (fun i => (m.take i).all (fun x => inL l x) = true) [] rfl (wk0 rfl rfl ⟨.refl _, rfl, .refl _, rfl, .refl _, rfl, trivial⟩ rfl) fun i hi hJ => ?_
 refine gA rfl (zI (fun h1 => ?_) fun h1 => ?_)
 ·have h1 : i < m.length := by simpa using h1
  refine gA rfl (zp (c81 l (m.getD i default)) ?_)
  refine gA rfl (zI (fun h2 => ?_) fun h2 => ?_)
  ·refine gA rfl (zL (.of_eq ?_))
   rw [allL, all_miss h1 (by simpa using h2)]; try rfl
  ·refine gA rfl ?_
   exact ⟨h1, (all_step hJ h1).2 (by simpa using h2), [], wk0 rfl rfl ⟨.refl _, rfl, .refl _, rfl, .refl _, rfl, trivial⟩ rfl⟩
 ·have h1 : m.length ≤ i := by simpa using h1
  refine gA rfl (zL (.of_eq ?_))
  rw [allL, all_done hJ h1]; try rfl
def outF (a : List Str) (l : Lit) : List Str := if l.kind = 4 then withL (withAll a (plainVars l)) l.avar else withAll a (plainVars l)
theorem outF_pos {a : List Str} {l : Lit} (h : l.kind = 4) : outF a l = withL (withAll a (plainVars l)) l.avar := if_pos h
theorem outF_neg {a : List Str} {l : Lit} (h : ¬ l.kind = 4) : outF a l = withAll a (plainVars l) := if_neg h
def outer (r : Rule) : List Str := r.body.foldl outF (atomVars r.head)
theorem outF_len (a : List Str) (l : Lit) : (outF a l).length + 1 ≤ a.length + l.size := by
 have h1 := withAll_len (plainVars l) a
 have h2 := plainVars_len l
 have h3 := withL_len (withAll a (plainVars l)) l.avar
 unfold outF
 split <;> omega
theorem outF_fold_len : ∀ (l : List Lit) (a : List Str), (l.foldl outF a).length ≤ a.length + Lit.sizes l
 | [], a => by simp [Lit.sizes]
 | e :: r, a => by
  have h1 := outF_fold_len r (outF a e)
  have h2 := outF_len a e
  simp only [List.foldl_cons, Lit.sizes]; omega
theorem c30 (r : Rule) (hb : r.size ≤ 1000000000000) : Pure Tryz.prog 30 [ag r.c] (.iv (strs (outer r))) := by
 have hav := atomVars_len r.head
 have hal := Lit.length_sizes r.body
 unfold Rule.size at hb
 refine pure_end tyA_ok Tryz.func30 rfl (by decide) Tryz.ntmps30 rfl (by simp) rfl ?_
 refine gA rfl (zp (c69 r.head (by omega)) ?_)
 refine gA rfl ?_
 refine go_for 0 r.body.length (Nat.zero_le _) (fun i => ⟨[(1, .ptr 0 0), (3, .iv (strs ((r.body.take i).foldl outF (atomVars r.head)))), (4, pI i)], [(0, some (cellsI r.c))], 1⟩) (fun _ => True) [] trivial
  (zW (zK trivial)) fun i hi hJ => ?_
 refine gA rfl (zI (fun h3 => ?_) fun h3 => ?_)
 ·have h3 : i < r.body.length := by simpa using h3
  have hs := fold_step (g := outF) (b := atomVars r.head) h3
  have hn := Lit.sizes_next r.body i h3
  have hv := outF_fold_len (r.body.take i) (atomVars r.head)
  have hv2 := plainVars_len (r.body.getD i default)
  have hv3 := withAll_len (plainVars (r.body.getD i default)) ((r.body.take i).foldl outF (atomVars r.head))
  refine gA rfl (zp (c70 (r.body.getD i default) (by omega)) ?_)
  refine gA rfl (go_pure (c71 _ _ (by omega)) rfl rfl rfl rfl rfl rfl ?_)
  refine gA rfl (zI (fun h4 => ?_) fun h4 => ?_)
  ·have h4 : (r.body.getD i default).kind = 4 := zT h4
   rw [outF_pos h4] at hs
   refine gA rfl (go_pure (c72 _ _ (by omega)) rfl rfl rfl rfl rfl rfl ?_)
   refine gA rfl ?_
   exact ⟨h3, trivial, [], zM ⟨.refl _, rfl, .of_eq (by rw [hs]; rfl), rfl, .refl _, rfl, trivial⟩ (zK trivial)⟩
  ·have h4 : ¬ (r.body.getD i default).kind = 4 := zF h4
   rw [outF_neg h4] at hs
   refine gA rfl ?_
   exact ⟨h3, trivial, [], zM ⟨.refl _, rfl, .of_eq (by rw [hs]; rfl), rfl, .refl _, rfl, trivial⟩ (zK trivial)⟩
 ·have h3 : r.body.length ≤ i := by simpa using h3
  refine gA rfl (zL (.of_eq ?_))
  rw [List.take_of_length_le h3]; rfl
def litOut (l : Lit) : List Str := litOcc l ++ if l.kind = 4 then [l.avar] else []
def outerOcc (r : Rule) : List Str := atomOcc r.head ++ r.body.flatMap litOut
theorem litOut_len (l : Lit) : (litOut l).length + 1 ≤ l.size := by
 have := litOcc_len l
 unfold litOut
 rw [List.length_append]
 split <;> simp <;> omega
theorem litsOut_len : ∀ l : List Lit, (l.flatMap litOut).length ≤ Lit.sizes l
 | [] => by simp
 | e :: r => by
  have h1 := litOut_len e
  have h2 := litsOut_len r
  rw [List.flatMap_cons, List.length_append]
  simp only [Lit.sizes]; omega
theorem outerOcc_len (r : Rule) : (outerOcc r).length ≤ r.size := by
 have h1 := litsOut_len r.body
 have h2 := atomOcc_len r.head
 unfold outerOcc Rule.size
 rw [List.length_append]; omega
def bookC (r : Rule) : List IV := [iS r.head.rel, slc 5 r.head.terms Term.c, lits r.body, iI r.at_.line, iI r.at_.col, nmI (occM (outerOcc r))]
abbrev bookI (r : Rule) : IV := .iptr (bookC r)
theorem c48 (r : Rule) (hb : r.size ≤ 1000000000000) : Pure Tryz.prog 48 [ag r.c] (.iv (bookI r)) := by
 unfold Rule.size at hb
 have hao := atomOcc_len r.head
 have hal := Lit.length_sizes r.body
 refine pure_end tyA_ok Tryz.func48 rfl (by decide) Tryz.ntmps48 rfl (by simp) rfl ?_
 refine gA rfl (zd [1] (d88n r.head (by omega)) ?_)
 refine gA rfl ?_
 refine go_for 0 r.body.length (Nat.zero_le _) (fun i => ⟨[(3, .ptr 2 0), (18, .iv (lits r.body)), (19, pI r.body.length), (20, pI i)],
   [(1, some (nmO (occM (atomOcc r.head ++ (r.body.take i).flatMap litOut)))), (2, some (.cells [pS r.head.rel, .iv (slc 5 r.head.terms Term.c), .iv (lits r.body), pI r.at_.line, pI r.at_.col, .mp 1]))], 3⟩) (fun _ => True) [] trivial
  (zW (hM rfl (by simp) rfl (zO trivial))) fun i hi _ => ?_
 refine gA rfl (zI (fun h3 => ?_) fun h3 => ?_)
 ·have h3 : i < r.body.length := by simpa using h3
  have hs := flatMap_step (f := litOut) h3
  have hn := Lit.sizes_next r.body i h3
  have hv := litsOut_len (r.body.take i)
  have hlo := litOcc_len (r.body.getD i default)
  refine gA rfl (go_ddet tyA_ok [1] (d89 (r.body.getD i default) _ (by rw [List.length_append]; omega)) rfl rfl rfl rfl rfl rfl rfl rfl rfl rfl rfl rfl (by (repeat' (first | exact trivial | exact rfl | exact PVle.refl _ | exact PVle.bk (by assumption) | apply And.intro)) <;> first | omega | (simp only [Int.toNat_natCast]; omega) | (simp; done) | (simp; omega)) rfl (by (repeat' (first | exact trivial | exact rfl | exact PVle.refl _ | exact PVle.bk (by assumption) | apply And.intro)) <;> first | omega | (simp only [Int.toNat_natCast]; omega) | (simp; done) | (simp; omega)) ?_)
  refine gA rfl (zI (fun h4 => ?_) fun h4 => ?_)
  ·have h4 : (r.body.getD i default).kind = 4 := zT h4
   have hlo2 : litOut (r.body.getD i default) = litOcc (r.body.getD i default) ++ [(r.body.getD i default).avar] := by unfold litOut; rw [if_pos h4]
   rw [hlo2] at hs
   have hlk := occM_lk (atomOcc r.head ++ (r.body.take i).flatMap litOut ++ litOcc (r.body.getD i default)) (r.body.getD i default).avar
   have hct := cntL_le (atomOcc r.head ++ (r.body.take i).flatMap litOut ++ litOcc (r.body.getD i default)) (r.body.getD i default).avar
   rw [List.length_append, List.length_append] at hct
   refine gA rfl ?_
   exact ⟨h3, trivial, [], zW (hM rfl (by rw [hs, ← List.append_assoc, ← List.append_assoc, occM_snoc]; rfl) rfl (zO trivial))⟩
  ·have h4 : ¬ (r.body.getD i default).kind = 4 := zF h4
   have hlo2 : litOut (r.body.getD i default) = litOcc (r.body.getD i default) := by unfold litOut; rw [if_neg h4, List.append_nil]
   rw [hlo2] at hs
   refine gA rfl ?_
   exact ⟨h3, trivial, [], zW (hM rfl (by rw [hs, ← List.append_assoc]) rfl (zO trivial))⟩
 ·have h3 : r.body.length ≤ i := by simpa using h3
  have e0 : r.body.take i = r.body := List.take_of_length_le h3
  refine goR rfl trivial (end_frz (.inr rfl) rfl (.map 1 rfl (.cells 2 _ rfl (show _ = List.map PV.iv (bookC r) by rw [e0]; rfl) (.done (.of_eq rfl)))))
def coversB (occ : List Str) (e : Expr) : Bool := (exprOcc e).all fun x => inL occ x
theorem key_mem {l : List Str} {j : Nat} {x : (KC.str).K × Int} (h : (occM l)[j]? = some x) : x.1 ∈ l :=
 ((occM_keys l).2 x.1).1 (List.mem_map.2 ⟨x, List.mem_of_getElem? h, rfl⟩)
theorem all_keys {l : List Str} {vs : List Nat} (h : ∀ j, j < (occM l).length → j ∈ vs) {p : Str → Prop} (hp : ∀ j ∈ vs, ∀ x, (occM l)[j]? = some x → p x.1) : ∀ t ∈ l, p t := by
 intro t ht
 obtain ⟨x, hx, rfl⟩ := List.mem_map.1 (((occM_keys l).2 t).2 ht)
 obtain ⟨j, hj⟩ := List.getElem?_of_mem hx
 exact hp j (h j (List.getElem?_eq_some_iff.1 hj).1) x hj
theorem d125 (occ : List Str) (e : Expr) (hb : e.size ≤ 1000000000000) : Det Tryz.prog 125 [.mp 0, ag e.c] [nmO (occM occ)] (pB (coversB occ e)) [(0, some (nmO (occM occ)))] 1 := by
 refine det_end tyA_ok Tryz.func125 rfl (by decide) Tryz.ntmps125 rfl (by simp) ?_
 refine gA rfl (zq [2] (d135n e hb) ?_)
 refine gA rfl ?_
 refine go_rng (occM (exprOcc e)) (fun vs => ⟨[(0, .mp 0), (12, .ptr 3 0)], [(0, some (nmO (occM occ))), (3, some (.miter .str evI (occM (exprOcc e)) vs none))], 4⟩) (fun vs => ∀ j ∈ vs, ∀ x, (occM (exprOcc e))[j]? = some x → x.1 ∈ occ) [] (by simp)
  (zW (hM rfl rfl rfl (hI rfl rfl (.inl rfl) rfl trivial))) fun vs hJ => ?_
 refine goR rfl trivial (go_next rfl rfl rfl rfl rfl (by decide) (fun hall => ?_) fun j x hx hj => ?_)
 ·refine gA rfl (end_det [] (by first | exact .inr rfl | exact .inl rfl) rfl (zM ⟨.of_eq (by rw [show coversB occ e = true from List.all_eq_true.2 fun t ht => inL_iff.2 (all_keys hall hJ t ht)]; rfl), rfl, trivial⟩ (hM rfl rfl rfl trivial)))
 ·have hlk := occM_lk occ x.1
  refine gA rfl (zI (fun h1 => ?_) fun h1 => ?_)
  ·have h1 : lkD .str (occM occ) x.1 0 = 0 := zT h1
   have h2 : x.1 ∉ occ := cntL_zero.1 (by rw [hlk] at h1; omega)
   refine gA rfl (end_det [] (by first | exact .inr rfl | exact .inl rfl) rfl (zM ⟨.of_eq (by rw [show coversB occ e = false from List.all_eq_false.2 ⟨x.1, key_mem hx, by rw [inL_false.2 h2]; simp⟩]; rfl), rfl, trivial⟩ (hM rfl rfl rfl trivial)))
  ·have h1 : ¬ lkD .str (occM occ) x.1 0 = 0 := zF h1
   have h2 : x.1 ∈ occ := cntL_pos.1 (by rw [hlk] at h1; omega)
   refine gA rfl ?_
   exact ⟨j, x, hx, hj, fun i hi y hy => by
    rcases List.mem_cons.1 hi with rfl | hi
    ·rw [hx] at hy; cases hy; exact h2
    ·exact hJ i hi y hy, [], zW (hM rfl rfl rfl (hI rfl rfl (.inr rfl) rfl trivial))⟩
theorem filter_step {α : Type} [Inhabited α] {l : List α} {p : α → Bool} {i : Nat} (h : i < l.length) : (l.take (i + 1)).filter p = if p (l.getD i default) then (l.take i).filter p ++ [l.getD i default] else (l.take i).filter p := by
 rw [take_step h, List.filter_append]
 cases hp : p (l.getD i default) <;> simp only [List.filter_cons, List.filter_nil, hp] <;> simp
theorem filter_take_len {α : Type} (l : List α) (p : α → Bool) (i : Nat) : ((l.take i).filter p).length ≤ l.length := by
 have h1 := List.length_filter_le p (l.take i)
 have h2 : (l.take i).length ≤ l.length := by simp; omega
 omega
def litAt (r : Rule) (lit : Int) : Lit := r.body.getD lit.toNat default
def localL (r : Rule) (lit : Int) : List Str := if lit < 0 ∨ (r.body.length : Int) ≤ lit ∨ ¬ (litAt r lit).kind = 4 then [] else (innerVars (litAt r lit).agg).filter fun x => !inL (outer r) x
theorem Lit.agg_size (l : Lit) : l.agg.size + 2 ≤ l.size := by
 rw [l.size_eq]; unfold Agg.size Lit.agg; dsimp only; omega
theorem c36 (r : Rule) (lit : Int) (hb : r.size ≤ 1000000000000) : Pure Tryz.prog 36 [ag r.c, pI lit] (.iv (strs (localL r lit))) := by
 have hbu := hb
 unfold Rule.size at hbu
 refine pure_end tyA_ok Tryz.func36 rfl (by decide) Tryz.ntmps36 rfl (by simp) rfl ?_
 refine gA rfl (zI (fun h1 => ?_) fun h1 => ?_)
 rotate_left
 ·have h1 : lit < 0 := by simpa using h1
  refine gA rfl (zL ?_)
  rw [localL, if_pos (.inl h1)]; exact .nil _ _
 have h1 : ¬ lit < 0 := by simpa using h1
 refine gA rfl (zI (fun h2 => ?_) fun h2 => ?_)
 rotate_left
 ·have h2 : (r.body.length : Int) ≤ lit := by simpa using h2
  refine gA rfl (zL ?_)
  rw [localL, if_pos (.inr (.inl h2))]; exact .nil _ _
 have h2 : ¬ (r.body.length : Int) ≤ lit := by simpa using h2
 refine gA rfl (zI (fun h3 => ?_) fun h3 => ?_)
 ·have h3 : ¬ (litAt r lit).kind = 4 := by simpa [litAt] using h3
  refine gA rfl (zL ?_)
  rw [localL, if_pos (.inr (.inr h3))]; exact .nil _ _
 have h3 : (litAt r lit).kind = 4 := by simpa [litAt] using h3
 have hk : lit.toNat < r.body.length := by omega
 have hsz := Lit.sizes_get r.body lit.toNat hk
 have hag := (litAt r lit).agg_size
 have hiv := innerVars_len (litAt r lit).agg
 have hle : (litAt r lit).size ≤ Lit.sizes r.body := hsz
 refine gA rfl (zp (c30 r hb) ?_)
 refine gA rfl (zp (c80 (litAt r lit).agg (by omega)) ?_)
 refine gA rfl ?_
 refine go_virt 7 1 rfl ?_
 refine go_for 0 (innerVars (litAt r lit).agg).length (Nat.zero_le _) (fun i => ⟨[(5, .iv (strs (outer r))), (6, .iv (strs (innerVars (litAt r lit).agg))), (7, .sl 2 0 (((innerVars (litAt r lit).agg).take i).filter fun x => !inL (outer r) x).length 1), (8, pI i)], [(2, some (rowI 1 (((innerVars (litAt r lit).agg).take i).filter fun x => !inL (outer r) x) strC))], 3⟩) (fun _ => True) [1] trivial
  (zW (zS trivial)) fun i hi hJ => ?_
 have hfl := filter_take_len (innerVars (litAt r lit).agg) (fun x => !inL (outer r) x) i
 refine gA rfl (zI (fun h4 => ?_) fun h4 => ?_)
 ·have h4 : i < (innerVars (litAt r lit).agg).length := by simpa using h4
  have hs := filter_step (p := fun x => !inL (outer r) x) h4
  refine gA rfl (go_pure (c81 _ ((innerVars (litAt r lit).agg).getD i default)) rfl rfl rfl rfl rfl rfl ?_)
  refine gA rfl (zI (fun h5 => ?_) fun h5 => ?_)
  ·rw [if_pos h5] at hs
   refine goR rfl ?_ ⟨h4, trivial, [4], zM ⟨.refl _, rfl, .refl _, rfl, .row (by rw [hs]; simp), rfl, .refl _, rfl, trivial⟩ (hR rfl (by rw [hs, List.map_append]; rfl) rfl trivial)⟩
   repeat' (first | exact trivial | exact rfl | apply And.intro)
   all_goals first | omega | (simp; omega) | simp
  ·rw [h5] at hs
   refine gA rfl ?_
   exact ⟨h4, trivial, [2], zM ⟨.refl _, rfl, .refl _, rfl, .row (by rw [hs]; simp), rfl, .refl _, rfl, trivial⟩ (hR rfl (by rw [hs]; simp; try rfl) rfl trivial)⟩
 ·have h4 : (innerVars (litAt r lit).agg).length ≤ i := by simpa using h4
  have hin : localL r lit = ((innerVars (litAt r lit).agg).take i).filter fun x => !inL (outer r) x := by
   rw [List.take_of_length_le h4, localL, if_neg (by simp [h1, h3]; omega)]
  refine gA rfl (end_row (by first | exact .inr rfl | exact .inl rfl) rfl rfl (by rw [hin]) (by rw [hin]))
def setsL (l : Lit) (known : List Str) : Str × Bool :=
 if ¬ l.kind = 3 ∨ ¬ l.op = 1 then (ByteArray.empty, false)
 else if l.left.kind = 1 ∧ allL known (exprVars l.left) = false ∧ allL known (exprVars l.right) = true then (l.left.var, true)
 else if l.right.kind = 1 ∧ allL known (exprVars l.right) = false ∧ allL known (exprVars l.left) = true then (l.right.var, true)
 else (ByteArray.empty, false)
theorem tupE {a b : Str × Bool} (h : a = b) : PV.tup [pS a.1, pB a.2] = .tup [pS b.1, pB b.2] := by rw [h]
theorem c128 (l : Lit) (known : List Str) (hb : l.size ≤ 1000000000000) : Pure Tryz.prog 128 [ag l.c, .iv (strs known)] (.tup [pS (setsL l known).1, pB (setsL l known).2]) := by
 have hsz := l.size_eq
 refine pure_end tyA_ok Tryz.func128 rfl (by decide) Tryz.ntmps128 rfl (by simp) rfl ?_
 refine gA rfl (zI (fun h1 => ?_) fun h1 => ?_)
 rotate_left
 ·have h1 : ¬ l.kind = 3 := by simpa using h1
  refine gA rfl (zL (.of_eq ?_))
  exact tupE (a := (ByteArray.empty, false)) (by rw [setsL, if_pos (.inl h1)])
 have h1 : l.kind = 3 := by simpa using h1
 refine gA rfl (zI (fun h2 => ?_) fun h2 => ?_)
 ·have h2 : ¬ l.op = 1 := by simpa using h2
  refine gA rfl (zL (.of_eq ?_))
  exact tupE (a := (ByteArray.empty, false)) (by rw [setsL, if_pos (.inr h2)])
 have h2 : l.op = 1 := by simpa using h2
 have e1 : setsL l known = if l.left.kind = 1 ∧ allL known (exprVars l.left) = false ∧ allL known (exprVars l.right) = true then (l.left.var, true)
   else if l.right.kind = 1 ∧ allL known (exprVars l.right) = false ∧ allL known (exprVars l.left) = true then (l.right.var, true)
   else (ByteArray.empty, false) := by rw [setsL, if_neg (by simp [h1, h2])]
 refine gA rfl (zp (c124' l.left (by omega)) ?_)
 refine gA rfl (zp (c124' l.right (by omega)) ?_)
 refine gA rfl (zp (c166 known (exprVars l.left)) ?_)
 refine gA rfl (zp (c166 known (exprVars l.right)) ?_)
 refine gA rfl (zI (fun h3 => ?_) fun h3 => ?_)
 ·have h3 : l.left.kind = 1 := by simpa using h3
  refine gA rfl (zI (fun h4 => ?_) fun h4 => ?_)
  ·have h4 : allL known (exprVars l.left) = false := by simpa using h4
   refine gA rfl (zI (fun h5 => ?_) fun h5 => ?_)
   ·refine gA rfl (zL (.of_eq ?_))
    exact tupE (a := (l.left.var, true)) (by rw [e1, if_pos ⟨h3, h4, h5⟩])
   ·refine gA rfl (zI (fun h6 => ?_) fun h6 => ?_)
    ·have h6 : l.right.kind = 1 := by simpa using h6
     refine gA rfl (zI (fun h7 => ?_) fun h7 => ?_)
     ·refine gA rfl (zI (fun h8 => ?_) fun h8 => ?_)
      ·rw [h4] at h8; cases h8
      ·refine gA rfl (zL (.of_eq ?_))
       exact tupE (a := (ByteArray.empty, false)) (by rw [e1, if_neg (by simp [h5]), if_neg (by simp [h4])])
     ·rw [h5] at h7; cases h7
    ·have h6 : ¬ l.right.kind = 1 := by simpa using h6
     refine gA rfl (zL (.of_eq ?_))
     exact tupE (a := (ByteArray.empty, false)) (by rw [e1, if_neg (by simp [h5]), if_neg (by simp [h4])])
  ·have h4 : allL known (exprVars l.left) = true := by simpa using h4
   refine gA rfl (zI (fun h6 => ?_) fun h6 => ?_)
   ·have h6 : l.right.kind = 1 := by simpa using h6
    refine gA rfl (zI (fun h7 => ?_) fun h7 => ?_)
    ·have h7 : allL known (exprVars l.right) = false := by simpa using h7
     refine gA rfl (zI (fun h8 => ?_) fun h8 => ?_)
     ·refine gA rfl (zL (.of_eq ?_))
      exact tupE (a := (l.right.var, true)) (by rw [e1, if_neg (by simp [h4]), if_pos ⟨h6, h7, h4⟩])
     ·rw [h4] at h8; cases h8
    ·have h7 : allL known (exprVars l.right) = true := by simpa using h7
     refine gA rfl (zL (.of_eq ?_))
     exact tupE (a := (ByteArray.empty, false)) (by rw [e1, if_neg (by simp [h4]), if_neg (by simp [h7])])
   ·have h6 : ¬ l.right.kind = 1 := by simpa using h6
    refine gA rfl (zL (.of_eq ?_))
    exact tupE (a := (ByteArray.empty, false)) (by rw [e1, if_neg (by simp [h4]), if_neg (by simp [h6])])
 ·have h3 : ¬ l.left.kind = 1 := by simpa using h3
  refine gA rfl (zI (fun h6 => ?_) fun h6 => ?_)
  ·have h6 : l.right.kind = 1 := by simpa using h6
   refine gA rfl (zI (fun h7 => ?_) fun h7 => ?_)
   ·have h7 : allL known (exprVars l.right) = false := by simpa using h7
    refine gA rfl (zI (fun h8 => ?_) fun h8 => ?_)
    ·refine gA rfl (zL (.of_eq ?_))
     exact tupE (a := (l.right.var, true)) (by rw [e1, if_neg (by simp [h3]), if_pos ⟨h6, h7, h8⟩])
    ·refine gA rfl (zL (.of_eq ?_))
     exact tupE (a := (ByteArray.empty, false)) (by rw [e1, if_neg (by simp [h3]), if_neg (by simp [h8])])
   ·have h7 : allL known (exprVars l.right) = true := by simpa using h7
    refine gA rfl (zL (.of_eq ?_))
    exact tupE (a := (ByteArray.empty, false)) (by rw [e1, if_neg (by simp [h3]), if_neg (by simp [h7])])
  ·have h6 : ¬ l.right.kind = 1 := by simpa using h6
   refine gA rfl (zL (.of_eq ?_))
   exact tupE (a := (ByteArray.empty, false)) (by rw [e1, if_neg (by simp [h3]), if_neg (by simp [h6])])
def aggrB (a : Agg) (known outer : List Str) : Bool := !inL known a.var && (innerVars a).all fun x => !(inL outer x && (!inL known x && !decide (x = a.var)))
theorem c129 (a : Agg) (known outer : List Str) (hb : a.size ≤ 1000000000000) : Pure Tryz.prog 129 [ag a.c, .iv (strs known), .iv (strs outer)] (pB (aggrB a known outer)) := by
 have hiv := innerVars_len a
 refine pure_end tyA_ok Tryz.func129 rfl (by decide) Tryz.ntmps129 rfl (by simp) rfl ?_
 refine gA rfl (zp (c81 known a.var) ?_)
 refine gA rfl (zI (fun h1 => ?_) fun h1 => ?_)
 ·refine gA rfl (zL (.of_eq ?_))
  rw [aggrB, h1]; try rfl
 refine gA rfl (zp (c80 a hb) ?_)
 refine gA rfl ?_
 refine go_for 0 (innerVars a).length (Nat.zero_le _) (fun i => ⟨[(1, .iv (strs known)), (2, .iv (strs outer)), (3, .ptr 0 0), (8, .iv (strs (innerVars a))), (9, pI i)], [(0, some (cellsI a.c))], 1⟩) (fun i => ((innerVars a).take i).all (fun x => !(inL outer x && (!inL known x && !decide (x = a.var)))) = true) [] rfl
  (zW (zK trivial)) fun i hi hJ => ?_
 refine gA rfl (zI (fun h2 => ?_) fun h2 => ?_)
 ·have h2 : i < (innerVars a).length := by simpa using h2
  refine gA rfl (zp (c81 outer ((innerVars a).getD i default)) ?_)
  refine gA rfl (zp (c81 known ((innerVars a).getD i default)) ?_)
  refine gA rfl (zI (fun h3 => ?_) fun h3 => ?_)
  ·refine gA rfl (zI (fun h4 => ?_) fun h4 => ?_)
   ·refine gA rfl (zI (fun h5 => ?_) fun h5 => ?_)
    ·refine gA rfl (zL (.of_eq ?_))
     rw [aggrB, all_miss h2 (show (!(inL outer ((innerVars a).getD i default) && (!inL known ((innerVars a).getD i default) && !decide ((innerVars a).getD i default = a.var)))) = false by rw [h3, h4, show (!decide ((innerVars a).getD i default = a.var)) = true from h5]; rfl)]; simp; try rfl
    ·refine gA rfl ?_
     exact ⟨h2, (all_step hJ h2).2 (by rw [h3]; simp only [Bool.true_and]; rw [show (!decide ((innerVars a).getD i default = a.var)) = false from h5]; simp), [], zW (zK trivial)⟩
   ·refine gA rfl ?_
    exact ⟨h2, (all_step hJ h2).2 (by rw [h4]; simp), [], zW (zK trivial)⟩
  ·refine gA rfl ?_
   exact ⟨h2, (all_step hJ h2).2 (by rw [h3]; simp), [], zW (zK trivial)⟩
 ·have h2 : (innerVars a).length ≤ i := by simpa using h2
  refine gA rfl (zL (.of_eq ?_))
  rw [aggrB, h1, all_done hJ h2]; try rfl
theorem exprVars_var {e : Expr} (h : e.kind = 1) : exprVars e = [e.var] := by
 rw [exprVars_eq, if_pos h, withL_ins]; rfl
theorem setsL_new {l : Lit} {k : List Str} (h : (setsL l k).2 = true) : ((setsL l k).1 = l.left.var ∨ (setsL l k).1 = l.right.var) ∧ (setsL l k).1 ∉ k := by
 unfold setsL at h ⊢
 split at h
 ·cases h
 ·rename_i h0
  rw [if_neg h0]
  split at h
  ·rename_i h1
   rw [if_pos h1]
   refine ⟨.inl rfl, fun hk => ?_⟩
   have := h1.2.1
   rw [exprVars_var h1.1] at this
   simp [allL, inL_iff.2 hk] at this
  ·rename_i h1
   rw [if_neg h1]
   split at h
   ·rename_i h2
    rw [if_pos h2]
    refine ⟨.inr rfl, fun hk => ?_⟩
    have := h2.2.1
    rw [exprVars_var h2.1] at this
    simp [allL, inL_iff.2 hk] at this
   ·cases h
theorem aggrB_new {a : Agg} {k o : List Str} (h : aggrB a k o = true) : a.var ∉ k := by
 unfold aggrB at h
 simp only [Bool.and_eq_true, Bool.not_eq_true'] at h
 exact inL_false.1 h.1
def cands (body : List Lit) : List Str := body.flatMap fun l => [l.left.var, l.right.var, l.avar]
def miss (c k : List Str) : Nat := (c.filter fun x => !inL k x).length
theorem cands_len : ∀ body : List Lit, (cands body).length = 3 * body.length
 | [] => rfl
 | l :: r => by have := cands_len r; simp only [cands, List.flatMap_cons, List.length_append, List.length_cons, List.length_nil] at this ⊢; omega
theorem miss_le (c k : List Str) : miss c k ≤ c.length := List.length_filter_le _ _
theorem miss_lt {v : Str} {k : List Str} : ∀ {c : List Str}, v ∈ c → v ∉ k → miss c (withL k v) < miss c k := by
 have mono : ∀ c : List Str, miss c (withL k v) ≤ miss c k := by
  intro c
  induction c with
  | nil => exact Nat.le_refl _
  | cons x r ih =>
   simp only [miss] at ih ⊢
   simp only [List.filter_cons]
   by_cases h1 : x ∈ k
   ·have : inL (withL k v) x = true := inL_iff.2 (mem_withL.2 (.inl h1))
    rw [this, inL_iff.2 h1]; exact ih
   ·simp only [inL_false.2 h1, Bool.not_false, if_true, List.length_cons]
    split <;> (try simp only [List.length_cons]) <;> omega
 intro c hc hk
 induction c with
 | nil => cases hc
 | cons x r ih =>
  have hm := mono r
  simp only [miss] at ih hm ⊢
  simp only [List.filter_cons]
  by_cases hx : x = v
  ·subst hx
   have : inL (withL k x) x = true := inL_iff.2 (mem_withL.2 (.inr rfl))
   simp [this, inL_false.2 hk]; omega
  ·have hr : v ∈ r := by
    rcases List.mem_cons.1 hc with h | h
    ·exact absurd h.symm hx
    ·exact h
   have ih := ih hr
   by_cases h1 : x ∈ k
   ·have : inL (withL k v) x = true := inL_iff.2 (mem_withL.2 (.inl h1))
    simp [this, inL_iff.2 h1]; exact ih
   ·have : inL (withL k v) x = false := inL_false.2 fun h => by rcases mem_withL.1 h with h | h; exact h1 h; exact hx h
    simp [this, inL_false.2 h1]; omega
def stepV (own : Bool) (outer : List Str) (k : List Str) (l : Lit) : Str × Bool := if own = true ∧ l.kind = 4 then (l.avar, aggrB l.agg k outer) else setsL l k
def stepG (own : Bool) (outer : List Str) (a : List Str × Bool) (l : Lit) : List Str × Bool := if (stepV own outer a.1 l).2 = true then (withL a.1 (stepV own outer a.1 l).1, true) else a
def roundG (own : Bool) (outer : List Str) (body : List Lit) (k : List Str) : List Str × Bool := body.foldl (stepG own outer) (k, false)
def growN (own : Bool) (outer : List Str) (body : List Lit) : Nat → List Str → List Str
 | 0, k => k
 | n + 1, k => if (roundG own outer body k).2 = true then growN own outer body n (roundG own outer body k).1 else (roundG own outer body k).1
theorem growN_succ {own : Bool} {outer : List Str} {body : List Lit} {n : Nat} {k : List Str} : growN own outer body (n + 1) k = if (roundG own outer body k).2 = true then growN own outer body n (roundG own outer body k).1 else (roundG own outer body k).1 := rfl
def posF (k : List Str) (l : Lit) : List Str := if l.kind = 1 then withAll k (atomVars l.atom) else k
def grownL (own : Bool) (outer : List Str) (body : List Lit) (k : List Str) : List Str := growN own outer body (3 * body.length + 1) (body.foldl posF k)
theorem stepV_new {own : Bool} {outer k : List Str} {l : Lit} (h : (stepV own outer k l).2 = true) : (stepV own outer k l).1 ∈ [l.left.var, l.right.var, l.avar] ∧ (stepV own outer k l).1 ∉ k := by
 unfold stepV at h ⊢
 split at h
 ·rename_i h1; rw [if_pos h1]; exact ⟨by simp, aggrB_new (a := l.agg) h⟩
 ·rename_i h1; rw [if_neg h1]
  obtain ⟨h2, h3⟩ := setsL_new h
  refine ⟨?_, h3⟩
  rcases h2 with h2 | h2 <;> simp [h2]
theorem cands_mem {body : List Lit} {l : Lit} (h : l ∈ body) {v : Str} (hv : v ∈ [l.left.var, l.right.var, l.avar]) : v ∈ cands body := List.mem_flatMap.2 ⟨l, h, hv⟩
theorem stepG_ok {own : Bool} {outer c : List Str} {a : List Str × Bool} {l : Lit} (hc : ∀ v ∈ [l.left.var, l.right.var, l.avar], v ∈ c) :
  (stepG own outer a l).1.length + miss c (stepG own outer a l).1 ≤ a.1.length + miss c a.1 ∧ miss c (stepG own outer a l).1 ≤ miss c a.1 ∧
  ((stepG own outer a l).2 = true → a.2 = true ∨ miss c (stepG own outer a l).1 < miss c a.1) := by
 unfold stepG
 split
 ·rename_i h
  obtain ⟨h1, h2⟩ := stepV_new h
  have h3 := miss_lt (hc _ h1) h2
  have h4 := withL_len a.1 (stepV own outer a.1 l).1
  exact ⟨by dsimp only; omega, by dsimp only; omega, fun _ => .inr h3⟩
 ·exact ⟨Nat.le_refl _, Nat.le_refl _, fun h => .inl h⟩
theorem foldG_ok {own : Bool} {outer c : List Str} : ∀ {body : List Lit} {a : List Str × Bool}, (∀ l ∈ body, ∀ v ∈ [l.left.var, l.right.var, l.avar], v ∈ c) →
  (body.foldl (stepG own outer) a).1.length + miss c (body.foldl (stepG own outer) a).1 ≤ a.1.length + miss c a.1 ∧ miss c (body.foldl (stepG own outer) a).1 ≤ miss c a.1 ∧
  ((body.foldl (stepG own outer) a).2 = true → a.2 = true ∨ miss c (body.foldl (stepG own outer) a).1 < miss c a.1)
 | [], a, _ => ⟨Nat.le_refl _, Nat.le_refl _, fun h => .inl h⟩
 | l :: r, a, hc => by
  obtain ⟨h1, h2, h3⟩ := stepG_ok (own := own) (outer := outer) (a := a) (hc l List.mem_cons_self)
  obtain ⟨g1, g2, g3⟩ := foldG_ok (own := own) (outer := outer) (body := r) (a := stepG own outer a l) fun l hl => hc l (List.mem_cons_of_mem _ hl)
  simp only [List.foldl_cons]
  refine ⟨by omega, by omega, fun h => ?_⟩
  rcases g3 h with g | g
  ·rcases h3 g with h | h
   ·exact .inl h
   ·exact .inr (by omega)
  ·exact .inr (by omega)
theorem posF_len (k : List Str) (l : Lit) : (posF k l).length + 2 ≤ k.length + l.size := by
 have h1 := withAll_len (atomVars l.atom) k
 have h2 := atomVars_len l.atom
 have h3 := l.size_eq
 unfold posF
 split <;> omega
theorem posF_fold_len : ∀ (l : List Lit) (a : List Str), (l.foldl posF a).length ≤ a.length + Lit.sizes l
 | [], a => by simp [Lit.sizes]
 | e :: r, a => by
  have h1 := posF_fold_len r (posF a e)
  have h2 := posF_len a e
  simp only [List.foldl_cons, Lit.sizes]; omega
theorem c74 (body : List Lit) (known outer : List Str) (own : Bool) (hb : known.length + 4 * Lit.sizes body ≤ 1000000000000) : Pure Tryz.prog 74 [.iv (lits body), .iv (strs known), .iv (strs outer), pB own] (.iv (strs (grownL own outer body known))) := by
 have hal := Lit.length_sizes body
 have hpl := posF_fold_len body known
 have hcl := cands_len body
 have hml := miss_le (cands body) (body.foldl posF known)
 refine pure_end tyA_ok Tryz.func74 rfl (by decide) Tryz.ntmps74 rfl (by simp) rfl ?_
 refine gA rfl ?_
 refine go_for 0 body.length (Nat.zero_le _) (fun i => ⟨[(0, .iv (lits body)), (1, .iv (strs ((body.take i).foldl posF known))), (2, .iv (strs outer)), (3, pB own), (9, pI i)], [], 0⟩) (fun _ => True) [] trivial
  (wk0 rfl rfl ⟨.refl _, rfl, .refl _, rfl, .refl _, rfl, .refl _, rfl, .refl _, rfl, trivial⟩ rfl) fun i hi _ => ?_
 refine gA rfl (zI (fun h1 => ?_) fun h1 => ?_)
 ·have h1 : i < body.length := by simpa using h1
  have hs := fold_step (g := posF) (b := known) h1
  have hv := posF_fold_len (body.take i) known
  have hn := Lit.sizes_next body i h1
  have hav := atomVars_len (body.getD i default).atom
  have hsz := (body.getD i default).size_eq
  refine gA rfl (zI (fun h2 => ?_) fun h2 => ?_)
  ·have h2 : (body.getD i default).kind = 1 := by simpa using h2
   rw [show posF ((body.take i).foldl posF known) (body.getD i default) = _ from if_pos h2] at hs
   refine gA rfl (zp (c69 (body.getD i default).atom (by omega)) ?_)
   refine gA rfl (go_pure (c71 _ _ (by omega)) rfl rfl rfl rfl rfl rfl ?_)
   refine gA rfl ?_
   exact ⟨h1, trivial, [], wk0 rfl rfl ⟨.refl _, rfl, .of_eq (by rw [hs]; rfl), rfl, .refl _, rfl, .refl _, rfl, .refl _, rfl, trivial⟩ rfl⟩
  ·have h2 : ¬ (body.getD i default).kind = 1 := by simpa using h2
   rw [show posF ((body.take i).foldl posF known) (body.getD i default) = _ from if_neg h2] at hs
   refine gA rfl ?_
   exact ⟨h1, trivial, [], wk0 rfl rfl ⟨.refl _, rfl, .of_eq (by rw [hs]; rfl), rfl, .refl _, rfl, .refl _, rfl, .refl _, rfl, trivial⟩ rfl⟩
 have h1 : body.length ≤ i := by simpa using h1
 have e0 : (body.take i).foldl posF known = body.foldl posF known := fold_done h1
 rw [e0]
 refine gA rfl ?_
 refine go_lp (σ := { x : List Str × Bool × Nat // grownL own outer body known = (if x.2.1 = true then growN own outer body (x.2.2 + 1) x.1 else x.1) ∧ (x.2.1 = true → miss (cands body) x.1 ≤ x.2.2) ∧ x.1.length + miss (cands body) x.1 ≤ (body.foldl posF known).length + miss (cands body) (body.foldl posF known) })
  (fun x => ⟨[(0, .iv (lits body)), (1, .iv (strs x.1.1)), (2, .iv (strs outer)), (3, pB own), (11, pB x.1.2.1)], [], 0⟩) (fun x => if x.1.2.1 = true then miss (cands body) x.1.1 + 1 else 0)
  ⟨(body.foldl posF known, true, 3 * body.length), by simp [grownL], fun _ => by dsimp only; omega, Nat.le_refl _⟩ [] (wk0 rfl rfl ⟨.refl _, rfl, .refl _, rfl, .refl _, rfl, .refl _, rfl, .kb' rfl, rfl, trivial⟩ rfl) ?_
 rintro ⟨⟨k, more, f⟩, hx1, hx2, hx3⟩
 dsimp only at hx1 hx2 hx3 ⊢
 refine gA rfl (zI (fun h2 => ?_) fun h2 => ?_)
 ·subst h2
  rw [if_pos rfl] at hx1
  have hmf := hx2 rfl
  refine gA rfl ?_
  refine go_for 0 body.length (Nat.zero_le _) (fun i => ⟨[(0, .iv (lits body)), (1, .iv (strs ((body.take i).foldl (stepG own outer) (k, false)).1)), (2, .iv (strs outer)), (3, pB own), (11, pB ((body.take i).foldl (stepG own outer) (k, false)).2), (12, pI i)], [], 0⟩) (fun _ => True) [] trivial
   (wk0 rfl rfl ⟨.refl _, rfl, .refl _, rfl, .refl _, rfl, .refl _, rfl, .kb' rfl, rfl, .refl _, rfl, trivial⟩ rfl) fun i hi _ => ?_
  have hfo := foldG_ok (own := own) (outer := outer) (c := cands body) (body := body.take i) (a := (k, false)) fun l hl v hv => cands_mem (List.mem_of_mem_take hl) hv
  dsimp only at hfo
  refine gA rfl (zI (fun h3 => ?_) fun h3 => ?_)
  ·have h3 : i < body.length := by simpa using h3
   have hs := fold_step (g := stepG own outer) (b := (k, false)) h3
   generalize hka : (body.take i).foldl (stepG own outer) (k, false) = ka at hfo hs ⊢
   have hsl := Lit.sizes_get body i h3
   have hag := (body.getD i default).agg_size
   refine gA rfl (zp (c128 (body.getD i default) ka.1 (by omega)) ?_)
   refine gA rfl (zI (fun h4 => ?_) fun h4 => ?_)
   ·subst h4
    refine gA rfl (zI (fun h5 => ?_) fun h5 => ?_)
    ·have h5 : (body.getD i default).kind = 4 := by simpa using h5
     have hst : stepV true outer ka.1 (body.getD i default) = ((body.getD i default).avar, aggrB (body.getD i default).agg ka.1 outer) := if_pos ⟨rfl, h5⟩
     refine gA rfl (zp (c129 (body.getD i default).agg ka.1 outer (by omega)) ?_)
     refine gA rfl (zI (fun h6 => ?_) fun h6 => ?_)
     ·have hs2 : stepG true outer ka (body.getD i default) = (withL ka.1 (body.getD i default).avar, true) := by unfold stepG; rw [hst, if_pos h6]
      rw [hs2] at hs
      refine gA rfl (go_pure (c72 ka.1 _ (by omega)) rfl rfl rfl rfl rfl rfl ?_)
      refine gA rfl ?_
      exact ⟨h3, trivial, [], wk0 rfl rfl ⟨.refl _, rfl, .of_eq (by rw [hs]; rfl), rfl, .refl _, rfl, .refl _, rfl, .kb' (by rw [hs]), rfl, .refl _, rfl, trivial⟩ rfl⟩
     ·have hs2 : stepG true outer ka (body.getD i default) = ka := by unfold stepG; rw [hst, if_neg (by rw [h6]; simp)]
      rw [hs2] at hs
      refine gA rfl ?_
      exact ⟨h3, trivial, [], wk0 rfl rfl ⟨.refl _, rfl, .of_eq (by rw [hs]; rfl), rfl, .refl _, rfl, .refl _, rfl, .of_eq (by rw [hs]; rfl), rfl, .refl _, rfl, trivial⟩ rfl⟩
    ·have h5 : ¬ (body.getD i default).kind = 4 := by simpa using h5
     have hst : stepV true outer ka.1 (body.getD i default) = setsL (body.getD i default) ka.1 := if_neg (fun h => h5 h.2)
     refine gA rfl (zI (fun h6 => ?_) fun h6 => ?_)
     ·have hs2 : stepG true outer ka (body.getD i default) = (withL ka.1 (setsL (body.getD i default) ka.1).1, true) := by unfold stepG; rw [hst, if_pos h6]
      rw [hs2] at hs
      refine gA rfl (go_pure (c72 ka.1 _ (by omega)) rfl rfl rfl rfl rfl rfl ?_)
      refine gA rfl ?_
      exact ⟨h3, trivial, [], wk0 rfl rfl ⟨.refl _, rfl, .of_eq (by rw [hs]; rfl), rfl, .refl _, rfl, .refl _, rfl, .kb' (by rw [hs]), rfl, .refl _, rfl, trivial⟩ rfl⟩
     ·have hs2 : stepG true outer ka (body.getD i default) = ka := by unfold stepG; rw [hst, if_neg (by rw [h6]; simp)]
      rw [hs2] at hs
      refine gA rfl ?_
      exact ⟨h3, trivial, [], wk0 rfl rfl ⟨.refl _, rfl, .of_eq (by rw [hs]; rfl), rfl, .refl _, rfl, .refl _, rfl, .of_eq (by rw [hs]; rfl), rfl, .refl _, rfl, trivial⟩ rfl⟩
   ·have h4 : own = false := h4
    subst h4
    have hst : stepV false outer ka.1 (body.getD i default) = setsL (body.getD i default) ka.1 := if_neg (fun h => by cases h.1)
    refine gA rfl (zI (fun h6 => ?_) fun h6 => ?_)
    ·have hs2 : stepG false outer ka (body.getD i default) = (withL ka.1 (setsL (body.getD i default) ka.1).1, true) := by unfold stepG; rw [hst, if_pos h6]
     rw [hs2] at hs
     refine gA rfl (go_pure (c72 ka.1 _ (by omega)) rfl rfl rfl rfl rfl rfl ?_)
     refine gA rfl ?_
     exact ⟨h3, trivial, [], wk0 rfl rfl ⟨.refl _, rfl, .of_eq (by rw [hs]; rfl), rfl, .refl _, rfl, .refl _, rfl, .kb' (by rw [hs]), rfl, .refl _, rfl, trivial⟩ rfl⟩
    ·have hs2 : stepG false outer ka (body.getD i default) = ka := by unfold stepG; rw [hst, if_neg (by rw [h6]; simp)]
     rw [hs2] at hs
     refine gA rfl ?_
     exact ⟨h3, trivial, [], wk0 rfl rfl ⟨.refl _, rfl, .of_eq (by rw [hs]; rfl), rfl, .refl _, rfl, .refl _, rfl, .of_eq (by rw [hs]; rfl), rfl, .refl _, rfl, trivial⟩ rfl⟩
  ·have h3 : body.length ≤ i := by simpa using h3
   have e1 : (body.take i).foldl (stepG own outer) (k, false) = roundG own outer body k := fold_done h3
   rw [e1] at hfo ⊢
   refine gA rfl ?_
   refine ⟨⟨((roundG own outer body k).1, (roundG own outer body k).2, f - 1), ?_, fun hm => ?_, by dsimp only; omega⟩, [], ?_, wk0 rfl rfl ⟨.refl _, rfl, .refl _, rfl, .refl _, rfl, .refl _, rfl, .refl _, rfl, trivial⟩ rfl⟩
   ·dsimp only
    rw [hx1, growN_succ]
    by_cases hm : (roundG own outer body k).2 = true
    ·have := hfo.2.2 hm
     have hf1 : f - 1 + 1 = f := by simp at this; omega
     rw [if_pos hm, if_pos hm, hf1]
    ·rw [if_neg hm, if_neg hm]
   ·have := hfo.2.2 hm
    simp at this
    dsimp only; omega
   ·dsimp only
    split
    ·rename_i hm
     have := hfo.2.2 hm
     simp at this
     simp; omega
    ·simp
 ·subst h2
  rw [if_neg (by simp)] at hx1
  refine gA rfl (zL (.of_eq ?_))
  rw [hx1]; rfl
def copB (may : Expr → Bool) (occ : List Str) (l : Lit) : Str × Bool :=
 if ¬ l.kind = 3 ∨ ¬ l.op = 1 then (ByteArray.empty, false)
 else if l.left.kind = 1 ∧ inL occ l.left.var = false ∧ may l.right = true then (l.left.var, true)
 else if l.right.kind = 1 ∧ inL occ l.right.var = false ∧ may l.left = true then (l.right.var, true)
 else (ByteArray.empty, false)
theorem inL_cnt {occ : List Str} {s : Str} : inL occ s = !decide (lkD .str (occM occ) s 0 = 0) := by
 rw [occM_lk]
 by_cases h : s ∈ occ
 ·have := cntL_pos.2 h
  rw [inL_iff.2 h]; simp; omega
 ·rw [inL_false.2 h, cntL_zero.2 h]; rfl
def plainB (occ : List Str) (e : Expr) : Bool := decide (e.kind = 2) || (decide (e.kind = 1) && inL occ e.var)
theorem pBE {a b : Bool} (h : a = b) : pB a = pB b := by rw [h]
theorem d76 (occ : List Str) (e : Expr) (_hb : e.size ≤ 1000000000000) : Det Tryz.prog 76 [ag e.c, .ptr 1 0] [nmO (occM occ), .cells [.mp 0]] (pB (plainB occ e)) [(0, some (nmO (occM occ))), (1, some (.cells [.mp 0]))] 2 := by
 have hlk := occM_lk occ e.var
 have hi := inL_cnt (occ := occ) (s := e.var)
 refine det_end tyA_ok Tryz.func76 rfl (by decide) Tryz.ntmps76 rfl (by simp) ?_
 repeat' (first
  | (refine gA rfl (zI (fun _ => ?_) (fun _ => ?_)))
  | fail)
 all_goals first
  | (refine gA rfl (end_det [] (.inr rfl) rfl (zM ⟨.of_eq (pBE (a := true) ?_), rfl, trivial⟩ (hM rfl rfl rfl (zO trivial)))); simp_all [plainB]; done)
  | (refine gA rfl (end_det [] (.inr rfl) rfl (zM ⟨.of_eq (pBE (a := false) ?_), rfl, trivial⟩ (hM rfl rfl rfl (zO trivial)))); simp_all [plainB]; done)
  | (refine gA rfl (end_det [] (.inr rfl) rfl (zM ⟨.of_eq (pBE (a := decide (lkD .str (occM occ) e.var 0 > 0)) ?_), rfl, trivial⟩ (hM rfl rfl rfl (zO trivial)))); rw [plainB, hi, hlk]; simp_all; by_cases hz : cntL occ e.var = 0 <;> simp [hz] <;> omega)
theorem c77 (a : Agg) : Pure Tryz.prog 77 [ag a.c] (pB false) := by
 refine pure_end tyA_ok Tryz.func77 rfl (by decide) Tryz.ntmps77 rfl (by simp) rfl ?_
 refine gA rfl (zL (.of_eq ?_))
 rfl
theorem c193 (a : Agg) : Pure Tryz.prog 193 [ag a.c] (pB false) := by
 refine pure_end tyA_ok Tryz.func193 rfl (by decide) Tryz.ntmps193 rfl (by simp) rfl ?_
 refine gA rfl (zL (.of_eq ?_))
 rfl
def moreB (out occ : List Str) (a : Agg) : Bool := (aggOcc a).all fun x => decide (x = a.var) || (!inL out x || inL occ x)
theorem d126 (r : Rule) (occ : List Str) (a : Agg) (hb : a.size ≤ 1000000000000) : Det Tryz.prog 126 [ag a.c, .ptr 1 0, .ptr 2 0] [nmO (occM occ), .cells [.iv (bookI r)], .cells [.mp 0]] (pB (moreB (outerOcc r) occ a)) [(0, some (nmO (occM occ))), (1, some (.cells [.iv (bookI r)])), (2, some (.cells [.mp 0]))] 3 := by
 refine det_end tyA_ok Tryz.func126 rfl (by decide) Tryz.ntmps126 rfl (by simp) ?_
 refine gA rfl (zq [] (d127 a hb) ?_)
 refine gA rfl ?_
 refine go_rng (occM (aggOcc a)) (fun vs => ⟨[(1, .ptr 1 0), (2, .ptr 2 0), (3, .ptr 3 0), (8, .ptr 5 0)], [(0, some (nmO (occM occ))), (1, some (.cells [.iv (bookI r)])), (2, some (.cells [.mp 0])), (3, some (cellsI a.c)), (5, some (.miter .str evI (occM (aggOcc a)) vs none))], 6⟩) (fun vs => ∀ j ∈ vs, ∀ x, (occM (aggOcc a))[j]? = some x → (decide (x.1 = a.var) || (!inL (outerOcc r) x.1 || inL occ x.1)) = true) [] (by simp)
  (zW (hM rfl rfl rfl ⟨⟨_, rfl, .of_eq rfl⟩, Nat.le_of_ble_eq_true rfl, rfl, ⟨_, rfl, .of_eq rfl⟩, Nat.le_of_ble_eq_true rfl, rfl, zK (hI rfl rfl (.inl rfl) rfl trivial)⟩)) fun vs hJ => ?_
 refine goR rfl trivial (go_next rfl rfl rfl rfl rfl (by decide) (fun hall => ?_) fun j x hx hj => ?_)
 ·refine gA rfl (end_det [] (by first | exact .inr rfl | exact .inl rfl) rfl (zM ⟨.of_eq (pBE (a := true) (List.all_eq_true.2 fun t ht => all_keys (p := fun t => (decide (t = a.var) || (!inL (outerOcc r) t || inL occ t)) = true) hall hJ t ht).symm), rfl, trivial⟩ (hM rfl rfl rfl ⟨⟨_, rfl, .of_eq rfl⟩, Nat.le_of_ble_eq_true rfl, rfl, ⟨_, rfl, .of_eq rfl⟩, Nat.le_of_ble_eq_true rfl, rfl, trivial⟩)))
 ·have more : (decide (x.1 = a.var) || (!inL (outerOcc r) x.1 || inL occ x.1)) = true → ∀ i ∈ j :: vs, ∀ x, (occM (aggOcc a))[i]? = some x → (decide (x.1 = a.var) || (!inL (outerOcc r) x.1 || inL occ x.1)) = true := fun h i hi y hy => by
   rcases List.mem_cons.1 hi with rfl | hi
   ·rw [hx] at hy; cases hy; exact h
   ·exact hJ i hi y hy
  have h5 := inL_cnt (occ := outerOcc r) (s := x.1)
  have h6 := inL_cnt (occ := occ) (s := x.1)
  have h7 := occM_lk (outerOcc r) x.1
  have h8 := occM_lk occ x.1
  refine gA rfl (zI (fun g1 => ?_) fun g1 => ?_)
  ·have g1 : decide (x.1 = a.var) = false := by simpa using g1
   refine gA rfl (zI (fun g2 => ?_) fun g2 => ?_)
   ·have g2 : inL (outerOcc r) x.1 = true := by
     have := zT g2
     rw [h5]; simp; omega
    refine gA rfl (zI (fun g3 => ?_) fun g3 => ?_)
    ·have g3 : inL occ x.1 = false := by rw [h6, g3]; rfl
     refine gA rfl (end_det [] (by first | exact .inr rfl | exact .inl rfl) rfl (zM ⟨.of_eq (pBE (a := false) (List.all_eq_false.2 ⟨x.1, key_mem hx, by rw [g1, g2, g3]; simp⟩).symm), rfl, trivial⟩ (hM rfl rfl rfl ⟨⟨_, rfl, .of_eq rfl⟩, Nat.le_of_ble_eq_true rfl, rfl, ⟨_, rfl, .of_eq rfl⟩, Nat.le_of_ble_eq_true rfl, rfl, trivial⟩)))
    ·have g3 : inL occ x.1 = true := by rw [h6, g3]; rfl
     refine gA rfl ?_
     exact ⟨j, x, hx, hj, more (by rw [g3]; simp), [], zW (hM rfl rfl rfl ⟨⟨_, rfl, .of_eq rfl⟩, Nat.le_of_ble_eq_true rfl, rfl, ⟨_, rfl, .of_eq rfl⟩, Nat.le_of_ble_eq_true rfl, rfl, zK (hI rfl rfl (.inr rfl) rfl trivial)⟩)⟩
   ·have g2 : inL (outerOcc r) x.1 = false := by
     have := zF g2
     rw [h5]; simp; omega
    refine gA rfl ?_
    exact ⟨j, x, hx, hj, more (by rw [g2]; simp), [], zW (hM rfl rfl rfl ⟨⟨_, rfl, .of_eq rfl⟩, Nat.le_of_ble_eq_true rfl, rfl, ⟨_, rfl, .of_eq rfl⟩, Nat.le_of_ble_eq_true rfl, rfl, zK (hI rfl rfl (.inr rfl) rfl trivial)⟩)⟩
  ·have g1 : decide (x.1 = a.var) = true := by simpa using g1
   refine gA rfl ?_
   exact ⟨j, x, hx, hj, more (by rw [g1]; simp), [], zW (hM rfl rfl rfl ⟨⟨_, rfl, .of_eq rfl⟩, Nat.le_of_ble_eq_true rfl, rfl, ⟨_, rfl, .of_eq rfl⟩, Nat.le_of_ble_eq_true rfl, rfl, zK (hI rfl rfl (.inr rfl) rfl trivial)⟩)⟩
def newV (may : Expr → Bool) (more : Agg → Bool) (occ : List Str) (l : Lit) : Option Str :=
 if (copB may occ l).2 = true then some (copB may occ l).1 else if l.kind = 4 ∧ inL occ l.avar = false ∧ more l.agg = true then some l.avar else none
def firstV (may : Expr → Bool) (more : Agg → Bool) (occ : List Str) : List Lit → Option Str
 | [] => none
 | l :: r => match newV may more occ l with
  | some v => some v
  | none => firstV may more occ r
def closedN (may : List Str → Expr → Bool) (more : List Str → Agg → Bool) (body : List Lit) : Nat → List Str → List Str
 | 0, occ => occ
 | n + 1, occ => match firstV (may occ) (more occ) occ body with
  | some v => closedN may more body n (occ ++ [v])
  | none => occ
def posOcc (l : Lit) : List Str := if l.kind = 1 then atomOcc l.atom else []
def closedL (may : List Str → Expr → Bool) (more : List Str → Agg → Bool) (body : List Lit) (occ : List Str) : List Str := closedN may more body (3 * body.length + 1) (occ ++ body.flatMap posOcc)
theorem closedN_some {may : List Str → Expr → Bool} {more : List Str → Agg → Bool} {body : List Lit} {n : Nat} {occ : List Str} {v : Str} (h : firstV (may occ) (more occ) occ body = some v) : closedN may more body (n + 1) occ = closedN may more body n (occ ++ [v]) := by
 simp only [closedN, h]
theorem closedN_none {may : List Str → Expr → Bool} {more : List Str → Agg → Bool} {body : List Lit} {n : Nat} {occ : List Str} (h : firstV (may occ) (more occ) occ body = none) : closedN may more body (n + 1) occ = occ := by
 simp only [closedN, h]
theorem firstV_append {may : Expr → Bool} {more : Agg → Bool} {occ : List Str} : ∀ {l m : List Lit}, firstV may more occ l = none → firstV may more occ (l ++ m) = firstV may more occ m
 | [], _, _ => rfl
 | x :: r, m, h => by
  simp only [firstV] at h
  split at h
  ·cases h
  ·rename_i h1
   simp only [List.cons_append, firstV, h1]
   exact firstV_append h
theorem firstV_step {may : Expr → Bool} {more : Agg → Bool} {occ : List Str} {l : List Lit} {i : Nat} (h : firstV may more occ (l.take i) = none) (hi : i < l.length) (hx : newV may more occ (l.getD i default) = none) : firstV may more occ (l.take (i + 1)) = none := by
 rw [take_step hi, firstV_append h]; simp only [firstV, hx]
theorem firstV_hit {may : Expr → Bool} {more : Agg → Bool} {occ : List Str} {l : List Lit} {i : Nat} {v : Str} (h : firstV may more occ (l.take i) = none) (hi : i < l.length) (hx : newV may more occ (l.getD i default) = some v) : firstV may more occ l = some v := by
 have e : l = l.take i ++ (l.getD i default :: l.drop (i + 1)) := by
  rw [List.getD_eq_getElem?_getD, List.getElem?_eq_getElem hi, Option.getD_some, List.getElem_cons_drop, List.take_append_drop]
 rw [e, firstV_append h]
 simp only [firstV, hx]
theorem newV_new {may : Expr → Bool} {more : Agg → Bool} {occ : List Str} {l : Lit} {v : Str} (h : newV may more occ l = some v) : v ∈ [l.left.var, l.right.var, l.avar] ∧ v ∉ occ := by
 unfold newV at h
 split at h
 ·rename_i h1
  simp only [Option.some.injEq] at h
  subst h
  unfold copB at h1 ⊢
  split at h1
  ·cases h1
  ·rename_i h0
   rw [if_neg h0]
   split at h1
   ·rename_i h2; rw [if_pos h2]; exact ⟨by simp, inL_false.1 h2.2.1⟩
   ·rename_i h2
    rw [if_neg h2]
    split at h1
    ·rename_i h3; rw [if_pos h3]; exact ⟨by simp, inL_false.1 h3.2.1⟩
    ·cases h1
 ·split at h
  ·rename_i h2
   simp only [Option.some.injEq] at h
   subst h
   exact ⟨by simp, inL_false.1 h2.2.1⟩
  ·cases h
theorem firstV_new {may : Expr → Bool} {more : Agg → Bool} {occ : List Str} {v : Str} : ∀ {l : List Lit}, firstV may more occ l = some v → v ∈ cands l ∧ v ∉ occ
 | [], h => by cases h
 | x :: r, h => by
  simp only [firstV] at h
  split at h
  ·rename_i w hw
   simp only [Option.some.injEq] at h
   subst h
   obtain ⟨h1, h2⟩ := newV_new hw
   exact ⟨cands_mem List.mem_cons_self h1, h2⟩
  ·obtain ⟨h1, h2⟩ := firstV_new h
   refine ⟨?_, h2⟩
   simp only [cands, List.flatMap_cons, List.mem_append] at h1 ⊢
   exact .inr h1
theorem posOcc_len : ∀ l : List Lit, (l.flatMap posOcc).length ≤ Lit.sizes l
 | [] => by simp
 | e :: r => by
  have h2 := posOcc_len r
  have h3 : (posOcc e).length ≤ e.size := by
   have := atomOcc_len e.atom
   have := e.size_eq
   unfold posOcc
   split
   ·omega
   ·simp
  rw [List.flatMap_cons, List.length_append]
  simp only [Lit.sizes]; omega
theorem d130A (occ : List Str) (l : Lit) (hb : l.size ≤ 100000000000) : Det Tryz.prog 130 [ag l.c, .clo (.func 125) [.mp 0] [], .mp 0] [nmO (occM occ)] (.tup [pS (copB (coversB occ) occ l).1, pB (copB (coversB occ) occ l).2]) [(0, some (nmO (occM occ)))] 1 := by
 have hsz := l.size_eq
 have hl1 := occM_lk occ l.left.var
 have hl2 := occM_lk occ l.right.var
 refine det_end tyA_ok Tryz.func130 rfl (by decide) Tryz.ntmps130 rfl (by simp) ?_
 refine gA rfl (zI (fun h1 => ?_) fun h1 => ?_)
 rotate_left
 ·have h1 : ¬ l.kind = 3 := by simpa using h1
  refine gA rfl (end_det [] (by first | exact .inr rfl | exact .inl rfl) rfl (zM ⟨.of_eq (tupE (a := (ByteArray.empty, false)) (by rw [copB, if_pos (.inl h1)])), rfl, trivial⟩ (hM rfl rfl rfl trivial)))
 have h1 : l.kind = 3 := by simpa using h1
 refine gA rfl (zI (fun h2 => ?_) fun h2 => ?_)
 ·have h2 : ¬ l.op = 1 := by simpa using h2
  refine gA rfl (end_det [] (by first | exact .inr rfl | exact .inl rfl) rfl (zM ⟨.of_eq (tupE (a := (ByteArray.empty, false)) (by rw [copB, if_pos (.inr h2)])), rfl, trivial⟩ (hM rfl rfl rfl trivial)))
 have h2 : l.op = 1 := by simpa using h2
 have e1 : copB (coversB occ) occ l = if l.left.kind = 1 ∧ inL occ l.left.var = false ∧ (coversB occ) l.right = true then (l.left.var, true) else if l.right.kind = 1 ∧ inL occ l.right.var = false ∧ (coversB occ) l.left = true then (l.right.var, true) else (ByteArray.empty, false) := by
  rw [copB, if_neg (by simp [h1, h2])]
 repeat' (first
  | (refine gA rfl (zI (fun _ => ?_) (fun _ => ?_)))
  | (refine gA rfl (go_det [0] (d125 occ l.left (by omega)) rfl rfl rfl rfl rfl rfl rfl rfl ?_))
  | (refine gA rfl (go_det [0] (d125 occ l.right (by omega)) rfl rfl rfl rfl rfl rfl rfl rfl ?_))
  | fail)
 all_goals first
  | (refine gA rfl (end_det [] (.inr rfl) rfl (zM ⟨.of_eq (tupE (a := (ByteArray.empty, false)) ?_), rfl, trivial⟩ (hM rfl rfl rfl trivial))); rw [e1]; simp only [inL_cnt] at *; simp_all; done)
  | (refine gA rfl (end_det [] (.inr rfl) rfl (zM ⟨.of_eq (tupE (a := (l.left.var, true)) ?_), rfl, trivial⟩ (hM rfl rfl rfl trivial))); rw [e1]; simp only [inL_cnt] at *; simp_all; done)
  | (refine gA rfl (end_det [] (.inr rfl) rfl (zM ⟨.of_eq (tupE (a := (l.right.var, true)) ?_), rfl, trivial⟩ (hM rfl rfl rfl trivial))); rw [e1]; simp only [inL_cnt] at *; simp_all; done)
  | (exfalso; simp_all; done)
theorem d75A (occ : List Str) (body : List Lit) (hb : occ.length + 8 * Lit.sizes body ≤ 100000000000) : Det Tryz.prog 75 [.iv (lits body), .mp 0, .clo (.func 125) [.mp 0] [], .clo (.func 193) [] []] [nmO (occM occ)] (.tup []) [(0, some (nmO (occM (closedL (fun occ => coversB occ) (fun _occ => fun _ => false) body occ))))] 1 := by
 have hal := Lit.length_sizes body
 have hpl := posOcc_len body
 have hcl := cands_len body
 have hml := miss_le (cands body) (occ ++ body.flatMap posOcc)
 refine det_end tyA_ok Tryz.func75 rfl (by decide) Tryz.ntmps75 rfl (by simp) ?_
 refine gA rfl ?_
 refine go_for 0 body.length (Nat.zero_le _) (fun i => ⟨[(0, .iv (lits body)), (1, .mp 0), (2, .clo (.func 125) [.mp 0] []), (3, .clo (.func 193) [] []), (14, .iv (lits body)), (15, pI body.length), (16, pI i)], [(0, some (nmO (occM (occ ++ (body.take i).flatMap posOcc))))], 1⟩) (fun _ => True) [] trivial
  (zW (hM rfl (by simp) rfl trivial)) fun i hi _ => ?_
 refine gA rfl (zI (fun h1 => ?_) fun h1 => ?_)
 ·have h1 : i < body.length := by simpa using h1
  have hs := flatMap_step (f := posOcc) h1
  have hn := Lit.sizes_next body i h1
  have hv := posOcc_len (body.take i)
  have hsz := (body.getD i default).size_eq
  refine gA rfl (zI (fun h2 => ?_) fun h2 => ?_)
  ·have h2 : (body.getD i default).kind = 1 := by simpa using h2
   rw [show posOcc (body.getD i default) = _ from if_pos h2] at hs
   refine gA rfl (zq [0] (d88 (occ ++ (body.take i).flatMap posOcc) (body.getD i default).atom (by rw [List.length_append]; omega)) ?_)
   refine gA rfl ?_
   exact ⟨h1, trivial, [], zW (hM rfl (by rw [hs, List.append_assoc]) rfl trivial)⟩
  ·have h2 : ¬ (body.getD i default).kind = 1 := by simpa using h2
   rw [show posOcc (body.getD i default) = _ from if_neg h2, List.append_nil] at hs
   refine gA rfl ?_
   exact ⟨h1, trivial, [], zW (hM rfl (by rw [hs]) rfl trivial)⟩
 have h1 : body.length ≤ i := by simpa using h1
 have e0 : body.take i = body := List.take_of_length_le h1
 rw [e0]
 refine gA rfl ?_
 refine go_lp (σ := { x : List Str × Nat // closedL (fun occ => coversB occ) (fun occ => fun _ => false) body occ = closedN (fun occ => coversB occ) (fun occ => fun _ => false) body (x.2 + 1) x.1 ∧ miss (cands body) x.1 ≤ x.2 ∧ x.1.length + miss (cands body) x.1 ≤ (occ ++ body.flatMap posOcc).length + miss (cands body) (occ ++ body.flatMap posOcc) })
  (fun x => ⟨[(0, .iv (lits body)), (1, .mp 0), (2, .clo (.func 125) [.mp 0] []), (3, .clo (.func 193) [] [])], [(0, some (nmO (occM x.1.1)))], 1⟩) (fun x => miss (cands body) x.1.1)
  ⟨(occ ++ body.flatMap posOcc, 3 * body.length), rfl, by dsimp only; omega, Nat.le_refl _⟩ [] (zW (hM rfl rfl rfl trivial)) ?_
 rintro ⟨⟨ok, f⟩, hx1, hx2, hx3⟩
 dsimp only at hx1 hx2 hx3 ⊢
 rw [List.length_append] at hx3
 refine gA rfl ?_
 refine go_for 0 body.length (Nat.zero_le _) (fun i => ⟨[(0, .iv (lits body)), (1, .mp 0), (2, .clo (.func 125) [.mp 0] []), (3, .clo (.func 193) [] []), (28, .iv (lits body)), (29, pI body.length), (30, pI i)], [(0, some (nmO (occM ok)))], 1⟩) (fun i => firstV ((fun occ => coversB occ) ok) ((fun occ => fun _ => false) ok) ok (body.take i) = none) [] rfl
  (zW (hM rfl rfl rfl trivial)) fun i hi hJ => ?_
 refine gA rfl (zI (fun h3 => ?_) fun h3 => ?_)
 ·have h3 : i < body.length := by simpa using h3
  have hsl := Lit.sizes_get body i h3
  have hag := (body.getD i default).agg_size
  have found : ∀ v, newV ((fun occ => coversB occ) ok) ((fun occ => fun _ => false) ok) ok (body.getD i default) = some v → closedL (fun occ => coversB occ) (fun occ => fun _ => false) body occ = closedN (fun occ => coversB occ) (fun occ => fun _ => false) body (f - 1 + 1) (ok ++ [v]) ∧ miss (cands body) (ok ++ [v]) ≤ f - 1 ∧
    (ok ++ [v]).length + miss (cands body) (ok ++ [v]) ≤ (occ ++ body.flatMap posOcc).length + miss (cands body) (occ ++ body.flatMap posOcc) ∧ miss (cands body) (ok ++ [v]) < miss (cands body) ok := by
   intro v hv
   have hf := firstV_hit hJ h3 hv
   obtain ⟨g1, g2⟩ := firstV_new hf
   have hlt := miss_lt g1 g2
   have hlt2 : miss (cands body) (ok ++ [v]) = miss (cands body) (withL ok v) := by
    unfold miss
    congr 2
    funext x
    congr 1
    rw [Bool.eq_iff_iff, inL_iff, inL_iff, mem_withL, List.mem_append, List.mem_singleton]
   have hf1 : f - 1 + 1 = f := by omega
   refine ⟨?_, by omega, ?_, by omega⟩
   ·rw [hx1, closedN_some hf, hf1]
   ·rw [List.length_append, List.length_append, List.length_singleton]; omega
  have hlk1 := occM_lk ok (copB (coversB ok) ok (body.getD i default)).1
  have hct1 := cntL_le ok (copB (coversB ok) ok (body.getD i default)).1
  have hlk2 := occM_lk ok (body.getD i default).avar
  have hct2 := cntL_le ok (body.getD i default).avar
  refine gA rfl (zq [0] (d130A  ok (body.getD i default) (by omega)) ?_)
  refine gA rfl (zI (fun h4 => ?_) fun h4 => ?_)
  ·obtain ⟨g1, g2, g3, g4⟩ := found _ (if_pos h4)
   refine gA rfl ?_
   exact ⟨⟨(_, f - 1), g1, g2, g3⟩, [], g4, zW (hM rfl (by dsimp only; rw [occM_snoc]; rfl) rfl trivial)⟩
  ·refine gA rfl (zI (fun h5 => ?_) fun h5 => ?_)
   ·have h5 : (body.getD i default).kind = 4 := by simpa using h5
    refine gA rfl (zI (fun h6 => ?_) fun h6 => ?_)
    ·have h6 : inL ok (body.getD i default).avar = false := by rw [inL_cnt]; simpa using h6
     refine gA rfl (zp (c193 (body.getD i default).agg) ?_)
     refine gA rfl (zI (fun h7 => ?_) fun h7 => ?_)
     ·obtain ⟨g1, g2, g3, g4⟩ := found _ ((if_neg (by rw [h4]; simp)).trans (if_pos ⟨h5, h6, h7⟩))
      refine gA rfl ?_
      exact ⟨⟨(_, f - 1), g1, g2, g3⟩, [], g4, zW (hM rfl (by dsimp only; rw [occM_snoc]; rfl) rfl trivial)⟩
     ·refine gA rfl ?_
      exact ⟨h3, firstV_step hJ h3 ((if_neg (by rw [h4]; simp)).trans (if_neg (fun h => nomatch (h.2.2.symm.trans h7)))), [], zW (hM rfl rfl rfl trivial)⟩
    ·have h6 : inL ok (body.getD i default).avar = true := by rw [inL_cnt]; simpa using h6
     refine gA rfl ?_
     exact ⟨h3, firstV_step hJ h3 ((if_neg (by rw [h4]; simp)).trans (if_neg (by rw [h6]; simp))), [], zW (hM rfl rfl rfl trivial)⟩
   ·have h5 : ¬ (body.getD i default).kind = 4 := by simpa using h5
    refine gA rfl ?_
    exact ⟨h3, firstV_step hJ h3 ((if_neg (by rw [h4]; simp)).trans (if_neg (fun h => h5 h.1))), [], zW (hM rfl rfl rfl trivial)⟩
 ·have h3 : body.length ≤ i := by simpa using h3
  rw [List.take_of_length_le h3] at hJ
  have hcl2 : closedL (fun occ => coversB occ) (fun occ => fun _ => false) body occ = ok := by rw [hx1, closedN_none hJ]
  refine gA rfl (end_det [] (by first | exact .inr rfl | exact .inl rfl) rfl (zW (hM rfl (by rw [hcl2]) rfl trivial)))
theorem d130B (occ : List Str) (l : Lit) (hb : l.size ≤ 100000000000) : Det Tryz.prog 130 [ag l.c, .clo (.func 76) [] [.ptr 1 0], .mp 0] [nmO (occM occ), .cells [.mp 0]] (.tup [pS (copB (plainB occ) occ l).1, pB (copB (plainB occ) occ l).2]) [(0, some (nmO (occM occ))), (1, some (.cells [.mp 0]))] 2 := by
 have hsz := l.size_eq
 have hl1 := occM_lk occ l.left.var
 have hl2 := occM_lk occ l.right.var
 refine det_end tyA_ok Tryz.func130 rfl (by decide) Tryz.ntmps130 rfl (by simp) ?_
 refine gA rfl (zI (fun h1 => ?_) fun h1 => ?_)
 rotate_left
 ·have h1 : ¬ l.kind = 3 := by simpa using h1
  refine gA rfl (end_det [] (by first | exact .inr rfl | exact .inl rfl) rfl (zM ⟨.of_eq (tupE (a := (ByteArray.empty, false)) (by rw [copB, if_pos (.inl h1)])), rfl, trivial⟩ (hM rfl rfl rfl (zO trivial))))
 have h1 : l.kind = 3 := by simpa using h1
 refine gA rfl (zI (fun h2 => ?_) fun h2 => ?_)
 ·have h2 : ¬ l.op = 1 := by simpa using h2
  refine gA rfl (end_det [] (by first | exact .inr rfl | exact .inl rfl) rfl (zM ⟨.of_eq (tupE (a := (ByteArray.empty, false)) (by rw [copB, if_pos (.inr h2)])), rfl, trivial⟩ (hM rfl rfl rfl (zO trivial))))
 have h2 : l.op = 1 := by simpa using h2
 have e1 : copB (plainB occ) occ l = if l.left.kind = 1 ∧ inL occ l.left.var = false ∧ (plainB occ) l.right = true then (l.left.var, true) else if l.right.kind = 1 ∧ inL occ l.right.var = false ∧ (plainB occ) l.left = true then (l.right.var, true) else (ByteArray.empty, false) := by
  rw [copB, if_neg (by simp [h1, h2])]
 repeat' (first
  | (refine gA rfl (zI (fun _ => ?_) (fun _ => ?_)))
  | (refine gA rfl (go_det [0, 1] (d76 occ l.left (by omega)) rfl rfl rfl rfl rfl rfl rfl rfl ?_))
  | (refine gA rfl (go_det [0, 1] (d76 occ l.right (by omega)) rfl rfl rfl rfl rfl rfl rfl rfl ?_))
  | fail)
 all_goals first
  | (refine gA rfl (end_det [] (.inr rfl) rfl (zM ⟨.of_eq (tupE (a := (ByteArray.empty, false)) ?_), rfl, trivial⟩ (hM rfl rfl rfl (zO trivial)))); rw [e1]; simp only [inL_cnt] at *; simp_all; done)
  | (refine gA rfl (end_det [] (.inr rfl) rfl (zM ⟨.of_eq (tupE (a := (l.left.var, true)) ?_), rfl, trivial⟩ (hM rfl rfl rfl (zO trivial)))); rw [e1]; simp only [inL_cnt] at *; simp_all; done)
  | (refine gA rfl (end_det [] (.inr rfl) rfl (zM ⟨.of_eq (tupE (a := (l.right.var, true)) ?_), rfl, trivial⟩ (hM rfl rfl rfl (zO trivial)))); rw [e1]; simp only [inL_cnt] at *; simp_all; done)
  | (exfalso; simp_all; done)
theorem d75B (occ : List Str) (body : List Lit) (hb : occ.length + 8 * Lit.sizes body ≤ 100000000000) : Det Tryz.prog 75 [.iv (lits body), .mp 0, .clo (.func 76) [] [.ptr 1 0], .clo (.func 77) [] []] [nmO (occM occ), .cells [.mp 0]] (.tup []) [(0, some (nmO (occM (closedL (fun occ => plainB occ) (fun _occ => fun _ => false) body occ)))), (1, some (.cells [.mp 0]))] 2 := by
 have hal := Lit.length_sizes body
 have hpl := posOcc_len body
 have hcl := cands_len body
 have hml := miss_le (cands body) (occ ++ body.flatMap posOcc)
 refine det_end tyA_ok Tryz.func75 rfl (by decide) Tryz.ntmps75 rfl (by simp) ?_
 refine gA rfl ?_
 refine go_for 0 body.length (Nat.zero_le _) (fun i => ⟨[(0, .iv (lits body)), (1, .mp 0), (2, .clo (.func 76) [] [.ptr 1 0]), (3, .clo (.func 77) [] []), (14, .iv (lits body)), (15, pI body.length), (16, pI i)], [(0, some (nmO (occM (occ ++ (body.take i).flatMap posOcc)))), (1, some (.cells [.mp 0]))], 2⟩) (fun _ => True) [] trivial
  (zW (hM rfl (by simp) rfl (zO trivial))) fun i hi _ => ?_
 refine gA rfl (zI (fun h1 => ?_) fun h1 => ?_)
 ·have h1 : i < body.length := by simpa using h1
  have hs := flatMap_step (f := posOcc) h1
  have hn := Lit.sizes_next body i h1
  have hv := posOcc_len (body.take i)
  have hsz := (body.getD i default).size_eq
  refine gA rfl (zI (fun h2 => ?_) fun h2 => ?_)
  ·have h2 : (body.getD i default).kind = 1 := by simpa using h2
   rw [show posOcc (body.getD i default) = _ from if_pos h2] at hs
   refine gA rfl (zq [0] (d88 (occ ++ (body.take i).flatMap posOcc) (body.getD i default).atom (by rw [List.length_append]; omega)) ?_)
   refine gA rfl ?_
   exact ⟨h1, trivial, [], zW (hM rfl (by rw [hs, List.append_assoc]) rfl (zO trivial))⟩
  ·have h2 : ¬ (body.getD i default).kind = 1 := by simpa using h2
   rw [show posOcc (body.getD i default) = _ from if_neg h2, List.append_nil] at hs
   refine gA rfl ?_
   exact ⟨h1, trivial, [], zW (hM rfl (by rw [hs]) rfl (zO trivial))⟩
 have h1 : body.length ≤ i := by simpa using h1
 have e0 : body.take i = body := List.take_of_length_le h1
 rw [e0]
 refine gA rfl ?_
 refine go_lp (σ := { x : List Str × Nat // closedL (fun occ => plainB occ) (fun occ => fun _ => false) body occ = closedN (fun occ => plainB occ) (fun occ => fun _ => false) body (x.2 + 1) x.1 ∧ miss (cands body) x.1 ≤ x.2 ∧ x.1.length + miss (cands body) x.1 ≤ (occ ++ body.flatMap posOcc).length + miss (cands body) (occ ++ body.flatMap posOcc) })
  (fun x => ⟨[(0, .iv (lits body)), (1, .mp 0), (2, .clo (.func 76) [] [.ptr 1 0]), (3, .clo (.func 77) [] [])], [(0, some (nmO (occM x.1.1))), (1, some (.cells [.mp 0]))], 2⟩) (fun x => miss (cands body) x.1.1)
  ⟨(occ ++ body.flatMap posOcc, 3 * body.length), rfl, by dsimp only; omega, Nat.le_refl _⟩ [] (zW (hM rfl rfl rfl (zO trivial))) ?_
 rintro ⟨⟨ok, f⟩, hx1, hx2, hx3⟩
 dsimp only at hx1 hx2 hx3 ⊢
 rw [List.length_append] at hx3
 refine gA rfl ?_
 refine go_for 0 body.length (Nat.zero_le _) (fun i => ⟨[(0, .iv (lits body)), (1, .mp 0), (2, .clo (.func 76) [] [.ptr 1 0]), (3, .clo (.func 77) [] []), (28, .iv (lits body)), (29, pI body.length), (30, pI i)], [(0, some (nmO (occM ok))), (1, some (.cells [.mp 0]))], 2⟩) (fun i => firstV ((fun occ => plainB occ) ok) ((fun occ => fun _ => false) ok) ok (body.take i) = none) [] rfl
  (zW (hM rfl rfl rfl (zO trivial))) fun i hi hJ => ?_
 refine gA rfl (zI (fun h3 => ?_) fun h3 => ?_)
 ·have h3 : i < body.length := by simpa using h3
  have hsl := Lit.sizes_get body i h3
  have hag := (body.getD i default).agg_size
  have found : ∀ v, newV ((fun occ => plainB occ) ok) ((fun occ => fun _ => false) ok) ok (body.getD i default) = some v → closedL (fun occ => plainB occ) (fun occ => fun _ => false) body occ = closedN (fun occ => plainB occ) (fun occ => fun _ => false) body (f - 1 + 1) (ok ++ [v]) ∧ miss (cands body) (ok ++ [v]) ≤ f - 1 ∧
    (ok ++ [v]).length + miss (cands body) (ok ++ [v]) ≤ (occ ++ body.flatMap posOcc).length + miss (cands body) (occ ++ body.flatMap posOcc) ∧ miss (cands body) (ok ++ [v]) < miss (cands body) ok := by
   intro v hv
   have hf := firstV_hit hJ h3 hv
   obtain ⟨g1, g2⟩ := firstV_new hf
   have hlt := miss_lt g1 g2
   have hlt2 : miss (cands body) (ok ++ [v]) = miss (cands body) (withL ok v) := by
    unfold miss
    congr 2
    funext x
    congr 1
    rw [Bool.eq_iff_iff, inL_iff, inL_iff, mem_withL, List.mem_append, List.mem_singleton]
   have hf1 : f - 1 + 1 = f := by omega
   refine ⟨?_, by omega, ?_, by omega⟩
   ·rw [hx1, closedN_some hf, hf1]
   ·rw [List.length_append, List.length_append, List.length_singleton]; omega
  have hlk1 := occM_lk ok (copB (plainB ok) ok (body.getD i default)).1
  have hct1 := cntL_le ok (copB (plainB ok) ok (body.getD i default)).1
  have hlk2 := occM_lk ok (body.getD i default).avar
  have hct2 := cntL_le ok (body.getD i default).avar
  refine gA rfl (zq [0, 1] (d130B  ok (body.getD i default) (by omega)) ?_)
  refine gA rfl (zI (fun h4 => ?_) fun h4 => ?_)
  ·obtain ⟨g1, g2, g3, g4⟩ := found _ (if_pos h4)
   refine gA rfl ?_
   exact ⟨⟨(_, f - 1), g1, g2, g3⟩, [], g4, zW (hM rfl (by dsimp only; rw [occM_snoc]; rfl) rfl (zO trivial))⟩
  ·refine gA rfl (zI (fun h5 => ?_) fun h5 => ?_)
   ·have h5 : (body.getD i default).kind = 4 := by simpa using h5
    refine gA rfl (zI (fun h6 => ?_) fun h6 => ?_)
    ·have h6 : inL ok (body.getD i default).avar = false := by rw [inL_cnt]; simpa using h6
     refine gA rfl (zp (c77 (body.getD i default).agg) ?_)
     refine gA rfl (zI (fun h7 => ?_) fun h7 => ?_)
     ·obtain ⟨g1, g2, g3, g4⟩ := found _ ((if_neg (by rw [h4]; simp)).trans (if_pos ⟨h5, h6, h7⟩))
      refine gA rfl ?_
      exact ⟨⟨(_, f - 1), g1, g2, g3⟩, [], g4, zW (hM rfl (by dsimp only; rw [occM_snoc]; rfl) rfl (zO trivial))⟩
     ·refine gA rfl ?_
      exact ⟨h3, firstV_step hJ h3 ((if_neg (by rw [h4]; simp)).trans (if_neg (fun h => nomatch (h.2.2.symm.trans h7)))), [], zW (hM rfl rfl rfl (zO trivial))⟩
    ·have h6 : inL ok (body.getD i default).avar = true := by rw [inL_cnt]; simpa using h6
     refine gA rfl ?_
     exact ⟨h3, firstV_step hJ h3 ((if_neg (by rw [h4]; simp)).trans (if_neg (by rw [h6]; simp))), [], zW (hM rfl rfl rfl (zO trivial))⟩
   ·have h5 : ¬ (body.getD i default).kind = 4 := by simpa using h5
    refine gA rfl ?_
    exact ⟨h3, firstV_step hJ h3 ((if_neg (by rw [h4]; simp)).trans (if_neg (fun h => h5 h.1))), [], zW (hM rfl rfl rfl (zO trivial))⟩
 ·have h3 : body.length ≤ i := by simpa using h3
  rw [List.take_of_length_le h3] at hJ
  have hcl2 : closedL (fun occ => plainB occ) (fun occ => fun _ => false) body occ = ok := by rw [hx1, closedN_none hJ]
  refine gA rfl (end_det [] (by first | exact .inr rfl | exact .inl rfl) rfl (zW (hM rfl (by rw [hcl2]) rfl (zO trivial))))
theorem d130C (r : Rule) (occ : List Str) (l : Lit) (hb : l.size ≤ 100000000000) : Det Tryz.prog 130 [ag l.c, .clo (.func 125) [.mp 0] [], .mp 0] [nmO (occM occ), .cells [.iv (bookI r)], .cells [.mp 0]] (.tup [pS (copB (coversB occ) occ l).1, pB (copB (coversB occ) occ l).2]) [(0, some (nmO (occM occ))), (1, some (.cells [.iv (bookI r)])), (2, some (.cells [.mp 0]))] 3 := by
 have hsz := l.size_eq
 have hl1 := occM_lk occ l.left.var
 have hl2 := occM_lk occ l.right.var
 refine det_end tyA_ok Tryz.func130 rfl (by decide) Tryz.ntmps130 rfl (by simp) ?_
 refine gA rfl (zI (fun h1 => ?_) fun h1 => ?_)
 rotate_left
 ·have h1 : ¬ l.kind = 3 := by simpa using h1
  refine gA rfl (end_det [] (by first | exact .inr rfl | exact .inl rfl) rfl (zM ⟨.of_eq (tupE (a := (ByteArray.empty, false)) (by rw [copB, if_pos (.inl h1)])), rfl, trivial⟩ (hM rfl rfl rfl ⟨⟨_, rfl, .of_eq rfl⟩, Nat.le_of_ble_eq_true rfl, rfl, ⟨_, rfl, .of_eq rfl⟩, Nat.le_of_ble_eq_true rfl, rfl, trivial⟩)))
 have h1 : l.kind = 3 := by simpa using h1
 refine gA rfl (zI (fun h2 => ?_) fun h2 => ?_)
 ·have h2 : ¬ l.op = 1 := by simpa using h2
  refine gA rfl (end_det [] (by first | exact .inr rfl | exact .inl rfl) rfl (zM ⟨.of_eq (tupE (a := (ByteArray.empty, false)) (by rw [copB, if_pos (.inr h2)])), rfl, trivial⟩ (hM rfl rfl rfl ⟨⟨_, rfl, .of_eq rfl⟩, Nat.le_of_ble_eq_true rfl, rfl, ⟨_, rfl, .of_eq rfl⟩, Nat.le_of_ble_eq_true rfl, rfl, trivial⟩)))
 have h2 : l.op = 1 := by simpa using h2
 have e1 : copB (coversB occ) occ l = if l.left.kind = 1 ∧ inL occ l.left.var = false ∧ (coversB occ) l.right = true then (l.left.var, true) else if l.right.kind = 1 ∧ inL occ l.right.var = false ∧ (coversB occ) l.left = true then (l.right.var, true) else (ByteArray.empty, false) := by
  rw [copB, if_neg (by simp [h1, h2])]
 repeat' (first
  | (refine gA rfl (zI (fun _ => ?_) (fun _ => ?_)))
  | (refine gA rfl (go_det [0] (d125 occ l.left (by omega)) rfl rfl rfl rfl rfl rfl rfl rfl ?_))
  | (refine gA rfl (go_det [0] (d125 occ l.right (by omega)) rfl rfl rfl rfl rfl rfl rfl rfl ?_))
  | fail)
 all_goals first
  | (refine gA rfl (end_det [] (.inr rfl) rfl (zM ⟨.of_eq (tupE (a := (ByteArray.empty, false)) ?_), rfl, trivial⟩ (hM rfl rfl rfl ⟨⟨_, rfl, .of_eq rfl⟩, Nat.le_of_ble_eq_true rfl, rfl, ⟨_, rfl, .of_eq rfl⟩, Nat.le_of_ble_eq_true rfl, rfl, trivial⟩))); rw [e1]; simp only [inL_cnt] at *; simp_all; done)
  | (refine gA rfl (end_det [] (.inr rfl) rfl (zM ⟨.of_eq (tupE (a := (l.left.var, true)) ?_), rfl, trivial⟩ (hM rfl rfl rfl ⟨⟨_, rfl, .of_eq rfl⟩, Nat.le_of_ble_eq_true rfl, rfl, ⟨_, rfl, .of_eq rfl⟩, Nat.le_of_ble_eq_true rfl, rfl, trivial⟩))); rw [e1]; simp only [inL_cnt] at *; simp_all; done)
  | (refine gA rfl (end_det [] (.inr rfl) rfl (zM ⟨.of_eq (tupE (a := (l.right.var, true)) ?_), rfl, trivial⟩ (hM rfl rfl rfl ⟨⟨_, rfl, .of_eq rfl⟩, Nat.le_of_ble_eq_true rfl, rfl, ⟨_, rfl, .of_eq rfl⟩, Nat.le_of_ble_eq_true rfl, rfl, trivial⟩))); rw [e1]; simp only [inL_cnt] at *; simp_all; done)
  | (exfalso; simp_all; done)
theorem d75C (r : Rule) (occ : List Str) (body : List Lit) (hb : occ.length + 8 * Lit.sizes body ≤ 100000000000) : Det Tryz.prog 75 [.iv (lits body), .mp 0, .clo (.func 125) [.mp 0] [], .clo (.func 126) [] [.ptr 1 0, .ptr 2 0]] [nmO (occM occ), .cells [.iv (bookI r)], .cells [.mp 0]] (.tup []) [(0, some (nmO (occM (closedL (fun occ => coversB occ) (fun occ => moreB (outerOcc r) occ) body occ)))), (1, some (.cells [.iv (bookI r)])), (2, some (.cells [.mp 0]))] 3 := by
 have hal := Lit.length_sizes body
 have hpl := posOcc_len body
 have hcl := cands_len body
 have hml := miss_le (cands body) (occ ++ body.flatMap posOcc)
 refine det_end tyA_ok Tryz.func75 rfl (by decide) Tryz.ntmps75 rfl (by simp) ?_
 refine gA rfl ?_
 refine go_for 0 body.length (Nat.zero_le _) (fun i => ⟨[(0, .iv (lits body)), (1, .mp 0), (2, .clo (.func 125) [.mp 0] []), (3, .clo (.func 126) [] [.ptr 1 0, .ptr 2 0]), (14, .iv (lits body)), (15, pI body.length), (16, pI i)], [(0, some (nmO (occM (occ ++ (body.take i).flatMap posOcc)))), (1, some (.cells [.iv (bookI r)])), (2, some (.cells [.mp 0]))], 3⟩) (fun _ => True) [] trivial
  (zW (hM rfl (by simp) rfl ⟨⟨_, rfl, .of_eq rfl⟩, Nat.le_of_ble_eq_true rfl, rfl, ⟨_, rfl, .of_eq rfl⟩, Nat.le_of_ble_eq_true rfl, rfl, trivial⟩)) fun i hi _ => ?_
 refine gA rfl (zI (fun h1 => ?_) fun h1 => ?_)
 ·have h1 : i < body.length := by simpa using h1
  have hs := flatMap_step (f := posOcc) h1
  have hn := Lit.sizes_next body i h1
  have hv := posOcc_len (body.take i)
  have hsz := (body.getD i default).size_eq
  refine gA rfl (zI (fun h2 => ?_) fun h2 => ?_)
  ·have h2 : (body.getD i default).kind = 1 := by simpa using h2
   rw [show posOcc (body.getD i default) = _ from if_pos h2] at hs
   refine gA rfl (zq [0] (d88 (occ ++ (body.take i).flatMap posOcc) (body.getD i default).atom (by rw [List.length_append]; omega)) ?_)
   refine gA rfl ?_
   exact ⟨h1, trivial, [], zW (hM rfl (by rw [hs, List.append_assoc]) rfl ⟨⟨_, rfl, .of_eq rfl⟩, Nat.le_of_ble_eq_true rfl, rfl, ⟨_, rfl, .of_eq rfl⟩, Nat.le_of_ble_eq_true rfl, rfl, trivial⟩)⟩
  ·have h2 : ¬ (body.getD i default).kind = 1 := by simpa using h2
   rw [show posOcc (body.getD i default) = _ from if_neg h2, List.append_nil] at hs
   refine gA rfl ?_
   exact ⟨h1, trivial, [], zW (hM rfl (by rw [hs]) rfl ⟨⟨_, rfl, .of_eq rfl⟩, Nat.le_of_ble_eq_true rfl, rfl, ⟨_, rfl, .of_eq rfl⟩, Nat.le_of_ble_eq_true rfl, rfl, trivial⟩)⟩
 have h1 : body.length ≤ i := by simpa using h1
 have e0 : body.take i = body := List.take_of_length_le h1
 rw [e0]
 refine gA rfl ?_
 refine go_lp (σ := { x : List Str × Nat // closedL (fun occ => coversB occ) (fun occ => moreB (outerOcc r) occ) body occ = closedN (fun occ => coversB occ) (fun occ => moreB (outerOcc r) occ) body (x.2 + 1) x.1 ∧ miss (cands body) x.1 ≤ x.2 ∧ x.1.length + miss (cands body) x.1 ≤ (occ ++ body.flatMap posOcc).length + miss (cands body) (occ ++ body.flatMap posOcc) })
  (fun x => ⟨[(0, .iv (lits body)), (1, .mp 0), (2, .clo (.func 125) [.mp 0] []), (3, .clo (.func 126) [] [.ptr 1 0, .ptr 2 0])], [(0, some (nmO (occM x.1.1))), (1, some (.cells [.iv (bookI r)])), (2, some (.cells [.mp 0]))], 3⟩) (fun x => miss (cands body) x.1.1)
  ⟨(occ ++ body.flatMap posOcc, 3 * body.length), rfl, by dsimp only; omega, Nat.le_refl _⟩ [] (zW (hM rfl rfl rfl ⟨⟨_, rfl, .of_eq rfl⟩, Nat.le_of_ble_eq_true rfl, rfl, ⟨_, rfl, .of_eq rfl⟩, Nat.le_of_ble_eq_true rfl, rfl, trivial⟩)) ?_
 rintro ⟨⟨ok, f⟩, hx1, hx2, hx3⟩
 dsimp only at hx1 hx2 hx3 ⊢
 rw [List.length_append] at hx3
 refine gA rfl ?_
 refine go_for 0 body.length (Nat.zero_le _) (fun i => ⟨[(0, .iv (lits body)), (1, .mp 0), (2, .clo (.func 125) [.mp 0] []), (3, .clo (.func 126) [] [.ptr 1 0, .ptr 2 0]), (28, .iv (lits body)), (29, pI body.length), (30, pI i)], [(0, some (nmO (occM ok))), (1, some (.cells [.iv (bookI r)])), (2, some (.cells [.mp 0]))], 3⟩) (fun i => firstV ((fun occ => coversB occ) ok) ((fun occ => moreB (outerOcc r) occ) ok) ok (body.take i) = none) [] rfl
  (zW (hM rfl rfl rfl ⟨⟨_, rfl, .of_eq rfl⟩, Nat.le_of_ble_eq_true rfl, rfl, ⟨_, rfl, .of_eq rfl⟩, Nat.le_of_ble_eq_true rfl, rfl, trivial⟩)) fun i hi hJ => ?_
 refine gA rfl (zI (fun h3 => ?_) fun h3 => ?_)
 ·have h3 : i < body.length := by simpa using h3
  have hsl := Lit.sizes_get body i h3
  have hag := (body.getD i default).agg_size
  have found : ∀ v, newV ((fun occ => coversB occ) ok) ((fun occ => moreB (outerOcc r) occ) ok) ok (body.getD i default) = some v → closedL (fun occ => coversB occ) (fun occ => moreB (outerOcc r) occ) body occ = closedN (fun occ => coversB occ) (fun occ => moreB (outerOcc r) occ) body (f - 1 + 1) (ok ++ [v]) ∧ miss (cands body) (ok ++ [v]) ≤ f - 1 ∧
    (ok ++ [v]).length + miss (cands body) (ok ++ [v]) ≤ (occ ++ body.flatMap posOcc).length + miss (cands body) (occ ++ body.flatMap posOcc) ∧ miss (cands body) (ok ++ [v]) < miss (cands body) ok := by
   intro v hv
   have hf := firstV_hit hJ h3 hv
   obtain ⟨g1, g2⟩ := firstV_new hf
   have hlt := miss_lt g1 g2
   have hlt2 : miss (cands body) (ok ++ [v]) = miss (cands body) (withL ok v) := by
    unfold miss
    congr 2
    funext x
    congr 1
    rw [Bool.eq_iff_iff, inL_iff, inL_iff, mem_withL, List.mem_append, List.mem_singleton]
   have hf1 : f - 1 + 1 = f := by omega
   refine ⟨?_, by omega, ?_, by omega⟩
   ·rw [hx1, closedN_some hf, hf1]
   ·rw [List.length_append, List.length_append, List.length_singleton]; omega
  have hlk1 := occM_lk ok (copB (coversB ok) ok (body.getD i default)).1
  have hct1 := cntL_le ok (copB (coversB ok) ok (body.getD i default)).1
  have hlk2 := occM_lk ok (body.getD i default).avar
  have hct2 := cntL_le ok (body.getD i default).avar
  refine gA rfl (zq [0, 1, 2] (d130C r ok (body.getD i default) (by omega)) ?_)
  refine gA rfl (zI (fun h4 => ?_) fun h4 => ?_)
  ·obtain ⟨g1, g2, g3, g4⟩ := found _ (if_pos h4)
   refine gA rfl ?_
   exact ⟨⟨(_, f - 1), g1, g2, g3⟩, [], g4, zW (hM rfl (by dsimp only; rw [occM_snoc]; rfl) rfl ⟨⟨_, rfl, .of_eq rfl⟩, Nat.le_of_ble_eq_true rfl, rfl, ⟨_, rfl, .of_eq rfl⟩, Nat.le_of_ble_eq_true rfl, rfl, trivial⟩)⟩
  ·refine gA rfl (zI (fun h5 => ?_) fun h5 => ?_)
   ·have h5 : (body.getD i default).kind = 4 := by simpa using h5
    refine gA rfl (zI (fun h6 => ?_) fun h6 => ?_)
    ·have h6 : inL ok (body.getD i default).avar = false := by rw [inL_cnt]; simpa using h6
     refine gA rfl (zq [0, 1, 2] (d126 r ok (body.getD i default).agg (by omega)) ?_)
     refine gA rfl (zI (fun h7 => ?_) fun h7 => ?_)
     ·obtain ⟨g1, g2, g3, g4⟩ := found _ ((if_neg (by rw [h4]; simp)).trans (if_pos ⟨h5, h6, h7⟩))
      refine gA rfl ?_
      exact ⟨⟨(_, f - 1), g1, g2, g3⟩, [], g4, zW (hM rfl (by dsimp only; rw [occM_snoc]; rfl) rfl ⟨⟨_, rfl, .of_eq rfl⟩, Nat.le_of_ble_eq_true rfl, rfl, ⟨_, rfl, .of_eq rfl⟩, Nat.le_of_ble_eq_true rfl, rfl, trivial⟩)⟩
     ·refine gA rfl ?_
      exact ⟨h3, firstV_step hJ h3 ((if_neg (by rw [h4]; simp)).trans (if_neg (fun h => nomatch (h.2.2.symm.trans h7)))), [], zW (hM rfl rfl rfl ⟨⟨_, rfl, .of_eq rfl⟩, Nat.le_of_ble_eq_true rfl, rfl, ⟨_, rfl, .of_eq rfl⟩, Nat.le_of_ble_eq_true rfl, rfl, trivial⟩)⟩
    ·have h6 : inL ok (body.getD i default).avar = true := by rw [inL_cnt]; simpa using h6
     refine gA rfl ?_
     exact ⟨h3, firstV_step hJ h3 ((if_neg (by rw [h4]; simp)).trans (if_neg (by rw [h6]; simp))), [], zW (hM rfl rfl rfl ⟨⟨_, rfl, .of_eq rfl⟩, Nat.le_of_ble_eq_true rfl, rfl, ⟨_, rfl, .of_eq rfl⟩, Nat.le_of_ble_eq_true rfl, rfl, trivial⟩)⟩
   ·have h5 : ¬ (body.getD i default).kind = 4 := by simpa using h5
    refine gA rfl ?_
    exact ⟨h3, firstV_step hJ h3 ((if_neg (by rw [h4]; simp)).trans (if_neg (fun h => h5 h.1))), [], zW (hM rfl rfl rfl ⟨⟨_, rfl, .of_eq rfl⟩, Nat.le_of_ble_eq_true rfl, rfl, ⟨_, rfl, .of_eq rfl⟩, Nat.le_of_ble_eq_true rfl, rfl, trivial⟩)⟩
 ·have h3 : body.length ≤ i := by simpa using h3
  rw [List.take_of_length_le h3] at hJ
  have hcl2 : closedL (fun occ => coversB occ) (fun occ => moreB (outerOcc r) occ) body occ = ok := by rw [hx1, closedN_none hJ]
  refine gA rfl (end_det [] (by first | exact .inr rfl | exact .inl rfl) rfl (zW (hM rfl (by rw [hcl2]) rfl ⟨⟨_, rfl, .of_eq rfl⟩, Nat.le_of_ble_eq_true rfl, rfl, ⟨_, rfl, .of_eq rfl⟩, Nat.le_of_ble_eq_true rfl, rfl, trivial⟩)))
theorem map0_le : AOle .map0 (nmO (occM [])) := ⟨id, fun M N U w j hj => ⟨#[], 0, hj, ⟨rfl, by simp [occM], by simp [occM], by simp, by simp⟩, evI_zero M⟩⟩
def limOcc (r : Rule) : List Str := closedL (fun occ => coversB occ) (fun occ => moreB (outerOcc r) occ) r.body []
theorem d75C0 (r : Rule) (hb : 8 * Lit.sizes r.body ≤ 100000000000) : Det Tryz.prog 75 [.iv (lits r.body), .mp 0, .clo (.func 125) [.mp 0] [], .clo (.func 126) [] [.ptr 1 0, .ptr 2 0]] [.map0, .cells [.iv (bookI r)], .cells [.mp 0]] (.tup []) [(0, some (nmO (occM (limOcc r)))), (1, some (.cells [.iv (bookI r)])), (2, some (.cells [.mp 0]))] 3 :=
 Det.leO (d75C r [] r.body (by simp; omega)) ⟨map0_le, .refl _, .refl _, trivial⟩
theorem d73 (r : Rule) (hb : 8 * r.size ≤ 100000000000) : Det Tryz.prog 73 [.iv (bookI r)] [] (.mp 0) [(0, some (nmO (occM (limOcc r))))] 1 := by
 unfold Rule.size at hb
 refine det_end tyA_ok Tryz.func73 rfl (by decide) Tryz.ntmps73 rfl (by simp) ?_
 refine gA rfl (zd [1, 0, 2] (d75C0 r (by omega)) ?_)
 refine gA rfl (end_det [1] (by first | exact .inr rfl | exact .inl rfl) rfl (zW (hM rfl rfl rfl trivial)))
def NamesR (p : List Str → Prop) (q : PV) (h : AH) (n : Nat) : Prop := ∃ ok, p ok ∧ q = .mp 0 ∧ h = [(0, some (nmO (occM ok)))] ∧ n = 1
def inOut (r : Rule) (a : Agg) (occ : List Str) : Prop := occ.Nodup ∧ ∀ x, x ∈ occ ↔ x ∈ aggOcc a ∧ x ∈ outerOcc r
theorem nodup_len {l m : List Str} (h : l.Nodup) (hs : ∀ x ∈ l, x ∈ m) : l.length ≤ m.length := List.Nodup.length_le_of_subset h hs
theorem aggOcc_len (a : Agg) : (aggOcc a).length ≤ a.size := by
 have h1 := litsOcc_len a.body
 have h2 := exprOcc_len a.of_
 unfold aggOcc Agg.size
 rw [List.length_append]
 split
 ·rw [List.length_nil]; omega
 ·omega
theorem d127' (a : Agg) (hb : a.size ≤ 100000000000) : Det Tryz.prog 127 [ag a.c1] [] (.mp 0) [(0, some (nmO (occM (aggOcc a))))] 1 := Det.le (d127 a (by omega)) ⟨a.le1', trivial⟩
theorem d161 (r : Rule) (a : Agg) (hb : 16 * a.size ≤ 100000000000) : Al.Fn Tryz.prog 161 [.iv (bookI r), ag a.c] [] (NamesR fun ok => ∃ occ, inOut r a occ ∧ ok = closedL (fun occ => coversB occ) (fun _ => fun _ => false) a.body occ) := by
 have hal := aggOcc_len a
 have hbs : Lit.sizes a.body ≤ a.size := by unfold Agg.size; omega
 refine Al.Fn.le (args := [.iv (bookI r), ag a.c1]) ?_ ⟨.refl _, a.le1, trivial⟩
 refine fn_end tyA_ok Tryz.func161 rfl (by decide) Tryz.ntmps161 rfl (by simp) ?_
 refine gA rfl (zq [] (d127' a (by omega)) ?_)
 refine gA rfl ?_
 let pick : List Nat → List Str := fun vs => (vs.reverse.filterMap fun j => ((occM (aggOcc a))[j]?).bind fun x => if inL (outerOcc r) x.1 then some x.1 else none)
 refine go_rng (occM (aggOcc a)) (fun vs => ⟨[(0, .iv (bookI r)), (3, .ptr 0 0), (5, .mp 1), (10, .ptr 3 0)], [(0, some (cellsI a.c1)), (1, some (nmO (occM (pick vs)))), (3, some (.miter .str evI (occM (aggOcc a)) vs none))], 4⟩)
  (fun vs => (pick vs).Nodup ∧ ∀ x, x ∈ pick vs ↔ x ∈ outerOcc r ∧ ∃ j ∈ vs, ∃ y, (occM (aggOcc a))[j]? = some y ∧ y.1 = x) [] ⟨List.nodup_nil, by simp [pick]⟩
  (zW (zK (hM0 rfl evI_zero rfl (hI rfl rfl (.inl rfl) rfl trivial)))) fun vs hJ => ?_
 obtain ⟨hJ1, hJ2⟩ := hJ
 have hpl : (pick vs).length ≤ (aggOcc a).length := nodup_len hJ1 fun x hx => by
  obtain ⟨_, j, _, y, h2, rfl⟩ := (hJ2 x).1 hx
  exact key_mem h2
 refine goR rfl trivial (go_next rfl rfl rfl rfl rfl (by decide) (fun hall => ?_) fun j x hx hj => ?_)
 ·have hio : inOut r a (pick vs) := ⟨hJ1, fun x => by
   rw [hJ2]
   constructor
   ·rintro ⟨h1, j, h2, y, h3, rfl⟩
    exact ⟨key_mem h3, h1⟩
   ·rintro ⟨h1, h2⟩
    refine ⟨h2, ?_⟩
    obtain ⟨y, hy, rfl⟩ := List.mem_map.1 (((occM_keys (aggOcc a)).2 x).2 h1)
    obtain ⟨j, hj⟩ := List.getElem?_of_mem hy
    exact ⟨j, hall j (List.getElem?_eq_some_iff.1 hj).1, y, hj, rfl⟩⟩
  refine gA rfl (zq [1] (d75A (pick vs) a.body (by omega)) ?_)
  refine goR rfl trivial (fn_endR [1] (.inr rfl) rfl ⟨_, ⟨pick vs, hio, rfl⟩, rfl, rfl, rfl⟩ (zW (hM rfl rfl rfl trivial)))
 ·have h5 := inL_cnt (occ := outerOcc r) (s := x.1)
  have h7 := occM_lk (outerOcc r) x.1
  have h8 := occM_lk (pick vs) x.1
  have h9 := cntL_le (pick vs) x.1
  have fresh : x.1 ∉ pick vs := fun h => by
   obtain ⟨_, i, hi, y, h2, h3⟩ := (hJ2 x.1).1 h
   have hnd := (occM_keys (aggOcc a)).1
   have : i = j := by
    have hi1 := (List.getElem?_eq_some_iff.1 h2)
    have hj1 := (List.getElem?_eq_some_iff.1 hx)
    obtain ⟨hi1, hi2⟩ := hi1
    obtain ⟨hj1, hj2⟩ := hj1
    refine (List.getElem_inj (i := i) (j := j) (h₀ := by rw [List.length_map]; exact hi1) (h₁ := by rw [List.length_map]; exact hj1) hnd).1 ?_
    rw [List.getElem_map, List.getElem_map, hi2, hj2, h3]
   exact hj (this ▸ hi)
  have hpk : pick (j :: vs) = pick vs ++ if inL (outerOcc r) x.1 then [x.1] else [] := by
   simp only [pick, List.reverse_cons, List.filterMap_append, List.filterMap_cons, List.filterMap_nil, hx, Option.bind_some]
   congr 1
   cases inL (outerOcc r) x.1 <;> rfl
  have step : (pick (j :: vs)).Nodup ∧ ∀ z, z ∈ pick (j :: vs) ↔ z ∈ outerOcc r ∧ ∃ i ∈ j :: vs, ∃ y, (occM (aggOcc a))[i]? = some y ∧ y.1 = z := by
   rw [hpk]
   constructor
   ·split
    ·rw [List.nodup_append]
     refine ⟨hJ1, List.nodup_cons.2 ⟨List.not_mem_nil, List.nodup_nil⟩, fun p hp q hq e => ?_⟩
     rw [List.mem_singleton] at hq
     exact fresh ((e.trans hq) ▸ hp)
    ·rw [List.append_nil]; exact hJ1
   ·intro z
    rw [List.mem_append, hJ2]
    constructor
    ·rintro (⟨h1, i, h2, h3⟩ | h1)
     ·exact ⟨h1, i, List.mem_cons_of_mem _ h2, h3⟩
     ·split at h1
      ·rename_i h2
       rw [List.mem_singleton] at h1
       exact ⟨h1 ▸ inL_iff.1 h2, j, List.mem_cons_self, x, hx, h1.symm⟩
      ·cases h1
    ·rintro ⟨h1, i, h2, y, h3, h4⟩
     rcases List.mem_cons.1 h2 with rfl | h2
     ·rw [hx] at h3; cases h3
      exact .inr (by rw [if_pos (inL_iff.2 (h4 ▸ h1))]; simp [h4])
     ·exact .inl ⟨h1, i, h2, y, h3, h4⟩
  refine gA rfl (zI (fun g1 => ?_) fun g1 => ?_)
  ·have g1 : inL (outerOcc r) x.1 = true := by
    have := zT g1
    rw [h5]; simp; omega
   rw [g1, if_pos rfl] at hpk
   refine gA rfl ?_
   exact ⟨j, x, hx, hj, step, [], zW (zK (hM rfl (by rw [hpk, occM_snoc]; rfl) rfl (hI rfl rfl (.inr rfl) rfl trivial)))⟩
  ·have g1 : inL (outerOcc r) x.1 = false := by
    have := zF g1
    rw [h5]; simp; omega
   rw [g1, if_neg (by simp), List.append_nil] at hpk
   refine gA rfl ?_
   exact ⟨j, x, hx, hj, step, [], zW (zK (hM rfl (by rw [hpk]) rfl (hI rfl rfl (.inr rfl) rfl trivial)))⟩
end Go.Proofs.YtpnclpbkecjinaaGreatDoorR
namespace Go.Proofs.YtpnclpbkecjinaaGreatDoorR
open Go Go.Al
def toB (s : Str) : List UInt8 := s.data.toList
def ofB (l : List UInt8) : Str := ⟨l.toArray⟩
theorem ofB_toB (s : Str) : ofB (toB s) = s := by simp [toB, ofB]
theorem toB_ofB (l : List UInt8) : toB (ofB l) = l := by simp [toB, ofB]
def sortBytes (l : List (List UInt8)) : List (List UInt8) := l.mergeSort fun x y => decide (x ≤ y)
def sortB (l : List Str) : List Str := (sortBytes (l.map toB)).map ofB
def SortS : Prop :=
 (∀ (blk off cap : Nat) (ss : List (List UInt8)) (w : World), Go.Sort.Holds encStr w blk off ss.toArray → blk < w.heap.size → ss.length < 4611686018427387904 →
  Calls Tryz.prog 94 #[.slice (some ⟨blk, off, none⟩) ss.length cap] w fun e w' =>
   e = .returned (.tuple #[]) ∧ ∃ n os, w' = Go.Sort.grow (Go.Sort.putRow encStr (Go.Sort.ahead w n) blk off (ss.mergeSort fun x y => decide (x ≤ y)).toArray) os) ∧
 (∀ (p : Option Addr) (cap : Nat) (w : World), Calls Tryz.prog 94 #[.slice p 0 cap] w fun e w' => e = .returned (.tuple #[]) ∧ w' = w)
theorem sortB_len (l : List Str) : (sortB l).length = l.length := by simp [sortB, sortBytes]
theorem sortB_nil : sortB [] = [] := by simp [sortB, sortBytes]
theorem sortB_map (l : List Str) : (sortB l).map toB = sortBytes (l.map toB) := by
 unfold sortB
 rw [List.map_map]
 have : toB ∘ ofB = id := by funext x; exact toB_ofB x
 rw [this, List.map_id]
theorem rowI_get {l : List Str} {k : Nat} {e : List PV} (h : (l.map fun x => (strC x).map PV.iv)[k]? = some e) : ∃ s, l[k]? = some s ∧ e = [pS s] := by
 rw [List.getElem?_map, Option.map_eq_some_iff] at h
 obtain ⟨s, h1, rfl⟩ := h
 exact ⟨s, h1, rfl⟩
theorem c94of (hS : SortS) (l : List Str) (hl : l.length ≤ 1000000000000) : Det Tryz.prog 94 [.sl 0 0 l.length 1] [rowI 1 l strC] (.tup []) [(0, some (rowI 1 (sortB l) strC))] 1 := by
 refine ⟨callable_of Tryz.func94 rfl (by decide), fun M N w vs hr hlen hv => ?_⟩
 obtain ⟨v, rfl⟩ : ∃ v, vs = [v] := by
  cases vs with
  | nil => cases hlen
  | cons v r => cases r with
   | nil => exact ⟨v, rfl⟩
   | cons a b => simp at hlen
 have hv0 := hv 0 _ rfl
 simp only [List.getD_cons_zero] at hv0
 have hob := hr.obj 0 _ rfl
 cases l with
 | nil =>
  have hvs : v = .slice none 0 0 := by
   generalize hq : PV.sl 0 0 ([] : List Str).length 1 = q at hv0
   cases hv0 with
   | sl i off len sz cap h h0 h1 hc he => cases hq; simp at h0
   | sl0 i sz h => rfl
   | _ => cases hq
  subst hvs
  refine (hS.2 none 0 w).mono ?_
  rintro e w' ⟨rfl, rfl⟩
  refine ⟨_, M, N, .tup [], _, 1, rfl, ⟨rfl, rfl, rfl⟩, ?_, ?_, .tup [] #[] rfl (by simp)⟩
  ·rw [sortB_nil]; exact .refl _ _ _ _ _
  ·rw [sortB_nil]; exact hr
 | cons s0 r =>
  generalize hL : s0 :: r = L at *
  have hpos : 0 < L.length := by rw [← hL]; simp
  obtain ⟨cap, hvs⟩ : ∃ cap, v = .slice (some ⟨N.blk 0, 0, none⟩) L.length cap := by
   generalize hn : L.length = n at hv0 hpos
   generalize hq : PV.sl 0 0 n 1 = q at hv0
   cases hv0 with
   | sl i off len sz cap h h0 h1 hc he => cases hq; exact ⟨cap, by simp⟩
   | sl0 i sz h => cases hq; omega
   | _ => cases hq
  subst hvs
  rcases hob with h0 | ⟨_, c, T, h1, h2, h3, h4, h5⟩
  ·rw [← hL] at h0; cases h0
  rw [List.length_map] at h3
  have hre : (rowI 1 L strC).real = true := by rw [← hL]; rfl
  have hval : ∀ j s, L[j]? = some s → c.getD j undef = .string s := fun j s hj => by
   have := h5 j [pS s] 0 (pS s) (by rw [List.getElem?_map, hj]; rfl) rfl
   rw [Nat.mul_one, Nat.add_zero] at this
   generalize c.getD j undef = y at this ⊢
   cases this with
   | iv _ _ h => cases h; rfl
  have hlt := hr.lt (i := 0) rfl hre
  have hlm : (L.map toB).length = L.length := by simp
  have hH : Go.Sort.Holds encStr w (N.blk 0) 0 (L.map toB).toArray := by
   intro j hj
   have hj' : j < L.length := by simpa using hj
   have hjc : j < c.size := by omega
   have := hval j L[j] (List.getElem?_eq_getElem hj')
   rw [Array.getD_eq_getD_getElem?, Array.getElem?_eq_getElem hjc, Option.getD_some] at this
   constructor
   ·simp only [World.cell?, h1, Nat.zero_add, Option.isSome_none, Bool.false_eq_true, if_false]
    rw [Array.getElem?_eq_getElem hjc, this, getElem!_pos _ j hj]
    simp [encStr, toB]
   ·simp [World.frozen?, h1]
  have hcall := hS.1 (N.blk 0) 0 cap (L.map toB) w hH hlt (by omega)
  rw [hlm] at hcall
  refine hcall.mono ?_
  rintro e w' ⟨rfl, n, os, rfl⟩
  let w1 := Go.Sort.putRow encStr (Go.Sort.ahead w n) (N.blk 0) 0 ((L.map toB).mergeSort fun x y => decide (x ≤ y)).toArray
  have hsl : (sortBytes (L.map toB)).length = L.length := by simp [sortBytes]
  have hw1 : Ext M N (· < 1) (initH 0 [rowI 1 L strC]) w M N (· < 1) ((0, some (rowI 1 (sortB L) strC)) :: initH 0 [rowI 1 L strC]) w1 ∧ Rel M N (· < 1) ((0, some (rowI 1 (sortB L) strC)) :: initH 0 [rowI 1 L strC]) w1 := by
   refine hr.write (i := 0) (o0 := rowI 1 L strC) rfl hre w1 (rowI 1 (sortB L) strC) rfl rfl rfl ?_ ?_ ?_
   ·show (Go.Sort.putRow _ _ _ _ _).heap.size = _
    rw [Go.Sort.size_putRow]; rfl
   ·intro b hb
    show ((w.heap.modify (N.blk 0) _))[b]? = _
    rw [Array.getElem?_modify, if_neg (fun e => hb e.symm)]
   ·refine .inr ⟨Nat.one_pos, Go.Sort.putCells encStr 0 (sortBytes (L.map toB)).toArray c, T, ?_, ?_, ?_, ?_, ?_⟩
    ·show ((w.heap.modify (N.blk 0) _))[N.blk 0]? = _
     rw [Array.getElem?_modify, if_pos rfl, h1]; rfl
    ·simp [Go.Sort.putCells, h2]
    ·rw [List.length_map, sortB_len]; simp [Go.Sort.putCells]; omega
    ·intro k e he
     obtain ⟨s, _, rfl⟩ := rowI_get he
     rfl
    ·intro k e j p he hp
     obtain ⟨s, hs, rfl⟩ := rowI_get he
     have hj : j = 0 := by
      rcases j with _ | j
      ·rfl
      ·simp at hp
     subst hj
     cases hp
     have hk : k < L.length := by
      have := (List.getElem?_eq_some_iff.1 hs).1
      rwa [sortB_len] at this
     have hs2 : (sortBytes (L.map toB))[k]? = some (toB s) := by
      rw [← sortB_map, List.getElem?_map, hs]; rfl
     have hkc : k < c.size := by omega
     have hval2 : (Go.Sort.putCells encStr 0 (sortBytes (L.map toB)).toArray c).getD (k * 1 + 0) undef = .string s := by
      rw [Nat.mul_one, Nat.add_zero, Array.getD_eq_getD_getElem?]
      simp only [Go.Sort.putCells, Array.getElem?_mapIdx]
      rw [Array.getElem?_eq_getElem hkc, Option.map_some, Option.getD_some, if_pos ⟨Nat.zero_le _, by simp [hsl]; omega⟩, Nat.sub_zero]
      rw [getElem!_pos _ k (by simp [hsl]; omega)]
      have h9 : (sortBytes (L.map toB)).toArray[k]'(by simp [hsl]; omega) = toB s := by
       rw [List.getElem_toArray]
       exact (List.getElem?_eq_some_iff.1 hs2).2
      rw [h9]
      simp [encStr, toB]
     rw [hval2]
     exact .iv _ _ (.v _)
  have hw2 : Rel M N (· < 1) ((0, some (rowI 1 (sortB L) strC)) :: initH 0 [rowI 1 L strC]) (Go.Sort.grow w1 os) := hw1.2.more fun b hb => by
   show (w1.heap ++ os)[b]? = _
   rw [Array.getElem?_append_left hb]
  have hsz : w1.heap.size = w.heap.size := by
   show (Go.Sort.putRow _ _ _ _ _).heap.size = _
   rw [Go.Sort.size_putRow]; rfl
  have hget : ∀ i o, AH.get [(0, some (rowI 1 (sortB L) strC))] i = some o → AH.get ((0, some (rowI 1 (sortB L) strC)) :: initH 0 [rowI 1 L strC]) i = some o := by
   intro i o h
   rw [AH.get_cons] at h ⊢
   split at h
   ·rename_i h6; rw [if_pos h6]; exact h
   ·simp [AH.get] at h
  refine ⟨_, M, N, .tup [], _, 1, rfl, ⟨rfl, rfl, rfl⟩, ⟨hw1.1.os, hw1.1.tape, hw1.1.output, ?_, ?_, .refl _, fun b c h1 h2 => (nomatch (h1.symm.trans h2)), .refl _ _, fun _ h => h, fun i o hi => hw1.1.pnew i o (hget i o hi)⟩, ?_, .tup [] #[] rfl (by simp)⟩
  ·show w.heap.size ≤ (Go.Sort.grow w1 os).heap.size
   rw [Go.Sort.size_grow, hsz]; omega
  ·intro b hb hn
   have h7 := hw1.1.keep b hb hn
   show (w1.heap ++ os)[b]? = _
   rw [Array.getElem?_append_left (by omega)]
   exact h7
  ·exact ⟨hw2.frz, fun i o hi => hw2.used i o (hget i o hi), fun i o hi => hw2.nfrz i o (hget i o hi), fun i o hi => hw2.obj i o (hget i o hi), fun i j o p hi hj => hw2.inj i j o p (hget i o hi) (hget j p hj)⟩
end Go.Proofs.YtpnclpbkecjinaaGreatDoorR
namespace Go.Proofs.YtpnclpbkecjinaaGreatDoorR
open Go Go.Al
set_option maxRecDepth 10000
theorem sortBytes_perm (l : List (List UInt8)) : (sortBytes l).Perm l := List.mergeSort_perm _ _
theorem sortBytes_sorted (l : List (List UInt8)) : (sortBytes l).Pairwise (fun x y => decide (x ≤ y) = true) :=
 List.pairwise_mergeSort (le := fun x y => decide (x ≤ y)) (fun a b c h1 h2 => by simp only [decide_eq_true_eq] at *; exact List.le_trans h1 h2)
  (fun a b => by
   rcases List.le_total a b with h | h
   ·simp [h]
   ·simp [h]) l
theorem sorted_eq {a b : List (List UInt8)} (h : a.Perm b) (ha : a.Pairwise (fun x y => decide (x ≤ y) = true)) (hb : b.Pairwise (fun x y => decide (x ≤ y) = true)) : a = b :=
 List.Perm.eq_of_pairwise (fun _x _y _ _ h1 h2 => List.le_antisymm (zT h1) (zT h2)) ha hb h
theorem sortB_perm {a b : List Str} (h : a.Perm b) : sortB a = sortB b := by
 unfold sortB
 rw [sorted_eq (((sortBytes_perm _).trans (h.map toB)).trans (sortBytes_perm _).symm) (sortBytes_sorted _) (sortBytes_sorted _)]
theorem mem_sortB {x : Str} {l : List Str} : x ∈ sortB l ↔ x ∈ l := by
 unfold sortB
 rw [List.mem_map]
 constructor
 ·rintro ⟨b, hb, rfl⟩
  obtain ⟨s, hs, rfl⟩ := List.mem_map.1 ((sortBytes_perm _).mem_iff.1 hb)
  rwa [ofB_toB]
 ·intro h
  exact ⟨toB x, (sortBytes_perm _).mem_iff.2 (List.mem_map.2 ⟨x, h, rfl⟩), ofB_toB x⟩
def keysAt (m : NM) (vs : List Nat) : List Str := vs.reverse.filterMap fun j => (m[j]?).map (·.1)
theorem keysAt_cons (m : NM) (vs : List Nat) (j : Nat) (x : (KC.str).K × Int) (h : m[j]? = some x) : keysAt m (j :: vs) = keysAt m vs ++ [x.1] := by
 simp [keysAt, List.filterMap_append, h]
theorem keysAt_len (m : NM) (vs : List Nat) : (keysAt m vs).length ≤ vs.length := by
 unfold keysAt
 have := List.length_filterMap_le (fun j => (m[j]?).map (·.1)) vs.reverse
 rwa [List.length_reverse] at this
theorem keysAt_range (m : NM) : (List.range m.length).filterMap (fun j => (m[j]?).map (·.1)) = m.map (·.1) := by
 apply List.ext_getElem?
 intro k
 have h : (List.range m.length).filterMap (fun j => (m[j]?).map (·.1)) = (List.range m.length).map (fun j => (m.getD j (ByteArray.empty, 0)).1) := by
  rw [show (fun j => (m.getD j (ByteArray.empty, 0)).1) = fun j => (m.getD j (ByteArray.empty, 0)).1 from rfl]
  have key : ∀ l : List Nat, (∀ j ∈ l, j < m.length) → l.filterMap (fun j => (m[j]?).map (·.1)) = l.map (fun j => (m.getD j (ByteArray.empty, 0)).1) := by
   intro l
   induction l with
   | nil => simp
   | cons j r ih =>
    intro h
    have hj := h j List.mem_cons_self
    rw [List.filterMap_cons, List.getElem?_eq_getElem hj, ih fun k hk => h k (List.mem_cons_of_mem _ hk)]
    simp [hj]
  exact key _ fun j hj => List.mem_range.1 hj
 rw [h]
 by_cases hk : k < m.length
 ·simp [hk]
 ·simp [hk]
theorem keysAt_all (m : NM) (vs : List Nat) (hn : vs.Nodup) (hb : ∀ j ∈ vs, j < m.length) (hall : ∀ j, j < m.length → j ∈ vs) : (keysAt m vs).Perm (m.map (·.1)) := by
 rw [← keysAt_range]
 unfold keysAt
 apply List.Perm.filterMap
 refine (List.reverse_perm _).trans ?_
 rw [List.perm_ext_iff_of_nodup hn List.nodup_range]
 intro j
 rw [List.mem_range]
 exact ⟨hb j, hall j⟩
def toldM (m : NM) : List Str := sortB (m.map (·.1))
theorem nodup_lt {vs : List Nat} {n : Nat} (h : vs.Nodup) (hb : ∀ j ∈ vs, j < n) : vs.length ≤ n := by
 have := List.Nodup.length_le_of_subset h (l₂ := List.range n) fun j hj => List.mem_range.2 (hb j hj)
 rwa [List.length_range] at this
theorem rows_ren (σ : Nat → Nat) (l : List Str) : (l.map fun x => (strC x).map PV.iv).map (renL σ) = l.map fun x => (strC x).map PV.iv := by
 simp only [List.map_map, strC, List.map_cons, List.map_nil]
 rfl
theorem c51 (hS : SortS) (m : NM) (hm : m.length ≤ 100000000) : Pure Tryz.prog 51 [.iv (nmI m)] (.iv (strs (toldM m))) := by
 refine pure_end tyA_ok Tryz.func51 rfl (by decide) Tryz.ntmps51 rfl (by simp) rfl ?_
 refine gA rfl ?_
 refine go_virt 3 1 rfl ?_
 refine go_rng m (fun vs => ⟨[(3, .sl 2 0 (keysAt m vs).length 1), (6, .ptr 0 0)], [(0, some (.miter .str evI m vs none)), (2, some (rowI 1 (keysAt m vs) strC))], 3⟩) (fun vs => vs.Nodup ∧ ∀ j ∈ vs, j < m.length) [1] ⟨List.nodup_nil, by simp⟩
  (zW (hI rfl rfl (.inl rfl) rfl (zS trivial))) fun vs hJ => ?_
 obtain ⟨hJ1, hJ2⟩ := hJ
 have hvl := nodup_lt hJ1 hJ2
 have hkl := keysAt_len m vs
 refine goR rfl trivial (go_next rfl rfl rfl rfl rfl (by decide) (fun hall => ?_) fun j x hx hj => ?_)
 ·refine goR rfl trivial (go_det [2] (c94of hS (keysAt m vs) (by omega)) rfl rfl rfl rfl rfl (congrArg (fun o => [some o]) (rowI_ren _).symm) rfl rfl ?_)
  refine goR rfl trivial (end_row (.inr rfl) rfl rfl ((rows_ren _ _).trans (by rw [toldM, sortB_perm (keysAt_all m vs hJ1 hJ2 hall)])) ?_)
  rw [toldM, sortB_len, ← (keysAt_all m vs hJ1 hJ2 hall).length_eq]
 ·have hk := keysAt_cons m vs j x hx
  refine gA rfl ?_
  exact ⟨j, x, hx, hj, ⟨List.nodup_cons.2 ⟨hj, hJ1⟩, fun i hi => (List.mem_cons.1 hi).elim (fun h => h ▸ (List.getElem?_eq_some_iff.1 hx).1) (hJ2 i)⟩, [4], zM ⟨.row (by rw [hk, List.length_append]; rfl), rfl, .refl _, rfl, trivial⟩ (hI rfl rfl (.inr rfl) rfl (hR rfl (by rw [hk, List.map_append]; rfl) rfl trivial))⟩
theorem delK_filter : ∀ {m : NM} (_ : (m.map (·.1)).Nodup) (k : Str), delK .str m k = m.filter fun x => !decide (x.1 = k)
 | [], _, k => rfl
 | (a, b) :: r, h, k => by
  rw [List.map_cons, List.nodup_cons] at h
  by_cases hk : a = k
  ·subst hk
   have : r.filter (fun x => !decide (x.1 = a)) = r := List.filter_eq_self.2 fun x hx => by
    have : x.1 ≠ a := fun e => h.1 (e ▸ List.mem_map.2 ⟨x, hx, rfl⟩)
    simp [this]
   simp [delK, this]
  ·have ih := delK_filter h.2 k
   simp [delK, hk, ih]
theorem nodup_filterM {m : NM} {p : (KC.str).K × Int → Bool} (h : (m.map (·.1)).Nodup) : ((m.filter p).map (·.1)).Nodup := h.sublist ((List.filter_sublist).map _)
theorem dels_filter : ∀ (ks : List Str) {m : NM} (_ : (m.map (·.1)).Nodup), ks.foldl (fun m k => delK .str m k) m = m.filter fun x => !inL ks x.1
 | [], m, h => (List.filter_eq_self.2 fun _ _ => rfl).symm
 | k :: r, m, h => by
  rw [List.foldl_cons, delK_filter h, dels_filter r (nodup_filterM h), List.filter_filter]
  congr 1
  funext x
  by_cases hk : x.1 = k
  ·simp [inL, hk]
  ·have : ¬ k = x.1 := fun e => hk e.symm
   simp [inL, hk, this]
def locM (r : Rule) (a : Agg) : NM := (occM (aggOcc a)).filter fun x => !inL (outerOcc r) x.1
theorem occM_len (l : List Str) : (occM l).length ≤ l.length := by
 have h := occM_keys l
 have := nodup_len h.1 fun x hx => (h.2 x).1 hx
 rwa [List.length_map] at this
theorem d79 (r : Rule) (a : Agg) (hb : a.size ≤ 100000000000) : Det Tryz.prog 79 [.iv (bookI r), ag a.c] [] (.mp 0) [(0, some (nmO (locM r a)))] 1 := by
 refine Det.le (args := [.iv (bookI r), ag a.c1]) ?_ ⟨.refl _, a.le1, trivial⟩
 have hal := aggOcc_len a
 have hkd := (occM_keys (aggOcc a)).1
 refine det_end tyA_ok Tryz.func79 rfl (by decide) Tryz.ntmps79 rfl (by simp) ?_
 refine gA rfl (zq [] (d127' a (by omega)) ?_)
 refine gA rfl ?_
 refine go_rng (occM (outerOcc r)) (fun vs => ⟨[(5, .mp 1), (13, .ptr 2 0)], [(1, some (nmO ((keysAt (occM (outerOcc r)) vs).foldl (fun m k => delK .str m k) (occM (aggOcc a))))), (2, some (.miter .str evI (occM (outerOcc r)) vs none))], 3⟩)
  (fun vs => vs.Nodup ∧ ∀ j ∈ vs, j < (occM (outerOcc r)).length) [] ⟨List.nodup_nil, by simp⟩
  (zW (hM rfl rfl rfl (hI rfl rfl (.inl rfl) rfl trivial))) fun vs hJ => ?_
 obtain ⟨hJ1, hJ2⟩ := hJ
 refine goR rfl trivial (go_next rfl rfl rfl rfl rfl (by decide) (fun hall => ?_) fun j x hx hj => ?_)
 ·have hlm : (keysAt (occM (outerOcc r)) vs).foldl (fun m k => delK .str m k) (occM (aggOcc a)) = locM r a := by
   rw [dels_filter _ hkd]
   unfold locM
   congr 1
   funext x
   congr 1
   rw [Bool.eq_iff_iff, inL_iff, inL_iff, (keysAt_all _ vs hJ1 hJ2 hall).mem_iff]
   exact (occM_keys (outerOcc r)).2 x.1
  rw [hlm]
  refine gA rfl (end_det [1] (by first | exact .inr rfl | exact .inl rfl) rfl (zW (hM rfl rfl rfl trivial)))
 ·have hk := keysAt_cons (occM (outerOcc r)) vs j x hx
  refine gA rfl ?_
  exact ⟨j, x, hx, hj, ⟨List.nodup_cons.2 ⟨hj, hJ1⟩, fun i hi => (List.mem_cons.1 hi).elim (fun h => h ▸ (List.getElem?_eq_some_iff.1 hx).1) (hJ2 i)⟩, [], zW (hM rfl (by rw [hk, List.foldl_append]; rfl) rfl (hI rfl rfl (.inr rfl) rfl trivial))⟩
theorem closedN_len {may : List Str → Expr → Bool} {more : List Str → Agg → Bool} {body : List Lit} : ∀ (n : Nat) (occ : List Str), (closedN may more body n occ).length ≤ occ.length + n
 | 0, occ => Nat.le_refl _
 | n + 1, occ => by
  cases h : firstV (may occ) (more occ) occ body with
  | none => rw [closedN_none h]; omega
  | some v =>
   rw [closedN_some h]
   have := closedN_len (may := may) (more := more) (body := body) n (occ ++ [v])
   rw [List.length_append, List.length_singleton] at this
   omega
theorem closedL_len {may : List Str → Expr → Bool} {more : List Str → Agg → Bool} {body : List Lit} (occ : List Str) : (closedL may more body occ).length ≤ occ.length + 4 * Lit.sizes body + 1 := by
 have h1 := closedN_len (may := may) (more := more) (body := body) (3 * body.length + 1) (occ ++ body.flatMap posOcc)
 have h2 := posOcc_len body
 have h3 := Lit.length_sizes body
 rw [List.length_append] at h1
 unfold closedL
 omega
theorem limOcc_len (r : Rule) : (limOcc r).length ≤ 4 * Lit.sizes r.body + 1 := by
 have := closedL_len (may := fun occ => coversB occ) (more := fun occ => moreB (outerOcc r) occ) (body := r.body) []
 rw [List.length_nil] at this
 unfold limOcc
 omega
def plOcc (r : Rule) : List Str := closedL (fun occ => plainB occ) (fun _ => fun _ => false) r.body []
theorem plOcc_len (r : Rule) : (plOcc r).length ≤ 4 * Lit.sizes r.body + 1 := by
 have := closedL_len (may := fun occ => plainB occ) (more := fun _ => fun _ => false) (body := r.body) []
 rw [List.length_nil] at this
 unfold plOcc
 omega
theorem d75B0 (r : Rule) (hb : 8 * Lit.sizes r.body ≤ 100000000000) : Det Tryz.prog 75 [.iv (lits r.body), .mp 0, .clo (.func 76) [] [.ptr 1 0], .clo (.func 77) [] []] [.map0, .cells [.mp 0]] (.tup []) [(0, some (nmO (occM (plOcc r)))), (1, some (.cells [.mp 0]))] 2 :=
 Det.leO (d75B [] r.body (by simp; omega)) ⟨map0_le, .refl _, trivial⟩
def locOut (r : Rule) (lit : Int) : List Str := if lit < 0 ∨ (r.body.length : Int) ≤ lit ∨ ¬ (litAt r lit).kind = 4 then [] else toldM (locM r (litAt r lit).agg)
end Go.Proofs.YtpnclpbkecjinaaGreatDoorR
