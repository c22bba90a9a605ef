/-
  What the proofs of the claims need: AlDet, XC. Part 3 of 7.
-/
import Derived.Test.YtpnclpbkecjinaaGreatDoorRPart2
import Derived.Deep.Slices
import Derived.ReadAgain
import Derived.ChangeStays
import Derived.ChangeSame
import Derived.WideShapes
import Derived.RowKit
import Derived.KernelRfl
import Derived.Test.YtpnclpbkecjinaaGreatDoorRProg
/-
  Calls by contracts that tell the one result, the objects that turn with them; the same where the order is open.
  No program stands here. Conditions: none.
-/
namespace Go.Al
/-- A function that hands back r, and leaves the objects h. -/
def Det (P : Program) (k : FuncId) (args : List PV) (os : List AO) (r : PV) (h : AH) (n : Nat) : Prop := Fn P k args os fun q h' n' => q = r ∧ h' = h ∧ n' = n
def AOles : List AO → List AO → Prop
  | [], [] => True
  | p :: r, q :: s => AOle p q ∧ AOles r s
  | _, _ => False
theorem AOles.length : ∀ {a b : List AO}, AOles a b → a.length = b.length
  | [], [], _ => rfl
  | _ :: _, _ :: _, h => congrArg (· + 1) (AOles.length h.2)
  | [], _ :: _, h => h.elim
  | _ :: _, [], h => h.elim
theorem AOles.get : ∀ {a b : List AO}, AOles a b → ∀ (j : Nat) (q : AO), b[j]? = some q → ∃ p, a[j]? = some p ∧ AOle p q
  | [], [], _, j, q, h => by simp at h
  | p :: r, q0 :: s, hh, j, q, h => by
    cases j with
    | zero => simp at h; subst h; exact ⟨p, rfl, hh.1⟩
    | succ j => simpa using AOles.get hh.2 j q (by simpa using h)
  | [], _ :: _, hh, _, _, _ => hh.elim
  | _ :: _, [], hh, _, _, _ => hh.elim
/-- Called with objects that are more than it asks. -/
theorem Fn.leO {P : Program} {k : FuncId} {args : List PV} {os ps : List AO} {R : PV → AH → Nat → Prop} (h : Fn P k args os R) (hle : AOles ps os) : Fn P k args ps R := by
  have hlen := hle.length
  have hin : ∀ i o, (initH 0 os).get i = some o → ∃ p, (initH 0 ps).get i = some p ∧ AOle p o := by
    intro i o hi
    rw [initH_get, if_pos (Nat.zero_le _)] at hi ⊢
    exact hle.get _ _ hi
  refine ⟨h.1, fun M N w vs hr hl hv => ?_⟩
  rw [hlen] at hr hv ⊢
  have hr' : Rel M N (· < os.length) (initH 0 os) w := by
    refine ⟨hr.frz, fun i o hi => ?_, fun i o hi hre => ?_, fun i o hi => ?_, fun i j o p hi hj ho hp he => ?_⟩
    · obtain ⟨p, h1, h2⟩ := hin i o hi; exact hr.used i p h1
    · obtain ⟨p, h1, h2⟩ := hin i o hi; exact hr.nfrz i p h1 (h2.1 hre)
    · obtain ⟨p, h1, h2⟩ := hin i o hi; exact h2.2 _ _ _ _ _ (hr.obj i p h1)
    · obtain ⟨o', h1, h2⟩ := hin i o hi
      obtain ⟨p', h3, h4⟩ := hin j p hj
      exact hr.inj i j o' p' h1 h3 (h2.1 ho) (h4.1 hp) he
  refine (h.2 M N w vs hr' hl hv).mono ?_
  rintro e w' ⟨x, M', N', r, h', n', rfl, hR, hx, hrr, hvr⟩
  refine ⟨x, M', N', r, h', n', rfl, hR, ⟨hx.os, hx.tape, hx.output, hx.size, fun b hb hn => hx.keep b hb fun i o hi ho => ?_, hx.mle, fun b c h1 h2 => ?_, hx.nm, hx.ule, fun i o hi ho => ?_⟩, hrr, hvr⟩
  · obtain ⟨p, h1, h2⟩ := hin i o hi; exact hn i p h1 (h2.1 ho)
  · rcases hx.mnew b c h1 h2 with h3 | ⟨i, o, h3, h4, h5⟩
    · exact .inl h3
    · obtain ⟨p, g1, g2⟩ := hin i o h3; exact .inr ⟨i, p, g1, g2.1 h4, h5⟩
  · rcases hx.pnew i o hi ho with h3 | ⟨j, q, h3, h4, h5⟩
    · exact .inl h3
    · obtain ⟨p, g1, g2⟩ := hin j q h3; exact .inr ⟨j, p, g1, g2.1 h4, h5⟩
theorem Det.leO {P : Program} {k : FuncId} {args : List PV} {os ps : List AO} {r : PV} {h : AH} {n : Nat} (hc : Det P k args os r h n) (hle : AOles ps os) : Det P k args ps r h n := Fn.leO hc hle
theorem Det.le {P : Program} {k : FuncId} {aa args : List PV} {os : List AO} {r : PV} {h : AH} {n : Nat} (hc : Det P k args os r h n) (hle : PVles aa args) : Det P k aa os r h n := Fn.le hc hle
theorem Pure.det {P : Program} {k : FuncId} {args : List PV} {r : PV} (h : Pure P k args r) : Det P k args [] r [] 0 := h
section
variable {P : Program} {ty : Ty} {nt : Nat} {Q : AQ} {k : List KI} {s : AS}
theorem det_OT {o : Oper} {c : Call} {g : FuncId} {asv args : List PV} {os : List AO} {r : PV} {h' : AH} {n' : Nat} {s' : AS} (L : List Nat) (hc : Det P g args os r h' n') (ho : o.op = .call c) (ha : argsOf s.f c = some (g, asv))
    (hn : nodupB L = true) (hl : L.all (fun j => Nat.blt j s.nx) = true) (hob : L.map s.h.get = os.map fun o => some (o.ren (sig L s.nx))) (hargs : asv = renL (sig L s.nx) args) (hp : putDst nt o (r.ren (sig L s.nx)) (behindCall s L h' n') = some s') :
    OT P nt o s (fun t => t = s') :=
  call_OT ho ha hc (nodupB_ok hn) (fun j hj => Nat.le_of_ble_eq_true (List.all_eq_true.1 hl j hj)) hob hargs (by rintro q h0 n0 ⟨rfl, rfl, rfl⟩; exact ⟨s', hp, rfl⟩)
/-- A call; L: the objects handed in. -/
theorem go_det {all rest : List Oper} {o : Oper} {c : Call} {g : FuncId} {asv args : List PV} {os : List AO} {r : PV} {h' : AH} {n' : Nat} {s' : AS} (L : List Nat) (hc : Det P g args os r h' n') (ho : o.op = .call c) (hg : o.guard = none) (ha : argsOf s.f c = some (g, asv))
    (hn : nodupB L = true) (hl : L.all (fun j => Nat.blt j s.nx) = true) (hob : L.map s.h.get = os.map fun o => some (o.ren (sig L s.nx))) (hargs : asv = renL (sig L s.nx) args) (hp : putDst nt o (r.ren (sig L s.nx)) (behindCall s L h' n') = some s')
    (h : GO P nt (.ops all rest :: k) Q s') : GO P nt (.ops all (o :: rest) :: k) Q s :=
  go_op hg (det_OT L hc ho ha hn hl hob hargs hp) fun t ht => by subst ht; exact h
/-- What is done next where the order is open. -/
theorem go_dot (hty : TyOK P ty) {all : List Oper} {todo pend : List (Nat × Oper)} {j : Nat} {o : Oper} {s' : AS} {CA C2 : Prop} (hrd : readyE todo = [(j, o)]) (hg : guardIs nt all s.f o = some true) (hpb : pendB all pend o = true) (hE : effE todo [j] = true)
    (hag : agnC ty nt all s todo pend = some CA) (hCA : CA) (hOT : OT P nt o s (fun t => t = s')) (hag2 : againC ty nt all s' (restOf pend o) = some C2) (hC2 : C2)
    (h : GO P nt (.dops all (todo.filter fun x => !Nat.beq x.1 j) (restOf pend o) :: k) Q s') : GO P nt (.dops all todo pend :: k) Q s := by
  have hmem : (j, o) ∈ readyE todo := by rw [hrd]; simp
  obtain ⟨h3, h4⟩ := List.mem_filter.1 hmem
  simp only [Bool.not_eq_true', Bool.or_eq_false_iff, List.any_eq_false] at h4
  have hagn : ∀ y ∈ todo, isAlloc y.2 = true → ∀ y ∈ pend, Again P nt all s y.2 := by
    intro y hy hya
    unfold agnC at hag
    split at hag
    · exact againC_ok hty hag hCA
    · rename_i h2
      have := List.any_eq_false.1 h2 y hy
      rw [hya] at this; exact absurd rfl this
  refine go_deff hE ⟨_, h3, h4.1⟩ hagn fun j' o' hj _ hu => ?_
  simp only [List.mem_singleton] at hj
  subst hj
  have := hu o h3
  subst this
  exact ⟨h4.1, fun y hy _ => by simpa using h4.2 y hy, hpb, hg, _, hOT, fun t ht => by subst ht; exact ⟨againC_ok hty hag2 hC2, h⟩⟩
/-- A call where the order is open. -/
theorem go_ddet (hty : TyOK P ty) {all : List Oper} {todo pend : List (Nat × Oper)} {j : Nat} {o : Oper} {c : Call} {g : FuncId} {asv args : List PV} {os : List AO} {r : PV} {h' : AH} {n' : Nat} {s' : AS} {CA C2 : Prop} (L : List Nat) (hc : Det P g args os r h' n')
    (hrd : readyE todo = [(j, o)]) (ho : o.op = .call c) (ha : argsOf s.f c = some (g, asv))
    (hn : nodupB L = true) (hl : L.all (fun j => Nat.blt j s.nx) = true) (hob : L.map s.h.get = os.map fun o => some (o.ren (sig L s.nx))) (hargs : asv = renL (sig L s.nx) args) (hp : putDst nt o (r.ren (sig L s.nx)) (behindCall s L h' n') = some s')
    (hg : guardIs nt all s.f o = some true) (hpb : pendB all pend o = true) (hE : effE todo [j] = true)
    (hag : agnC ty nt all s todo pend = some CA) (hCA : CA) (hag2 : againC ty nt all s' (restOf pend o) = some C2) (hC2 : C2)
    (h : GO P nt (.dops all (todo.filter fun x => !Nat.beq x.1 j) (restOf pend o) :: k) Q s') : GO P nt (.dops all todo pend :: k) Q s :=
  go_dot hty hrd hg hpb hE hag hCA (det_OT L hc ho ha hn hl hob hargs hp) hag2 hC2 h
/-- How a body ends: the one result, and the objects that are left. -/
def EndD (ty : Ty) (l : List ResultVar) (m : Nat) (r : PV) (h : AH) (n : Nat) : AQ := EndF ty l m fun q h' n' => q = r ∧ h' = h ∧ n' = n
theorem det_end (hty : TyOK P ty) {g : FuncId} {fn : Func} {c : Code} (hf : P.funcs[g]? = some fn) (hb : fn.body = some c) (hn : (fn.name == "runtime.NumGoroutine") = false) (hnt : fn.ntmps = nt)
    {l : List ResultVar} (hl : fn.results.toList = l) {args : List PV} (hle : args.length ≤ nt) {os : List AO} {r : PV} {h : AH} {n : Nat}
    (hgo : GO P nt [.code c] (EndD ty l os.length r h n) ⟨argF 0 args, initH 0 os, os.length⟩) : Det P g args os r h n := fn_end hty hf hb hn hnt hl hle hgo
theorem end_det {l : List ResultVar} {m : Nat} {r r0 : PV} {h : AH} {n : Nat} {e : Exit} (L : List Nat) (he : e = .normal ∨ e = .ret) (hr : resA ty s l = some r0) (hw : Wk m L ⟨[(0, r0)], s.h, s.nx⟩ ⟨[(0, r)], h, n⟩) : EndD ty l m r h n e s :=
  ⟨he, r0, hr, .done ⟨r, h, n, L, ⟨rfl, rfl, rfl⟩, hw⟩⟩
end
/-! Maps and cells that nobody writes any more, at the end of a body. -/
theorem FrzS.map {h : AH} {n : Nat} {r : PV} {K : AH → PV → Prop} (i : Nat) {kc : KC} {V : Type} {e : V → IV} {z : V} {zv : Value} {dv : PV → V} {m : List (kc.K × V)} (hi : h.get i = some (.map kc e z zv dv m))
    (hk : FrzS ((i, none) :: h.frzM i (.imap kc e z zv m)) n (r.frzM i (.imap kc e z zv m)) K) : FrzS h n r K := by
  intro M N w hr
  obtain ⟨M1, h1, h2, _, h3⟩ := frz_mapH hr hi
  obtain ⟨M2, h', r2, g1, g2, g3, g4⟩ := hk M1 N w h2
  exact ⟨M2, h', r2, h1.trans g1, g2, fun x hx => g3 x (h3 _ _ hx), g4⟩
mutual
def PV.frzC (i : Nat) (l : List IV) : PV → PV
  | .iv x => .iv x
  | .agg cs => .agg (frzCL i l cs)
  | .tup cs => .tup (frzCL i l cs)
  | .ptr j o => bif Nat.beq j i then .iv (.iptr (l.drop o)) else .ptr j o
  | .sl j off len sz' => .sl j off len sz'
  | .eptr j a b c => .eptr j a b c
  | .optr z j => .optr z j
  | .mp j => .mp j
  | .clo fn a b => .clo fn a b
  | .kb b => .kb b
  | .any => .any
def frzCL (i : Nat) (l : List IV) : List PV → List PV
  | [] => []
  | p :: r => PV.frzC i l p :: frzCL i l r
end
theorem frzCL_eq (i : Nat) (x : List IV) : ∀ l : List PV, frzCL i x l = l.map (PV.frzC i x)
  | [] => rfl
  | p :: r => by simp [frzCL, frzCL_eq i x r]
theorem frz_cells {M : Mem} {N : Nm} {n : Nat} {h : AH} {w : World} (hr : Rel M N (· < n) h w) {i : Nat} {l : List IV} {cs : List PV} {T0 : Option TypeId} (hi : h.get i = some (.cells cs T0)) (hcs : cs = l.map .iv) :
    ∃ M', Ext M N (· < n) h w M' N (· < n) ((i, none) :: h) w ∧ Rel M' N (· < n) ((i, none) :: h) w ∧ ∀ p x, VR M N (· < n) p x → VR M' N (· < n) (p.frzC i l) x := by
  subst hcs
  have hMi := hr.nfrz i _ hi rfl
  obtain ⟨c, T, h1, h2, h3, h4, h5⟩ := hr.obj i _ hi
  let M' : Mem := M.set (N.blk i) (.cells c) hMi
  have hM : M.le M' := fun b d hb => by
    simp only [M', Mem.set]
    by_cases hb2 : b = N.blk i
    · rw [hb2, hMi] at hb; cases hb
    · rw [if_neg hb2]; exact hb
  have hnew : ∀ b d, M b = none → M' b = some d → b = N.blk i := fun b d h1 h2 => by
    simp only [M', Mem.set] at h2
    by_cases hb2 : b = N.blk i
    · exact hb2
    · rw [if_neg hb2, h1] at h2; cases h2
  have hcell : ∀ o, M'.cell (N.blk i) o = c[o]? := fun o => by simp [Mem.cell, M', Mem.set]
  refine ⟨M', ?_, ?_, fun p x hx => ?_⟩
  · exact ⟨rfl, rfl, rfl, Nat.le_refl _, fun _ _ _ => rfl, hM, fun b d h1 h2 => .inr ⟨i, _, hi, rfl, (hnew b d h1 h2).symm⟩, .refl _ _, fun _ h => h, fun j o hj hre => .inr ⟨j, o, (get_del j o hj).2, hre, rfl⟩⟩
  · refine ⟨fun b d hb => ?_, fun j o hj => hr.used j o (get_del j o hj).2, fun j o hj hre' => ?_, fun j o hj => ?_, fun j k o p hj hk => hr.inj j k o p (get_del j o hj).2 (get_del k p hk).2⟩
    · simp only [M', Mem.set] at hb
      by_cases hb2 : b = N.blk i
      · rw [if_pos hb2] at hb; cases hb; exact ⟨T, (0, 0), by rw [hb2]; exact h1⟩
      · rw [if_neg hb2] at hb; exact hr.frz b d hb
    · obtain ⟨g1, g2⟩ := get_del j o hj
      simp only [M', Mem.set]
      rw [if_neg fun e => g1 (hr.inj j i o _ g2 hi hre' rfl e)]
      exact hr.nfrz j o g2 hre'
    · obtain ⟨g1, g2⟩ := get_del j o hj
      exact (hr.obj j o g2).mono hM (.refl _ _) (fun _ h => h) (hr.used j o g2) rfl
  · induction hx with
    | iv x y h => exact .iv _ _ (h.mono hM)
    | agg cs ys hl _ ih =>
      refine .agg _ _ (by simpa [frzCL_eq] using hl) fun j q hq => ?_
      rw [frzCL_eq, List.getElem?_map, Option.map_eq_some_iff] at hq
      obtain ⟨q0, hq0, rfl⟩ := hq
      exact ih j q0 hq0
    | tup cs ys hl _ ih =>
      refine .tup _ _ (by simpa [frzCL_eq] using hl) fun j q hq => ?_
      rw [frzCL_eq, List.getElem?_map, Option.map_eq_some_iff] at hq
      obtain ⟨q0, hq0, rfl⟩ := hq
      exact ih j q0 hq0
    | ptr j off h =>
      simp only [PV.frzC]
      cases hb : Nat.beq j i with
      | true =>
        have hj := Nat.eq_of_beq_eq_true hb
        subst hj
        have hlen : l.length = c.size := by simpa using h3
        refine .iv _ _ (.iptr _ _ _ (fun k hk => ?_) fun k q hq => ?_)
        · rw [List.length_drop] at hk
          rw [hcell]; simp [show off + k < c.size by omega]
        · rw [List.getElem?_drop] at hq
          have hlt : off + k < c.size := by rw [← hlen]; exact (List.getElem?_eq_some_iff.1 hq).1
          have := h4 (off + k) (.iv q) (by rw [List.getElem?_map, hq]; rfl)
          rw [hcell]
          rw [Array.getD_eq_getD_getElem?] at this
          cases this with
          | iv _ _ h => exact h.mono hM
      | false => exact .ptr _ _ h
    | eptr i sz k off h => exact .eptr _ _ _ _ h
    | optr z i h => exact .optr _ _ h
    | sl j off len sz' cap h h0 hl hc he => exact .sl _ _ _ _ _ h h0 hl hc he
    | sl0 j sz' h => exact .sl0 _ _ h
    | mp j h => exact .mp _ h
    | clo fn first caps f' c' h1 h2 hr1 hr2 _ _ => exact .clo _ _ _ _ _ h1 h2 (fun j p hj => (hr1 j p hj).mono hM (.refl _ _) (fun _ h => h)) (fun j p hj => (hr2 j p hj).mono hM (.refl _ _) (fun _ h => h))
    | kb b => exact .kb _
    | any x => exact .any _
theorem FrzS.cells {h : AH} {n : Nat} {r : PV} {K : AH → PV → Prop} (i : Nat) (l : List IV) {cs : List PV} {T0 : Option TypeId} (hi : h.get i = some (.cells cs T0)) (hcs : cs = l.map .iv) (hk : FrzS ((i, none) :: h) n (r.frzC i l) K) : FrzS h n r K := by
  intro M N w hr
  obtain ⟨M1, h1, h2, h3⟩ := frz_cells hr hi hcs
  obtain ⟨M2, h', r2, g1, g2, g3, g4⟩ := hk M1 N w h2
  exact ⟨M2, h', r2, h1.trans g1, g2, fun x hx => g3 x (h3 _ _ hx), g4⟩
/-- The end of a body whose result is data, out of what is frozen then. -/
theorem end_frz {ty : Ty} {l : List ResultVar} {r r0 : PV} {e : Exit} {s : AS} (he : e = .normal ∨ e = .ret) (h : resA ty s l = some r0) (hk : FrzS s.h s.nx r0 fun _ r2 => PVle r2 r) : EndP ty l r e s := ⟨he, r0, h, hk⟩
section
variable {P : Program} {ty : Ty} {nt : Nat} {Q : AQ} {k : List KI} {s : AS}
/-- A call whose results are told by R. -/
theorem go_fn {all rest : List Oper} {o : Oper} {c : Call} {g : FuncId} {asv args : List PV} {os : List AO} {R : PV → AH → Nat → Prop} (L : List Nat) (hc : Fn P g args os R) (ho : o.op = .call c) (hg : o.guard = none) (ha : argsOf s.f c = some (g, asv))
    (hn : nodupB L = true) (hl : L.all (fun j => Nat.blt j s.nx) = true) (hob : L.map s.h.get = os.map fun o => some (o.ren (sig L s.nx))) (hargs : asv = renL (sig L s.nx) args)
    (h : ∀ r h' n', R r h' n' → ∃ s', putDst nt o (r.ren (sig L s.nx)) (behindCall s L h' n') = some s' ∧ GO P nt (.ops all rest :: k) Q s') : GO P nt (.ops all (o :: rest) :: k) Q s :=
  go_op (R := fun t => GO P nt (.ops all rest :: k) Q t) hg (call_OT ho ha hc (nodupB_ok hn) (fun j hj => Nat.le_of_ble_eq_true (List.all_eq_true.1 hl j hj)) hob hargs h) fun t ht => ht
theorem fn_endR {R : PV → AH → Nat → Prop} {l : List ResultVar} {m : Nat} {r r0 : PV} {h : AH} {n : Nat} {e : Exit} (L : List Nat) (he : e = .normal ∨ e = .ret) (hr : resA ty s l = some r0) (hR : R r h n) (hw : Wk m L ⟨[(0, r0)], s.h, s.nx⟩ ⟨[(0, r)], h, n⟩) : EndF ty l m R e s :=
  ⟨he, r0, hr, .done ⟨r, h, n, L, hR, hw⟩⟩
end
end Go.Al
/-
  A nil slice in a cell, as an empty row of the call's own; how copies end. No program stands here.
  Conditions: none.
-/
namespace Go.Al
/-- A nil slice in cell j of the object i, as an empty row of its own. -/
theorem go_virtC {P : Program} {nt : Nat} {Q : AQ} {k : List KI} {s : AS} {c : Code} (i j sz : Nat) {cs : List PV} {T0 : Option TypeId} (hi : s.h.get i = some (.cells cs T0)) (hj : cs[j]? = some (.iv (.v (.slice none 0 0))))
    (h : GO P nt (.code c :: k) Q ⟨s.f, (i, some (.cells (cs.set j (.sl s.nx 0 0 sz)) T0)) :: (s.nx, some (.row sz [])) :: s.h, s.nx + 1⟩) : GO P nt (.code c :: k) Q s := by
  intro M N a w hf
  obtain ⟨sf, sh, sn⟩ := s
  obtain ⟨h1, h2⟩ := hf.1.virt sz
  have hne : i ≠ sn := fun e => by have := hf.1.used i _ hi; simp only at this; omega
  have hget : AH.get ((sn, some (AO.row sz [])) :: sh) i = some (.cells cs T0) := by
    rw [AH.get_cons, if_neg hne]; exact hi
  obtain ⟨c0, T, e1, e2, e3, e4, e5⟩ := h2.obj i _ hget
  obtain ⟨g1, g2⟩ := h2.write (i := i) (o0 := .cells cs T0) hget rfl w (.cells (cs.set j (.sl sn 0 0 sz)) T0) rfl rfl rfl rfl (fun _ _ => rfl) ⟨c0, T, e1, e2, by rw [List.length_set]; exact e3, fun k p hp => by
    rw [List.getElem?_set] at hp
    split at hp
    · rename_i hk
      subst hk
      split at hp
      · cases hp
        have := e4 j _ hj
        generalize c0.getD j undef = v at this ⊢
        cases this with
        | iv _ _ h => cases h with
          | v => exact .sl0 _ _ (Nat.lt_succ_self _)
      · cases hp
    · exact e4 k p hp, e5⟩
  have hf1 : Fits M N ⟨sf, (i, some (.cells (cs.set j (.sl sn 0 0 sz)) T0)) :: (sn, some (.row sz [])) :: sh, sn + 1⟩ nt a w :=
    ⟨g2, fun k => (hf.2.1 k).mono (.refl _) (.refl _ _) (fun i hi => Nat.lt_succ_of_lt hi), hf.2.2⟩
  exact AW.then h hf1 fun e a2 w2 M2 N2 s2 hx2 hf2 hr2 => ⟨M2, N2, s2, (h1.trans g1).trans hx2, hf2, hr2⟩
/-- One row more that becomes data at the end. -/
theorem FrzS.rowL {h : AH} {n : Nat} {r : PV} {K : AH → PV → Prop} {α : Type} [Inhabited α] (i : Nat) {sz : Nat} {es : List (List PV)} (L : List α) (f : α → List IV) (hi : h.get i = some (.row sz es)) (hes : es = L.map fun x => (f x).map .iv)
    (hin : r.inRow i sz L.length) (hk : FrzS ((i, none) :: h) n (r.frz i sz fun k => f (L.getD k default)) K) : FrzS h n r K :=
  .row i (fun k => f (L.getD k default)) hi (rowI_el hes) (by subst hes; simpa using hin) hk
/-! A row that nobody writes any more, in the midst of a body. -/
def AO.frzR (i sz : Nat) (el : Nat → List IV) : AO → AO
  | .cells cs T => .cells (frzL i sz el cs) T
  | o => o
def AO.okR (i sz n : Nat) : AO → Prop
  | .cells cs _ => inRowL i sz n cs
  | .row _ es => ∀ (k : Nat) (e : List PV) (j : Nat) (p : PV), es[k]? = some e → e[j]? = some p → ∃ y, p = .iv y
  | _ => True
def AH.frzR (i sz : Nat) (el : Nat → List IV) : AH → AH
  | [] => []
  | (k, none) :: r => (k, none) :: AH.frzR i sz el r
  | (k, some o) :: r => (k, some (o.frzR i sz el)) :: AH.frzR i sz el r
def AH.okR (i sz n : Nat) : AH → Prop
  | [] => True
  | (_, none) :: r => AH.okR i sz n r
  | (_, some o) :: r => o.okR i sz n ∧ AH.okR i sz n r
def AF.frzR (i sz : Nat) (el : Nat → List IV) : AF → AF
  | [] => []
  | (d, p) :: r => (d, p.frz i sz el) :: AF.frzR i sz el r
def AF.okR (i sz n : Nat) : AF → Prop
  | [] => True
  | (_, p) :: r => p.inRow i sz n ∧ AF.okR i sz n r
theorem AH.frzR_get (i sz : Nat) (el : Nat → List IV) : ∀ (h : AH) (j : Nat), (AH.frzR i sz el h).get j = (h.get j).map (AO.frzR i sz el)
  | [], _ => rfl
  | (k, none) :: r, j => by
    simp only [AH.frzR, AH.get_cons, AH.frzR_get i sz el r j]
    split <;> rfl
  | (k, some o) :: r, j => by
    simp only [AH.frzR, AH.get_cons, AH.frzR_get i sz el r j]
    split <;> rfl
theorem AH.okR_get {i sz n : Nat} : ∀ {h : AH} (_ : h.okR i sz n) (j : Nat) (o : AO), h.get j = some o → o.okR i sz n
  | [], _, j, o, ho => nomatch ho
  | (k, none) :: r, hh, j, o, ho => by
    rw [AH.get_cons] at ho
    split at ho
    · cases ho
    · exact AH.okR_get (h := r) hh j o ho
  | (k, some q) :: r, hh, j, o, ho => by
    rw [AH.get_cons] at ho
    split at ho
    · cases ho; exact hh.1
    · exact AH.okR_get (h := r) hh.2 j o ho
theorem AF.frzR_get (i sz : Nat) (el : Nat → List IV) : ∀ (f : AF) (d : Nat), (AF.frzR i sz el f).get d = (f.get d).frz i sz el
  | [], _ => rfl
  | (k, p) :: r, d => by
    simp only [AF.frzR, AF.get_cons, AF.frzR_get i sz el r d]
    split <;> rfl
theorem AF.okR_get {i sz n : Nat} : ∀ {f : AF} (_ : f.okR i sz n) (d : Nat), (f.get d).inRow i sz n
  | [], _, d => trivial
  | (k, p) :: r, h, d => by
    rw [AF.get_cons]
    split
    · exact h.1
    · exact AF.okR_get (f := r) h.2 d
theorem AO.frzR_real (i sz : Nat) (el : Nat → List IV) (o : AO) : (o.frzR i sz el).real = o.real := by
  cases o <;> rfl
/-- From here on nobody writes the row i. -/
theorem go_frzR {P : Program} {nt : Nat} {Q : AQ} {k : List KI} {s : AS} {c : Code} (i : Nat) {sz : Nat} {es : List (List PV)} (el : Nat → List IV) (hi : s.h.get i = some (.row sz es)) (hel : ∀ k e, es[k]? = some e → e = (el k).map .iv)
    (hf : s.f.okR i sz es.length) (hh : s.h.okR i sz es.length) (h : GO P nt (.code c :: k) Q ⟨s.f.frzR i sz el, (i, none) :: s.h.frzR i sz el, s.nx⟩) : GO P nt (.code c :: k) Q s := by
  intro M N a w hfit
  obtain ⟨M', h1, h2, h4⟩ := frz_row hfit.1 hi hel
  have hM : M.le M' := h1.mle
  have hg : ∀ j o, AH.get ((i, none) :: s.h.frzR i sz el) j = some o → ∃ p, AH.get ((i, none) :: s.h) j = some p ∧ s.h.get j = some p ∧ o = p.frzR i sz el := by
    intro j o hj
    obtain ⟨g1, g2⟩ := get_del j o hj
    rw [AH.frzR_get, Option.map_eq_some_iff] at g2
    obtain ⟨p, g3, g4⟩ := g2
    exact ⟨p, by rw [AH.get_cons, if_neg g1]; exact g3, g3, g4.symm⟩
  have hE : Ext M N (· < s.nx) s.h w M' N (· < s.nx) ((i, none) :: s.h.frzR i sz el) w := ⟨h1.os, h1.tape, h1.output, h1.size, h1.keep, h1.mle, h1.mnew, h1.nm, h1.ule, fun j o hj hre => by
    obtain ⟨p, g1, _, rfl⟩ := hg j o hj
    rw [AO.frzR_real] at hre
    exact h1.pnew j p g1 hre⟩
  have hR : Rel M' N (· < s.nx) ((i, none) :: s.h.frzR i sz el) w := by
    refine ⟨h2.frz, fun j o hj => ?_, fun j o hj hre => ?_, fun j o hj => ?_, fun j k o p hj hk ho hp => ?_⟩
    · obtain ⟨p, g1, _, rfl⟩ := hg j o hj
      exact h2.used j p g1
    · obtain ⟨p, g1, _, rfl⟩ := hg j o hj
      rw [AO.frzR_real] at hre
      exact h2.nfrz j p g1 hre
    · obtain ⟨p, g1, g2, rfl⟩ := hg j o hj
      cases p with
      | cells cs T0 =>
        obtain ⟨c, T, q1, q2, q3, q4, q5⟩ := hfit.1.obj j _ g2
        have hok := AH.okR_get hh j _ g2
        refine ⟨c, T, q1, q2, by simpa [frzL_eq] using q3, fun k q hq => ?_, q5⟩
        rw [frzL_eq, List.getElem?_map, Option.map_eq_some_iff] at hq
        obtain ⟨q0, hq0, rfl⟩ := hq
        exact h4 _ _ (q4 k q0 hq0) (inRowL_mem hok k q0 hq0)
      | row => exact h2.obj j _ g1
      | brow => exact h2.obj j _ g1
      | map0 => exact h2.obj j _ g1
      | map => exact h2.obj j _ g1
      | miter => exact h2.obj j _ g1
      | siter => exact h2.obj j _ g1
    · obtain ⟨o', g1, _, rfl⟩ := hg j o hj
      obtain ⟨p', g2, _, rfl⟩ := hg k p hk
      rw [AO.frzR_real] at ho hp
      exact h2.inj j k o' p' g1 g2 ho hp
  have hf' : Fits M' N ⟨s.f.frzR i sz el, (i, none) :: s.h.frzR i sz el, s.nx⟩ nt a w := ⟨hR, fun d => by
    rw [AF.frzR_get]; exact h4 _ _ (hfit.2.1 d) (AF.okR_get hf d), hfit.2.2⟩
  exact AW.then h hf' fun e a2 w2 M2 N2 s2 hx2 hf2 hr2 => ⟨M2, N2, s2, hE.trans hx2, hf2, hr2⟩
end Go.Al
/-
  Own objects that are data for a while: rows in rows become data; a stretch of code on data, and the objects again.
  No program stands here. Conditions: none.
-/
namespace Go.Al
/-! A row that becomes data, in rows too. -/
def AO.frzRR (i sz : Nat) (el : Nat → List IV) : AO → AO
  | .cells cs T => .cells (frzL i sz el cs) T
  | .row s es => .row s (es.map (frzL i sz el))
  | o => o
def AO.okRR (i sz n : Nat) : AO → Prop
  | .cells cs _ => inRowL i sz n cs
  | .row _ es => ∀ e ∈ es, inRowL i sz n e
  | _ => True
def AH.frzRR (i sz : Nat) (el : Nat → List IV) : AH → AH
  | [] => []
  | (k, none) :: r => (k, none) :: AH.frzRR i sz el r
  | (k, some o) :: r => (k, some (o.frzRR i sz el)) :: AH.frzRR i sz el r
def AH.okRR (i sz n : Nat) : AH → Prop
  | [] => True
  | (_, none) :: r => AH.okRR i sz n r
  | (_, some o) :: r => o.okRR i sz n ∧ AH.okRR i sz n r
theorem AH.frzRR_get (i sz : Nat) (el : Nat → List IV) : ∀ (h : AH) (j : Nat), (AH.frzRR i sz el h).get j = (h.get j).map (AO.frzRR i sz el)
  | [], _ => rfl
  | (k, none) :: r, j => by
    simp only [AH.frzRR, AH.get_cons, AH.frzRR_get i sz el r j]
    split <;> rfl
  | (k, some o) :: r, j => by
    simp only [AH.frzRR, AH.get_cons, AH.frzRR_get i sz el r j]
    split <;> rfl
theorem AH.okRR_get {i sz n : Nat} : ∀ {h : AH} (_ : h.okRR i sz n) (j : Nat) (o : AO), h.get j = some o → o.okRR i sz n
  | [], _, j, o, ho => nomatch ho
  | (k, none) :: r, hh, j, o, ho => by
    rw [AH.get_cons] at ho
    split at ho
    · cases ho
    · exact AH.okRR_get (h := r) hh j o ho
  | (k, some q) :: r, hh, j, o, ho => by
    rw [AH.get_cons] at ho
    split at ho
    · cases ho; exact hh.1
    · exact AH.okRR_get (h := r) hh.2 j o ho
theorem AO.frzRR_real (i sz : Nat) (el : Nat → List IV) (o : AO) : (o.frzRR i sz el).real = o.real := by
  cases o with
  | row s es => cases es <;> rfl
  | _ => rfl
theorem rel_frzRR {M : Mem} {N : Nm} {n : Nat} {h : AH} {w : World} (hr : Rel M N (· < n) h w) (i : Nat) {sz : Nat} {es : List (List PV)} (el : Nat → List IV) (hi : h.get i = some (.row sz es)) (hel : ∀ k e, es[k]? = some e → e = (el k).map .iv)
    (hh : h.okRR i sz es.length) : ∃ M', M.le M' ∧ Rel M' N (· < n) ((i, none) :: h.frzRR i sz el) w ∧ ∀ p x, VR M N (· < n) p x → p.inRow i sz es.length → VR M' N (· < n) (p.frz i sz el) x := by
  obtain ⟨M', h1, h2, h4⟩ := frz_row hr hi hel
  refine ⟨M', h1.mle, ?_, h4⟩
  have hg : ∀ j o, AH.get ((i, none) :: h.frzRR i sz el) j = some o → ∃ p, AH.get ((i, none) :: h) j = some p ∧ h.get j = some p ∧ o = p.frzRR i sz el := by
    intro j o hj
    obtain ⟨g1, g2⟩ := get_del j o hj
    rw [AH.frzRR_get, Option.map_eq_some_iff] at g2
    obtain ⟨p, g3, g4⟩ := g2
    exact ⟨p, by rw [AH.get_cons, if_neg g1]; exact g3, g3, g4.symm⟩
  refine ⟨h2.frz, fun j o hj => ?_, fun j o hj hre => ?_, fun j o hj => ?_, fun j k o p hj hk ho hp => ?_⟩
  · obtain ⟨p, g1, _, rfl⟩ := hg j o hj
    exact h2.used j p g1
  · obtain ⟨p, g1, _, rfl⟩ := hg j o hj
    rw [AO.frzRR_real] at hre
    exact h2.nfrz j p g1 hre
  · obtain ⟨p, g1, g2, rfl⟩ := hg j o hj
    cases p with
    | cells cs T0 =>
      obtain ⟨c, T, q1, q2, q3, q4, q5⟩ := hr.obj j _ g2
      have hok := AH.okRR_get hh j _ g2
      refine ⟨c, T, q1, q2, by simpa [frzL_eq] using q3, fun k q hq => ?_, q5⟩
      rw [frzL_eq, List.getElem?_map, Option.map_eq_some_iff] at hq
      obtain ⟨q0, hq0, rfl⟩ := hq
      exact h4 _ _ (q4 k q0 hq0) (inRowL_mem hok k q0 hq0)
    | row s2 es2 =>
      have hok := AH.okRR_get hh j _ g2
      rcases hr.obj j _ g2 with rfl | ⟨q0, c, T, q1, q2, q3, q4, q5⟩
      · exact .inl rfl
      · refine .inr ⟨q0, c, T, q1, q2, by simpa using q3, fun k e he => ?_, fun k e j2 p he hp => ?_⟩
        · rw [List.getElem?_map, Option.map_eq_some_iff] at he
          obtain ⟨e0, he0, rfl⟩ := he
          rw [frzL_eq, List.length_map]; exact q4 k e0 he0
        · rw [List.getElem?_map, Option.map_eq_some_iff] at he
          obtain ⟨e0, he0, rfl⟩ := he
          rw [frzL_eq, List.getElem?_map, Option.map_eq_some_iff] at hp
          obtain ⟨p0, hp0, rfl⟩ := hp
          exact h4 _ _ (q5 k e0 j2 p0 he0 hp0) (inRowL_mem (hok e0 (List.mem_of_getElem? he0)) j2 p0 hp0)
    | brow => exact h2.obj j _ g1
    | map0 => exact h2.obj j _ g1
    | map => exact h2.obj j _ g1
    | miter => exact h2.obj j _ g1
    | siter => exact h2.obj j _ g1
  · obtain ⟨o', g1, _, rfl⟩ := hg j o hj
    obtain ⟨p', g2, _, rfl⟩ := hg k p hk
    rw [AO.frzRR_real] at ho hp
    exact h2.inj j k o' p' g1 g2 ho hp
end Go.Al
/-
  A call on own objects that are data for the call alone.
  No program stands here. Conditions: none.
-/
namespace Go.Al
mutual
/-- What hangs on no datum. -/
def bareR : PV → Bool
  | .iv (.v _) => true
  | .iv _ => false
  | .agg cs => bareL cs
  | .tup cs => bareL cs
  | .clo _ _ _ => false
  | _ => true
def bareL : List PV → Bool
  | [] => true
  | p :: r => bareR p && bareL r
end
theorem bareL_mem : ∀ {l : List PV}, bareL l = true → ∀ (j : Nat) (p : PV), l[j]? = some p → bareR p = true
  | [], _, j, p, h => by simp at h
  | c :: l, hh, j, p, h => by
    simp only [bareL, Bool.and_eq_true] at hh
    cases j with
    | zero => simp at h; subst h; exact hh.1
    | succ j => exact bareL_mem hh.2 j p (by simpa using h)
theorem bareR_ok {M M' : Mem} {N : Nm} {U : Nat → Prop} {p : PV} {x : Value} (h : VR M N U p x) : bareR p = true → VR M' N U p x := by
  induction h with
  | iv x y h =>
    intro hb
    cases h with
    | v => exact .iv _ _ (.v _)
    | _ => cases hb
  | agg cs ys hl hr ih => exact fun hb => .agg _ _ hl fun j p hj => ih j p hj (bareL_mem hb j p hj)
  | tup cs ys hl hr ih => exact fun hb => .tup _ _ hl fun j p hj => ih j p hj (bareL_mem hb j p hj)
  | ptr i off h => exact fun _ => .ptr _ _ h
  | eptr i sz k off h => exact fun _ => .eptr _ _ _ _ h
  | optr z i h => exact fun _ => .optr _ _ h
  | sl i off len sz cap h h0 hl hc he => exact fun _ => .sl _ _ _ _ _ h h0 hl hc he
  | sl0 i sz h => exact fun _ => .sl0 _ _ h
  | mp i h => exact fun _ => .mp _ h
  | clo => intro hb; cases hb
  | kb b => exact fun _ => .kb _
  | any => exact fun _ => .any _
/-- An object of bare values. -/
def bareO : AO → Prop
  | .row _ es => ∀ e ∈ es, bareL e = true
  | .cells cs _ => bareL cs = true
  | _ => False
theorem bareO_ok {M M' : Mem} {N : Nm} {U : Nat → Prop} {w : World} {i : Nat} {o : AO} (hb : bareO o) (h : OR M N U w i o) : OR M' N U w i o := by
  cases o with
  | row sz es =>
    rcases h with h | ⟨h0, c, T, h1, h2, h3, h4, h5⟩
    · exact .inl h
    · exact .inr ⟨h0, c, T, h1, h2, h3, h4, fun k e j p he hp => bareR_ok (h5 k e j p he hp) (bareL_mem (hb e (List.mem_of_getElem? he)) j p hp)⟩
  | cells cs T0 =>
    obtain ⟨c, T, h1, h2, h3, h4, h5⟩ := h
    exact ⟨c, T, h1, h2, h3, fun j p hp => bareR_ok (h4 j p hp) (bareL_mem hb j p hp), h5⟩
  | _ => exact hb.elim
section
variable {P : Program} {nt : Nat} {Q : AQ} {k : List KI} {s : AS}
theorem bcall_OT {o : Oper} {c : Call} {g : FuncId} {asv args : List PV} (ho : o.op = .call c) (ha : argsOf s.f c = some (g, asv)) {r : PV} {h' : AH} {n' : Nat} (hc : Det P g args [] r h' n')
    (hlen : args.length = asv.length) (hlow : belowL 0 args = true)
    (hfz : ∀ M N w, Rel M N (· < s.nx) s.h w → ∃ M1 : Mem, M.le M1 ∧ Rel M1 N (· < s.nx) [] w ∧ ∀ (j : Nat) (p : PV) (x : Value), args[j]? = some p → (∀ q, asv[j]? = some q → VR M N (· < s.nx) q x) → VR M1 N (· < s.nx) p x)
    (hbr : bareR (r.ren (sig [] s.nx)) = true) (hbh : ∀ j o, (renH (sig [] s.nx) h').get j = some o → bareO o)
    {s' : AS} (hp : putDst nt o (r.ren (sig [] s.nx)) (behindCall s [] h' n') = some s') : OT P nt o s (fun t => t = s') := by
  intro M N a w hf K Z hk
  obtain ⟨vs, hrun, hl, hv⟩ := enter_ok hf ho ha hc.1
  unfold Oper.wp
  rw [hrun]
  simp only [Oper.upon]
  obtain ⟨M1, hM1, hr1, hv1⟩ := hfz M N w hf.1
  have hcall := Fn.calls (s := ⟨s.f, [], s.nx⟩) (L := []) hc List.nodup_nil (by simp) rfl (M := M1) (N := N) (w := w) hr1 (vs := vs) (by omega) (fun j p hj => by
    rw [PV.ren_low _ _ (belowL_mem hlow j p hj)]
    exact hv1 j p _ hj fun q hq => hv j q hq)
  refine hcall.mono ?_
  rintro e w' ⟨x, M', N', r', h2, n2, rfl, ⟨rfl, rfl, rfl⟩, hx, hr, hvr⟩
  have hag : N.agree N' (· < s.nx) := hx.nm
  have hule : ∀ i, i < s.nx → i < s.nx + (n2 - 0) := fun i hi => hx.ule i hi
  have hkeep : ∀ b, b < w.heap.size → w'.heap[b]? = w.heap[b]? := fun b hb => hx.keep b hb fun i o hi => (nomatch hi)
  have hg0 : (behindCall ⟨s.f, [], s.nx⟩ [] h2 n2).h = renH (sig [] s.nx) h2 := by simp [behindCall, dels]
  have hget : ∀ j o, (behindCall s [] h2 n2).h.get j = some o → (renH (sig [] s.nx) h2).get j = some o ∨ s.h.get j = some o := by
    intro j o hj
    simp only [behindCall, dels, List.nil_append] at hj
    rw [AH.get_append] at hj
    split at hj
    · exact .inl hj
    · exact .inr hj
  rw [hg0] at hr hx
  have hnew : ∀ j o, (renH (sig [] s.nx) h2).get j = some o → o.real = true → w.heap.size ≤ N'.blk j := by
    intro j o hj hre
    rcases hx.pnew j o hj hre with h | ⟨i, p, hi, _⟩
    · exact h
    · exact nomatch hi
  have hR : Rel M N' (· < s.nx + (n2 - 0)) (behindCall s [] h2 n2).h w' := by
    refine ⟨fun b d hb => (hf.1.frz b d hb).mono (hkeep b (hf.1.frz b d hb).lt), fun j o hj => ?_, fun j o hj hre => ?_, fun j o hj => ?_, fun i j o p hi hj hio hjp e => ?_⟩
    · rcases hget j o hj with h | h
      · exact hr.used j o h
      · exact hule j (hf.1.used j o h)
    · rcases hget j o hj with h | h
      · have := hnew j o h hre
        cases hm : M (N'.blk j) with
        | none => rfl
        | some d => have := (hf.1.frz _ d hm).lt; omega
      · rw [hag.blk j (hf.1.used j o h)]; exact hf.1.nfrz j o h hre
    · rcases hget j o hj with h | h
      · exact bareO_ok (hbh j o h) (hr.obj j o h)
      · cases hre : o.real with
        | true => exact (hf.1.obj j o h).mono (.refl _) hag hule (hf.1.used j o h) (hkeep _ ((hf.1.obj j o h).lt hre))
        | false =>
          cases o with
          | row sz es => cases es with
            | nil => exact .inl rfl
            | cons => cases hre
          | brow l T => cases l with
            | nil => exact .inl rfl
            | cons => cases hre
          | _ => cases hre
    · rcases hget i o hi with h1 | h1 <;> rcases hget j p hj with h2' | h2'
      · exact hr.inj i j o p h1 h2' hio hjp e
      · have := hnew i o h1 hio
        rw [e, hag.blk j (hf.1.used j p h2')] at this
        have := (hf.1.obj j p h2').lt hjp
        omega
      · have := hnew j p h2' hjp
        rw [← e, hag.blk i (hf.1.used i o h1)] at this
        have := (hf.1.obj i o h1).lt hio
        omega
      · rw [hag.blk i (hf.1.used i o h1), hag.blk j (hf.1.used j p h2')] at e
        exact hf.1.inj i j o p h1 h2' hio hjp e
  have hX : Ext M N (· < s.nx) s.h w M N' (· < s.nx + (n2 - 0)) (behindCall s [] h2 n2).h w' :=
    ⟨hx.os, hx.tape, hx.output, hx.size, fun b hb _ => hkeep b hb, .refl _, fun b d g1 g2 => absurd (g1.symm.trans g2) (by simp), hag, hule, fun j o hj hre => by
      rcases hget j o hj with h | h
      · exact .inl (hnew j o h hre)
      · exact .inr ⟨j, o, h, hre, (hag.blk j (hf.1.used j o h)).symm⟩⟩
  have hfb : Fits M N' (behindCall s [] h2 n2) nt a w' := ⟨hR, hf.2.1.ext hX, hf.2.2⟩
  have hvr2 : VR M N' (· < (behindCall s [] h2 n2).nx) (r'.ren (sig [] s.nx)) x := bareR_ok hvr hbr
  show K (a.put o.dst x) w'
  cases hd : o.dst with
  | none =>
    have := putDst_none hp hd
    subst this
    exact hk M N' _ _ w' hX hfb rfl
  | some d =>
    obtain ⟨h1, rfl⟩ := putDst_some hp hd
    exact hk M N' { behindCall s [] h2 n2 with f := (d, r'.ren (sig [] s.nx)) :: (behindCall s [] h2 n2).f } _ w' hX (hfb.put d _ x h1 hvr2) rfl
/-- A CALL WHOSE ARGUMENTS ARE OWN OBJECTS, data for the call alone. -/
theorem go_bcall {all rest : List Oper} {o : Oper} {c : Call} {g : FuncId} {asv args : List PV} {r : PV} {h' : AH} {n' : Nat} {s' : AS} (hc : Det P g args [] r h' n') (ho : o.op = .call c) (hg : o.guard = none) (ha : argsOf s.f c = some (g, asv))
    (hlen : args.length = asv.length) (hlow : belowL 0 args = true)
    (hfz : ∀ M N w, Rel M N (· < s.nx) s.h w → ∃ M1 : Mem, M.le M1 ∧ Rel M1 N (· < s.nx) [] w ∧ ∀ (j : Nat) (p : PV) (x : Value), args[j]? = some p → (∀ q, asv[j]? = some q → VR M N (· < s.nx) q x) → VR M1 N (· < s.nx) p x)
    (hbr : bareR (r.ren (sig [] s.nx)) = true) (hbh : ∀ j o, (renH (sig [] s.nx) h').get j = some o → bareO o) (hp : putDst nt o (r.ren (sig [] s.nx)) (behindCall s [] h' n') = some s')
    (h : GO P nt (.ops all rest :: k) Q s') : GO P nt (.ops all (o :: rest) :: k) Q s :=
  go_op hg (bcall_OT ho ha hc hlen hlow hfz hbr hbh hp) fun t ht => by subst ht; exact h
end
end Go.Al
/-
  One cell of an own row's element is written.
  No program stands here. Conditions: none.
-/
namespace Go.Al
section
variable {P : Program} {ty : Ty} {nt : Nat} {Q : AQ} {k : List KI} {s : AS}
theorem storeRow_OT (hty : TyOK P ty) {o : Oper} {t : TypeId} {a x : Operand} (ho : o.op = .store t a x) (hd : o.dst = none) {e : TyE} (he : ty t = some e) (hsz : e.size = 1) {i sz q off : Nat} {es : List (List PV)} {row : List PV} {v : PV}
    (ha : ev s.f a = .eptr i sz q off) (hi : s.h.get i = some (.row sz es)) (hq : es[q]? = some row) (hoff : Nat.blt off sz = true) (hx : ev s.f x = v) (hxs : v.cells = some [v]) (hone : v.one = true) :
    OT P nt o s (fun u => u = ⟨s.f, (i, some (.row sz (es.set q (row.set off v)))) :: s.h, s.nx⟩) := by
  have hp : putDst nt o .any ⟨s.f, (i, some (.row sz (es.set q (row.set off v)))) :: s.h, s.nx⟩ = some ⟨s.f, (i, some (.row sz (es.set q (row.set off v)))) :: s.h, s.nx⟩ := by simp only [putDst, hd]
  refine OT.skip hp fun M N b w hf => ?_
  have hu := ev_ok hf.2.1 a
  have hy := ev_ok hf.2.1 x
  rw [ha] at hu
  rw [hx] at hy
  have hoff' : off < sz := Nat.le_of_ble_eq_true hoff
  generalize hu2 : b.eval a = u at hu
  generalize hy2 : b.eval x = y at hy
  have key : ∃ w', (Instr.storeAt t u y).run P w = .ok () w' ∧ Ext M N (· < s.nx) s.h w M N (· < s.nx) ((i, some (.row sz (es.set q (row.set off v)))) :: s.h) w' ∧ Fits M N ⟨s.f, (i, some (.row sz (es.set q (row.set off v)))) :: s.h, s.nx⟩ nt b w' := by
    cases hu with
    | eptr _ _ _ _ hU =>
      obtain ⟨hl, hv⟩ := cells_ok hy hxs
      obtain ⟨y0, hy0⟩ : ∃ y0, y.cells = #[y0] := by
        have : y.cells.size = 1 := by simpa using hl.symm
        exact Array.size_eq_one_iff.1 this
      rcases hf.1.obj i _ hi with h0 | ⟨h0, c, T, g1, g2, g3, g4, g5⟩
      · rw [h0] at hq; cases hq
      have hql : q < es.length := (List.getElem?_eq_some_iff.1 hq).1
      have hrl := g4 q row hq
      have hmul : (q + 1) * sz ≤ es.length * sz := Nat.mul_le_mul_right _ hql
      have hle : q * sz + off + 1 ≤ c.size := by rw [Nat.succ_mul] at hmul; omega
      have hone' : ∀ z ∈ y.cells.toList, z.oneCell' = true := by
        intro z hz
        rw [hy0] at hz
        simp only [List.mem_singleton] at hz
        have := (hv 0 v rfl).one hone
        rw [hy0] at this
        subst hz; exact this
      have hrun := run_storeCells_at P (N.blk i) (q * sz + off) T y.cells.toList 0 c w g1 (by simp [hy0]; omega) hone'
      have hC : (c.toList.take (q * sz + off + 0) ++ y.cells.toList ++ c.toList.drop (q * sz + off + 0 + y.cells.toList.length)) = c.toList.set (q * sz + off) y0 := by
        rw [List.set_eq_take_append_cons_drop, if_pos (by simp; omega), hy0]
        simp
      rw [hC] at hrun
      refine ⟨w.setRow (N.blk i) (c.toList.set (q * sz + off) y0).toArray, ?_, ?_⟩
      · have hsize := run_sizeOf' (w := w) (hty t e he)
        have hs1 : y.cells.size = e.size := by rw [hy0, hsz]; rfl
        simp only [Instr.storeAt, Instr.sureAddr, pure_bind, storeVar, Sem.run_bind, hsize, Result.andThen_ok, hs1, ne_eq, not_true_eq_false, if_false, hrun]
      · have hrow := setRow_heap w (N.blk i) c (c.toList.set (q * sz + off) y0).toArray T (0, 0) g1
        have hne : ∀ b, b ≠ N.blk i → (w.setRow (N.blk i) (c.toList.set (q * sz + off) y0).toArray).heap[b]? = w.heap[b]? := by
          intro b hb
          simp only [World.setRow, Array.getElem?_modify]
          rw [if_neg (fun e => hb e.symm)]
        have hre : (AO.row sz es).real = true := by cases es with
          | nil => cases hq
          | cons => rfl
        have := hf.1.write hi hre (w.setRow (N.blk i) (c.toList.set (q * sz + off) y0).toArray) (.row sz (es.set q (row.set off v))) rfl rfl rfl (by simp) hne
          (.inr ⟨h0, _, T, hrow, by simp; exact g2, by simpa using g3, fun k2 e2 h2 => ?_, fun k2 e2 j2 p2 h2 h3 => ?_⟩)
        · exact ⟨this.1, this.2, hf.2.1, hf.2.2⟩
        · rw [List.getElem?_set] at h2
          split at h2
          · cases h2; rw [List.length_set]; exact hrl
          · exact g4 k2 e2 h2
        · have hgd : ∀ m, (c.toList.set (q * sz + off) y0).toArray.getD m undef = if q * sz + off = m then y0 else c.getD m undef := by
            intro m
            rw [Array.getD_eq_getD_getElem?, Array.getD_eq_getD_getElem?, List.getElem?_toArray, List.getElem?_set]
            split
            · rename_i e; subst e
              rw [if_pos (by simp; omega)]; rfl
            · simp
          rw [hgd]
          rw [List.getElem?_set] at h2
          split at h2
          · rename_i hk2
            subst hk2
            cases h2
            rw [List.getElem?_set] at h3
            split at h3
            · rename_i hj
              subst hj
              rw [if_pos (by omega)] at h3
              cases h3
              rw [if_pos rfl]
              have := hv 0 v rfl
              rw [hy0] at this; exact this
            · rename_i hj
              rw [if_neg (by omega)]
              exact g5 _ row j2 p2 hq h3
          · rename_i hk2
            have hj2 : j2 < sz := by rw [← g4 k2 e2 h2]; exact (List.getElem?_eq_some_iff.1 h3).1
            rw [if_neg ?_]
            · exact g5 k2 e2 j2 p2 h2 h3
            · intro e
              rcases Nat.lt_trichotomy q k2 with hlt | heq | hgt
              · have : (q + 1) * sz ≤ k2 * sz := Nat.mul_le_mul_right _ hlt
                rw [Nat.succ_mul] at this; omega
              · exact hk2 heq
              · have : (k2 + 1) * sz ≤ q * sz := Nat.mul_le_mul_right _ hgt
                rw [Nat.succ_mul] at this; omega
  obtain ⟨w', h1, h2, h3⟩ := key
  refine ⟨w', M, N, ?_, h2, h3⟩
  simp only [execOp, ho]
  simp [hu2, hy2, h1]
/-- .. as a step. -/
theorem go_storeRow (hty : TyOK P ty) {all rest : List Oper} {o : Oper} {t : TypeId} {a x : Operand} (ho : o.op = .store t a x) (hd : o.dst = none) (hg : o.guard = none) {e : TyE} (he : ty t = some e) (hsz : e.size = 1) {i sz q off : Nat} {es : List (List PV)} {row : List PV} {v : PV}
    (ha : ev s.f a = .eptr i sz q off) (hi : s.h.get i = some (.row sz es)) (hq : es[q]? = some row) (hoff : Nat.blt off sz = true) (hx : ev s.f x = v) (hxs : v.cells = some [v]) (hone : v.one = true)
    {s' : AS} (hs : (⟨s.f, (i, some (.row sz (es.set q (row.set off v)))) :: s.h, s.nx⟩ : AS) = s') (h : GO P nt (.ops all rest :: k) Q s') : GO P nt (.ops all (o :: rest) :: k) Q s :=
  go_op hg (storeRow_OT hty ho hd he hsz ha hi hq hoff hx hxs hone) fun u hu => by subst hu; subst hs; exact h
end
end Go.Al
/-
  From a card's world to the walks' data: the caller's whole memory is frozen; what the form reads is such data; what stays behind a call that writes nothing of the caller's.
  No program stands here. Conditions: none.
-/
namespace Go.Al
open Go.ChangeShapes Go.WideShapes Go.RowKit
/-- What a block holds, if nobody writes it. -/
def frzOf (W : World) (b : Nat) : Option MB := match W.heap[b]? with
  | some (.cells c _ _) => some (.cells c)
  | some (.map es cl) => some (.map es cl)
  | _ => none
/-- The tables lie in the world. -/
def TabOK (W : World) : Prop := ∀ b c, gtab b = some c → ∃ T fr, W.heap[b]? = some (.cells c T fr)
/-- The whole memory, frozen. -/
def Mem.ofW (W : World) (h : TabOK W) : Mem := ⟨frzOf W, fun b c hb => by obtain ⟨T, fr, e⟩ := h b c hb; simp [frzOf, e]⟩
def nm0 : Nm := ⟨fun _ => 0, fun _ => 0⟩
theorem rel_ofW (W : World) (h : TabOK W) : Rel (Mem.ofW W h) nm0 (· < 0) [] W := by
  refine ⟨fun b c hb => ?_, fun i o hi => by simp [AH.get] at hi, fun i o hi => by simp [AH.get] at hi, fun i o hi => by simp [AH.get] at hi, fun i j o p hi => by simp [AH.get] at hi⟩
  have hb' : frzOf W b = some c := hb
  unfold frzOf at hb'
  split at hb'
  · rename_i c' T fr e
    obtain rfl := Option.some.inj hb'
    exact ⟨T, fr, e⟩
  · rename_i es cl e
    obtain rfl := Option.some.inj hb'
    exact e
  · cases hb'
theorem cell_ofW {W : World} {h : TabOK W} {b o : Nat} {v : Value} (hc : W.cell? ⟨b, o, none⟩ = some v) : (Mem.ofW W h).cell b o = some v := by
  show (match frzOf W b with | some (.cells c) => c[o]? | _ => none) = some v
  unfold World.cell? at hc
  unfold frzOf
  split at hc
  · rename_i c T fr e
    simp only at e
    rw [e]
    simpa using hc
  · cases hc
/-- Cells are what they are told to be. -/
def CR (M : Mem) (l : List IV) (cs : List Value) : Prop := l.length = cs.length ∧ ∀ j p, l[j]? = some p → IR M p (cs.getD j undef)
theorem CR.nil (M : Mem) : CR M [] [] := ⟨rfl, fun j p h => by simp at h⟩
theorem CR.one {M : Mem} {p : IV} {v : Value} (h : IR M p v) : CR M [p] [v] := ⟨rfl, fun j q hq => by
  cases j with
  | zero => simp at hq; subst hq; simpa using h
  | succ j => simp at hq⟩
theorem CR.append {M : Mem} {l l' : List IV} {cs cs' : List Value} (h : CR M l cs) (k : CR M l' cs') : CR M (l ++ l') (cs ++ cs') := by
  refine ⟨by simp [h.1, k.1], fun j p hp => ?_⟩
  rcases Nat.lt_or_ge j l.length with hj | hj
  · rw [List.getElem?_append_left hj] at hp
    have := h.2 j p hp
    rw [List.getD_eq_getElem?_getD] at this ⊢
    rwa [List.getElem?_append_left (by rw [← h.1]; exact hj)]
  · rw [List.getElem?_append_right hj] at hp
    have := k.2 _ p hp
    rw [List.getD_eq_getElem?_getD] at this ⊢
    rw [List.getElem?_append_right (by rw [← h.1]; exact hj), ← h.1]
    exact this
theorem CR.tile {M : Mem} {l r : List IV} {cs : List Value} {o n o' : Nat} (h : CR M l ((cs.drop o).take n)) (e : o' = o + n) (k : CR M r (cs.drop o')) : CR M (l ++ r) (cs.drop o) := by
  subst e
  have := h.append k
  rwa [← List.drop_drop, List.take_append_drop] at this
theorem CR.end_ {M : Mem} {cs : List Value} {o : Nat} (h : cs.length = o) : CR M [] (cs.drop o) := by
  rw [List.drop_eq_nil_of_le (by omega)]; exact .nil M
theorem CR.agg {M : Mem} {N : Nm} {U : Nat → Prop} {l : List IV} {ys : Array Value} (h : CR M l ys.toList) : VR M N U (ag l) (.agg ys) := by
  refine .agg _ _ (by simpa using h.1) fun j p hp => ?_
  rw [List.getElem?_map, Option.map_eq_some_iff] at hp
  obtain ⟨q, hq, rfl⟩ := hp
  have := h.2 j q hq
  exact .iv _ _ (by simpa [Array.getD_eq_getD_getElem?, List.getD_eq_getElem?_getD] using this)
theorem CR.le {M : Mem} {l l' : List IV} {cs : List Value} (h : CR M l cs) (hl : l.length = l'.length) (hle : ∀ (j : Nat) (p q : IV), l[j]? = some p → l'[j]? = some q → IVle p q) : CR M l' cs := by
  refine ⟨hl ▸ h.1, fun j q hq => ?_⟩
  have hj : j < l.length := by rw [hl]; exact (List.getElem?_eq_some_iff.1 hq).1
  exact hle j _ q (List.getElem?_eq_getElem hj) hq M _ (h.2 j _ (List.getElem?_eq_getElem hj))
theorem CR.le1 {M : Mem} {p q : IV} {cs : List Value} (h : CR M [p] cs) (hle : IVle p q) : CR M [q] cs :=
  h.le rfl fun j p' q' hp hq => by
    cases j with
    | zero => simp at hp hq; subst hp; subst hq; exact hle
    | succ j => simp at hp
section
variable {H : Type} {enc : TypeId × Value → H} {P : Program} {W : World} {hT : TabOK W} {sp : Nat → Bool} {held : Bool}
/-- CELLS OF A TYPE, READ WITHIN n STEPS, ARE SOME x's; Q ties it to what was read. -/
def Rd (enc : TypeId × Value → H) (P : Program) (W : World) (hT : TabOK W) (sp : Nat → Bool) (held : Bool) (t : TypeId) {α : Type} (c : α → List IV) (Q : α → DataW H → Prop) (n : Nat) : Prop :=
  ∀ m, m ≤ n → ∀ cs y, DataW.trod enc P W 0 sp held m t cs = some y → ∃ x, CR (Mem.ofW W hT) (c x) cs ∧ Q x y.1
theorem Rd.mono {t : TypeId} {α : Type} {c : α → List IV} {Q : α → DataW H → Prop} {n m : Nat} (h : Rd enc P W hT sp held t c Q n) (hm : m ≤ n) : Rd enc P W hT sp held t c Q m := fun k hk => h k (Nat.le_trans hk hm)
theorem rd_int {t : TypeId} {k : IntKind} (ht : P.underlying t = some (.int k)) (n : Nat) : Rd enc P W hT sp held t (fun z => [.v (.int k z)]) (fun z d => d = .lit (.int k z) ∧ (Lit.int k z).wf = true) n := by
  intro m _ cs y h
  cases m with
  | zero => simp [DataW.trod] at h
  | succ m =>
    unfold DataW.trod at h
    rw [ht] at h
    split at h <;> simp_all
    obtain ⟨⟨rfl, hw⟩, rfl⟩ := h
    exact ⟨_, .one (.v _), rfl, hw⟩
theorem rd_string {t : TypeId} (ht : P.underlying t = some .string) (n : Nat) : Rd enc P W hT sp held t (fun s => [.v (.string s)]) (fun s d => d = .lit (.string s.data.toList) ∧ s.size ≤ maxLen) n := by
  intro m _ cs y h
  cases m with
  | zero => simp [DataW.trod] at h
  | succ m =>
    unfold DataW.trod at h
    rw [ht] at h
    split at h <;> simp_all
    rename_i s
    obtain ⟨hw, rfl⟩ := h
    exact ⟨s, .one (.v _), rfl, hw⟩
/-- A list is read as a slice's elements. -/
def QL {α : Type} (Q : α → DataW H → Prop) (l : List α) (d : DataW H) : Prop :=
  ∃ el : List (DataW H), (d = .nil ∧ el = [] ∨ ∃ sp, d = .slice el sp) ∧ l.length = el.length ∧ ∀ (i : Nat) (x : α) (e : DataW H), l[i]? = some x → el[i]? = some e → Q x e
theorem rd_slice {α : Type} [Inhabited α] {t e : TypeId} {sz : Nat} {c : α → List IV} {Q : α → DataW H → Prop} {n : Nat} (ht : P.underlying t = some (.slice e)) (hc : P.cellsOf e = sz) (hpos : 0 < sz) (hl : ∀ x, (c x).length = sz)
    (he : Rd enc P W hT sp held e c Q n) : Rd enc P W hT sp held t (fun l : List α => [slc sz l c]) (QL Q) (n + 1) := by
  intro m hm cs y h
  rcases DataW.trod_slice ht h with ⟨rfl, rfl⟩ | ⟨a, len, cap, elems, rest, k, rfl, rfl, rfl, _, h1, h2, h3, h4, _⟩
  · exact ⟨[], .one (.imm0 ..), [], .inl ⟨rfl, rfl⟩, rfl, fun i x e h => by simp at h⟩
  have key : ∀ i, i < len → ∃ x, (∃ cs', W.cells? 0 (a.add (i * sz)) sz = some cs' ∧ CR (Mem.ofW W hT) (c x) cs') ∧ ∃ y, elems[i]? = some y ∧ Q x y.1 := by
    intro i hi
    have h5 := h4 i hi
    rw [hc, List.getElem?_eq_getElem (by omega)] at h5
    obtain ⟨cs', h6, h7⟩ := Option.bind_eq_some_iff.1 h5
    obtain ⟨x, h8, h9⟩ := he k (by omega) _ _ h7
    exact ⟨x, ⟨cs', h6, h8⟩, _, List.getElem?_eq_getElem (by omega), h9⟩
  obtain ⟨f, hf⟩ := Deep.choose_lt key
  refine ⟨(List.range len).map f, .one ?_, elems.map (·.1), .inr ⟨_, rfl⟩, by simp [h3], fun i x e hx hex => ?_⟩
  · cases len with
    | zero => exact .imm0 ..
    | succ len =>
      have hsp : ∀ i, i < len + 1 → ∀ j, j < sz → W.cell? ((a.add (i * sz)).add j) = ((c (f i))[j]?).bind fun _ => (W.cell? ((a.add (i * sz)).add j)) := by
        intro i hi j hj
        rw [List.getElem?_eq_getElem (by rw [hl]; exact hj)]; rfl
      have hcell : ∀ i, i < len + 1 → ∀ j, j < sz → ∃ v, W.cell? ⟨a.block, a.off + i * sz + j, none⟩ = some v ∧ (∀ p, (c (f i))[j]? = some p → IR (Mem.ofW W hT) p v) ∧ a.spot = none := by
        intro i hi j hj
        obtain ⟨⟨cs', h6, h8⟩, _⟩ := hf i hi
        obtain ⟨_, h9, h10⟩ := World.cells?_some h6
        have h11 := h10 j hj
        rw [List.getElem?_eq_getElem (by omega)] at h11
        have hs : ∀ j, j < sz → (a.add (i * sz + j)).spot = none := fun j hj => by
          have h12 := h10 j hj
          rw [List.getElem?_eq_getElem (by omega), Deep.add_add] at h12
          exact World.cell?_spot h12
        have hadd : a.add (i * sz + j) = ⟨a.block, a.off + i * sz + j, none⟩ := by
          have := hs j hj
          unfold Addr.add at this ⊢
          split
          · rename_i h0
            rw [if_pos h0] at this
            cases a; simp_all
          · rw [Nat.add_assoc]
        refine ⟨cs'[j]'(by omega), ?_, fun p hp => ?_, ?_⟩
        · rw [← hadd, ← Deep.add_add]; exact h11
        · have := h8.2 j p hp
          rwa [List.getD_eq_getElem?_getD, List.getElem?_eq_getElem (by omega)] at this
        · obtain ⟨⟨cs0, g6, _⟩, _⟩ := hf 0 (by omega)
          obtain ⟨_, g9, g10⟩ := World.cells?_some g6
          have g11 := g10 0 hpos
          rw [List.getElem?_eq_getElem (by omega), Deep.add_add] at g11
          have := World.cell?_spot g11
          simpa [Addr.add] using this
      have ha : some a = some (⟨a.block, a.off, none⟩ : Addr) := by
        obtain ⟨_, _, _, hs⟩ := hcell 0 (by omega) 0 hpos
        cases a; simp_all
      rw [ha]
      have hlen : ((List.range (len + 1)).map f).length = len + 1 := by simp
      have hget : ∀ k, k < len + 1 → ((List.range (len + 1)).map f).getD k default = f k := fun k hk => by
        simp [List.getD_eq_getElem?_getD, List.getElem?_range hk]
      unfold slc
      rw [hlen]
      refine .imm _ _ _ _ _ _ h1 h2 (fun k _ => hl _) (fun k j hk hj => ?_) (fun k j p hk hp => ?_)
      · obtain ⟨v, hv, _⟩ := hcell k hk j hj
        rw [cell_ofW hv]; rfl
      · rw [hget k hk] at hp
        have hj : j < sz := by rw [← hl (f k)]; exact (List.getElem?_eq_some_iff.1 hp).1
        obtain ⟨v, hv, hp', _⟩ := hcell k hk j hj
        rw [cell_ofW hv]
        exact hp' p hp
  · have hi : i < len := by simpa using (List.getElem?_eq_some_iff.1 hx).1
    obtain ⟨_, y, hy, hq⟩ := hf i hi
    rw [List.getElem?_map, hy] at hex
    rw [List.getElem?_map, List.getElem?_range hi] at hx
    simp at hex hx
    subst hex; subst hx; exact hq
/-- A struct's field, read. -/
theorem fld {n : Nat} {fs : Array Field} {cs : List Value} {xs : List (DataW H × List MemPlace)} (hf : ∀ (i : Nat) (f : Field), fs[i]? = some f → DataW.trod enc P W 0 sp held n f.type ((cs.drop f.offset).take (P.cellsOf f.type)) = xs[i]?)
    (i : Nat) {f : Field} (h1 : fs[i]? = some f) {t o sz : Nat} (h2 : f.type = t) (h3 : f.offset = o) (h4 : P.cellsOf t = sz) {x : DataW H × List MemPlace} (hx : xs[i]? = some x) : DataW.trod enc P W 0 sp held n t ((cs.drop o).take sz) = some x := by
  subst h2; subst h3; subst h4
  rw [hf i f h1, hx]
end
/-! Behind the call. -/
section
variable {H : Type} {enc : TypeId × Value → H} {P : Program} {W W' : World} {T : TypeId → Prop}
theorem sameAt_of {W W' : World} (hk : ∀ b, b < W.heap.size → W'.heap[b]? = W.heap[b]?) {p : MemPlace} (hp : p.block < W.heap.size) : W.sameAt W' p := by
  cases p with
  | cell b o => exact World.cell?_of_block (a := ⟨b, o, none⟩) (hk b hp)
  | map b => exact hk b hp
theorem trodAll_again (K : Kids P T) (hz : ∀ {t e}, T t → P.underlying t = some (.slice e) → 0 < P.cellsOf e) (hk : ∀ b, b < W.heap.size → W'.heap[b]? = W.heap[b]?) {sp : Nat → Bool} :
    ∀ {ts : List TypeId} {vs : List Value} {ds : List (DataW H)} {ps : List MemPlace}, (∀ t ∈ ts, T t) → DataW.TrodAll enc P W 0 (fun _ => true) true ts vs ds ps → (∀ p ∈ ps, p.block < W.heap.size) → (∀ p ∈ ps, sp p.block = true) →
      DataW.TrodAll enc P W' 0 sp true ts vs ds ps
  | [], vs, ds, ps, _, h, _, _ => by
    obtain ⟨rfl, rfl, rfl⟩ := trodAll_nil h
    exact trodAll_mk0
  | t :: ts, vs, ds, ps, hT, h, hlt, hsp => by
    obtain ⟨v, vs', d, ds', p, q, rfl, rfl, rfl, ⟨n, h1⟩, h2⟩ := trodAll_cons h
    refine ⟨p, q, ⟨n, DataW.trod_stays K hz (fun h => by cases h) (hT t (by simp)) h1 (fun x hx => sameAt_of hk (hlt x (List.mem_append_left _ hx))) (fun x hx => hsp x (List.mem_append_left _ hx))⟩, ?_, rfl⟩
    exact trodAll_again K hz hk (fun t ht => hT t (List.mem_cons_of_mem _ ht)) h2 (fun x hx => hlt x (List.mem_append_right _ hx)) (fun x hx => hsp x (List.mem_append_right _ hx))
theorem kept_of {W W' : World} (hos : W'.os = W.os) (hout : W'.output = W.output) (hk : ∀ b, b < W.heap.size → W'.heap[b]? = W.heap[b]?) (may : MemPlace → Prop) : W.keptBut W' may := by
  refine World.keptBut_mono (fun p hp => (hp : False).elim) (World.keptBut_none_iff.2 ⟨hos, hout, hk⟩)
/-- WHAT IS OWED BEHIND A CALL that left the caller's memory as it was. -/
theorem post_of_kept {f : Func} {s : ChangeSpec} {apart fresh handsOn again : Bool} {args : Array Value} {v : Value} {ds gs : List (DataW H)} {before : List MemPlace}
    (K : Kids P T) (hz : ∀ {t e}, T t → P.underlying t = some (.slice e) → 0 < P.cellsOf e) (hTs : ∀ t ∈ f.params.toList, T t) (hvars : s.vars = [])
    (hW : DataW.Whole enc P f.params.toList s.vars apart W args.toList ds gs before) (hos : W'.os = W.os) (hout : W'.output = W.output) (hk : ∀ b, b < W.heap.size → W'.heap[b]? = W.heap[b]?)
    (hres : ∀ (b : Nat) (sp : Nat → Bool) (hd : Bool), DataW.TrodAll enc P W' b sp hd f.resultTypes.toList (v.resultList f.resultTypes.size) (s.fn H (ds ++ gs)).results [])
    (hargs : (s.fn H (ds ++ gs)).args = ds) (hvs : (s.fn H (ds ++ gs)).vars = [])
    (hok : ∀ (j : Nat) (t : TypeId) (r : Value), f.resultTypes[j]? = some t → (v.resultList f.resultTypes.size)[j]? = some r → Value.okWide P W' .any 0 t r) :
    s.post enc P f apart fresh handsOn again W args v W' := by
  have hlt : ∀ p ∈ before, p.block < W.heap.size := fun p hp => by simpa using hW.lt p hp
  have hold : ∀ p ∈ before, (fun b => decide (b < W.heap.size)) p.block = true := fun p hp => by simpa using hW.lt p hp
  obtain ⟨pa, pv, hA, hV, rfl, hfz, hnd⟩ := id hW
  rw [hvars] at hV
  obtain ⟨rfl, rfl⟩ : gs = [] ∧ pv = [] := by
    cases gs with
    | nil => exact ⟨rfl, hV⟩
    | cons _ _ => exact hV.elim
  rw [List.append_nil] at hlt hold
  have hagain : ∀ sp : Nat → Bool, (∀ p ∈ pa, sp p.block = true) → DataW.TrodAll enc P W' 0 sp true f.params.toList args.toList (s.fn H (ds ++ [])).args pa := fun sp hsp => by
    rw [hargs]; exact trodAll_again K hz hk hTs hA hlt hsp
  have hva : ∀ sp : Nat → Bool, DataW.TrodVars enc P W' sp s.vars (s.fn H (ds ++ [])).vars [] := fun sp => by
    rw [hvs, hvars]; rfl
  refine ⟨ds, [], pa ++ [], [], pa, [], hW, hres _ _ _, hagain _ hold, hva _, ?_, fun _ => ⟨hok, _, _, ([] ++ pa) ++ [], ⟨[] ++ pa, [], trodAll_append (hagain _ (fun _ _ => rfl)) (hres _ _ _), hva _, rfl, ?_, ?_⟩, ?_⟩⟩
  · exact kept_of hos hout hk _
  · intro b off hp
    have hp' : MemPlace.cell b off ∈ pa := by simpa using hp
    have hb := hlt _ hp'
    have := hfz b off (by simpa using hp')
    rw [← this]
    simp only [World.frozen?]
    rw [hk b hb]
  · intro ha
    have := hnd ha
    simpa using this
  · intro p hp _
    simpa using hp
end
end Go.Al
/-
  The types of the program, as the walks need them, and that they are the program's. Printed by gen_ty.py.
-/
namespace Go.Proofs.YtpnclpbkecjinaaGreatDoorR
open Go Go.Al
def ty1 : TyE := ⟨.prim (.func #[] #[] false), 1, 8, .nilFunc, false⟩
theorem tyOk1 : EntryOK Tryz.prog 1 ty1 := ⟨entry_info (by kernel_rfl), ⟨Tryz.underlying1, rfl⟩, fun h => nomatch h⟩
def ty2 : TyE := ⟨.prim (.int .i64), 1, 8, .int .i64 (0), false⟩
theorem tyOk2 : EntryOK Tryz.prog 2 ty2 := ⟨entry_info (by kernel_rfl), ⟨Tryz.underlying2, rfl⟩, fun h => nomatch h⟩
def ty3 : TyE := ⟨.prim (.int .i64), 1, 8, .int .i64 (0), false⟩
theorem tyOk3 : EntryOK Tryz.prog 3 ty3 := ⟨entry_info (by kernel_rfl), ⟨Tryz.underlying3, rfl⟩, fun h => nomatch h⟩
def ty4 : TyE := ⟨.prim (.bool), 1, 1, .bool false, false⟩
theorem tyOk4 : EntryOK Tryz.prog 4 ty4 := ⟨entry_info (by kernel_rfl), ⟨Tryz.underlying4, rfl⟩, fun h => nomatch h⟩
def ty5 : TyE := ⟨.prim (.int .u8), 1, 1, .int .u8 (0), false⟩
theorem tyOk5 : EntryOK Tryz.prog 5 ty5 := ⟨entry_info (by kernel_rfl), ⟨Tryz.underlying5, rfl⟩, fun h => nomatch h⟩
def ty6 : TyE := ⟨.prim (.int .u8), 1, 1, .int .u8 (0), false⟩
theorem tyOk6 : EntryOK Tryz.prog 6 ty6 := ⟨entry_info (by kernel_rfl), ⟨Tryz.underlying6, rfl⟩, fun h => nomatch h⟩
def ty7 : TyE := ⟨.strct [(0, 2), (1, 3), (2, 4), (3, 6)], 4, 24, .agg #[.int .i64 (0), .int .i64 (0), .bool false, .int .u8 (0)], true⟩
theorem tyOk7 : EntryOK Tryz.prog 7 ty7 := ⟨entry_info (by kernel_rfl), ⟨_, Tryz.underlying7, rfl⟩, fun _ => eqOK_of Tryz.underlying7 Tryz.stoodInHeld7 Tryz.eqGuardType7 (by decide)⟩
def ty8 : TyE := ⟨.strct [(0, 2), (1, 3), (2, 4), (3, 6)], 4, 24, .agg #[.int .i64 (0), .int .i64 (0), .bool false, .int .u8 (0)], true⟩
theorem tyOk8 : EntryOK Tryz.prog 8 ty8 := ⟨entry_info (by kernel_rfl), ⟨_, Tryz.underlying8, rfl⟩, fun _ => eqOK_of Tryz.underlying8 Tryz.stoodInHeld8 Tryz.eqGuardType8 (by decide)⟩
def ty9 : TyE := ⟨.prim (.string), 1, 16, .string ByteArray.empty, false⟩
theorem tyOk9 : EntryOK Tryz.prog 9 ty9 := ⟨entry_info (by kernel_rfl), ⟨Tryz.underlying9, rfl⟩, fun h => nomatch h⟩
def ty10 : TyE := ⟨.prim (.string), 1, 16, .string ByteArray.empty, false⟩
theorem tyOk10 : EntryOK Tryz.prog 10 ty10 := ⟨entry_info (by kernel_rfl), ⟨Tryz.underlying10, rfl⟩, fun h => nomatch h⟩
def ty11 : TyE := ⟨.prim (.string), 1, 16, .string ByteArray.empty, false⟩
theorem tyOk11 : EntryOK Tryz.prog 11 ty11 := ⟨entry_info (by kernel_rfl), ⟨Tryz.underlying11, rfl⟩, fun h => nomatch h⟩
def ty12 : TyE := ⟨.prim (.int .u64), 1, 8, .int .u64 (0), false⟩
theorem tyOk12 : EntryOK Tryz.prog 12 ty12 := ⟨entry_info (by kernel_rfl), ⟨Tryz.underlying12, rfl⟩, fun h => nomatch h⟩
def ty13 : TyE := ⟨.strct [(0, 9), (1, 12)], 2, 24, .agg #[.string ByteArray.empty, .int .u64 (0)], false⟩
theorem tyOk13 : EntryOK Tryz.prog 13 ty13 := ⟨entry_info (by kernel_rfl), ⟨_, Tryz.underlying13, rfl⟩, fun h => nomatch h⟩
def ty14 : TyE := ⟨.strct [(0, 9), (1, 12)], 2, 24, .agg #[.string ByteArray.empty, .int .u64 (0)], false⟩
theorem tyOk14 : EntryOK Tryz.prog 14 ty14 := ⟨entry_info (by kernel_rfl), ⟨_, Tryz.underlying14, rfl⟩, fun h => nomatch h⟩
def ty15 : TyE := ⟨.prim (.pointer 286), 1, 8, .pointer none, false⟩
theorem tyOk15 : EntryOK Tryz.prog 15 ty15 := ⟨entry_info (by kernel_rfl), ⟨Tryz.underlying15, rfl⟩, fun h => nomatch h⟩
def ty16 : TyE := ⟨.prim (.pointer 289), 1, 8, .pointer none, false⟩
theorem tyOk16 : EntryOK Tryz.prog 16 ty16 := ⟨entry_info (by kernel_rfl), ⟨Tryz.underlying16, rfl⟩, fun h => nomatch h⟩
def ty17 : TyE := ⟨.prim (.pointer 296), 1, 8, .pointer none, false⟩
theorem tyOk17 : EntryOK Tryz.prog 17 ty17 := ⟨entry_info (by kernel_rfl), ⟨Tryz.underlying17, rfl⟩, fun h => nomatch h⟩
def ty18 : TyE := ⟨.strct [(0, 17)], 1, 8, .agg #[.pointer none], false⟩
theorem tyOk18 : EntryOK Tryz.prog 18 ty18 := ⟨entry_info (by kernel_rfl), ⟨_, Tryz.underlying18, rfl⟩, fun h => nomatch h⟩
def ty19 : TyE := ⟨.strct [(0, 17)], 1, 8, .agg #[.pointer none], false⟩
theorem tyOk19 : EntryOK Tryz.prog 19 ty19 := ⟨entry_info (by kernel_rfl), ⟨_, Tryz.underlying19, rfl⟩, fun h => nomatch h⟩
def ty21 : TyE := ⟨.prim (.int .i32), 1, 4, .int .i32 (0), false⟩
theorem tyOk21 : EntryOK Tryz.prog 21 ty21 := ⟨entry_info (by kernel_rfl), ⟨Tryz.underlying21, rfl⟩, fun h => nomatch h⟩
def ty22 : TyE := ⟨.prim (.slice 116), 1, 24, .slice none 0 0, false⟩
theorem tyOk22 : EntryOK Tryz.prog 22 ty22 := ⟨entry_info (by kernel_rfl), ⟨Tryz.underlying22, rfl⟩, fun h => nomatch h⟩
def ty23 : TyE := ⟨.prim (.slice 61), 1, 24, .slice none 0 0, false⟩
theorem tyOk23 : EntryOK Tryz.prog 23 ty23 := ⟨entry_info (by kernel_rfl), ⟨Tryz.underlying23, rfl⟩, fun h => nomatch h⟩
def ty24 : TyE := ⟨.strct [(0, 22), (1, 23)], 2, 48, .agg #[.slice none 0 0, .slice none 0 0], true⟩
theorem tyOk24 : EntryOK Tryz.prog 24 ty24 := ⟨entry_info (by kernel_rfl), ⟨_, Tryz.underlying24, rfl⟩, fun _ => eqOK_of Tryz.underlying24 Tryz.stoodInHeld24 Tryz.eqGuardType24 (by decide)⟩
def ty25 : TyE := ⟨.strct [(0, 22), (1, 23)], 2, 48, .agg #[.slice none 0 0, .slice none 0 0], true⟩
theorem tyOk25 : EntryOK Tryz.prog 25 ty25 := ⟨entry_info (by kernel_rfl), ⟨_, Tryz.underlying25, rfl⟩, fun _ => eqOK_of Tryz.underlying25 Tryz.stoodInHeld25 Tryz.eqGuardType25 (by decide)⟩
def ty26 : TyE := ⟨.prim (.func #[] #[4] false), 1, 8, .nilFunc, false⟩
theorem tyOk26 : EntryOK Tryz.prog 26 ty26 := ⟨entry_info (by kernel_rfl), ⟨Tryz.underlying26, rfl⟩, fun h => nomatch h⟩
def ty27 : TyE := ⟨.prim (.slice 32), 1, 24, .slice none 0 0, false⟩
theorem tyOk27 : EntryOK Tryz.prog 27 ty27 := ⟨entry_info (by kernel_rfl), ⟨Tryz.underlying27, rfl⟩, fun h => nomatch h⟩
def ty28 : TyE := ⟨.prim (.int .i64), 1, 8, .int .i64 (0), false⟩
theorem tyOk28 : EntryOK Tryz.prog 28 ty28 := ⟨entry_info (by kernel_rfl), ⟨Tryz.underlying28, rfl⟩, fun h => nomatch h⟩
def ty30 : TyE := ⟨.prim (.func #[25, 3] #[27, 28] false), 1, 8, .nilFunc, false⟩
theorem tyOk30 : EntryOK Tryz.prog 30 ty30 := ⟨entry_info (by kernel_rfl), ⟨Tryz.underlying30, rfl⟩, fun h => nomatch h⟩
def ty31 : TyE := ⟨.strct [(0, 9), (1, 3)], 2, 24, .agg #[.string ByteArray.empty, .int .i64 (0)], true⟩
theorem tyOk31 : EntryOK Tryz.prog 31 ty31 := ⟨entry_info (by kernel_rfl), ⟨_, Tryz.underlying31, rfl⟩, fun _ => eqOK_of Tryz.underlying31 Tryz.stoodInHeld31 Tryz.eqGuardType31 (by decide)⟩
def ty32 : TyE := ⟨.strct [(0, 9), (1, 3)], 2, 24, .agg #[.string ByteArray.empty, .int .i64 (0)], true⟩
theorem tyOk32 : EntryOK Tryz.prog 32 ty32 := ⟨entry_info (by kernel_rfl), ⟨_, Tryz.underlying32, rfl⟩, fun _ => eqOK_of Tryz.underlying32 Tryz.stoodInHeld32 Tryz.eqGuardType32 (by decide)⟩
def ty33 : TyE := ⟨.prim (.func #[25, 3] #[4] false), 1, 8, .nilFunc, false⟩
theorem tyOk33 : EntryOK Tryz.prog 33 ty33 := ⟨entry_info (by kernel_rfl), ⟨Tryz.underlying33, rfl⟩, fun h => nomatch h⟩
def ty34 : TyE := ⟨.prim (.slice 40), 1, 24, .slice none 0 0, false⟩
theorem tyOk34 : EntryOK Tryz.prog 34 ty34 := ⟨entry_info (by kernel_rfl), ⟨Tryz.underlying34, rfl⟩, fun h => nomatch h⟩
def ty35 : TyE := ⟨.prim (.func #[25] #[25] false), 1, 8, .nilFunc, false⟩
theorem tyOk35 : EntryOK Tryz.prog 35 ty35 := ⟨entry_info (by kernel_rfl), ⟨Tryz.underlying35, rfl⟩, fun h => nomatch h⟩
def ty36 : TyE := ⟨.prim (.func #[34] #[34] false), 1, 8, .nilFunc, false⟩
theorem tyOk36 : EntryOK Tryz.prog 36 ty36 := ⟨entry_info (by kernel_rfl), ⟨Tryz.underlying36, rfl⟩, fun h => nomatch h⟩
def ty37 : TyE := ⟨.prim (.func #[25, 40] #[28] false), 1, 8, .nilFunc, false⟩
theorem tyOk37 : EntryOK Tryz.prog 37 ty37 := ⟨entry_info (by kernel_rfl), ⟨Tryz.underlying37, rfl⟩, fun h => nomatch h⟩
def ty38 : TyE := ⟨.prim (.slice 69), 1, 24, .slice none 0 0, false⟩
theorem tyOk38 : EntryOK Tryz.prog 38 ty38 := ⟨entry_info (by kernel_rfl), ⟨Tryz.underlying38, rfl⟩, fun h => nomatch h⟩
def ty39 : TyE := ⟨.strct [(0, 9), (1, 38)], 2, 40, .agg #[.string ByteArray.empty, .slice none 0 0], true⟩
theorem tyOk39 : EntryOK Tryz.prog 39 ty39 := ⟨entry_info (by kernel_rfl), ⟨_, Tryz.underlying39, rfl⟩, fun _ => eqOK_of Tryz.underlying39 Tryz.stoodInHeld39 Tryz.eqGuardType39 (by decide)⟩
def ty40 : TyE := ⟨.strct [(0, 9), (1, 38)], 2, 40, .agg #[.string ByteArray.empty, .slice none 0 0], true⟩
theorem tyOk40 : EntryOK Tryz.prog 40 ty40 := ⟨entry_info (by kernel_rfl), ⟨_, Tryz.underlying40, rfl⟩, fun _ => eqOK_of Tryz.underlying40 Tryz.stoodInHeld40 Tryz.eqGuardType40 (by decide)⟩
def ty41 : TyE := ⟨.prim (.func #[25, 25] #[4] false), 1, 8, .nilFunc, false⟩
theorem tyOk41 : EntryOK Tryz.prog 41 ty41 := ⟨entry_info (by kernel_rfl), ⟨Tryz.underlying41, rfl⟩, fun h => nomatch h⟩
def ty42 : TyE := ⟨.prim (.func #[34, 34] #[4] false), 1, 8, .nilFunc, false⟩
theorem tyOk42 : EntryOK Tryz.prog 42 ty42 := ⟨entry_info (by kernel_rfl), ⟨Tryz.underlying42, rfl⟩, fun h => nomatch h⟩
def ty43 : TyE := ⟨.prim (.func #[25, 34] #[4] false), 1, 8, .nilFunc, false⟩
theorem tyOk43 : EntryOK Tryz.prog 43 ty43 := ⟨entry_info (by kernel_rfl), ⟨Tryz.underlying43, rfl⟩, fun h => nomatch h⟩
def ty44 : TyE := ⟨.prim (.slice 47), 1, 24, .slice none 0 0, false⟩
theorem tyOk44 : EntryOK Tryz.prog 44 ty44 := ⟨entry_info (by kernel_rfl), ⟨Tryz.underlying44, rfl⟩, fun h => nomatch h⟩
def ty45 : TyE := ⟨.prim (.slice 79), 1, 24, .slice none 0 0, false⟩
theorem tyOk45 : EntryOK Tryz.prog 45 ty45 := ⟨entry_info (by kernel_rfl), ⟨Tryz.underlying45, rfl⟩, fun h => nomatch h⟩
def ty46 : TyE := ⟨.strct [(0, 9), (1, 45)], 2, 40, .agg #[.string ByteArray.empty, .slice none 0 0], true⟩
theorem tyOk46 : EntryOK Tryz.prog 46 ty46 := ⟨entry_info (by kernel_rfl), ⟨_, Tryz.underlying46, rfl⟩, fun _ => eqOK_of Tryz.underlying46 Tryz.stoodInHeld46 Tryz.eqGuardType46 (by decide)⟩
def ty47 : TyE := ⟨.strct [(0, 9), (1, 45)], 2, 40, .agg #[.string ByteArray.empty, .slice none 0 0], true⟩
theorem tyOk47 : EntryOK Tryz.prog 47 ty47 := ⟨entry_info (by kernel_rfl), ⟨_, Tryz.underlying47, rfl⟩, fun _ => eqOK_of Tryz.underlying47 Tryz.stoodInHeld47 Tryz.eqGuardType47 (by decide)⟩
def ty48 : TyE := ⟨.prim (.func #[47] #[47] false), 1, 8, .nilFunc, false⟩
theorem tyOk48 : EntryOK Tryz.prog 48 ty48 := ⟨entry_info (by kernel_rfl), ⟨Tryz.underlying48, rfl⟩, fun h => nomatch h⟩
def ty49 : TyE := ⟨.prim (.func #[25, 47] #[28] false), 1, 8, .nilFunc, false⟩
theorem tyOk49 : EntryOK Tryz.prog 49 ty49 := ⟨entry_info (by kernel_rfl), ⟨Tryz.underlying49, rfl⟩, fun h => nomatch h⟩
def ty50 : TyE := ⟨.prim (.func #[47, 47] #[4] false), 1, 8, .nilFunc, false⟩
theorem tyOk50 : EntryOK Tryz.prog 50 ty50 := ⟨entry_info (by kernel_rfl), ⟨Tryz.underlying50, rfl⟩, fun h => nomatch h⟩
def ty51 : TyE := ⟨.prim (.func #[25, 44] #[4] false), 1, 8, .nilFunc, false⟩
theorem tyOk51 : EntryOK Tryz.prog 51 ty51 := ⟨entry_info (by kernel_rfl), ⟨Tryz.underlying51, rfl⟩, fun h => nomatch h⟩
def ty52 : TyE := ⟨.strct [(0, 3), (1, 3)], 2, 16, .agg #[.int .i64 (0), .int .i64 (0)], true⟩
theorem tyOk52 : EntryOK Tryz.prog 52 ty52 := ⟨entry_info (by kernel_rfl), ⟨_, Tryz.underlying52, rfl⟩, fun _ => eqOK_of Tryz.underlying52 Tryz.stoodInHeld52 Tryz.eqGuardType52 (by decide)⟩
def ty53 : TyE := ⟨.strct [(0, 3), (1, 3)], 2, 16, .agg #[.int .i64 (0), .int .i64 (0)], true⟩
theorem tyOk53 : EntryOK Tryz.prog 53 ty53 := ⟨entry_info (by kernel_rfl), ⟨_, Tryz.underlying53, rfl⟩, fun _ => eqOK_of Tryz.underlying53 Tryz.stoodInHeld53 Tryz.eqGuardType53 (by decide)⟩
def ty54 : TyE := ⟨.strct [(0, 28), (1, 53)], 3, 24, .agg #[.int .i64 (0), .int .i64 (0), .int .i64 (0)], true⟩
theorem tyOk54 : EntryOK Tryz.prog 54 ty54 := ⟨entry_info (by kernel_rfl), ⟨_, Tryz.underlying54, rfl⟩, fun _ => eqOK_of Tryz.underlying54 Tryz.stoodInHeld54 Tryz.eqGuardType54 (by decide)⟩
def ty55 : TyE := ⟨.strct [(0, 28), (1, 53)], 3, 24, .agg #[.int .i64 (0), .int .i64 (0), .int .i64 (0)], true⟩
theorem tyOk55 : EntryOK Tryz.prog 55 ty55 := ⟨entry_info (by kernel_rfl), ⟨_, Tryz.underlying55, rfl⟩, fun _ => eqOK_of Tryz.underlying55 Tryz.stoodInHeld55 Tryz.eqGuardType55 (by decide)⟩
def ty56 : TyE := ⟨.prim (.func #[25] #[55] false), 1, 8, .nilFunc, false⟩
theorem tyOk56 : EntryOK Tryz.prog 56 ty56 := ⟨entry_info (by kernel_rfl), ⟨Tryz.underlying56, rfl⟩, fun h => nomatch h⟩
def ty57 : TyE := ⟨.prim (.func #[25, 3] #[55] false), 1, 8, .nilFunc, false⟩
theorem tyOk57 : EntryOK Tryz.prog 57 ty57 := ⟨entry_info (by kernel_rfl), ⟨Tryz.underlying57, rfl⟩, fun h => nomatch h⟩
def ty58 : TyE := ⟨.prim (.func #[25] #[4] false), 1, 8, .nilFunc, false⟩
theorem tyOk58 : EntryOK Tryz.prog 58 ty58 := ⟨entry_info (by kernel_rfl), ⟨Tryz.underlying58, rfl⟩, fun h => nomatch h⟩
def ty59 : TyE := ⟨.prim (.slice 76), 1, 24, .slice none 0 0, false⟩
theorem tyOk59 : EntryOK Tryz.prog 59 ty59 := ⟨entry_info (by kernel_rfl), ⟨Tryz.underlying59, rfl⟩, fun h => nomatch h⟩
def ty60 : TyE := ⟨.strct [(0, 47), (2, 59), (3, 53)], 5, 80, .agg #[.string ByteArray.empty, .slice none 0 0, .slice none 0 0, .int .i64 (0), .int .i64 (0)], true⟩
theorem tyOk60 : EntryOK Tryz.prog 60 ty60 := ⟨entry_info (by kernel_rfl), ⟨_, Tryz.underlying60, rfl⟩, fun _ => eqOK_of Tryz.underlying60 Tryz.stoodInHeld60 Tryz.eqGuardType60 (by decide)⟩
def ty61 : TyE := ⟨.strct [(0, 47), (2, 59), (3, 53)], 5, 80, .agg #[.string ByteArray.empty, .slice none 0 0, .slice none 0 0, .int .i64 (0), .int .i64 (0)], true⟩
theorem tyOk61 : EntryOK Tryz.prog 61 ty61 := ⟨entry_info (by kernel_rfl), ⟨_, Tryz.underlying61, rfl⟩, fun _ => eqOK_of Tryz.underlying61 Tryz.stoodInHeld61 Tryz.eqGuardType61 (by decide)⟩
def ty62 : TyE := ⟨.prim (.func #[63, 63] #[4] false), 1, 8, .nilFunc, false⟩
theorem tyOk62 : EntryOK Tryz.prog 62 ty62 := ⟨entry_info (by kernel_rfl), ⟨Tryz.underlying62, rfl⟩, fun h => nomatch h⟩
def ty63 : TyE := ⟨.prim (.slice 9), 1, 24, .slice none 0 0, false⟩
theorem tyOk63 : EntryOK Tryz.prog 63 ty63 := ⟨entry_info (by kernel_rfl), ⟨Tryz.underlying63, rfl⟩, fun h => nomatch h⟩
def ty64 : TyE := ⟨.prim (.func #[61] #[63] false), 1, 8, .nilFunc, false⟩
theorem tyOk64 : EntryOK Tryz.prog 64 ty64 := ⟨entry_info (by kernel_rfl), ⟨Tryz.underlying64, rfl⟩, fun h => nomatch h⟩
def ty65 : TyE := ⟨.prim (.func #[61, 3] #[63] false), 1, 8, .nilFunc, false⟩
theorem tyOk65 : EntryOK Tryz.prog 65 ty65 := ⟨entry_info (by kernel_rfl), ⟨Tryz.underlying65, rfl⟩, fun h => nomatch h⟩
def ty66 : TyE := ⟨.prim (.func #[61, 3] #[4] false), 1, 8, .nilFunc, false⟩
theorem tyOk66 : EntryOK Tryz.prog 66 ty66 := ⟨entry_info (by kernel_rfl), ⟨Tryz.underlying66, rfl⟩, fun h => nomatch h⟩
def ty67 : TyE := ⟨.prim (.func #[3, 3] #[3] false), 1, 8, .nilFunc, false⟩
theorem tyOk67 : EntryOK Tryz.prog 67 ty67 := ⟨entry_info (by kernel_rfl), ⟨Tryz.underlying67, rfl⟩, fun h => nomatch h⟩
def ty68 : TyE := ⟨.strct [(0, 3), (1, 3), (2, 9)], 3, 32, .agg #[.int .i64 (0), .int .i64 (0), .string ByteArray.empty], true⟩
theorem tyOk68 : EntryOK Tryz.prog 68 ty68 := ⟨entry_info (by kernel_rfl), ⟨_, Tryz.underlying68, rfl⟩, fun _ => eqOK_of Tryz.underlying68 Tryz.stoodInHeld68 Tryz.eqGuardType68 (by decide)⟩
def ty69 : TyE := ⟨.strct [(0, 3), (1, 3), (2, 9)], 3, 32, .agg #[.int .i64 (0), .int .i64 (0), .string ByteArray.empty], true⟩
theorem tyOk69 : EntryOK Tryz.prog 69 ty69 := ⟨entry_info (by kernel_rfl), ⟨_, Tryz.underlying69, rfl⟩, fun _ => eqOK_of Tryz.underlying69 Tryz.stoodInHeld69 Tryz.eqGuardType69 (by decide)⟩
def ty70 : TyE := ⟨.prim (.slice 72), 1, 24, .slice none 0 0, false⟩
theorem tyOk70 : EntryOK Tryz.prog 70 ty70 := ⟨entry_info (by kernel_rfl), ⟨Tryz.underlying70, rfl⟩, fun h => nomatch h⟩
def ty71 : TyE := ⟨.strct [(0, 3), (1, 9), (2, 69), (5, 3), (6, 70)], 7, 88, .agg #[.int .i64 (0), .string ByteArray.empty, .int .i64 (0), .int .i64 (0), .string ByteArray.empty, .int .i64 (0), .slice none 0 0], true⟩
theorem tyOk71 : EntryOK Tryz.prog 71 ty71 := ⟨entry_info (by kernel_rfl), ⟨_, Tryz.underlying71, rfl⟩, fun _ => eqOK_of Tryz.underlying71 Tryz.stoodInHeld71 Tryz.eqGuardType71 (by decide)⟩
def ty72 : TyE := ⟨.strct [(0, 3), (1, 9), (2, 69), (5, 3), (6, 70)], 7, 88, .agg #[.int .i64 (0), .string ByteArray.empty, .int .i64 (0), .int .i64 (0), .string ByteArray.empty, .int .i64 (0), .slice none 0 0], true⟩
theorem tyOk72 : EntryOK Tryz.prog 72 ty72 := ⟨entry_info (by kernel_rfl), ⟨_, Tryz.underlying72, rfl⟩, fun _ => eqOK_of Tryz.underlying72 Tryz.stoodInHeld72 Tryz.eqGuardType72 (by decide)⟩
def ty73 : TyE := ⟨.strct [(0, 3), (1, 9), (2, 72), (9, 59)], 10, 136, .agg #[.int .i64 (0), .string ByteArray.empty, .int .i64 (0), .string ByteArray.empty, .int .i64 (0), .int .i64 (0), .string ByteArray.empty, .int .i64 (0), .slice none 0 0, .slice none 0 0], true⟩
theorem tyOk73 : EntryOK Tryz.prog 73 ty73 := ⟨entry_info (by kernel_rfl), ⟨_, Tryz.underlying73, rfl⟩, fun _ => eqOK_of Tryz.underlying73 Tryz.stoodInHeld73 Tryz.eqGuardType73 (by decide)⟩
def ty74 : TyE := ⟨.strct [(0, 3), (1, 9), (2, 72), (9, 59)], 10, 136, .agg #[.int .i64 (0), .string ByteArray.empty, .int .i64 (0), .string ByteArray.empty, .int .i64 (0), .int .i64 (0), .string ByteArray.empty, .int .i64 (0), .slice none 0 0, .slice none 0 0], true⟩
theorem tyOk74 : EntryOK Tryz.prog 74 ty74 := ⟨entry_info (by kernel_rfl), ⟨_, Tryz.underlying74, rfl⟩, fun _ => eqOK_of Tryz.underlying74 Tryz.stoodInHeld74 Tryz.eqGuardType74 (by decide)⟩
def ty75 : TyE := ⟨.strct [(0, 3), (1, 47), (3, 3), (4, 72), (11, 72), (18, 74), (28, 53)], 30, 384, .agg #[.int .i64 (0), .string ByteArray.empty, .slice none 0 0, .int .i64 (0), .int .i64 (0), .string ByteArray.empty, .int .i64 (0), .int .i64 (0), .string ByteArray.empty, .int .i64 (0), .slice none 0 0, .int .i64 (0), .string ByteArray.empty, .int .i64 (0), .int .i64 (0), .string ByteArray.empty, .int .i64 (0), .slice none 0 0, .int .i64 (0), .string ByteArray.empty, .int .i64 (0), .string ByteArray.empty, .int .i64 (0), .int .i64 (0), .string ByteArray.empty, .int .i64 (0), .slice none 0 0, .slice none 0 0, .int .i64 (0), .int .i64 (0)], true⟩
theorem tyOk75 : EntryOK Tryz.prog 75 ty75 := ⟨entry_info (by kernel_rfl), ⟨_, Tryz.underlying75, rfl⟩, fun _ => eqOK_of Tryz.underlying75 Tryz.stoodInHeld75 Tryz.eqGuardType75 (by decide)⟩
def ty76 : TyE := ⟨.strct [(0, 3), (1, 47), (3, 3), (4, 72), (11, 72), (18, 74), (28, 53)], 30, 384, .agg #[.int .i64 (0), .string ByteArray.empty, .slice none 0 0, .int .i64 (0), .int .i64 (0), .string ByteArray.empty, .int .i64 (0), .int .i64 (0), .string ByteArray.empty, .int .i64 (0), .slice none 0 0, .int .i64 (0), .string ByteArray.empty, .int .i64 (0), .int .i64 (0), .string ByteArray.empty, .int .i64 (0), .slice none 0 0, .int .i64 (0), .string ByteArray.empty, .int .i64 (0), .string ByteArray.empty, .int .i64 (0), .int .i64 (0), .string ByteArray.empty, .int .i64 (0), .slice none 0 0, .slice none 0 0, .int .i64 (0), .int .i64 (0)], true⟩
theorem tyOk76 : EntryOK Tryz.prog 76 ty76 := ⟨entry_info (by kernel_rfl), ⟨_, Tryz.underlying76, rfl⟩, fun _ => eqOK_of Tryz.underlying76 Tryz.stoodInHeld76 Tryz.eqGuardType76 (by decide)⟩
def ty77 : TyE := ⟨.prim (.func #[63, 9] #[4] false), 1, 8, .nilFunc, false⟩
theorem tyOk77 : EntryOK Tryz.prog 77 ty77 := ⟨entry_info (by kernel_rfl), ⟨Tryz.underlying77, rfl⟩, fun h => nomatch h⟩
def ty78 : TyE := ⟨.strct [(0, 3), (1, 9), (2, 69)], 5, 56, .agg #[.int .i64 (0), .string ByteArray.empty, .int .i64 (0), .int .i64 (0), .string ByteArray.empty], true⟩
theorem tyOk78 : EntryOK Tryz.prog 78 ty78 := ⟨entry_info (by kernel_rfl), ⟨_, Tryz.underlying78, rfl⟩, fun _ => eqOK_of Tryz.underlying78 Tryz.stoodInHeld78 Tryz.eqGuardType78 (by decide)⟩
def ty79 : TyE := ⟨.strct [(0, 3), (1, 9), (2, 69)], 5, 56, .agg #[.int .i64 (0), .string ByteArray.empty, .int .i64 (0), .int .i64 (0), .string ByteArray.empty], true⟩
theorem tyOk79 : EntryOK Tryz.prog 79 ty79 := ⟨entry_info (by kernel_rfl), ⟨_, Tryz.underlying79, rfl⟩, fun _ => eqOK_of Tryz.underlying79 Tryz.stoodInHeld79 Tryz.eqGuardType79 (by decide)⟩
def ty80 : TyE := ⟨.prim (.func #[9] #[79] false), 1, 8, .nilFunc, false⟩
theorem tyOk80 : EntryOK Tryz.prog 80 ty80 := ⟨entry_info (by kernel_rfl), ⟨Tryz.underlying80, rfl⟩, fun h => nomatch h⟩
def ty81 : TyE := ⟨.prim (.func #[61, 3, 3] #[4] false), 1, 8, .nilFunc, false⟩
theorem tyOk81 : EntryOK Tryz.prog 81 ty81 := ⟨entry_info (by kernel_rfl), ⟨Tryz.underlying81, rfl⟩, fun h => nomatch h⟩
def ty82 : TyE := ⟨.prim (.slice 55), 1, 24, .slice none 0 0, false⟩
theorem tyOk82 : EntryOK Tryz.prog 82 ty82 := ⟨entry_info (by kernel_rfl), ⟨Tryz.underlying82, rfl⟩, fun h => nomatch h⟩
def ty83 : TyE := ⟨.prim (.func #[25] #[82] false), 1, 8, .nilFunc, false⟩
theorem tyOk83 : EntryOK Tryz.prog 83 ty83 := ⟨entry_info (by kernel_rfl), ⟨Tryz.underlying83, rfl⟩, fun h => nomatch h⟩
def ty84 : TyE := ⟨.prim (.func #[25, 3, 3] #[4] false), 1, 8, .nilFunc, false⟩
theorem tyOk84 : EntryOK Tryz.prog 84 ty84 := ⟨entry_info (by kernel_rfl), ⟨Tryz.underlying84, rfl⟩, fun h => nomatch h⟩
def ty85 : TyE := ⟨.prim (.func #[] #[25] false), 1, 8, .nilFunc, false⟩
theorem tyOk85 : EntryOK Tryz.prog 85 ty85 := ⟨entry_info (by kernel_rfl), ⟨Tryz.underlying85, rfl⟩, fun h => nomatch h⟩
def ty86 : TyE := ⟨.prim (.func #[3] #[69] false), 1, 8, .nilFunc, false⟩
theorem tyOk86 : EntryOK Tryz.prog 86 ty86 := ⟨entry_info (by kernel_rfl), ⟨Tryz.underlying86, rfl⟩, fun h => nomatch h⟩
def ty87 : TyE := ⟨.prim (.pointer 93), 1, 8, .pointer none, false⟩
theorem tyOk87 : EntryOK Tryz.prog 87 ty87 := ⟨entry_info (by kernel_rfl), ⟨Tryz.underlying87, rfl⟩, fun h => nomatch h⟩
def ty88 : TyE := ⟨.prim (.func #[25, 61] #[87] false), 1, 8, .nilFunc, false⟩
theorem tyOk88 : EntryOK Tryz.prog 88 ty88 := ⟨entry_info (by kernel_rfl), ⟨Tryz.underlying88, rfl⟩, fun h => nomatch h⟩
def ty89 : TyE := ⟨.prim (.slice 155), 1, 24, .slice none 0 0, false⟩
theorem tyOk89 : EntryOK Tryz.prog 89 ty89 := ⟨entry_info (by kernel_rfl), ⟨Tryz.underlying89, rfl⟩, fun h => nomatch h⟩
def ty90 : TyE := ⟨.prim (.slice 3), 1, 24, .slice none 0 0, false⟩
theorem tyOk90 : EntryOK Tryz.prog 90 ty90 := ⟨entry_info (by kernel_rfl), ⟨Tryz.underlying90, rfl⟩, fun h => nomatch h⟩
def ty91 : TyE := ⟨.prim (.slice 157), 1, 24, .slice none 0 0, false⟩
theorem tyOk91 : EntryOK Tryz.prog 91 ty91 := ⟨entry_info (by kernel_rfl), ⟨Tryz.underlying91, rfl⟩, fun h => nomatch h⟩
def ty92 : TyE := ⟨.strct [(0, 89), (1, 90), (2, 91), (3, 63)], 4, 96, .agg #[.slice none 0 0, .slice none 0 0, .slice none 0 0, .slice none 0 0], true⟩
theorem tyOk92 : EntryOK Tryz.prog 92 ty92 := ⟨entry_info (by kernel_rfl), ⟨_, Tryz.underlying92, rfl⟩, fun _ => eqOK_of Tryz.underlying92 Tryz.stoodInHeld92 Tryz.eqGuardType92 (by decide)⟩
def ty93 : TyE := ⟨.strct [(0, 89), (1, 90), (2, 91), (3, 63)], 4, 96, .agg #[.slice none 0 0, .slice none 0 0, .slice none 0 0, .slice none 0 0], true⟩
theorem tyOk93 : EntryOK Tryz.prog 93 ty93 := ⟨entry_info (by kernel_rfl), ⟨_, Tryz.underlying93, rfl⟩, fun _ => eqOK_of Tryz.underlying93 Tryz.stoodInHeld93 Tryz.eqGuardType93 (by decide)⟩
def ty94 : TyE := ⟨.prim (.func #[9, 3] #[3] false), 1, 8, .nilFunc, false⟩
theorem tyOk94 : EntryOK Tryz.prog 94 ty94 := ⟨entry_info (by kernel_rfl), ⟨Tryz.underlying94, rfl⟩, fun h => nomatch h⟩
def ty95 : TyE := ⟨.prim (.func #[3] #[3] false), 1, 8, .nilFunc, false⟩
theorem tyOk95 : EntryOK Tryz.prog 95 ty95 := ⟨entry_info (by kernel_rfl), ⟨Tryz.underlying95, rfl⟩, fun h => nomatch h⟩
def ty96 : TyE := ⟨.prim (.pointer 106), 1, 8, .pointer none, false⟩
theorem tyOk96 : EntryOK Tryz.prog 96 ty96 := ⟨entry_info (by kernel_rfl), ⟨Tryz.underlying96, rfl⟩, fun h => nomatch h⟩
def ty97 : TyE := ⟨.prim (.func #[61] #[96] false), 1, 8, .nilFunc, false⟩
theorem tyOk97 : EntryOK Tryz.prog 97 ty97 := ⟨entry_info (by kernel_rfl), ⟨Tryz.underlying97, rfl⟩, fun h => nomatch h⟩
def ty98 : TyE := ⟨.prim (.pointer 111), 1, 8, .pointer none, false⟩
theorem tyOk98 : EntryOK Tryz.prog 98 ty98 := ⟨entry_info (by kernel_rfl), ⟨Tryz.underlying98, rfl⟩, fun h => nomatch h⟩
def ty99 : TyE := ⟨.prim (.func #[100, 96] #[98] false), 1, 8, .nilFunc, false⟩
theorem tyOk99 : EntryOK Tryz.prog 99 ty99 := ⟨entry_info (by kernel_rfl), ⟨Tryz.underlying99, rfl⟩, fun h => nomatch h⟩
def ty100 : TyE := ⟨.prim (.map 9 116), 1, 8, .map none, false⟩
theorem tyOk100 : EntryOK Tryz.prog 100 ty100 := ⟨entry_info (by kernel_rfl), ⟨Tryz.underlying100, rfl⟩, fun h => nomatch h⟩
def ty101 : TyE := ⟨.prim (.func #[25] #[100] false), 1, 8, .nilFunc, false⟩
theorem tyOk101 : EntryOK Tryz.prog 101 ty101 := ⟨entry_info (by kernel_rfl), ⟨Tryz.underlying101, rfl⟩, fun h => nomatch h⟩
def ty102 : TyE := ⟨.prim (.func #[104] #[63] false), 1, 8, .nilFunc, false⟩
theorem tyOk102 : EntryOK Tryz.prog 102 ty102 := ⟨entry_info (by kernel_rfl), ⟨Tryz.underlying102, rfl⟩, fun h => nomatch h⟩
def ty103 : TyE := ⟨.prim (.map 9 3), 1, 8, .map none, false⟩
theorem tyOk103 : EntryOK Tryz.prog 103 ty103 := ⟨entry_info (by kernel_rfl), ⟨Tryz.underlying103, rfl⟩, fun h => nomatch h⟩
def ty104 : TyE := ⟨.prim (.map 9 3), 1, 8, .map none, false⟩
theorem tyOk104 : EntryOK Tryz.prog 104 ty104 := ⟨entry_info (by kernel_rfl), ⟨Tryz.underlying104, rfl⟩, fun h => nomatch h⟩
def ty105 : TyE := ⟨.strct [(0, 61), (5, 104)], 6, 88, .agg #[.string ByteArray.empty, .slice none 0 0, .slice none 0 0, .int .i64 (0), .int .i64 (0), .map none], true⟩
theorem tyOk105 : EntryOK Tryz.prog 105 ty105 := ⟨entry_info (by kernel_rfl), ⟨_, Tryz.underlying105, rfl⟩, fun _ => eqOK_of Tryz.underlying105 Tryz.stoodInHeld105 Tryz.eqGuardType105 (by decide)⟩
def ty106 : TyE := ⟨.strct [(0, 61), (5, 104)], 6, 88, .agg #[.string ByteArray.empty, .slice none 0 0, .slice none 0 0, .int .i64 (0), .int .i64 (0), .map none], true⟩
theorem tyOk106 : EntryOK Tryz.prog 106 ty106 := ⟨entry_info (by kernel_rfl), ⟨_, Tryz.underlying106, rfl⟩, fun _ => eqOK_of Tryz.underlying106 Tryz.stoodInHeld106 Tryz.eqGuardType106 (by decide)⟩
def ty107 : TyE := ⟨.prim (.map 113 113), 1, 8, .map none, false⟩
theorem tyOk107 : EntryOK Tryz.prog 107 ty107 := ⟨entry_info (by kernel_rfl), ⟨Tryz.underlying107, rfl⟩, fun h => nomatch h⟩
def ty108 : TyE := ⟨.prim (.slice 165), 1, 24, .slice none 0 0, false⟩
theorem tyOk108 : EntryOK Tryz.prog 108 ty108 := ⟨entry_info (by kernel_rfl), ⟨Tryz.underlying108, rfl⟩, fun h => nomatch h⟩
def ty109 : TyE := ⟨.prim (.map 113 3), 1, 8, .map none, false⟩
theorem tyOk109 : EntryOK Tryz.prog 109 ty109 := ⟨entry_info (by kernel_rfl), ⟨Tryz.underlying109, rfl⟩, fun h => nomatch h⟩
def ty110 : TyE := ⟨.strct [(0, 96), (1, 107), (2, 108), (3, 109)], 4, 48, .agg #[.pointer none, .map none, .slice none 0 0, .map none], true⟩
theorem tyOk110 : EntryOK Tryz.prog 110 ty110 := ⟨entry_info (by kernel_rfl), ⟨_, Tryz.underlying110, rfl⟩, fun _ => eqOK_of Tryz.underlying110 Tryz.stoodInHeld110 Tryz.eqGuardType110 (by decide)⟩
def ty111 : TyE := ⟨.strct [(0, 96), (1, 107), (2, 108), (3, 109)], 4, 48, .agg #[.pointer none, .map none, .slice none 0 0, .map none], true⟩
theorem tyOk111 : EntryOK Tryz.prog 111 ty111 := ⟨entry_info (by kernel_rfl), ⟨_, Tryz.underlying111, rfl⟩, fun _ => eqOK_of Tryz.underlying111 Tryz.stoodInHeld111 Tryz.eqGuardType111 (by decide)⟩
def ty112 : TyE := ⟨.strct [(0, 9), (1, 3)], 2, 24, .agg #[.string ByteArray.empty, .int .i64 (0)], true⟩
theorem tyOk112 : EntryOK Tryz.prog 112 ty112 := ⟨entry_info (by kernel_rfl), ⟨_, Tryz.underlying112, rfl⟩, fun _ => eqOK_of Tryz.underlying112 Tryz.stoodInHeld112 Tryz.eqGuardType112 (by decide)⟩
def ty113 : TyE := ⟨.strct [(0, 9), (1, 3)], 2, 24, .agg #[.string ByteArray.empty, .int .i64 (0)], true⟩
theorem tyOk113 : EntryOK Tryz.prog 113 ty113 := ⟨entry_info (by kernel_rfl), ⟨_, Tryz.underlying113, rfl⟩, fun _ => eqOK_of Tryz.underlying113 Tryz.stoodInHeld113 Tryz.eqGuardType113 (by decide)⟩
def ty114 : TyE := ⟨.prim (.func #[113] #[113] false), 1, 8, .nilFunc, false⟩
theorem tyOk114 : EntryOK Tryz.prog 114 ty114 := ⟨entry_info (by kernel_rfl), ⟨Tryz.underlying114, rfl⟩, fun h => nomatch h⟩
def ty115 : TyE := ⟨.strct [(0, 9), (1, 90), (2, 53)], 4, 56, .agg #[.string ByteArray.empty, .slice none 0 0, .int .i64 (0), .int .i64 (0)], true⟩
theorem tyOk115 : EntryOK Tryz.prog 115 ty115 := ⟨entry_info (by kernel_rfl), ⟨_, Tryz.underlying115, rfl⟩, fun _ => eqOK_of Tryz.underlying115 Tryz.stoodInHeld115 Tryz.eqGuardType115 (by decide)⟩
def ty116 : TyE := ⟨.strct [(0, 9), (1, 90), (2, 53)], 4, 56, .agg #[.string ByteArray.empty, .slice none 0 0, .int .i64 (0), .int .i64 (0)], true⟩
theorem tyOk116 : EntryOK Tryz.prog 116 ty116 := ⟨entry_info (by kernel_rfl), ⟨_, Tryz.underlying116, rfl⟩, fun _ => eqOK_of Tryz.underlying116 Tryz.stoodInHeld116 Tryz.eqGuardType116 (by decide)⟩
def ty117 : TyE := ⟨.prim (.func #[59] #[59] false), 1, 8, .nilFunc, false⟩
theorem tyOk117 : EntryOK Tryz.prog 117 ty117 := ⟨entry_info (by kernel_rfl), ⟨Tryz.underlying117, rfl⟩, fun h => nomatch h⟩
def ty118 : TyE := ⟨.prim (.func #[40] #[40] false), 1, 8, .nilFunc, false⟩
theorem tyOk118 : EntryOK Tryz.prog 118 ty118 := ⟨entry_info (by kernel_rfl), ⟨Tryz.underlying118, rfl⟩, fun h => nomatch h⟩
def ty120 : TyE := ⟨.prim (.func #[40] #[28] false), 1, 8, .nilFunc, false⟩
theorem tyOk120 : EntryOK Tryz.prog 120 ty120 := ⟨entry_info (by kernel_rfl), ⟨Tryz.underlying120, rfl⟩, fun h => nomatch h⟩
def ty121 : TyE := ⟨.prim (.func #[9] #[4] false), 1, 8, .nilFunc, false⟩
theorem tyOk121 : EntryOK Tryz.prog 121 ty121 := ⟨entry_info (by kernel_rfl), ⟨Tryz.underlying121, rfl⟩, fun h => nomatch h⟩
def ty122 : TyE := ⟨.prim (.func #[25, 9] #[116, 4] false), 1, 8, .nilFunc, false⟩
theorem tyOk122 : EntryOK Tryz.prog 122 ty122 := ⟨entry_info (by kernel_rfl), ⟨Tryz.underlying122, rfl⟩, fun h => nomatch h⟩
def ty123 : TyE := ⟨.prim (.func #[69] #[4] false), 1, 8, .nilFunc, false⟩
theorem tyOk123 : EntryOK Tryz.prog 123 ty123 := ⟨entry_info (by kernel_rfl), ⟨Tryz.underlying123, rfl⟩, fun h => nomatch h⟩
def ty124 : TyE := ⟨.prim (.func #[59, 59] #[4] false), 1, 8, .nilFunc, false⟩
theorem tyOk124 : EntryOK Tryz.prog 124 ty124 := ⟨entry_info (by kernel_rfl), ⟨Tryz.underlying124, rfl⟩, fun h => nomatch h⟩
def ty125 : TyE := ⟨.prim (.func #[40, 40] #[4] false), 1, 8, .nilFunc, false⟩
theorem tyOk125 : EntryOK Tryz.prog 125 ty125 := ⟨entry_info (by kernel_rfl), ⟨Tryz.underlying125, rfl⟩, fun h => nomatch h⟩
def ty127 : TyE := ⟨.prim (.func #[47] #[9, 28] false), 1, 8, .nilFunc, false⟩
theorem tyOk127 : EntryOK Tryz.prog 127 ty127 := ⟨entry_info (by kernel_rfl), ⟨Tryz.underlying127, rfl⟩, fun h => nomatch h⟩
def ty129 : TyE := ⟨.prim (.func #[47] #[4] false), 1, 8, .nilFunc, false⟩
theorem tyOk129 : EntryOK Tryz.prog 129 ty129 := ⟨entry_info (by kernel_rfl), ⟨Tryz.underlying129, rfl⟩, fun h => nomatch h⟩
def ty130 : TyE := ⟨.prim (.func #[25, 131] #[] false), 1, 8, .nilFunc, false⟩
theorem tyOk130 : EntryOK Tryz.prog 130 ty130 := ⟨entry_info (by kernel_rfl), ⟨Tryz.underlying130, rfl⟩, fun h => nomatch h⟩
def ty131 : TyE := ⟨.prim (.func #[55] #[4] false), 1, 8, .nilFunc, false⟩
theorem tyOk131 : EntryOK Tryz.prog 131 ty131 := ⟨entry_info (by kernel_rfl), ⟨Tryz.underlying131, rfl⟩, fun h => nomatch h⟩
def ty132 : TyE := ⟨.prim (.func #[100, 61, 3] #[55] false), 1, 8, .nilFunc, false⟩
theorem tyOk132 : EntryOK Tryz.prog 132 ty132 := ⟨entry_info (by kernel_rfl), ⟨Tryz.underlying132, rfl⟩, fun h => nomatch h⟩
def ty133 : TyE := ⟨.prim (.func #[25, 61, 28] #[55] false), 1, 8, .nilFunc, false⟩
theorem tyOk133 : EntryOK Tryz.prog 133 ty133 := ⟨entry_info (by kernel_rfl), ⟨Tryz.underlying133, rfl⟩, fun h => nomatch h⟩
def ty134 : TyE := ⟨.prim (.func #[61, 3] #[55] false), 1, 8, .nilFunc, false⟩
theorem tyOk134 : EntryOK Tryz.prog 134 ty134 := ⟨entry_info (by kernel_rfl), ⟨Tryz.underlying134, rfl⟩, fun h => nomatch h⟩
def ty135 : TyE := ⟨.prim (.func #[25, 61] #[55] false), 1, 8, .nilFunc, false⟩
theorem tyOk135 : EntryOK Tryz.prog 135 ty135 := ⟨entry_info (by kernel_rfl), ⟨Tryz.underlying135, rfl⟩, fun h => nomatch h⟩
def ty136 : TyE := ⟨.prim (.func #[47] #[63] false), 1, 8, .nilFunc, false⟩
theorem tyOk136 : EntryOK Tryz.prog 136 ty136 := ⟨entry_info (by kernel_rfl), ⟨Tryz.underlying136, rfl⟩, fun h => nomatch h⟩
def ty137 : TyE := ⟨.prim (.func #[76] #[63] false), 1, 8, .nilFunc, false⟩
theorem tyOk137 : EntryOK Tryz.prog 137 ty137 := ⟨entry_info (by kernel_rfl), ⟨Tryz.underlying137, rfl⟩, fun h => nomatch h⟩
def ty138 : TyE := ⟨.prim (.func #[63, 63] #[63] false), 1, 8, .nilFunc, false⟩
theorem tyOk138 : EntryOK Tryz.prog 138 ty138 := ⟨entry_info (by kernel_rfl), ⟨Tryz.underlying138, rfl⟩, fun h => nomatch h⟩
def ty139 : TyE := ⟨.prim (.func #[63, 9] #[63] false), 1, 8, .nilFunc, false⟩
theorem tyOk139 : EntryOK Tryz.prog 139 ty139 := ⟨entry_info (by kernel_rfl), ⟨Tryz.underlying139, rfl⟩, fun h => nomatch h⟩
def ty140 : TyE := ⟨.prim (.func #[] #[104] false), 1, 8, .nilFunc, false⟩
theorem tyOk140 : EntryOK Tryz.prog 140 ty140 := ⟨entry_info (by kernel_rfl), ⟨Tryz.underlying140, rfl⟩, fun h => nomatch h⟩
def ty141 : TyE := ⟨.prim (.func #[59, 63, 63, 4] #[63] false), 1, 8, .nilFunc, false⟩
theorem tyOk141 : EntryOK Tryz.prog 141 ty141 := ⟨entry_info (by kernel_rfl), ⟨Tryz.underlying141, rfl⟩, fun h => nomatch h⟩
def ty142 : TyE := ⟨.prim (.func #[59, 104, 143, 144] #[] false), 1, 8, .nilFunc, false⟩
theorem tyOk142 : EntryOK Tryz.prog 142 ty142 := ⟨entry_info (by kernel_rfl), ⟨Tryz.underlying142, rfl⟩, fun h => nomatch h⟩
def ty143 : TyE := ⟨.prim (.func #[72] #[4] false), 1, 8, .nilFunc, false⟩
theorem tyOk143 : EntryOK Tryz.prog 143 ty143 := ⟨entry_info (by kernel_rfl), ⟨Tryz.underlying143, rfl⟩, fun h => nomatch h⟩
def ty144 : TyE := ⟨.prim (.func #[74] #[4] false), 1, 8, .nilFunc, false⟩
theorem tyOk144 : EntryOK Tryz.prog 144 ty144 := ⟨entry_info (by kernel_rfl), ⟨Tryz.underlying144, rfl⟩, fun h => nomatch h⟩
def ty146 : TyE := ⟨.prim (.func #[76, 63] #[9, 4] false), 1, 8, .nilFunc, false⟩
theorem tyOk146 : EntryOK Tryz.prog 146 ty146 := ⟨entry_info (by kernel_rfl), ⟨Tryz.underlying146, rfl⟩, fun h => nomatch h⟩
def ty147 : TyE := ⟨.prim (.func #[74] #[104] false), 1, 8, .nilFunc, false⟩
theorem tyOk147 : EntryOK Tryz.prog 147 ty147 := ⟨entry_info (by kernel_rfl), ⟨Tryz.underlying147, rfl⟩, fun h => nomatch h⟩
def ty148 : TyE := ⟨.prim (.func #[74] #[63] false), 1, 8, .nilFunc, false⟩
theorem tyOk148 : EntryOK Tryz.prog 148 ty148 := ⟨entry_info (by kernel_rfl), ⟨Tryz.underlying148, rfl⟩, fun h => nomatch h⟩
def ty149 : TyE := ⟨.prim (.func #[25, 3] #[28] false), 1, 8, .nilFunc, false⟩
theorem tyOk149 : EntryOK Tryz.prog 149 ty149 := ⟨entry_info (by kernel_rfl), ⟨Tryz.underlying149, rfl⟩, fun h => nomatch h⟩
def ty150 : TyE := ⟨.prim (.func #[28, 53] #[55] false), 1, 8, .nilFunc, false⟩
theorem tyOk150 : EntryOK Tryz.prog 150 ty150 := ⟨entry_info (by kernel_rfl), ⟨Tryz.underlying150, rfl⟩, fun h => nomatch h⟩
def ty151 : TyE := ⟨.prim (.func #[25, 47, 3, 3] #[] false), 1, 8, .nilFunc, false⟩
theorem tyOk151 : EntryOK Tryz.prog 151 ty151 := ⟨entry_info (by kernel_rfl), ⟨Tryz.underlying151, rfl⟩, fun h => nomatch h⟩
def ty152 : TyE := ⟨.prim (.func #[25, 74, 3] #[] false), 1, 8, .nilFunc, false⟩
theorem tyOk152 : EntryOK Tryz.prog 152 ty152 := ⟨entry_info (by kernel_rfl), ⟨Tryz.underlying152, rfl⟩, fun h => nomatch h⟩
def ty153 : TyE := ⟨.prim (.func #[25, 76, 3, 3] #[] false), 1, 8, .nilFunc, false⟩
theorem tyOk153 : EntryOK Tryz.prog 153 ty153 := ⟨entry_info (by kernel_rfl), ⟨Tryz.underlying153, rfl⟩, fun h => nomatch h⟩
def ty154 : TyE := ⟨.strct [(0, 9), (1, 3)], 2, 24, .agg #[.string ByteArray.empty, .int .i64 (0)], true⟩
theorem tyOk154 : EntryOK Tryz.prog 154 ty154 := ⟨entry_info (by kernel_rfl), ⟨_, Tryz.underlying154, rfl⟩, fun _ => eqOK_of Tryz.underlying154 Tryz.stoodInHeld154 Tryz.eqGuardType154 (by decide)⟩
def ty155 : TyE := ⟨.strct [(0, 9), (1, 3)], 2, 24, .agg #[.string ByteArray.empty, .int .i64 (0)], true⟩
theorem tyOk155 : EntryOK Tryz.prog 155 ty155 := ⟨entry_info (by kernel_rfl), ⟨_, Tryz.underlying155, rfl⟩, fun _ => eqOK_of Tryz.underlying155 Tryz.stoodInHeld155 Tryz.eqGuardType155 (by decide)⟩
def ty156 : TyE := ⟨.strct [(0, 3), (1, 3), (2, 3), (3, 3)], 4, 32, .agg #[.int .i64 (0), .int .i64 (0), .int .i64 (0), .int .i64 (0)], true⟩
theorem tyOk156 : EntryOK Tryz.prog 156 ty156 := ⟨entry_info (by kernel_rfl), ⟨_, Tryz.underlying156, rfl⟩, fun _ => eqOK_of Tryz.underlying156 Tryz.stoodInHeld156 Tryz.eqGuardType156 (by decide)⟩
def ty157 : TyE := ⟨.strct [(0, 3), (1, 3), (2, 3), (3, 3)], 4, 32, .agg #[.int .i64 (0), .int .i64 (0), .int .i64 (0), .int .i64 (0)], true⟩
theorem tyOk157 : EntryOK Tryz.prog 157 ty157 := ⟨entry_info (by kernel_rfl), ⟨_, Tryz.underlying157, rfl⟩, fun _ => eqOK_of Tryz.underlying157 Tryz.stoodInHeld157 Tryz.eqGuardType157 (by decide)⟩
def ty158 : TyE := ⟨.prim (.func #[47] #[] false), 1, 8, .nilFunc, false⟩
theorem tyOk158 : EntryOK Tryz.prog 158 ty158 := ⟨entry_info (by kernel_rfl), ⟨Tryz.underlying158, rfl⟩, fun h => nomatch h⟩
def ty159 : TyE := ⟨.prim (.func #[76] #[] false), 1, 8, .nilFunc, false⟩
theorem tyOk159 : EntryOK Tryz.prog 159 ty159 := ⟨entry_info (by kernel_rfl), ⟨Tryz.underlying159, rfl⟩, fun h => nomatch h⟩
def ty160 : TyE := ⟨.prim (.func #[100, 47, 3, 3] #[] false), 1, 8, .nilFunc, false⟩
theorem tyOk160 : EntryOK Tryz.prog 160 ty160 := ⟨entry_info (by kernel_rfl), ⟨Tryz.underlying160, rfl⟩, fun h => nomatch h⟩
def ty161 : TyE := ⟨.prim (.func #[100, 76, 3, 3] #[] false), 1, 8, .nilFunc, false⟩
theorem tyOk161 : EntryOK Tryz.prog 161 ty161 := ⟨entry_info (by kernel_rfl), ⟨Tryz.underlying161, rfl⟩, fun h => nomatch h⟩
def ty162 : TyE := ⟨.prim (.func #[72, 3, 3] #[] false), 1, 8, .nilFunc, false⟩
theorem tyOk162 : EntryOK Tryz.prog 162 ty162 := ⟨entry_info (by kernel_rfl), ⟨Tryz.underlying162, rfl⟩, fun h => nomatch h⟩
def ty163 : TyE := ⟨.prim (.func #[72, 72, 3, 3] #[] false), 1, 8, .nilFunc, false⟩
theorem tyOk163 : EntryOK Tryz.prog 163 ty163 := ⟨entry_info (by kernel_rfl), ⟨Tryz.underlying163, rfl⟩, fun h => nomatch h⟩
def ty164 : TyE := ⟨.strct [(0, 3), (1, 113), (3, 3), (4, 3)], 5, 48, .agg #[.int .i64 (0), .string ByteArray.empty, .int .i64 (0), .int .i64 (0), .int .i64 (0)], true⟩
theorem tyOk164 : EntryOK Tryz.prog 164 ty164 := ⟨entry_info (by kernel_rfl), ⟨_, Tryz.underlying164, rfl⟩, fun _ => eqOK_of Tryz.underlying164 Tryz.stoodInHeld164 Tryz.eqGuardType164 (by decide)⟩
def ty165 : TyE := ⟨.strct [(0, 3), (1, 113), (3, 3), (4, 3)], 5, 48, .agg #[.int .i64 (0), .string ByteArray.empty, .int .i64 (0), .int .i64 (0), .int .i64 (0)], true⟩
theorem tyOk165 : EntryOK Tryz.prog 165 ty165 := ⟨entry_info (by kernel_rfl), ⟨_, Tryz.underlying165, rfl⟩, fun _ => eqOK_of Tryz.underlying165 Tryz.stoodInHeld165 Tryz.eqGuardType165 (by decide)⟩
def ty166 : TyE := ⟨.prim (.func #[63] #[] false), 1, 8, .nilFunc, false⟩
theorem tyOk166 : EntryOK Tryz.prog 166 ty166 := ⟨entry_info (by kernel_rfl), ⟨Tryz.underlying166, rfl⟩, fun h => nomatch h⟩
def ty168 : TyE := ⟨.prim (.func #[72] #[72] false), 1, 8, .nilFunc, false⟩
theorem tyOk168 : EntryOK Tryz.prog 168 ty168 := ⟨entry_info (by kernel_rfl), ⟨Tryz.underlying168, rfl⟩, fun h => nomatch h⟩
def ty169 : TyE := ⟨.prim (.func #[38] #[38] false), 1, 8, .nilFunc, false⟩
theorem tyOk169 : EntryOK Tryz.prog 169 ty169 := ⟨entry_info (by kernel_rfl), ⟨Tryz.underlying169, rfl⟩, fun h => nomatch h⟩
def ty170 : TyE := ⟨.prim (.func #[38] #[4] false), 1, 8, .nilFunc, false⟩
theorem tyOk170 : EntryOK Tryz.prog 170 ty170 := ⟨entry_info (by kernel_rfl), ⟨Tryz.underlying170, rfl⟩, fun h => nomatch h⟩
def ty171 : TyE := ⟨.prim (.func #[5] #[4] false), 1, 8, .nilFunc, false⟩
theorem tyOk171 : EntryOK Tryz.prog 171 ty171 := ⟨entry_info (by kernel_rfl), ⟨Tryz.underlying171, rfl⟩, fun h => nomatch h⟩
def ty172 : TyE := ⟨.prim (.func #[72, 72] #[4] false), 1, 8, .nilFunc, false⟩
theorem tyOk172 : EntryOK Tryz.prog 172 ty172 := ⟨entry_info (by kernel_rfl), ⟨Tryz.underlying172, rfl⟩, fun h => nomatch h⟩
def ty173 : TyE := ⟨.prim (.func #[38, 38] #[4] false), 1, 8, .nilFunc, false⟩
theorem tyOk173 : EntryOK Tryz.prog 173 ty173 := ⟨entry_info (by kernel_rfl), ⟨Tryz.underlying173, rfl⟩, fun h => nomatch h⟩
def ty174 : TyE := ⟨.prim (.pointer 180), 1, 8, .pointer none, false⟩
theorem tyOk174 : EntryOK Tryz.prog 174 ty174 := ⟨entry_info (by kernel_rfl), ⟨Tryz.underlying174, rfl⟩, fun h => nomatch h⟩
def ty175 : TyE := ⟨.prim (.pointer 178), 1, 8, .pointer none, false⟩
theorem tyOk175 : EntryOK Tryz.prog 175 ty175 := ⟨entry_info (by kernel_rfl), ⟨Tryz.underlying175, rfl⟩, fun h => nomatch h⟩
def ty176 : TyE := ⟨.prim (.slice 5), 1, 24, .slice none 0 0, false⟩
theorem tyOk176 : EntryOK Tryz.prog 176 ty176 := ⟨entry_info (by kernel_rfl), ⟨Tryz.underlying176, rfl⟩, fun h => nomatch h⟩
def ty177 : TyE := ⟨.strct [(0, 175), (1, 176)], 2, 32, .agg #[.pointer none, .slice none 0 0], true⟩
theorem tyOk177 : EntryOK Tryz.prog 177 ty177 := ⟨entry_info (by kernel_rfl), ⟨_, Tryz.underlying177, rfl⟩, fun _ => eqOK_of Tryz.underlying177 Tryz.stoodInHeld177 Tryz.eqGuardType177 (by decide)⟩
def ty178 : TyE := ⟨.strct [(0, 175), (1, 176)], 2, 32, .agg #[.pointer none, .slice none 0 0], true⟩
theorem tyOk178 : EntryOK Tryz.prog 178 ty178 := ⟨entry_info (by kernel_rfl), ⟨_, Tryz.underlying178, rfl⟩, fun _ => eqOK_of Tryz.underlying178 Tryz.stoodInHeld178 Tryz.eqGuardType178 (by decide)⟩
def ty179 : TyE := ⟨.strct [(0, 178), (2, 4), (3, 3)], 4, 48, .agg #[.pointer none, .slice none 0 0, .bool false, .int .i64 (0)], true⟩
theorem tyOk179 : EntryOK Tryz.prog 179 ty179 := ⟨entry_info (by kernel_rfl), ⟨_, Tryz.underlying179, rfl⟩, fun _ => eqOK_of Tryz.underlying179 Tryz.stoodInHeld179 Tryz.eqGuardType179 (by decide)⟩
def ty180 : TyE := ⟨.strct [(0, 178), (2, 4), (3, 3)], 4, 48, .agg #[.pointer none, .slice none 0 0, .bool false, .int .i64 (0)], true⟩
theorem tyOk180 : EntryOK Tryz.prog 180 ty180 := ⟨entry_info (by kernel_rfl), ⟨_, Tryz.underlying180, rfl⟩, fun _ => eqOK_of Tryz.underlying180 Tryz.stoodInHeld180 Tryz.eqGuardType180 (by decide)⟩
def ty181 : TyE := ⟨.prim (.func #[] #[9, 28] false), 1, 8, .nilFunc, false⟩
theorem tyOk181 : EntryOK Tryz.prog 181 ty181 := ⟨entry_info (by kernel_rfl), ⟨Tryz.underlying181, rfl⟩, fun h => nomatch h⟩
def ty182 : TyE := ⟨.prim (.func #[116, 3, 3] #[28] false), 1, 8, .nilFunc, false⟩
theorem tyOk182 : EntryOK Tryz.prog 182 ty182 := ⟨entry_info (by kernel_rfl), ⟨Tryz.underlying182, rfl⟩, fun h => nomatch h⟩
def ty183 : TyE := ⟨.prim (.func #[76] #[9, 28] false), 1, 8, .nilFunc, false⟩
theorem tyOk183 : EntryOK Tryz.prog 183 ty183 := ⟨entry_info (by kernel_rfl), ⟨Tryz.underlying183, rfl⟩, fun h => nomatch h⟩
def ty184 : TyE := ⟨.prim (.func #[] #[3] false), 1, 8, .nilFunc, false⟩
theorem tyOk184 : EntryOK Tryz.prog 184 ty184 := ⟨entry_info (by kernel_rfl), ⟨Tryz.underlying184, rfl⟩, fun h => nomatch h⟩
def ty185 : TyE := ⟨.prim (.func #[44, 129] #[4] false), 1, 8, .nilFunc, false⟩
theorem tyOk185 : EntryOK Tryz.prog 185 ty185 := ⟨entry_info (by kernel_rfl), ⟨Tryz.underlying185, rfl⟩, fun h => nomatch h⟩
def ty186 : TyE := ⟨.prim (.func #[61, 3] #[44] false), 1, 8, .nilFunc, false⟩
theorem tyOk186 : EntryOK Tryz.prog 186 ty186 := ⟨entry_info (by kernel_rfl), ⟨Tryz.underlying186, rfl⟩, fun h => nomatch h⟩
def ty187 : TyE := ⟨.prim (.func #[3] #[4] false), 1, 8, .nilFunc, false⟩
theorem tyOk187 : EntryOK Tryz.prog 187 ty187 := ⟨entry_info (by kernel_rfl), ⟨Tryz.underlying187, rfl⟩, fun h => nomatch h⟩
def ty188 : TyE := ⟨.strct [(0, 28), (1, 187)], 2, 16, .agg #[.int .i64 (0), .nilFunc], true⟩
theorem tyOk188 : EntryOK Tryz.prog 188 ty188 := ⟨entry_info (by kernel_rfl), ⟨_, Tryz.underlying188, rfl⟩, fun _ => eqOK_of Tryz.underlying188 Tryz.stoodInHeld188 Tryz.eqGuardType188 (by decide)⟩
def ty189 : TyE := ⟨.prim (.slice 188), 1, 24, .slice none 0 0, false⟩
theorem tyOk189 : EntryOK Tryz.prog 189 ty189 := ⟨entry_info (by kernel_rfl), ⟨Tryz.underlying189, rfl⟩, fun h => nomatch h⟩
def ty190 : TyE := ⟨.prim (.func #[61, 3] #[53] false), 1, 8, .nilFunc, false⟩
theorem tyOk190 : EntryOK Tryz.prog 190 ty190 := ⟨entry_info (by kernel_rfl), ⟨Tryz.underlying190, rfl⟩, fun h => nomatch h⟩
def ty191 : TyE := ⟨.prim (.func #[25, 61, 3, 28] #[4] false), 1, 8, .nilFunc, false⟩
theorem tyOk191 : EntryOK Tryz.prog 191 ty191 := ⟨entry_info (by kernel_rfl), ⟨Tryz.underlying191, rfl⟩, fun h => nomatch h⟩
def ty192 : TyE := ⟨.prim (.func #[61] #[3] false), 1, 8, .nilFunc, false⟩
theorem tyOk192 : EntryOK Tryz.prog 192 ty192 := ⟨entry_info (by kernel_rfl), ⟨Tryz.underlying192, rfl⟩, fun h => nomatch h⟩
def ty193 : TyE := ⟨.prim (.func #[72] #[63] false), 1, 8, .nilFunc, false⟩
theorem tyOk193 : EntryOK Tryz.prog 193 ty193 := ⟨entry_info (by kernel_rfl), ⟨Tryz.underlying193, rfl⟩, fun h => nomatch h⟩
def ty194 : TyE := ⟨.prim (.func #[74, 63, 63] #[4] false), 1, 8, .nilFunc, false⟩
theorem tyOk194 : EntryOK Tryz.prog 194 ty194 := ⟨entry_info (by kernel_rfl), ⟨Tryz.underlying194, rfl⟩, fun h => nomatch h⟩
def ty195 : TyE := ⟨.prim (.func #[76, 143, 104] #[9, 4] false), 1, 8, .nilFunc, false⟩
theorem tyOk195 : EntryOK Tryz.prog 195 ty195 := ⟨entry_info (by kernel_rfl), ⟨Tryz.underlying195, rfl⟩, fun h => nomatch h⟩
def ty196 : TyE := ⟨.prim (.func #[3, 3, 3, 3] #[] false), 1, 8, .nilFunc, false⟩
theorem tyOk196 : EntryOK Tryz.prog 196 ty196 := ⟨entry_info (by kernel_rfl), ⟨Tryz.underlying196, rfl⟩, fun h => nomatch h⟩
def ty197 : TyE := ⟨.prim (.func #[72] #[] false), 1, 8, .nilFunc, false⟩
theorem tyOk197 : EntryOK Tryz.prog 197 ty197 := ⟨entry_info (by kernel_rfl), ⟨Tryz.underlying197, rfl⟩, fun h => nomatch h⟩
def ty198 : TyE := ⟨.prim (.func #[9, 3] #[113] false), 1, 8, .nilFunc, false⟩
theorem tyOk198 : EntryOK Tryz.prog 198 ty198 := ⟨entry_info (by kernel_rfl), ⟨Tryz.underlying198, rfl⟩, fun h => nomatch h⟩
def ty199 : TyE := ⟨.prim (.func #[63, 3, 3, 3] #[] false), 1, 8, .nilFunc, false⟩
theorem tyOk199 : EntryOK Tryz.prog 199 ty199 := ⟨entry_info (by kernel_rfl), ⟨Tryz.underlying199, rfl⟩, fun h => nomatch h⟩
def ty200 : TyE := ⟨.prim (.func #[201] #[3] false), 1, 8, .nilFunc, false⟩
theorem tyOk200 : EntryOK Tryz.prog 200 ty200 := ⟨entry_info (by kernel_rfl), ⟨Tryz.underlying200, rfl⟩, fun h => nomatch h⟩
def ty201 : TyE := ⟨.prim (.int .u64), 1, 8, .int .u64 (0), false⟩
theorem tyOk201 : EntryOK Tryz.prog 201 ty201 := ⟨entry_info (by kernel_rfl), ⟨Tryz.underlying201, rfl⟩, fun h => nomatch h⟩
def ty202 : TyE := ⟨.prim (.func #[9, 5, 5] #[4] false), 1, 8, .nilFunc, false⟩
theorem tyOk202 : EntryOK Tryz.prog 202 ty202 := ⟨entry_info (by kernel_rfl), ⟨Tryz.underlying202, rfl⟩, fun h => nomatch h⟩
def ty203 : TyE := ⟨.prim (.func #[38, 123] #[4] false), 1, 8, .nilFunc, false⟩
theorem tyOk203 : EntryOK Tryz.prog 203 ty203 := ⟨entry_info (by kernel_rfl), ⟨Tryz.underlying203, rfl⟩, fun h => nomatch h⟩
def ty204 : TyE := ⟨.prim (.func #[69] #[28] false), 1, 8, .nilFunc, false⟩
theorem tyOk204 : EntryOK Tryz.prog 204 ty204 := ⟨entry_info (by kernel_rfl), ⟨Tryz.underlying204, rfl⟩, fun h => nomatch h⟩
def ty205 : TyE := ⟨.prim (.func #[4] #[] false), 1, 8, .nilFunc, false⟩
theorem tyOk205 : EntryOK Tryz.prog 205 ty205 := ⟨entry_info (by kernel_rfl), ⟨Tryz.underlying205, rfl⟩, fun h => nomatch h⟩
def ty206 : TyE := ⟨.prim (.func #[63] #[] true), 1, 8, .nilFunc, false⟩
theorem tyOk206 : EntryOK Tryz.prog 206 ty206 := ⟨entry_info (by kernel_rfl), ⟨Tryz.underlying206, rfl⟩, fun h => nomatch h⟩
def ty207 : TyE := ⟨.prim (.func #[69] #[] false), 1, 8, .nilFunc, false⟩
theorem tyOk207 : EntryOK Tryz.prog 207 ty207 := ⟨entry_info (by kernel_rfl), ⟨Tryz.underlying207, rfl⟩, fun h => nomatch h⟩
def ty208 : TyE := ⟨.prim (.func #[] #[9] false), 1, 8, .nilFunc, false⟩
theorem tyOk208 : EntryOK Tryz.prog 208 ty208 := ⟨entry_info (by kernel_rfl), ⟨Tryz.underlying208, rfl⟩, fun h => nomatch h⟩
def ty209 : TyE := ⟨.prim (.func #[211] #[9, 28] false), 1, 8, .nilFunc, false⟩
theorem tyOk209 : EntryOK Tryz.prog 209 ty209 := ⟨entry_info (by kernel_rfl), ⟨Tryz.underlying209, rfl⟩, fun h => nomatch h⟩
def ty210 : TyE := ⟨.strct [(0, 9), (1, 4)], 2, 24, .agg #[.string ByteArray.empty, .bool false], true⟩
theorem tyOk210 : EntryOK Tryz.prog 210 ty210 := ⟨entry_info (by kernel_rfl), ⟨_, Tryz.underlying210, rfl⟩, fun _ => eqOK_of Tryz.underlying210 Tryz.stoodInHeld210 Tryz.eqGuardType210 (by decide)⟩
def ty211 : TyE := ⟨.strct [(0, 9), (1, 4)], 2, 24, .agg #[.string ByteArray.empty, .bool false], true⟩
theorem tyOk211 : EntryOK Tryz.prog 211 ty211 := ⟨entry_info (by kernel_rfl), ⟨_, Tryz.underlying211, rfl⟩, fun _ => eqOK_of Tryz.underlying211 Tryz.stoodInHeld211 Tryz.eqGuardType211 (by decide)⟩
def ty212 : TyE := ⟨.prim (.func #[47] #[211] false), 1, 8, .nilFunc, false⟩
theorem tyOk212 : EntryOK Tryz.prog 212 ty212 := ⟨entry_info (by kernel_rfl), ⟨Tryz.underlying212, rfl⟩, fun h => nomatch h⟩
def ty213 : TyE := ⟨.prim (.func #[90, 187] #[4] false), 1, 8, .nilFunc, false⟩
theorem tyOk213 : EntryOK Tryz.prog 213 ty213 := ⟨entry_info (by kernel_rfl), ⟨Tryz.underlying213, rfl⟩, fun h => nomatch h⟩
def ty214 : TyE := ⟨.prim (.func #[44, 129] #[3] false), 1, 8, .nilFunc, false⟩
theorem tyOk214 : EntryOK Tryz.prog 214 ty214 := ⟨entry_info (by kernel_rfl), ⟨Tryz.underlying214, rfl⟩, fun h => nomatch h⟩
def ty215 : TyE := ⟨.prim (.func #[45, 216] #[4] false), 1, 8, .nilFunc, false⟩
theorem tyOk215 : EntryOK Tryz.prog 215 ty215 := ⟨entry_info (by kernel_rfl), ⟨Tryz.underlying215, rfl⟩, fun h => nomatch h⟩
def ty216 : TyE := ⟨.prim (.func #[79] #[4] false), 1, 8, .nilFunc, false⟩
theorem tyOk216 : EntryOK Tryz.prog 216 ty216 := ⟨entry_info (by kernel_rfl), ⟨Tryz.underlying216, rfl⟩, fun h => nomatch h⟩
def ty217 : TyE := ⟨.prim (.func #[59, 218] #[4] false), 1, 8, .nilFunc, false⟩
theorem tyOk217 : EntryOK Tryz.prog 217 ty217 := ⟨entry_info (by kernel_rfl), ⟨Tryz.underlying217, rfl⟩, fun h => nomatch h⟩
def ty218 : TyE := ⟨.prim (.func #[76] #[4] false), 1, 8, .nilFunc, false⟩
theorem tyOk218 : EntryOK Tryz.prog 218 ty218 := ⟨entry_info (by kernel_rfl), ⟨Tryz.underlying218, rfl⟩, fun h => nomatch h⟩
def ty219 : TyE := ⟨.prim (.func #[72] #[3] false), 1, 8, .nilFunc, false⟩
theorem tyOk219 : EntryOK Tryz.prog 219 ty219 := ⟨entry_info (by kernel_rfl), ⟨Tryz.underlying219, rfl⟩, fun h => nomatch h⟩
def ty220 : TyE := ⟨.prim (.func #[3, 3] #[] false), 1, 8, .nilFunc, false⟩
theorem tyOk220 : EntryOK Tryz.prog 220 ty220 := ⟨entry_info (by kernel_rfl), ⟨Tryz.underlying220, rfl⟩, fun h => nomatch h⟩
def ty221 : TyE := ⟨.prim (.func #[63, 3, 3] #[] false), 1, 8, .nilFunc, false⟩
theorem tyOk221 : EntryOK Tryz.prog 221 ty221 := ⟨entry_info (by kernel_rfl), ⟨Tryz.underlying221, rfl⟩, fun h => nomatch h⟩
def ty222 : TyE := ⟨.prim (.int .i64), 1, 8, .int .i64 (0), false⟩
theorem tyOk222 : EntryOK Tryz.prog 222 ty222 := ⟨entry_info (by kernel_rfl), ⟨Tryz.underlying222, rfl⟩, fun h => nomatch h⟩
def ty224 : TyE := ⟨.prim (.func #[63, 3, 3] #[3, 222] false), 1, 8, .nilFunc, false⟩
theorem tyOk224 : EntryOK Tryz.prog 224 ty224 := ⟨entry_info (by kernel_rfl), ⟨Tryz.underlying224, rfl⟩, fun h => nomatch h⟩
def ty225 : TyE := ⟨.prim (.func #[63, 3, 3] #[4] false), 1, 8, .nilFunc, false⟩
theorem tyOk225 : EntryOK Tryz.prog 225 ty225 := ⟨entry_info (by kernel_rfl), ⟨Tryz.underlying225, rfl⟩, fun h => nomatch h⟩
def ty226 : TyE := ⟨.prim (.func #[9, 9] #[4] false), 1, 8, .nilFunc, false⟩
theorem tyOk226 : EntryOK Tryz.prog 226 ty226 := ⟨entry_info (by kernel_rfl), ⟨Tryz.underlying226, rfl⟩, fun h => nomatch h⟩
def ty227 : TyE := ⟨.prim (.func #[63, 3, 3, 3] #[3] false), 1, 8, .nilFunc, false⟩
theorem tyOk227 : EntryOK Tryz.prog 227 ty227 := ⟨entry_info (by kernel_rfl), ⟨Tryz.underlying227, rfl⟩, fun h => nomatch h⟩
def ty228 : TyE := ⟨.prim (.func #[63, 3, 3, 3] #[3, 4] false), 1, 8, .nilFunc, false⟩
theorem tyOk228 : EntryOK Tryz.prog 228 ty228 := ⟨entry_info (by kernel_rfl), ⟨Tryz.underlying228, rfl⟩, fun h => nomatch h⟩
def ty229 : TyE := ⟨.prim (.func #[230] #[3] false), 1, 8, .nilFunc, false⟩
theorem tyOk229 : EntryOK Tryz.prog 229 ty229 := ⟨entry_info (by kernel_rfl), ⟨Tryz.underlying229, rfl⟩, fun h => nomatch h⟩
def ty230 : TyE := ⟨.prim (.int .u32), 1, 4, .int .u32 (0), false⟩
theorem tyOk230 : EntryOK Tryz.prog 230 ty230 := ⟨entry_info (by kernel_rfl), ⟨Tryz.underlying230, rfl⟩, fun h => nomatch h⟩
def ty231 : TyE := ⟨.prim (.func #[232] #[3] false), 1, 8, .nilFunc, false⟩
theorem tyOk231 : EntryOK Tryz.prog 231 ty231 := ⟨entry_info (by kernel_rfl), ⟨Tryz.underlying231, rfl⟩, fun h => nomatch h⟩
def ty232 : TyE := ⟨.prim (.int .u64), 1, 8, .int .u64 (0), false⟩
theorem tyOk232 : EntryOK Tryz.prog 232 ty232 := ⟨entry_info (by kernel_rfl), ⟨Tryz.underlying232, rfl⟩, fun h => nomatch h⟩
def ty233 : TyE := ⟨.prim (.func #[9, 234] #[4] false), 1, 8, .nilFunc, false⟩
theorem tyOk233 : EntryOK Tryz.prog 233 ty233 := ⟨entry_info (by kernel_rfl), ⟨Tryz.underlying233, rfl⟩, fun h => nomatch h⟩
def ty234 : TyE := ⟨.prim (.func #[21] #[4] false), 1, 8, .nilFunc, false⟩
theorem tyOk234 : EntryOK Tryz.prog 234 ty234 := ⟨entry_info (by kernel_rfl), ⟨Tryz.underlying234, rfl⟩, fun h => nomatch h⟩
def ty235 : TyE := ⟨.prim (.func #[38, 123] #[3] false), 1, 8, .nilFunc, false⟩
theorem tyOk235 : EntryOK Tryz.prog 235 ty235 := ⟨entry_info (by kernel_rfl), ⟨Tryz.underlying235, rfl⟩, fun h => nomatch h⟩
def ty239 : TyE := ⟨.prim (.func #[9] #[3, 237] false), 1, 8, .nilFunc, false⟩
theorem tyOk239 : EntryOK Tryz.prog 239 ty239 := ⟨entry_info (by kernel_rfl), ⟨Tryz.underlying239, rfl⟩, fun h => nomatch h⟩
def ty240 : TyE := ⟨.prim (.func #[69] #[9, 28] false), 1, 8, .nilFunc, false⟩
theorem tyOk240 : EntryOK Tryz.prog 240 ty240 := ⟨entry_info (by kernel_rfl), ⟨Tryz.underlying240, rfl⟩, fun h => nomatch h⟩
def ty241 : TyE := ⟨.prim (.pointer 5), 1, 8, .pointer none, false⟩
theorem tyOk241 : EntryOK Tryz.prog 241 ty241 := ⟨entry_info (by kernel_rfl), ⟨Tryz.underlying241, rfl⟩, fun h => nomatch h⟩
def ty242 : TyE := ⟨.prim (.func #[3, 9, 69] #[211] false), 1, 8, .nilFunc, false⟩
theorem tyOk242 : EntryOK Tryz.prog 242 ty242 := ⟨entry_info (by kernel_rfl), ⟨Tryz.underlying242, rfl⟩, fun h => nomatch h⟩
def ty243 : TyE := ⟨.prim (.func #[90, 187] #[3] false), 1, 8, .nilFunc, false⟩
theorem tyOk243 : EntryOK Tryz.prog 243 ty243 := ⟨entry_info (by kernel_rfl), ⟨Tryz.underlying243, rfl⟩, fun h => nomatch h⟩
def ty244 : TyE := ⟨.arr 7 9, 7, 112, .agg #[.string ByteArray.empty, .string ByteArray.empty, .string ByteArray.empty, .string ByteArray.empty, .string ByteArray.empty, .string ByteArray.empty, .string ByteArray.empty], false⟩
theorem tyOk244 : EntryOK Tryz.prog 244 ty244 := ⟨entry_info (by kernel_rfl), Tryz.underlying244, fun h => nomatch h⟩
def ty245 : TyE := ⟨.prim (.func #[72, 3] #[] false), 1, 8, .nilFunc, false⟩
theorem tyOk245 : EntryOK Tryz.prog 245 ty245 := ⟨entry_info (by kernel_rfl), ⟨Tryz.underlying245, rfl⟩, fun h => nomatch h⟩
def ty246 : TyE := ⟨.prim (.func #[74] #[] false), 1, 8, .nilFunc, false⟩
theorem tyOk246 : EntryOK Tryz.prog 246 ty246 := ⟨entry_info (by kernel_rfl), ⟨Tryz.underlying246, rfl⟩, fun h => nomatch h⟩
def ty247 : TyE := ⟨.prim (.func #[45, 216] #[3] false), 1, 8, .nilFunc, false⟩
theorem tyOk247 : EntryOK Tryz.prog 247 ty247 := ⟨entry_info (by kernel_rfl), ⟨Tryz.underlying247, rfl⟩, fun h => nomatch h⟩
def ty248 : TyE := ⟨.prim (.func #[59, 218] #[3] false), 1, 8, .nilFunc, false⟩
theorem tyOk248 : EntryOK Tryz.prog 248 ty248 := ⟨entry_info (by kernel_rfl), ⟨Tryz.underlying248, rfl⟩, fun h => nomatch h⟩
def ty249 : TyE := ⟨.prim (.func #[76] #[44] false), 1, 8, .nilFunc, false⟩
theorem tyOk249 : EntryOK Tryz.prog 249 ty249 := ⟨entry_info (by kernel_rfl), ⟨Tryz.underlying249, rfl⟩, fun h => nomatch h⟩
def ty250 : TyE := ⟨.prim (.int .u64), 1, 8, .int .u64 (0), false⟩
theorem tyOk250 : EntryOK Tryz.prog 250 ty250 := ⟨entry_info (by kernel_rfl), ⟨Tryz.underlying250, rfl⟩, fun h => nomatch h⟩
def ty251 : TyE := ⟨.prim (.func #[3] #[201] false), 1, 8, .nilFunc, false⟩
theorem tyOk251 : EntryOK Tryz.prog 251 ty251 := ⟨entry_info (by kernel_rfl), ⟨Tryz.underlying251, rfl⟩, fun h => nomatch h⟩
def ty252 : TyE := ⟨.prim (.func #[] #[232] false), 1, 8, .nilFunc, false⟩
theorem tyOk252 : EntryOK Tryz.prog 252 ty252 := ⟨entry_info (by kernel_rfl), ⟨Tryz.underlying252, rfl⟩, fun h => nomatch h⟩
def ty253 : TyE := ⟨.prim (.func #[63, 3, 254] #[3] false), 1, 8, .nilFunc, false⟩
theorem tyOk253 : EntryOK Tryz.prog 253 ty253 := ⟨entry_info (by kernel_rfl), ⟨Tryz.underlying253, rfl⟩, fun h => nomatch h⟩
def ty254 : TyE := ⟨.prim (.pointer 3), 1, 8, .pointer none, false⟩
theorem tyOk254 : EntryOK Tryz.prog 254 ty254 := ⟨entry_info (by kernel_rfl), ⟨Tryz.underlying254, rfl⟩, fun h => nomatch h⟩
def ty255 : TyE := ⟨.prim (.func #[63, 3, 3, 3, 254] #[3] false), 1, 8, .nilFunc, false⟩
theorem tyOk255 : EntryOK Tryz.prog 255 ty255 := ⟨entry_info (by kernel_rfl), ⟨Tryz.underlying255, rfl⟩, fun h => nomatch h⟩
def ty256 : TyE := ⟨.prim (.func #[9, 234] #[3] false), 1, 8, .nilFunc, false⟩
theorem tyOk256 : EntryOK Tryz.prog 256 ty256 := ⟨entry_info (by kernel_rfl), ⟨Tryz.underlying256, rfl⟩, fun h => nomatch h⟩
def ty257 : TyE := ⟨.prim (.func #[69] #[9] false), 1, 8, .nilFunc, false⟩
theorem tyOk257 : EntryOK Tryz.prog 257 ty257 := ⟨entry_info (by kernel_rfl), ⟨Tryz.underlying257, rfl⟩, fun h => nomatch h⟩
def ty258 : TyE := ⟨.arr 5 9, 5, 80, .agg #[.string ByteArray.empty, .string ByteArray.empty, .string ByteArray.empty, .string ByteArray.empty, .string ByteArray.empty], false⟩
theorem tyOk258 : EntryOK Tryz.prog 258 ty258 := ⟨entry_info (by kernel_rfl), Tryz.underlying258, fun h => nomatch h⟩
def ty259 : TyE := ⟨.prim (.func #[59] #[] false), 1, 8, .nilFunc, false⟩
theorem tyOk259 : EntryOK Tryz.prog 259 ty259 := ⟨entry_info (by kernel_rfl), ⟨Tryz.underlying259, rfl⟩, fun h => nomatch h⟩
def ty260 : TyE := ⟨.prim (.func #[76, 3] #[211] false), 1, 8, .nilFunc, false⟩
theorem tyOk260 : EntryOK Tryz.prog 260 ty260 := ⟨entry_info (by kernel_rfl), ⟨Tryz.underlying260, rfl⟩, fun h => nomatch h⟩
def ty261 : TyE := ⟨.prim (.pointer 250), 1, 8, .pointer none, false⟩
theorem tyOk261 : EntryOK Tryz.prog 261 ty261 := ⟨entry_info (by kernel_rfl), ⟨Tryz.underlying261, rfl⟩, fun h => nomatch h⟩
def ty263 : TyE := ⟨.prim (.func #[63, 3, 3, 254] #[3, 3] false), 1, 8, .nilFunc, false⟩
theorem tyOk263 : EntryOK Tryz.prog 263 ty263 := ⟨entry_info (by kernel_rfl), ⟨Tryz.underlying263, rfl⟩, fun h => nomatch h⟩
def ty264 : TyE := ⟨.prim (.func #[9, 234, 4] #[3] false), 1, 8, .nilFunc, false⟩
theorem tyOk264 : EntryOK Tryz.prog 264 ty264 := ⟨entry_info (by kernel_rfl), ⟨Tryz.underlying264, rfl⟩, fun h => nomatch h⟩
def ty265 : TyE := ⟨.prim (.unsafePointer), 1, 8, .pointer none, false⟩
theorem tyOk265 : EntryOK Tryz.prog 265 ty265 := ⟨entry_info (by kernel_rfl), ⟨Tryz.underlying265, rfl⟩, fun h => nomatch h⟩
def ty266 : TyE := ⟨.prim (.func #[265] #[265] false), 1, 8, .nilFunc, false⟩
theorem tyOk266 : EntryOK Tryz.prog 266 ty266 := ⟨entry_info (by kernel_rfl), ⟨Tryz.underlying266, rfl⟩, fun h => nomatch h⟩
def ty267 : TyE := ⟨.prim (.func #[3] #[9] false), 1, 8, .nilFunc, false⟩
theorem tyOk267 : EntryOK Tryz.prog 267 ty267 := ⟨entry_info (by kernel_rfl), ⟨Tryz.underlying267, rfl⟩, fun h => nomatch h⟩
def ty268 : TyE := ⟨.prim (.func #[9] #[9] false), 1, 8, .nilFunc, false⟩
theorem tyOk268 : EntryOK Tryz.prog 268 ty268 := ⟨entry_info (by kernel_rfl), ⟨Tryz.underlying268, rfl⟩, fun h => nomatch h⟩
def ty269 : TyE := ⟨.prim (.func #[72, 4, 3] #[] false), 1, 8, .nilFunc, false⟩
theorem tyOk269 : EntryOK Tryz.prog 269 ty269 := ⟨entry_info (by kernel_rfl), ⟨Tryz.underlying269, rfl⟩, fun h => nomatch h⟩
def ty270 : TyE := ⟨.prim (.func #[72, 3] #[211] false), 1, 8, .nilFunc, false⟩
theorem tyOk270 : EntryOK Tryz.prog 270 ty270 := ⟨entry_info (by kernel_rfl), ⟨Tryz.underlying270, rfl⟩, fun h => nomatch h⟩
def ty271 : TyE := ⟨.prim (.func #[74, 3] #[211] false), 1, 8, .nilFunc, false⟩
theorem tyOk271 : EntryOK Tryz.prog 271 ty271 := ⟨entry_info (by kernel_rfl), ⟨Tryz.underlying271, rfl⟩, fun h => nomatch h⟩
def ty272 : TyE := ⟨.prim (.func #[5] #[9] false), 1, 8, .nilFunc, false⟩
theorem tyOk272 : EntryOK Tryz.prog 272 ty272 := ⟨entry_info (by kernel_rfl), ⟨Tryz.underlying272, rfl⟩, fun h => nomatch h⟩
def ty273 : TyE := ⟨.prim (.func #[72, 4, 3] #[211] false), 1, 8, .nilFunc, false⟩
theorem tyOk273 : EntryOK Tryz.prog 273 ty273 := ⟨entry_info (by kernel_rfl), ⟨Tryz.underlying273, rfl⟩, fun h => nomatch h⟩
def ty274 : TyE := ⟨.prim (.func #[59, 3] #[211] false), 1, 8, .nilFunc, false⟩
theorem tyOk274 : EntryOK Tryz.prog 274 ty274 := ⟨entry_info (by kernel_rfl), ⟨Tryz.underlying274, rfl⟩, fun h => nomatch h⟩
def ty275 : TyE := ⟨.prim (.func #[2, 3] #[9] false), 1, 8, .nilFunc, false⟩
theorem tyOk275 : EntryOK Tryz.prog 275 ty275 := ⟨entry_info (by kernel_rfl), ⟨Tryz.underlying275, rfl⟩, fun h => nomatch h⟩
def ty276 : TyE := ⟨.arr 24 5, 24, 24, .agg #[.int .u8 (0), .int .u8 (0), .int .u8 (0), .int .u8 (0), .int .u8 (0), .int .u8 (0), .int .u8 (0), .int .u8 (0), .int .u8 (0), .int .u8 (0), .int .u8 (0), .int .u8 (0), .int .u8 (0), .int .u8 (0), .int .u8 (0), .int .u8 (0), .int .u8 (0), .int .u8 (0), .int .u8 (0), .int .u8 (0), .int .u8 (0), .int .u8 (0), .int .u8 (0), .int .u8 (0)], false⟩
theorem tyOk276 : EntryOK Tryz.prog 276 ty276 := ⟨entry_info (by kernel_rfl), Tryz.underlying276, fun h => nomatch h⟩
def ty277 : TyE := ⟨.prim (.func #[176, 232] #[] false), 1, 8, .nilFunc, false⟩
theorem tyOk277 : EntryOK Tryz.prog 277 ty277 := ⟨entry_info (by kernel_rfl), ⟨Tryz.underlying277, rfl⟩, fun h => nomatch h⟩
def ty279 : TyE := ⟨.prim (.func #[176, 232, 3, 4, 4] #[176, 9] false), 1, 8, .nilFunc, false⟩
theorem tyOk279 : EntryOK Tryz.prog 279 ty279 := ⟨entry_info (by kernel_rfl), ⟨Tryz.underlying279, rfl⟩, fun h => nomatch h⟩
def ty280 : TyE := ⟨.prim (.func #[4] #[3] false), 1, 8, .nilFunc, false⟩
theorem tyOk280 : EntryOK Tryz.prog 280 ty280 := ⟨entry_info (by kernel_rfl), ⟨Tryz.underlying280, rfl⟩, fun h => nomatch h⟩
def ty281 : TyE := ⟨.arr 20 232, 20, 160, .agg #[.int .u64 (0), .int .u64 (0), .int .u64 (0), .int .u64 (0), .int .u64 (0), .int .u64 (0), .int .u64 (0), .int .u64 (0), .int .u64 (0), .int .u64 (0), .int .u64 (0), .int .u64 (0), .int .u64 (0), .int .u64 (0), .int .u64 (0), .int .u64 (0), .int .u64 (0), .int .u64 (0), .int .u64 (0), .int .u64 (0)], false⟩
theorem tyOk281 : EntryOK Tryz.prog 281 ty281 := ⟨entry_info (by kernel_rfl), Tryz.underlying281, fun h => nomatch h⟩
def ty282 : TyE := ⟨.arr 65 5, 65, 65, .agg #[.int .u8 (0), .int .u8 (0), .int .u8 (0), .int .u8 (0), .int .u8 (0), .int .u8 (0), .int .u8 (0), .int .u8 (0), .int .u8 (0), .int .u8 (0), .int .u8 (0), .int .u8 (0), .int .u8 (0), .int .u8 (0), .int .u8 (0), .int .u8 (0), .int .u8 (0), .int .u8 (0), .int .u8 (0), .int .u8 (0), .int .u8 (0), .int .u8 (0), .int .u8 (0), .int .u8 (0), .int .u8 (0), .int .u8 (0), .int .u8 (0), .int .u8 (0), .int .u8 (0), .int .u8 (0), .int .u8 (0), .int .u8 (0), .int .u8 (0), .int .u8 (0), .int .u8 (0), .int .u8 (0), .int .u8 (0), .int .u8 (0), .int .u8 (0), .int .u8 (0), .int .u8 (0), .int .u8 (0), .int .u8 (0), .int .u8 (0), .int .u8 (0), .int .u8 (0), .int .u8 (0), .int .u8 (0), .int .u8 (0), .int .u8 (0), .int .u8 (0), .int .u8 (0), .int .u8 (0), .int .u8 (0), .int .u8 (0), .int .u8 (0), .int .u8 (0), .int .u8 (0), .int .u8 (0), .int .u8 (0), .int .u8 (0), .int .u8 (0), .int .u8 (0), .int .u8 (0), .int .u8 (0)], false⟩
theorem tyOk282 : EntryOK Tryz.prog 282 ty282 := ⟨entry_info (by kernel_rfl), Tryz.underlying282, fun h => nomatch h⟩
def ty283 : TyE := ⟨.arr 32 5, 32, 32, .agg #[.int .u8 (0), .int .u8 (0), .int .u8 (0), .int .u8 (0), .int .u8 (0), .int .u8 (0), .int .u8 (0), .int .u8 (0), .int .u8 (0), .int .u8 (0), .int .u8 (0), .int .u8 (0), .int .u8 (0), .int .u8 (0), .int .u8 (0), .int .u8 (0), .int .u8 (0), .int .u8 (0), .int .u8 (0), .int .u8 (0), .int .u8 (0), .int .u8 (0), .int .u8 (0), .int .u8 (0), .int .u8 (0), .int .u8 (0), .int .u8 (0), .int .u8 (0), .int .u8 (0), .int .u8 (0), .int .u8 (0), .int .u8 (0)], false⟩
theorem tyOk283 : EntryOK Tryz.prog 283 ty283 := ⟨entry_info (by kernel_rfl), Tryz.underlying283, fun h => nomatch h⟩
def ty284 : TyE := ⟨.arr 64 5, 64, 64, .agg #[.int .u8 (0), .int .u8 (0), .int .u8 (0), .int .u8 (0), .int .u8 (0), .int .u8 (0), .int .u8 (0), .int .u8 (0), .int .u8 (0), .int .u8 (0), .int .u8 (0), .int .u8 (0), .int .u8 (0), .int .u8 (0), .int .u8 (0), .int .u8 (0), .int .u8 (0), .int .u8 (0), .int .u8 (0), .int .u8 (0), .int .u8 (0), .int .u8 (0), .int .u8 (0), .int .u8 (0), .int .u8 (0), .int .u8 (0), .int .u8 (0), .int .u8 (0), .int .u8 (0), .int .u8 (0), .int .u8 (0), .int .u8 (0), .int .u8 (0), .int .u8 (0), .int .u8 (0), .int .u8 (0), .int .u8 (0), .int .u8 (0), .int .u8 (0), .int .u8 (0), .int .u8 (0), .int .u8 (0), .int .u8 (0), .int .u8 (0), .int .u8 (0), .int .u8 (0), .int .u8 (0), .int .u8 (0), .int .u8 (0), .int .u8 (0), .int .u8 (0), .int .u8 (0), .int .u8 (0), .int .u8 (0), .int .u8 (0), .int .u8 (0), .int .u8 (0), .int .u8 (0), .int .u8 (0), .int .u8 (0), .int .u8 (0), .int .u8 (0), .int .u8 (0), .int .u8 (0)], false⟩
theorem tyOk284 : EntryOK Tryz.prog 284 ty284 := ⟨entry_info (by kernel_rfl), Tryz.underlying284, fun h => nomatch h⟩
def ty285 : TyE := ⟨.strct [(0, 17), (1, 17), (2, 17), (3, 9)], 4, 40, .agg #[.pointer none, .pointer none, .pointer none, .string ByteArray.empty], false⟩
theorem tyOk285 : EntryOK Tryz.prog 285 ty285 := ⟨entry_info (by kernel_rfl), ⟨_, Tryz.underlying285, rfl⟩, fun h => nomatch h⟩
def ty286 : TyE := ⟨.strct [(0, 17), (1, 17), (2, 17), (3, 9)], 4, 40, .agg #[.pointer none, .pointer none, .pointer none, .string ByteArray.empty], false⟩
theorem tyOk286 : EntryOK Tryz.prog 286 ty286 := ⟨entry_info (by kernel_rfl), ⟨_, Tryz.underlying286, rfl⟩, fun h => nomatch h⟩
def ty287 : TyE := ⟨.arr 0 16, 0, 0, .agg #[], false⟩
theorem tyOk287 : EntryOK Tryz.prog 287 ty287 := ⟨entry_info (by kernel_rfl), Tryz.underlying287, fun h => nomatch h⟩
def ty288 : TyE := ⟨.strct [(0, 287)], 0, 0, .agg #[], false⟩
theorem tyOk288 : EntryOK Tryz.prog 288 ty288 := ⟨entry_info (by kernel_rfl), ⟨_, Tryz.underlying288, rfl⟩, fun h => nomatch h⟩
def ty289 : TyE := ⟨.strct [(0, 287)], 0, 0, .agg #[], false⟩
theorem tyOk289 : EntryOK Tryz.prog 289 ty289 := ⟨entry_info (by kernel_rfl), ⟨_, Tryz.underlying289, rfl⟩, fun h => nomatch h⟩
def ty290 : TyE := ⟨.prim (.int .u8), 1, 1, .int .u8 (0), false⟩
theorem tyOk290 : EntryOK Tryz.prog 290 ty290 := ⟨entry_info (by kernel_rfl), ⟨Tryz.underlying290, rfl⟩, fun h => nomatch h⟩
def ty291 : TyE := ⟨.prim (.int .u8), 1, 1, .int .u8 (0), false⟩
theorem tyOk291 : EntryOK Tryz.prog 291 ty291 := ⟨entry_info (by kernel_rfl), ⟨Tryz.underlying291, rfl⟩, fun h => nomatch h⟩
def ty292 : TyE := ⟨.prim (.func #[265, 265] #[4] false), 1, 8, .nilFunc, false⟩
theorem tyOk292 : EntryOK Tryz.prog 292 ty292 := ⟨entry_info (by kernel_rfl), ⟨Tryz.underlying292, rfl⟩, fun h => nomatch h⟩
def ty293 : TyE := ⟨.prim (.int .i32), 1, 4, .int .i32 (0), false⟩
theorem tyOk293 : EntryOK Tryz.prog 293 ty293 := ⟨entry_info (by kernel_rfl), ⟨Tryz.underlying293, rfl⟩, fun h => nomatch h⟩
def ty294 : TyE := ⟨.prim (.int .i32), 1, 4, .int .i32 (0), false⟩
theorem tyOk294 : EntryOK Tryz.prog 294 ty294 := ⟨entry_info (by kernel_rfl), ⟨Tryz.underlying294, rfl⟩, fun h => nomatch h⟩
def ty295 : TyE := ⟨.strct [(0, 12), (1, 12), (2, 230), (3, 290), (4, 5), (5, 5), (6, 291), (7, 292), (8, 241), (9, 293), (10, 294)], 11, 48, .agg #[.int .u64 (0), .int .u64 (0), .int .u32 (0), .int .u8 (0), .int .u8 (0), .int .u8 (0), .int .u8 (0), .nilFunc, .pointer none, .int .i32 (0), .int .i32 (0)], false⟩
theorem tyOk295 : EntryOK Tryz.prog 295 ty295 := ⟨entry_info (by kernel_rfl), ⟨_, Tryz.underlying295, rfl⟩, fun h => nomatch h⟩
def ty296 : TyE := ⟨.strct [(0, 12), (1, 12), (2, 230), (3, 290), (4, 5), (5, 5), (6, 291), (7, 292), (8, 241), (9, 293), (10, 294)], 11, 48, .agg #[.int .u64 (0), .int .u64 (0), .int .u32 (0), .int .u8 (0), .int .u8 (0), .int .u8 (0), .int .u8 (0), .nilFunc, .pointer none, .int .i32 (0), .int .i32 (0)], false⟩
theorem tyOk296 : EntryOK Tryz.prog 296 ty296 := ⟨entry_info (by kernel_rfl), ⟨_, Tryz.underlying296, rfl⟩, fun h => nomatch h⟩
def tyTree : TT := (.node (.node (.node (.node (.node (.node (.node (.node (.node .leaf 1 ty1 .leaf) 2 ty2 .leaf) 3 ty3 (.node .leaf 4 ty4 .leaf)) 5 ty5 (.node (.node .leaf 6 ty6 .leaf) 7 ty7 (.node .leaf 8 ty8 .leaf))) 9 ty9 (.node (.node (.node (.node .leaf 10 ty10 .leaf) 11 ty11 .leaf) 12 ty12 (.node .leaf 13 ty13 .leaf)) 14 ty14 (.node (.node .leaf 15 ty15 .leaf) 16 ty16 (.node .leaf 17 ty17 .leaf)))) 18 ty18 (.node (.node (.node (.node (.node .leaf 19 ty19 .leaf) 21 ty21 .leaf) 22 ty22 (.node .leaf 23 ty23 .leaf)) 24 ty24 (.node (.node .leaf 25 ty25 .leaf) 26 ty26 (.node .leaf 27 ty27 .leaf))) 28 ty28 (.node (.node (.node (.node .leaf 30 ty30 .leaf) 31 ty31 .leaf) 32 ty32 (.node .leaf 33 ty33 .leaf)) 34 ty34 (.node (.node .leaf 35 ty35 .leaf) 36 ty36 (.node .leaf 37 ty37 .leaf))))) 38 ty38 (.node (.node (.node (.node (.node (.node .leaf 39 ty39 .leaf) 40 ty40 .leaf) 41 ty41 (.node .leaf 42 ty42 .leaf)) 43 ty43 (.node (.node .leaf 44 ty44 .leaf) 45 ty45 (.node .leaf 46 ty46 .leaf))) 47 ty47 (.node (.node (.node (.node .leaf 48 ty48 .leaf) 49 ty49 .leaf) 50 ty50 (.node .leaf 51 ty51 .leaf)) 52 ty52 (.node (.node .leaf 53 ty53 .leaf) 54 ty54 (.node .leaf 55 ty55 .leaf)))) 56 ty56 (.node (.node (.node (.node (.node .leaf 57 ty57 .leaf) 58 ty58 .leaf) 59 ty59 (.node .leaf 60 ty60 .leaf)) 61 ty61 (.node (.node .leaf 62 ty62 .leaf) 63 ty63 (.node .leaf 64 ty64 .leaf))) 65 ty65 (.node (.node (.node .leaf 66 ty66 .leaf) 67 ty67 (.node .leaf 68 ty68 .leaf)) 69 ty69 (.node (.node .leaf 70 ty70 .leaf) 71 ty71 (.node .leaf 72 ty72 .leaf)))))) 73 ty73 (.node (.node (.node (.node (.node (.node (.node .leaf 74 ty74 .leaf) 75 ty75 .leaf) 76 ty76 (.node .leaf 77 ty77 .leaf)) 78 ty78 (.node (.node .leaf 79 ty79 .leaf) 80 ty80 (.node .leaf 81 ty81 .leaf))) 82 ty82 (.node (.node (.node (.node .leaf 83 ty83 .leaf) 84 ty84 .leaf) 85 ty85 (.node .leaf 86 ty86 .leaf)) 87 ty87 (.node (.node .leaf 88 ty88 .leaf) 89 ty89 (.node .leaf 90 ty90 .leaf)))) 91 ty91 (.node (.node (.node (.node (.node .leaf 92 ty92 .leaf) 93 ty93 .leaf) 94 ty94 (.node .leaf 95 ty95 .leaf)) 96 ty96 (.node (.node .leaf 97 ty97 .leaf) 98 ty98 (.node .leaf 99 ty99 .leaf))) 100 ty100 (.node (.node (.node (.node .leaf 101 ty101 .leaf) 102 ty102 .leaf) 103 ty103 (.node .leaf 104 ty104 .leaf)) 105 ty105 (.node (.node .leaf 106 ty106 .leaf) 107 ty107 (.node .leaf 108 ty108 .leaf))))) 109 ty109 (.node (.node (.node (.node (.node (.node .leaf 110 ty110 .leaf) 111 ty111 .leaf) 112 ty112 (.node .leaf 113 ty113 .leaf)) 114 ty114 (.node (.node .leaf 115 ty115 .leaf) 116 ty116 (.node .leaf 117 ty117 .leaf))) 118 ty118 (.node (.node (.node (.node .leaf 120 ty120 .leaf) 121 ty121 .leaf) 122 ty122 (.node .leaf 123 ty123 .leaf)) 124 ty124 (.node (.node .leaf 125 ty125 .leaf) 127 ty127 (.node .leaf 129 ty129 .leaf)))) 130 ty130 (.node (.node (.node (.node (.node .leaf 131 ty131 .leaf) 132 ty132 .leaf) 133 ty133 (.node .leaf 134 ty134 .leaf)) 135 ty135 (.node (.node .leaf 136 ty136 .leaf) 137 ty137 (.node .leaf 138 ty138 .leaf))) 139 ty139 (.node (.node (.node .leaf 140 ty140 .leaf) 141 ty141 (.node .leaf 142 ty142 .leaf)) 143 ty143 (.node (.node .leaf 144 ty144 .leaf) 146 ty146 (.node .leaf 147 ty147 .leaf))))))) 148 ty148 (.node (.node (.node (.node (.node (.node (.node (.node .leaf 149 ty149 .leaf) 150 ty150 .leaf) 151 ty151 (.node .leaf 152 ty152 .leaf)) 153 ty153 (.node (.node .leaf 154 ty154 .leaf) 155 ty155 (.node .leaf 156 ty156 .leaf))) 157 ty157 (.node (.node (.node (.node .leaf 158 ty158 .leaf) 159 ty159 .leaf) 160 ty160 (.node .leaf 161 ty161 .leaf)) 162 ty162 (.node (.node .leaf 163 ty163 .leaf) 164 ty164 (.node .leaf 165 ty165 .leaf)))) 166 ty166 (.node (.node (.node (.node (.node .leaf 168 ty168 .leaf) 169 ty169 .leaf) 170 ty170 (.node .leaf 171 ty171 .leaf)) 172 ty172 (.node (.node .leaf 173 ty173 .leaf) 174 ty174 (.node .leaf 175 ty175 .leaf))) 176 ty176 (.node (.node (.node (.node .leaf 177 ty177 .leaf) 178 ty178 .leaf) 179 ty179 (.node .leaf 180 ty180 .leaf)) 181 ty181 (.node (.node .leaf 182 ty182 .leaf) 183 ty183 (.node .leaf 184 ty184 .leaf))))) 185 ty185 (.node (.node (.node (.node (.node (.node .leaf 186 ty186 .leaf) 187 ty187 .leaf) 188 ty188 (.node .leaf 189 ty189 .leaf)) 190 ty190 (.node (.node .leaf 191 ty191 .leaf) 192 ty192 (.node .leaf 193 ty193 .leaf))) 194 ty194 (.node (.node (.node (.node .leaf 195 ty195 .leaf) 196 ty196 .leaf) 197 ty197 (.node .leaf 198 ty198 .leaf)) 199 ty199 (.node (.node .leaf 200 ty200 .leaf) 201 ty201 (.node .leaf 202 ty202 .leaf)))) 203 ty203 (.node (.node (.node (.node (.node .leaf 204 ty204 .leaf) 205 ty205 .leaf) 206 ty206 (.node .leaf 207 ty207 .leaf)) 208 ty208 (.node (.node .leaf 209 ty209 .leaf) 210 ty210 (.node .leaf 211 ty211 .leaf))) 212 ty212 (.node (.node (.node .leaf 213 ty213 .leaf) 214 ty214 (.node .leaf 215 ty215 .leaf)) 216 ty216 (.node (.node .leaf 217 ty217 .leaf) 218 ty218 (.node .leaf 219 ty219 .leaf)))))) 220 ty220 (.node (.node (.node (.node (.node (.node (.node .leaf 221 ty221 .leaf) 222 ty222 .leaf) 224 ty224 (.node .leaf 225 ty225 .leaf)) 226 ty226 (.node (.node .leaf 227 ty227 .leaf) 228 ty228 (.node .leaf 229 ty229 .leaf))) 230 ty230 (.node (.node (.node (.node .leaf 231 ty231 .leaf) 232 ty232 .leaf) 233 ty233 (.node .leaf 234 ty234 .leaf)) 235 ty235 (.node (.node .leaf 239 ty239 .leaf) 240 ty240 (.node .leaf 241 ty241 .leaf)))) 242 ty242 (.node (.node (.node (.node (.node .leaf 243 ty243 .leaf) 244 ty244 .leaf) 245 ty245 (.node .leaf 246 ty246 .leaf)) 247 ty247 (.node (.node .leaf 248 ty248 .leaf) 249 ty249 (.node .leaf 250 ty250 .leaf))) 251 ty251 (.node (.node (.node (.node .leaf 252 ty252 .leaf) 253 ty253 .leaf) 254 ty254 (.node .leaf 255 ty255 .leaf)) 256 ty256 (.node (.node .leaf 257 ty257 .leaf) 258 ty258 (.node .leaf 259 ty259 .leaf))))) 260 ty260 (.node (.node (.node (.node (.node (.node .leaf 261 ty261 .leaf) 263 ty263 .leaf) 264 ty264 (.node .leaf 265 ty265 .leaf)) 266 ty266 (.node (.node .leaf 267 ty267 .leaf) 268 ty268 (.node .leaf 269 ty269 .leaf))) 270 ty270 (.node (.node (.node (.node .leaf 271 ty271 .leaf) 272 ty272 .leaf) 273 ty273 (.node .leaf 274 ty274 .leaf)) 275 ty275 (.node (.node .leaf 276 ty276 .leaf) 277 ty277 (.node .leaf 279 ty279 .leaf)))) 280 ty280 (.node (.node (.node (.node (.node .leaf 281 ty281 .leaf) 282 ty282 .leaf) 283 ty283 (.node .leaf 284 ty284 .leaf)) 285 ty285 (.node (.node .leaf 286 ty286 .leaf) 287 ty287 (.node .leaf 288 ty288 .leaf))) 289 ty289 (.node (.node (.node .leaf 290 ty290 .leaf) 291 ty291 (.node .leaf 292 ty292 .leaf)) 293 ty293 (.node (.node .leaf 294 ty294 .leaf) 295 ty295 (.node .leaf 296 ty296 .leaf))))))))
theorem tyTree_all : tyTree.All (EntryOK Tryz.prog) := ⟨tyOk148, ⟨tyOk73, ⟨tyOk38, ⟨tyOk18, ⟨tyOk9, ⟨tyOk5, ⟨tyOk3, ⟨tyOk2, ⟨tyOk1, trivial, trivial⟩, trivial⟩, ⟨tyOk4, trivial, trivial⟩⟩, ⟨tyOk7, ⟨tyOk6, trivial, trivial⟩, ⟨tyOk8, trivial, trivial⟩⟩⟩, ⟨tyOk14, ⟨tyOk12, ⟨tyOk11, ⟨tyOk10, trivial, trivial⟩, trivial⟩, ⟨tyOk13, trivial, trivial⟩⟩, ⟨tyOk16, ⟨tyOk15, trivial, trivial⟩, ⟨tyOk17, trivial, trivial⟩⟩⟩⟩, ⟨tyOk28, ⟨tyOk24, ⟨tyOk22, ⟨tyOk21, ⟨tyOk19, trivial, trivial⟩, trivial⟩, ⟨tyOk23, trivial, trivial⟩⟩, ⟨tyOk26, ⟨tyOk25, trivial, trivial⟩, ⟨tyOk27, trivial, trivial⟩⟩⟩, ⟨tyOk34, ⟨tyOk32, ⟨tyOk31, ⟨tyOk30, trivial, trivial⟩, trivial⟩, ⟨tyOk33, trivial, trivial⟩⟩, ⟨tyOk36, ⟨tyOk35, trivial, trivial⟩, ⟨tyOk37, trivial, trivial⟩⟩⟩⟩⟩, ⟨tyOk56, ⟨tyOk47, ⟨tyOk43, ⟨tyOk41, ⟨tyOk40, ⟨tyOk39, trivial, trivial⟩, trivial⟩, ⟨tyOk42, trivial, trivial⟩⟩, ⟨tyOk45, ⟨tyOk44, trivial, trivial⟩, ⟨tyOk46, trivial, trivial⟩⟩⟩, ⟨tyOk52, ⟨tyOk50, ⟨tyOk49, ⟨tyOk48, trivial, trivial⟩, trivial⟩, ⟨tyOk51, trivial, trivial⟩⟩, ⟨tyOk54, ⟨tyOk53, trivial, trivial⟩, ⟨tyOk55, trivial, trivial⟩⟩⟩⟩, ⟨tyOk65, ⟨tyOk61, ⟨tyOk59, ⟨tyOk58, ⟨tyOk57, trivial, trivial⟩, trivial⟩, ⟨tyOk60, trivial, trivial⟩⟩, ⟨tyOk63, ⟨tyOk62, trivial, trivial⟩, ⟨tyOk64, trivial, trivial⟩⟩⟩, ⟨tyOk69, ⟨tyOk67, ⟨tyOk66, trivial, trivial⟩, ⟨tyOk68, trivial, trivial⟩⟩, ⟨tyOk71, ⟨tyOk70, trivial, trivial⟩, ⟨tyOk72, trivial, trivial⟩⟩⟩⟩⟩⟩, ⟨tyOk109, ⟨tyOk91, ⟨tyOk82, ⟨tyOk78, ⟨tyOk76, ⟨tyOk75, ⟨tyOk74, trivial, trivial⟩, trivial⟩, ⟨tyOk77, trivial, trivial⟩⟩, ⟨tyOk80, ⟨tyOk79, trivial, trivial⟩, ⟨tyOk81, trivial, trivial⟩⟩⟩, ⟨tyOk87, ⟨tyOk85, ⟨tyOk84, ⟨tyOk83, trivial, trivial⟩, trivial⟩, ⟨tyOk86, trivial, trivial⟩⟩, ⟨tyOk89, ⟨tyOk88, trivial, trivial⟩, ⟨tyOk90, trivial, trivial⟩⟩⟩⟩, ⟨tyOk100, ⟨tyOk96, ⟨tyOk94, ⟨tyOk93, ⟨tyOk92, trivial, trivial⟩, trivial⟩, ⟨tyOk95, trivial, trivial⟩⟩, ⟨tyOk98, ⟨tyOk97, trivial, trivial⟩, ⟨tyOk99, trivial, trivial⟩⟩⟩, ⟨tyOk105, ⟨tyOk103, ⟨tyOk102, ⟨tyOk101, trivial, trivial⟩, trivial⟩, ⟨tyOk104, trivial, trivial⟩⟩, ⟨tyOk107, ⟨tyOk106, trivial, trivial⟩, ⟨tyOk108, trivial, trivial⟩⟩⟩⟩⟩, ⟨tyOk130, ⟨tyOk118, ⟨tyOk114, ⟨tyOk112, ⟨tyOk111, ⟨tyOk110, trivial, trivial⟩, trivial⟩, ⟨tyOk113, trivial, trivial⟩⟩, ⟨tyOk116, ⟨tyOk115, trivial, trivial⟩, ⟨tyOk117, trivial, trivial⟩⟩⟩, ⟨tyOk124, ⟨tyOk122, ⟨tyOk121, ⟨tyOk120, trivial, trivial⟩, trivial⟩, ⟨tyOk123, trivial, trivial⟩⟩, ⟨tyOk127, ⟨tyOk125, trivial, trivial⟩, ⟨tyOk129, trivial, trivial⟩⟩⟩⟩, ⟨tyOk139, ⟨tyOk135, ⟨tyOk133, ⟨tyOk132, ⟨tyOk131, trivial, trivial⟩, trivial⟩, ⟨tyOk134, trivial, trivial⟩⟩, ⟨tyOk137, ⟨tyOk136, trivial, trivial⟩, ⟨tyOk138, trivial, trivial⟩⟩⟩, ⟨tyOk143, ⟨tyOk141, ⟨tyOk140, trivial, trivial⟩, ⟨tyOk142, trivial, trivial⟩⟩, ⟨tyOk146, ⟨tyOk144, trivial, trivial⟩, ⟨tyOk147, trivial, trivial⟩⟩⟩⟩⟩⟩⟩, ⟨tyOk220, ⟨tyOk185, ⟨tyOk166, ⟨tyOk157, ⟨tyOk153, ⟨tyOk151, ⟨tyOk150, ⟨tyOk149, trivial, trivial⟩, trivial⟩, ⟨tyOk152, trivial, trivial⟩⟩, ⟨tyOk155, ⟨tyOk154, trivial, trivial⟩, ⟨tyOk156, trivial, trivial⟩⟩⟩, ⟨tyOk162, ⟨tyOk160, ⟨tyOk159, ⟨tyOk158, trivial, trivial⟩, trivial⟩, ⟨tyOk161, trivial, trivial⟩⟩, ⟨tyOk164, ⟨tyOk163, trivial, trivial⟩, ⟨tyOk165, trivial, trivial⟩⟩⟩⟩, ⟨tyOk176, ⟨tyOk172, ⟨tyOk170, ⟨tyOk169, ⟨tyOk168, trivial, trivial⟩, trivial⟩, ⟨tyOk171, trivial, trivial⟩⟩, ⟨tyOk174, ⟨tyOk173, trivial, trivial⟩, ⟨tyOk175, trivial, trivial⟩⟩⟩, ⟨tyOk181, ⟨tyOk179, ⟨tyOk178, ⟨tyOk177, trivial, trivial⟩, trivial⟩, ⟨tyOk180, trivial, trivial⟩⟩, ⟨tyOk183, ⟨tyOk182, trivial, trivial⟩, ⟨tyOk184, trivial, trivial⟩⟩⟩⟩⟩, ⟨tyOk203, ⟨tyOk194, ⟨tyOk190, ⟨tyOk188, ⟨tyOk187, ⟨tyOk186, trivial, trivial⟩, trivial⟩, ⟨tyOk189, trivial, trivial⟩⟩, ⟨tyOk192, ⟨tyOk191, trivial, trivial⟩, ⟨tyOk193, trivial, trivial⟩⟩⟩, ⟨tyOk199, ⟨tyOk197, ⟨tyOk196, ⟨tyOk195, trivial, trivial⟩, trivial⟩, ⟨tyOk198, trivial, trivial⟩⟩, ⟨tyOk201, ⟨tyOk200, trivial, trivial⟩, ⟨tyOk202, trivial, trivial⟩⟩⟩⟩, ⟨tyOk212, ⟨tyOk208, ⟨tyOk206, ⟨tyOk205, ⟨tyOk204, trivial, trivial⟩, trivial⟩, ⟨tyOk207, trivial, trivial⟩⟩, ⟨tyOk210, ⟨tyOk209, trivial, trivial⟩, ⟨tyOk211, trivial, trivial⟩⟩⟩, ⟨tyOk216, ⟨tyOk214, ⟨tyOk213, trivial, trivial⟩, ⟨tyOk215, trivial, trivial⟩⟩, ⟨tyOk218, ⟨tyOk217, trivial, trivial⟩, ⟨tyOk219, trivial, trivial⟩⟩⟩⟩⟩⟩, ⟨tyOk260, ⟨tyOk242, ⟨tyOk230, ⟨tyOk226, ⟨tyOk224, ⟨tyOk222, ⟨tyOk221, trivial, trivial⟩, trivial⟩, ⟨tyOk225, trivial, trivial⟩⟩, ⟨tyOk228, ⟨tyOk227, trivial, trivial⟩, ⟨tyOk229, trivial, trivial⟩⟩⟩, ⟨tyOk235, ⟨tyOk233, ⟨tyOk232, ⟨tyOk231, trivial, trivial⟩, trivial⟩, ⟨tyOk234, trivial, trivial⟩⟩, ⟨tyOk240, ⟨tyOk239, trivial, trivial⟩, ⟨tyOk241, trivial, trivial⟩⟩⟩⟩, ⟨tyOk251, ⟨tyOk247, ⟨tyOk245, ⟨tyOk244, ⟨tyOk243, trivial, trivial⟩, trivial⟩, ⟨tyOk246, trivial, trivial⟩⟩, ⟨tyOk249, ⟨tyOk248, trivial, trivial⟩, ⟨tyOk250, trivial, trivial⟩⟩⟩, ⟨tyOk256, ⟨tyOk254, ⟨tyOk253, ⟨tyOk252, trivial, trivial⟩, trivial⟩, ⟨tyOk255, trivial, trivial⟩⟩, ⟨tyOk258, ⟨tyOk257, trivial, trivial⟩, ⟨tyOk259, trivial, trivial⟩⟩⟩⟩⟩, ⟨tyOk280, ⟨tyOk270, ⟨tyOk266, ⟨tyOk264, ⟨tyOk263, ⟨tyOk261, trivial, trivial⟩, trivial⟩, ⟨tyOk265, trivial, trivial⟩⟩, ⟨tyOk268, ⟨tyOk267, trivial, trivial⟩, ⟨tyOk269, trivial, trivial⟩⟩⟩, ⟨tyOk275, ⟨tyOk273, ⟨tyOk272, ⟨tyOk271, trivial, trivial⟩, trivial⟩, ⟨tyOk274, trivial, trivial⟩⟩, ⟨tyOk277, ⟨tyOk276, trivial, trivial⟩, ⟨tyOk279, trivial, trivial⟩⟩⟩⟩, ⟨tyOk289, ⟨tyOk285, ⟨tyOk283, ⟨tyOk282, ⟨tyOk281, trivial, trivial⟩, trivial⟩, ⟨tyOk284, trivial, trivial⟩⟩, ⟨tyOk287, ⟨tyOk286, trivial, trivial⟩, ⟨tyOk288, trivial, trivial⟩⟩⟩, ⟨tyOk293, ⟨tyOk291, ⟨tyOk290, trivial, trivial⟩, ⟨tyOk292, trivial, trivial⟩⟩, ⟨tyOk295, ⟨tyOk294, trivial, trivial⟩, ⟨tyOk296, trivial, trivial⟩⟩⟩⟩⟩⟩⟩⟩
def tyA : Ty := tyTree.find
theorem tyA_ok : TyOK Tryz.prog tyA := TT.find_all tyTree_all
end Go.Proofs.YtpnclpbkecjinaaGreatDoorR
/-
  The walk, over this program.
-/
namespace Go.Proofs.YtpnclpbkecjinaaGreatDoorR
open Go Go.Al
theorem mixA : Tryz.prog.follows .mixedOrders = true := rfl
theorem goR {Q : AQ} {nt : Nat} {k : List KI} {s : AS} {C : Prop} {nt' : Nat} {st : Stop} (h : runA tyA ⟨fun _ => none, 0, false⟩ 400 nt k s True = some (C, nt', st)) (hC : C) (hg : StopGoal Tryz.prog nt' Q st) : GO Tryz.prog nt k Q s := go_run mixA tyA_ok 400 h hC hg
/-- The walk; what is owed is shown by the way. -/
theorem gA {Q : AQ} {nt : Nat} {k : List KI} {s : AS} {C : Prop} {nt' : Nat} {st : Stop} (h : runA tyA ⟨fun _ => none, 0, false⟩ 400 nt k s True = some (C, nt', st)) (hg : StopGoal Tryz.prog nt' Q st)
    (hC : C := by (repeat' (first | exact trivial | exact rfl | exact PVle.refl _ | exact PVle.bk (by assumption) | apply And.intro)) <;> first | omega | exact allOnes_src (fun _ => rfl) _ | (simp only [Int.toNat_natCast]; omega) | (simp; done) | (simp; omega)) : GO Tryz.prog nt k Q s := go_run mixA tyA_ok 400 h hC hg
theorem gM (N : Nat) {Q : AQ} {nt : Nat} {k : List KI} {s : AS} {C : Prop} {nt' : Nat} {st : Stop} (h : runA tyA ⟨fun _ => none, 0, false⟩ N nt k s True = some (C, nt', st)) (hg : StopGoal Tryz.prog nt' Q st)
    (hC : C := by (repeat' (first | exact trivial | exact rfl | exact PVle.refl _ | exact PVle.bk (by assumption) | apply And.intro)) <;> first | omega | exact allOnes_src (fun _ => rfl) _ | (simp only [Int.toNat_natCast]; omega) | (simp; done) | (simp; omega)) : GO Tryz.prog nt k Q s := go_run mixA tyA_ok N h hC hg
end Go.Proofs.YtpnclpbkecjinaaGreatDoorR
/-
  The plain data of the statements, and how the walks have them. No program is walked here.
  Conditions: none.
-/
namespace Go.Proofs.YtpnclpbkecjinaaGreatDoorR
open Go Go.Al
abbrev Str := ByteArray
structure Val where
  kind : Int
  num : Int
  sym : Str
  deriving Inhabited, DecidableEq
structure Term where
  kind : Int
  var : Str
  val : Val
  deriving Inhabited, DecidableEq
inductive Expr where
  | mk (kind : Int) (var : Str) (val : Val) (op : Int) (args : List Expr)
instance : Inhabited Expr := ⟨.mk 0 ByteArray.empty ⟨0, 0, ByteArray.empty⟩ 0 []⟩
def Expr.kind : Expr → Int | .mk k _ _ _ _ => k
def Expr.var : Expr → Str | .mk _ v _ _ _ => v
def Expr.val : Expr → Val | .mk _ _ v _ _ => v
def Expr.op : Expr → Int | .mk _ _ _ o _ => o
def Expr.args : Expr → List Expr | .mk _ _ _ _ a => a
structure Atom where
  rel : Str
  terms : List Term
  deriving Inhabited, DecidableEq
structure Pos where
  line : Int
  col : Int
  deriving Inhabited, DecidableEq
inductive Lit where
  | mk (kind : Int) (atom : Atom) (op : Int) (left right : Expr) (afunc : Int) (avar : Str) (aof : Expr) (abody : List Lit) (at_ : Pos)
instance : Inhabited Lit := ⟨.mk 0 default 0 default default 0 ByteArray.empty default [] ⟨0, 0⟩⟩
def Lit.kind : Lit → Int | .mk k _ _ _ _ _ _ _ _ _ => k
def Lit.atom : Lit → Atom | .mk _ a _ _ _ _ _ _ _ _ => a
def Lit.op : Lit → Int | .mk _ _ o _ _ _ _ _ _ _ => o
def Lit.left : Lit → Expr | .mk _ _ _ l _ _ _ _ _ _ => l
def Lit.right : Lit → Expr | .mk _ _ _ _ r _ _ _ _ _ => r
def Lit.afunc : Lit → Int | .mk _ _ _ _ _ f _ _ _ _ => f
def Lit.avar : Lit → Str | .mk _ _ _ _ _ _ v _ _ _ => v
def Lit.aof : Lit → Expr | .mk _ _ _ _ _ _ _ o _ _ => o
def Lit.abody : Lit → List Lit | .mk _ _ _ _ _ _ _ _ b _ => b
def Lit.at : Lit → Pos | .mk _ _ _ _ _ _ _ _ _ p => p
/-- An aggregate by itself. -/
structure Agg where
  func : Int
  var : Str
  of_ : Expr
  body : List Lit
  deriving Inhabited
def Lit.agg (l : Lit) : Agg := ⟨l.afunc, l.avar, l.aof, l.abody⟩
structure Rule where
  head : Atom
  body : List Lit
  at_ : Pos
  deriving Inhabited
structure Decl where
  name : Str
  types : List Int
  at_ : Pos
  deriving Inhabited
structure Prog where
  rels : List Decl
  rules : List Rule
  deriving Inhabited
structure Fact where
  rel : Str
  args : List Val
  deriving Inhabited
/-! As cells. -/
def Val.c (v : Val) : List IV := [iI v.kind, iI v.num, iS v.sym]
def Term.c (t : Term) : List IV := [iI t.kind, iS t.var, iI t.val.kind, iI t.val.num, iS t.val.sym]
def strC (s : Str) : List IV := [iS s]
def intC (n : Int) : List IV := [iI n]
/-- A list of texts. -/
abbrev strs (l : List Str) : IV := slc 1 l strC
def Atom.c (a : Atom) : List IV := [iS a.rel, slc 5 a.terms Term.c]
mutual
def Expr.cr : Expr → List IV
  | .mk k v val op args => [iI k, iS v, iI val.kind, iI val.num, iS val.sym, iI op, .imm 7 args.length (fun j => (Expr.crs args).getD j [])]
def Expr.crs : List Expr → List (List IV)
  | [] => []
  | e :: r => e.cr :: Expr.crs r
end
/-- An expression; and the same, its arguments as those are told themselves. -/
def Expr.c (e : Expr) : List IV := [iI e.kind, iS e.var, iI e.val.kind, iI e.val.num, iS e.val.sym, iI e.op, .imm 7 e.args.length (fun j => (Expr.crs e.args).getD j [])]
def Expr.c1 (e : Expr) : List IV := [iI e.kind, iS e.var, iI e.val.kind, iI e.val.num, iS e.val.sym, iI e.op, slc 7 e.args Expr.c]
theorem Expr.cr_eq (e : Expr) : e.cr = e.c := by cases e; rfl
theorem Expr.crs_eq : ∀ (l : List Expr) (k : Nat), k < l.length → (Expr.crs l).getD k [] = (l.getD k default).c
  | e :: r, 0, _ => by simp [Expr.crs, Expr.cr_eq]
  | e :: r, k + 1, h => by simpa [Expr.crs] using Expr.crs_eq r k (by simpa using h)
  | [], k, h => by simp at h
theorem eargsL (e : Expr) : IVle (.imm 7 e.args.length (fun j => (Expr.crs e.args).getD j [])) (slc 7 e.args Expr.c) := .imm rfl (Expr.crs_eq e.args)
theorem eargsL' (e : Expr) : IVle (slc 7 e.args Expr.c) (.imm 7 e.args.length (fun j => (Expr.crs e.args).getD j [])) := .imm rfl (fun k hk => (Expr.crs_eq e.args k hk).symm)
mutual
def Lit.cr : Lit → List IV
  | .mk kind atom op left right afunc avar aof abody at_ =>
    iI kind :: (atom.c ++ (iI op :: (left.c ++ (right.c ++ (iI afunc :: iS avar :: (aof.c ++ [.imm 30 abody.length (fun j => (Lit.crs abody).getD j []), iI at_.line, iI at_.col]))))))
def Lit.crs : List Lit → List (List IV)
  | [] => []
  | e :: r => e.cr :: Lit.crs r
end
/-- The cells of a literal; b: how its aggregate's body is told. -/
def Lit.cw (l : Lit) (b : IV) : List IV :=
  [iI l.kind, iS l.atom.rel, slc 5 l.atom.terms Term.c, iI l.op,
    iI l.left.kind, iS l.left.var, iI l.left.val.kind, iI l.left.val.num, iS l.left.val.sym, iI l.left.op, .imm 7 l.left.args.length (fun j => (Expr.crs l.left.args).getD j []),
    iI l.right.kind, iS l.right.var, iI l.right.val.kind, iI l.right.val.num, iS l.right.val.sym, iI l.right.op, .imm 7 l.right.args.length (fun j => (Expr.crs l.right.args).getD j []),
    iI l.afunc, iS l.avar,
    iI l.aof.kind, iS l.aof.var, iI l.aof.val.kind, iI l.aof.val.num, iS l.aof.val.sym, iI l.aof.op, .imm 7 l.aof.args.length (fun j => (Expr.crs l.aof.args).getD j []),
    b, iI l.at.line, iI l.at.col]
def bodyR (l : List Lit) : IV := .imm 30 l.length (fun j => (Lit.crs l).getD j [])
def Lit.c (l : Lit) : List IV := l.cw (bodyR l.abody)
abbrev lits (l : List Lit) : IV := slc 30 l Lit.c
def Lit.c1 (l : Lit) : List IV := l.cw (lits l.abody)
theorem Lit.cr_eq (e : Lit) : e.cr = e.c := by cases e; rfl
theorem Lit.crs_eq : ∀ (l : List Lit) (k : Nat), k < l.length → (Lit.crs l).getD k [] = (l.getD k default).c
  | e :: r, 0, _ => by simp [Lit.crs, Lit.cr_eq]
  | e :: r, k + 1, h => by simpa [Lit.crs] using Lit.crs_eq r k (by simpa using h)
  | [], k, h => by simp at h
theorem litsIL (l : List Lit) : IVle (bodyR l) (lits l) := .imm rfl (Lit.crs_eq l)
theorem litsIR (l : List Lit) : IVle (lits l) (bodyR l) := .imm rfl (fun k hk => (Lit.crs_eq l k hk).symm)
/-- An aggregate's cells. -/
def Agg.cw (a : Agg) (b : IV) : List IV := [iI a.func, iS a.var, iI a.of_.kind, iS a.of_.var, iI a.of_.val.kind, iI a.of_.val.num, iS a.of_.val.sym, iI a.of_.op, .imm 7 a.of_.args.length (fun j => (Expr.crs a.of_.args).getD j []), b]
def Agg.c (a : Agg) : List IV := a.cw (bodyR a.body)
def Agg.c1 (a : Agg) : List IV := a.cw (lits a.body)
def Rule.c (r : Rule) : List IV := [iS r.head.rel, slc 5 r.head.terms Term.c, lits r.body, iI r.at_.line, iI r.at_.col]
def Decl.c (r : Decl) : List IV := [iS r.name, slc 1 r.types intC, iI r.at_.line, iI r.at_.col]
def Prog.c (p : Prog) : List IV := [slc 4 p.rels Decl.c, slc 5 p.rules Rule.c]
def Fact.c (f : Fact) : List IV := [iS f.rel, slc 3 f.args Val.c]
theorem Expr.le1 (e : Expr) : PVle (ag e.c) (ag e.c1) := .agg ⟨.refl _, .refl _, .refl _, .refl _, .refl _, .refl _, .iv (eargsL e), trivial⟩
theorem Expr.le1' (e : Expr) : PVle (ag e.c1) (ag e.c) := .agg ⟨.refl _, .refl _, .refl _, .refl _, .refl _, .refl _, .iv (eargsL' e), trivial⟩
theorem Lit.cw_le (l : Lit) {b b' : IV} (h : IVle b b') : PVle (ag (l.cw b)) (ag (l.cw b')) :=
  .agg ⟨.refl _, .refl _, .refl _, .refl _, .refl _, .refl _, .refl _, .refl _, .refl _, .refl _, .refl _, .refl _, .refl _, .refl _, .refl _, .refl _, .refl _, .refl _, .refl _, .refl _, .refl _, .refl _, .refl _, .refl _, .refl _, .refl _, .refl _, .iv h, .refl _, .refl _, trivial⟩
theorem Lit.le1 (l : Lit) : PVle (ag l.c) (ag l.c1) := l.cw_le (litsIL _)
theorem Agg.cw_le (l : Agg) {b b' : IV} (h : IVle b b') : PVle (ag (l.cw b)) (ag (l.cw b')) :=
  .agg ⟨.refl _, .refl _, .refl _, .refl _, .refl _, .refl _, .refl _, .refl _, .refl _, .iv h, trivial⟩
theorem Agg.le1 (l : Agg) : PVle (ag l.c) (ag l.c1) := l.cw_le (litsIL _)
theorem Agg.le1' (l : Agg) : PVle (ag l.c1) (ag l.c) := l.cw_le (litsIR _)
/-! How great they are. -/
mutual
def Expr.size : Expr → Nat
  | .mk _ _ _ _ args => 1 + Expr.sizes args
def Expr.sizes : List Expr → Nat
  | [] => 0
  | e :: r => e.size + Expr.sizes r
end
mutual
def Lit.size : Lit → Nat
  | .mk _ a _ l r _ _ o b _ => 2 + a.terms.length + l.size + r.size + o.size + Lit.sizes b
def Lit.sizes : List Lit → Nat
  | [] => 0
  | e :: r => e.size + Lit.sizes r
end
theorem Expr.size_eq (e : Expr) : e.size = 1 + Expr.sizes e.args := by cases e; rfl
theorem Lit.size_eq (l : Lit) : l.size = 2 + l.atom.terms.length + l.left.size + l.right.size + l.aof.size + Lit.sizes l.abody := by cases l; rfl
theorem Expr.sizes_get : ∀ (l : List Expr) (k : Nat), k < l.length → (l.getD k default).size ≤ Expr.sizes l
  | e :: r, 0, _ => by simp [Expr.sizes]
  | e :: r, k + 1, h => by
    have := Expr.sizes_get r k (by simpa using h)
    simp only [List.getD_cons_succ, Expr.sizes]; omega
  | [], k, h => by simp at h
theorem Lit.sizes_get : ∀ (l : List Lit) (k : Nat), k < l.length → (l.getD k default).size ≤ Lit.sizes l
  | e :: r, 0, _ => by simp [Lit.sizes]
  | e :: r, k + 1, h => by
    have := Lit.sizes_get r k (by simpa using h)
    simp only [List.getD_cons_succ, Lit.sizes]; omega
  | [], k, h => by simp at h
theorem Expr.size_pos (e : Expr) : 1 ≤ e.size := by rw [e.size_eq]; omega
theorem Lit.size_pos (e : Lit) : 2 ≤ e.size := by rw [e.size_eq]; omega
theorem Expr.length_sizes : ∀ (l : List Expr), l.length ≤ Expr.sizes l
  | [] => Nat.le_refl _
  | e :: r => by have := e.size_pos; have := Expr.length_sizes r; simp only [List.length_cons, Expr.sizes]; omega
theorem Lit.length_sizes : ∀ (l : List Lit), l.length ≤ Lit.sizes l
  | [] => Nat.le_refl _
  | e :: r => by have := e.size_pos; have := Lit.length_sizes r; simp only [List.length_cons, Lit.sizes]; omega
def Rule.size (r : Rule) : Nat := r.head.terms.length + Lit.sizes r.body
end Go.Proofs.YtpnclpbkecjinaaGreatDoorR
/-
  Contracts of small functions.
-/
namespace Go.Proofs.YtpnclpbkecjinaaGreatDoorR
open Go Go.Al
set_option maxRecDepth 10000
def inL (l : List Str) (s : Str) : Bool := l.any fun x => decide (x = s)
/-- With one more, as the loop does it. -/
def withStep (s : Str) (a : List Str × Bool) (x : Str) : List Str × Bool :=
  if (a.2 || decide (x = s)) = false ∧ (!(Op.bytesLess x.toList s.toList || decide (x = s))) = true then (a.1 ++ [s] ++ [x], true) else (a.1 ++ [x], a.2 || decide (x = s))
def withL (l : List Str) (s : Str) : List Str :=
  let r := l.foldl (withStep s) ([], false)
  if r.2 then r.1 else r.1 ++ [s]
end Go.Proofs.YtpnclpbkecjinaaGreatDoorR
/-
  Variables of a rule as the document has them: contracts of the reference's functions.
-/
namespace Go.Proofs.YtpnclpbkecjinaaGreatDoorR
open Go Go.Al
set_option maxRecDepth 10000
def withAll (l m : List Str) : List Str := m.foldl withL l
/-- The variables of an atom's terms. -/
def tvStep (a : List Str) (t : Term) : List Str := if t.kind = 1 then withL a t.var else a
def atomVars (a : Atom) : List Str := a.terms.foldl tvStep []
/-! Expressions, literals. -/
mutual
def exprVars : Expr → List Str
  | .mk k v _ _ args => if k = 1 then withL [] v else if k = 4 then exprsVars [] args else []
def exprsVars (a : List Str) : List Expr → List Str
  | [] => a
  | e :: r => exprsVars (withAll a (exprVars e)) r
end
theorem Expr.sizes_take : ∀ (l : List Expr) (i : Nat), Expr.sizes (l.take i) ≤ Expr.sizes l
  | [], i => by simp
  | e :: r, 0 => by simp [Expr.sizes]
  | e :: r, i + 1 => by have := Expr.sizes_take r i; simp only [List.take_succ_cons, Expr.sizes]; omega
theorem Lit.sizes_take : ∀ (l : List Lit) (i : Nat), Lit.sizes (l.take i) ≤ Lit.sizes l
  | [], i => by simp
  | e :: r, 0 => by simp [Lit.sizes]
  | e :: r, i + 1 => by have := Lit.sizes_take r i; simp only [List.take_succ_cons, Lit.sizes]; omega
theorem Expr.sizes_next : ∀ (l : List Expr) (i : Nat), i < l.length → Expr.sizes (l.take i) + (l.getD i default).size ≤ Expr.sizes l
  | e :: r, 0, _ => by simp [Expr.sizes]
  | e :: r, i + 1, h => by have := Expr.sizes_next r i (by simpa using h); simp only [List.take_succ_cons, List.getD_cons_succ, Expr.sizes]; omega
  | [], i, h => by simp at h
theorem Lit.sizes_next : ∀ (l : List Lit) (i : Nat), i < l.length → Lit.sizes (l.take i) + (l.getD i default).size ≤ Lit.sizes l
  | e :: r, 0, _ => by simp [Lit.sizes]
  | e :: r, i + 1, h => by have := Lit.sizes_next r i (by simpa using h); simp only [List.take_succ_cons, List.getD_cons_succ, Lit.sizes]; omega
  | [], i, h => by simp at h
def plainVars (l : Lit) : List Str := if l.kind = 1 ∨ l.kind = 2 then atomVars l.atom else if l.kind = 3 then withAll (exprVars l.left) (exprVars l.right) else []
def Agg.size (a : Agg) : Nat := a.of_.size + Lit.sizes a.body
end Go.Proofs.YtpnclpbkecjinaaGreatDoorR
/-
  Names with how often they were met: the program's maps, and what it gathers in them.
-/
namespace Go.Proofs.YtpnclpbkecjinaaGreatDoorR
open Go Go.Al
set_option maxRecDepth 10000
def evI (n : Int) : IV := .v (.int .i64 n)
def dvI (p : PV) : Int := match p with
  | .iv (.v (.int _ n)) => n
  | _ => 0
abbrev NM := List ((KC.str).K × Int)
/-- Names as a map of the program's; as one that nobody writes any more. -/
abbrev nmO (m : NM) : AO := .map .str evI 0 (.int .i64 0) dvI m
abbrev nmI (m : NM) : IV := .imap .str evI 0 (.int .i64 0) m
theorem evI_zero : ∀ M, IR M (evI 0) (.int .i64 0) := fun _ => .v _
def bump (m : NM) (s : Str) : NM := putK .str m s (lkD .str m s 0 + 1)
/-- What was met, as a map. -/
def occM (l : List Str) : NM := l.foldl bump []
theorem occM_snoc (l : List Str) (s : Str) : occM (l ++ [s]) = bump (occM l) s := by simp [occM]
section
variable {V : Type}
theorem lkD_putK {m : List ((KC.str).K × V)} {s t : Str} {v z : V} : lkD .str (putK .str m s v) t z = if s = t then v else lkD .str m t z := by
  induction m with
  | nil => simp only [putK, lkD]
  | cons x r ih =>
    obtain ⟨a, b⟩ := x
    simp only [putK]
    by_cases h : a = s
    · rw [if_pos h]; simp only [lkD]
      by_cases h2 : s = t
      · simp [h2]
      · have : ¬ a = t := fun e => h2 (h ▸ e)
        rw [if_neg h2, if_neg h2, if_neg this]
    · rw [if_neg h]; simp only [lkD, ih]
      by_cases h2 : a = t
      · have : ¬ s = t := fun e => h (h2.trans e.symm)
        simp [h2, this]
      · simp [h2]
theorem hasK_iff {m : List ((KC.str).K × V)} {t : Str} : hasK .str m t = true ↔ t ∈ m.map Prod.fst := by
  induction m with
  | nil => simp [hasK]
  | cons x r ih =>
    obtain ⟨a, b⟩ := x
    simp only [hasK, List.map_cons, List.mem_cons]
    by_cases h : a = t
    · simp [h]
    · have : ¬ t = a := fun e => h e.symm
      simp [h, this, ih]
theorem keys_putK_in {m : List ((KC.str).K × V)} {s : Str} {v : V} (h : s ∈ m.map Prod.fst) : (putK .str m s v).map Prod.fst = m.map Prod.fst := by
  induction m with
  | nil => simp at h
  | cons x r ih =>
    obtain ⟨a, b⟩ := x
    simp only [putK]
    by_cases h2 : a = s
    · rw [if_pos h2]; simp [h2]
    · have : ¬ s = a := fun e => h2 e.symm
      rw [if_neg h2, List.map_cons, ih (by simpa [this] using h)]; rfl
theorem keys_putK_out {m : List ((KC.str).K × V)} {s : Str} {v : V} (h : s ∉ m.map Prod.fst) : (putK .str m s v).map Prod.fst = m.map Prod.fst ++ [s] := by
  induction m with
  | nil => simp [putK]
  | cons x r ih =>
    obtain ⟨a, b⟩ := x
    simp only [List.map_cons, List.mem_cons, not_or] at h
    have : ¬ a = s := fun e => h.1 e.symm
    simp only [putK, if_neg this, List.map_cons, ih h.2]; rfl
theorem lkD_absent {m : List ((KC.str).K × V)} {t : Str} {z : V} (h : t ∉ m.map Prod.fst) : lkD .str m t z = z := by
  induction m with
  | nil => rfl
  | cons x r ih =>
    obtain ⟨a, b⟩ := x
    simp only [List.map_cons, List.mem_cons, not_or] at h
    have : ¬ a = t := fun e => h.1 e.symm
    simp only [lkD, if_neg this]; exact ih h.2
end
theorem snoc_ind {α : Type} {p : List α → Prop} (h0 : p []) (h1 : ∀ l a, p l → p (l ++ [a])) (l : List α) : p l := by
  have key : ∀ r : List α, p r.reverse := by
    intro r
    induction r with
    | nil => exact h0
    | cons a r ih => rw [List.reverse_cons]; exact h1 _ _ ih
  simpa using key l.reverse
/-- How often a text stands in a list. -/
def cntL (l : List Str) (t : Str) : Nat := (l.filter fun x => decide (x = t)).length
theorem cntL_append (l m : List Str) (t : Str) : cntL (l ++ m) t = cntL l t + cntL m t := by simp [cntL]
theorem cntL_le (l : List Str) (t : Str) : cntL l t ≤ l.length := List.length_filter_le _ _
theorem cntL_pos {l : List Str} {t : Str} : 0 < cntL l t ↔ t ∈ l := by
  rw [cntL, List.length_pos_iff_exists_mem]
  constructor
  · rintro ⟨x, hx⟩
    obtain ⟨h1, h2⟩ := List.mem_filter.1 hx
    exact (of_decide_eq_true h2) ▸ h1
  · exact fun h => ⟨t, List.mem_filter.2 ⟨h, by simp⟩⟩
theorem cntL_zero {l : List Str} {t : Str} : cntL l t = 0 ↔ t ∉ l := by
  rw [← cntL_pos]; omega
theorem occM_lk (l : List Str) (t : Str) : lkD .str (occM l) t 0 = (cntL l t : Int) := by
  induction l using snoc_ind with
  | h0 => rfl
  | h1 l s ih =>
    rw [occM_snoc, bump, lkD_putK, cntL_append]
    by_cases h : s = t
    · subst h; rw [ih]; simp [cntL]
    · rw [if_neg h, ih]; simp [h, cntL]
theorem occM_keys (l : List Str) : ((occM l).map Prod.fst).Nodup ∧ ∀ t : Str, t ∈ (occM l).map Prod.fst ↔ t ∈ l := by
  induction l using snoc_ind with
  | h0 => simp [occM]
  | h1 l s ih =>
    rw [occM_snoc, bump]
    obtain ⟨h1, h2⟩ := ih
    by_cases h : s ∈ (occM l).map Prod.fst
    · rw [keys_putK_in h]
      refine ⟨h1, fun t => ?_⟩
      rw [h2, List.mem_append, List.mem_singleton]
      exact ⟨.inl, fun h3 => h3.elim id fun e => e ▸ (h2 s).1 h⟩
    · rw [keys_putK_out h]
      refine ⟨?_, fun t => by rw [List.mem_append, h2, List.mem_append]⟩
      rw [List.nodup_append]
      refine ⟨h1, List.nodup_cons.2 ⟨List.not_mem_nil, List.nodup_nil⟩, fun a ha b hb e => ?_⟩
      rw [List.mem_singleton] at hb
      exact h ((e.trans hb) ▸ ha)
/-! What is met. -/
def atomOcc (a : Atom) : List Str := a.terms.flatMap fun t => if t.kind = 1 then [t.var] else []
theorem flatMap_step {α β : Type} [Inhabited α] {l : List α} {f : α → List β} {i : Nat} (h : i < l.length) : (l.take (i + 1)).flatMap f = (l.take i).flatMap f ++ f (l.getD i default) := by
  rw [take_step h, List.flatMap_append]; simp
theorem tOcc_len : ∀ l : List Term, (l.flatMap fun t => if t.kind = 1 then [t.var] else []).length ≤ l.length
  | [] => by simp
  | t :: r => by
    have := tOcc_len r
    have h2 : (if t.kind = 1 then [t.var] else []).length ≤ 1 := by split <;> simp
    rw [List.flatMap_cons, List.length_append, List.length_cons]
    omega
theorem atomOcc_len (a : Atom) : (atomOcc a).length ≤ a.terms.length := tOcc_len a.terms
theorem d88 (occ : List Str) (a : Atom) (hb : occ.length + a.terms.length ≤ 1000000000000) : Det Tryz.prog 88 [.mp 0, ag a.c] [nmO (occM occ)] (.tup []) [(0, some (nmO (occM (occ ++ atomOcc a))))] 1 := by
  refine det_end tyA_ok Tryz.func88 rfl (by decide) Tryz.ntmps88 rfl (by simp) ?_
  refine gA rfl ?_
  refine go_for 0 a.terms.length (Nat.zero_le _) (fun i => ⟨[(0, .mp 0), (3, .ptr 1 0), (7, .iv (slc 5 a.terms Term.c)), (8, pI a.terms.length), (9, pI i)], [(0, some (nmO (occM (occ ++ (a.terms.take i).flatMap fun t => if t.kind = 1 then [t.var] else []))))], 2⟩) (fun _ => True) [] trivial
    (wk rfl rfl rfl ⟨.refl _, rfl, .refl _, rfl, .refl _, rfl, .refl _, rfl, .refl _, rfl, trivial⟩ (hM rfl (by simp) rfl trivial) rfl) fun i hi _ => ?_
  have hl := tOcc_len (a.terms.take i)
  simp only [List.length_take] at hl
  refine gA rfl ?_
  refine And.intro (fun h1 => ?_) (fun h1 => ?_)
  · have h1 : i < a.terms.length := by simpa using h1
    have hs := flatMap_step (f := fun t : Term => if t.kind = 1 then [t.var] else []) h1
    have hlk := occM_lk (occ ++ (a.terms.take i).flatMap fun t => if t.kind = 1 then [t.var] else []) (a.terms.getD i default).var
    have hct := cntL_le (occ ++ (a.terms.take i).flatMap fun t => if t.kind = 1 then [t.var] else []) (a.terms.getD i default).var
    rw [List.length_append] at hct
    refine gA rfl ?_
    refine And.intro (fun h2 => ?_) (fun h2 => ?_)
    · have h2 : (a.terms.getD i default).kind = 1 := by simpa using h2
      rw [if_pos h2] at hs
      refine gA rfl ?_
      exact ⟨h1, trivial, [], wk rfl rfl rfl ⟨.refl _, rfl, .refl _, rfl, .refl _, rfl, .refl _, rfl, .refl _, rfl, trivial⟩ (hM rfl (by rw [hs, ← List.append_assoc, occM_snoc]; rfl) rfl trivial) rfl⟩
    · have h2 : ¬ (a.terms.getD i default).kind = 1 := by simpa using h2
      rw [if_neg h2, List.append_nil] at hs
      refine gA rfl ?_
      exact ⟨h1, trivial, [], wk rfl rfl rfl ⟨.refl _, rfl, .refl _, rfl, .refl _, rfl, .refl _, rfl, .refl _, rfl, trivial⟩ (hM rfl (by rw [hs]) rfl trivial) rfl⟩
  · have h1 : a.terms.length ≤ i := by simpa using h1
    have e0 : a.terms.take i = a.terms := List.take_of_length_le h1
    refine gA rfl (end_det [] (by first | exact .inr rfl | exact .inl rfl) rfl (wk rfl rfl rfl ⟨.refl _, rfl, trivial⟩ (hM rfl (by rw [e0]; rfl) rfl trivial) rfl))
end Go.Proofs.YtpnclpbkecjinaaGreatDoorR
/-
  Variables as the program gathers them: contracts of the program's functions.
-/
namespace Go.Proofs.YtpnclpbkecjinaaGreatDoorR
open Go Go.Al
set_option maxRecDepth 10000
mutual
def exprOcc : Expr → List Str
  | .mk k v _ _ args => if k = 1 then [v] else if k = 4 then exprsOcc args else []
def exprsOcc : List Expr → List Str
  | [] => []
  | e :: r => exprOcc e ++ exprsOcc r
end
theorem exprsOcc_eq : ∀ l : List Expr, exprsOcc l = l.flatMap exprOcc
  | [] => rfl
  | e :: r => by simp only [exprsOcc, List.flatMap_cons, exprsOcc_eq r]
theorem exprOcc_eq (e : Expr) : exprOcc e = if e.kind = 1 then [e.var] else if e.kind = 4 then e.args.flatMap exprOcc else [] := by
  cases e with
  | mk k v val op args => simp only [exprOcc, Expr.kind, Expr.var, Expr.args, exprsOcc_eq]; rfl
mutual
theorem exprOcc_len : ∀ e : Expr, (exprOcc e).length ≤ e.size
  | .mk k v _ _ args => by
    have := exprsOcc_len args
    simp only [exprOcc, Expr.size]
    split
    · simp
    · split
      · omega
      · simp
theorem exprsOcc_len : ∀ l : List Expr, (exprsOcc l).length ≤ Expr.sizes l
  | [] => by simp [exprsOcc]
  | e :: r => by
    have h1 := exprOcc_len e
    have h2 := exprsOcc_len r
    simp only [exprsOcc, Expr.sizes, List.length_append]; omega
end
theorem d135 : ∀ (n : Nat) (e : Expr) (occ : List Str), e.size ≤ n → occ.length + e.size ≤ 1000000000000 → Det Tryz.prog 135 [.mp 0, ag e.c] [nmO (occM occ)] (.tup []) [(0, some (nmO (occM (occ ++ exprOcc e))))] 1
  | 0, e, _, h, _ => by have := e.size_pos; omega
  | n + 1, e, occ, h, hb => by
    refine Det.le (args := [.mp 0, ag e.c1]) ?_ ⟨.refl _, e.le1, trivial⟩
    have he := exprOcc_eq e
    have hsz := e.size_eq
    have hlk := occM_lk occ e.var
    have hct := cntL_le occ e.var
    refine det_end tyA_ok Tryz.func135 rfl (by decide) Tryz.ntmps135 rfl (by simp) ?_
    refine gA rfl ?_
    refine And.intro (fun h1 => ?_) (fun h1 => ?_)
    · have h1 : e.kind = 1 := by simpa using h1
      rw [if_pos h1] at he
      refine gA rfl (end_det [] (by first | exact .inr rfl | exact .inl rfl) rfl (wk rfl rfl rfl ⟨.refl _, rfl, trivial⟩ (hM rfl (by rw [he, occM_snoc]; rfl) rfl trivial) rfl))
    have h1 : ¬ e.kind = 1 := by simpa using h1
    rw [if_neg h1] at he
    refine gA rfl ?_
    refine And.intro (fun h2 => ?_) (fun h2 => ?_)
    · have h2 : e.kind = 4 := by simpa using h2
      rw [if_pos h2] at he
      refine gA rfl ?_
      refine go_for 0 e.args.length (Nat.zero_le _) (fun i => ⟨[(0, .mp 0), (3, .ptr 1 0), (18, .iv (slc 7 e.args Expr.c)), (19, pI e.args.length), (20, pI i)], [(0, some (nmO (occM (occ ++ (e.args.take i).flatMap exprOcc))))], 2⟩) (fun _ => True) [] trivial
        (wk rfl rfl rfl ⟨.refl _, rfl, .refl _, rfl, .refl _, rfl, .refl _, rfl, .refl _, rfl, trivial⟩ (hM rfl (by simp) rfl trivial) rfl) fun i hi _ => ?_
      have hal := Expr.length_sizes e.args
      refine gA rfl ?_
      refine And.intro (fun h3 => ?_) (fun h3 => ?_)
      · have h3 : i < e.args.length := by simpa using h3
        have hs := flatMap_step (f := exprOcc) h3
        have hn := Expr.sizes_next e.args i h3
        have hv := exprsOcc_len (e.args.take i)
        rw [exprsOcc_eq] at hv
        refine gA rfl (go_det [0] (d135 n (e.args.getD i default) _ (by omega) (by rw [List.length_append]; omega)) rfl rfl rfl rfl rfl rfl rfl rfl ?_)
        refine gA rfl ?_
        exact ⟨h3, trivial, [], wk rfl rfl rfl ⟨.refl _, rfl, .refl _, rfl, .refl _, rfl, .refl _, rfl, .refl _, rfl, trivial⟩ (hM rfl (by rw [hs, List.append_assoc]) rfl trivial) rfl⟩
      · have h3 : e.args.length ≤ i := by simpa using h3
        have e0 : e.args.take i = e.args := List.take_of_length_le h3
        refine gA rfl (end_det [] (by first | exact .inr rfl | exact .inl rfl) rfl (wk rfl rfl rfl ⟨.refl _, rfl, trivial⟩ (hM rfl (by rw [he, e0]) rfl trivial) rfl))
    · have h2 : ¬ e.kind = 4 := by simpa using h2
      rw [if_neg h2] at he
      refine gA rfl (end_det [] (by first | exact .inr rfl | exact .inl rfl) rfl (wk rfl rfl rfl ⟨.refl _, rfl, trivial⟩ (hM rfl (by rw [he, List.append_nil]) rfl trivial) rfl))
theorem d135' (e : Expr) (occ : List Str) (hb : occ.length + e.size ≤ 1000000000000) : Det Tryz.prog 135 [.mp 0, ag e.c] [nmO (occM occ)] (.tup []) [(0, some (nmO (occM (occ ++ exprOcc e))))] 1 := d135 e.size e occ (Nat.le_refl _) hb
def litOcc (l : Lit) : List Str := if l.kind = 1 ∨ l.kind = 2 then atomOcc l.atom else if l.kind = 3 then exprOcc l.left ++ exprOcc l.right else []
theorem litOcc_len (l : Lit) : (litOcc l).length + 2 ≤ l.size := by
  have h1 := atomOcc_len l.atom
  have h2 := exprOcc_len l.left
  have h3 := exprOcc_len l.right
  rw [l.size_eq]
  unfold litOcc
  split
  · omega
  · split
    · rw [List.length_append]; omega
    · simp; omega
theorem d89 (l : Lit) (occ : List Str) (hb : occ.length + l.size ≤ 1000000000000) : Det Tryz.prog 89 [.mp 0, ag l.c] [nmO (occM occ)] (.tup []) [(0, some (nmO (occM (occ ++ litOcc l))))] 1 := by
  have hsz := l.size_eq
  have h2 := exprOcc_len l.left
  refine det_end tyA_ok Tryz.func89 rfl (by decide) Tryz.ntmps89 rfl (by simp) ?_
  refine gA rfl ?_
  refine And.intro (fun k1 => ?_) (fun k1 => ?_)
  · have k1 : l.kind = 1 := of_decide_eq_true k1
    have he : litOcc l = atomOcc l.atom := if_pos (.inl k1)
    refine gA rfl (go_det [0] (d88 occ l.atom (by omega)) rfl rfl rfl rfl rfl rfl rfl rfl ?_)
    refine gA rfl (end_det [] (by first | exact .inr rfl | exact .inl rfl) rfl (wk rfl rfl rfl ⟨.refl _, rfl, trivial⟩ (hM rfl (by rw [he]) rfl trivial) rfl))
  have k1 : ¬ l.kind = 1 := of_decide_eq_false k1
  refine gA rfl ?_
  refine And.intro (fun k2 => ?_) (fun k2 => ?_)
  · have k2 : l.kind = 2 := of_decide_eq_true k2
    have he : litOcc l = atomOcc l.atom := if_pos (.inr k2)
    refine gA rfl (go_det [0] (d88 occ l.atom (by omega)) rfl rfl rfl rfl rfl rfl rfl rfl ?_)
    refine gA rfl (end_det [] (by first | exact .inr rfl | exact .inl rfl) rfl (wk rfl rfl rfl ⟨.refl _, rfl, trivial⟩ (hM rfl (by rw [he]) rfl trivial) rfl))
  have k2 : ¬ l.kind = 2 := of_decide_eq_false k2
  have he0 : litOcc l = if l.kind = 3 then exprOcc l.left ++ exprOcc l.right else [] := if_neg (by simp [k1, k2])
  refine gA rfl ?_
  refine And.intro (fun k3 => ?_) (fun k3 => ?_)
  · have k3 : l.kind = 3 := of_decide_eq_true k3
    rw [if_pos k3] at he0
    refine gA rfl (go_det [0] (d135' l.left occ (by omega)) rfl rfl rfl rfl rfl rfl rfl rfl ?_)
    refine gA rfl (go_det [0] (d135' l.right _ (by rw [List.length_append]; omega)) rfl rfl rfl rfl rfl rfl rfl rfl ?_)
    refine gA rfl (end_det [] (by first | exact .inr rfl | exact .inl rfl) rfl (wk rfl rfl rfl ⟨.refl _, rfl, trivial⟩ (hM rfl (by rw [he0, List.append_assoc]) rfl trivial) rfl))
  · have k3 : ¬ l.kind = 3 := of_decide_eq_false k3
    rw [if_neg k3] at he0
    refine gA rfl (end_det [] (by first | exact .inr rfl | exact .inl rfl) rfl (wk rfl rfl rfl ⟨.refl _, rfl, trivial⟩ (hM rfl (by rw [he0, List.append_nil]) rfl trivial) rfl))
/-- Within an aggregate's braces. -/
def aggOcc (a : Agg) : List Str := (if a.func = 1 then [] else exprOcc a.of_) ++ a.body.flatMap litOcc
theorem litsOcc_len : ∀ l : List Lit, (l.flatMap litOcc).length ≤ Lit.sizes l
  | [] => by simp
  | e :: r => by
    have h1 := litOcc_len e
    have h2 := litsOcc_len r
    rw [List.flatMap_cons, List.length_append]
    simp only [Lit.sizes]; omega
theorem d135n (e : Expr) (hb : e.size ≤ 1000000000000) : Det Tryz.prog 135 [.mp 0, ag e.c] [.map0] (.tup []) [(0, some (nmO (occM (exprOcc e))))] 1 :=
  (d135' e [] (by simpa using hb)).leO ⟨⟨id, fun M N U w j hj => ⟨#[], 0, hj, ⟨rfl, by simp [occM], by simp [occM], by simp, by simp⟩, evI_zero M⟩⟩, trivial⟩
theorem d88n (a : Atom) (hb : a.terms.length ≤ 1000000000000) : Det Tryz.prog 88 [.mp 0, ag a.c] [.map0] (.tup []) [(0, some (nmO (occM (atomOcc a))))] 1 :=
  (d88 [] a (by simpa using hb)).leO ⟨⟨id, fun M N U w j hj => ⟨#[], 0, hj, ⟨rfl, by simp [occM], by simp [occM], by simp, by simp⟩, evI_zero M⟩⟩, trivial⟩
theorem d127 (a : Agg) (hb : a.size ≤ 1000000000000) : Det Tryz.prog 127 [ag a.c] [] (.mp 0) [(0, some (nmO (occM (aggOcc a))))] 1 := by
  refine Det.le (args := [ag a.c1]) ?_ ⟨a.le1, trivial⟩
  unfold Agg.size at hb
  have hev := exprOcc_len a.of_
  have hal := Lit.length_sizes a.body
  refine det_end tyA_ok Tryz.func127 rfl (by decide) Tryz.ntmps127 rfl (by simp) ?_
  refine gA rfl ?_
  refine And.intro (fun h1 => ?_) (fun h1 => ?_)
  · have h1 : ¬ a.func = 1 := by simpa using h1
    have hin : aggOcc a = exprOcc a.of_ ++ a.body.flatMap litOcc := by unfold aggOcc; rw [if_neg h1]
    refine gA rfl (go_det [1] (d135n a.of_ (by omega)) rfl rfl rfl rfl rfl rfl rfl rfl ?_)
    refine gA rfl ?_
    refine go_for 0 a.body.length (Nat.zero_le _) (fun i => ⟨[(3, .mp 1), (15, .iv (lits a.body)), (16, pI a.body.length), (17, pI i)], [(1, some (nmO (occM (exprOcc a.of_ ++ (a.body.take i).flatMap litOcc))))], 2⟩) (fun _ => True) [] trivial
      (wk rfl rfl rfl ⟨.refl _, rfl, .refl _, rfl, .refl _, rfl, .refl _, rfl, trivial⟩ (hM rfl (by simp) rfl trivial) rfl) fun i hi _ => ?_
    refine gA rfl ?_
    refine And.intro (fun h3 => ?_) (fun h3 => ?_)
    · have h3 : i < a.body.length := by simpa using h3
      have hs := flatMap_step (f := litOcc) h3
      have hn := Lit.sizes_next a.body i h3
      have hv := litsOcc_len (a.body.take i)
      refine gA rfl (go_det [1] (d89 (a.body.getD i default) _ (by rw [List.length_append]; omega)) rfl rfl rfl rfl rfl rfl rfl rfl ?_)
      refine gA rfl ?_
      exact ⟨h3, trivial, [], wk rfl rfl rfl ⟨.refl _, rfl, .refl _, rfl, .refl _, rfl, .refl _, rfl, trivial⟩ (hM rfl (by rw [hs, List.append_assoc]) rfl trivial) rfl⟩
    · have h3 : a.body.length ≤ i := by simpa using h3
      have e0 : a.body.take i = a.body := List.take_of_length_le h3
      refine gA rfl (end_det [1] (by first | exact .inr rfl | exact .inl rfl) rfl (wk rfl rfl rfl ⟨.refl _, rfl, trivial⟩ (hM rfl (by rw [e0, hin]) rfl trivial) rfl))
  · have h1 : a.func = 1 := by simpa using h1
    have hin : aggOcc a = a.body.flatMap litOcc := by unfold aggOcc; rw [if_pos h1]; rfl
    refine gA rfl ?_
    refine go_for 0 a.body.length (Nat.zero_le _) (fun i => ⟨[(3, .mp 1), (15, .iv (lits a.body)), (16, pI a.body.length), (17, pI i)], [(1, some (nmO (occM ((a.body.take i).flatMap litOcc))))], 2⟩) (fun _ => True) [] trivial
      (wk rfl rfl rfl ⟨.refl _, rfl, .refl _, rfl, .refl _, rfl, .refl _, rfl, trivial⟩ (hM0 rfl evI_zero rfl trivial) rfl) fun i hi _ => ?_
    refine gA rfl ?_
    refine And.intro (fun h3 => ?_) (fun h3 => ?_)
    · have h3 : i < a.body.length := by simpa using h3
      have hs := flatMap_step (f := litOcc) h3
      have hn := Lit.sizes_next a.body i h3
      have hv := litsOcc_len (a.body.take i)
      refine gA rfl (go_det [1] (d89 (a.body.getD i default) _ (by omega)) rfl rfl rfl rfl rfl rfl rfl rfl ?_)
      refine gA rfl ?_
      exact ⟨h3, trivial, [], wk rfl rfl rfl ⟨.refl _, rfl, .refl _, rfl, .refl _, rfl, .refl _, rfl, trivial⟩ (hM rfl (by rw [hs]) rfl trivial) rfl⟩
    · have h3 : a.body.length ≤ i := by simpa using h3
      have e0 : a.body.take i = a.body := List.take_of_length_le h3
      refine gA rfl (end_det [1] (by first | exact .inr rfl | exact .inl rfl) rfl (wk rfl rfl rfl ⟨.refl _, rfl, trivial⟩ (hM rfl (by rw [e0, hin]) rfl trivial) rfl))
end Go.Proofs.YtpnclpbkecjinaaGreatDoorR
/-
  Outer, local and limited variables as the document has them: contracts of the reference's functions.
-/
namespace Go.Proofs.YtpnclpbkecjinaaGreatDoorR
open Go Go.Al
set_option maxRecDepth 10000
/-- With one more, as one would write it. -/
def ins : List Str → Str → List Str
  | [], s => [s]
  | x :: r, s => if x = s then x :: r else if Op.bytesLess x.toList s.toList = true then x :: ins r s else s :: x :: r
theorem fold_done_with (s : Str) : ∀ (l a : List Str), l.foldl (withStep s) (a, true) = (a ++ l, true)
  | [], a => by simp
  | x :: r, a => by
    have : withStep s (a, true) x = (a ++ [x], true) := by simp [withStep]
    rw [List.foldl_cons, this, fold_done_with s r]; simp
theorem fold_with (s : Str) : ∀ (l a : List Str), (if (l.foldl (withStep s) (a, false)).2 then (l.foldl (withStep s) (a, false)).1 else (l.foldl (withStep s) (a, false)).1 ++ [s]) = a ++ ins l s
  | [], a => by simp [ins]
  | x :: r, a => by
    by_cases h1 : x = s
    · have : withStep s (a, false) x = (a ++ [x], true) := by simp [withStep, h1]
      rw [List.foldl_cons, this, fold_done_with]; simp [ins, h1]
    · cases h2 : Op.bytesLess x.toList s.toList with
      | true =>
        have : withStep s (a, false) x = (a ++ [x], false) := by simp [withStep, h1, h2]
        rw [List.foldl_cons, this, fold_with s r]; simp [ins, h1, h2]
      | false =>
        have : withStep s (a, false) x = (a ++ [s] ++ [x], true) := by simp [withStep, h1, h2]
        rw [List.foldl_cons, this, fold_done_with]; simp [ins, h1, h2]
theorem withL_ins (l : List Str) (s : Str) : withL l s = ins l s := by
  have := fold_with s l []
  simpa [withL] using this
theorem mem_ins {x : Str} : ∀ {l : List Str} {s : Str}, x ∈ ins l s ↔ x ∈ l ∨ x = s
  | [], s => by simp [ins]
  | y :: r, s => by
    simp only [ins]
    split
    · rename_i h; subst h; simp; exact fun h => .inl h
    · split
      · simp [mem_ins (l := r), or_assoc]
      · simp; constructor
        · rintro (h | h | h)
          · exact .inr h
          · exact .inl (.inl h)
          · exact .inl (.inr h)
        · rintro ((h | h) | h)
          · exact .inr (.inl h)
          · exact .inr (.inr h)
          · exact .inl h
theorem mem_withL {x s : Str} {l : List Str} : x ∈ withL l s ↔ x ∈ l ∨ x = s := by rw [withL_ins]; exact mem_ins
theorem inL_iff {l : List Str} {s : Str} : inL l s = true ↔ s ∈ l := by
  simp [inL]
theorem inL_false {l : List Str} {s : Str} : inL l s = false ↔ s ∉ l := by
  rw [← Bool.not_eq_true, inL_iff]
/-- The outer variables. -/
def outF (a : List Str) (l : Lit) : List Str := if l.kind = 4 then withL (withAll a (plainVars l)) l.avar else withAll a (plainVars l)
def outer (r : Rule) : List Str := r.body.foldl outF (atomVars r.head)
end Go.Proofs.YtpnclpbkecjinaaGreatDoorR
/-
  A rule's book; which expressions are covered: contracts of the program's functions.
-/
namespace Go.Proofs.YtpnclpbkecjinaaGreatDoorR
open Go Go.Al
set_option maxRecDepth 10000
def litOut (l : Lit) : List Str := litOcc l ++ if l.kind = 4 then [l.avar] else []
def outerOcc (r : Rule) : List Str := atomOcc r.head ++ r.body.flatMap litOut
theorem litOut_len (l : Lit) : (litOut l).length + 1 ≤ l.size := by
  have := litOcc_len l
  unfold litOut
  rw [List.length_append]
  split <;> simp <;> omega
theorem litsOut_len : ∀ l : List Lit, (l.flatMap litOut).length ≤ Lit.sizes l
  | [] => by simp
  | e :: r => by
    have h1 := litOut_len e
    have h2 := litsOut_len r
    rw [List.flatMap_cons, List.length_append]
    simp only [Lit.sizes]; omega
theorem outerOcc_len (r : Rule) : (outerOcc r).length ≤ r.size := by
  have h1 := litsOut_len r.body
  have h2 := atomOcc_len r.head
  unfold outerOcc Rule.size
  rw [List.length_append]; omega
/-- A rule's book as data. -/
def bookC (r : Rule) : List IV := [iS r.head.rel, slc 5 r.head.terms Term.c, lits r.body, iI r.at_.line, iI r.at_.col, nmI (occM (outerOcc r))]
abbrev bookI (r : Rule) : IV := .iptr (bookC r)
theorem c48 (r : Rule) (hb : r.size ≤ 1000000000000) : Pure Tryz.prog 48 [ag r.c] (.iv (bookI r)) := by
  unfold Rule.size at hb
  have hao := atomOcc_len r.head
  have hal := Lit.length_sizes r.body
  refine pure_end tyA_ok Tryz.func48 rfl (by decide) Tryz.ntmps48 rfl (by simp) rfl ?_
  refine gA rfl (go_ddet tyA_ok [1] (d88n r.head (by omega)) rfl rfl rfl rfl rfl rfl rfl rfl rfl rfl rfl rfl (by (repeat' (first | exact trivial | exact rfl | exact PVle.refl _ | exact PVle.bk (by assumption) | apply And.intro)) <;> first | omega | (simp only [Int.toNat_natCast]; omega) | (simp; done) | (simp; omega)) rfl (by (repeat' (first | exact trivial | exact rfl | exact PVle.refl _ | exact PVle.bk (by assumption) | apply And.intro)) <;> first | omega | (simp only [Int.toNat_natCast]; omega) | (simp; done) | (simp; omega)) ?_)
  refine gA rfl ?_
  refine go_for 0 r.body.length (Nat.zero_le _) (fun i => ⟨[(3, .ptr 2 0), (18, .iv (lits r.body)), (19, pI r.body.length), (20, pI i)],
      [(1, some (nmO (occM (atomOcc r.head ++ (r.body.take i).flatMap litOut)))), (2, some (.cells [pS r.head.rel, .iv (slc 5 r.head.terms Term.c), .iv (lits r.body), pI r.at_.line, pI r.at_.col, .mp 1]))], 3⟩) (fun _ => True) [] trivial
    (wk rfl rfl rfl ⟨.refl _, rfl, .refl _, rfl, .refl _, rfl, .refl _, rfl, trivial⟩ (hM rfl (by simp) rfl ⟨⟨_, rfl, .of_eq rfl⟩, Nat.le_of_ble_eq_true rfl, rfl, trivial⟩) rfl) fun i hi _ => ?_
  refine gA rfl ?_
  refine And.intro (fun h3 => ?_) (fun h3 => ?_)
  · have h3 : i < r.body.length := by simpa using h3
    have hs := flatMap_step (f := litOut) h3
    have hn := Lit.sizes_next r.body i h3
    have hv := litsOut_len (r.body.take i)
    have hlo := litOcc_len (r.body.getD i default)
    refine gA rfl (go_ddet tyA_ok [1] (d89 (r.body.getD i default) _ (by rw [List.length_append]; omega)) rfl rfl rfl rfl rfl rfl rfl rfl rfl rfl rfl rfl (by (repeat' (first | exact trivial | exact rfl | exact PVle.refl _ | exact PVle.bk (by assumption) | apply And.intro)) <;> first | omega | (simp only [Int.toNat_natCast]; omega) | (simp; done) | (simp; omega)) rfl (by (repeat' (first | exact trivial | exact rfl | exact PVle.refl _ | exact PVle.bk (by assumption) | apply And.intro)) <;> first | omega | (simp only [Int.toNat_natCast]; omega) | (simp; done) | (simp; omega)) ?_)
    refine gA rfl ?_
    refine And.intro (fun h4 => ?_) (fun h4 => ?_)
    · have h4 : (r.body.getD i default).kind = 4 := of_decide_eq_true h4
      have hlo2 : litOut (r.body.getD i default) = litOcc (r.body.getD i default) ++ [(r.body.getD i default).avar] := by unfold litOut; rw [if_pos h4]
      rw [hlo2] at hs
      have hlk := occM_lk (atomOcc r.head ++ (r.body.take i).flatMap litOut ++ litOcc (r.body.getD i default)) (r.body.getD i default).avar
      have hct := cntL_le (atomOcc r.head ++ (r.body.take i).flatMap litOut ++ litOcc (r.body.getD i default)) (r.body.getD i default).avar
      rw [List.length_append, List.length_append] at hct
      refine gA rfl ?_
      exact ⟨h3, trivial, [], wk rfl rfl rfl ⟨.refl _, rfl, .refl _, rfl, .refl _, rfl, .refl _, rfl, trivial⟩ (hM rfl (by rw [hs, ← List.append_assoc, ← List.append_assoc, occM_snoc]; rfl) rfl ⟨⟨_, rfl, .of_eq rfl⟩, Nat.le_of_ble_eq_true rfl, rfl, trivial⟩) rfl⟩
    · have h4 : ¬ (r.body.getD i default).kind = 4 := of_decide_eq_false h4
      have hlo2 : litOut (r.body.getD i default) = litOcc (r.body.getD i default) := by unfold litOut; rw [if_neg h4, List.append_nil]
      rw [hlo2] at hs
      refine gA rfl ?_
      exact ⟨h3, trivial, [], wk rfl rfl rfl ⟨.refl _, rfl, .refl _, rfl, .refl _, rfl, .refl _, rfl, trivial⟩ (hM rfl (by rw [hs, ← List.append_assoc]) rfl ⟨⟨_, rfl, .of_eq rfl⟩, Nat.le_of_ble_eq_true rfl, rfl, trivial⟩) rfl⟩
  · have h3 : r.body.length ≤ i := by simpa using h3
    have e0 : r.body.take i = r.body := List.take_of_length_le h3
    refine goR rfl trivial (end_frz (.inr rfl) rfl (.map 1 rfl (.cells 2 _ rfl (show _ = List.map PV.iv (bookC r) by rw [e0]; rfl) (.done (.of_eq rfl)))))
def coversB (occ : List Str) (e : Expr) : Bool := (exprOcc e).all fun x => inL occ x
theorem key_mem {l : List Str} {j : Nat} {x : (KC.str).K × Int} (h : (occM l)[j]? = some x) : x.1 ∈ l :=
  ((occM_keys l).2 x.1).1 (List.mem_map.2 ⟨x, List.mem_of_getElem? h, rfl⟩)
theorem all_keys {l : List Str} {vs : List Nat} (h : ∀ j, j < (occM l).length → j ∈ vs) {p : Str → Prop} (hp : ∀ j ∈ vs, ∀ x, (occM l)[j]? = some x → p x.1) : ∀ t ∈ l, p t := by
  intro t ht
  obtain ⟨x, hx, rfl⟩ := List.mem_map.1 (((occM_keys l).2 t).2 ht)
  obtain ⟨j, hj⟩ := List.getElem?_of_mem hx
  exact hp j (h j (List.getElem?_eq_some_iff.1 hj).1) x hj
theorem d125 (occ : List Str) (e : Expr) (hb : e.size ≤ 1000000000000) : Det Tryz.prog 125 [.mp 0, ag e.c] [nmO (occM occ)] (pB (coversB occ e)) [(0, some (nmO (occM occ)))] 1 := by
  refine det_end tyA_ok Tryz.func125 rfl (by decide) Tryz.ntmps125 rfl (by simp) ?_
  refine gA rfl (go_det [2] (d135n e hb) rfl rfl rfl rfl rfl rfl rfl rfl ?_)
  refine gA rfl ?_
  refine go_rng (occM (exprOcc e)) (fun vs => ⟨[(0, .mp 0), (12, .ptr 3 0)], [(0, some (nmO (occM occ))), (3, some (.miter .str evI (occM (exprOcc e)) vs none))], 4⟩) (fun vs => ∀ j ∈ vs, ∀ x, (occM (exprOcc e))[j]? = some x → x.1 ∈ occ) [] (by simp)
    (wk rfl rfl rfl ⟨.refl _, rfl, .refl _, rfl, trivial⟩ (hM rfl rfl rfl (hI rfl rfl (.inl rfl) rfl trivial)) rfl) fun vs hJ => ?_
  refine goR rfl trivial (go_next rfl rfl rfl rfl rfl (by decide) (fun hall => ?_) fun j x hx hj => ?_)
  · refine gA rfl (end_det [] (by first | exact .inr rfl | exact .inl rfl) rfl (wk rfl rfl rfl ⟨.of_eq (by rw [show coversB occ e = true from List.all_eq_true.2 fun t ht => inL_iff.2 (all_keys hall hJ t ht)]; rfl), rfl, trivial⟩ (hM rfl rfl rfl trivial) rfl))
  · have hlk := occM_lk occ x.1
    refine gA rfl ?_
    refine And.intro (fun h1 => ?_) (fun h1 => ?_)
    · have h1 : lkD .str (occM occ) x.1 0 = 0 := of_decide_eq_true h1
      have h2 : x.1 ∉ occ := cntL_zero.1 (by rw [hlk] at h1; omega)
      refine gA rfl (end_det [] (by first | exact .inr rfl | exact .inl rfl) rfl (wk rfl rfl rfl ⟨.of_eq (by rw [show coversB occ e = false from List.all_eq_false.2 ⟨x.1, key_mem hx, by rw [inL_false.2 h2]; simp⟩]; rfl), rfl, trivial⟩ (hM rfl rfl rfl trivial) rfl))
    · have h1 : ¬ lkD .str (occM occ) x.1 0 = 0 := of_decide_eq_false h1
      have h2 : x.1 ∈ occ := cntL_pos.1 (by rw [hlk] at h1; omega)
      refine gA rfl ?_
      exact ⟨j, x, hx, hj, fun i hi y hy => by
        rcases List.mem_cons.1 hi with rfl | hi
        · rw [hx] at hy; cases hy; exact h2
        · exact hJ i hi y hy, [], wk rfl rfl rfl ⟨.refl _, rfl, .refl _, rfl, trivial⟩ (hM rfl rfl rfl (hI rfl rfl (.inr rfl) rfl trivial)) rfl⟩
end Go.Proofs.YtpnclpbkecjinaaGreatDoorR
/-
  Local variables, and what a comparison or an aggregate limits, as the document has them: contracts of the reference's functions.
-/
namespace Go.Proofs.YtpnclpbkecjinaaGreatDoorR
open Go Go.Al
set_option maxRecDepth 10000
def litAt (r : Rule) (lit : Int) : Lit := r.body.getD lit.toNat default
theorem Lit.agg_size (l : Lit) : l.agg.size + 2 ≤ l.size := by
  rw [l.size_eq]; unfold Agg.size Lit.agg; dsimp only; omega
theorem tupE {a b : Str × Bool} (h : a = b) : PV.tup [pS a.1, pB a.2] = .tup [pS b.1, pB b.2] := by rw [h]
end Go.Proofs.YtpnclpbkecjinaaGreatDoorR
/-
  Limited and plain variables as the document has them: contracts of the reference's functions.
-/
namespace Go.Proofs.YtpnclpbkecjinaaGreatDoorR
open Go Go.Al
set_option maxRecDepth 10000
/-! What grows till nothing is new. -/
def cands (body : List Lit) : List Str := body.flatMap fun l => [l.left.var, l.right.var, l.avar]
def miss (c k : List Str) : Nat := (c.filter fun x => !inL k x).length
theorem cands_len : ∀ body : List Lit, (cands body).length = 3 * body.length
  | [] => rfl
  | l :: r => by have := cands_len r; simp only [cands, List.flatMap_cons, List.length_append, List.length_cons, List.length_nil] at this ⊢; omega
theorem miss_le (c k : List Str) : miss c k ≤ c.length := List.length_filter_le _ _
theorem miss_lt {v : Str} {k : List Str} : ∀ {c : List Str}, v ∈ c → v ∉ k → miss c (withL k v) < miss c k := by
  have mono : ∀ c : List Str, miss c (withL k v) ≤ miss c k := by
    intro c
    induction c with
    | nil => exact Nat.le_refl _
    | cons x r ih =>
      simp only [miss] at ih ⊢
      simp only [List.filter_cons]
      by_cases h1 : x ∈ k
      · have : inL (withL k v) x = true := inL_iff.2 (mem_withL.2 (.inl h1))
        rw [this, inL_iff.2 h1]; exact ih
      · simp only [inL_false.2 h1, Bool.not_false, if_true, List.length_cons]
        split <;> (try simp only [List.length_cons]) <;> omega
  intro c hc hk
  induction c with
  | nil => cases hc
  | cons x r ih =>
    have hm := mono r
    simp only [miss] at ih hm ⊢
    simp only [List.filter_cons]
    by_cases hx : x = v
    · subst hx
      have : inL (withL k x) x = true := inL_iff.2 (mem_withL.2 (.inr rfl))
      simp [this, inL_false.2 hk]; omega
    · have hr : v ∈ r := by
        rcases List.mem_cons.1 hc with h | h
        · exact absurd h.symm hx
        · exact h
      have ih := ih hr
      by_cases h1 : x ∈ k
      · have : inL (withL k v) x = true := inL_iff.2 (mem_withL.2 (.inl h1))
        simp [this, inL_iff.2 h1]; exact ih
      · have : inL (withL k v) x = false := inL_false.2 fun h => by rcases mem_withL.1 h with h | h; exact h1 h; exact hx h
        simp [this, inL_false.2 h1]; omega
theorem cands_mem {body : List Lit} {l : Lit} (h : l ∈ body) {v : Str} (hv : v ∈ [l.left.var, l.right.var, l.avar]) : v ∈ cands body := List.mem_flatMap.2 ⟨l, h, hv⟩
end Go.Proofs.YtpnclpbkecjinaaGreatDoorR
/-
  What closes a set of names: the ways in which the program calls it.
-/
namespace Go.Proofs.YtpnclpbkecjinaaGreatDoorR
open Go Go.Al
set_option maxRecDepth 10000
def copB (may : Expr → Bool) (occ : List Str) (l : Lit) : Str × Bool :=
  if ¬ l.kind = 3 ∨ ¬ l.op = 1 then (ByteArray.empty, false)
  else if l.left.kind = 1 ∧ inL occ l.left.var = false ∧ may l.right = true then (l.left.var, true)
  else if l.right.kind = 1 ∧ inL occ l.right.var = false ∧ may l.left = true then (l.right.var, true)
  else (ByteArray.empty, false)
theorem inL_cnt {occ : List Str} {s : Str} : inL occ s = !decide (lkD .str (occM occ) s 0 = 0) := by
  rw [occM_lk]
  by_cases h : s ∈ occ
  · have := cntL_pos.2 h
    rw [inL_iff.2 h]; simp; omega
  · rw [inL_false.2 h, cntL_zero.2 h]; rfl
def plainB (occ : List Str) (e : Expr) : Bool := decide (e.kind = 2) || (decide (e.kind = 1) && inL occ e.var)
theorem pBE {a b : Bool} (h : a = b) : pB a = pB b := by rw [h]
theorem d76 (occ : List Str) (e : Expr) (hb : e.size ≤ 1000000000000) : Det Tryz.prog 76 [ag e.c, .ptr 1 0] [nmO (occM occ), .cells [.mp 0]] (pB (plainB occ e)) [(0, some (nmO (occM occ))), (1, some (.cells [.mp 0]))] 2 := by
  have hlk := occM_lk occ e.var
  have hi := inL_cnt (occ := occ) (s := e.var)
  refine det_end tyA_ok Tryz.func76 rfl (by decide) Tryz.ntmps76 rfl (by simp) ?_
  repeat' (first
    | (refine gA rfl (And.intro (fun _ => ?_) (fun _ => ?_)))
    | fail)
  all_goals first
    | (refine gA rfl (end_det [] (.inr rfl) rfl (wk rfl rfl rfl ⟨.of_eq (pBE (a := true) ?_), rfl, trivial⟩ (hM rfl rfl rfl ⟨⟨_, rfl, .of_eq rfl⟩, Nat.le_of_ble_eq_true rfl, rfl, trivial⟩) rfl)); simp_all [plainB]; done)
    | (refine gA rfl (end_det [] (.inr rfl) rfl (wk rfl rfl rfl ⟨.of_eq (pBE (a := false) ?_), rfl, trivial⟩ (hM rfl rfl rfl ⟨⟨_, rfl, .of_eq rfl⟩, Nat.le_of_ble_eq_true rfl, rfl, trivial⟩) rfl)); simp_all [plainB]; done)
    | (refine gA rfl (end_det [] (.inr rfl) rfl (wk rfl rfl rfl ⟨.of_eq (pBE (a := decide (lkD .str (occM occ) e.var 0 > 0)) ?_), rfl, trivial⟩ (hM rfl rfl rfl ⟨⟨_, rfl, .of_eq rfl⟩, Nat.le_of_ble_eq_true rfl, rfl, trivial⟩) rfl)); rw [plainB, hi, hlk]; simp_all; by_cases hz : cntL occ e.var = 0 <;> simp [hz] <;> omega)
theorem c77 (a : Agg) : Pure Tryz.prog 77 [ag a.c] (pB false) := by
  refine pure_end tyA_ok Tryz.func77 rfl (by decide) Tryz.ntmps77 rfl (by simp) rfl ?_
  refine gA rfl (end_le (by first | exact .inr rfl | exact .inl rfl) rfl (.of_eq ?_))
  rfl
theorem c193 (a : Agg) : Pure Tryz.prog 193 [ag a.c] (pB false) := by
  refine pure_end tyA_ok Tryz.func193 rfl (by decide) Tryz.ntmps193 rfl (by simp) rfl ?_
  refine gA rfl (end_le (by first | exact .inr rfl | exact .inl rfl) rfl (.of_eq ?_))
  rfl
/-- May an aggregate limit its variable? -/
def moreB (out occ : List Str) (a : Agg) : Bool := (aggOcc a).all fun x => decide (x = a.var) || (!inL out x || inL occ x)
theorem d126 (r : Rule) (occ : List Str) (a : Agg) (hb : a.size ≤ 1000000000000) : Det Tryz.prog 126 [ag a.c, .ptr 1 0, .ptr 2 0] [nmO (occM occ), .cells [.iv (bookI r)], .cells [.mp 0]] (pB (moreB (outerOcc r) occ a)) [(0, some (nmO (occM occ))), (1, some (.cells [.iv (bookI r)])), (2, some (.cells [.mp 0]))] 3 := by
  refine det_end tyA_ok Tryz.func126 rfl (by decide) Tryz.ntmps126 rfl (by simp) ?_
  refine gA rfl (go_det [] (d127 a hb) rfl rfl rfl rfl rfl rfl rfl rfl ?_)
  refine gA rfl ?_
  refine go_rng (occM (aggOcc a)) (fun vs => ⟨[(1, .ptr 1 0), (2, .ptr 2 0), (3, .ptr 3 0), (8, .ptr 5 0)], [(0, some (nmO (occM occ))), (1, some (.cells [.iv (bookI r)])), (2, some (.cells [.mp 0])), (3, some (cellsI a.c)), (5, some (.miter .str evI (occM (aggOcc a)) vs none))], 6⟩) (fun vs => ∀ j ∈ vs, ∀ x, (occM (aggOcc a))[j]? = some x → (decide (x.1 = a.var) || (!inL (outerOcc r) x.1 || inL occ x.1)) = true) [] (by simp)
    (wk rfl rfl rfl ⟨.refl _, rfl, .refl _, rfl, .refl _, rfl, .refl _, rfl, trivial⟩ (hM rfl rfl rfl ⟨⟨_, rfl, .of_eq rfl⟩, Nat.le_of_ble_eq_true rfl, rfl, ⟨_, rfl, .of_eq rfl⟩, Nat.le_of_ble_eq_true rfl, rfl, hC rfl rfl rfl (hI rfl rfl (.inl rfl) rfl trivial)⟩) rfl) fun vs hJ => ?_
  refine goR rfl trivial (go_next rfl rfl rfl rfl rfl (by decide) (fun hall => ?_) fun j x hx hj => ?_)
  · refine gA rfl (end_det [] (by first | exact .inr rfl | exact .inl rfl) rfl (wk rfl rfl rfl ⟨.of_eq (pBE (a := true) (List.all_eq_true.2 fun t ht => all_keys (p := fun t => (decide (t = a.var) || (!inL (outerOcc r) t || inL occ t)) = true) hall hJ t ht).symm), rfl, trivial⟩ (hM rfl rfl rfl ⟨⟨_, rfl, .of_eq rfl⟩, Nat.le_of_ble_eq_true rfl, rfl, ⟨_, rfl, .of_eq rfl⟩, Nat.le_of_ble_eq_true rfl, rfl, trivial⟩) rfl))
  · have more : (decide (x.1 = a.var) || (!inL (outerOcc r) x.1 || inL occ x.1)) = true → ∀ i ∈ j :: vs, ∀ x, (occM (aggOcc a))[i]? = some x → (decide (x.1 = a.var) || (!inL (outerOcc r) x.1 || inL occ x.1)) = true := fun h i hi y hy => by
      rcases List.mem_cons.1 hi with rfl | hi
      · rw [hx] at hy; cases hy; exact h
      · exact hJ i hi y hy
    have h5 := inL_cnt (occ := outerOcc r) (s := x.1)
    have h6 := inL_cnt (occ := occ) (s := x.1)
    have h7 := occM_lk (outerOcc r) x.1
    have h8 := occM_lk occ x.1
    refine gA rfl ?_
    refine And.intro (fun g1 => ?_) (fun g1 => ?_)
    · have g1 : decide (x.1 = a.var) = false := by simpa using g1
      refine gA rfl ?_
      refine And.intro (fun g2 => ?_) (fun g2 => ?_)
      · have g2 : inL (outerOcc r) x.1 = true := by
          have := of_decide_eq_true g2
          rw [h5]; simp; omega
        refine gA rfl ?_
        refine And.intro (fun g3 => ?_) (fun g3 => ?_)
        · have g3 : inL occ x.1 = false := by rw [h6, g3]; rfl
          refine gA rfl (end_det [] (by first | exact .inr rfl | exact .inl rfl) rfl (wk rfl rfl rfl ⟨.of_eq (pBE (a := false) (List.all_eq_false.2 ⟨x.1, key_mem hx, by rw [g1, g2, g3]; simp⟩).symm), rfl, trivial⟩ (hM rfl rfl rfl ⟨⟨_, rfl, .of_eq rfl⟩, Nat.le_of_ble_eq_true rfl, rfl, ⟨_, rfl, .of_eq rfl⟩, Nat.le_of_ble_eq_true rfl, rfl, trivial⟩) rfl))
        · have g3 : inL occ x.1 = true := by rw [h6, g3]; rfl
          refine gA rfl ?_
          exact ⟨j, x, hx, hj, more (by rw [g3]; simp), [], wk rfl rfl rfl ⟨.refl _, rfl, .refl _, rfl, .refl _, rfl, .refl _, rfl, trivial⟩ (hM rfl rfl rfl ⟨⟨_, rfl, .of_eq rfl⟩, Nat.le_of_ble_eq_true rfl, rfl, ⟨_, rfl, .of_eq rfl⟩, Nat.le_of_ble_eq_true rfl, rfl, hC rfl rfl rfl (hI rfl rfl (.inr rfl) rfl trivial)⟩) rfl⟩
      · have g2 : inL (outerOcc r) x.1 = false := by
          have := of_decide_eq_false g2
          rw [h5]; simp; omega
        refine gA rfl ?_
        exact ⟨j, x, hx, hj, more (by rw [g2]; simp), [], wk rfl rfl rfl ⟨.refl _, rfl, .refl _, rfl, .refl _, rfl, .refl _, rfl, trivial⟩ (hM rfl rfl rfl ⟨⟨_, rfl, .of_eq rfl⟩, Nat.le_of_ble_eq_true rfl, rfl, ⟨_, rfl, .of_eq rfl⟩, Nat.le_of_ble_eq_true rfl, rfl, hC rfl rfl rfl (hI rfl rfl (.inr rfl) rfl trivial)⟩) rfl⟩
    · have g1 : decide (x.1 = a.var) = true := by simpa using g1
      refine gA rfl ?_
      exact ⟨j, x, hx, hj, more (by rw [g1]; simp), [], wk rfl rfl rfl ⟨.refl _, rfl, .refl _, rfl, .refl _, rfl, .refl _, rfl, trivial⟩ (hM rfl rfl rfl ⟨⟨_, rfl, .of_eq rfl⟩, Nat.le_of_ble_eq_true rfl, rfl, ⟨_, rfl, .of_eq rfl⟩, Nat.le_of_ble_eq_true rfl, rfl, hC rfl rfl rfl (hI rfl rfl (.inr rfl) rfl trivial)⟩) rfl⟩
/-! What is new next. -/
def newV (may : Expr → Bool) (more : Agg → Bool) (occ : List Str) (l : Lit) : Option Str :=
  if (copB may occ l).2 = true then some (copB may occ l).1 else if l.kind = 4 ∧ inL occ l.avar = false ∧ more l.agg = true then some l.avar else none
def firstV (may : Expr → Bool) (more : Agg → Bool) (occ : List Str) : List Lit → Option Str
  | [] => none
  | l :: r => match newV may more occ l with
    | some v => some v
    | none => firstV may more occ r
def closedN (may : List Str → Expr → Bool) (more : List Str → Agg → Bool) (body : List Lit) : Nat → List Str → List Str
  | 0, occ => occ
  | n + 1, occ => match firstV (may occ) (more occ) occ body with
    | some v => closedN may more body n (occ ++ [v])
    | none => occ
def posOcc (l : Lit) : List Str := if l.kind = 1 then atomOcc l.atom else []
def closedL (may : List Str → Expr → Bool) (more : List Str → Agg → Bool) (body : List Lit) (occ : List Str) : List Str := closedN may more body (3 * body.length + 1) (occ ++ body.flatMap posOcc)
theorem closedN_some {may : List Str → Expr → Bool} {more : List Str → Agg → Bool} {body : List Lit} {n : Nat} {occ : List Str} {v : Str} (h : firstV (may occ) (more occ) occ body = some v) : closedN may more body (n + 1) occ = closedN may more body n (occ ++ [v]) := by
  simp only [closedN, h]
theorem closedN_none {may : List Str → Expr → Bool} {more : List Str → Agg → Bool} {body : List Lit} {n : Nat} {occ : List Str} (h : firstV (may occ) (more occ) occ body = none) : closedN may more body (n + 1) occ = occ := by
  simp only [closedN, h]
theorem firstV_append {may : Expr → Bool} {more : Agg → Bool} {occ : List Str} : ∀ {l m : List Lit}, firstV may more occ l = none → firstV may more occ (l ++ m) = firstV may more occ m
  | [], _, _ => rfl
  | x :: r, m, h => by
    simp only [firstV] at h
    split at h
    · cases h
    · rename_i h1
      simp only [List.cons_append, firstV, h1]
      exact firstV_append h
theorem firstV_step {may : Expr → Bool} {more : Agg → Bool} {occ : List Str} {l : List Lit} {i : Nat} (h : firstV may more occ (l.take i) = none) (hi : i < l.length) (hx : newV may more occ (l.getD i default) = none) : firstV may more occ (l.take (i + 1)) = none := by
  rw [take_step hi, firstV_append h]; simp only [firstV, hx]
theorem firstV_hit {may : Expr → Bool} {more : Agg → Bool} {occ : List Str} {l : List Lit} {i : Nat} {v : Str} (h : firstV may more occ (l.take i) = none) (hi : i < l.length) (hx : newV may more occ (l.getD i default) = some v) : firstV may more occ l = some v := by
  have e : l = l.take i ++ (l.getD i default :: l.drop (i + 1)) := by
    rw [List.getD_eq_getElem?_getD, List.getElem?_eq_getElem hi, Option.getD_some, List.getElem_cons_drop, List.take_append_drop]
  rw [e, firstV_append h]
  simp only [firstV, hx]
theorem newV_new {may : Expr → Bool} {more : Agg → Bool} {occ : List Str} {l : Lit} {v : Str} (h : newV may more occ l = some v) : v ∈ [l.left.var, l.right.var, l.avar] ∧ v ∉ occ := by
  unfold newV at h
  split at h
  · rename_i h1
    simp only [Option.some.injEq] at h
    subst h
    unfold copB at h1 ⊢
    split at h1
    · cases h1
    · rename_i h0
      rw [if_neg h0]
      split at h1
      · rename_i h2; rw [if_pos h2]; exact ⟨by simp, inL_false.1 h2.2.1⟩
      · rename_i h2
        rw [if_neg h2]
        split at h1
        · rename_i h3; rw [if_pos h3]; exact ⟨by simp, inL_false.1 h3.2.1⟩
        · cases h1
  · split at h
    · rename_i h2
      simp only [Option.some.injEq] at h
      subst h
      exact ⟨by simp, inL_false.1 h2.2.1⟩
    · cases h
theorem firstV_new {may : Expr → Bool} {more : Agg → Bool} {occ : List Str} {v : Str} : ∀ {l : List Lit}, firstV may more occ l = some v → v ∈ cands l ∧ v ∉ occ
  | [], h => by cases h
  | x :: r, h => by
    simp only [firstV] at h
    split at h
    · rename_i w hw
      simp only [Option.some.injEq] at h
      subst h
      obtain ⟨h1, h2⟩ := newV_new hw
      exact ⟨cands_mem List.mem_cons_self h1, h2⟩
    · obtain ⟨h1, h2⟩ := firstV_new h
      refine ⟨?_, h2⟩
      simp only [cands, List.flatMap_cons, List.mem_append] at h1 ⊢
      exact .inr h1
theorem posOcc_len : ∀ l : List Lit, (l.flatMap posOcc).length ≤ Lit.sizes l
  | [] => by simp
  | e :: r => by
    have h2 := posOcc_len r
    have h3 : (posOcc e).length ≤ e.size := by
      have := atomOcc_len e.atom
      have := e.size_eq
      unfold posOcc
      split
      · omega
      · simp
    rw [List.flatMap_cons, List.length_append]
    simp only [Lit.sizes]; omega
theorem d130A (occ : List Str) (l : Lit) (hb : l.size ≤ 100000000000) : Det Tryz.prog 130 [ag l.c, .clo (.func 125) [.mp 0] [], .mp 0] [nmO (occM occ)] (.tup [pS (copB (coversB occ) occ l).1, pB (copB (coversB occ) occ l).2]) [(0, some (nmO (occM occ)))] 1 := by
  have hsz := l.size_eq
  have hl1 := occM_lk occ l.left.var
  have hl2 := occM_lk occ l.right.var
  refine det_end tyA_ok Tryz.func130 rfl (by decide) Tryz.ntmps130 rfl (by simp) ?_
  refine gA rfl ?_
  refine And.intro (fun h1 => ?_) (fun h1 => ?_)
  rotate_left
  · have h1 : ¬ l.kind = 3 := by simpa using h1
    refine gA rfl (end_det [] (by first | exact .inr rfl | exact .inl rfl) rfl (wk rfl rfl rfl ⟨.of_eq (tupE (a := (ByteArray.empty, false)) (by rw [copB, if_pos (.inl h1)])), rfl, trivial⟩ (hM rfl rfl rfl trivial) rfl))
  have h1 : l.kind = 3 := by simpa using h1
  refine gA rfl ?_
  refine And.intro (fun h2 => ?_) (fun h2 => ?_)
  · have h2 : ¬ l.op = 1 := by simpa using h2
    refine gA rfl (end_det [] (by first | exact .inr rfl | exact .inl rfl) rfl (wk rfl rfl rfl ⟨.of_eq (tupE (a := (ByteArray.empty, false)) (by rw [copB, if_pos (.inr h2)])), rfl, trivial⟩ (hM rfl rfl rfl trivial) rfl))
  have h2 : l.op = 1 := by simpa using h2
  have e1 : copB (coversB occ) occ l = if l.left.kind = 1 ∧ inL occ l.left.var = false ∧ (coversB occ) l.right = true then (l.left.var, true) else if l.right.kind = 1 ∧ inL occ l.right.var = false ∧ (coversB occ) l.left = true then (l.right.var, true) else (ByteArray.empty, false) := by
    rw [copB, if_neg (by simp [h1, h2])]
  repeat' (first
    | (refine gA rfl (And.intro (fun _ => ?_) (fun _ => ?_)))
    | (refine gA rfl (go_det [0] (d125 occ l.left (by omega)) rfl rfl rfl rfl rfl rfl rfl rfl ?_))
    | (refine gA rfl (go_det [0] (d125 occ l.right (by omega)) rfl rfl rfl rfl rfl rfl rfl rfl ?_))
    | fail)
  all_goals first
    | (refine gA rfl (end_det [] (.inr rfl) rfl (wk rfl rfl rfl ⟨.of_eq (tupE (a := (ByteArray.empty, false)) ?_), rfl, trivial⟩ (hM rfl rfl rfl trivial) rfl)); rw [e1]; simp only [inL_cnt] at *; simp_all; done)
    | (refine gA rfl (end_det [] (.inr rfl) rfl (wk rfl rfl rfl ⟨.of_eq (tupE (a := (l.left.var, true)) ?_), rfl, trivial⟩ (hM rfl rfl rfl trivial) rfl)); rw [e1]; simp only [inL_cnt] at *; simp_all; done)
    | (refine gA rfl (end_det [] (.inr rfl) rfl (wk rfl rfl rfl ⟨.of_eq (tupE (a := (l.right.var, true)) ?_), rfl, trivial⟩ (hM rfl rfl rfl trivial) rfl)); rw [e1]; simp only [inL_cnt] at *; simp_all; done)
    | (exfalso; simp_all; done)
theorem d75A (occ : List Str) (body : List Lit) (hb : occ.length + 8 * Lit.sizes body ≤ 100000000000) : Det Tryz.prog 75 [.iv (lits body), .mp 0, .clo (.func 125) [.mp 0] [], .clo (.func 193) [] []] [nmO (occM occ)] (.tup []) [(0, some (nmO (occM (closedL (fun occ => coversB occ) (fun occ => fun _ => false) body occ))))] 1 := by
  have hal := Lit.length_sizes body
  have hpl := posOcc_len body
  have hcl := cands_len body
  have hml := miss_le (cands body) (occ ++ body.flatMap posOcc)
  refine det_end tyA_ok Tryz.func75 rfl (by decide) Tryz.ntmps75 rfl (by simp) ?_
  refine gA rfl ?_
  refine go_for 0 body.length (Nat.zero_le _) (fun i => ⟨[(0, .iv (lits body)), (1, .mp 0), (2, .clo (.func 125) [.mp 0] []), (3, .clo (.func 193) [] []), (14, .iv (lits body)), (15, pI body.length), (16, pI i)], [(0, some (nmO (occM (occ ++ (body.take i).flatMap posOcc))))], 1⟩) (fun _ => True) [] trivial
    (wk rfl rfl rfl ⟨.refl _, rfl, .refl _, rfl, .refl _, rfl, .refl _, rfl, .refl _, rfl, .refl _, rfl, .refl _, rfl, trivial⟩ (hM rfl (by simp) rfl trivial) rfl) fun i hi _ => ?_
  refine gA rfl ?_
  refine And.intro (fun h1 => ?_) (fun h1 => ?_)
  · have h1 : i < body.length := by simpa using h1
    have hs := flatMap_step (f := posOcc) h1
    have hn := Lit.sizes_next body i h1
    have hv := posOcc_len (body.take i)
    have hsz := (body.getD i default).size_eq
    refine gA rfl ?_
    refine And.intro (fun h2 => ?_) (fun h2 => ?_)
    · have h2 : (body.getD i default).kind = 1 := by simpa using h2
      rw [show posOcc (body.getD i default) = _ from if_pos h2] at hs
      refine gA rfl (go_det [0] (d88 (occ ++ (body.take i).flatMap posOcc) (body.getD i default).atom (by rw [List.length_append]; omega)) rfl rfl rfl rfl rfl rfl rfl rfl ?_)
      refine gA rfl ?_
      exact ⟨h1, trivial, [], wk rfl rfl rfl ⟨.refl _, rfl, .refl _, rfl, .refl _, rfl, .refl _, rfl, .refl _, rfl, .refl _, rfl, .refl _, rfl, trivial⟩ (hM rfl (by rw [hs, List.append_assoc]) rfl trivial) rfl⟩
    · have h2 : ¬ (body.getD i default).kind = 1 := by simpa using h2
      rw [show posOcc (body.getD i default) = _ from if_neg h2, List.append_nil] at hs
      refine gA rfl ?_
      exact ⟨h1, trivial, [], wk rfl rfl rfl ⟨.refl _, rfl, .refl _, rfl, .refl _, rfl, .refl _, rfl, .refl _, rfl, .refl _, rfl, .refl _, rfl, trivial⟩ (hM rfl (by rw [hs]) rfl trivial) rfl⟩
  have h1 : body.length ≤ i := by simpa using h1
  have e0 : body.take i = body := List.take_of_length_le h1
  rw [e0]
  refine gA rfl ?_
  refine go_lp (σ := { x : List Str × Nat // closedL (fun occ => coversB occ) (fun occ => fun _ => false) body occ = closedN (fun occ => coversB occ) (fun occ => fun _ => false) body (x.2 + 1) x.1 ∧ miss (cands body) x.1 ≤ x.2 ∧ x.1.length + miss (cands body) x.1 ≤ (occ ++ body.flatMap posOcc).length + miss (cands body) (occ ++ body.flatMap posOcc) })
    (fun x => ⟨[(0, .iv (lits body)), (1, .mp 0), (2, .clo (.func 125) [.mp 0] []), (3, .clo (.func 193) [] [])], [(0, some (nmO (occM x.1.1)))], 1⟩) (fun x => miss (cands body) x.1.1)
    ⟨(occ ++ body.flatMap posOcc, 3 * body.length), rfl, by dsimp only; omega, Nat.le_refl _⟩ [] (wk rfl rfl rfl ⟨.refl _, rfl, .refl _, rfl, .refl _, rfl, .refl _, rfl, trivial⟩ (hM rfl rfl rfl trivial) rfl) ?_
  rintro ⟨⟨ok, f⟩, hx1, hx2, hx3⟩
  dsimp only at hx1 hx2 hx3 ⊢
  rw [List.length_append] at hx3
  refine gA rfl ?_
  refine go_for 0 body.length (Nat.zero_le _) (fun i => ⟨[(0, .iv (lits body)), (1, .mp 0), (2, .clo (.func 125) [.mp 0] []), (3, .clo (.func 193) [] []), (28, .iv (lits body)), (29, pI body.length), (30, pI i)], [(0, some (nmO (occM ok)))], 1⟩) (fun i => firstV ((fun occ => coversB occ) ok) ((fun occ => fun _ => false) ok) ok (body.take i) = none) [] rfl
    (wk rfl rfl rfl ⟨.refl _, rfl, .refl _, rfl, .refl _, rfl, .refl _, rfl, .refl _, rfl, .refl _, rfl, .refl _, rfl, trivial⟩ (hM rfl rfl rfl trivial) rfl) fun i hi hJ => ?_
  refine gA rfl ?_
  refine And.intro (fun h3 => ?_) (fun h3 => ?_)
  · have h3 : i < body.length := by simpa using h3
    have hsl := Lit.sizes_get body i h3
    have hag := (body.getD i default).agg_size
    have found : ∀ v, newV ((fun occ => coversB occ) ok) ((fun occ => fun _ => false) ok) ok (body.getD i default) = some v → closedL (fun occ => coversB occ) (fun occ => fun _ => false) body occ = closedN (fun occ => coversB occ) (fun occ => fun _ => false) body (f - 1 + 1) (ok ++ [v]) ∧ miss (cands body) (ok ++ [v]) ≤ f - 1 ∧
        (ok ++ [v]).length + miss (cands body) (ok ++ [v]) ≤ (occ ++ body.flatMap posOcc).length + miss (cands body) (occ ++ body.flatMap posOcc) ∧ miss (cands body) (ok ++ [v]) < miss (cands body) ok := by
      intro v hv
      have hf := firstV_hit hJ h3 hv
      obtain ⟨g1, g2⟩ := firstV_new hf
      have hlt := miss_lt g1 g2
      have hlt2 : miss (cands body) (ok ++ [v]) = miss (cands body) (withL ok v) := by
        unfold miss
        congr 2
        funext x
        congr 1
        rw [Bool.eq_iff_iff, inL_iff, inL_iff, mem_withL, List.mem_append, List.mem_singleton]
      have hf1 : f - 1 + 1 = f := by omega
      refine ⟨?_, by omega, ?_, by omega⟩
      · rw [hx1, closedN_some hf, hf1]
      · rw [List.length_append, List.length_append, List.length_singleton]; omega
    have hlk1 := occM_lk ok (copB (coversB ok) ok (body.getD i default)).1
    have hct1 := cntL_le ok (copB (coversB ok) ok (body.getD i default)).1
    have hlk2 := occM_lk ok (body.getD i default).avar
    have hct2 := cntL_le ok (body.getD i default).avar
    refine gA rfl (go_det [0] (d130A  ok (body.getD i default) (by omega)) rfl rfl rfl rfl rfl rfl rfl rfl ?_)
    refine gA rfl ?_
    refine And.intro (fun h4 => ?_) (fun h4 => ?_)
    · obtain ⟨g1, g2, g3, g4⟩ := found _ (if_pos h4)
      refine gA rfl ?_
      exact ⟨⟨(_, f - 1), g1, g2, g3⟩, [], g4, wk rfl rfl rfl ⟨.refl _, rfl, .refl _, rfl, .refl _, rfl, .refl _, rfl, trivial⟩ (hM rfl (by dsimp only; rw [occM_snoc]; rfl) rfl trivial) rfl⟩
    · refine gA rfl ?_
      refine And.intro (fun h5 => ?_) (fun h5 => ?_)
      · have h5 : (body.getD i default).kind = 4 := by simpa using h5
        refine gA rfl ?_
        refine And.intro (fun h6 => ?_) (fun h6 => ?_)
        · have h6 : inL ok (body.getD i default).avar = false := by rw [inL_cnt]; simpa using h6
          refine gA rfl (go_pure (c193 (body.getD i default).agg) rfl rfl rfl rfl rfl rfl ?_)
          refine gA rfl ?_
          refine And.intro (fun h7 => ?_) (fun h7 => ?_)
          · obtain ⟨g1, g2, g3, g4⟩ := found _ ((if_neg (by rw [h4]; simp)).trans (if_pos ⟨h5, h6, h7⟩))
            refine gA rfl ?_
            exact ⟨⟨(_, f - 1), g1, g2, g3⟩, [], g4, wk rfl rfl rfl ⟨.refl _, rfl, .refl _, rfl, .refl _, rfl, .refl _, rfl, trivial⟩ (hM rfl (by dsimp only; rw [occM_snoc]; rfl) rfl trivial) rfl⟩
          · refine gA rfl ?_
            exact ⟨h3, firstV_step hJ h3 ((if_neg (by rw [h4]; simp)).trans (if_neg (fun h => nomatch (h.2.2.symm.trans h7)))), [], wk rfl rfl rfl ⟨.refl _, rfl, .refl _, rfl, .refl _, rfl, .refl _, rfl, .refl _, rfl, .refl _, rfl, .refl _, rfl, trivial⟩ (hM rfl rfl rfl trivial) rfl⟩
        · have h6 : inL ok (body.getD i default).avar = true := by rw [inL_cnt]; simpa using h6
          refine gA rfl ?_
          exact ⟨h3, firstV_step hJ h3 ((if_neg (by rw [h4]; simp)).trans (if_neg (by rw [h6]; simp))), [], wk rfl rfl rfl ⟨.refl _, rfl, .refl _, rfl, .refl _, rfl, .refl _, rfl, .refl _, rfl, .refl _, rfl, .refl _, rfl, trivial⟩ (hM rfl rfl rfl trivial) rfl⟩
      · have h5 : ¬ (body.getD i default).kind = 4 := by simpa using h5
        refine gA rfl ?_
        exact ⟨h3, firstV_step hJ h3 ((if_neg (by rw [h4]; simp)).trans (if_neg (fun h => h5 h.1))), [], wk rfl rfl rfl ⟨.refl _, rfl, .refl _, rfl, .refl _, rfl, .refl _, rfl, .refl _, rfl, .refl _, rfl, .refl _, rfl, trivial⟩ (hM rfl rfl rfl trivial) rfl⟩
  · have h3 : body.length ≤ i := by simpa using h3
    rw [List.take_of_length_le h3] at hJ
    have hcl2 : closedL (fun occ => coversB occ) (fun occ => fun _ => false) body occ = ok := by rw [hx1, closedN_none hJ]
    refine gA rfl (end_det [] (by first | exact .inr rfl | exact .inl rfl) rfl (wk rfl rfl rfl ⟨.refl _, rfl, trivial⟩ (hM rfl (by rw [hcl2]) rfl trivial) rfl))
theorem d130B (occ : List Str) (l : Lit) (hb : l.size ≤ 100000000000) : Det Tryz.prog 130 [ag l.c, .clo (.func 76) [] [.ptr 1 0], .mp 0] [nmO (occM occ), .cells [.mp 0]] (.tup [pS (copB (plainB occ) occ l).1, pB (copB (plainB occ) occ l).2]) [(0, some (nmO (occM occ))), (1, some (.cells [.mp 0]))] 2 := by
  have hsz := l.size_eq
  have hl1 := occM_lk occ l.left.var
  have hl2 := occM_lk occ l.right.var
  refine det_end tyA_ok Tryz.func130 rfl (by decide) Tryz.ntmps130 rfl (by simp) ?_
  refine gA rfl ?_
  refine And.intro (fun h1 => ?_) (fun h1 => ?_)
  rotate_left
  · have h1 : ¬ l.kind = 3 := by simpa using h1
    refine gA rfl (end_det [] (by first | exact .inr rfl | exact .inl rfl) rfl (wk rfl rfl rfl ⟨.of_eq (tupE (a := (ByteArray.empty, false)) (by rw [copB, if_pos (.inl h1)])), rfl, trivial⟩ (hM rfl rfl rfl ⟨⟨_, rfl, .of_eq rfl⟩, Nat.le_of_ble_eq_true rfl, rfl, trivial⟩) rfl))
  have h1 : l.kind = 3 := by simpa using h1
  refine gA rfl ?_
  refine And.intro (fun h2 => ?_) (fun h2 => ?_)
  · have h2 : ¬ l.op = 1 := by simpa using h2
    refine gA rfl (end_det [] (by first | exact .inr rfl | exact .inl rfl) rfl (wk rfl rfl rfl ⟨.of_eq (tupE (a := (ByteArray.empty, false)) (by rw [copB, if_pos (.inr h2)])), rfl, trivial⟩ (hM rfl rfl rfl ⟨⟨_, rfl, .of_eq rfl⟩, Nat.le_of_ble_eq_true rfl, rfl, trivial⟩) rfl))
  have h2 : l.op = 1 := by simpa using h2
  have e1 : copB (plainB occ) occ l = if l.left.kind = 1 ∧ inL occ l.left.var = false ∧ (plainB occ) l.right = true then (l.left.var, true) else if l.right.kind = 1 ∧ inL occ l.right.var = false ∧ (plainB occ) l.left = true then (l.right.var, true) else (ByteArray.empty, false) := by
    rw [copB, if_neg (by simp [h1, h2])]
  repeat' (first
    | (refine gA rfl (And.intro (fun _ => ?_) (fun _ => ?_)))
    | (refine gA rfl (go_det [0, 1] (d76 occ l.left (by omega)) rfl rfl rfl rfl rfl rfl rfl rfl ?_))
    | (refine gA rfl (go_det [0, 1] (d76 occ l.right (by omega)) rfl rfl rfl rfl rfl rfl rfl rfl ?_))
    | fail)
  all_goals first
    | (refine gA rfl (end_det [] (.inr rfl) rfl (wk rfl rfl rfl ⟨.of_eq (tupE (a := (ByteArray.empty, false)) ?_), rfl, trivial⟩ (hM rfl rfl rfl ⟨⟨_, rfl, .of_eq rfl⟩, Nat.le_of_ble_eq_true rfl, rfl, trivial⟩) rfl)); rw [e1]; simp only [inL_cnt] at *; simp_all; done)
    | (refine gA rfl (end_det [] (.inr rfl) rfl (wk rfl rfl rfl ⟨.of_eq (tupE (a := (l.left.var, true)) ?_), rfl, trivial⟩ (hM rfl rfl rfl ⟨⟨_, rfl, .of_eq rfl⟩, Nat.le_of_ble_eq_true rfl, rfl, trivial⟩) rfl)); rw [e1]; simp only [inL_cnt] at *; simp_all; done)
    | (refine gA rfl (end_det [] (.inr rfl) rfl (wk rfl rfl rfl ⟨.of_eq (tupE (a := (l.right.var, true)) ?_), rfl, trivial⟩ (hM rfl rfl rfl ⟨⟨_, rfl, .of_eq rfl⟩, Nat.le_of_ble_eq_true rfl, rfl, trivial⟩) rfl)); rw [e1]; simp only [inL_cnt] at *; simp_all; done)
    | (exfalso; simp_all; done)
theorem d75B (occ : List Str) (body : List Lit) (hb : occ.length + 8 * Lit.sizes body ≤ 100000000000) : Det Tryz.prog 75 [.iv (lits body), .mp 0, .clo (.func 76) [] [.ptr 1 0], .clo (.func 77) [] []] [nmO (occM occ), .cells [.mp 0]] (.tup []) [(0, some (nmO (occM (closedL (fun occ => plainB occ) (fun occ => fun _ => false) body occ)))), (1, some (.cells [.mp 0]))] 2 := by
  have hal := Lit.length_sizes body
  have hpl := posOcc_len body
  have hcl := cands_len body
  have hml := miss_le (cands body) (occ ++ body.flatMap posOcc)
  refine det_end tyA_ok Tryz.func75 rfl (by decide) Tryz.ntmps75 rfl (by simp) ?_
  refine gA rfl ?_
  refine go_for 0 body.length (Nat.zero_le _) (fun i => ⟨[(0, .iv (lits body)), (1, .mp 0), (2, .clo (.func 76) [] [.ptr 1 0]), (3, .clo (.func 77) [] []), (14, .iv (lits body)), (15, pI body.length), (16, pI i)], [(0, some (nmO (occM (occ ++ (body.take i).flatMap posOcc)))), (1, some (.cells [.mp 0]))], 2⟩) (fun _ => True) [] trivial
    (wk rfl rfl rfl ⟨.refl _, rfl, .refl _, rfl, .refl _, rfl, .refl _, rfl, .refl _, rfl, .refl _, rfl, .refl _, rfl, trivial⟩ (hM rfl (by simp) rfl ⟨⟨_, rfl, .of_eq rfl⟩, Nat.le_of_ble_eq_true rfl, rfl, trivial⟩) rfl) fun i hi _ => ?_
  refine gA rfl ?_
  refine And.intro (fun h1 => ?_) (fun h1 => ?_)
  · have h1 : i < body.length := by simpa using h1
    have hs := flatMap_step (f := posOcc) h1
    have hn := Lit.sizes_next body i h1
    have hv := posOcc_len (body.take i)
    have hsz := (body.getD i default).size_eq
    refine gA rfl ?_
    refine And.intro (fun h2 => ?_) (fun h2 => ?_)
    · have h2 : (body.getD i default).kind = 1 := by simpa using h2
      rw [show posOcc (body.getD i default) = _ from if_pos h2] at hs
      refine gA rfl (go_det [0] (d88 (occ ++ (body.take i).flatMap posOcc) (body.getD i default).atom (by rw [List.length_append]; omega)) rfl rfl rfl rfl rfl rfl rfl rfl ?_)
      refine gA rfl ?_
      exact ⟨h1, trivial, [], wk rfl rfl rfl ⟨.refl _, rfl, .refl _, rfl, .refl _, rfl, .refl _, rfl, .refl _, rfl, .refl _, rfl, .refl _, rfl, trivial⟩ (hM rfl (by rw [hs, List.append_assoc]) rfl ⟨⟨_, rfl, .of_eq rfl⟩, Nat.le_of_ble_eq_true rfl, rfl, trivial⟩) rfl⟩
    · have h2 : ¬ (body.getD i default).kind = 1 := by simpa using h2
      rw [show posOcc (body.getD i default) = _ from if_neg h2, List.append_nil] at hs
      refine gA rfl ?_
      exact ⟨h1, trivial, [], wk rfl rfl rfl ⟨.refl _, rfl, .refl _, rfl, .refl _, rfl, .refl _, rfl, .refl _, rfl, .refl _, rfl, .refl _, rfl, trivial⟩ (hM rfl (by rw [hs]) rfl ⟨⟨_, rfl, .of_eq rfl⟩, Nat.le_of_ble_eq_true rfl, rfl, trivial⟩) rfl⟩
  have h1 : body.length ≤ i := by simpa using h1
  have e0 : body.take i = body := List.take_of_length_le h1
  rw [e0]
  refine gA rfl ?_
  refine go_lp (σ := { x : List Str × Nat // closedL (fun occ => plainB occ) (fun occ => fun _ => false) body occ = closedN (fun occ => plainB occ) (fun occ => fun _ => false) body (x.2 + 1) x.1 ∧ miss (cands body) x.1 ≤ x.2 ∧ x.1.length + miss (cands body) x.1 ≤ (occ ++ body.flatMap posOcc).length + miss (cands body) (occ ++ body.flatMap posOcc) })
    (fun x => ⟨[(0, .iv (lits body)), (1, .mp 0), (2, .clo (.func 76) [] [.ptr 1 0]), (3, .clo (.func 77) [] [])], [(0, some (nmO (occM x.1.1))), (1, some (.cells [.mp 0]))], 2⟩) (fun x => miss (cands body) x.1.1)
    ⟨(occ ++ body.flatMap posOcc, 3 * body.length), rfl, by dsimp only; omega, Nat.le_refl _⟩ [] (wk rfl rfl rfl ⟨.refl _, rfl, .refl _, rfl, .refl _, rfl, .refl _, rfl, trivial⟩ (hM rfl rfl rfl ⟨⟨_, rfl, .of_eq rfl⟩, Nat.le_of_ble_eq_true rfl, rfl, trivial⟩) rfl) ?_
  rintro ⟨⟨ok, f⟩, hx1, hx2, hx3⟩
  dsimp only at hx1 hx2 hx3 ⊢
  rw [List.length_append] at hx3
  refine gA rfl ?_
  refine go_for 0 body.length (Nat.zero_le _) (fun i => ⟨[(0, .iv (lits body)), (1, .mp 0), (2, .clo (.func 76) [] [.ptr 1 0]), (3, .clo (.func 77) [] []), (28, .iv (lits body)), (29, pI body.length), (30, pI i)], [(0, some (nmO (occM ok))), (1, some (.cells [.mp 0]))], 2⟩) (fun i => firstV ((fun occ => plainB occ) ok) ((fun occ => fun _ => false) ok) ok (body.take i) = none) [] rfl
    (wk rfl rfl rfl ⟨.refl _, rfl, .refl _, rfl, .refl _, rfl, .refl _, rfl, .refl _, rfl, .refl _, rfl, .refl _, rfl, trivial⟩ (hM rfl rfl rfl ⟨⟨_, rfl, .of_eq rfl⟩, Nat.le_of_ble_eq_true rfl, rfl, trivial⟩) rfl) fun i hi hJ => ?_
  refine gA rfl ?_
  refine And.intro (fun h3 => ?_) (fun h3 => ?_)
  · have h3 : i < body.length := by simpa using h3
    have hsl := Lit.sizes_get body i h3
    have hag := (body.getD i default).agg_size
    have found : ∀ v, newV ((fun occ => plainB occ) ok) ((fun occ => fun _ => false) ok) ok (body.getD i default) = some v → closedL (fun occ => plainB occ) (fun occ => fun _ => false) body occ = closedN (fun occ => plainB occ) (fun occ => fun _ => false) body (f - 1 + 1) (ok ++ [v]) ∧ miss (cands body) (ok ++ [v]) ≤ f - 1 ∧
        (ok ++ [v]).length + miss (cands body) (ok ++ [v]) ≤ (occ ++ body.flatMap posOcc).length + miss (cands body) (occ ++ body.flatMap posOcc) ∧ miss (cands body) (ok ++ [v]) < miss (cands body) ok := by
      intro v hv
      have hf := firstV_hit hJ h3 hv
      obtain ⟨g1, g2⟩ := firstV_new hf
      have hlt := miss_lt g1 g2
      have hlt2 : miss (cands body) (ok ++ [v]) = miss (cands body) (withL ok v) := by
        unfold miss
        congr 2
        funext x
        congr 1
        rw [Bool.eq_iff_iff, inL_iff, inL_iff, mem_withL, List.mem_append, List.mem_singleton]
      have hf1 : f - 1 + 1 = f := by omega
      refine ⟨?_, by omega, ?_, by omega⟩
      · rw [hx1, closedN_some hf, hf1]
      · rw [List.length_append, List.length_append, List.length_singleton]; omega
    have hlk1 := occM_lk ok (copB (plainB ok) ok (body.getD i default)).1
    have hct1 := cntL_le ok (copB (plainB ok) ok (body.getD i default)).1
    have hlk2 := occM_lk ok (body.getD i default).avar
    have hct2 := cntL_le ok (body.getD i default).avar
    refine gA rfl (go_det [0, 1] (d130B  ok (body.getD i default) (by omega)) rfl rfl rfl rfl rfl rfl rfl rfl ?_)
    refine gA rfl ?_
    refine And.intro (fun h4 => ?_) (fun h4 => ?_)
    · obtain ⟨g1, g2, g3, g4⟩ := found _ (if_pos h4)
      refine gA rfl ?_
      exact ⟨⟨(_, f - 1), g1, g2, g3⟩, [], g4, wk rfl rfl rfl ⟨.refl _, rfl, .refl _, rfl, .refl _, rfl, .refl _, rfl, trivial⟩ (hM rfl (by dsimp only; rw [occM_snoc]; rfl) rfl ⟨⟨_, rfl, .of_eq rfl⟩, Nat.le_of_ble_eq_true rfl, rfl, trivial⟩) rfl⟩
    · refine gA rfl ?_
      refine And.intro (fun h5 => ?_) (fun h5 => ?_)
      · have h5 : (body.getD i default).kind = 4 := by simpa using h5
        refine gA rfl ?_
        refine And.intro (fun h6 => ?_) (fun h6 => ?_)
        · have h6 : inL ok (body.getD i default).avar = false := by rw [inL_cnt]; simpa using h6
          refine gA rfl (go_pure (c77 (body.getD i default).agg) rfl rfl rfl rfl rfl rfl ?_)
          refine gA rfl ?_
          refine And.intro (fun h7 => ?_) (fun h7 => ?_)
          · obtain ⟨g1, g2, g3, g4⟩ := found _ ((if_neg (by rw [h4]; simp)).trans (if_pos ⟨h5, h6, h7⟩))
            refine gA rfl ?_
            exact ⟨⟨(_, f - 1), g1, g2, g3⟩, [], g4, wk rfl rfl rfl ⟨.refl _, rfl, .refl _, rfl, .refl _, rfl, .refl _, rfl, trivial⟩ (hM rfl (by dsimp only; rw [occM_snoc]; rfl) rfl ⟨⟨_, rfl, .of_eq rfl⟩, Nat.le_of_ble_eq_true rfl, rfl, trivial⟩) rfl⟩
          · refine gA rfl ?_
            exact ⟨h3, firstV_step hJ h3 ((if_neg (by rw [h4]; simp)).trans (if_neg (fun h => nomatch (h.2.2.symm.trans h7)))), [], wk rfl rfl rfl ⟨.refl _, rfl, .refl _, rfl, .refl _, rfl, .refl _, rfl, .refl _, rfl, .refl _, rfl, .refl _, rfl, trivial⟩ (hM rfl rfl rfl ⟨⟨_, rfl, .of_eq rfl⟩, Nat.le_of_ble_eq_true rfl, rfl, trivial⟩) rfl⟩
        · have h6 : inL ok (body.getD i default).avar = true := by rw [inL_cnt]; simpa using h6
          refine gA rfl ?_
          exact ⟨h3, firstV_step hJ h3 ((if_neg (by rw [h4]; simp)).trans (if_neg (by rw [h6]; simp))), [], wk rfl rfl rfl ⟨.refl _, rfl, .refl _, rfl, .refl _, rfl, .refl _, rfl, .refl _, rfl, .refl _, rfl, .refl _, rfl, trivial⟩ (hM rfl rfl rfl ⟨⟨_, rfl, .of_eq rfl⟩, Nat.le_of_ble_eq_true rfl, rfl, trivial⟩) rfl⟩
      · have h5 : ¬ (body.getD i default).kind = 4 := by simpa using h5
        refine gA rfl ?_
        exact ⟨h3, firstV_step hJ h3 ((if_neg (by rw [h4]; simp)).trans (if_neg (fun h => h5 h.1))), [], wk rfl rfl rfl ⟨.refl _, rfl, .refl _, rfl, .refl _, rfl, .refl _, rfl, .refl _, rfl, .refl _, rfl, .refl _, rfl, trivial⟩ (hM rfl rfl rfl ⟨⟨_, rfl, .of_eq rfl⟩, Nat.le_of_ble_eq_true rfl, rfl, trivial⟩) rfl⟩
  · have h3 : body.length ≤ i := by simpa using h3
    rw [List.take_of_length_le h3] at hJ
    have hcl2 : closedL (fun occ => plainB occ) (fun occ => fun _ => false) body occ = ok := by rw [hx1, closedN_none hJ]
    refine gA rfl (end_det [] (by first | exact .inr rfl | exact .inl rfl) rfl (wk rfl rfl rfl ⟨.refl _, rfl, trivial⟩ (hM rfl (by rw [hcl2]) rfl ⟨⟨_, rfl, .of_eq rfl⟩, Nat.le_of_ble_eq_true rfl, rfl, trivial⟩) rfl))
theorem d130C (r : Rule) (occ : List Str) (l : Lit) (hb : l.size ≤ 100000000000) : Det Tryz.prog 130 [ag l.c, .clo (.func 125) [.mp 0] [], .mp 0] [nmO (occM occ), .cells [.iv (bookI r)], .cells [.mp 0]] (.tup [pS (copB (coversB occ) occ l).1, pB (copB (coversB occ) occ l).2]) [(0, some (nmO (occM occ))), (1, some (.cells [.iv (bookI r)])), (2, some (.cells [.mp 0]))] 3 := by
  have hsz := l.size_eq
  have hl1 := occM_lk occ l.left.var
  have hl2 := occM_lk occ l.right.var
  refine det_end tyA_ok Tryz.func130 rfl (by decide) Tryz.ntmps130 rfl (by simp) ?_
  refine gA rfl ?_
  refine And.intro (fun h1 => ?_) (fun h1 => ?_)
  rotate_left
  · have h1 : ¬ l.kind = 3 := by simpa using h1
    refine gA rfl (end_det [] (by first | exact .inr rfl | exact .inl rfl) rfl (wk rfl rfl rfl ⟨.of_eq (tupE (a := (ByteArray.empty, false)) (by rw [copB, if_pos (.inl h1)])), rfl, trivial⟩ (hM rfl rfl rfl ⟨⟨_, rfl, .of_eq rfl⟩, Nat.le_of_ble_eq_true rfl, rfl, ⟨_, rfl, .of_eq rfl⟩, Nat.le_of_ble_eq_true rfl, rfl, trivial⟩) rfl))
  have h1 : l.kind = 3 := by simpa using h1
  refine gA rfl ?_
  refine And.intro (fun h2 => ?_) (fun h2 => ?_)
  · have h2 : ¬ l.op = 1 := by simpa using h2
    refine gA rfl (end_det [] (by first | exact .inr rfl | exact .inl rfl) rfl (wk rfl rfl rfl ⟨.of_eq (tupE (a := (ByteArray.empty, false)) (by rw [copB, if_pos (.inr h2)])), rfl, trivial⟩ (hM rfl rfl rfl ⟨⟨_, rfl, .of_eq rfl⟩, Nat.le_of_ble_eq_true rfl, rfl, ⟨_, rfl, .of_eq rfl⟩, Nat.le_of_ble_eq_true rfl, rfl, trivial⟩) rfl))
  have h2 : l.op = 1 := by simpa using h2
  have e1 : copB (coversB occ) occ l = if l.left.kind = 1 ∧ inL occ l.left.var = false ∧ (coversB occ) l.right = true then (l.left.var, true) else if l.right.kind = 1 ∧ inL occ l.right.var = false ∧ (coversB occ) l.left = true then (l.right.var, true) else (ByteArray.empty, false) := by
    rw [copB, if_neg (by simp [h1, h2])]
  repeat' (first
    | (refine gA rfl (And.intro (fun _ => ?_) (fun _ => ?_)))
    | (refine gA rfl (go_det [0] (d125 occ l.left (by omega)) rfl rfl rfl rfl rfl rfl rfl rfl ?_))
    | (refine gA rfl (go_det [0] (d125 occ l.right (by omega)) rfl rfl rfl rfl rfl rfl rfl rfl ?_))
    | fail)
  all_goals first
    | (refine gA rfl (end_det [] (.inr rfl) rfl (wk rfl rfl rfl ⟨.of_eq (tupE (a := (ByteArray.empty, false)) ?_), rfl, trivial⟩ (hM rfl rfl rfl ⟨⟨_, rfl, .of_eq rfl⟩, Nat.le_of_ble_eq_true rfl, rfl, ⟨_, rfl, .of_eq rfl⟩, Nat.le_of_ble_eq_true rfl, rfl, trivial⟩) rfl)); rw [e1]; simp only [inL_cnt] at *; simp_all; done)
    | (refine gA rfl (end_det [] (.inr rfl) rfl (wk rfl rfl rfl ⟨.of_eq (tupE (a := (l.left.var, true)) ?_), rfl, trivial⟩ (hM rfl rfl rfl ⟨⟨_, rfl, .of_eq rfl⟩, Nat.le_of_ble_eq_true rfl, rfl, ⟨_, rfl, .of_eq rfl⟩, Nat.le_of_ble_eq_true rfl, rfl, trivial⟩) rfl)); rw [e1]; simp only [inL_cnt] at *; simp_all; done)
    | (refine gA rfl (end_det [] (.inr rfl) rfl (wk rfl rfl rfl ⟨.of_eq (tupE (a := (l.right.var, true)) ?_), rfl, trivial⟩ (hM rfl rfl rfl ⟨⟨_, rfl, .of_eq rfl⟩, Nat.le_of_ble_eq_true rfl, rfl, ⟨_, rfl, .of_eq rfl⟩, Nat.le_of_ble_eq_true rfl, rfl, trivial⟩) rfl)); rw [e1]; simp only [inL_cnt] at *; simp_all; done)
    | (exfalso; simp_all; done)
theorem d75C (r : Rule) (occ : List Str) (body : List Lit) (hb : occ.length + 8 * Lit.sizes body ≤ 100000000000) : Det Tryz.prog 75 [.iv (lits body), .mp 0, .clo (.func 125) [.mp 0] [], .clo (.func 126) [] [.ptr 1 0, .ptr 2 0]] [nmO (occM occ), .cells [.iv (bookI r)], .cells [.mp 0]] (.tup []) [(0, some (nmO (occM (closedL (fun occ => coversB occ) (fun occ => moreB (outerOcc r) occ) body occ)))), (1, some (.cells [.iv (bookI r)])), (2, some (.cells [.mp 0]))] 3 := by
  have hal := Lit.length_sizes body
  have hpl := posOcc_len body
  have hcl := cands_len body
  have hml := miss_le (cands body) (occ ++ body.flatMap posOcc)
  refine det_end tyA_ok Tryz.func75 rfl (by decide) Tryz.ntmps75 rfl (by simp) ?_
  refine gA rfl ?_
  refine go_for 0 body.length (Nat.zero_le _) (fun i => ⟨[(0, .iv (lits body)), (1, .mp 0), (2, .clo (.func 125) [.mp 0] []), (3, .clo (.func 126) [] [.ptr 1 0, .ptr 2 0]), (14, .iv (lits body)), (15, pI body.length), (16, pI i)], [(0, some (nmO (occM (occ ++ (body.take i).flatMap posOcc)))), (1, some (.cells [.iv (bookI r)])), (2, some (.cells [.mp 0]))], 3⟩) (fun _ => True) [] trivial
    (wk rfl rfl rfl ⟨.refl _, rfl, .refl _, rfl, .refl _, rfl, .refl _, rfl, .refl _, rfl, .refl _, rfl, .refl _, rfl, trivial⟩ (hM rfl (by simp) rfl ⟨⟨_, rfl, .of_eq rfl⟩, Nat.le_of_ble_eq_true rfl, rfl, ⟨_, rfl, .of_eq rfl⟩, Nat.le_of_ble_eq_true rfl, rfl, trivial⟩) rfl) fun i hi _ => ?_
  refine gA rfl ?_
  refine And.intro (fun h1 => ?_) (fun h1 => ?_)
  · have h1 : i < body.length := by simpa using h1
    have hs := flatMap_step (f := posOcc) h1
    have hn := Lit.sizes_next body i h1
    have hv := posOcc_len (body.take i)
    have hsz := (body.getD i default).size_eq
    refine gA rfl ?_
    refine And.intro (fun h2 => ?_) (fun h2 => ?_)
    · have h2 : (body.getD i default).kind = 1 := by simpa using h2
      rw [show posOcc (body.getD i default) = _ from if_pos h2] at hs
      refine gA rfl (go_det [0] (d88 (occ ++ (body.take i).flatMap posOcc) (body.getD i default).atom (by rw [List.length_append]; omega)) rfl rfl rfl rfl rfl rfl rfl rfl ?_)
      refine gA rfl ?_
      exact ⟨h1, trivial, [], wk rfl rfl rfl ⟨.refl _, rfl, .refl _, rfl, .refl _, rfl, .refl _, rfl, .refl _, rfl, .refl _, rfl, .refl _, rfl, trivial⟩ (hM rfl (by rw [hs, List.append_assoc]) rfl ⟨⟨_, rfl, .of_eq rfl⟩, Nat.le_of_ble_eq_true rfl, rfl, ⟨_, rfl, .of_eq rfl⟩, Nat.le_of_ble_eq_true rfl, rfl, trivial⟩) rfl⟩
    · have h2 : ¬ (body.getD i default).kind = 1 := by simpa using h2
      rw [show posOcc (body.getD i default) = _ from if_neg h2, List.append_nil] at hs
      refine gA rfl ?_
      exact ⟨h1, trivial, [], wk rfl rfl rfl ⟨.refl _, rfl, .refl _, rfl, .refl _, rfl, .refl _, rfl, .refl _, rfl, .refl _, rfl, .refl _, rfl, trivial⟩ (hM rfl (by rw [hs]) rfl ⟨⟨_, rfl, .of_eq rfl⟩, Nat.le_of_ble_eq_true rfl, rfl, ⟨_, rfl, .of_eq rfl⟩, Nat.le_of_ble_eq_true rfl, rfl, trivial⟩) rfl⟩
  have h1 : body.length ≤ i := by simpa using h1
  have e0 : body.take i = body := List.take_of_length_le h1
  rw [e0]
  refine gA rfl ?_
  refine go_lp (σ := { x : List Str × Nat // closedL (fun occ => coversB occ) (fun occ => moreB (outerOcc r) occ) body occ = closedN (fun occ => coversB occ) (fun occ => moreB (outerOcc r) occ) body (x.2 + 1) x.1 ∧ miss (cands body) x.1 ≤ x.2 ∧ x.1.length + miss (cands body) x.1 ≤ (occ ++ body.flatMap posOcc).length + miss (cands body) (occ ++ body.flatMap posOcc) })
    (fun x => ⟨[(0, .iv (lits body)), (1, .mp 0), (2, .clo (.func 125) [.mp 0] []), (3, .clo (.func 126) [] [.ptr 1 0, .ptr 2 0])], [(0, some (nmO (occM x.1.1))), (1, some (.cells [.iv (bookI r)])), (2, some (.cells [.mp 0]))], 3⟩) (fun x => miss (cands body) x.1.1)
    ⟨(occ ++ body.flatMap posOcc, 3 * body.length), rfl, by dsimp only; omega, Nat.le_refl _⟩ [] (wk rfl rfl rfl ⟨.refl _, rfl, .refl _, rfl, .refl _, rfl, .refl _, rfl, trivial⟩ (hM rfl rfl rfl ⟨⟨_, rfl, .of_eq rfl⟩, Nat.le_of_ble_eq_true rfl, rfl, ⟨_, rfl, .of_eq rfl⟩, Nat.le_of_ble_eq_true rfl, rfl, trivial⟩) rfl) ?_
  rintro ⟨⟨ok, f⟩, hx1, hx2, hx3⟩
  dsimp only at hx1 hx2 hx3 ⊢
  rw [List.length_append] at hx3
  refine gA rfl ?_
  refine go_for 0 body.length (Nat.zero_le _) (fun i => ⟨[(0, .iv (lits body)), (1, .mp 0), (2, .clo (.func 125) [.mp 0] []), (3, .clo (.func 126) [] [.ptr 1 0, .ptr 2 0]), (28, .iv (lits body)), (29, pI body.length), (30, pI i)], [(0, some (nmO (occM ok))), (1, some (.cells [.iv (bookI r)])), (2, some (.cells [.mp 0]))], 3⟩) (fun i => firstV ((fun occ => coversB occ) ok) ((fun occ => moreB (outerOcc r) occ) ok) ok (body.take i) = none) [] rfl
    (wk rfl rfl rfl ⟨.refl _, rfl, .refl _, rfl, .refl _, rfl, .refl _, rfl, .refl _, rfl, .refl _, rfl, .refl _, rfl, trivial⟩ (hM rfl rfl rfl ⟨⟨_, rfl, .of_eq rfl⟩, Nat.le_of_ble_eq_true rfl, rfl, ⟨_, rfl, .of_eq rfl⟩, Nat.le_of_ble_eq_true rfl, rfl, trivial⟩) rfl) fun i hi hJ => ?_
  refine gA rfl ?_
  refine And.intro (fun h3 => ?_) (fun h3 => ?_)
  · have h3 : i < body.length := by simpa using h3
    have hsl := Lit.sizes_get body i h3
    have hag := (body.getD i default).agg_size
    have found : ∀ v, newV ((fun occ => coversB occ) ok) ((fun occ => moreB (outerOcc r) occ) ok) ok (body.getD i default) = some v → closedL (fun occ => coversB occ) (fun occ => moreB (outerOcc r) occ) body occ = closedN (fun occ => coversB occ) (fun occ => moreB (outerOcc r) occ) body (f - 1 + 1) (ok ++ [v]) ∧ miss (cands body) (ok ++ [v]) ≤ f - 1 ∧
        (ok ++ [v]).length + miss (cands body) (ok ++ [v]) ≤ (occ ++ body.flatMap posOcc).length + miss (cands body) (occ ++ body.flatMap posOcc) ∧ miss (cands body) (ok ++ [v]) < miss (cands body) ok := by
      intro v hv
      have hf := firstV_hit hJ h3 hv
      obtain ⟨g1, g2⟩ := firstV_new hf
      have hlt := miss_lt g1 g2
      have hlt2 : miss (cands body) (ok ++ [v]) = miss (cands body) (withL ok v) := by
        unfold miss
        congr 2
        funext x
        congr 1
        rw [Bool.eq_iff_iff, inL_iff, inL_iff, mem_withL, List.mem_append, List.mem_singleton]
      have hf1 : f - 1 + 1 = f := by omega
      refine ⟨?_, by omega, ?_, by omega⟩
      · rw [hx1, closedN_some hf, hf1]
      · rw [List.length_append, List.length_append, List.length_singleton]; omega
    have hlk1 := occM_lk ok (copB (coversB ok) ok (body.getD i default)).1
    have hct1 := cntL_le ok (copB (coversB ok) ok (body.getD i default)).1
    have hlk2 := occM_lk ok (body.getD i default).avar
    have hct2 := cntL_le ok (body.getD i default).avar
    refine gA rfl (go_det [0, 1, 2] (d130C r ok (body.getD i default) (by omega)) rfl rfl rfl rfl rfl rfl rfl rfl ?_)
    refine gA rfl ?_
    refine And.intro (fun h4 => ?_) (fun h4 => ?_)
    · obtain ⟨g1, g2, g3, g4⟩ := found _ (if_pos h4)
      refine gA rfl ?_
      exact ⟨⟨(_, f - 1), g1, g2, g3⟩, [], g4, wk rfl rfl rfl ⟨.refl _, rfl, .refl _, rfl, .refl _, rfl, .refl _, rfl, trivial⟩ (hM rfl (by dsimp only; rw [occM_snoc]; rfl) rfl ⟨⟨_, rfl, .of_eq rfl⟩, Nat.le_of_ble_eq_true rfl, rfl, ⟨_, rfl, .of_eq rfl⟩, Nat.le_of_ble_eq_true rfl, rfl, trivial⟩) rfl⟩
    · refine gA rfl ?_
      refine And.intro (fun h5 => ?_) (fun h5 => ?_)
      · have h5 : (body.getD i default).kind = 4 := by simpa using h5
        refine gA rfl ?_
        refine And.intro (fun h6 => ?_) (fun h6 => ?_)
        · have h6 : inL ok (body.getD i default).avar = false := by rw [inL_cnt]; simpa using h6
          refine gA rfl (go_det [0, 1, 2] (d126 r ok (body.getD i default).agg (by omega)) rfl rfl rfl rfl rfl rfl rfl rfl ?_)
          refine gA rfl ?_
          refine And.intro (fun h7 => ?_) (fun h7 => ?_)
          · obtain ⟨g1, g2, g3, g4⟩ := found _ ((if_neg (by rw [h4]; simp)).trans (if_pos ⟨h5, h6, h7⟩))
            refine gA rfl ?_
            exact ⟨⟨(_, f - 1), g1, g2, g3⟩, [], g4, wk rfl rfl rfl ⟨.refl _, rfl, .refl _, rfl, .refl _, rfl, .refl _, rfl, trivial⟩ (hM rfl (by dsimp only; rw [occM_snoc]; rfl) rfl ⟨⟨_, rfl, .of_eq rfl⟩, Nat.le_of_ble_eq_true rfl, rfl, ⟨_, rfl, .of_eq rfl⟩, Nat.le_of_ble_eq_true rfl, rfl, trivial⟩) rfl⟩
          · refine gA rfl ?_
            exact ⟨h3, firstV_step hJ h3 ((if_neg (by rw [h4]; simp)).trans (if_neg (fun h => nomatch (h.2.2.symm.trans h7)))), [], wk rfl rfl rfl ⟨.refl _, rfl, .refl _, rfl, .refl _, rfl, .refl _, rfl, .refl _, rfl, .refl _, rfl, .refl _, rfl, trivial⟩ (hM rfl rfl rfl ⟨⟨_, rfl, .of_eq rfl⟩, Nat.le_of_ble_eq_true rfl, rfl, ⟨_, rfl, .of_eq rfl⟩, Nat.le_of_ble_eq_true rfl, rfl, trivial⟩) rfl⟩
        · have h6 : inL ok (body.getD i default).avar = true := by rw [inL_cnt]; simpa using h6
          refine gA rfl ?_
          exact ⟨h3, firstV_step hJ h3 ((if_neg (by rw [h4]; simp)).trans (if_neg (by rw [h6]; simp))), [], wk rfl rfl rfl ⟨.refl _, rfl, .refl _, rfl, .refl _, rfl, .refl _, rfl, .refl _, rfl, .refl _, rfl, .refl _, rfl, trivial⟩ (hM rfl rfl rfl ⟨⟨_, rfl, .of_eq rfl⟩, Nat.le_of_ble_eq_true rfl, rfl, ⟨_, rfl, .of_eq rfl⟩, Nat.le_of_ble_eq_true rfl, rfl, trivial⟩) rfl⟩
      · have h5 : ¬ (body.getD i default).kind = 4 := by simpa using h5
        refine gA rfl ?_
        exact ⟨h3, firstV_step hJ h3 ((if_neg (by rw [h4]; simp)).trans (if_neg (fun h => h5 h.1))), [], wk rfl rfl rfl ⟨.refl _, rfl, .refl _, rfl, .refl _, rfl, .refl _, rfl, .refl _, rfl, .refl _, rfl, .refl _, rfl, trivial⟩ (hM rfl rfl rfl ⟨⟨_, rfl, .of_eq rfl⟩, Nat.le_of_ble_eq_true rfl, rfl, ⟨_, rfl, .of_eq rfl⟩, Nat.le_of_ble_eq_true rfl, rfl, trivial⟩) rfl⟩
  · have h3 : body.length ≤ i := by simpa using h3
    rw [List.take_of_length_le h3] at hJ
    have hcl2 : closedL (fun occ => coversB occ) (fun occ => moreB (outerOcc r) occ) body occ = ok := by rw [hx1, closedN_none hJ]
    refine gA rfl (end_det [] (by first | exact .inr rfl | exact .inl rfl) rfl (wk rfl rfl rfl ⟨.refl _, rfl, trivial⟩ (hM rfl (by rw [hcl2]) rfl ⟨⟨_, rfl, .of_eq rfl⟩, Nat.le_of_ble_eq_true rfl, rfl, ⟨_, rfl, .of_eq rfl⟩, Nat.le_of_ble_eq_true rfl, rfl, trivial⟩) rfl))
end Go.Proofs.YtpnclpbkecjinaaGreatDoorR
