/-
  SoundVars (up to the bound): what its proof needs. Part 7 of 7.
-/
import Derived.Test.YtpnclpbkecjinaaGreatDoorRPart6
import Derived.KernelRfl
import Derived.Test.YtpnclpbkecjinaaGreatDoorRRows
import Derived.WalkKit
import Derived.ProofKit
import Derived.OpenShut
import Derived.Deep.DeepHandedRow
import Derived.Lib.LaidTab
import Derived.LaidSub
import Derived.MakeChecks
import Derived.Test.YtpnclpbkecjinaaGreatDoorRCards
import Derived.Test.YtpnclpbkecjinaaGreatDoorRTie
/-
  SoundVars, but for what is told of the example.
-/
namespace Go.Proofs.YtpnclpbkecjinaaGreatDoorR
open Go Go.Al
set_option maxRecDepth 10000

theorem vr_ag {M : Mem} {N N' : Nm} {U U' : Nat → Prop} {l : List IV} {x : Value} (h : VR M N U (ag l) x) : VR M N' U' (ag l) x := by
  generalize hq : ag l = q at h
  cases h with
  | agg cs ys hl hr =>
    cases hq
    refine .agg _ _ hl fun j p hj => ?_
    have := hr j p hj
    rw [List.getElem?_map, Option.map_eq_some_iff] at hj
    obtain ⟨y, _, rfl⟩ := hj
    generalize ys.getD j undef = v at this ⊢
    cases this with
    | iv _ _ h => exact .iv _ _ h
  | _ => cases hq
/-- A contract that asks for frozen data, called with a row of the call's own. -/
theorem ownR_of {P : Program} {k : FuncId} {p : PV} {sz : Nat} {es : List (List PV)} {el : Nat → List IV} {l l0 : List IV} (h : Al.Pure P k [ag l0] (ag l)) (hp : p.frz 0 sz el = ag l0) (hel : ∀ k e, es[k]? = some e → e = (el k).map .iv) (hin : p.inRow 0 sz es.length) :
    Det P k [p] [.row sz es] (ag l) [] 1 := by
  refine ⟨h.1, fun M N w vs hr hl hv => ?_⟩
  obtain ⟨M1, h1, h2, h4⟩ := frz_row (n := 1) hr (i := 0) rfl hel
  have hr2 : Rel M1 N (· < 0) (initH 0 []) w := ⟨h2.frz, fun i o hi => (nomatch hi), fun i o hi => (nomatch hi), fun i o hi => (nomatch hi), fun i j o p hi => (nomatch hi)⟩
  refine (h.2 M1 N w vs hr2 hl fun j q hj => ?_).mono ?_
  · cases j with
    | zero =>
      cases hj
      have := h4 _ _ (hv 0 _ rfl) hin
      rw [hp] at this
      exact vr_ag this
    | succ j => cases hj
  · rintro _ w' ⟨x, M', N', r, h', n', rfl, ⟨rfl, rfl, rfl⟩, hx, hrr, hvr⟩
    refine ⟨x, M', N, ag l, [], 1, rfl, ⟨rfl, rfl, rfl⟩, ?_, ⟨hrr.frz, fun i o hi => (nomatch hi), fun i o hi => (nomatch hi), fun i o hi => (nomatch hi), fun i j o p hi => (nomatch hi)⟩, vr_ag hvr⟩
    refine ⟨hx.os, hx.tape, hx.output, hx.size, fun b hb hn => hx.keep b hb fun i o hi => (nomatch hi), h1.mle.trans hx.mle, fun b c g1 g2 => ?_, .refl _ _, fun _ h => h, fun i o hi => (nomatch hi)⟩
    cases g3 : M1 b with
    | some c' => exact h1.mnew b c' g1 g3
    | none =>
      rcases hx.mnew b c g3 g2 with g4 | ⟨i, o, g4, _⟩
      · exact .inl g4
      · exact (nomatch g4)

theorem c14n (r : Rule) (hb : r.size ≤ 10000000) : Det Tryz.prog 14 [.agg [.iv (.v (.slice none 0 0)), .sl 0 0 1 5]] [rowI 5 [r] Rule.c] (ag (⟨[], [r]⟩ : Prog).c) [] 1 := by
  have h0 : Pure Tryz.prog 14 [ag [.v (.slice none 0 0), slc 5 [r] Rule.c]] (ag (⟨[], [r]⟩ : Prog).c) :=
    Al.Pure.le (aa := [ag [.v (.slice none 0 0), slc 5 [r] Rule.c]]) (c14 ⟨[], [r]⟩ (by simp [Prog.size]; omega)) ⟨.agg ⟨.nil _ _, .refl _, trivial⟩, trivial⟩
  refine ownR_of h0 (el := fun k => ([r].getD k default).c) ?_ (rowI_el rfl) (by simp [PV.inRow, inRowL])
  simp only [PV.frz, frzL, Nat.zero_add, show Nat.beq 0 0 = true from rfl, cond_true]
  rfl

/-! The four lists, as the document has them. -/
theorem c29' (r : Rule) (hb : r.size ≤ 10000000) : Pure Tryz.prog 29 [ag r.c] (.iv (strs (outer r))) := told_outer r ▸ c29 sortS r hb
theorem c31' (r : Rule) (hb : r.size ≤ 10000000) : Pure Tryz.prog 31 [ag r.c] (.iv (strs (limitedL r))) := told_limited r ▸ c31 sortS r hb
theorem c33' (r : Rule) (hb : r.size ≤ 10000000) : Pure Tryz.prog 33 [ag r.c] (.iv (strs (plainL r))) := told_plain r ▸ c33 sortS r hb
theorem c35' (r : Rule) (lit : Int) (hb : r.size ≤ 10000000) : Pure Tryz.prog 35 [ag r.c, pI lit] (.iv (strs (localL r lit))) := told_local r lit ▸ c35 sortS r lit hb
theorem c28s (a : List Str) : Pure Tryz.prog 28 [.iv (strs a), .iv (strs a)] (pB true) := by
  have := c28 a a
  rwa [sameS, decide_eq_true rfl] at this
theorem bkT : PVle (pB true) (.kb true) := fun _ _ _ _ h => by
  cases h with
  | iv _ _ h => cases h; exact .kb _
set_option maxHeartbeats 400000 in
theorem vars_gen (r : Rule) (lit : Int) (hb : r.size ≤ 10000000) (O L K C : List Str) (hk : Pure Tryz.prog 11 [] (pB true)) (h29 : Pure Tryz.prog 29 [ag r.c] (.iv (strs O))) (h30 : Pure Tryz.prog 30 [ag r.c] (.iv (strs O)))
    (h31 : Pure Tryz.prog 31 [ag r.c] (.iv (strs L))) (h32 : Pure Tryz.prog 32 [ag r.c] (.iv (strs L))) (h33 : Pure Tryz.prog 33 [ag r.c] (.iv (strs K))) (h34 : Pure Tryz.prog 34 [ag r.c] (.iv (strs K)))
    (h35 : Pure Tryz.prog 35 [ag r.c, pI lit] (.iv (strs C))) (h36 : Pure Tryz.prog 36 [ag r.c, pI lit] (.iv (strs C))) : Pure Tryz.prog 7 [ag r.c, pI lit] (pB true) := by
  refine pure_end tyA_ok Tryz.func7 rfl (by decide) Tryz.ntmps7 rfl (by simp) rfl ?_
  refine goR rfl (by trivial) (go_pure (hk) rfl rfl rfl rfl rfl rfl ?_)
  refine goR rfl (by trivial) (go_det [1] (c14n r hb) rfl rfl rfl rfl rfl rfl rfl rfl ?_)
  refine goR rfl (by simp) (go_ddet tyA_ok [] (Pure.det (h29)) rfl rfl rfl rfl rfl rfl rfl rfl rfl rfl rfl rfl (by trivial) rfl (by (repeat' (first | exact trivial | exact rfl | exact PVle.refl _ | exact PVle.bk (by assumption) | apply And.intro)) <;> first | omega | (simp only [Int.toNat_natCast]; omega) | (simp; done) | (simp; omega)) ?_)
  refine goR rfl (by trivial) (go_ddet tyA_ok [] (Pure.det (h30)) rfl rfl rfl rfl rfl rfl rfl rfl rfl rfl rfl rfl (by trivial) rfl (by trivial) ?_)
  refine goR rfl (by trivial) (go_ddet tyA_ok [] (Pure.det (c28s O)) rfl rfl rfl rfl rfl rfl rfl rfl rfl rfl rfl rfl (by trivial) rfl (by trivial) ?_)
  refine go_run mixA tyA_ok 3 rfl (by trivial) ?_
  refine go_wk (L := []) (t := ⟨[(1, pI lit), (2, .ptr 0 0), (5, pB true), (6, .ptr 2 0), (7, pB true)], [(0, some (cellsI r.c)), (2, some (cellsI r.c))], 3⟩) (wk rfl rfl rfl ⟨.refl _, rfl, .refl _, rfl, .refl _, rfl, .refl _, rfl, .refl _, rfl, trivial⟩ (hC rfl rfl rfl (hC rfl rfl rfl trivial)) rfl) ?_
  refine goR rfl (by trivial) (go_ddet tyA_ok [] (Pure.det (h31)) rfl rfl rfl rfl rfl rfl rfl rfl rfl rfl rfl rfl (by trivial) rfl (by (repeat' (first | exact trivial | exact rfl | exact PVle.refl _ | exact PVle.bk (by assumption) | apply And.intro)) <;> first | omega | (simp only [Int.toNat_natCast]; omega) | (simp; done) | (simp; omega)) ?_)
  refine goR rfl (by trivial) (go_ddet tyA_ok [] (Pure.det (h32)) rfl rfl rfl rfl rfl rfl rfl rfl rfl rfl rfl rfl (by trivial) rfl (by trivial) ?_)
  refine goR rfl (by trivial) (go_ddet tyA_ok [] (Pure.det (c28s L)) rfl rfl rfl rfl rfl rfl rfl rfl rfl rfl rfl rfl (by trivial) rfl (by trivial) ?_)
  refine go_run mixA tyA_ok 3 rfl (by trivial) ?_
  refine go_wk (L := []) (t := ⟨[(1, pI lit), (2, .ptr 0 0), (5, pB true), (6, .ptr 2 0), (7, pB true), (8, pB true)], [(0, some (cellsI r.c)), (2, some (cellsI r.c))], 3⟩) (wk rfl rfl rfl ⟨.refl _, rfl, .refl _, rfl, .refl _, rfl, .refl _, rfl, .refl _, rfl, .refl _, rfl, trivial⟩ (hC rfl rfl rfl (hC rfl rfl rfl trivial)) rfl) ?_
  refine goR rfl (by trivial) (go_ddet tyA_ok [] (Pure.det (h33)) rfl rfl rfl rfl rfl rfl rfl rfl rfl rfl rfl rfl (by trivial) rfl (by (repeat' (first | exact trivial | exact rfl | exact PVle.refl _ | exact PVle.bk (by assumption) | apply And.intro)) <;> first | omega | (simp only [Int.toNat_natCast]; omega) | (simp; done) | (simp; omega)) ?_)
  refine goR rfl (by trivial) (go_ddet tyA_ok [] (Pure.det (h34)) rfl rfl rfl rfl rfl rfl rfl rfl rfl rfl rfl rfl (by trivial) rfl (by trivial) ?_)
  refine goR rfl (by trivial) (go_ddet tyA_ok [] (Pure.det (c28s K)) rfl rfl rfl rfl rfl rfl rfl rfl rfl rfl rfl rfl (by trivial) rfl (by trivial) ?_)
  refine go_run mixA tyA_ok 3 rfl (by trivial) ?_
  refine go_wk (L := []) (t := ⟨[(1, pI lit), (2, .ptr 0 0), (5, pB true), (6, .ptr 2 0), (7, pB true), (8, pB true), (9, pB true)], [(0, some (cellsI r.c)), (2, some (cellsI r.c))], 3⟩) (wk rfl rfl rfl ⟨.refl _, rfl, .refl _, rfl, .refl _, rfl, .refl _, rfl, .refl _, rfl, .refl _, rfl, .refl _, rfl, trivial⟩ (hC rfl rfl rfl (hC rfl rfl rfl trivial)) rfl) ?_
  refine goR rfl (by trivial) (go_ddet tyA_ok [] (Pure.det (h35)) rfl rfl rfl rfl rfl rfl rfl rfl rfl rfl rfl rfl (by trivial) rfl (by (repeat' (first | exact trivial | exact rfl | exact PVle.refl _ | exact PVle.bk (by assumption) | apply And.intro)) <;> first | omega | (simp only [Int.toNat_natCast]; omega) | (simp; done) | (simp; omega)) ?_)
  refine goR rfl (by trivial) (go_ddet tyA_ok [] (Pure.det (h36)) rfl rfl rfl rfl rfl rfl rfl rfl rfl rfl rfl rfl (by trivial) rfl (by trivial) ?_)
  refine goR rfl (by trivial) (go_ddet tyA_ok [] (Pure.det (c28s C)) rfl rfl rfl rfl rfl rfl rfl rfl rfl rfl rfl rfl (by trivial) rfl (by trivial) ?_)
  refine go_run mixA tyA_ok 3 rfl (by trivial) ?_
  refine go_wk (L := []) (t := ⟨[(1, pI lit), (2, .ptr 0 0), (5, .kb true), (6, .ptr 2 0), (7, .kb true), (8, .kb true), (9, .kb true), (10, .kb true)], [(0, some (cellsI r.c)), (2, some (cellsI r.c))], 3⟩) (wk rfl rfl rfl ⟨.refl _, rfl, .refl _, rfl, bkT, rfl, .refl _, rfl, bkT, rfl, bkT, rfl, bkT, rfl, bkT, rfl, trivial⟩ (hC rfl rfl rfl (hC rfl rfl rfl trivial)) rfl) ?_
  refine goR rfl (by trivial) (end_le (by first | exact .inr rfl | exact .inl rfl) rfl ?_)
  exact .refl _
/-- SoundVars, once the example is known. -/
theorem vars_of (hk : Pure Tryz.prog 11 [] (pB true)) (r : Rule) (lit : Int) (hb : r.size ≤ 10000000) : Pure Tryz.prog 7 [ag r.c, pI lit] (pB true) :=
  vars_gen r lit hb _ _ _ _ hk (c29' r hb) (c30 r (by omega)) (c31' r hb) (c32 r (by omega)) (c33' r hb) (c34 r (by omega)) (c35' r lit hb) (c36 r lit (by omega))
end Go.Proofs.YtpnclpbkecjinaaGreatDoorR
/-
  SoundVars, whole.
-/
namespace Go.Proofs.YtpnclpbkecjinaaGreatDoorR
open Go Go.Al
theorem known_ok : Pure Tryz.prog 11 [] (pB true) := c11 sortS
theorem vars_all (r : Rule) (lit : Int) (hb : r.size ≤ 10000000) : Pure Tryz.prog 7 [ag r.c, pI lit] (pB true) := vars_of known_ok r lit hb
end Go.Proofs.YtpnclpbkecjinaaGreatDoorR
/-
  What the form reads of the law's arguments is the walks' data, and not great.
-/
namespace Go.Proofs.YtpnclpbkecjinaaGreatDoorR
open Go Go.Al
set_option maxRecDepth 10000

/-! How many cells. -/
theorem cells3 : Tryz.prog.cellsOf 3 = 1 := by kernel_rfl
theorem cells9 : Tryz.prog.cellsOf 9 = 1 := by kernel_rfl
theorem cells69 : Tryz.prog.cellsOf 69 = 3 := by kernel_rfl
theorem cells79 : Tryz.prog.cellsOf 79 = 5 := by kernel_rfl
theorem cells45 : Tryz.prog.cellsOf 45 = 1 := by kernel_rfl
theorem cells47 : Tryz.prog.cellsOf 47 = 2 := by kernel_rfl
theorem cells70 : Tryz.prog.cellsOf 70 = 1 := by kernel_rfl
theorem cells72 : Tryz.prog.cellsOf 72 = 7 := by kernel_rfl
theorem cells74 : Tryz.prog.cellsOf 74 = 10 := by kernel_rfl
theorem cells59 : Tryz.prog.cellsOf 59 = 1 := by kernel_rfl
theorem cells76 : Tryz.prog.cellsOf 76 = 30 := by kernel_rfl
theorem cells53 : Tryz.prog.cellsOf 53 = 2 := by kernel_rfl
theorem cells61 : Tryz.prog.cellsOf 61 = 5 := by kernel_rfl
theorem cells90 : Tryz.prog.cellsOf 90 = 1 := by kernel_rfl
theorem cells116 : Tryz.prog.cellsOf 116 = 4 := by kernel_rfl
theorem cells22 : Tryz.prog.cellsOf 22 = 1 := by kernel_rfl
theorem cells23 : Tryz.prog.cellsOf 23 = 1 := by kernel_rfl
theorem cells25 : Tryz.prog.cellsOf 25 = 2 := by kernel_rfl
theorem cells38 : Tryz.prog.cellsOf 38 = 1 := by kernel_rfl
theorem cells40 : Tryz.prog.cellsOf 40 = 2 := by kernel_rfl

section
variable {H : Type}
/-- How much it is. -/
abbrev bk (d : DataW H) : Nat := Rows.uptoBulk d
theorem bk_pos (d : DataW H) : 1 ≤ bk d := by
  cases d with
  | lit l => cases l <;> simp [bk, Rows.uptoBulk]
  | nil => simp [bk, Rows.uptoBulk]
  | ptr d => simp [bk, Rows.uptoBulk]
  | slice elems spare => simp [bk, Rows.uptoBulk]
  | agg parts => simp [bk, Rows.uptoBulk]
  | iface t d => simp [bk, Rows.uptoBulk]
  | map entries => simp [bk, Rows.uptoBulk]
  | held h => simp [bk, Rows.uptoBulk]
theorem bk_str (s : ByteArray) : bk (DataW.lit (H := H) (.string s.data.toList)) = s.size + 1 := by
  simp [bk, Rows.uptoBulk]
theorem _root_.Go.Al.QL.sum {α : Type} {Q : α → DataW H → Prop} {l : List α} {d : DataW H} (h : QL Q l d) {f : α → Nat} {c : Nat} (hf : ∀ x e, Q x e → f x ≤ c * bk e) : (l.map f).sum ≤ c * bk d := by
  obtain ⟨el, hd, hlen, hq⟩ := h
  have key : ∀ (l : List α) (el : List (DataW H)), l.length = el.length → (∀ (i : Nat) (x : α) (e : DataW H), l[i]? = some x → el[i]? = some e → Q x e) → (l.map f).sum ≤ c * Rows.uptoBulkAll el := by
    intro l
    induction l with
    | nil => intro el _ _; simp
    | cons x r ih =>
      intro el hl hq
      cases el with
      | nil => simp at hl
      | cons e el =>
        have h1 := hf x e (hq 0 x e rfl rfl)
        have h2 := ih el (by simpa using hl) fun i x e hx he => hq (i + 1) x e (by simpa using hx) (by simpa using he)
        simp only [List.map_cons, List.sum_cons, Rows.uptoBulkAll, Nat.mul_add]
        simp only [bk] at h1
        omega
  have h1 := key l el hlen hq
  rcases hd with ⟨rfl, rfl⟩ | ⟨sp, rfl⟩
  · simp [Rows.uptoBulkAll] at h1; omega
  · refine Nat.le_trans h1 (Nat.mul_le_mul_left c ?_)
    simp only [bk, Rows.uptoBulk]; omega
theorem sum_ones {α : Type} : ∀ l : List α, (l.map fun _ => 1).sum = l.length
  | [] => rfl
  | x :: r => by simp only [List.map_cons, List.sum_cons, List.length_cons, sum_ones r]; omega
theorem _root_.Go.Al.QL.len {α : Type} {Q : α → DataW H → Prop} {l : List α} {d : DataW H} (h : QL Q l d) : l.length ≤ bk d := by
  have := h.sum (f := fun _ => 1) (c := 1) fun x e _ => by have := bk_pos e; omega
  have e := sum_ones l
  omega
theorem _root_.Go.Al.QL.all {α : Type} {Q : α → DataW H → Prop} {l : List α} {d : DataW H} (h : QL Q l d) : ∀ x ∈ l, ∃ e, Q x e ∧ bk e ≤ bk d := by
  intro x hx
  obtain ⟨el, hd, hlen, hq⟩ := h
  obtain ⟨i, hi, rfl⟩ := List.mem_iff_getElem.1 hx
  have hie : i < el.length := by omega
  refine ⟨el[i], hq i _ _ (List.getElem?_eq_getElem hi) (List.getElem?_eq_getElem hie), ?_⟩
  have key : ∀ (el : List (DataW H)), ∀ e ∈ el, bk e ≤ Rows.uptoBulkAll el := by
    intro el
    induction el with
    | nil => intro e he; cases he
    | cons y r ih =>
      intro e he
      simp only [Rows.uptoBulkAll]
      rcases List.mem_cons.1 he with rfl | he
      · simp only [bk]; omega
      · have := ih e he; omega
  have h1 := key el el[i] (List.getElem_mem hie)
  rcases hd with ⟨rfl, rfl⟩ | ⟨sp, rfl⟩
  · simp at hie
  · refine Nat.le_trans h1 ?_
    simp only [bk, Rows.uptoBulk]; omega
end
theorem Expr.sizes_sum : ∀ l : List Expr, Expr.sizes l = (l.map Expr.size).sum
  | [] => rfl
  | e :: r => by simp only [Expr.sizes, List.map_cons, List.sum_cons, Expr.sizes_sum r]
theorem Expr.tss_sum : ∀ l : List Expr, Expr.tss l = (l.map Expr.ts).sum
  | [] => rfl
  | e :: r => by simp only [Expr.tss, List.map_cons, List.sum_cons, Expr.tss_sum r]
theorem Lit.sizes_sum : ∀ l : List Lit, Lit.sizes l = (l.map Lit.size).sum
  | [] => rfl
  | e :: r => by simp only [Lit.sizes, List.map_cons, List.sum_cons, Lit.sizes_sum r]
theorem Lit.tss_sum : ∀ l : List Lit, Lit.tss l = (l.map Lit.ts).sum
  | [] => rfl
  | e :: r => by simp only [Lit.tss, List.map_cons, List.sum_cons, Lit.tss_sum r]

section
variable {H : Type} {enc : TypeId × Value → H} {W : World} {hT : TabOK W} {sp : Nat → Bool} {held : Bool}
def QV (v : Val) (d : DataW H) : Prop := v.sym.size ≤ bk d
def QT (t : Term) (d : DataW H) : Prop := t.ts ≤ 400 * bk d
def QA (a : Atom) (d : DataW H) : Prop := a.ts ≤ 400 * bk d ∧ a.terms.length ≤ bk d
def QE (e : Expr) (d : DataW H) : Prop := e.ts ≤ 400 * bk d ∧ e.size ≤ bk d
def QP (_ : Pos) (_ : DataW H) : Prop := True
def Pos.c (p : Pos) : List IV := [iI p.line, iI p.col]
def QG (g : Agg) (d : DataW H) : Prop := g.var.size + g.of_.ts + Lit.tss g.body ≤ 400 * bk d ∧ g.of_.size + Lit.sizes g.body ≤ bk d
def QB (l : Lit) (d : DataW H) : Prop := l.ts ≤ 400 * bk d ∧ l.size ≤ bk d

theorem rd_val (n : Nat) : Rd enc Tryz.prog W hT sp held 69 Val.c QV n := by
  intro m _ cs y h
  obtain ⟨xs, k, rfl, rfl, hl, hx, hf⟩ := DataW.trod_struct Tryz.underlying69 h
  match xs, hx with
  | [x0, x1, x2], _ =>
    obtain ⟨a, ca, qa, _⟩ := rd_int (hT := hT) Tryz.underlying3 k k (Nat.le_refl _) _ _ (fld hf 0 rfl rfl rfl cells3 rfl)
    obtain ⟨b, cb, qb, _⟩ := rd_int (hT := hT) Tryz.underlying3 k k (Nat.le_refl _) _ _ (fld hf 1 rfl rfl rfl cells3 rfl)
    obtain ⟨c, cc, qc, _⟩ := rd_string (hT := hT) Tryz.underlying9 k k (Nat.le_refl _) _ _ (fld hf 2 rfl rfl rfl cells9 rfl)
    refine ⟨⟨a, b, c⟩, ca.tile (o' := 1) rfl (cb.tile (o' := 2) rfl (cc.tile (o' := 3) rfl (.end_ (hl.trans cells69)))), ?_⟩
    simp only [QV, bk, List.map_cons, List.map_nil, Rows.uptoBulk, Rows.uptoBulkAll]
    have := bk_str (H := H) c
    rw [← qc] at this
    simp only [bk] at this
    omega
theorem rd_pos (n : Nat) : Rd enc Tryz.prog W hT sp held 53 Pos.c QP n := by
  intro m _ cs y h
  obtain ⟨xs, k, rfl, rfl, hl, hx, hf⟩ := DataW.trod_struct Tryz.underlying53 h
  match xs, hx with
  | [x0, x1], _ =>
    obtain ⟨a, ca, qa, _⟩ := rd_int (hT := hT) Tryz.underlying3 k k (Nat.le_refl _) _ _ (fld hf 0 rfl rfl rfl cells3 rfl)
    obtain ⟨b, cb, qb, _⟩ := rd_int (hT := hT) Tryz.underlying3 k k (Nat.le_refl _) _ _ (fld hf 1 rfl rfl rfl cells3 rfl)
    exact ⟨⟨a, b⟩, ca.tile (o' := 1) rfl (cb.tile (o' := 2) rfl (.end_ (hl.trans cells53))), trivial⟩
theorem rd_term (n : Nat) : Rd enc Tryz.prog W hT sp held 79 Term.c QT n := by
  intro m _ cs y h
  obtain ⟨xs, k, rfl, rfl, hl, hx, hf⟩ := DataW.trod_struct Tryz.underlying79 h
  match xs, hx with
  | [x0, x1, x2], _ =>
    obtain ⟨a, ca, qa, _⟩ := rd_int (hT := hT) Tryz.underlying3 k k (Nat.le_refl _) _ _ (fld hf 0 rfl rfl rfl cells3 rfl)
    obtain ⟨b, cb, qb, _⟩ := rd_string (hT := hT) Tryz.underlying9 k k (Nat.le_refl _) _ _ (fld hf 1 rfl rfl rfl cells9 rfl)
    obtain ⟨c, cc, qc⟩ := rd_val (hT := hT) k k (Nat.le_refl _) _ _ (fld hf 2 rfl rfl rfl cells69 rfl)
    refine ⟨⟨a, b, c⟩, ca.tile (o' := 1) rfl (cb.tile (o' := 2) rfl (cc.tile (o' := 5) rfl (.end_ (hl.trans cells79)))), ?_⟩
    simp only [QT, Term.ts, bk, List.map_cons, List.map_nil, Rows.uptoBulk, Rows.uptoBulkAll]
    have := bk_str (H := H) b
    rw [← qb] at this
    simp only [bk] at this
    omega
theorem rd_atom (n : Nat) : Rd enc Tryz.prog W hT sp held 47 Atom.c QA n := by
  intro m _ cs y h
  obtain ⟨xs, k, rfl, rfl, hl, hx, hf⟩ := DataW.trod_struct Tryz.underlying47 h
  match xs, hx with
  | [x0, x1], _ =>
    obtain ⟨a, ca, qa, _⟩ := rd_string (hT := hT) Tryz.underlying9 k k (Nat.le_refl _) _ _ (fld hf 0 rfl rfl rfl cells9 rfl)
    obtain ⟨b, cb, qb⟩ := (rd_slice (hT := hT) Tryz.underlying45 cells79 (by decide) (fun _ => rfl) (rd_term k)).mono (Nat.le_succ k) k (Nat.le_refl _) _ _ (fld hf 1 rfl rfl rfl cells45 rfl)
    refine ⟨⟨a, b⟩, ca.tile (o' := 1) rfl (cb.tile (o' := 2) rfl (.end_ (hl.trans cells47))), ?_⟩
    have h1 := bk_str (H := H) a
    rw [← qa] at h1
    have h2 := qb.sum (f := Term.ts) (c := 400) fun _ _ h => h
    have h3 := qb.len
    simp only [bk] at h1 h2 h3
    simp only [QA, Atom.ts, bk, List.map_cons, List.map_nil, Rows.uptoBulk, Rows.uptoBulkAll]
    omega
theorem rd_expr : ∀ n : Nat, Rd enc Tryz.prog W hT sp held 72 Expr.c QE n
  | 0 => fun m hm cs y h => by
    obtain rfl : m = 0 := by omega
    simp [DataW.trod] at h
  | n + 1 => fun m hm cs y h => by
    obtain ⟨xs, k, rfl, rfl, hl, hx, hf⟩ := DataW.trod_struct Tryz.underlying72 h
    have hs := rd_slice (hT := hT) Tryz.underlying70 cells72 (by decide) (fun _ => rfl) (rd_expr n)
    match xs, hx with
    | [x0, x1, x2, x3, x4], _ =>
      obtain ⟨a, ca, qa, _⟩ := rd_int (hT := hT) Tryz.underlying3 k k (Nat.le_refl _) _ _ (fld hf 0 rfl rfl rfl cells3 rfl)
      obtain ⟨b, cb, qb, _⟩ := rd_string (hT := hT) Tryz.underlying9 k k (Nat.le_refl _) _ _ (fld hf 1 rfl rfl rfl cells9 rfl)
      obtain ⟨c, cc, qc⟩ := rd_val (hT := hT) k k (Nat.le_refl _) _ _ (fld hf 2 rfl rfl rfl cells69 rfl)
      obtain ⟨d, cd, qd, _⟩ := rd_int (hT := hT) Tryz.underlying3 k k (Nat.le_refl _) _ _ (fld hf 3 rfl rfl rfl cells3 rfl)
      obtain ⟨e, ce, qe⟩ := hs k (by omega) _ _ (fld hf 4 rfl rfl rfl cells70 rfl)
      refine ⟨.mk a b c d e, ca.tile (o' := 1) rfl (cb.tile (o' := 2) rfl (cc.tile (o' := 5) rfl (cd.tile (o' := 6) rfl ((ce.le1 (eargsL' (.mk a b c d e))).tile (o' := 7) rfl (.end_ (hl.trans cells72)))))), ?_⟩
      have h1 := bk_str (H := H) b
      rw [← qb] at h1
      have h2 := qe.sum (f := Expr.ts) (c := 400) fun _ _ h => h.1
      have h3 := qe.sum (f := Expr.size) (c := 1) fun _ _ h => by have := h.2; omega
      rw [← Expr.tss_sum] at h2
      rw [← Expr.sizes_sum] at h3
      simp only [bk] at h1 h2 h3
      simp only [QE, Expr.ts, Expr.size, bk, List.map_cons, List.map_nil, Rows.uptoBulk, Rows.uptoBulkAll]
      omega
theorem rd_agg {n : Nat} (hb : Rd enc Tryz.prog W hT sp held 59 (fun l : List Lit => [slc 30 l Lit.c]) (QL QB) n) : Rd enc Tryz.prog W hT sp held 74 Agg.c QG (n + 1) := by
  intro m hm cs y h
  obtain ⟨xs, k, rfl, rfl, hl, hx, hf⟩ := DataW.trod_struct Tryz.underlying74 h
  match xs, hx with
  | [x0, x1, x2, x3], _ =>
    obtain ⟨a, ca, qa, _⟩ := rd_int (hT := hT) Tryz.underlying3 k k (Nat.le_refl _) _ _ (fld hf 0 rfl rfl rfl cells3 rfl)
    obtain ⟨b, cb, qb, _⟩ := rd_string (hT := hT) Tryz.underlying9 k k (Nat.le_refl _) _ _ (fld hf 1 rfl rfl rfl cells9 rfl)
    obtain ⟨c, cc, qc⟩ := rd_expr (hT := hT) k k (Nat.le_refl _) _ _ (fld hf 2 rfl rfl rfl cells72 rfl)
    obtain ⟨d, cd, qd⟩ := hb k (by omega) _ _ (fld hf 3 rfl rfl rfl cells59 rfl)
    refine ⟨⟨a, b, c, d⟩, ca.tile (o' := 1) rfl (cb.tile (o' := 2) rfl (cc.tile (o' := 9) rfl ((cd.le1 (litsIR d)).tile (o' := 10) rfl (.end_ (hl.trans cells74))))), ?_⟩
    have h1 := bk_str (H := H) b
    rw [← qb] at h1
    have h2 := qd.sum (f := Lit.ts) (c := 400) fun _ _ h => h.1
    have h3 := qd.sum (f := Lit.size) (c := 1) fun _ _ h => by have := h.2; omega
    rw [← Lit.tss_sum] at h2
    rw [← Lit.sizes_sum] at h3
    obtain ⟨h4, h5⟩ := qc
    simp only [bk] at h1 h2 h3 h4 h5
    simp only [QG, bk, List.map_cons, List.map_nil, Rows.uptoBulk, Rows.uptoBulkAll]
    omega
theorem rd_lit : ∀ n : Nat, Rd enc Tryz.prog W hT sp held 76 Lit.c QB n
  | 0 => fun m hm cs y h => by
    obtain rfl : m = 0 := by omega
    simp [DataW.trod] at h
  | n + 1 => fun m hm cs y h => by
    obtain ⟨xs, k, rfl, rfl, hl, hx, hf⟩ := DataW.trod_struct Tryz.underlying76 h
    have hs := rd_agg (rd_slice (hT := hT) Tryz.underlying59 cells76 (by decide) (fun _ => rfl) (rd_lit n))
    match xs, hx with
    | [x0, x1, x2, x3, x4, x5, x6], _ =>
      obtain ⟨a, ca, qa, _⟩ := rd_int (hT := hT) Tryz.underlying3 k k (Nat.le_refl _) _ _ (fld hf 0 rfl rfl rfl cells3 rfl)
      obtain ⟨b, cb, qb⟩ := rd_atom (hT := hT) k k (Nat.le_refl _) _ _ (fld hf 1 rfl rfl rfl cells47 rfl)
      obtain ⟨c, cc, qc, _⟩ := rd_int (hT := hT) Tryz.underlying3 k k (Nat.le_refl _) _ _ (fld hf 2 rfl rfl rfl cells3 rfl)
      obtain ⟨d, cd, qd⟩ := rd_expr (hT := hT) k k (Nat.le_refl _) _ _ (fld hf 3 rfl rfl rfl cells72 rfl)
      obtain ⟨e, ce, qe⟩ := rd_expr (hT := hT) k k (Nat.le_refl _) _ _ (fld hf 4 rfl rfl rfl cells72 rfl)
      obtain ⟨g, cg, qg⟩ := hs k (by omega) _ _ (fld hf 5 rfl rfl rfl cells74 rfl)
      obtain ⟨p, cp, _⟩ := rd_pos (hT := hT) k k (Nat.le_refl _) _ _ (fld hf 6 rfl rfl rfl cells53 rfl)
      refine ⟨.mk a b c d e g.func g.var g.of_ g.body p, ca.tile (o' := 1) rfl (cb.tile (o' := 3) rfl (cc.tile (o' := 4) rfl (cd.tile (o' := 11) rfl (ce.tile (o' := 18) rfl (cg.tile (o' := 28) rfl (cp.tile (o' := 30) rfl (.end_ (hl.trans cells76)))))))), ?_⟩
      obtain ⟨h1, h2⟩ := qb
      obtain ⟨h3, h4⟩ := qd
      obtain ⟨h5, h6⟩ := qe
      obtain ⟨h7, h8⟩ := qg
      have h9 := bk_pos x0.1
      have h10 := bk_pos x2.1
      simp only [bk] at h1 h2 h3 h4 h5 h6 h7 h8 h9 h10
      simp only [QB, Lit.ts, Lit.size, bk, List.map_cons, List.map_nil, Rows.uptoBulk, Rows.uptoBulkAll]
      omega
theorem rd_lits (n : Nat) : Rd enc Tryz.prog W hT sp held 59 (fun l : List Lit => [lits l]) (QL QB) n :=
  (rd_slice (hT := hT) Tryz.underlying59 cells76 (by decide) (fun _ => rfl) (rd_lit n)).mono (Nat.le_succ n)

/-- A rule is not great. -/
def QR (r : Rule) (d : DataW H) : Prop := r.size ≤ bk d ∧ r.head.ts ≤ 400 * bk d ∧ ∀ l ∈ r.body, l.ts ≤ 400 * bk d
theorem rd_rule (n : Nat) : Rd enc Tryz.prog W hT sp held 61 Rule.c QR n := by
  intro m _ cs y h
  obtain ⟨xs, k, rfl, rfl, hl, hx, hf⟩ := DataW.trod_struct Tryz.underlying61 h
  match xs, hx with
  | [x0, x1, x2], _ =>
    obtain ⟨a, ca, qa⟩ := rd_atom (hT := hT) k k (Nat.le_refl _) _ _ (fld hf 0 rfl rfl rfl cells47 rfl)
    obtain ⟨b, cb, qb⟩ := rd_lits (hT := hT) k k (Nat.le_refl _) _ _ (fld hf 1 rfl rfl rfl cells59 rfl)
    obtain ⟨c, cc, qc⟩ := rd_pos (hT := hT) k k (Nat.le_refl _) _ _ (fld hf 2 rfl rfl rfl cells53 rfl)
    refine ⟨⟨a, b, c⟩, ca.tile (o' := 2) rfl (cb.tile (o' := 3) rfl (cc.tile (o' := 5) rfl (.end_ (hl.trans cells61)))), ?_⟩
    have h3 := qb.sum (f := Lit.size) (c := 1) fun _ _ h => by have := h.2; omega
    rw [← Lit.sizes_sum] at h3
    obtain ⟨h4, h5⟩ := qa
    simp only [bk] at h3 h4 h5
    refine ⟨?_, ?_, fun l hl => ?_⟩
    · simp only [Rule.size, bk, List.map_cons, List.map_nil, Rows.uptoBulk, Rows.uptoBulkAll]; omega
    · simp only [bk, List.map_cons, List.map_nil, Rows.uptoBulk, Rows.uptoBulkAll]; omega
    · obtain ⟨e, ⟨h6, _⟩, h7⟩ := qb.all l hl
      simp only [bk] at h6 h7
      simp only [bk, List.map_cons, List.map_nil, Rows.uptoBulk, Rows.uptoBulkAll]; omega
end
end Go.Proofs.YtpnclpbkecjinaaGreatDoorR
/-
  The card of SoundVars: what is common to the cards of this seat, and the first of them.
-/
namespace Go.Proofs.YtpnclpbkecjinaaGreatDoorR
open Go Go.Al Go.ChangeShapes Go.WideShapes Go.RowKit
set_option maxRecDepth 100000

theorem own : ownKnob Tryz.prog.godebug = none := by kernel_rfl
theorem gTab : Tryz.prog.globalNamed "internal/strconv.uint64pow10" = some 0 := by kernel_rfl
theorem gTabType : (Tryz.prog.globals[0]?).map (·.type) = some 281 := by kernel_rfl
theorem cells281 : Tryz.prog.cellsOf 281 = 20 := by kernel_rfl
theorem cells232 : Tryz.prog.cellsOf 232 = 1 := by kernel_rfl
theorem under281 : Tryz.prog.underlying 281 = some (.array 20 232) := by kernel_rfl
theorem under232 : Tryz.prog.underlying 232 = some (.int .u64) := by kernel_rfl
abbrev laid3 : List (String × DataW Unit) := [("math/bits.deBruijn32tab", Rows.laid_math_bits_deBruijn32tab), ("math/bits.deBruijn64tab", Rows.laid_math_bits_deBruijn64tab), ("internal/strconv.uint64pow10", Rows.laid_internal_strconv_uint64pow10)]

/-- The table lies in the world. -/
theorem tabOK_of {W : World} (h : laidMetH Tryz.prog laid3 W) : TabOK W := by
  have h2 := laidMetH.filter (fun x => x.1 == "internal/strconv.uint64pow10") h
  have h3 : laidMet Tryz.prog [("internal/strconv.uint64pow10", Lib.tabData .u64 pow10L)] W := by
    rw [show laid3.filter (fun x => x.1 == "internal/strconv.uint64pow10") = [("internal/strconv.uint64pow10", Lib.tabData .u64 pow10L)] by kernel_rfl] at h2
    rwa [MakeChecks.laidMetH_plain _ _ _ (by kernel_rfl)] at h2
  have h4 : Lib.TabIs Tryz.prog W "internal/strconv.uint64pow10" .u64 pow10L := Lib.tabIs_of_head (rest := []) gTab gTabType under281 under232 cells232 cells281 h3
  intro b c hb
  unfold Lib.TabIs World.var? at h4
  rw [gTab] at h4
  match b with
  | 0 =>
    have hc : (pow10L.map fun z => Value.int .u64 z).toArray = c := Option.some.inj hb
    rw [hc] at h4
    simp only [Option.bind_some] at h4
    split at h4
    · rename_i cs T fr e
      exact ⟨T, fr, by rw [e, Option.some.inj h4]⟩
    · cases h4
  | b + 1 => exact nomatch hb

theorem kids : Kids Tryz.prog (· < Tryz.prog.types.size) := kids_rows (by kernel_rfl) (by kernel_rfl)
theorem full : ∀ {t e}, t < Tryz.prog.types.size → Tryz.prog.underlying t = some (.slice e) → 0 < Tryz.prog.cellsOf e := fun {t e} => slices_full_of Tryz.prog (by kernel_rfl) t e

/-- FROM A CONTRACT ON DATA TO WHAT THE ROW OWES. -/
theorem post_of_pure {H : Type} {enc : TypeId × Value → H} {W : World} (hT : TabOK W) {k : FuncId} {f : Func} {s : ChangeSpec} {args : List PV} {vs : List Value} {ds gs : List (DataW H)} {before : List MemPlace}
    (hp : Al.Pure Tryz.prog k args (pB true)) (hlen : args.length = vs.length) (hv : ∀ (j : Nat) (p : PV), args[j]? = some p → VR (Mem.ofW W hT) nm0 (· < 0) p (vs.getD j undef))
    (hTs : ∀ t ∈ f.params.toList, t < Tryz.prog.types.size) (hvars : s.vars = []) (hres : f.resultTypes = #[4])
    (hW : DataW.Whole enc Tryz.prog f.params.toList s.vars false W vs.toArray.toList ds gs before)
    (hs1 : (s.fn H (ds ++ gs)).results = [.lit (.bool true)]) (hs2 : (s.fn H (ds ++ gs)).args = ds) (hs3 : (s.fn H (ds ++ gs)).vars = []) :
    Calls Tryz.prog k vs.toArray W fun e W' => ∃ v, e = .returned v ∧ s.post enc Tryz.prog f false true false false W vs.toArray v W' := by
  refine (hp.2 (Mem.ofW W hT) nm0 W vs (rel_ofW W hT) hlen hv).mono ?_
  rintro e W' ⟨x, M', N', r, h', n', rfl, ⟨rfl, rfl, rfl⟩, hx, hr, hvr⟩
  have hxt : x = .bool true := by
    cases hvr with
    | iv _ _ h => cases h; rfl
  subst hxt
  refine ⟨_, rfl, post_of_kept kids full hTs hvars hW hx.os hx.output (fun b hb => hx.keep b hb fun i o hi => (nomatch hi)) (fun b sp hd => ?_) hs2 hs3 ?_⟩
  · rw [hs1, hres]
    exact trodAll_cons_mk (shut_bool Tryz.underlying4 _) trodAll_mk0
  · intro j t r h1 h2
    rw [hres] at h1 h2
    match j, h1, h2 with
    | 0, h1, h2 =>
      cases h1; cases h2
      exact okWide_bool_mk Tryz.underlying4 _
    | j + 1, h1, h2 => simp at h1

/-- The bound. -/
theorem bound {H : Type} {l : List (DataW H)} (hk : Rows.uptoSmall H l = true) : Rows.uptoBulkAll l ≤ 1048576 := of_decide_eq_true hk

/-- A rule as an argument. -/
theorem arg_rule {H : Type} {enc : TypeId × Value → H} {W : World} (hT : TabOK W) {v : Value} {d : DataW H} {p : List MemPlace} (hval : ∃ base, Value.okWide Tryz.prog W .any base 61 v) (h : DataW.Trod enc Tryz.prog W 0 (fun _ => true) true 61 v d p) :
    ∃ r : Rule, QR r d ∧ VR (Mem.ofW W hT) nm0 (· < 0) (ag r.c) v := by
  obtain ⟨base, hval⟩ := hval
  obtain ⟨cs, rfl, _⟩ := okWide_struct Tryz.underlying61 hval
  obtain ⟨n, hn⟩ := h
  obtain ⟨r, h1, h2⟩ := rd_rule (hT := hT) n n (Nat.le_refl _) _ _ hn
  exact ⟨r, h2, h1.agg⟩
theorem arg_int {H : Type} {enc : TypeId × Value → H} {W : World} (hT : TabOK W) {v : Value} {d : DataW H} {p : List MemPlace} (hval : ∃ base, Value.okWide Tryz.prog W .any base 3 v) (h : DataW.Trod enc Tryz.prog W 0 (fun _ => true) true 3 v d p) :
    ∃ z : Int, (Lit.int .i64 z).wf = true ∧ VR (Mem.ofW W hT) nm0 (· < 0) (pI z) v := by
  obtain ⟨base, hval⟩ := hval
  obtain ⟨n, rfl, _, _, hw⟩ := open_int Tryz.underlying3 hval h
  exact ⟨n, hw, .iv _ _ (.v _)⟩

/-- A world for the witness: the settled one, the three tables as their initialisers lay them. -/
def layAt (b : Nat) (cs : Array Value) (h : Array Obj) : Array Obj := h.modify b fun
  | .cells _ t frozen => .cells cs t frozen
  | o => o
noncomputable def laidWorld (os : Os) : World :=
  { World.holding Tryz.prog os ⟨#[], #[], []⟩ with
    heap := layAt 2 #[.int .u8 0, .int .u8 1, .int .u8 56, .int .u8 2, .int .u8 57, .int .u8 49, .int .u8 28, .int .u8 3, .int .u8 61, .int .u8 58, .int .u8 42, .int .u8 50, .int .u8 38, .int .u8 29, .int .u8 17, .int .u8 4, .int .u8 62, .int .u8 47, .int .u8 59, .int .u8 36, .int .u8 45, .int .u8 43, .int .u8 51, .int .u8 22, .int .u8 53, .int .u8 39, .int .u8 33, .int .u8 30, .int .u8 24, .int .u8 18, .int .u8 12, .int .u8 5, .int .u8 63, .int .u8 55, .int .u8 48, .int .u8 27, .int .u8 60, .int .u8 41, .int .u8 37, .int .u8 16, .int .u8 46, .int .u8 35, .int .u8 44, .int .u8 21, .int .u8 52, .int .u8 32, .int .u8 23, .int .u8 11, .int .u8 54, .int .u8 26, .int .u8 40, .int .u8 15, .int .u8 34, .int .u8 20, .int .u8 31, .int .u8 10, .int .u8 25, .int .u8 14, .int .u8 19, .int .u8 9, .int .u8 13, .int .u8 8, .int .u8 7, .int .u8 6] (layAt 1 #[.int .u8 0, .int .u8 1, .int .u8 28, .int .u8 2, .int .u8 29, .int .u8 14, .int .u8 24, .int .u8 3, .int .u8 30, .int .u8 22, .int .u8 20, .int .u8 15, .int .u8 25, .int .u8 17, .int .u8 4, .int .u8 8, .int .u8 31, .int .u8 27, .int .u8 13, .int .u8 23, .int .u8 21, .int .u8 19, .int .u8 16, .int .u8 7, .int .u8 26, .int .u8 12, .int .u8 18, .int .u8 6, .int .u8 11, .int .u8 5, .int .u8 10, .int .u8 9] (layAt 0 (pow10L.map fun z => Value.int .u64 z).toArray (World.holding Tryz.prog os ⟨#[], #[], []⟩).heap)) }

/-! The law. -/
abbrev zRule : Value := .agg #[.string .empty, .slice none 0 0, .slice none 0 0, .int .i64 0, .int .i64 0]
def zRuleD {H : Type} : DataW H := .agg [.agg [.lit (.string []), .nil], .nil, .agg [.lit (.int .i64 0), .lit (.int .i64 0)]]
abbrev vArgs : Array Value := #[zRule, .int .i64 0]

theorem contractVars (H : Type) (enc : TypeId × Value → H) (W : World) (base : Nat) (args : Array Value) (ds gs : List (DataW H)) (before : List MemPlace)
    (hval : ∀ (j : Nat) t v, Tryz.f7.params[j]? = some t → args[j]? = some v → Value.okWide Tryz.prog W .any base t v)
    (hW : DataW.Whole enc Tryz.prog Tryz.f7.params.toList Rows.soundVarsSpec.vars false W args.toList ds gs before) (hk : Rows.uptoSmall H (ds ++ gs) = true) (hL : laidMetH Tryz.prog laid3 W) :
    Calls Tryz.prog 7 args W fun e W' => ∃ v, e = .returned v ∧ Rows.soundVarsSpec.post enc Tryz.prog Tryz.f7 false true false false W args v W' := by
  have hT := tabOK_of hL
  have hW' := hW
  obtain ⟨p, q, hA0, hV, rfl, hfz, hnd⟩ := hW
  have hA : DataW.TrodAll enc Tryz.prog W 0 (fun _ => true) true Tryz.f7.params.toList args.toList ds p := hA0
  rw [Tryz.params7] at hA hval
  obtain ⟨v0, vs0, d0, ds0, p0, q0, hargs, rfl, rfl, h0, r0⟩ := trodAll_cons hA
  obtain ⟨v1, vs1, d1, ds1, p1, q1, rfl, rfl, rfl, h1, r1⟩ := trodAll_cons r0
  obtain ⟨rfl, rfl, rfl⟩ := trodAll_nil r1
  obtain rfl : args = [v0, v1].toArray := by cases args; simp_all
  obtain ⟨rfl, rfl⟩ := trodVars_none hV
  obtain ⟨r, hr, hv0⟩ := arg_rule hT ⟨base, hval 0 61 v0 rfl rfl⟩ h0
  obtain ⟨z, hz, hv1⟩ := arg_int hT ⟨base, hval 1 3 v1 rfl rfl⟩ h1
  have hb := bound hk
  have hsz : r.size ≤ 10000000 := by
    have := hr.1
    simp only [List.append_nil, Rows.uptoBulkAll] at hb
    simp only [bk] at this
    omega
  refine post_of_pure hT (vars_all r z hsz) rfl (fun j p hj => ?_) (by rw [Tryz.params7]; exact of_decide_eq_true (by kernel_rfl)) rfl (by kernel_rfl) hW' rfl rfl rfl
  match j, hj with
  | 0, hj => cases hj; exact hv0
  | 1, hj => cases hj; exact hv1

theorem laid_metV (os : Os) : laidMet Tryz.prog Rows.soundVarsUptoRow.laid ((laidWorld os).forCall (fun _ _ => 0) ⟨#[], vArgs, []⟩).memory :=
  laidMet_of_run' 8 (by kernel_rfl) (by kernel_rfl)
theorem readsV (os : Os) {H : Type} (enc : TypeId × Value → H) : ∃ places, DataW.whole enc Tryz.prog ((laidWorld os).forCall (fun _ _ => 0) ⟨#[], vArgs, []⟩).memory Tryz.f7.params.toList Rows.soundVarsSpec.vars false vArgs.toList 8 = some ([zRuleD, .lit (.int .i64 0)], [], places) :=
  ⟨[], by kernel_rfl⟩

set_option maxRecDepth 100000 in
theorem liftedVars (os : Os) (started : os.Started) (H : Type) (enc : TypeId × Value → H) (F : Stop.Interp) :
    ReturnsInHanded {} Tryz.checked os 7 .any ((Rows.OpenSpec.upto Rows.soundVarsSpec).preRow enc Tryz.prog Tryz.f7 Rows.soundVarsUptoRow.domain false Rows.soundVarsUptoRow.laid) (((Rows.OpenSpec.upto Rows.soundVarsSpec).at F).post enc Tryz.prog Tryz.f7 false true false false) := by
  obtain ⟨places, hx⟩ := readsV os enc
  refine returnsInHanded_of_row (C := Tryz.checked) (s := Rows.OpenSpec.upto Rows.soundVarsSpec) own started (by kernel_rfl) Tryz.func7
    (witness_row_at (enc := enc) (C := Tryz.checked) false (laidWorld os) vArgs rfl (by kernel_rfl) (by kernel_rfl) (by kernel_rfl)
      (OpenSpec.preRow_of_cond 8 hx (by kernel_rfl) (fun k hk => by cases hk; kernel_rfl) (by kernel_rfl) (laid_metV os))) ?_
  intro W base args ds gs before hval hW _ hcond _ hL _ _
  exact contractVars H enc W base args ds gs before hval hW (hcond _ rfl) hL

theorem saidVars : Rows.SoundVarsUptoSaid :=
  OpenClaim.holds_of_cond 7 Tryz.f7 rfl rfl rfl rfl rfl rfl rfl ⟨rfl, rfl, rfl, rfl, rfl⟩ rfl rfl rfl rfl rfl (by kernel_rfl) Tryz.func7 (by kernel_rfl)
    (of_decide_eq_true (by kernel_rfl)) (by unfold Func.isWrapper; first | (rw [if_pos (by decide +kernel)]; kernel_rfl) | (rw [if_neg (by decide +kernel)]; exact ⟨rfl, rfl⟩))
    (fun os started H enc _ F => by rw [OpenClaim.pre_eq_preRow]; exact liftedVars os started H enc F)

theorem plainVars7 (f : FuncId) (fn : Func) (hf : Tryz.pinned.checked.prog.funcNamed "pedigree/pedigreelaw06.SoundVars" = some f) (hfn : Tryz.pinned.checked.prog.funcs[f]? = some fn) :
    false = Tryz.pinned.checked.prog.looks [] ∧ ∀ (j : Nat) t, fn.params[j]? = some t → Tryz.pinned.checked.prog.wantsStandIn t = false := by
  obtain rfl : f = 7 := Option.some.inj ((show Tryz.prog.funcNamed "pedigree/pedigreelaw06.SoundVars" = some 7 by kernel_rfl).symm.trans hf) |>.symm
  obtain rfl : fn = Tryz.f7 := (Option.some.inj (Tryz.func7.symm.trans hfn)).symm
  refine ⟨by kernel_rfl, fun j t ht => ?_⟩
  rw [Tryz.params7] at ht
  match j, ht with
  | 0, ht => cases ht; exact (show Tryz.prog.wantsStandIn 61 = false by kernel_rfl)
  | 1, ht => cases ht; exact (show Tryz.prog.wantsStandIn 3 = false by kernel_rfl)

/-- THE CARD. -/
theorem soundVars_card : Rows.SoundVarsUptoCardSaid :=
  Claim7.holds_tied_plain_at .later [] _ _ _ _ saidVars (fun _ h => by cases h) (by kernel_rfl) (fun _ h => by cases h) soundVarsUpto_row_tie rfl ⟨rfl, rfl⟩ (by kernel_rfl) rfl plainVars7 (by kernel_rfl)
end Go.Proofs.YtpnclpbkecjinaaGreatDoorR
