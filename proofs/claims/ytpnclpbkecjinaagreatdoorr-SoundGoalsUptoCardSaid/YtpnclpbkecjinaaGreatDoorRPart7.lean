/-
  What the proofs of the claims need: XCc, XGo. Part 7 of 7.
-/
import Derived.Test.YtpnclpbkecjinaaGreatDoorRPart6
import Derived.WalkKit
import Derived.ProofKit
import Derived.OpenShut
import Derived.Deep.DeepHandedRow
import Derived.Lib.LaidTab
import Derived.LaidSub
import Derived.MakeChecks
import Derived.Test.YtpnclpbkecjinaaGreatDoorRCards
import Derived.Test.YtpnclpbkecjinaaGreatDoorRTie
/-
  What is common to the cards of this seat.
-/
namespace Go.Proofs.YtpnclpbkecjinaaGreatDoorR
open Go Go.Al Go.ChangeShapes Go.WideShapes Go.RowKit
set_option maxRecDepth 100000
theorem own : ownKnob Tryz.prog.godebug = none := by kernel_rfl
theorem gTab : Tryz.prog.globalNamed "internal/strconv.uint64pow10" = some 0 := by kernel_rfl
theorem gTabType : (Tryz.prog.globals[0]?).map (·.type) = some 281 := by kernel_rfl
theorem cells281 : Tryz.prog.cellsOf 281 = 20 := by kernel_rfl
theorem cells232 : Tryz.prog.cellsOf 232 = 1 := by kernel_rfl
theorem under281 : Tryz.prog.underlying 281 = some (.array 20 232) := by kernel_rfl
theorem under232 : Tryz.prog.underlying 232 = some (.int .u64) := by kernel_rfl
abbrev laid3 : List (String × DataW Unit) := [("math/bits.deBruijn32tab", Rows.laid_math_bits_deBruijn32tab), ("math/bits.deBruijn64tab", Rows.laid_math_bits_deBruijn64tab), ("internal/strconv.uint64pow10", Rows.laid_internal_strconv_uint64pow10)]
/-- The table lies in the world. -/
theorem tabOK_of {W : World} (h : laidMetH Tryz.prog laid3 W) : TabOK W := by
  have h2 := laidMetH.filter (fun x => x.1 == "internal/strconv.uint64pow10") h
  have h3 : laidMet Tryz.prog [("internal/strconv.uint64pow10", Lib.tabData .u64 pow10L)] W := by
    rw [show laid3.filter (fun x => x.1 == "internal/strconv.uint64pow10") = [("internal/strconv.uint64pow10", Lib.tabData .u64 pow10L)] by kernel_rfl] at h2
    rwa [MakeChecks.laidMetH_plain _ _ _ (by kernel_rfl)] at h2
  have h4 : Lib.TabIs Tryz.prog W "internal/strconv.uint64pow10" .u64 pow10L := Lib.tabIs_of_head (rest := []) gTab gTabType under281 under232 cells232 cells281 h3
  intro b c hb
  unfold Lib.TabIs World.var? at h4
  rw [gTab] at h4
  match b with
  | 0 =>
    have hc : (pow10L.map fun z => Value.int .u64 z).toArray = c := Option.some.inj hb
    rw [hc] at h4
    simp only [Option.bind_some] at h4
    split at h4
    · rename_i cs T fr e
      exact ⟨T, fr, by rw [e, Option.some.inj h4]⟩
    · cases h4
  | b + 1 => exact nomatch hb
theorem kids : Kids Tryz.prog (· < Tryz.prog.types.size) := kids_rows (by kernel_rfl) (by kernel_rfl)
theorem full : ∀ {t e}, t < Tryz.prog.types.size → Tryz.prog.underlying t = some (.slice e) → 0 < Tryz.prog.cellsOf e := fun {t e} => slices_full_of Tryz.prog (by kernel_rfl) t e
/-- FROM A CONTRACT ON DATA TO WHAT THE ROW OWES. -/
theorem post_of_pure {H : Type} {enc : TypeId × Value → H} {W : World} (hT : TabOK W) {k : FuncId} {f : Func} {s : ChangeSpec} {args : List PV} {vs : List Value} {ds gs : List (DataW H)} {before : List MemPlace}
    (hp : Al.Pure Tryz.prog k args (pB true)) (hlen : args.length = vs.length) (hv : ∀ (j : Nat) (p : PV), args[j]? = some p → VR (Mem.ofW W hT) nm0 (· < 0) p (vs.getD j undef))
    (hTs : ∀ t ∈ f.params.toList, t < Tryz.prog.types.size) (hvars : s.vars = []) (hres : f.resultTypes = #[4])
    (hW : DataW.Whole enc Tryz.prog f.params.toList s.vars false W vs.toArray.toList ds gs before)
    (hs1 : (s.fn H (ds ++ gs)).results = [.lit (.bool true)]) (hs2 : (s.fn H (ds ++ gs)).args = ds) (hs3 : (s.fn H (ds ++ gs)).vars = []) :
    Calls Tryz.prog k vs.toArray W fun e W' => ∃ v, e = .returned v ∧ s.post enc Tryz.prog f false true false false W vs.toArray v W' := by
  refine (hp.2 (Mem.ofW W hT) nm0 W vs (rel_ofW W hT) hlen hv).mono ?_
  rintro e W' ⟨x, M', N', r, h', n', rfl, ⟨rfl, rfl, rfl⟩, hx, hr, hvr⟩
  have hxt : x = .bool true := by
    cases hvr with
    | iv _ _ h => cases h; rfl
  subst hxt
  refine ⟨_, rfl, post_of_kept kids full hTs hvars hW hx.os hx.output (fun b hb => hx.keep b hb fun i o hi => (nomatch hi)) (fun b sp hd => ?_) hs2 hs3 ?_⟩
  · rw [hs1, hres]
    exact trodAll_cons_mk (shut_bool Tryz.underlying4 _) trodAll_mk0
  · intro j t r h1 h2
    rw [hres] at h1 h2
    match j, h1, h2 with
    | 0, h1, h2 =>
      cases h1; cases h2
      exact okWide_bool_mk Tryz.underlying4 _
    | j + 1, h1, h2 => simp at h1
/-- The bound. -/
theorem bound {H : Type} {l : List (DataW H)} (hk : Rows.uptoSmall H l = true) : Rows.uptoBulkAll l ≤ 1048576 := of_decide_eq_true hk
theorem arg_int {H : Type} {enc : TypeId × Value → H} {W : World} (hT : TabOK W) {v : Value} {d : DataW H} {p : List MemPlace} (hval : ∃ base, Value.okWide Tryz.prog W .any base 3 v) (h : DataW.Trod enc Tryz.prog W 0 (fun _ => true) true 3 v d p) :
    ∃ z : Int, (Lit.int .i64 z).wf = true ∧ VR (Mem.ofW W hT) nm0 (· < 0) (pI z) v := by
  obtain ⟨base, hval⟩ := hval
  obtain ⟨n, rfl, _, _, hw⟩ := open_int Tryz.underlying3 hval h
  exact ⟨n, hw, .iv _ _ (.v _)⟩
/-- A world for the witness: the settled one, the three tables as their initialisers lay them. -/
def layAt (b : Nat) (cs : Array Value) (h : Array Obj) : Array Obj := h.modify b fun
  | .cells _ t frozen => .cells cs t frozen
  | o => o
noncomputable def laidWorld (os : Os) : World :=
  { World.holding Tryz.prog os ⟨#[], #[], []⟩ with
    heap := layAt 2 #[.int .u8 0, .int .u8 1, .int .u8 56, .int .u8 2, .int .u8 57, .int .u8 49, .int .u8 28, .int .u8 3, .int .u8 61, .int .u8 58, .int .u8 42, .int .u8 50, .int .u8 38, .int .u8 29, .int .u8 17, .int .u8 4, .int .u8 62, .int .u8 47, .int .u8 59, .int .u8 36, .int .u8 45, .int .u8 43, .int .u8 51, .int .u8 22, .int .u8 53, .int .u8 39, .int .u8 33, .int .u8 30, .int .u8 24, .int .u8 18, .int .u8 12, .int .u8 5, .int .u8 63, .int .u8 55, .int .u8 48, .int .u8 27, .int .u8 60, .int .u8 41, .int .u8 37, .int .u8 16, .int .u8 46, .int .u8 35, .int .u8 44, .int .u8 21, .int .u8 52, .int .u8 32, .int .u8 23, .int .u8 11, .int .u8 54, .int .u8 26, .int .u8 40, .int .u8 15, .int .u8 34, .int .u8 20, .int .u8 31, .int .u8 10, .int .u8 25, .int .u8 14, .int .u8 19, .int .u8 9, .int .u8 13, .int .u8 8, .int .u8 7, .int .u8 6] (layAt 1 #[.int .u8 0, .int .u8 1, .int .u8 28, .int .u8 2, .int .u8 29, .int .u8 14, .int .u8 24, .int .u8 3, .int .u8 30, .int .u8 22, .int .u8 20, .int .u8 15, .int .u8 25, .int .u8 17, .int .u8 4, .int .u8 8, .int .u8 31, .int .u8 27, .int .u8 13, .int .u8 23, .int .u8 21, .int .u8 19, .int .u8 16, .int .u8 7, .int .u8 26, .int .u8 12, .int .u8 18, .int .u8 6, .int .u8 11, .int .u8 5, .int .u8 10, .int .u8 9] (layAt 0 (pow10L.map fun z => Value.int .u64 z).toArray (World.holding Tryz.prog os ⟨#[], #[], []⟩).heap)) }
end Go.Proofs.YtpnclpbkecjinaaGreatDoorR
/-
  What the form reads of programs, facts and atoms is the walks' data, and not great.
-/
namespace Go.Proofs.YtpnclpbkecjinaaGreatDoorR
open Go Go.Al Go.ChangeShapes Go.WideShapes Go.RowKit
set_option maxRecDepth 100000
theorem sum_succ {α : Type} (f : α → Nat) : ∀ l : List α, (l.map fun x => f x + 1).sum = (l.map f).sum + l.length
  | [] => rfl
  | x :: r => by simp only [List.map_cons, List.sum_cons, List.length_cons, sum_succ f r]; omega
section
variable {H : Type} {enc : TypeId × Value → H} {W : World} {hT : TabOK W} {sp : Nat → Bool} {held : Bool}
def QD (x : Decl) (d : DataW H) : Prop := x.types.length + 1 ≤ bk d
def QR1 (r : Rule) (d : DataW H) : Prop := r.size + 1 ≤ bk d ∧ r.head.ts ≤ 400 * bk d ∧ ∀ l ∈ r.body, l.ts ≤ 400 * bk d
def QPr (p : Prog) (d : DataW H) : Prop := p.size ≤ bk d ∧ p.rels.length ≤ bk d ∧ p.rules.length ≤ bk d ∧ ∀ r ∈ p.rules, r.size ≤ bk d ∧ r.head.ts ≤ 400 * bk d ∧ ∀ l ∈ r.body, l.ts ≤ 400 * bk d
def QF (f : Fact) (d : DataW H) : Prop := f.args.length ≤ bk d
theorem rd_rule1 (n : Nat) : Rd enc Tryz.prog W hT sp held 61 Rule.c QR1 n := by
  intro m _ cs y h
  obtain ⟨xs, k, rfl, rfl, hl, hx, hf⟩ := DataW.trod_struct Tryz.underlying61 h
  match xs, hx with
  | [x0, x1, x2], _ =>
    obtain ⟨a, ca, qa⟩ := rd_atom (hT := hT) k k (Nat.le_refl _) _ _ (fld hf 0 rfl rfl rfl cells47 rfl)
    obtain ⟨b, cb, qb⟩ := rd_lits (hT := hT) k k (Nat.le_refl _) _ _ (fld hf 1 rfl rfl rfl cells59 rfl)
    obtain ⟨c, cc, qc⟩ := rd_pos (hT := hT) k k (Nat.le_refl _) _ _ (fld hf 2 rfl rfl rfl cells53 rfl)
    refine ⟨⟨a, b, c⟩, ca.tile (o' := 2) rfl (cb.tile (o' := 3) rfl (cc.tile (o' := 5) rfl (.end_ (hl.trans cells61)))), ?_⟩
    have h3 := qb.sum (f := Lit.size) (c := 1) fun _ _ h => by have := h.2; omega
    rw [← Lit.sizes_sum] at h3
    obtain ⟨h4, h5⟩ := qa
    simp only [bk] at h3 h4 h5
    refine ⟨?_, ?_, fun l hl => ?_⟩
    · simp only [Rule.size, bk, List.map_cons, List.map_nil, Rows.uptoBulk, Rows.uptoBulkAll]; omega
    · simp only [bk, List.map_cons, List.map_nil, Rows.uptoBulk, Rows.uptoBulkAll]; omega
    · obtain ⟨e, ⟨h6, _⟩, h7⟩ := qb.all l hl
      simp only [bk] at h6 h7
      simp only [bk, List.map_cons, List.map_nil, Rows.uptoBulk, Rows.uptoBulkAll]; omega
theorem rd_intC (n : Nat) : Rd enc Tryz.prog W hT sp held 3 intC (fun _ _ => True) n := by
  intro m hm cs y h
  obtain ⟨z, hz, _⟩ := rd_int (hT := hT) Tryz.underlying3 n m hm cs y h
  exact ⟨z, hz, trivial⟩
theorem rd_decl (n : Nat) : Rd enc Tryz.prog W hT sp held 116 Decl.c QD n := by
  intro m _ cs y h
  obtain ⟨xs, k, rfl, rfl, hl, hx, hf⟩ := DataW.trod_struct Tryz.underlying116 h
  match xs, hx with
  | [x0, x1, x2], _ =>
    obtain ⟨a, ca, qa, _⟩ := rd_string (hT := hT) Tryz.underlying9 k k (Nat.le_refl _) _ _ (fld hf 0 rfl rfl rfl cells9 rfl)
    obtain ⟨b, cb, qb⟩ := (rd_slice (hT := hT) Tryz.underlying90 cells3 (by decide) (fun _ => rfl) (rd_intC k)).mono (Nat.le_succ k) k (Nat.le_refl _) _ _ (fld hf 1 rfl rfl rfl cells90 rfl)
    obtain ⟨c, cc, qc⟩ := rd_pos (hT := hT) k k (Nat.le_refl _) _ _ (fld hf 2 rfl rfl rfl cells53 rfl)
    refine ⟨⟨a, b, c⟩, ca.tile (o' := 1) rfl (cb.tile (o' := 2) rfl (cc.tile (o' := 4) rfl (.end_ (hl.trans cells116)))), ?_⟩
    have h3 := qb.len
    simp only [bk] at h3
    simp only [QD, bk, List.map_cons, List.map_nil, Rows.uptoBulk, Rows.uptoBulkAll]
    omega
theorem rd_prog (n : Nat) : Rd enc Tryz.prog W hT sp held 25 Prog.c QPr n := by
  intro m _ cs y h
  obtain ⟨xs, k, rfl, rfl, hl, hx, hf⟩ := DataW.trod_struct Tryz.underlying25 h
  match xs, hx with
  | [x0, x1], _ =>
    obtain ⟨a, ca, qa⟩ := (rd_slice (hT := hT) Tryz.underlying22 cells116 (by decide) (fun _ => rfl) (rd_decl k)).mono (Nat.le_succ k) k (Nat.le_refl _) _ _ (fld hf 0 rfl rfl rfl cells22 rfl)
    obtain ⟨b, cb, qb⟩ := (rd_slice (hT := hT) Tryz.underlying23 cells61 (by decide) (fun _ => rfl) (rd_rule1 k)).mono (Nat.le_succ k) k (Nat.le_refl _) _ _ (fld hf 1 rfl rfl rfl cells23 rfl)
    refine ⟨⟨a, b⟩, ca.tile (o' := 1) rfl (cb.tile (o' := 2) rfl (.end_ (hl.trans cells25))), ?_⟩
    have h1 := qa.sum (f := fun d => d.types.length + 1) (c := 1) fun _ _ h => by
      simp only [QD] at h; omega
    have h2 := qb.sum (f := fun r => r.size + 1) (c := 1) fun _ _ h => by have := h.1; omega
    rw [sum_succ] at h1 h2
    simp only [bk] at h1 h2
    refine ⟨?_, ?_, ?_, fun r hr => ?_⟩
    · simp only [Prog.size, bk, List.map_cons, List.map_nil, Rows.uptoBulk, Rows.uptoBulkAll]; omega
    · simp only [bk, List.map_cons, List.map_nil, Rows.uptoBulk, Rows.uptoBulkAll]; omega
    · simp only [bk, List.map_cons, List.map_nil, Rows.uptoBulk, Rows.uptoBulkAll]; omega
    · obtain ⟨e, ⟨h3, h4, h5⟩, h6⟩ := qb.all r hr
      simp only [bk] at h3 h4 h5 h6
      refine ⟨?_, ?_, fun l hl => ?_⟩
      · simp only [bk, List.map_cons, List.map_nil, Rows.uptoBulk, Rows.uptoBulkAll]; omega
      · simp only [bk, List.map_cons, List.map_nil, Rows.uptoBulk, Rows.uptoBulkAll]; omega
      · have := h5 l hl
        simp only [bk, List.map_cons, List.map_nil, Rows.uptoBulk, Rows.uptoBulkAll]; omega
theorem rd_fact (n : Nat) : Rd enc Tryz.prog W hT sp held 40 Fact.c QF n := by
  intro m _ cs y h
  obtain ⟨xs, k, rfl, rfl, hl, hx, hf⟩ := DataW.trod_struct Tryz.underlying40 h
  match xs, hx with
  | [x0, x1], _ =>
    obtain ⟨a, ca, qa, _⟩ := rd_string (hT := hT) Tryz.underlying9 k k (Nat.le_refl _) _ _ (fld hf 0 rfl rfl rfl cells9 rfl)
    obtain ⟨b, cb, qb⟩ := (rd_slice (hT := hT) Tryz.underlying38 cells69 (by decide) (fun _ => rfl) (rd_val k)).mono (Nat.le_succ k) k (Nat.le_refl _) _ _ (fld hf 1 rfl rfl rfl cells38 rfl)
    refine ⟨⟨a, b⟩, ca.tile (o' := 1) rfl (cb.tile (o' := 2) rfl (.end_ (hl.trans cells40))), ?_⟩
    have h3 := qb.len
    simp only [bk] at h3
    simp only [QF, bk, List.map_cons, List.map_nil, Rows.uptoBulk, Rows.uptoBulkAll]
    omega
end
theorem fit_of {H : Type} {p : Prog} {d : DataW H} (h : QPr p d) (hb : bk d ≤ 1048576) : p.fit := by
  obtain ⟨h1, h2, h3, h4⟩ := h
  refine ⟨by omega, by omega, fun r hr => ?_⟩
  obtain ⟨h5, h6, h7⟩ := h4 r hr
  exact ⟨by omega, by omega, fun l hl => by have := h7 l hl; omega⟩
theorem arg_prog {H : Type} {enc : TypeId × Value → H} {W : World} (hT : TabOK W) {v : Value} {d : DataW H} {p : List MemPlace} (hval : ∃ base, Value.okWide Tryz.prog W .any base 25 v) (h : DataW.Trod enc Tryz.prog W 0 (fun _ => true) true 25 v d p) :
    ∃ x : Prog, QPr x d ∧ VR (Mem.ofW W hT) nm0 (· < 0) (ag x.c) v := by
  obtain ⟨base, hval⟩ := hval
  obtain ⟨cs, rfl, _⟩ := okWide_struct Tryz.underlying25 hval
  obtain ⟨n, hn⟩ := h
  obtain ⟨r, h1, h2⟩ := rd_prog (hT := hT) n n (Nat.le_refl _) _ _ hn
  exact ⟨r, h2, h1.agg⟩
theorem vr_one {M : Mem} {N : Nm} {U : Nat → Prop} {p : IV} {a : Option Addr} {l c : Nat} (h : CR M [p] (Value.slice a l c).cells.toList) : VR M N U (.iv p) (.slice a l c) := .iv _ _ (h.2 0 p rfl)
theorem arg_facts {H : Type} {enc : TypeId × Value → H} {W : World} (hT : TabOK W) {v : Value} {d : DataW H} {p : List MemPlace} (hval : ∃ base, Value.okWide Tryz.prog W .any base 34 v) (h : DataW.Trod enc Tryz.prog W 0 (fun _ => true) true 34 v d p) :
    ∃ x : List Fact, QL QF x d ∧ VR (Mem.ofW W hT) nm0 (· < 0) (.iv (slc 2 x Fact.c)) v := by
  obtain ⟨base, hval⟩ := hval
  obtain ⟨a, len, cap, rfl⟩ := okWide_slice Tryz.underlying34 hval
  obtain ⟨n, hn⟩ := h
  obtain ⟨r, h1, h2⟩ := (rd_slice (hT := hT) Tryz.underlying34 cells40 (by decide) (fun _ => rfl) (rd_fact n)).mono (Nat.le_succ n) n (Nat.le_refl _) _ _ hn
  exact ⟨r, h2, vr_one h1⟩
theorem arg_atoms {H : Type} {enc : TypeId × Value → H} {W : World} (hT : TabOK W) {v : Value} {d : DataW H} {p : List MemPlace} (hval : ∃ base, Value.okWide Tryz.prog W .any base 44 v) (h : DataW.Trod enc Tryz.prog W 0 (fun _ => true) true 44 v d p) :
    ∃ x : List Atom, QL QA x d ∧ VR (Mem.ofW W hT) nm0 (· < 0) (.iv (slc 2 x Atom.c)) v := by
  obtain ⟨base, hval⟩ := hval
  obtain ⟨a, len, cap, rfl⟩ := okWide_slice Tryz.underlying44 hval
  obtain ⟨n, hn⟩ := h
  obtain ⟨r, h1, h2⟩ := (rd_slice (hT := hT) Tryz.underlying44 cells47 (by decide) (fun _ => rfl) (rd_atom n)).mono (Nat.le_succ n) n (Nat.le_refl _) _ _ hn
  exact ⟨r, h2, vr_one h1⟩
end Go.Proofs.YtpnclpbkecjinaaGreatDoorR
/-
  Copies of facts; what is the same as itself.
-/
namespace Go.Proofs.YtpnclpbkecjinaaGreatDoorR
open Go Go.Al
set_option maxRecDepth 10000
theorem c96 (l : List Val) (hb : l.length ≤ 100000000000) : Pure Tryz.prog 96 [.iv (slc 3 l Val.c)] (.iv (slc 3 l Val.c)) := by
  refine pure_end tyA_ok Tryz.func96 rfl (by decide) Tryz.ntmps96 rfl (by simp) rfl ?_
  refine gA rfl (end_row (.inr rfl) rfl rfl (src_map _ _) (by simp))
theorem c54 (f : Fact) (hb : f.args.length ≤ 100000000000) : Pure Tryz.prog 54 [ag f.c] (ag f.c) := by
  refine pure_end tyA_ok Tryz.func54 rfl (by decide) Tryz.ntmps54 rfl (by simp) rfl ?_
  refine gA rfl (go_ddet tyA_ok [] (Pure.det (c96 f.args hb)) rfl rfl rfl rfl rfl rfl rfl rfl rfl rfl rfl rfl (by (repeat' (first | exact trivial | exact rfl | exact PVle.refl _ | exact PVle.bk (by assumption) | apply And.intro)) <;> first | omega | (simp only [Int.toNat_natCast]; omega) | (simp; done) | (simp; omega)) rfl (by (repeat' (first | exact trivial | exact rfl | exact PVle.refl _ | exact PVle.bk (by assumption) | apply And.intro)) <;> first | omega | (simp only [Int.toNat_natCast]; omega) | (simp; done) | (simp; omega)) ?_)
  refine gA rfl (end_le (by first | exact .inr rfl | exact .inl rfl) rfl (.of_eq ?_))
  rfl
theorem c15 (l : List Fact) (hl : l.length ≤ 100000000000) (hb : ∀ f ∈ l, f.args.length ≤ 100000000000) : Pure Tryz.prog 15 [.iv (slc 2 l Fact.c)] (.iv (slc 2 l Fact.c)) := by
  refine pure_end tyA_ok Tryz.func15 rfl (by decide) Tryz.ntmps15 rfl (by simp) rfl ?_
  refine gA rfl ?_
  refine go_virt 3 2 rfl ?_
  refine go_for 0 l.length (Nat.zero_le _) (fun i => ⟨[(0, .iv (slc 2 l Fact.c)), (3, .sl 1 0 i 2), (4, pI i)], [(1, some (rowI 2 (l.take i) Fact.c))], 2⟩) (fun _ => True) [0] trivial
    (wk rfl rfl rfl ⟨.refl _, rfl, .refl _, rfl, .refl _, rfl, trivial⟩ (hR rfl rfl rfl trivial) rfl) fun i hi _ => ?_
  refine gA rfl ?_
  refine And.intro (fun h1 => ?_) (fun h1 => ?_)
  · have h1 : i < l.length := by simpa using h1
    have hm : l.getD i default ∈ l := by rw [List.getD_eq_getElem?_getD, List.getElem?_eq_getElem h1]; exact List.getElem_mem h1
    have hlt : (l.take i).length = i := by rw [List.length_take]; omega
    have hts := take_step (l := l) h1
    refine gA rfl (go_pure (c54 (l.getD i default) (hb _ hm)) rfl rfl rfl rfl rfl rfl ?_)
    refine gA rfl ?_
    exact ⟨h1, trivial, [3], wk rfl rfl rfl ⟨.refl _, rfl, .refl _, rfl, .refl _, rfl, trivial⟩ (hR rfl (by rw [hts, List.map_append]; rfl) rfl trivial) rfl⟩
  · have h1 : l.length ≤ i := by simpa using h1
    have hie : i = l.length := by omega
    subst hie
    rw [List.take_of_length_le (Nat.le_refl _)]
    refine gA rfl (end_row (by first | exact .inr rfl | exact .inl rfl) rfl rfl (rfl) (rfl))
theorem c103s (l : List Val) : Pure Tryz.prog 103 [.iv (slc 3 l Val.c), .iv (slc 3 l Val.c)] (pB true) := by
  refine pure_len (callable_of Tryz.func103 rfl (by decide)) ⟨_, _, List.mem_cons_self⟩ fun hlen => ?_
  simp only [maxLen] at hlen
  refine pure_end tyA_ok Tryz.func103 rfl (by decide) Tryz.ntmps103 rfl (by simp) rfl ?_
  repeat (refine gA rfl (And.intro (fun q => ?_) (fun q => ?_)); all_goals (try (simp at q; done)))
  refine gA rfl ?_
  refine go_for 0 l.length (Nat.zero_le _) (fun i => ⟨[(0, .iv (slc 3 l Val.c)), (1, .iv (slc 3 l Val.c)), (5, pI i)], [], 0⟩) (fun _ => True) [] trivial (wk0 rfl rfl ⟨.refl _, rfl, .refl _, rfl, .refl _, rfl, trivial⟩ rfl) fun i hi _ => ?_
  refine gA rfl ?_
  refine And.intro (fun h1 => ?_) (fun h1 => ?_)
  · have h1 : i < l.length := by simpa using h1
    repeat (refine gA rfl (And.intro (fun q => ?_) (fun q => ?_)); all_goals (try (simp at q; done)))
    refine gA rfl ?_
    exact ⟨h1, trivial, [], wk0 rfl rfl ⟨.refl _, rfl, .refl _, rfl, .refl _, rfl, trivial⟩ rfl⟩
  · have h1 : l.length ≤ i := by simpa using h1
    refine gA rfl (end_le (by first | exact .inr rfl | exact .inl rfl) rfl (.of_eq ?_))
    rfl
theorem c60s (f : Fact) : Pure Tryz.prog 60 [ag f.c, ag f.c] (pB true) := by
  refine pure_end tyA_ok Tryz.func60 rfl (by decide) Tryz.ntmps60 rfl (by simp) rfl ?_
  repeat (refine gA rfl (And.intro (fun q => ?_) (fun q => ?_)); all_goals (try (simp at q; done)))
  refine gA rfl (go_pure (c103s f.args) rfl rfl rfl rfl rfl rfl ?_)
  refine gA rfl (end_le (by first | exact .inr rfl | exact .inl rfl) rfl (.of_eq ?_))
  rfl
theorem c19s (l : List Fact) : Pure Tryz.prog 19 [.iv (slc 2 l Fact.c), .iv (slc 2 l Fact.c)] (pB true) := by
  refine pure_len (callable_of Tryz.func19 rfl (by decide)) ⟨_, _, List.mem_cons_self⟩ fun hlen => ?_
  simp only [maxLen] at hlen
  refine pure_end tyA_ok Tryz.func19 rfl (by decide) Tryz.ntmps19 rfl (by simp) rfl ?_
  repeat (refine gA rfl (And.intro (fun q => ?_) (fun q => ?_)); all_goals (try (simp at q; done)))
  refine gA rfl ?_
  refine go_for 0 l.length (Nat.zero_le _) (fun i => ⟨[(0, .iv (slc 2 l Fact.c)), (1, .iv (slc 2 l Fact.c)), (5, pI i)], [], 0⟩) (fun _ => True) [] trivial (wk0 rfl rfl ⟨.refl _, rfl, .refl _, rfl, .refl _, rfl, trivial⟩ rfl) fun i hi _ => ?_
  refine gA rfl ?_
  refine And.intro (fun h1 => ?_) (fun h1 => ?_)
  · have h1 : i < l.length := by simpa using h1
    refine gA rfl (go_ddet tyA_ok [] (Pure.det (c60s (l.getD i default))) rfl rfl rfl rfl rfl rfl rfl rfl rfl rfl rfl rfl (by (repeat' (first | exact trivial | exact rfl | exact PVle.refl _ | exact PVle.bk (by assumption) | apply And.intro)) <;> first | omega | (simp only [Int.toNat_natCast]; omega) | (simp; done) | (simp; omega)) rfl (by (repeat' (first | exact trivial | exact rfl | exact PVle.refl _ | exact PVle.bk (by assumption) | apply And.intro)) <;> first | omega | (simp only [Int.toNat_natCast]; omega) | (simp; done) | (simp; omega)) ?_)
    repeat (refine gA rfl (And.intro (fun q => ?_) (fun q => ?_)); all_goals (try (simp at q; done)))
    refine gA rfl ?_
    exact ⟨h1, trivial, [], wk0 rfl rfl ⟨.refl _, rfl, .refl _, rfl, .refl _, rfl, trivial⟩ rfl⟩
  · have h1 : l.length ≤ i := by simpa using h1
    refine gA rfl (end_le (by first | exact .inr rfl | exact .inl rfl) rfl (.of_eq ?_))
    rfl
theorem c22s (a : Atom) (hb : a.terms.length ≤ 100000000000) : Pure Tryz.prog 22 [ag a.c, ag a.c] (pB true) := by
  refine pure_end tyA_ok Tryz.func22 rfl (by decide) Tryz.ntmps22 rfl (by simp) rfl ?_
  repeat (refine gA rfl (And.intro (fun q => ?_) (fun q => ?_)); all_goals (try (simp at q; done)))
  refine gA rfl ?_
  refine go_for 0 a.terms.length (Nat.zero_le _) (fun i => ⟨[(2, .ptr 0 0), (3, .ptr 1 0), (5, pI i)], [(0, some (cellsI a.c)), (1, some (cellsI a.c))], 2⟩) (fun _ => True) [] trivial
    (wk rfl rfl rfl ⟨.refl _, rfl, .refl _, rfl, .refl _, rfl, trivial⟩ (hC rfl rfl rfl (hC rfl rfl rfl trivial)) rfl) fun i hi _ => ?_
  refine gA rfl ?_
  refine And.intro (fun h1 => ?_) (fun h1 => ?_)
  · have h1 : i < a.terms.length := by simpa using h1
    repeat (refine gA rfl (And.intro (fun q => ?_) (fun q => ?_)); all_goals (try (simp at q; done)))
    refine gA rfl ?_
    exact ⟨h1, trivial, [], wk rfl rfl rfl ⟨.refl _, rfl, .refl _, rfl, .refl _, rfl, trivial⟩ (hC rfl rfl rfl (hC rfl rfl rfl trivial)) rfl⟩
  · have h1 : a.terms.length ≤ i := by simpa using h1
    refine gA rfl (end_le (by first | exact .inr rfl | exact .inl rfl) rfl (.of_eq ?_))
    rfl
theorem c102n : ∀ (n : Nat) (e : Expr), e.size ≤ n → e.size ≤ 100000000000 → Pure Tryz.prog 102 [ag e.c, ag e.c] (pB true)
  | 0, e, h, _ => absurd e.size_pos (by omega)
  | n + 1, e, h, hb => by
    have hse := e.size_eq
    have hls := Expr.length_sizes e.args
    refine Al.Pure.le (aa := [ag e.c, ag e.c]) (args := [ag e.c1, ag e.c1]) ?_ ⟨e.le1, e.le1, trivial⟩
    refine pure_end tyA_ok Tryz.func102 rfl (by decide) Tryz.ntmps102 rfl (by simp) rfl ?_
    repeat (refine gA rfl (And.intro (fun q => ?_) (fun q => ?_)); all_goals (try (simp at q; done)))
    refine gA rfl ?_
    refine go_for 0 e.args.length (Nat.zero_le _) (fun i => ⟨[(2, .ptr 0 0), (3, .ptr 1 0), (5, pI i)], [(0, some (cellsI e.c1)), (1, some (cellsI e.c1))], 2⟩) (fun _ => True) [] trivial
      (wk rfl rfl rfl ⟨.refl _, rfl, .refl _, rfl, .refl _, rfl, trivial⟩ (hC rfl rfl rfl (hC rfl rfl rfl trivial)) rfl) fun i hi _ => ?_
    refine gA rfl ?_
    refine And.intro (fun h1 => ?_) (fun h1 => ?_)
    · have h1 : i < e.args.length := by simpa using h1
      have hss := Expr.sizes_get e.args i h1
      refine gA rfl (go_ddet tyA_ok [] (Pure.det (c102n n (e.args.getD i default) (by omega) (by omega))) rfl rfl rfl rfl rfl rfl rfl rfl rfl rfl rfl rfl (by (repeat' (first | exact trivial | exact rfl | exact PVle.refl _ | exact PVle.bk (by assumption) | apply And.intro)) <;> first | omega | (simp only [Int.toNat_natCast]; omega) | (simp; done) | (simp; omega)) rfl (by (repeat' (first | exact trivial | exact rfl | exact PVle.refl _ | exact PVle.bk (by assumption) | apply And.intro)) <;> first | omega | (simp only [Int.toNat_natCast]; omega) | (simp; done) | (simp; omega)) ?_)
      repeat (refine gA rfl (And.intro (fun q => ?_) (fun q => ?_)); all_goals (try (simp at q; done)))
      refine gA rfl ?_
      exact ⟨h1, trivial, [], wk rfl rfl rfl ⟨.refl _, rfl, .refl _, rfl, .refl _, rfl, trivial⟩ (hC rfl rfl rfl (hC rfl rfl rfl trivial)) rfl⟩
    · have h1 : e.args.length ≤ i := by simpa using h1
      refine gA rfl (end_le (by first | exact .inr rfl | exact .inl rfl) rfl (.of_eq ?_))
      rfl
theorem c102s (e : Expr) (hb : e.size ≤ 100000000000) : Pure Tryz.prog 102 [ag e.c, ag e.c] (pB true) := c102n e.size e (Nat.le_refl _) hb
theorem c59n : ∀ (n : Nat) (l : List Lit), Lit.sizes l ≤ n → Lit.sizes l ≤ 100000000000 → Pure Tryz.prog 59 [.iv (lits l), .iv (lits l)] (pB true) := by
  intro n
  induction n with
  | zero =>
    intro l h hb
    have hl := Lit.length_sizes l
    have hnil : l = [] := List.length_eq_zero_iff.1 (by omega)
    subst hnil
    refine pure_end tyA_ok Tryz.func59 rfl (by decide) Tryz.ntmps59 rfl (by simp) rfl ?_
    repeat (refine gA rfl (And.intro (fun q => ?_) (fun q => ?_)); all_goals (try (simp at q; done)))
    refine gA rfl ?_
    refine go_for 0 0 (Nat.zero_le _) (fun i => ⟨[(0, .iv (lits [])), (1, .iv (lits [])), (5, pI i)], [], 0⟩) (fun _ => True) [] trivial (wk0 rfl rfl ⟨.refl _, rfl, .refl _, rfl, .refl _, rfl, trivial⟩ rfl) fun i hi _ => ?_
    refine gA rfl ?_
    refine And.intro (fun h1 => ?_) (fun h1 => ?_)
    · simp at h1
      omega
    · refine gA rfl (end_le (by first | exact .inr rfl | exact .inl rfl) rfl (.of_eq ?_))
      rfl
  | succ n ih =>
    intro l h hb
    have hl := Lit.length_sizes l
    refine pure_end tyA_ok Tryz.func59 rfl (by decide) Tryz.ntmps59 rfl (by simp) rfl ?_
    repeat (refine gA rfl (And.intro (fun q => ?_) (fun q => ?_)); all_goals (try (simp at q; done)))
    refine gA rfl ?_
    refine go_for 0 l.length (Nat.zero_le _) (fun i => ⟨[(0, .iv (lits l)), (1, .iv (lits l)), (5, pI i)], [], 0⟩) (fun _ => True) [] trivial (wk0 rfl rfl ⟨.refl _, rfl, .refl _, rfl, .refl _, rfl, trivial⟩ rfl) fun i hi _ => ?_
    refine gA rfl ?_
    refine And.intro (fun h1 => ?_) (fun h1 => ?_)
    · have h1 : i < l.length := by simpa using h1
      have hss := Lit.sizes_get l i h1
      have hse := (l.getD i default).size_eq
      repeat (refine gA rfl (And.intro (fun q => ?_) (fun q => ?_)); all_goals (try (simp at q; done)))
      refine gA rfl (go_pure (c22s (l.getD i default).atom (by omega)) rfl rfl rfl rfl rfl rfl ?_)
      repeat (refine gA rfl (And.intro (fun q => ?_) (fun q => ?_)); all_goals (try (simp at q; done)))
      refine gA rfl (go_pure (c102s (l.getD i default).left (by omega)) rfl rfl rfl rfl rfl rfl ?_)
      repeat (refine gA rfl (And.intro (fun q => ?_) (fun q => ?_)); all_goals (try (simp at q; done)))
      refine gA rfl (go_pure (c102s (l.getD i default).right (by omega)) rfl rfl rfl rfl rfl rfl ?_)
      repeat (refine gA rfl (And.intro (fun q => ?_) (fun q => ?_)); all_goals (try (simp at q; done)))
      repeat (refine gA rfl (And.intro (fun q => ?_) (fun q => ?_)); all_goals (try (simp at q; done)))
      refine gA rfl (go_pure (c102s (l.getD i default).aof (by omega)) rfl rfl rfl rfl rfl rfl ?_)
      repeat (refine gA rfl (And.intro (fun q => ?_) (fun q => ?_)); all_goals (try (simp at q; done)))
      refine gA rfl (go_pure (Al.Pure.le (aa := [.iv (bodyR (l.getD i default).abody), .iv (bodyR (l.getD i default).abody)]) (ih (l.getD i default).abody (by omega) (by omega)) ⟨.iv (litsIL _), .iv (litsIL _), trivial⟩) rfl rfl rfl rfl rfl rfl ?_)
      repeat (refine gA rfl (And.intro (fun q => ?_) (fun q => ?_)); all_goals (try (simp at q; done)))
      refine gA rfl ?_
      exact ⟨h1, trivial, [], wk rfl rfl rfl ⟨.refl _, rfl, .refl _, rfl, .refl _, rfl, trivial⟩ trivial rfl⟩
    · have h1 : l.length ≤ i := by simpa using h1
      refine gA rfl (end_le (by first | exact .inr rfl | exact .inl rfl) rfl (.of_eq ?_))
      rfl
theorem c59s (l : List Lit) (hb : Lit.sizes l ≤ 100000000000) : Pure Tryz.prog 59 [.iv (lits l), .iv (lits l)] (pB true) := c59n _ l (Nat.le_refl _) hb
set_option maxHeartbeats 800000 in
theorem c18s (p : Prog) (hb : p.size ≤ 100000000000) : Pure Tryz.prog 18 [ag p.c, ag p.c] (pB true) := by
  have hps : p.size = p.rels.length + (p.rels.map fun d => d.types.length).sum + p.rules.length + (p.rules.map Rule.size).sum := rfl
  refine pure_end tyA_ok Tryz.func18 rfl (by decide) Tryz.ntmps18 rfl (by simp) rfl ?_
  repeat (refine gA rfl (And.intro (fun q => ?_) (fun q => ?_)); all_goals (try (simp at q; done)))
  refine gA rfl ?_
  refine go_for 0 p.rels.length (Nat.zero_le _) (fun i => ⟨[(2, .ptr 0 0), (3, .ptr 1 0), (5, pI i)], [(0, some (cellsI p.c)), (1, some (cellsI p.c))], 2⟩) (fun _ => True) [] trivial
    (wk rfl rfl rfl ⟨.refl _, rfl, .refl _, rfl, .refl _, rfl, trivial⟩ (hC rfl rfl rfl (hC rfl rfl rfl trivial)) rfl) fun i hi _ => ?_
  refine gA rfl ?_
  refine And.intro (fun h1 => ?_) (fun h1 => ?_)
  · have h1 : i < p.rels.length := by simpa using h1
    have htl := sum_get (fun d : Decl => d.types.length) p.rels i h1
    repeat (refine gA rfl (And.intro (fun q => ?_) (fun q => ?_)); all_goals (try (simp at q; done)))
    refine gA rfl ?_
    refine go_for 0 (p.rels.getD i default).types.length (Nat.zero_le _) (fun k => ⟨[(2, .ptr 0 0), (3, .ptr 1 0), (5, pI i), (6, .ptr 2 0), (7, .ptr 3 0), (8, pI k)], [(0, some (cellsI p.c)), (1, some (cellsI p.c)), (2, some (cellsI (p.rels.getD i default).c)), (3, some (cellsI (p.rels.getD i default).c))], 4⟩) (fun _ => True) [] trivial
      (wk rfl rfl rfl ⟨.refl _, rfl, .refl _, rfl, .refl _, rfl, .refl _, rfl, .refl _, rfl, .refl _, rfl, trivial⟩ (hC rfl rfl rfl (hC rfl rfl rfl (hC rfl rfl rfl (hC rfl rfl rfl trivial)))) rfl) fun k hk _ => ?_
    refine gA rfl ?_
    refine And.intro (fun h2 => ?_) (fun h2 => ?_)
    · have h2 : k < (p.rels.getD i default).types.length := by simpa using h2
      repeat (refine gA rfl (And.intro (fun q => ?_) (fun q => ?_)); all_goals (try (simp at q; done)))
      refine gA rfl ?_
      exact ⟨h2, trivial, [], wk rfl rfl rfl ⟨.refl _, rfl, .refl _, rfl, .refl _, rfl, .refl _, rfl, .refl _, rfl, .refl _, rfl, trivial⟩ (hC rfl rfl rfl (hC rfl rfl rfl (hC rfl rfl rfl (hC rfl rfl rfl trivial)))) rfl⟩
    · have h2 : (p.rels.getD i default).types.length ≤ k := by simpa using h2
      refine gA rfl ?_
      exact ⟨h1, trivial, [], wk rfl rfl rfl ⟨.refl _, rfl, .refl _, rfl, .refl _, rfl, trivial⟩ (hC rfl rfl rfl (hC rfl rfl rfl trivial)) rfl⟩
  · have h1 : p.rels.length ≤ i := by simpa using h1
    refine gA rfl ?_
    refine go_for 0 p.rules.length (Nat.zero_le _) (fun i => ⟨[(2, .ptr 0 0), (3, .ptr 1 0), (9, pI i)], [(0, some (cellsI p.c)), (1, some (cellsI p.c))], 2⟩) (fun _ => True) [] trivial
      (wk rfl rfl rfl ⟨.refl _, rfl, .refl _, rfl, .refl _, rfl, trivial⟩ (hC rfl rfl rfl (hC rfl rfl rfl trivial)) rfl) fun i hi _ => ?_
    refine gA rfl ?_
    refine And.intro (fun h2 => ?_) (fun h2 => ?_)
    · have h2 : i < p.rules.length := by simpa using h2
      have htl := sum_get Rule.size p.rules i h2
      have hrs : (p.rules.getD i default).size = (p.rules.getD i default).head.terms.length + Lit.sizes (p.rules.getD i default).body := rfl
      repeat (refine gA rfl (And.intro (fun q => ?_) (fun q => ?_)); all_goals (try (simp at q; done)))
      refine gA rfl (go_pure (c22s (p.rules.getD i default).head (by omega)) rfl rfl rfl rfl rfl rfl ?_)
      repeat (refine gA rfl (And.intro (fun q => ?_) (fun q => ?_)); all_goals (try (simp at q; done)))
      refine gA rfl (go_pure (c59s (p.rules.getD i default).body (by omega)) rfl rfl rfl rfl rfl rfl ?_)
      repeat (refine gA rfl (And.intro (fun q => ?_) (fun q => ?_)); all_goals (try (simp at q; done)))
      refine gA rfl ?_
      exact ⟨h2, trivial, [], wk rfl rfl rfl ⟨.refl _, rfl, .refl _, rfl, .refl _, rfl, trivial⟩ (hC rfl rfl rfl (hC rfl rfl rfl trivial)) rfl⟩
    · have h2 : p.rules.length ≤ i := by simpa using h2
      refine gA rfl (end_le (by first | exact .inr rfl | exact .inl rfl) rfl (.of_eq ?_))
      rfl
end Go.Proofs.YtpnclpbkecjinaaGreatDoorR
/-
  The reference's words, values, relations and facts.
-/
namespace Go.Proofs.YtpnclpbkecjinaaGreatDoorR
open Go Go.Al
set_option maxRecDepth 10000
abbrev pU (n : Int) : PV := .iv (.v (.int .u8 n))
def smallZ (c : Int) : Bool := decide (c ≥ 97) && decide (c ≤ 122)
def capZ (c : Int) : Bool := decide (c ≥ 65) && decide (c ≤ 90)
def digZ (c : Int) : Bool := (decide (c ≥ 48) && decide (c ≤ 57)) || decide (c = 95)
theorem c101 (c : Int) : Pure Tryz.prog 101 [pU c] (pB (smallZ c)) := by
  refine pure_end tyA_ok Tryz.func101 rfl (by decide) Tryz.ntmps101 rfl (by simp) rfl ?_
  repeat' (first
    | (refine gA rfl (And.intro (fun _ => ?_) (fun _ => ?_)))
    | (refine gA rfl (end_le (by first | exact .inr rfl | exact .inl rfl) rfl (.of_eq ?_))))
  all_goals (refine (pBE ?_ : pB _ = pB _); simp_all [smallZ]; try omega)
theorem c145 (c : Int) : Pure Tryz.prog 145 [pU c] (pB (capZ c)) := by
  refine pure_end tyA_ok Tryz.func145 rfl (by decide) Tryz.ntmps145 rfl (by simp) rfl ?_
  repeat' (first
    | (refine gA rfl (And.intro (fun _ => ?_) (fun _ => ?_)))
    | (refine gA rfl (end_le (by first | exact .inr rfl | exact .inl rfl) rfl (.of_eq ?_))))
  all_goals (refine (pBE ?_ : pB _ = pB _); simp_all [capZ]; try omega)
theorem c144 (c : Int) : Pure Tryz.prog 144 [pU c] (pB (digZ c)) := by
  refine pure_end tyA_ok Tryz.func144 rfl (by decide) Tryz.ntmps144 rfl (by simp) rfl ?_
  repeat' (first
    | (refine gA rfl (And.intro (fun _ => ?_) (fun _ => ?_)))
    | (refine gA rfl (end_le (by first | exact .inr rfl | exact .inl rfl) rfl (.of_eq ?_))))
  all_goals (refine (pBE ?_ : pB _ = pB _); simp_all [digZ]; try omega)
theorem okB_z (b : UInt8) : okB b = (digZ (b.toNat : Int) || (smallZ (b.toNat : Int) || capZ (b.toNat : Int))) := by
  unfold okB okN digZ smallZ capZ
  rw [Bool.eq_iff_iff]
  simp only [Bool.or_eq_true, Bool.and_eq_true, decide_eq_true_iff]
  omega
def byteZ (s : Str) (i : Nat) : UInt8 := s.data.toList.getD i 0
def restB (s : Str) : Bool := decide (1 ≤ s.size) && (decide (s.size ≤ 32) && (List.range s.size).all fun i => decide (i = 0) || okB (byteZ s i))
theorem rest_of {s : Str} (h0 : ¬ s.size < 1) (h1 : ¬ s.size > 32) (h : ∀ j, 1 ≤ j → j < s.size → okB (byteZ s j) = true) : restB s = true := by
  unfold restB
  rw [decide_eq_true (show 1 ≤ s.size by omega), decide_eq_true (show s.size ≤ 32 by omega), Bool.true_and, Bool.true_and, List.all_eq_true]
  intro j hj
  by_cases hz : j = 0
  · simp [hz]
  · rw [h j (by omega) (List.mem_range.1 hj)]; simp
theorem rest_no {s : Str} {j : Nat} (hj : 1 ≤ j) (h1 : j < s.size) (h : okB (byteZ s j) = false) : restB s = false := by
  rw [← Bool.not_eq_true]
  intro hr
  unfold restB at hr
  simp only [Bool.and_eq_true, List.all_eq_true] at hr
  have := hr.2.2 j (List.mem_range.2 h1)
  rw [h, decide_eq_false (by omega)] at this
  cases this
theorem c99 (s : Str) : Pure Tryz.prog 99 [pS s] (pB (restB s)) := by
  refine pure_end tyA_ok Tryz.func99 rfl (by decide) Tryz.ntmps99 rfl (by simp) rfl ?_
  refine gA rfl ?_
  refine And.intro (fun g1 => ?_) (fun g1 => ?_)
  rotate_left
  · have g1 : s.size < 1 := by
      have := of_decide_eq_true (show decide ((s.size : Int) < 1) = true from g1)
      omega
    refine gA rfl (end_le (by first | exact .inr rfl | exact .inl rfl) rfl (.of_eq ?_))
    refine (pBE ?_ : pB false = _)
    unfold restB
    rw [decide_eq_false (show ¬ 1 ≤ s.size by omega)]; rfl
  have g1 : ¬ s.size < 1 := by
    have := of_decide_eq_false (show decide ((s.size : Int) < 1) = false from g1)
    omega
  refine gA rfl ?_
  refine And.intro (fun g2 => ?_) (fun g2 => ?_)
  · have g2 : s.size > 32 := by
      have := of_decide_eq_true (show decide ((s.size : Int) > 32) = true from g2)
      omega
    refine gA rfl (end_le (by first | exact .inr rfl | exact .inl rfl) rfl (.of_eq ?_))
    refine (pBE ?_ : pB false = _)
    unfold restB
    rw [decide_eq_false (show ¬ s.size ≤ 32 by omega)]; simp
  have g2 : ¬ s.size > 32 := by
    have := of_decide_eq_false (show decide ((s.size : Int) > 32) = false from g2)
    omega
  refine gA rfl ?_
  refine go_for 1 s.size (by omega) (fun i => ⟨[(0, pS s), (3, pI i)], [], 0⟩) (fun i => 1 ≤ i ∧ ∀ j, 1 ≤ j → j < i → okB (byteZ s j) = true) [] ⟨Nat.le_refl _, fun j h1 h2 => by omega⟩ (wk0 rfl rfl ⟨.refl _, rfl, .refl _, rfl, trivial⟩ rfl) fun i hi hJ => ?_
  obtain ⟨hi1, hJ⟩ := hJ
  refine gA rfl ?_
  refine And.intro (fun h1 => ?_) (fun h1 => ?_)
  · have h1 : i < s.size := by simpa using h1
    have hz := okB_z (byteZ s i)
    have hon : okB (byteZ s i) = true → ∀ j, 1 ≤ j → j < i + 1 → okB (byteZ s j) = true := fun h j a b => by
      by_cases hji : j = i
      · subst hji; exact h
      · exact hJ j a (by omega)
    refine gA rfl (go_pure (c144 ((byteZ s i).toNat : Int)) rfl rfl rfl rfl rfl rfl ?_)
    refine gA rfl (go_pure (c101 ((byteZ s i).toNat : Int)) rfl rfl rfl rfl rfl rfl ?_)
    refine gA rfl (go_pure (c145 ((byteZ s i).toNat : Int)) rfl rfl rfl rfl rfl rfl ?_)
    refine gA rfl ?_
    refine And.intro (fun q1 => ?_) (fun q1 => ?_)
    · have q1 : digZ ((byteZ s i).toNat : Int) = false := by simpa using q1
      refine gA rfl ?_
      refine And.intro (fun q2 => ?_) (fun q2 => ?_)
      · have q2 : smallZ ((byteZ s i).toNat : Int) = false := by simpa using q2
        refine gA rfl ?_
        refine And.intro (fun q3 => ?_) (fun q3 => ?_)
        · have q3 : capZ ((byteZ s i).toNat : Int) = false := by simpa using q3
          rw [q1, q2, q3] at hz
          rw [rest_no hi1 h1 hz]
          refine gA rfl (end_le (by first | exact .inr rfl | exact .inl rfl) rfl (.of_eq ?_))
          rfl
        · have q3 : capZ ((byteZ s i).toNat : Int) = true := by simpa using q3
          rw [q3] at hz
          refine gA rfl ?_
          exact ⟨h1, ⟨by omega, hon (by rw [hz]; simp)⟩, [], wk0 rfl rfl ⟨.refl _, rfl, .refl _, rfl, trivial⟩ rfl⟩
      · have q2 : smallZ ((byteZ s i).toNat : Int) = true := by simpa using q2
        rw [q2] at hz
        repeat (refine gA rfl (And.intro (fun q => ?_) (fun q => ?_)); all_goals (try (simp at q; done)))
        refine gA rfl ?_
        exact ⟨h1, ⟨by omega, hon (by rw [hz]; simp)⟩, [], wk0 rfl rfl ⟨.refl _, rfl, .refl _, rfl, trivial⟩ rfl⟩
    · have q1 : digZ ((byteZ s i).toNat : Int) = true := by simpa using q1
      rw [q1] at hz
      repeat (refine gA rfl (And.intro (fun q => ?_) (fun q => ?_)); all_goals (try (simp at q; done)))
      refine gA rfl ?_
      exact ⟨h1, ⟨by omega, hon (by rw [hz]; simp)⟩, [], wk0 rfl rfl ⟨.refl _, rfl, .refl _, rfl, trivial⟩ rfl⟩
  · have h1 : s.size ≤ i := by simpa using h1
    have hie : i = s.size := by omega
    subst hie
    rw [rest_of g1 g2 hJ]
    refine gA rfl (end_le (by first | exact .inr rfl | exact .inl rfl) rfl (.of_eq ?_))
    rfl
theorem c100 (s : Str) : Pure Tryz.prog 100 [pS s] (pB (resB s)) := by
  refine pure_end tyA_ok Tryz.func100 rfl (by decide) Tryz.ntmps100 rfl (by simp) rfl ?_
  repeat' (first
    | (refine gA rfl (And.intro (fun _ => ?_) (fun _ => ?_)))
    | (refine gA rfl (end_le (by first | exact .inr rfl | exact .inl rfl) rfl (.of_eq ?_))))
  all_goals (refine (pBE ?_ : pB _ = pB _))
  all_goals (simp only [resB, resL, List.any_cons, List.any_nil, *]; rfl)
theorem c58 (v : Val) : Pure Tryz.prog 58 [ag v.c] (pB (decide (vCheck v = 0))) := by
  refine pure_end tyA_ok Tryz.func58 rfl (by decide) Tryz.ntmps58 rfl (by simp) rfl ?_
  repeat' (first
    | (refine gA rfl (And.intro (fun _ => ?_) (fun _ => ?_)))
    | (refine gA rfl (end_le (by first | exact .inr rfl | exact .inl rfl) rfl (.of_eq ?_))))
  all_goals (refine (pBE ?_ : pB _ = pB _); have hE : (⟨#[]⟩ : ByteArray) = ByteArray.empty := rfl; simp_all [vCheck]; try omega)
theorem rest_name (s : Str) (h : restB s = true) : wordB s 97 122 = smallZ (hd s) := by
  unfold restB at h
  simp only [Bool.and_eq_true, List.all_eq_true, decide_eq_true_iff] at h
  obtain ⟨h1, h2, h3⟩ := h
  have hne : ¬ s = ⟨#[]⟩ := fun e => by rw [e] at h1; exact absurd h1 (by decide)
  unfold wordB smallZ
  rw [decide_eq_false hne, decide_eq_true h2, Bool.not_false, Bool.true_and, Bool.true_and]
  rw [Bool.eq_iff_iff]
  simp only [Bool.and_eq_true, decide_eq_true_iff, List.all_eq_true]
  constructor
  · rintro ⟨a, b, _⟩; exact ⟨a, b⟩
  · rintro ⟨a, b⟩
    refine ⟨a, b, fun x hx => ?_⟩
    obtain ⟨j, hj, rfl⟩ := List.mem_iff_getElem.1 hx
    have hjs : j < s.size := by simpa using hj
    have := h3 j (List.mem_range.2 hjs)
    rw [Bool.or_eq_true, decide_eq_true_iff] at this
    have hb : byteZ s j = s.data.toList[j] := by
      unfold byteZ; rw [List.getD_eq_getElem?_getD, List.getElem?_eq_getElem hj]; rfl
    rcases this with rfl | this
    · rw [← hb, okB_z]
      have : hd s = ((byteZ s 0).toNat : Int) := rfl
      rw [← this]
      have : smallZ (hd s) = true := by unfold smallZ; simp [a, b]
      rw [this]; simp
    · rw [← hb]; exact this
theorem rest_word (s : Str) (lo hi : Int) (h : restB s = false) : wordB s lo hi = false := by
  rw [← Bool.not_eq_true]
  intro hw
  rw [← Bool.not_eq_true] at h
  apply h
  unfold wordB at hw
  simp only [Bool.and_eq_true, List.all_eq_true, decide_eq_true_iff] at hw
  obtain ⟨h0, h2, _, _, h5⟩ := hw
  have hs : 1 ≤ s.size := size_ne (by simpa using h0)
  refine rest_of (by omega) (by omega) fun j hj hjs => ?_
  have hj' : j < s.data.toList.length := by simpa using hjs
  have : byteZ s j = s.data.toList[j] := by
    unfold byteZ; rw [List.getD_eq_getElem?_getD, List.getElem?_eq_getElem hj']; rfl
  rw [this]
  exact h5 _ (List.getElem_mem hj')
theorem c56 (s : Str) : Pure Tryz.prog 56 [pS s] (pB (nameB s)) := by
  refine pure_end tyA_ok Tryz.func56 rfl (by decide) Tryz.ntmps56 rfl (by simp) rfl ?_
  refine gA rfl (go_pure (c99 s) rfl rfl rfl rfl rfl rfl ?_)
  refine gA rfl (go_pure (c100 s) rfl rfl rfl rfl rfl rfl ?_)
  refine gA rfl ?_
  refine And.intro (fun g1 => ?_) (fun g1 => ?_)
  · have g1 : restB s = true := g1
    have hsz : 0 < s.size := by
      unfold restB at g1
      simp only [Bool.and_eq_true, decide_eq_true_iff] at g1
      omega
    refine gA rfl ?_
    refine And.intro (fun g2 => ?_) (fun g2 => ?_)
    · have g2 : resB s = false := by simpa using g2
      refine gA rfl (go_pure (c101 (hd s)) rfl rfl rfl rfl rfl rfl ?_)
      refine gA rfl (end_le (by first | exact .inr rfl | exact .inl rfl) rfl (.of_eq ?_))
      refine (pBE ?_ : pB _ = pB _)
      rw [nameB, g2, rest_name s g1]; rfl
    · have g2 : resB s = true := by simpa using g2
      refine gA rfl (end_le (by first | exact .inr rfl | exact .inl rfl) rfl (.of_eq ?_))
      refine (pBE ?_ : pB _ = pB _)
      rw [nameB, g2]; rfl
  · have g1 : restB s = false := by simpa using g1
    repeat (refine gA rfl (And.intro (fun q => ?_) (fun q => ?_)); all_goals (try (simp at q; done)))
    refine gA rfl (end_le (by first | exact .inr rfl | exact .inl rfl) rfl (.of_eq ?_))
    refine (pBE ?_ : pB _ = pB _)
    rw [nameB, rest_word s 97 122 g1]; simp
/-! Relations. -/
def findD (l : List Decl) (s : Str) : Option Decl := l.find? fun d => decide (d.name = s)
theorem hasK_putK {V : Type} {m : List ((KC.str).K × V)} {k s : Str} {v : V} : hasK .str (putK .str m k v) s = (decide (k = s) || hasK .str m s) := by
  rw [Bool.eq_iff_iff, Bool.or_eq_true, decide_eq_true_iff, hasK_iff, hasK_iff]
  by_cases h : k ∈ m.map Prod.fst
  · rw [keys_putK_in h]
    constructor
    · exact .inr
    · rintro (rfl | h2)
      · exact h
      · exact h2
  · rw [keys_putK_out h, List.mem_append, List.mem_singleton]
    constructor
    · rintro (h2 | h2)
      · exact .inr h2
      · exact .inl h2.symm
    · rintro (h2 | h2)
      · exact .inr h2.symm
      · exact .inl h2
theorem rels_look (s : Str) : ∀ (l : List Decl) (m : DM), hasK .str (l.foldl relStep m) s = (hasK .str m s || (findD l s).isSome) ∧ lkD .str (l.foldl relStep m) s Decl.z = if hasK .str m s = true then lkD .str m s Decl.z else (findD l s).getD Decl.z
  | [], m => by
    refine ⟨by simp [findD], ?_⟩
    simp only [List.foldl_nil, findD, List.find?_nil, Option.getD_none]
    cases h : hasK .str m s with
    | true => rfl
    | false =>
      rw [if_neg (by simp)]
      refine lkD_absent fun h2 => ?_
      rw [hasK_iff.2 h2] at h; cases h
  | d :: l, m => by
    rw [List.foldl_cons]
    obtain ⟨h1, h2⟩ := rels_look s l (relStep m d)
    rw [h1, h2]
    have hf : findD (d :: l) s = if d.name = s then some d else findD l s := by
      unfold findD
      rw [List.find?_cons]
      by_cases h : d.name = s
      · rw [decide_eq_true h, if_pos h]
      · rw [decide_eq_false h, if_neg h]
    rw [hf]
    unfold relStep
    cases hk : hasK .str m d.name with
    | true =>
      simp only [if_true]
      by_cases h : d.name = s
      · subst h; simp [hk]
      · rw [if_neg h]; exact ⟨rfl, rfl⟩
    | false =>
      simp only [Bool.false_eq_true, if_false]
      rw [hasK_putK, lkD_putK]
      by_cases h : d.name = s
      · subst h; simp [hk]
      · rw [if_neg h, if_neg h, decide_eq_false h]; exact ⟨rfl, rfl⟩
theorem rel_has (p : Prog) (s : Str) : hasK .str (relsM p) s = (findD p.rels s).isSome := by
  have := (rels_look s p.rels []).1
  rw [show hasK .str ([] : DM) s = false from rfl, Bool.false_or] at this
  exact this
theorem rel_decl (p : Prog) (s : Str) : declOf p s = (findD p.rels s).getD Decl.z := by
  have := (rels_look s p.rels []).2
  rw [show hasK .str ([] : DM) s = false from rfl, if_neg (by simp)] at this
  exact this
theorem find_step {l : List Decl} {s : Str} {i : Nat} (hJ : findD (l.take i) s = none) (hi : i < l.length) (h : ¬ (l.getD i default).name = s) : findD (l.take (i + 1)) s = none := by
  unfold findD at *
  rw [take_step hi, List.find?_append, hJ, List.find?_cons, decide_eq_false h]; rfl
theorem find_at {l : List Decl} {s : Str} {i : Nat} (hJ : findD (l.take i) s = none) (hi : i < l.length) (h : (l.getD i default).name = s) : findD l s = some (l.getD i default) := by
  unfold findD at *
  have e : l = l.take i ++ (l.getD i default :: l.drop (i + 1)) := by
    rw [List.getD_eq_getElem?_getD, List.getElem?_eq_getElem hi, Option.getD_some, List.getElem_cons_drop, List.take_append_drop]
  have key : (l.take i ++ (l.getD i default :: l.drop (i + 1))).find? (fun d => decide (d.name = s)) = some (l.getD i default) := by
    rw [List.find?_append, hJ, List.find?_cons, decide_eq_true h]; rfl
  rwa [← e] at key
theorem c57 (p : Prog) (s : Str) (hb : p.rels.length ≤ 1000000000000) : Pure Tryz.prog 57 [ag p.c, pS s] (.tup [ag (declOf p s).c, pB (hasK .str (relsM p) s)]) := by
  rw [rel_has, rel_decl]
  refine pure_end tyA_ok Tryz.func57 rfl (by decide) Tryz.ntmps57 rfl (by simp) rfl ?_
  refine gA rfl ?_
  refine go_for 0 p.rels.length (Nat.zero_le _) (fun i => ⟨[(1, pS s), (2, .ptr 0 0), (4, .ptr 1 0), (6, pI i)], [(0, some (cellsI p.c)), (1, some (.cells [pS ByteArray.empty, .iv (.v (.slice none 0 0)), pI 0, pI 0]))], 2⟩) (fun i => findD (p.rels.take i) s = none) [] rfl
    (wk rfl rfl rfl ⟨.refl _, rfl, .refl _, rfl, .refl _, rfl, .refl _, rfl, trivial⟩ (hC rfl rfl rfl ⟨⟨_, rfl, .of_eq rfl⟩, Nat.le_of_ble_eq_true rfl, rfl, trivial⟩) rfl) fun i hi hJ => ?_
  refine gA rfl ?_
  refine And.intro (fun h1 => ?_) (fun h1 => ?_)
  · have h1 : i < p.rels.length := by simpa using h1
    refine gA rfl ?_
    refine And.intro (fun h2 => ?_) (fun h2 => ?_)
    · have h2 : (p.rels.getD i default).name = s := by simpa using h2
      refine gA rfl (end_le (by first | exact .inr rfl | exact .inl rfl) rfl ?_)
      rw [find_at hJ h1 h2]
      exact .refl _
    · have h2 : ¬ (p.rels.getD i default).name = s := by simpa using h2
      refine gA rfl ?_
      exact ⟨h1, find_step hJ h1 h2, [], wk rfl rfl rfl ⟨.refl _, rfl, .refl _, rfl, .refl _, rfl, .refl _, rfl, trivial⟩ (hC rfl rfl rfl ⟨⟨_, rfl, .of_eq rfl⟩, Nat.le_of_ble_eq_true rfl, rfl, trivial⟩) rfl⟩
  · have h1 : p.rels.length ≤ i := by simpa using h1
    have hie : i = p.rels.length := by omega
    subst hie
    rw [List.take_of_length_le (Nat.le_refl _)] at hJ
    rw [hJ]
    refine gA rfl (end_le (by first | exact .inr rfl | exact .inl rfl) rfl ?_)
    exact .tup ⟨.agg ⟨.refl _, .nil _ _, .refl _, .refl _, trivial⟩, .refl _, trivial⟩
end Go.Proofs.YtpnclpbkecjinaaGreatDoorR
/-
  SoundFits on data.
-/
namespace Go.Proofs.YtpnclpbkecjinaaGreatDoorR
open Go Go.Al
set_option maxRecDepth 10000
/-- The reference's answer is the program's. -/
def okAt (p : Prog) (f : Fact) (j : Nat) : Bool := decide (vCheck (f.args.getD j default) = 0) && fitB p f j
theorem factOK_all (f : Fact) : factOK f = (nameB f.rel && (decide (f.args.length ≤ 8) && f.args.all fun v => decide (vCheck v = 0))) := rfl
theorem all_getD {α : Type} [Inhabited α] {l : List α} {q : α → Bool} : l.all q = true ↔ ∀ j, j < l.length → q (l.getD j default) = true := by
  rw [List.all_eq_true]
  constructor
  · intro h j hj
    rw [List.getD_eq_getElem?_getD, List.getElem?_eq_getElem hj]
    exact h _ (List.getElem_mem hj)
  · intro h x hx
    obtain ⟨j, hj, rfl⟩ := List.mem_iff_getElem.1 hx
    have := h j hj
    rwa [List.getD_eq_getElem?_getD, List.getElem?_eq_getElem hj] at this
theorem fact_no {p : Prog} {f : Fact} (h : nameB f.rel = false ∨ hasK .str (relsM p) f.rel = false ∨ ¬ f.args.length ≤ 8 ∨ ¬ (f.args.length : Int) = ((declOf p f.rel).types.length : Int) ∨ ∃ j, j < f.args.length ∧ okAt p f j = false) : factR p f = 5 := by
  unfold factR
  by_cases hc : hasK .str (relsM p) f.rel = false ∨ factOK f = false ∨ ¬ (f.args.length : Int) = ((declOf p f.rel).types.length : Int)
  · rw [if_pos hc]
  rw [if_neg hc]
  rw [not_or, not_or] at hc
  obtain ⟨h1, h2, h3⟩ := hc
  rw [Bool.not_eq_false] at h2
  rw [factOK_all, Bool.and_eq_true, Bool.and_eq_true, decide_eq_true_iff] at h2
  rcases h with h | h | h | h | ⟨j, hj, h⟩
  · rw [h] at h2; cases h2.1
  · exact absurd h h1
  · exact absurd h2.2.1 h
  · exact absurd h h3
  · rw [if_neg]
    refine range_not hj ?_
    have := all_getD.1 h2.2.2 j hj
    unfold okAt at h
    rw [this, Bool.true_and] at h
    exact h
theorem fact_yes {p : Prog} {f : Fact} (h1 : nameB f.rel = true) (h2 : hasK .str (relsM p) f.rel = true) (h3 : f.args.length ≤ 8) (h4 : (f.args.length : Int) = ((declOf p f.rel).types.length : Int)) (h5 : ∀ j, j < f.args.length → okAt p f j = true) : factR p f = 0 := by
  have hk : factOK f = true := by
    rw [factOK_all, h1, decide_eq_true h3, Bool.true_and, Bool.true_and]
    refine all_getD.2 fun j hj => ?_
    have := h5 j hj
    unfold okAt at this
    rw [Bool.and_eq_true] at this
    exact this.1
  unfold factR
  rw [if_neg (by rintro (h | h | h); · rw [h2] at h; cases h
                 · rw [hk] at h; cases h
                 · exact h h4), if_pos]
  refine range_all fun j hj => ?_
  have := h5 j hj
  unfold okAt at this
  rw [Bool.and_eq_true] at this
  exact this.2
theorem c17 (p : Prog) (f : Fact) (hb : p.rels.length ≤ 1000000000) (hf : f.args.length ≤ 1000000000) : Pure Tryz.prog 17 [ag p.c, ag f.c] (pI (factR p f)) := by
  refine pure_end tyA_ok Tryz.func17 rfl (by decide) Tryz.ntmps17 rfl (by simp) rfl ?_
  refine gA rfl (go_pure (c56 f.rel) rfl rfl rfl rfl rfl rfl ?_)
  refine gA rfl (go_pure (c57 p f.rel (by omega)) rfl rfl rfl rfl rfl rfl ?_)
  refine gA rfl ?_
  refine And.intro (fun g1 => ?_) (fun g1 => ?_)
  rotate_left
  · have g1 : nameB f.rel = false := by simpa using g1
    rw [fact_no (.inl g1)]
    repeat (refine gA rfl (And.intro (fun q => ?_) (fun q => ?_)); all_goals (try (simp at q; done)))
    refine gA rfl (end_le (by first | exact .inr rfl | exact .inl rfl) rfl (.of_eq ?_))
    rfl
  have g1 : nameB f.rel = true := by simpa using g1
  refine gA rfl ?_
  refine And.intro (fun g2 => ?_) (fun g2 => ?_)
  rotate_left
  · have g2 : hasK .str (relsM p) f.rel = false := by simpa using g2
    rw [fact_no (.inr (.inl g2))]
    repeat (refine gA rfl (And.intro (fun q => ?_) (fun q => ?_)); all_goals (try (simp at q; done)))
    refine gA rfl (end_le (by first | exact .inr rfl | exact .inl rfl) rfl (.of_eq ?_))
    rfl
  have g2 : hasK .str (relsM p) f.rel = true := by simpa using g2
  refine gA rfl ?_
  refine And.intro (fun g3 => ?_) (fun g3 => ?_)
  rotate_left
  · have g3 : ¬ f.args.length ≤ 8 := by
      have := of_decide_eq_true (show decide ((f.args.length : Int) > 8) = true from g3)
      omega
    rw [fact_no (.inr (.inr (.inl g3)))]
    repeat (refine gA rfl (And.intro (fun q => ?_) (fun q => ?_)); all_goals (try (simp at q; done)))
    refine gA rfl (end_le (by first | exact .inr rfl | exact .inl rfl) rfl (.of_eq ?_))
    rfl
  have g3 : f.args.length ≤ 8 := by
    have := of_decide_eq_false (show decide ((f.args.length : Int) > 8) = false from g3)
    omega
  refine gA rfl ?_
  refine And.intro (fun g4 => ?_) (fun g4 => ?_)
  · have g4 : ¬ (f.args.length : Int) = ((declOf p f.rel).types.length : Int) := by
      have g : (!decide ((f.args.length : Int) = ((declOf p f.rel).types.length : Int))) = true := g4
      simpa only [Bool.not_eq_true', decide_eq_false_iff_not] using g
    rw [fact_no (.inr (.inr (.inr (.inl g4))))]
    refine gA rfl (end_le (by first | exact .inr rfl | exact .inl rfl) rfl (.of_eq ?_))
    rfl
  have g4 : (f.args.length : Int) = ((declOf p f.rel).types.length : Int) := by
    have g : (!decide ((f.args.length : Int) = ((declOf p f.rel).types.length : Int))) = false := g4
    simpa only [Bool.not_eq_false', decide_eq_true_eq] using g
  refine gA rfl ?_
  refine go_for 0 f.args.length (Nat.zero_le _) (fun i => ⟨[(3, .ptr 1 0), (6, .ptr 2 0), (8, pI i)], [(1, some (cellsI f.c)), (2, some (cellsI (declOf p f.rel).c))], 3⟩) (fun i => ∀ j, j < i → okAt p f j = true) [] (fun j hj => absurd hj (Nat.not_lt_zero j))
    (wk rfl rfl rfl ⟨.refl _, rfl, .refl _, rfl, .refl _, rfl, trivial⟩ (hC rfl rfl rfl (hC rfl rfl rfl trivial)) rfl) fun i hi hJ => ?_
  refine gA rfl ?_
  refine And.intro (fun h1 => ?_) (fun h1 => ?_)
  · have h1 : i < f.args.length := Int.ofNat_lt.1 (of_decide_eq_true h1)
    refine gA rfl (go_pure (c58 (f.args.getD i default)) rfl rfl rfl rfl rfl rfl ?_)
    refine gA rfl ?_
    refine And.intro (fun h2 => ?_) (fun h2 => ?_)
    · have h2 : decide (vCheck (f.args.getD i default) = 0) = false := by simpa using h2
      rw [fact_no (.inr (.inr (.inr (.inr ⟨i, h1, by unfold okAt; rw [h2]; rfl⟩))))]
      repeat (refine gA rfl (And.intro (fun q => ?_) (fun q => ?_)); all_goals (try (simp at q; done)))
      refine gA rfl (end_le (by first | exact .inr rfl | exact .inl rfl) rfl (.of_eq ?_))
      rfl
    have h2 : decide (vCheck (f.args.getD i default) = 0) = true := by simpa using h2
    refine gA rfl ?_
    refine And.intro (fun h3 => ?_) (fun h3 => ?_)
    · have h3 : fitB p f i = false := by
        have g : (!fitB p f i) = true := h3
        simpa using g
      rw [fact_no (.inr (.inr (.inr (.inr ⟨i, h1, by unfold okAt; rw [h3, Bool.and_false]⟩))))]
      refine gA rfl (end_le (by first | exact .inr rfl | exact .inl rfl) rfl (.of_eq ?_))
      rfl
    · have h3 : fitB p f i = true := by
        have g : (!fitB p f i) = false := h3
        simpa using g
      refine gA rfl ?_
      exact ⟨h1, fun j hj => by rcases Nat.lt_succ_iff_lt_or_eq.1 hj with h | h; exact hJ j h; subst h; unfold okAt; rw [h2, h3]; rfl, [], wk rfl rfl rfl ⟨.refl _, rfl, .refl _, rfl, .refl _, rfl, trivial⟩ (hC rfl rfl rfl (hC rfl rfl rfl trivial)) rfl⟩
  · have h1 : f.args.length ≤ i := Nat.le_of_not_lt fun hh => absurd (Int.ofNat_lt.2 hh) (of_decide_eq_false h1)
    rw [fact_yes g1 g2 g3 g4 fun j hj => hJ j (by omega)]
    refine gA rfl (end_le (by first | exact .inr rfl | exact .inl rfl) rfl (.of_eq ?_))
    rfl
set_option maxHeartbeats 800000 in
/-- SoundFits, on data, whole. -/
theorem fits_all (p : Prog) (l : List Fact) (hf : p.fit) (hp : p.size ≤ 10000000) (hl : l.length ≤ 10000000) (hb : ∀ f ∈ l, f.args.length ≤ 10000000) : Pure Tryz.prog 4 [ag p.c, .iv (slc 2 l Fact.c)] (pB true) := by
  have hpr : p.rels.length ≤ 1000000000 := hf.1
  refine pure_end tyA_ok Tryz.func4 rfl (by decide) Tryz.ntmps4 rfl (by simp) rfl ?_
  refine gA rfl (go_pure (known_ok) rfl rfl rfl rfl rfl rfl ?_)
  refine gA rfl (go_pure (c14 p (by omega)) rfl rfl rfl rfl rfl rfl ?_)
  refine gA rfl (go_pure (c15 l (by omega) (fun f h => by have := hb f h; omega)) rfl rfl rfl rfl rfl rfl ?_)
  refine gA rfl ?_
  refine go_for 0 l.length (Nat.zero_le _) (fun i => ⟨[(1, .iv (slc 2 l Fact.c)), (2, .ptr 0 0), (5, pB true), (6, .ptr 1 0), (7, .iv (slc 2 l Fact.c)), (8, pI i)], [(0, some (cellsI p.c)), (1, some (cellsI p.c))], 2⟩) (fun _ => True) [] trivial
    (wk rfl rfl rfl ⟨.refl _, rfl, .refl _, rfl, .refl _, rfl, .refl _, rfl, .refl _, rfl, .refl _, rfl, trivial⟩ (hC rfl rfl rfl (hC rfl rfl rfl trivial)) rfl) fun i hi _ => ?_
  refine gA rfl ?_
  refine And.intro (fun h1 => ?_) (fun h1 => ?_)
  · have h1 : i < l.length := Int.ofNat_lt.1 (of_decide_eq_true h1)
    have hm : l.getD i default ∈ l := by rw [List.getD_eq_getElem?_getD, List.getElem?_eq_getElem h1]; exact List.getElem_mem h1
    have hfl := hb _ hm
    refine gA rfl (go_ddet tyA_ok [] (Pure.det (c16 p (l.getD i default) hpr (by omega))) rfl rfl rfl rfl rfl rfl rfl rfl rfl rfl rfl rfl (by (repeat' (first | exact trivial | exact rfl | exact PVle.refl _ | exact PVle.bk (by assumption) | apply And.intro)) <;> first | omega | (simp only [Int.toNat_natCast]; omega) | (simp; done) | (simp; omega)) rfl (by (repeat' (first | exact trivial | exact rfl | exact PVle.refl _ | exact PVle.bk (by assumption) | apply And.intro)) <;> first | omega | (simp only [Int.toNat_natCast]; omega) | (simp; done) | (simp; omega)) ?_)
    refine gA rfl (go_ddet tyA_ok [] (Pure.det (c17 p (l.getD i default) hpr (by omega))) rfl rfl rfl rfl rfl rfl rfl rfl rfl rfl rfl rfl (by (repeat' (first | exact trivial | exact rfl | exact PVle.refl _ | exact PVle.bk (by assumption) | apply And.intro)) <;> first | omega | (simp only [Int.toNat_natCast]; omega) | (simp; done) | (simp; omega)) rfl (by (repeat' (first | exact trivial | exact rfl | exact PVle.refl _ | exact PVle.bk (by assumption) | apply And.intro)) <;> first | omega | (simp only [Int.toNat_natCast]; omega) | (simp; done) | (simp; omega)) ?_)
    repeat (refine gA rfl (And.intro (fun q => ?_) (fun q => ?_)); all_goals (try (simp at q; done)))
    refine gA rfl ?_
    exact ⟨h1, trivial, [], wk rfl rfl rfl ⟨.refl _, rfl, .refl _, rfl, .refl _, rfl, .refl _, rfl, .refl _, rfl, .refl _, rfl, trivial⟩ (hC rfl rfl rfl (hC rfl rfl rfl trivial)) rfl⟩
  · refine gA rfl (go_pure (c18s p (by omega)) rfl rfl rfl rfl rfl rfl ?_)
    refine gA rfl (go_pure (c19s l) rfl rfl rfl rfl rfl rfl ?_)
    repeat (refine gA rfl (And.intro (fun q => ?_) (fun q => ?_)); all_goals (try (simp at q; done)))
    refine gA rfl (end_le (by first | exact .inr rfl | exact .inl rfl) rfl (.of_eq ?_))
    rfl
end Go.Proofs.YtpnclpbkecjinaaGreatDoorR
/-
  Faults: all of them.
-/
namespace Go.Proofs.YtpnclpbkecjinaaGreatDoorR
open Go Go.Al
set_option maxRecDepth 10000
theorem relF_len (p : Prog) : ∀ i, (relF p i).length ≤ i
  | 0 => Nat.le_refl _
  | i + 1 => by
    have := relF_len p i
    unfold relF
    split <;> simp <;> omega
theorem rulF_len (p : Prog) : ∀ i, (rulF p i).length ≤ i
  | 0 => Nat.le_refl _
  | i + 1 => by
    have := rulF_len p i
    unfold rulF
    split <;> simp <;> omega
theorem diag_snoc (l : List Diag) (d : Diag) : (l.map fun x => x.c.map PV.iv) ++ [d.c.map .iv] = (l ++ [d]).map fun x => x.c.map PV.iv := by rw [List.map_append]; rfl
theorem rows_diag (σ : Nat → Nat) (l : List Diag) : (l.map fun x => x.c.map PV.iv).map (renL σ) = l.map fun x => x.c.map PV.iv := by
  rw [List.map_map]
  exact List.map_congr_left fun x _ => renL_iv σ _
theorem rows_frzM (i : Nat) (y : IV) (l : List Diag) : (l.map fun x => x.c.map PV.iv).map (frzML i y) = l.map fun x => x.c.map PV.iv := by
  rw [List.map_map]
  exact List.map_congr_left fun x _ => rfl
theorem d84 (d : Diag) (l : List Diag) (hb : l.length ≤ 10000000000) : Det Tryz.prog 84 [ag d.c, .ptr 0 0] [.cells [.sl 1 0 l.length 3], rowI 3 l Diag.c] (pB true) [(0, some (.cells [.sl 2 0 (l.length + 1) 3])), (2, some (rowI 3 (l ++ [d]) Diag.c))] 3 := by
  refine det_end tyA_ok Tryz.func84 rfl (by decide) Tryz.ntmps84 rfl (by simp) ?_
  refine gA rfl (end_det [4] (by first | exact .inr rfl | exact .inl rfl) rfl (wk rfl rfl rfl ⟨.refl _, rfl, trivial⟩ ⟨⟨_, rfl, .of_eq rfl⟩, Nat.le_of_ble_eq_true rfl, rfl, hR rfl (diag_snoc l d) rfl trivial⟩ rfl))
theorem d63B (p : Prog) (hb : p.fit) : Det Tryz.prog 63 [ag p.c, .clo (.func 84) [] [.ptr 0 0]] [.cells [.sl 1 0 0 3], rowI 3 [] Diag.c] (.tup []) [(0, some (.cells [.sl 2 0 (faultsD p).length 3])), (2, some (rowI 3 (faultsD p) Diag.c))] 3 := by
  obtain ⟨hb1, hb2, hb3⟩ := hb
  refine det_end tyA_ok Tryz.func63 rfl (by decide) Tryz.ntmps63 rfl (by simp) ?_
  refine gA rfl ?_
  refine go_for 0 p.rels.length (Nat.zero_le _) (fun i => ⟨[(1, .clo (.func 84) [] [.ptr 0 0]), (2, .ptr 2 0), (4, .mp 3), (13, .iv (slc 4 p.rels Decl.c)), (14, pI p.rels.length), (15, pI i)], [(0, some (.cells [.sl 4 0 (relF p i).length 3])), (2, some (cellsI p.c)), (3, some (nmO (occM (relName p i)))), (4, some (rowI 3 (relF p i) Diag.c))], 5⟩) (fun _ => True) [1] trivial
    (wk rfl rfl rfl ⟨.refl _, rfl, .refl _, rfl, .refl _, rfl, .refl _, rfl, .refl _, rfl, .refl _, rfl, trivial⟩ ⟨⟨_, rfl, .of_eq rfl⟩, Nat.le_of_ble_eq_true rfl, rfl, ⟨⟨_, rfl, .of_eq rfl⟩, Nat.le_of_ble_eq_true rfl, rfl, hM0 rfl evI_zero rfl (hR rfl rfl rfl trivial)⟩⟩ rfl) fun i hi _ => ?_
  refine gA rfl ?_
  refine And.intro (fun h1 => ?_) (fun h1 => ?_)
  · have h1 : i < p.rels.length := Int.ofNat_lt.1 (of_decide_eq_true h1)
    have hl := relName_lk p i (p.rels.getD i default).name
    have hn := relName_step h1
    have hrl := relF_len p i
    refine gA rfl (go_pure (c107 (p.rels.getD i default) i (lkD .str (occM (relName p i)) (p.rels.getD i default).name 0)) rfl rfl rfl rfl rfl rfl ?_)
    refine gA rfl ?_
    refine And.intro (fun g => ?_) (fun g => ?_)
    · have g : ¬ relFault p i = 0 := by
        have g : (!decide (relFault p i = 0)) = true := g
        simpa only [Bool.not_eq_true', decide_eq_false_iff_not] using g
      refine gA rfl (go_det [0, 4] (d84 (relFault p i, (p.rels.getD i default).at_) (relF p i) (by omega)) rfl rfl rfl rfl rfl (congrArg (fun o => [some (AO.cells [.sl 4 0 (relF p i).length 3]), some o]) (rowI_ren _).symm) rfl rfl ?_)
      refine gA rfl ?_
      refine And.intro (fun q => ?_) (fun q => ?_)
      · cases q
      have hr : relF p (i + 1) = relF p i ++ [(relFault p i, (p.rels.getD i default).at_)] := by rw [relF, if_neg g]
      refine gA rfl ?_
      rw [hr]
      exact ⟨h1, trivial, [6], wk rfl rfl rfl ⟨.refl _, rfl, .refl _, rfl, .refl _, rfl, .refl _, rfl, .refl _, rfl, .refl _, rfl, trivial⟩ ⟨⟨_, rfl, .of_eq (by rw [List.length_append]; rfl)⟩, Nat.le_of_ble_eq_true rfl, rfl, ⟨⟨_, rfl, .of_eq rfl⟩, Nat.le_of_ble_eq_true rfl, rfl, hM rfl (by rw [hn]; rfl) rfl (hR rfl (rows_diag _ _) rfl trivial)⟩⟩ rfl⟩
    · have g : relFault p i = 0 := by
        have g : (!decide (relFault p i = 0)) = false := g
        simpa only [Bool.not_eq_false', decide_eq_true_eq] using g
      have hr : relF p (i + 1) = relF p i := by rw [relF, if_pos g, List.append_nil]
      refine gA rfl ?_
      rw [hr]
      exact ⟨h1, trivial, [4], wk rfl rfl rfl ⟨.refl _, rfl, .refl _, rfl, .refl _, rfl, .refl _, rfl, .refl _, rfl, .refl _, rfl, trivial⟩ ⟨⟨_, rfl, .of_eq rfl⟩, Nat.le_of_ble_eq_true rfl, rfl, ⟨⟨_, rfl, .of_eq rfl⟩, Nat.le_of_ble_eq_true rfl, rfl, hM rfl (by rw [hn]; rfl) rfl (hR rfl rfl rfl trivial)⟩⟩ rfl⟩
  have h1 : p.rels.length ≤ i := Nat.le_of_not_lt fun hh => absurd (Int.ofNat_lt.2 hh) (of_decide_eq_false h1)
  have hie : i = p.rels.length := by omega
  subst hie
  have hrl := relF_len p p.rels.length
  refine gA rfl (go_det [] (d50 p (by omega)) rfl rfl rfl rfl rfl rfl rfl rfl ?_)
  refine gA rfl ?_
  refine go_frzM 5 rfl ?_
  refine go_for 0 p.rules.length (Nat.zero_le _) (fun i => ⟨[(1, .clo (.func 84) [] [.ptr 0 0]), (2, .ptr 2 0), (8, .iv (relsI p)), (47, .iv (slc 5 p.rules Rule.c)), (48, pI p.rules.length), (49, pI i)], [(0, some (.cells [.sl 6 0 (relF p p.rels.length ++ rulF p i).length 3])), (2, some (cellsI p.c)), (6, some (rowI 3 (relF p p.rels.length ++ rulF p i) Diag.c))], 7⟩) (fun _ => True) [4] trivial
    (wk rfl rfl rfl ⟨.refl _, rfl, .refl _, rfl, .refl _, rfl, .refl _, rfl, .refl _, rfl, .refl _, rfl, trivial⟩ ⟨⟨_, rfl, .of_eq (by rw [List.length_append]; rfl)⟩, Nat.le_of_ble_eq_true rfl, rfl, ⟨⟨_, rfl, .of_eq rfl⟩, Nat.le_of_ble_eq_true rfl, rfl, (hR rfl (by rw [rulF, List.append_nil]; exact rows_frzM _ _ _) rfl trivial)⟩⟩ rfl) fun i hi _ => ?_
  refine gA rfl ?_
  refine And.intro (fun h2 => ?_) (fun h2 => ?_)
  · have h2 : i < p.rules.length := Int.ofNat_lt.1 (of_decide_eq_true h2)
    have hm : p.rules.getD i default ∈ p.rules := by rw [List.getD_eq_getElem?_getD, List.getElem?_eq_getElem h2]; exact List.getElem_mem h2
    have hul := rulF_len p i
    refine gA rfl (go_pure (c65 p (p.rules.getD i default) ((i : Int) + 1) (hb3 _ hm)) rfl rfl rfl rfl rfl rfl ?_)
    refine gA rfl ?_
    refine And.intro (fun g => ?_) (fun g => ?_)
    · have g : ¬ (rulD p i).1 = 0 := by
        have g : (!decide ((rulD p i).1 = 0)) = true := g
        simpa only [Bool.not_eq_true', decide_eq_false_iff_not] using g
      refine gA rfl (go_det [0, 6] (d84 (rulD p i) (relF p p.rels.length ++ rulF p i) (by rw [List.length_append]; omega)) rfl rfl rfl rfl rfl (congrArg (fun o => [some (AO.cells [.sl 6 0 (relF p p.rels.length ++ rulF p i).length 3]), some o]) (rowI_ren _).symm) rfl rfl ?_)
      refine gA rfl ?_
      refine And.intro (fun q => ?_) (fun q => ?_)
      · cases q
      have hr : relF p p.rels.length ++ rulF p (i + 1) = (relF p p.rels.length ++ rulF p i) ++ [rulD p i] := by rw [rulF, if_neg g, List.append_assoc]
      refine gA rfl ?_
      rw [hr]
      exact ⟨h2, trivial, [8], wk rfl rfl rfl ⟨.refl _, rfl, .refl _, rfl, .refl _, rfl, .refl _, rfl, .refl _, rfl, .refl _, rfl, trivial⟩ ⟨⟨_, rfl, .of_eq (by rw [show ((relF p p.rels.length ++ rulF p i) ++ [rulD p i]).length = (relF p p.rels.length ++ rulF p i).length + 1 from List.length_append]; rfl)⟩, Nat.le_of_ble_eq_true rfl, rfl, ⟨⟨_, rfl, .of_eq rfl⟩, Nat.le_of_ble_eq_true rfl, rfl, (hR rfl (rows_diag _ _) rfl trivial)⟩⟩ rfl⟩
    · have g : (rulD p i).1 = 0 := by
        have g : (!decide ((rulD p i).1 = 0)) = false := g
        simpa only [Bool.not_eq_false', decide_eq_true_eq] using g
      have hr : rulF p (i + 1) = rulF p i := by rw [rulF, if_pos g, List.append_nil]
      refine gA rfl ?_
      rw [hr]
      exact ⟨h2, trivial, [6], wk rfl rfl rfl ⟨.refl _, rfl, .refl _, rfl, .refl _, rfl, .refl _, rfl, .refl _, rfl, .refl _, rfl, trivial⟩ ⟨⟨_, rfl, .of_eq rfl⟩, Nat.le_of_ble_eq_true rfl, rfl, ⟨⟨_, rfl, .of_eq rfl⟩, Nat.le_of_ble_eq_true rfl, rfl, (hR rfl rfl rfl trivial)⟩⟩ rfl⟩
  have h2 : p.rules.length ≤ i := Nat.le_of_not_lt fun hh => absurd (Int.ofNat_lt.2 hh) (of_decide_eq_false h2)
  have hie : i = p.rules.length := by omega
  subst hie
  refine gA rfl (end_det [6] (by first | exact .inr rfl | exact .inl rfl) rfl (wk rfl rfl rfl ⟨.refl _, rfl, trivial⟩ ⟨⟨_, rfl, .of_eq rfl⟩, Nat.le_of_ble_eq_true rfl, rfl, hR rfl rfl rfl trivial⟩ rfl))
theorem c42 (p : Prog) (hb : p.fit) : Pure Tryz.prog 42 [ag p.c] (.iv (slc 3 (faultsD p) Diag.c)) := by
  refine pure_end tyA_ok Tryz.func42 rfl (by decide) Tryz.ntmps42 rfl (by simp) rfl ?_
  refine gM 9 rfl ?_
  refine go_virtC 1 0 3 rfl rfl ?_
  refine gA rfl (go_det [1, 2] (d63B p hb) rfl rfl rfl rfl rfl rfl rfl rfl ?_)
  refine gA rfl (end_row (by first | exact .inr rfl | exact .inl rfl) rfl rfl ((rows_diag _ _)) (rfl))
end Go.Proofs.YtpnclpbkecjinaaGreatDoorR
/-
  SoundTurned, in plain Lean: the lists of variables do not hang on the literals' order; one more positive literal limits no less.
-/
namespace Go.Proofs.YtpnclpbkecjinaaGreatDoorR
open Go Go.Al
set_option maxRecDepth 10000
/-! Told lists: sorted, and what they hold. -/
/-! Two literals changed about. -/
section
variable {r t : Rule} (hh : t.head = r.head) (hb : ∀ x, x ∈ t.body ↔ x ∈ r.body)
include hh hb
end
section
variable {r t : Rule} (hh : t.head = r.head) (hb : ∀ x, x ∈ t.body ↔ x ∈ r.body)
include hh hb
end
/-! Another positive literal. -/
/-- ALL THAT THE LAW ASKS. -/
structure Turned (r t u : Rule) (i k : Int) : Prop where
  limOut : ∀ x ∈ toldM (occM (limOcc r)), x ∈ toldM (occM (outerOcc r))
  plainLim : ∀ x ∈ toldM (occM (plOcc r)), x ∈ toldM (occM (limOcc r))
  outer : toldM (occM (outerOcc t)) = toldM (occM (outerOcc r))
  lim : toldM (occM (limOcc t)) = toldM (occM (limOcc r))
  plain : toldM (occM (plOcc t)) = toldM (occM (plOcc r))
  loc : locOut t i = locOut r k
  locOut : ∀ x ∈ locOut r k, x ∉ toldM (occM (outerOcc r))
  more : ∀ x ∈ toldM (occM (limOcc r)), x ∈ toldM (occM (limOcc u))
  hasX : ofB [88] ∈ toldM (occM (limOcc u))
end Go.Proofs.YtpnclpbkecjinaaGreatDoorR
/-
  A whole element of an own row is written; one own row that is data for a call alone.
  No program stands here. Conditions: none.
-/
namespace Go.Al
section
variable {P : Program} {ty : Ty} {nt : Nat} {Q : AQ} {k : List KI} {s : AS}
end
/-- ONE OWN ROW, data for a call alone: what 'go_bcall' asks. -/
theorem fz1 {M : Mem} {N : Nm} {n : Nat} {h : AH} {w : World} (i sz : Nat) {es : List (List PV)} (el : Nat → List IV) (hi : h.get i = some (.row sz es)) (hel : ∀ k e, es[k]? = some e → e = (el k).map .iv)
    {asv args : List PV} (hm : ∀ (j : Nat) (p : PV), args[j]? = some p → ∃ q, asv[j]? = some q ∧ q.inRow i sz es.length ∧ PVle (q.frz i sz el) p) (hr : Rel M N (· < n) h w) :
    ∃ M1 : Mem, M.le M1 ∧ Rel M1 N (· < n) [] w ∧ ∀ (j : Nat) (p : PV) (x : Value), args[j]? = some p → (∀ q, asv[j]? = some q → VR M N (· < n) q x) → VR M1 N (· < n) p x := by
  obtain ⟨M1, h1, h2, h4⟩ := frz_row hr hi hel
  refine ⟨M1, h1.mle, ⟨h2.frz, fun i o hi => (nomatch hi), fun i o hi => (nomatch hi), fun i o hi => (nomatch hi), fun i j o p hi => (nomatch hi)⟩, fun j p x hj hq => ?_⟩
  obtain ⟨q, g1, g2, g3⟩ := hm j p hj
  exact g3 _ _ _ _ (h4 q x (hq q g1) g2)
end Go.Al
/-
  SoundTurned: its small functions, and lists as rows of the call's own.
-/
namespace Go.Proofs.YtpnclpbkecjinaaGreatDoorR
open Go Go.Al
set_option maxRecDepth 10000
/-- A number taken into 0 to n - 1. -/
def atZ (i n : Int) : Int := if n < 1 then 0 else if Int.tmod i n < 0 then Int.tmod i n + n else Int.tmod i n
theorem atZ_in {i n : Int} (h : 0 < n) : 0 ≤ atZ i n ∧ atZ i n < n := by
  unfold atZ
  rw [if_neg (by omega)]
  have h1 := Int.tmod_lt_of_pos i h
  have h2 : -n < Int.tmod i n := Int.lt_tmod_of_pos i h
  split <;> omega
theorem c38 (i n : Int) (h0 : 0 ≤ n) (h1 : n ≤ 1000000000000) : Pure Tryz.prog 38 [pI i, pI n] (pI (atZ i n)) := by
  refine pure_end tyA_ok Tryz.func38 rfl (by decide) Tryz.ntmps38 rfl (by simp) rfl ?_
  refine gA rfl ?_
  refine And.intro (fun g1 => ?_) (fun g1 => ?_)
  · have g1 : n < 1 := by simpa using g1
    refine gA rfl (end_le (by first | exact .inr rfl | exact .inl rfl) rfl (.of_eq ?_))
    rw [atZ, if_pos g1]; rfl
  have g1 : ¬ n < 1 := by simpa using g1
  have g3 := Int.tmod_lt_of_pos i (show 0 < n by omega)
  have g4 := Int.lt_tmod_of_pos i (show 0 < n by omega)
  refine gA rfl ?_
  refine And.intro (fun g5 => ?_) (fun g5 => ?_)
  · have g5 : Int.tmod i n < 0 := of_decide_eq_true g5
    refine gA rfl (end_le (by first | exact .inr rfl | exact .inl rfl) rfl (.of_eq ?_))
    rw [atZ, if_neg g1, if_pos g5]; rfl
  · have g5 : ¬ Int.tmod i n < 0 := of_decide_eq_false g5
    refine gA rfl (end_le (by first | exact .inr rfl | exact .inl rfl) rfl (.of_eq ?_))
    rw [atZ, if_neg g1, if_neg g5]; rfl
end Go.Proofs.YtpnclpbkecjinaaGreatDoorR
/-
  A row that nobody writes any more, named in other rows too.
  No program stands here. Conditions: none.
-/
namespace Go.Al
end Go.Al
/-
  SoundTurned on data: the walk of the law.
-/
namespace Go.Proofs.YtpnclpbkecjinaaGreatDoorR
open Go Go.Al
set_option maxRecDepth 10000
theorem sizes_snoc : ∀ (l : List Lit) (x : Lit), Lit.sizes (l ++ [x]) = Lit.sizes l + x.size
  | [], x => by simp [Lit.sizes]
  | y :: r, x => by simp only [List.cons_append, Lit.sizes, sizes_snoc r x]; omega
/-! What the law compares. -/
end Go.Proofs.YtpnclpbkecjinaaGreatDoorR
/-
  SoundLess on data.
-/
namespace Go.Proofs.YtpnclpbkecjinaaGreatDoorR
open Go Go.Al
set_option maxRecDepth 10000
/-! The plain law. -/
theorem relF_ne (p : Prog) : ∀ i, ∀ d ∈ relF p i, ¬ d.1 = 0
  | 0, d, h => by cases h
  | i + 1, d, h => by
    rw [relF] at h
    rcases List.mem_append.1 h with h | h
    · exact relF_ne p i d h
    · split at h
      · cases h
      · rename_i g
        rw [List.mem_singleton] at h; subst h; exact g
theorem rulF_ne (p : Prog) : ∀ i, ∀ d ∈ rulF p i, ¬ d.1 = 0
  | 0, d, h => by cases h
  | i + 1, d, h => by
    rw [rulF] at h
    rcases List.mem_append.1 h with h | h
    · exact rulF_ne p i d h
    · split at h
      · cases h
      · rename_i g
        rw [List.mem_singleton] at h; subst h; exact g
theorem faults_ne (p : Prog) : ∀ d ∈ faultsD p, ¬ d.1 = 0 := fun d h => by
  rcases List.mem_append.1 h with h | h
  · exact relF_ne p _ d h
  · exact rulF_ne p _ d h
theorem check_zero (p : Prog) : (checkD p).1 = 0 ↔ faultsD p = [] := by
  unfold checkD
  cases h : faultsD p with
  | nil => exact ⟨fun _ => rfl, fun _ => rfl⟩
  | cons d l => exact ⟨fun e => absurd e (faults_ne p d (by rw [h]; exact List.mem_cons_self)), fun e => nomatch e⟩
theorem rulF_nil (p : Prog) : ∀ n, rulF p n = [] ↔ ∀ i, i < n → (rulD p i).1 = 0
  | 0 => ⟨fun _ i h => absurd h (Nat.not_lt_zero i), fun _ => rfl⟩
  | n + 1 => by
    rw [rulF, List.append_eq_nil_iff, rulF_nil p n]
    constructor
    · rintro ⟨h1, h2⟩ i hi
      rcases Nat.lt_succ_iff_lt_or_eq.1 hi with h | h
      · exact h1 i h
      · subst h
        by_cases g : (rulD p i).1 = 0
        · exact g
        · rw [if_neg g] at h2; cases h2
    · intro h
      exact ⟨fun i hi => h i (by omega), if_pos (h n (by omega))⟩
theorem relF_rels {p q : Prog} (h : q.rels = p.rels) : ∀ i, relF q i = relF p i
  | 0 => rfl
  | i + 1 => by
    have e : relFault q i = relFault p i := by unfold relFault relName; rw [h]
    rw [relF, relF, relF_rels h i, e, h]
theorem declOf_rels {p q : Prog} (h : q.rels = p.rels) : declOf q = declOf p := by
  funext s; unfold declOf relsM; rw [h]
theorem atomWs_rels {p q : Prog} (h : q.rels = p.rels) (r : Rule) (a : Atom) (lit w : Int) : ∀ i, atomWs q r a lit w i = atomWs p r a lit w i
  | 0 => rfl
  | i + 1 => by
    have e1 : typeAt q = typeAt p := by funext a i; unfold typeAt; rw [declOf_rels h]
    have e2 : typedB q = typedB p := by funext a i; unfold typedB; rw [declOf_rels h, e1]
    rw [atomWs, atomWs, atomWs_rels h r a lit w i]
    unfold termWs
    rw [e1, e2]
theorem litT_rels {p q : Prog} (h : q.rels = p.rels) (r : Rule) (lit w : Int) (t : TS) (l : Lit) : litT q r lit w t l = litT p r lit w t l := by
  unfold litT
  simp only [atomWs_rels h]
theorem inT_rels {p q : Prog} (h : q.rels = p.rels) (r : Rule) (i : Int) (t : TS) (ls : List Lit) : ∀ k, inT q r i t ls k = inT p r i t ls k
  | 0 => rfl
  | k + 1 => by rw [inT, inT, inT_rels h r i t ls k, litT_rels h]
theorem bodyT_rels {p q : Prog} (h : q.rels = p.rels) (r : Rule) : ∀ k, bodyT q r k = bodyT p r k
  | 0 => by rw [bodyT, bodyT, atomWs_rels h]
  | k + 1 => by rw [bodyT, bodyT, bodyT_rels h r k]; unfold stepT; rw [inT_rels h, litT_rels h]
theorem typesT_rels {p q : Prog} (h : q.rels = p.rels) (r : Rule) : typesT q r = typesT p r := by
  unfold typesT; rw [bodyT_rels h]
theorem looksD_rels {p q : Prog} (h : q.rels = p.rels) (r : Rule) : looksD q r = looksD p r := by
  unfold looksD
  rw [typesT_rels h]
  have e1 : absB q = absB p := by funext a; unfold absB relsM; rw [h]
  have e2 : aryB q = aryB p := by funext a; unfold aryB; rw [declOf_rels h]
  rw [e1, e2]
theorem ruleD_rels {p q : Prog} (h : q.rels = p.rels) (r : Rule) (n : Int) : ruleD q r n = ruleD p r n := by
  unfold ruleD
  rw [looksD_rels h]
theorem ruleD_le {p : Prog} {r : Rule} {n : Int} (h : (ruleD p r n).1 = 0) : n ≤ 256 := by
  refine Int.not_lt.1 fun hn => ?_
  unfold ruleD at h
  split at h
  · exact absurd h (by simp)
  · split at h
    · exact absurd h (by simp)
    · rw [if_pos (.inl hn)] at h
      exact absurd h (by simp)
theorem ruleD_num {p : Prog} {r : Rule} {n m : Int} (hn : n ≤ 256) (hm : m ≤ 256) : ruleD p r n = ruleD p r m := by
  unfold ruleD
  have e1 : (n > 256 ∨ (r.body.length : Int) > 12) = (m > 256 ∨ (r.body.length : Int) > 12) := propext ⟨fun h => h.elim (fun h => by omega) .inr, fun h => h.elim (fun h => by omega) .inr⟩
  simp only [e1]
theorem check_sub {p q : Prog} (hr : q.rels = p.rels) (hl : q.rules.length ≤ p.rules.length) (hm : ∀ r ∈ q.rules, r ∈ p.rules) (h : faultsD p = []) : (checkD q).1 = 0 := by
  obtain ⟨h1, h2⟩ := List.append_eq_nil_iff.1 h
  have h3 := (rulF_nil p _).1 h2
  refine (check_zero q).2 ?_
  rw [faultsD, relF_rels hr, hr, h1, List.nil_append]
  refine (rulF_nil q _).2 fun i hi => ?_
  have hmem : q.rules.getD i default ∈ q.rules := by rw [List.getD_eq_getElem?_getD, List.getElem?_eq_getElem hi]; exact List.getElem_mem hi
  obtain ⟨j, hj, e⟩ := List.mem_iff_getElem.1 (hm _ hmem)
  have h4 := h3 j hj
  have h5 := h3 (p.rules.length - 1) (by omega)
  have ej : p.rules.getD j default = q.rules.getD i default := by rw [← e, List.getD_eq_getElem?_getD, List.getElem?_eq_getElem hj]; rfl
  unfold rulD at h4 h5 ⊢
  have l4 := ruleD_le h4
  have l5 := ruleD_le h5
  rw [ej] at h4
  rw [ruleD_rels hr, ruleD_num (p := p) (m := (j : Int) + 1) (by omega) l4]
  exact h4
def lessA (p : Prog) (d : Int) : Nat → List Rule
  | 0 => []
  | i + 1 => if (i : Int) = d then lessA p d i else lessA p d i ++ [p.rules.getD i default]
def lessB (p : Prog) (k : Int) : Nat → List Rule
  | 0 => []
  | i + 1 => lessB p k i ++ [p.rules.getD (Int.tmod ((i : Int) + k) p.rules.length).toNat default]
theorem lessA_len (p : Prog) (d : Int) : ∀ i, (lessA p d i).length ≤ i
  | 0 => Nat.le_refl _
  | i + 1 => by
    have := lessA_len p d i
    rw [lessA]
    split
    · omega
    · rw [List.length_append]; simp; omega
theorem lessB_len (p : Prog) (k : Int) : ∀ i, (lessB p k i).length = i
  | 0 => rfl
  | i + 1 => by rw [lessB, List.length_append, lessB_len p k i]; rfl
theorem getD_memA {α : Type} [Inhabited α] {l : List α} {i : Nat} (hi : i < l.length) : l.getD i default ∈ l := by rw [List.getD_eq_getElem?_getD, List.getElem?_eq_getElem hi]; exact List.getElem_mem hi
theorem lessA_mem (p : Prog) (d : Int) : ∀ i, i ≤ p.rules.length → ∀ r ∈ lessA p d i, r ∈ p.rules
  | 0, _, r, h => by cases h
  | i + 1, hi, r, h => by
    rw [lessA] at h
    split at h
    · exact lessA_mem p d i (by omega) r h
    · rcases List.mem_append.1 h with h | h
      · exact lessA_mem p d i (by omega) r h
      · rw [List.mem_singleton] at h; subst h; exact getD_memA (by omega)
theorem tmod_in {a n : Int} (h0 : 0 ≤ a) (h : 0 < n) : 0 ≤ Int.tmod a n ∧ Int.tmod a n < n := ⟨Int.tmod_nonneg _ h0, Int.tmod_lt_of_pos a h⟩
theorem lessB_mem (p : Prog) (k : Int) (hk : 0 ≤ k) (hp : 0 < p.rules.length) : ∀ i, ∀ r ∈ lessB p k i, r ∈ p.rules
  | 0, r, h => by cases h
  | i + 1, r, h => by
    rw [lessB] at h
    rcases List.mem_append.1 h with h | h
    · exact lessB_mem p k hk hp i r h
    · rw [List.mem_singleton] at h; subst h
      have := tmod_in (a := (i : Int) + k) (n := p.rules.length) (by omega) (by omega)
      exact getD_memA (by omega)
theorem hmP (p : Prog) (l : List Rule) (R : Nat) : ∀ (j : Nat) (x : PV), [ag (⟨p.rels, l⟩ : Prog).c][j]? = some x → ∃ q, [PV.agg [.iv (slc 4 p.rels Decl.c), .sl R 0 l.length 5]][j]? = some q ∧ q.inRow R 5 (l.map fun x => x.c.map PV.iv).length ∧ PVle (q.frz R 5 fun k => (l.getD k default).c) x := by
  intro j x hj
  match j, hj with
  | 0, hj =>
    cases hj
    refine ⟨_, rfl, by simp [PV.inRow, inRowL], ?_⟩
    simp only [PV.frz, frzL, Nat.zero_add, Nat.beq_refl, cond_true]
    exact .refl _
  | j + 1, hj => exact nomatch hj
/-! The walk. -/
theorem less_bad (p : Prog) (drop turn : Int) (hf : p.fit) {d : Diag} {l : List Diag} (hF : faultsD p = d :: l) : Pure Tryz.prog 10 [ag p.c, pI drop, pI turn] (pB true) := by
  have hd := faults_ne p d (by rw [hF]; exact List.mem_cons_self)
  have hc : checkD p = d := by unfold checkD; rw [hF]; rfl
  have k24 := c24 p hf
  have k42 := c42 p hf
  rw [hc] at k24
  rw [hF] at k42
  refine pure_end tyA_ok Tryz.func10 rfl (by decide) Tryz.ntmps10 rfl (by simp) rfl ?_
  refine gA rfl (go_pure (known_ok) rfl rfl rfl rfl rfl rfl ?_)
  refine gA rfl (go_pure (k24) rfl rfl rfl rfl rfl rfl ?_)
  refine gA rfl (go_pure (k42) rfl rfl rfl rfl rfl rfl ?_)
  have hl : ¬ (((d :: l).length : Int) = 0) := by simp only [List.length_cons]; omega
  repeat (refine gA rfl (And.intro (fun q => ?_) (fun q => ?_)); all_goals (try (simp at q; done)); all_goals (try (simp only [decide_eq_false hl, decide_eq_false hd] at q; exact absurd q (by decide))))
  refine gA rfl (end_le (by first | exact .inr rfl | exact .inl rfl) rfl (.of_eq ?_))
  rfl
abbrev lessF (i : Nat) (n d k : Int) : AF := [(3, .ptr 0 0), (10, pI n), (11, .ptr 2 0), (12, .ptr 3 0), (13, pI d), (14, pI k), (15, pI i)]
abbrev lessS (p : Prog) (n d k : Int) (i : Nat) : AS := ⟨lessF i n d k, [(0, some (cellsI p.c)), (2, some (.cells [.iv (slc 4 p.rels Decl.c), .sl 6 0 (lessA p d i).length 5])), (3, some (.cells [.iv (slc 4 p.rels Decl.c), .sl 7 0 (lessB p k i).length 5])), (6, some (rowI 5 (lessA p d i) Rule.c)), (7, some (rowI 5 (lessB p k i) Rule.c))], 8⟩
set_option maxHeartbeats 1000000 in
theorem less_ok (p : Prog) (drop turn : Int) (hf : p.fit) (hs : p.size ≤ 10000000) (hF : faultsD p = []) : Pure Tryz.prog 10 [ag p.c, pI drop, pI turn] (pB true) := by
  have hc : checkD p = Diag.z := by unfold checkD; rw [hF]; rfl
  have k24 := c24 p hf
  have k42 := c42 p hf
  rw [hc] at k24
  rw [hF] at k42
  have hlen : p.rules.length ≤ 1000000000 := hf.2.1
  refine pure_end tyA_ok Tryz.func10 rfl (by decide) Tryz.ntmps10 rfl (by simp) rfl ?_
  refine gA rfl (go_pure (known_ok) rfl rfl rfl rfl rfl rfl ?_)
  refine gA rfl (go_pure (k24) rfl rfl rfl rfl rfl rfl ?_)
  refine gA rfl (go_pure (k42) rfl rfl rfl rfl rfl rfl ?_)
  repeat (refine gA rfl (And.intro (fun q => ?_) (fun q => ?_)); all_goals (try (simp at q; done)); all_goals (try (exact absurd q (by decide))); all_goals (try (exact absurd (show _ from q) (by decide))))
  · refine gA rfl (end_le (by first | exact .inr rfl | exact .inl rfl) rfl (.of_eq ?_))
    rfl
  have hn : ¬ (p.rules.length : Int) = 0 := of_decide_eq_false (show decide ((p.rules.length : Int) = 0) = false from q)
  obtain ⟨d0, d1⟩ := atZ_in (i := drop) (n := (p.rules.length : Int)) (by omega)
  obtain ⟨k0, k1⟩ := atZ_in (i := turn) (n := (p.rules.length : Int)) (by omega)
  refine gA rfl (go_pure (c38 drop p.rules.length (by omega) (by omega)) rfl rfl rfl rfl rfl rfl ?_)
  refine gA rfl (go_pure (c38 turn p.rules.length (by omega) (by omega)) rfl rfl rfl rfl rfl rfl ?_)
  generalize atZ drop p.rules.length = d at *
  generalize atZ turn p.rules.length = k at *
  refine gA rfl ?_
  refine go_virtC 2 1 5 rfl rfl ?_
  refine go_virtC 3 1 5 rfl rfl ?_
  refine go_for 0 p.rules.length (Nat.zero_le _) (lessS p p.rules.length d k) (fun _ => True) [4, 5] trivial
    (wk rfl rfl rfl ⟨.refl _, rfl, .refl _, rfl, .refl _, rfl, .refl _, rfl, .refl _, rfl, .refl _, rfl, .refl _, rfl, trivial⟩ (hC rfl rfl rfl ⟨⟨_, rfl, .of_eq rfl⟩, Nat.le_of_ble_eq_true rfl, rfl, ⟨_, rfl, .of_eq rfl⟩, Nat.le_of_ble_eq_true rfl, rfl, hR rfl rfl rfl (hR rfl rfl rfl trivial)⟩) rfl) fun i hi _ => ?_
  refine gA rfl ?_
  refine And.intro (fun h1 => ?_) (fun h1 => ?_)
  · have h1 : i < p.rules.length := by simpa using h1
    obtain ⟨m0, m1⟩ := tmod_in (a := (i : Int) + k) (n := p.rules.length) (by omega) (by omega)
    have hla := lessA_len p d i
    have hlb := lessB_len p k i
    have hb : lessB p k (i + 1) = lessB p k i ++ [p.rules.getD (Int.tmod ((i : Int) + k) p.rules.length).toNat default] := rfl
    refine gA rfl ?_
    refine And.intro (fun g => ?_) (fun g => ?_)
    · have g : ¬ (i : Int) = d := by
        have g : (!decide ((i : Int) = d)) = true := g
        simpa only [Bool.not_eq_true', decide_eq_false_iff_not] using g
      have ha : lessA p d (i + 1) = lessA p d i ++ [p.rules.getD i default] := by rw [lessA, if_neg g]
      refine gA rfl ?_
      exact ⟨h1, trivial, [9, 11], wk rfl rfl rfl ⟨.refl _, rfl, .refl _, rfl, .refl _, rfl, .refl _, rfl, .refl _, rfl, .refl _, rfl, .refl _, rfl, trivial⟩ (hC rfl rfl rfl ⟨⟨_, rfl, .of_eq (by rw [ha, List.length_append]; rfl)⟩, Nat.le_of_ble_eq_true rfl, rfl, ⟨_, rfl, .of_eq (by rw [hb, List.length_append]; rfl)⟩, Nat.le_of_ble_eq_true rfl, rfl, hR rfl (by rw [ha, List.map_append]; rfl) rfl (hR rfl (by rw [hb, List.map_append]; rfl) rfl trivial)⟩) rfl⟩
    · have g : (i : Int) = d := by
        have g : (!decide ((i : Int) = d)) = false := g
        simpa only [Bool.not_eq_false', decide_eq_true_eq] using g
      have ha : lessA p d (i + 1) = lessA p d i := by rw [lessA, if_pos g]
      refine gA rfl ?_
      exact ⟨h1, trivial, [6, 9], wk rfl rfl rfl ⟨.refl _, rfl, .refl _, rfl, .refl _, rfl, .refl _, rfl, .refl _, rfl, .refl _, rfl, .refl _, rfl, trivial⟩ (hC rfl rfl rfl ⟨⟨_, rfl, .of_eq (by rw [ha]; rfl)⟩, Nat.le_of_ble_eq_true rfl, rfl, ⟨_, rfl, .of_eq (by rw [hb, List.length_append]; rfl)⟩, Nat.le_of_ble_eq_true rfl, rfl, hR rfl (by rw [ha]) rfl (hR rfl (by rw [hb, List.map_append]; rfl) rfl trivial)⟩) rfl⟩
  · have h1 : p.rules.length ≤ i := by simpa using h1
    have hie : i = p.rules.length := by omega
    subst hie
    have hA := lessA_mem p d p.rules.length (Nat.le_refl _)
    have hB := lessB_mem p k k0 (by omega) p.rules.length
    have hlA := lessA_len p d p.rules.length
    have hlB := lessB_len p k p.rules.length
    generalize lessA p d p.rules.length = A at *
    generalize lessB p k p.rules.length = B at *
    have kA := c24 ⟨p.rels, A⟩ ⟨hf.1, by show A.length ≤ _; omega, fun r hr => hf.2.2 r (hA r hr)⟩
    have kB := c24 ⟨p.rels, B⟩ ⟨hf.1, by show B.length ≤ _; omega, fun r hr => hf.2.2 r (hB r hr)⟩
    have zA := check_sub (p := p) (q := ⟨p.rels, A⟩) rfl (by show A.length ≤ _; omega) hA hF
    have zB := check_sub (p := p) (q := ⟨p.rels, B⟩) rfl (by show B.length ≤ _; omega) hB hF
    refine gA rfl (go_bcall (asv := [.agg [.iv (slc 4 p.rels Decl.c), .sl 6 0 A.length 5]]) (Pure.det kA) rfl rfl rfl rfl rfl (fun M N w hr => fz1 6 5 (fun k => (A.getD k default).c) rfl (rowI_el rfl) (hmP p A 6) hr) rfl (fun j o hj => nomatch hj) rfl ?_)
    refine gA rfl (go_bcall (asv := [.agg [.iv (slc 4 p.rels Decl.c), .sl 7 0 B.length 5]]) (Pure.det kB) rfl rfl rfl rfl rfl (fun M N w hr => fz1 7 5 (fun k => (B.getD k default).c) rfl (rowI_el rfl) (hmP p B 7) hr) rfl (fun j o hj => nomatch hj) rfl ?_)
    refine gA rfl ?_
    refine And.intro (fun q1 => ?_) (fun q1 => ?_)
    · refine gA rfl (end_le (by first | exact .inr rfl | exact .inl rfl) rfl (.of_eq ?_))
      rw [zB]; rfl
    · exact absurd zA (of_decide_eq_false (show decide ((checkD ⟨p.rels, A⟩).1 = 0) = false from q1))
theorem less_all (p : Prog) (drop turn : Int) (hf : p.fit) (hs : p.size ≤ 10000000) : Pure Tryz.prog 10 [ag p.c, pI drop, pI turn] (pB true) := by
  cases hF : faultsD p with
  | nil => exact less_ok p drop turn hf hs hF
  | cons d l => exact less_bad p drop turn hf hF
end Go.Proofs.YtpnclpbkecjinaaGreatDoorR
/-
  The reference's words and values of layer 2, as its print needs them.
-/
namespace Go.Proofs.YtpnclpbkecjinaaGreatDoorR
open Go Go.Al
set_option maxRecDepth 10000
theorem c207 (c : Int) : Pure Tryz.prog 207 [pU c] (pB (smallZ c)) := by
  refine pure_end tyA_ok Tryz.func207 rfl (by decide) Tryz.ntmps207 rfl (by simp) rfl ?_
  repeat' (first
    | (refine gA rfl (And.intro (fun _ => ?_) (fun _ => ?_)))
    | (refine gA rfl (end_le (by first | exact .inr rfl | exact .inl rfl) rfl (.of_eq ?_))))
  all_goals (refine (pBE ?_ : pB _ = pB _); simp_all [smallZ]; try omega)
theorem c221 (c : Int) : Pure Tryz.prog 221 [pU c] (pB (capZ c)) := by
  refine pure_end tyA_ok Tryz.func221 rfl (by decide) Tryz.ntmps221 rfl (by simp) rfl ?_
  repeat' (first
    | (refine gA rfl (And.intro (fun _ => ?_) (fun _ => ?_)))
    | (refine gA rfl (end_le (by first | exact .inr rfl | exact .inl rfl) rfl (.of_eq ?_))))
  all_goals (refine (pBE ?_ : pB _ = pB _); simp_all [capZ]; try omega)
def digY (c : Int) : Bool := decide (c ≥ 48) && decide (c ≤ 57)
theorem c222 (c : Int) : Pure Tryz.prog 222 [pU c] (pB (digY c)) := by
  refine pure_end tyA_ok Tryz.func222 rfl (by decide) Tryz.ntmps222 rfl (by simp) rfl ?_
  repeat' (first
    | (refine gA rfl (And.intro (fun _ => ?_) (fun _ => ?_)))
    | (refine gA rfl (end_le (by first | exact .inr rfl | exact .inl rfl) rfl (.of_eq ?_))))
  all_goals (refine (pBE ?_ : pB _ = pB _); simp_all [digY]; try omega)
theorem c208 (s : Str) : Pure Tryz.prog 208 [pS s] (pB (resB s)) := by
  refine pure_end tyA_ok Tryz.func208 rfl (by decide) Tryz.ntmps208 rfl (by simp) rfl ?_
  repeat' (first
    | (refine gA rfl (And.intro (fun _ => ?_) (fun _ => ?_)))
    | (refine gA rfl (end_le (by first | exact .inr rfl | exact .inl rfl) rfl (.of_eq ?_))))
  all_goals (refine (pBE ?_ : pB _ = pB _))
  all_goals (simp only [resB, resL, List.any_cons, List.any_nil, *]; rfl)
theorem rest_eq {s : Str} (h : ∀ j, 1 ≤ j → j < s.size → okB (byteZ s j) = true) : restB s = (decide (1 ≤ s.size) && decide (s.size ≤ 32)) := by
  unfold restB
  have : ((List.range s.size).all fun i => decide (i = 0) || okB (byteZ s i)) = true := by
    rw [List.all_eq_true]
    intro j hj
    by_cases hz : j = 0
    · simp [hz]
    · rw [h j (by omega) (List.mem_range.1 hj)]; simp
  rw [this, Bool.and_true]
theorem c206 (s : Str) (hs : s.size ≤ 1000000000000) : Pure Tryz.prog 206 [pS s] (pB (restB s)) := by
  refine pure_end tyA_ok Tryz.func206 rfl (by decide) Tryz.ntmps206 rfl (by simp) rfl ?_
  refine gA rfl ?_
  by_cases hs0 : s.size = 0
  · have hr : restB s = false := by unfold restB; rw [decide_eq_false (by omega)]; rfl
    rw [hr]
    refine go_for 1 1 (by omega) (fun i => ⟨[(0, pS s), (3, pI i)], [], 0⟩) (fun i => i = 1) [] rfl (wk0 rfl rfl ⟨.refl _, rfl, .refl _, rfl, trivial⟩ rfl) fun i hi hJ => ?_
    subst hJ
    refine gA rfl ?_
    refine And.intro (fun h1 => ?_) (fun h1 => ?_)
    · have h1 : (1 : Int) < s.size := of_decide_eq_true h1
      omega
    · refine gA rfl ?_
      refine And.intro (fun h2 => ?_) (fun h2 => ?_)
      · have := of_decide_eq_true (show decide ((s.size : Int) ≥ 1) = true from h2)
        omega
      · refine gA rfl (end_le (by first | exact .inr rfl | exact .inl rfl) rfl (.of_eq ?_))
        rfl
  refine go_for 1 s.size (by omega) (fun i => ⟨[(0, pS s), (3, pI i)], [], 0⟩) (fun i => 1 ≤ i ∧ ∀ j, 1 ≤ j → j < i → okB (byteZ s j) = true) [] ⟨Nat.le_refl _, fun j h1 h2 => by omega⟩ (wk0 rfl rfl ⟨.refl _, rfl, .refl _, rfl, trivial⟩ rfl) fun i hi hJ => ?_
  obtain ⟨hi1, hJ⟩ := hJ
  refine gA rfl ?_
  refine And.intro (fun h1 => ?_) (fun h1 => ?_)
  · have h1 : i < s.size := by simpa using h1
    have hz : okB (byteZ s i) = (smallZ ((byteZ s i).toNat : Int) || (capZ ((byteZ s i).toNat : Int) || (digY ((byteZ s i).toNat : Int) || decide (((byteZ s i).toNat : Int) = 95)))) := by
      rw [okB_z]; unfold digZ
      rw [Bool.eq_iff_iff]
      simp only [digY, Bool.or_eq_true, Bool.and_eq_true, decide_eq_true_iff]
      constructor
      · rintro ((h | h) | (h | h))
        · exact .inr (.inr (.inl h))
        · exact .inr (.inr (.inr h))
        · exact .inl h
        · exact .inr (.inl h)
      · rintro (h | (h | (h | h)))
        · exact .inr (.inl h)
        · exact .inr (.inr h)
        · exact .inl (.inl h)
        · exact .inl (.inr h)
    have hon : okB (byteZ s i) = true → ∀ j, 1 ≤ j → j < i + 1 → okB (byteZ s j) = true := fun h j a b => by
      by_cases hji : j = i
      · subst hji; exact h
      · exact hJ j a (by omega)
    refine gA rfl (go_pure (c207 ((byteZ s i).toNat : Int)) rfl rfl rfl rfl rfl rfl ?_)
    refine gA rfl ?_
    refine And.intro (fun q1 => ?_) (fun q1 => ?_)
    · have q1 : smallZ ((byteZ s i).toNat : Int) = false := by simpa using q1
      refine gA rfl (go_pure (c221 ((byteZ s i).toNat : Int)) rfl rfl rfl rfl rfl rfl ?_)
      refine gA rfl ?_
      refine And.intro (fun q2 => ?_) (fun q2 => ?_)
      · have q2 : capZ ((byteZ s i).toNat : Int) = false := by simpa using q2
        refine gA rfl (go_pure (c222 ((byteZ s i).toNat : Int)) rfl rfl rfl rfl rfl rfl ?_)
        refine gA rfl ?_
        refine And.intro (fun q3 => ?_) (fun q3 => ?_)
        · have q3 : digY ((byteZ s i).toNat : Int) = false := by simpa using q3
          refine gA rfl ?_
          refine And.intro (fun q4 => ?_) (fun q4 => ?_)
          · have q4 : ¬ ((byteZ s i).toNat : Int) = 95 := by
              have g : (!decide (((byteZ s i).toNat : Int) = 95)) = true := q4
              simpa only [Bool.not_eq_true', decide_eq_false_iff_not] using g
            rw [q1, q2, q3, decide_eq_false q4] at hz
            rw [rest_no hi1 h1 hz]
            refine gA rfl (end_le (by first | exact .inr rfl | exact .inl rfl) rfl (.of_eq ?_))
            rfl
          · have q4 : ((byteZ s i).toNat : Int) = 95 := by
              have g : (!decide (((byteZ s i).toNat : Int) = 95)) = false := q4
              simpa only [Bool.not_eq_false', decide_eq_true_eq] using g
            rw [decide_eq_true q4] at hz
            refine gA rfl ?_
            exact ⟨h1, ⟨by omega, hon (by rw [hz]; simp)⟩, [], wk0 rfl rfl ⟨.refl _, rfl, .refl _, rfl, trivial⟩ rfl⟩
        · have q3 : digY ((byteZ s i).toNat : Int) = true := by simpa using q3
          rw [q3] at hz
          repeat (refine gA rfl (And.intro (fun q => ?_) (fun q => ?_)); all_goals (try (simp at q; done)))
          refine gA rfl ?_
          exact ⟨h1, ⟨by omega, hon (by rw [hz]; simp)⟩, [], wk0 rfl rfl ⟨.refl _, rfl, .refl _, rfl, trivial⟩ rfl⟩
      · have q2 : capZ ((byteZ s i).toNat : Int) = true := by simpa using q2
        rw [q2] at hz
        repeat (refine gA rfl (And.intro (fun q => ?_) (fun q => ?_)); all_goals (try (simp at q; done)))
        refine gA rfl ?_
        exact ⟨h1, ⟨by omega, hon (by rw [hz]; simp)⟩, [], wk0 rfl rfl ⟨.refl _, rfl, .refl _, rfl, trivial⟩ rfl⟩
    · have q1 : smallZ ((byteZ s i).toNat : Int) = true := by simpa using q1
      rw [q1] at hz
      repeat (refine gA rfl (And.intro (fun q => ?_) (fun q => ?_)); all_goals (try (simp at q; done)))
      refine gA rfl ?_
      exact ⟨h1, ⟨by omega, hon (by rw [hz]; simp)⟩, [], wk0 rfl rfl ⟨.refl _, rfl, .refl _, rfl, trivial⟩ rfl⟩
  · have h1 : s.size ≤ i := by simpa using h1
    have hr := rest_eq (s := s) fun j a b => hJ j a (by omega)
    have e1 : ((s.size : Int) ≥ 1) = (1 ≤ s.size) := propext ⟨fun h => by omega, fun h => by omega⟩
    have e2 : ((s.size : Int) ≤ 32) = (s.size ≤ 32) := propext ⟨fun h => by omega, fun h => by omega⟩
    repeat' (first
      | (refine gA rfl (And.intro (fun _ => ?_) (fun _ => ?_)))
      | (refine gA rfl (end_le (by first | exact .inr rfl | exact .inl rfl) rfl (.of_eq ?_))))
    all_goals (refine (pBE ?_ : pB _ = pB _); simp_all; try omega)
theorem rest_var (s : Str) (h : restB s = true) : varB s = capZ (hd s) := by
  unfold restB at h
  simp only [Bool.and_eq_true, List.all_eq_true, decide_eq_true_iff] at h
  obtain ⟨h1, h2, h3⟩ := h
  have hne : ¬ s = ⟨#[]⟩ := fun e => by rw [e] at h1; exact absurd h1 (by decide)
  unfold varB wordB capZ
  rw [decide_eq_false hne, decide_eq_true h2, Bool.not_false, Bool.true_and, Bool.true_and]
  rw [Bool.eq_iff_iff]
  simp only [Bool.and_eq_true, decide_eq_true_iff, List.all_eq_true]
  constructor
  · rintro ⟨a, b, _⟩; exact ⟨a, b⟩
  · rintro ⟨a, b⟩
    refine ⟨a, b, fun x hx => ?_⟩
    obtain ⟨j, hj, rfl⟩ := List.mem_iff_getElem.1 hx
    have hjs : j < s.size := by simpa using hj
    have := h3 j (List.mem_range.2 hjs)
    rw [Bool.or_eq_true, decide_eq_true_iff] at this
    have hb : byteZ s j = s.data.toList[j] := by
      unfold byteZ; rw [List.getD_eq_getElem?_getD, List.getElem?_eq_getElem hj]; rfl
    rcases this with rfl | this
    · rw [← hb, okB_z]
      have : hd s = ((byteZ s 0).toNat : Int) := rfl
      rw [← this]
      have : capZ (hd s) = true := by unfold capZ; simp [a, b]
      rw [this]; simp
    · rw [← hb]; exact this
theorem rest_pos {s : Str} (h : restB s = true) : 0 < s.size := by
  unfold restB at h
  simp only [Bool.and_eq_true, decide_eq_true_iff] at h
  omega
theorem c185 (s : Str) (hs : s.size ≤ 1000000000000) : Pure Tryz.prog 185 [pS s] (pB (nameB s)) := by
  refine pure_end tyA_ok Tryz.func185 rfl (by decide) Tryz.ntmps185 rfl (by simp) rfl ?_
  refine gA rfl (go_pure (c206 s hs) rfl rfl rfl rfl rfl rfl ?_)
  refine gA rfl ?_
  refine And.intro (fun g1 => ?_) (fun g1 => ?_)
  · have g1 : restB s = true := g1
    have hsz := rest_pos g1
    refine gA rfl (go_pure (c207 (hd s)) rfl rfl rfl rfl rfl rfl ?_)
    refine gA rfl ?_
    refine And.intro (fun g2 => ?_) (fun g2 => ?_)
    · have g2 : smallZ (hd s) = true := g2
      refine gA rfl (go_pure (c208 s) rfl rfl rfl rfl rfl rfl ?_)
      refine gA rfl (end_le (by first | exact .inr rfl | exact .inl rfl) rfl (.of_eq ?_))
      refine (pBE ?_ : pB _ = pB _)
      rw [nameB, rest_name s g1, g2, Bool.and_true]
    · have g2 : smallZ (hd s) = false := by simpa using g2
      repeat (refine gA rfl (And.intro (fun q => ?_) (fun q => ?_)); all_goals (try (simp at q; done)))
      refine gA rfl (end_le (by first | exact .inr rfl | exact .inl rfl) rfl (.of_eq ?_))
      refine (pBE ?_ : pB _ = pB _)
      rw [nameB, rest_name s g1, g2, Bool.and_false]
  · have g1 : restB s = false := by simpa using g1
    repeat (refine gA rfl (And.intro (fun q => ?_) (fun q => ?_)); all_goals (try (simp at q; done)))
    refine gA rfl (end_le (by first | exact .inr rfl | exact .inl rfl) rfl (.of_eq ?_))
    refine (pBE ?_ : pB _ = pB _)
    rw [nameB, rest_word s 97 122 g1]; simp
theorem c209 (s : Str) (hs : s.size ≤ 1000000000000) : Pure Tryz.prog 209 [pS s] (pB (varB s)) := by
  refine pure_end tyA_ok Tryz.func209 rfl (by decide) Tryz.ntmps209 rfl (by simp) rfl ?_
  refine gA rfl (go_pure (c206 s hs) rfl rfl rfl rfl rfl rfl ?_)
  refine gA rfl ?_
  refine And.intro (fun g1 => ?_) (fun g1 => ?_)
  · have g1 : restB s = true := g1
    have hsz := rest_pos g1
    refine gA rfl (go_pure (c221 (hd s)) rfl rfl rfl rfl rfl rfl ?_)
    refine gA rfl (end_le (by first | exact .inr rfl | exact .inl rfl) rfl (.of_eq ?_))
    refine (pBE ?_ : pB _ = pB _)
    rw [rest_var s g1]
  · have g1 : restB s = false := by simpa using g1
    repeat (refine gA rfl (And.intro (fun q => ?_) (fun q => ?_)); all_goals (try (simp at q; done)))
    refine gA rfl (end_le (by first | exact .inr rfl | exact .inl rfl) rfl (.of_eq ?_))
    refine (pBE ?_ : pB _ = pB _)
    rw [varB, rest_word s 65 90 g1]
theorem c223 (v : Val) : Pure Tryz.prog 223 [ag v.c] (pI (vCheck v)) := by
  refine pure_end tyA_ok Tryz.func223 rfl (by decide) Tryz.ntmps223 rfl (by simp) rfl ?_
  repeat' (first
    | (refine gA rfl (And.intro (fun _ => ?_) (fun _ => ?_)))
    | (refine gA rfl (end_le (by first | exact .inr rfl | exact .inl rfl) rfl (.of_eq ?_))))
  all_goals (have hE : (⟨#[]⟩ : ByteArray) = ByteArray.empty := rfl; refine congrArg pI ?_; simp_all [vCheck]; try omega)
end Go.Proofs.YtpnclpbkecjinaaGreatDoorR
/-
  The reference's texts of values, terms and atoms.
-/
namespace Go.Proofs.YtpnclpbkecjinaaGreatDoorR
open Go Go.Al
set_option maxRecDepth 10000
theorem bapp (a b : List UInt8) : (⟨a.toArray⟩ : ByteArray) ++ ⟨b.toArray⟩ = ⟨(a ++ b).toArray⟩ := by
  apply ByteArray.ext
  rw [ByteArray.data_append]
  simp
theorem bsize (a : List UInt8) : (⟨a.toArray⟩ : ByteArray).size = a.length := by simp [ByteArray.size]
theorem bget1 {s : Str} {i : Nat} (h : i < s.data.toList.length) : s.extract i (i + 1) = ⟨[s.data.toList.getD i default].toArray⟩ := by
  apply ByteArray.ext
  rw [ByteArray.data_extract]
  apply Array.ext'
  simp only [Array.toList_extract]
  rw [List.extract_eq_take_drop, List.getD_eq_getElem?_getD, List.getElem?_eq_getElem h]
  have e : s.data.toList.drop i = s.data.toList[i] :: s.data.toList.drop (i + 1) := List.drop_eq_getElem_cons h
  rw [e, show i + 1 - i = 1 by omega]
  simp
theorem hexS : ∀ k : Nat, k < 16 → hexL.extract k (k + 1) = ⟨[hexD (k : Int)].toArray⟩ := fun k h => bget1 (by
  have : hexL.data.toList.length = 16 := rfl
  omega)
theorem c235 (n : Int) (h0 : 0 ≤ n) (h1 : n < 16) : Pure Tryz.prog 235 [pU n] (pS ⟨[hexD n].toArray⟩) := by
  have hw : IntKind.u8.wrap (n + 1) = n + 1 := IntWalk.u8_in _ (by omega)
  obtain ⟨k, rfl⟩ : ∃ k : Nat, n = (k : Int) := ⟨n.toNat, by omega⟩
  have hk := hexS k (by omega)
  have hl : hexL.size = 16 := rfl
  refine pure_end tyA_ok Tryz.func235 rfl (by decide) Tryz.ntmps235 rfl (by simp) rfl ?_
  refine goR rfl (by simp only [hw]; refine ⟨?_, ?_⟩ <;> first | trivial | omega | (refine ⟨?_, ?_⟩ <;> first | trivial | omega | (refine ⟨?_, ?_⟩ <;> first | trivial | omega))) (end_le (by first | exact .inr rfl | exact .inl rfl) rfl (.of_eq ?_))
  rw [hw, ← hk]
  rfl
theorem c224 (s : Str) (hs : s.size ≤ 1000) : Pure Tryz.prog 224 [pS s] (pS (quoteS s)) := by
  have hl : s.data.toList.length = s.size := by simp
  refine pure_end tyA_ok Tryz.func224 rfl (by decide) Tryz.ntmps224 rfl (by simp) rfl ?_
  refine gA rfl ?_
  refine go_for 0 s.data.toList.length (Nat.zero_le _) (fun i => ⟨[(0, pS s), (3, pS ⟨(outQ s i).toArray⟩), (4, pI i)], [], 0⟩) (fun _ => True) [] trivial
    (wk0 rfl rfl ⟨.refl _, rfl, .refl _, rfl, .refl _, rfl, trivial⟩ rfl) fun i hi _ => ?_
  have hq := outQ_len s i
  have hz := bsize (outQ s i)
  have z1 : (⟨#[34]⟩ : ByteArray).size = 1 := rfl
  have z2 : (⟨#[92, 34]⟩ : ByteArray).size = 2 := rfl
  have z3 : (⟨#[92, 92]⟩ : ByteArray).size = 2 := rfl
  have z4 : (⟨#[92, 110]⟩ : ByteArray).size = 2 := rfl
  have z5 : (⟨#[92, 120]⟩ : ByteArray).size = 2 := rfl
  refine gA rfl ?_
  refine And.intro (fun h1 => ?_) (fun h1 => ?_)
  rotate_left
  · have h1 : s.data.toList.length ≤ i := by
      have := of_decide_eq_false (show decide ((i : Int) < (s.size : Int)) = false from h1)
      omega
    refine gA rfl (end_le (by first | exact .inr rfl | exact .inl rfl) rfl (.of_eq ?_))
    rw [show (⟨#[34]⟩ : ByteArray) = ⟨[34].toArray⟩ from rfl, bapp]
    simp only [outQ, quoteS, List.take_of_length_le h1]
    rfl
  have h1 : i < s.data.toList.length := by
    have := of_decide_eq_true (show decide ((i : Int) < (s.size : Int)) = true from h1)
    omega
  have hsu := outQ_succ h1
  have hgc : s.data.toList.getD (i : Int).toNat 0 = s.data.toList.getD i default := rfl
  have hcut := bget1 h1
  generalize hc : s.data.toList.getD i default = c at hsu hgc hcut
  refine gA rfl ?_
  refine And.intro (fun h2 => ?_) (fun h2 => ?_)
  · have h2 : c.toNat = 34 := by have := of_decide_eq_true h2; rw [hgc] at this; omega
    rw [qB, if_pos (.inl h2)] at hsu
    have hc34 : c = 34 := UInt8.toNat_inj.1 h2
    refine gA rfl ?_
    exact ⟨h1, trivial, [], wk0 rfl rfl ⟨.refl _, rfl, .of_eq (by rw [hsu, hc34, show (⟨#[92, 34]⟩ : ByteArray) = ⟨[92, 34].toArray⟩ from rfl, bapp]; rfl), rfl, .refl _, rfl, trivial⟩ rfl⟩
  have h2 : ¬ c.toNat = 34 := by have := of_decide_eq_false h2; rw [hgc] at this; omega
  refine gA rfl ?_
  refine And.intro (fun h3 => ?_) (fun h3 => ?_)
  · have h3 : c.toNat = 92 := by have := of_decide_eq_true h3; rw [hgc] at this; omega
    rw [qB, if_pos (.inr h3)] at hsu
    have hc92 : c = 92 := UInt8.toNat_inj.1 h3
    refine gA rfl ?_
    exact ⟨h1, trivial, [], wk0 rfl rfl ⟨.refl _, rfl, .of_eq (by rw [hsu, hc92, show (⟨#[92, 92]⟩ : ByteArray) = ⟨[92, 92].toArray⟩ from rfl, bapp]; rfl), rfl, .refl _, rfl, trivial⟩ rfl⟩
  have h3 : ¬ c.toNat = 92 := by have := of_decide_eq_false h3; rw [hgc] at this; omega
  rw [qB, if_neg (by omega)] at hsu
  refine gA rfl ?_
  refine And.intro (fun h4 => ?_) (fun h4 => ?_)
  · have h4 : c.toNat = 10 := by have := of_decide_eq_true h4; rw [hgc] at this; omega
    rw [if_pos h4] at hsu
    refine gA rfl ?_
    exact ⟨h1, trivial, [], wk0 rfl rfl ⟨.refl _, rfl, .of_eq (by rw [hsu, show (⟨#[92, 110]⟩ : ByteArray) = ⟨[92, 110].toArray⟩ from rfl, bapp]; rfl), rfl, .refl _, rfl, trivial⟩ rfl⟩
  have h4 : ¬ c.toNat = 10 := by have := of_decide_eq_false h4; rw [hgc] at this; omega
  rw [if_neg h4] at hsu
  have hhi := hiN_lt c
  have hlo := loN_lt c
  have khi := c235 (hiN c) hhi.1 hhi.2
  have klo := c235 (loN c) hlo.1 hlo.2
  rw [← hc] at khi klo
  have hpc : c.toNat < 32 ∨ 126 < c.toNat → ∀ x : ByteArray, x = ((⟨(outQ s i).toArray⟩ ++ (⟨#[92, 120]⟩ : ByteArray)) ++ ⟨[hexD (hiN c)].toArray⟩) ++ ⟨[hexD (loN c)].toArray⟩ → pS x = pS ⟨(outQ s (i + 1)).toArray⟩ := fun h x e => by
    rw [if_pos h] at hsu
    rw [e, hsu, show (⟨#[92, 120]⟩ : ByteArray) = ⟨[92, 120].toArray⟩ from rfl, bapp, bapp, bapp]
    simp
  have ha2 : ((⟨(outQ s i).toArray⟩ : ByteArray) ++ (⟨#[92, 120]⟩ : ByteArray)).size = (outQ s i).length + 2 := by
    rw [show (⟨#[92, 120]⟩ : ByteArray) = ⟨[92, 120].toArray⟩ from rfl, bapp, bsize, List.length_append]; rfl
  have ha3 : ∀ z, ((⟨(outQ s i).toArray⟩ : ByteArray) ++ (⟨#[92, 120]⟩ : ByteArray) ++ ⟨[hexD z].toArray⟩).size = (outQ s i).length + 3 := fun z => by
    rw [show (⟨#[92, 120]⟩ : ByteArray) = ⟨[92, 120].toArray⟩ from rfl, bapp, bapp, bsize, List.length_append, List.length_append]; rfl
  have e1 : ∀ z, (⟨[hexD z].toArray⟩ : ByteArray).size = 1 := fun z => rfl
  have e2 : (⟨[hexD (hiN (s.data.toList.getD i default))].toArray⟩ : ByteArray).size = 1 := rfl
  refine gA rfl ?_
  refine And.intro (fun h5 => ?_) (fun h5 => ?_)
  · have h5 : ¬ c.toNat < 32 := by have := of_decide_eq_false h5; rw [hgc] at this; omega
    refine gA rfl ?_
    refine And.intro (fun h6 => ?_) (fun h6 => ?_)
    · have h6 : 126 < c.toNat := by have := of_decide_eq_true h6; rw [hgc] at this; omega
      refine gA rfl (go_pure (khi) rfl rfl rfl rfl rfl rfl ?_)
      refine gA rfl (go_pure (klo) rfl rfl rfl rfl rfl rfl ?_)
      refine goR rfl (by (repeat' (first | exact trivial | exact rfl | apply And.intro)) <;> first | omega | (rw [ha2, e1]; omega) | (rw [ha3, e1]; omega)) ?_
      exact ⟨h1, trivial, [], wk0 rfl rfl ⟨.refl _, rfl, .of_eq (hpc (.inr h6) _ (by rw [← hc])), rfl, .refl _, rfl, trivial⟩ rfl⟩
    have h6 : ¬ 126 < c.toNat := by have := of_decide_eq_false h6; rw [hgc] at this; omega
    rw [if_neg (by omega)] at hsu
    have hcs : (s.extract i (i + 1)).size = 1 := by rw [hcut]; rfl
    refine goR rfl (by (repeat' (first | exact trivial | exact rfl | apply And.intro)) <;> first | omega | (rw [show ((i : Int) + 1).toNat = i + 1 by omega, show (i : Int).toNat = i by omega, hcs]; omega)) ?_
    exact ⟨h1, trivial, [], wk0 rfl rfl ⟨.refl _, rfl, .of_eq (by show pS _ = pS _; rw [show ((i : Int) + 1).toNat = i + 1 by omega, show (i : Int).toNat = i by omega, hcut, hsu, bapp]), rfl, .refl _, rfl, trivial⟩ rfl⟩
  · have h5 : c.toNat < 32 := by have := of_decide_eq_true h5; rw [hgc] at this; omega
    refine gA rfl (go_pure (khi) rfl rfl rfl rfl rfl rfl ?_)
    refine gA rfl (go_pure (klo) rfl rfl rfl rfl rfl rfl ?_)
    refine goR rfl (by (repeat' (first | exact trivial | exact rfl | apply And.intro)) <;> first | omega | (rw [ha2, e1]; omega) | (rw [ha3, e1]; omega)) ?_
    exact ⟨h1, trivial, [], wk0 rfl rfl ⟨.refl _, rfl, .of_eq (hpc (.inl h5) _ (by rw [← hc])), rfl, .refl _, rfl, trivial⟩ rfl⟩
theorem c210 (v : Val) : Pure Tryz.prog 210 [ag v.c] (.tup [pS (textV v), pI (vCheck v)]) := by
  refine pure_end tyA_ok Tryz.func210 rfl (by decide) Tryz.ntmps210 rfl (by simp) rfl ?_
  refine gA rfl (go_pure (c223 v) rfl rfl rfl rfl rfl rfl ?_)
  refine gA rfl ?_
  refine And.intro (fun h1 => ?_) (fun h1 => ?_)
  · have h1 : ¬ vCheck v = 0 := by simpa using h1
    refine gA rfl (end_le (by first | exact .inr rfl | exact .inl rfl) rfl (.of_eq ?_))
    rw [textV, if_neg h1]; rfl
  have h1 : vCheck v = 0 := by simpa using h1
  rw [textV, if_pos h1, h1]
  refine gA rfl ?_
  refine And.intro (fun h2 => ?_) (fun h2 => ?_)
  · have h2 : v.kind = 1 := by simpa using h2
    have := vCheck_num h1 h2
    refine gA rfl (go_pure (c219 v.num (by omega) (by omega)) rfl rfl rfl rfl rfl rfl ?_)
    refine gA rfl (end_le (by first | exact .inr rfl | exact .inl rfl) rfl (.of_eq ?_))
    rw [textI, if_pos h2]; rfl
  have h2 : ¬ v.kind = 1 := by simpa using h2
  have hs := vCheck_sym h1 h2
  refine gA rfl (go_pure (c185 v.sym (by omega)) rfl rfl rfl rfl rfl rfl ?_)
  refine gA rfl ?_
  refine And.intro (fun h3 => ?_) (fun h3 => ?_)
  · have h3 : nameB v.sym = true := h3
    refine gA rfl (end_le (by first | exact .inr rfl | exact .inl rfl) rfl (.of_eq ?_))
    rw [textI, if_neg h2, if_pos h3]; rfl
  · have h3 : ¬ nameB v.sym = true := by simpa using h3
    refine gA rfl (go_pure (c224 v.sym (by omega)) rfl rfl rfl rfl rfl rfl ?_)
    refine gA rfl (end_le (by first | exact .inr rfl | exact .inl rfl) rfl (.of_eq ?_))
    rw [textI, if_neg h2, if_neg h3]; rfl
/-! A text that is made, and whether there is none. -/
abbrev Txt := Str × Bool
def Txt.c (t : Txt) : List IV := [iS t.1, .v (.bool t.2)]
def plainT (kind : Int) (name : Str) (v : Val) : Txt := if kind = 1 then (name, !varB name || !zValB v) else (textV v, !decide (vCheck v = 0) || !decide (name = ByteArray.empty))
theorem c186 (kind : Int) (name : Str) (v : Val) (hs : name.size ≤ 1000000000000) : Pure Tryz.prog 186 [pI kind, pS name, ag v.c] (ag (plainT kind name v).c) := by
  refine pure_end tyA_ok Tryz.func186 rfl (by decide) Tryz.ntmps186 rfl (by simp) rfl ?_
  refine gA rfl ?_
  refine And.intro (fun h1 => ?_) (fun h1 => ?_)
  · have h1 : kind = 1 := by simpa using h1
    refine gA rfl (go_pure (c209 name hs) rfl rfl rfl rfl rfl rfl ?_)
    unfold plainT
    rw [if_pos h1]
    refine gA rfl ?_
    refine And.intro (fun g => ?_) (fun g => ?_)
    · have g : varB name = true := by simpa using g
      refine gA rfl (end_le (by first | exact .inr rfl | exact .inl rfl) rfl ?_)
      exact .agg ⟨.refl _, .of_eq (pBE (by rw [g]; simp [zValB])), trivial⟩
    · have g : varB name = false := by simpa using g
      refine gA rfl (end_le (by first | exact .inr rfl | exact .inl rfl) rfl ?_)
      exact .agg ⟨.refl _, .kb' (by rw [g]; rfl), trivial⟩
  · have h1 : ¬ kind = 1 := by simpa using h1
    refine gA rfl (go_pure (c210 v) rfl rfl rfl rfl rfl rfl ?_)
    unfold plainT
    rw [if_neg h1]
    refine gA rfl ?_
    refine And.intro (fun g => ?_) (fun g => ?_)
    · have g : vCheck v = 0 := by simpa using g
      refine gA rfl (end_le (by first | exact .inr rfl | exact .inl rfl) rfl ?_)
      exact .agg ⟨.refl _, .of_eq (pBE (by rw [g]; rfl)), trivial⟩
    · have g : ¬ vCheck v = 0 := by simpa using g
      refine gA rfl (end_le (by first | exact .inr rfl | exact .inl rfl) rfl ?_)
      exact .agg ⟨.refl _, .kb' (by simp [g]), trivial⟩
end Go.Proofs.YtpnclpbkecjinaaGreatDoorR
/-
  The reference's texts of atoms: data.
-/
namespace Go.Proofs.YtpnclpbkecjinaaGreatDoorR
open Go Go.Al
set_option maxRecDepth 10000
def anyT (x : Term) : Txt := (sUn, !decide (x.var = ByteArray.empty) || !zValB x.val)
def termT (x : Term) : Txt := if x.kind = 3 then anyT x else ((plainT x.kind x.var x.val).1, (plainT x.kind x.var x.val).2 || (!decide (x.kind = 1) && !decide (x.kind = 2)))
def atomTn (a : Atom) : Nat → Txt
  | 0 => (a.rel ++ sO, !nameB a.rel)
  | i + 1 => ((if (i : Int) > 0 then (atomTn a i).1 ++ sCm else (atomTn a i).1) ++ (termT (a.terms.getD i default)).1, (atomTn a i).2 || (termT (a.terms.getD i default)).2)
def atomT (a : Atom) : Txt := ((atomTn a a.terms.length).1 ++ sC, (atomTn a a.terms.length).2)
theorem plainT_len (k : Int) (s : Str) (v : Val) : (plainT k s v).1.size ≤ s.size + 300 := by
  have := textV_len v
  unfold plainT
  split
  · show s.size ≤ _; omega
  · show (textV v).size ≤ _; omega
theorem termT_len (x : Term) : (termT x).1.size ≤ x.var.size + 300 := by
  have := plainT_len x.kind x.var x.val
  unfold termT
  split
  · show sUn.size ≤ _
    have : sUn.size = 1 := rfl
    omega
  · exact this
theorem atomTn_len (a : Atom) : ∀ i, i ≤ a.terms.length → (atomTn a i).1.size ≤ a.rel.size + 1 + ((a.terms.take i).map Term.ts).sum
  | 0, _ => by
    show (a.rel ++ sO).size ≤ _
    rw [ByteArray.size_append]
    have : sO.size = 1 := rfl
    omega
  | i + 1, h => by
    have h1 := atomTn_len a i (by omega)
    have h2 := termT_len (a.terms.getD i default)
    have h3 : sCm.size = 2 := rfl
    have h4 : (a.terms.getD i default).ts = (a.terms.getD i default).var.size + 310 := rfl
    have h5 : ((a.terms.take (i + 1)).map Term.ts).sum = ((a.terms.take i).map Term.ts).sum + (a.terms.getD i default).ts := by
      rw [take_step (by omega), List.map_append, List.sum_append]; simp
    show ((if (i : Int) > 0 then (atomTn a i).1 ++ sCm else (atomTn a i).1) ++ (termT (a.terms.getD i default)).1).size ≤ _
    rw [ByteArray.size_append]
    split
    · rw [ByteArray.size_append]; omega
    · omega
end Go.Proofs.YtpnclpbkecjinaaGreatDoorR
/-
  The reference's Goal is the program's: the plain law.
-/
namespace Go.Proofs.YtpnclpbkecjinaaGreatDoorR
open Go Go.Al
set_option maxRecDepth 10000
theorem putA_bad : ∀ (ss : List Str) (w : WS), (putA w ss).bad = w.bad
  | [], w => rfl
  | s :: r, w => putA_bad r (putS w s)
theorem valueW_bad (w : WS) (v : Val) : (valueW w v).bad = (w.bad || !decide (vCheck v = 0)) := by
  rw [valueW, putA_bad]; rfl
theorem mustW_bad (w : WS) (b : Bool) : (mustW w b).bad = (w.bad || !b) := rfl
theorem termW_bad (w : WS) (t : Term) : (termW w t).bad = (w.bad || (termT t).2) := by
  have hE : (⟨#[]⟩ : ByteArray) = ByteArray.empty := rfl
  unfold termW termT plainT anyT
  by_cases h1 : t.kind = 1
  · rw [if_pos h1, putA_bad, mustW_bad, if_neg (by omega), if_pos h1, okTV]
    simp [h1]
  rw [if_neg h1]
  by_cases h2 : t.kind = 2
  · rw [if_pos h2, valueW_bad, mustW_bad, if_neg (by omega), if_neg h1]
    simp [h2, hE]
    cases w.bad <;> cases decide (t.var = ByteArray.empty) <;> cases decide (vCheck t.val = 0) <;> rfl
  rw [if_neg h2]
  by_cases h3 : t.kind = 3
  · rw [if_pos h3, putA_bad, mustW_bad, if_pos h3, okTA]
    simp [hE]
  · rw [if_neg h3, if_neg h3, if_neg h1]
    simp [h1, h2, badW]
theorem commaW_bad (i : Nat) (w : WS) : (commaW i w).bad = w.bad := by
  unfold commaW
  split
  · rfl
  · exact putA_bad _ _
theorem termsW_bad (a : Atom) : ∀ i, (termsW a.terms (putA (mustW WS.o (nameB a.rel)) [a.rel, sO]) i).bad = (atomTn a i).2
  | 0 => by rw [termsW, putA_bad]; rfl
  | i + 1 => by rw [termsW, termW_bad, commaW_bad, termsW_bad a i]; rfl
theorem atom_bad (a : Atom) : atomBad a = (atomT a).2 := by
  unfold atomBad atomW atomT
  rw [putA_bad, termsW_bad]
abbrev trm (a : Atom) (i : Nat) : Term := a.terms.getD i default
def okG (p : Prog) (a : Atom) (i : Nat) : Prop := ((trm a i).kind = 2 → (trm a i).val.kind = goalT p a i) ∧ ∀ k, k < i → (trm a i).kind = 1 → (trm a k).kind = 1 → (trm a k).var = (trm a i).var → goalT p a k = goalT p a i
structure GInv (p : Prog) (a : Atom) (n : Nat) (m : NM) : Prop where
  is : goalM p a n = some m
  has : ∀ s, hasK .str m s = true ↔ ∃ k, k < n ∧ (trm a k).kind = 1 ∧ (trm a k).var = s
  val : ∀ k, k < n → (trm a k).kind = 1 → lkD .str m (trm a k).var 0 = goalT p a k
theorem goal_inv {p : Prog} {a : Atom} : ∀ n, (∀ j, j < n → okG p a j) → ∃ m, GInv p a n m
  | 0, _ => ⟨[], rfl, fun s => ⟨fun h => (nomatch h), fun ⟨k, h, _⟩ => absurd h (Nat.not_lt_zero k)⟩, fun k h => absurd h (Nat.not_lt_zero k)⟩
  | n + 1, h => by
    obtain ⟨m, i1, i2, i3⟩ := goal_inv n fun j hj => h j (by omega)
    obtain ⟨o1, o2⟩ := h n (Nat.lt_succ_self n)
    have hst : goalM p a (n + 1) = goalStep p a n m := by rw [goalM, i1]; rfl
    by_cases k2 : (trm a n).kind = 2
    · have e : goalStep p a n m = some m := by unfold goalStep; rw [if_pos k2, if_pos (o1 k2)]
      refine ⟨m, hst.trans e, fun s => (i2 s).trans ⟨fun ⟨k, g1, g2, g3⟩ => ⟨k, by omega, g2, g3⟩, fun ⟨k, g1, g2, g3⟩ => ⟨k, ?_, g2, g3⟩⟩, fun k hk g => i3 k ?_ g⟩
      · rcases Nat.lt_succ_iff_lt_or_eq.1 g1 with q | q
        · exact q
        · subst q; omega
      · rcases Nat.lt_succ_iff_lt_or_eq.1 hk with q | q
        · exact q
        · subst q; omega
    by_cases k1 : (trm a n).kind = 1
    · have hc : ¬ (hasK .str m (trm a n).var = true ∧ ¬ lkD .str m (trm a n).var 0 = goalT p a n) := by
        rintro ⟨g1, g2⟩
        obtain ⟨k, q1, q2, q3⟩ := (i2 _).1 g1
        have := i3 k q1 q2
        rw [q3] at this
        exact g2 (this.trans (o2 k q1 k1 q2 q3))
      have e : goalStep p a n m = some (putK .str m (trm a n).var (goalT p a n)) := by
        unfold goalStep; rw [if_neg k2, if_pos k1, if_neg hc]
      refine ⟨_, hst.trans e, fun s => ?_, fun k hk g => ?_⟩
      · rw [hasK_putK, Bool.or_eq_true, decide_eq_true_iff, i2 s]
        constructor
        · rintro (q | ⟨k, g1, g2, g3⟩)
          · exact ⟨n, Nat.lt_succ_self n, k1, q⟩
          · exact ⟨k, by omega, g2, g3⟩
        · rintro ⟨k, g1, g2, g3⟩
          rcases Nat.lt_succ_iff_lt_or_eq.1 g1 with q | q
          · exact .inr ⟨k, q, g2, g3⟩
          · subst q; exact .inl g3
      · rw [lkD_putK]
        rcases Nat.lt_succ_iff_lt_or_eq.1 hk with q | q
        · split
          · rename_i q3
            exact (o2 k q k1 g q3.symm).symm
          · exact i3 k q g
        · subst q; rw [if_pos rfl]
    · have e : goalStep p a n m = some m := by unfold goalStep; rw [if_neg k2, if_neg k1]
      refine ⟨m, hst.trans e, fun s => (i2 s).trans ⟨fun ⟨k, g1, g2, g3⟩ => ⟨k, by omega, g2, g3⟩, fun ⟨k, g1, g2, g3⟩ => ⟨k, ?_, g2, g3⟩⟩, fun k hk g => i3 k ?_ g⟩
      · rcases Nat.lt_succ_iff_lt_or_eq.1 g1 with q | q
        · exact q
        · subst q; exact absurd g2 k1
      · rcases Nat.lt_succ_iff_lt_or_eq.1 hk with q | q
        · exact q
        · subst q; exact absurd g k1
theorem goal_fail {p : Prog} {a : Atom} {i : Nat} (hi : i < a.terms.length) (hJ : ∀ j, j < i → okG p a j) (h : ¬ okG p a i) : goalR p a = 6 := by
  unfold goalR
  split
  · rfl
  rw [if_neg]
  obtain ⟨m, i1, i2, i3⟩ := goal_inv i hJ
  refine goal_out i1 hi ?_
  by_cases k2 : (trm a i).kind = 2
  · unfold goalStep
    rw [if_pos k2, if_neg]
    exact fun e => h ⟨fun _ => e, fun k _ k1 => by omega⟩
  · by_cases k1 : (trm a i).kind = 1
    · unfold goalStep
      rw [if_neg k2, if_pos k1, if_pos]
      refine Classical.byContradiction fun hc => h ⟨fun e => absurd e k2, fun k q _ q2 q3 => Classical.byContradiction fun hne => hc ⟨(i2 _).2 ⟨k, q, q2, q3⟩, fun e => hne ?_⟩⟩
      have := i3 k q q2
      rw [q3] at this
      exact this.symm.trans e
    · exact absurd ⟨fun e => absurd e k2, fun k _ q => absurd q k1⟩ h
theorem goal_fine {p : Prog} {a : Atom} (h1 : atomBad a = false) (h2 : hasK .str (relsM p) a.rel = true) (h3 : (a.terms.length : Int) = ((declOf p a.rel).types.length : Int)) (hJ : ∀ j, j < a.terms.length → okG p a j) : goalR p a = 0 := by
  unfold goalR
  rw [if_neg (by rintro (h | h | h); rw [h1] at h; cases h
                 rw [h2] at h; cases h
                 exact h h3), if_pos]
  obtain ⟨m, i1, _⟩ := goal_inv a.terms.length hJ
  rw [i1]; rfl
end Go.Proofs.YtpnclpbkecjinaaGreatDoorR
/-
  The reference's texts of atoms; its Goal.
-/
namespace Go.Proofs.YtpnclpbkecjinaaGreatDoorR
open Go Go.Al
set_option maxRecDepth 10000
theorem c151 (t : Txt) : Pure Tryz.prog 151 [ag t.c] (.tup [pS (if t.2 = true then ⟨#[]⟩ else t.1), pI (if t.2 = true then 50 else 0)]) := by
  refine pure_end tyA_ok Tryz.func151 rfl (by decide) Tryz.ntmps151 rfl (by simp) rfl ?_
  refine gA rfl ?_
  refine And.intro (fun g => ?_) (fun g => ?_)
  · have g : t.2 = true := g
    rw [if_pos g, if_pos g]
    refine gA rfl (end_le (by first | exact .inr rfl | exact .inl rfl) rfl (.of_eq ?_))
    rfl
  · have g : ¬ t.2 = true := by
      have g : t.2 = false := g
      rw [g]; decide
    rw [if_neg g, if_neg g]
    refine gA rfl (end_le (by first | exact .inr rfl | exact .inl rfl) rfl (.of_eq ?_))
    rfl
set_option maxHeartbeats 4000000 in
theorem c152 (a : Atom) (hts : a.ts ≤ 900000000) (hl : a.terms.length ≤ 1000000000) : Pure Tryz.prog 152 [ag a.c] (ag (atomT a).c) := by
  have hat : a.ts = a.rel.size + 10 + (a.terms.map Term.ts).sum := rfl
  have e1 : (⟨#[40]⟩ : ByteArray).size = 1 := rfl
  have e3 : (⟨#[44, 32]⟩ : ByteArray).size = 2 := rfl
  have e4 : (⟨#[95]⟩ : ByteArray).size = 1 := rfl
  have e5 : ((atomTn a 0).1 ++ (⟨#[41]⟩ : ByteArray)).size = (atomTn a 0).1.size + 1 := ByteArray.size_append
  refine pure_end tyA_ok Tryz.func152 rfl (by decide) Tryz.ntmps152 rfl (by simp) rfl ?_
  refine gA rfl (go_pure (c185 a.rel (by omega)) rfl rfl rfl rfl rfl rfl ?_)
  refine gA rfl ?_
  refine go_for 0 a.terms.length (Nat.zero_le _) (fun i => ⟨[(1, .ptr 0 0), (2, .ptr 1 0), (4, .ptr 2 0), (5, pI i)], [(0, some (cellsI a.c)), (1, some (.cells [pS ByteArray.empty, pB false])), (2, some (cellsI (atomTn a i).c))], 3⟩) (fun _ => True) [] trivial
    (wk rfl rfl rfl ⟨.refl _, rfl, .refl _, rfl, .refl _, rfl, .refl _, rfl, trivial⟩ (hC rfl rfl rfl ⟨⟨_, rfl, .of_eq rfl⟩, Nat.le_of_ble_eq_true rfl, rfl, hC rfl rfl rfl trivial⟩) rfl) fun i hi _ => ?_
  refine gA rfl ?_
  refine And.intro (fun h1 => ?_) (fun h1 => ?_)
  rotate_left
  · have h1 : a.terms.length ≤ i := Nat.le_of_not_lt fun hh => absurd (Int.ofNat_lt.2 hh) (of_decide_eq_false h1)
    have hie : i = a.terms.length := by omega
    subst hie
    have h2 := atomTn_len a a.terms.length (Nat.le_refl _)
    rw [List.take_of_length_le (Nat.le_refl _)] at h2
    have e2 : (⟨#[41]⟩ : ByteArray).size = 1 := rfl
    refine gA rfl (end_le (by first | exact .inr rfl | exact .inl rfl) rfl (.of_eq ?_))
    rfl
  have h1 : i < a.terms.length := Int.ofNat_lt.1 (of_decide_eq_true h1)
  have h2 := atomTn_len a i (by omega)
  have h3 := sumT_take a.terms i h1
  have h4 : (a.terms.getD i default).ts = (a.terms.getD i default).var.size + 310 := rfl
  have h5 := textV_len (a.terms.getD i default).val
  have h6 : ((atomTn a i).1 ++ (⟨#[44, 32]⟩ : ByteArray)).size = (atomTn a i).1.size + 2 := ByteArray.size_append
  have hp := plainT_len (a.terms.getD i default).kind (a.terms.getD i default).var (a.terms.getD i default).val
  repeat' (first
    | (refine gA rfl (And.intro (fun q => ?_) (fun q => ?_)))
    | (refine gA rfl (go_pure (c186 (a.terms.getD i default).kind (a.terms.getD i default).var (a.terms.getD i default).val (by omega)) rfl rfl rfl rfl rfl rfl ?_)))
  all_goals (refine gA rfl ?_)
  all_goals clear h2 h3 h4 h5 h6 hp hts hat e1 e3 e4 e5 hi
  all_goals have hE : ByteArray.empty = (⟨#[]⟩ : ByteArray) := rfl
  all_goals exact ⟨h1, trivial, [], wk rfl rfl rfl ⟨.refl _, rfl, .refl _, rfl, .refl _, rfl, .refl _, rfl, trivial⟩ (hC rfl rfl rfl ⟨⟨_, rfl, .of_eq rfl⟩, Nat.le_of_ble_eq_true rfl, rfl, ⟨⟨_, rfl, .cells ⟨.of_eq (congrArg pS (by simp_all [atomTn, termT, anyT, plainT, sCm, sUn])), (by first | exact .of_eq (pBE (by simp_all [atomTn, termT, anyT, plainT, zValB])) | exact .kb' (by simp_all [atomTn, termT, anyT, plainT, zValB])), trivial⟩⟩, Nat.le_of_ble_eq_true rfl, rfl, trivial⟩⟩) rfl⟩
theorem c106 (a : Atom) (hts : a.ts ≤ 900000000) (hl : a.terms.length ≤ 1000000000) : Pure Tryz.prog 106 [ag a.c] (.tup [pS (if (atomT a).2 = true then ⟨#[]⟩ else (atomT a).1), pI (if (atomT a).2 = true then 50 else 0)]) := by
  refine pure_end tyA_ok Tryz.func106 rfl (by decide) Tryz.ntmps106 rfl (by simp) rfl ?_
  refine gA rfl (go_pure (c152 a hts hl) rfl rfl rfl rfl rfl rfl ?_)
  refine gA rfl (go_pure (c151 (atomT a)) rfl rfl rfl rfl rfl rfl ?_)
  refine gA rfl (end_le (by first | exact .inr rfl | exact .inl rfl) rfl (.of_eq ?_))
  rfl
theorem c62 (a : Atom) (hts : a.ts ≤ 900000000) (hl : a.terms.length ≤ 1000000000) : Pure Tryz.prog 62 [ag a.c] (pB (!(atomT a).2)) := by
  refine pure_end tyA_ok Tryz.func62 rfl (by decide) Tryz.ntmps62 rfl (by simp) rfl ?_
  refine gA rfl (go_pure (c106 a hts hl) rfl rfl rfl rfl rfl rfl ?_)
  refine gA rfl (end_le (by first | exact .inr rfl | exact .inl rfl) rfl (.of_eq ?_))
  refine (pBE ?_ : pB _ = pB _)
  cases (atomT a).2 <;> rfl
end Go.Proofs.YtpnclpbkecjinaaGreatDoorR
/-
  The reference's Goal; SoundGoals on data.
-/
namespace Go.Proofs.YtpnclpbkecjinaaGreatDoorR
open Go Go.Al
set_option maxRecDepth 10000
theorem goal_bad {p : Prog} {a : Atom} (h : (atomT a).2 = true ∨ hasK .str (relsM p) a.rel = false ∨ ¬ (a.terms.length : Int) = ((declOf p a.rel).types.length : Int)) : goalR p a = 6 := by
  unfold goalR
  rw [if_pos]
  rwa [atom_bad]
theorem okG_val {p : Prog} {a : Atom} {i : Nat} (k2 : (trm a i).kind = 2) (h : ¬ (trm a i).val.kind = goalT p a i) : ¬ okG p a i := fun g => h (g.1 k2)
theorem okG_var {p : Prog} {a : Atom} {i k : Nat} (hk : k < i) (h1 : (trm a i).kind = 1) (h2 : (trm a k).kind = 1) (h3 : (trm a k).var = (trm a i).var) (h : ¬ goalT p a k = goalT p a i) : ¬ okG p a i := fun g => h (g.2 k hk h1 h2 h3)
theorem c23 (p : Prog) (a : Atom) (hb : p.rels.length ≤ 1000000000) (ha : a.terms.length ≤ 1000000000) (hts : a.ts ≤ 900000000) : Pure Tryz.prog 23 [ag p.c, ag a.c] (pI (goalR p a)) := by
  refine pure_end tyA_ok Tryz.func23 rfl (by decide) Tryz.ntmps23 rfl (by simp) rfl ?_
  refine gA rfl (go_pure (c62 a hts ha) rfl rfl rfl rfl rfl rfl ?_)
  refine gA rfl (go_pure (c57 p a.rel (by omega)) rfl rfl rfl rfl rfl rfl ?_)
  refine gA rfl ?_
  refine And.intro (fun g1 => ?_) (fun g1 => ?_)
  rotate_left
  · have g1 : (atomT a).2 = true := by simpa using g1
    rw [goal_bad (.inl g1)]
    repeat (refine gA rfl (And.intro (fun q => ?_) (fun q => ?_)); all_goals (try (simp at q; done)))
    refine gA rfl (end_le (by first | exact .inr rfl | exact .inl rfl) rfl (.of_eq ?_))
    rfl
  have g1 : (atomT a).2 = false := by simpa using g1
  refine gA rfl ?_
  refine And.intro (fun g2 => ?_) (fun g2 => ?_)
  rotate_left
  · have g2 : hasK .str (relsM p) a.rel = false := by simpa using g2
    rw [goal_bad (.inr (.inl g2))]
    repeat (refine gA rfl (And.intro (fun q => ?_) (fun q => ?_)); all_goals (try (simp at q; done)))
    refine gA rfl (end_le (by first | exact .inr rfl | exact .inl rfl) rfl (.of_eq ?_))
    rfl
  have g2 : hasK .str (relsM p) a.rel = true := by simpa using g2
  refine gA rfl ?_
  refine And.intro (fun g3 => ?_) (fun g3 => ?_)
  · have g3 : ¬ (a.terms.length : Int) = ((declOf p a.rel).types.length : Int) := by
      have g : (!decide ((a.terms.length : Int) = ((declOf p a.rel).types.length : Int))) = true := g3
      simpa only [Bool.not_eq_true', decide_eq_false_iff_not] using g
    rw [goal_bad (.inr (.inr g3))]
    refine gA rfl (end_le (by first | exact .inr rfl | exact .inl rfl) rfl (.of_eq ?_))
    rfl
  have g3 : (a.terms.length : Int) = ((declOf p a.rel).types.length : Int) := by
    have g : (!decide ((a.terms.length : Int) = ((declOf p a.rel).types.length : Int))) = false := g3
    simpa only [Bool.not_eq_false', decide_eq_true_eq] using g
  have gb : atomBad a = false := by rw [atom_bad]; exact g1
  refine gA rfl ?_
  refine go_for 0 a.terms.length (Nat.zero_le _) (fun i => ⟨[(3, .ptr 1 0), (6, .ptr 2 0), (8, pI i)], [(1, some (cellsI a.c)), (2, some (cellsI (declOf p a.rel).c))], 3⟩) (fun i => ∀ j, j < i → okG p a j) [] (fun j hj => absurd hj (Nat.not_lt_zero j))
    (wk rfl rfl rfl ⟨.refl _, rfl, .refl _, rfl, .refl _, rfl, trivial⟩ (hC rfl rfl rfl (hC rfl rfl rfl trivial)) rfl) fun i hi hJ => ?_
  refine gA rfl ?_
  refine And.intro (fun h1 => ?_) (fun h1 => ?_)
  rotate_left
  · have h1 : a.terms.length ≤ i := Nat.le_of_not_lt fun hh => absurd (Int.ofNat_lt.2 hh) (of_decide_eq_false h1)
    rw [goal_fine gb g2 g3 fun j hj => hJ j (by omega)]
    refine gA rfl (end_le (by first | exact .inr rfl | exact .inl rfl) rfl (.of_eq ?_))
    rfl
  have h1 : i < a.terms.length := Int.ofNat_lt.1 (of_decide_eq_true h1)
  have inner : ∀ (hv : (trm a i).kind = 2 → (trm a i).val.kind = goalT p a i) (J : Nat → Prop), (∀ k, J k ↔ (k ≤ i ∧ ∀ j, j < k → (trm a i).kind = 1 → (trm a j).kind = 1 → (trm a j).var = (trm a i).var → goalT p a j = goalT p a i)) → J i → ∀ j, j < i + 1 → okG p a j := by
    intro hv J hJ2 h j hj
    rcases Nat.lt_succ_iff_lt_or_eq.1 hj with q | q
    · exact hJ j q
    · subst q; exact ⟨hv, fun k hk => ((hJ2 _).1 h).2 k hk⟩
  refine gA rfl ?_
  refine And.intro (fun k2 => ?_) (fun k2 => ?_)
  · have k2 : (trm a i).kind = 2 := of_decide_eq_true k2
    refine gA rfl ?_
    refine And.intro (fun e2 => ?_) (fun e2 => ?_)
    · have e2 : ¬ (trm a i).val.kind = goalT p a i := by
        have g : (!decide ((a.terms.getD i default).val.kind = goalT p a i)) = true := e2
        simpa only [Bool.not_eq_true', decide_eq_false_iff_not] using g
      rw [goal_fail h1 hJ (okG_val k2 e2)]
      refine gA rfl (end_le (by first | exact .inr rfl | exact .inl rfl) rfl (.of_eq ?_))
      rfl
    have e2 : (trm a i).val.kind = goalT p a i := by
      have g : (!decide ((a.terms.getD i default).val.kind = goalT p a i)) = false := e2
      simpa only [Bool.not_eq_false', decide_eq_true_eq] using g
    have hok : okG p a i := ⟨fun _ => e2, fun k _ k1 => by omega⟩
    refine gA rfl ?_
    refine go_for 0 i (Nat.zero_le _) (fun k => ⟨[(3, .ptr 1 0), (6, .ptr 2 0), (8, pI i), (9, .ptr 3 0), (10, pI k)], [(1, some (cellsI a.c)), (2, some (cellsI (declOf p a.rel).c)), (3, some (cellsI (trm a i).c))], 4⟩) (fun _ => True) [] trivial
      (wk rfl rfl rfl ⟨.refl _, rfl, .refl _, rfl, .refl _, rfl, .refl _, rfl, .refl _, rfl, trivial⟩ (hC rfl rfl rfl (hC rfl rfl rfl (hC rfl rfl rfl trivial))) rfl) fun k hk _ => ?_
    refine gA rfl ?_
    refine And.intro (fun l1 => ?_) (fun l1 => ?_)
    · have l1 : k < i := Int.ofNat_lt.1 (of_decide_eq_true l1)
      refine gA rfl ?_
      refine And.intro (fun q1 => ?_) (fun q1 => ?_)
      · have q1 : (trm a i).kind = 1 := of_decide_eq_true q1
        omega
      repeat (refine gA rfl (And.intro (fun q => ?_) (fun q => ?_)); all_goals (try (simp at q; done)))
      refine gA rfl ?_
      exact ⟨l1, trivial, [], wk rfl rfl rfl ⟨.refl _, rfl, .refl _, rfl, .refl _, rfl, .refl _, rfl, .refl _, rfl, trivial⟩ (hC rfl rfl rfl (hC rfl rfl rfl (hC rfl rfl rfl trivial))) rfl⟩
    · refine gA rfl ?_
      exact ⟨h1, fun j hj => by rcases Nat.lt_succ_iff_lt_or_eq.1 hj with q | q; exact hJ j q; subst q; exact hok, [], wk rfl rfl rfl ⟨.refl _, rfl, .refl _, rfl, .refl _, rfl, trivial⟩ (hC rfl rfl rfl (hC rfl rfl rfl trivial)) rfl⟩
  have k2 : ¬ (trm a i).kind = 2 := of_decide_eq_false k2
  repeat (refine gA rfl (And.intro (fun q => ?_) (fun q => ?_)); all_goals (try (simp at q; done)))
  refine gA rfl ?_
  refine go_for 0 i (Nat.zero_le _) (fun k => ⟨[(3, .ptr 1 0), (6, .ptr 2 0), (8, pI i), (9, .ptr 3 0), (10, pI k)], [(1, some (cellsI a.c)), (2, some (cellsI (declOf p a.rel).c)), (3, some (cellsI (trm a i).c))], 4⟩) (fun k => ∀ j, j < k → (trm a i).kind = 1 → (trm a j).kind = 1 → (trm a j).var = (trm a i).var → goalT p a j = goalT p a i) [] (fun j hj => absurd hj (Nat.not_lt_zero j))
    (wk rfl rfl rfl ⟨.refl _, rfl, .refl _, rfl, .refl _, rfl, .refl _, rfl, .refl _, rfl, trivial⟩ (hC rfl rfl rfl (hC rfl rfl rfl (hC rfl rfl rfl trivial))) rfl) fun k hk hK => ?_
  refine gA rfl ?_
  refine And.intro (fun l1 => ?_) (fun l1 => ?_)
  rotate_left
  · have l1 : i ≤ k := Nat.le_of_not_lt fun hh => absurd (Int.ofNat_lt.2 hh) (of_decide_eq_false l1)
    have hok : okG p a i := ⟨fun e => absurd e k2, fun j hj => hK j (by omega)⟩
    refine gA rfl ?_
    exact ⟨h1, fun j hj => by rcases Nat.lt_succ_iff_lt_or_eq.1 hj with q | q; exact hJ j q; subst q; exact hok, [], wk rfl rfl rfl ⟨.refl _, rfl, .refl _, rfl, .refl _, rfl, trivial⟩ (hC rfl rfl rfl (hC rfl rfl rfl trivial)) rfl⟩
  have l1 : k < i := Int.ofNat_lt.1 (of_decide_eq_true l1)
  have hon : ((trm a i).kind = 1 → (trm a k).kind = 1 → (trm a k).var = (trm a i).var → goalT p a k = goalT p a i) → ∀ j, j < k + 1 → (trm a i).kind = 1 → (trm a j).kind = 1 → (trm a j).var = (trm a i).var → goalT p a j = goalT p a i := fun h j hj => by
    rcases Nat.lt_succ_iff_lt_or_eq.1 hj with q | q
    · exact hK j q
    · subst q; exact h
  refine gA rfl ?_
  refine And.intro (fun q1 => ?_) (fun q1 => ?_)
  rotate_left
  · have q1 : ¬ (trm a i).kind = 1 := of_decide_eq_false q1
    repeat (refine gA rfl (And.intro (fun q => ?_) (fun q => ?_)); all_goals (try (simp at q; done)))
    refine gA rfl ?_
    exact ⟨l1, hon (fun e => absurd e q1), [], wk rfl rfl rfl ⟨.refl _, rfl, .refl _, rfl, .refl _, rfl, .refl _, rfl, .refl _, rfl, trivial⟩ (hC rfl rfl rfl (hC rfl rfl rfl (hC rfl rfl rfl trivial))) rfl⟩
  have q1 : (trm a i).kind = 1 := of_decide_eq_true q1
  refine gA rfl ?_
  refine And.intro (fun q2 => ?_) (fun q2 => ?_)
  rotate_left
  · have q2 : ¬ (trm a k).kind = 1 := of_decide_eq_false q2
    repeat (refine gA rfl (And.intro (fun q => ?_) (fun q => ?_)); all_goals (try (simp at q; done)))
    refine gA rfl ?_
    exact ⟨l1, hon (fun _ e => absurd e q2), [], wk rfl rfl rfl ⟨.refl _, rfl, .refl _, rfl, .refl _, rfl, .refl _, rfl, .refl _, rfl, trivial⟩ (hC rfl rfl rfl (hC rfl rfl rfl (hC rfl rfl rfl trivial))) rfl⟩
  have q2 : (trm a k).kind = 1 := of_decide_eq_true q2
  refine gA rfl ?_
  refine And.intro (fun q3 => ?_) (fun q3 => ?_)
  rotate_left
  · have q3 : ¬ (trm a k).var = (trm a i).var := of_decide_eq_false q3
    repeat (refine gA rfl (And.intro (fun q => ?_) (fun q => ?_)); all_goals (try (simp at q; done)))
    refine gA rfl ?_
    exact ⟨l1, hon (fun _ _ e => absurd e q3), [], wk rfl rfl rfl ⟨.refl _, rfl, .refl _, rfl, .refl _, rfl, .refl _, rfl, .refl _, rfl, trivial⟩ (hC rfl rfl rfl (hC rfl rfl rfl (hC rfl rfl rfl trivial))) rfl⟩
  have q3 : (trm a k).var = (trm a i).var := of_decide_eq_true q3
  refine gA rfl ?_
  refine And.intro (fun q4 => ?_) (fun q4 => ?_)
  · have q4 : ¬ goalT p a k = goalT p a i := by
      have g : (!decide (goalT p a k = goalT p a i)) = true := q4
      simpa only [Bool.not_eq_true', decide_eq_false_iff_not] using g
    rw [goal_fail h1 hJ (okG_var l1 q1 q2 q3 q4)]
    refine gA rfl (end_le (by first | exact .inr rfl | exact .inl rfl) rfl (.of_eq ?_))
    rfl
  · have q4 : goalT p a k = goalT p a i := by
      have g : (!decide (goalT p a k = goalT p a i)) = false := q4
      simpa only [Bool.not_eq_false', decide_eq_true_eq] using g
    refine gA rfl ?_
    exact ⟨l1, hon (fun _ _ _ => q4), [], wk rfl rfl rfl ⟨.refl _, rfl, .refl _, rfl, .refl _, rfl, .refl _, rfl, .refl _, rfl, trivial⟩ (hC rfl rfl rfl (hC rfl rfl rfl (hC rfl rfl rfl trivial))) rfl⟩
set_option maxHeartbeats 800000 in
/-- SoundGoals, on data, whole. -/
theorem goals_all (p : Prog) (l : List Atom) (hf : p.fit) (hp : p.size ≤ 10000000) (hb : ∀ a ∈ l, a.terms.length ≤ 10000000 ∧ a.ts ≤ 900000000) : Pure Tryz.prog 5 [ag p.c, .iv (slc 2 l Atom.c)] (pB true) := by
  have hpr : p.rels.length ≤ 1000000000 := hf.1
  refine pure_len (callable_of Tryz.func5 rfl (by decide)) ⟨_, _, List.mem_cons_of_mem _ List.mem_cons_self⟩ fun hlen => ?_
  simp only [maxLen] at hlen
  refine pure_end tyA_ok Tryz.func5 rfl (by decide) Tryz.ntmps5 rfl (by simp) rfl ?_
  refine gA rfl (go_pure (known_ok) rfl rfl rfl rfl rfl rfl ?_)
  refine gA rfl (go_pure (c14 p (by omega)) rfl rfl rfl rfl rfl rfl ?_)
  refine gA rfl ?_
  refine go_for 0 l.length (Nat.zero_le _) (fun i => ⟨[(1, .iv (slc 2 l Atom.c)), (2, .ptr 0 0), (5, pB true), (6, .ptr 1 0), (7, pI i)], [(0, some (cellsI p.c)), (1, some (cellsI p.c))], 2⟩) (fun _ => True) [] trivial
    (wk rfl rfl rfl ⟨.refl _, rfl, .refl _, rfl, .refl _, rfl, .refl _, rfl, .refl _, rfl, trivial⟩ (hC rfl rfl rfl (hC rfl rfl rfl trivial)) rfl) fun i hi _ => ?_
  refine gA rfl ?_
  refine And.intro (fun h1 => ?_) (fun h1 => ?_)
  · have h1 : i < l.length := Int.ofNat_lt.1 (of_decide_eq_true h1)
    have hm : l.getD i default ∈ l := by rw [List.getD_eq_getElem?_getD, List.getElem?_eq_getElem h1]; exact List.getElem_mem h1
    obtain ⟨hfl, hts⟩ := hb _ hm
    refine gA rfl (go_pure (c20 (l.getD i default) (by omega)) rfl rfl rfl rfl rfl rfl ?_)
    refine gA rfl (go_ddet tyA_ok [] (Pure.det (c21 p (l.getD i default) hpr (by omega) hts)) rfl rfl rfl rfl rfl rfl rfl rfl rfl rfl rfl rfl (by (repeat' (first | exact trivial | exact rfl | exact PVle.refl _ | exact PVle.bk (by assumption) | apply And.intro)) <;> first | omega | (simp only [Int.toNat_natCast]; omega) | (simp; done) | (simp; omega)) rfl (by (repeat' (first | exact trivial | exact rfl | exact PVle.refl _ | exact PVle.bk (by assumption) | apply And.intro)) <;> first | omega | (simp only [Int.toNat_natCast]; omega) | (simp; done) | (simp; omega)) ?_)
    refine gA rfl (go_ddet tyA_ok [] (Pure.det (c22s (l.getD i default) (by omega))) rfl rfl rfl rfl rfl rfl rfl rfl rfl rfl rfl rfl (by (repeat' (first | exact trivial | exact rfl | exact PVle.refl _ | exact PVle.bk (by assumption) | apply And.intro)) <;> first | omega | (simp only [Int.toNat_natCast]; omega) | (simp; done) | (simp; omega)) rfl (by (repeat' (first | exact trivial | exact rfl | exact PVle.refl _ | exact PVle.bk (by assumption) | apply And.intro)) <;> first | omega | (simp only [Int.toNat_natCast]; omega) | (simp; done) | (simp; omega)) ?_)
    repeat (refine gA rfl (And.intro (fun q => ?_) (fun q => ?_)); all_goals (try (simp at q; done)))
    refine gA rfl (go_pure (c23 p (l.getD i default) hpr (by omega) hts) rfl rfl rfl rfl rfl rfl ?_)
    repeat (refine gA rfl (And.intro (fun q => ?_) (fun q => ?_)); all_goals (try (simp at q; done)))
    refine gA rfl ?_
    exact ⟨h1, trivial, [], wk rfl rfl rfl ⟨.refl _, rfl, .refl _, rfl, .refl _, rfl, .refl _, rfl, .refl _, rfl, trivial⟩ (hC rfl rfl rfl (hC rfl rfl rfl trivial)) rfl⟩
  · repeat (refine gA rfl (And.intro (fun q => ?_) (fun q => ?_)); all_goals (try (simp at q; done)))
    refine gA rfl (go_pure (c18s p (by omega)) rfl rfl rfl rfl rfl rfl ?_)
    repeat (refine gA rfl (And.intro (fun q => ?_) (fun q => ?_)); all_goals (try (simp at q; done)))
    refine gA rfl (end_le (by first | exact .inr rfl | exact .inl rfl) rfl (.of_eq ?_))
    rfl
end Go.Proofs.YtpnclpbkecjinaaGreatDoorR
