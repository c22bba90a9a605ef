/-
  SoundVars (up to the bound): what its proof needs. Part 5 of 7.
-/
import Derived.Test.YtpnclpbkecjinaaGreatDoorRPart4
import Derived.Sort.Walk0
import Derived.Shelf.Sort.Plain
import Derived.Shelf.Slices.In.SortNone
import Derived.Shelf.Slices.In.SortNone2
import Derived.Shelf.LaysM
import Derived.Shelf.Strconv.Itoa3
import Derived.Laws.IdiomStrings
import Derived.Laws.BytesArg
import Derived.Lib.ItoaLen
/-
  The printer's writer: its strings.Builder, what is put into it, what it tells.
-/
namespace Go.Proofs.YtpnclpbkecjinaaGreatDoorR
open Go Go.Al
set_option maxRecDepth 10000

theorem Rel.of_get {M : Mem} {N : Nm} {U : Nat → Prop} {h h2 : AH} {w : World} (hr : Rel M N U h w) (e : ∀ i, AH.get h2 i = h.get i) : Rel M N U h2 w :=
  ⟨hr.frz, fun i o hi => hr.used i o (by rw [← e]; exact hi), fun i o hi => hr.nfrz i o (by rw [← e]; exact hi), fun i o hi => hr.obj i o (by rw [← e]; exact hi), fun i j o p hi hj => hr.inj i j o p (by rw [← e]; exact hi) (by rw [← e]; exact hj)⟩
theorem Ext.of_get {M M' : Mem} {N N' : Nm} {U U' : Nat → Prop} {h0 h h2 : AH} {w w' : World} (hx : Ext M N U h0 w M' N' U' h w') (e : ∀ i, AH.get h2 i = h.get i) : Ext M N U h0 w M' N' U' h2 w' :=
  ⟨hx.os, hx.tape, hx.output, hx.size, hx.keep, hx.mle, hx.mnew, hx.nm, hx.ule, fun i o hi => hx.pnew i o (by rw [← e]; exact hi)⟩

/-- The writer: is it fresh; what was put; is there no text; how many braces are open. -/
structure WS where
  fr : Bool
  l : List UInt8
  bad : Bool
  br : Int
/-- Its cells: the object i, its bytes the object j. -/
abbrev WS.cAt (w : WS) (i j : Nat) : AO := .cells [.optr w.fr i, .sl j 0 w.l.length 1, pB w.bad, pI w.br] (some 180)
abbrev WS.c (w : WS) : AO := w.cAt 0 1
abbrev WS.O (w : WS) : List AO := [w.c, .brow w.l 5]
/-- What is left: the bytes under a new number. -/
abbrev WS.H (w : WS) : AH := [(0, some (w.cAt 0 2)), (2, some (.brow w.l 5))]

theorem d204 (w : WS) : Det Tryz.prog 204 [.ptr 0 0] w.O (.tup []) [(0, some ({ w with fr := false } : WS).c), (1, some (.brow w.l 5))] 2 := by
  refine ⟨callable_of Tryz.func204 rfl (by decide), fun M N wd vs hr hlen hv => ?_⟩
  obtain ⟨v, rfl⟩ : ∃ v, vs = [v] := by
    cases vs with
    | nil => cases hlen
    | cons v r => cases r with
      | nil => exact ⟨v, rfl⟩
      | cons a b => simp at hlen
  have hv0 : VR M N (· < 2) (.ptr 0 0) v := hv 0 _ rfl
  have hvv : v = .pointer (some ⟨N.blk 0, 0, none⟩) := by cases hv0; rfl
  subst hvv
  have ho0 : AH.get (initH 0 w.O) 0 = some w.c := rfl
  obtain ⟨c, T, h1, h2, h3, h4, h5⟩ := hr.obj 0 _ ho0
  have hT := h5 180 rfl
  subst hT
  have hc4 : c.size = 4 := h3.symm
  have hlt : N.blk 0 < wd.heap.size := (Array.getElem?_eq_some_iff.1 h1).1
  have hc0 : c.getD 0 undef = .pointer (bif w.fr then none else some ⟨N.blk 0, 0, none⟩) := by
    have := h4 0 _ rfl
    generalize c.getD 0 undef = x at this
    cases this; rfl
  have hcell : wd.cell? ⟨N.blk 0, 0, none⟩ = some (c.getD 0 undef) := by
    rw [Lib.cell_of_heap h1, Array.getD_eq_getD_getElem?, Array.getElem?_eq_getElem (by omega)]; rfl
  rw [hc0] at hcell
  show Calls Tryz.prog 204 #[_] wd _
  cases hfr : w.fr with
  | false =>
    rw [hfr] at hcell
    refine (cc_used (N.blk 0) wd hcell).mono ?_
    rintro e w' ⟨rfl, rfl⟩
    have hw : ({ w with fr := false } : WS) = w := by cases w; simp_all
    rw [hw]
    exact ⟨_, M, N, .tup [], _, 2, rfl, ⟨rfl, rfl, rfl⟩, .refl _ _ _ _ _, hr, .tup [] #[] rfl (by simp)⟩
  | true =>
    rw [hfr] at hcell
    refine (cc_fresh (N.blk 0) wd hcell (by simp [World.shape?, h1, hc4]) (Lib.frozen_of_heap h1 0)).mono ?_
    rintro e w' ⟨rfl, rfl⟩
    have hheap : (wd.setCell ⟨N.blk 0, 0, none⟩ (.pointer (some ⟨N.blk 0, 0, none⟩))).heap[N.blk 0]? = some (.cells (c.setIfInBounds 0 (.pointer (some ⟨N.blk 0, 0, none⟩))) 180 (0, 0)) := by
      simp [World.setCell, Array.getElem?_modify, h1]
    obtain ⟨g1, g2⟩ := hr.write (i := 0) (o0 := w.c) ho0 rfl (wd.setCell ⟨N.blk 0, 0, none⟩ (.pointer (some ⟨N.blk 0, 0, none⟩))) ({ w with fr := false } : WS).c rfl rfl rfl (by simp [World.setCell]) (fun b hb => by
      simp only [World.setCell, Array.getElem?_modify]
      rw [if_neg (fun e => hb e.symm)]) ⟨_, 180, hheap, by simpa using h2, by simp [hc4], fun j p hj => by
        match j, hj with
        | 0, hj =>
          cases hj
          rw [Array.getD_eq_getD_getElem?, Array.getElem?_setIfInBounds]
          simp only [if_true, hc4]
          exact .optr false 0 (by show 0 < 2; decide)
        | j + 1, hj =>
          have := h4 (j + 1) p (by exact hj)
          rw [Array.getD_eq_getD_getElem?, Array.getElem?_setIfInBounds, if_neg (by omega)]
          rw [Array.getD_eq_getD_getElem?] at this
          exact this, h5⟩
    have hget : ∀ i, AH.get [(0, some ({ w with fr := false } : WS).c), (1, some (.brow w.l 5))] i = AH.get ((0, some ({ w with fr := false } : WS).c) :: initH 0 w.O) i := by
      intro i
      match i with
      | 0 => rfl
      | 1 => rfl
      | i + 2 => rfl
    exact ⟨_, M, N, .tup [], _, 2, rfl, ⟨rfl, rfl, rfl⟩, Ext.of_get g1 hget, Rel.of_get g2 hget, .tup [] #[] rfl (by simp)⟩

theorem d150 (w : WS) : Det Tryz.prog 150 [.ptr 0 0] w.O (pS ⟨w.l.toArray⟩) [] 2 := by
  refine ⟨callable_of Tryz.func150 rfl (by decide), fun M N wd vs hr hlen hv => ?_⟩
  obtain ⟨v, rfl⟩ : ∃ v, vs = [v] := by
    cases vs with
    | nil => cases hlen
    | cons v r => cases r with
      | nil => exact ⟨v, rfl⟩
      | cons a b => simp at hlen
  have hv0 : VR M N (· < 2) (.ptr 0 0) v := hv 0 _ rfl
  have hvv : v = .pointer (some ⟨N.blk 0, 0, none⟩) := by cases hv0; rfl
  subst hvv
  have ho0 : AH.get (initH 0 w.O) 0 = some w.c := rfl
  have ho1 : AH.get (initH 0 w.O) 1 = some (.brow w.l 5) := rfl
  obtain ⟨c, T, h1, h2, h3, h4, h5⟩ := hr.obj 0 _ ho0
  have hT := h5 180 rfl
  subst hT
  have hc4 : c.size = 4 := h3.symm
  have hex : ∀ (x1 : Value), c.getD 1 undef = x1 → ∃ p x y, c = #[p, x1, x, y] := by
    intro x1 hx1
    refine ⟨c.getD 0 undef, c.getD 2 undef, c.getD 3 undef, ?_⟩
    apply Array.ext
    · simpa using hc4
    · intro i hi hi2
      match i, hi with
      | 0, hi => simp [Array.getD_eq_getD_getElem?, hi]
      | 1, hi => rw [← hx1]; simp [Array.getD_eq_getD_getElem?, hi]
      | 2, hi => simp [Array.getD_eq_getD_getElem?, hi]
      | 3, hi => simp [Array.getD_eq_getD_getElem?, hi]
      | i + 4, hi => omega
  have hsl := h4 1 _ rfl
  have hor := hr.obj 1 _ ho1
  show Calls Tryz.prog 150 #[_] wd _
  by_cases hl : w.l = []
  · have hx1 : c.getD 1 undef = .slice none 0 0 := by
      generalize c.getD 1 undef = x at hsl
      rw [hl] at hsl
      generalize hq : PV.sl 1 0 ([] : List UInt8).length 1 = q at hsl
      cases hsl with
      | sl i off len sz cap h h0 h1 hc he => cases hq; simp at h0
      | sl0 i sz h => rfl
      | _ => cases hq
    obtain ⟨p, x, y, rfl⟩ := hex _ hx1
    refine (bs_nil (N.blk 0) p x y wd h1).mono ?_
    rintro e w' ⟨rfl, rfl⟩
    refine ⟨.string ⟨#[]⟩, M, N, pS ⟨w.l.toArray⟩, [], 2, rfl, ⟨rfl, rfl, rfl⟩, ?_, ?_, .iv _ _ (by rw [hl]; exact .v _)⟩
    · have := Ext.drew (M := M) (N := N) (U := (· < w.O.length)) (h := initH 0 w.O) (w := wd)
      exact ⟨this.os, this.tape, this.output, this.size, this.keep, this.mle, this.mnew, this.nm, this.ule, fun i o hi => (nomatch hi)⟩
    · exact ⟨hr.drew.frz, fun i o hi => (nomatch hi), fun i o hi => (nomatch hi), fun i o hi => (nomatch hi), fun i j o p hi => (nomatch hi)⟩
  · have hpos : 0 < w.l.length := List.length_pos_iff.2 hl
    obtain ⟨cap, hx1, hcap, hcm⟩ : ∃ cap, c.getD 1 undef = .slice (some ⟨N.blk 1, 0, none⟩) w.l.length cap ∧ w.l.length ≤ cap ∧ cap ≤ maxLen := by
      generalize c.getD 1 undef = x at hsl
      generalize hn : w.l.length = n at hsl hpos
      generalize hq : PV.sl 1 0 n 1 = q at hsl
      cases hsl with
      | sl i off len sz cap h h0 hl hc he => cases hq; exact ⟨cap, by simp, hl, hc⟩
      | sl0 i sz h => cases hq; omega
      | _ => cases hq
    rcases hor with hor | ⟨cur, q1, q2, q3, q4⟩
    · exact absurd hor hl
    obtain ⟨p, x, y, rfl⟩ := hex _ hx1
    refine (bs_some (N.blk 0) (N.blk 1) cap p x y cur w.l wd h1 q1 q3 hcap hcm q4 hl).mono ?_
    rintro e w' ⟨rfl, rfl⟩
    have hre : (AO.brow w.l 5).real = true := by cases hll : w.l with
      | nil => exact absurd hll hl
      | cons => rfl
    have hk : ∀ b, b ≠ N.blk 1 → (wd.drew.freeze ⟨N.blk 1, 0, none⟩ w.l.length).heap[b]? = wd.heap[b]? := by
      intro b hb
      unfold World.freeze
      split
      · rfl
      · show (wd.heap.modify _ _)[b]? = _
        simp only [Array.getElem?_modify]
        rw [if_neg (fun e => hb e.symm)]
    have hos : (wd.drew.freeze ⟨N.blk 1, 0, none⟩ w.l.length).os = wd.os ∧ (wd.drew.freeze ⟨N.blk 1, 0, none⟩ w.l.length).tape = wd.tape ∧ (wd.drew.freeze ⟨N.blk 1, 0, none⟩ w.l.length).output = wd.output ∧ (wd.drew.freeze ⟨N.blk 1, 0, none⟩ w.l.length).heap.size = wd.heap.size := by
      unfold World.freeze
      split
      · exact ⟨rfl, rfl, rfl, rfl⟩
      · exact ⟨rfl, rfl, rfl, by show (wd.heap.modify _ _).size = _; simp⟩
    refine ⟨_, M, N, pS ⟨w.l.toArray⟩, [], 2, rfl, ⟨rfl, rfl, rfl⟩, ?_, ?_, .iv _ _ (.v _)⟩
    · exact ⟨hos.1, hos.2.1, hos.2.2.1, by rw [hos.2.2.2]; exact Nat.le_refl _, fun b hb hn => hk b fun e => hn 1 _ ho1 hre e.symm, .refl _, fun b c h1 h2 => by simp [h1] at h2, .refl _ _, fun _ h => h, fun i o hi => (nomatch hi)⟩
    · refine ⟨fun b d hb => ?_, fun i o hi => (nomatch hi), fun i o hi => (nomatch hi), fun i o hi => (nomatch hi), fun i j o p hi => (nomatch hi)⟩
      have hne : b ≠ N.blk 1 := fun e => by
        have := hr.nfrz 1 _ ho1 hre
        rw [← e, hb] at this; cases this
      exact (hr.frz b d hb).mono (hk b hne)
section
variable {nt : Nat} {Q : AQ} {k : List KI} {s : AS}
theorem argsLow {l : List IV} (σ : Nat → Nat) : l.map PV.iv = renL σ (l.map .iv) := (renL_iv σ l).symm

/-- The state behind a method of the writer. -/
def wS (s : AS) (w' : WS) (i j : Nat) : AS := match s with | ⟨f, h, n⟩ => ⟨f, (i, some (w'.cAt i n)) :: (n, some (.brow w'.l 5)) :: (i, none) :: (j, none) :: h, n + 1⟩
theorem wS_eq (s : AS) (w' : WS) (i j : Nat) : wS s w' i j = ⟨s.f, (i, some (w'.cAt i s.nx)) :: (s.nx, some (.brow w'.l 5)) :: (i, none) :: (j, none) :: s.h, s.nx + 1⟩ := by cases s; rfl
def wSp (s : AS) (w' : WS) (i j m : Nat) : AS := match s with | ⟨f, h, n⟩ => ⟨f, (i, some (w'.cAt i n)) :: (n, some (.brow w'.l 5)) :: (i, none) :: (j, none) :: (m, none) :: h, n + 1⟩
theorem wSp_eq (s : AS) (w' : WS) (i j m : Nat) : wSp s w' i j m = ⟨s.f, (i, some (w'.cAt i s.nx)) :: (s.nx, some (.brow w'.l 5)) :: (i, none) :: (j, none) :: (m, none) :: s.h, s.nx + 1⟩ := by cases s; rfl
/-- A call of a method of the writer. -/
theorem wcall_OT {o : Oper} {c : Call} {g : FuncId} {args al : List PV} {w w' : WS} {r : PV} {i j : Nat} {s' : AS} (hc : Det Tryz.prog g (.ptr 0 0 :: args) w.O r w'.H 3) (ho : o.op = .call c) (ha : argsOf s.f c = some (g, .ptr i 0 :: al))
    (hi : s.h.get i = some (w.cAt i j)) (hj : s.h.get j = some (.brow w.l 5)) (hlt : Nat.blt i s.nx = true) (hlj : Nat.blt j s.nx = true) (hne : Nat.beq i j = false) (has : al = args) (hlow : belowL 0 args = true) (hr : r.low 0 = true)
    (hp : putDst nt o r (wS s w' i j) = some s') : OT Tryz.prog nt o s (fun t => t = s') := by
  have hij : i ≠ j := fun e => by subst e; simp at hne
  have hnd : ([i, j] : List Nat).Nodup := by simp [hij]
  have hL : ∀ x ∈ [i, j], x < s.nx := by
    intro x hx
    simp only [List.mem_cons, List.not_mem_nil, or_false] at hx
    rcases hx with rfl | rfl
    · exact Nat.le_of_ble_eq_true hlt
    · exact Nat.le_of_ble_eq_true hlj
  subst has
  have hargs : ∀ σ, renL σ al = al := fun σ => renL_low σ al hlow
  refine call_OT ho ha hc hnd hL ?_ ?_ ?_
  · simp only [List.map_cons, List.map_nil, hi, hj]; rfl
  · simp only [renL, hargs]; rfl
  · rintro q h0 n0 ⟨rfl, rfl, rfl⟩
    rw [PV.ren_low _ _ hr]
    rw [wS_eq] at hp
    exact ⟨s', hp, rfl⟩
theorem go_w {all rest : List Oper} {o : Oper} {c : Call} {g : FuncId} {args al : List PV} {w w' : WS} {r : PV} {i j : Nat} {s' : AS} (hc : Det Tryz.prog g (.ptr 0 0 :: args) w.O r w'.H 3) (ho : o.op = .call c) (hg : o.guard = none) (ha : argsOf s.f c = some (g, .ptr i 0 :: al))
    (hi : s.h.get i = some (w.cAt i j)) (hj : s.h.get j = some (.brow w.l 5)) (hlt : Nat.blt i s.nx = true) (hlj : Nat.blt j s.nx = true) (hne : Nat.beq i j = false) (has : al = args) (hlow : belowL 0 args = true) (hr : r.low 0 = true)
    (hp : putDst nt o r (wS s w' i j) = some s') (h : GO Tryz.prog nt (.ops all rest :: k) Q s') : GO Tryz.prog nt (.ops all (o :: rest) :: k) Q s :=
  go_op hg (wcall_OT hc ho ha hi hj hlt hlj hne has hlow hr hp) fun t ht => by subst ht; exact h
/-- Texts are put: the row of texts is the object m. -/
theorem wput_OT {o : Oper} {c : Call} {g : FuncId} {ss : List Str} {w w' : WS} {i j m n : Nat} {s' : AS} (hc : Det Tryz.prog g [.ptr 0 0, .sl 2 0 ss.length 1] [w.c, .brow w.l 5, rowI 1 ss strC] (.tup []) [(0, some (w'.cAt 0 3)), (3, some (.brow w'.l 5))] 4) (ho : o.op = .call c) (ha : argsOf s.f c = some (g, [.ptr i 0, .sl m 0 n 1]))
    (hi : s.h.get i = some (w.cAt i j)) (hj : s.h.get j = some (.brow w.l 5)) (hm : s.h.get m = some (rowI 1 ss strC)) (hn : n = ss.length) (hlt : Nat.blt i s.nx = true) (hlj : Nat.blt j s.nx = true) (hlm : Nat.blt m s.nx = true) (hnd : nodupB [i, j, m] = true)
    (hp : putDst nt o (.tup []) (wSp s w' i j m) = some s') : OT Tryz.prog nt o s (fun t => t = s') := by
  have hL : ∀ x ∈ [i, j, m], x < s.nx := by
    intro x hx
    simp only [List.mem_cons, List.not_mem_nil, or_false] at hx
    rcases hx with rfl | rfl | rfl
    · exact Nat.le_of_ble_eq_true hlt
    · exact Nat.le_of_ble_eq_true hlj
    · exact Nat.le_of_ble_eq_true hlm
  subst hn
  refine call_OT ho ha hc (nodupB_ok hnd) hL ?_ rfl ?_
  · simp only [List.map_cons, List.map_nil, hi, hj, hm, rowI_ren]; rfl
  · rintro q h0 n0 ⟨rfl, rfl, rfl⟩
    rw [wSp_eq] at hp
    exact ⟨s', hp, rfl⟩
theorem go_wp {all rest : List Oper} {o : Oper} {c : Call} {g : FuncId} {ss : List Str} {w w' : WS} {i j m n : Nat} {s' : AS} (hc : Det Tryz.prog g [.ptr 0 0, .sl 2 0 ss.length 1] [w.c, .brow w.l 5, rowI 1 ss strC] (.tup []) [(0, some (w'.cAt 0 3)), (3, some (.brow w'.l 5))] 4) (ho : o.op = .call c) (hg : o.guard = none) (ha : argsOf s.f c = some (g, [.ptr i 0, .sl m 0 n 1]))
    (hi : s.h.get i = some (w.cAt i j)) (hj : s.h.get j = some (.brow w.l 5)) (hm : s.h.get m = some (rowI 1 ss strC)) (hn : n = ss.length) (hlt : Nat.blt i s.nx = true) (hlj : Nat.blt j s.nx = true) (hlm : Nat.blt m s.nx = true) (hnd : nodupB [i, j, m] = true)
    (hp : putDst nt o (.tup []) (wSp s w' i j m) = some s')
    (h : GO Tryz.prog nt (.ops all rest :: k) Q s') : GO Tryz.prog nt (.ops all (o :: rest) :: k) Q s :=
  go_op hg (wput_OT hc ho ha hi hj hm hn hlt hlj hlm hnd hp) fun t ht => by subst ht; exact h
/-- .. where the order is open. -/
theorem go_dwp {all : List Oper} {todo pend : List (Nat × Oper)} {j' : Nat} {CA C2 : Prop} {o : Oper} {c : Call} {g : FuncId} {ss : List Str} {w w' : WS} {i j m n : Nat} {s' : AS} (hc : Det Tryz.prog g [.ptr 0 0, .sl 2 0 ss.length 1] [w.c, .brow w.l 5, rowI 1 ss strC] (.tup []) [(0, some (w'.cAt 0 3)), (3, some (.brow w'.l 5))] 4)
    (hrd : readyE todo = [(j', o)]) (ho : o.op = .call c) (ha : argsOf s.f c = some (g, [.ptr i 0, .sl m 0 n 1]))
    (hi : s.h.get i = some (w.cAt i j)) (hj : s.h.get j = some (.brow w.l 5)) (hm : s.h.get m = some (rowI 1 ss strC)) (hn : n = ss.length) (hlt : Nat.blt i s.nx = true) (hlj : Nat.blt j s.nx = true) (hlm : Nat.blt m s.nx = true) (hnd : nodupB [i, j, m] = true)
    (hp : putDst nt o (.tup []) (wSp s w' i j m) = some s')
    (hg : guardIs nt all s.f o = some true) (hpb : pendB all pend o = true) (hE : effE todo [j'] = true)
    (hag : agnC tyA nt all s todo pend = some CA) (hCA : CA) (hag2 : againC tyA nt all s' (restOf pend o) = some C2) (hC2 : C2)
    (h : GO Tryz.prog nt (.dops all (todo.filter fun x => !Nat.beq x.1 j') (restOf pend o) :: k) Q s') : GO Tryz.prog nt (.dops all todo pend :: k) Q s :=
  go_dot tyA_ok hrd hg hpb hE hag hCA (wput_OT hc ho ha hi hj hm hn hlt hlj hlm hnd hp) hag2 hC2 h
/-- A method of the writer where the order is open. -/
theorem go_dw {all : List Oper} {todo pend : List (Nat × Oper)} {j' : Nat} {CA C2 : Prop} {o : Oper} {c : Call} {g : FuncId} {args al : List PV} {w w' : WS} {r : PV} {i j : Nat} {s' : AS} (hc : Det Tryz.prog g (.ptr 0 0 :: args) w.O r w'.H 3)
    (hrd : readyE todo = [(j', o)]) (ho : o.op = .call c) (ha : argsOf s.f c = some (g, .ptr i 0 :: al))
    (hi : s.h.get i = some (w.cAt i j)) (hj : s.h.get j = some (.brow w.l 5)) (hlt : Nat.blt i s.nx = true) (hlj : Nat.blt j s.nx = true) (hne : Nat.beq i j = false) (has : al = args) (hlow : belowL 0 args = true) (hr : r.low 0 = true)
    (hp : putDst nt o r (wS s w' i j) = some s')
    (hg : guardIs nt all s.f o = some true) (hpb : pendB all pend o = true) (hE : effE todo [j'] = true)
    (hag : agnC tyA nt all s todo pend = some CA) (hCA : CA) (hag2 : againC tyA nt all s' (restOf pend o) = some C2) (hC2 : C2)
    (h : GO Tryz.prog nt (.dops all (todo.filter fun x => !Nat.beq x.1 j') (restOf pend o) :: k) Q s') : GO Tryz.prog nt (.dops all todo pend :: k) Q s :=
  go_dot tyA_ok hrd hg hpb hE hag hCA (wcall_OT hc ho ha hi hj hlt hlj hne has hlow hr hp) hag2 hC2 h
/-- The end of a method of the writer. -/
theorem end_w {l : List ResultVar} {r r0 a b c d : PV} {e : Exit} {w' : WS} {j n : Nat} (he : e = .normal ∨ e = .ret) (hr : resA tyA s l = some r0) (hi : s.h.get 0 = some (.cells [a, b, c, d] (some 180))) (ha : a = .optr w'.fr 0) (hb : b = .sl j 0 n 1) (hn : n = w'.l.length) (hc : PVle c (pB w'.bad)) (hd : PVle d (pI w'.br))
    (hj : s.h.get j = some (.brow w'.l 5)) (hlj : Nat.blt j s.nx = true) (hne : Nat.beq 0 j = false) (hns : Nat.ble 2 s.nx = true)
    (hrl : PVle r0 r) (hlow : r.low 0 = true) (hlow3 : r.low 3 = true) : EndD tyA l 2 r w'.H 3 e s := by
  subst ha; subst hb; subst hn
  refine end_det [j] he hr ⟨rfl, Nat.le_of_ble_eq_true hns, fun x hx => ?_, ⟨?_, hlow3, trivial⟩, ⟨⟨_, hi, .cells ⟨.refl _, .refl _, hc, hd, trivial⟩⟩, Nat.le_of_ble_eq_true rfl, rfl, ⟨.brow w'.l 5, hj, .of_eq rfl⟩, Nat.le_of_ble_eq_true rfl, trivial, trivial⟩, ?_⟩
  · simp only [List.mem_singleton] at hx; subst hx; exact Nat.le_of_ble_eq_true hlj
  · rw [PV.ren_low _ _ hlow]; exact hrl
  · have : (0 : Nat) ≠ j := fun e => by subst e; simp at hne
    show ([0, j] : List Nat).Nodup
    simpa using this
/-- The writer at a loop's head: its bytes under the first number of the loop's own. -/
theorem wkW {n0 j m : Nat} {tf : AF} {w w' : WS} {a b c d : PV} (hw : w = w') (hi : s.h.get 0 = some (.cells [a, b, c, d] (some 180))) (ha : a = .optr w.fr 0) (hb : b = .sl j 0 m 1) (hm : m = w.l.length) (hc : PVle c (pB w.bad)) (hd : PVle d (pI w.br)) (hj : s.h.get j = some (.brow w.l 5))
    (hlj : Nat.blt j s.nx = true) (hne : Nat.beq 0 j = false) (h0 : Nat.blt 0 n0 = true) (hns : Nat.ble n0 s.nx = true) (hf : wkF (n0 + 1) (sg n0 [j]) s.f tf) : Wk n0 [j] s ⟨tf, [(0, some (w'.cAt 0 n0)), (n0, some (.brow w'.l 5))], n0 + 1⟩ := by
  subst hw; subst ha; subst hb; subst hm
  have h0' : 0 < n0 := Nat.le_of_ble_eq_true h0
  have s0 : sg n0 [j] 0 = 0 := sg_lt h0'
  have b0 : Nat.blt n0 n0 = false := Bool.eq_false_iff.2 fun e => absurd (Nat.le_of_ble_eq_true e) (by omega)
  have b1 : Nat.blt 0 (n0 + 1) = true := Nat.ble_eq_true_of_le (by omega)
  have b2 : Nat.blt n0 (n0 + 1) = true := Nat.ble_eq_true_of_le (by omega)
  have s1 : sg n0 [j] n0 = j := by simp [sg, b0]
  refine ⟨rfl, Nat.le_of_ble_eq_true hns, fun x hx => ?_, hf, ⟨⟨_, by rw [s0]; exact hi, ?_⟩, Nat.lt_succ_of_lt h0', ?_, ⟨.brow w.l 5, by rw [s1]; exact hj, .of_eq rfl⟩, Nat.lt_succ_self _, trivial, trivial⟩, ?_⟩
  · simp only [List.mem_singleton] at hx; subst hx; exact Nat.le_of_ble_eq_true hlj
  · simp only [AO.ren, renL, PV.ren, s0, s1]
    exact .cells ⟨.refl _, .refl _, hc, hd, trivial⟩
  · simp [AO.low, belowL, PV.low, b1, b2]
  · have : (0 : Nat) ≠ j := fun e => by subst e; simp at hne
    simp only [realKeys, s0, s1]
    simpa using this
end
end Go.Proofs.YtpnclpbkecjinaaGreatDoorR
/-
  The plain law of a rule's variables: the program's lists are the document's. No program stands here.
-/
namespace Go.Proofs.YtpnclpbkecjinaaGreatDoorR
open Go Go.Al
set_option maxRecDepth 10000

/-! Lists that are sorted by bytes, none twice. -/
def ltS (a b : Str) : Prop := toB a < toB b
theorem bl_eq (a b : Str) : Op.bytesLess a.toList b.toList = true ↔ ltS a b := by
  rw [ByteArray.toList_eq, ByteArray.toList_eq, bytesLess_eq, decide_eq_true_eq]; rfl
theorem toB_inj {a b : Str} (h : toB a = toB b) : a = b := by rw [← ofB_toB a, ← ofB_toB b, h]
theorem ltS_trans {a b c : Str} (h : ltS a b) (k : ltS b c) : ltS a c := List.lt_trans h k
theorem ltS_irrefl (a : Str) : ¬ ltS a a := List.lt_irrefl _
theorem ltS_tri {a b : Str} (h : ¬ a = b) (k : ¬ ltS a b) : ltS b a := by
  refine Classical.byContradiction fun hc => h (toB_inj (List.le_antisymm ?_ ?_))
  · exact List.not_lt.1 hc
  · exact List.not_lt.1 k
abbrev StS (l : List Str) : Prop := l.Pairwise ltS
theorem ins_sorted : ∀ {l : List Str} (_ : StS l) (s : Str), StS (ins l s)
  | [], _, s => List.pairwise_singleton _ _
  | x :: r, h, s => by
    obtain ⟨h1, h2⟩ := List.pairwise_cons.1 h
    simp only [ins]
    split
    · exact h
    · rename_i hne
      split
      · rename_i hlt
        have hlt := (bl_eq x s).1 hlt
        refine List.pairwise_cons.2 ⟨fun y hy => ?_, ins_sorted h2 s⟩
        rcases mem_ins.1 hy with hy | rfl
        · exact h1 y hy
        · exact hlt
      · rename_i hlt
        have hlt : ltS s x := ltS_tri hne fun h => hlt ((bl_eq x s).2 h)
        refine List.pairwise_cons.2 ⟨fun y hy => ?_, h⟩
        rcases List.mem_cons.1 hy with rfl | hy
        · exact hlt
        · exact ltS_trans hlt (h1 y hy)
theorem withL_sorted {l : List Str} (h : StS l) (s : Str) : StS (withL l s) := by rw [withL_ins]; exact ins_sorted h s
theorem withAll_sorted : ∀ {m l : List Str} (_ : StS l), StS (withAll l m)
  | [], _, h => h
  | x :: r, _, h => withAll_sorted (m := r) (withL_sorted h x)
theorem sorted_ext : ∀ {a b : List Str}, StS a → StS b → (∀ x, x ∈ a ↔ x ∈ b) → a = b
  | [], [], _, _, _ => rfl
  | [], y :: s, _, _, h => by have := (h y).2 List.mem_cons_self; cases this
  | x :: r, [], _, _, h => by have := (h x).1 List.mem_cons_self; cases this
  | x :: r, y :: s, ha, hb, h => by
    obtain ⟨a1, a2⟩ := List.pairwise_cons.1 ha
    obtain ⟨b1, b2⟩ := List.pairwise_cons.1 hb
    have hxy : x = y := by
      rcases List.mem_cons.1 ((h x).1 List.mem_cons_self) with h1 | h1
      · exact h1
      · rcases List.mem_cons.1 ((h y).2 List.mem_cons_self) with h2 | h2
        · exact h2.symm
        · exact absurd (ltS_trans (b1 x h1) (a1 y h2)) (ltS_irrefl _)
    subst hxy
    rw [sorted_ext a2 b2 fun z => ?_]
    constructor
    · intro hz
      rcases List.mem_cons.1 ((h z).1 (List.mem_cons_of_mem _ hz)) with rfl | h3
      · exact absurd (a1 z hz) (ltS_irrefl _)
      · exact h3
    · intro hz
      rcases List.mem_cons.1 ((h z).2 (List.mem_cons_of_mem _ hz)) with rfl | h3
      · exact absurd (b1 z hz) (ltS_irrefl _)
      · exact h3
theorem sortB_sorted {l : List Str} (h : l.Nodup) : StS (sortB l) := by
  have h1 := sortBytes_sorted (l.map toB)
  rw [← sortB_map] at h1
  have hn : (sortB l).Nodup := by
    have hp : ((sortB l).map toB).Perm (l.map toB) := by rw [sortB_map]; exact sortBytes_perm _
    have hln : (l.map toB).Nodup := List.Pairwise.map toB (fun a b hab e => hab (toB_inj e)) h
    have := hp.nodup_iff.2 hln
    exact List.Pairwise.of_map toB (fun a b hab e => hab (by rw [e])) this
  have h2 : (sortB l).Pairwise fun a b => toB a ≤ toB b := (List.pairwise_map.1 h1).imp fun {a b} hab => of_decide_eq_true hab
  refine (List.Pairwise.and h2 hn).imp fun {a b} hab => ?_
  obtain ⟨h3, h4⟩ := hab
  exact Classical.byContradiction fun hc => h4 (toB_inj (List.le_antisymm h3 (List.not_lt.1 hc)))
theorem told_eq {m : NM} {l : List Str} (hm : (m.map (·.1)).Nodup) (hl : StS l) (h : ∀ x, x ∈ m.map (·.1) ↔ x ∈ l) : toldM m = l := by
  refine sorted_ext (sortB_sorted hm) hl fun x => ?_
  rw [toldM, mem_sortB]
  exact h x
theorem told_occ {occ l : List Str} (hl : StS l) (h : ∀ x, x ∈ occ ↔ x ∈ l) : toldM (occM occ) = l :=
  told_eq (occM_keys occ).1 hl fun x => ((occM_keys occ).2 x).trans (h x)

/-! What is met is what is told. -/
theorem mem_foldTerms {x : Str} : ∀ {l : List Term} {a : List Str}, x ∈ l.foldl tvStep a ↔ x ∈ a ∨ x ∈ l.flatMap fun t => if t.kind = 1 then [t.var] else []
  | [], a => by simp
  | t :: r, a => by
    rw [List.foldl_cons, mem_foldTerms, List.flatMap_cons, List.mem_append]
    unfold tvStep
    split
    · rw [mem_withL, List.mem_singleton, or_assoc]
    · simp
theorem mem_atomVars {x : Str} {a : Atom} : x ∈ atomVars a ↔ x ∈ atomOcc a := by
  unfold atomVars atomOcc
  rw [mem_foldTerms]; simp
mutual
theorem mem_exprVars {x : Str} : ∀ {e : Expr}, x ∈ exprVars e ↔ x ∈ exprOcc e
  | .mk k v _ _ args => by
    simp only [exprVars, exprOcc]
    split
    · rw [mem_withL]; simp
    · split
      · rw [mem_exprsVars]; simp
      · rfl
theorem mem_exprsVars {x : Str} : ∀ {l : List Expr} {a : List Str}, x ∈ exprsVars a l ↔ x ∈ a ∨ x ∈ exprsOcc l
  | [], a => by simp [exprsVars, exprsOcc]
  | e :: r, a => by
    simp only [exprsVars, exprsOcc]
    rw [mem_exprsVars, mem_withAll, mem_exprVars, List.mem_append, or_assoc]
end
theorem mem_plainVars {x : Str} {l : Lit} : x ∈ plainVars l ↔ x ∈ litOcc l := by
  unfold plainVars litOcc
  split
  · exact mem_atomVars
  · split
    · rw [mem_withAll, mem_exprVars, mem_exprVars, List.mem_append]
    · rfl
theorem mem_inner {x : Str} {a : Agg} : x ∈ innerVars a ↔ x ∈ aggOcc a := by
  unfold innerVars aggOcc
  have key : ∀ (l : List Lit) (b : List Str), x ∈ l.foldl plF b ↔ x ∈ b ∨ x ∈ l.flatMap litOcc := by
    intro l
    induction l with
    | nil => simp
    | cons y r ih =>
      intro b
      rw [List.foldl_cons, ih, List.flatMap_cons, List.mem_append, mem_withAll, mem_plainVars, or_assoc]
  rw [key, List.mem_append]
  split
  · rfl
  · rw [mem_exprVars]
theorem mem_outer {x : Str} {r : Rule} : x ∈ outer r ↔ x ∈ outerOcc r := by
  unfold outer outerOcc
  have key : ∀ (l : List Lit) (b : List Str), x ∈ l.foldl outF b ↔ x ∈ b ∨ x ∈ l.flatMap litOut := by
    intro l
    induction l with
    | nil => simp
    | cons y r ih =>
      intro b
      rw [List.foldl_cons, ih, List.flatMap_cons, List.mem_append]
      by_cases hk : y.kind = 4
      · rw [outF_pos hk, show litOut y = litOcc y ++ [y.avar] by unfold litOut; rw [if_pos hk], mem_withL, mem_withAll, mem_plainVars, List.mem_append, List.mem_singleton]
        simp only [or_assoc]
      · rw [outF_neg hk, show litOut y = litOcc y by unfold litOut; rw [if_neg hk, List.append_nil], mem_withAll, mem_plainVars, or_assoc]
  rw [key, List.mem_append, mem_atomVars]
theorem atomVars_sorted (a : Atom) : StS (atomVars a) := by
  have key : ∀ (l : List Term) (b : List Str), StS b → StS (l.foldl tvStep b) := by
    intro l
    induction l with
    | nil => exact fun _ h => h
    | cons t r ih =>
      intro b h
      rw [List.foldl_cons]
      refine ih _ ?_
      unfold tvStep
      split
      · exact withL_sorted h _
      · exact h
  exact key _ _ List.Pairwise.nil
theorem outer_sorted (r : Rule) : StS (outer r) := by
  have key : ∀ (l : List Lit) (b : List Str), StS b → StS (l.foldl outF b) := by
    intro l
    induction l with
    | nil => exact fun _ h => h
    | cons t r ih =>
      intro b h
      rw [List.foldl_cons]
      refine ih _ ?_
      unfold outF
      split
      · exact withL_sorted (withAll_sorted h) _
      · exact withAll_sorted h
  exact key _ _ (atomVars_sorted _)
/-- OUTER: the program's is the document's. -/
theorem told_outer (r : Rule) : toldM (occM (outerOcc r)) = outer r := told_occ (outer_sorted r) fun _ => mem_outer.symm
theorem inL_congr {a b : List Str} (h : ∀ x, x ∈ a ↔ x ∈ b) (x : Str) : inL a x = inL b x := by
  rw [Bool.eq_iff_iff, inL_iff, inL_iff]; exact h x

theorem exprVars_sorted : ∀ (e : Expr), StS (exprVars e)
  | .mk k v _ _ args => by
    simp only [exprVars]
    split
    · exact withL_sorted List.Pairwise.nil _
    · split
      · rw [exprsVars_eq]
        have key : ∀ (l : List Expr) (b : List Str), StS b → StS (l.foldl (fun a e => withAll a (exprVars e)) b) := by
          intro l
          induction l with
          | nil => exact fun _ h => h
          | cons t r ih => intro b h; exact ih _ (withAll_sorted h)
        exact key _ _ List.Pairwise.nil
      · exact List.Pairwise.nil
theorem inner_sorted (a : Agg) : StS (innerVars a) := by
  have key : ∀ (l : List Lit) (b : List Str), StS b → StS (l.foldl plF b) := by
    intro l
    induction l with
    | nil => exact fun _ h => h
    | cons t r ih => intro b h; exact ih _ (withAll_sorted h)
  refine key _ _ ?_
  split
  · exact List.Pairwise.nil
  · exact exprVars_sorted _
/-- LOCAL. -/
theorem told_local (r : Rule) (lit : Int) : locOut r lit = localL r lit := by
  unfold locOut localL
  split
  · rfl
  · refine told_eq (nodup_filterM (occM_keys _).1) ((inner_sorted _).sublist List.filter_sublist) fun x => ?_
    unfold locM
    have hk := (occM_keys (aggOcc (litAt r lit).agg)).2 x
    rw [List.mem_filter, mem_inner, inL_congr (fun _ => mem_outer) x, ← hk]
    constructor
    · intro h
      obtain ⟨y, hy, rfl⟩ := List.mem_map.1 h
      obtain ⟨h1, h2⟩ := List.mem_filter.1 hy
      exact ⟨List.mem_map.2 ⟨y, h1, rfl⟩, h2⟩
    · rintro ⟨h1, h2⟩
      obtain ⟨y, hy, rfl⟩ := List.mem_map.1 h1
      exact List.mem_map.2 ⟨y, List.mem_filter.2 ⟨hy, h2⟩, rfl⟩
end Go.Proofs.YtpnclpbkecjinaaGreatDoorR
/-
  Limited, limited within an aggregate, plain: contracts of the reference's functions.
-/
namespace Go.Proofs.YtpnclpbkecjinaaGreatDoorR
open Go Go.Al
set_option maxRecDepth 10000

def limitedL (r : Rule) : List Str := grownL true (outer r) r.body []

theorem c32 (r : Rule) (hb : 4 * r.size ≤ 1000000000000) : Pure Tryz.prog 32 [ag r.c] (.iv (strs (limitedL r))) := by
  have hu := hb
  unfold Rule.size at hu
  refine pure_end tyA_ok Tryz.func32 rfl (by decide) Tryz.ntmps32 rfl (by simp) rfl ?_
  refine goR rfl (by trivial) (go_pure (c30 r (by omega)) rfl rfl rfl rfl rfl rfl ?_)
  refine goR rfl (by trivial) (go_pure ((c74 r.body [] (outer r) true (by simp; omega)).le (aa := [.iv (lits r.body), .iv (.v (.slice none 0 0)), .iv (strs (outer r)), pB true]) ⟨.refl _, .nil _ _, .refl _, .refl _, trivial⟩) rfl rfl rfl rfl rfl rfl ?_)
  refine goR rfl (by trivial) (end_le (by first | exact .inr rfl | exact .inl rfl) rfl (.of_eq ?_))
  rfl

def limInK (r : Rule) (lit : Int) : List Str := (innerVars (litAt r lit).agg).foldl (fun k x => if inL (outer r) x then withL k x else k) []
def limitedInL (r : Rule) (lit : Int) : List Str := grownL false [] (litAt r lit).abody (limInK r lit)
theorem fold_if_len (p : Str → Bool) : ∀ (l k : List Str), (l.foldl (fun k x => if p x then withL k x else k) k).length ≤ k.length + l.length
  | [], k => by simp
  | x :: r, k => by
    have h1 := fold_if_len p r (if p x then withL k x else k)
    have h2 := withL_len k x
    simp only [List.foldl_cons, List.length_cons]
    split at h1 <;> rename_i h3 <;> simp only [h3, if_true, Bool.false_eq_true, if_false] <;> omega

theorem c196 (r : Rule) (lit : Int) (h0 : 0 ≤ lit) (h1 : lit < r.body.length) (hb : 8 * r.size ≤ 1000000000000) : Pure Tryz.prog 196 [ag r.c, pI lit] (.iv (strs (limitedInL r lit))) := by
  have hu := hb
  unfold Rule.size at hu
  have hk : lit.toNat < r.body.length := by omega
  have hsz : (litAt r lit).size ≤ Lit.sizes r.body := Lit.sizes_get r.body lit.toNat hk
  have hag := (litAt r lit).agg_size
  have hiv := innerVars_len (litAt r lit).agg
  have hse := (litAt r lit).size_eq
  refine pure_end tyA_ok Tryz.func196 rfl (by decide) Tryz.ntmps196 rfl (by simp) rfl ?_
  refine goR rfl (by trivial) (go_pure (c30 r (by omega)) rfl rfl rfl rfl rfl rfl ?_)
  refine goR rfl (by trivial) (go_pure (c80 (litAt r lit).agg (by omega)) rfl rfl rfl rfl rfl rfl ?_)
  refine goR rfl (by trivial) ?_
  refine go_for 0 (innerVars (litAt r lit).agg).length (Nat.zero_le _) (fun i => ⟨[(5, .ptr 1 0), (6, .iv (strs (outer r))), (7, .iv (strs (((innerVars (litAt r lit).agg).take i).foldl (fun k x => if inL (outer r) x then withL k x else k) []))), (8, .iv (strs (innerVars (litAt r lit).agg))), (9, pI i)], [(1, some (cellsI (litAt r lit).agg.c1))], 2⟩) (fun _ => True) [] trivial
    ?_ fun i hi _ => ?_
  · refine wk rfl rfl rfl ⟨.refl _, rfl, .refl _, rfl, .nil _ _, rfl, .refl _, rfl, .refl _, rfl, trivial⟩ ⟨⟨_, rfl, ?_⟩, Nat.le_of_ble_eq_true rfl, belowL_iv _ _, trivial⟩ rfl
    rw [cellsI_ren]
    exact AOle.cells ⟨.refl _, .refl _, .refl _, .refl _, .refl _, .refl _, .refl _, .refl _, .refl _, .iv (litsIL _), trivial⟩
  have hfl := fold_if_len (inL (outer r)) ((innerVars (litAt r lit).agg).take i) []
  simp only [List.length_nil, List.length_take] at hfl
  refine goR rfl (by trivial) ?_
  refine And.intro (fun h4 => ?_) (fun h4 => ?_)
  · have h4 : i < (innerVars (litAt r lit).agg).length := by simpa using h4
    have hs := fold_step (g := fun k x => if inL (outer r) x then withL k x else k) (b := []) h4
    refine goR rfl (by simp; omega) (go_pure (c81 _ ((innerVars (litAt r lit).agg).getD i default)) rfl rfl rfl rfl rfl rfl ?_)
    refine goR rfl (by trivial) ?_
    refine And.intro (fun h5 => ?_) (fun h5 => ?_)
    · rw [if_pos h5] at hs
      refine goR rfl (by simp; omega) (go_pure (c72 _ _ (by omega)) rfl rfl rfl rfl rfl rfl ?_)
      refine goR rfl (by (repeat' (first | exact trivial | exact rfl | exact PVle.refl _ | exact PVle.bk (by assumption) | apply And.intro)) <;> first | omega | (simp only [Int.toNat_natCast]; omega) | (simp; done) | (simp; omega)) ?_
      exact ⟨h4, trivial, [], wk rfl rfl rfl ⟨.refl _, rfl, .refl _, rfl, .of_eq (by rw [hs]; rfl), rfl, .refl _, rfl, .refl _, rfl, trivial⟩ (hC rfl rfl rfl trivial) rfl⟩
    · rw [if_neg (by rw [h5]; simp)] at hs
      refine goR rfl (by (repeat' (first | exact trivial | exact rfl | exact PVle.refl _ | exact PVle.bk (by assumption) | apply And.intro)) <;> first | omega | (simp only [Int.toNat_natCast]; omega) | (simp; done) | (simp; omega)) ?_
      exact ⟨h4, trivial, [], wk rfl rfl rfl ⟨.refl _, rfl, .refl _, rfl, .of_eq (by rw [hs]; rfl), rfl, .refl _, rfl, .refl _, rfl, trivial⟩ (hC rfl rfl rfl trivial) rfl⟩
  · have h4 : (innerVars (litAt r lit).agg).length ≤ i := by simpa using h4
    have e0 : ((innerVars (litAt r lit).agg).take i).foldl (fun k x => if inL (outer r) x then withL k x else k) [] = limInK r lit := fold_done h4
    rw [e0] at hfl ⊢
    refine goR rfl (by trivial) (go_pure ((c74 (litAt r lit).abody (limInK r lit) [] false (by omega)).le (aa := [.iv (lits (litAt r lit).abody), .iv (strs (limInK r lit)), .iv (.v (.slice none 0 0)), pB false]) ⟨.refl _, .refl _, .nil _ _, .refl _, trivial⟩) rfl rfl rfl rfl rfl rfl ?_)
    refine goR rfl (by trivial) (end_le (by first | exact .inr rfl | exact .inl rfl) rfl (.of_eq ?_))
    rfl

/-! Plain ones. -/
theorem copiesL_new {l : Lit} {k : List Str} (h : (copiesL l k).2 = true) : ((copiesL l k).1 = l.left.var ∨ (copiesL l k).1 = l.right.var) ∧ (copiesL l k).1 ∉ k := by
  unfold copiesL at h ⊢
  split at h
  · cases h
  · rename_i h0
    rw [if_neg h0]
    split at h
    · rename_i h1
      rw [if_pos h1]
      exact ⟨.inl rfl, inL_false.1 h1.2.1⟩
    · rename_i h1
      rw [if_neg h1]
      by_cases h2 : l.right.kind = 1 ∧ (if l.left.kind = 1 then inL k l.left.var else decide (l.left.kind = 2)) = true
      · rw [if_pos h2] at h ⊢
        exact ⟨.inr rfl, inL_false.1 (by simpa using h)⟩
      · rw [if_neg h2] at h
        cases h
def stepP (a : List Str × Bool) (l : Lit) : List Str × Bool := if (copiesL l a.1).2 = true then (withL a.1 (copiesL l a.1).1, true) else a
def roundP (body : List Lit) (k : List Str) : List Str × Bool := body.foldl stepP (k, false)
def plainN (body : List Lit) : Nat → List Str → List Str
  | 0, k => k
  | n + 1, k => if (roundP body k).2 = true then plainN body n (roundP body k).1 else (roundP body k).1
theorem plainN_succ {body : List Lit} {n : Nat} {k : List Str} : plainN body (n + 1) k = if (roundP body k).2 = true then plainN body n (roundP body k).1 else (roundP body k).1 := rfl
def plainL (r : Rule) : List Str := plainN r.body (3 * r.body.length + 1) (r.body.foldl posF [])
theorem stepP_ok {c : List Str} {a : List Str × Bool} {l : Lit} (hc : ∀ v ∈ [l.left.var, l.right.var, l.avar], v ∈ c) :
    (stepP a l).1.length + miss c (stepP a l).1 ≤ a.1.length + miss c a.1 ∧ miss c (stepP a l).1 ≤ miss c a.1 ∧ ((stepP a l).2 = true → a.2 = true ∨ miss c (stepP a l).1 < miss c a.1) := by
  unfold stepP
  split
  · rename_i h
    obtain ⟨h1, h2⟩ := copiesL_new h
    have h3 := miss_lt (hc _ (by rcases h1 with h1 | h1 <;> simp [h1])) h2
    have h4 := withL_len a.1 (copiesL l a.1).1
    exact ⟨by dsimp only; omega, by dsimp only; omega, fun _ => .inr h3⟩
  · exact ⟨Nat.le_refl _, Nat.le_refl _, fun h => .inl h⟩
theorem foldP_ok {c : List Str} : ∀ {body : List Lit} {a : List Str × Bool}, (∀ l ∈ body, ∀ v ∈ [l.left.var, l.right.var, l.avar], v ∈ c) →
    (body.foldl stepP a).1.length + miss c (body.foldl stepP a).1 ≤ a.1.length + miss c a.1 ∧ miss c (body.foldl stepP a).1 ≤ miss c a.1 ∧
    ((body.foldl stepP a).2 = true → a.2 = true ∨ miss c (body.foldl stepP a).1 < miss c a.1)
  | [], a, _ => ⟨Nat.le_refl _, Nat.le_refl _, fun h => .inl h⟩
  | l :: r, a, hc => by
    obtain ⟨h1, h2, h3⟩ := stepP_ok (a := a) (hc l List.mem_cons_self)
    obtain ⟨g1, g2, g3⟩ := foldP_ok (body := r) (a := stepP a l) fun l hl => hc l (List.mem_cons_of_mem _ hl)
    simp only [List.foldl_cons]
    refine ⟨by omega, by omega, fun h => ?_⟩
    rcases g3 h with g | g
    · rcases h3 g with h | h
      · exact .inl h
      · exact .inr (by omega)
    · exact .inr (by omega)

theorem c34 (r : Rule) (hb : 4 * r.size ≤ 1000000000000) : Pure Tryz.prog 34 [ag r.c] (.iv (strs (plainL r))) := by
  unfold Rule.size at hb
  have hal := Lit.length_sizes r.body
  have hpl := posF_fold_len r.body []
  have hcl := cands_len r.body
  have hml := miss_le (cands r.body) (r.body.foldl posF [])
  simp only [List.length_nil] at hpl
  refine pure_end tyA_ok Tryz.func34 rfl (by decide) Tryz.ntmps34 rfl (by simp) rfl ?_
  refine goR rfl (by trivial) ?_
  refine go_for 0 r.body.length (Nat.zero_le _) (fun i => ⟨[(1, .ptr 0 0), (3, .iv (strs ((r.body.take i).foldl posF []))), (4, pI i)], [(0, some (cellsI r.c))], 1⟩) (fun _ => True) [] trivial
    (wk rfl rfl rfl ⟨.refl _, rfl, .nil _ _, rfl, .refl _, rfl, trivial⟩ (hC rfl rfl rfl trivial) rfl) fun i hi _ => ?_
  refine goR rfl (by trivial) ?_
  refine And.intro (fun h1 => ?_) (fun h1 => ?_)
  · have h1 : i < r.body.length := by simpa using h1
    have hs := fold_step (g := posF) (b := []) h1
    have hv := posF_fold_len (r.body.take i) []
    have hn := Lit.sizes_next r.body i h1
    have hav := atomVars_len (r.body.getD i default).atom
    have hsz := (r.body.getD i default).size_eq
    simp only [List.length_nil] at hv
    refine goR rfl (by simp; omega) ?_
    refine And.intro (fun h2 => ?_) (fun h2 => ?_)
    · have h2 : (r.body.getD i default).kind = 1 := by simpa using h2
      rw [show posF ((r.body.take i).foldl posF []) (r.body.getD i default) = _ from if_pos h2] at hs
      refine goR rfl (by simp; omega) (go_pure (c69 (r.body.getD i default).atom (by omega)) rfl rfl rfl rfl rfl rfl ?_)
      refine goR rfl (by trivial) (go_pure (c71 _ _ (by omega)) rfl rfl rfl rfl rfl rfl ?_)
      refine goR rfl (by (repeat' (first | exact trivial | exact rfl | exact PVle.refl _ | exact PVle.bk (by assumption) | apply And.intro)) <;> first | omega | (simp only [Int.toNat_natCast]; omega) | (simp; done) | (simp; omega)) ?_
      exact ⟨h1, trivial, [], wk rfl rfl rfl ⟨.refl _, rfl, .of_eq (by rw [hs]; rfl), rfl, .refl _, rfl, trivial⟩ (hC rfl rfl rfl trivial) rfl⟩
    · have h2 : ¬ (r.body.getD i default).kind = 1 := by simpa using h2
      rw [show posF ((r.body.take i).foldl posF []) (r.body.getD i default) = _ from if_neg h2] at hs
      refine goR rfl (by (repeat' (first | exact trivial | exact rfl | exact PVle.refl _ | exact PVle.bk (by assumption) | apply And.intro)) <;> first | omega | (simp only [Int.toNat_natCast]; omega) | (simp; done) | (simp; omega)) ?_
      exact ⟨h1, trivial, [], wk rfl rfl rfl ⟨.refl _, rfl, .of_eq (by rw [hs]; rfl), rfl, .refl _, rfl, trivial⟩ (hC rfl rfl rfl trivial) rfl⟩
  have h1 : r.body.length ≤ i := by simpa using h1
  have e0 : (r.body.take i).foldl posF [] = r.body.foldl posF [] := fold_done h1
  rw [e0]
  refine goR rfl (by trivial) ?_
  refine go_lp (σ := { x : List Str × Bool × Nat // plainL r = (if x.2.1 = true then plainN r.body (x.2.2 + 1) x.1 else x.1) ∧ (x.2.1 = true → miss (cands r.body) x.1 ≤ x.2.2) ∧ x.1.length + miss (cands r.body) x.1 ≤ (r.body.foldl posF []).length + miss (cands r.body) (r.body.foldl posF []) })
    (fun x => ⟨[(1, .ptr 0 0), (3, .iv (strs x.1.1)), (6, pB x.1.2.1)], [(0, some (cellsI r.c))], 1⟩) (fun x => if x.1.2.1 = true then miss (cands r.body) x.1.1 + 1 else 0)
    ⟨(r.body.foldl posF [], true, 3 * r.body.length), by simp [plainL], fun _ => by dsimp only; omega, Nat.le_refl _⟩ [] (wk rfl rfl rfl ⟨.refl _, rfl, .refl _, rfl, .kb' rfl, rfl, trivial⟩ (hC rfl rfl rfl trivial) rfl) ?_
  rintro ⟨⟨k, more, f⟩, hx1, hx2, hx3⟩
  dsimp only at hx1 hx2 hx3 ⊢
  refine goR rfl (by trivial) ?_
  refine And.intro (fun h2 => ?_) (fun h2 => ?_)
  · subst h2
    rw [if_pos rfl] at hx1
    have hmf := hx2 rfl
    refine goR rfl (by trivial) ?_
    refine go_for 0 r.body.length (Nat.zero_le _) (fun i => ⟨[(1, .ptr 0 0), (3, .iv (strs ((r.body.take i).foldl stepP (k, false)).1)), (6, pB ((r.body.take i).foldl stepP (k, false)).2), (7, pI i)], [(0, some (cellsI r.c))], 1⟩) (fun _ => True) [] trivial
      (wk rfl rfl rfl ⟨.refl _, rfl, .refl _, rfl, .kb' rfl, rfl, .refl _, rfl, trivial⟩ (hC rfl rfl rfl trivial) rfl) fun i hi _ => ?_
    have hfo := foldP_ok (c := cands r.body) (body := r.body.take i) (a := (k, false)) fun l hl v hv => cands_mem (List.mem_of_mem_take hl) hv
    dsimp only at hfo
    refine goR rfl (by trivial) ?_
    refine And.intro (fun h3 => ?_) (fun h3 => ?_)
    · have h3 : i < r.body.length := by simpa using h3
      have hs := fold_step (g := stepP) (b := (k, false)) h3
      generalize hka : (r.body.take i).foldl stepP (k, false) = ka at hfo hs ⊢
      refine goR rfl (by simp; omega) (go_pure (c78 (r.body.getD i default) ka.1) rfl rfl rfl rfl rfl rfl ?_)
      refine goR rfl (by trivial) ?_
      refine And.intro (fun h6 => ?_) (fun h6 => ?_)
      · rw [show stepP ka (r.body.getD i default) = _ from if_pos h6] at hs
        refine goR rfl (by trivial) (go_pure (c72 ka.1 _ (by omega)) rfl rfl rfl rfl rfl rfl ?_)
        refine goR rfl (by (repeat' (first | exact trivial | exact rfl | exact PVle.refl _ | exact PVle.bk (by assumption) | apply And.intro)) <;> first | omega | (simp only [Int.toNat_natCast]; omega) | (simp; done) | (simp; omega)) ?_
        exact ⟨h3, trivial, [], wk rfl rfl rfl ⟨.refl _, rfl, .of_eq (by rw [hs]; rfl), rfl, .kb' (by rw [hs]), rfl, .refl _, rfl, trivial⟩ (hC rfl rfl rfl trivial) rfl⟩
      · rw [show stepP ka (r.body.getD i default) = _ from if_neg (by rw [h6]; simp)] at hs
        refine goR rfl (by (repeat' (first | exact trivial | exact rfl | exact PVle.refl _ | exact PVle.bk (by assumption) | apply And.intro)) <;> first | omega | (simp only [Int.toNat_natCast]; omega) | (simp; done) | (simp; omega)) ?_
        exact ⟨h3, trivial, [], wk rfl rfl rfl ⟨.refl _, rfl, .of_eq (by rw [hs]; rfl), rfl, .of_eq (by rw [hs]; rfl), rfl, .refl _, rfl, trivial⟩ (hC rfl rfl rfl trivial) rfl⟩
    · have h3 : r.body.length ≤ i := by simpa using h3
      have e1 : (r.body.take i).foldl stepP (k, false) = roundP r.body k := fold_done h3
      rw [e1] at hfo ⊢
      refine goR rfl (by trivial) ?_
      refine ⟨⟨((roundP r.body k).1, (roundP r.body k).2, f - 1), ?_, fun hm => ?_, by dsimp only; omega⟩, [], ?_, wk rfl rfl rfl ⟨.refl _, rfl, .refl _, rfl, .refl _, rfl, trivial⟩ (hC rfl rfl rfl trivial) rfl⟩
      · dsimp only
        rw [hx1, plainN_succ]
        by_cases hm : (roundP r.body k).2 = true
        · have := hfo.2.2 hm
          have hf1 : f - 1 + 1 = f := by simp at this; omega
          rw [if_pos hm, if_pos hm, hf1]
        · rw [if_neg hm, if_neg hm]
      · have := hfo.2.2 hm
        simp at this
        dsimp only; omega
      · dsimp only
        split
        · rename_i hm
          have := hfo.2.2 hm
          simp at this
          simp; omega
        · simp
  · subst h2
    rw [if_neg (by simp)] at hx1
    refine goR rfl (by trivial) (end_le (by first | exact .inr rfl | exact .inl rfl) rfl (.of_eq ?_))
    rw [hx1]; rfl
end Go.Proofs.YtpnclpbkecjinaaGreatDoorR
/-
  The plain law, on: limited and plain variables. No program stands here.
-/
namespace Go.Proofs.YtpnclpbkecjinaaGreatDoorR
open Go Go.Al
set_option maxRecDepth 10000

/-! Growing round by round ends in the same closed set. -/
section
variable (stp : List Str → Lit → Str × Bool)
def gS (a : List Str × Bool) (l : Lit) : List Str × Bool := if (stp a.1 l).2 = true then (withL a.1 (stp a.1 l).1, true) else a
def gR (body : List Lit) (k : List Str) : List Str × Bool := body.foldl (gS stp) (k, false)
def gN (body : List Lit) : Nat → List Str → List Str
  | 0, k => k
  | n + 1, k => if (gR stp body k).2 = true then gN body n (gR stp body k).1 else (gR stp body k).1
variable {stp}
theorem gS_flag : ∀ (body : List Lit) (k : List Str), (body.foldl (gS stp) (k, true)).2 = true
  | [], k => rfl
  | l :: r, k => by
    rw [List.foldl_cons]
    have : ∃ k', gS stp (k, true) l = (k', true) := by
      unfold gS; split
      · exact ⟨_, rfl⟩
      · exact ⟨_, rfl⟩
    obtain ⟨k', hk⟩ := this
    rw [hk]; exact gS_flag r k'
theorem gR_quiet : ∀ {body : List Lit} {k : List Str}, (body.foldl (gS stp) (k, false)).2 = false → (body.foldl (gS stp) (k, false)).1 = k ∧ ∀ l ∈ body, (stp k l).2 = false
  | [], k, _ => ⟨rfl, by simp⟩
  | l :: r, k, h => by
    rw [List.foldl_cons] at h ⊢
    cases hs : (stp k l).2 with
    | true =>
      have : gS stp (k, false) l = (withL k (stp k l).1, true) := if_pos hs
      rw [this, gS_flag] at h; cases h
    | false =>
      have : gS stp (k, false) l = (k, false) := if_neg (by rw [hs]; simp)
      rw [this] at h ⊢
      obtain ⟨h1, h2⟩ := gR_quiet h
      exact ⟨h1, fun x hx => by
        rcases List.mem_cons.1 hx with rfl | hx
        · exact hs
        · exact h2 x hx⟩
theorem gS_ext : ∀ (body : List Lit) (a : List Str × Bool), ∀ x ∈ a.1, x ∈ (body.foldl (gS stp) a).1
  | [], a, x, h => h
  | l :: r, a, x, h => by
    rw [List.foldl_cons]
    refine gS_ext r _ x ?_
    unfold gS
    split
    · exact mem_withL.2 (.inl h)
    · exact h
theorem gN_ext {body : List Lit} : ∀ (n : Nat) (k : List Str), ∀ x ∈ k, x ∈ gN stp body n k
  | 0, k, x, h => h
  | n + 1, k, x, h => by
    unfold gN
    split
    · exact gN_ext n _ x (gS_ext body (k, false) x h)
    · exact gS_ext body (k, false) x h
theorem gS_sorted : ∀ (body : List Lit) (a : List Str × Bool), StS a.1 → StS (body.foldl (gS stp) a).1
  | [], a, h => h
  | l :: r, a, h => by
    rw [List.foldl_cons]
    refine gS_sorted r _ ?_
    unfold gS
    split
    · exact withL_sorted h _
    · exact h
theorem gN_sorted {body : List Lit} : ∀ (n : Nat) (k : List Str), StS k → StS (gN stp body n k)
  | 0, k, h => h
  | n + 1, k, h => by
    unfold gN
    split
    · exact gN_sorted n _ (gS_sorted body (k, false) h)
    · exact gS_sorted body (k, false) h
variable (hnew : ∀ (k : List Str) (l : Lit), (stp k l).2 = true → (stp k l).1 ∈ [l.left.var, l.right.var, l.avar] ∧ (stp k l).1 ∉ k)
include hnew
theorem gS_miss {c : List Str} : ∀ {body : List Lit} {a : List Str × Bool}, (∀ l ∈ body, ∀ v ∈ [l.left.var, l.right.var, l.avar], v ∈ c) →
    miss c (body.foldl (gS stp) a).1 ≤ miss c a.1 ∧ ((body.foldl (gS stp) a).2 = true → a.2 = true ∨ miss c (body.foldl (gS stp) a).1 < miss c a.1)
  | [], a, _ => ⟨Nat.le_refl _, fun h => .inl h⟩
  | l :: r, a, hc => by
    have h1 : miss c (gS stp a l).1 ≤ miss c a.1 ∧ ((gS stp a l).2 = true → a.2 = true ∨ miss c (gS stp a l).1 < miss c a.1) := by
      unfold gS
      split
      · rename_i h
        obtain ⟨g1, g2⟩ := hnew _ _ h
        have := miss_lt (hc l List.mem_cons_self _ g1) g2
        exact ⟨by dsimp only; omega, fun _ => .inr this⟩
      · exact ⟨Nat.le_refl _, fun h => .inl h⟩
    obtain ⟨g1, g2⟩ := gS_miss (body := r) (a := gS stp a l) fun l hl => hc l (List.mem_cons_of_mem _ hl)
    rw [List.foldl_cons]
    refine ⟨by omega, fun h => ?_⟩
    rcases g2 h with g3 | g3
    · rcases h1.2 g3 with g4 | g4
      · exact .inl g4
      · exact .inr (by omega)
    · exact .inr (by omega)
theorem gN_fix {body : List Lit} : ∀ (n : Nat) (k : List Str), miss (cands body) k < n → ∀ l ∈ body, (stp (gN stp body n k) l).2 = false
  | 0, k, h, _, _ => by omega
  | n + 1, k, h, l, hl => by
    unfold gN
    cases hr : (gR stp body k).2 with
    | true =>
      rw [if_pos rfl]
      refine gN_fix n _ ?_ l hl
      obtain ⟨_, g2⟩ := gS_miss hnew (c := cands body) (body := body) (a := (k, false)) fun l hl v hv => cands_mem hl hv
      rcases g2 hr with g3 | g3
      · cases g3
      · unfold gR; dsimp only at g3; omega
    | false =>
      rw [if_neg (by simp)]
      obtain ⟨g1, g2⟩ := gR_quiet hr
      unfold gR
      rw [g1]; exact g2 l hl
end

theorem firstV_of_none {m1 : Expr → Bool} {m2 : Agg → Bool} {occ : List Str} : ∀ {l : List Lit}, (∀ x ∈ l, newV m1 m2 occ x = none) → firstV m1 m2 occ l = none
  | [], _ => rfl
  | y :: r, h => by
    simp only [firstV, h y List.mem_cons_self]
    exact firstV_of_none fun x hx => h x (List.mem_cons_of_mem _ hx)
section
variable {stp : List Str → Lit → Str × Bool} {may : List Str → Expr → Bool} {more : List Str → Agg → Bool} {body : List Lit}
variable (hE : ∀ (k : List Str) (l : Lit), newV (may k) (more k) k l = if (stp k l).2 = true then some (stp k l).1 else none)
variable (hmay : ∀ a b : List Str, (∀ x ∈ a, x ∈ b) → ∀ e, may a e = true → may b e = true) (hmore : ∀ a b : List Str, (∀ x ∈ a, x ∈ b) → ∀ e, more a e = true → more b e = true)
include hE
theorem stp_new (k : List Str) (l : Lit) (h : (stp k l).2 = true) : (stp k l).1 ∈ [l.left.var, l.right.var, l.avar] ∧ (stp k l).1 ∉ k := by
  have := hE k l
  rw [if_pos h] at this
  exact newV_new this
include hmay hmore
theorem gS_sub {C : List Str} (hC : ∀ l ∈ body, newV (may C) (more C) C l = none) : ∀ (b : List Lit) (a : List Str × Bool), (∀ l ∈ b, l ∈ body) → (∀ x ∈ a.1, x ∈ C) → ∀ x ∈ (b.foldl (gS stp) a).1, x ∈ C
  | [], a, _, h, x, hx => h x hx
  | l :: r, a, hb, h, x, hx => by
    rw [List.foldl_cons] at hx
    refine gS_sub hC r _ (fun l hl => hb l (List.mem_cons_of_mem _ hl)) (fun y hy => ?_) x hx
    unfold gS at hy
    split at hy
    · rename_i hs
      rcases mem_withL.1 hy with hy | rfl
      · exact h y hy
      · have := hE a.1 l
        rw [if_pos hs] at this
        exact newV_in hmay hmore h this (hC l (hb l List.mem_cons_self))
    · exact h y hy
theorem gN_sub {C : List Str} (hC : ∀ l ∈ body, newV (may C) (more C) C l = none) : ∀ (n : Nat) (k : List Str), (∀ x ∈ k, x ∈ C) → ∀ x ∈ gN stp body n k, x ∈ C
  | 0, k, h, x, hx => h x hx
  | n + 1, k, h, x, hx => by
    unfold gN at hx
    have hr := gS_sub hE hmay hmore hC body (k, false) (fun _ h => h) h
    split at hx
    · exact gN_sub hC n _ hr x hx
    · exact hr x hx
theorem same_closed {k occ : List Str} (hk : ∀ x, x ∈ k ↔ x ∈ occ ++ body.flatMap posOcc) (x : Str) : x ∈ gN stp body (3 * body.length + 1) k ↔ x ∈ closedL may more body occ := by
  constructor
  · refine gN_sub hE hmay hmore (C := closedL may more body occ) (firstV_none (closedL_fix occ)) _ _ (fun y hy => ?_) x
    exact closedN_ext _ _ y ((hk y).1 hy)
  · refine closedN_sub hmay hmore (C := gN stp body (3 * body.length + 1) k) (firstV_of_none fun l hl => ?_) _ _ (fun y hy => gN_ext _ _ y ((hk y).2 hy)) x
    have h1 := miss_le (cands body) k
    have h2 := cands_len body
    rw [hE, gN_fix (stp_new hE) _ _ (by omega) l hl, if_neg (by simp)]
end

theorem mem_posF {x : Str} : ∀ {l : List Lit} {a : List Str}, x ∈ l.foldl posF a ↔ x ∈ a ∨ x ∈ l.flatMap posOcc
  | [], a => by simp
  | t :: r, a => by
    rw [List.foldl_cons, mem_posF, List.flatMap_cons, List.mem_append]
    by_cases hk : t.kind = 1
    · rw [show posF a t = withAll a (atomVars t.atom) from if_pos hk, show posOcc t = atomOcc t.atom from if_pos hk, mem_withAll, mem_atomVars, or_assoc]
    · rw [show posF a t = a from if_neg hk, show posOcc t = [] from if_neg hk]; simp
theorem posF_sorted : ∀ (l : List Lit) (a : List Str), StS a → StS (l.foldl posF a)
  | [], a, h => h
  | t :: r, a, h => by
    rw [List.foldl_cons]
    refine posF_sorted r _ ?_
    unfold posF
    split
    · exact withAll_sorted h
    · exact h

/-! The steps are the same. -/
theorem allL_var {k : List Str} {e : Expr} (h : e.kind = 1) : allL k (exprVars e) = inL k e.var := by
  rw [exprVars_var h]; simp [allL]
theorem allL_covers (k : List Str) (e : Expr) : allL k (exprVars e) = coversB k e := by
  rw [Bool.eq_iff_iff, allL_iff]
  unfold coversB
  rw [List.all_eq_true]
  exact ⟨fun h x hx => inL_iff.2 (h x (mem_exprVars.2 hx)), fun h x hx => inL_iff.1 (h x (mem_exprVars.1 hx))⟩
theorem sets_cop (k : List Str) (l : Lit) : setsL l k = copB (coversB k) k l := by
  unfold setsL copB
  split
  · rfl
  · have e1 : l.left.kind = 1 → coversB k l.left = inL k l.left.var := fun h => by rw [← allL_covers, allL_var h]
    have e2 : l.right.kind = 1 → coversB k l.right = inL k l.right.var := fun h => by rw [← allL_covers, allL_var h]
    simp only [allL_covers]
    by_cases h1 : l.left.kind = 1 <;> by_cases h2 : l.right.kind = 1 <;> simp [h1, h2, e1, e2]
theorem cop_kind {may : Expr → Bool} {k : List Str} {l : Lit} (h : (copB may k l).2 = true) : l.kind = 3 := by
  unfold copB at h
  split at h
  · cases h
  · rename_i h1; exact Classical.byContradiction fun hc => h1 (.inl hc)
theorem aggr_more (out : List Str) (r : Rule) (k : List Str) (a : Agg) (ho : ∀ x, x ∈ out ↔ x ∈ outerOcc r) : aggrB a k out = (!inL k a.var && moreB (outerOcc r) k a) := by
  unfold aggrB moreB
  congr 1
  rw [Bool.eq_iff_iff, List.all_eq_true, List.all_eq_true]
  have key : ∀ x, (!(inL out x && (!inL k x && !decide (x = a.var)))) = (decide (x = a.var) || (!inL (outerOcc r) x || inL k x)) := fun x => by
    rw [inL_congr ho x]
    cases inL (outerOcc r) x <;> cases inL k x <;> cases decide (x = a.var) <;> rfl
  constructor
  · intro h x hx; rw [← key]; exact h x (mem_inner.2 hx)
  · intro h x hx; rw [key]; exact h x (mem_inner.1 hx)
theorem newV_step (r : Rule) (k : List Str) (l : Lit) : newV (coversB k) (moreB (outerOcc r) k) k l = if (stepV true (outer r) k l).2 = true then some (stepV true (outer r) k l).1 else none := by
  unfold newV stepV
  by_cases h4 : l.kind = 4
  · have hc : ¬ (copB (coversB k) k l).2 = true := fun h => by have := cop_kind h; omega
    rw [if_neg hc, if_pos (c := true = true ∧ l.kind = 4) ⟨rfl, h4⟩]
    dsimp only
    rw [aggr_more (outer r) r k l.agg fun _ => mem_outer]
    show (if l.kind = 4 ∧ inL k l.avar = false ∧ moreB (outerOcc r) k l.agg = true then some l.avar else none) = if (!inL k l.avar && moreB (outerOcc r) k l.agg) = true then some l.avar else none
    cases inL k l.avar <;> cases moreB (outerOcc r) k l.agg <;> simp [h4]
  · rw [if_neg (c := l.kind = 4 ∧ _) (fun h => h4 h.1), if_neg (c := true = true ∧ _) (fun h => h4 h.2), sets_cop]
theorem newV_cop (k : List Str) (l : Lit) : newV (plainB k) (fun _ => false) k l = if (copiesL l k).2 = true then some (copiesL l k).1 else none := by
  unfold newV
  rw [if_neg (c := l.kind = 4 ∧ _) (fun h => Bool.noConfusion h.2.2)]
  have : (if (copB (plainB k) k l).2 = true then some (copB (plainB k) k l).1 else none) = if (copiesL l k).2 = true then some (copiesL l k).1 else none := by
    unfold copB copiesL plainB
    split
    · rfl
    · by_cases a1 : l.left.kind = 1 <;> by_cases a2 : l.right.kind = 1 <;> by_cases a3 : l.left.kind = 2 <;> by_cases a4 : l.right.kind = 2 <;> cases a5 : inL k l.left.var <;> cases a6 : inL k l.right.var <;> simp_all
  exact this

theorem growN_gN (own : Bool) (out : List Str) (body : List Lit) : ∀ (n : Nat) (k : List Str), growN own out body n k = gN (stepV own out) body n k
  | 0, k => rfl
  | n + 1, k => by
    rw [growN_succ, growN_gN own out body n]; rfl
theorem plainN_gN (body : List Lit) : ∀ (n : Nat) (k : List Str), plainN body n k = gN (fun k l => copiesL l k) body n k
  | 0, k => rfl
  | n + 1, k => by
    rw [plainN_succ, plainN_gN body n]; rfl

/-- LIMITED: the program's is the document's. -/
theorem told_limited (r : Rule) : toldM (occM (limOcc r)) = limitedL r := by
  unfold limitedL grownL
  rw [growN_gN]
  refine told_occ (gN_sorted _ _ (posF_sorted _ _ List.Pairwise.nil)) fun x => ?_
  exact (same_closed (may := fun occ => coversB occ) (more := fun occ => moreB (outerOcc r) occ) (newV_step r) coversB_mono (moreB_mono (outerOcc r)) (fun y => by rw [mem_posF]; simp) x).symm
/-- PLAIN. -/
theorem told_plain (r : Rule) : toldM (occM (plOcc r)) = plainL r := by
  unfold plainL
  rw [plainN_gN]
  refine told_occ (gN_sorted _ _ (posF_sorted _ _ List.Pairwise.nil)) fun x => ?_
  exact (same_closed (may := fun occ => plainB occ) (more := fun _ => fun _ => false) newV_cop plainB_mono (fun _ _ _ _ h => h) (fun y => by rw [mem_posF]; simp) x).symm
end Go.Proofs.YtpnclpbkecjinaaGreatDoorR
/-
  The kit's contract of slices.Sort at this program. Its laying in plain words (printed by lay-plain.mjs).
-/
namespace Go.Proofs
open Go.Shelf
def Tryz.lays190_ren : Go.Shelf.Ren := ⟨fun | 190 => 94 | 125 => 139 | 258 => 138 | 128 => 178 | 129 => 179 | 302 => 169 | 303 => 170 | 304 => 171 | 305 => 172 | 306 => 173 | 307 => 174 | 308 => 175 | 309 => 176 | 310 => 177 | 333 => 197 | 329 => 198 | 330 => 199 | 334 => 200 | 335 => 201 | 336 => 202 | 344 => 216 | n => n, fun | 31 => 63 | 9 => 9 | 3 => 3 | 46 => 201 | 0 => 0 | 51 => 230 | 53 => 232 | 4 => 4 | 183 => 223 | 182 => 222 | 131 => 128 | 5 => 5 | 218 => 250 | 222 => 254 | 228 => 261 | 229 => 262 | n => n, fun | n => n⟩
theorem Tryz.lays190 : Go.Proofs.Lays.n190 Tryz.prog Tryz.lays190_ren := {
  mixed := by kernel_rfl
  f125 := Tryz.func139.trans (congrArg some (by kernel_rfl))
  f128 := Tryz.func178.trans (congrArg some (by kernel_rfl))
  f129 := Tryz.func179.trans (congrArg some (by kernel_rfl))
  f190 := Tryz.func94.trans (congrArg some (by kernel_rfl))
  f258 := Tryz.func138.trans (congrArg some (by kernel_rfl))
  f302 := Tryz.func169.trans (congrArg some (by kernel_rfl))
  f303 := Tryz.func170.trans (congrArg some (by kernel_rfl))
  f304 := Tryz.func171.trans (congrArg some (by kernel_rfl))
  f305 := Tryz.func172.trans (congrArg some (by kernel_rfl))
  f306 := Tryz.func173.trans (congrArg some (by kernel_rfl))
  f307 := Tryz.func174.trans (congrArg some (by kernel_rfl))
  f308 := Tryz.func175.trans (congrArg some (by kernel_rfl))
  f309 := Tryz.func176.trans (congrArg some (by kernel_rfl))
  f310 := Tryz.func177.trans (congrArg some (by kernel_rfl))
  f329 := Tryz.func198.trans (congrArg some (by kernel_rfl))
  f330 := Tryz.func199.trans (congrArg some (by kernel_rfl))
  f333 := Tryz.func197.trans (congrArg some (by kernel_rfl))
  f334 := Tryz.func200.trans (congrArg some (by kernel_rfl))
  f335 := Tryz.func201.trans (congrArg some (by kernel_rfl))
  f336 := Tryz.func202.trans (congrArg some (by kernel_rfl))
  f344 := Tryz.func216.trans (congrArg some (by kernel_rfl))
  t0 := Tryz.underlying0
  a0 := Tryz.isAgg0
  z0 := Tryz.sizeOf0
  v0 := Tryz.zeroValue0
  t3 := Tryz.underlying3
  a3 := Tryz.isAgg3
  z3 := Tryz.sizeOf3
  v3 := Tryz.zeroValue3
  t4 := Tryz.underlying4
  a4 := Tryz.isAgg4
  z4 := Tryz.sizeOf4
  v4 := Tryz.zeroValue4
  t5 := Tryz.underlying5
  a5 := Tryz.isAgg5
  z5 := Tryz.sizeOf5
  v5 := Tryz.zeroValue5
  t9 := Tryz.underlying9
  a9 := Tryz.isAgg9
  z9 := Tryz.sizeOf9
  v9 := Tryz.zeroValue9
  t31 := Tryz.underlying63
  a31 := Tryz.isAgg63
  z31 := Tryz.sizeOf63
  v31 := Tryz.zeroValue63
  t46 := Tryz.underlying201
  a46 := Tryz.isAgg201
  z46 := Tryz.sizeOf201
  v46 := Tryz.zeroValue201
  t51 := Tryz.underlying230
  a51 := Tryz.isAgg230
  z51 := Tryz.sizeOf230
  v51 := Tryz.zeroValue230
  t53 := Tryz.underlying232
  a53 := Tryz.isAgg232
  z53 := Tryz.sizeOf232
  v53 := Tryz.zeroValue232
  t131 := Tryz.underlying128
  a131 := Tryz.isAgg128
  z131 := Tryz.sizeOf128
  v131 := Tryz.zeroValue128
  t182 := Tryz.underlying222
  a182 := Tryz.isAgg222
  z182 := Tryz.sizeOf222
  v182 := Tryz.zeroValue222
  t183 := Tryz.underlying223
  a183 := Tryz.isAgg223
  z183 := Tryz.sizeOf223
  v183 := Tryz.zeroValue223
  t218 := Tryz.underlying250
  a218 := Tryz.isAgg250
  z218 := Tryz.sizeOf250
  v218 := Tryz.zeroValue250
  t222 := Tryz.underlying254
  a222 := Tryz.isAgg254
  z222 := Tryz.sizeOf254
  v222 := Tryz.zeroValue254
  t228 := Tryz.underlying261
  a228 := Tryz.isAgg261
  z228 := Tryz.sizeOf261
  v228 := Tryz.zeroValue261
  t229 := Tryz.underlying262
  a229 := Tryz.isAgg262
  z229 := Tryz.sizeOf262
  v229 := Tryz.zeroValue262 }
theorem YtpnclpbkecjinaaGreatDoorR.sortS : YtpnclpbkecjinaaGreatDoorR.SortS :=
  ⟨fun blk off cap ss w hH hblk hsz => Any.slices_Sort_string Tryz.lays190 blk off cap ss w hH hblk hsz, fun p cap w => Any.slices_Sort_string_none Tryz.lays190 p cap w⟩
end Go.Proofs
/-
  The laws' small helpers.
-/
namespace Go.Proofs.YtpnclpbkecjinaaGreatDoorR
open Go Go.Al
set_option maxRecDepth 10000

theorem c39 (l : List Str) (s : Str) : Pure Tryz.prog 39 [.iv (strs l), pS s] (pB (inL l s)) := by
  refine pure_len (callable_of Tryz.func39 rfl (by decide)) ⟨_, _, List.mem_cons_self⟩ fun hlen => ?_
  simp only [maxLen] at hlen
  refine pure_end tyA_ok Tryz.func39 rfl (by decide) Tryz.ntmps39 rfl (by simp) rfl ?_
  refine goR rfl (by trivial) ?_
  refine go_for 0 l.length (Nat.zero_le _) (fun i => ⟨[(0, .iv (strs l)), (1, pS s), (5, pI i)], [], 0⟩) (fun i => inL (l.take i) s = false) [] rfl (wk0 rfl rfl ⟨.refl _, rfl, .refl _, rfl, .refl _, rfl, trivial⟩ rfl) fun i hi hJ => ?_
  refine goR rfl (by trivial) ?_
  refine And.intro (fun h1 => ?_) (fun h1 => ?_)
  · have h1 : i < l.length := by simpa using h1
    refine goR rfl (by simp; omega) ?_
    refine And.intro (fun h2 => ?_) (fun h2 => ?_)
    · refine goR rfl (by trivial) (end_le (by first | exact .inr rfl | exact .inl rfl) rfl (.of_eq ?_))
      rw [inL, any_hit h1 h2]
    · refine goR rfl (by (repeat' (first | exact trivial | exact rfl | exact PVle.refl _ | exact PVle.bk (by assumption) | apply And.intro)) <;> first | omega | (simp only [Int.toNat_natCast]; omega) | (simp; done) | (simp; omega)) ?_
      exact ⟨h1, (any_step hJ h1).2 h2, [], wk0 rfl rfl ⟨.refl _, rfl, .refl _, rfl, .refl _, rfl, trivial⟩ rfl⟩
  · have h1 : l.length ≤ i := by simpa using h1
    refine goR rfl (by trivial) (end_le (by first | exact .inr rfl | exact .inl rfl) rfl (.of_eq ?_))
    rw [inL, any_none hJ h1]
theorem c37 (l m : List Str) : Pure Tryz.prog 37 [.iv (strs l), .iv (strs m)] (pB (allL l m)) := by
  refine pure_len (callable_of Tryz.func37 rfl (by decide)) ⟨_, _, List.mem_cons_of_mem _ List.mem_cons_self⟩ fun hlen => ?_
  simp only [maxLen] at hlen
  refine pure_end tyA_ok Tryz.func37 rfl (by decide) Tryz.ntmps37 rfl (by simp) rfl ?_
  refine goR rfl (by trivial) ?_
  refine go_for 0 m.length (Nat.zero_le _) (fun i => ⟨[(0, .iv (strs l)), (1, .iv (strs m)), (5, pI i)], [], 0⟩) (fun i => (m.take i).all (fun x => inL l x) = true) [] rfl (wk0 rfl rfl ⟨.refl _, rfl, .refl _, rfl, .refl _, rfl, trivial⟩ rfl) fun i hi hJ => ?_
  refine goR rfl (by trivial) ?_
  refine And.intro (fun h1 => ?_) (fun h1 => ?_)
  · have h1 : i < m.length := by simpa using h1
    refine goR rfl (by simp; omega) (go_pure (c39 l (m.getD i default)) rfl rfl rfl rfl rfl rfl ?_)
    refine goR rfl (by trivial) ?_
    refine And.intro (fun h2 => ?_) (fun h2 => ?_)
    · have h2 : inL l (m.getD i default) = false := by simpa using h2
      refine goR rfl (by trivial) (end_le (by first | exact .inr rfl | exact .inl rfl) rfl (.of_eq ?_))
      rw [allL, all_miss h1 h2]
    · have h2 : inL l (m.getD i default) = true := by simpa using h2
      refine goR rfl (by (repeat' (first | exact trivial | exact rfl | exact PVle.refl _ | exact PVle.bk (by assumption) | apply And.intro)) <;> first | omega | (simp only [Int.toNat_natCast]; omega) | (simp; done) | (simp; omega)) ?_
      exact ⟨h1, (all_step hJ h1).2 h2, [], wk0 rfl rfl ⟨.refl _, rfl, .refl _, rfl, .refl _, rfl, trivial⟩ rfl⟩
  · have h1 : m.length ≤ i := by simpa using h1
    refine goR rfl (by trivial) (end_le (by first | exact .inr rfl | exact .inl rfl) rfl (.of_eq ?_))
    rw [allL, all_done hJ h1]
/-- Are they the same lists? -/
def sameS (a b : List Str) : Bool := decide (a = b)
theorem take_same {a b : List Str} {i : Nat} (hl : a.length = b.length) (h : a.take i = b.take i) (hi : i < a.length) (hx : a.getD i default = b.getD i default) : a.take (i + 1) = b.take (i + 1) := by
  rw [take_step hi, take_step (by omega), h, hx]
theorem c28 (a b : List Str) : Pure Tryz.prog 28 [.iv (strs a), .iv (strs b)] (pB (sameS a b)) := by
  refine pure_len (callable_of Tryz.func28 rfl (by decide)) ⟨_, _, List.mem_cons_self⟩ fun hlen => ?_
  refine pure_len (callable_of Tryz.func28 rfl (by decide)) ⟨_, _, List.mem_cons_of_mem _ List.mem_cons_self⟩ fun hlen2 => ?_
  simp only [maxLen] at hlen hlen2
  refine pure_end tyA_ok Tryz.func28 rfl (by decide) Tryz.ntmps28 rfl (by simp) rfl ?_
  refine goR rfl (by trivial) ?_
  refine And.intro (fun h0 => ?_) (fun h0 => ?_)
  · have h0 : ¬ a.length = b.length := by
      have := h0
      simp at this
      omega
    refine goR rfl (by trivial) (end_le (by first | exact .inr rfl | exact .inl rfl) rfl (.of_eq ?_))
    refine (pBE ?_ : pB false = _)
    unfold sameS
    rw [decide_eq_false fun e => h0 (by rw [e])]
  have h0 : a.length = b.length := by
    have := h0
    simp at this
    omega
  refine goR rfl (by trivial) ?_
  refine go_for 0 a.length (Nat.zero_le _) (fun i => ⟨[(0, .iv (strs a)), (1, .iv (strs b)), (5, pI i)], [], 0⟩) (fun i => a.take i = b.take i) [] rfl (wk0 rfl rfl ⟨.refl _, rfl, .refl _, rfl, .refl _, rfl, trivial⟩ rfl) fun i hi hJ => ?_
  refine goR rfl (by trivial) ?_
  refine And.intro (fun h1 => ?_) (fun h1 => ?_)
  · have h1 : i < a.length := by simpa using h1
    refine goR rfl (by simp; omega) ?_
    refine And.intro (fun h2 => ?_) (fun h2 => ?_)
    · have h2 : ¬ a.getD i default = b.getD i default := by simpa using h2
      refine goR rfl (by trivial) (end_le (by first | exact .inr rfl | exact .inl rfl) rfl (.of_eq ?_))
      refine (pBE ?_ : pB false = _)
      unfold sameS
      rw [decide_eq_false fun e => h2 (by rw [e])]
    · have h2 : a.getD i default = b.getD i default := by simpa using h2
      refine goR rfl (by (repeat' (first | exact trivial | exact rfl | exact PVle.refl _ | exact PVle.bk (by assumption) | apply And.intro)) <;> first | omega | (simp only [Int.toNat_natCast]; omega) | (simp; done) | (simp; omega)) ?_
      exact ⟨h1, take_same h0 hJ h1 h2, [], wk0 rfl rfl ⟨.refl _, rfl, .refl _, rfl, .refl _, rfl, trivial⟩ rfl⟩
  · have h1 : a.length ≤ i := by simpa using h1
    refine goR rfl (by trivial) (end_le (by first | exact .inr rfl | exact .inl rfl) rfl (.of_eq ?_))
    refine (pBE ?_ : pB true = _)
    rw [List.take_of_length_le h1, List.take_of_length_le (by omega)] at hJ
    unfold sameS
    rw [decide_eq_true hJ]
def atI (i n : Int) : Int := if n < 1 then 0 else if i.tmod n < 0 then i.tmod n + n else i.tmod n
end Go.Proofs.YtpnclpbkecjinaaGreatDoorR
/-
  Copies of programs: what is copied is as it was.
-/
namespace Go.Proofs.YtpnclpbkecjinaaGreatDoorR
open Go Go.Al
set_option maxRecDepth 10000

theorem allOnes_src {α : Type} [Inhabited α] {f : α → List IV} (h : ∀ x, allOne ((f x).map .iv) = true) (l : List α) : allOnes ((List.range l.length).map fun k => (f (l.getD k default)).map PV.iv) = true := by rw [src_map]; exact allOnes_map h l

theorem c20 (a : Atom) (hb : a.terms.length ≤ 100000000000) : Pure Tryz.prog 20 [ag a.c] (ag a.c) := by
  refine pure_end tyA_ok Tryz.func20 rfl (by decide) Tryz.ntmps20 rfl (by simp) rfl ?_
  refine goR rfl (by (repeat' (first | exact trivial | exact rfl | exact PVle.refl _ | exact PVle.bk (by assumption) | apply And.intro)) <;> first | exact allOnes_src (fun _ => rfl) _ | omega | (simp only [Int.toNat_natCast]; omega) | (simp; done) | (simp; omega)) (end_frz (.inr rfl) rfl (FrzS.rowL 3 a.terms Term.c rfl (src_map _ _) (by simp [PV.inRow, inRowL]) (.done (.of_eq (by simp only [PV.frz, frzL, Nat.zero_add]; rfl)))))

/-- Copies of expressions. -/
theorem c95 : ∀ (n : Nat) (e : Expr), e.size ≤ n → e.size ≤ 100000000000 → Pure Tryz.prog 95 [ag e.c] (ag e.c)
  | 0, e, h, _ => absurd e.size_pos (by omega)
  | n + 1, e, h, hb => by
    have hse := e.size_eq
    have hls := Expr.length_sizes e.args
    refine Al.Pure.le (aa := [ag e.c]) (args := [ag e.c1]) ?_ ⟨e.le1, trivial⟩
    refine pure_end tyA_ok Tryz.func95 rfl (by decide) Tryz.ntmps95 rfl (by simp) rfl ?_
    refine goR rfl (by trivial) ?_
    refine go_virtC 2 6 7 rfl rfl ?_
    refine go_for 0 e.args.length (Nat.zero_le _) (fun i => ⟨[(1, .ptr 0 0), (2, .ptr 1 0), (3, .ptr 2 0), (4, pI i)], [(0, some (cellsI e.c1)), (1, some (.cells [pI 0, pS ByteArray.empty, pI 0, pI 0, pS ByteArray.empty, pI 0, .iv (.v (.slice none 0 0))])), (2, some (.cells [.iv (iI e.kind), .iv (iS e.var), .iv (iI e.val.kind), .iv (iI e.val.num), .iv (iS e.val.sym), .iv (iI e.op), .sl 4 0 i 7])), (4, some (rowI 7 (e.args.take i) Expr.c))], 5⟩) (fun _ => True) [3] trivial
      (wk rfl rfl rfl ⟨.refl _, rfl, .refl _, rfl, .refl _, rfl, .refl _, rfl, trivial⟩ (hC rfl rfl rfl ⟨⟨_, rfl, .of_eq rfl⟩, Nat.le_of_ble_eq_true rfl, rfl, ⟨⟨_, rfl, .of_eq rfl⟩, Nat.le_of_ble_eq_true rfl, rfl, hR rfl rfl rfl trivial⟩⟩) rfl) fun i hi _ => ?_
    refine goR rfl (by trivial) ?_
    refine And.intro (fun h1 => ?_) (fun h1 => ?_)
    · have h1 : i < e.args.length := by simpa using h1
      have hss := Expr.sizes_get e.args i h1
      have hlt : (e.args.take i).length = i := by rw [List.length_take]; omega
      have hts := take_step (l := e.args) h1
      refine goR rfl (by simp; omega) (go_ddet tyA_ok [] (Pure.det (c95 n (e.args.getD i default) (by omega) (by omega))) rfl rfl rfl rfl rfl rfl rfl rfl rfl rfl rfl rfl (by trivial) rfl (by (repeat' (first | exact trivial | exact rfl | exact PVle.refl _ | exact PVle.bk (by assumption) | apply And.intro)) <;> first | omega | (simp only [Int.toNat_natCast]; omega) | (simp; done) | (simp; omega)) ?_)
      refine goR rfl (by (repeat' (first | exact trivial | exact rfl | exact PVle.refl _ | exact PVle.bk (by assumption) | apply And.intro)) <;> first | omega | (simp only [Int.toNat_natCast]; omega) | (simp; done) | (simp; omega)) ?_
      exact ⟨h1, trivial, [6], wk rfl rfl rfl ⟨.refl _, rfl, .refl _, rfl, .refl _, rfl, .refl _, rfl, trivial⟩ (hC rfl rfl rfl ⟨⟨_, rfl, .of_eq rfl⟩, Nat.le_of_ble_eq_true rfl, rfl, ⟨⟨_, rfl, .of_eq rfl⟩, Nat.le_of_ble_eq_true rfl, rfl, hR rfl (by rw [hts, List.map_append]; rfl) rfl trivial⟩⟩) rfl⟩
    · have h1 : e.args.length ≤ i := by simpa using h1
      have hie : i = e.args.length := by omega
      subst hie
      rw [List.take_of_length_le (Nat.le_refl _)]
      refine goR rfl (by (repeat' (first | exact trivial | exact rfl | exact PVle.refl _ | exact PVle.bk (by assumption) | apply And.intro)) <;> first | exact allOnes_src (fun _ => rfl) _ | omega | (simp only [Int.toNat_natCast]; omega) | (simp; done) | (simp; omega)) (end_frz (.inr rfl) rfl (FrzS.rowL 4 e.args Expr.c rfl rfl (by simp [PV.inRow, inRowL]) (.done ?_)))
      have : PVle (ag e.c1) (ag e.c) := e.le1'
      simp only [PV.frz, frzL, Nat.zero_add]
      exact this
theorem c95' (e : Expr) (hb : e.size ≤ 100000000000) : Pure Tryz.prog 95 [ag e.c] (ag e.c) := c95 e.size e (Nat.le_refl _) hb
/-- Copies of literals. -/
theorem c53y : ∀ (n : Nat) (l : List Lit) (y : IV), Lit.sizes l ≤ n → Lit.sizes l ≤ 100000000000 → IVle (lits l) y → Pure Tryz.prog 53 [.iv (lits l)] (.iv y) := by
  intro n
  induction n with
  | zero =>
    intro l y h hb hy
    have hl := Lit.length_sizes l
    have h0 : l.length = 0 := by omega
    refine pure_end tyA_ok Tryz.func53 rfl (by decide) Tryz.ntmps53 rfl (by simp) rfl ?_
    refine goR rfl (by trivial) ?_
    refine go_for 0 l.length (Nat.zero_le _) (fun i => ⟨[(0, .iv (lits l)), (3, .iv (.v (.slice none 0 0))), (4, pI i)], [], 0⟩) (fun _ => True) [] trivial
      (wk0 rfl rfl ⟨.refl _, rfl, .refl _, rfl, .refl _, rfl, trivial⟩ rfl) fun i hi _ => ?_
    refine goR rfl (by trivial) ?_
    refine And.intro (fun h1 => ?_) (fun h1 => ?_)
    · have h1 : i < l.length := by simpa using h1
      omega
    · refine goR rfl (by trivial) (end_le (by first | exact .inr rfl | exact .inl rfl) rfl ?_)
      have hnil : l = [] := List.length_eq_zero_iff.1 h0
      subst hnil
      exact .iv (fun M x hx => hy M x (by cases hx; exact .imm0 _ _ _ _))
  | succ n ih =>
    intro l y h hb hy
    have hl := Lit.length_sizes l
    refine pure_end tyA_ok Tryz.func53 rfl (by decide) Tryz.ntmps53 rfl (by simp) rfl ?_
    refine goR rfl (by trivial) ?_
    refine go_virt 3 30 rfl ?_
    refine go_for 0 l.length (Nat.zero_le _) (fun i => ⟨[(0, .iv (lits l)), (3, .sl 1 0 i 30), (4, pI i)], [(1, some (rowI 30 (l.take i) Lit.c))], 2⟩) (fun _ => True) [0] trivial
      (wk rfl rfl rfl ⟨.refl _, rfl, .refl _, rfl, .refl _, rfl, trivial⟩ (hR rfl rfl rfl trivial) rfl) fun i hi _ => ?_
    refine goR rfl (by trivial) ?_
    refine And.intro (fun h1 => ?_) (fun h1 => ?_)
    · have h1 : i < l.length := by simpa using h1
      have hss := Lit.sizes_get l i h1
      have hse := (l.getD i default).size_eq
      have hlt : (l.take i).length = i := by rw [List.length_take]; omega
      have hts := take_step (l := l) h1
      refine goR rfl (by simp; omega) (go_pure (c20 (l.getD i default).atom (by omega)) rfl rfl rfl rfl rfl rfl ?_)
      refine goR rfl (by trivial) (go_pure (c95' (l.getD i default).left (by omega)) rfl rfl rfl rfl rfl rfl ?_)
      refine goR rfl (by trivial) (go_pure (c95' (l.getD i default).right (by omega)) rfl rfl rfl rfl rfl rfl ?_)
      refine goR rfl (by trivial) (go_pure (c95' (l.getD i default).aof (by omega)) rfl rfl rfl rfl rfl rfl ?_)
      refine goR rfl (by trivial) (go_pure (Al.Pure.le (aa := [.iv (bodyR (l.getD i default).abody)]) (ih (l.getD i default).abody (bodyR (l.getD i default).abody) (by omega) (by omega) (litsIR _)) ⟨.iv (litsIL _), trivial⟩) rfl rfl rfl rfl rfl rfl ?_)
      refine goR rfl (by (repeat' (first | exact trivial | exact rfl | exact PVle.refl _ | exact PVle.bk (by assumption) | apply And.intro)) <;> first | omega | (simp only [Int.toNat_natCast]; omega) | (simp; done) | (simp; omega)) ?_
      exact ⟨h1, trivial, [4], wk rfl rfl rfl ⟨.refl _, rfl, .refl _, rfl, .refl _, rfl, trivial⟩ (hR rfl (by rw [hts, List.map_append]; rfl) rfl trivial) rfl⟩
    · have h1 : l.length ≤ i := by simpa using h1
      have hie : i = l.length := by omega
      subst hie
      rw [List.take_of_length_le (Nat.le_refl _)]
      refine goR rfl (by (repeat' (first | exact trivial | exact rfl | exact PVle.refl _ | exact PVle.bk (by assumption) | apply And.intro)) <;> first | exact allOnes_src (fun _ => rfl) _ | omega | (simp only [Int.toNat_natCast]; omega) | (simp; done) | (simp; omega)) (end_frz (r0 := .sl 1 0 l.length 30) (.inr rfl) rfl (FrzS.rowL 1 l Lit.c rfl rfl (by simp [PV.inRow, inRowL]) (.done ?_)))
      have : PVle (.iv (lits l)) (.iv y) := .iv hy
      simp only [PV.frz, frzL, Nat.zero_add]
      exact this
theorem c53 (l : List Lit) (hb : Lit.sizes l ≤ 100000000000) : Pure Tryz.prog 53 [.iv (lits l)] (.iv (lits l)) := c53y _ l _ (Nat.le_refl _) hb (fun _ _ h => h)
def Prog.size (p : Prog) : Nat := p.rels.length + (p.rels.map fun d => d.types.length).sum + p.rules.length + (p.rules.map Rule.size).sum
theorem sum_get {α : Type} [Inhabited α] (f : α → Nat) : ∀ (l : List α) (i : Nat), i < l.length → f (l.getD i default) ≤ (l.map f).sum
  | x :: r, 0, _ => by simp
  | x :: r, i + 1, h => by
    have := sum_get f r i (by simpa using h)
    simp only [List.getD_cons_succ, List.map_cons, List.sum_cons]; omega
theorem inRowL_iv (i sz n : Nat) : ∀ l : List IV, inRowL i sz n (l.map .iv)
  | [] => trivial
  | x :: r => ⟨trivial, inRowL_iv i sz n r⟩
theorem rowI_okR {α : Type} (i sz n sz' : Nat) (l : List α) (f : α → List IV) : (rowI sz' l f).okR i sz n := by
  intro k e j p he hp
  rw [List.getElem?_map, Option.map_eq_some_iff] at he
  obtain ⟨x, _, rfl⟩ := he
  rw [List.getElem?_map, Option.map_eq_some_iff] at hp
  obtain ⟨y, _, rfl⟩ := hp
  exact ⟨y, rfl⟩
theorem c14 (p : Prog) (hb : p.size ≤ 100000000000) : Pure Tryz.prog 14 [ag p.c] (ag p.c) := by
  unfold Prog.size at hb
  have hrl : ∀ (l : List Rule), l.length ≤ 100000000000 → True := fun _ _ => trivial
  refine pure_end tyA_ok Tryz.func14 rfl (by decide) Tryz.ntmps14 rfl (by simp) rfl ?_
  refine goR rfl (by trivial) ?_
  refine go_virtC 2 0 4 rfl rfl ?_
  refine go_virtC 2 1 5 rfl rfl ?_
  refine go_for 0 p.rels.length (Nat.zero_le _) (fun i => ⟨[(1, .ptr 0 0), (2, .ptr 1 0), (3, .ptr 2 0), (4, pI i)], [(0, some (cellsI p.c)), (1, some (.cells [.iv (.v (.slice none 0 0)), .iv (.v (.slice none 0 0))])), (2, some (.cells [.sl 5 0 i 4, .sl 4 0 0 5])), (4, some (rowI 5 ([] : List Rule) Rule.c)), (5, some (rowI 4 (p.rels.take i) Decl.c))], 6⟩) (fun _ => True) [3] trivial
    (wk rfl rfl rfl ⟨.refl _, rfl, .refl _, rfl, .refl _, rfl, .refl _, rfl, trivial⟩ (hC rfl rfl rfl ⟨⟨_, rfl, .of_eq rfl⟩, Nat.le_of_ble_eq_true rfl, rfl, ⟨_, rfl, .of_eq rfl⟩, Nat.le_of_ble_eq_true rfl, rfl, hR rfl rfl rfl (hR rfl rfl rfl trivial)⟩) rfl) fun i hi _ => ?_
  refine goR rfl (by trivial) ?_
  refine And.intro (fun h1 => ?_) (fun h1 => ?_)
  · have h1 : i < p.rels.length := by simpa using h1
    have hlt : (p.rels.take i).length = i := by rw [List.length_take]; omega
    have hts := take_step (l := p.rels) h1
    have htl := sum_get (fun d : Decl => d.types.length) p.rels i h1
    refine go_run mixA tyA_ok 26 rfl (by (repeat' (first | exact trivial | exact rfl | exact PVle.refl _ | exact PVle.bk (by assumption) | apply And.intro)) <;> first | exact allOnes_src (fun _ => rfl) _ | omega | (simp only [Int.toNat_natCast]; omega) | (simp; done) | (simp; omega)) ?_
    refine go_wk (L := []) (t := ⟨[(1, .ptr 0 0), (2, .ptr 1 0), (3, .ptr 2 0), (4, pI i), (5, .ptr 6 0), (6, .sl 8 0 (p.rels.getD i default).types.length 1)], [(0, some (cellsI p.c)), (1, some (.cells [.iv (.v (.slice none 0 0)), .iv (.v (.slice none 0 0))])), (2, some (.cells [.sl 5 0 i 4, .sl 4 0 0 5])), (4, some (rowI 5 ([] : List Rule) Rule.c)), (5, some (rowI 4 (p.rels.take i) Decl.c)), (6, some (cellsI (p.rels.getD i default).c)), (8, some (rowI 1 (p.rels.getD i default).types intC))], 9⟩)
      (wk rfl rfl rfl ⟨.refl _, rfl, .refl _, rfl, .refl _, rfl, .refl _, rfl, .refl _, rfl, .row (by rw [Nat.zero_add]; rfl), rfl, trivial⟩ (hC rfl rfl rfl ⟨⟨_, rfl, .of_eq rfl⟩, Nat.le_of_ble_eq_true rfl, rfl, ⟨⟨_, rfl, .of_eq rfl⟩, Nat.le_of_ble_eq_true rfl, rfl, hR rfl rfl rfl (hR rfl rfl rfl (hC rfl rfl rfl (hR rfl (src_map _ _) rfl trivial)))⟩⟩) rfl) ?_
    refine go_frzR 8 (fun k => intC ((p.rels.getD i default).types.getD k default)) rfl (rowI_el rfl) (by simp [AF.okR, PV.inRow]) ⟨inRowL_iv _ _ _ _, (by simp [AO.okR, inRowL, PV.inRow]), (by simp [AO.okR, inRowL, PV.inRow]), rowI_okR _ _ _ _ _ _, rowI_okR _ _ _ _ _ _, inRowL_iv _ _ _ _, rowI_okR _ _ _ _ _ _, trivial⟩ ?_
    refine goR rfl (by (repeat' (first | exact trivial | exact rfl | exact PVle.refl _ | exact PVle.bk (by assumption) | apply And.intro)) <;> first | omega | (simp only [Int.toNat_natCast]; omega) | (simp; done) | (simp; omega)) ?_
    exact ⟨h1, trivial, [10], wk rfl rfl rfl ⟨.refl _, rfl, .refl _, rfl, .refl _, rfl, .refl _, rfl, trivial⟩ (hC rfl rfl rfl ⟨⟨_, rfl, .of_eq rfl⟩, Nat.le_of_ble_eq_true rfl, rfl, ⟨⟨_, rfl, .of_eq rfl⟩, Nat.le_of_ble_eq_true rfl, rfl, hR rfl rfl rfl (hR rfl (by rw [hts, List.map_append]; simp only [Nat.zero_add]; rfl) rfl trivial)⟩⟩) rfl⟩
  · have h1 : p.rels.length ≤ i := by simpa using h1
    have hie : i = p.rels.length := by omega
    subst hie
    rw [List.take_of_length_le (Nat.le_refl _)]
    refine goR rfl (by trivial) ?_
    refine go_for 0 p.rules.length (Nat.zero_le _) (fun i => ⟨[(1, .ptr 0 0), (2, .ptr 1 0), (3, .ptr 2 0), (7, pI i)], [(0, some (cellsI p.c)), (1, some (.cells [.iv (.v (.slice none 0 0)), .iv (.v (.slice none 0 0))])), (2, some (.cells [.sl 5 0 p.rels.length 4, .sl 6 0 i 5])), (5, some (rowI 4 p.rels Decl.c)), (6, some (rowI 5 (p.rules.take i) Rule.c))], 7⟩) (fun _ => True) [4] trivial
      (wk rfl rfl rfl ⟨.refl _, rfl, .refl _, rfl, .refl _, rfl, .refl _, rfl, trivial⟩ (hC rfl rfl rfl ⟨⟨_, rfl, .of_eq rfl⟩, Nat.le_of_ble_eq_true rfl, rfl, ⟨⟨_, rfl, .of_eq rfl⟩, Nat.le_of_ble_eq_true rfl, rfl, hR rfl rfl rfl (hR rfl rfl rfl trivial)⟩⟩) rfl) fun i hi _ => ?_
    refine goR rfl (by trivial) ?_
    refine And.intro (fun h2 => ?_) (fun h2 => ?_)
    · have h2 : i < p.rules.length := by simpa using h2
      have hlt : (p.rules.take i).length = i := by rw [List.length_take]; omega
      have hts := take_step (l := p.rules) h2
      have htl := sum_get Rule.size p.rules i h2
      have hrs : (p.rules.getD i default).size = (p.rules.getD i default).head.terms.length + Lit.sizes (p.rules.getD i default).body := rfl
      refine goR rfl (by simp; omega) (go_ddet tyA_ok [] (Pure.det (c20 (p.rules.getD i default).head (by omega))) rfl rfl rfl rfl rfl rfl rfl rfl rfl rfl rfl rfl (by trivial) rfl (by (repeat' (first | exact trivial | exact rfl | exact PVle.refl _ | exact PVle.bk (by assumption) | apply And.intro)) <;> first | omega | (simp only [Int.toNat_natCast]; omega) | (simp; done) | (simp; omega)) ?_)
      refine goR rfl (by trivial) (go_ddet tyA_ok [] (Pure.det (c53 (p.rules.getD i default).body (by omega))) rfl rfl rfl rfl rfl rfl rfl rfl rfl rfl rfl rfl (by trivial) rfl (by (repeat' (first | exact trivial | exact rfl | exact PVle.refl _ | exact PVle.bk (by assumption) | apply And.intro)) <;> first | omega | (simp only [Int.toNat_natCast]; omega) | (simp; done) | (simp; omega)) ?_)
      refine goR rfl (by (repeat' (first | exact trivial | exact rfl | exact PVle.refl _ | exact PVle.bk (by assumption) | apply And.intro)) <;> first | omega | (simp only [Int.toNat_natCast]; omega) | (simp; done) | (simp; omega)) ?_
      exact ⟨h2, trivial, [8], wk rfl rfl rfl ⟨.refl _, rfl, .refl _, rfl, .refl _, rfl, .refl _, rfl, trivial⟩ (hC rfl rfl rfl ⟨⟨_, rfl, .of_eq rfl⟩, Nat.le_of_ble_eq_true rfl, rfl, ⟨⟨_, rfl, .of_eq rfl⟩, Nat.le_of_ble_eq_true rfl, rfl, hR rfl rfl rfl (hR rfl (by rw [hts, List.map_append]; rfl) rfl trivial)⟩⟩) rfl⟩
    · have h2 : p.rules.length ≤ i := by simpa using h2
      have hie : i = p.rules.length := by omega
      subst hie
      rw [List.take_of_length_le (Nat.le_refl _)]
      refine goR rfl (by (repeat' (first | exact trivial | exact rfl | exact PVle.refl _ | exact PVle.bk (by assumption) | apply And.intro)) <;> first | exact allOnes_src (fun _ => rfl) _ | omega | (simp only [Int.toNat_natCast]; omega) | (simp; done) | (simp; omega)) (end_frz (r0 := .agg [.sl 5 0 p.rels.length 4, .sl 6 0 p.rules.length 5]) (.inr rfl) rfl (FrzS.rowL 5 p.rels Decl.c rfl rfl (by simp [PV.inRow, inRowL]) (FrzS.rowL 6 p.rules Rule.c rfl rfl (by simp [PV.inRow, inRowL, PV.frz, frzL, show Nat.beq 6 5 = false from rfl]) (.done (.of_eq (by simp only [PV.frz, frzL, Nat.zero_add, show Nat.beq 6 5 = false from rfl, show Nat.beq 5 5 = true from rfl, show Nat.beq 6 6 = true from rfl, cond_true, cond_false]; rfl))))))
end Go.Proofs.YtpnclpbkecjinaaGreatDoorR
/-
  The printer: texts that are put, what must be, values.
-/
namespace Go.Proofs.YtpnclpbkecjinaaGreatDoorR
open Go Go.Al
set_option maxRecDepth 10000

def putS (w : WS) (s : Str) : WS := ⟨false, w.l ++ s.data.toList, w.bad, w.br⟩
theorem d183 (w : WS) (s : Str) (hb : w.l.length + s.size ≤ 140737488355328) : Det Tryz.prog 183 [.ptr 0 0, pS s] w.O (.tup [pI s.size, .iv (.v .nilIface)]) (putS w s).H 3 := by
  refine det_end tyA_ok Tryz.func183 rfl (by decide) Tryz.ntmps183 rfl (by simp) ?_
  refine goR rfl (by trivial) (go_det [0, 1] (d204 w) rfl rfl rfl rfl rfl rfl rfl rfl ?_)
  refine goR rfl (by trivial) ?_
  refine go_sapp tyA_ok rfl rfl rfl rfl rfl rfl rfl rfl rfl rfl rfl rfl rfl rfl rfl rfl hb ?_
  refine goR rfl (by trivial) (end_w (by first | exact .inr rfl | exact .inl rfl) rfl rfl rfl rfl rfl (by first | exact .refl _ | exact .kb _) (by first | exact .refl _ | exact .kb _) rfl rfl rfl rfl (.refl _) rfl rfl)
def mustW (w : WS) (b : Bool) : WS := ⟨w.fr, w.l, w.bad || !b, w.br⟩
theorem mustW_t (w : WS) {b : Bool} (h : (!b) = false) : mustW w b = w := by cases w; simp_all [mustW]
theorem mustW_f (w : WS) {b : Bool} (h : (!b) = true) : mustW w b = ⟨w.fr, w.l, true, w.br⟩ := by cases w; simp_all [mustW]
theorem d146 (w : WS) (b : Bool) : Det Tryz.prog 146 [.ptr 0 0, pB b] w.O (.tup []) (mustW w b).H 3 := by
  refine det_end tyA_ok Tryz.func146 rfl (by decide) Tryz.ntmps146 rfl (by simp) ?_
  refine goR rfl (by trivial) ?_
  refine And.intro (fun h => ?_) (fun h => ?_)
  · rw [mustW_f w h]
    refine goR rfl (by trivial) (end_w (by first | exact .inr rfl | exact .inl rfl) rfl rfl rfl rfl rfl (by first | exact .refl _ | exact .kb _) (by first | exact .refl _ | exact .kb _) rfl rfl rfl rfl (.refl _) rfl rfl)
  · rw [mustW_t w h]
    refine goR rfl (by trivial) (end_w (by first | exact .inr rfl | exact .inl rfl) rfl rfl rfl rfl rfl (by first | exact .refl _ | exact .kb _) (by first | exact .refl _ | exact .kb _) rfl rfl rfl rfl (.refl _) rfl rfl)
def putA (w : WS) (ss : List Str) : WS := ss.foldl putS w
def sizeA (ss : List Str) : Nat := (ss.map ByteArray.size).sum
theorem putS_len (w : WS) (s : Str) : (putS w s).l.length = w.l.length + s.size := by simp [putS]
theorem putA_len : ∀ (ss : List Str) (w : WS), (putA w ss).l.length = w.l.length + sizeA ss
  | [], w => by simp [putA, sizeA]
  | s :: r, w => by
    have := putA_len r (putS w s)
    simp only [putA, List.foldl_cons] at this ⊢
    rw [this, putS_len]; simp [sizeA]; omega
theorem sizeA_take : ∀ (ss : List Str) (i : Nat), i < ss.length → sizeA (ss.take i) + (ss.getD i default).size ≤ sizeA ss
  | [], i, h => by simp at h
  | s :: r, 0, _ => by simp [sizeA]
  | s :: r, i + 1, h => by
    have := sizeA_take r i (by simpa using h)
    simp [sizeA] at this ⊢; omega
theorem d147 (w : WS) (ss : List Str) (hl : ss.length ≤ 1000) (hb : w.l.length + sizeA ss ≤ 140737488355328) : Det Tryz.prog 147 [.ptr 0 0, .sl 2 0 ss.length 1] [w.c, .brow w.l 5, rowI 1 ss strC] (.tup []) [(0, some ((putA w ss).cAt 0 3)), (3, some (.brow (putA w ss).l 5))] 4 := by
  refine det_end tyA_ok Tryz.func147 rfl (by decide) Tryz.ntmps147 rfl (by simp) ?_
  refine goR rfl (by trivial) ?_
  refine go_frzR 2 (fun k => strC (ss.getD k default)) rfl (rowI_el rfl) (by simp [AF.okR, PV.inRow, argF]) ⟨(by simp [AO.okR, inRowL, PV.inRow]), trivial, rowI_okR _ _ _ _ _ _, trivial⟩ ?_
  refine go_for 0 ss.length (Nat.zero_le _) (fun i => ⟨[(0, .ptr 0 0), (6, .iv (strs ss)), (7, pI ss.length), (8, pI i)], [(0, some ((putA w (ss.take i)).cAt 0 3)), (3, some (.brow (putA w (ss.take i)).l 5))], 4⟩) (fun _ => True) [1] trivial
    (wk rfl rfl rfl ⟨.refl _, rfl, .imm rfl (fun k _ => by rw [Nat.zero_add]), rfl, .refl _, rfl, .refl _, rfl, trivial⟩ ⟨⟨_, rfl, .of_eq rfl⟩, Nat.le_of_ble_eq_true rfl, rfl, ⟨_, rfl, .of_eq rfl⟩, Nat.le_of_ble_eq_true rfl, trivial, trivial⟩ rfl) fun i hi _ => ?_
  refine goR rfl (by trivial) ?_
  refine And.intro (fun h1 => ?_) (fun h1 => ?_)
  · have h1 : i < ss.length := Int.ofNat_lt.1 (of_decide_eq_true h1)
    have hs : putA w (ss.take (i + 1)) = putS (putA w (ss.take i)) (ss.getD i default) := fold_step (g := putS) (b := w) h1
    have hpl := putA_len (ss.take i) w
    have hz := sizeA_take ss i h1
    refine goR rfl (by simp; omega) (go_w (d183 (putA w (ss.take i)) (ss.getD i default) (by omega)) rfl rfl rfl rfl rfl rfl rfl rfl rfl rfl rfl rfl ?_)
    refine goR rfl (by (repeat' (first | exact trivial | exact rfl | exact PVle.refl _ | exact PVle.bk (by assumption) | apply And.intro)) <;> first | omega | (simp only [Int.toNat_natCast]; omega) | (simp; done) | (simp; omega)) ?_
    exact ⟨h1, trivial, [4], wk rfl rfl rfl ⟨.refl _, rfl, .refl _, rfl, .refl _, rfl, .refl _, rfl, trivial⟩ ⟨⟨_, rfl, .of_eq (by rw [hs]; rfl)⟩, Nat.le_of_ble_eq_true rfl, rfl, ⟨_, rfl, .of_eq (by rw [hs]; rfl)⟩, Nat.le_of_ble_eq_true rfl, trivial, trivial⟩ rfl⟩
  · have h1 : ss.length ≤ i := Nat.le_of_not_lt fun hh => absurd (Int.ofNat_lt.2 hh) (of_decide_eq_false h1)
    rw [List.take_of_length_le h1]
    refine goR rfl (by trivial) (end_det [3] (by first | exact .inr rfl | exact .inl rfl) rfl (wk rfl rfl rfl ⟨.refl _, rfl, trivial⟩ ⟨⟨_, rfl, .of_eq rfl⟩, Nat.le_of_ble_eq_true rfl, rfl, ⟨_, rfl, .of_eq rfl⟩, Nat.le_of_ble_eq_true rfl, trivial, trivial⟩ rfl))
end Go.Proofs.YtpnclpbkecjinaaGreatDoorR
/-
  The kit's contract of strconv.Itoa at this program. Its laying in plain words (printed by lay-plain.mjs).
-/
namespace Go.Proofs
open Go.Shelf
def Tryz.laysM171_ren : Go.Shelf.Ren := ⟨fun | 171 => 219 | 243 => 234 | 246 => 241 | 283 => 242 | 284 => 243 | 285 => 244 | 286 => 245 | 129 => 179 | 317 => 246 | 318 => 247 | 319 => 248 | 320 => 249 | 337 => 250 | 338 => 251 | n => n, fun | 3 => 3 | 9 => 9 | 2 => 2 | 4 => 4 | 171 => 276 | 0 => 0 | 53 => 232 | 37 => 176 | 5 => 5 | 173 => 278 | 212 => 281 | 51 => 230 | 20 => 20 | 213 => 282 | 46 => 201 | 232 => 283 | 233 => 284 | n => n, fun | 17 => 0 | 18 => 1 | 19 => 2 | n => n⟩
theorem Tryz.laysM171 : Go.Proofs.LaysM.n171 Tryz.prog Tryz.laysM171_ren := {
  mixed := by kernel_rfl
  f129 := Tryz.func179.trans (congrArg some (by kernel_rfl))
  f171 := Tryz.func219.trans (congrArg some (by kernel_rfl))
  f243 := Tryz.func234.trans (congrArg some (by kernel_rfl))
  f246 := Tryz.func241.trans (congrArg some (by kernel_rfl))
  f283 := Tryz.func242.trans (congrArg some (by kernel_rfl))
  f284 := Tryz.func243.trans (congrArg some (by kernel_rfl))
  f285 := Tryz.func244.trans (congrArg some (by kernel_rfl))
  f286 := Tryz.func245.trans (congrArg some (by kernel_rfl))
  f317 := Tryz.func246.trans (congrArg some (by kernel_rfl))
  f318 := Tryz.func247.trans (congrArg some (by kernel_rfl))
  f319 := Tryz.func248.trans (congrArg some (by kernel_rfl))
  f320 := Tryz.func249.trans (congrArg some (by kernel_rfl))
  f337 := Tryz.func250.trans (congrArg some (by kernel_rfl))
  f338 := Tryz.func251.trans (congrArg some (by kernel_rfl))
  t0 := Tryz.underlying0
  a0 := Tryz.isAgg0
  z0 := Tryz.sizeOf0
  v0 := Tryz.zeroValue0
  t2 := Tryz.underlying2
  a2 := Tryz.isAgg2
  z2 := Tryz.sizeOf2
  v2 := Tryz.zeroValue2
  t3 := Tryz.underlying3
  a3 := Tryz.isAgg3
  z3 := Tryz.sizeOf3
  v3 := Tryz.zeroValue3
  t4 := Tryz.underlying4
  a4 := Tryz.isAgg4
  z4 := Tryz.sizeOf4
  v4 := Tryz.zeroValue4
  t5 := Tryz.underlying5
  a5 := Tryz.isAgg5
  z5 := Tryz.sizeOf5
  v5 := Tryz.zeroValue5
  t9 := Tryz.underlying9
  a9 := Tryz.isAgg9
  z9 := Tryz.sizeOf9
  v9 := Tryz.zeroValue9
  t20 := Tryz.underlying20
  a20 := Tryz.isAgg20
  z20 := Tryz.sizeOf20
  v20 := Tryz.zeroValue20
  t37 := Tryz.underlying176
  a37 := Tryz.isAgg176
  z37 := Tryz.sizeOf176
  v37 := Tryz.zeroValue176
  t46 := Tryz.underlying201
  a46 := Tryz.isAgg201
  z46 := Tryz.sizeOf201
  v46 := Tryz.zeroValue201
  t51 := Tryz.underlying230
  a51 := Tryz.isAgg230
  z51 := Tryz.sizeOf230
  v51 := Tryz.zeroValue230
  t53 := Tryz.underlying232
  a53 := Tryz.isAgg232
  z53 := Tryz.sizeOf232
  v53 := Tryz.zeroValue232
  t171 := Tryz.underlying276
  a171 := Tryz.isAgg276
  z171 := Tryz.sizeOf276
  v171 := Tryz.zeroValue276
  t173 := Tryz.underlying278
  a173 := Tryz.isAgg278
  z173 := Tryz.sizeOf278
  v173 := Tryz.zeroValue278
  t212 := Tryz.underlying281
  a212 := Tryz.isAgg281
  z212 := Tryz.sizeOf281
  v212 := Tryz.zeroValue281
  t213 := Tryz.underlying282
  a213 := Tryz.isAgg282
  z213 := Tryz.sizeOf282
  t232 := Tryz.underlying283
  a232 := Tryz.isAgg283
  z232 := Tryz.sizeOf283
  v232 := Tryz.zeroValue283
  t233 := Tryz.underlying284
  a233 := Tryz.isAgg284
  z233 := Tryz.sizeOf284
  v233 := Tryz.zeroValue284
  g17 := by kernel_rfl
  g18 := by kernel_rfl
  g19 := by kernel_rfl
  i0 := by kernel_rfl
  i2 := by kernel_rfl
  i3 := by kernel_rfl
  i4 := by kernel_rfl
  i5 := by kernel_rfl
  i9 := by kernel_rfl
  i20 := by kernel_rfl
  i37 := by kernel_rfl
  i46 := by kernel_rfl
  i51 := by kernel_rfl
  i53 := by kernel_rfl
  i171 := by kernel_rfl
  i173 := by kernel_rfl
  i212 := by kernel_rfl
  i232 := by kernel_rfl
  i233 := by kernel_rfl
  m17 := by kernel_rfl
  m18 := by kernel_rfl
  m19 := by kernel_rfl }
theorem YtpnclpbkecjinaaGreatDoorR.itoaK (n : Int) (h0 : -9223372036854775808 ≤ n) (h1 : n ≤ 9223372036854775807) (w : World) (htab : Lib.TabIs Tryz.prog w "internal/strconv.uint64pow10" .u64 Lib.pow10Tab) :
    Calls Tryz.prog 219 #[.int .i64 n] w fun e w' => e = .returned (.string ⟨(Lib.itoa n).toArray⟩) ∧ ∃ k os, w' = Go.Sort.grow (w.drewN k) os := Any.strconv_Itoa Tryz.laysM171 n h0 h1 w htab
end Go.Proofs
/-
  Numbers as texts.
-/
namespace Go.Proofs.YtpnclpbkecjinaaGreatDoorR
open Go Go.Al
set_option maxRecDepth 10000

theorem gPow : Tryz.prog.globalNamed "internal/strconv.uint64pow10" = some 0 := by kernel_rfl
theorem pow_eq : pow10L = Lib.pow10Tab := by decide
theorem tabs {M : Mem} {N : Nm} {U : Nat → Prop} {h : AH} {w : World} (hr : Rel M N U h w) : Lib.TabIs Tryz.prog w "internal/strconv.uint64pow10" .u64 Lib.pow10Tab := by
  obtain ⟨T, fr, h1⟩ := hr.frz 0 _ (M.glob 0 _ rfl)
  show World.var? _ _ _ = _
  simp only [World.var?, gPow, Option.bind_some, h1, pow_eq]
theorem c219 (n : Int) (h0 : -9223372036854775808 ≤ n) (h1 : n ≤ 9223372036854775807) : Pure Tryz.prog 219 [pI n] (pS ⟨(Lib.itoa n).toArray⟩) := by
  refine ⟨callable_of Tryz.func219 rfl (by decide), fun M N w vs hr hlen hv => ?_⟩
  obtain ⟨v, rfl⟩ : ∃ v, vs = [v] := by
    cases vs with
    | nil => cases hlen
    | cons v r => cases r with
      | nil => exact ⟨v, rfl⟩
      | cons a b => simp at hlen
  have hv0 : VR M N (· < 0) (pI n) v := hv 0 _ rfl
  have hvv : v = .int .i64 n := by
    cases hv0 with
    | iv _ _ h => cases h; rfl
  subst hvv
  refine (itoaK n h0 h1 w (tabs hr)).mono ?_
  rintro e w' ⟨rfl, k, os, rfl⟩
  have hk : ∀ b, b < w.heap.size → (Go.Sort.grow (w.drewN k) os).heap[b]? = w.heap[b]? := fun b hb => by
    show (w.heap ++ os)[b]? = _
    rw [Array.getElem?_append_left hb]
  refine ⟨_, M, N, pS ⟨(Lib.itoa n).toArray⟩, [], 0, rfl, ⟨rfl, rfl, rfl⟩, ⟨rfl, rfl, rfl, ?_, fun b hb _ => hk b hb, .refl _, fun b c h1 h2 => (nomatch (h1.symm.trans h2)), .refl _ _, fun _ h => h, fun i o hi => (nomatch hi)⟩, ⟨fun b c hb => ?_, fun i o hi => (nomatch hi), fun i o hi => (nomatch hi), fun i o hi => (nomatch hi), fun i j o p hi => (nomatch hi)⟩, .iv _ _ (.v _)⟩
  · show w.heap.size ≤ (w.heap ++ os).size
    simp
  · exact (hr.frz b c hb).mono (hk b (hr.frz b c hb).lt)
end Go.Proofs.YtpnclpbkecjinaaGreatDoorR
/-
  Texts out of bytes and runes, and back. No program stands here. Conditions: none.
-/
namespace Go.Al

section
variable {P : Program} {ty : Ty} {nt : Nat} {s : AS} {Q : AQ} {k : List KI}

/-- A text's bytes, as data. -/
theorem go_sbytes (hty : TyOK P ty) {all rest : List Oper} {o : Oper} {x : Operand} {t t' u d : Nat} {b : ByteArray} {et et' eu : TyE} (ho : o.op = .convert t t' x) (hg : o.guard = none) (ht : ty t = some et) (hk : et.k = .prim .string) (ht' : ty t' = some et') (hk' : et'.k = .prim (.slice u)) (hu : ty u = some eu) (hku : eu.k = .prim (.int .u8))
    (hx : ev s.f x = .iv (.v (.string b))) (hd : o.dst = some d) (hlt : Nat.blt d nt = true) (hb : b.size ≤ 1000000)
    (h : GO P nt (.ops all rest :: k) Q ⟨(d, .iv (.imm 1 b.data.toList.length fun k => byteC (b.data.toList.getD k default))) :: s.f, s.h, s.nx⟩) : GO P nt (.ops all (o :: rest) :: k) Q s := by
  have hs : P.underlying t = some .string := by have := (hty t _ ht).2.1; rw [hk] at this; exact this.1
  have hsl : P.underlying t' = some (.slice u) := by have := (hty t' _ ht').2.1; rw [hk'] at this; exact this.1
  have hu8 : P.underlying u = some (.int .u8) := by have := (hty u _ hu).2.1; rw [hku] at this; exact this.1
  refine go_op (R := fun t => t = ⟨(d, .iv (.imm 1 b.data.toList.length fun k => byteC (b.data.toList.getD k default))) :: s.f, s.h, s.nx⟩) hg (OT.value (s1 := s) (p := .iv (.imm 1 b.data.toList.length fun k => byteC (b.data.toList.getD k default))) (by cases s; simp only [putDst, hd, hlt, cond_true, forceP_eq]) fun M N a w hf => ?_) fun t ht => by subst ht; exact h
  have hvx := ev_ok hf.2.1 x
  rw [hx] at hvx
  have hyv : a.eval x = .string b := by
    generalize a.eval x = v at hvx
    cases hvx with
    | iv _ _ h => cases h; rfl
  have hrun := Go.run_bytes_of_string (P := P) w t t' u b hs hsl hu8
  generalize hC : bytesRow b (grownCap w b.size 0 u) = C at hrun
  have hMn : M w.heap.size = none := by
    cases hm : M w.heap.size with
    | none => rfl
    | some c => exact absurd (hf.1.frz _ _ hm).lt (Nat.lt_irrefl _)
  have hold : ∀ c, c < w.heap.size → (w.drew.alloc (.cells C u (C.size, C.size + 1))).heap[c]? = w.heap[c]? := fun c hc => by
    show (w.heap.push _)[c]? = _
    rw [Array.getElem?_push, if_neg (by omega)]
  have hnew : (w.drew.alloc (.cells C u (C.size, C.size + 1))).heap[w.heap.size]? = some (.cells C u (C.size, C.size + 1)) := by
    show (w.heap.push _)[w.heap.size]? = _
    simp
  have hCb : ∀ j, j < b.data.toList.length → C[j]? = some (.int .u8 ((b.data.toList.getD j default).toNat : Int)) := by
    intro j hj
    have hj' : j < b.data.size := by simpa using hj
    rw [← hC]
    simp only [bytesRow]
    rw [Array.getElem?_append_left (by simpa using hj')]
    simp [List.getD_eq_getElem?_getD]
    exact ⟨b.data[j], Array.getElem?_eq_getElem hj', by rw [Array.getElem?_eq_getElem hj']; rfl⟩
  have hcapge := grownCap_ge w b.size 0 u
  refine ⟨.slice (some ⟨w.heap.size, 0, none⟩) b.size (grownCap w b.size 0 u), w.drew.alloc (.cells C u (C.size, C.size + 1)), M.set w.heap.size (.cells C) hMn, N, ?_, ?_, ?_, ?_⟩
  · simp only [execOp, ho, hyv]
    rw [Sem.run_bind, hrun]; rfl
  · have q1 : M.le (M.set w.heap.size (.cells C) hMn) := fun c e hc => by
      simp only [Mem.set]
      rw [if_neg fun e2 => by rw [e2, hMn] at hc; cases hc]
      exact hc
    have q2 : ∀ c e, M c = none → (M.set w.heap.size (.cells C) hMn) c = some e → w.heap.size ≤ c ∨ ∃ i o, s.h.get i = some o ∧ o.real = true ∧ N.blk i = c := fun c e h1 h2 => by
      simp only [Mem.set] at h2
      by_cases he : c = w.heap.size
      · exact .inl (by omega)
      · rw [if_neg he, h1] at h2
        cases h2
    exact ⟨rfl, rfl, rfl, (by show w.heap.size ≤ (w.heap.push _).size; simp), fun c hc _ => hold c hc, q1, q2, .refl _ _, fun _ h => h, fun i o hi hre => .inr ⟨i, o, hi, hre, rfl⟩⟩
  · have hle : M.le (M.set w.heap.size (.cells C) hMn) := fun c e hc => by
      simp only [Mem.set]
      rw [if_neg fun e2 => by rw [e2, hMn] at hc; cases hc]; exact hc
    refine ⟨⟨fun c e hc => ?_, hf.1.used, fun i o hi hre => ?_, fun i o hi => ?_, hf.1.inj⟩, fun i => (hf.2.1 i).mono hle (.refl _ _) fun _ h => h, hf.2.2⟩
    · simp only [Mem.set] at hc
      by_cases he : c = w.heap.size
      · rw [if_pos he] at hc; cases hc
        exact ⟨u, (C.size, C.size + 1), by rw [he]; exact hnew⟩
      · rw [if_neg he] at hc
        exact (hf.1.frz c e hc).mono (hold c (hf.1.frz c e hc).lt)
    · simp only [Mem.set]
      have := hf.1.lt hi hre
      rw [if_neg (by omega)]; exact hf.1.nfrz i o hi hre
    · cases hre : o.real with
      | true => exact (hf.1.obj i o hi).mono hle (.refl _ _) (fun _ h => h) (hf.1.used i o hi) (hold _ (hf.1.lt hi hre))
      | false =>
        cases o with
        | row sz es => cases es with
          | nil => exact .inl rfl
          | cons => cases hre
        | brow l T => cases l with
          | nil => exact .inl rfl
          | cons => cases hre
        | _ => cases hre
  · have hbl : b.data.toList.length = b.size := by simp
    rw [← hbl] at hcapge ⊢
    by_cases h0 : b.data.toList.length = 0
    · rw [h0]; exact .iv _ _ (.imm0 _ _ _ _)
    · refine .iv _ _ (.imm _ _ _ _ _ _ (by omega) (grownCap_le_maxLen w _ _ _ (by simp only [maxLen]; omega)) (fun _ _ => rfl) (fun k j hk hj => ?_) (fun k j p hk hp => ?_))
      · have hj0 : j = 0 := by omega
        subst hj0
        have := hCb k hk
        simp only [Mem.cell, Mem.set, if_true, Nat.zero_add, Nat.mul_one, Nat.add_zero, this, Option.isSome_some]
      · have hj0 : j = 0 := by
          have := (List.getElem?_eq_some_iff.1 hp).1
          simp [byteC] at this; exact this
        subst hj0
        cases hp
        have := hCb k hk
        simp only [Mem.cell, Mem.set, if_true, Nat.zero_add, Nat.mul_one, Nat.add_zero, this, Option.getD_some]
        exact .v _

/-- A row of bytes as a text. -/
theorem go_bstr (hty : TyOK P ty) (l : List UInt8) {all rest : List Oper} {o : Oper} {x : Operand} {t t' u d i n : Nat} {es : List (List PV)} {et et' eu : TyE} (ho : o.op = .convert t t' x) (hg : o.guard = none) (ht : ty t = some et) (hk : et.k = .prim (.slice u)) (ht' : ty t' = some et') (hk' : et'.k = .prim .string) (hu : ty u = some eu) (hku : eu.k = .prim (.int .u8))
    (hx : ev s.f x = .sl i 0 n 1) (hi : s.h.get i = some (.row 1 es)) (hd : o.dst = some d) (hlt : Nat.blt d nt = true) (hes : es = l.map fun x => (byteC x).map .iv) (hn : n = l.length)
    (h : GO P nt (.ops all rest :: k) Q ⟨(d, .iv (.v (.string ⟨l.toArray⟩))) :: s.f, s.h, s.nx⟩) : GO P nt (.ops all (o :: rest) :: k) Q s := by
  have hs : P.underlying t' = some .string := by have := (hty t' _ ht').2.1; rw [hk'] at this; exact this.1
  have hsl : P.underlying t = some (.slice u) := by have := (hty t _ ht).2.1; rw [hk] at this; exact this.1
  have hu8 : P.underlying u = some (.int .u8) := by have := (hty u _ hu).2.1; rw [hku] at this; exact this.1
  subst hn
  subst hes
  refine go_op (R := fun t => t = ⟨(d, .iv (.v (.string ⟨l.toArray⟩))) :: s.f, s.h, s.nx⟩) hg (OT.value (s1 := s) (p := .iv (.v (.string ⟨l.toArray⟩))) (by cases s; simp only [putDst, hd, hlt, cond_true, forceP_eq]) fun M N a w hf => ?_) fun t ht => by subst ht; exact h
  have hvx := ev_ok hf.2.1 x
  rw [hx] at hvx
  have hrun : (convert t t' (a.eval x)).run P w = .ok (.string ⟨l.toArray⟩) w := by
    generalize a.eval x = v at hvx
    cases hor : l with
    | nil =>
      rw [hor] at hvx
      generalize hq : PV.sl i 0 ([] : List UInt8).length 1 = q at hvx
      cases hvx with
      | sl _ _ _ _ _ _ h0 => cases hq; simp at h0
      | sl0 _ _ _ =>
        have := run_convert_bytes_nil (P := P) w t u hsl hu8 0 0 t' hs
        exact this
      | _ => cases hq
    | cons x0 r0 =>
      rw [← hor]
      have hpos : 0 < l.length := by rw [hor]; simp
      generalize hln : l.length = n at hvx hpos
      generalize hq : PV.sl i 0 n 1 = q at hvx
      cases hvx with
      | sl _ _ _ _ cap hU h0 hl hc he =>
        cases hq
        rcases hf.1.obj i _ hi with hnil | ⟨_, c, T, q1, q2, q3, q4, q5⟩
        · rw [hor] at hnil; cases hnil
        rw [Nat.zero_mul, ← hln]
        refine run_convert_bytes_back (P := P) w t t' u ⟨N.blk i, 0, none⟩ cap l hsl hu8 hs fun j hj => ?_
        rw [add_addr, Nat.zero_add]
        have hjc : j < c.size := by rw [List.length_map] at q3; omega
        have := q5 j [.iv (.v (.int .u8 (l[j].toNat : Int)))] 0 _ (by rw [List.getElem?_map, List.getElem?_eq_getElem hj]; rfl) rfl
        rw [Nat.mul_one, Nat.add_zero, Array.getD_eq_getD_getElem?, Array.getElem?_eq_getElem hjc, Option.getD_some] at this
        simp only [World.cell?, q1]
        generalize hcj : c[j] = y at this
        cases this with
        | iv _ _ h => cases h; simp [hjc, hcj]
      | sl0 _ _ _ => cases hq; omega
      | _ => cases hq
  exact ⟨_, w, M, N, by simp only [execOp, ho]; exact ok_value hrun, .refl _ _ _ _ _, hf, .iv _ _ (.v _)⟩

/-- A rune as a text. -/
theorem go_rstr (hty : TyOK P ty) {all rest : List Oper} {o : Oper} {x : Operand} {t t' d : Nat} {q kk : IntKind} {n : Int} {et et' : TyE} (ho : o.op = .convert t t' x) (hg : o.guard = none) (ht : ty t = some et) (hk : et.k = .prim (.int q)) (ht' : ty t' = some et') (hk' : et'.k = .prim .string)
    (hx : ev s.f x = .iv (.v (.int kk n))) (hd : o.dst = some d) (hlt : Nat.blt d nt = true)
    (h : GO P nt (.ops all rest :: k) Q ⟨(d, .iv (.v (.string (Utf8.encode n)))) :: s.f, s.h, s.nx⟩) : GO P nt (.ops all (o :: rest) :: k) Q s := by
  have hs : P.underlying t' = some .string := by have := (hty t' _ ht').2.1; rw [hk'] at this; exact this.1
  have hi : P.underlying t = some (.int q) := by have := (hty t _ ht).2.1; rw [hk] at this; exact this.1
  refine go_op (R := fun t => t = ⟨(d, .iv (.v (.string (Utf8.encode n)))) :: s.f, s.h, s.nx⟩) hg (OT.value (s1 := s) (p := .iv (.v (.string (Utf8.encode n)))) (by cases s; simp only [putDst, hd, hlt, cond_true, forceP_eq]) fun M N a w hf => ?_) fun t ht => by subst ht; exact h
  have hvx := ev_ok hf.2.1 x
  rw [hx] at hvx
  have hyv : a.eval x = .int kk n := by
    generalize a.eval x = v at hvx
    cases hvx with
    | iv _ _ h => cases h; rfl
  refine ⟨_, w, M, N, ?_, .refl _ _ _ _ _, hf, .iv _ _ (.v _)⟩
  simp only [execOp, ho, hyv]
  refine ok_value ?_
  simp [convert, run_underlying hi, run_underlying hs, Conv.intToString]
end
end Go.Al
/-
  Values as texts.
-/
namespace Go.Proofs.YtpnclpbkecjinaaGreatDoorR
open Go Go.Al
set_option maxRecDepth 10000

def hexL : Str := ⟨#[48, 49, 50, 51, 52, 53, 54, 55, 56, 57, 65, 66, 67, 68, 69, 70]⟩
def hiN (c : UInt8) : Int := (c.toNat : Int).fdiv (2 ^ min (Int.toNat 4) IntKind.u8.bits)
def loN (c : UInt8) : Int := IntKind.u8.wrap ((BitVec.ofInt IntKind.u8.bits (c.toNat : Int) &&& BitVec.ofInt IntKind.u8.bits 15).toNat : Int)
theorem hiN_lt (c : UInt8) : 0 ≤ hiN c ∧ hiN c < 16 := by
  have h : c.toNat < 256 := c.toNat_lt
  have e : hiN c = (c.toNat : Int) / 16 := by
    unfold hiN
    have : (2 : Int) ^ min (Int.toNat 4) IntKind.u8.bits = 16 := by decide
    rw [this]
    exact Int.fdiv_eq_ediv_of_nonneg _ (by decide)
  rw [e]; omega
theorem loN_lt : ∀ c : UInt8, 0 ≤ loN c ∧ loN c < 16 := by
  intro c
  have h : ∀ n : Fin 256, 0 ≤ loN (UInt8.ofNat n.val) ∧ loN (UInt8.ofNat n.val) < 16 := by decide
  have := h ⟨c.toNat, c.toNat_lt⟩
  simpa using this
def hexD (n : Int) : UInt8 := hexL.data.toList.getD n.toNat 0
def qB (c : UInt8) : List UInt8 := if c.toNat = 34 ∨ c.toNat = 92 then [92, c] else if c.toNat = 10 then [92, 110] else if c.toNat < 32 ∨ 126 < c.toNat then [92, 120, hexD (hiN c), hexD (loN c)] else [c]
theorem qB_len (c : UInt8) : (qB c).length ≤ 4 := by
  unfold qB
  repeat' split
  all_goals simp
def outQ (s : Str) (i : Nat) : List UInt8 := 34 :: (s.data.toList.take i).flatMap qB
def quoteS (s : Str) : Str := ⟨(34 :: s.data.toList.flatMap qB ++ [34]).toArray⟩
theorem outQ_len (s : Str) : ∀ i, (outQ s i).length ≤ 1 + 4 * i
  | 0 => by simp [outQ]
  | i + 1 => by
    have h := outQ_len s i
    rcases Nat.lt_or_ge i s.data.toList.length with hi | hi
    · have := qB_len (s.data.toList.getD i default)
      simp only [outQ, List.length_cons] at h ⊢
      rw [flatMap_step hi, List.length_append]
      omega
    · simp only [outQ, List.take_of_length_le hi] at h
      simp only [outQ, List.take_of_length_le (by omega : s.data.toList.length ≤ i + 1)]
      omega
theorem outQ_succ {s : Str} {i : Nat} (h : i < s.data.toList.length) : outQ s (i + 1) = outQ s i ++ qB (s.data.toList.getD i default) := by
  simp only [outQ, flatMap_step h, List.cons_append]

theorem c220 (s : Str) (hs : s.size ≤ 1000) : Pure Tryz.prog 220 [pS s] (pS (quoteS s)) := by
  have hl : s.data.toList.length = s.size := by simp
  refine pure_end tyA_ok Tryz.func220 rfl (by decide) Tryz.ntmps220 rfl (by simp) rfl ?_
  refine goR rfl (by trivial) ?_
  refine go_sbytes tyA_ok rfl rfl rfl rfl rfl rfl rfl rfl rfl rfl rfl (by omega) ?_
  refine goR rfl (by trivial) ?_
  refine go_for 0 s.data.toList.length (Nat.zero_le _) (fun i => ⟨[(3, .sl 1 0 (outQ s i).length 1), (8, .iv (.imm 1 s.data.toList.length fun k => byteC (s.data.toList.getD k default))), (9, pI s.data.toList.length), (10, pI i)], [(1, some (rowI 1 (outQ s i) byteC))], 2⟩) (fun _ => True) [0] trivial
    (wk rfl rfl rfl ⟨.refl _, rfl, .refl _, rfl, .refl _, rfl, .refl _, rfl, trivial⟩ (hR rfl rfl rfl trivial) rfl) fun i hi _ => ?_
  have hq := outQ_len s i
  refine goR rfl (by trivial) ?_
  refine And.intro (fun h1 => ?_) (fun h1 => ?_)
  rotate_left
  · have h1 : s.data.toList.length ≤ i := Nat.le_of_not_lt fun hh => absurd (Int.ofNat_lt.2 hh) (of_decide_eq_false h1)
    refine goR rfl (by (repeat' (first | exact trivial | exact rfl | exact PVle.refl _ | exact PVle.bk (by assumption) | apply And.intro)) <;> first | omega | (simp only [Int.toNat_natCast]; omega) | (simp; done) | (simp; omega)) ?_
    refine go_bstr tyA_ok (outQ s i ++ [34]) rfl rfl rfl rfl rfl rfl rfl rfl rfl rfl rfl rfl (by rw [List.map_append]; rfl) (by rw [List.length_append]; rfl) ?_
    refine goR rfl (by trivial) (end_le (by first | exact .inr rfl | exact .inl rfl) rfl (.of_eq ?_))
    simp only [outQ, quoteS, List.take_of_length_le h1]
    rfl
  have h1 : i < s.data.toList.length := Int.ofNat_lt.1 (of_decide_eq_true h1)
  have hsu := outQ_succ h1
  have hgc : s.data.toList.getD (i : Int).toNat default = s.data.toList.getD i default := rfl
  generalize hc : s.data.toList.getD i default = c at hsu hgc
  refine goR rfl (by simp; omega) ?_
  refine And.intro (fun h2 => ?_) (fun h2 => ?_)
  · have h2 : c.toNat = 34 := by have := of_decide_eq_true h2; rw [hgc] at this; omega
    rw [qB, if_pos (.inl h2)] at hsu
    refine goR rfl (by (repeat' (first | exact trivial | exact rfl | exact PVle.refl _ | exact PVle.bk (by assumption) | apply And.intro)) <;> first | omega | (simp only [Int.toNat_natCast]; omega) | (simp; done) | (simp; omega)) ?_
    exact ⟨h1, trivial, [3], wk rfl rfl rfl ⟨.row (by rw [hsu, List.length_append]; rfl), rfl, .refl _, rfl, .refl _, rfl, .refl _, rfl, trivial⟩ (hR rfl (by rw [hsu, List.map_append, ← hc]; rfl) rfl trivial) rfl⟩
  have h2 : ¬ c.toNat = 34 := by have := of_decide_eq_false h2; rw [hgc] at this; omega
  refine goR rfl (by trivial) ?_
  refine And.intro (fun h3 => ?_) (fun h3 => ?_)
  · have h3 : c.toNat = 92 := by have := of_decide_eq_true h3; rw [hgc] at this; omega
    rw [qB, if_pos (.inr h3)] at hsu
    refine goR rfl (by (repeat' (first | exact trivial | exact rfl | exact PVle.refl _ | exact PVle.bk (by assumption) | apply And.intro)) <;> first | omega | (simp only [Int.toNat_natCast]; omega) | (simp; done) | (simp; omega)) ?_
    exact ⟨h1, trivial, [3], wk rfl rfl rfl ⟨.row (by rw [hsu, List.length_append]; rfl), rfl, .refl _, rfl, .refl _, rfl, .refl _, rfl, trivial⟩ (hR rfl (by rw [hsu, List.map_append, ← hc]; rfl) rfl trivial) rfl⟩
  have h3 : ¬ c.toNat = 92 := by have := of_decide_eq_false h3; rw [hgc] at this; omega
  rw [qB, if_neg (by omega)] at hsu
  refine goR rfl (by trivial) ?_
  refine And.intro (fun h4 => ?_) (fun h4 => ?_)
  · have h4 : c.toNat = 10 := by have := of_decide_eq_true h4; rw [hgc] at this; omega
    rw [if_pos h4] at hsu
    refine goR rfl (by (repeat' (first | exact trivial | exact rfl | exact PVle.refl _ | exact PVle.bk (by assumption) | apply And.intro)) <;> first | omega | (simp only [Int.toNat_natCast]; omega) | (simp; done) | (simp; omega)) ?_
    exact ⟨h1, trivial, [3], wk rfl rfl rfl ⟨.row (by rw [hsu, List.length_append]; rfl), rfl, .refl _, rfl, .refl _, rfl, .refl _, rfl, trivial⟩ (hR rfl (by rw [hsu, List.map_append]; rfl) rfl trivial) rfl⟩
  have h4 : ¬ c.toNat = 10 := by have := of_decide_eq_false h4; rw [hgc] at this; omega
  rw [if_neg h4] at hsu
  have hhi := hiN_lt c
  have hlo := loN_lt c
  rw [← hc] at hhi hlo
  simp only [hiN, loN] at hhi hlo
  refine goR rfl (by trivial) ?_
  refine And.intro (fun h5 => ?_) (fun h5 => ?_)
  · have h5 : c.toNat < 32 := by have := of_decide_eq_true h5; rw [hgc] at this; omega
    rw [if_pos (.inl h5)] at hsu
    refine goR rfl (by (repeat' (first | exact trivial | exact rfl | exact PVle.refl _ | exact hhi | exact hlo | apply And.intro)) <;> first | omega | exact hhi.1 | exact hhi.2 | exact hlo.1 | exact hlo.2 | simp) ?_
    exact ⟨h1, trivial, [3], wk rfl rfl rfl ⟨.row (by rw [hsu, List.length_append]; rfl), rfl, .refl _, rfl, .refl _, rfl, .refl _, rfl, trivial⟩ (hR rfl (by rw [hsu, List.map_append, ← hc]; rfl) rfl trivial) rfl⟩
  have h5 : ¬ c.toNat < 32 := by have := of_decide_eq_false h5; rw [hgc] at this; omega
  refine goR rfl (by trivial) ?_
  refine And.intro (fun h6 => ?_) (fun h6 => ?_)
  · have h6 : 126 < c.toNat := by have := of_decide_eq_true h6; rw [hgc] at this; omega
    rw [if_pos (.inr h6)] at hsu
    refine goR rfl (by (repeat' (first | exact trivial | exact rfl | exact PVle.refl _ | exact hhi | exact hlo | apply And.intro)) <;> first | omega | exact hhi.1 | exact hhi.2 | exact hlo.1 | exact hlo.2 | simp) ?_
    exact ⟨h1, trivial, [3], wk rfl rfl rfl ⟨.row (by rw [hsu, List.length_append]; rfl), rfl, .refl _, rfl, .refl _, rfl, .refl _, rfl, trivial⟩ (hR rfl (by rw [hsu, List.map_append, ← hc]; rfl) rfl trivial) rfl⟩
  have h6 : ¬ 126 < c.toNat := by have := of_decide_eq_false h6; rw [hgc] at this; omega
  rw [if_neg (by omega)] at hsu
  refine goR rfl (by (repeat' (first | exact trivial | exact rfl | exact PVle.refl _ | exact PVle.bk (by assumption) | apply And.intro)) <;> first | omega | (simp only [Int.toNat_natCast]; omega) | (simp; done) | (simp; omega)) ?_
  exact ⟨h1, trivial, [3], wk rfl rfl rfl ⟨.row (by rw [hsu, List.length_append]; rfl), rfl, .refl _, rfl, .refl _, rfl, .refl _, rfl, trivial⟩ (hR rfl (by rw [hsu, List.map_append, ← hc]; rfl) rfl trivial) rfl⟩

/-- A value's text. -/
def textI (v : Val) : Str := if v.kind = 1 then ⟨(Lib.itoa v.num).toArray⟩ else if nameB v.sym then v.sym else quoteS v.sym
theorem vCheck_num {v : Val} (h : vCheck v = 0) (h1 : v.kind = 1) : -2147483647 ≤ v.num ∧ v.num ≤ 2147483647 := by
  unfold vCheck at h
  rw [if_pos h1] at h
  split at h
  · rename_i h2; exact h2.2
  · cases h
theorem vCheck_sym {v : Val} (h : vCheck v = 0) (h1 : ¬ v.kind = 1) : v.sym.size ≤ 64 := by
  unfold vCheck at h
  rw [if_neg h1] at h
  split at h
  · split at h
    · rename_i h2; exact h2.2
    · cases h
  · cases h
theorem c205 (v : Val) (hv : vCheck v = 0) : Pure Tryz.prog 205 [ag v.c] (pS (textI v)) := by
  refine pure_end tyA_ok Tryz.func205 rfl (by decide) Tryz.ntmps205 rfl (by simp) rfl ?_
  refine goR rfl (by trivial) ?_
  refine And.intro (fun h1 => ?_) (fun h1 => ?_)
  · have h1 : v.kind = 1 := by simpa using h1
    have := vCheck_num hv h1
    refine goR rfl (by trivial) (go_pure (c219 v.num (by omega) (by omega)) rfl rfl rfl rfl rfl rfl ?_)
    refine goR rfl (by trivial) (end_le (by first | exact .inr rfl | exact .inl rfl) rfl (.of_eq ?_))
    rw [textI, if_pos h1]; rfl
  have h1 : ¬ v.kind = 1 := by simpa using h1
  have hs := vCheck_sym hv h1
  refine goR rfl (by trivial) (go_pure (c97 v.sym) rfl rfl rfl rfl rfl rfl ?_)
  refine goR rfl (by trivial) ?_
  refine And.intro (fun h2 => ?_) (fun h2 => ?_)
  · have h2 : nameB v.sym = true := h2
    refine goR rfl (by trivial) (end_le (by first | exact .inr rfl | exact .inl rfl) rfl (.of_eq ?_))
    rw [textI, if_neg h1, if_pos h2]; rfl
  · have h2 : nameB v.sym = false := h2
    refine goR rfl (by trivial) (go_pure (c220 v.sym (by omega)) rfl rfl rfl rfl rfl rfl ?_)
    refine goR rfl (by trivial) (end_le (by first | exact .inr rfl | exact .inl rfl) rfl (.of_eq ?_))
    rw [textI, if_neg h1, if_neg (by rw [h2]; simp)]; rfl
def textV (v : Val) : Str := if vCheck v = 0 then textI v else ⟨#[]⟩
theorem c184 (v : Val) : Pure Tryz.prog 184 [ag v.c] (.tup [pS (textV v), pI (vCheck v)]) := by
  refine pure_end tyA_ok Tryz.func184 rfl (by decide) Tryz.ntmps184 rfl (by simp) rfl ?_
  refine goR rfl (by trivial) (go_pure (c143 v) rfl rfl rfl rfl rfl rfl ?_)
  refine goR rfl (by trivial) ?_
  refine And.intro (fun h1 => ?_) (fun h1 => ?_)
  · have h1 : ¬ vCheck v = 0 := by simpa using h1
    refine goR rfl (by trivial) (end_le (by first | exact .inr rfl | exact .inl rfl) rfl (.of_eq ?_))
    rw [textV, if_neg h1]; rfl
  · have h1 : vCheck v = 0 := by simpa using h1
    refine goR rfl (by trivial) (go_pure (c205 v h1) rfl rfl rfl rfl rfl rfl ?_)
    refine goR rfl (by trivial) (end_le (by first | exact .inr rfl | exact .inl rfl) rfl (.of_eq ?_))
    rw [textV, if_pos h1, h1]; rfl
def valueW (w : WS) (v : Val) : WS := putA (mustW w (decide (vCheck v = 0))) [textV v]
theorem d149 (w : WS) (v : Val) (hb : w.l.length ≤ 1000000000000) (ht : (textV v).size ≤ 1000) : Det Tryz.prog 149 [.ptr 0 0, ag v.c] w.O (.tup []) (valueW w v).H 3 := by
  refine det_end tyA_ok Tryz.func149 rfl (by decide) Tryz.ntmps149 rfl (by simp) ?_
  refine goR rfl (by trivial) (go_pure (c184 v) rfl rfl rfl rfl rfl rfl ?_)
  refine goR rfl (by trivial) (go_w (d146 ⟨_, _, _, _⟩ (decide (vCheck v = 0))) rfl rfl rfl rfl rfl rfl rfl rfl rfl rfl rfl rfl ?_)
  refine goR rfl (by trivial) (go_wp (d147 ⟨_, _, _, _⟩ [textV v] (by simp) (by simp [sizeA, mustW]; omega)) rfl rfl rfl rfl rfl rfl rfl rfl rfl rfl rfl rfl ?_)
  refine goR rfl (by trivial) (end_w (by first | exact .inr rfl | exact .inl rfl) rfl rfl rfl rfl rfl (by first | exact .refl _ | exact .kb _) (by first | exact .refl _ | exact .kb _) rfl rfl rfl rfl (.refl _) rfl rfl)
end Go.Proofs.YtpnclpbkecjinaaGreatDoorR
/-
  The printer: small functions of expressions.
-/
namespace Go.Proofs.YtpnclpbkecjinaaGreatDoorR
open Go Go.Al
set_option maxRecDepth 10000

def strengthI (op : Int) : Int := if op = 1 ∨ op = 2 then 1 else if op = 3 ∨ op = 4 ∨ op = 5 then 2 else if op = 6 then 3 else 0
theorem c212 (op : Int) : Pure Tryz.prog 212 [pI op] (pI (strengthI op)) := by
  refine pure_end tyA_ok Tryz.func212 rfl (by decide) Tryz.ntmps212 rfl (by simp) rfl ?_
  repeat' (first
    | (refine goR rfl (by trivial) (And.intro (fun _ => ?_) (fun _ => ?_)))
    | (refine goR rfl (by trivial) (end_le (by first | exact .inr rfl | exact .inl rfl) rfl (.of_eq ?_))))
  all_goals (refine (pIE ?_ : pI _ = pI _); simp only [Bool.not_true, Bool.not_false, decide_eq_true_eq, decide_eq_false_iff_not] at *; simp_all [strengthI])
def bindsI (e : Expr) : Int := if e.kind = 4 then strengthI e.op else 4
theorem c226 (e : Expr) : Pure Tryz.prog 226 [ag e.c] (pI (bindsI e)) := by
  refine pure_end tyA_ok Tryz.func226 rfl (by decide) Tryz.ntmps226 rfl (by simp) rfl ?_
  repeat' (first
    | (refine goR rfl (by trivial) (And.intro (fun _ => ?_) (fun _ => ?_)))
    | (refine goR rfl (by trivial) (go_pure (c212 e.op) rfl rfl rfl rfl rfl rfl ?_))
    | (refine goR rfl (by trivial) (end_le (by first | exact .inr rfl | exact .inl rfl) rfl (.of_eq ?_))))
  all_goals (refine (pIE ?_ : pI _ = pI _); simp_all [bindsI])
def zValB (v : Val) : Bool := decide (v.kind = 0) && (decide (v.num = 0) && (decide (v.sym = ByteArray.empty) && true))
def noExprB (e : Expr) : Bool := decide (e.kind = 0) && (decide (e.var = ⟨#[]⟩) && (zValB e.val && (decide (e.op = 0) && decide ((e.args.length : Int) = 0))))
theorem c211 (e : Expr) : Pure Tryz.prog 211 [ag e.c] (pB (noExprB e)) := by
  refine pure_end tyA_ok Tryz.func211 rfl (by decide) Tryz.ntmps211 rfl (by simp) rfl ?_
  repeat' (first
    | (refine goR rfl (by trivial) (And.intro (fun _ => ?_) (fun _ => ?_)))
    | (refine goR rfl (by trivial) (end_le (by first | exact .inr rfl | exact .inl rfl) rfl (.of_eq ?_))))
  all_goals (refine (pBE ?_ : pB _ = pB _))
  all_goals (simp only [noExprB, zValB, *]; rfl)

/-- Nothing stands in a literal that its kind does not name. -/
def lacksB (l : Lit) : Bool :=
  (decide (l.kind = 1) || decide (l.kind = 2) || !(!decide (l.atom.rel = ⟨#[]⟩) || decide ((l.atom.terms.length : Int) > 0))) &&
  ((!(!decide (l.kind = 3)) || !(!decide (l.op = 0) || (!noExprB l.left || !noExprB l.right))) &&
  (decide (l.kind = 4) || (decide (l.afunc = 0) && (decide (l.avar = ⟨#[]⟩) && (noExprB l.aof && decide ((l.abody.length : Int) = 0))))))
set_option maxHeartbeats 4000000 in
theorem c188 (l : Lit) : Pure Tryz.prog 188 [ag l.c] (pB (lacksB l)) := by
  refine pure_end tyA_ok Tryz.func188 rfl (by decide) Tryz.ntmps188 rfl (by simp) rfl ?_
  repeat' (first
    | (refine goR rfl (by trivial) (And.intro (fun _ => ?_) (fun _ => ?_)))
    | (refine goR rfl (by trivial) (go_pure (c211 l.left) rfl rfl rfl rfl rfl rfl ?_))
    | (refine goR rfl (by trivial) (go_pure (c211 l.right) rfl rfl rfl rfl rfl rfl ?_))
    | (refine goR rfl (by trivial) (go_pure (c211 l.aof) rfl rfl rfl rfl rfl rfl ?_))
    | (refine goR rfl (by trivial) (end_le (by first | exact .inr rfl | exact .inl rfl) rfl (.of_eq ?_))))
  all_goals (refine (pBE ?_ : pB _ = pB _))
  all_goals (try simp only [Bool.not_true, Bool.not_false] at *)
  all_goals (simp_all [lacksB])

def signS (op : Int) : Str := if op = 1 then ⟨#[43]⟩ else if op = 2 then ⟨#[45]⟩ else if op = 3 then ⟨#[42]⟩ else if op = 4 then ⟨#[47]⟩ else ⟨#[109, 111, 100]⟩
def sgL : Str := ⟨#[43, 45, 42, 47]⟩
theorem c227 (op : Int) : Pure Tryz.prog 227 [pI op] (pS (signS op)) := by
  refine pure_end tyA_ok Tryz.func227 rfl (by decide) Tryz.ntmps227 rfl (by simp) rfl ?_
  refine goR rfl (by trivial) ?_
  refine go_srange tyA_ok rfl rfl rfl rfl rfl rfl rfl ?_
  refine goR rfl (by trivial) ?_
  refine go_for 0 4 (by decide) (fun i => ⟨[(0, pI op), (5, .ptr 0 0)], [(0, some (.siter sgL i))], 1⟩) (fun i => ∀ k : Nat, k < i → ¬ (k : Int) + 1 = op) [] (by simp)
    (wk rfl rfl rfl ⟨.refl _, rfl, .refl _, rfl, trivial⟩ ⟨⟨_, rfl, .of_eq rfl⟩, Nat.le_of_ble_eq_true rfl, trivial, trivial⟩ rfl) fun i hi hJ => ?_
  have hcs : i = 0 ∨ i = 1 ∨ i = 2 ∨ i = 3 ∨ i = 4 := by omega
  rcases hcs with rfl | rfl | rfl | rfl | rfl
  · refine goR rfl (by trivial) ?_
    refine go_snext rfl rfl rfl rfl rfl rfl (fun h => absurd h (by decide)) (fun _ => ?_)
    refine goR rfl (by trivial) ?_
    refine And.intro (fun h => ?_) (fun h => ?_)
    · have h : op = 1 := by have := of_decide_eq_true h; omega
      refine goR rfl (by trivial) ?_
      refine go_rstr tyA_ok rfl rfl rfl rfl rfl rfl rfl rfl rfl ?_
      refine goR rfl (by trivial) (end_le (by first | exact .inr rfl | exact .inl rfl) rfl (.of_eq ?_))
      refine (congrArg pS ?_ : pS _ = pS _)
      subst h
      decide
    · have h : ¬ op = 1 := by have := of_decide_eq_false h; omega
      refine goR rfl (by trivial) ?_
      exact ⟨by decide, fun k hk => (by rcases (by omega : k < 0 ∨ k = 0) with h' | rfl; exact hJ k h'; omega), [], wk rfl rfl rfl ⟨.refl _, rfl, .refl _, rfl, trivial⟩ ⟨⟨_, rfl, .of_eq rfl⟩, Nat.le_of_ble_eq_true rfl, trivial, trivial⟩ rfl⟩
  · refine goR rfl (by trivial) ?_
    refine go_snext rfl rfl rfl rfl rfl rfl (fun h => absurd h (by decide)) (fun _ => ?_)
    refine goR rfl (by trivial) ?_
    refine And.intro (fun h => ?_) (fun h => ?_)
    · have h : op = 2 := by have := of_decide_eq_true h; omega
      refine goR rfl (by trivial) ?_
      refine go_rstr tyA_ok rfl rfl rfl rfl rfl rfl rfl rfl rfl ?_
      refine goR rfl (by trivial) (end_le (by first | exact .inr rfl | exact .inl rfl) rfl (.of_eq ?_))
      refine (congrArg pS ?_ : pS _ = pS _)
      subst h
      decide
    · have h : ¬ op = 2 := by have := of_decide_eq_false h; omega
      refine goR rfl (by trivial) ?_
      exact ⟨by decide, fun k hk => (by rcases (by omega : k < 1 ∨ k = 1) with h' | rfl; exact hJ k h'; omega), [], wk rfl rfl rfl ⟨.refl _, rfl, .refl _, rfl, trivial⟩ ⟨⟨_, rfl, .of_eq rfl⟩, Nat.le_of_ble_eq_true rfl, trivial, trivial⟩ rfl⟩
  · refine goR rfl (by trivial) ?_
    refine go_snext rfl rfl rfl rfl rfl rfl (fun h => absurd h (by decide)) (fun _ => ?_)
    refine goR rfl (by trivial) ?_
    refine And.intro (fun h => ?_) (fun h => ?_)
    · have h : op = 3 := by have := of_decide_eq_true h; omega
      refine goR rfl (by trivial) ?_
      refine go_rstr tyA_ok rfl rfl rfl rfl rfl rfl rfl rfl rfl ?_
      refine goR rfl (by trivial) (end_le (by first | exact .inr rfl | exact .inl rfl) rfl (.of_eq ?_))
      refine (congrArg pS ?_ : pS _ = pS _)
      subst h
      decide
    · have h : ¬ op = 3 := by have := of_decide_eq_false h; omega
      refine goR rfl (by trivial) ?_
      exact ⟨by decide, fun k hk => (by rcases (by omega : k < 2 ∨ k = 2) with h' | rfl; exact hJ k h'; omega), [], wk rfl rfl rfl ⟨.refl _, rfl, .refl _, rfl, trivial⟩ ⟨⟨_, rfl, .of_eq rfl⟩, Nat.le_of_ble_eq_true rfl, trivial, trivial⟩ rfl⟩
  · refine goR rfl (by trivial) ?_
    refine go_snext rfl rfl rfl rfl rfl rfl (fun h => absurd h (by decide)) (fun _ => ?_)
    refine goR rfl (by trivial) ?_
    refine And.intro (fun h => ?_) (fun h => ?_)
    · have h : op = 4 := by have := of_decide_eq_true h; omega
      refine goR rfl (by trivial) ?_
      refine go_rstr tyA_ok rfl rfl rfl rfl rfl rfl rfl rfl rfl ?_
      refine goR rfl (by trivial) (end_le (by first | exact .inr rfl | exact .inl rfl) rfl (.of_eq ?_))
      refine (congrArg pS ?_ : pS _ = pS _)
      subst h
      decide
    · have h : ¬ op = 4 := by have := of_decide_eq_false h; omega
      refine goR rfl (by trivial) ?_
      exact ⟨by decide, fun k hk => (by rcases (by omega : k < 3 ∨ k = 3) with h' | rfl; exact hJ k h'; omega), [], wk rfl rfl rfl ⟨.refl _, rfl, .refl _, rfl, trivial⟩ ⟨⟨_, rfl, .of_eq rfl⟩, Nat.le_of_ble_eq_true rfl, trivial, trivial⟩ rfl⟩
  · refine goR rfl (by trivial) ?_
    refine go_snext rfl rfl rfl rfl rfl rfl (fun _ => ?_) (fun h => absurd h (by decide))
    refine goR rfl (by trivial) (end_le (by first | exact .inr rfl | exact .inl rfl) rfl (.of_eq ?_))
    have h1 := hJ 0 (by decide)
    have h2 := hJ 1 (by decide)
    have h3 := hJ 2 (by decide)
    have h4 := hJ 3 (by decide)
    rw [signS, if_neg (by omega), if_neg (by omega), if_neg (by omega), if_neg (by omega)]; rfl
end Go.Proofs.YtpnclpbkecjinaaGreatDoorR
/-
  The printer: expressions.
-/
namespace Go.Proofs.YtpnclpbkecjinaaGreatDoorR
open Go Go.Al
set_option maxRecDepth 10000

/-! How long texts are. -/
theorem quoteS_len (s : Str) : (quoteS s).size ≤ 2 + 4 * s.size := by
  have h := outQ_len s s.data.toList.length
  simp only [outQ, List.take_length, List.length_cons] at h
  have e : (quoteS s).size = (34 :: s.data.toList.flatMap qB ++ [34]).length := by simp [quoteS, ByteArray.size]
  have : s.data.toList.length = s.size := by simp
  rw [e, List.length_append, List.length_cons, List.length_singleton]; omega
theorem textV_len (v : Val) : (textV v).size ≤ 300 := by
  unfold textV
  split
  · rename_i hv
    unfold textI
    split
    · rename_i h1
      have := vCheck_num hv h1
      have h2 := Lib.itoa_length_le v.num (by omega) (by omega)
      have e : (⟨(Lib.itoa v.num).toArray⟩ : ByteArray).size = (Lib.itoa v.num).length := by simp [ByteArray.size]
      omega
    · rename_i h1
      have h2 := vCheck_sym hv h1
      split
      · omega
      · have := quoteS_len v.sym; omega
  · decide
mutual
def Expr.ts : Expr → Nat
  | .mk _ v _ _ args => v.size + 400 + Expr.tss args
def Expr.tss : List Expr → Nat
  | [] => 0
  | e :: r => e.ts + Expr.tss r
end
theorem Expr.ts_eq (e : Expr) : e.ts = e.var.size + 400 + Expr.tss e.args := by cases e; rfl
theorem Expr.tss_get : ∀ (l : List Expr) (k : Nat), k < l.length → (l.getD k default).ts ≤ Expr.tss l
  | e :: r, 0, _ => by simp [Expr.tss]
  | e :: r, k + 1, h => by
    have := Expr.tss_get r k (by simpa using h)
    simp only [List.getD_cons_succ, Expr.tss]; omega
  | [], k, h => by simp at h
theorem Expr.tss_two : ∀ (l : List Expr), l.length = 2 → (l.getD 0 default).ts + (l.getD 1 default).ts ≤ Expr.tss l
  | [a, b], _ => by simp [Expr.tss]
  | [], h => by simp at h
  | [a], h => by simp at h
  | a :: b :: c :: r, h => by simp at h

def sM : Str := ⟨#[45]⟩
def sO : Str := ⟨#[40]⟩
def sC : Str := ⟨#[41]⟩
def sSp : Str := ⟨#[32]⟩
def badW (w : WS) : WS := ⟨w.fr, w.l, true, w.br⟩
def okVar (e : Expr) : Bool := varB e.var && (zValB e.val && (decide (e.op = 0) && decide ((e.args.length : Int) = 0)))
def okVal (e : Expr) : Bool := decide (e.var = ⟨#[]⟩) && (decide (e.op = 0) && decide ((e.args.length : Int) = 0))
def okOp (e : Expr) : Bool := decide (e.var = ⟨#[]⟩) && (zValB e.val && decide (strengthI e.op > 0))
def arg0 (e : Expr) : Expr := e.args.getD 0 default
def arg1 (e : Expr) : Expr := e.args.getD 1 default
def numB (e : Expr) : Bool := decide (e.kind = 2) && decide (e.val.kind = 1)
def must1 (a : Expr) : Bool := decide (bindsI a < 3) || (numB a && decide (a.val.num > 0))
def leafW (w : WS) (e : Expr) (k : WS) : WS :=
  if w.bad = true then badW w else if e.kind = 1 then putA (mustW w (okVar e)) [e.var] else if e.kind = 2 then valueW (mustW w (okVal e)) e.val else if e.kind = 4 then k else badW w
def operW (arg : Bool → WS → Expr → WS) (w : WS) (e : Expr) : WS :=
  if w.bad = true then badW w else if e.op = 6 then
    (if e.args.length = 1 then arg (must1 (arg0 e)) (if (numB (arg0 e) && decide ((arg0 e).val.num = 0)) = true then putA (putA w [sM]) [sM] else putA w [sM]) (arg0 e) else badW w)
  else if e.args.length = 2 then arg (decide (bindsI (arg1 e) ≤ strengthI e.op)) (putA (arg (decide (bindsI (arg0 e) < strengthI e.op)) w (arg0 e)) [sSp, signS e.op, sSp]) (arg1 e) else badW w
def exprW : Nat → WS → Expr → WS
  | 0, w, _ => badW w
  | 1, w, e => leafW w e (badW (mustW w (okOp e)))
  | m + 2, w, e => leafW w e (operW (fun must w a => if must = true then putA (exprW m (putA w [sO]) a) [sC] else exprW (m + 1) w a) (mustW w (okOp e)) e)
def argW (m : Nat) (must : Bool) (w : WS) (a : Expr) : WS := if must = true then putA (exprW m (putA w [sO]) a) [sC] else exprW (m + 1) w a

theorem mustW_len (w : WS) (b : Bool) : (mustW w b).l = w.l := rfl
theorem badW_len (w : WS) : (badW w).l = w.l := rfl
theorem sizeA1 (s : Str) : sizeA [s] = s.size := by simp [sizeA]
theorem sign_len (op : Int) : (signS op).size ≤ 3 := by
  unfold signS
  repeat' split
  all_goals decide
theorem putA1_len (w : WS) (s : Str) : (putA w [s]).l.length = w.l.length + s.size := by rw [putA_len, sizeA1]
theorem valueW_len (w : WS) (v : Val) : (valueW w v).l.length ≤ w.l.length + 300 := by
  have := textV_len v
  rw [valueW, putA1_len, mustW_len]; omega
theorem leafW_len (w k : WS) (e : Expr) (h : k.l.length ≤ w.l.length + e.ts) : (leafW w e k).l.length ≤ w.l.length + e.ts := by
  have := e.ts_eq
  unfold leafW
  repeat' split
  · rw [badW_len]; omega
  · rw [putA1_len, mustW_len]; omega
  · have := valueW_len (mustW w (okVal e)) e.val
    rw [mustW_len] at this; omega
  · exact h
  · rw [badW_len]; omega
theorem operW_len (arg : Bool → WS → Expr → WS) (harg : ∀ b w a, (arg b w a).l.length ≤ w.l.length + (2 + a.ts)) (w : WS) (e : Expr) : (operW arg w e).l.length ≤ w.l.length + e.ts := by
  have h0 := e.ts_eq
  unfold operW
  split
  · rw [badW_len]; omega
  split
  · split
    · rename_i h1
      have hg := Expr.tss_get e.args 0 (by omega)
      have e1 : sM.size = 1 := rfl
      split
      · have := harg (must1 (arg0 e)) (putA (putA w [sM]) [sM]) (arg0 e)
        rw [putA1_len, putA1_len] at this
        simp only [arg0] at this ⊢; omega
      · have := harg (must1 (arg0 e)) (putA w [sM]) (arg0 e)
        rw [putA1_len] at this
        simp only [arg0] at this ⊢; omega
    · rw [badW_len]; omega
  · split
    · rename_i h1
      have hg := Expr.tss_two e.args h1
      have h2 := harg (decide (bindsI (arg1 e) ≤ strengthI e.op)) (putA (arg (decide (bindsI (arg0 e) < strengthI e.op)) w (arg0 e)) [sSp, signS e.op, sSp]) (arg1 e)
      have h3 := harg (decide (bindsI (arg0 e) < strengthI e.op)) w (arg0 e)
      have h4 := sign_len e.op
      have e1 : sSp.size = 1 := rfl
      rw [putA_len] at h2
      have e2 : sizeA [sSp, signS e.op, sSp] = 1 + ((signS e.op).size + 1) := by simp [sizeA, e1]
      simp only [arg0, arg1] at *; omega
    · rw [badW_len]; omega
theorem exprW_len : ∀ (n : Nat) (w : WS) (e : Expr), (exprW n w e).l.length ≤ w.l.length + e.ts
  | 0, w, e => by rw [exprW, badW_len]; omega
  | 1, w, e => by rw [exprW]; exact leafW_len _ _ _ (by rw [badW_len, mustW_len]; omega)
  | m + 2, w, e => by
    rw [exprW]
    refine leafW_len _ _ _ ?_
    have := operW_len (fun must w a => if must = true then putA (exprW m (putA w [sO]) a) [sC] else exprW (m + 1) w a) (fun b w a => by
      split
      · have h1 := exprW_len m (putA w [sO]) a
        have e1 : sO.size = 1 := rfl
        have e2 : sC.size = 1 := rfl
        rw [putA1_len] at h1 ⊢
        omega
      · have := exprW_len (m + 1) w a
        omega) (mustW w (okOp e)) e
    rwa [mustW_len] at this
theorem argW_len (m : Nat) (b : Bool) (w : WS) (a : Expr) : (argW m b w a).l.length ≤ w.l.length + (2 + a.ts) := by
  unfold argW
  split
  · have h1 := exprW_len m (putA w [sO]) a
    have e1 : sO.size = 1 := rfl
    have e2 : sC.size = 1 := rfl
    rw [putA1_len] at h1 ⊢
    omega
  · have := exprW_len (m + 1) w a
    omega

/-- The contract of expr at a depth. -/
def PE (n : Nat) : Prop := ∀ (d : Int) (w : WS) (e : Expr), d + 1 = n → w.l.length + e.ts ≤ 1000000000 → Det Tryz.prog 189 [.ptr 0 0, ag e.c, pI d] w.O (.tup []) (exprW n w e).H 3
theorem d225 (n : Nat) (hn : n ≤ 1000) (hA : PE (n + 1)) (hB : PE n) (must : Bool) (d : Int) (hd : d = n) (w : WS) (e : Expr) (hb : w.l.length + e.ts + 2 ≤ 1000000000) : Det Tryz.prog 225 [.ptr 0 0, ag e.c, pB must, pI d] w.O (.tup []) (argW n must w e).H 3 := by
  refine det_end tyA_ok Tryz.func225 rfl (by decide) Tryz.ntmps225 rfl (by simp) ?_
  refine goR rfl (by trivial) ?_
  refine And.intro (fun h => ?_) (fun h => ?_)
  · have h : must = false := by simpa using h
    rw [argW, if_neg (by rw [h]; simp)]
    refine goR rfl (by trivial) (go_w (hA d w e (by omega) (by omega)) rfl rfl rfl rfl rfl rfl rfl rfl rfl rfl rfl rfl ?_)
    refine goR rfl (by trivial) (end_w (by first | exact .inr rfl | exact .inl rfl) rfl rfl rfl rfl rfl (by first | exact .refl _ | exact .kb _) (by first | exact .refl _ | exact .kb _) rfl rfl rfl rfl (.refl _) rfl rfl)
  · have h : must = true := by simpa using h
    rw [argW, if_pos h]
    have e1 : sO.size = 1 := rfl
    have e2 : sC.size = 1 := rfl
    have hl := exprW_len n (putA w [sO]) e
    have hp := putA1_len w sO
    refine goR rfl (by trivial) (go_wp (d147 w [sO] (by simp) (by rw [sizeA1, e1]; omega)) rfl rfl rfl rfl rfl rfl rfl rfl rfl rfl rfl rfl ?_)
    refine goR rfl (by (repeat' (first | exact trivial | exact rfl | exact PVle.refl _ | exact PVle.bk (by assumption) | apply And.intro)) <;> first | omega | (simp only [Int.toNat_natCast]; omega) | (simp; done) | (simp; omega)) (go_w (hB (d - 1) (putA w [sO]) e (by omega) (by omega)) rfl rfl rfl rfl rfl rfl rfl rfl rfl rfl rfl rfl ?_)
    refine goR rfl (by trivial) (go_wp (d147 (exprW n (putA w [sO]) e) [sC] (by simp) (by rw [sizeA1, e2]; omega)) rfl rfl rfl rfl rfl rfl rfl rfl rfl rfl rfl rfl ?_)
    refine goR rfl (by trivial) (end_w (by first | exact .inr rfl | exact .inl rfl) rfl rfl rfl rfl rfl (by first | exact .refl _ | exact .kb _) (by first | exact .refl _ | exact .kb _) rfl rfl rfl rfl (.refl _) rfl rfl)

theorem d213z (d : Int) (hd : d < 0) (w : WS) (e : Expr) : Det Tryz.prog 213 [.ptr 0 0, ag e.c, pI d] w.O (.tup []) (badW w).H 3 := by
  refine det_end tyA_ok Tryz.func213 rfl (by decide) Tryz.ntmps213 rfl (by simp) ?_
  repeat' (first
    | ((rename_i h; exact absurd hd (of_decide_eq_false h)))
    | (refine goR rfl (by trivial) (And.intro (fun _ => ?_) (fun _ => ?_)))
    | (refine goR rfl (by trivial) (end_w (by first | exact .inr rfl | exact .inl rfl) rfl rfl rfl rfl rfl (by first | exact .refl _ | exact .kb _) (by first | exact .refl _ | exact .kb _) rfl rfl rfl rfl (.refl _) rfl rfl)))

set_option maxHeartbeats 2000000 in
theorem d213 (m : Nat) (hm : m ≤ 900) (hA : PE (m + 1)) (hB : PE m) (d : Int) (hd : d = m) (w : WS) (e : Expr) (hb : w.l.length + e.ts ≤ 1000000000) : Det Tryz.prog 213 [.ptr 0 0, ag e.c, pI d] w.O (.tup []) (operW (argW m) w e).H 3 := by
  refine Det.le (aa := [.ptr 0 0, ag e.c, pI d]) (args := [.ptr 0 0, ag e.c1, pI d]) ?_ ⟨.refl _, e.le1, .refl _, trivial⟩
  have hts := e.ts_eq
  have e1 : sM.size = 1 := rfl
  have hm' : m ≤ 1000 := by omega
  refine det_end tyA_ok Tryz.func213 rfl (by decide) Tryz.ntmps213 rfl (by simp) ?_
  refine goR rfl (by trivial) ?_
  refine And.intro (fun h6 => ?_) (fun h6 => ?_)
  · have h6 : e.op = 6 := of_decide_eq_true h6
    refine goR rfl (by trivial) ?_
    refine And.intro (fun h1 => ?_) (fun h1 => ?_)
    rotate_left
    · have h1 : w.bad = true := h1
      rw [operW, if_pos h1]
      refine goR rfl (by trivial) (end_w (by first | exact .inr rfl | exact .inl rfl) rfl rfl rfl rfl rfl (by first | exact .refl _ | exact .kb _) (by first | exact .refl _ | exact .kb _) rfl rfl rfl rfl (.refl _) rfl rfl)
    have h1 : ¬ w.bad = true := by rw [show w.bad = false from h1]; simp
    refine goR rfl (by trivial) ?_
    refine And.intro (fun h2 => ?_) (fun h2 => ?_)
    rotate_left
    · have h2 : ¬ e.args.length = 1 := by simp at h2; omega
      rw [operW, if_neg h1, if_pos h6, if_neg h2]
      refine goR rfl (by trivial) (end_w (by first | exact .inr rfl | exact .inl rfl) rfl rfl rfl rfl rfl (by first | exact .refl _ | exact .kb _) (by first | exact .refl _ | exact .kb _) rfl rfl rfl rfl (.refl _) rfl rfl)
    have h2 : e.args.length = 1 := by simp at h2; omega
    have hg : (arg0 e).ts ≤ _ := Expr.tss_get e.args 0 (by omega)
    have hop : operW (argW m) w e = argW m (must1 (arg0 e)) (if (numB (arg0 e) && decide ((arg0 e).val.num = 0)) = true then putA (putA w [sM]) [sM] else putA w [sM]) (arg0 e) := by rw [operW, if_neg h1, if_pos h6, if_pos h2]
    have hga : e.args.getD 0 default = arg0 e := rfl
    refine goR rfl (by trivial) ?_
    refine And.intro (fun h3 => ?_) (fun h3 => ?_)
    · exact absurd (of_decide_eq_true h3) (by omega)
    refine goR rfl (by simp; omega) ?_
    refine And.intro (fun h7 => ?_) (fun h7 => ?_)
    rotate_left
    · exact absurd (of_decide_eq_false h7) (by simp)
    have hl1 := putA1_len w sM
    refine goR rfl (by trivial) ?_
    refine And.intro (fun hk => ?_) (fun hk => ?_)
    · have hk' : (arg0 e).kind = 2 := of_decide_eq_true hk
      refine goR rfl (by trivial) (go_wp (d147 w [sM] (by simp) (by rw [sizeA1, e1]; omega)) rfl rfl rfl rfl rfl rfl rfl rfl rfl rfl rfl rfl ?_)
      refine goR rfl (by trivial) ?_
      refine And.intro (fun hv => ?_) (fun hv => ?_)
      rotate_left
      · have hv' : ¬ (arg0 e).val.kind = 1 := of_decide_eq_false hv
        have hnb : numB (arg0 e) = false := by rw [numB, decide_eq_false hv', Bool.and_false]
        rw [hnb, Bool.false_and, if_neg (by simp)] at hop
        refine goR rfl (by trivial) (go_ddet tyA_ok [] (Pure.det (c226 (arg0 e))) rfl rfl rfl rfl rfl rfl rfl rfl rfl rfl rfl rfl (by trivial) rfl (by (repeat' (first | exact trivial | exact rfl | exact PVle.refl _ | exact PVle.bk (by assumption) | apply And.intro)) <;> first | omega | (simp only [Int.toNat_natCast]; omega) | (simp; done) | (simp; omega)) ?_)
        refine goR rfl (by trivial) ?_
        refine And.intro (fun hb3 => ?_) (fun hb3 => ?_)
        · have hb3' : bindsI (arg0 e) < 3 := of_decide_eq_true hb3
          rw [must1, decide_eq_true hb3', Bool.true_or] at hop
          rw [hop]
          refine goR rfl (by trivial) (go_dw (d225 m hm' hA hB true d hd (putA w [sM]) (arg0 e) (by rw [hl1, e1]; omega)) rfl rfl rfl rfl rfl rfl rfl rfl rfl rfl rfl rfl rfl rfl rfl rfl (by trivial) rfl (by (repeat' (first | exact trivial | exact rfl | exact PVle.refl _ | exact PVle.bk (by assumption) | apply And.intro)) <;> first | omega | (simp only [Int.toNat_natCast]; omega) | (simp; done) | (simp; omega)) ?_)
          refine goR rfl (by trivial) (end_w (by first | exact .inr rfl | exact .inl rfl) rfl rfl rfl rfl rfl (by first | exact .refl _ | exact .kb _) (by first | exact .refl _ | exact .kb _) rfl rfl rfl rfl (.refl _) rfl rfl)
        · have hb3' : ¬ bindsI (arg0 e) < 3 := of_decide_eq_false hb3
          refine goR rfl (by trivial) ?_
          refine And.intro (fun hz => ?_) (fun hz => ?_)
          · exact absurd (of_decide_eq_true hz) hv'
          rw [must1, decide_eq_false hb3', Bool.false_or, hnb, Bool.false_and] at hop
          rw [hop]
          refine goR rfl (by trivial) (go_dw (d225 m hm' hA hB false d hd (putA w [sM]) (arg0 e) (by rw [hl1, e1]; omega)) rfl rfl rfl rfl rfl rfl rfl rfl rfl rfl rfl rfl rfl rfl rfl rfl (by trivial) rfl (by (repeat' (first | exact trivial | exact rfl | exact PVle.refl _ | exact PVle.bk (by assumption) | apply And.intro)) <;> first | omega | (simp only [Int.toNat_natCast]; omega) | (simp; done) | (simp; omega)) ?_)
          refine goR rfl (by trivial) (end_w (by first | exact .inr rfl | exact .inl rfl) rfl rfl rfl rfl rfl (by first | exact .refl _ | exact .kb _) (by first | exact .refl _ | exact .kb _) rfl rfl rfl rfl (.refl _) rfl rfl)
      · have hv' : (arg0 e).val.kind = 1 := of_decide_eq_true hv
        have hnb : numB (arg0 e) = true := by rw [numB, decide_eq_true hv', decide_eq_true hk']; rfl
        rw [hnb, Bool.true_and] at hop
        refine goR rfl (by trivial) ?_
        refine And.intro (fun h0 => ?_) (fun h0 => ?_)
        · have h0' : (arg0 e).val.num = 0 := of_decide_eq_true h0
          rw [if_pos (decide_eq_true h0')] at hop
          refine goR rfl (by trivial) (go_wp (d147 (putA w [sM]) [sM] (by simp) (by rw [sizeA1, hl1, e1]; omega)) rfl rfl rfl rfl rfl rfl rfl rfl rfl rfl rfl rfl ?_)
          refine goR rfl (by trivial) (go_ddet tyA_ok [] (Pure.det (c226 (arg0 e))) rfl rfl rfl rfl rfl rfl rfl rfl rfl rfl rfl rfl (by trivial) rfl (by (repeat' (first | exact trivial | exact rfl | exact PVle.refl _ | exact PVle.bk (by assumption) | apply And.intro)) <;> first | omega | (simp only [Int.toNat_natCast]; omega) | (simp; done) | (simp; omega)) ?_)
          refine goR rfl (by trivial) ?_
          refine And.intro (fun hb3 => ?_) (fun hb3 => ?_)
          · have hb3' : bindsI (arg0 e) < 3 := of_decide_eq_true hb3
            rw [must1, decide_eq_true hb3', Bool.true_or] at hop
            rw [hop]
            refine goR rfl (by trivial) (go_dw (d225 m hm' hA hB true d hd (putA (putA w [sM]) [sM]) (arg0 e) (by rw [putA1_len, hl1, e1]; omega)) rfl rfl rfl rfl rfl rfl rfl rfl rfl rfl rfl rfl rfl rfl rfl rfl (by trivial) rfl (by (repeat' (first | exact trivial | exact rfl | exact PVle.refl _ | exact PVle.bk (by assumption) | apply And.intro)) <;> first | omega | (simp only [Int.toNat_natCast]; omega) | (simp; done) | (simp; omega)) ?_)
            refine goR rfl (by trivial) (end_w (by first | exact .inr rfl | exact .inl rfl) rfl rfl rfl rfl rfl (by first | exact .refl _ | exact .kb _) (by first | exact .refl _ | exact .kb _) rfl rfl rfl rfl (.refl _) rfl rfl)
          · have hb3' : ¬ bindsI (arg0 e) < 3 := of_decide_eq_false hb3
            refine goR rfl (by trivial) ?_
            refine And.intro (fun hz => ?_) (fun hz => ?_)
            rotate_left
            · exact absurd hv' (of_decide_eq_false hz)
            rw [must1, decide_eq_false hb3', Bool.false_or, hnb, Bool.true_and] at hop
            rw [hop]
            refine goR rfl (by trivial) (go_dw (d225 m hm' hA hB (decide ((arg0 e).val.num > 0)) d hd (putA (putA w [sM]) [sM]) (arg0 e) (by rw [putA1_len, hl1, e1]; omega)) rfl rfl rfl rfl rfl rfl rfl rfl rfl rfl rfl rfl rfl rfl rfl rfl (by trivial) rfl (by (repeat' (first | exact trivial | exact rfl | exact PVle.refl _ | exact PVle.bk (by assumption) | apply And.intro)) <;> first | omega | (simp only [Int.toNat_natCast]; omega) | (simp; done) | (simp; omega)) ?_)
            refine goR rfl (by trivial) (end_w (by first | exact .inr rfl | exact .inl rfl) rfl rfl rfl rfl rfl (by first | exact .refl _ | exact .kb _) (by first | exact .refl _ | exact .kb _) rfl rfl rfl rfl (.refl _) rfl rfl)
        · have h0' : ¬ (arg0 e).val.num = 0 := of_decide_eq_false h0
          rw [if_neg (by simpa using h0')] at hop
          refine goR rfl (by trivial) (go_ddet tyA_ok [] (Pure.det (c226 (arg0 e))) rfl rfl rfl rfl rfl rfl rfl rfl rfl rfl rfl rfl (by trivial) rfl (by (repeat' (first | exact trivial | exact rfl | exact PVle.refl _ | exact PVle.bk (by assumption) | apply And.intro)) <;> first | omega | (simp only [Int.toNat_natCast]; omega) | (simp; done) | (simp; omega)) ?_)
          refine goR rfl (by trivial) ?_
          refine And.intro (fun hb3 => ?_) (fun hb3 => ?_)
          · have hb3' : bindsI (arg0 e) < 3 := of_decide_eq_true hb3
            rw [must1, decide_eq_true hb3', Bool.true_or] at hop
            rw [hop]
            refine goR rfl (by trivial) (go_dw (d225 m hm' hA hB true d hd (putA w [sM]) (arg0 e) (by rw [hl1, e1]; omega)) rfl rfl rfl rfl rfl rfl rfl rfl rfl rfl rfl rfl rfl rfl rfl rfl (by trivial) rfl (by (repeat' (first | exact trivial | exact rfl | exact PVle.refl _ | exact PVle.bk (by assumption) | apply And.intro)) <;> first | omega | (simp only [Int.toNat_natCast]; omega) | (simp; done) | (simp; omega)) ?_)
            refine goR rfl (by trivial) (end_w (by first | exact .inr rfl | exact .inl rfl) rfl rfl rfl rfl rfl (by first | exact .refl _ | exact .kb _) (by first | exact .refl _ | exact .kb _) rfl rfl rfl rfl (.refl _) rfl rfl)
          · have hb3' : ¬ bindsI (arg0 e) < 3 := of_decide_eq_false hb3
            refine goR rfl (by trivial) ?_
            refine And.intro (fun hz => ?_) (fun hz => ?_)
            rotate_left
            · exact absurd hv' (of_decide_eq_false hz)
            rw [must1, decide_eq_false hb3', Bool.false_or, hnb, Bool.true_and] at hop
            rw [hop]
            refine goR rfl (by trivial) (go_dw (d225 m hm' hA hB (decide ((arg0 e).val.num > 0)) d hd (putA w [sM]) (arg0 e) (by rw [hl1, e1]; omega)) rfl rfl rfl rfl rfl rfl rfl rfl rfl rfl rfl rfl rfl rfl rfl rfl (by trivial) rfl (by (repeat' (first | exact trivial | exact rfl | exact PVle.refl _ | exact PVle.bk (by assumption) | apply And.intro)) <;> first | omega | (simp only [Int.toNat_natCast]; omega) | (simp; done) | (simp; omega)) ?_)
            refine goR rfl (by trivial) (end_w (by first | exact .inr rfl | exact .inl rfl) rfl rfl rfl rfl rfl (by first | exact .refl _ | exact .kb _) (by first | exact .refl _ | exact .kb _) rfl rfl rfl rfl (.refl _) rfl rfl)
    · have hk' : ¬ (arg0 e).kind = 2 := of_decide_eq_false hk
      have hnb : numB (arg0 e) = false := by rw [numB, decide_eq_false hk']; rfl
      rw [hnb, Bool.false_and, if_neg (by simp)] at hop
      refine goR rfl (by trivial) (go_wp (d147 w [sM] (by simp) (by rw [sizeA1, e1]; omega)) rfl rfl rfl rfl rfl rfl rfl rfl rfl rfl rfl rfl ?_)
      refine goR rfl (by trivial) (go_ddet tyA_ok [] (Pure.det (c226 (arg0 e))) rfl rfl rfl rfl rfl rfl rfl rfl rfl rfl rfl rfl (by trivial) rfl (by (repeat' (first | exact trivial | exact rfl | exact PVle.refl _ | exact PVle.bk (by assumption) | apply And.intro)) <;> first | omega | (simp only [Int.toNat_natCast]; omega) | (simp; done) | (simp; omega)) ?_)
      refine goR rfl (by trivial) ?_
      refine And.intro (fun hb3 => ?_) (fun hb3 => ?_)
      · have hb3' : bindsI (arg0 e) < 3 := of_decide_eq_true hb3
        rw [must1, decide_eq_true hb3', Bool.true_or] at hop
        rw [hop]
        refine goR rfl (by trivial) (go_dw (d225 m hm' hA hB true d hd (putA w [sM]) (arg0 e) (by rw [hl1, e1]; omega)) rfl rfl rfl rfl rfl rfl rfl rfl rfl rfl rfl rfl rfl rfl rfl rfl (by trivial) rfl (by (repeat' (first | exact trivial | exact rfl | exact PVle.refl _ | exact PVle.bk (by assumption) | apply And.intro)) <;> first | omega | (simp only [Int.toNat_natCast]; omega) | (simp; done) | (simp; omega)) ?_)
        refine goR rfl (by trivial) (end_w (by first | exact .inr rfl | exact .inl rfl) rfl rfl rfl rfl rfl (by first | exact .refl _ | exact .kb _) (by first | exact .refl _ | exact .kb _) rfl rfl rfl rfl (.refl _) rfl rfl)
      · have hb3' : ¬ bindsI (arg0 e) < 3 := of_decide_eq_false hb3
        rw [must1, decide_eq_false hb3', Bool.false_or, hnb, Bool.false_and] at hop
        rw [hop]
        refine goR rfl (by trivial) (go_dw (d225 m hm' hA hB false d hd (putA w [sM]) (arg0 e) (by rw [hl1, e1]; omega)) rfl rfl rfl rfl rfl rfl rfl rfl rfl rfl rfl rfl rfl rfl rfl rfl (by trivial) rfl (by (repeat' (first | exact trivial | exact rfl | exact PVle.refl _ | exact PVle.bk (by assumption) | apply And.intro)) <;> first | omega | (simp only [Int.toNat_natCast]; omega) | (simp; done) | (simp; omega)) ?_)
        refine goR rfl (by trivial) (end_w (by first | exact .inr rfl | exact .inl rfl) rfl rfl rfl rfl rfl (by first | exact .refl _ | exact .kb _) (by first | exact .refl _ | exact .kb _) rfl rfl rfl rfl (.refl _) rfl rfl)
  · have h6 : ¬ e.op = 6 := of_decide_eq_false h6
    refine goR rfl (by trivial) ?_
    refine And.intro (fun h1 => ?_) (fun h1 => ?_)
    rotate_left
    · have h1 : w.bad = true := h1
      rw [operW, if_pos h1]
      refine goR rfl (by trivial) (end_w (by first | exact .inr rfl | exact .inl rfl) rfl rfl rfl rfl rfl (by first | exact .refl _ | exact .kb _) (by first | exact .refl _ | exact .kb _) rfl rfl rfl rfl (.refl _) rfl rfl)
    have h1 : ¬ w.bad = true := by rw [show w.bad = false from h1]; simp
    refine goR rfl (by trivial) ?_
    refine And.intro (fun h2 => ?_) (fun h2 => ?_)
    rotate_left
    · have h2 : ¬ e.args.length = 2 := by simp at h2; omega
      rw [operW, if_neg h1, if_neg h6, if_neg h2]
      refine goR rfl (by trivial) (end_w (by first | exact .inr rfl | exact .inl rfl) rfl rfl rfl rfl rfl (by first | exact .refl _ | exact .kb _) (by first | exact .refl _ | exact .kb _) rfl rfl rfl rfl (.refl _) rfl rfl)
    have h2 : e.args.length = 2 := by simp at h2; omega
    have hg : (arg0 e).ts + (arg1 e).ts ≤ _ := Expr.tss_two e.args h2
    rw [operW, if_neg h1, if_neg h6, if_pos h2]
    refine goR rfl (by trivial) ?_
    refine And.intro (fun h3 => ?_) (fun h3 => ?_)
    · exact absurd (of_decide_eq_true h3) (by omega)
    refine goR rfl (by simp; omega) ?_
    refine And.intro (fun h7 => ?_) (fun h7 => ?_)
    · exact absurd (of_decide_eq_true h7) (by simp)
    refine goR rfl (by simp; omega) (go_ddet tyA_ok [] (Pure.det (c226 (arg0 e))) rfl rfl rfl rfl rfl rfl rfl rfl rfl rfl rfl rfl (by trivial) rfl (by (repeat' (first | exact trivial | exact rfl | exact PVle.refl _ | exact PVle.bk (by assumption) | apply And.intro)) <;> first | omega | (simp only [Int.toNat_natCast]; omega) | (simp; done) | (simp; omega)) ?_)
    refine goR rfl (by trivial) (go_ddet tyA_ok [] (Pure.det (c212 e.op)) rfl rfl rfl rfl rfl rfl rfl rfl rfl rfl rfl rfl (by trivial) rfl (by (repeat' (first | exact trivial | exact rfl | exact PVle.refl _ | exact PVle.bk (by assumption) | apply And.intro)) <;> first | omega | (simp only [Int.toNat_natCast]; omega) | (simp; done) | (simp; omega)) ?_)
    refine goR rfl (by trivial) (go_dw (d225 m hm' hA hB (decide (bindsI (arg0 e) < strengthI e.op)) d hd w (arg0 e) (by omega)) rfl rfl rfl rfl rfl rfl rfl rfl rfl rfl rfl rfl rfl rfl rfl rfl (by trivial) rfl (by (repeat' (first | exact trivial | exact rfl | exact PVle.refl _ | exact PVle.bk (by assumption) | apply And.intro)) <;> first | omega | (simp only [Int.toNat_natCast]; omega) | (simp; done) | (simp; omega)) ?_)
    refine goR rfl (by trivial) (go_pure (c227 e.op) rfl rfl rfl rfl rfl rfl ?_)
    have hla := argW_len m (decide (bindsI (arg0 e) < strengthI e.op)) w (arg0 e)
    have hsg := sign_len e.op
    have e2 : sSp.size = 1 := rfl
    have e3 : sizeA [sSp, signS e.op, sSp] = 1 + ((signS e.op).size + 1) := by simp [sizeA, e2]
    refine goR rfl (by trivial) (go_wp (d147 (argW m (decide (bindsI (arg0 e) < strengthI e.op)) w (arg0 e)) [sSp, signS e.op, sSp] (by simp) (by rw [e3]; omega)) rfl rfl rfl rfl rfl rfl rfl rfl rfl rfl rfl rfl ?_)
    refine goR rfl (by trivial) (go_ddet tyA_ok [] (Pure.det (c226 (arg1 e))) rfl rfl rfl rfl rfl rfl rfl rfl rfl rfl rfl rfl (by trivial) rfl (by (repeat' (first | exact trivial | exact rfl | exact PVle.refl _ | exact PVle.bk (by assumption) | apply And.intro)) <;> first | omega | (simp only [Int.toNat_natCast]; omega) | (simp; done) | (simp; omega)) ?_)
    refine goR rfl (by trivial) (go_ddet tyA_ok [] (Pure.det (c212 e.op)) rfl rfl rfl rfl rfl rfl rfl rfl rfl rfl rfl rfl (by trivial) rfl (by (repeat' (first | exact trivial | exact rfl | exact PVle.refl _ | exact PVle.bk (by assumption) | apply And.intro)) <;> first | omega | (simp only [Int.toNat_natCast]; omega) | (simp; done) | (simp; omega)) ?_)
    refine goR rfl (by trivial) (go_dw (d225 m hm' hA hB (decide (bindsI (arg1 e) ≤ strengthI e.op)) d hd (putA (argW m (decide (bindsI (arg0 e) < strengthI e.op)) w (arg0 e)) [sSp, signS e.op, sSp]) (arg1 e) (by rw [putA_len, e3]; omega)) rfl rfl rfl rfl rfl rfl rfl rfl rfl rfl rfl rfl rfl rfl rfl rfl (by trivial) rfl (by (repeat' (first | exact trivial | exact rfl | exact PVle.refl _ | exact PVle.bk (by assumption) | apply And.intro)) <;> first | omega | (simp only [Int.toNat_natCast]; omega) | (simp; done) | (simp; omega)) ?_)
    refine goR rfl (by trivial) (end_w (by first | exact .inr rfl | exact .inl rfl) rfl rfl rfl rfl rfl (by first | exact .refl _ | exact .kb _) (by first | exact .refl _ | exact .kb _) rfl rfl rfl rfl (.refl _) rfl rfl)
end Go.Proofs.YtpnclpbkecjinaaGreatDoorR
/-
  The printer: expr at every depth.
-/
namespace Go.Proofs.YtpnclpbkecjinaaGreatDoorR
open Go Go.Al
set_option maxRecDepth 10000

theorem d189 (d : Int) (hd0 : 0 ≤ d) (hd1 : d ≤ 1000) (w : WS) (e : Expr) (hb : w.l.length + e.ts ≤ 1000000000) (k : WS) (hk : Det Tryz.prog 213 [.ptr 0 0, ag e.c, pI (d - 1)] (mustW w (okOp e)).O (.tup []) k.H 3) : Det Tryz.prog 189 [.ptr 0 0, ag e.c, pI d] w.O (.tup []) (leafW w e k).H 3 := by
  have hts := e.ts_eq
  refine det_end tyA_ok Tryz.func189 rfl (by decide) Tryz.ntmps189 rfl (by simp) ?_
  refine goR rfl (by trivial) ?_
  refine And.intro (fun h1 => ?_) (fun h1 => ?_)
  rotate_left
  · have h1 : w.bad = true := h1
    rw [leafW, if_pos h1]
    refine goR rfl (by trivial) (end_w (by first | exact .inr rfl | exact .inl rfl) rfl rfl rfl rfl rfl (by first | exact .refl _ | exact .kb _) (by first | exact .refl _ | exact .kb _) rfl rfl rfl rfl (.refl _) rfl rfl)
  have h1' : ¬ w.bad = true := by rw [show w.bad = false from h1]; simp
  refine goR rfl (by trivial) ?_
  refine And.intro (fun h2 => ?_) (fun h2 => ?_)
  · exact absurd (of_decide_eq_true h2) (by omega)
  refine goR rfl (by trivial) ?_
  refine And.intro (fun hk1 => ?_) (fun hk1 => ?_)
  · have hk1' : e.kind = 1 := of_decide_eq_true hk1
    have hlf : leafW w e k = putA (mustW w (okVar e)) [e.var] := by rw [leafW, if_neg h1', if_pos hk1']
    rw [hlf]
    refine goR rfl (by trivial) (go_pure (c148 e.var) rfl rfl rfl rfl rfl rfl ?_)
    refine goR rfl (by trivial) ?_
    refine And.intro (fun g0 => ?_) (fun g0 => ?_)
    rotate_left
    · have hx : okVar e = false := by simp only [okVar, zValB, *]; rfl
      rw [hx]
      refine goR rfl (by trivial) (go_w (d146 w false) rfl rfl rfl rfl rfl rfl rfl rfl rfl rfl rfl rfl ?_)
      refine goR rfl (by trivial) (go_wp (d147 (mustW w false) [e.var] (by simp) (by rw [sizeA1, mustW_len]; omega)) rfl rfl rfl rfl rfl rfl rfl rfl rfl rfl rfl rfl ?_)
      refine goR rfl (by trivial) (end_w (by first | exact .inr rfl | exact .inl rfl) rfl rfl rfl rfl rfl (by first | exact .refl _ | exact .kb _) (by first | exact .refl _ | exact .kb _) rfl rfl rfl rfl (.refl _) rfl rfl)
    refine goR rfl (by trivial) ?_
    refine And.intro (fun g1 => ?_) (fun g1 => ?_)
    rotate_left
    · have hx : okVar e = false := by simp only [okVar, zValB, *]; rfl
      rw [hx]
      refine goR rfl (by trivial) (go_w (d146 w false) rfl rfl rfl rfl rfl rfl rfl rfl rfl rfl rfl rfl ?_)
      refine goR rfl (by trivial) (go_wp (d147 (mustW w false) [e.var] (by simp) (by rw [sizeA1, mustW_len]; omega)) rfl rfl rfl rfl rfl rfl rfl rfl rfl rfl rfl rfl ?_)
      refine goR rfl (by trivial) (end_w (by first | exact .inr rfl | exact .inl rfl) rfl rfl rfl rfl rfl (by first | exact .refl _ | exact .kb _) (by first | exact .refl _ | exact .kb _) rfl rfl rfl rfl (.refl _) rfl rfl)
    refine goR rfl (by trivial) ?_
    refine And.intro (fun g2 => ?_) (fun g2 => ?_)
    rotate_left
    · have hx : okVar e = false := by simp only [okVar, zValB, *]; rfl
      rw [hx]
      refine goR rfl (by trivial) (go_w (d146 w false) rfl rfl rfl rfl rfl rfl rfl rfl rfl rfl rfl rfl ?_)
      refine goR rfl (by trivial) (go_wp (d147 (mustW w false) [e.var] (by simp) (by rw [sizeA1, mustW_len]; omega)) rfl rfl rfl rfl rfl rfl rfl rfl rfl rfl rfl rfl ?_)
      refine goR rfl (by trivial) (end_w (by first | exact .inr rfl | exact .inl rfl) rfl rfl rfl rfl rfl (by first | exact .refl _ | exact .kb _) (by first | exact .refl _ | exact .kb _) rfl rfl rfl rfl (.refl _) rfl rfl)
    have hx : okVar e = decide ((e.args.length : Int) = 0) := by simp only [okVar, zValB, *]; rfl
    rw [hx]
    refine goR rfl (by trivial) (go_w (d146 w (decide ((e.args.length : Int) = 0))) rfl rfl rfl rfl rfl rfl rfl rfl rfl rfl rfl rfl ?_)
    refine goR rfl (by trivial) (go_wp (d147 (mustW w (decide ((e.args.length : Int) = 0))) [e.var] (by simp) (by rw [sizeA1, mustW_len]; omega)) rfl rfl rfl rfl rfl rfl rfl rfl rfl rfl rfl rfl ?_)
    refine goR rfl (by trivial) (end_w (by first | exact .inr rfl | exact .inl rfl) rfl rfl rfl rfl rfl (by first | exact .refl _ | exact .kb _) (by first | exact .refl _ | exact .kb _) rfl rfl rfl rfl (.refl _) rfl rfl)
  have hk1' : ¬ e.kind = 1 := of_decide_eq_false hk1
  refine goR rfl (by trivial) ?_
  refine And.intro (fun hk2 => ?_) (fun hk2 => ?_)
  · have hk2' : e.kind = 2 := of_decide_eq_true hk2
    have hlf : leafW w e k = valueW (mustW w (okVal e)) e.val := by rw [leafW, if_neg h1', if_neg hk1', if_pos hk2']
    rw [hlf]
    have htv := textV_len e.val
    refine goR rfl (by trivial) ?_
    refine And.intro (fun g0 => ?_) (fun g0 => ?_)
    rotate_left
    · have hx : okVal e = false := by simp only [okVal, zValB, *]; rfl
      rw [hx]
      refine goR rfl (by trivial) (go_w (d146 w false) rfl rfl rfl rfl rfl rfl rfl rfl rfl rfl rfl rfl ?_)
      refine goR rfl (by trivial) (go_w (d149 (mustW w false) e.val (by rw [mustW_len]; omega) (by omega)) rfl rfl rfl rfl rfl rfl rfl rfl rfl rfl rfl rfl ?_)
      refine goR rfl (by trivial) (end_w (by first | exact .inr rfl | exact .inl rfl) rfl rfl rfl rfl rfl (by first | exact .refl _ | exact .kb _) (by first | exact .refl _ | exact .kb _) rfl rfl rfl rfl (.refl _) rfl rfl)
    refine goR rfl (by trivial) ?_
    refine And.intro (fun g1 => ?_) (fun g1 => ?_)
    rotate_left
    · have hx : okVal e = false := by simp only [okVal, zValB, *]; rfl
      rw [hx]
      refine goR rfl (by trivial) (go_w (d146 w false) rfl rfl rfl rfl rfl rfl rfl rfl rfl rfl rfl rfl ?_)
      refine goR rfl (by trivial) (go_w (d149 (mustW w false) e.val (by rw [mustW_len]; omega) (by omega)) rfl rfl rfl rfl rfl rfl rfl rfl rfl rfl rfl rfl ?_)
      refine goR rfl (by trivial) (end_w (by first | exact .inr rfl | exact .inl rfl) rfl rfl rfl rfl rfl (by first | exact .refl _ | exact .kb _) (by first | exact .refl _ | exact .kb _) rfl rfl rfl rfl (.refl _) rfl rfl)
    have hx : okVal e = decide ((e.args.length : Int) = 0) := by simp only [okVal, zValB, *]; rfl
    rw [hx]
    refine goR rfl (by trivial) (go_w (d146 w (decide ((e.args.length : Int) = 0))) rfl rfl rfl rfl rfl rfl rfl rfl rfl rfl rfl rfl ?_)
    refine goR rfl (by trivial) (go_w (d149 (mustW w (decide ((e.args.length : Int) = 0))) e.val (by rw [mustW_len]; omega) (by omega)) rfl rfl rfl rfl rfl rfl rfl rfl rfl rfl rfl rfl ?_)
    refine goR rfl (by trivial) (end_w (by first | exact .inr rfl | exact .inl rfl) rfl rfl rfl rfl rfl (by first | exact .refl _ | exact .kb _) (by first | exact .refl _ | exact .kb _) rfl rfl rfl rfl (.refl _) rfl rfl)
  have hk2' : ¬ e.kind = 2 := of_decide_eq_false hk2
  refine goR rfl (by trivial) ?_
  refine And.intro (fun hk4 => ?_) (fun hk4 => ?_)
  · have hk4' : e.kind = 4 := of_decide_eq_true hk4
    have hlf : leafW w e k = k := by rw [leafW, if_neg h1', if_neg hk1', if_neg hk2', if_pos hk4']
    rw [hlf]
    refine goR rfl (by trivial) ?_
    refine And.intro (fun g0 => ?_) (fun g0 => ?_)
    rotate_left
    · have hx : okOp e = false := by simp only [okOp, zValB, *]; rfl
      rw [hx] at hk
      refine goR rfl (by trivial) (go_w (d146 w false) rfl rfl rfl rfl rfl rfl rfl rfl rfl rfl rfl rfl ?_)
      refine goR rfl (by (repeat' (first | exact trivial | exact rfl | exact PVle.refl _ | exact PVle.bk (by assumption) | apply And.intro)) <;> first | omega | (simp only [Int.toNat_natCast]; omega) | (simp; done) | (simp; omega)) (go_w (hk) rfl rfl rfl rfl rfl rfl rfl rfl rfl rfl rfl rfl ?_)
      refine goR rfl (by trivial) (end_w (by first | exact .inr rfl | exact .inl rfl) rfl rfl rfl rfl rfl (by first | exact .refl _ | exact .kb _) (by first | exact .refl _ | exact .kb _) rfl rfl rfl rfl (.refl _) rfl rfl)
    refine goR rfl (by trivial) ?_
    refine And.intro (fun g1 => ?_) (fun g1 => ?_)
    rotate_left
    · have hx : okOp e = false := by simp only [okOp, zValB, *]; rfl
      rw [hx] at hk
      refine goR rfl (by trivial) (go_w (d146 w false) rfl rfl rfl rfl rfl rfl rfl rfl rfl rfl rfl rfl ?_)
      refine goR rfl (by (repeat' (first | exact trivial | exact rfl | exact PVle.refl _ | exact PVle.bk (by assumption) | apply And.intro)) <;> first | omega | (simp only [Int.toNat_natCast]; omega) | (simp; done) | (simp; omega)) (go_w (hk) rfl rfl rfl rfl rfl rfl rfl rfl rfl rfl rfl rfl ?_)
      refine goR rfl (by trivial) (end_w (by first | exact .inr rfl | exact .inl rfl) rfl rfl rfl rfl rfl (by first | exact .refl _ | exact .kb _) (by first | exact .refl _ | exact .kb _) rfl rfl rfl rfl (.refl _) rfl rfl)
    refine goR rfl (by trivial) (go_pure (c212 e.op) rfl rfl rfl rfl rfl rfl ?_)
    have hx : okOp e = decide (strengthI e.op > 0) := by simp only [okOp, zValB, *]; rfl
    rw [hx] at hk
    refine goR rfl (by trivial) (go_w (d146 w (decide (strengthI e.op > 0))) rfl rfl rfl rfl rfl rfl rfl rfl rfl rfl rfl rfl ?_)
    refine goR rfl (by (repeat' (first | exact trivial | exact rfl | exact PVle.refl _ | exact PVle.bk (by assumption) | apply And.intro)) <;> first | omega | (simp only [Int.toNat_natCast]; omega) | (simp; done) | (simp; omega)) (go_w (hk) rfl rfl rfl rfl rfl rfl rfl rfl rfl rfl rfl rfl ?_)
    refine goR rfl (by trivial) (end_w (by first | exact .inr rfl | exact .inl rfl) rfl rfl rfl rfl rfl (by first | exact .refl _ | exact .kb _) (by first | exact .refl _ | exact .kb _) rfl rfl rfl rfl (.refl _) rfl rfl)
  have hk4' : ¬ e.kind = 4 := of_decide_eq_false hk4
  rw [leafW, if_neg h1', if_neg hk1', if_neg hk2', if_neg hk4']
  refine goR rfl (by trivial) (end_w (by first | exact .inr rfl | exact .inl rfl) rfl rfl rfl rfl rfl (by first | exact .refl _ | exact .kb _) (by first | exact .refl _ | exact .kb _) rfl rfl rfl rfl (.refl _) rfl rfl)

theorem pe0 : PE 0 := fun d w e hd hb => by
  refine det_end tyA_ok Tryz.func189 rfl (by decide) Tryz.ntmps189 rfl (by simp) ?_
  rw [exprW]
  repeat' (first
    | ((rename_i h; exact absurd (by omega : d < 0) (of_decide_eq_false h)))
    | (refine goR rfl (by trivial) (And.intro (fun _ => ?_) (fun _ => ?_)))
    | (refine goR rfl (by trivial) (end_w (by first | exact .inr rfl | exact .inl rfl) rfl rfl rfl rfl rfl (by first | exact .refl _ | exact .kb _) (by first | exact .refl _ | exact .kb _) rfl rfl rfl rfl (.refl _) rfl rfl)))
theorem pe_all : ∀ n, n ≤ 900 → PE n
  | 0, _ => pe0
  | 1, _ => fun d w e hd hb => d189 d (by omega) (by omega) w e hb _ (d213z (d - 1) (by omega) (mustW w (okOp e)) e)
  | m + 2, h => fun d w e hd hb => d189 d (by omega) (by omega) w e (by omega) _ (d213 m (by omega) (pe_all (m + 1) (by omega)) (pe_all m (by omega)) (d - 1) (by omega) (mustW w (okOp e)) e (by rw [mustW_len]; omega))
/-- expr, at the depth of the language. -/
theorem d189' (w : WS) (e : Expr) (hb : w.l.length + e.ts ≤ 900000000) : Det Tryz.prog 189 [.ptr 0 0, ag e.c, pI 16] w.O (.tup []) (exprW 17 w e).H 3 := pe_all 17 (by omega) 16 w e (by omega) (by omega)
end Go.Proofs.YtpnclpbkecjinaaGreatDoorR
/-
  The printer: atoms.
-/
namespace Go.Proofs.YtpnclpbkecjinaaGreatDoorR
open Go Go.Al
set_option maxRecDepth 10000

def sCm : Str := ⟨#[44, 32]⟩
def sUn : Str := ⟨#[95]⟩
def commaW (i : Nat) (w : WS) : WS := if i = 0 then w else putA w [sCm]
def okTV (t : Term) : Bool := varB t.var && zValB t.val
def okTA (t : Term) : Bool := decide (t.var = ⟨#[]⟩) && zValB t.val
def termW (w : WS) (t : Term) : WS :=
  if t.kind = 1 then putA (mustW w (okTV t)) [t.var] else if t.kind = 2 then valueW (mustW w (decide (t.var = ⟨#[]⟩))) t.val else if t.kind = 3 then putA (mustW w (okTA t)) [sUn] else badW w
def termsW (l : List Term) (w : WS) : Nat → WS
  | 0 => w
  | i + 1 => termW (commaW i (termsW l w i)) (l.getD i default)
def atomW (w : WS) (a : Atom) : WS := putA (termsW a.terms (putA (mustW w (nameB a.rel)) [a.rel, sO]) a.terms.length) [sC]
def Term.ts (t : Term) : Nat := t.var.size + 310
def Atom.ts (a : Atom) : Nat := a.rel.size + 10 + (a.terms.map Term.ts).sum
theorem commaW_len (i : Nat) (w : WS) : (commaW i w).l.length ≤ w.l.length + 2 := by
  have e : sCm.size = 2 := rfl
  unfold commaW
  split
  · omega
  · rw [putA1_len, e]; omega
theorem termW_len (w : WS) (t : Term) : (termW w t).l.length ≤ w.l.length + 300 + t.var.size := by
  have e : sUn.size = 1 := rfl
  unfold termW
  repeat' split
  · rw [putA1_len, mustW_len]; omega
  · have := valueW_len (mustW w (decide (t.var = ⟨#[]⟩))) t.val
    rw [mustW_len] at this; omega
  · rw [putA1_len, mustW_len, e]; omega
  · rw [badW_len]; omega
theorem sumT_take : ∀ (l : List Term) (i : Nat), i < l.length → ((l.take i).map Term.ts).sum + (l.getD i default).ts ≤ (l.map Term.ts).sum
  | [], i, h => by simp at h
  | s :: r, 0, _ => by simp
  | s :: r, i + 1, h => by
    have := sumT_take r i (by simpa using h)
    simp at this ⊢; omega
theorem sumT_le : ∀ (l : List Term) (i : Nat), ((l.take i).map Term.ts).sum ≤ (l.map Term.ts).sum
  | [], i => by simp
  | s :: r, 0 => by simp
  | s :: r, i + 1 => by have := sumT_le r i; simp at this ⊢; omega
theorem termsW_len (l : List Term) (w : WS) : ∀ i, i ≤ l.length → (termsW l w i).l.length ≤ w.l.length + ((l.take i).map Term.ts).sum
  | 0, _ => by simp [termsW]
  | i + 1, h => by
    have h1 := termsW_len l w i (by omega)
    have h2 := commaW_len i (termsW l w i)
    have h3 := termW_len (commaW i (termsW l w i)) (l.getD i default)
    have h4 : (l.getD i default).ts = (l.getD i default).var.size + 310 := rfl
    have h5 : ((l.take (i + 1)).map Term.ts).sum = ((l.take i).map Term.ts).sum + (l.getD i default).ts := by
      rw [take_step (by omega), List.map_append, List.sum_append]; simp
    rw [termsW]; omega
theorem atomW_len (w : WS) (a : Atom) : (atomW w a).l.length ≤ w.l.length + a.ts := by
  have e1 : sO.size = 1 := rfl
  have e2 : sC.size = 1 := rfl
  have e3 : sizeA [a.rel, sO] = a.rel.size + 1 := by simp [sizeA, e1]
  have h1 := termsW_len a.terms (putA (mustW w (nameB a.rel)) [a.rel, sO]) a.terms.length (Nat.le_refl _)
  rw [putA_len, e3, mustW_len, List.take_length] at h1
  rw [atomW, putA1_len, e2]
  unfold Atom.ts; omega
theorem length_ts : ∀ l : List Term, l.length ≤ (l.map Term.ts).sum
  | [] => by simp
  | t :: r => by have := length_ts r; simp [Term.ts] at this ⊢; omega

set_option maxHeartbeats 1000000 in
theorem d104 (w : WS) (a : Atom) (hb : w.l.length + a.ts ≤ 900000000) : Det Tryz.prog 104 [.ptr 0 0, ag a.c] w.O (.tup []) (atomW w a).H 3 := by
  have e1 : sO.size = 1 := rfl
  have e2 : sC.size = 1 := rfl
  have e4 : sCm.size = 2 := rfl
  have e5 : sUn.size = 1 := rfl
  have e3 : sizeA [a.rel, sO] = a.rel.size + 1 := by simp [sizeA, e1]
  have hts : a.ts = a.rel.size + 10 + (a.terms.map Term.ts).sum := rfl
  have hlt := length_ts a.terms
  have hl0 : (putA (mustW w (nameB a.rel)) [a.rel, sO]).l.length = w.l.length + (a.rel.size + 1) := by rw [putA_len, e3, mustW_len]
  refine det_end tyA_ok Tryz.func104 rfl (by decide) Tryz.ntmps104 rfl (by simp) ?_
  refine goR rfl (by trivial) (go_pure (c97 a.rel) rfl rfl rfl rfl rfl rfl ?_)
  refine goR rfl (by trivial) (go_w (d146 w (nameB a.rel)) rfl rfl rfl rfl rfl rfl rfl rfl rfl rfl rfl rfl ?_)
  refine goR rfl (by trivial) (go_wp (d147 (mustW w (nameB a.rel)) [a.rel, sO] (by simp) (by rw [e3, mustW_len]; omega)) rfl rfl rfl rfl rfl rfl rfl rfl rfl rfl rfl rfl ?_)
  generalize hW : putA (mustW w (nameB a.rel)) [a.rel, sO] = w1 at *
  refine goR rfl (by trivial) ?_
  refine go_for 0 a.terms.length (Nat.zero_le _) (fun i => ⟨[(0, .ptr 0 0), (17, .iv (slc 5 a.terms Term.c)), (18, pI a.terms.length), (19, pI i)], [(0, some ((termsW a.terms w1 i).cAt 0 6)), (6, some (.brow (termsW a.terms w1 i).l 5))], 7⟩) (fun _ => True) _ trivial
    (wkW (w := w1) rfl rfl rfl rfl rfl (.refl _) (.refl _) rfl rfl rfl rfl rfl ⟨.refl _, rfl, .refl _, rfl, .refl _, rfl, .refl _, rfl, trivial⟩) fun i hi _ => ?_
  have hln := termsW_len a.terms w1 i hi
  have hsl := sumT_le a.terms i
  refine goR rfl (by trivial) ?_
  refine And.intro (fun h1 => ?_) (fun h1 => ?_)
  rotate_left
  · have h1 : a.terms.length ≤ i := Nat.le_of_not_lt fun hh => absurd (Int.ofNat_lt.2 hh) (of_decide_eq_false h1)
    have hie : i = a.terms.length := by omega
    subst hie
    refine goR rfl (by trivial) (go_wp (d147 (termsW a.terms w1 a.terms.length) [sC] (by simp) (by rw [sizeA1, e2]; omega)) rfl rfl rfl rfl rfl rfl rfl rfl rfl rfl rfl rfl ?_)
    rw [atomW, hW]
    refine goR rfl (by trivial) (end_w (by first | exact .inr rfl | exact .inl rfl) rfl rfl rfl rfl rfl (by first | exact .refl _ | exact .kb _) (by first | exact .refl _ | exact .kb _) rfl rfl rfl rfl (.refl _) rfl rfl)
  have h1 : i < a.terms.length := Int.ofNat_lt.1 (of_decide_eq_true h1)
  have hst := sumT_take a.terms i h1
  have hs : termsW a.terms w1 (i + 1) = termW (commaW i (termsW a.terms w1 i)) (a.terms.getD i default) := rfl
  have ht : (a.terms.getD i default).ts = (a.terms.getD i default).var.size + 310 := rfl
  have htv := textV_len (a.terms.getD i default).val
  have hcl := commaW_len i (termsW a.terms w1 i)
  generalize hT : termsW a.terms w1 i = w2 at *
  refine goR rfl (by simp; omega) ?_
  refine And.intro (fun h2 => ?_) (fun h2 => ?_)
  · have h2 : ¬ i = 0 := by have := of_decide_eq_true h2; omega
    rw [commaW, if_neg h2] at hs
    refine goR rfl (by trivial) (go_wp (d147 w2 [sCm] (by simp) (by rw [sizeA1, e4]; omega)) rfl rfl rfl rfl rfl rfl rfl rfl rfl rfl rfl rfl ?_)
    refine goR rfl (by trivial) ?_
    refine And.intro (fun k1 => ?_) (fun k1 => ?_)
    · have k1' : (a.terms.getD i default).kind = 1 := of_decide_eq_true k1
      rw [termW, if_pos k1'] at hs
      refine goR rfl (by trivial) (go_pure (c148 (a.terms.getD i default).var) rfl rfl rfl rfl rfl rfl ?_)
      refine goR rfl (by trivial) ?_
      refine And.intro (fun g0 => ?_) (fun g0 => ?_)
      rotate_left
      · have hx : okTV (a.terms.getD i default) = false := by have g : varB (a.terms.getD i default).var = false := g0; rw [okTV, g]; rfl
        rw [hx] at hs
        refine goR rfl (by trivial) (go_w (d146 (putA w2 [sCm]) false) rfl rfl rfl rfl rfl rfl rfl rfl rfl rfl rfl rfl ?_)
        refine goR rfl (by trivial) (go_wp (d147 (mustW (putA w2 [sCm]) false) [(a.terms.getD i default).var] (by simp) (by rw [sizeA1, mustW_len]; first | omega | (rw [putA1_len, e4]; omega))) rfl rfl rfl rfl rfl rfl rfl rfl rfl rfl rfl rfl ?_)
        refine goR rfl (by (repeat' (first | exact trivial | exact rfl | exact PVle.refl _ | exact PVle.bk (by assumption) | apply And.intro)) <;> first | omega | (simp only [Int.toNat_natCast]; omega) | (simp; done) | (simp; omega)) ⟨h1, trivial, _, wkW (hs.symm) rfl rfl rfl rfl (by first | exact .refl _ | exact .kb _) (by first | exact .refl _ | exact .kb _) rfl rfl rfl rfl rfl ⟨.refl _, rfl, .refl _, rfl, .refl _, rfl, .refl _, rfl, trivial⟩⟩
      have hx : okTV (a.terms.getD i default) = zValB (a.terms.getD i default).val := by have g : varB (a.terms.getD i default).var = true := g0; rw [okTV, g]; rfl
      rw [hx] at hs
      refine goR rfl (by trivial) (go_w (d146 (putA w2 [sCm]) (zValB (a.terms.getD i default).val)) rfl rfl rfl rfl rfl rfl rfl rfl rfl rfl rfl rfl ?_)
      refine goR rfl (by trivial) (go_wp (d147 (mustW (putA w2 [sCm]) (zValB (a.terms.getD i default).val)) [(a.terms.getD i default).var] (by simp) (by rw [sizeA1, mustW_len]; first | omega | (rw [putA1_len, e4]; omega))) rfl rfl rfl rfl rfl rfl rfl rfl rfl rfl rfl rfl ?_)
      refine goR rfl (by (repeat' (first | exact trivial | exact rfl | exact PVle.refl _ | exact PVle.bk (by assumption) | apply And.intro)) <;> first | omega | (simp only [Int.toNat_natCast]; omega) | (simp; done) | (simp; omega)) ⟨h1, trivial, _, wkW (hs.symm) rfl rfl rfl rfl (by first | exact .refl _ | exact .kb _) (by first | exact .refl _ | exact .kb _) rfl rfl rfl rfl rfl ⟨.refl _, rfl, .refl _, rfl, .refl _, rfl, .refl _, rfl, trivial⟩⟩
    have k1' : ¬ (a.terms.getD i default).kind = 1 := of_decide_eq_false k1
    refine goR rfl (by trivial) ?_
    refine And.intro (fun k2 => ?_) (fun k2 => ?_)
    · have k2' : (a.terms.getD i default).kind = 2 := of_decide_eq_true k2
      rw [termW, if_neg k1', if_pos k2'] at hs
      refine goR rfl (by trivial) (go_w (d146 (putA w2 [sCm]) (decide ((a.terms.getD i default).var = ⟨#[]⟩))) rfl rfl rfl rfl rfl rfl rfl rfl rfl rfl rfl rfl ?_)
      refine goR rfl (by trivial) (go_w (d149 (mustW (putA w2 [sCm]) (decide ((a.terms.getD i default).var = ⟨#[]⟩))) (a.terms.getD i default).val (by rw [mustW_len]; first | omega | (rw [putA1_len, e4]; omega)) (by omega)) rfl rfl rfl rfl rfl rfl rfl rfl rfl rfl rfl rfl ?_)
      refine goR rfl (by (repeat' (first | exact trivial | exact rfl | exact PVle.refl _ | exact PVle.bk (by assumption) | apply And.intro)) <;> first | omega | (simp only [Int.toNat_natCast]; omega) | (simp; done) | (simp; omega)) ⟨h1, trivial, _, wkW (hs.symm) rfl rfl rfl rfl (by first | exact .refl _ | exact .kb _) (by first | exact .refl _ | exact .kb _) rfl rfl rfl rfl rfl ⟨.refl _, rfl, .refl _, rfl, .refl _, rfl, .refl _, rfl, trivial⟩⟩
    have k2' : ¬ (a.terms.getD i default).kind = 2 := of_decide_eq_false k2
    refine goR rfl (by trivial) ?_
    refine And.intro (fun k3 => ?_) (fun k3 => ?_)
    · have k3' : (a.terms.getD i default).kind = 3 := of_decide_eq_true k3
      rw [termW, if_neg k1', if_neg k2', if_pos k3'] at hs
      refine goR rfl (by trivial) ?_
      refine And.intro (fun g0 => ?_) (fun g0 => ?_)
      rotate_left
      · have hx : okTA (a.terms.getD i default) = false := by have g : decide ((a.terms.getD i default).var = ⟨#[]⟩) = false := g0; rw [okTA, g]; rfl
        rw [hx] at hs
        refine goR rfl (by trivial) (go_w (d146 (putA w2 [sCm]) false) rfl rfl rfl rfl rfl rfl rfl rfl rfl rfl rfl rfl ?_)
        refine goR rfl (by trivial) (go_wp (d147 (mustW (putA w2 [sCm]) false) [sUn] (by simp) (by rw [sizeA1, mustW_len]; first | omega | (rw [putA1_len, e4]; omega))) rfl rfl rfl rfl rfl rfl rfl rfl rfl rfl rfl rfl ?_)
        refine goR rfl (by (repeat' (first | exact trivial | exact rfl | exact PVle.refl _ | exact PVle.bk (by assumption) | apply And.intro)) <;> first | omega | (simp only [Int.toNat_natCast]; omega) | (simp; done) | (simp; omega)) ⟨h1, trivial, _, wkW (hs.symm) rfl rfl rfl rfl (by first | exact .refl _ | exact .kb _) (by first | exact .refl _ | exact .kb _) rfl rfl rfl rfl rfl ⟨.refl _, rfl, .refl _, rfl, .refl _, rfl, .refl _, rfl, trivial⟩⟩
      have hx : okTA (a.terms.getD i default) = zValB (a.terms.getD i default).val := by have g : decide ((a.terms.getD i default).var = ⟨#[]⟩) = true := g0; rw [okTA, g]; rfl
      rw [hx] at hs
      refine goR rfl (by trivial) (go_w (d146 (putA w2 [sCm]) (zValB (a.terms.getD i default).val)) rfl rfl rfl rfl rfl rfl rfl rfl rfl rfl rfl rfl ?_)
      refine goR rfl (by trivial) (go_wp (d147 (mustW (putA w2 [sCm]) (zValB (a.terms.getD i default).val)) [sUn] (by simp) (by rw [sizeA1, mustW_len]; first | omega | (rw [putA1_len, e4]; omega))) rfl rfl rfl rfl rfl rfl rfl rfl rfl rfl rfl rfl ?_)
      refine goR rfl (by (repeat' (first | exact trivial | exact rfl | exact PVle.refl _ | exact PVle.bk (by assumption) | apply And.intro)) <;> first | omega | (simp only [Int.toNat_natCast]; omega) | (simp; done) | (simp; omega)) ⟨h1, trivial, _, wkW (hs.symm) rfl rfl rfl rfl (by first | exact .refl _ | exact .kb _) (by first | exact .refl _ | exact .kb _) rfl rfl rfl rfl rfl ⟨.refl _, rfl, .refl _, rfl, .refl _, rfl, .refl _, rfl, trivial⟩⟩
    have k3' : ¬ (a.terms.getD i default).kind = 3 := of_decide_eq_false k3
    rw [termW, if_neg k1', if_neg k2', if_neg k3'] at hs
    refine goR rfl (by (repeat' (first | exact trivial | exact rfl | exact PVle.refl _ | exact PVle.bk (by assumption) | apply And.intro)) <;> first | omega | (simp only [Int.toNat_natCast]; omega) | (simp; done) | (simp; omega)) ⟨h1, trivial, _, wkW (hs.symm) rfl rfl rfl rfl (by first | exact .refl _ | exact .kb _) (by first | exact .refl _ | exact .kb _) rfl rfl rfl rfl rfl ⟨.refl _, rfl, .refl _, rfl, .refl _, rfl, .refl _, rfl, trivial⟩⟩
  · have h2 : i = 0 := by have := of_decide_eq_false h2; omega
    rw [commaW, if_pos h2] at hs
    refine goR rfl (by trivial) ?_
    refine And.intro (fun k1 => ?_) (fun k1 => ?_)
    · have k1' : (a.terms.getD i default).kind = 1 := of_decide_eq_true k1
      rw [termW, if_pos k1'] at hs
      refine goR rfl (by trivial) (go_pure (c148 (a.terms.getD i default).var) rfl rfl rfl rfl rfl rfl ?_)
      refine goR rfl (by trivial) ?_
      refine And.intro (fun g0 => ?_) (fun g0 => ?_)
      rotate_left
      · have hx : okTV (a.terms.getD i default) = false := by have g : varB (a.terms.getD i default).var = false := g0; rw [okTV, g]; rfl
        rw [hx] at hs
        refine goR rfl (by trivial) (go_w (d146 w2 false) rfl rfl rfl rfl rfl rfl rfl rfl rfl rfl rfl rfl ?_)
        refine goR rfl (by trivial) (go_wp (d147 (mustW w2 false) [(a.terms.getD i default).var] (by simp) (by rw [sizeA1, mustW_len]; first | omega | (rw [putA1_len, e4]; omega))) rfl rfl rfl rfl rfl rfl rfl rfl rfl rfl rfl rfl ?_)
        refine goR rfl (by (repeat' (first | exact trivial | exact rfl | exact PVle.refl _ | exact PVle.bk (by assumption) | apply And.intro)) <;> first | omega | (simp only [Int.toNat_natCast]; omega) | (simp; done) | (simp; omega)) ⟨h1, trivial, _, wkW (hs.symm) rfl rfl rfl rfl (by first | exact .refl _ | exact .kb _) (by first | exact .refl _ | exact .kb _) rfl rfl rfl rfl rfl ⟨.refl _, rfl, .refl _, rfl, .refl _, rfl, .refl _, rfl, trivial⟩⟩
      have hx : okTV (a.terms.getD i default) = zValB (a.terms.getD i default).val := by have g : varB (a.terms.getD i default).var = true := g0; rw [okTV, g]; rfl
      rw [hx] at hs
      refine goR rfl (by trivial) (go_w (d146 w2 (zValB (a.terms.getD i default).val)) rfl rfl rfl rfl rfl rfl rfl rfl rfl rfl rfl rfl ?_)
      refine goR rfl (by trivial) (go_wp (d147 (mustW w2 (zValB (a.terms.getD i default).val)) [(a.terms.getD i default).var] (by simp) (by rw [sizeA1, mustW_len]; first | omega | (rw [putA1_len, e4]; omega))) rfl rfl rfl rfl rfl rfl rfl rfl rfl rfl rfl rfl ?_)
      refine goR rfl (by (repeat' (first | exact trivial | exact rfl | exact PVle.refl _ | exact PVle.bk (by assumption) | apply And.intro)) <;> first | omega | (simp only [Int.toNat_natCast]; omega) | (simp; done) | (simp; omega)) ⟨h1, trivial, _, wkW (hs.symm) rfl rfl rfl rfl (by first | exact .refl _ | exact .kb _) (by first | exact .refl _ | exact .kb _) rfl rfl rfl rfl rfl ⟨.refl _, rfl, .refl _, rfl, .refl _, rfl, .refl _, rfl, trivial⟩⟩
    have k1' : ¬ (a.terms.getD i default).kind = 1 := of_decide_eq_false k1
    refine goR rfl (by trivial) ?_
    refine And.intro (fun k2 => ?_) (fun k2 => ?_)
    · have k2' : (a.terms.getD i default).kind = 2 := of_decide_eq_true k2
      rw [termW, if_neg k1', if_pos k2'] at hs
      refine goR rfl (by trivial) (go_w (d146 w2 (decide ((a.terms.getD i default).var = ⟨#[]⟩))) rfl rfl rfl rfl rfl rfl rfl rfl rfl rfl rfl rfl ?_)
      refine goR rfl (by trivial) (go_w (d149 (mustW w2 (decide ((a.terms.getD i default).var = ⟨#[]⟩))) (a.terms.getD i default).val (by rw [mustW_len]; first | omega | (rw [putA1_len, e4]; omega)) (by omega)) rfl rfl rfl rfl rfl rfl rfl rfl rfl rfl rfl rfl ?_)
      refine goR rfl (by (repeat' (first | exact trivial | exact rfl | exact PVle.refl _ | exact PVle.bk (by assumption) | apply And.intro)) <;> first | omega | (simp only [Int.toNat_natCast]; omega) | (simp; done) | (simp; omega)) ⟨h1, trivial, _, wkW (hs.symm) rfl rfl rfl rfl (by first | exact .refl _ | exact .kb _) (by first | exact .refl _ | exact .kb _) rfl rfl rfl rfl rfl ⟨.refl _, rfl, .refl _, rfl, .refl _, rfl, .refl _, rfl, trivial⟩⟩
    have k2' : ¬ (a.terms.getD i default).kind = 2 := of_decide_eq_false k2
    refine goR rfl (by trivial) ?_
    refine And.intro (fun k3 => ?_) (fun k3 => ?_)
    · have k3' : (a.terms.getD i default).kind = 3 := of_decide_eq_true k3
      rw [termW, if_neg k1', if_neg k2', if_pos k3'] at hs
      refine goR rfl (by trivial) ?_
      refine And.intro (fun g0 => ?_) (fun g0 => ?_)
      rotate_left
      · have hx : okTA (a.terms.getD i default) = false := by have g : decide ((a.terms.getD i default).var = ⟨#[]⟩) = false := g0; rw [okTA, g]; rfl
        rw [hx] at hs
        refine goR rfl (by trivial) (go_w (d146 w2 false) rfl rfl rfl rfl rfl rfl rfl rfl rfl rfl rfl rfl ?_)
        refine goR rfl (by trivial) (go_wp (d147 (mustW w2 false) [sUn] (by simp) (by rw [sizeA1, mustW_len]; first | omega | (rw [putA1_len, e4]; omega))) rfl rfl rfl rfl rfl rfl rfl rfl rfl rfl rfl rfl ?_)
        refine goR rfl (by (repeat' (first | exact trivial | exact rfl | exact PVle.refl _ | exact PVle.bk (by assumption) | apply And.intro)) <;> first | omega | (simp only [Int.toNat_natCast]; omega) | (simp; done) | (simp; omega)) ⟨h1, trivial, _, wkW (hs.symm) rfl rfl rfl rfl (by first | exact .refl _ | exact .kb _) (by first | exact .refl _ | exact .kb _) rfl rfl rfl rfl rfl ⟨.refl _, rfl, .refl _, rfl, .refl _, rfl, .refl _, rfl, trivial⟩⟩
      have hx : okTA (a.terms.getD i default) = zValB (a.terms.getD i default).val := by have g : decide ((a.terms.getD i default).var = ⟨#[]⟩) = true := g0; rw [okTA, g]; rfl
      rw [hx] at hs
      refine goR rfl (by trivial) (go_w (d146 w2 (zValB (a.terms.getD i default).val)) rfl rfl rfl rfl rfl rfl rfl rfl rfl rfl rfl rfl ?_)
      refine goR rfl (by trivial) (go_wp (d147 (mustW w2 (zValB (a.terms.getD i default).val)) [sUn] (by simp) (by rw [sizeA1, mustW_len]; first | omega | (rw [putA1_len, e4]; omega))) rfl rfl rfl rfl rfl rfl rfl rfl rfl rfl rfl rfl ?_)
      refine goR rfl (by (repeat' (first | exact trivial | exact rfl | exact PVle.refl _ | exact PVle.bk (by assumption) | apply And.intro)) <;> first | omega | (simp only [Int.toNat_natCast]; omega) | (simp; done) | (simp; omega)) ⟨h1, trivial, _, wkW (hs.symm) rfl rfl rfl rfl (by first | exact .refl _ | exact .kb _) (by first | exact .refl _ | exact .kb _) rfl rfl rfl rfl rfl ⟨.refl _, rfl, .refl _, rfl, .refl _, rfl, .refl _, rfl, trivial⟩⟩
    have k3' : ¬ (a.terms.getD i default).kind = 3 := of_decide_eq_false k3
    rw [termW, if_neg k1', if_neg k2', if_neg k3'] at hs
    refine goR rfl (by (repeat' (first | exact trivial | exact rfl | exact PVle.refl _ | exact PVle.bk (by assumption) | apply And.intro)) <;> first | omega | (simp only [Int.toNat_natCast]; omega) | (simp; done) | (simp; omega)) ⟨h1, trivial, _, wkW (hs.symm) rfl rfl rfl rfl (by first | exact .refl _ | exact .kb _) (by first | exact .refl _ | exact .kb _) rfl rfl rfl rfl rfl ⟨.refl _, rfl, .refl _, rfl, .refl _, rfl, .refl _, rfl, trivial⟩⟩
end Go.Proofs.YtpnclpbkecjinaaGreatDoorR
/-
  The printer: literals.
-/
namespace Go.Proofs.YtpnclpbkecjinaaGreatDoorR
open Go Go.Al
set_option maxRecDepth 10000

def sNot : Str := ⟨#[110, 111, 116, 32]⟩
def sEq : Str := ⟨#[32, 61, 32]⟩
def sBr : Str := ⟨#[32, 123, 32]⟩
def sCl : Str := ⟨#[32, 58, 32]⟩
def sEnd : Str := ⟨#[32, 125]⟩
def cmpS (op : Int) : Str := if op = 1 then ⟨#[32, 61, 32]⟩ else if op = 2 then ⟨#[32, 33, 61, 32]⟩ else if op = 3 then ⟨#[32, 60, 32]⟩ else if op = 4 then ⟨#[32, 60, 61, 32]⟩ else if op = 5 then ⟨#[32, 62, 32]⟩ else ⟨#[32, 62, 61, 32]⟩
def funS (f : Int) : Str := if f = 1 then ⟨#[99, 111, 117, 110, 116]⟩ else if f = 2 then ⟨#[115, 117, 109]⟩ else if f = 3 then ⟨#[109, 105, 110]⟩ else ⟨#[109, 97, 120]⟩
def brW (w : WS) (n : Int) : WS := ⟨w.fr, w.l, w.bad, w.br + n⟩
def bodyN (f : Lit → WS → WS) (l : List Lit) (w : WS) : Nat → WS
  | 0 => w
  | i + 1 => if (bodyN f l w i).bad = true then bodyN f l w i else f (l.getD i default) (commaW i (bodyN f l w i))
def ofW (w : WS) (a : Agg) : WS := if a.func = 1 then mustW w (noExprB a.of_) else putA (exprW 17 w a.of_) [sCl]
def aggW (f : Lit → WS → WS) (w : WS) (a : Agg) : WS :=
  if a.func < 1 ∨ 5 ≤ a.func ∨ 16 ≤ w.br ∨ a.body.length = 0 then badW w
  else putA (brW (bodyN f a.body (brW (ofW (putA (mustW w (varB a.var)) [a.var, sEq, funS a.func, sBr]) a) 1) a.body.length) (-1)) [sEnd]
def litK (f : Lit → WS → WS) (l : Lit) (w : WS) : WS :=
  if l.kind = 2 then atomW (putA w [sNot]) l.atom else if l.kind = 1 then atomW w l.atom
  else if l.kind = 3 then (if l.op < 1 ∨ 7 ≤ l.op then badW (exprW 17 w l.left) else exprW 17 (putA (exprW 17 w l.left) [cmpS l.op]) l.right)
  else if l.kind = 4 then aggW f w l.agg else badW w
def litF : Nat → Lit → WS → WS
  | 0, _, w => w
  | n + 1, l, w => litK (litF n) l (mustW w (lacksB l))

/-! Braces. -/
theorem putA_br : ∀ (ss : List Str) (w : WS), (putA w ss).br = w.br
  | [], w => rfl
  | s :: r, w => putA_br r (putS w s)
theorem mustW_br (w : WS) (b : Bool) : (mustW w b).br = w.br := rfl
theorem badW_br (w : WS) : (badW w).br = w.br := rfl
theorem valueW_br (w : WS) (v : Val) : (valueW w v).br = w.br := by rw [valueW, putA_br]; rfl
theorem leafW_br (w k : WS) (e : Expr) (h : k.br = w.br) : (leafW w e k).br = w.br := by
  unfold leafW
  repeat' split
  · rfl
  · rw [putA_br]; rfl
  · rw [valueW_br]; rfl
  · exact h
  · rfl
theorem operW_br (arg : Bool → WS → Expr → WS) (harg : ∀ b w a, (arg b w a).br = w.br) (w : WS) (e : Expr) : (operW arg w e).br = w.br := by
  unfold operW
  repeat' split
  · rfl
  · rw [harg, putA_br, putA_br]
  · rw [harg, putA_br]
  · rfl
  · rw [harg, putA_br, harg]
  · rfl
theorem exprW_br : ∀ (n : Nat) (w : WS) (e : Expr), (exprW n w e).br = w.br
  | 0, w, e => rfl
  | 1, w, e => by rw [exprW]; exact leafW_br _ _ _ rfl
  | m + 2, w, e => by
    rw [exprW]
    refine leafW_br _ _ _ ?_
    rw [operW_br _ (fun b w a => ?_)]
    · rfl
    · split
      · rw [putA_br, exprW_br m, putA_br]
      · exact exprW_br (m + 1) _ _
theorem commaW_br (i : Nat) (w : WS) : (commaW i w).br = w.br := by
  unfold commaW; split
  · rfl
  · exact putA_br _ _
theorem termW_br (w : WS) (t : Term) : (termW w t).br = w.br := by
  unfold termW
  repeat' split
  · rw [putA_br]; rfl
  · rw [valueW_br]; rfl
  · rw [putA_br]; rfl
  · rfl
theorem termsW_br (l : List Term) (w : WS) : ∀ i, (termsW l w i).br = w.br
  | 0 => rfl
  | i + 1 => by rw [termsW, termW_br, commaW_br, termsW_br l w i]
theorem atomW_br (w : WS) (a : Atom) : (atomW w a).br = w.br := by rw [atomW, putA_br, termsW_br, putA_br]; rfl
theorem bodyN_br (f : Lit → WS → WS) (hf : ∀ l w, (f l w).br = w.br) (l : List Lit) (w : WS) : ∀ i, (bodyN f l w i).br = w.br
  | 0 => rfl
  | i + 1 => by
    rw [bodyN]
    split
    · exact bodyN_br f hf l w i
    · rw [hf, commaW_br, bodyN_br f hf l w i]
theorem ofW_br (w : WS) (a : Agg) : (ofW w a).br = w.br := by
  unfold ofW; split
  · rfl
  · rw [putA_br, exprW_br]
theorem aggW_br (f : Lit → WS → WS) (hf : ∀ l w, (f l w).br = w.br) (w : WS) (a : Agg) : (aggW f w a).br = w.br := by
  unfold aggW; split
  · rfl
  · rw [putA_br]
    show (bodyN _ _ _ _).br + -1 = _
    rw [bodyN_br f hf]
    show (ofW _ _).br + 1 + -1 = _
    rw [ofW_br, putA_br, mustW_br]; omega
theorem litK_br (f : Lit → WS → WS) (hf : ∀ l w, (f l w).br = w.br) (l : Lit) (w : WS) : (litK f l w).br = w.br := by
  unfold litK
  repeat' split
  · rw [atomW_br, putA_br]
  · exact atomW_br _ _
  · rw [badW_br, exprW_br]
  · rw [exprW_br, putA_br, exprW_br]
  · exact aggW_br f hf _ _
  · rfl
theorem litF_br : ∀ (n : Nat) (l : Lit) (w : WS), (litF n l w).br = w.br
  | 0, _, _ => rfl
  | n + 1, l, w => by rw [litF, litK_br (litF n) (litF_br n)]; rfl

/-! Length. -/
mutual
def Lit.ts : Lit → Nat
  | .mk _ a _ l r _ v o b _ => 100 + a.ts + l.ts + r.ts + v.size + o.ts + Lit.tss b
def Lit.tss : List Lit → Nat
  | [] => 0
  | e :: r => e.ts + Lit.tss r
end
theorem Lit.ts_eq (l : Lit) : l.ts = 100 + l.atom.ts + l.left.ts + l.right.ts + l.avar.size + l.aof.ts + Lit.tss l.abody := by cases l; rfl
theorem Lit.tss_take : ∀ (l : List Lit) (i : Nat), i < l.length → Lit.tss (l.take i) + (l.getD i default).ts ≤ Lit.tss l
  | [], i, h => by simp at h
  | s :: r, 0, _ => by simp [Lit.tss]
  | s :: r, i + 1, h => by
    have := Lit.tss_take r i (by simpa using h)
    simp only [List.take_succ_cons, Lit.tss, List.getD_cons_succ]; omega
theorem Lit.tss_le : ∀ (l : List Lit) (i : Nat), Lit.tss (l.take i) ≤ Lit.tss l
  | [], i => by simp
  | s :: r, 0 => by simp [Lit.tss]
  | s :: r, i + 1 => by have := Lit.tss_le r i; simp only [List.take_succ_cons, Lit.tss]; omega
theorem Lit.ts_pos (l : Lit) : 100 ≤ l.ts := by rw [l.ts_eq]; omega
theorem cmpS_len (op : Int) : (cmpS op).size ≤ 4 := by
  unfold cmpS
  repeat' split
  all_goals decide
theorem funS_len (op : Int) : (funS op).size ≤ 5 := by
  unfold funS
  repeat' split
  all_goals decide
/-- A literal's text takes no more than this, less four for a comma ahead. -/
def LenF (f : Lit → WS → WS) : Prop := ∀ l w, (f l w).l.length + 4 ≤ w.l.length + l.ts
theorem bodyN_len (f : Lit → WS → WS) (hf : LenF f) (l : List Lit) (w : WS) : ∀ i, i ≤ l.length → (bodyN f l w i).l.length ≤ w.l.length + Lit.tss (l.take i)
  | 0, _ => by simp [bodyN, Lit.tss]
  | i + 1, h => by
    have h1 := bodyN_len f hf l w i (by omega)
    have h5 : Lit.tss (l.take (i + 1)) = Lit.tss (l.take i) + (l.getD i default).ts := by
      rw [take_step (by omega)]
      have : ∀ (a : List Lit) (b : Lit), Lit.tss (a ++ [b]) = Lit.tss a + b.ts := by
        intro a b
        induction a with
        | nil => simp [Lit.tss]
        | cons x r ih => simp only [List.cons_append, Lit.tss, ih]; omega
      exact this _ _
    rw [bodyN]
    split
    · omega
    · have h2 := hf (l.getD i default) (commaW i (bodyN f l w i))
      have h3 := commaW_len i (bodyN f l w i)
      omega
theorem ofW_len (w : WS) (a : Agg) : (ofW w a).l.length ≤ w.l.length + a.of_.ts + 3 := by
  have e : sCl.size = 3 := rfl
  unfold ofW; split
  · rw [mustW_len]; omega
  · have := exprW_len 17 w a.of_
    rw [putA1_len, e]; omega
theorem headW_len (w : WS) (a : Agg) : (putA (mustW w (varB a.var)) [a.var, sEq, funS a.func, sBr]).l.length ≤ w.l.length + a.var.size + 11 := by
  have e1 : sEq.size = 3 := rfl
  have e2 : sBr.size = 3 := rfl
  have h := funS_len a.func
  have e : sizeA [a.var, sEq, funS a.func, sBr] = a.var.size + (3 + ((funS a.func).size + 3)) := by simp [sizeA, e1, e2]
  rw [putA_len, mustW_len, e]; omega
theorem aggW_len (f : Lit → WS → WS) (hf : LenF f) (w : WS) (a : Agg) : (aggW f w a).l.length ≤ w.l.length + a.var.size + a.of_.ts + Lit.tss a.body + 20 := by
  have e : sEnd.size = 2 := rfl
  unfold aggW; split
  · rw [badW_len]; omega
  · rw [putA1_len, e]
    show (bodyN _ _ _ _).l.length + 2 ≤ _
    have h1 := bodyN_len f hf a.body (brW (ofW (putA (mustW w (varB a.var)) [a.var, sEq, funS a.func, sBr]) a) 1) a.body.length (Nat.le_refl _)
    rw [List.take_length] at h1
    have h2 := ofW_len (putA (mustW w (varB a.var)) [a.var, sEq, funS a.func, sBr]) a
    have h3 := headW_len w a
    have h4 : (brW (ofW (putA (mustW w (varB a.var)) [a.var, sEq, funS a.func, sBr]) a) 1).l.length = (ofW (putA (mustW w (varB a.var)) [a.var, sEq, funS a.func, sBr]) a).l.length := rfl
    omega
theorem litK_len (f : Lit → WS → WS) (hf : LenF f) (l : Lit) (w : WS) : (litK f l w).l.length + 4 ≤ w.l.length + l.ts := by
  have h0 := l.ts_eq
  have e : sNot.size = 4 := rfl
  unfold litK
  repeat' split
  · have h1 := atomW_len (putA w [sNot]) l.atom
    rw [putA1_len, e] at h1; omega
  · have h1 := atomW_len w l.atom; omega
  · have h1 := exprW_len 17 w l.left
    rw [badW_len]; omega
  · have h1 := exprW_len 17 w l.left
    have h2 := exprW_len 17 (putA (exprW 17 w l.left) [cmpS l.op]) l.right
    have h3 := cmpS_len l.op
    rw [putA1_len] at h2; omega
  · have h1 := aggW_len f hf w l.agg
    have h2 : l.agg.var = l.avar := rfl
    have h3 : l.agg.of_ = l.aof := rfl
    have h4 : l.agg.body = l.abody := rfl
    rw [h2, h3, h4] at h1; omega
  · rw [badW_len]; omega
theorem litF_len : ∀ n, LenF (litF n)
  | 0 => fun l w => by have := l.ts_pos; rw [litF]; omega
  | n + 1 => fun l w => litK_len (litF n) (litF_len n) l (mustW w (lacksB l))
theorem bodyN_bad {f : Lit → WS → WS} {l : List Lit} {w : WS} {i : Nat} (h : (bodyN f l w i).bad = true) : ∀ k, bodyN f l w (i + k) = bodyN f l w i
  | 0 => rfl
  | k + 1 => by
    have := bodyN_bad h k
    rw [← Nat.add_assoc, bodyN, this, if_pos h]
end Go.Proofs.YtpnclpbkecjinaaGreatDoorR
/-
  The printer: a body's literals, aggregates, literals.
-/
namespace Go.Proofs.YtpnclpbkecjinaaGreatDoorR
open Go Go.Al
set_option maxRecDepth 10000

/-- What a contract for literals up to a size says. -/
def LitD (n : Nat) : Prop := ∀ (l : Lit) (w : WS), l.size ≤ n → 0 ≤ w.br → w.br ≤ 16 → w.l.length + l.ts ≤ 900000000 → Det Tryz.prog 155 [.ptr 0 0, ag l.c] w.O (.tup []) (litF n l w).H 3

set_option maxHeartbeats 1000000 in
theorem d214 (n : Nat) (ih : LitD n) (w : WS) (ls : List Lit) (hs : Lit.sizes ls ≤ n) (hb0 : 0 ≤ w.br) (hb1 : w.br ≤ 16) (hb : w.l.length + Lit.tss ls + 2 ≤ 900000000) (hn : n ≤ 100000000) :
    Det Tryz.prog 214 [.ptr 0 0, .iv (lits ls)] w.O (.tup []) (bodyN (litF n) ls w ls.length).H 3 := by
  have e4 : sCm.size = 2 := rfl
  have hlt := Lit.length_sizes ls
  refine det_end tyA_ok Tryz.func214 rfl (by decide) Tryz.ntmps214 rfl (by simp) ?_
  refine goR rfl (by trivial) ?_
  refine go_for 0 ls.length (Nat.zero_le _) (fun i => ⟨[(0, .ptr 0 0), (6, .iv (lits ls)), (7, pI ls.length), (8, pI i)], [(0, some ((bodyN (litF n) ls w i).cAt 0 2)), (2, some (.brow (bodyN (litF n) ls w i).l 5))], 3⟩) (fun _ => True) _ trivial
    (wkW (w := w) rfl rfl rfl rfl rfl (.refl _) (.refl _) rfl rfl rfl rfl rfl ⟨.refl _, rfl, .refl _, rfl, .refl _, rfl, .refl _, rfl, trivial⟩) fun i hi _ => ?_
  have hln := bodyN_len (litF n) (litF_len n) ls w i hi
  have hbr := bodyN_br (litF n) (litF_br n) ls w i
  have hsl := Lit.tss_le ls i
  refine goR rfl (by trivial) ?_
  refine And.intro (fun h1 => ?_) (fun h1 => ?_)
  rotate_left
  · have h1 : ls.length ≤ i := Nat.le_of_not_lt fun hh => absurd (Int.ofNat_lt.2 hh) (of_decide_eq_false h1)
    have hie : i = ls.length := by omega
    subst hie
    refine goR rfl (by trivial) (end_w (by first | exact .inr rfl | exact .inl rfl) rfl rfl rfl rfl rfl (by first | exact .refl _ | exact .kb _) (by first | exact .refl _ | exact .kb _) rfl rfl rfl rfl (.refl _) rfl rfl)
  have h1 : i < ls.length := Int.ofNat_lt.1 (of_decide_eq_true h1)
  have hst := Lit.tss_take ls i h1
  have hsg := Lit.sizes_get ls i h1
  have hs1 : bodyN (litF n) ls w (i + 1) = if (bodyN (litF n) ls w i).bad = true then bodyN (litF n) ls w i else litF n (ls.getD i default) (commaW i (bodyN (litF n) ls w i)) := rfl
  have hbad := fun h => bodyN_bad (f := litF n) (l := ls) (w := w) (i := i) h (ls.length - i)
  rw [Nat.add_sub_cancel' (Nat.le_of_lt h1)] at hbad
  have hcl := commaW_len i (bodyN (litF n) ls w i)
  have hcb := commaW_br i (bodyN (litF n) ls w i)
  generalize bodyN (litF n) ls w i = w2 at *
  refine goR rfl (by simp; omega) ?_
  refine And.intro (fun g => ?_) (fun g => ?_)
  · have g : w2.bad = true := g
    rw [hbad g]
    refine goR rfl (by trivial) (end_w (by first | exact .inr rfl | exact .inl rfl) rfl rfl rfl rfl rfl (by first | exact .refl _ | exact .kb _) (by first | exact .refl _ | exact .kb _) rfl rfl rfl rfl (.refl _) rfl rfl)
  have g : ¬ w2.bad = true := by
    have g : w2.bad = false := g
    rw [g]; decide
  rw [if_neg g] at hs1
  refine goR rfl (by trivial) ?_
  refine And.intro (fun h2 => ?_) (fun h2 => ?_)
  · have h2 : ¬ i = 0 := by have := of_decide_eq_true h2; omega
    rw [commaW, if_neg h2] at hs1 hcl hcb
    refine goR rfl (by trivial) (go_wp (d147 w2 [sCm] (by simp) (by rw [sizeA1, e4]; omega)) rfl rfl rfl rfl rfl rfl rfl rfl rfl rfl rfl rfl ?_)
    refine goR rfl (by trivial) (go_w (ih (ls.getD i default) (putA w2 [sCm]) (by omega) (by omega) (by omega) (by omega)) rfl rfl rfl rfl rfl rfl rfl rfl rfl rfl rfl rfl ?_)
    refine goR rfl (by (repeat' (first | exact trivial | exact rfl | exact PVle.refl _ | exact PVle.bk (by assumption) | apply And.intro)) <;> first | omega | (simp only [Int.toNat_natCast]; omega) | (simp; done) | (simp; omega)) ⟨h1, trivial, _, wkW (hs1.symm) rfl rfl rfl rfl (by first | exact .refl _ | exact .kb _) (by first | exact .refl _ | exact .kb _) rfl rfl rfl rfl rfl ⟨.refl _, rfl, .refl _, rfl, .refl _, rfl, .refl _, rfl, trivial⟩⟩
  · have h2 : i = 0 := by have := of_decide_eq_false h2; omega
    rw [commaW, if_pos h2] at hs1 hcl hcb
    refine goR rfl (by trivial) (go_w (ih (ls.getD i default) w2 (by omega) (by omega) (by omega) (by omega)) rfl rfl rfl rfl rfl rfl rfl rfl rfl rfl rfl rfl ?_)
    refine goR rfl (by (repeat' (first | exact trivial | exact rfl | exact PVle.refl _ | exact PVle.bk (by assumption) | apply And.intro)) <;> first | omega | (simp only [Int.toNat_natCast]; omega) | (simp; done) | (simp; omega)) ⟨h1, trivial, _, wkW (hs1.symm) rfl rfl rfl rfl (by first | exact .refl _ | exact .kb _) (by first | exact .refl _ | exact .kb _) rfl rfl rfl rfl rfl ⟨.refl _, rfl, .refl _, rfl, .refl _, rfl, .refl _, rfl, trivial⟩⟩

theorem Agg.eta (a : Agg) : a = ⟨a.func, a.var, a.of_, a.body⟩ := rfl
def Agg.ts (a : Agg) : Nat := a.var.size + a.of_.ts + Lit.tss a.body
set_option maxHeartbeats 4000000 in
theorem d190 (n : Nat) (ih : LitD n) (w : WS) (a : Agg) (hs : Lit.sizes a.body ≤ n) (hb0 : 0 ≤ w.br) (hb1 : w.br ≤ 16) (hb : w.l.length + a.ts + 30 ≤ 900000000) (hn : n ≤ 100000000) :
    Det Tryz.prog 190 [.ptr 0 0, ag a.c] w.O (.tup []) (aggW (litF n) w a).H 3 := by
  refine Det.le (args := [.ptr 0 0, ag a.c1]) ?_ ⟨.refl _, a.le1, trivial⟩
  have e4 : sEnd.size = 2 := rfl
  have e5 : sCl.size = 3 := rfl
  have hlt := Lit.length_sizes a.body
  have hts : a.ts = a.var.size + a.of_.ts + Lit.tss a.body := rfl
  have hW : ¬ (a.func < 1 ∨ 5 ≤ a.func ∨ 16 ≤ w.br ∨ a.body.length = 0) → aggW (litF n) w a = putA (brW (bodyN (litF n) a.body (brW (ofW (putA (mustW w (varB a.var)) [a.var, sEq, funS a.func, sBr]) a) 1) a.body.length) (-1)) [sEnd] := fun h => if_neg h
  have hB : a.func < 1 ∨ 5 ≤ a.func ∨ 16 ≤ w.br ∨ a.body.length = 0 → aggW (litF n) w a = badW w := fun h => if_pos h
  have hh := headW_len w a
  have hh2 := ofW_len (putA (mustW w (varB a.var)) [a.var, sEq, funS a.func, sBr]) a
  have hh3 := ofW_br (putA (mustW w (varB a.var)) [a.var, sEq, funS a.func, sBr]) a
  rw [putA_br, mustW_br] at hh3
  have hh4 : (brW (ofW (putA (mustW w (varB a.var)) [a.var, sEq, funS a.func, sBr]) a) 1).l.length = (ofW (putA (mustW w (varB a.var)) [a.var, sEq, funS a.func, sBr]) a).l.length := rfl
  have hh5 : (brW (ofW (putA (mustW w (varB a.var)) [a.var, sEq, funS a.func, sBr]) a) 1).br = (ofW (putA (mustW w (varB a.var)) [a.var, sEq, funS a.func, sBr]) a).br + 1 := rfl
  have hh6 := bodyN_len (litF n) (litF_len n) a.body (brW (ofW (putA (mustW w (varB a.var)) [a.var, sEq, funS a.func, sBr]) a) 1) a.body.length (Nat.le_refl _)
  rw [List.take_length] at hh6
  have hh7 := bodyN_br (litF n) (litF_br n) a.body (brW (ofW (putA (mustW w (varB a.var)) [a.var, sEq, funS a.func, sBr]) a) 1) a.body.length
  have hz1 : sizeA [a.var, sEq, funS a.func, sBr] = a.var.size + (3 + ((funS a.func).size + 3)) := by simp [sizeA, sEq, sBr]; rfl
  have hz2 := funS_len a.func
  obtain ⟨func, var, of_, body⟩ := a
  dsimp only at *
  refine det_end tyA_ok Tryz.func190 rfl (by decide) Tryz.ntmps190 rfl (by simp) ?_
  refine goR rfl (by trivial) ?_
  refine And.intro (fun g1 => ?_) (fun g1 => ?_)
  rotate_left
  · rw [hB (.inl (of_decide_eq_true g1))]
    refine goR rfl (by trivial) (end_w (by first | exact .inr rfl | exact .inl rfl) rfl rfl rfl rfl rfl (by first | exact .refl _ | exact .kb _) (by first | exact .refl _ | exact .kb _) rfl rfl rfl rfl (.refl _) rfl rfl)
  refine goR rfl (by trivial) ?_
  refine And.intro (fun g2 => ?_) (fun g2 => ?_)
  rotate_left
  · rw [hB (.inr (.inl (of_decide_eq_true g2)))]
    refine goR rfl (by trivial) (end_w (by first | exact .inr rfl | exact .inl rfl) rfl rfl rfl rfl rfl (by first | exact .refl _ | exact .kb _) (by first | exact .refl _ | exact .kb _) rfl rfl rfl rfl (.refl _) rfl rfl)
  refine goR rfl (by trivial) ?_
  refine And.intro (fun g3 => ?_) (fun g3 => ?_)
  rotate_left
  · rw [hB (.inr (.inr (.inl (of_decide_eq_true g3))))]
    refine goR rfl (by trivial) (end_w (by first | exact .inr rfl | exact .inl rfl) rfl rfl rfl rfl rfl (by first | exact .refl _ | exact .kb _) (by first | exact .refl _ | exact .kb _) rfl rfl rfl rfl (.refl _) rfl rfl)
  refine goR rfl (by trivial) ?_
  refine And.intro (fun g4 => ?_) (fun g4 => ?_)
  · rw [hB (.inr (.inr (.inr (Int.ofNat_eq_zero.1 (of_decide_eq_true g4)))))]
    refine goR rfl (by trivial) (end_w (by first | exact .inr rfl | exact .inl rfl) rfl rfl rfl rfl rfl (by first | exact .refl _ | exact .kb _) (by first | exact .refl _ | exact .kb _) rfl rfl rfl rfl (.refl _) rfl rfl)
  have g1 : ¬ func < 1 := of_decide_eq_false g1
  have g2 : ¬ func ≥ 5 := of_decide_eq_false g2
  have g3 : ¬ w.br ≥ 16 := of_decide_eq_false g3
  have g4 : ¬ body.length = 0 := fun h => of_decide_eq_false g4 (Int.ofNat_eq_zero.2 h)
  rw [hW (by rintro (h | h | h | h) <;> omega)]
  have hf : func = 1 ∨ func = 2 ∨ func = 3 ∨ func = 4 := by omega
  clear hW hB
  rcases hf with rfl | rfl | rfl | rfl
  · have e : funS 1 = ⟨#[99, 111, 117, 110, 116]⟩ := rfl
    rw [e] at hh hh2 hh3 hh4 hh5 hh6 hh7 hz1 hz2 ⊢
    refine goR rfl (by trivial) (go_pure (c148 var) rfl rfl rfl rfl rfl rfl ?_)
    refine goR rfl (by trivial) (go_w (d146 w (varB var)) rfl rfl rfl rfl rfl rfl rfl rfl rfl rfl rfl rfl ?_)
    refine goR rfl (by (repeat' (first | exact trivial | exact rfl | exact PVle.refl _ | exact PVle.bk (by assumption) | apply And.intro)) <;> first | omega | (simp only [Int.toNat_natCast]; omega) | (simp; done) | (simp; omega)) (go_dwp (d147 (mustW w (varB var)) [var, sEq, ⟨#[99, 111, 117, 110, 116]⟩, sBr] (by simp) (by rw [hz1, mustW_len]; omega)) rfl rfl rfl rfl rfl rfl rfl rfl rfl rfl rfl rfl rfl rfl rfl rfl (by trivial) rfl (by (repeat' (first | exact trivial | exact rfl | exact PVle.refl _ | exact PVle.bk (by assumption) | apply And.intro)) <;> first | omega | (simp only [Int.toNat_natCast]; omega) | (simp; done) | (simp; omega)) ?_)
    generalize hW1 : putA (mustW w (varB var)) [var, sEq, ⟨#[99, 111, 117, 110, 116]⟩, sBr] = w1 at *
    have eo : ofW w1 ⟨1, var, of_, body⟩ = mustW w1 (noExprB of_) := rfl
    rw [eo] at hh2 hh3 hh4 hh5 hh6 hh7 ⊢
    refine goR rfl (by trivial) ?_
    refine And.intro (fun q => ?_) (fun q => ?_)
    rotate_left
    · exact absurd (show true = false from q) (by decide)
    refine goR rfl (by trivial) (go_pure (c211 of_) rfl rfl rfl rfl rfl rfl ?_)
    refine goR rfl (by trivial) (go_w (d146 w1 (noExprB of_)) rfl rfl rfl rfl rfl rfl rfl rfl rfl rfl rfl rfl ?_)
    generalize mustW w1 (noExprB of_) = w2 at *
    refine goR rfl (by (repeat' (first | exact trivial | exact rfl | exact PVle.refl _ | exact PVle.bk (by assumption) | apply And.intro)) <;> first | omega | (simp only [Int.toNat_natCast]; omega) | (simp; done) | (simp; omega)) (go_w (d214 n ih (brW w2 1) body hs (by omega) (by omega) (by omega) hn) rfl rfl rfl rfl rfl rfl rfl rfl rfl rfl rfl rfl ?_)
    generalize bodyN (litF n) body (brW w2 1) body.length = w3 at *
    refine goR rfl (by (repeat' (first | exact trivial | exact rfl | exact PVle.refl _ | exact PVle.bk (by assumption) | apply And.intro)) <;> first | omega | (simp only [Int.toNat_natCast]; omega) | (simp; done) | (simp; omega)) (go_wp (d147 (brW w3 (-1)) [sEnd] (by simp) (by rw [sizeA1, e4]; show w3.l.length + 2 ≤ _; omega)) rfl rfl rfl rfl rfl rfl rfl rfl rfl rfl rfl rfl ?_)
    refine goR rfl (by trivial) (end_w (by first | exact .inr rfl | exact .inl rfl) rfl rfl rfl rfl rfl (by first | exact .refl _ | exact .kb _) (by first | exact .refl _ | exact .kb _) rfl rfl rfl rfl (.refl _) rfl rfl)
  · have e : funS 2 = ⟨#[115, 117, 109]⟩ := rfl
    rw [e] at hh hh2 hh3 hh4 hh5 hh6 hh7 hz1 hz2 ⊢
    refine goR rfl (by trivial) (go_pure (c148 var) rfl rfl rfl rfl rfl rfl ?_)
    refine goR rfl (by trivial) (go_w (d146 w (varB var)) rfl rfl rfl rfl rfl rfl rfl rfl rfl rfl rfl rfl ?_)
    refine goR rfl (by (repeat' (first | exact trivial | exact rfl | exact PVle.refl _ | exact PVle.bk (by assumption) | apply And.intro)) <;> first | omega | (simp only [Int.toNat_natCast]; omega) | (simp; done) | (simp; omega)) (go_dwp (d147 (mustW w (varB var)) [var, sEq, ⟨#[115, 117, 109]⟩, sBr] (by simp) (by rw [hz1, mustW_len]; omega)) rfl rfl rfl rfl rfl rfl rfl rfl rfl rfl rfl rfl rfl rfl rfl rfl (by trivial) rfl (by (repeat' (first | exact trivial | exact rfl | exact PVle.refl _ | exact PVle.bk (by assumption) | apply And.intro)) <;> first | omega | (simp only [Int.toNat_natCast]; omega) | (simp; done) | (simp; omega)) ?_)
    generalize hW1 : putA (mustW w (varB var)) [var, sEq, ⟨#[115, 117, 109]⟩, sBr] = w1 at *
    have eo : ofW w1 ⟨2, var, of_, body⟩ = putA (exprW 17 w1 of_) [sCl] := rfl
    rw [eo] at hh2 hh3 hh4 hh5 hh6 hh7 ⊢
    refine goR rfl (by trivial) ?_
    refine And.intro (fun q => ?_) (fun q => ?_)
    · exact absurd (show false = true from q) (by decide)
    have hx := exprW_len 17 w1 of_
    refine goR rfl (by trivial) (go_w (d189' w1 of_ (by omega)) rfl rfl rfl rfl rfl rfl rfl rfl rfl rfl rfl rfl ?_)
    refine goR rfl (by trivial) (go_wp (d147 (exprW 17 w1 of_) [sCl] (by simp) (by rw [sizeA1, e5]; omega)) rfl rfl rfl rfl rfl rfl rfl rfl rfl rfl rfl rfl ?_)
    generalize putA (exprW 17 w1 of_) [sCl] = w2 at *
    refine goR rfl (by (repeat' (first | exact trivial | exact rfl | exact PVle.refl _ | exact PVle.bk (by assumption) | apply And.intro)) <;> first | omega | (simp only [Int.toNat_natCast]; omega) | (simp; done) | (simp; omega)) (go_w (d214 n ih (brW w2 1) body hs (by omega) (by omega) (by omega) hn) rfl rfl rfl rfl rfl rfl rfl rfl rfl rfl rfl rfl ?_)
    generalize bodyN (litF n) body (brW w2 1) body.length = w3 at *
    refine goR rfl (by (repeat' (first | exact trivial | exact rfl | exact PVle.refl _ | exact PVle.bk (by assumption) | apply And.intro)) <;> first | omega | (simp only [Int.toNat_natCast]; omega) | (simp; done) | (simp; omega)) (go_wp (d147 (brW w3 (-1)) [sEnd] (by simp) (by rw [sizeA1, e4]; show w3.l.length + 2 ≤ _; omega)) rfl rfl rfl rfl rfl rfl rfl rfl rfl rfl rfl rfl ?_)
    refine goR rfl (by trivial) (end_w (by first | exact .inr rfl | exact .inl rfl) rfl rfl rfl rfl rfl (by first | exact .refl _ | exact .kb _) (by first | exact .refl _ | exact .kb _) rfl rfl rfl rfl (.refl _) rfl rfl)
  · have e : funS 3 = ⟨#[109, 105, 110]⟩ := rfl
    rw [e] at hh hh2 hh3 hh4 hh5 hh6 hh7 hz1 hz2 ⊢
    refine goR rfl (by trivial) (go_pure (c148 var) rfl rfl rfl rfl rfl rfl ?_)
    refine goR rfl (by trivial) (go_w (d146 w (varB var)) rfl rfl rfl rfl rfl rfl rfl rfl rfl rfl rfl rfl ?_)
    refine goR rfl (by (repeat' (first | exact trivial | exact rfl | exact PVle.refl _ | exact PVle.bk (by assumption) | apply And.intro)) <;> first | omega | (simp only [Int.toNat_natCast]; omega) | (simp; done) | (simp; omega)) (go_dwp (d147 (mustW w (varB var)) [var, sEq, ⟨#[109, 105, 110]⟩, sBr] (by simp) (by rw [hz1, mustW_len]; omega)) rfl rfl rfl rfl rfl rfl rfl rfl rfl rfl rfl rfl rfl rfl rfl rfl (by trivial) rfl (by (repeat' (first | exact trivial | exact rfl | exact PVle.refl _ | exact PVle.bk (by assumption) | apply And.intro)) <;> first | omega | (simp only [Int.toNat_natCast]; omega) | (simp; done) | (simp; omega)) ?_)
    generalize hW1 : putA (mustW w (varB var)) [var, sEq, ⟨#[109, 105, 110]⟩, sBr] = w1 at *
    have eo : ofW w1 ⟨3, var, of_, body⟩ = putA (exprW 17 w1 of_) [sCl] := rfl
    rw [eo] at hh2 hh3 hh4 hh5 hh6 hh7 ⊢
    refine goR rfl (by trivial) ?_
    refine And.intro (fun q => ?_) (fun q => ?_)
    · exact absurd (show false = true from q) (by decide)
    have hx := exprW_len 17 w1 of_
    refine goR rfl (by trivial) (go_w (d189' w1 of_ (by omega)) rfl rfl rfl rfl rfl rfl rfl rfl rfl rfl rfl rfl ?_)
    refine goR rfl (by trivial) (go_wp (d147 (exprW 17 w1 of_) [sCl] (by simp) (by rw [sizeA1, e5]; omega)) rfl rfl rfl rfl rfl rfl rfl rfl rfl rfl rfl rfl ?_)
    generalize putA (exprW 17 w1 of_) [sCl] = w2 at *
    refine goR rfl (by (repeat' (first | exact trivial | exact rfl | exact PVle.refl _ | exact PVle.bk (by assumption) | apply And.intro)) <;> first | omega | (simp only [Int.toNat_natCast]; omega) | (simp; done) | (simp; omega)) (go_w (d214 n ih (brW w2 1) body hs (by omega) (by omega) (by omega) hn) rfl rfl rfl rfl rfl rfl rfl rfl rfl rfl rfl rfl ?_)
    generalize bodyN (litF n) body (brW w2 1) body.length = w3 at *
    refine goR rfl (by (repeat' (first | exact trivial | exact rfl | exact PVle.refl _ | exact PVle.bk (by assumption) | apply And.intro)) <;> first | omega | (simp only [Int.toNat_natCast]; omega) | (simp; done) | (simp; omega)) (go_wp (d147 (brW w3 (-1)) [sEnd] (by simp) (by rw [sizeA1, e4]; show w3.l.length + 2 ≤ _; omega)) rfl rfl rfl rfl rfl rfl rfl rfl rfl rfl rfl rfl ?_)
    refine goR rfl (by trivial) (end_w (by first | exact .inr rfl | exact .inl rfl) rfl rfl rfl rfl rfl (by first | exact .refl _ | exact .kb _) (by first | exact .refl _ | exact .kb _) rfl rfl rfl rfl (.refl _) rfl rfl)
  · have e : funS 4 = ⟨#[109, 97, 120]⟩ := rfl
    rw [e] at hh hh2 hh3 hh4 hh5 hh6 hh7 hz1 hz2 ⊢
    refine goR rfl (by trivial) (go_pure (c148 var) rfl rfl rfl rfl rfl rfl ?_)
    refine goR rfl (by trivial) (go_w (d146 w (varB var)) rfl rfl rfl rfl rfl rfl rfl rfl rfl rfl rfl rfl ?_)
    refine goR rfl (by (repeat' (first | exact trivial | exact rfl | exact PVle.refl _ | exact PVle.bk (by assumption) | apply And.intro)) <;> first | omega | (simp only [Int.toNat_natCast]; omega) | (simp; done) | (simp; omega)) (go_dwp (d147 (mustW w (varB var)) [var, sEq, ⟨#[109, 97, 120]⟩, sBr] (by simp) (by rw [hz1, mustW_len]; omega)) rfl rfl rfl rfl rfl rfl rfl rfl rfl rfl rfl rfl rfl rfl rfl rfl (by trivial) rfl (by (repeat' (first | exact trivial | exact rfl | exact PVle.refl _ | exact PVle.bk (by assumption) | apply And.intro)) <;> first | omega | (simp only [Int.toNat_natCast]; omega) | (simp; done) | (simp; omega)) ?_)
    generalize hW1 : putA (mustW w (varB var)) [var, sEq, ⟨#[109, 97, 120]⟩, sBr] = w1 at *
    have eo : ofW w1 ⟨4, var, of_, body⟩ = putA (exprW 17 w1 of_) [sCl] := rfl
    rw [eo] at hh2 hh3 hh4 hh5 hh6 hh7 ⊢
    refine goR rfl (by trivial) ?_
    refine And.intro (fun q => ?_) (fun q => ?_)
    · exact absurd (show false = true from q) (by decide)
    have hx := exprW_len 17 w1 of_
    refine goR rfl (by trivial) (go_w (d189' w1 of_ (by omega)) rfl rfl rfl rfl rfl rfl rfl rfl rfl rfl rfl rfl ?_)
    refine goR rfl (by trivial) (go_wp (d147 (exprW 17 w1 of_) [sCl] (by simp) (by rw [sizeA1, e5]; omega)) rfl rfl rfl rfl rfl rfl rfl rfl rfl rfl rfl rfl ?_)
    generalize putA (exprW 17 w1 of_) [sCl] = w2 at *
    refine goR rfl (by (repeat' (first | exact trivial | exact rfl | exact PVle.refl _ | exact PVle.bk (by assumption) | apply And.intro)) <;> first | omega | (simp only [Int.toNat_natCast]; omega) | (simp; done) | (simp; omega)) (go_w (d214 n ih (brW w2 1) body hs (by omega) (by omega) (by omega) hn) rfl rfl rfl rfl rfl rfl rfl rfl rfl rfl rfl rfl ?_)
    generalize bodyN (litF n) body (brW w2 1) body.length = w3 at *
    refine goR rfl (by (repeat' (first | exact trivial | exact rfl | exact PVle.refl _ | exact PVle.bk (by assumption) | apply And.intro)) <;> first | omega | (simp only [Int.toNat_natCast]; omega) | (simp; done) | (simp; omega)) (go_wp (d147 (brW w3 (-1)) [sEnd] (by simp) (by rw [sizeA1, e4]; show w3.l.length + 2 ≤ _; omega)) rfl rfl rfl rfl rfl rfl rfl rfl rfl rfl rfl rfl ?_)
    refine goR rfl (by trivial) (end_w (by first | exact .inr rfl | exact .inl rfl) rfl rfl rfl rfl rfl (by first | exact .refl _ | exact .kb _) (by first | exact .refl _ | exact .kb _) rfl rfl rfl rfl (.refl _) rfl rfl)
/-! Literals. -/

set_option maxHeartbeats 4000000 in
theorem d155_succ (n : Nat) (ih : LitD n) (hn : n ≤ 100000000) : LitD (n + 1) := by
  intro l w hs hb0 hb1 hb
  have e4 : sNot.size = 4 := rfl
  have hsz := l.size_eq
  have hts := l.ts_eq
  have hag : l.agg.ts = l.avar.size + l.aof.ts + Lit.tss l.abody := rfl
  have hL : litF (n + 1) l w = litK (litF n) l (mustW w (lacksB l)) := rfl
  rw [hL]
  have hm1 : (mustW w (lacksB l)).l.length = w.l.length := rfl
  have hm2 := mustW_br w (lacksB l)
  have hx := exprW_len 17 (mustW w (lacksB l)) l.left
  obtain ⟨kind, atom, op, left, right, afunc, avar, aof, abody, at_⟩ := l
  dsimp only [Lit.atom, Lit.left, Lit.right, Lit.avar, Lit.aof, Lit.abody] at hsz hts hag hx
  refine det_end tyA_ok Tryz.func155 rfl (by decide) Tryz.ntmps155 rfl (by simp) ?_
  refine goR rfl (by trivial) (go_pure (c188 (.mk kind atom op left right afunc avar aof abody at_)) rfl rfl rfl rfl rfl rfl ?_)
  refine goR rfl (by trivial) (go_w (d146 w (lacksB (.mk kind atom op left right afunc avar aof abody at_))) rfl rfl rfl rfl rfl rfl rfl rfl rfl rfl rfl rfl ?_)
  generalize mustW w (lacksB (.mk kind atom op left right afunc avar aof abody at_)) = w1 at *
  have hK : litK (litF n) (.mk kind atom op left right afunc avar aof abody at_) w1 = if kind = 2 then atomW (putA w1 [sNot]) atom else if kind = 1 then atomW w1 atom
    else if kind = 3 then (if op < 1 ∨ 7 ≤ op then badW (exprW 17 w1 left) else exprW 17 (putA (exprW 17 w1 left) [cmpS op]) right)
    else if kind = 4 then aggW (litF n) w1 (Lit.mk kind atom op left right afunc avar aof abody at_).agg else badW w1 := rfl
  rw [hK]
  refine goR rfl (by trivial) ?_
  refine And.intro (fun k2 => ?_) (fun k2 => ?_)
  · have k2 : kind = 2 := of_decide_eq_true k2
    rw [if_pos k2]
    refine goR rfl (by trivial) (go_wp (d147 w1 [sNot] (by simp) (by rw [sizeA1, e4]; omega)) rfl rfl rfl rfl rfl rfl rfl rfl rfl rfl rfl rfl ?_)
    refine goR rfl (by trivial) (go_w (d104 (putA w1 [sNot]) atom (by rw [putA1_len, e4]; omega)) rfl rfl rfl rfl rfl rfl rfl rfl rfl rfl rfl rfl ?_)
    refine goR rfl (by trivial) (end_w (by first | exact .inr rfl | exact .inl rfl) rfl rfl rfl rfl rfl (by first | exact .refl _ | exact .kb _) (by first | exact .refl _ | exact .kb _) rfl rfl rfl rfl (.refl _) rfl rfl)
  have k2 : ¬ kind = 2 := of_decide_eq_false k2
  rw [if_neg k2]
  refine goR rfl (by trivial) ?_
  refine And.intro (fun k1 => ?_) (fun k1 => ?_)
  · have k1 : kind = 1 := of_decide_eq_true k1
    rw [if_pos k1]
    refine goR rfl (by trivial) (go_w (d104 w1 atom (by omega)) rfl rfl rfl rfl rfl rfl rfl rfl rfl rfl rfl rfl ?_)
    refine goR rfl (by trivial) (end_w (by first | exact .inr rfl | exact .inl rfl) rfl rfl rfl rfl rfl (by first | exact .refl _ | exact .kb _) (by first | exact .refl _ | exact .kb _) rfl rfl rfl rfl (.refl _) rfl rfl)
  have k1 : ¬ kind = 1 := of_decide_eq_false k1
  rw [if_neg k1]
  refine goR rfl (by trivial) ?_
  refine And.intro (fun k3 => ?_) (fun k3 => ?_)
  rotate_left
  · have k3 : ¬ kind = 3 := of_decide_eq_false k3
    rw [if_neg k3]
    refine goR rfl (by trivial) ?_
    refine And.intro (fun k4 => ?_) (fun k4 => ?_)
    · have k4 : kind = 4 := of_decide_eq_true k4
      rw [if_pos k4]
      refine goR rfl (by trivial) (go_w (d190 n ih w1 (Lit.mk kind atom op left right afunc avar aof abody at_).agg (by show Lit.sizes abody ≤ n; omega) (by omega) (by omega) (by omega) hn) rfl rfl rfl rfl rfl rfl rfl rfl rfl rfl rfl rfl ?_)
      refine goR rfl (by trivial) (end_w (by first | exact .inr rfl | exact .inl rfl) rfl rfl rfl rfl rfl (by first | exact .refl _ | exact .kb _) (by first | exact .refl _ | exact .kb _) rfl rfl rfl rfl (.refl _) rfl rfl)
    · have k4 : ¬ kind = 4 := of_decide_eq_false k4
      rw [if_neg k4]
      refine goR rfl (by trivial) (end_w (by first | exact .inr rfl | exact .inl rfl) rfl rfl rfl rfl rfl (by first | exact .refl _ | exact .kb _) (by first | exact .refl _ | exact .kb _) rfl rfl rfl rfl (.refl _) rfl rfl)
  have k3 : kind = 3 := of_decide_eq_true k3
  rw [if_pos k3]
  refine goR rfl (by trivial) (go_w (d189' w1 left (by omega)) rfl rfl rfl rfl rfl rfl rfl rfl rfl rfl rfl rfl ?_)
  refine goR rfl (by trivial) ?_
  refine And.intro (fun g1 => ?_) (fun g1 => ?_)
  rotate_left
  · rw [if_pos (.inl (of_decide_eq_true g1))]
    refine goR rfl (by trivial) (end_w (by first | exact .inr rfl | exact .inl rfl) rfl rfl rfl rfl rfl (by first | exact .refl _ | exact .kb _) (by first | exact .refl _ | exact .kb _) rfl rfl rfl rfl (.refl _) rfl rfl)
  refine goR rfl (by trivial) ?_
  refine And.intro (fun g2 => ?_) (fun g2 => ?_)
  · rw [if_pos (.inr (of_decide_eq_true g2))]
    refine goR rfl (by trivial) (end_w (by first | exact .inr rfl | exact .inl rfl) rfl rfl rfl rfl rfl (by first | exact .refl _ | exact .kb _) (by first | exact .refl _ | exact .kb _) rfl rfl rfl rfl (.refl _) rfl rfl)
  have g1 : ¬ op < 1 := of_decide_eq_false g1
  have g2 : ¬ op ≥ 7 := of_decide_eq_false g2
  rw [if_neg (by rintro (h | h) <;> omega)]
  generalize exprW 17 w1 left = w2 at *
  have ho : op = 1 ∨ op = 2 ∨ op = 3 ∨ op = 4 ∨ op = 5 ∨ op = 6 := by omega
  clear hK hL
  rcases ho with rfl | rfl | rfl | rfl | rfl | rfl
  · have e : cmpS 1 = ⟨#[32, 61, 32]⟩ := rfl
    have e6 : ((⟨#[32, 61, 32]⟩ : Str)).size = 3 := rfl
    rw [e]
    refine goR rfl (by dsimp only [Lit.op]; exact (by trivial)) (go_wp (d147 w2 [⟨#[32, 61, 32]⟩] (by simp) (by rw [sizeA1, e6]; omega)) rfl rfl rfl rfl rfl rfl rfl rfl rfl rfl rfl rfl ?_)
    refine goR rfl (by trivial) (go_w (d189' (putA w2 [⟨#[32, 61, 32]⟩]) right (by rw [putA1_len, e6]; omega)) rfl rfl rfl rfl rfl rfl rfl rfl rfl rfl rfl rfl ?_)
    refine goR rfl (by trivial) (end_w (by first | exact .inr rfl | exact .inl rfl) rfl rfl rfl rfl rfl (by first | exact .refl _ | exact .kb _) (by first | exact .refl _ | exact .kb _) rfl rfl rfl rfl (.refl _) rfl rfl)
  · have e : cmpS 2 = ⟨#[32, 33, 61, 32]⟩ := rfl
    have e6 : ((⟨#[32, 33, 61, 32]⟩ : Str)).size = 4 := rfl
    rw [e]
    refine goR rfl (by dsimp only [Lit.op]; exact (by trivial)) (go_wp (d147 w2 [⟨#[32, 33, 61, 32]⟩] (by simp) (by rw [sizeA1, e6]; omega)) rfl rfl rfl rfl rfl rfl rfl rfl rfl rfl rfl rfl ?_)
    refine goR rfl (by trivial) (go_w (d189' (putA w2 [⟨#[32, 33, 61, 32]⟩]) right (by rw [putA1_len, e6]; omega)) rfl rfl rfl rfl rfl rfl rfl rfl rfl rfl rfl rfl ?_)
    refine goR rfl (by trivial) (end_w (by first | exact .inr rfl | exact .inl rfl) rfl rfl rfl rfl rfl (by first | exact .refl _ | exact .kb _) (by first | exact .refl _ | exact .kb _) rfl rfl rfl rfl (.refl _) rfl rfl)
  · have e : cmpS 3 = ⟨#[32, 60, 32]⟩ := rfl
    have e6 : ((⟨#[32, 60, 32]⟩ : Str)).size = 3 := rfl
    rw [e]
    refine goR rfl (by dsimp only [Lit.op]; exact (by trivial)) (go_wp (d147 w2 [⟨#[32, 60, 32]⟩] (by simp) (by rw [sizeA1, e6]; omega)) rfl rfl rfl rfl rfl rfl rfl rfl rfl rfl rfl rfl ?_)
    refine goR rfl (by trivial) (go_w (d189' (putA w2 [⟨#[32, 60, 32]⟩]) right (by rw [putA1_len, e6]; omega)) rfl rfl rfl rfl rfl rfl rfl rfl rfl rfl rfl rfl ?_)
    refine goR rfl (by trivial) (end_w (by first | exact .inr rfl | exact .inl rfl) rfl rfl rfl rfl rfl (by first | exact .refl _ | exact .kb _) (by first | exact .refl _ | exact .kb _) rfl rfl rfl rfl (.refl _) rfl rfl)
  · have e : cmpS 4 = ⟨#[32, 60, 61, 32]⟩ := rfl
    have e6 : ((⟨#[32, 60, 61, 32]⟩ : Str)).size = 4 := rfl
    rw [e]
    refine goR rfl (by dsimp only [Lit.op]; exact (by trivial)) (go_wp (d147 w2 [⟨#[32, 60, 61, 32]⟩] (by simp) (by rw [sizeA1, e6]; omega)) rfl rfl rfl rfl rfl rfl rfl rfl rfl rfl rfl rfl ?_)
    refine goR rfl (by trivial) (go_w (d189' (putA w2 [⟨#[32, 60, 61, 32]⟩]) right (by rw [putA1_len, e6]; omega)) rfl rfl rfl rfl rfl rfl rfl rfl rfl rfl rfl rfl ?_)
    refine goR rfl (by trivial) (end_w (by first | exact .inr rfl | exact .inl rfl) rfl rfl rfl rfl rfl (by first | exact .refl _ | exact .kb _) (by first | exact .refl _ | exact .kb _) rfl rfl rfl rfl (.refl _) rfl rfl)
  · have e : cmpS 5 = ⟨#[32, 62, 32]⟩ := rfl
    have e6 : ((⟨#[32, 62, 32]⟩ : Str)).size = 3 := rfl
    rw [e]
    refine goR rfl (by dsimp only [Lit.op]; exact (by trivial)) (go_wp (d147 w2 [⟨#[32, 62, 32]⟩] (by simp) (by rw [sizeA1, e6]; omega)) rfl rfl rfl rfl rfl rfl rfl rfl rfl rfl rfl rfl ?_)
    refine goR rfl (by trivial) (go_w (d189' (putA w2 [⟨#[32, 62, 32]⟩]) right (by rw [putA1_len, e6]; omega)) rfl rfl rfl rfl rfl rfl rfl rfl rfl rfl rfl rfl ?_)
    refine goR rfl (by trivial) (end_w (by first | exact .inr rfl | exact .inl rfl) rfl rfl rfl rfl rfl (by first | exact .refl _ | exact .kb _) (by first | exact .refl _ | exact .kb _) rfl rfl rfl rfl (.refl _) rfl rfl)
  · have e : cmpS 6 = ⟨#[32, 62, 61, 32]⟩ := rfl
    have e6 : ((⟨#[32, 62, 61, 32]⟩ : Str)).size = 4 := rfl
    rw [e]
    refine goR rfl (by dsimp only [Lit.op]; exact (by trivial)) (go_wp (d147 w2 [⟨#[32, 62, 61, 32]⟩] (by simp) (by rw [sizeA1, e6]; omega)) rfl rfl rfl rfl rfl rfl rfl rfl rfl rfl rfl rfl ?_)
    refine goR rfl (by trivial) (go_w (d189' (putA w2 [⟨#[32, 62, 61, 32]⟩]) right (by rw [putA1_len, e6]; omega)) rfl rfl rfl rfl rfl rfl rfl rfl rfl rfl rfl rfl ?_)
    refine goR rfl (by trivial) (end_w (by first | exact .inr rfl | exact .inl rfl) rfl rfl rfl rfl rfl (by first | exact .refl _ | exact .kb _) (by first | exact .refl _ | exact .kb _) rfl rfl rfl rfl (.refl _) rfl rfl)
theorem litD : ∀ n, n ≤ 100000001 → LitD n
  | 0, _ => fun l w hs => by have := l.size_pos; omega
  | n + 1, h => d155_succ n (litD n (by omega)) (by omega)
end Go.Proofs.YtpnclpbkecjinaaGreatDoorR
/-
  The printer's exported functions.
-/
namespace Go.Proofs.YtpnclpbkecjinaaGreatDoorR
open Go Go.Al
set_option maxRecDepth 10000

abbrev WS.o : WS := ⟨true, [], false, 0⟩
section
variable {nt : Nat} {Q : AQ} {k : List KI} {s : AS}
/-- A writer of zeros. -/
def wN (s : AS) (i : Nat) : AS := match s with | ⟨f, h, n⟩ => ⟨f, (i, some (WS.o.cAt i n)) :: (n, some (.brow [] 5)) :: h, n + 1⟩
theorem go_wnew {P : Program} {c : Code} {s' : AS} (i : Nat) (hi : s.h.get i = some (.cells [.iv (.v (.pointer none)), .iv (.v (.slice none 0 0)), pB false, pI 0] (some 180)))
    (hs : wN s i = s') (h : GO P nt (.code c :: k) Q s') : GO P nt (.code c :: k) Q s := by
  subst hs
  intro M N a w hf
  obtain ⟨sf, sh, sn⟩ := s
  obtain ⟨h1, h2⟩ := hf.1.virtB 5
  have hlt : i < sn := hf.1.used i _ hi
  have hne : i ≠ sn := fun e => by omega
  have hget : AH.get ((sn, some (AO.brow [] 5)) :: sh) i = some (.cells [.iv (.v (.pointer none)), .iv (.v (.slice none 0 0)), pB false, pI 0] (some 180)) := by
    rw [AH.get_cons, if_neg hne]; exact hi
  obtain ⟨c0, T, e1, e2, e3, e4, e5⟩ := h2.obj i _ hget
  have hv : ∀ (j : Nat) (p : PV), [PV.optr true i, .sl sn 0 0 1, pB false, pI 0][j]? = some p → VR M N (· < sn + 1) p (c0.getD j undef) := by
    intro j p hp
    match j, hp with
    | 0, hp =>
      cases hp
      have := e4 0 _ rfl
      generalize c0.getD 0 undef = v at this ⊢
      cases this with
      | iv _ _ h => cases h with
        | v => exact .optr true i (Nat.lt_succ_of_lt hlt)
    | 1, hp =>
      cases hp
      have := e4 1 _ rfl
      generalize c0.getD 1 undef = v at this ⊢
      cases this with
      | iv _ _ h => cases h with
        | v => exact .sl0 _ _ (Nat.lt_succ_self _)
    | 2, hp => exact e4 2 p hp
    | 3, hp => exact e4 3 p hp
    | j + 4, hp => cases hp
  obtain ⟨g1, g2⟩ := h2.write (i := i) (o0 := .cells [.iv (.v (.pointer none)), .iv (.v (.slice none 0 0)), pB false, pI 0] (some 180)) hget rfl w (WS.o.cAt i sn) rfl rfl rfl rfl (fun _ _ => rfl) ⟨c0, T, e1, e2, e3, hv, e5⟩
  have hf1 : Fits M N ⟨sf, (i, some (WS.o.cAt i sn)) :: (sn, some (.brow [] 5)) :: sh, sn + 1⟩ nt a w :=
    ⟨g2, fun k => (hf.2.1 k).mono (.refl _) (.refl _ _) (fun i hi => Nat.lt_succ_of_lt hi), hf.2.2⟩
  exact AW.then h hf1 fun e a2 w2 M2 N2 s2 hx2 hf2 hr2 => ⟨M2, N2, s2, (h1.trans g1).trans hx2, hf2, hr2⟩
end

def WS.told (w : WS) : PV := .tup [pS (if w.bad = true then ⟨#[]⟩ else ⟨w.l.toArray⟩), pI (if w.bad = true then 50 else 0)]
theorem d105 (w : WS) : Det Tryz.prog 105 [.ptr 0 0] w.O w.told [] 2 := by
  refine det_end tyA_ok Tryz.func105 rfl (by decide) Tryz.ntmps105 rfl (by simp) ?_
  refine goR rfl (by trivial) ?_
  refine And.intro (fun g => ?_) (fun g => ?_)
  · have g : w.bad = true := g
    unfold WS.told
    rw [if_pos g, if_pos g]
    refine goR rfl (by trivial) (end_det [] (by first | exact .inr rfl | exact .inl rfl) rfl (wk rfl rfl rfl ⟨.refl _, rfl, trivial⟩ trivial rfl))
  · have g : ¬ w.bad = true := by
      have g : w.bad = false := g
      rw [g]; decide
    unfold WS.told
    rw [if_neg g, if_neg g]
    refine goR rfl (by trivial) (go_det [0, 1] (d150 w) rfl rfl rfl rfl rfl rfl rfl rfl ?_)
    refine goR rfl (by trivial) (end_det [] (by first | exact .inr rfl | exact .inl rfl) rfl (wk rfl rfl rfl ⟨.refl _, rfl, trivial⟩ trivial rfl))
def atomP (a : Atom) : PV := (atomW WS.o a).told
def litP (l : Lit) : PV := (litF l.size l WS.o).told
theorem c61 (a : Atom) (hb : a.ts ≤ 900000000) : Pure Tryz.prog 61 [ag a.c] (atomP a) := by
  refine pure_end tyA_ok Tryz.func61 rfl (by decide) Tryz.ntmps61 rfl (by simp) rfl ?_
  refine go_run mixA tyA_ok 12 rfl (by trivial) (go_wnew 1 rfl rfl ?_)
  refine goR rfl (by trivial) (go_w (d104 WS.o a (by simpa using hb)) rfl rfl rfl rfl rfl rfl rfl rfl rfl rfl rfl rfl ?_)
  refine goR rfl (by trivial) (go_det [1, 3] (d105 (atomW WS.o a)) rfl rfl rfl rfl rfl rfl rfl rfl ?_)
  refine goR rfl (by trivial) (end_le (by first | exact .inr rfl | exact .inl rfl) rfl (.of_eq ?_))
  rfl
theorem c108 (l : Lit) (hb : l.ts ≤ 900000000) (hs : l.size ≤ 100000000) : Pure Tryz.prog 108 [ag l.c] (litP l) := by
  refine pure_end tyA_ok Tryz.func108 rfl (by decide) Tryz.ntmps108 rfl (by simp) rfl ?_
  refine go_run mixA tyA_ok 12 rfl (by trivial) (go_wnew 1 rfl rfl ?_)
  refine goR rfl (by trivial) (go_w (litD l.size (by omega) l WS.o (Nat.le_refl _) (by decide) (by decide) (by simpa using hb)) rfl rfl rfl rfl rfl rfl rfl rfl rfl rfl rfl rfl ?_)
  refine goR rfl (by trivial) (go_det [1, 3] (d105 (litF l.size l WS.o)) rfl rfl rfl rfl rfl rfl rfl rfl ?_)
  refine goR rfl (by trivial) (end_le (by first | exact .inr rfl | exact .inl rfl) rfl (.of_eq ?_))
  rfl
end Go.Proofs.YtpnclpbkecjinaaGreatDoorR
