-- LAID BY A PROGRAM OF THIS SESSION (wip/tools: the kit's print with changes of our own)
import Derived.Test.YtoeegdpkmdgkdaaPAllx0
import Derived.Test.YtoeegdpkmdgkdaaPAllx1
import Derived.Test.YtoeegdpkmdgkdaaPAllx3
import Derived.Test.YtoeegdpkmdgkdaaPAllx5
namespace Go.Proofs.Ytoeegdpkmdgkdaa.PAll
open Go.RowKit Go.Proofs.YtoeegdpkmdgkdaaW.PrintWords Go.Proofs.YtoeegdpkmdgkdaaW.PrintLast Go.Proofs.YtoeegdpkmdgkdaaW.PrintMore
attribute [local go_sem] min2_int min_two   -- for this text's walks alone
set_option linter.unusedVariables false
set_option linter.unusedSimpArgs false

/-! ### record_Unsnap: function 23 -/
section
/-- May parts be no area's: is one too long, or is there something behind one that is not full. -/
def badAt (parts : List (List Int)) (i : Nat) : Bool :=
 decide (4096 < (parts.getD i []).length) || (decide (0 < i) && decide (0 < (parts.getD i []).length) && decide ((parts.getD (i - 1) []).length < 4096))
def badUpTo (parts : List (List Int)) : Nat → Bool
 | 0 => decide (parts.length ≠ 2)
 | i + 1 => badUpTo parts i || badAt parts i
/-- So many objects, one behind the other, behind those that are there: none: they are not there. -/
def objsA (k : Nat) : Nat → List S61 → List Int → Option (Option (List S61 × List Int))
 | 0, acc, l => some (some (acc, l))
 | n + 1, acc, l => if l.length < 4 then some none else if fits (l.drop 4) = true then ((record_Check.f k (recOf (l.drop 4)).1 (recOf (l.drop 4)).2.1 (recOf (l.drop 4)).2.2.1 (recOf (l.drop 4)).2.2.2.1).bind fun r => if r = 0 ∧ (recOf (l.drop 4)).1 = 1 then objsA k n (acc ++ [(⟨(recOf (l.drop 4)).2.1, (recOf (l.drop 4)).2.2.1, beN (l.take 4), (recOf (l.drop 4)).2.2.2.1⟩ : S61)]) (recOf (l.drop 4)).2.2.2.2 else some none) else some none
def unsEnd (k : Nat) : Option (List S61 × List Int) → Option (List S61 × Int)
 | none => some ([], 160)
 | some (os, rest) => if rest.length > 0 then some ([], 160) else ((record_may.f k os).bind fun b => if b = true then some (os, 0) else some ([], 160))
def record_Unsnap.f (k : Nat) (l0 : List (List Int)) : Option (List (S61) × Int) :=
 if l0.length ≤ 100 ∧ (∀ l ∈ l0, l.length ≤ 10000 ∧ okB l = true) then
  (if badUpTo l0 l0.length = true then some ([], 160)
  else if l0.flatten.length < 2 then some ([], 160)
  else ((objsA k (beN (l0.flatten.take 2)).toNat [] (l0.flatten.drop 2)).bind (unsEnd k)))
 else none
theorem objsA_mono (k : Nat) : ∀ n acc l, LeO (objsA k n acc l) (objsA (k + 1) n acc l)
 | 0, acc, l => LeO.refl _
 | n + 1, acc, l => by
  unfold objsA
  refine LeO.ite (LeO.refl _) (LeO.ite ?_ (LeO.refl _))
  refine LeO.bind (record_Check.mono _ _ _ _ _) (fun r => ?_)
  exact LeO.ite (objsA_mono k n _ _) (LeO.refl _)
theorem unsEnd_mono (k : Nat) (o : Option (List S61 × List Int)) : LeO (unsEnd k o) (unsEnd (k + 1) o) := by
 rcases o with _ | ⟨os, rest⟩
 ·exact LeO.refl _
 ·exact LeO.ite (LeO.refl _) (LeO.bind (record_may.mono _ _) (fun _ => LeO.refl _))
theorem record_Unsnap.mono : ∀ a0 k, LeO (record_Unsnap.f k a0) (record_Unsnap.f (k + 1) a0) := by
 intro a0 k
 unfold record_Unsnap.f
 refine LeO.ite (LeO.ite (LeO.refl _) (LeO.ite (LeO.refl _) ?_)) (LeO.refl _)
 exact LeO.bind (objsA_mono k _ _ _) (fun o => unsEnd_mono k o)
set_option maxHeartbeats 2000000 in
theorem unsnap_catch (pe po : Nat) (x : Int) (x0 : Value) (older : List PanicEntry) (w : World) (he : w.heap[pe]? = some (.cells #[.int .i64 x] 28 (0, 0))) (ho : w.heap[po]? = some (.cells #[x0] 37 (0, 0))) (hne : pe ≠ po) :
  CallsD Try.prog 40 #[.pointer (some ⟨pe, 0, none⟩), .pointer (some ⟨po, 0, none⟩)] (.panicking ({ v := .iface 28 (.int .i64 160), recovered := false } :: older)) w fun e u' w' =>
   e = .returned (.tuple #[]) ∧ u' = .panicking ({ v := .iface 28 (.int .i64 160), recovered := true } :: older) ∧ w'.heap[pe]? = some (.cells #[.int .i64 160] 28 (0, 0)) ∧ w'.heap[po]? = some (.cells #[.slice none 0 0] 37 (0, 0)) ∧ ∀ B, B ≤ pe → B ≤ po → Below B w w' := by
 have c0 : w.cell? ⟨pe, 0, none⟩ = some (.int .i64 x) := by simp [World.cell?, he]
 have z0' : w.frozen? ⟨pe, 0, none⟩ = false := by simp [World.frozen?, he]
 obtain ⟨w1, hw1⟩ : ∃ w1, w.setCell ⟨pe, 0, none⟩ (.int .i64 160) = w1 := ⟨_, rfl⟩
 have he1 : w1.heap[pe]? = some (.cells #[.int .i64 160] 28 (0, 0)) := by rw [← hw1]; simp [World.setCell, Array.getElem?_modify, he]
 have ho1 : w1.heap[po]? = some (.cells #[x0] 37 (0, 0)) := by
  rw [← hw1, (grown_cell w pe 0 _).block po (Array.getElem?_eq_some_iff.1 ho).1 (by simp; omega)]
  exact ho
 have c1 : w1.cell? ⟨pe, 0, none⟩ = some (.int .i64 160) := by simp [World.cell?, he1]
 have d0 : w1.cell? ⟨po, 0, none⟩ = some x0 := by simp [World.cell?, ho1]
 have f0 : ∀ j, w1.frozen? ⟨po, j, none⟩ = false := by intro j; simp [World.frozen?, ho1]
 have hbl : ∀ B, B ≤ pe → Below B w w1 := fun B hB => by rw [← hw1]; exact below_cell w pe 0 _ hB
 refine callsD_of_wpS Try.func40 rfl fun c₀ cs hu => ?_
 apply wpS_seq
 apply wpS_region
 simp [wpOpsS, go_sem, recoverD, hu, Try.ntmps40, Exit.thenS]
 refine (caught_err w).mono ?_
 rintro e w' ⟨rfl, rfl⟩
 simp [go_sem, c0, z0', hw1]
 apply wpS_seq
 apply wpS_region
 simp [wpOpsS, go_sem, c1, Exit.thenS]
 refine wpS_cond (t := true) (by simp [Act.eval, Array.replicate]) ?_
 simp only [if_true]
 apply wpS_region
 simp [wpOpsS, go_sem, d0, f0, bodyPostS, results, Try.results40]
 have hgr := grown_cell w1 po 0 (.slice none 0 0)
 refine ⟨?_, ?_, fun B h1 h2 => (hbl B h1).trans (below_cell w1 po 0 _ h2)⟩
 ·rw [hgr.block pe (Array.getElem?_eq_some_iff.1 he1).1 (by simp; omega)]
  exact he1
 ·simp [World.setCell, Array.getElem?_modify, ho1]
set_option maxHeartbeats 2000000 in
theorem unsnap_idle (pe po : Nat) (x : Int) (w : World) (he : w.heap[pe]? = some (.cells #[.int .i64 x] 28 (0, 0))) :
  CallsD Try.prog 40 #[.pointer (some ⟨pe, 0, none⟩), .pointer (some ⟨po, 0, none⟩)] .returning w fun e u' w' =>
   e = .returned (.tuple #[]) ∧ u' = .returning ∧ w' = w.setCell ⟨pe, 0, none⟩ (.int .i64 0) := by
 have c0 : w.cell? ⟨pe, 0, none⟩ = some (.int .i64 x) := by simp [World.cell?, he]
 have z0' : w.frozen? ⟨pe, 0, none⟩ = false := by simp [World.frozen?, he]
 obtain ⟨w1, hw1⟩ : ∃ w1, w.setCell ⟨pe, 0, none⟩ (.int .i64 0) = w1 := ⟨_, rfl⟩
 have he1 : w1.heap[pe]? = some (.cells #[.int .i64 0] 28 (0, 0)) := by rw [← hw1]; simp [World.setCell, Array.getElem?_modify, he]
 have c1 : w1.cell? ⟨pe, 0, none⟩ = some (.int .i64 0) := by simp [World.cell?, he1]
 refine callsD_of_wpS Try.func40 rfl fun c₀ cs hu => ?_
 apply wpS_seq
 apply wpS_region
 simp [wpOpsS, go_sem, recoverD, hu, Try.ntmps40, Exit.thenS]
 refine (caught_nil w).mono ?_
 rintro e w' ⟨rfl, rfl⟩
 simp [go_sem, c0, z0', hw1]
 apply wpS_seq
 apply wpS_region
 simp [wpOpsS, go_sem, c1, Exit.thenS]
 refine wpS_cond (t := false) (by simp [Act.eval, Array.replicate]) ?_
 simp only [Bool.false_eq_true, if_false]
 refine wpS_of_wp (wp_skip ?_)
 cases c₀
 simp_all [bodyPostS, results, Try.results40]
def unsnapPost (w : World) (r1 : List S61) (r2 : Int) (e : Ending) (w' : World) : Prop :=
 ∃ v0_ : Value, e = .returned (.tuple #[v0_, .int .i64 r2]) ∧ Kd.V k61 61 w' w.heap.size (fun k_ => w.heap.size ≤ k_) v0_ r1 ∧ Below w.heap.size w w'
/-- What stands while parts are joined. -/
structure Us (w W : World) (po pe pg : Nat) (u : Value) (b : List Int) : Prop where
 below : Below w.heap.size w W
 out : W.heap[po]? = some (.cells #[.slice none 0 0] 37 (0, 0))
 err : W.heap[pe]? = some (.cells #[.int .i64 0] 28 (0, 0))
 rdr : W.heap[pg]? = some (.cells #[u] 55 (0, 0))
 geo : w.heap.size ≤ po
 gee : w.heap.size ≤ pe
 geg : w.heap.size ≤ pg
 n1 : pe ≠ po
 n2 : pg ≠ po
 n3 : pg ≠ pe
 own : Kd.R (Kd.int .u8) 5 W w.heap.size (fun _ => True) u b
/-- More bytes: the row grows, and lies in the reader's variable. -/
theorem Us.over {w W W' : World} {po pe pg : Nat} {u : Value} {b : List Int} (h : Us w W po pe pg u b) (hg : W.grownBy W' u.ownBlock) (u' : Value) (b' : List Int) (ho : Kd.R (Kd.int .u8) 5 W' w.heap.size (fun _ => True) u' b') : W'.heap[pg]? = W.heap[pg]? ∧ Us w (W'.setCell ⟨pg, 0, none⟩ u') po pe pg u' b' := by
 have hl1 := (Array.getElem?_eq_some_iff.1 h.out).1
 have hl2 := (Array.getElem?_eq_some_iff.1 h.err).1
 have hl3 := (Array.getElem?_eq_some_iff.1 h.rdr).1
 have e1 : W'.heap[po]? = W.heap[po]? := hg.block po hl1 (Kd.R_ne h.own h.out (by decide))
 have e2 : W'.heap[pe]? = W.heap[pe]? := hg.block pe hl2 (Kd.R_ne h.own h.err (by decide))
 have e3 : W'.heap[pg]? = W.heap[pg]? := hg.block pg hl3 (Kd.R_ne h.own h.rdr (by decide))
 have hgr := grown_cell W' pg 0 u'
 have hold : ∀ k, k < w.heap.size → W'.heap[k]? = W.heap[k]? := fun k hk => hg.block k (Nat.lt_of_lt_of_le hk h.below.size) (fun e => by have := Kd.R_base h.own k e.symm; omega)
 refine ⟨e3, (h.below.trans ⟨hg.os, hg.tape, hg.output, hg.size, hold⟩).trans (below_cell W' pg 0 u' h.geg), ?_, ?_, ?_, h.geo, h.gee, h.geg, h.n1, h.n2, h.n3, ?_⟩
 ·rw [hgr.block po (Nat.lt_of_lt_of_le hl1 hg.size) (by have := h.n2; simp; omega), e1]
  exact h.out
 ·rw [hgr.block pe (Nat.lt_of_lt_of_le hl2 hg.size) (by have := h.n3; simp; omega), e2]
  exact h.err
 ·have := h.rdr
  rw [← e3] at this
  simp [World.setCell, Array.getElem?_modify, this]
 ·have ho3 := h.rdr
  rw [← e3] at ho3
  exact Kd.R_grown2 ho rfl hgr (fun k hk e => by
   cases hk
   exact Kd.R_ne ho ho3 (by decide) e)
theorem Us.rows {w W : World} {po pe pg : Nat} {u : Value} {b : List Int} (h : Us w W po pe pg u b) : ∃ A c, u = .slice A b.length c ∧ RdAt (fun W' => ∀ k, some k = u.ownBlock → W'.heap[k]? = W.heap[k]?) W W pg b A c := by
 obtain ⟨A, c, rfl⟩ := Kd.R_slice h.own
 have h1 := Kd.R_reads' h.own
 refine ⟨A, c, rfl, ⟨rfl, rfl, rfl, Nat.le_refl _, fun _ _ _ => rfl⟩, (Array.getElem?_eq_some_iff.1 h.rdr).1, h.rdr, h1.2.1, fun W' hW => ?_, fun W' hW k hk => ?_⟩
 ·have hfl : Kd.R (Kd.int .u8) 5 W w.heap.size (fun k => some k = (Value.slice A b.length c).ownBlock) (.slice A b.length c) b := Kd.R_flat (fun hm => hm) h.own (fun k hk _ => hk.symm)
  exact Kd.F_now (Kd.F_step (Kd.R_F hfl) (fun k hk _ => hW k hk))
 ·refine hW.block k (Kd.R_lt h.own k hk.symm) (fun e => ?_)
  cases e
  exact Kd.R_ne h.own h.rdr (by decide) hk
/-- What stands while objects are read. -/
structure Un (S : World → Prop) (ub : Option Nat) (w W : World) (po pe pg : Nat) (v : Value) (os : List S61) (l : List Int) : Prop where
 below : Below w.heap.size w W
 out : W.heap[po]? = some (.cells #[v] 37 (0, 0))
 err : W.heap[pe]? = some (.cells #[.int .i64 0] 28 (0, 0))
 geo : w.heap.size ≤ po
 gee : w.heap.size ≤ pe
 geg : w.heap.size ≤ pg
 n1 : pe ≠ po
 n2 : pg ≠ po
 n3 : pg ≠ pe
 own : Kd.R k61 61 W w.heap.size (fun _ => True) v os
 rd : ∃ A c, RdAt S W W pg l A c
 ubt : ∀ k, some k = ub → ∃ cells, W.heap[k]? = some (.cells cells 5 (0, 0))
 eqS : ∀ W', S W' ↔ ∀ k, some k = ub → W'.heap[k]? = W.heap[k]?
theorem Us.un {w W : World} {po pe pg : Nat} {u : Value} {b : List Int} (h : Us w W po pe pg u b) : ∃ S, Un S u.ownBlock w W po pe pg (.slice none 0 0) [] b := by
 obtain ⟨A, c, _, hr⟩ := h.rows
 exact ⟨_, h.below, h.out, h.err, h.geo, h.gee, h.geg, h.n1, h.n2, h.n3, Kd.R_nil _ _ _ _ _, ⟨A, c, hr⟩, fun k hk => Kd.R_typed h.own k hk.symm, fun _ => Iff.rfl⟩
theorem cells_ne {W : World} {i j ti tj : Nat} {ci cj : Array Value} (hi : W.heap[i]? = some (.cells ci ti (0, 0))) (hj : W.heap[j]? = some (.cells cj tj (0, 0))) (h : ti ≠ tj) : i ≠ j := by
 rintro rfl
 rw [hi] at hj
 injection hj with h1
 injection h1 with _ h2
 exact h h2
section
variable {S : World → Prop} {ub : Option Nat} {w W W1 : World} {po pe pg : Nat} {v : Value} {os : List S61} {l l' : List Int}
theorem Un.cell (h : Un S ub w W po pe pg v os l) : ∃ cells, W.heap[pg]? = some (.cells cells 55 (0, 0)) := by
 obtain ⟨A, c, hr⟩ := h.rd
 exact ⟨_, hr.cell⟩
theorem Un.ubne (h : Un S ub w W po pe pg v os l) (k : Nat) (hk : some k = ub) : k ≠ pg := by
 obtain ⟨c1, h1⟩ := h.ubt k hk
 obtain ⟨c2, h2⟩ := h.cell
 exact cells_ne h1 h2 (by decide)
theorem Un.lt (h : Un S ub w W po pe pg v os l) (k : Nat) (hk : some k = ub) : k < W.heap.size := by
 obtain ⟨c1, h1⟩ := h.ubt k hk
 exact (Array.getElem?_eq_some_iff.1 h1).1
theorem Un.read (h : Un S ub w W po pe pg v os l) (hg : W.grownBy W1 (some pg)) (hr : ∃ A c, RdAt S W W1 pg l' A c) : Un S ub w W1 po pe pg v os l' := by
 obtain ⟨A, c, hr⟩ := hr
 have e1 : ∀ k, some k = ub → W1.heap[k]? = W.heap[k]? := fun k hk => hg.block k (h.lt k hk) (fun e => by cases e; exact h.ubne _ hk rfl)
 have hl1 := (Array.getElem?_eq_some_iff.1 h.out).1
 have hl2 := (Array.getElem?_eq_some_iff.1 h.err).1
 have hge := h.geg
 obtain ⟨c5, hc5⟩ := h.cell
 refine ⟨h.below.trans ⟨hg.os, hg.tape, hg.output, hg.size, fun k hk => hg.block k (Nat.lt_of_lt_of_le hk h.below.size) (by simp; omega)⟩, ?_, ?_, h.geo, h.gee, h.geg, h.n1, h.n2, h.n3, ?_, ⟨A, c, ⟨rfl, rfl, rfl, Nat.le_refl _, fun _ _ _ => rfl⟩, hr.lt, hr.cell, hr.room, hr.row, fun W' hW => ?_⟩, fun k hk => ?_, fun W' => ?_⟩
 ·rw [hg.block po hl1 (by have := h.n2; simp; omega)]
  exact h.out
 ·rw [hg.block pe hl2 (by have := h.n3; simp; omega)]
  exact h.err
 ·exact Kd.R_mono (Kd.R_grown (Kd.R_types h.own hc5 (by decide)) hg (fun k hk e => by cases e; exact hk.2 rfl)) (fun _ _ => trivial)
 ·refine (h.eqS W').2 (fun k hk => ?_)
  rw [hW.block k (Nat.lt_of_lt_of_le (h.lt k hk) hg.size) (fun e => by cases e; exact h.ubne _ hk rfl)]
  exact e1 k hk
 ·rw [e1 k hk]
  exact h.ubt k hk
 ·rw [h.eqS W']
  constructor
  ·intro hS k hk
   rw [hS k hk, e1 k hk]
  ·intro hS k hk
   rw [hS k hk, e1 k hk]
theorem Un.step (h : Un S ub w W po pe pg v os l) (hb : Below W.heap.size W W1) : Un S ub w W1 po pe pg v os l := by
 obtain ⟨A, c, hr⟩ := h.rd
 exact h.read (grown_below hb _) ⟨A, c, hr.below hb⟩
theorem Un.over (h : Un S ub w W po pe pg v os l) (hg : W.grownBy W1 v.ownBlock) (v' : Value) (os' : List S61) (ho : Kd.R k61 61 W1 w.heap.size (fun _ => True) v' os') : W1.heap[po]? = W.heap[po]? ∧ Un S ub w (W1.setCell ⟨po, 0, none⟩ v') po pe pg v' os' l := by
 have hl1 := (Array.getElem?_eq_some_iff.1 h.out).1
 have hl2 := (Array.getElem?_eq_some_iff.1 h.err).1
 obtain ⟨A, c, hr⟩ := h.rd
 have hl3 := hr.lt
 have f1 : W1.heap[po]? = W.heap[po]? := hg.block po hl1 (Kd.R_ne h.own h.out (by decide))
 have f2 : W1.heap[pe]? = W.heap[pe]? := hg.block pe hl2 (Kd.R_ne h.own h.err (by decide))
 have f3 : W1.heap[pg]? = W.heap[pg]? := hg.block pg hl3 (Kd.R_ne h.own hr.cell (by decide))
 have hgr := grown_cell W1 po 0 v'
 have f4 : ∀ k, some k = ub → (W1.setCell ⟨po, 0, none⟩ v').heap[k]? = W.heap[k]? := by
  intro k hk
  obtain ⟨c1, h1⟩ := h.ubt k hk
  have := cells_ne h1 h.out (by decide)
  rw [hgr.block k (Nat.lt_of_lt_of_le (h.lt k hk) hg.size) (by simp; omega)]
  exact hg.block k (h.lt k hk) (Kd.R_ne h.own h1 (by decide))
 have f5 : (W1.setCell ⟨po, 0, none⟩ v').heap[pg]? = W.heap[pg]? := by
  rw [hgr.block pg (Nat.lt_of_lt_of_le hl3 hg.size) (by have := h.n2; simp; omega)]
  exact f3
 have hold : ∀ k, k < w.heap.size → W1.heap[k]? = W.heap[k]? := fun k hk => hg.block k (Nat.lt_of_lt_of_le hk h.below.size) (fun e => by have := Kd.R_base h.own k e.symm; omega)
 have ho1 := h.out
 rw [← f1] at ho1
 refine ⟨f1, (h.below.trans ⟨hg.os, hg.tape, hg.output, hg.size, hold⟩).trans (below_cell W1 po 0 v' h.geo), ?_, ?_, h.geo, h.gee, h.geg, h.n1, h.n2, h.n3, ?_, ⟨A, c, ⟨rfl, rfl, rfl, Nat.le_refl _, fun _ _ _ => rfl⟩, ?_, by rw [f5]; exact hr.cell, hr.room, hr.row, fun W' hW => ?_⟩, fun k hk => ?_, fun W' => ?_⟩
 ·simp [World.setCell, Array.getElem?_modify, ho1]
 ·rw [hgr.block pe (Nat.lt_of_lt_of_le hl2 hg.size) (by have := h.n1; simp; omega), f2]
  exact h.err
 ·exact Kd.R_set ho ho1 (by decide) 0 v'
 ·exact Nat.lt_of_lt_of_le hl3 (Nat.le_trans hg.size hgr.size)
 ·refine (h.eqS W').2 (fun k hk => ?_)
  rw [hW.block k (Nat.lt_of_lt_of_le (h.lt k hk) (Nat.le_trans hg.size hgr.size)) (fun e => by cases e; exact h.ubne _ hk rfl)]
  exact f4 k hk
 ·rw [f4 k hk]
  exact h.ubt k hk
 ·rw [h.eqS W']
  constructor
  ·intro hS k hk
   rw [hS k hk, f4 k hk]
  ·intro hS k hk
   rw [hS k hk, f4 k hk]
end
theorem flat_len (B : Nat) : ∀ ls : List (List Int), (∀ l ∈ ls, l.length ≤ B) → ls.flatten.length ≤ ls.length * B
 | [], _ => by simp
 | l :: ls, h => by
  have h1 := h l (by simp)
  have h2 := flat_len B ls (fun x hx => h x (by simp [hx]))
  rw [List.flatten_cons, List.length_append, List.length_cons, Nat.succ_mul]
  omega
/-- What the door needs. -/
structure Ud (w W : World) (po pe : Nat) (v : Value) : Prop where
 below : Below w.heap.size w W
 out : W.heap[po]? = some (.cells #[v] 37 (0, 0))
 err : W.heap[pe]? = some (.cells #[.int .i64 0] 28 (0, 0))
 geo : w.heap.size ≤ po
 gee : w.heap.size ≤ pe
 n1 : pe ≠ po
theorem Un.ud {S : World → Prop} {ub : Option Nat} {w W : World} {po pe pg : Nat} {v : Value} {os : List S61} {l : List Int} (h : Un S ub w W po pe pg v os l) : Ud w W po pe v := ⟨h.below, h.out, h.err, h.geo, h.gee, h.n1⟩
theorem Un.udg {S : World → Prop} {ub : Option Nat} {w W W1 : World} {po pe pg : Nat} {v : Value} {os : List S61} {l : List Int} (h : Un S ub w W po pe pg v os l) (hg : W.grownBy W1 (some pg)) : Ud w W1 po pe v := by
 have hl1 := (Array.getElem?_eq_some_iff.1 h.out).1
 have hl2 := (Array.getElem?_eq_some_iff.1 h.err).1
 have hge := h.geg
 refine ⟨h.below.trans ⟨hg.os, hg.tape, hg.output, hg.size, fun k hk => hg.block k (Nat.lt_of_lt_of_le hk h.below.size) (by simp; omega)⟩, ?_, ?_, h.geo, h.gee, h.n1⟩
 ·rw [hg.block po hl1 (by have := h.n2; simp; omega)]
  exact h.out
 ·rw [hg.block pe hl2 (by have := h.n3; simp; omega)]
  exact h.err
theorem unsnap_dies {w W : World} {po pe : Nat} {v : Value} (h : Ud w W po pe v) (a : Act)
  (hd : a.defers = [{ target := Target.fn (Fn.func 40) #[.pointer (some ⟨pe, 0, none⟩), .pointer (some ⟨po, 0, none⟩)], args := #[] }]) (h2 : a.tmps[2]? = some (.pointer (some ⟨po, 0, none⟩))) (h3 : a.tmps[3]? = some (.pointer (some ⟨pe, 0, none⟩))) :
  bodyPostD Try.prog Try.f23 (unsnapPost w [] 160) (Exit.panic failed) a W := by
 obtain ⟨ts, ds⟩ := a
 simp only at hd h2 h3
 subst hd
 refine leaves_cons (f := 40) (args := #[.pointer (some ⟨pe, 0, none⟩), .pointer (some ⟨po, 0, none⟩)]) (by simp) (by simp [go_sem]) ?_
 refine (unsnap_catch pe po 0 v [] W h.err h.out h.n1).mono ?_
 rintro e u' w'' ⟨rfl, rfl, he3, ho3, hb3⟩
 have q0 : w''.cell? ⟨po, 0, none⟩ = some (.slice none 0 0) := by simp [World.cell?, ho3]
 have q4 : w''.cell? ⟨pe, 0, none⟩ = some (.int .i64 160) := by simp [World.cell?, he3]
 simp [Leaves, settle, results, Try.results23, go_sem, q0, q4, h2, h3]
 unfold unsnapPost
 exact ⟨_, rfl, Kd.V_nil _ _ _ _ _, h.below.trans (hb3 _ h.gee h.geo)⟩
theorem objsA_step (k m : Nat) (acc : List S61) (l : List Int) (res : List S61 × Int) (h : (objsA k (m + 1) acc l).bind (unsEnd k) = some res) :
  (l.length < 4 ∧ res = ([], 160)) ∨ (4 ≤ l.length ∧ ∃ r, (fits (l.drop 4) = true → record_Check.f k (recOf (l.drop 4)).1 (recOf (l.drop 4)).2.1 (recOf (l.drop 4)).2.2.1 (recOf (l.drop 4)).2.2.2.1 = some r) ∧
   (¬ (fits (l.drop 4) = true ∧ r = 0 ∧ (recOf (l.drop 4)).1 = 1) → res = ([], 160)) ∧ (fits (l.drop 4) = true → r = 0 → (recOf (l.drop 4)).1 = 1 → (objsA k m (acc ++ [(⟨(recOf (l.drop 4)).2.1, (recOf (l.drop 4)).2.2.1, beN (l.take 4), (recOf (l.drop 4)).2.2.2.1⟩ : S61)]) (recOf (l.drop 4)).2.2.2.2).bind (unsEnd k) = some res)) := by
 unfold objsA at h
 by_cases h4 : l.length < 4
 ·rw [if_pos h4] at h
  exact .inl ⟨h4, (Option.some.inj h).symm⟩
 rw [if_neg h4] at h
 refine .inr ⟨by omega, ?_⟩
 by_cases hf : fits (l.drop 4) = true
 ·rw [if_pos hf] at h
  cases hc : record_Check.f k (recOf (l.drop 4)).1 (recOf (l.drop 4)).2.1 (recOf (l.drop 4)).2.2.1 (recOf (l.drop 4)).2.2.2.1 with
  | none => rw [hc] at h; cases h
  | some r =>
   rw [hc] at h
   simp only [Option.bind_some] at h
   refine ⟨r, fun _ => rfl, fun hn => ?_, fun _ h0 h1 => ?_⟩
   ·rw [if_neg (fun hh => hn ⟨hf, hh.1, hh.2⟩)] at h
    exact (Option.some.inj h).symm
   ·rw [if_pos ⟨h0, h1⟩] at h
    exact h
 ·rw [if_neg hf] at h
  exact ⟨0, fun hh => absurd hh hf, fun _ => (Option.some.inj h).symm, fun hh => absurd hh hf⟩
theorem recOf_mem (l : List Int) : ∀ x ∈ (recOf l).2.2.2.2, x ∈ l := by
 intro x hx
 rcases l with _ | ⟨kd, _ | ⟨sz, t⟩⟩
 ·simp [recOf] at hx
 ·simp [recOf] at hx
 ·simp only [recOf] at hx
  exact List.mem_cons_of_mem _ (List.mem_cons_of_mem _ (List.mem_of_mem_drop (List.mem_of_mem_drop (List.mem_of_mem_drop hx))))
theorem recOf_len (l : List Int) : (recOf l).2.2.2.2.length ≤ l.length := by
 rcases l with _ | ⟨kd, _ | ⟨sz, t⟩⟩
 ·simp [recOf]
 ·simp [recOf]
 ·simp only [recOf, List.length_drop, List.length_cons]
  omega
theorem unsnap_ends {S : World → Prop} {ub : Option Nat} {w W : World} {po pe pg : Nat} {v : Value} {os : List S61} {l : List Int} (h : Un S ub w W po pe pg v os l) (a : Act)
  (hd : a.defers = [{ target := Target.fn (Fn.func 40) #[.pointer (some ⟨pe, 0, none⟩), .pointer (some ⟨po, 0, none⟩)], args := #[] }]) (h2 : a.tmps[2]? = some (.pointer (some ⟨po, 0, none⟩))) (h3 : a.tmps[3]? = some (.pointer (some ⟨pe, 0, none⟩))) :
  bodyPostD Try.prog Try.f23 (unsnapPost w os 0) Exit.ret a ((W.setCell ⟨po, 0, none⟩ v).setCell ⟨pe, 0, none⟩ (.int .i64 0)) := by
 obtain ⟨ts, ds⟩ := a
 simp only at hd h2 h3
 subst hd
 have hgr1 := grown_cell W po 0 v
 have ho1 : (W.setCell ⟨po, 0, none⟩ v).heap[po]? = some (.cells #[v] 37 (0, 0)) := by simp [World.setCell, Array.getElem?_modify, h.out]
 have he1 : (W.setCell ⟨po, 0, none⟩ v).heap[pe]? = some (.cells #[.int .i64 0] 28 (0, 0)) := by
  rw [hgr1.block pe (Array.getElem?_eq_some_iff.1 h.err).1 (by have := h.n1; simp; omega)]
  exact h.err
 have hw1 := Kd.R_set h.own h.out (by decide) 0 v
 have hb1 := h.below.trans (below_cell W po 0 v h.geo)
 obtain ⟨W1, hW1⟩ : ∃ W1, W.setCell ⟨po, 0, none⟩ v = W1 := ⟨_, rfl⟩
 rw [hW1] at ho1 he1 hw1 hb1 ⊢
 have step : ∀ X : World, X.heap[po]? = some (.cells #[v] 37 (0, 0)) → X.heap[pe]? = some (.cells #[.int .i64 0] 28 (0, 0)) → Kd.R k61 61 X w.heap.size (fun _ => True) v os → Below w.heap.size w X →
   (X.setCell ⟨pe, 0, none⟩ (.int .i64 0)).heap[po]? = some (.cells #[v] 37 (0, 0)) ∧ (X.setCell ⟨pe, 0, none⟩ (.int .i64 0)).heap[pe]? = some (.cells #[.int .i64 0] 28 (0, 0)) ∧ Kd.R k61 61 (X.setCell ⟨pe, 0, none⟩ (.int .i64 0)) w.heap.size (fun _ => True) v os ∧ Below w.heap.size w (X.setCell ⟨pe, 0, none⟩ (.int .i64 0)) := by
  intro X a1 a2 a3 a4
  have hgr := grown_cell X pe 0 (.int .i64 0)
  refine ⟨?_, ?_, Kd.R_set a3 a2 (by decide) 0 _, a4.trans (below_cell X pe 0 _ h.gee)⟩
  ·rw [hgr.block po (Array.getElem?_eq_some_iff.1 a1).1 (by have := h.n1; simp; omega)]
   exact a1
  ·simp [World.setCell, Array.getElem?_modify, a2]
 obtain ⟨ho2, he2, hw2, hb2⟩ := step W1 ho1 he1 hw1 hb1
 obtain ⟨W2, hW2⟩ : ∃ W2, W1.setCell ⟨pe, 0, none⟩ (.int .i64 0) = W2 := ⟨_, rfl⟩
 rw [hW2] at ho2 he2 hw2 hb2 ⊢
 refine leaves_cons (f := 40) (args := #[.pointer (some ⟨pe, 0, none⟩), .pointer (some ⟨po, 0, none⟩)]) (by simp) (by simp [go_sem]) ?_
 refine (unsnap_idle pe po 0 W2 he2).mono ?_
 rintro e u' w'' ⟨rfl, rfl, rfl⟩
 obtain ⟨ho3, he3, hw3, hb3⟩ := step W2 ho2 he2 hw2 hb2
 obtain ⟨W3, hW3⟩ : ∃ W3, W2.setCell ⟨pe, 0, none⟩ (.int .i64 0) = W3 := ⟨_, rfl⟩
 rw [hW3] at ho3 he3 hw3 hb3 ⊢
 have q0 : W3.cell? ⟨po, 0, none⟩ = some v := by simp [World.cell?, ho3]
 have q4 : W3.cell? ⟨pe, 0, none⟩ = some (.int .i64 0) := by simp [World.cell?, he3]
 obtain ⟨A, c, rfl⟩ := Kd.R_slice hw3
 simp [Leaves, settle, results, Try.results23, go_sem, q0, q4, h2, h3]
 unfold unsnapPost
 exact ⟨_, rfl, Kd.V_mono (Kd.R_V (Kd.R_bound hw3)) (fun k hk => hk.2.1), hb3⟩
set_option maxHeartbeats 8000000 in
theorem unsnap_run (k : Nat) (A0 : Option Addr) (c0 : Nat) (l0 : List (List Int)) (w : World) (hr0 : Kd.C (Kd.slice 5 (Kd.int .u8)) w A0 l0.length l0) (hc0 : l0.length ≤ c0) (hn : l0.length ≤ 100) (hb : ∀ l ∈ l0, l.length ≤ 10000 ∧ okB l = true)
  (r1 : List S61) (r2 : Int) (hf : Aside0 (record_Unsnap.f k l0 = some (r1, r2))) :
  Calls Try.prog 23 #[.slice A0 l0.length c0] w (unsnapPost w r1 r2) := by
 have HC := Aside0.mk hr0
 have HB := Aside0.mk hb
 have HN := Aside0.mk hn
 have HR := Aside0.mk hc0
 clear hr0 hb hn hc0
 have hmf : ∀ (fn : Fn) (first cap : Array Value) (w : World), (Instr.makeFunc fn first cap).run Try.prog w = .ok (.func fn first cap) w := fun _ _ _ _ => rfl
 obtain ⟨n, hn⟩ : ∃ n, l0.length = n := ⟨_, rfl⟩
 rw [hn]
 have HNN := Aside0.mk hn
 clear hn
 go_enter_defers Try.func23, Try.ntmps23
 go_upto_region 3 with fail
 obtain ⟨po, hpo⟩ : ∃ po, w.heap.size = po := ⟨_, rfl⟩
 obtain ⟨pe, hpe⟩ : ∃ pe, po + 1 = pe := ⟨_, rfl⟩
 obtain ⟨pg, hpg⟩ : ∃ pg, pe + 1 = pg := ⟨_, rfl⟩
 have U0 : Us w (((w.alloc (.cells #[.slice none 0 0] 37)).alloc (.cells #[.int .i64 0] 28)).alloc (.cells #[.slice none 0 0] 55)) po pe pg (.slice none 0 0) [] := by
  refine ⟨below_alloc (below_alloc (below_alloc (Below.refl _ _) _) _) _, ?_, ?_, ?_, by omega, by omega, by omega, by omega, by omega, by omega, Kd.R_nil _ _ _ _ _⟩
  ·rw [← hpo, heap_alloc_old _ _ (by simp; omega), heap_alloc_old _ _ (by simp)]
   exact heap_alloc_new _ _
  ·rw [← hpe, ← hpo, heap_alloc_old _ _ (by simp)]
   have := heap_alloc_new (w.alloc (.cells #[.slice none 0 0] 37)) (.cells #[.int .i64 0] 28)
   rw [show (w.alloc (.cells #[.slice none 0 0] 37)).heap.size = w.heap.size + 1 from by simp] at this
   exact this
  ·rw [← hpg, ← hpe, ← hpo]
   have := heap_alloc_new ((w.alloc (.cells #[.slice none 0 0] 37)).alloc (.cells #[.int .i64 0] 28)) (.cells #[.slice none 0 0] 55)
   rw [show ((w.alloc (.cells #[.slice none 0 0] 37)).alloc (.cells #[.int .i64 0] 28)).heap.size = w.heap.size + 1 + 1 from by simp] at this
   exact this
 obtain ⟨W0, hW0⟩ : ∃ W0, (((w.alloc (.cells #[.slice none 0 0] 37)).alloc (.cells #[.int .i64 0] 28)).alloc (.cells #[.slice none 0 0] 55)) = W0 := ⟨_, rfl⟩
 rw [hW0] at U0 ⊢
 rw [hpo, hpe, hpg]
 have HU := Aside0.mk U0
 have HPO := Aside0.mk hpo
 clear U0 hW0 hpo hpe hpg
 go_wp2_with fail
 go_loopg [5, 18] n (fun kq v5 v18 w' => ∃ (i : Nat) (u : Value), v5 = .bool (badUpTo l0 i) ∧ v18 = .int .i64 i ∧ Aside0 (i + kq = n) ∧ Aside0 (Us w w' po pe pg u (l0.take i).flatten))
 case atStart => exact ⟨0, .slice none 0 0, by (have e : (((n : Int) != 2) : Bool) = badUpTo l0 0 := by (have h := HNN.out; subst h; simp only [badUpTo]; by_cases h2 : l0.length = 2 <;> simp [h2, bne]; omega)); rw [← e], rfl, ⟨by omega⟩, ⟨by simpa using HU.out⟩⟩
 case round =>
  obtain ⟨i, u, rfl, rfl, HI, HT⟩ := hrel
  by_cases hi : i < n
  ·have hi2 : (i : Int) < (n : Int) := by omega
   have HI2 := Aside0.mk hi
   have hnn := HNN.out
   obtain ⟨ad, Ap, cp, ea, hxp, hlp, hCp⟩ := at_L2 (Kd.C_below HC.out HT.out.below) (i : Int) (by omega) (by omega)
   cases ea
   simp only [Int.toNat_natCast] at hxp
   have hpe : rd_L2 l0 (i : Int) = l0.getD i [] := by simp [rd_L2]
   rw [hpe] at hxp hlp hCp
   obtain ⟨p, hp⟩ : ∃ p, l0.getD i [] = p := ⟨_, rfl⟩
   rw [hp] at hxp hlp hCp
   obtain ⟨np, hnp⟩ : ∃ np, p.length = np := ⟨_, rfl⟩
   have HP := Aside0.mk hp
   have HNP := Aside0.mk hnp
   have HCP := Aside0.mk hCp
   have HLP := Aside0.mk hlp
   have hrow := Kd.C_below HC.out HT.out.below
   have HROW := Aside0.mk hrow
   rw [hnp] at hxp
   clear hi hnn hp hnp hCp hlp hpe hrow
   go_upto_region 7 with fail
   have hbd : badUpTo l0 (i + 1) = (badUpTo l0 i || badAt l0 i) := rfl
   go_cut [5, 18] from 18 to 56 (fun v5 v18 wx => v5 = .bool (badUpTo l0 (i + 1)) ∧ v18 = .int .i64 i ∧ wx = wr)
   case first =>
    have hba : badAt l0 i = (decide (4096 < np) || (decide (0 < i) && decide (0 < np) && decide ((l0.getD (i - 1) []).length < 4096))) := by simp only [badAt, HP.out, HNP.out]
    have HBD := Aside0.mk (hbd.trans (by rw [hba]))
    clear hba hbd
    cases hB : badUpTo l0 i
    all_goals have HBB := Aside0.mk hB
    all_goals clear hB
    ·by_cases h4 : (4096 : Int) < (np : Int)
     ·have h4' : 4096 < np := by omega
      go_wp2_with fail
      go_meet
      exact ⟨by rw [HBD.out, HBB.out]; simp [h4'], rfl, rfl⟩
     ·have h4' : ¬ 4096 < np := by omega
      by_cases h5 : (0 : Int) < (i : Int)
      ·by_cases h6 : (0 : Int) < (np : Int)
       ·have h5' : 0 < i := by omega
        have h6' : 0 < np := by omega
        obtain ⟨ad', Aq, cq, eq, hxq, hlq, hCq⟩ := at_L2 HROW.out ((i : Int) - 1) (by omega) (by have := HI2.out; have := HNN.out; omega)
        cases eq
        have hq : rd_L2 l0 ((i : Int) - 1) = l0.getD (i - 1) [] := by simp only [rd_L2, show ((i : Int) - 1).toNat = i - 1 from by omega]
        rw [hq] at hxq
        obtain ⟨nq, hnq⟩ : ∃ nq, (l0.getD (i - 1) []).length = nq := ⟨_, rfl⟩
        rw [hnq] at hxq
        have HNQ := Aside0.mk hnq
        obtain ⟨m, hm⟩ : ∃ m : Int, (i : Int) - 1 = m := ⟨_, rfl⟩
        rw [hm] at hxq
        have w1 : wrap64 ((i : Int) - 1) = m := by rw [← hm]; have := HI2.out; have := HN.out; have := HNN.out; unfold wrap64; omega
        have v1 := (i64_w _).trans w1
        have g1 : 0 ≤ m := by omega
        have g2 : m < (n : Int) := by have := HI2.out; omega
        clear hnq hm hq hlq hCq
        by_cases h7 : (nq : Int) < 4096
        ·have h7' : nq < 4096 := by omega
         go_wp2_with fail
         go_meet
         exact ⟨by rw [HBD.out, HBB.out, HNQ.out]; simp [h4', h5', h6', h7'], rfl, rfl⟩
        ·have h7' : ¬ nq < 4096 := by omega
         go_wp2_with fail
         go_meet
         exact ⟨by rw [HBD.out, HBB.out, HNQ.out]; simp [h4', h7'], rfl, rfl⟩
       ·have h6' : ¬ 0 < np := by omega
        go_wp2_with fail
        go_meet
        exact ⟨by rw [HBD.out, HBB.out]; simp [h4', h6'], rfl, rfl⟩
      ·have h5' : ¬ 0 < i := by omega
       go_wp2_with fail
       go_meet
       exact ⟨by rw [HBD.out, HBB.out]; simp [h4', h5'], rfl, rfl⟩
    ·go_wp2_with fail
     go_meet
     exact ⟨by rw [HBD.out, HBB.out]; simp, rfl, rfl⟩
   case rest =>
    obtain ⟨rfl, rfl, rfl⟩ := hcut
    have hxg : wc.cell? ⟨pg, 0, none⟩ = some u := by simp [World.cell?, HT.out.rdr]
    have HHT := Aside0.mk HT.out
    have hfl : (l0.take i).flatten.length ≤ 1000000 := by
     have h1 := flat_len 10000 (l0.take i) (fun l hl => (HB.out l (List.mem_of_mem_take hl)).1)
     have h2 : (l0.take i).length ≤ 100 := by rw [List.length_take]; have := HN.out; omega
     have h3 := Nat.mul_le_mul_right 10000 h2
     omega
    have hpl : p.length ≤ 10000 := by
     rw [← HP.out, List.getD_eq_getElem?_getD]
     have h1 : i < l0.length := by have := HI2.out; have := HNN.out; omega
     rw [List.getElem?_eq_getElem h1]
     exact (HB.out _ (List.getElem_mem h1)).1
    have HFL := Aside0.mk hfl
    have HPL := Aside0.mk hpl
    clear hfl hpl
    go_wp2_with (at_builtin; refine Kd.R_append_row (Value.int .u8) 0 (h1 := fun _ => rfl) (w0 := wc) w.heap.size rfl (.tmp 51) (.tmp 52) 26 5 (.int .u8 0) 1 rfl Try.underlying26 info5 rfl (by omega) u (l0.take i).flatten p Ap np cp (fun _ => True) rfl rfl (fun _ _ => trivial) ?aO ?aR (Below.refl _ _) ?aS ?aL ?_; (case aO => exact HHT.out.own); (case aR => (rw [← HNP.out]; exact HCP.out)); (case aS => exact HHT.out.below.size); (case aL => (have := HFL.out; have := HPL.out; have := HNP.out; omega)); intro v12 W12 ho12 hb12 hg12 hat12; obtain ⟨A12, c12, rfl⟩ := Kd.R_slice ho12; have T12 := HHT.out.over hg12 _ _ ho12; have hc12 : W12.cell? ⟨pg, 0, none⟩ = some u := (World.cell?_of_block (a := ⟨pg, 0, none⟩) T12.1).trans hxg; have hf12 : W12.frozen? ⟨pg, 0, none⟩ = false := (by rw [World.frozen?_of_block (a := ⟨pg, 0, none⟩) T12.1]; simp [World.frozen?, HHT.out.rdr]); have HT12 := Aside0.mk T12.2; clear T12 ho12 hb12 hg12 hat12)
    go_wp2_with fail
    go_roundg (gk - 1)
    case measure => have := HI.out; have := HI2.out; omega
    case rel =>
     have h9 := HT12.out
     have e12 : (l0.take (i + 1)).flatten = (l0.take i).flatten ++ p := by
      have h1 : i < l0.length := by have := HI2.out; have := HNN.out; omega
      have h2 : l0[i] = p := by rw [← HP.out, List.getD_eq_getElem?_getD, List.getElem?_eq_getElem h1]; rfl
      rw [List.take_succ_eq_append_getElem h1, h2]
      simp
     rw [← e12] at h9
     exact ⟨i + 1, .slice A12 ((l0.take (i + 1)).flatten).length c12, rfl, by have := HI2.out; have := HN.out; have := HNN.out; simp [wrap64]; omega, ⟨by have := HI.out; have := HI2.out; omega⟩, ⟨by simpa [e12] using h9⟩⟩
  ·have hi9 : i = n := by have := HI.out; omega
   subst hi9
   have hfull : l0.take i = l0 := List.take_of_length_le (by have := HNN.out; omega)
   rw [hfull] at HT
   clear hi hfull
   obtain ⟨bad, hbad⟩ : ∃ b, badUpTo l0 i = b := ⟨_, rfl⟩
   rw [hbad]
   have HBAD := Aside0.mk hbad
   clear hbad
   cases bad
   ·have HHT := Aside0.mk HT.out
    obtain ⟨b, hb⟩ : ∃ b, l0.flatten = b := ⟨_, rfl⟩
    have HHB := Aside0.mk hb
    rw [hb] at HHT
    clear hb
    obtain ⟨S, hun⟩ := HHT.out.un
    obtain ⟨ub, hub⟩ : ∃ ub, u.ownBlock = ub := ⟨_, rfl⟩
    rw [hub] at hun
    clear hub
    have HOKB := Aside0.mk (show ∀ x ∈ b, 0 ≤ x ∧ x ≤ 255 from by
     intro x hx
     rw [← HHB.out, List.mem_flatten] at hx
     obtain ⟨l, hl, hxl⟩ := hx
     exact okB_iff (HB.out l hl).2 x hxl)
    have HBL := Aside0.mk (show b.length ≤ 1000000 from by
     rw [← HHB.out]
     have h1 := flat_len 10000 l0 (fun l hl => (HB.out l hl).1)
     have h2 : l0.length ≤ 100 := HN.out
     have h3 := Nat.mul_le_mul_right 10000 h2
     omega)
    have HUN := Aside0.mk hun
    clear hun HHT HT
    obtain ⟨A1, c1, hr1⟩ := HUN.out.rd
    go_wp2_with fail
    by_cases h2 : 2 ≤ b.length
    case neg =>
     refine (number_no pg b A1 c1 2 wr _ hr1 (by omega)).mono ?_
     rintro e w1 ⟨rfl, rfl⟩
     have hres : r1 = [] ∧ r2 = 160 := by
      have h := hf.out
      unfold record_Unsnap.f at h
      rw [if_pos ⟨HN.out, HB.out⟩, if_neg (by rw [HNN.out, HBAD.out]; simp), if_pos (by rw [HHB.out]; omega)] at h
      simp only [Option.some.injEq, Prod.mk.injEq] at h
      exact ⟨h.1.symm, h.2.symm⟩
     obtain ⟨rfl, rfl⟩ := hres
     go_wp2_with fail
     exact unsnap_dies HUN.out.ud _ rfl rfl rfl
    have hres : ∃ cnt : Nat, beN (b.take 2) = cnt ∧ cnt < 65536 ∧ (objsA k cnt [] (b.drop 2)).bind (unsEnd k) = some (r1, r2) := by
     have h := hf.out
     unfold record_Unsnap.f at h
     rw [if_pos ⟨HN.out, HB.out⟩, if_neg (by rw [HNN.out, HBAD.out]; simp), if_neg (by rw [HHB.out]; omega), HHB.out] at h
     have h5 := beN_lt (b.take 2) (fun x hx => HOKB.out x (List.mem_of_mem_take hx))
     have h6 : (b.take 2).length = 2 := by rw [List.length_take]; omega
     rw [h6] at h5
     exact ⟨(beN (b.take 2)).toNat, (Int.toNat_of_nonneg h5.1).symm, by omega, h⟩
    obtain ⟨cnt, hcnt, hcl, hob⟩ := hres
    have HCL := Aside0.mk hcl
    have HOB := Aside0.mk hob
    refine (number_ok pg b A1 c1 2 wr _ hr1 h2 (by omega) (fun x hx => HOKB.out x (List.mem_of_mem_take hx))).mono ?_
    rintro e W1 ⟨rfl, hg1, hr1'⟩
    have T1 := HUN.out.read hg1 hr1'
    rw [hcnt]
    have HT1 := Aside0.mk T1
    clear hcnt hcl hob T1 hg1 hr1' hr1 h2 HUN
    go_wp2_with fail
    go_loopg [61] cnt (fun kq v61 w' => ∃ (i : Nat) (v : Value) (os : List S61) (l : List Int), v61 = .int .i64 i ∧ Aside0 (i + kq = cnt) ∧ Aside0 (Un S ub w w' po pe pg v os l) ∧ Aside0 (os.length = i) ∧ Aside0 (∀ x ∈ l, 0 ≤ x ∧ x ≤ 255) ∧ Aside0 (l.length ≤ 1000000) ∧ Aside0 ((objsA k kq os l).bind (unsEnd k) = some (r1, r2)))
    case atStart => exact ⟨0, _, [], b.drop 2, rfl, ⟨by omega⟩, HT1, ⟨rfl⟩, ⟨fun x hx => HOKB.out x (List.mem_of_mem_drop hx)⟩, ⟨by have := HBL.out; rw [List.length_drop]; omega⟩, HOB⟩
    case round =>
     obtain ⟨i2, v, os, l, rfl, HI2, HT2, HOS, HOL, HLL, HOBL⟩ := hrel
     by_cases hi : i2 < cnt
     ·obtain ⟨m, hm⟩ : ∃ m, gk = m + 1 := ⟨gk - 1, by have := HI2.out; omega⟩
      have hstep := objsA_step k m os l (r1, r2) (by rw [← hm]; exact HOBL.out)
      have HSTEP := Aside0.mk hstep
      have HM := Aside0.mk hm
      obtain ⟨A2, c2, hr2⟩ := HT2.out.rd
      have hil : (i2 : Int) < (cnt : Int) := by omega
      have HIL := Aside0.mk hi
      clear hstep hm hi
      go_wp2_with fail
      by_cases h4 : 4 ≤ l.length
      case neg =>
       refine (number_no pg l A2 c2 4 _ _ hr2 (by omega)).mono ?_
       rintro e w1 ⟨rfl, rfl⟩
       obtain ⟨rfl, rfl⟩ : r1 = [] ∧ r2 = 160 := by
        rcases HSTEP.out with ⟨_, h⟩ | ⟨h, _⟩
        ·exact ⟨congrArg Prod.fst h, congrArg Prod.snd h⟩
        ·omega
       go_wp2_with fail
       exact unsnap_dies HT2.out.ud _ rfl rfl rfl
      refine (number_ok pg l A2 c2 4 _ _ hr2 h4 (by omega) (fun x hx => HOL.out x (List.mem_of_mem_take hx))).mono ?_
      rintro e W2 ⟨rfl, hg2, hr2'⟩
      have T2 := HT2.out.read hg2 hr2'
      obtain ⟨ep, hep⟩ : ∃ ep, beN (l.take 4) = ep := ⟨_, rfl⟩
      rw [hep]
      obtain ⟨l4, hl4⟩ : ∃ l4, l.drop 4 = l4 := ⟨_, rfl⟩
      rw [hl4] at T2
      have hst := HSTEP.out.resolve_left (fun h => by have := h.1; omega)
      rw [hep, hl4] at hst
      obtain ⟨_, r, hch, hbad, hgood⟩ := hst
      have HB4 := Aside0.mk (show ∀ x ∈ l4, 0 ≤ x ∧ x ≤ 255 from fun x hx => HOL.out x (by rw [← hl4] at hx; exact List.mem_of_mem_drop hx))
      have HL4 := Aside0.mk (show l4.length ≤ 1000000 from by rw [← hl4, List.length_drop]; have := HLL.out; omega)
      have HT2' := Aside0.mk T2
      have HCH := Aside0.mk hch
      have HBD := Aside0.mk hbad
      have HGD := Aside0.mk hgood
      obtain ⟨A3, c3, hr3⟩ := T2.rd
      clear T2 hch hbad hgood hep hl4 h4 hg2 hr2' hr2 HT2 HSTEP
      go_wp2_with fail
      refine (record_calls k pg l4 A3 c3 _ _ hr3 HB4.out HL4.out r HCH.out).mono ?_
      rintro e W3 ⟨hg3, ⟨hf3, hr0, v3, rfl, hv3, A4, c4, hrd4⟩ | ⟨hbad3, rfl⟩⟩
      ·have T3 := HT2'.out.read hg3 ⟨A4, c4, hrd4⟩
       have hgood := HGD.out hf3 hr0
       have hbad : ¬ (recOf l4).1 = 1 → (r1, r2) = ([], 160) := fun h1 => HBD.out (fun h => h1 h.2.2)
       have hrb : ∀ x ∈ (recOf l4).2.2.2.2, x ∈ l4 := recOf_mem l4
       have hrl : (recOf l4).2.2.2.2.length ≤ l4.length := recOf_len l4
       obtain ⟨rec, hrec⟩ : ∃ rec, recOf l4 = rec := ⟨_, rfl⟩
       rw [hrec] at hv3 T3 hgood hbad hrb hrl ⊢
       obtain ⟨kd, key, len, st, rest⟩ := rec
       simp only at hv3 T3 hgood hbad hrb hrl ⊢
       have hv4 := Kd.R_lower hv3 (show w.heap.size ≤ W2.heap.size from HT2'.out.below.size)
       have HT3 := Aside0.mk T3
       have HV3 := Aside0.mk hv4
       have HGD2 := Aside0.mk hgood
       have HBD2 := Aside0.mk hbad
       have HRB := Aside0.mk hrb
       have HRL := Aside0.mk hrl
       clear T3 hv3 hv4 hgood hbad hrb hrl hrec hg3 hrd4 hr3 hf3 hr0 HT2' HCH HBD HGD
       obtain ⟨Av, cv, rfl⟩ := Kd.R_slice HV3.out
       obtain ⟨nst, hnst⟩ : ∃ nst, st.length = nst := ⟨_, rfl⟩
       have HNS := Aside0.mk hnst
       rw [hnst]
       clear hnst
       go_upto_region 16 with fail
       have hnew := heap_alloc_new W3 (Obj.cells #[.int .i64 kd, .string key, .int .i64 len, .slice Av nst cv] 25)
       have T4 := HT3.out.step (below_alloc (Below.refl _ _) (Obj.cells #[.int .i64 kd, .string key, .int .i64 len, .slice Av nst cv] 25))
       have hv4 := Kd.R_alloc HV3.out (Obj.cells #[.int .i64 kd, .string key, .int .i64 len, .slice Av nst cv] 25)
       obtain ⟨ba, hba⟩ : ∃ ba, W3.heap.size = ba := ⟨_, rfl⟩
       rw [hba] at hnew ⊢
       obtain ⟨W4, hW4⟩ : ∃ W4, (W3.alloc (Obj.cells #[.int .i64 kd, .string key, .int .i64 len, .slice Av nst cv] 25)) = W4 := ⟨_, rfl⟩
       rw [hW4] at hnew T4 hv4 ⊢
       have x0 : W4.cell? ⟨ba, 0, none⟩ = some (.int .i64 kd) := by simp [World.cell?, hnew]
       have x1 : W4.cell? ⟨ba, 1, none⟩ = some (.string key) := by simp [World.cell?, hnew]
       have x2 : W4.cell? ⟨ba, 2, none⟩ = some (.int .i64 len) := by simp [World.cell?, hnew]
       have x3 : W4.cell? ⟨ba, 3, none⟩ = some (.slice Av nst cv) := by simp [World.cell?, hnew]
       have HT4 := Aside0.mk T4
       have HV4 := Aside0.mk hv4
       clear T4 hv4 hnew hba hW4 HT3 HV3
       by_cases hk : kd = 1
       ·subst hk
        have hgd := HGD2.out rfl
        have HGD3 := Aside0.mk hgd
        have xo : W4.cell? ⟨po, 0, none⟩ = some v := by simp [World.cell?, HT4.out.out]
        clear hgd HGD2 HBD2
        go_wp2_with (at_builtin; refine Kd.R_append k61 (w0 := w) w.heap.size rfl (.tmp 71) (.tmp 80) 37 61 (.agg #[(.string ⟨#[]⟩), (.int .i64 0), (.int .i64 0), (.slice none 0 0)]) 56 rfl Try.underlying37 info61 rfl (by decide) (by omega) v os (⟨key, len, ep, st⟩ : S61) [.string key, .int .i64 len, .int .i64 ep, .slice Av nst cv] (fun _ => True) (fun k_ => some k_ ≠ v.ownBlock) rfl rfl ?aP (fun _ hk => ⟨trivial, hk⟩) (fun _ _ => trivial) ?aO ?aB ?aS ?aL ?_; (case aP => (rw [← HNS.out]; exact k61_mkM _ _ _ (⟨key, len, ep, st⟩ : S61) (Kd.R_mono (Kd.R_apartR HV4.out HT4.out.own (by decide)) (fun _ hk => hk.2)))); (case aO => exact HT4.out.own); (case aB => exact HT4.out.below); (case aS => exact HT4.out.below.size); (case aL => (have := HOS.out; have := HCL.out; have := HIL.out; omega)); intro v12 W12 ho12 hb12 hg12 hat12; obtain ⟨A12, c12, rfl⟩ := Kd.R_slice ho12; have T12 := HT4.out.over hg12 _ _ ho12; have hc12 : W12.cell? ⟨po, 0, none⟩ = some v := (World.cell?_of_block (a := ⟨po, 0, none⟩) T12.1).trans xo; have hf12 : W12.frozen? ⟨po, 0, none⟩ = false := (by rw [World.frozen?_of_block (a := ⟨po, 0, none⟩) T12.1]; simp [World.frozen?, HT4.out.out]); have HT12 := Aside0.mk T12.2; clear T12 ho12 hb12 hg12 hat12)
        go_wp2_with fail
        go_roundg (gk - 1)
        case measure => have := HM.out; omega
        case rel =>
         have h9 := HT12.out
         rw [show (os ++ [(⟨key, len, ep, st⟩ : S61)]).length = os.length + 1 from by simp] at h9
         exact ⟨i2 + 1, _, os ++ [(⟨key, len, ep, st⟩ : S61)], rest, by have := HCL.out; have := HIL.out; simp [wrap64]; omega, ⟨by have := HM.out; have := HI2.out; omega⟩, ⟨h9⟩, ⟨by rw [List.length_append, HOS.out]; rfl⟩, ⟨fun x hx => HB4.out x (HRB.out x hx)⟩, ⟨Nat.le_trans HRL.out HL4.out⟩, ⟨by rw [show gk - 1 = m from by have := HM.out; omega]; exact HGD3.out⟩⟩
       ·have hres := HBD2.out hk
        obtain ⟨rfl, rfl⟩ : r1 = [] ∧ r2 = 160 := ⟨congrArg Prod.fst hres, congrArg Prod.snd hres⟩
        clear hres HGD2 HBD2
        go_wp2_with fail
        exact unsnap_dies HT4.out.ud _ rfl rfl rfl
      ·have hres : (r1, r2) = ([], 160) := by
        refine HBD.out (fun h => ?_)
        rcases hbad3 with h3 | h3
        ·rw [h.1] at h3
         cases h3
        ·exact h3 h.2.1
       obtain ⟨rfl, rfl⟩ : r1 = [] ∧ r2 = 160 := ⟨congrArg Prod.fst hres, congrArg Prod.snd hres⟩
       have hud := HT2'.out.udg hg3
       have HUD := Aside0.mk hud
       clear hres HBD HGD hud hg3 hr3 hbad3 HCH HT2'
       go_wp2_with fail
       exact unsnap_dies HUD.out _ rfl rfl rfl
     ·have hend : (unsEnd k (some (os, l))) = some (r1, r2) := by
       have h := HOBL.out
       have h0 : gk = 0 := by have := HI2.out; have := HI.out; omega
       rw [h0] at h
       exact h
      have hic : i2 = cnt := by have := HI2.out; omega
      have HEND := Aside0.mk hend
      clear hend hi
      obtain ⟨A5, c5, hr5⟩ := HT2.out.rd
      have g5 : wr.cell? ⟨pg, 0, none⟩ = some (.slice A5 l.length c5) := by simp [World.cell?, hr5.cell]
      have xo : wr.cell? ⟨po, 0, none⟩ = some v := by simp [World.cell?, HT2.out.out]
      have fo : wr.frozen? ⟨po, 0, none⟩ = false := by simp [World.frozen?, HT2.out.out]
      obtain ⟨nl, hnl⟩ : ∃ nl, l.length = nl := ⟨_, rfl⟩
      rw [hnl] at g5
      have HNL := Aside0.mk hnl
      subst hic
      clear hnl hr5
      by_cases hl : 0 < nl
      ·have hl2 : (0 : Int) < (nl : Int) := by omega
       have hres : r1 = [] ∧ r2 = 160 := by
        have h := HEND.out
        simp only [unsEnd] at h
        rw [if_pos (by rw [HNL.out]; exact hl)] at h
        simp only [Option.some.injEq, Prod.mk.injEq] at h
        exact ⟨h.1.symm, h.2.symm⟩
       obtain ⟨rfl, rfl⟩ := hres
       clear hl
       go_wp2_with fail
       exact unsnap_dies HT2.out.ud _ rfl rfl rfl
      ·have hl2 : ¬ (0 : Int) < (nl : Int) := by omega
       obtain ⟨bm, hbm, hres⟩ : ∃ bm, record_may.f k os = some bm ∧ (if bm = true then some (os, 0) else some ([], 160)) = some (r1, r2) := by
        have h := HEND.out
        simp only [unsEnd] at h
        rw [if_neg (by rw [HNL.out]; exact hl)] at h
        exact Option.bind_eq_some_iff.mp h
       obtain ⟨Ao, co, rfl⟩ := Kd.R_slice HT2.out.own
       have hmay := record_may.calls k Ao co os bm wr (Kd.R_reads' HT2.out.own).2.2 (Kd.R_reads' HT2.out.own).2.1 hbm
       obtain ⟨no, hno⟩ : ∃ no, os.length = no := ⟨_, rfl⟩
       rw [hno] at hmay xo
       have HNO := Aside0.mk hno
       have HRES := Aside0.mk hres
       have HMAY := Aside0.mk hmay
       clear hl hbm hno hres hmay
       cases bm
       ·have hres : r1 = [] ∧ r2 = 160 := by
         have h := HRES.out
         simp only [Bool.false_eq_true, if_false, Option.some.injEq, Prod.mk.injEq] at h
         exact ⟨h.1.symm, h.2.symm⟩
        obtain ⟨rfl, rfl⟩ := hres
        go_wp2_with (go_at_call 35; refine HMAY.out.mono ?_; rintro e W5 ⟨rfl, hb5⟩; have HT5 := Aside0.mk (HT2.out.step hb5); clear hb5)
        exact unsnap_dies HT5.out.ud _ rfl rfl rfl
       ·have hres : r1 = os ∧ r2 = 0 := by
         have h := HRES.out
         simp only [if_true, Option.some.injEq, Prod.mk.injEq] at h
         exact ⟨h.1.symm, h.2.symm⟩
        obtain ⟨rfl, rfl⟩ := hres
        have n1 : ¬ po = pe := fun h => HT2.out.n1 h.symm
        go_wp2_with (go_at_call 35; refine HMAY.out.mono ?_; rintro e W5 ⟨rfl, hb5⟩; have HT5 := Aside0.mk (HT2.out.step hb5); clear hb5; have y0 : W5.cell? ⟨po, 0, none⟩ = some (.slice Ao no co) := (by rw [← HNO.out]; simp [World.cell?, HT5.out.out]); have z0 : W5.frozen? ⟨po, 0, none⟩ = false := (by simp [World.frozen?, HT5.out.out]); have y1 : W5.cell? ⟨pe, 0, none⟩ = some (.int .i64 0) := (by simp [World.cell?, HT5.out.err]); have z1 : W5.frozen? ⟨pe, 0, none⟩ = false := (by simp [World.frozen?, HT5.out.err]))
        have hend := unsnap_ends HT5.out
        rw [HNO.out] at hend
        exact hend _ rfl rfl rfl
   ·have hres : r1 = [] ∧ r2 = 160 := by
     have h := hf.out
     unfold record_Unsnap.f at h
     rw [if_pos ⟨HN.out, HB.out⟩, if_pos (by rw [HNN.out]; exact HBAD.out)] at h
     simp only [Option.some.injEq, Prod.mk.injEq] at h
     exact ⟨h.1.symm, h.2.symm⟩
    obtain ⟨rfl, rfl⟩ := hres
    have HHT := Aside0.mk HT.out
    go_wp2_with fail
    refine leaves_cons (f := 40) (args := #[.pointer (some ⟨pe, 0, none⟩), .pointer (some ⟨po, 0, none⟩)]) (by simp) (by simp [go_sem]) ?_
    refine (unsnap_catch pe po 0 _ [] wr HHT.out.err HHT.out.out HHT.out.n1).mono ?_
    rintro e u' w'' ⟨rfl, rfl, he3, ho3, hb3⟩
    have q0 : w''.cell? ⟨po, 0, none⟩ = some (.slice none 0 0) := by simp [World.cell?, ho3]
    have q4 : w''.cell? ⟨pe, 0, none⟩ = some (.int .i64 160) := by simp [World.cell?, he3]
    simp [Leaves, settle, results, Try.results23, go_sem, q0, q4]
    unfold unsnapPost
    exact ⟨_, rfl, Kd.V_nil _ _ _ _ _, HHT.out.below.trans (hb3 _ HHT.out.gee HHT.out.geo)⟩
theorem record_Unsnap.calls (k : Nat) (A0 : Option Addr) (c0 : Nat) (l0 : List (List Int)) (r1 : List (S61)) (r2 : Int) (w : World) (hr0 : Kd.C (Kd.slice 5 (Kd.int .u8)) w A0 l0.length l0) (hc0 : l0.length ≤ c0) (h : record_Unsnap.f k l0 = some (r1, r2)) :
  Calls Try.prog 23 #[.slice A0 l0.length c0] w fun e w' => ∃ v0_ : Value, e = .returned (.tuple #[v0_, .int .i64 r2]) ∧ Kd.V k61 61 w' w.heap.size (fun k_ => w.heap.size ≤ k_) v0_ r1 ∧ Below w.heap.size w w' := by
 have h0 : l0.length ≤ 100 ∧ (∀ l ∈ l0, l.length ≤ 10000 ∧ okB l = true) := by
  by_cases h0 : l0.length ≤ 100 ∧ (∀ l ∈ l0, l.length ≤ 10000 ∧ okB l = true)
  ·exact h0
  ·unfold record_Unsnap.f at h
   rw [if_neg h0] at h
   cases h
 exact unsnap_run k A0 c0 l0 w hr0 hc0 h0.1 h0.2 r1 r2 ⟨h⟩
end

end Go.Proofs.Ytoeegdpkmdgkdaa.PAll
