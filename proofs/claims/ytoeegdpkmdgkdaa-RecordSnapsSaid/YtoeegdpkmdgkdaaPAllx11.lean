-- LAID BY A PROGRAM OF THIS SESSION (wip/tools: the kit's print with changes of our own)
import Derived.Test.YtoeegdpkmdgkdaaPAllx0
import Derived.Test.YtoeegdpkmdgkdaaPAllx9
import Derived.Test.YtoeegdpkmdgkdaaPAllx10
namespace Go.Proofs.Ytoeegdpkmdgkdaa.PAll
open Go.RowKit Go.Proofs.YtoeegdpkmdgkdaaW.PrintWords Go.Proofs.YtoeegdpkmdgkdaaW.PrintLast Go.Proofs.YtoeegdpkmdgkdaaW.PrintMore
attribute [local go_sem] min2_int min_two   -- for this text's walks alone
set_option linter.unusedVariables false
set_option linter.unusedSimpArgs false

/-! ### aumbryref16_next: function 33 -/
section
/-- What stands while the document's record is read. -/
structure Nx (w W : World) (b2 b3 : Nat) (kd : Int) (key : ByteArray) (len : Int) (v : Value) (st : List Int) : Prop where
 below : Below w.heap.size w W
 out : W.heap[b3]? = some (.cells #[.int .i64 kd, .string key, .int .i64 len, v] 25 (0, 0))
 res : W.heap[b2]? = some zero25
 ge2 : w.heap.size ≤ b2
 ge3 : w.heap.size ≤ b3
 ne : b2 ≠ b3
 own : Kd.R (Kd.int .i64) 3 W w.heap.size (fun _ => True) v st
variable {w W W' : World} {b2 b3 : Nat} {kd : Int} {key : ByteArray} {len : Int} {v : Value} {st : List Int}
theorem Nx.old (h : Nx w W b2 b3 kd key len v st) (hb : Below W.heap.size W W') : Nx w W' b2 b3 kd key len v st where
 below := h.below.trans ⟨hb.os, hb.tape, hb.output, hb.size, fun k hk => hb.block k (Nat.lt_of_lt_of_le hk h.below.size)⟩
 out := by rw [hb.block b3 (Array.getElem?_eq_some_iff.1 h.out).1]; exact h.out
 res := by rw [hb.block b2 (Array.getElem?_eq_some_iff.1 h.res).1]; exact h.res
 ge2 := h.ge2
 ge3 := h.ge3
 ne := h.ne
 own := Kd.R_below h.own hb
theorem Nx.cells (h : Nx w W b2 b3 kd key len v st) :
  W.cell? ⟨b3, 0, none⟩ = some (.int .i64 kd) ∧ W.cell? ⟨b3, 1, none⟩ = some (.string key) ∧ W.cell? ⟨b3, 2, none⟩ = some (.int .i64 len) ∧ W.cell? ⟨b3, 3, none⟩ = some v := by
 simp [World.cell?, h.out]
theorem Nx.free (h : Nx w W b2 b3 kd key len v st) (j : Nat) : W.frozen? ⟨b3, j, none⟩ = false := by
 simp [World.frozen?, h.out]
theorem Nx.store (h : Nx w W b2 b3 kd key len v st) (j : Nat) (u : Value) (key' : ByteArray) (len' : Int)
  (hj : [.int .i64 kd, .string key, .int .i64 len, v].set j u = [.int .i64 kd, .string key', .int .i64 len', v]) : Nx w (W.setCell ⟨b3, j, none⟩ u) b2 b3 kd key' len' v st where
 below := h.below.trans (below_cell W b3 j u h.ge3)
 out := by
  simp [World.setCell, Array.getElem?_modify, h.out]
  exact hj
 res := by
  have := (grown_cell W b3 j u).block b2 (Array.getElem?_eq_some_iff.1 h.res).1 (by have := h.ne; simp; omega)
  rw [this]
  exact h.res
 ge2 := h.ge2
 ge3 := h.ge3
 ne := h.ne
 own := Kd.R_grown2 h.own rfl (grown_cell W b3 j u) (fun k hk e => by
  cases hk
  exact Kd.R_ne h.own h.out (by decide) e)
theorem Nx.over (h : Nx w W b2 b3 kd key len v st) (hg : W.grownBy W' v.ownBlock) (v' : Value) (st' : List Int) (ho : Kd.R (Kd.int .i64) 3 W' w.heap.size (fun _ => True) v' st') : W'.heap[b3]? = W.heap[b3]? ∧ Nx w (W'.setCell ⟨b3, 3, none⟩ v') b2 b3 kd key len v' st' := by
 have h1 := h.ge3
 have hlt3 := (Array.getElem?_eq_some_iff.1 h.out).1
 have hlt2 := (Array.getElem?_eq_some_iff.1 h.res).1
 have e3 : W'.heap[b3]? = W.heap[b3]? := hg.block b3 hlt3 (Kd.R_ne h.own h.out (by decide))
 have e2 : W'.heap[b2]? = W.heap[b2]? := hg.block b2 hlt2 (Kd.R_ne h.own h.res (by decide))
 have hgr := grown_cell W' b3 3 v'
 have hold : ∀ k, k < w.heap.size → W'.heap[k]? = W.heap[k]? := fun k hk => hg.block k (Nat.lt_of_lt_of_le hk h.below.size) (fun e => by have := Kd.R_base h.own k e.symm; omega)
 refine ⟨e3, (h.below.trans ⟨hg.os, hg.tape, hg.output, hg.size, hold⟩).trans (below_cell W' b3 3 v' h1), ?_, ?_, h.ge2, h.ge3, h.ne, ?_⟩
 ·have := h.out
  rw [← e3] at this
  simp [World.setCell, Array.getElem?_modify, this]
 ·rw [hgr.block b2 (Nat.lt_of_lt_of_le hlt2 hg.size) (by have := h.ne; simp; omega), e2]
  exact h.res
 ·have ho3 := h.out
  rw [← e3] at ho3
  exact Kd.R_grown2 ho rfl hgr (fun k hk e => by
   cases hk
   exact Kd.R_ne ho ho3 (by decide) e)
theorem Nx.fin (h : Nx w W b2 b3 kd key len v st) (hg : W.grownBy W' (some b2)) : Below w.heap.size w W' ∧ Kd.R (Kd.int .i64) 3 W' w.heap.size (fun _ => True) v st :=
 ⟨h.below.trans ⟨hg.os, hg.tape, hg.output, hg.size, fun k hk => hg.block k (Nat.lt_of_lt_of_le hk h.below.size) (by have := h.ge2; simp; omega)⟩, Kd.R_grown2 h.own rfl hg (fun k hk e => by cases hk; exact Kd.R_ne h.own h.res (by decide) e)⟩
theorem Nx.made {W2 : World} (h1 : Below w.heap.size w W2) (h2 : W2.heap[b2]? = some zero25) (h3 : w.heap.size ≤ b2) (kd : Int) (key : ByteArray) :
  Nx w (W2.alloc (.cells #[.int .i64 kd, .string key, .int .i64 0, .slice none 0 0] 25)) b2 W2.heap.size kd key 0 (.slice none 0 0) [] := by
 refine ⟨below_alloc h1 _, heap_alloc_new _ _, ?_, h3, h1.size, ?_, Kd.R_nil _ _ _ _ _⟩
 ·rw [heap_alloc_old _ _ (Array.getElem?_eq_some_iff.1 h2).1]
  exact h2
 ·have := (Array.getElem?_eq_some_iff.1 h2).1
  omega
set_option maxHeartbeats 4000000 in
theorem next_short (A0 : Option Addr) (c0 : Nat) (l0 : List Int) (w : World) (hr0 : Kd.C (Kd.int .u8) w A0 l0.length l0) (hb : ∀ x ∈ l0, 0 ≤ x ∧ x ≤ 255) (hl : l0.length ≤ 1000000)
  (hs : l0.length < 2 ∨ l0.length < 2 + (rd l0 1).toNat + 6) :
  Calls Try.prog 33 #[.slice A0 l0.length c0] w fun e w' => e = .returned (.tuple #[.agg #[.int .i64 0, .string ⟨#[]⟩, .int .i64 0, .slice none 0 0], .slice none 0 0, .bool false]) ∧ Below w.heap.size w w' := by
 have hb1 := below_alloc (Below.refl w.heap.size w) zero25
 obtain ⟨n, hn⟩ : ∃ n, l0.length = n := ⟨_, rfl⟩
 by_cases h2 : n < 2
 ·rw [hn] at hl hs hr0 ⊢
  have h3 : (n : Int) < 2 := by omega
  clear hs
  go_enter Try.func33, Try.ntmps33
  go_wp2_with fail
  refine bodyPost_ret (v := .tuple #[.agg #[.int .i64 0, .string ⟨#[]⟩, .int .i64 0, .slice none 0 0], .slice none 0 0, .bool false]) ?_ rfl ⟨rfl, hb1⟩
  simp [results, Try.results33, go_sem]
 ·have h4 := hs.resolve_left (by omega)
  have hsz : 0 ≤ rd l0 1 ∧ rd l0 1 ≤ 255 := byte_at hb (i := 1) (by omega)
  obtain ⟨sz, hszd⟩ : ∃ sz, rd l0 1 = sz := ⟨_, rfl⟩
  rw [hszd] at hsz h4
  have hrow := Kd.C_below hr0 hb1
  obtain ⟨W0, hW0⟩ : ∃ W0, w.alloc zero25 = W0 := ⟨_, rfl⟩
  have ho0 : W0.heap[w.heap.size]? = some zero25 := by rw [← hW0]; exact heap_alloc_new _ _
  rw [hW0] at hb1 hrow
  obtain ⟨ad, e1, hx1⟩ := Kd.at_int hrow 1 (by omega) (by omega)
  cases e1
  rw [hszd] at hx1
  have hx1 : W0.cell? ⟨ad.block, ad.off + 1, none⟩ = some (.int .u8 sz) := hx1
  rw [hn] at hl hs hr0 h4 ⊢
  have h3 : ¬ (n : Int) < 2 := by omega
  have e5 : wrap64 sz = sz := by unfold wrap64; omega
  have e6 : wrap64 (2 + sz) = 2 + sz := by unfold wrap64; omega
  have e7 : wrap64 (2 + sz + 6) = 2 + sz + 6 := by unfold wrap64; omega
  have h5 : (n : Int) < 2 + sz + 6 := by omega
  have h7 : 1 < n := by omega
  have HB1 := Aside0.mk hb1
  obtain ⟨po, hpo⟩ : ∃ po, w.heap.size = po := ⟨_, rfl⟩
  rw [hpo] at ho0
  have d0 : W0.cell? ⟨po, 0, none⟩ = some (.int .i64 0) := by simp [World.cell?, ho0, zero25]
  have d1 : W0.cell? ⟨po, 1, none⟩ = some (.string ⟨#[]⟩) := by simp [World.cell?, ho0, zero25]
  have d2 : W0.cell? ⟨po, 2, none⟩ = some (.int .i64 0) := by simp [World.cell?, ho0, zero25]
  have d3 : W0.cell? ⟨po, 3, none⟩ = some (.slice none 0 0) := by simp [World.cell?, ho0, zero25]
  have f0 : ∀ j, W0.frozen? ⟨po, j, none⟩ = false := by intro j; simp [World.frozen?, ho0, zero25]
  have f00 := f0 0
  have f01 := f0 1
  have f02 := f0 2
  have f03 := f0 3
  have HO0 := Aside0.mk ho0
  have HPO := Aside0.mk hpo
  clear hs hrow hr0 hszd ho0 f0 hb hb1
  go_enter Try.func33, Try.ntmps33
  go_upto_region 1 with fail
  simp only [zero25] at hW0
  rw [hW0]
  try rw [hpo]
  clear hW0 hpo
  go_wp2_with fail
  have hgr := (((grown_cell W0 po 0 (.int .i64 0)).trans (grown_cell _ po 1 (.string ⟨#[]⟩))).trans ((grown_cell _ po 2 (.int .i64 0)).trans (grown_cell _ po 3 (.slice none 0 0))))
  have h4 := four_cells W0 po (.int .i64 0) (.string ⟨#[]⟩) (.int .i64 0) (.slice none 0 0) _ _ _ _ HO0.out
  obtain ⟨W14, hW14⟩ : ∃ W14, ((((W0.setCell ⟨po, 0, none⟩ (.int .i64 0)).setCell ⟨po, 1, none⟩ (.string ⟨#[]⟩)).setCell ⟨po, 2, none⟩ (.int .i64 0)).setCell ⟨po, 3, none⟩ (.slice none 0 0)) = W14 := ⟨_, rfl⟩
  rw [hW14] at hgr h4 ⊢
  have q0 : W14.cell? ⟨po, 0, none⟩ = some (.int .i64 0) := by simp [World.cell?, h4]
  have q1 : W14.cell? ⟨po, 1, none⟩ = some (.string ⟨#[]⟩) := by simp [World.cell?, h4]
  have q2 : W14.cell? ⟨po, 2, none⟩ = some (.int .i64 0) := by simp [World.cell?, h4]
  have q3 : W14.cell? ⟨po, 3, none⟩ = some (.slice none 0 0) := by simp [World.cell?, h4]
  have hbel : Below w.heap.size w W14 := HB1.out.trans ⟨hgr.os, hgr.tape, hgr.output, hgr.size, fun k hk => hgr.block k (Nat.lt_of_lt_of_le hk HB1.out.size) (by have := HPO.out; simp; omega)⟩
  refine bodyPost_ret (v := .tuple #[.agg #[.int .i64 0, .string ⟨#[]⟩, .int .i64 0, .slice none 0 0], .slice none 0 0, .bool false]) ?_ rfl ⟨rfl, hbel⟩
  simp [results, Try.results33, go_sem, q0, q1, q2, q3]
theorem number4 (ys : List Int) (h : ys.length = 4) (hb : ∀ x ∈ ys, 0 ≤ x ∧ x ≤ 255) : aumbryref11_Number.f ys = some (beN ys) := by
 obtain ⟨a, b, c, d, rfl⟩ : ∃ a b c d, ys = [a, b, c, d] := by
  rcases ys with _ | ⟨a, _ | ⟨b, _ | ⟨c, _ | ⟨d, _ | ⟨e, l⟩⟩⟩⟩⟩ <;> simp at h
  exact ⟨a, b, c, d, rfl⟩
 have ha := hb a (by simp)
 have hb' := hb b (by simp)
 have hc := hb c (by simp)
 have hd := hb d (by simp)
 have r0 : rd [a, b, c, d] 0 = a := rfl
 have r1 : rd [a, b, c, d] 1 = b := rfl
 have r2 : rd [a, b, c, d] 2 = c := rfl
 have r3 : rd [a, b, c, d] 3 = d := rfl
 simp only [aumbryref11_Number.f, r0, r1, r2, r3, List.length_cons, List.length_nil]
 rw [if_pos (by decide), if_pos (by decide), if_pos (by decide), if_pos (by decide)]
 congr 1
 simp only [beN, List.foldl]
 omega
theorem add_zero_addr (a : Addr) : a.add 0 = a := by simp [Addr.add]
theorem info3n : (Try.prog.info? 3).map (fun i => (i.zero, i.size, i.bytes)) = some (some (.int .i64 0), 1, 8) := by kernel_rfl
def nextPost (w : World) (P0_ : Nat → Prop) (G : Prop) (kd : Int) (key : ByteArray) (len : Int) (st rest : List Int) (r : Int) (e : Ending) (w' : World) : Prop :=
 ∃ v3 v4 : Value, ((G ∧ e = .returned (.tuple #[.agg #[.int .i64 kd, .string key, .int .i64 len, v3], v4, .bool (decide (r = 0))]) ∧ Kd.R (Kd.int .i64) 3 w' w.heap.size (fun _ => True) v3 st ∧ Kd.V (Kd.int .u8) 5 w' w.heap.size (fun k_ => P0_ k_) v4 rest) ∨
   (¬ G ∧ e = .returned (.tuple #[.agg #[.int .i64 0, .string ⟨#[]⟩, .int .i64 0, .slice none 0 0], .slice none 0 0, .bool false]))) ∧ Below w.heap.size w w'
set_option maxHeartbeats 8000000 in
theorem next_long (k : Nat) (A0 : Option Addr) (c0 : Nat) (kd sz : Int) (t : List Int) (w : World) (P0_ : Nat → Prop) (l0 : List Int) (hl0 : l0 = kd :: sz :: t) (hs0 : Kd.V (Kd.int .u8) 5 w w.heap.size (fun k_ => P0_ k_) (.slice A0 l0.length c0) l0) (hb : ∀ x ∈ l0, 0 ≤ x ∧ x ≤ 255) (hl : l0.length ≤ 1000000)
  (h1 : sz.toNat + 6 ≤ t.length) (key : ByteArray) (hkey : strOfNums (t.take sz.toNat) = key) (u : List Int) (hu : t.drop sz.toNat = u) (len : Int) (hlen : beN (u.take 4) = len) (cnt : Nat) (hcn : beN ((u.drop 4).take 2) = cnt) (body : List Int) (hbody : u.drop 6 = body)
  (G : Prop) (HGI : Aside0 (G ↔ (len ≤ 2147483647 ∧ 2 * cnt ≤ body.length))) (r : Int) (hch : len ≤ 2147483647 → 2 * cnt ≤ body.length → aumbryref16_Check.f k kd key len (pairsN cnt body) = some r) :
  Calls Try.prog 33 #[.slice A0 l0.length c0] w (nextPost w P0_ G kd key len (pairsN cnt body) (body.drop (2 * cnt)) r) := by
 have hb1 := below_alloc (Below.refl w.heap.size w) zero25
 have hroom := (Kd.V_reads' hs0).2.1
 have hC : ∀ W, Below w.heap.size w W → (Kd.int .u8).C W A0 l0.length l0 := fun W hW => Kd.C_below (Kd.V_reads' hs0).2.2 hW
 have HC := Aside0.mk hC
 have HB := Aside0.mk hb
 have HCH := Aside0.mk hch
 have HS := Aside0.mk hs0
 have hsz := hb sz (by rw [hl0]; simp)
 have hkd := hb kd (by rw [hl0]; simp)
 have hx : ∀ W, Below w.heap.size w W → ∃ ad, A0 = some ad ∧ ∀ i : Int, 0 ≤ i → i < l0.length → W.cell? (ad.add i.toNat) = some (.int .u8 (rd l0 i)) := by
  intro W hW
  obtain ⟨ad, e1, _⟩ := Kd.at_int (hC W hW) 0 (by omega) (by rw [hl0]; simp; omega)
  exact ⟨ad, e1, fun i h0 hi => Kd.foot_int (by rw [e1] at hC; exact hC W hW) i h0 hi⟩
 obtain ⟨ad, hA, _⟩ := hx w (Below.refl _ _)
 have hx2 : ∀ W, Below w.heap.size w W → ∀ i : Int, 0 ≤ i → i < l0.length → W.cell? (ad.add i.toNat) = some (.int .u8 (rd l0 i)) := by
  intro W hW i h0 hi
  obtain ⟨ad', e1, h⟩ := hx W hW
  rw [hA] at e1
  cases e1
  exact h i h0 hi
 have HX := Aside0.mk hx2
 subst hA
 clear hx hx2 hC hs0 hb hch
 have e0 : rd l0 0 = kd := by rw [hl0]; rfl
 have e1 : rd l0 1 = sz := by rw [hl0]; rfl
 obtain ⟨n, hn⟩ : ∃ n, l0.length = n := ⟨_, rfl⟩
 have hnt : n = t.length + 2 := by rw [← hn, hl0]; simp
 have HNT := Aside0.mk hnt
 obtain ⟨W0, hW0⟩ : ∃ W0, w.alloc zero25 = W0 := ⟨_, rfl⟩
 have ho0 : W0.heap[w.heap.size]? = some zero25 := by rw [← hW0]; exact heap_alloc_new _ _
 rw [hW0] at hb1
 have hx1 : W0.cell? ⟨ad.block, ad.off + 1, none⟩ = some (.int .u8 (rd l0 1)) := HX.out W0 hb1 1 (by omega) (by omega)
 have hx0 := HX.out W0 hb1 0 (by omega) (by omega)
 simp only [Int.toNat_zero, add_zero_addr] at hx0
 rw [e0] at hx0
 rw [e1] at hx1
 rw [hn] at hroom hl ⊢
 have h3 : ¬ (n : Int) < 2 := by omega
 have e5 : wrap64 sz = sz := by unfold wrap64; omega
 have e6 : wrap64 (2 + sz) = 2 + sz := by unfold wrap64; omega
 have e7 : wrap64 (2 + sz + 6) = 2 + sz + 6 := by unfold wrap64; omega
 have h5 : ¬ (n : Int) < 2 + sz + 6 := by omega
 have h7 : 1 < n := by omega
 have h8 : 0 < n := by omega
 have h9 : (2 + sz) ≤ (n : Int) := by omega
 clear hnt
 have HB1 := Aside0.mk hb1
 obtain ⟨po, hpo⟩ : ∃ po, w.heap.size = po := ⟨_, rfl⟩
 rw [hpo] at ho0
 have HO0 := Aside0.mk ho0
 have HPO := Aside0.mk hpo
 have HN := Aside0.mk hn
 have HL0 := Aside0.mk hl0
 clear ho0 hb1 hn hl0
 go_enter Try.func33, Try.ntmps33
 go_upto_region 1 with fail
 simp only [zero25] at hW0
 rw [hW0]
 try rw [hpo]
 clear hW0 hpo
 go_upto_region 4 with fail
 obtain ⟨i0, hi0, _, hsz1, _⟩ := info_parts info5
 have hmid := cut_mid (P := Try.prog) 26 5 .i64 .i64 Try.underlying26 hi0 1 hsz1 (some ad) n c0 2 (2 + sz) (by omega) (by omega) h9 hroom
 have hkeyC : ∀ W, Below w.heap.size w W → (convert 26 9 (.slice (if c0 = (2 : Int).toNat then some ad else (some ad).map (·.add ((2 : Int).toNat * 1))) ((2 + sz).toNat - (2 : Int).toNat) (c0 - (2 : Int).toNat))).run Try.prog W = .ok (.string key) W := by
  intro W hW
  have h1 := Kd.C_mid (lo := 2) (hi := (2 + sz).toNat) (HC.out W hW) (by omega) (by rw [HN.out]; omega) (by rw [HN.out]; exact hroom)
  have e8 : (l0.take (2 + sz).toNat).drop 2 = t.take sz.toNat := by
   rw [HL0.out, show (2 + sz).toNat = sz.toNat + 1 + 1 from by omega]
   simp
  rw [e8] at h1
  have e9 : (2 + sz).toNat - (2 : Int).toNat = (t.take sz.toNat).length := by rw [List.length_take]; omega
  rw [e9, ← hkey]
  exact Kd.C_string (P := Try.prog) (src := 26) (dst := 9) (e := 5) Try.underlying26 (by kernel_rfl) Try.underlying9 h1
 obtain ⟨SL, hSL⟩ : ∃ SL, (.slice (if c0 = (2 : Int).toNat then some ad else (some ad).map (·.add ((2 : Int).toNat * 1))) ((2 + sz).toNat - (2 : Int).toNat) (c0 - (2 : Int).toNat) : Value) = SL := ⟨_, rfl⟩
 rw [hSL] at hmid hkeyC
 have hk1 := hkeyC W0.drew (below_drew1 HB1.out)
 have hk2 := hkeyC (W0.alloc zero25).drew (below_drew1 (below_alloc HB1.out _))
 have hy1 := HX.out W0.drew (below_drew1 HB1.out) 0 (by omega) (by rw [HN.out]; omega)
 have hy2 := HX.out (W0.alloc zero25).drew (below_drew1 (below_alloc HB1.out _)) 0 (by omega) (by rw [HN.out]; omega)
 simp only [Int.toNat_zero, add_zero_addr, e0] at hy1 hy2
 have HK := Aside0.mk hkeyC
 clear hkeyC hSL hi0 hsz1 hx1 hx0
 simp only [zero25] at hk2 hy2
 go_cut [6] from 31 to 40 (fun v6 wx => v6 = .pointer (some ⟨W0.heap.size, 0, none⟩) ∧ wx = (W0.alloc (.cells #[.int .i64 kd, .string key, .int .i64 0, .slice none 0 0] 25)).drew)
 case first =>
  go_region
  all_goals (go_wp2_with fail; go_meet)
  all_goals exact ⟨rfl, rfl⟩
 case rest =>
  obtain ⟨rfl, rfl⟩ := hcut
  have T1 := (Nx.made HB1.out (b2 := po) HO0.out (by have := HPO.out; omega) kd key).old (below_drew1 (Below.refl _ _))
  obtain ⟨b3, hb3⟩ : ∃ b3, W0.heap.size = b3 := ⟨_, rfl⟩
  obtain ⟨W1, hW1⟩ : ∃ W1, (W0.alloc (.cells #[.int .i64 kd, .string key, .int .i64 0, .slice none 0 0] 25)).drew = W1 := ⟨_, rfl⟩
  rw [hb3, hW1] at T1
  rw [hb3, hW1]
  have HT1 := Aside0.mk T1
  clear T1 hW1 hb3 hk1 hk2 hy1 hy2 HK hmid
  have hul : u.length + sz.toNat = t.length := by rw [← hu, List.length_drop]; omega
  have hdrop2 : ∀ m, (l0.drop (2 + sz).toNat).drop m = u.drop m := by
   intro m
   rw [HL0.out, show (2 + sz).toNat = sz.toNat + 1 + 1 from by omega]
   simp [← hu]
  have hu4 : (l0.take (6 + sz).toNat).drop (2 + sz).toNat = u.take 4 := by
   rw [HL0.out, show (6 + sz).toNat = sz.toNat + 4 + 1 + 1 from by omega, show (2 + sz).toNat = sz.toNat + 1 + 1 from by omega]
   simp only [List.take_succ_cons, List.drop_succ_cons]
   rw [← hu, List.take_drop, Nat.add_comm]
  obtain ⟨i0, hi0, _, hsz1, _⟩ := info_parts info5
  have hmid := cut_mid (P := Try.prog) 26 5 .i64 .i64 Try.underlying26 hi0 1 hsz1 (some ad) n c0 (2 + sz) (6 + sz) (by omega) (by omega) (by have := HNT.out; omega) hroom
  have hCm := Kd.C_mid (lo := (2 + sz).toNat) (hi := (6 + sz).toNat) (HC.out W1 HT1.out.below) (by omega) (by have := HNT.out; rw [HN.out]; omega) (by rw [HN.out]; exact hroom)
  rw [hu4] at hCm
  have e10 : (6 + sz).toNat - (2 + sz).toNat = (u.take 4).length := by rw [List.length_take]; omega
  rw [e10] at hmid
  have HCM := Aside0.mk hCm
  clear hCm e10 hu4
  have e8 : wrap64 (6 + sz) = 6 + sz := by unfold wrap64; omega
  have e9 : wrap64 (7 + sz) = 7 + sz := by unfold wrap64; omega
  have e10 : wrap64 (8 + sz) = 8 + sz := by unfold wrap64; omega
  obtain ⟨SL2, hSL2⟩ : ∃ SL2, (if c0 = (2 + sz).toNat then some ad else (some ad).map (·.add ((2 + sz).toNat * 1))) = SL2 := ⟨_, rfl⟩
  have HSL := Aside0.mk hSL2
  rw [hSL2] at hmid
  clear hSL2
  obtain ⟨n4, hn4⟩ : ∃ n4, (u.take 4).length = n4 := ⟨_, rfl⟩
  rw [hn4] at hmid
  go_wp2_with fail
  have hl4 : (u.take 4).length = 4 := by rw [List.length_take]; omega
  have hbu : ∀ x ∈ u, 0 ≤ x ∧ x ≤ 255 := fun x hx => HB.out x (by rw [HL0.out]; rw [← hu] at hx; exact List.mem_cons_of_mem _ (List.mem_cons_of_mem _ (List.mem_of_mem_drop hx)))
  have hnum := aumbryref11_Number.calls SL2 (c0 - (2 + sz).toNat) (u.take 4) (beN (u.take 4)) W1 (by rw [← HSL.out]; exact HCM.out) (by have := HNT.out; rw [hl4]; omega) (number4 _ hl4 (fun x hx => hbu x (List.mem_of_mem_take hx)))
  rw [hn4, hlen] at hnum
  refine hnum.mono ?_
  rintro e W2' ⟨rfl, hd⟩
  obtain ⟨nd, rfl⟩ := hd
  have T2 := HT1.out.old (pw_below_drewN (Below.refl _ _) nd)
  obtain ⟨W2, hW2⟩ : ∃ W2, W1.drewN nd = W2 := ⟨_, rfl⟩
  rw [hW2] at T2 ⊢
  have HT2 := Aside0.mk T2
  have HBU := Aside0.mk hbu
  clear hW2 hnum hmid HCM HSL T2 hn4 hbu hl4 HT1
  have hr6 : rd l0 (6 + sz) = rd u 4 := by
   rw [HL0.out]
   have : (6 + sz).toNat = sz.toNat + 4 + 1 + 1 := by omega
   simp only [rd, this, List.getD_cons_succ]
   rw [← hu]
   simp [List.getD]
  have hr7 : rd l0 (7 + sz) = rd u 5 := by
   rw [HL0.out]
   have : (7 + sz).toNat = sz.toNat + 5 + 1 + 1 := by omega
   simp only [rd, this, List.getD_cons_succ]
   rw [← hu]
   simp [List.getD]
  have hx6 := HX.out W2 HT2.out.below (6 + sz) (by omega) (by have := HNT.out; rw [HN.out]; omega)
  have hx7 := HX.out W2 HT2.out.below (7 + sz) (by omega) (by have := HNT.out; rw [HN.out]; omega)
  rw [hr6] at hx6
  rw [hr7] at hx7
  obtain ⟨X6, hX6⟩ : ∃ X6, rd u 4 = X6 := ⟨_, rfl⟩
  obtain ⟨X7, hX7⟩ : ∃ X7, rd u 5 = X7 := ⟨_, rfl⟩
  have hb6 : 0 ≤ X6 ∧ X6 ≤ 255 := by rw [← hX6]; exact byte_at HBU.out (i := 4) (by omega)
  have hb7 : 0 ≤ X7 ∧ X7 ≤ 255 := by rw [← hX7]; exact byte_at HBU.out (i := 5) (by omega)
  have hcnt : (cnt : Int) = X6 * 256 + X7 := by
   have h2 : (u.drop 4).take 2 = [rd u 4, rd u 5] := by
    rcases u with _ | ⟨a, _ | ⟨b, _ | ⟨c, _ | ⟨d, _ | ⟨e, _ | ⟨f, l⟩⟩⟩⟩⟩⟩ <;> first | rfl | (simp at hul; omega)
   rw [h2, hX6, hX7] at hcn
   rw [← hcn]
   simp [beN]
  rw [hX6] at hx6
  rw [hX7] at hx7
  have g1 : 0 ≤ 6 + sz := by omega
  have g2 : 6 + sz < (n : Int) := by have := HNT.out; omega
  have g3 : 0 ≤ 7 + sz := by omega
  have g4 : 7 + sz < (n : Int) := by have := HNT.out; omega
  have w1 : wrap64 X6 = X6 := by unfold wrap64; omega
  have w2 : wrap64 X7 = X7 := by unfold wrap64; omega
  have w3 : wrap64 (256 * X6) = 256 * X6 := by unfold wrap64; omega
  have w4 : wrap64 (256 * X6 + X7) = (cnt : Int) := by rw [hcnt]; unfold wrap64; omega
  have HCNT := Aside0.mk hcnt
  clear hcnt hX6 hX7 hr6 hr7
  go_wp2_with fail
  go_quiet (fail)
  go_upto_region 8 with fail
  have hd8 : l0.drop (8 + sz).toNat = body := by
   rw [HL0.out, show (8 + sz).toNat = sz.toNat + 6 + 1 + 1 from by omega]
   simp only [List.drop_succ_cons]
   rw [← hbody, ← hu, List.drop_drop]
  have hF := Kd.F_cut (m := (8 + sz).toNat) (Kd.V_at HS.out).2.2 (by have := HNT.out; rw [HN.out]; omega) (by rw [HN.out]; exact hroom)
  rw [hd8] at hF
  have hnb : n - (8 + sz).toNat = body.length := by rw [← hd8, List.length_drop, HN.out]
  obtain ⟨SL3, hSL3⟩ : ∃ SL3, (if c0 = (8 + sz).toNat then some ad else some (ad.add (8 + sz).toNat)) = SL3 := ⟨_, rfl⟩
  obtain ⟨cb, hcb⟩ : ∃ cb, c0 - (8 + sz).toNat = cb := ⟨_, rfl⟩
  have hncb : body.length ≤ cb := by rw [← hcb, ← hnb]; omega
  have hF3 : (Kd.int .u8).F w (fun k_ => P0_ k_) SL3 body.length body := by
   have e : (Option.map (fun x : Addr => x.add ((8 + sz).toNat * (Kd.int .u8).sz)) (some ad)) = some (ad.add (8 + sz).toNat) := by
    show some (ad.add ((8 + sz).toNat * 1)) = _
    rw [Nat.mul_one]
   rw [e] at hF
   rw [← hSL3]
   exact hF
  have hV : Kd.V (Kd.int .u8) 5 w w.heap.size (fun k_ => P0_ k_) (.slice SL3 body.length cb) body := Kd.V_mk hncb hF3
  have hc9 : 256 * X6 + X7 = (cnt : Int) := by have := HCNT.out; omega
  rw [hSL3, hnb, hcb, hc9]
  have T3 := HT2.out.old (pw_below_drewN (Below.refl _ _) nq)
  obtain ⟨W3, hW3⟩ : ∃ W3, W2.drewN nq = W3 := ⟨_, rfl⟩
  rw [hW3] at T3 ⊢
  have HV := Aside0.mk hV
  have HT3 := Aside0.mk T3
  have HX6 := Aside0.mk hb6
  have HX7 := Aside0.mk hb7
  have HHN := Aside0.mk hcn
  have w5 : wrap64 (2 * (cnt : Int)) = 2 * cnt := by have := HCNT.out; unfold wrap64; omega
  have HCB := Aside0.mk (show cnt < 65536 by have := HCNT.out; omega)
  have hlen0 := beN_lt (u.take 4) (fun x hx => HBU.out x (List.mem_of_mem_take hx))
  have hl4 : (u.take 4).length = 4 := by rw [List.length_take]; omega
  rw [hlen, hl4] at hlen0
  have HLEN := Aside0.mk (show 0 ≤ len ∧ len < 4294967296 from ⟨hlen0.1, by omega⟩)
  have HBB := Aside0.mk (show ∀ x ∈ body, 0 ≤ x ∧ x ≤ 255 from fun x hx => HBU.out x (by rw [← hbody] at hx; exact List.mem_of_mem_drop hx))
  have HBL := Aside0.mk (show body.length ≤ 1000000 from by rw [← hnb]; omega)
  clear hW3 hSL3 hcb hnb hF hF3 hV hncb T3 hd8 hx6 hx7 w1 w2 w3 w4 g1 g2 g3 g4 hb6 hb7 hc9 hlen0 hl4 hlen hcn hbody hu hkey hul e8 e9 e10 hdrop2 HX6 HX7 h1 h3 e5 e6 e7 h5 h7 h8 h9 hroom hl hsz hkd HT2 hi0 hsz1
  obtain ⟨nb, hnb⟩ : ∃ nb, body.length = nb := ⟨_, rfl⟩
  have HNB := Aside0.mk hnb
  rw [hnb]
  by_cases hgood : len ≤ 2147483647 ∧ 2 * cnt ≤ nb
  case neg =>
   have HBAD := Aside0.mk (show ¬ G from by rw [HGI.out, hnb]; exact hgood)
   have d0 : W3.cell? ⟨po, 0, none⟩ = some (.int .i64 0) := by simp [World.cell?, HT3.out.res, zero25]
   have d1 : W3.cell? ⟨po, 1, none⟩ = some (.string ⟨#[]⟩) := by simp [World.cell?, HT3.out.res, zero25]
   have d2 : W3.cell? ⟨po, 2, none⟩ = some (.int .i64 0) := by simp [World.cell?, HT3.out.res, zero25]
   have d3 : W3.cell? ⟨po, 3, none⟩ = some (.slice none 0 0) := by simp [World.cell?, HT3.out.res, zero25]
   have f0 : ∀ j, W3.frozen? ⟨po, j, none⟩ = false := by intro j; simp [World.frozen?, HT3.out.res, zero25]
   have f00 := f0 0
   have f01 := f0 1
   have f02 := f0 2
   have f03 := f0 3
   clear f0
   by_cases hgt : len > 2147483647
   ·clear hgood hnb
    go_wp2_with fail
    have hgr := (((grown_cell W3 po 0 (.int .i64 0)).trans (grown_cell _ po 1 (.string ⟨#[]⟩))).trans ((grown_cell _ po 2 (.int .i64 0)).trans (grown_cell _ po 3 (.slice none 0 0))))
    have h4 := four_cells W3 po (.int .i64 0) (.string ⟨#[]⟩) (.int .i64 0) (.slice none 0 0) _ _ _ _ HT3.out.res
    have F := HT3.out.fin hgr
    obtain ⟨W14, hW14⟩ : ∃ W14, ((((W3.setCell ⟨po, 0, none⟩ (.int .i64 0)).setCell ⟨po, 1, none⟩ (.string ⟨#[]⟩)).setCell ⟨po, 2, none⟩ (.int .i64 0)).setCell ⟨po, 3, none⟩ (.slice none 0 0)) = W14 := ⟨_, rfl⟩
    rw [hW14] at F h4 ⊢
    have q0 : W14.cell? ⟨po, 0, none⟩ = some (.int .i64 0) := by simp [World.cell?, h4]
    have q1 : W14.cell? ⟨po, 1, none⟩ = some (.string ⟨#[]⟩) := by simp [World.cell?, h4]
    have q2 : W14.cell? ⟨po, 2, none⟩ = some (.int .i64 0) := by simp [World.cell?, h4]
    have q3 : W14.cell? ⟨po, 3, none⟩ = some (.slice none 0 0) := by simp [World.cell?, h4]
    refine bodyPost_ret (v := .tuple #[.agg #[.int .i64 0, .string ⟨#[]⟩, .int .i64 0, .slice none 0 0], .slice none 0 0, .bool false]) ?_ rfl ?_
    ·simp [results, Try.results33, go_sem, q0, q1, q2, q3]
    ·unfold nextPost
     exact ⟨.nilIface, .nilIface, .inr ⟨HBAD.out, rfl⟩, F.1⟩
   ·have hlt : (nb : Int) < 2 * cnt := by omega
    clear hgood hnb
    go_wp2_with fail
    have hgr := (((grown_cell W3 po 0 (.int .i64 0)).trans (grown_cell _ po 1 (.string ⟨#[]⟩))).trans ((grown_cell _ po 2 (.int .i64 0)).trans (grown_cell _ po 3 (.slice none 0 0))))
    have h4 := four_cells W3 po (.int .i64 0) (.string ⟨#[]⟩) (.int .i64 0) (.slice none 0 0) _ _ _ _ HT3.out.res
    have F := HT3.out.fin hgr
    obtain ⟨W14, hW14⟩ : ∃ W14, ((((W3.setCell ⟨po, 0, none⟩ (.int .i64 0)).setCell ⟨po, 1, none⟩ (.string ⟨#[]⟩)).setCell ⟨po, 2, none⟩ (.int .i64 0)).setCell ⟨po, 3, none⟩ (.slice none 0 0)) = W14 := ⟨_, rfl⟩
    rw [hW14] at F h4 ⊢
    have q0 : W14.cell? ⟨po, 0, none⟩ = some (.int .i64 0) := by simp [World.cell?, h4]
    have q1 : W14.cell? ⟨po, 1, none⟩ = some (.string ⟨#[]⟩) := by simp [World.cell?, h4]
    have q2 : W14.cell? ⟨po, 2, none⟩ = some (.int .i64 0) := by simp [World.cell?, h4]
    have q3 : W14.cell? ⟨po, 3, none⟩ = some (.slice none 0 0) := by simp [World.cell?, h4]
    refine bodyPost_ret (v := .tuple #[.agg #[.int .i64 0, .string ⟨#[]⟩, .int .i64 0, .slice none 0 0], .slice none 0 0, .bool false]) ?_ rfl ?_
    ·simp [results, Try.results33, go_sem, q0, q1, q2, q3]
    ·unfold nextPost
     exact ⟨.nilIface, .nilIface, .inr ⟨HBAD.out, rfl⟩, F.1⟩
  case pos =>
   have hng : ¬ len > 2147483647 := by omega
   have hnl : ¬ (nb : Int) < 2 * cnt := by omega
   have HG := Aside0.mk hgood
   have hch := HCH.out hgood.1 (by rw [hnb]; exact hgood.2)
   have HCHK := Aside0.mk hch
   have hcl := HT3.out.cells.2.2.1
   have hfr := HT3.out.free 2
   have w6 : wrap64 len = len := by have := HLEN.out; unfold wrap64; omega
   clear hgood hnb hch
   go_upto_region 11 with fail
   have T4 := HT3.out.store 2 (.int .i64 len) key len rfl
   obtain ⟨W4, hW4⟩ : ∃ W4, W3.setCell ⟨b3, 2, none⟩ (.int .i64 len) = W4 := ⟨_, rfl⟩
   rw [hW4] at T4 ⊢
   have HT4 := Aside0.mk T4
   clear hW4 T4 HT3 hcl hfr
   go_wp2_with fail
   go_loopg [10] cnt (fun kq v10 w' => ∃ (i : Nat) (v : Value), v10 = .int .i64 i ∧ Aside0 (i + kq = cnt) ∧ Aside0 (Nx w w' po b3 kd key len v (pairsN i body)))
   case atStart => exact ⟨0, _, rfl, ⟨by omega⟩, ⟨by simpa [pairsN] using HT4.out⟩⟩
   case round =>
    obtain ⟨i, v, rfl, HI, HT⟩ := hrel
    by_cases hi : i < cnt
    ·have hx := HT.out.cells.2.2.2
     have hfz := HT.out.free 3
     have HI2 := Aside0.mk hi
     have hi2 : (i : Int) < (cnt : Int) := by omega
     clear hi
     have TD := HT.out.old (below_drew1 (Below.refl _ _))
     clear HT
     have HT := Aside0.mk TD
     have hCb := (Kd.V_reads' (Kd.V_below HV.out HT.out.below)).2.2
     have hlb : 2 * i + 2 ≤ nb := by have := HG.out.2; have := HI2.out; omega
     have hj2 : 2 * i + 1 < body.length := by rw [HNB.out]; omega
     obtain ⟨adb, ea, _⟩ := Kd.at_int hCb 0 (by omega) (by omega)
     cases ea
     have hca := Kd.foot_int hCb (2 * (i : Int)) (by omega) (by omega)
     have hcb := Kd.foot_int hCb (2 * (i : Int) + 1) (by omega) (by omega)
     obtain ⟨Xa, hXa⟩ : ∃ Xa, rd body (2 * (i : Int)) = Xa := ⟨_, rfl⟩
     obtain ⟨Xb, hXb⟩ : ∃ Xb, rd body (2 * (i : Int) + 1) = Xb := ⟨_, rfl⟩
     have hba : 0 ≤ Xa ∧ Xa ≤ 255 := by
      have := byte_at HBB.out (i := 2 * i) (by omega)
      rw [show ((2 * i : Nat) : Int) = 2 * (i : Int) from by omega, hXa] at this
      exact this
     have hbb : 0 ≤ Xb ∧ Xb ≤ 255 := by
      have := byte_at HBB.out (i := 2 * i + 1) (by omega)
      rw [show ((2 * i + 1 : Nat) : Int) = 2 * (i : Int) + 1 from by omega, hXb] at this
      exact this
     have hX : beN ((body.drop (2 * i)).take 2) = 256 * Xa + Xb := by
      have h2 : (body.drop (2 * i)).take 2 = [Xa, Xb] := by
       rw [List.drop_eq_getElem_cons (by omega : 2 * i < body.length), List.drop_eq_getElem_cons hj2]
       have ea : body[2 * i] = Xa := by rw [← hXa]; simp only [rd, show (2 * (i : Int)).toNat = 2 * i from by omega]; simp [List.getD, show 2 * i < body.length from by omega]
       have eb : body[2 * i + 1] = Xb := by rw [← hXb]; simp only [rd, show (2 * (i : Int) + 1).toNat = 2 * i + 1 from by omega]; simp [List.getD, hj2]
       simp [ea, eb]
      rw [h2]
      simp [beN]
      omega
     rw [hXa] at hca
     rw [hXb] at hcb
     obtain ⟨j, hj⟩ : ∃ j : Int, 2 * (i : Int) = j := ⟨_, rfl⟩
     obtain ⟨j1, hj1⟩ : ∃ j1 : Int, j + 1 = j1 := ⟨_, rfl⟩
     have hcnt1 := HCB.out
     have hi5 := HI2.out
     have hnb5 := HNB.out
     rw [hj] at hca hcb
     rw [hj1] at hcb
     have w7 : wrap64 (2 * (i : Int)) = j := by rw [← hj]; unfold wrap64; omega
     have w8 : wrap64 (j + 1) = j1 := by rw [← hj1]; unfold wrap64; omega
     have w9 : wrap64 Xa = Xa := by unfold wrap64; omega
     have w10 : wrap64 Xb = Xb := by unfold wrap64; omega
     have w11 : wrap64 (256 * Xa) = 256 * Xa := by unfold wrap64; omega
     obtain ⟨X, hXX⟩ : ∃ X, 256 * Xa + Xb = X := ⟨_, rfl⟩
     have w12 : wrap64 (256 * Xa + Xb) = X := by rw [← hXX]; unfold wrap64; omega
     have v7 := (i64_w _).trans w7
     have v8 := (i64_w _).trans w8
     have v9 := (i64_w _).trans w9
     have v10 := (i64_w _).trans w10
     have v11 := (i64_w _).trans w11
     have v12 := (i64_w _).trans w12
     have g1 : 0 ≤ j := by omega
     have g2 : j < (nb : Int) := by omega
     have g3 : 0 ≤ j1 := by omega
     have g4 : j1 < (nb : Int) := by omega
     have HX := Aside0.mk (show beN ((body.drop (2 * i)).take 2) = X from by rw [hX, hXX])
     have HLB := Aside0.mk hlb
     have hx10 := HT.out.cells.2.2.2
     have hx11 : (wr.alloc (.cells #[.int .i64 X] 3)).drew.cell? ⟨b3, 3, none⟩ = some v := (HT.out.old (W' := (wr.alloc (.cells #[.int .i64 X] 3)).drew) ⟨rfl, rfl, rfl, by simp, fun k hk => heap_alloc_old wr _ hk⟩).cells.2.2.2
     clear TD hCb hlb hj2 hXa hXb hba hbb hX hj hj1 hcnt1 hi5 hnb5 hXX hx hfz
     go_wp2_with fail
     go_region_law (refine Kd.R_append_step (Kd.int .i64) (w0 := wr.drew) w.heap.size (by rfl) (.tmp 85) (.tmp 101) 23 3 (.int .i64 0) 8 rfl Try.underlying23 info3n rfl (by decide) (by omega) v (pairsN i body) X [.int .i64 X] (fun _ => True) (fun _ => False) rfl rfl rfl (fun _ h => h.elim) (fun _ _ => trivial) ?aO (Below.refl _ _) ?aS ?aL ?_; (case aO => exact HT.out.own); (case aS => exact HT.out.below.size); (case aL => rw [pairsN_length]; have := HCB.out; have := HI2.out; omega); intro v12 W12 ho12 hb12 hg12 hat12; obtain ⟨A12, c12, rfl⟩ := Kd.R_slice ho12; have T12 := HT.out.over hg12 _ _ ho12; have hc12 : W12.cell? ⟨b3, 3, none⟩ = some v := (World.cell?_of_block (a := ⟨b3, 3, none⟩) T12.1).trans HT.out.cells.2.2.2; have hf12 : W12.frozen? ⟨b3, 3, none⟩ = false := (World.frozen?_of_block (a := ⟨b3, 3, none⟩) T12.1).trans (HT.out.free 3); have HT12 := Aside0.mk T12.2; clear T12 ho12 hb12 hg12 hat12)
     all_goals
      go_wp2_with fail
      go_roundg (gk - 1)
      case measure => have := HI.out; omega
      case rel =>
       have hi1 := HI.out
       have hi3 := HI2.out
       have h9 := HT12.out
       have e12 : (pairsN i body ++ [X]).length = (pairsN i body).length + 1 := by simp
       rw [e12, ← HX.out, ← pairsN_succ] at h9
       exact ⟨i + 1, .slice A12 ((pairsN i body).length + 1) c12, by have := HCB.out; simp [wrap64]; omega, ⟨by omega⟩, ⟨h9⟩⟩
    ·have hi9 : i = cnt := by have := HI.out; omega
     subst hi9
     have hx := HT.out.cells
     obtain ⟨A9, c9, rfl⟩ := Kd.R_slice HT.out.own
     have hrd := Kd.R_reads' HT.out.own
     have HRD := Aside0.mk hrd
     clear hrd
     obtain ⟨hx0, hx1, hx2, hx3⟩ := hx
     obtain ⟨n9, hn9⟩ : ∃ n9, (pairsN i body).length = n9 := ⟨_, rfl⟩
     have HN9 := Aside0.mk hn9
     rw [hn9] at hx3
     have hc2 : 2 * i ≤ nb := HG.out.2
     clear hi hn9 HI
     go_wp2_with fail
     have hchk := aumbryref16_Check.calls k kd key len A9 c9 (pairsN i body) r wr HRD.out.2.2 HRD.out.2.1 HCHK.out
     rw [HN9.out] at hchk
     refine hchk.mono ?_
     rintro e W13 ⟨rfl, hb13⟩
     have T13 := (HT.out.old hb13).old (below_drew1 (Below.refl _ _))
     have hx := T13.cells
     obtain ⟨hx0, hx1, hx2, hx3⟩ := hx
     rw [HN9.out] at hx3
     have T13r : W13.heap[po]? = some zero25 := T13.res
     have hy0 : W13.cell? ⟨po, 0, none⟩ = some (.int .i64 0) := by simp only [World.cell?, T13r, zero25]; rfl
     have hy1 : W13.cell? ⟨po, 1, none⟩ = some (.string ⟨#[]⟩) := by simp only [World.cell?, T13r, zero25]; rfl
     have hy2 : W13.cell? ⟨po, 2, none⟩ = some (.int .i64 0) := by simp only [World.cell?, T13r, zero25]; rfl
     have hy3 : W13.cell? ⟨po, 3, none⟩ = some (.slice none 0 0) := by simp only [World.cell?, T13r, zero25]; rfl
     have hz : ∀ j, W13.frozen? ⟨po, j, none⟩ = false := by intro j; simp only [World.frozen?, T13r, zero25]; rfl
     have hz0 := hz 0
     have hz1 := hz 1
     have hz2 := hz 2
     have hz3 := hz 3
     have HT13 := Aside0.mk T13
     have hlc : nb ≤ cb := by have h := (Kd.V_reads' HV.out).2.1; rw [HNB.out] at h; exact h
     have hF := Kd.F_cut (m := 2 * i) (Kd.V_at HV.out).2.2 (by rw [HNB.out]; exact hc2) (by rw [HNB.out]; exact hlc)
     obtain ⟨i0, hi0, _, hsz1, _⟩ := info_parts info5
     have hcut := cut_from (P := Try.prog) 26 5 .i64 Try.underlying26 hi0 1 hsz1 SL3 nb cb (2 * (i : Int)) (by omega) (by omega)
     have hm : (2 * (i : Int)).toNat = 2 * i := by omega
     rw [hm] at hcut
     have hnb2 : nb - 2 * i = (body.drop (2 * i)).length := by rw [List.length_drop, HNB.out]
     obtain ⟨SL4, hSL4⟩ : ∃ SL4, (if cb = 2 * i then SL3 else Option.map (fun x : Addr => x.add (2 * i * 1)) SL3) = SL4 := ⟨_, rfl⟩
     have hF4 : (Kd.int .u8).F w (fun k_ => P0_ k_) SL4 (body.drop (2 * i)).length (body.drop (2 * i)) := by rw [← hSL4]; exact hF
     have hV4 : Kd.V (Kd.int .u8) 5 w w.heap.size (fun k_ => P0_ k_) (.slice SL4 (body.drop (2 * i)).length (cb - 2 * i)) (body.drop (2 * i)) := Kd.V_mk (by omega) hF4
     have HV4 := Aside0.mk hV4
     rw [hSL4, hnb2] at hcut
     obtain ⟨nr, hnr⟩ : ∃ nr, (body.drop (2 * i)).length = nr := ⟨_, rfl⟩
     have HNR := Aside0.mk hnr
     rw [hnr] at hcut
     obtain ⟨m, hmm⟩ : ∃ m : Int, 2 * (i : Int) = m := ⟨_, rfl⟩
     have hci := HCB.out
     have w7 : wrap64 (2 * (i : Int)) = m := by rw [← hmm]; unfold wrap64; omega
     have v7 := (i64_w _).trans w7
     rw [hmm] at hcut
     clear hF hF4 hV4 hSL4 hnb2 hnr hmm hm hc2 hz hlc hi0 hsz1 hci T13 T13r hchk hb13
     go_wp2_with fail
     go_region
     all_goals go_wp2_with fail
     have hgr := (((grown_cell W13 po 0 (.int .i64 kd)).trans (grown_cell _ po 1 (.string key))).trans ((grown_cell _ po 2 (.int .i64 len)).trans (grown_cell _ po 3 (.slice A9 n9 c9))))
     have h4 := four_cells W13 po (.int .i64 kd) (.string key) (.int .i64 len) (.slice A9 n9 c9) _ _ _ _ HT13.out.res
     have hgr2 : W13.drew.grownBy (((((W13.setCell ⟨po, 0, none⟩ (.int .i64 kd)).setCell ⟨po, 1, none⟩ (.string key)).setCell ⟨po, 2, none⟩ (.int .i64 len)).setCell ⟨po, 3, none⟩ (.slice A9 n9 c9)).drew) (some po) := ⟨hgr.os, hgr.tape, hgr.output, hgr.size, fun k hk hne => hgr.block k hk hne⟩
     have F := HT13.out.fin hgr2
     obtain ⟨W14, hW14⟩ : ∃ W14, (((((W13.setCell ⟨po, 0, none⟩ (.int .i64 kd)).setCell ⟨po, 1, none⟩ (.string key)).setCell ⟨po, 2, none⟩ (.int .i64 len)).setCell ⟨po, 3, none⟩ (.slice A9 n9 c9)).drew) = W14 := ⟨_, rfl⟩
     have h5 : W14.heap[po]? = some (.cells #[.int .i64 kd, .string key, .int .i64 len, .slice A9 n9 c9] 25 (0, 0)) := by rw [← hW14]; exact h4
     rw [hW14] at F ⊢
     have q0 : W14.cell? ⟨po, 0, none⟩ = some (.int .i64 kd) := by simp [World.cell?, h5]
     have q1 : W14.cell? ⟨po, 1, none⟩ = some (.string key) := by simp [World.cell?, h5]
     have q2 : W14.cell? ⟨po, 2, none⟩ = some (.int .i64 len) := by simp [World.cell?, h5]
     have q3 : W14.cell? ⟨po, 3, none⟩ = some (.slice A9 n9 c9) := by simp [World.cell?, h5]
     have HFF := Aside0.mk F
     have hGG : G := HGI.out.mpr ⟨HG.out.1, by rw [HNB.out]; exact HG.out.2⟩
     have HGG := Aside0.mk hGG
     clear hgr h4 hgr2 hW14 h5 F hGG
     refine bodyPost_ret (v := .tuple #[.agg #[.int .i64 kd, .string key, .int .i64 len, .slice A9 n9 c9], .slice SL4 nr (cb - 2 * i), .bool (r == 0)]) ?_ rfl ?_
     ·simp [results, Try.results33, go_sem, q0, q1, q2, q3]
     ·unfold nextPost
      have hv5 := Kd.V_below HV4.out HFF.out.1
      rw [HNR.out] at hv5
      have ho5 := HFF.out.2
      rw [HN9.out] at ho5
      exact ⟨.slice A9 n9 c9, .slice SL4 nr (cb - 2 * i), .inl ⟨HGG.out, rfl, ho5, hv5⟩, HFF.out.1⟩
def aumbryref16_next.f (k : Nat) (l0 : List Int) : Option (Int × ByteArray × Int × List Int × List Int × Bool) :=
 if l0.length ≤ 1000000 ∧ okB l0 = true then (if fits l0 = true ∧ (recOf l0).2.2.1 ≤ 2147483647 then ((aumbryref16_Check.f k (recOf l0).1 (recOf l0).2.1 (recOf l0).2.2.1 (recOf l0).2.2.2.1).bind fun r => some ((recOf l0).1, (recOf l0).2.1, (recOf l0).2.2.1, (recOf l0).2.2.2.1, (recOf l0).2.2.2.2, decide (r = 0))) else some (0, ⟨#[]⟩, 0, [], [], false)) else none
theorem aumbryref16_next.mono : ∀ a0 k, LeO (aumbryref16_next.f k a0) (aumbryref16_next.f (k + 1) a0) := by
 intro a0 k
 unfold aumbryref16_next.f
 refine LeO.ite ?_ (LeO.refl _)
 refine LeO.ite ?_ (LeO.refl _)
 exact LeO.bind (aumbryref16_Check.mono _ _ _ _ _) (fun _ => LeO.refl _)
theorem aumbryref16_next.calls (k : Nat) (P0_ : Nat → Prop) (A0 : Option Addr) (c0 : Nat) (l0 : List Int) (r1 : Int) (r2 : ByteArray) (r3 : Int) (r4 r5 : List Int) (r6 : Bool) (w : World) (hs0 : Kd.V (Kd.int .u8) 5 w w.heap.size (fun k_ => P0_ k_) (.slice A0 l0.length c0) l0) (h : aumbryref16_next.f k l0 = some (r1, r2, r3, r4, r5, r6)) :
  Calls Try.prog 33 #[.slice A0 l0.length c0] w fun e w' => ∃ v3_ v4_ : Value, e = .returned (.tuple #[.agg #[.int .i64 r1, .string r2, .int .i64 r3, v3_], v4_, .bool r6]) ∧ Kd.V (Kd.int .i64) 3 w' w.heap.size (fun k_ => (P0_ k_ ∨ w.heap.size ≤ k_)) v3_ r4 ∧ Kd.V (Kd.int .u8) 5 w' w.heap.size (fun k_ => (P0_ k_ ∨ w.heap.size ≤ k_)) v4_ r5 ∧ Below w.heap.size w w' := by
 unfold aumbryref16_next.f at h
 by_cases h0 : l0.length ≤ 1000000 ∧ okB l0 = true
 case neg => rw [if_neg h0] at h; cases h
 rw [if_pos h0] at h
 have hb := okB_iff h0.2
 have short : (l0.length < 2 ∨ l0.length < 2 + (rd l0 1).toNat + 6) → fits l0 = false → Calls Try.prog 33 #[.slice A0 l0.length c0] w fun e w' => ∃ v3_ v4_ : Value, e = .returned (.tuple #[.agg #[.int .i64 r1, .string r2, .int .i64 r3, v3_], v4_, .bool r6]) ∧ Kd.V (Kd.int .i64) 3 w' w.heap.size (fun k_ => (P0_ k_ ∨ w.heap.size ≤ k_)) v3_ r4 ∧ Kd.V (Kd.int .u8) 5 w' w.heap.size (fun k_ => (P0_ k_ ∨ w.heap.size ≤ k_)) v4_ r5 ∧ Below w.heap.size w w' := by
  intro hs hf
  rw [if_neg (fun hh => by rw [hf] at hh; cases hh.1)] at h
  simp only [Option.some.injEq, Prod.mk.injEq] at h
  obtain ⟨rfl, rfl, rfl, rfl, rfl, rfl⟩ := h
  refine (next_short A0 c0 l0 w (Kd.V_reads' hs0).2.2 hb h0.1 hs).mono ?_
  rintro e w' ⟨rfl, hbl⟩
  exact ⟨_, _, rfl, Kd.V_nil _ _ _ _ _, Kd.V_nil _ _ _ _ _, hbl⟩
 rcases l0 with _ | ⟨kd, _ | ⟨sz, t⟩⟩
 ·exact short (.inl (by simp)) rfl
 ·exact short (.inl (by simp)) rfl
 ·by_cases h1 : sz.toNat + 6 ≤ t.length
  case neg => exact short (.inr (by show t.length + 1 + 1 < 2 + sz.toNat + 6; omega)) (by simp [fits]; omega)
  have hcnt := beN_lt (((t.drop sz.toNat).drop 4).take 2) (fun x hx => hb x (List.mem_cons_of_mem _ (List.mem_cons_of_mem _ (List.mem_of_mem_drop (List.mem_of_mem_drop (List.mem_of_mem_take hx))))))
  have hfit : fits (kd :: sz :: t) = true ↔ 2 * (beN (((t.drop sz.toNat).drop 4).take 2)).toNat ≤ ((t.drop sz.toNat).drop 6).length := by simp [fits, h1]
  have hG : (fits (kd :: sz :: t) = true ∧ (recOf (kd :: sz :: t)).2.2.1 ≤ 2147483647) ↔ (beN ((t.drop sz.toNat).take 4) ≤ 2147483647 ∧ 2 * (beN (((t.drop sz.toNat).drop 4).take 2)).toNat ≤ ((t.drop sz.toNat).drop 6).length) := by
   rw [hfit]
   exact And.comm
  by_cases hg : fits (kd :: sz :: t) = true ∧ (recOf (kd :: sz :: t)).2.2.1 ≤ 2147483647
  ·rw [if_pos hg] at h
   obtain ⟨r, hr, h⟩ := Option.bind_eq_some_iff.mp h
   refine (next_long k A0 c0 kd sz t w P0_ _ rfl hs0 hb h0.1 h1 _ rfl _ rfl _ rfl _ (Int.toNat_of_nonneg hcnt.1).symm _ rfl _ ⟨hG⟩ r (fun _ _ => hr)).mono ?_
   rintro e w' ⟨v3, v4, ⟨_, rfl, h3, h4⟩ | ⟨hng, _⟩, hbl⟩
   ·simp only [Option.some.injEq, Prod.mk.injEq] at h
    obtain ⟨rfl, rfl, rfl, rfl, rfl, rfl⟩ := h
    refine ⟨v3, v4, rfl, ?_, Kd.V_mono h4 (fun k_ hk => .inl hk), hbl⟩
    have h5 := Kd.R_mono (ok' := fun k_ => (P0_ k_ ∨ w.heap.size ≤ k_)) (Kd.R_bound h3) (fun k_ hk => .inr hk.2.1)
    exact Kd.R_V h5
   ·exact absurd hg hng
  ·rw [if_neg hg] at h
   refine (next_long k A0 c0 kd sz t w P0_ _ rfl hs0 hb h0.1 h1 _ rfl _ rfl _ rfl _ (Int.toNat_of_nonneg hcnt.1).symm _ rfl _ ⟨hG⟩ 0 (fun h2 h3 => absurd (hG.mpr ⟨h2, h3⟩) hg)).mono ?_
   rintro e w' ⟨v3, v4, ⟨h2, _⟩ | ⟨_, rfl⟩, hbl⟩
   ·exact absurd h2 hg
   ·simp only [Option.some.injEq, Prod.mk.injEq] at h
    obtain ⟨rfl, rfl, rfl, rfl, rfl, rfl⟩ := h
    exact ⟨_, _, rfl, Kd.V_nil _ _ _ _ _, Kd.V_nil _ _ _ _ _, hbl⟩
end

/-! ### aumbryref16_Decode: function 14 -/
def aumbryref16_Decode.j0 : Nat → Bool → Int → ByteArray → Int → List Int → Option (Int × ByteArray × Int × List Int × Int)
 | 0, _, _, _, _, _ => none
 | k + 1, x19, x234000, x234001, x234002, x234003 => if x19 = true then (some (0, (⟨#[]⟩ : ByteArray), 0, ([] : List Int), 160)) else (some (x234000, x234001, x234002, x234003, 0))
def aumbryref16_Decode.f (k : Nat) (l0 : List Int) : Option (Int × ByteArray × Int × List Int × Int) := (aumbryref16_next.f k l0).bind fun bt223 => (if bt223.2.2.2.2.2 = true then (aumbryref16_Decode.j0 k (decide ((bt223.2.2.2.2.1.length : Int) > 0)) bt223.1 bt223.2.1 bt223.2.2.1 bt223.2.2.2.1) else (aumbryref16_Decode.j0 k true bt223.1 bt223.2.1 bt223.2.2.1 bt223.2.2.2.1))
theorem aumbryref16_Decode.mono_l : ∀ k, (∀ y0 y1 y2 y3 y4, LeO (aumbryref16_Decode.j0 k y0 y1 y2 y3 y4) (aumbryref16_Decode.j0 (k + 1) y0 y1 y2 y3 y4))
 | 0 => fun _ _ _ _ _ r h => by simp [aumbryref16_Decode.j0] at h
 | k + 1 => by
  have ih0 := aumbryref16_Decode.mono_l k
  ·intro y0 y1 y2 y3 y4
   unfold aumbryref16_Decode.j0
   repeat' first
   | (with_reducible exact ih0 _ _ _ _ _)
   | (with_reducible exact aumbryref16_next.mono _ _)
   | (with_reducible exact LeO.refl _)
   | (with_reducible exact LeO.none _)
   | (with_reducible refine LeO.ite ?_ ?_)
   | (with_reducible refine LeO.bind ?_ (fun _ => ?_))
   | exact ih0 _ _ _ _ _
   | exact aumbryref16_next.mono _ _
   | exact LeO.none _
   | refine LeO.ite ?_ ?_
   | refine LeO.bind ?_ (fun _ => ?_)
theorem aumbryref16_Decode.mono : ∀ a0 k, LeO (aumbryref16_Decode.f k a0) (aumbryref16_Decode.f (k + 1) a0) := by
 intro a0 k
 have ih0 := aumbryref16_Decode.mono_l k
 unfold aumbryref16_Decode.f
 repeat' first
   | (with_reducible exact ih0 _ _ _ _ _)
   | (with_reducible exact aumbryref16_next.mono _ _)
   | (with_reducible exact LeO.refl _)
   | (with_reducible exact LeO.none _)
   | (with_reducible refine LeO.ite ?_ ?_)
   | (with_reducible refine LeO.bind ?_ (fun _ => ?_))
   | exact ih0 _ _ _ _ _
   | exact aumbryref16_next.mono _ _
   | exact LeO.none _
   | refine LeO.ite ?_ ?_
   | refine LeO.bind ?_ (fun _ => ?_)
set_option maxHeartbeats 8000000 in
set_option maxRecDepth 100000 in
theorem aumbryref16_Decode.calls (k : Nat) (P0_ : Nat → Prop) (A0 : Option Addr) (c0 : Nat) (l0 : List Int) (r1 : Int) (r2 : ByteArray) (r3 : Int) (r4 : List Int) (r5 : Int) (w : World) (hs0 : Kd.V (Kd.int .u8) 5 w w.heap.size (fun k_ => P0_ k_) (.slice A0 l0.length c0) l0) (h : aumbryref16_Decode.f k l0 = some (r1, r2, r3, r4, r5)) :
  Calls Try.prog 14 #[.slice A0 l0.length c0] w fun e w' => ∃ v3_ : Value, e = .returned (.tuple #[.agg #[.int .i64 r1, .string r2, .int .i64 r3, v3_], .int .i64 r5]) ∧ Kd.V (Kd.int .i64) 3 w' w.heap.size (fun k_ => (P0_ k_ ∨ w.heap.size ≤ k_)) v3_ r4 ∧ Below w.heap.size w w' := by
 have hu25 := Try.underlying25
 have HO0 := Aside0.mk (show Kd.V (Kd.int .u8) 5 w w.heap.size (fun k_ => (P0_ k_ ∨ w.heap.size ≤ k_)) (.slice A0 l0.length c0) l0 from Kd.V_mono hs0 (fun k_ hk => .inl hk))
 have HB := Aside0.mk (Below.refl w.heap.size w)
 have H : ((aumbryref16_next.f k l0).bind fun bt223 => (if bt223.2.2.2.2.2 = true then (aumbryref16_Decode.j0 k (decide ((bt223.2.2.2.2.1.length : Int) > 0)) bt223.1 bt223.2.1 bt223.2.2.1 bt223.2.2.2.1) else (aumbryref16_Decode.j0 k true bt223.1 bt223.2.1 bt223.2.2.1 bt223.2.2.2.1))) = some (r1, r2, r3, r4, r5) := h
 clear h
 replace H := Option.bind_eq_some_iff.mp H
 obtain ⟨⟨t223, t224, t225, t226, t229, t232⟩, A20, H⟩ := H
 replace H : (if t232 = true then (aumbryref16_Decode.j0 k (decide ((t229.length : Int) > 0)) t223 t224 t225 t226) else (aumbryref16_Decode.j0 k true t223 t224 t225 t226)) = some (r1, r2, r3, r4, r5) := H
 have A2 := Aside0.mk A20
 clear A20
 have HC3 := Aside0.mk H
 clear H
 go_enter Try.func14, Try.ntmps14
 go_upto_region 2 with (first | ((with_reducible refine gate_dst (N := 2) rfl ?_); (try (refine gate_guard (by rfl) ?_; dsimp only)); refine box_event ?hg (N := 2) ?hd (cs := #[.int .i64 0, .string (⟨#[]⟩ : ByteArray), .int .i64 0, .slice none 0 0]) (t := 25) ?hr ?_; (case hd => rfl); (case hg => rfl); (case hr => first | (go_simp; done) | (go_simp; rfl)); intro gb222 hg w4 hbox hb; have n0_ := Aside0.mk (Kd.V_below (Kd.V_elderB (by (with_reducible repeat (first | apply Kd.V_alloc | apply Kd.V_drewN | apply Kd.V_drew)); exact HO0.out) gb222 (Nat.le_of_eq hg.symm)) hb); have n1_ := Aside0.mk (below_step (by repeat (first | (with_reducible first | exact HB.out | apply below_alloc | apply pw_below_drewN | apply below_drew1) | exact HB.out)) hb); have n2_ := Aside0.mk (hbox); have n3_ := Aside0.mk ((by rw [hg]; exact (below_size (by repeat (first | (with_reducible first | exact HB.out | apply below_alloc | apply pw_below_drewN | apply below_drew1) | exact HB.out))) : w.heap.size ≤ gb222)); have n4_ := Aside0.mk ((by rw [hg]; exact (below_size (by repeat (first | (with_reducible first | exact HB.out | apply below_alloc | apply pw_below_drewN | apply below_drew1) | exact HB.out))) : w.heap.size ≤ gb222)); clear HO0; clear HB; have HO0 := n0_; have HB := n1_; have BK222 := n2_; have GW222 := n3_; have GE222 := n4_; clear n0_ n1_ n2_ n3_ n4_; clear hb hbox hg) | ((with_reducible refine gate_callee (f := 33) rfl ?_); refine goesL_ (some 9) rfl rfl Try.func33 (by kernel_rfl) rfl #[.slice A0 l0.length c0] rfl (by (try simp only [List.map_toArray, List.map_cons, List.map_nil]); first | done | rfl | (simp only [List.length_drop, List.length_take]; rfl)) ?_; (with_reducible refine (aumbryref16_next.calls k (fun k_ => ((P0_ k_ ∨ w.heap.size ≤ k_) ∧ k_ ≠ gb222)) _ _ l0 t223 t224 t225 t226 t229 t232 _ ?side1 A2.out).mono ?_); (case side1 => exact HO0.out); rintro e w5 ⟨v227, v230, rfl, ho0, ho1, hb⟩; refine ⟨_, rfl, ?_⟩; have n0_ := Aside0.mk (Kd.V_below (by (with_reducible repeat (first | apply Kd.V_alloc | apply Kd.V_drewN | apply Kd.V_drew)); exact HO0.out) hb); have n1_ := Aside0.mk (Kd.V_lower (Kd.V_mono (ok' := fun k_ => (P0_ k_ ∨ w.heap.size ≤ k_) ∧ k_ ≠ gb222) ho0 (fun k_ hk_ => ⟨Or.elim hk_ (fun hs_ => hs_.1) (fun hn_ => (.inr (Nat.le_trans (below_size (by repeat (first | (with_reducible first | exact HB.out | apply below_alloc | apply pw_below_drewN | apply below_drew1 | refine below_set ?_ GE222.out) | exact HB.out))) hn_))), Or.elim hk_ (fun hs_ => hs_.2) (fun hn_ => (Kd.freshB (g := gb222) (o := .cells #[.int .i64 0, .string (⟨#[]⟩ : ByteArray), .int .i64 0, .slice none 0 0] 25 (0, 0)) (by (with_reducible repeat (first | refine blk_drewN ?_ _ | refine blk_drew ?_ | refine blk_alloc ?_ _)); exact BK222.out) k_ hn_))⟩)) (below_size (by repeat (first | (with_reducible first | exact HB.out | apply below_alloc | apply pw_below_drewN | apply below_drew1 | refine below_set ?_ GE222.out) | exact HB.out)))); have n2_ := Aside0.mk (Kd.V_lower (Kd.V_mono (ok' := fun k_ => (P0_ k_ ∨ w.heap.size ≤ k_) ∧ k_ ≠ gb222) ho1 (fun k_ hk_ => ⟨Or.elim hk_ (fun hs_ => hs_.1) (fun hn_ => (.inr (Nat.le_trans (below_size (by repeat (first | (with_reducible first | exact HB.out | apply below_alloc | apply pw_below_drewN | apply below_drew1 | refine below_set ?_ GE222.out) | exact HB.out))) hn_))), Or.elim hk_ (fun hs_ => hs_.2) (fun hn_ => (Kd.freshB (g := gb222) (o := .cells #[.int .i64 0, .string (⟨#[]⟩ : ByteArray), .int .i64 0, .slice none 0 0] 25 (0, 0)) (by (with_reducible repeat (first | refine blk_drewN ?_ _ | refine blk_drew ?_ | refine blk_alloc ?_ _)); exact BK222.out) k_ hn_))⟩)) (below_size (by repeat (first | (with_reducible first | exact HB.out | apply below_alloc | apply pw_below_drewN | apply below_drew1 | refine below_set ?_ GE222.out) | exact HB.out)))); have n3_ := Aside0.mk (blk_below (g := gb222) (o := .cells #[.int .i64 0, .string (⟨#[]⟩ : ByteArray), .int .i64 0, .slice none 0 0] 25 (0, 0)) (by (with_reducible repeat (first | refine blk_drewN ?_ _ | refine blk_drew ?_ | refine blk_alloc ?_ _)); exact BK222.out) hb); have n4_ := Aside0.mk (below_step (by repeat (first | (with_reducible first | exact HB.out | apply below_alloc | apply pw_below_drewN | apply below_drew1 | refine below_set ?_ GE222.out) | exact HB.out)) hb); clear HO0; clear BK222; clear HB; have HO0 := n0_; have HO228 := n1_; have HO231 := n2_; have BK222 := n3_; have HB := n4_; clear n0_ n1_ n2_ n3_ n4_; (try clear hb); (try clear hb2); (try clear hk); (try clear hi); (try clear ho0); (try clear ho1)) | ((with_reducible refine gate_dst (N := 4) rfl ?_); (try (refine gate_guard (by rfl) ?_; dsimp only)); refine box_event ?hg (N := 4) ?hd (cs := #[.int .i64 0, .string (⟨#[]⟩ : ByteArray), .int .i64 0, .slice none 0 0]) (t := 25) ?hr ?_; (case hd => rfl); (case hg => rfl); (case hr => first | (go_simp; done) | (go_simp; rfl)); intro gb233 hg w6 hbox hb; have n0_ := Aside0.mk (Kd.V_below (Kd.V_elderB (by (with_reducible repeat (first | apply Kd.V_alloc | apply Kd.V_drewN | apply Kd.V_drew)); exact HO0.out) gb233 (Nat.le_of_eq hg.symm)) hb); have n1_ := Aside0.mk (Kd.V_below (Kd.V_elderB (by (with_reducible repeat (first | apply Kd.V_alloc | apply Kd.V_drewN | apply Kd.V_drew)); exact HO228.out) gb233 (Nat.le_of_eq hg.symm)) hb); have n2_ := Aside0.mk (Kd.V_below (Kd.V_elderB (by (with_reducible repeat (first | apply Kd.V_alloc | apply Kd.V_drewN | apply Kd.V_drew)); exact HO231.out) gb233 (Nat.le_of_eq hg.symm)) hb); have n3_ := Aside0.mk (blk_below (g := gb222) (o := .cells #[.int .i64 0, .string (⟨#[]⟩ : ByteArray), .int .i64 0, .slice none 0 0] 25 (0, 0)) (by (with_reducible repeat (first | refine blk_drewN ?_ _ | refine blk_drew ?_ | refine blk_alloc ?_ _)); exact BK222.out) hb); have n4_ := Aside0.mk (below_step (by repeat (first | (with_reducible first | exact HB.out | apply below_alloc | apply pw_below_drewN | apply below_drew1 | refine below_set ?_ GE222.out) | exact HB.out)) hb); have n5_ := Aside0.mk (hbox); have n6_ := Aside0.mk ((by rw [hg]; exact (below_size (by repeat (first | (with_reducible first | exact HB.out | apply below_alloc | apply pw_below_drewN | apply below_drew1 | refine below_set ?_ GE222.out) | exact HB.out))) : w.heap.size ≤ gb233)); have n7_ := Aside0.mk ((by rw [hg]; exact (below_size (by repeat (first | (with_reducible first | exact HB.out | apply below_alloc | apply pw_below_drewN | apply below_drew1 | refine below_set ?_ GE222.out) | exact HB.out))) : w.heap.size ≤ gb233)); have n8_ := Aside0.mk ((by rw [hg]; exact Nat.ne_of_lt (blk_lt (g := gb222) (o := .cells #[.int .i64 0, .string (⟨#[]⟩ : ByteArray), .int .i64 0, .slice none 0 0] 25 (0, 0)) (by (with_reducible repeat (first | refine blk_drewN ?_ _ | refine blk_drew ?_ | refine blk_alloc ?_ _)); exact BK222.out)) : gb222 ≠ gb233)); have n9_ := Aside0.mk ((by rw [hg]; exact Nat.ne_of_gt (blk_lt (g := gb222) (o := .cells #[.int .i64 0, .string (⟨#[]⟩ : ByteArray), .int .i64 0, .slice none 0 0] 25 (0, 0)) (by (with_reducible repeat (first | refine blk_drewN ?_ _ | refine blk_drew ?_ | refine blk_alloc ?_ _)); exact BK222.out)) : gb233 ≠ gb222)); clear HO0; clear HO228; clear HO231; clear BK222; clear HB; have HO0 := n0_; have HO228 := n1_; have HO231 := n2_; have BK222 := n3_; have HB := n4_; have BK233 := n5_; have GW233 := n6_; have GE233 := n7_; have NB222_233 := n8_; have NB233_222 := n9_; clear n0_ n1_ n2_ n3_ n4_ n5_ n6_ n7_ n8_ n9_; clear hb hbox hg; have hnb7 := NB233_222.out; have hnc7 := NB222_233.out; have hcz8_0 : w6.cell? ⟨gb233, 0, none⟩ = some (.int .i64 0) := (blk_cell BK233.out 0).trans rfl; have hcz8_1 : w6.cell? ⟨gb233, 1, none⟩ = some (.string (⟨#[]⟩ : ByteArray)) := (blk_cell BK233.out 1).trans rfl; have hcz8_2 : w6.cell? ⟨gb233, 2, none⟩ = some (.int .i64 0) := (blk_cell BK233.out 2).trans rfl; have hcz8_3 : w6.cell? ⟨gb233, 3, none⟩ = some (.slice none 0 0) := (blk_cell BK233.out 3).trans rfl; have hfz8_0 := blk_frozen BK233.out 0; have hfz8_1 := blk_frozen BK233.out 1; have hfz8_2 := blk_frozen BK233.out 2; have hfz8_3 := blk_frozen BK233.out 3; obtain ⟨Ao9, co9, eo9⟩ := Kd.V_slice HO228.out; subst eo9))
 (try simp only [Act.put, List.setIfInBounds_toArray, List.set_cons_zero, List.set_cons_succ])
 go_cut [19] (fun v19 wc => ∃ (kq : Nat) (x19_2 : Bool), v19 = .bool x19_2 ∧ Aside0 (aumbryref16_Decode.j0 kq x19_2 t223 t224 t225 t226 = some (r1, r2, r3, r4, r5)) ∧ Aside0 (kq ≤ k) ∧ Aside0 (Kd.V (Kd.int .i64) 3 wc w.heap.size (fun k_ => (P0_ k_ ∨ w.heap.size ≤ k_) ∧ k_ ≠ gb222 ∧ k_ ≠ gb233) (.slice Ao9 t226.length co9) t226) ∧ Aside0 (wc.heap[gb222]? = some (.cells #[.int .i64 0, .string (⟨#[]⟩ : ByteArray), .int .i64 0, (.slice none 0 0)] 25 (0, 0))) ∧ Aside0 (wc.heap[gb233]? = some (.cells #[.int .i64 t223, .string t224, .int .i64 t225, (.slice Ao9 t226.length co9)] 25 (0, 0))) ∧ Aside0 (Below w.heap.size w wc))
 case first =>
  have H := HC3.out
  clear HC3
  by_cases c10 : t232 = true
  ·subst c10
   have H1 : (aumbryref16_Decode.j0 k (decide ((t229.length : Int) > 0)) t223 t224 t225 t226) = some (r1, r2, r3, r4, r5) := by rw [if_pos rfl] at H; exact H
   clear H
   have H := H1
   clear H1
   have H' := Aside0.mk H
   clear H
   obtain ⟨Ao11, co11, eo11⟩ := Kd.V_slice HO231.out
   subst eo11
   go_wp2
   go_meet
   case rel => exact ⟨_, (decide ((t229.length : Int) > 0)), (by first | rfl | (simp; done) | (simp [*]; done)), H', ⟨by first | omega | exact Nat.le_refl _⟩, ⟨by (with_reducible repeat (first | apply Kd.V_alloc | apply Kd.V_drewN | apply Kd.V_drew)); exact Kd.V_mono (Kd.V_far (p := ⟨gb233, 3, none⟩) (Kd.V_far (p := ⟨gb233, 2, none⟩) (Kd.V_far (p := ⟨gb233, 1, none⟩) (Kd.V_far (p := ⟨gb233, 0, none⟩) (Kd.V_mono HO228.out (fun k_ hk => (⟨hk, hk.2⟩ : _ ∧ k_ ≠ gb233))) (fun _ hk => hk.2) (.int .i64 t223)) (fun _ hk => hk.2) (.string t224)) (fun _ hk => hk.2) (.int .i64 t225)) (fun _ hk => hk.2) (.slice Ao9 t226.length co9)) (fun _ hk => ⟨hk.1.1.1, ⟨hk.1.1.2, hk.1.2⟩⟩)⟩, ⟨by (with_reducible repeat (first | refine blk_drewN ?_ _ | refine blk_drew ?_ | refine blk_alloc ?_ _)); refine blk_far ?_ NB222_233.out _; (with_reducible repeat (first | refine blk_drewN ?_ _ | refine blk_drew ?_ | refine blk_alloc ?_ _)); refine blk_far ?_ NB222_233.out _; (with_reducible repeat (first | refine blk_drewN ?_ _ | refine blk_drew ?_ | refine blk_alloc ?_ _)); refine blk_far ?_ NB222_233.out _; (with_reducible repeat (first | refine blk_drewN ?_ _ | refine blk_drew ?_ | refine blk_alloc ?_ _)); refine blk_far ?_ NB222_233.out _; (with_reducible repeat (first | refine blk_drewN ?_ _ | refine blk_drew ?_ | refine blk_alloc ?_ _)); exact BK222.out⟩, ⟨by (with_reducible repeat (first | refine blk_drewN ?_ _ | refine blk_drew ?_ | refine blk_alloc ?_ _)); refine blk_put (cs := #[.int .i64 t223, .string t224, .int .i64 t225, .slice none 0 0]) ?_ 3 _ rfl; (with_reducible repeat (first | refine blk_drewN ?_ _ | refine blk_drew ?_ | refine blk_alloc ?_ _)); refine blk_put (cs := #[.int .i64 t223, .string t224, .int .i64 0, .slice none 0 0]) ?_ 2 _ rfl; (with_reducible repeat (first | refine blk_drewN ?_ _ | refine blk_drew ?_ | refine blk_alloc ?_ _)); refine blk_put (cs := #[.int .i64 t223, .string (⟨#[]⟩ : ByteArray), .int .i64 0, .slice none 0 0]) ?_ 1 _ rfl; (with_reducible repeat (first | refine blk_drewN ?_ _ | refine blk_drew ?_ | refine blk_alloc ?_ _)); refine blk_put (cs := #[.int .i64 0, .string (⟨#[]⟩ : ByteArray), .int .i64 0, .slice none 0 0]) ?_ 0 _ rfl; (with_reducible repeat (first | refine blk_drewN ?_ _ | refine blk_drew ?_ | refine blk_alloc ?_ _)); exact BK233.out⟩, ⟨by repeat (first | (with_reducible first | exact HB.out | apply below_alloc | apply pw_below_drewN | apply below_drew1 | refine below_set ?_ GE222.out | refine below_set ?_ GE233.out) | exact HB.out)⟩⟩
  ·replace c10 := Bool.eq_false_iff.mpr c10
   subst c10
   have H1 : (aumbryref16_Decode.j0 k true t223 t224 t225 t226) = some (r1, r2, r3, r4, r5) := by rw [if_neg (show ¬ (false = true) by decide)] at H; exact H
   clear H
   have H := H1
   clear H1
   have H' := Aside0.mk H
   clear H
   go_wp2
   go_meet
   case rel => exact ⟨_, (true), (by first | rfl | (simp; done) | (simp [*]; done)), H', ⟨by first | omega | exact Nat.le_refl _⟩, ⟨by (with_reducible repeat (first | apply Kd.V_alloc | apply Kd.V_drewN | apply Kd.V_drew)); exact Kd.V_mono (Kd.V_far (p := ⟨gb233, 3, none⟩) (Kd.V_far (p := ⟨gb233, 2, none⟩) (Kd.V_far (p := ⟨gb233, 1, none⟩) (Kd.V_far (p := ⟨gb233, 0, none⟩) (Kd.V_mono HO228.out (fun k_ hk => (⟨hk, hk.2⟩ : _ ∧ k_ ≠ gb233))) (fun _ hk => hk.2) (.int .i64 t223)) (fun _ hk => hk.2) (.string t224)) (fun _ hk => hk.2) (.int .i64 t225)) (fun _ hk => hk.2) (.slice Ao9 t226.length co9)) (fun _ hk => ⟨hk.1.1.1, ⟨hk.1.1.2, hk.1.2⟩⟩)⟩, ⟨by (with_reducible repeat (first | refine blk_drewN ?_ _ | refine blk_drew ?_ | refine blk_alloc ?_ _)); refine blk_far ?_ NB222_233.out _; (with_reducible repeat (first | refine blk_drewN ?_ _ | refine blk_drew ?_ | refine blk_alloc ?_ _)); refine blk_far ?_ NB222_233.out _; (with_reducible repeat (first | refine blk_drewN ?_ _ | refine blk_drew ?_ | refine blk_alloc ?_ _)); refine blk_far ?_ NB222_233.out _; (with_reducible repeat (first | refine blk_drewN ?_ _ | refine blk_drew ?_ | refine blk_alloc ?_ _)); refine blk_far ?_ NB222_233.out _; (with_reducible repeat (first | refine blk_drewN ?_ _ | refine blk_drew ?_ | refine blk_alloc ?_ _)); exact BK222.out⟩, ⟨by (with_reducible repeat (first | refine blk_drewN ?_ _ | refine blk_drew ?_ | refine blk_alloc ?_ _)); refine blk_put (cs := #[.int .i64 t223, .string t224, .int .i64 t225, .slice none 0 0]) ?_ 3 _ rfl; (with_reducible repeat (first | refine blk_drewN ?_ _ | refine blk_drew ?_ | refine blk_alloc ?_ _)); refine blk_put (cs := #[.int .i64 t223, .string t224, .int .i64 0, .slice none 0 0]) ?_ 2 _ rfl; (with_reducible repeat (first | refine blk_drewN ?_ _ | refine blk_drew ?_ | refine blk_alloc ?_ _)); refine blk_put (cs := #[.int .i64 t223, .string (⟨#[]⟩ : ByteArray), .int .i64 0, .slice none 0 0]) ?_ 1 _ rfl; (with_reducible repeat (first | refine blk_drewN ?_ _ | refine blk_drew ?_ | refine blk_alloc ?_ _)); refine blk_put (cs := #[.int .i64 0, .string (⟨#[]⟩ : ByteArray), .int .i64 0, .slice none 0 0]) ?_ 0 _ rfl; (with_reducible repeat (first | refine blk_drewN ?_ _ | refine blk_drew ?_ | refine blk_alloc ?_ _)); exact BK233.out⟩, ⟨by repeat (first | (with_reducible first | exact HB.out | apply below_alloc | apply pw_below_drewN | apply below_drew1 | refine below_set ?_ GE222.out | refine below_set ?_ GE233.out) | exact HB.out)⟩⟩
 case rest =>
  clear HC3
  try clear c1
  try clear p2
  try clear c3
  try clear c7
  try clear c10
  try clear hcz8_0
  try clear hcz8_1
  try clear hcz8_2
  try clear hcz8_3
  try clear hfz8_0
  try clear hfz8_1
  try clear hfz8_2
  try clear hfz8_3
  obtain ⟨kq, x19_2, rfl, HA, HJ2, HO_234003, BK222, BK233, HB⟩ := hcut
  cases kq with
  | zero => exact absurd HA.out (by simp [aumbryref16_Decode.j0])
  | succ kj2 =>
   have H := HA.out
   clear HA
   simp only [aumbryref16_Decode.j0] at H
   by_cases c12 : x19_2 = true
   ·subst c12
    have H1 : (some (0, (⟨#[]⟩ : ByteArray), 0, ([] : List Int), 160)) = some (r1, r2, r3, r4, r5) := by rw [if_pos rfl] at H; exact H
    clear H
    have H := H1
    clear H1
    simp only [Option.some.injEq, Prod.mk.injEq] at H
    obtain ⟨rfl, rfl, rfl, rfl, rfl⟩ := H
    have hnb13 := NB222_233.out
    have hnc13 := NB233_222.out
    have hcz14_0 : wc.cell? ⟨gb222, 0, none⟩ = some (.int .i64 0) := (blk_cell BK222.out 0).trans rfl
    have hcz14_1 : wc.cell? ⟨gb222, 1, none⟩ = some (.string (⟨#[]⟩ : ByteArray)) := (blk_cell BK222.out 1).trans rfl
    have hcz14_2 : wc.cell? ⟨gb222, 2, none⟩ = some (.int .i64 0) := (blk_cell BK222.out 2).trans rfl
    have hcz14_3 : wc.cell? ⟨gb222, 3, none⟩ = some (.slice none 0 0) := (blk_cell BK222.out 3).trans rfl
    have hfz14_0 := blk_frozen BK222.out 0
    have hfz14_1 := blk_frozen BK222.out 1
    have hfz14_2 := blk_frozen BK222.out 2
    have hfz14_3 := blk_frozen BK222.out 3
    go_wp2
    refine bodyPost_ret (results_ct rfl _ _ gb222 25 #[.int .i64 0, .string (⟨#[]⟩ : ByteArray), .int .i64 0, .slice none 0 0] (0, 0) _ rfl (by (with_reducible repeat (first | refine blk_drewN ?_ _ | refine blk_drew ?_ | refine blk_alloc ?_ _)); refine blk_put (cs := #[.int .i64 0, .string (⟨#[]⟩ : ByteArray), .int .i64 0, .slice none 0 0]) ?_ 3 _ rfl; (with_reducible repeat (first | refine blk_drewN ?_ _ | refine blk_drew ?_ | refine blk_alloc ?_ _)); refine blk_put (cs := #[.int .i64 0, .string (⟨#[]⟩ : ByteArray), .int .i64 0, .slice none 0 0]) ?_ 2 _ rfl; (with_reducible repeat (first | refine blk_drewN ?_ _ | refine blk_drew ?_ | refine blk_alloc ?_ _)); refine blk_put (cs := #[.int .i64 0, .string (⟨#[]⟩ : ByteArray), .int .i64 0, .slice none 0 0]) ?_ 1 _ rfl; (with_reducible repeat (first | refine blk_drewN ?_ _ | refine blk_drew ?_ | refine blk_alloc ?_ _)); refine blk_put (cs := #[.int .i64 0, .string (⟨#[]⟩ : ByteArray), .int .i64 0, .slice none 0 0]) ?_ 0 _ rfl; (with_reducible repeat (first | refine blk_drewN ?_ _ | refine blk_drew ?_ | refine blk_alloc ?_ _)); exact BK222.out) Try.underlying25 rfl (by kernel_rfl)) rfl ?_
    exact ⟨_, by first | rfl | (simp [errW_none, errW_some] <;> rfl) | (simp [*, errW_none, errW_some] <;> rfl), Kd.V_nil _ _ _ _ _, by repeat (first | (with_reducible first | exact HB.out | apply below_alloc | apply pw_below_drewN | apply below_drew1 | refine below_set ?_ GE222.out | refine below_set ?_ GE233.out) | exact HB.out)⟩
   ·replace c12 := Bool.eq_false_iff.mpr c12
    subst c12
    have H1 : (some (t223, t224, t225, t226, 0)) = some (r1, r2, r3, r4, r5) := by rw [if_neg (show ¬ (false = true) by decide)] at H; exact H
    clear H
    have H := H1
    clear H1
    simp only [Option.some.injEq, Prod.mk.injEq] at H
    obtain ⟨rfl, rfl, rfl, rfl, rfl⟩ := H
    have hnb15 := NB233_222.out
    have hnc15 := NB222_233.out
    have hcz16_0 : wc.cell? ⟨gb233, 0, none⟩ = some (.int .i64 t223) := (blk_cell BK233.out 0).trans rfl
    have hcz16_1 : wc.cell? ⟨gb233, 1, none⟩ = some (.string t224) := (blk_cell BK233.out 1).trans rfl
    have hcz16_2 : wc.cell? ⟨gb233, 2, none⟩ = some (.int .i64 t225) := (blk_cell BK233.out 2).trans rfl
    have hcz16_3 : wc.cell? ⟨gb233, 3, none⟩ = some (.slice Ao9 t226.length co9) := (blk_cell BK233.out 3).trans rfl
    have hfz16_0 := blk_frozen BK233.out 0
    have hfz16_1 := blk_frozen BK233.out 1
    have hfz16_2 := blk_frozen BK233.out 2
    have hfz16_3 := blk_frozen BK233.out 3
    have hcz17_0 : wc.cell? ⟨gb222, 0, none⟩ = some (.int .i64 0) := (blk_cell BK222.out 0).trans rfl
    have hcz17_1 : wc.cell? ⟨gb222, 1, none⟩ = some (.string (⟨#[]⟩ : ByteArray)) := (blk_cell BK222.out 1).trans rfl
    have hcz17_2 : wc.cell? ⟨gb222, 2, none⟩ = some (.int .i64 0) := (blk_cell BK222.out 2).trans rfl
    have hcz17_3 : wc.cell? ⟨gb222, 3, none⟩ = some (.slice none 0 0) := (blk_cell BK222.out 3).trans rfl
    have hfz17_0 := blk_frozen BK222.out 0
    have hfz17_1 := blk_frozen BK222.out 1
    have hfz17_2 := blk_frozen BK222.out 2
    have hfz17_3 := blk_frozen BK222.out 3
    go_wp2
    refine bodyPost_ret (results_ct rfl _ _ gb222 25 #[.int .i64 t223, .string t224, .int .i64 t225, .slice Ao9 t226.length co9] (0, 0) _ rfl (by (with_reducible repeat (first | refine blk_drewN ?_ _ | refine blk_drew ?_ | refine blk_alloc ?_ _)); refine blk_put (cs := #[.int .i64 t223, .string t224, .int .i64 t225, .slice none 0 0]) ?_ 3 _ rfl; (with_reducible repeat (first | refine blk_drewN ?_ _ | refine blk_drew ?_ | refine blk_alloc ?_ _)); refine blk_put (cs := #[.int .i64 t223, .string t224, .int .i64 0, .slice none 0 0]) ?_ 2 _ rfl; (with_reducible repeat (first | refine blk_drewN ?_ _ | refine blk_drew ?_ | refine blk_alloc ?_ _)); refine blk_put (cs := #[.int .i64 t223, .string (⟨#[]⟩ : ByteArray), .int .i64 0, .slice none 0 0]) ?_ 1 _ rfl; (with_reducible repeat (first | refine blk_drewN ?_ _ | refine blk_drew ?_ | refine blk_alloc ?_ _)); refine blk_put (cs := #[.int .i64 0, .string (⟨#[]⟩ : ByteArray), .int .i64 0, .slice none 0 0]) ?_ 0 _ rfl; (with_reducible repeat (first | refine blk_drewN ?_ _ | refine blk_drew ?_ | refine blk_alloc ?_ _)); exact BK222.out) Try.underlying25 rfl (by kernel_rfl)) rfl ?_
    exact ⟨_, by first | rfl | (simp [errW_none, errW_some] <;> rfl) | (simp [*, errW_none, errW_some] <;> rfl), by (with_reducible repeat (first | apply Kd.V_alloc | apply Kd.V_drewN | apply Kd.V_drew)); exact Kd.V_mono (Kd.V_far (p := ⟨gb222, 3, none⟩) (Kd.V_far (p := ⟨gb222, 2, none⟩) (Kd.V_far (p := ⟨gb222, 1, none⟩) (Kd.V_far (p := ⟨gb222, 0, none⟩) (Kd.V_mono HO_234003.out (fun k_ hk => (⟨hk, hk.2.1⟩ : _ ∧ k_ ≠ gb222))) (fun _ hk => hk.2) (.int .i64 t223)) (fun _ hk => hk.2) (.string t224)) (fun _ hk => hk.2) (.int .i64 t225)) (fun _ hk => hk.2) (.slice Ao9 t226.length co9)) (fun _ hk => hk.1.1), by repeat (first | (with_reducible first | exact HB.out | apply below_alloc | apply pw_below_drewN | apply below_drew1 | refine below_set ?_ GE222.out | refine below_set ?_ GE233.out) | exact HB.out)⟩

end Go.Proofs.Ytoeegdpkmdgkdaa.PAll
