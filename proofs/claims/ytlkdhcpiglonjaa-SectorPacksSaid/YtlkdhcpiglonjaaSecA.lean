/- What Pack, Unpack and Same of package sector, and their references, answer, as functions on lists, for all bytes. -/
import Derived.Test.YtlkdhcpiglonjaaPAllx2
import Derived.Test.YtlkdhcpiglonjaaPAllx4
import Derived.Test.YtlkdhcpiglonjaaCrcA
import Derived.Laws.BitsLemmas
namespace Go.Proofs.Ytlkdhcpiglonjaa.SecA
open Go.RowKit Go.Proofs.Ytlkdhcpiglonjaa.PAll Go.Proofs.YtlkdhcpiglonjaaW.PrintWords Go.Proofs.YtlkdhcpiglonjaaW.PrintLast Go.Proofs.Ytlkdhcpiglonjaa.CrcA
set_option linter.unusedVariables false

theorem ev_eq {α : Type} {g : Nat → Option α} {r r' : α} (h : Ev g r) (e : r = r') : Ev g r' := e ▸ h
theorem ev_succ {α : Type} {g : Nat → Option α} {r : α} (h : ∀ k, g (k + 1) = some r) : Ev g r := Ev.step (f := fun _ => some r) h (Ev.now r)
def Byte (x : Int) : Prop := 0 ≤ x ∧ x ≤ 255
def Bytes (l : List Int) : Prop := ∀ x ∈ l, Byte x
theorem byte_of {x : Int} (h : (Lit.int .u8 x).wf = true) : Byte x := by
  simp [Lit.wf, IntKind.min, IntKind.max, IntKind.signed, IntKind.bits] at h
  exact h
theorem byte_to {x : Int} (h : Byte x) : (Lit.int .u8 x).wf = true := by
  unfold Byte at h
  simp [Lit.wf, IntKind.min, IntKind.max, IntKind.signed, IntKind.bits]
  exact h
/-- The number of four bytes. -/
def nbr : List Int → Int
  | [a, b, c, d] => ((a * 256 + b) * 256 + c) * 256 + d
  | _ => 0
theorem four_of {l : List Int} (h : l.length = 4) : ∃ a b c d, l = [a, b, c, d] := by
  match l, h with
  | [a, b, c, d], _ => exact ⟨a, b, c, d, rfl⟩
theorem nbr_range {l : List Int} (h : l.length = 4) (hb : Bytes l) : 0 ≤ nbr l ∧ nbr l ≤ 4294967295 := by
  obtain ⟨a, b, c, d, rfl⟩ := four_of h
  have h1 := hb a (by simp)
  have h2 := hb b (by simp)
  have h3 := hb c (by simp)
  have h4 := hb d (by simp)
  unfold Byte at *
  simp only [nbr]
  omega
theorem four_nbr {l : List Int} (h : l.length = 4) (hb : Bytes l) : fourL (nbr l) = l := by
  obtain ⟨a, b, c, d, rfl⟩ := four_of h
  have h1 := hb a (by simp)
  have h2 := hb b (by simp)
  have h3 := hb c (by simp)
  have h4 := hb d (by simp)
  unfold Byte at *
  simp only [nbr, fourL, List.cons.injEq, and_true]
  omega
theorem nbr_four {n : Int} (h0 : 0 ≤ n) (h1 : n < 4294967296) : nbr (fourL n) = n := by
  simp only [nbr, fourL]
  omega
theorem four_len (n : Int) : (fourL n).length = 4 := rfl
theorem four_bytes (n : Int) : Bytes (fourL n) := by
  intro x hx
  simp only [fourL, List.mem_cons, List.not_mem_nil, or_false] at hx
  unfold Byte
  omega
theorem nbr_inj {a b : List Int} (ha : a.length = 4) (hb : b.length = 4) (ba : Bytes a) (bb : Bytes b) (h : nbr a = nbr b) : a = b := by
  rw [← four_nbr ha ba, ← four_nbr hb bb, h]
theorem four_inj {a b : Int} (ha : 0 ≤ a ∧ a < 4294967296) (hb : 0 ≤ b ∧ b < 4294967296) (h : fourL a = fourL b) : a = b := by
  rw [← nbr_four ha.1 ha.2, ← nbr_four hb.1 hb.2, h]
theorem orr (x y : Int) (h0 : 0 ≤ x) (h1 : x < 16777216) (hy : Byte y) : Go.bits .or .u32 ((x * 256) % 4294967296) (y % 4294967296) = x * 256 + y := by
  unfold Byte at hy
  rw [Int.emod_eq_of_lt (by omega) (by omega), Int.emod_eq_of_lt (by omega) (by omega)]
  exact bits_join .u32 32 (by decide) (fun n h0 h1 => by rw [IntKind.wrap_u32]; omega) 8 (x * 256) y (by omega) (by omega) (by omega) hy.1 (by omega) (by omega)
theorem number (l : List Int) (h : l.length = 4) (hb : Bytes l) : Ev (fun k => sector_number.f k l) (nbr l) := by
  obtain ⟨a, b, c, d, rfl⟩ := four_of h
  have h1 := hb a (by simp)
  have h2 := hb b (by simp)
  have h3 := hb c (by simp)
  have h4 := hb d (by simp)
  have q1 := h1
  have q2 := h2
  have q3 := h3
  have q4 := h4
  unfold Byte at q1 q2 q3 q4
  unfold sector_number.f
  refine Ev.step (fun k => by rw [sector_number.l0]) (ev_pos (by simp) (ev_pos (by simp) (ev_pos (by simp) ?_)))
  rw [show rd [a, b, c, d] 0 = a from rfl, orr 0 a (by omega) (by omega) h1, wrap_in (by omega) (by omega)]
  refine Ev.step (fun k => by rw [sector_number.l0]) (ev_pos (by simp) (ev_pos (by simp) (ev_pos (by simp) ?_)))
  rw [show rd [a, b, c, d] (0 + 1) = b from rfl, orr _ b (by omega) (by omega) h2, wrap_in (by omega) (by omega)]
  refine Ev.step (fun k => by rw [sector_number.l0]) (ev_pos (by simp) (ev_pos (by simp) (ev_pos (by simp) ?_)))
  rw [show rd [a, b, c, d] (0 + 1 + 1) = c from rfl, orr _ c (by omega) (by omega) h3, wrap_in (by omega) (by omega)]
  refine Ev.step (fun k => by rw [sector_number.l0]) (ev_pos (by simp) (ev_pos (by simp) (ev_pos (by simp) ?_)))
  rw [show rd [a, b, c, d] (0 + 1 + 1 + 1) = d from rfl, orr _ d (by omega) (by omega) h4, wrap_in (by omega) (by omega)]
  refine Ev.step (fun k => by rw [sector_number.l0]) (ev_neg (by simp) (ev_eq (Ev.now _) ?_))
  simp only [nbr]
  omega
theorem rnumber (l : List Int) (h : l.length = 4) (hb : Bytes l) : aumbryref11_Number.f l = some (nbr l) := by
  obtain ⟨a, b, c, d, rfl⟩ := four_of h
  have h1 := hb a (by simp)
  have h2 := hb b (by simp)
  have h3 := hb c (by simp)
  have h4 := hb d (by simp)
  unfold Byte at h1 h2 h3 h4
  unfold aumbryref11_Number.f
  rw [if_pos (by simp), if_pos (by simp), if_pos (by simp), if_pos (by simp)]
  rw [show rd [a, b, c, d] 0 = a from rfl, show rd [a, b, c, d] 1 = b from rfl, show rd [a, b, c, d] 2 = c from rfl, show rd [a, b, c, d] 3 = d from rfl]
  simp only [nbr]
  congr 1
  omega
theorem bytes_sub {l m : List Int} (h : Bytes l) (hs : ∀ x ∈ m, x ∈ l) : Bytes m := fun x hx => h x (hs x hx)
theorem bytes_take {l : List Int} (h : Bytes l) (n : Nat) : Bytes (l.take n) := bytes_sub h fun x hx => List.mem_of_mem_take hx
theorem bytes_drop {l : List Int} (h : Bytes l) (n : Nat) : Bytes (l.drop n) := bytes_sub h fun x hx => List.mem_of_mem_drop hx
theorem bytes_append {l m : List Int} (h : Bytes l) (h2 : Bytes m) : Bytes (l ++ m) := fun x hx => (List.mem_append.1 hx).elim (h x) (h2 x)

/-! ### the model -/
def sum (l : List Int) : Int := ((val 0#32 l).toNat : Int)
theorem sum_range (l : List Int) : 0 ≤ sum l ∧ sum l < 4294967296 := by
  unfold sum
  have := (val 0#32 l).isLt
  omega
def Num (x : Int) : Prop := 0 ≤ x ∧ x ≤ 2147483647
instance (x : Int) : Decidable (Num x) := by unfold Num; infer_instance
def May (a e : Int) (l : List Int) : Prop := Num a ∧ Num e ∧ l.length ≤ 4096
instance (a e : Int) (l : List Int) : Decidable (May a e l) := by unfold May; infer_instance
def sect (a e : Int) (l : List Int) : List Int := packL a e l ++ fourL (sum (packL a e l))
def packM (a e : Int) (l : List Int) : List Int × Int := if May a e l then (sect a e l, 0) else ([], 1)
theorem body_len (a e : Int) (l : List Int) : (packL a e l).length = 8 + l.length := by simp [packL, fourL]; omega
theorem sect_len (a e : Int) (l : List Int) : (sect a e l).length = 12 + l.length := by simp [sect, body_len, four_len]; omega
theorem pack (a e : Int) (l : List Int) : Ev (fun k => sector_Pack.f k a e l) (packM a e l) := by
  unfold sector_Pack.f packM
  by_cases h : May a e l
  · rw [if_pos h]
    have h' := h
    unfold May Num at h'
    refine ev_pos h' (Ev.bind (CrcA.crc_Sum _ (by rw [body_len]; omega)) (ev_pos (sum_range _) (Ev.now _)))
  · rw [if_neg h]
    exact ev_neg (fun h' => h (by unfold May Num; exact h')) (Ev.now _)
theorem rpack_j (a e : Int) (l : List Int) (b : Bool) (h : b = true ∨ May a e l) : Ev (fun k => aumbryref11_Pack.j0 k a e l b) (if b = true then ([], 1) else (sect a e l, 0)) := by
  cases b
  · have hm : May a e l := h.resolve_left (by decide)
    unfold May Num at hm
    refine Ev.step (fun k => by rw [aumbryref11_Pack.j0]) (ev_neg (by decide) ?_)
    rw [if_neg (by decide)]
    simp only [aumbryref11_Four.f, Option.bind_some]
    rw [Int.emod_eq_of_lt (show 0 ≤ a by omega) (by omega), Int.emod_eq_of_lt (show 0 ≤ e by omega) (by omega)]
    rw [show ([a / 16777216 % 256, a / 65536 % 256, a / 256 % 256, a % 256] : List Int) = fourL a from rfl, show ([e / 16777216 % 256, e / 65536 % 256, e / 256 % 256, e % 256] : List Int) = fourL e from rfl]
    refine ev_pos (by simp [four_len]) (ev_pos (by simp [four_len]; omega) ?_)
    rw [show fourL a ++ fourL e ++ l = packL a e l from by simp [packL, List.append_assoc]]
    refine Ev.bind (CrcA.ref_Sum _ (by rw [body_len]; omega)) (ev_pos (by rw [body_len]; simp; omega) (Ev.now _))
  · refine Ev.step (fun k => by rw [aumbryref11_Pack.j0]) (ev_pos rfl (ev_eq (Ev.now _) ?_))
    rw [if_pos rfl]
theorem rpack (a e : Int) (l : List Int) : Ev (fun k => aumbryref11_Pack.f k a e l) (packM a e l) := by
  unfold aumbryref11_Pack.f packM
  have bad : ¬ May a e l → Ev (fun k => aumbryref11_Pack.j0 k a e l true) (if May a e l then (sect a e l, 0) else ([], 1)) := fun h => ev_eq (rpack_j a e l true (.inl rfl)) (by rw [if_pos rfl, if_neg h])
  by_cases h1 : a < 0
  · exact ev_pos h1 (bad (by unfold May Num; omega))
  · refine ev_neg h1 ?_
    by_cases h2 : a > 2147483647
    · exact ev_pos h2 (bad (by unfold May Num; omega))
    · refine ev_neg h2 ?_
      by_cases h3 : e < 0
      · exact ev_pos h3 (bad (by unfold May Num; omega))
      · refine ev_neg h3 ?_
        by_cases h4 : e > 2147483647
        · exact ev_pos h4 (bad (by unfold May Num; omega))
        · refine ev_neg h4 ?_
          by_cases h5 : (l.length : Int) > 4096
          · rw [decide_eq_true h5]; exact bad (by unfold May Num; omega)
          · rw [decide_eq_false h5]
            have hm : May a e l := by unfold May Num; omega
            exact ev_eq (rpack_j a e l false (.inr hm)) (by rw [if_neg (by decide), if_pos hm])
/-- Are these bytes a sector of that place? -/
def Is (a : Int) (b : List Int) : Prop := (12 ≤ b.length ∧ b.length ≤ 4108) ∧ Num a ∧ nbr (b.drop (b.length - 4)) = sum (b.take (b.length - 4)) ∧ nbr (b.take 4) = a ∧ nbr ((b.take 8).drop 4) ≤ 2147483647
instance (a : Int) (b : List Int) : Decidable (Is a b) := by unfold Is; infer_instance
def unpackM (a : Int) (b : List Int) : Int × List Int × Int := if Is a b then (nbr ((b.take 8).drop 4), (b.take (b.length - 4)).drop 8, 0) else (0, [], 110)
theorem fits (a : Int) : sector_fits.f a = some (decide (Num a)) := by
  unfold sector_fits.f
  by_cases h : a ≥ 0
  · rw [if_pos h]; congr 1; rw [decide_eq_decide]; unfold Num; omega
  · rw [if_neg h]; congr 1; symm; rw [decide_eq_false_iff_not]; unfold Num; omega
theorem clone (l : List Int) (h : l.length ≤ 5000) : bytes_Clone.f l = some l := by unfold bytes_Clone.f; rw [if_pos (by omega)]
theorem unpack_bad (a n : Int) (b : List Int) : Ev (fun k => sector_Unpack.j0 k a b n true) (0, [], 110) := ev_succ fun k => by rw [sector_Unpack.j0, if_pos rfl]
theorem unpack_bad1 (n x : Int) (b : List Int) : Ev (fun k => sector_Unpack.j1 k b n x true) (0, [], 110) := ev_succ fun k => by rw [sector_Unpack.j1, if_pos rfl]
theorem unpack (a : Int) (b : List Int) (hb : Bytes b) (hl : b.length ≤ 5000) : Ev (fun k => sector_Unpack.f k a b) (unpackM a b) := by
  unfold sector_Unpack.f
  rw [wrap_in (i := (b.length : Int) - 4) (by omega) (by omega)]
  by_cases h1 : (b.length : Int) - 4 < 8
  · exact ev_pos h1 (ev_eq (unpack_bad _ _ _) (by unfold unpackM; rw [if_neg (by unfold Is; omega)]))
  · refine ev_neg h1 ?_
    by_cases h2 : (b.length : Int) - 4 > 4104
    · exact ev_pos h2 (ev_eq (unpack_bad _ _ _) (by unfold unpackM; rw [if_neg (by unfold Is; omega)]))
    · refine ev_neg h2 ?_
      rw [fits]
      refine ev_some ?_
      by_cases h3 : Num a
      · rw [decide_eq_true h3]
        have h3' := h3
        unfold Num at h3'
        have en : ((b.length : Int) - 4).toNat = b.length - 4 := by omega
        have l1 : ((b.take 8).drop 4).length = 4 := by simp; omega
        have l2 : (b.drop (b.length - 4)).length = 4 := by simp; omega
        have l3 : (b.take 4).length = 4 := by simp; omega
        have b1 := bytes_drop (bytes_take hb 8) 4
        have r1 := nbr_range l1 b1
        have r3 := nbr_range l3 (bytes_take hb 4)
        refine Ev.step (fun k => by rw [sector_Unpack.j0]) (ev_neg (by decide) (ev_pos (by decide) (ev_pos (by omega) ?_)))
        refine Ev.bind (number _ l1 b1) (ev_pos (by omega) (ev_pos (by omega) ?_))
        rw [en]
        refine Ev.bind (number _ l2 (bytes_drop hb _)) (Ev.bind (CrcA.crc_Sum _ (by simp; omega)) ?_)
        by_cases h4 : nbr (b.drop (b.length - 4)) = sum (b.take (b.length - 4))
        · refine ev_pos h4 (ev_pos (by omega) (Ev.bind (number _ l3 (bytes_take hb 4)) ?_))
          rw [Int.emod_eq_of_lt (by omega) (by omega)]
          by_cases h5 : nbr (b.take 4) = a
          · refine ev_pos h5 ?_
            by_cases h6 : nbr ((b.take 8).drop 4) > 2147483647
            · rw [decide_eq_true h6]
              exact ev_eq (unpack_bad1 _ _ _) (by unfold unpackM; rw [if_neg (by unfold Is; omega)])
            · rw [decide_eq_false h6]
              refine Ev.step (fun k => by rw [sector_Unpack.j1]) (ev_neg (by decide) (ev_pos (by omega) (ev_pos (by omega) ?_)))
              rw [en, clone _ (by simp; omega)]
              refine ev_some (ev_eq (Ev.now _) ?_)
              unfold unpackM
              rw [if_pos (show Is a b from ⟨by omega, h3, h4, h5, by omega⟩), wrap_in (by omega) (by omega)]
          · exact ev_neg h5 (ev_eq (unpack_bad1 _ _ _) (by unfold unpackM; rw [if_neg (fun h : Is a b => h5 h.2.2.2.1)]))
        · exact ev_neg h4 (ev_eq (unpack_bad1 _ _ _) (by unfold unpackM; rw [if_neg (fun h : Is a b => h4 h.2.2.1)]))
      · rw [decide_eq_false h3]
        exact ev_eq (unpack_bad _ _ _) (by unfold unpackM; rw [if_neg (fun h : Is a b => h3 h.2.1)])
theorem runpack_bad (a n : Int) (b : List Int) : Ev (fun k => aumbryref11_Unpack.j0 k a b n true) (0, [], 110) := ev_succ fun k => by rw [aumbryref11_Unpack.j0, if_pos rfl]
theorem runpack_bad1 (n x : Int) (b : List Int) : Ev (fun k => aumbryref11_Unpack.j1 k b n x true) (0, [], 110) := ev_succ fun k => by rw [aumbryref11_Unpack.j1, if_pos rfl]
theorem runpack (a : Int) (b : List Int) (hb : Bytes b) (hl : b.length ≤ 5000) : Ev (fun k => aumbryref11_Unpack.f k a b) (unpackM a b) := by
  unfold aumbryref11_Unpack.f
  rw [wrap_in (i := (b.length : Int) - 4) (by omega) (by omega)]
  by_cases h1 : (b.length : Int) - 4 < 8
  · exact ev_pos h1 (ev_eq (runpack_bad _ _ _) (by unfold unpackM; rw [if_neg (by unfold Is; omega)]))
  · refine ev_neg h1 ?_
    by_cases h2 : (b.length : Int) - 4 > 4104
    · exact ev_pos h2 (ev_eq (runpack_bad _ _ _) (by unfold unpackM; rw [if_neg (by unfold Is; omega)]))
    · refine ev_neg h2 ?_
      by_cases h3a : a < 0
      · exact ev_pos h3a (ev_eq (runpack_bad _ _ _) (by unfold unpackM; rw [if_neg (fun h : Is a b => by have := h.2.1; unfold Num at this; omega)]))
      refine ev_neg h3a ?_
      by_cases h3b : a > 2147483647
      · rw [decide_eq_true h3b]
        exact ev_eq (runpack_bad _ _ _) (by unfold unpackM; rw [if_neg (fun h : Is a b => by have := h.2.1; unfold Num at this; omega)])
      · rw [decide_eq_false h3b]
        have h3 : Num a := by unfold Num; omega
        have en : ((b.length : Int) - 4).toNat = b.length - 4 := by omega
        have l1 : ((b.take 8).drop 4).length = 4 := by simp; omega
        have l2 : (b.drop (b.length - 4)).length = 4 := by simp; omega
        have l3 : (b.take 4).length = 4 := by simp; omega
        have b1 := bytes_drop (bytes_take hb 8) 4
        have r1 := nbr_range l1 b1
        have r3 := nbr_range l3 (bytes_take hb 4)
        refine Ev.step (fun k => by rw [aumbryref11_Unpack.j0]) (ev_neg (by decide) (ev_pos (by decide) (ev_pos (by omega) ?_)))
        rw [rnumber _ l1 b1, en, rnumber _ l2 (bytes_drop hb _), rnumber _ l3 (bytes_take hb 4)]
        refine ev_some (ev_pos (by omega) (ev_pos (by omega) (ev_some (Ev.bind (CrcA.ref_Sum _ (by simp; omega)) ?_))))
        by_cases h4 : nbr (b.drop (b.length - 4)) = sum (b.take (b.length - 4))
        · refine ev_pos h4 (ev_pos (by omega) (ev_some ?_))
          rw [Int.emod_eq_of_lt (by omega) (by omega)]
          by_cases h5 : nbr (b.take 4) = a
          · refine ev_pos h5 ?_
            by_cases h6 : nbr ((b.take 8).drop 4) > 2147483647
            · rw [decide_eq_true h6]
              exact ev_eq (runpack_bad1 _ _ _) (by unfold unpackM; rw [if_neg (by unfold Is; omega)])
            · rw [decide_eq_false h6]
              refine Ev.step (fun k => by rw [aumbryref11_Unpack.j1]) (ev_neg (by decide) (ev_pos (by omega) (ev_pos (by omega) (ev_eq (Ev.now _) ?_))))
              unfold unpackM
              rw [en, if_pos (show Is a b from ⟨by omega, h3, h4, h5, by omega⟩), wrap_in (by omega) (by omega)]
          · exact ev_neg h5 (ev_eq (runpack_bad1 _ _ _) (by unfold unpackM; rw [if_neg (fun h : Is a b => h5 h.2.2.2.1)]))
        · exact ev_neg h4 (ev_eq (runpack_bad1 _ _ _) (by unfold unpackM; rw [if_neg (fun h : Is a b => h4 h.2.2.1)]))
theorem same_l (x y : List Int) (hl : x.length = y.length) (hb : x.length ≤ 100000) (d : Nat) : ∀ j : Nat, j + d = x.length → (x.take j = y.take j) → Ev (fun k => aumbryref02_Same.l0 k x y (j : Int)) (decide (x = y)) := by
  induction d with
  | zero =>
    intro j h he
    refine ev_succ fun k => ?_
    rw [aumbryref02_Same.l0, if_neg (by omega)]
    rw [List.take_of_length_le (by omega), List.take_of_length_le (by omega)] at he
    rw [decide_eq_true he]
  | succ d ih =>
    intro j h he
    refine Ev.step (fun k => by rw [aumbryref02_Same.l0]) (ev_pos (by omega) (ev_pos (by omega) (ev_pos (by omega) ?_)))
    have hx : j < x.length := by omega
    have hy : j < y.length := by omega
    have ex : rd x (j : Int) = x[j] := by unfold rd; simp [List.getD_eq_getElem?_getD, hx]
    have ey : rd y (j : Int) = y[j] := by unfold rd; simp [List.getD_eq_getElem?_getD, hy]
    rw [ex, ey]
    by_cases h1 : x[j] = y[j]
    · refine ev_pos h1 ?_
      rw [wrap_in (by omega) (by omega)]
      refine ih (j + 1) (by omega) ?_
      rw [List.take_succ_eq_append_getElem hx, List.take_succ_eq_append_getElem hy, he, h1]
    · refine ev_neg h1 (ev_eq (Ev.now _) ?_)
      symm; rw [decide_eq_false_iff_not]
      intro e
      subst e
      exact h1 rfl
theorem same (x y : List Int) (hb : x.length ≤ 100000) : Ev (fun k => aumbryref02_Same.f k x y) (decide (x = y)) := by
  unfold aumbryref02_Same.f
  by_cases h : (x.length : Int) = (y.length : Int)
  · exact ev_pos h (same_l x y (by omega) hb x.length 0 (by omega) rfl)
  · refine ev_neg h (ev_eq (Ev.now _) ?_)
    symm; rw [decide_eq_false_iff_not]
    intro e; subst e; exact h rfl

/-! ### plain laws -/
theorem sect_bytes (a e : Int) {l : List Int} (h : Bytes l) : Bytes (sect a e l) := bytes_append (bytes_append (four_bytes _) (bytes_append (four_bytes _) h)) (four_bytes _)
theorem sect_take (a e : Int) (l : List Int) : (sect a e l).take ((sect a e l).length - 4) = packL a e l := by
  rw [sect_len, show 12 + l.length - 4 = (packL a e l).length from by rw [body_len]; omega]
  unfold sect
  rw [List.take_left]
theorem sect_drop (a e : Int) (l : List Int) : (sect a e l).drop ((sect a e l).length - 4) = fourL (sum (packL a e l)) := by
  rw [sect_len, show 12 + l.length - 4 = (packL a e l).length from by rw [body_len]; omega]
  unfold sect
  rw [List.drop_left]
theorem sect_head (a e : Int) (l : List Int) : (sect a e l).take 4 = fourL a := rfl
theorem sect_mid (a e : Int) (l : List Int) : ((sect a e l).take 8).drop 4 = fourL e := rfl
theorem body_data (a e : Int) (l : List Int) : (packL a e l).drop 8 = l := rfl
theorem back {a e : Int} {l : List Int} (h : May a e l) : unpackM a (sect a e l) = (e, l, 0) := by
  have h' := h
  unfold May Num at h'
  unfold unpackM
  have hs := sum_range (packL a e l)
  rw [if_pos]
  · rw [sect_mid, sect_take, body_data, nbr_four (by omega) (by omega)]
  · refine ⟨by rw [sect_len]; omega, h.1, ?_, ?_, ?_⟩
    · rw [sect_drop, sect_take, nbr_four hs.1 hs.2]
    · rw [sect_head, nbr_four (by omega) (by omega)]
    · rw [sect_mid, nbr_four (by omega) (by omega)]; omega
theorem other {a e a' : Int} {l : List Int} (h : May a e l) (hne : a' ≠ a) : unpackM a' (sect a e l) = (0, [], 110) := by
  unfold unpackM
  rw [if_neg]
  intro hi
  have h1 := hi.2.2.2.1
  have h' := h
  unfold May Num at h'
  rw [sect_head, nbr_four (by omega) (by omega)] at h1
  exact hne h1.symm
theorem again {a : Int} {b : List Int} (hb : Bytes b) (hi : Is a b) : May a (nbr ((b.take 8).drop 4)) ((b.take (b.length - 4)).drop 8) ∧ sect a (nbr ((b.take 8).drop 4)) ((b.take (b.length - 4)).drop 8) = b := by
  obtain ⟨h1, h2, h3, h4, h5⟩ := hi
  have l1 : ((b.take 8).drop 4).length = 4 := by simp; omega
  have l2 : (b.drop (b.length - 4)).length = 4 := by simp; omega
  have l3 : (b.take 4).length = 4 := by simp; omega
  have b1 := bytes_drop (bytes_take hb 8) 4
  have r1 := nbr_range l1 b1
  refine ⟨⟨h2, by unfold Num; omega, by simp; omega⟩, ?_⟩
  have e1 : fourL a = b.take 4 := by rw [← h4, four_nbr l3 (bytes_take hb 4)]
  have e2 : fourL (nbr ((b.take 8).drop 4)) = (b.take 8).drop 4 := four_nbr l1 b1
  have eb : packL a (nbr ((b.take 8).drop 4)) ((b.take (b.length - 4)).drop 8) = b.take (b.length - 4) := by
    unfold packL
    rw [e1, e2, ← List.append_assoc]
    have e3 : b.take 4 ++ (b.take 8).drop 4 = b.take 8 := by
      have := List.take_append_drop 4 (b.take 8)
      rw [List.take_take] at this
      exact this
    rw [e3]
    have := List.take_append_drop 8 (b.take (b.length - 4))
    rw [List.take_take, show min 8 (b.length - 4) = 8 from by omega] at this
    exact this
  unfold sect
  rw [eb, ← h3, four_nbr l2 (bytes_drop hb _), List.take_append_drop]
theorem awake : Ev (fun k => aumbrylaw11_awake.f k) true := by
  unfold aumbrylaw11_awake.f
  have hm : May 1 2 [7] := by decide
  have hb : Bytes (sect 1 2 [7]) := sect_bytes 1 2 (by intro x hx; obtain rfl := List.mem_singleton.1 hx; unfold Byte; omega)
  have hl : (sect 1 2 [7]).length = 13 := sect_len 1 2 [7]
  have hp := pack 1 2 [7]
  rw [show packM 1 2 [7] = (sect 1 2 [7], 0) from if_pos hm] at hp
  refine Ev.bind hp ?_
  have h1 := unpack 1 (sect 1 2 [7]) hb (by omega)
  have h2 := unpack 2 (sect 1 2 [7]) hb (by omega)
  rw [back hm] at h1
  rw [other hm (by decide)] at h2
  refine Ev.bind h1 (Ev.bind h2 (ev_pos (show ((sect 1 2 [7]).length : Int) = 13 from by omega) ?_))
  refine Ev.step (fun k => by rw [aumbrylaw11_awake.j0]) ?_
  refine (ev_neg (by decide) (ev_pos (show (3 : Int) < ((sect 1 2 [7]).length : Int) from by omega) (ev_pos rfl (ev_pos (show (7 : Int) < ((sect 1 2 [7]).length : Int) from by omega) (ev_pos rfl (ev_pos rfl (ev_pos rfl (ev_pos (by decide) (ev_pos rfl (ev_pos rfl (Ev.now _)))))))))))
end Go.Proofs.Ytlkdhcpiglonjaa.SecA
