/- One byte that is another one, anywhere in a sector, is seen: SectorTells, for every input. -/
import Derived.Test.YtlkdhcpiglonjaaPAllx6
import Derived.Test.YtlkdhcpiglonjaaSecA
namespace Go.Proofs.Ytlkdhcpiglonjaa.Pure
open Go.RowKit Go.Proofs.Ytlkdhcpiglonjaa.PAll Go.Proofs.YtlkdhcpiglonjaaW.PrintWords Go.Proofs.YtlkdhcpiglonjaaW.PrintLast Go.Proofs.Ytlkdhcpiglonjaa.CrcA Go.Proofs.Ytlkdhcpiglonjaa.SecA
set_option linter.unusedVariables false

/-- Where one byte of a list is another one, so is its check sum. -/
theorem sum_ne (l : List Int) (hl : Bytes l) (b : Int) (hb : (Lit.int .u8 b).wf = true) (h0 : b ≠ 0) (j : Nat) (hj : j < l.length) : sum (l.set j (Go.bits .xor .u8 (rd l (j : Int)) b)) ≠ sum l := by
  intro h
  have h1 : val 0#32 (l.set j (Go.bits .xor .u8 (rd l (j : Int)) b)) = val 0#32 l := by
    unfold sum at h
    exact BitVec.eq_of_toNat_eq (by omega)
  have h2 := inv_inj h1
  rw [List.set_eq_take_append_cons_drop, if_pos hj] at h2
  have h3 : l = l.take j ++ rd l (j : Int) :: l.drop (j + 1) := by
    have := drop_rd hj
    rw [← this, List.take_append_drop]
  have h4 : run (inv 0#32) l = run (inv 0#32) (l.take j ++ rd l (j : Int) :: l.drop (j + 1)) := by rw [← h3]
  rw [h4, run_append, run_append] at h2
  generalize run (inv 0#32) (l.take j) = S at h2
  have h5 : stp S (Go.bits .xor .u8 (rd l (j : Int)) b) = stp S (rd l (j : Int)) := run_inj h2
  have h6 := half8_inj h5
  have h7 := congrArg (S ^^^ ·) h6
  simp only [← BitVec.xor_assoc, BitVec.xor_self, BitVec.zero_xor] at h7
  refine xor8_ne (byte_to (hl (rd l (j : Int)) ?_)) hb h0 h7
  unfold rd
  rw [Int.toNat_natCast, List.getD_eq_getElem?_getD, List.getElem?_eq_getElem hj]
  exact List.getElem_mem hj
theorem xor_byte {x b : Int} (hx : Byte x) (hb : (Lit.int .u8 b).wf = true) (h0 : b ≠ 0) : Byte (Go.bits .xor .u8 x b) ∧ Go.bits .xor .u8 x b ≠ x := by
  constructor
  · obtain ⟨X, rfl⟩ := wf_byte (byte_to hx)
    obtain ⟨B, rfl⟩ := wf_byte hb
    rw [bits8]
    have := (X ^^^ B).isLt
    unfold Byte
    omega
  · intro h
    exact xor8_ne (byte_to hx) hb h0 (by rw [h])
theorem not_is (a e : Int) (l : List Int) (b : Int) (hd : Bytes l) (hl : l.length ≤ 3000) (hb : (Lit.int .u8 b).wf = true) (h0 : b ≠ 0) (j : Nat) (hj : j < (sect a e l).length) :
    ¬ Is a ((sect a e l).set j (Go.bits .xor .u8 (rd (sect a e l) (j : Int)) b)) := by
  intro hi
  have hc := hi.2.2.1
  have hsl := sect_len a e l
  have hsb := sect_bytes a e hd
  have hbl := body_len a e l
  rw [List.length_set] at hc
  have ej : rd (sect a e l) (j : Int) = (sect a e l)[j] := by unfold rd; simp [List.getD_eq_getElem?_getD, hj]
  by_cases hlt : j < (packL a e l).length
  · have e1 : ((sect a e l).set j (Go.bits .xor .u8 (rd (sect a e l) (j : Int)) b)).drop ((sect a e l).length - 4) = (sect a e l).drop ((sect a e l).length - 4) := by
      rw [List.drop_set, if_pos (by omega)]
    have e2 : ((sect a e l).set j (Go.bits .xor .u8 (rd (sect a e l) (j : Int)) b)).take ((sect a e l).length - 4) = (packL a e l).set j (Go.bits .xor .u8 (rd (packL a e l) (j : Int)) b) := by
      rw [List.take_set, sect_take]
      congr 2
      rw [ej]
      unfold rd
      simp only [sect, List.getElem_append_left hlt]
      simp [List.getD_eq_getElem?_getD, hlt]
    rw [e1, e2, sect_drop, nbr_four (sum_range _).1 (sum_range _).2] at hc
    exact sum_ne (packL a e l) (bytes_append (four_bytes _) (bytes_append (four_bytes _) hd)) b hb h0 j hlt hc.symm
  · have e2 : ((sect a e l).set j (Go.bits .xor .u8 (rd (sect a e l) (j : Int)) b)).take ((sect a e l).length - 4) = packL a e l := by
      rw [List.take_set, List.set_eq_of_length_le (by simp; omega), sect_take]
    have e1 : ((sect a e l).set j (Go.bits .xor .u8 (rd (sect a e l) (j : Int)) b)).drop ((sect a e l).length - 4) = (fourL (sum (packL a e l))).set (j - ((sect a e l).length - 4)) (Go.bits .xor .u8 (rd (sect a e l) (j : Int)) b) := by
      rw [List.drop_set, if_neg (by omega), sect_drop]
    rw [e1, e2] at hc
    have hx := xor_byte (hsb _ (List.getElem_mem hj)) hb h0
    rw [ej] at hc
    have hfb : Bytes ((fourL (sum (packL a e l))).set (j - ((sect a e l).length - 4)) (Go.bits .xor .u8 (sect a e l)[j] b)) := by
      intro x hxm
      rcases List.mem_or_eq_of_mem_set hxm with h | h
      · exact four_bytes _ x h
      · rw [h]; exact hx.1
    have h2 : nbr ((fourL (sum (packL a e l))).set (j - ((sect a e l).length - 4)) (Go.bits .xor .u8 (sect a e l)[j] b)) = nbr (fourL (sum (packL a e l))) := by
      rw [hc, nbr_four (sum_range _).1 (sum_range _).2]
    have h3 := nbr_inj (by rw [List.length_set, four_len]) (four_len _) hfb (four_bytes _) h2
    have hk : j - ((sect a e l).length - 4) < (fourL (sum (packL a e l))).length := by rw [four_len]; omega
    have h4 : ((fourL (sum (packL a e l))).set (j - ((sect a e l).length - 4)) (Go.bits .xor .u8 (sect a e l)[j] b))[j - ((sect a e l).length - 4)]'(by rw [List.length_set]; exact hk) = (fourL (sum (packL a e l)))[j - ((sect a e l).length - 4)] := by
      simp only [h3]
    rw [List.getElem_set_self] at h4
    refine hx.2 (h4.trans ?_)
    have h5 : (sect a e l)[j] = ((sect a e l).drop ((sect a e l).length - 4))[j - ((sect a e l).length - 4)]'(by rw [List.length_drop]; omega) := by
      rw [List.getElem_drop]
      congr 1
      omega
    rw [h5]
    simp only [sect_drop]
theorem tell (a e : Int) (l : List Int) (b : Int) (hd : Bytes l) (hl : l.length ≤ 3000) (hb : (Lit.int .u8 b).wf = true) (h0 : b ≠ 0) (m : Int) (hm0 : 0 ≤ m) (hm : m < (sect a e l).length) :
    Ev (fun k => (some (([] : List Int) : List Int)).bind fun y263 => (if y263.length + (sect a e l).length < 140737488355328 then ((some (y263 ++ (sect a e l) : List Int)).bind fun y266 => (if 0 ≤ m then (if m < (y266.length : Int) then ((PAll.sector_Unpack.f k a (y266.set (m : Int).toNat (Go.bits .xor .u8 (rd y266 m) b))).bind fun bt271 => (if true = true then (some (bt271.2.2 == 110)) else (some false))) else (none)) else (none))) else (none))) true := by
  have hsl := sect_len a e l
  obtain ⟨j, rfl⟩ := Int.eq_ofNat_of_zero_le hm0
  refine ev_some (ev_pos (by simp; omega) (ev_some ?_))
  rw [List.nil_append, Int.toNat_natCast]
  have hj : j < (sect a e l).length := by omega
  have hsb := sect_bytes a e hd
  have ej : rd (sect a e l) (j : Int) = (sect a e l)[j] := by unfold rd; simp [List.getD_eq_getElem?_getD, hj]
  have hyb : Bytes ((sect a e l).set j (Go.bits .xor .u8 (rd (sect a e l) (j : Int)) b)) := by
    intro x hx
    rcases List.mem_or_eq_of_mem_set hx with h | h
    · exact hsb x h
    · rw [h, ej]; exact (xor_byte (hsb _ (List.getElem_mem hj)) hb h0).1
  refine ev_pos hm0 (ev_pos hm (Ev.bind (unpack a _ hyb (by rw [List.length_set]; omega)) (ev_pos rfl (ev_eq (Ev.now _) ?_))))
  unfold unpackM
  rw [if_neg (not_is a e l b hd hl hb h0 j hj)]
  rfl

theorem SectorTells : aumbrylaw11_SectorTells.Pure := by
  intro a e l n by_ w0 w1 w2 w3 w4 w5 w6
  apply Ev.rounds
  unfold aumbrylaw11_SectorTells.f
  refine Ev.bind SecA.awake (Ev.bind (pack a e l) ?_)
  have short : ∀ x, Ev (fun k => aumbrylaw11_SectorTells.j0 k a n by_ true x true) true := fun x => ev_succ fun k => by rw [aumbrylaw11_SectorTells.j0, if_pos rfl]
  by_cases hm : May a e l
  · have hpm : packM a e l = (sect a e l, 0) := if_pos hm
    rw [hpm]
    refine ev_pos rfl ?_
    by_cases h1 : (l.length : Int) > 3000
    · exact ev_pos h1 (short _)
    · refine ev_neg h1 ?_
      by_cases hz : by_ = 0
      · exact ev_pos hz (short _)
      · refine ev_neg hz ?_
        have hsl := sect_len a e l
        rw [show (((sect a e l).length : Int) == 0) = false from by rw [hsl, beq_eq_false_iff_ne]; omega]
        have hn : -9223372036854775808 ≤ n ∧ n ≤ 9223372036854775807 := by
          simp [Lit.wf, IntKind.min, IntKind.max, IntKind.signed, IntKind.bits] at w5
          exact w5
        have hd : Bytes l := fun x hx => byte_of (w4 x hx)
        refine Ev.step (fun k => by rw [aumbrylaw11_SectorTells.j0]) (ev_neg (by decide) ?_)
        have tin : ∀ m : Int, 0 ≤ m → 0 ≤ Int.tmod m ((sect a e l).length : Int) ∧ Int.tmod m ((sect a e l).length : Int) < (sect a e l).length := by
          intro m h0
          rw [Int.tmod_eq_emod_of_nonneg h0]
          exact ⟨Int.emod_nonneg _ (by omega), Int.emod_lt_of_pos _ (by omega)⟩
        by_cases h0 : n < 0
        · refine ev_pos h0 (ev_neg (show ¬ ((sect a e l).length : Int) = 0 from by omega) ?_)
          rw [wrap_in (i := n + 1) (by omega) (by omega), wrap_in (i := -(n + 1)) (by omega) (by omega)]
          have := tin (-(n + 1)) (by omega)
          exact tell a e l by_ hd (by omega) w6 hz _ this.1 this.2
        · refine ev_neg h0 (ev_neg (show ¬ ((sect a e l).length : Int) = 0 from by omega) ?_)
          have := tin n (by omega)
          exact tell a e l by_ hd (by omega) w6 hz _ this.1 this.2
  · have hpm : packM a e l = ([], 1) := if_neg hm
    rw [hpm]
    exact ev_neg (by decide) (short _)

end Go.Proofs.Ytlkdhcpiglonjaa.Pure
