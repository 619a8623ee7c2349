/- The difference of two lists' check sums, of one length, is that of their bytes' differences and of noughts: CrcEven, for every input. -/
import Derived.Test.YtamlcdillkohhaaPAllx2
import Derived.Test.YtamlcdillkohhaaCrcA
namespace Go.Proofs.Ytamlcdillkohhaa.Pure
open Go.RowKit Go.Proofs.Ytamlcdillkohhaa.PAll Go.Proofs.YtamlcdillkohhaaW.PrintWords Go.Proofs.YtamlcdillkohhaaW.PrintLast Go.Proofs.Ytamlcdillkohhaa.CrcA
set_option linter.unusedVariables false

theorem zipped (a b : List Int) (n : Nat) (ha : a.length = n) (hb : b.length = n) (hn : n ≤ 2000) (r : Bool) (x5 : Bool) (d : Nat) : ∀ (j : Nat), j + d = n →
    Ev (fun k => aumbrylaw04_CrcEven.l0 k a b x5 (List.zipWith (Go.bits .xor .u8) a b) (n : Int)) r →
    Ev (fun k => aumbrylaw04_CrcEven.l0 k a b x5 ((List.zipWith (Go.bits .xor .u8) a b).take j ++ List.replicate d 0) (j : Int)) r := by
  induction d with
  | zero =>
    intro j h hE
    obtain rfl : j = n := by omega
    rw [List.take_of_length_le (by simp; omega)]
    simpa using hE
  | succ d ih =>
    intro j h hE
    refine Ev.step (f := fun k => aumbrylaw04_CrcEven.l0 k a b x5 ((List.zipWith (Go.bits .xor .u8) a b).take (j + 1) ++ List.replicate d 0) ((j + 1 : Nat) : Int)) (fun k => ?_) (ih (j + 1) (by omega) hE)
    have hlen : ((List.zipWith (Go.bits .xor .u8) a b).take j ++ List.replicate (d + 1) 0).length = n := by simp; omega
    rw [aumbrylaw04_CrcEven.l0, if_pos (by omega), if_pos (by omega), if_pos (by omega), if_pos (by rw [hlen]; omega), wrap_in (by omega) (by omega)]
    congr 1
    · rw [show ((j : Int)).toNat = j from by omega]
      rw [List.set_append_right _ _ (by simp; omega)]
      have e1 : (List.take j (List.zipWith (bits BinOp.xor IntKind.u8) a b)).length = j := by simp; omega
      rw [e1, Nat.sub_self, List.replicate_succ, List.set_cons_zero]
      rw [List.take_succ_eq_append_getElem (by simp; omega)]
      rw [List.append_assoc]
      congr 1
      rw [List.getElem_zipWith]
      simp only [List.cons_append, List.nil_append]
      congr 1
      unfold rd
      have h1 : j < a.length := by omega
      have h2 : j < b.length := by omega
      simp [List.getD_eq_getElem?_getD, h1, h2]

theorem CrcEven : aumbrylaw04_CrcEven.Pure := by
  intro l0 l1 h0 h1 h2 h3 h4 h5
  apply Ev.rounds
  unfold aumbrylaw04_CrcEven.f
  refine Ev.bind awake ?_
  have short : Ev (fun k => aumbrylaw04_CrcEven.j0 k l0 l1 true true) true := Ev.step (f := fun _ => some true) (fun k => by rw [aumbrylaw04_CrcEven.j0, if_pos rfl]) (Ev.now _)
  by_cases hl : (l0.length : Int) > 2000
  · exact ev_pos hl short
  · refine ev_neg hl ?_
    by_cases he : l0.length = l1.length
    · rw [show ((l0.length : Int) != (l1.length : Int)) = false from by simp [he]]
      refine Ev.step (fun k => by rw [aumbrylaw04_CrcEven.j0]) ?_
      refine ev_neg (by decide) (ev_pos (by omega) (ev_pos (by omega) ?_))
      rw [show ((l0.length : Int)).toNat = l0.length from by omega]
      have hz := zipped l0 l1 l0.length rfl he.symm (by omega) true true l0.length 0 (by omega)
      simp only [List.take_zero, List.nil_append] at hz
      refine hz ?_
      refine Ev.step (fun k => by rw [aumbrylaw04_CrcEven.l0]) ?_
      refine ev_neg (by omega) (ev_pos (by omega) (ev_pos (by omega) (ev_pos rfl ?_)))
      have hzl : (List.zipWith (Go.bits .xor .u8) l0 l1).length ≤ 4611686018427387904 := by simp; omega
      refine Ev.bind (CrcA.crc_Sum l0 (by omega)) (Ev.bind (CrcA.crc_Sum l1 (by omega)) (Ev.bind (CrcA.crc_Sum _ hzl) (Ev.bind (CrcA.crc_Sum _ (by simp; omega)) ?_)))
      rw [show ((l0.length : Int)).toNat = l0.length from by omega, bits_xor, bits_xor]
      have e : val 0#32 l0 ^^^ val 0#32 l1 = val 0#32 (List.zipWith (Go.bits .xor .u8) l0 l1) ^^^ val 0#32 (List.replicate l0.length 0) := by
        unfold val
        have hr : ∀ x ∈ List.replicate l0.length (0 : Int), (Lit.int .u8 x).wf = true := by
          intro x hx
          obtain rfl := List.eq_of_mem_replicate hx
          decide
        have z1 := run_zip l0 l1 (inv 0#32) (inv 0#32) he h2 h5
        have hzw : ∀ x ∈ List.zipWith (Go.bits .xor .u8) l0 l1, (Lit.int .u8 x).wf = true := by
          intro x hx
          rw [List.mem_iff_getElem] at hx
          obtain ⟨i, hi, rfl⟩ := hx
          rw [List.getElem_zipWith]
          have i0 : i < l0.length := by simp at hi; omega
          have i1 : i < l1.length := by simp at hi; omega
          obtain ⟨A, hA⟩ := wf_byte (h2 (l0[i]'i0) (List.getElem_mem _))
          obtain ⟨B, hB⟩ := wf_byte (h5 (l1[i]'i1) (List.getElem_mem _))
          rw [hA, hB, bits8]
          have := (A ^^^ B).isLt
          simp only [Lit.wf, IntKind.min, IntKind.max, IntKind.signed, IntKind.bits, Bool.and_eq_true, decide_eq_true_eq, Bool.false_eq_true, if_false]
          omega
        have z2 := run_zip (List.zipWith (Go.bits .xor .u8) l0 l1) (List.replicate l0.length 0) (inv 0#32) (inv 0#32) (by simp; omega) hzw hr
        have z3 : List.zipWith (Go.bits .xor .u8) (List.zipWith (Go.bits .xor .u8) l0 l1) (List.replicate l0.length 0) = List.zipWith (Go.bits .xor .u8) l0 l1 := by
          apply List.ext_getElem
          · simp [he]
          · intro i hi hi2
            rw [List.getElem_zipWith, List.getElem_replicate]
            obtain ⟨A, hA⟩ := wf_byte (hzw _ (List.getElem_mem hi2))
            rw [hA]
            have := bits8 A 0#8
            simp only [BitVec.xor_zero] at this
            exact this
        rw [z3] at z2
        have z4 := z1.symm.trans z2
        unfold inv at *
        generalize run (4294967295#32 ^^^ 0#32) l0 = P at *
        generalize run (4294967295#32 ^^^ 0#32) l1 = Q at *
        generalize run (4294967295#32 ^^^ 0#32) (List.zipWith (Go.bits .xor .u8) l0 l1) = R at *
        generalize run (4294967295#32 ^^^ 0#32) (List.replicate l0.length 0) = T at *
        generalize 4294967295#32 = K at *
        have cancel : ∀ U V : BitVec 32, (K ^^^ U) ^^^ (K ^^^ V) = U ^^^ V := by
          intro U V
          rw [show (K ^^^ U) ^^^ (K ^^^ V) = (K ^^^ K) ^^^ (U ^^^ V) from by ac_rfl, BitVec.xor_self, BitVec.zero_xor]
        rw [cancel, cancel, z4]
      rw [e]
      simp only [BEq.rfl]
      exact Ev.now _
    · rw [show ((l0.length : Int) != (l1.length : Int)) = true from by rw [bne_iff_ne]; omega]
      exact short

end Go.Proofs.Ytamlcdillkohhaa.Pure
