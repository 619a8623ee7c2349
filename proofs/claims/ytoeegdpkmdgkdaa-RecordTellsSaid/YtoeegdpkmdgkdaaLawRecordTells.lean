/- The row of the law RecordTells, out of its statement over numbers and lists (Pure) and the contract of its Go function. No condition beside the row's. -/
import Derived.Test.YtoeegdpkmdgkdaaRows
import Derived.Test.YtoeegdpkmdgkdaaPAllx13
import Derived.Test.YtoeegdpkmdgkdaaPureRecordTells
import Derived.Test.YtoeegdpkmdgkdaaOpen
import Derived.WalkKit
import Derived.ProofKit
import Derived.OpenShut
import Derived.ShutString
import Derived.ChangeOld
import Derived.Below
import Derived.SizedLaws
namespace Go.Proofs.Ytoeegdpkmdgkdaa.recordTells
open Go.ChangeShapes Go.WideShapes Go.ChangeAt Go.RowKit Go.Proofs.Ytoeegdpkmdgkdaa.Open Go.Proofs.Ytoeegdpkmdgkdaa.PAll Go.Proofs.YtoeegdpkmdgkdaaW.PrintWords Go.Proofs.YtoeegdpkmdgkdaaW.PrintLast Go.Proofs.Ytoeegdpkmdgkdaa.Pure
set_option linter.unusedVariables false
theorem own : ownKnob Try.prog.godebug = none := by kernel_rfl
theorem laidOut : laidOutB Try.prog = true := by kernel_rfl
theorem list_of4 {α : Type} {l : List α} {a0 a1 a2 a3 : α} (hl : l.length = 4) (h0 : l[0]? = some a0) (h1 : l[1]? = some a1) (h2 : l[2]? = some a2) (h3 : l[3]? = some a3) : l = [a0, a1, a2, a3] := by
  match l, hl with
  | [_, _, _, _], _ => simp_all
set_option maxRecDepth 100000 in
theorem lifted (os : Os) (started : os.Started) (H : Type) (enc : TypeId × Value → H) :
    ReturnsInHanded {} Try.checked os 4 .any (Rows.recordTellsSpec.pre6 enc Try.prog Try.f4 Rows.recordTellsRow.domain false) (Rows.recordTellsSpec.post enc Try.prog Try.f4 false true false false) := by
  refine returnsInHanded_of_change_sized (C := Try.checked) own started (by kernel_rfl) Try.func4
    (ChangeSpec.witness6 (enc := enc) (C := Try.checked) false ⟨#[], #[.agg #[.int .i64 0, .string ByteArray.empty, .int .i64 0, .slice none 0 0], .slice none 0 0], []⟩ 8 (by kernel_rfl) (by kernel_rfl) (by kernel_rfl) (by kernel_rfl)) ?_
  intro W base args ds gs before hval0 hW hcnd hsz0 _
  have hval : ∀ (j : Nat) t v, Try.f4.params[j]? = some t → args[j]? = some v → Value.okWide Try.prog W .any base t v := hval0
  have hW' := hW
  obtain ⟨p, q, hA0, hV, rfl, hfz, hnd⟩ := hW
  have hA : DataW.TrodAll enc Try.prog W 0 (fun _ => true) true Try.f4.params.toList args.toList ds p := hA0
  rw [Try.params4] at hA hval
  obtain ⟨v0, vs0, d0, ds0, p0, q0, hargs, rfl, rfl, h0, r0⟩ := trodAll_cons hA
  obtain ⟨v1, vs1, d1, ds1, p1, q1, rfl, rfl, rfl, h1, r1⟩ := trodAll_cons r0
  obtain ⟨rfl, rfl, rfl⟩ := trodAll_nil r1
  obtain rfl : args = #[v0, v1] := by cases args; simp_all
  obtain ⟨rfl, rfl⟩ := trodVars_none hV
  have k0 := h0
  have lt0 : ∀ x ∈ p0, x.block < W.heap.size := by obtain ⟨m, hm⟩ := k0; exact DataW.trod_lt m _ _ _ hm
  obtain ⟨cs0, rfl, hsz0⟩ := okWide_struct Try.underlying25 (hval 0 25 v0 rfl rfl)
  obtain ⟨fuel0, hf0⟩ := h0
  obtain ⟨hl0, n0, hff0⟩ := fields_of Try.underlying25 (by kernel_rfl) (by kernel_rfl) hf0
  obtain ⟨v0_0, x0_0, e0_0, g0_0, w0_0⟩ := field_at (j := 0) _ rfl rfl (opens_int Try.underlying3) hff0
  obtain ⟨v0_1, x0_1, e0_1, g0_1, w0_1⟩ := field_at (j := 1) _ rfl rfl (opens_string Try.underlying9) hff0
  obtain ⟨v0_2, x0_2, e0_2, g0_2, w0_2⟩ := field_at (j := 2) _ rfl rfl (opens_int Try.underlying3) hff0
  obtain ⟨v0_3, x0_3, e0_3, g0_3, w0_3⟩ := field_at (j := 3) _ rfl rfl (opens_slice Try.underlying23 (by kernel_rfl) (opens_int Try.underlying3) (0 : Int)) hff0
  obtain ⟨cl0⟩ := cs0
  have hcl0 : cl0 = [v0_0, v0_1, v0_2, v0_3] := list_of4 (by simpa [Value.cells] using hl0) (by simpa [Value.cells] using e0_0) (by simpa [Value.cells] using e0_1) (by simpa [Value.cells] using e0_2) (by simpa [Value.cells] using e0_3)
  subst hcl0
  obtain rfl : v0_0 = _ := List.head_eq_of_cons_eq g0_0
  obtain rfl : v0_1 = _ := List.head_eq_of_cons_eq g0_1
  obtain rfl : v0_2 = _ := List.head_eq_of_cons_eq g0_2
  obtain ⟨A0_3, c0_3, f0_3, hc0_3, hr0_3⟩ := g0_3
  obtain rfl : v0_3 = _ := List.head_eq_of_cons_eq f0_3
  have k1 := h1
  have lt1 : ∀ x ∈ p1, x.block < W.heap.size := by obtain ⟨m, hm⟩ := k1; exact DataW.trod_lt m _ _ _ hm
  obtain ⟨s1, len1, cap1, rfl⟩ := okWide_slice Try.underlying26 (hval 1 26 v1 rfl rfl)
  obtain ⟨fuel1, hf1⟩ := h1
  obtain ⟨l1, ⟨A1, c1, e1, hc1, hr1⟩, w1⟩ := (opens_slice Try.underlying26 (by kernel_rfl) (opens_int Try.underlying5) (0 : Int)) _ _ _ hf1
  simp [Value.cells] at e1
  obtain ⟨rfl, rfl, rfl⟩ := e1
  clear hA0 hval0 hsz0
  obtain ⟨k, h⟩ := Pure.RecordTells x0_0 x0_1 x0_2 x0_3 l1 w0_0 w0_1 w0_2 w0_3 w1
  refine (aumbrylaw16_RecordTells.calls k x0_0 x0_1 x0_2 _ _ x0_3 _ _ l1 true ⟨rfl⟩ W hr0_3 hc0_3 hr1 hc1 h).mono fun e W' ⟨he, bel0⟩ => ?_
  have bel : Below W.heap.size W W' := bel0
  subst he
  exact ⟨_, rfl, _, _, _, [], _, [], hW', trodAll_mk1 (shut_bool Try.underlying4 _), (trodAll_cons_mk (Below.trod laidOut (by kernel_rfl) (of_decide_eq_true (by kernel_rfl)) k0 bel lt0) (trodAll_cons_mk (Below.trod laidOut (by kernel_rfl) (of_decide_eq_true (by kernel_rfl)) k1 bel lt1) trodAll_mk0)), rfl, bel.frame _, fun h => by cases h⟩
theorem over : Rows.recordTellsRow.holds Try.pinned (OpenSpec.ofChange Rows.recordTellsSpec) :=
  OpenClaim.holds_of_wide 4 Try.f4 rfl rfl rfl rfl rfl rfl rfl ⟨rfl, rfl, rfl, rfl, rfl⟩ rfl rfl rfl rfl rfl (by kernel_rfl) Try.func4 (by kernel_rfl)
    (of_decide_eq_true (by kernel_rfl)) (by unfold Func.isWrapper; first | (rw [if_pos (by decide +kernel)]; kernel_rfl) | (rw [if_neg (by decide +kernel)]; exact ⟨rfl, rfl⟩))
    (fun os started H enc _ => lifted os started H enc)
end Go.Proofs.Ytoeegdpkmdgkdaa.recordTells
namespace Go.Proofs.Ytoeegdpkmdgkdaa
theorem recordTells_holds : Rows.RecordTellsSaid := recordTells.over
#print axioms recordTells_holds
end Go.Proofs.Ytoeegdpkmdgkdaa
