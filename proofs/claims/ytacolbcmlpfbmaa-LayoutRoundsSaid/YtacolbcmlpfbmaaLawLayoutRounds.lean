/- The row of the law LayoutRounds, out of its statement over numbers and lists (Pure) and the contract of its Go function. No condition beside the row's. -/
import Derived.Test.YtacolbcmlpfbmaaRows
import Derived.Test.YtacolbcmlpfbmaaPAllx10
import Derived.Test.YtacolbcmlpfbmaaPureLayoutRounds
import Derived.Test.YtacolbcmlpfbmaaOpen
import Derived.WalkKit
import Derived.ProofKit
import Derived.OpenShut
import Derived.ShutString
import Derived.ChangeOld
import Derived.Below
import Derived.SizedLaws
namespace Go.Proofs.Ytacolbcmlpfbmaa.layoutRounds
open Go.ChangeShapes Go.WideShapes Go.ChangeAt Go.RowKit Go.Proofs.Ytacolbcmlpfbmaa.Open Go.Proofs.Ytacolbcmlpfbmaa.PAll Go.Proofs.YtacolbcmlpfbmaaW.PrintWords Go.Proofs.YtacolbcmlpfbmaaW.PrintLast Go.Proofs.Ytacolbcmlpfbmaa.Pure
set_option linter.unusedVariables false
theorem own : ownKnob Try.prog.godebug = none := by kernel_rfl
theorem laidOut : laidOutB Try.prog = true := by kernel_rfl
theorem list_of6 {α : Type} {l : List α} {a0 a1 a2 a3 a4 a5 : α} (hl : l.length = 6) (h0 : l[0]? = some a0) (h1 : l[1]? = some a1) (h2 : l[2]? = some a2) (h3 : l[3]? = some a3) (h4 : l[4]? = some a4) (h5 : l[5]? = some a5) : l = [a0, a1, a2, a3, a4, a5] := by
  match l, hl with
  | [_, _, _, _, _, _], _ => simp_all
set_option maxRecDepth 100000 in
theorem lifted (os : Os) (started : os.Started) (H : Type) (enc : TypeId × Value → H) :
    ReturnsInHanded {} Try.checked os 8 .any (Rows.layoutRoundsSpec.pre6 enc Try.prog Try.f8 Rows.layoutRoundsRow.domain false) (Rows.layoutRoundsSpec.post enc Try.prog Try.f8 false true false false) := by
  refine returnsInHanded_of_change_sized (C := Try.checked) own started (by kernel_rfl) Try.func8
    (ChangeSpec.witness6 (enc := enc) (C := Try.checked) false ⟨#[], #[.agg #[.int .i64 0, .int .i64 0, .int .i64 0, .int .i64 0, .int .i64 0, .int .i64 0], .int .i64 0, .int .i64 0], []⟩ 8 (by kernel_rfl) (by kernel_rfl) (by kernel_rfl) (by kernel_rfl)) ?_
  intro W base args ds gs before hval0 hW hcnd hsz0 _
  have hval : ∀ (j : Nat) t v, Try.f8.params[j]? = some t → args[j]? = some v → Value.okWide Try.prog W .any base t v := hval0
  have hW' := hW
  obtain ⟨p, q, hA0, hV, rfl, hfz, hnd⟩ := hW
  have hA : DataW.TrodAll enc Try.prog W 0 (fun _ => true) true Try.f8.params.toList args.toList ds p := hA0
  rw [Try.params8] at hA hval
  obtain ⟨v0, vs0, d0, ds0, p0, q0, hargs, rfl, rfl, h0, r0⟩ := trodAll_cons hA
  obtain ⟨v1, vs1, d1, ds1, p1, q1, rfl, rfl, rfl, h1, r1⟩ := trodAll_cons r0
  obtain ⟨v2, vs2, d2, ds2, p2, q2, rfl, rfl, rfl, h2, r2⟩ := trodAll_cons r1
  obtain ⟨rfl, rfl, rfl⟩ := trodAll_nil r2
  obtain rfl : args = #[v0, v1, v2] := by cases args; simp_all
  obtain ⟨rfl, rfl⟩ := trodVars_none hV
  have k0 := h0
  have lt0 : ∀ x ∈ p0, x.block < W.heap.size := by obtain ⟨m, hm⟩ := k0; exact DataW.trod_lt m _ _ _ hm
  obtain ⟨cs0, rfl, hsz0⟩ := okWide_struct Try.underlying24 (hval 0 24 v0 rfl rfl)
  obtain ⟨fuel0, hf0⟩ := h0
  obtain ⟨hl0, n0, hff0⟩ := fields_of Try.underlying24 (by kernel_rfl) (by kernel_rfl) hf0
  obtain ⟨v0_0, x0_0, e0_0, g0_0, w0_0⟩ := field_at (j := 0) _ rfl rfl (opens_int Try.underlying3) hff0
  obtain ⟨v0_1, x0_1, e0_1, g0_1, w0_1⟩ := field_at (j := 1) _ rfl rfl (opens_int Try.underlying3) hff0
  obtain ⟨v0_2, x0_2, e0_2, g0_2, w0_2⟩ := field_at (j := 2) _ rfl rfl (opens_int Try.underlying3) hff0
  obtain ⟨v0_3, x0_3, e0_3, g0_3, w0_3⟩ := field_at (j := 3) _ rfl rfl (opens_int Try.underlying3) hff0
  obtain ⟨v0_4, x0_4, e0_4, g0_4, w0_4⟩ := field_at (j := 4) _ rfl rfl (opens_int Try.underlying3) hff0
  obtain ⟨v0_5, x0_5, e0_5, g0_5, w0_5⟩ := field_at (j := 5) _ rfl rfl (opens_int Try.underlying3) hff0
  obtain ⟨cl0⟩ := cs0
  have hcl0 : cl0 = [v0_0, v0_1, v0_2, v0_3, v0_4, v0_5] := list_of6 (by simpa [Value.cells] using hl0) (by simpa [Value.cells] using e0_0) (by simpa [Value.cells] using e0_1) (by simpa [Value.cells] using e0_2) (by simpa [Value.cells] using e0_3) (by simpa [Value.cells] using e0_4) (by simpa [Value.cells] using e0_5)
  subst hcl0
  obtain rfl : v0_0 = _ := List.head_eq_of_cons_eq g0_0
  obtain rfl : v0_1 = _ := List.head_eq_of_cons_eq g0_1
  obtain rfl : v0_2 = _ := List.head_eq_of_cons_eq g0_2
  obtain rfl : v0_3 = _ := List.head_eq_of_cons_eq g0_3
  obtain rfl : v0_4 = _ := List.head_eq_of_cons_eq g0_4
  obtain rfl : v0_5 = _ := List.head_eq_of_cons_eq g0_5
  obtain ⟨a1, rfl, rfl, rfl, w1⟩ := open_int Try.underlying3 (hval 1 3 v1 rfl rfl) h1
  obtain ⟨a2, rfl, rfl, rfl, w2⟩ := open_int Try.underlying3 (hval 2 3 v2 rfl rfl) h2
  clear hA0 hval0 hsz0
  obtain ⟨k, h⟩ := Pure.LayoutRounds x0_0 x0_1 x0_2 x0_3 x0_4 x0_5 a1 a2 w0_0 w0_1 w0_2 w0_3 w0_4 w0_5 w1 w2
  refine (aumbrylaw14_LayoutRounds.calls k x0_0 x0_1 x0_2 x0_3 x0_4 x0_5 a1 a2 true W h).mono fun e W' ⟨he, bel0⟩ => ?_
  have bel : Below W.heap.size W W' := bel0
  subst he
  exact ⟨_, rfl, _, _, _, [], _, [], hW', trodAll_mk1 (shut_bool Try.underlying4 _), (trodAll_cons_mk (Below.trod laidOut (by kernel_rfl) (of_decide_eq_true (by kernel_rfl)) k0 bel lt0) (trodAll_cons_mk (shut_int Try.underlying3 w1) (trodAll_cons_mk (shut_int Try.underlying3 w2) trodAll_mk0))), rfl, bel.frame _, fun h => by cases h⟩
theorem over : Rows.layoutRoundsRow.holds Try.pinned (OpenSpec.ofChange Rows.layoutRoundsSpec) :=
  OpenClaim.holds_of_wide 8 Try.f8 rfl rfl rfl rfl rfl rfl rfl ⟨rfl, rfl, rfl, rfl, rfl⟩ rfl rfl rfl rfl rfl (by kernel_rfl) Try.func8 (by kernel_rfl)
    (of_decide_eq_true (by kernel_rfl)) (by unfold Func.isWrapper; first | (rw [if_pos (by decide +kernel)]; kernel_rfl) | (rw [if_neg (by decide +kernel)]; exact ⟨rfl, rfl⟩))
    (fun os started H enc _ => lifted os started H enc)
end Go.Proofs.Ytacolbcmlpfbmaa.layoutRounds
namespace Go.Proofs.Ytacolbcmlpfbmaa
theorem layoutRounds_holds : Rows.LayoutRoundsSaid := layoutRounds.over
#print axioms layoutRounds_holds
end Go.Proofs.Ytacolbcmlpfbmaa
