/- The row of the law RecordSnapsBack, out of its statement over numbers and lists (Pure) and the contract of its Go function. No condition beside the row's. -/
import Derived.Test.YtoeegdpkmdgkdaaRows
import Derived.Test.YtoeegdpkmdgkdaaPAllx19
import Derived.Test.YtoeegdpkmdgkdaaPureRecordSnapsBack
import Derived.Test.YtoeegdpkmdgkdaaOpen
import Derived.WalkKit
import Derived.ProofKit
import Derived.OpenShut
import Derived.ShutString
import Derived.ChangeOld
import Derived.Below
import Derived.SizedLaws
namespace Go.Proofs.Ytoeegdpkmdgkdaa.recordSnapsBack
open Go.ChangeShapes Go.WideShapes Go.ChangeAt Go.RowKit Go.Proofs.Ytoeegdpkmdgkdaa.Open Go.Proofs.Ytoeegdpkmdgkdaa.PAll Go.Proofs.YtoeegdpkmdgkdaaW.PrintWords Go.Proofs.YtoeegdpkmdgkdaaW.PrintLast Go.Proofs.Ytoeegdpkmdgkdaa.Pure
set_option linter.unusedVariables false
theorem own : ownKnob Try.prog.godebug = none := by kernel_rfl
theorem laidOut : laidOutB Try.prog = true := by kernel_rfl
theorem list_of4 {α : Type} {l : List α} {a0 a1 a2 a3 : α} (hl : l.length = 4) (h0 : l[0]? = some a0) (h1 : l[1]? = some a1) (h2 : l[2]? = some a2) (h3 : l[3]? = some a3) : l = [a0, a1, a2, a3] := by
  match l, hl with
  | [_, _, _, _], _ => simp_all
theorem opens_T61 {H : Type} {enc : TypeId × Value → H} {w : World} {base : Nat} {spare : Nat → Bool} {held : Bool} : Opens enc Try.prog w base spare held 61 k61 ok61 := by
  intro fuel cs x h
  obtain ⟨hl, n, hf⟩ := fields_of Try.underlying61 (by kernel_rfl) (by kernel_rfl) h
  obtain ⟨v0, a0, e0, g0, w0⟩ := field_at (j := 0) _ rfl rfl (opens_string Try.underlying9) hf
  obtain ⟨v1, a1, e1, g1, w1⟩ := field_at (j := 1) _ rfl rfl (opens_int Try.underlying3) hf
  obtain ⟨v2, a2, e2, g2, w2⟩ := field_at (j := 2) _ rfl rfl (opens_int Try.underlying3) hf
  obtain ⟨v3, a3, e3, g3, w3⟩ := field_at (j := 3) _ rfl rfl (opens_slice Try.underlying23 (by kernel_rfl) (opens_int Try.underlying3) (0 : Int)) hf
  obtain rfl := list_of4 hl e0 e1 e2 e3
  exact ⟨⟨a0, a1, a2, a3⟩, ⟨[v0], [v1, v2, v3], rfl, g0, ⟨[v1], [v2, v3], rfl, g1, ⟨[v2], [v3], rfl, g2, g3⟩⟩⟩, ⟨w0, w1, w2, w3⟩⟩
set_option maxRecDepth 100000 in
theorem lifted (os : Os) (started : os.Started) (H : Type) (enc : TypeId × Value → H) :
    ReturnsInHanded {} Try.checked os 7 .any (Rows.recordSnapsBackSpec.pre6 enc Try.prog Try.f7 Rows.recordSnapsBackRow.domain false) (Rows.recordSnapsBackSpec.post enc Try.prog Try.f7 false true false false) := by
  refine returnsInHanded_of_change_sized (C := Try.checked) own started (by kernel_rfl) Try.func7
    (ChangeSpec.witness6 (enc := enc) (C := Try.checked) false ⟨#[], #[.slice none 0 0, .slice none 0 0], []⟩ 8 (by kernel_rfl) (by kernel_rfl) (by kernel_rfl) (by kernel_rfl)) ?_
  intro W base args ds gs before hval0 hW hcnd hsz0 _
  have hval : ∀ (j : Nat) t v, Try.f7.params[j]? = some t → args[j]? = some v → Value.okWide Try.prog W .any base t v := hval0
  have hW' := hW
  obtain ⟨p, q, hA0, hV, rfl, hfz, hnd⟩ := hW
  have hA : DataW.TrodAll enc Try.prog W 0 (fun _ => true) true Try.f7.params.toList args.toList ds p := hA0
  rw [Try.params7] at hA hval
  obtain ⟨v0, vs0, d0, ds0, p0, q0, hargs, rfl, rfl, h0, r0⟩ := trodAll_cons hA
  obtain ⟨v1, vs1, d1, ds1, p1, q1, rfl, rfl, rfl, h1, r1⟩ := trodAll_cons r0
  obtain ⟨rfl, rfl, rfl⟩ := trodAll_nil r1
  obtain rfl : args = #[v0, v1] := by cases args; simp_all
  obtain ⟨rfl, rfl⟩ := trodVars_none hV
  have k0 := h0
  have lt0 : ∀ x ∈ p0, x.block < W.heap.size := by obtain ⟨m, hm⟩ := k0; exact DataW.trod_lt m _ _ _ hm
  obtain ⟨s0, len0, cap0, rfl⟩ := okWide_slice Try.underlying37 (hval 0 37 v0 rfl rfl)
  obtain ⟨fuel0, hf0⟩ := h0
  obtain ⟨l0, ⟨A0, c0, e0, hc0, hr0⟩, w0⟩ := (opens_slice Try.underlying37 (by kernel_rfl) opens_T61 z61) _ _ _ hf0
  simp [Value.cells] at e0
  obtain ⟨rfl, rfl, rfl⟩ := e0
  have k1 := h1
  have lt1 : ∀ x ∈ p1, x.block < W.heap.size := by obtain ⟨m, hm⟩ := k1; exact DataW.trod_lt m _ _ _ hm
  obtain ⟨s1, len1, cap1, rfl⟩ := okWide_slice Try.underlying38 (hval 1 38 v1 rfl rfl)
  obtain ⟨fuel1, hf1⟩ := h1
  obtain ⟨l1, ⟨A1, c1, e1, hc1, hr1⟩, w1⟩ := (opens_slice Try.underlying38 (by kernel_rfl) (opens_slice Try.underlying26 (by kernel_rfl) (opens_int Try.underlying5) (0 : Int)) ([] : List Int)) _ _ _ hf1
  simp [Value.cells] at e1
  obtain ⟨rfl, rfl, rfl⟩ := e1
  clear hA0 hval0 hsz0
  obtain ⟨k, h⟩ := Pure.RecordSnapsBack l0 l1 w0 w1
  refine (aumbrylaw16_RecordSnapsBack.calls k _ _ l0 _ _ l1 true ⟨rfl⟩ W hr0 hc0 hr1 hc1 h).mono fun e W' ⟨he, bel0⟩ => ?_
  have bel : Below W.heap.size W W' := bel0
  subst he
  exact ⟨_, rfl, _, _, _, [], _, [], hW', trodAll_mk1 (shut_bool Try.underlying4 _), (trodAll_cons_mk (Below.trod laidOut (by kernel_rfl) (of_decide_eq_true (by kernel_rfl)) k0 bel lt0) (trodAll_cons_mk (Below.trod laidOut (by kernel_rfl) (of_decide_eq_true (by kernel_rfl)) k1 bel lt1) trodAll_mk0)), rfl, bel.frame _, fun h => by cases h⟩
theorem over : Rows.recordSnapsBackRow.holds Try.pinned (OpenSpec.ofChange Rows.recordSnapsBackSpec) :=
  OpenClaim.holds_of_wide 7 Try.f7 rfl rfl rfl rfl rfl rfl rfl ⟨rfl, rfl, rfl, rfl, rfl⟩ rfl rfl rfl rfl rfl (by kernel_rfl) Try.func7 (by kernel_rfl)
    (of_decide_eq_true (by kernel_rfl)) (by unfold Func.isWrapper; first | (rw [if_pos (by decide +kernel)]; kernel_rfl) | (rw [if_neg (by decide +kernel)]; exact ⟨rfl, rfl⟩))
    (fun os started H enc _ => lifted os started H enc)
end Go.Proofs.Ytoeegdpkmdgkdaa.recordSnapsBack
namespace Go.Proofs.Ytoeegdpkmdgkdaa
theorem recordSnapsBack_holds : Rows.RecordSnapsBackSaid := recordSnapsBack.over
#print axioms recordSnapsBack_holds
end Go.Proofs.Ytoeegdpkmdgkdaa
