/- The bytes of any objects, and the objects that any parts are, are what the document's answer says: RecordSnaps, for all objects and parts. -/
import Derived.Test.YtoeegdpkmdgkdaaPAllx19
import Derived.Test.YtoeegdpkmdgkdaaRecU
namespace Go.Proofs.Ytoeegdpkmdgkdaa.Pure
open Go.RowKit Go.Proofs.Ytoeegdpkmdgkdaa.PAll Go.Proofs.YtoeegdpkmdgkdaaW.PrintWords Go.Proofs.YtoeegdpkmdgkdaaW.PrintLast Go.Proofs.YtoeegdpkmdgkdaaW.PrintMore Go.Proofs.Ytoeegdpkmdgkdaa.RecA Go.Proofs.Ytoeegdpkmdgkdaa.RecB Go.Proofs.Ytoeegdpkmdgkdaa.RecS
set_option linter.unusedVariables false
set_option linter.unusedSimpArgs false
def ok61 (x : S61) : Prop := x.f0.size ≤ maxLen ∧ (Lit.int .i64 x.f1).wf = true ∧ (Lit.int .i64 x.f2).wf = true ∧ (∀ x_f3e ∈ x.f3, (Lit.int .i64 x_f3e).wf = true)
theorem snaps_out (l : List S61) (ps : List (List Int)) : Ev (fun k => aumbrylaw16_RecordSnaps.j0 k l ps true true) true := ev_succ fun k => by rw [aumbrylaw16_RecordSnaps.j0, if_pos rfl]
theorem snaps_in (l : List S61) (ps : List (List Int)) (hs : Small l) (hp : RecS.Parts ps) : Ev (fun k => aumbrylaw16_RecordSnaps.j0 k l ps true false) true := by
  refine Ev.step (fun k => by rw [aumbrylaw16_RecordSnaps.j0]) (ev_neg (by decide) ?_)
  refine Ev.bind (snap l hs) (Ev.bind (qsnap l hs) (Ev.bind (unsnap ps hp) (Ev.bind (qunsnap ps hp) ?_)))
  have hc : (snapM l).1.length ≤ 1000000 ∧ ∀ p ∈ (snapM l).1, p.length ≤ 1000000 := by
    unfold snapM
    by_cases h : mayB l = true
    · rw [if_pos h]
      exact ⟨(cut_lens _).1, fun p hq => Nat.le_trans ((cut_lens _).2 p hq) (by decide)⟩
    · rw [if_neg h]
      exact ⟨by simp, fun p hq => absurd hq (by simp)⟩
  refine Ev.bind (parts _ hc.1 hc.2) (Ev.bind (objects _ (uns_small ps hp)) ?_)
  refine ev_pos rfl (ev_pos rfl (ev_pos rfl (ev_pos rfl (ev_eq (Ev.now _) ?_))))
  exact beq_self_eq_true _

theorem RecordSnaps : ∀ (l0 : (List S61)) (l1 : (List (List Int))), ((∀ l0e ∈ l0, ok61 l0e)) → ((∀ l1e ∈ l1, (∀ l1ee ∈ l1e, (Lit.int .u8 l1ee).wf = true))) → ∃ k, aumbrylaw16_RecordSnaps.f k l0 l1 = some true := by
  intro l ps _ hb
  show ∃ k, (fun k => aumbrylaw16_RecordSnaps.f k l ps) k = some true
  refine Ev.rounds ?_
  unfold aumbrylaw16_RecordSnaps.f
  rw [awake]
  refine ev_some ?_
  obtain ⟨b1, e1, f1⟩ := little l
  refine Ev.bind e1 ?_
  cases b1 with
  | false => exact ev_neg (by decide) (snaps_out _ _)
  | true =>
    refine ev_pos rfl ?_
    obtain ⟨b2, e2, f2⟩ := short ps
    refine Ev.bind e2 ?_
    cases b2 with
    | false => exact snaps_out _ _
    | true => exact snaps_in l ps (f1 rfl) (parts_of (f2 rfl) hb)

end Go.Proofs.Ytoeegdpkmdgkdaa.Pure
