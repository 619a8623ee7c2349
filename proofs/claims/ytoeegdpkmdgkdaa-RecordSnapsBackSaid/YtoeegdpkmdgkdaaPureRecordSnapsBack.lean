/- Objects that may be are told by their parts as themselves, parts that are objects are theirs, and parts are no longer than sectors: RecordSnapsBack, for all objects and parts. -/
import Derived.Test.YtoeegdpkmdgkdaaPAllx19
import Derived.Test.YtoeegdpkmdgkdaaRecT
namespace Go.Proofs.Ytoeegdpkmdgkdaa.Pure
open Go.RowKit Go.Proofs.Ytoeegdpkmdgkdaa.PAll Go.Proofs.YtoeegdpkmdgkdaaW.PrintWords Go.Proofs.YtoeegdpkmdgkdaaW.PrintLast Go.Proofs.YtoeegdpkmdgkdaaW.PrintMore Go.Proofs.Ytoeegdpkmdgkdaa.RecA Go.Proofs.Ytoeegdpkmdgkdaa.RecB Go.Proofs.Ytoeegdpkmdgkdaa.RecS
set_option linter.unusedVariables false
set_option linter.unusedSimpArgs false
def ok61 (x : S61) : Prop := x.f0.size ≤ maxLen ∧ (Lit.int .i64 x.f1).wf = true ∧ (Lit.int .i64 x.f2).wf = true ∧ (∀ x_f3e ∈ x.f3, (Lit.int .i64 x_f3e).wf = true)
theorem back_out (l : List S61) (ps : List (List Int)) : Ev (fun k => aumbrylaw16_RecordSnapsBack.j0 k l ps true true) true := ev_succ fun k => by rw [aumbrylaw16_RecordSnapsBack.j0, if_pos rfl]
theorem back_j2 (ps : List (List Int)) (hp : RecS.Parts ps) : Ev (fun k => aumbrylaw16_RecordSnapsBack.j2 k ps true) true := by
  refine Ev.step (fun k => by rw [aumbrylaw16_RecordSnapsBack.j2]) (Ev.bind (unsnap ps hp) ?_)
  by_cases h : (unsM ps).2 = 0
  · obtain ⟨h1, h2⟩ := snap_uns hp h
    refine ev_pos h (Ev.bind (snap _ (uns_small ps hp)) ?_)
    have e : snapM (unsM ps).1 = (ps, 0) := by
      unfold snapM
      rw [if_pos h1, h2]
    rw [e]
    refine Ev.bind (parts ps (by have := hp.1; omega) (fun p hq => by have := (hp.2 p hq).1; omega)) ?_
    exact ev_pos rfl (ev_pos rfl (Ev.now _))
  · refine ev_neg h (ev_pos rfl (ev_eq (Ev.now _) ?_))
    rw [uns_bad h]
    rfl
theorem back_in (l : List S61) (ps : List (List Int)) (hs : Small l) (hp : RecS.Parts ps) : Ev (fun k => aumbrylaw16_RecordSnapsBack.j0 k l ps true false) true := by
  refine Ev.step (fun k => by rw [aumbrylaw16_RecordSnapsBack.j0]) (ev_neg (by decide) (Ev.bind (snap l hs) ?_))
  unfold snapM
  by_cases h : mayB l = true
  · rw [if_pos h]
    refine ev_pos rfl (Ev.bind (unsnap _ (cut_parts h)) ?_)
    dsimp only
    rw [uns_snap h]
    have hc := cut_lens (body l)
    refine Ev.bind (objects l hs) (ev_pos rfl (ev_pos rfl (ev_pos rfl (ev_pos (show (0 : Int) < ((2 : Nat) : Int) by decide) ?_))))
    have h0 : (rd_L2 (cutB (body l)) 0).length ≤ 4096 := hc.2 _ (rd_memL (j := 0) (by simp [cutB]))
    have h1 : (rd_L2 (cutB (body l)) 1).length ≤ 4096 := hc.2 _ (rd_memL (j := 1) (by simp [cutB]))
    refine ev_neg (by omega) (ev_pos (show (1 : Int) < ((2 : Nat) : Int) by decide) ?_)
    rw [decide_eq_false (by omega)]
    refine Ev.step (fun k => by rw [aumbrylaw16_RecordSnapsBack.j1]) (ev_neg (by decide) (back_j2 ps hp))
  · rw [if_neg h]
    exact ev_neg (by decide) (back_j2 ps hp)

theorem RecordSnapsBack : ∀ (l0 : (List S61)) (l1 : (List (List Int))), ((∀ l0e ∈ l0, ok61 l0e)) → ((∀ l1e ∈ l1, (∀ l1ee ∈ l1e, (Lit.int .u8 l1ee).wf = true))) → ∃ k, aumbrylaw16_RecordSnapsBack.f k l0 l1 = some true := by
  intro l ps _ hb
  show ∃ k, (fun k => aumbrylaw16_RecordSnapsBack.f k l ps) k = some true
  refine Ev.rounds ?_
  unfold aumbrylaw16_RecordSnapsBack.f
  rw [awake]
  refine ev_some ?_
  obtain ⟨b1, e1, f1⟩ := little l
  refine Ev.bind e1 ?_
  cases b1 with
  | false => exact ev_neg (by decide) (back_out _ _)
  | true =>
    refine ev_pos rfl ?_
    obtain ⟨b2, e2, f2⟩ := short ps
    refine Ev.bind e2 ?_
    cases b2 with
    | false => exact back_out _ _
    | true => exact back_in l ps (f1 rfl) (parts_of (f2 rfl) hb)

end Go.Proofs.Ytoeegdpkmdgkdaa.Pure
