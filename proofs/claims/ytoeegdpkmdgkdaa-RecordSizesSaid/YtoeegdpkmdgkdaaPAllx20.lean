-- LAID BY A PROGRAM OF THIS SESSION (wip/tools: the kit's print with changes of our own)
import Derived.Test.YtoeegdpkmdgkdaaPAllx0
import Derived.Test.YtoeegdpkmdgkdaaPAllx2
import Derived.Test.YtoeegdpkmdgkdaaPAllx4
import Derived.Test.YtoeegdpkmdgkdaaPAllx8
import Derived.Test.YtoeegdpkmdgkdaaPAllx12
namespace Go.Proofs.Ytoeegdpkmdgkdaa.PAll
open Go.RowKit Go.Proofs.YtoeegdpkmdgkdaaW.PrintWords Go.Proofs.YtoeegdpkmdgkdaaW.PrintLast Go.Proofs.YtoeegdpkmdgkdaaW.PrintMore
attribute [local go_sem] max2_int min2_int max_two min_two max_three min_three max_four min_four   -- for this text's walks alone
set_option linter.unusedVariables false
set_option linter.unusedSimpArgs false

/-! ### aumbrylaw16_RecordSizes: function 8 -/
mutual
def aumbrylaw16_RecordSizes.j0 : Nat → Bool → Bool → Int → ByteArray → Int → List Int → Int → ByteArray → Int → List Int → Option (Bool)
  | 0, _, _, _, _, _, _, _, _, _, _ => none
  | k + 1, x5, x20, x494000, x494001, x494002, x494003, x495000, x495001, x495002, x495003 => if x20 = true then (some x5) else ((record_Encode.f k x494000 x494001 x494002 x494003).bind fun bt498 => ((record_Encode.f k x495000 x495001 x495002 x495003).bind fun bt502 => (if bt498.2 = 0 then (aumbrylaw16_RecordSizes.j1 k x5 bt498.1 bt498.2 bt502.1 (bt502.2 != 0) x494000 x494001 x494002 x494003 x495000 x495001 x495002 x495003) else (aumbrylaw16_RecordSizes.j1 k x5 bt498.1 bt498.2 bt502.1 true x494000 x494001 x494002 x494003 x495000 x495001 x495002 x495003))))
def aumbrylaw16_RecordSizes.j1 : Nat → Bool → List Int → Int → List Int → Bool → Int → ByteArray → Int → List Int → Int → ByteArray → Int → List Int → Option (Bool)
  | 0, _, _, _, _, _, _, _, _, _, _, _, _, _ => none
  | k + 1, x5, x6, x7, x8, x37, x494000, x494001, x494002, x494003, x495000, x495001, x495002, x495003 => if x37 = true then (if x5 = true then (if x7 = 0 then (some true) else (some ((x6.length : Int) == 0))) else (some false)) else ((aumbryref02_Same.f k x6 x8).bind fun t506 => ((aumbryref16_Same.f k x494000 x494001 x494002 x494003 x495000 x495001 x495002 x495003).bind fun t507 => (if x5 = true then (if (x6.length : Int) = (wrap64 ((wrap64 (8 + (x494001.size : Int))) + (wrap64 (2 * (x494003.length : Int))))) then (if (x6.length : Int) > 0 then (if 0 < (x6.length : Int) then (if (wrap64 (rd x6 0)) = x494000 then (some (t506 == t507)) else (some false)) else (none)) else (some false)) else (some false)) else (some false))))
end
def aumbrylaw16_RecordSizes.f (k : Nat) (a0_0 : Int) (a0_1 : ByteArray) (a0_2 : Int) (l0_3 : List Int) (a1_0 : Int) (a1_1 : ByteArray) (a1_2 : Int) (l1_3 : List Int) : Option (Bool) := (aumbrylaw16_awake.f).bind fun t495 => ((aumbrylaw16_few.f a0_0 a0_1 a0_2 l0_3).bind fun t496 => (if t496 = true then ((aumbrylaw16_few.f a1_0 a1_1 a1_2 l1_3).bind fun t497 => (aumbrylaw16_RecordSizes.j0 k t495 (!t497) a0_0 a0_1 a0_2 l0_3 a1_0 a1_1 a1_2 l1_3)) else (aumbrylaw16_RecordSizes.j0 k t495 true a0_0 a0_1 a0_2 l0_3 a1_0 a1_1 a1_2 l1_3)))
theorem aumbrylaw16_RecordSizes.mono_l : ∀ k, (∀ y0 y1 y2 y3 y4 y5 y6 y7 y8 y9, LeO (aumbrylaw16_RecordSizes.j0 k y0 y1 y2 y3 y4 y5 y6 y7 y8 y9) (aumbrylaw16_RecordSizes.j0 (k + 1) y0 y1 y2 y3 y4 y5 y6 y7 y8 y9)) ∧ (∀ y0 y1 y2 y3 y4 y5 y6 y7 y8 y9 y10 y11 y12, LeO (aumbrylaw16_RecordSizes.j1 k y0 y1 y2 y3 y4 y5 y6 y7 y8 y9 y10 y11 y12) (aumbrylaw16_RecordSizes.j1 (k + 1) y0 y1 y2 y3 y4 y5 y6 y7 y8 y9 y10 y11 y12))
  | 0 => ⟨fun _ _ _ _ _ _ _ _ _ _ r h => by simp [aumbrylaw16_RecordSizes.j0] at h, fun _ _ _ _ _ _ _ _ _ _ _ _ _ r h => by simp [aumbrylaw16_RecordSizes.j1] at h⟩
  | k + 1 => by
    obtain ⟨ih0, ih1⟩ := aumbrylaw16_RecordSizes.mono_l k
    refine ⟨?_, ?_⟩
    · intro y0 y1 y2 y3 y4 y5 y6 y7 y8 y9
      unfold aumbrylaw16_RecordSizes.j0
      repeat' first
      | (with_reducible exact ih0 _ _ _ _ _ _ _ _ _ _)
      | (with_reducible exact ih1 _ _ _ _ _ _ _ _ _ _ _ _ _)
      | (with_reducible exact aumbryref02_Same.mono _ _ _)
      | (with_reducible exact aumbryref16_Same.mono _ _ _ _ _ _ _ _ _)
      | (with_reducible exact record_Encode.mono _ _ _ _ _)
      | (with_reducible exact LeO.refl _)
      | (with_reducible exact LeO.none _)
      | (with_reducible refine LeO.ite ?_ ?_)
      | (with_reducible refine LeO.bind ?_ (fun _ => ?_))
      | exact ih0 _ _ _ _ _ _ _ _ _ _
      | exact ih1 _ _ _ _ _ _ _ _ _ _ _ _ _
      | exact aumbryref02_Same.mono _ _ _
      | exact aumbryref16_Same.mono _ _ _ _ _ _ _ _ _
      | exact record_Encode.mono _ _ _ _ _
      | exact LeO.none _
      | refine LeO.ite ?_ ?_
      | refine LeO.bind ?_ (fun _ => ?_)
    · intro y0 y1 y2 y3 y4 y5 y6 y7 y8 y9 y10 y11 y12
      unfold aumbrylaw16_RecordSizes.j1
      repeat' first
      | (with_reducible exact ih0 _ _ _ _ _ _ _ _ _ _)
      | (with_reducible exact ih1 _ _ _ _ _ _ _ _ _ _ _ _ _)
      | (with_reducible exact aumbryref02_Same.mono _ _ _)
      | (with_reducible exact aumbryref16_Same.mono _ _ _ _ _ _ _ _ _)
      | (with_reducible exact record_Encode.mono _ _ _ _ _)
      | (with_reducible exact LeO.refl _)
      | (with_reducible exact LeO.none _)
      | (with_reducible refine LeO.ite ?_ ?_)
      | (with_reducible refine LeO.bind ?_ (fun _ => ?_))
      | exact ih0 _ _ _ _ _ _ _ _ _ _
      | exact ih1 _ _ _ _ _ _ _ _ _ _ _ _ _
      | exact aumbryref02_Same.mono _ _ _
      | exact aumbryref16_Same.mono _ _ _ _ _ _ _ _ _
      | exact record_Encode.mono _ _ _ _ _
      | exact LeO.none _
      | refine LeO.ite ?_ ?_
      | refine LeO.bind ?_ (fun _ => ?_)
theorem aumbrylaw16_RecordSizes.mono : ∀ a0 a1 a2 a3 a4 a5 a6 a7 k, LeO (aumbrylaw16_RecordSizes.f k a0 a1 a2 a3 a4 a5 a6 a7) (aumbrylaw16_RecordSizes.f (k + 1) a0 a1 a2 a3 a4 a5 a6 a7) := by
  intro a0 a1 a2 a3 a4 a5 a6 a7 k
  obtain ⟨ih0, ih1⟩ := aumbrylaw16_RecordSizes.mono_l k
  unfold aumbrylaw16_RecordSizes.f
  repeat' first
      | (with_reducible exact ih0 _ _ _ _ _ _ _ _ _ _)
      | (with_reducible exact ih1 _ _ _ _ _ _ _ _ _ _ _ _ _)
      | (with_reducible exact aumbryref02_Same.mono _ _ _)
      | (with_reducible exact aumbryref16_Same.mono _ _ _ _ _ _ _ _ _)
      | (with_reducible exact record_Encode.mono _ _ _ _ _)
      | (with_reducible exact LeO.refl _)
      | (with_reducible exact LeO.none _)
      | (with_reducible refine LeO.ite ?_ ?_)
      | (with_reducible refine LeO.bind ?_ (fun _ => ?_))
      | exact ih0 _ _ _ _ _ _ _ _ _ _
      | exact ih1 _ _ _ _ _ _ _ _ _ _ _ _ _
      | exact aumbryref02_Same.mono _ _ _
      | exact aumbryref16_Same.mono _ _ _ _ _ _ _ _ _
      | exact record_Encode.mono _ _ _ _ _
      | exact LeO.none _
      | refine LeO.ite ?_ ?_
      | refine LeO.bind ?_ (fun _ => ?_)
set_option maxHeartbeats 8000000 in
set_option maxRecDepth 100000 in
theorem aumbrylaw16_RecordSizes.calls (k : Nat) (a0_0 : Int) (a0_1 : ByteArray) (a0_2 : Int) (A0_3 : Option Addr) (c0_3 : Nat) (l0_3 : List Int) (a1_0 : Int) (a1_1 : ByteArray) (a1_2 : Int) (A1_3 : Option Addr) (c1_3 : Nat) (l1_3 : List Int) (r : Bool) (hrt : Aside0 (r = true)) (w : World) (hr0_3 : Kd.C (Kd.int .i64) w A0_3 l0_3.length l0_3) (hc0_3 : l0_3.length ≤ c0_3) (hr1_3 : Kd.C (Kd.int .i64) w A1_3 l1_3.length l1_3) (hc1_3 : l1_3.length ≤ c1_3) (h : aumbrylaw16_RecordSizes.f k a0_0 a0_1 a0_2 l0_3 a1_0 a1_1 a1_2 l1_3 = some r) :
    Calls Try.prog 8 #[.agg #[.int .i64 a0_0, .string a0_1, .int .i64 a0_2, .slice A0_3 l0_3.length c0_3], .agg #[.int .i64 a1_0, .string a1_1, .int .i64 a1_2, .slice A1_3 l1_3.length c1_3]] w fun e w' => e = .returned (.bool r) ∧ Below w.heap.size w w' := by
  have hu25 := Try.underlying25
  have HR0_3 := Aside0.mk hr0_3
  have HC0_3 := Aside0.mk hc0_3
  clear hr0_3 hc0_3
  have HR1_3 := Aside0.mk hr1_3
  have HC1_3 := Aside0.mk hc1_3
  clear hr1_3 hc1_3
  have HB := Aside0.mk (Below.refl w.heap.size w)
  have H : ((aumbrylaw16_awake.f).bind fun t495 => ((aumbrylaw16_few.f a0_0 a0_1 a0_2 l0_3).bind fun t496 => (if t496 = true then ((aumbrylaw16_few.f a1_0 a1_1 a1_2 l1_3).bind fun t497 => (aumbrylaw16_RecordSizes.j0 k t495 (!t497) a0_0 a0_1 a0_2 l0_3 a1_0 a1_1 a1_2 l1_3)) else (aumbrylaw16_RecordSizes.j0 k t495 true a0_0 a0_1 a0_2 l0_3 a1_0 a1_1 a1_2 l1_3)))) = some r := h
  clear h
  replace H := Option.bind_eq_some_iff.mp H
  obtain ⟨t495, A30, H⟩ := H
  replace H : ((aumbrylaw16_few.f a0_0 a0_1 a0_2 l0_3).bind fun t496 => (if t496 = true then ((aumbrylaw16_few.f a1_0 a1_1 a1_2 l1_3).bind fun t497 => (aumbrylaw16_RecordSizes.j0 k t495 (!t497) a0_0 a0_1 a0_2 l0_3 a1_0 a1_1 a1_2 l1_3)) else (aumbrylaw16_RecordSizes.j0 k t495 true a0_0 a0_1 a0_2 l0_3 a1_0 a1_1 a1_2 l1_3))) = some r := H
  have A3 := Aside0.mk A30
  clear A30
  have HC4 := Aside0.mk H
  clear H
  go_enter Try.func8, Try.ntmps8
  go_upto_region 2 with (first | ((with_reducible refine gate_dst (N := 2) rfl ?_); (try (refine gate_guard (by rfl) ?_; dsimp only)); refine box_event ?hg (N := 2) ?hd (cs := #[.int .i64 a0_0, .string a0_1, .int .i64 a0_2, .slice A0_3 l0_3.length c0_3]) (t := 25) ?hr ?_; (case hd => rfl); (case hg => rfl); (case hr => first | (go_simp; done) | (go_simp; rfl)); intro gb493 hg w5 hbox hb; have n0_ := Aside0.mk (below_step (by repeat (first | (with_reducible first | exact HB.out | apply below_alloc | apply pw_below_drewN | apply below_drew1) | exact HB.out)) hb); have n1_ := Aside0.mk (hbox); have n2_ := Aside0.mk ((by rw [hg]; exact (below_size (by repeat (first | (with_reducible first | exact HB.out | apply below_alloc | apply pw_below_drewN | apply below_drew1) | exact HB.out))) : w.heap.size ≤ gb493)); have n3_ := Aside0.mk ((by rw [hg]; exact (below_size (by repeat (first | (with_reducible first | exact HB.out | apply below_alloc | apply pw_below_drewN | apply below_drew1) | exact HB.out))) : w.heap.size ≤ gb493)); clear HB; have HB := n0_; have BK493 := n1_; have GW493 := n2_; have GE493 := n3_; clear n0_ n1_ n2_ n3_; clear hb hbox hg) | ((with_reducible refine gate_dst (N := 3) rfl ?_); (try (refine gate_guard (by rfl) ?_; dsimp only)); refine box_event ?hg (N := 3) ?hd (cs := #[.int .i64 a1_0, .string a1_1, .int .i64 a1_2, .slice A1_3 l1_3.length c1_3]) (t := 25) ?hr ?_; (case hd => rfl); (case hg => rfl); (case hr => first | (go_simp; done) | (go_simp; rfl)); intro gb494 hg w6 hbox hb; have n0_ := Aside0.mk (blk_below (g := gb493) (o := .cells #[.int .i64 a0_0, .string a0_1, .int .i64 a0_2, .slice A0_3 l0_3.length c0_3] 25 (0, 0)) (by (with_reducible repeat (first | refine blk_drewN ?_ _ | refine blk_drew ?_ | refine blk_alloc ?_ _)); exact BK493.out) hb); have n1_ := Aside0.mk (below_step (by repeat (first | (with_reducible first | exact HB.out | apply below_alloc | apply pw_below_drewN | apply below_drew1 | refine below_set ?_ GE493.out) | exact HB.out)) hb); have n2_ := Aside0.mk (hbox); have n3_ := Aside0.mk ((by rw [hg]; exact (below_size (by repeat (first | (with_reducible first | exact HB.out | apply below_alloc | apply pw_below_drewN | apply below_drew1 | refine below_set ?_ GE493.out) | exact HB.out))) : w.heap.size ≤ gb494)); have n4_ := Aside0.mk ((by rw [hg]; exact (below_size (by repeat (first | (with_reducible first | exact HB.out | apply below_alloc | apply pw_below_drewN | apply below_drew1 | refine below_set ?_ GE493.out) | exact HB.out))) : w.heap.size ≤ gb494)); have n5_ := Aside0.mk ((by rw [hg]; exact Nat.ne_of_lt (blk_lt (g := gb493) (o := .cells #[.int .i64 a0_0, .string a0_1, .int .i64 a0_2, .slice A0_3 l0_3.length c0_3] 25 (0, 0)) (by (with_reducible repeat (first | refine blk_drewN ?_ _ | refine blk_drew ?_ | refine blk_alloc ?_ _)); exact BK493.out)) : gb493 ≠ gb494)); have n6_ := Aside0.mk ((by rw [hg]; exact Nat.ne_of_gt (blk_lt (g := gb493) (o := .cells #[.int .i64 a0_0, .string a0_1, .int .i64 a0_2, .slice A0_3 l0_3.length c0_3] 25 (0, 0)) (by (with_reducible repeat (first | refine blk_drewN ?_ _ | refine blk_drew ?_ | refine blk_alloc ?_ _)); exact BK493.out)) : gb494 ≠ gb493)); clear BK493; clear HB; have BK493 := n0_; have HB := n1_; have BK494 := n2_; have GW494 := n3_; have GE494 := n4_; have NB493_494 := n5_; have NB494_493 := n6_; clear n0_ n1_ n2_ n3_ n4_ n5_ n6_; clear hb hbox hg) | (go_at_call 9; (with_reducible refine (aumbrylaw16_awake.calls  t495 _ A3.out).mono ?_); rintro e w7 ⟨rfl, hb⟩; have n0_ := Aside0.mk (blk_below (g := gb493) (o := .cells #[.int .i64 a0_0, .string a0_1, .int .i64 a0_2, .slice A0_3 l0_3.length c0_3] 25 (0, 0)) (by (with_reducible repeat (first | refine blk_drewN ?_ _ | refine blk_drew ?_ | refine blk_alloc ?_ _)); exact BK493.out) hb); have n1_ := Aside0.mk (blk_below (g := gb494) (o := .cells #[.int .i64 a1_0, .string a1_1, .int .i64 a1_2, .slice A1_3 l1_3.length c1_3] 25 (0, 0)) (by (with_reducible repeat (first | refine blk_drewN ?_ _ | refine blk_drew ?_ | refine blk_alloc ?_ _)); exact BK494.out) hb); have n2_ := Aside0.mk (below_step (by repeat (first | (with_reducible first | exact HB.out | apply below_alloc | apply pw_below_drewN | apply below_drew1 | refine below_set ?_ GE493.out | refine below_set ?_ GE494.out) | exact HB.out)) hb); clear BK493; clear BK494; clear HB; have BK493 := n0_; have BK494 := n1_; have HB := n2_; clear n0_ n1_ n2_; (try clear hb); (try clear hb2); (try clear hk); (try clear hi)))
  repeat (go_quiet (first | ((with_reducible refine gate_dst (N := 2) rfl ?_); (try (refine gate_guard (by rfl) ?_; dsimp only)); refine box_event ?hg (N := 2) ?hd (cs := #[.int .i64 a0_0, .string a0_1, .int .i64 a0_2, .slice A0_3 l0_3.length c0_3]) (t := 25) ?hr ?_; (case hd => rfl); (case hg => rfl); (case hr => first | (go_simp; done) | (go_simp; rfl)); intro gb493 hg w5 hbox hb; have n0_ := Aside0.mk (below_step (by repeat (first | (with_reducible first | exact HB.out | apply below_alloc | apply pw_below_drewN | apply below_drew1) | exact HB.out)) hb); have n1_ := Aside0.mk (hbox); have n2_ := Aside0.mk ((by rw [hg]; exact (below_size (by repeat (first | (with_reducible first | exact HB.out | apply below_alloc | apply pw_below_drewN | apply below_drew1) | exact HB.out))) : w.heap.size ≤ gb493)); have n3_ := Aside0.mk ((by rw [hg]; exact (below_size (by repeat (first | (with_reducible first | exact HB.out | apply below_alloc | apply pw_below_drewN | apply below_drew1) | exact HB.out))) : w.heap.size ≤ gb493)); clear HB; have HB := n0_; have BK493 := n1_; have GW493 := n2_; have GE493 := n3_; clear n0_ n1_ n2_ n3_; clear hb hbox hg) | ((with_reducible refine gate_dst (N := 3) rfl ?_); (try (refine gate_guard (by rfl) ?_; dsimp only)); refine box_event ?hg (N := 3) ?hd (cs := #[.int .i64 a1_0, .string a1_1, .int .i64 a1_2, .slice A1_3 l1_3.length c1_3]) (t := 25) ?hr ?_; (case hd => rfl); (case hg => rfl); (case hr => first | (go_simp; done) | (go_simp; rfl)); intro gb494 hg w6 hbox hb; have n0_ := Aside0.mk (blk_below (g := gb493) (o := .cells #[.int .i64 a0_0, .string a0_1, .int .i64 a0_2, .slice A0_3 l0_3.length c0_3] 25 (0, 0)) (by (with_reducible repeat (first | refine blk_drewN ?_ _ | refine blk_drew ?_ | refine blk_alloc ?_ _)); exact BK493.out) hb); have n1_ := Aside0.mk (below_step (by repeat (first | (with_reducible first | exact HB.out | apply below_alloc | apply pw_below_drewN | apply below_drew1 | refine below_set ?_ GE493.out) | exact HB.out)) hb); have n2_ := Aside0.mk (hbox); have n3_ := Aside0.mk ((by rw [hg]; exact (below_size (by repeat (first | (with_reducible first | exact HB.out | apply below_alloc | apply pw_below_drewN | apply below_drew1 | refine below_set ?_ GE493.out) | exact HB.out))) : w.heap.size ≤ gb494)); have n4_ := Aside0.mk ((by rw [hg]; exact (below_size (by repeat (first | (with_reducible first | exact HB.out | apply below_alloc | apply pw_below_drewN | apply below_drew1 | refine below_set ?_ GE493.out) | exact HB.out))) : w.heap.size ≤ gb494)); have n5_ := Aside0.mk ((by rw [hg]; exact Nat.ne_of_lt (blk_lt (g := gb493) (o := .cells #[.int .i64 a0_0, .string a0_1, .int .i64 a0_2, .slice A0_3 l0_3.length c0_3] 25 (0, 0)) (by (with_reducible repeat (first | refine blk_drewN ?_ _ | refine blk_drew ?_ | refine blk_alloc ?_ _)); exact BK493.out)) : gb493 ≠ gb494)); have n6_ := Aside0.mk ((by rw [hg]; exact Nat.ne_of_gt (blk_lt (g := gb493) (o := .cells #[.int .i64 a0_0, .string a0_1, .int .i64 a0_2, .slice A0_3 l0_3.length c0_3] 25 (0, 0)) (by (with_reducible repeat (first | refine blk_drewN ?_ _ | refine blk_drew ?_ | refine blk_alloc ?_ _)); exact BK493.out)) : gb494 ≠ gb493)); clear BK493; clear HB; have BK493 := n0_; have HB := n1_; have BK494 := n2_; have GW494 := n3_; have GE494 := n4_; have NB493_494 := n5_; have NB494_493 := n6_; clear n0_ n1_ n2_ n3_ n4_ n5_ n6_; clear hb hbox hg) | (go_at_call 9; (with_reducible refine (aumbrylaw16_awake.calls  t495 _ A3.out).mono ?_); rintro e w7 ⟨rfl, hb⟩; have n0_ := Aside0.mk (blk_below (g := gb493) (o := .cells #[.int .i64 a0_0, .string a0_1, .int .i64 a0_2, .slice A0_3 l0_3.length c0_3] 25 (0, 0)) (by (with_reducible repeat (first | refine blk_drewN ?_ _ | refine blk_drew ?_ | refine blk_alloc ?_ _)); exact BK493.out) hb); have n1_ := Aside0.mk (blk_below (g := gb494) (o := .cells #[.int .i64 a1_0, .string a1_1, .int .i64 a1_2, .slice A1_3 l1_3.length c1_3] 25 (0, 0)) (by (with_reducible repeat (first | refine blk_drewN ?_ _ | refine blk_drew ?_ | refine blk_alloc ?_ _)); exact BK494.out) hb); have n2_ := Aside0.mk (below_step (by repeat (first | (with_reducible first | exact HB.out | apply below_alloc | apply pw_below_drewN | apply below_drew1 | refine below_set ?_ GE493.out | refine below_set ?_ GE494.out) | exact HB.out)) hb); clear BK493; clear BK494; clear HB; have BK493 := n0_; have BK494 := n1_; have HB := n2_; clear n0_ n1_ n2_; (try clear hb); (try clear hb2); (try clear hk); (try clear hi))); go_upto_region 2 with (first | ((with_reducible refine gate_dst (N := 2) rfl ?_); (try (refine gate_guard (by rfl) ?_; dsimp only)); refine box_event ?hg (N := 2) ?hd (cs := #[.int .i64 a0_0, .string a0_1, .int .i64 a0_2, .slice A0_3 l0_3.length c0_3]) (t := 25) ?hr ?_; (case hd => rfl); (case hg => rfl); (case hr => first | (go_simp; done) | (go_simp; rfl)); intro gb493 hg w5 hbox hb; have n0_ := Aside0.mk (below_step (by repeat (first | (with_reducible first | exact HB.out | apply below_alloc | apply pw_below_drewN | apply below_drew1) | exact HB.out)) hb); have n1_ := Aside0.mk (hbox); have n2_ := Aside0.mk ((by rw [hg]; exact (below_size (by repeat (first | (with_reducible first | exact HB.out | apply below_alloc | apply pw_below_drewN | apply below_drew1) | exact HB.out))) : w.heap.size ≤ gb493)); have n3_ := Aside0.mk ((by rw [hg]; exact (below_size (by repeat (first | (with_reducible first | exact HB.out | apply below_alloc | apply pw_below_drewN | apply below_drew1) | exact HB.out))) : w.heap.size ≤ gb493)); clear HB; have HB := n0_; have BK493 := n1_; have GW493 := n2_; have GE493 := n3_; clear n0_ n1_ n2_ n3_; clear hb hbox hg) | ((with_reducible refine gate_dst (N := 3) rfl ?_); (try (refine gate_guard (by rfl) ?_; dsimp only)); refine box_event ?hg (N := 3) ?hd (cs := #[.int .i64 a1_0, .string a1_1, .int .i64 a1_2, .slice A1_3 l1_3.length c1_3]) (t := 25) ?hr ?_; (case hd => rfl); (case hg => rfl); (case hr => first | (go_simp; done) | (go_simp; rfl)); intro gb494 hg w6 hbox hb; have n0_ := Aside0.mk (blk_below (g := gb493) (o := .cells #[.int .i64 a0_0, .string a0_1, .int .i64 a0_2, .slice A0_3 l0_3.length c0_3] 25 (0, 0)) (by (with_reducible repeat (first | refine blk_drewN ?_ _ | refine blk_drew ?_ | refine blk_alloc ?_ _)); exact BK493.out) hb); have n1_ := Aside0.mk (below_step (by repeat (first | (with_reducible first | exact HB.out | apply below_alloc | apply pw_below_drewN | apply below_drew1 | refine below_set ?_ GE493.out) | exact HB.out)) hb); have n2_ := Aside0.mk (hbox); have n3_ := Aside0.mk ((by rw [hg]; exact (below_size (by repeat (first | (with_reducible first | exact HB.out | apply below_alloc | apply pw_below_drewN | apply below_drew1 | refine below_set ?_ GE493.out) | exact HB.out))) : w.heap.size ≤ gb494)); have n4_ := Aside0.mk ((by rw [hg]; exact (below_size (by repeat (first | (with_reducible first | exact HB.out | apply below_alloc | apply pw_below_drewN | apply below_drew1 | refine below_set ?_ GE493.out) | exact HB.out))) : w.heap.size ≤ gb494)); have n5_ := Aside0.mk ((by rw [hg]; exact Nat.ne_of_lt (blk_lt (g := gb493) (o := .cells #[.int .i64 a0_0, .string a0_1, .int .i64 a0_2, .slice A0_3 l0_3.length c0_3] 25 (0, 0)) (by (with_reducible repeat (first | refine blk_drewN ?_ _ | refine blk_drew ?_ | refine blk_alloc ?_ _)); exact BK493.out)) : gb493 ≠ gb494)); have n6_ := Aside0.mk ((by rw [hg]; exact Nat.ne_of_gt (blk_lt (g := gb493) (o := .cells #[.int .i64 a0_0, .string a0_1, .int .i64 a0_2, .slice A0_3 l0_3.length c0_3] 25 (0, 0)) (by (with_reducible repeat (first | refine blk_drewN ?_ _ | refine blk_drew ?_ | refine blk_alloc ?_ _)); exact BK493.out)) : gb494 ≠ gb493)); clear BK493; clear HB; have BK493 := n0_; have HB := n1_; have BK494 := n2_; have GW494 := n3_; have GE494 := n4_; have NB493_494 := n5_; have NB494_493 := n6_; clear n0_ n1_ n2_ n3_ n4_ n5_ n6_; clear hb hbox hg) | (go_at_call 9; (with_reducible refine (aumbrylaw16_awake.calls  t495 _ A3.out).mono ?_); rintro e w7 ⟨rfl, hb⟩; have n0_ := Aside0.mk (blk_below (g := gb493) (o := .cells #[.int .i64 a0_0, .string a0_1, .int .i64 a0_2, .slice A0_3 l0_3.length c0_3] 25 (0, 0)) (by (with_reducible repeat (first | refine blk_drewN ?_ _ | refine blk_drew ?_ | refine blk_alloc ?_ _)); exact BK493.out) hb); have n1_ := Aside0.mk (blk_below (g := gb494) (o := .cells #[.int .i64 a1_0, .string a1_1, .int .i64 a1_2, .slice A1_3 l1_3.length c1_3] 25 (0, 0)) (by (with_reducible repeat (first | refine blk_drewN ?_ _ | refine blk_drew ?_ | refine blk_alloc ?_ _)); exact BK494.out) hb); have n2_ := Aside0.mk (below_step (by repeat (first | (with_reducible first | exact HB.out | apply below_alloc | apply pw_below_drewN | apply below_drew1 | refine below_set ?_ GE493.out | refine below_set ?_ GE494.out) | exact HB.out)) hb); clear BK493; clear BK494; clear HB; have BK493 := n0_; have BK494 := n1_; have HB := n2_; clear n0_ n1_ n2_; (try clear hb); (try clear hb2); (try clear hk); (try clear hi))))
  (try simp only [Act.put, List.setIfInBounds_toArray, List.set_cons_zero, List.set_cons_succ])
  go_cut [20] (fun v20 wc => ∃ (kq : Nat) (x20_3 : Bool), v20 = .bool x20_3 ∧ Aside0 (aumbrylaw16_RecordSizes.j0 kq t495 x20_3 a0_0 a0_1 a0_2 l0_3 a1_0 a1_1 a1_2 l1_3 = some r) ∧ Aside0 (kq ≤ k) ∧ Aside0 (wc.heap[gb493]? = some (.cells #[.int .i64 a0_0, .string a0_1, .int .i64 a0_2, (.slice A0_3 l0_3.length c0_3)] 25 (0, 0))) ∧ Aside0 (wc.heap[gb494]? = some (.cells #[.int .i64 a1_0, .string a1_1, .int .i64 a1_2, (.slice A1_3 l1_3.length c1_3)] 25 (0, 0))) ∧ Aside0 (Below w.heap.size w wc))
  case first =>
    have H := HC4.out
    clear HC4
    replace H := Option.bind_eq_some_iff.mp H
    obtain ⟨t496, A80, H⟩ := H
    replace H : (if t496 = true then ((aumbrylaw16_few.f a1_0 a1_1 a1_2 l1_3).bind fun t497 => (aumbrylaw16_RecordSizes.j0 k t495 (!t497) a0_0 a0_1 a0_2 l0_3 a1_0 a1_1 a1_2 l1_3)) else (aumbrylaw16_RecordSizes.j0 k t495 true a0_0 a0_1 a0_2 l0_3 a1_0 a1_1 a1_2 l1_3)) = some r := H
    have A8 := Aside0.mk A80
    clear A80
    by_cases c9 : t496 = true
    · subst c9
      have H1 : ((aumbrylaw16_few.f a1_0 a1_1 a1_2 l1_3).bind fun t497 => (aumbrylaw16_RecordSizes.j0 k t495 (!t497) a0_0 a0_1 a0_2 l0_3 a1_0 a1_1 a1_2 l1_3)) = some r := by rw [if_pos rfl] at H; exact H
      clear H
      have H := H1
      clear H1
      replace H := Option.bind_eq_some_iff.mp H
      obtain ⟨t497, A100, H⟩ := H
      replace H : (aumbrylaw16_RecordSizes.j0 k t495 (!t497) a0_0 a0_1 a0_2 l0_3 a1_0 a1_1 a1_2 l1_3) = some r := H
      have A10 := Aside0.mk A100
      clear A100
      have H' := Aside0.mk H
      clear H
      have hnb11 := NB493_494.out
      have hnc11 := NB494_493.out
      have hcz12_0 : w7.cell? ⟨gb493, 0, none⟩ = some (.int .i64 a0_0) := (blk_cell BK493.out 0).trans rfl
      have hcz12_1 : w7.cell? ⟨gb493, 1, none⟩ = some (.string a0_1) := (blk_cell BK493.out 1).trans rfl
      have hcz12_2 : w7.cell? ⟨gb493, 2, none⟩ = some (.int .i64 a0_2) := (blk_cell BK493.out 2).trans rfl
      have hcz12_3 : w7.cell? ⟨gb493, 3, none⟩ = some (.slice A0_3 l0_3.length c0_3) := (blk_cell BK493.out 3).trans rfl
      have hfz12_0 := blk_frozen BK493.out 0
      have hfz12_1 := blk_frozen BK493.out 1
      have hfz12_2 := blk_frozen BK493.out 2
      have hfz12_3 := blk_frozen BK493.out 3
      go_wp2_with (first | (go_at_call 10; (with_reducible refine (aumbrylaw16_few.calls a0_0 a0_1 a0_2 _ _ l0_3 true _ ?side1 ?side2 A8.out).mono ?_); (case side1 => repeat (first | exact (Kd.C_below HR0_3.out HB.out) | (with_reducible refine Kd.C_alloc ?_ _) | (with_reducible refine Kd.C_drewN ?_ _) | (with_reducible refine Kd.C_drew ?_))); (case side2 => exact HC0_3.out); rintro e w13 ⟨rfl, hb⟩; have n0_ := Aside0.mk (blk_below (g := gb493) (o := .cells #[.int .i64 a0_0, .string a0_1, .int .i64 a0_2, .slice A0_3 l0_3.length c0_3] 25 (0, 0)) (by (with_reducible repeat (first | refine blk_drewN ?_ _ | refine blk_drew ?_ | refine blk_alloc ?_ _)); exact BK493.out) hb); have n1_ := Aside0.mk (blk_below (g := gb494) (o := .cells #[.int .i64 a1_0, .string a1_1, .int .i64 a1_2, .slice A1_3 l1_3.length c1_3] 25 (0, 0)) (by (with_reducible repeat (first | refine blk_drewN ?_ _ | refine blk_drew ?_ | refine blk_alloc ?_ _)); exact BK494.out) hb); have n2_ := Aside0.mk (below_step (by repeat (first | (with_reducible first | exact HB.out | apply below_alloc | apply pw_below_drewN | apply below_drew1 | refine below_set ?_ GE493.out | refine below_set ?_ GE494.out) | exact HB.out)) hb); clear BK493; clear BK494; clear HB; have BK493 := n0_; have BK494 := n1_; have HB := n2_; clear n0_ n1_ n2_; (try clear hb); (try clear hb2); (try clear hk); (try clear hi); have hcz14_0 : w13.cell? ⟨gb494, 0, none⟩ = some (.int .i64 a1_0) := (blk_cell BK494.out 0).trans rfl; have hcz14_1 : w13.cell? ⟨gb494, 1, none⟩ = some (.string a1_1) := (blk_cell BK494.out 1).trans rfl; have hcz14_2 : w13.cell? ⟨gb494, 2, none⟩ = some (.int .i64 a1_2) := (blk_cell BK494.out 2).trans rfl; have hcz14_3 : w13.cell? ⟨gb494, 3, none⟩ = some (.slice A1_3 l1_3.length c1_3) := (blk_cell BK494.out 3).trans rfl; have hfz14_0 := blk_frozen BK494.out 0; have hfz14_1 := blk_frozen BK494.out 1; have hfz14_2 := blk_frozen BK494.out 2; have hfz14_3 := blk_frozen BK494.out 3) | (go_at_call 10; (with_reducible refine (aumbrylaw16_few.calls a1_0 a1_1 a1_2 _ _ l1_3 t497 _ ?side1 ?side2 A10.out).mono ?_); (case side1 => repeat (first | exact (Kd.C_below HR1_3.out HB.out) | (with_reducible refine Kd.C_alloc ?_ _) | (with_reducible refine Kd.C_drewN ?_ _) | (with_reducible refine Kd.C_drew ?_))); (case side2 => exact HC1_3.out); rintro e w15 ⟨rfl, hb⟩; have n0_ := Aside0.mk (blk_below (g := gb493) (o := .cells #[.int .i64 a0_0, .string a0_1, .int .i64 a0_2, .slice A0_3 l0_3.length c0_3] 25 (0, 0)) (by (with_reducible repeat (first | refine blk_drewN ?_ _ | refine blk_drew ?_ | refine blk_alloc ?_ _)); exact BK493.out) hb); have n1_ := Aside0.mk (blk_below (g := gb494) (o := .cells #[.int .i64 a1_0, .string a1_1, .int .i64 a1_2, .slice A1_3 l1_3.length c1_3] 25 (0, 0)) (by (with_reducible repeat (first | refine blk_drewN ?_ _ | refine blk_drew ?_ | refine blk_alloc ?_ _)); exact BK494.out) hb); have n2_ := Aside0.mk (below_step (by repeat (first | (with_reducible first | exact HB.out | apply below_alloc | apply pw_below_drewN | apply below_drew1 | refine below_set ?_ GE493.out | refine below_set ?_ GE494.out) | exact HB.out)) hb); clear BK493; clear BK494; clear HB; have BK493 := n0_; have BK494 := n1_; have HB := n2_; clear n0_ n1_ n2_; (try clear hb); (try clear hb2); (try clear hk); (try clear hi)))
      repeat (go_quiet (first | (go_at_call 10; (with_reducible refine (aumbrylaw16_few.calls a0_0 a0_1 a0_2 _ _ l0_3 true _ ?side1 ?side2 A8.out).mono ?_); (case side1 => repeat (first | exact (Kd.C_below HR0_3.out HB.out) | (with_reducible refine Kd.C_alloc ?_ _) | (with_reducible refine Kd.C_drewN ?_ _) | (with_reducible refine Kd.C_drew ?_))); (case side2 => exact HC0_3.out); rintro e w13 ⟨rfl, hb⟩; have n0_ := Aside0.mk (blk_below (g := gb493) (o := .cells #[.int .i64 a0_0, .string a0_1, .int .i64 a0_2, .slice A0_3 l0_3.length c0_3] 25 (0, 0)) (by (with_reducible repeat (first | refine blk_drewN ?_ _ | refine blk_drew ?_ | refine blk_alloc ?_ _)); exact BK493.out) hb); have n1_ := Aside0.mk (blk_below (g := gb494) (o := .cells #[.int .i64 a1_0, .string a1_1, .int .i64 a1_2, .slice A1_3 l1_3.length c1_3] 25 (0, 0)) (by (with_reducible repeat (first | refine blk_drewN ?_ _ | refine blk_drew ?_ | refine blk_alloc ?_ _)); exact BK494.out) hb); have n2_ := Aside0.mk (below_step (by repeat (first | (with_reducible first | exact HB.out | apply below_alloc | apply pw_below_drewN | apply below_drew1 | refine below_set ?_ GE493.out | refine below_set ?_ GE494.out) | exact HB.out)) hb); clear BK493; clear BK494; clear HB; have BK493 := n0_; have BK494 := n1_; have HB := n2_; clear n0_ n1_ n2_; (try clear hb); (try clear hb2); (try clear hk); (try clear hi); have hcz14_0 : w13.cell? ⟨gb494, 0, none⟩ = some (.int .i64 a1_0) := (blk_cell BK494.out 0).trans rfl; have hcz14_1 : w13.cell? ⟨gb494, 1, none⟩ = some (.string a1_1) := (blk_cell BK494.out 1).trans rfl; have hcz14_2 : w13.cell? ⟨gb494, 2, none⟩ = some (.int .i64 a1_2) := (blk_cell BK494.out 2).trans rfl; have hcz14_3 : w13.cell? ⟨gb494, 3, none⟩ = some (.slice A1_3 l1_3.length c1_3) := (blk_cell BK494.out 3).trans rfl; have hfz14_0 := blk_frozen BK494.out 0; have hfz14_1 := blk_frozen BK494.out 1; have hfz14_2 := blk_frozen BK494.out 2; have hfz14_3 := blk_frozen BK494.out 3) | (go_at_call 10; (with_reducible refine (aumbrylaw16_few.calls a1_0 a1_1 a1_2 _ _ l1_3 t497 _ ?side1 ?side2 A10.out).mono ?_); (case side1 => repeat (first | exact (Kd.C_below HR1_3.out HB.out) | (with_reducible refine Kd.C_alloc ?_ _) | (with_reducible refine Kd.C_drewN ?_ _) | (with_reducible refine Kd.C_drew ?_))); (case side2 => exact HC1_3.out); rintro e w15 ⟨rfl, hb⟩; have n0_ := Aside0.mk (blk_below (g := gb493) (o := .cells #[.int .i64 a0_0, .string a0_1, .int .i64 a0_2, .slice A0_3 l0_3.length c0_3] 25 (0, 0)) (by (with_reducible repeat (first | refine blk_drewN ?_ _ | refine blk_drew ?_ | refine blk_alloc ?_ _)); exact BK493.out) hb); have n1_ := Aside0.mk (blk_below (g := gb494) (o := .cells #[.int .i64 a1_0, .string a1_1, .int .i64 a1_2, .slice A1_3 l1_3.length c1_3] 25 (0, 0)) (by (with_reducible repeat (first | refine blk_drewN ?_ _ | refine blk_drew ?_ | refine blk_alloc ?_ _)); exact BK494.out) hb); have n2_ := Aside0.mk (below_step (by repeat (first | (with_reducible first | exact HB.out | apply below_alloc | apply pw_below_drewN | apply below_drew1 | refine below_set ?_ GE493.out | refine below_set ?_ GE494.out) | exact HB.out)) hb); clear BK493; clear BK494; clear HB; have BK493 := n0_; have BK494 := n1_; have HB := n2_; clear n0_ n1_ n2_; (try clear hb); (try clear hb2); (try clear hk); (try clear hi))); try go_wp2_with (first | (go_at_call 10; (with_reducible refine (aumbrylaw16_few.calls a0_0 a0_1 a0_2 _ _ l0_3 true _ ?side1 ?side2 A8.out).mono ?_); (case side1 => repeat (first | exact (Kd.C_below HR0_3.out HB.out) | (with_reducible refine Kd.C_alloc ?_ _) | (with_reducible refine Kd.C_drewN ?_ _) | (with_reducible refine Kd.C_drew ?_))); (case side2 => exact HC0_3.out); rintro e w13 ⟨rfl, hb⟩; have n0_ := Aside0.mk (blk_below (g := gb493) (o := .cells #[.int .i64 a0_0, .string a0_1, .int .i64 a0_2, .slice A0_3 l0_3.length c0_3] 25 (0, 0)) (by (with_reducible repeat (first | refine blk_drewN ?_ _ | refine blk_drew ?_ | refine blk_alloc ?_ _)); exact BK493.out) hb); have n1_ := Aside0.mk (blk_below (g := gb494) (o := .cells #[.int .i64 a1_0, .string a1_1, .int .i64 a1_2, .slice A1_3 l1_3.length c1_3] 25 (0, 0)) (by (with_reducible repeat (first | refine blk_drewN ?_ _ | refine blk_drew ?_ | refine blk_alloc ?_ _)); exact BK494.out) hb); have n2_ := Aside0.mk (below_step (by repeat (first | (with_reducible first | exact HB.out | apply below_alloc | apply pw_below_drewN | apply below_drew1 | refine below_set ?_ GE493.out | refine below_set ?_ GE494.out) | exact HB.out)) hb); clear BK493; clear BK494; clear HB; have BK493 := n0_; have BK494 := n1_; have HB := n2_; clear n0_ n1_ n2_; (try clear hb); (try clear hb2); (try clear hk); (try clear hi); have hcz14_0 : w13.cell? ⟨gb494, 0, none⟩ = some (.int .i64 a1_0) := (blk_cell BK494.out 0).trans rfl; have hcz14_1 : w13.cell? ⟨gb494, 1, none⟩ = some (.string a1_1) := (blk_cell BK494.out 1).trans rfl; have hcz14_2 : w13.cell? ⟨gb494, 2, none⟩ = some (.int .i64 a1_2) := (blk_cell BK494.out 2).trans rfl; have hcz14_3 : w13.cell? ⟨gb494, 3, none⟩ = some (.slice A1_3 l1_3.length c1_3) := (blk_cell BK494.out 3).trans rfl; have hfz14_0 := blk_frozen BK494.out 0; have hfz14_1 := blk_frozen BK494.out 1; have hfz14_2 := blk_frozen BK494.out 2; have hfz14_3 := blk_frozen BK494.out 3) | (go_at_call 10; (with_reducible refine (aumbrylaw16_few.calls a1_0 a1_1 a1_2 _ _ l1_3 t497 _ ?side1 ?side2 A10.out).mono ?_); (case side1 => repeat (first | exact (Kd.C_below HR1_3.out HB.out) | (with_reducible refine Kd.C_alloc ?_ _) | (with_reducible refine Kd.C_drewN ?_ _) | (with_reducible refine Kd.C_drew ?_))); (case side2 => exact HC1_3.out); rintro e w15 ⟨rfl, hb⟩; have n0_ := Aside0.mk (blk_below (g := gb493) (o := .cells #[.int .i64 a0_0, .string a0_1, .int .i64 a0_2, .slice A0_3 l0_3.length c0_3] 25 (0, 0)) (by (with_reducible repeat (first | refine blk_drewN ?_ _ | refine blk_drew ?_ | refine blk_alloc ?_ _)); exact BK493.out) hb); have n1_ := Aside0.mk (blk_below (g := gb494) (o := .cells #[.int .i64 a1_0, .string a1_1, .int .i64 a1_2, .slice A1_3 l1_3.length c1_3] 25 (0, 0)) (by (with_reducible repeat (first | refine blk_drewN ?_ _ | refine blk_drew ?_ | refine blk_alloc ?_ _)); exact BK494.out) hb); have n2_ := Aside0.mk (below_step (by repeat (first | (with_reducible first | exact HB.out | apply below_alloc | apply pw_below_drewN | apply below_drew1 | refine below_set ?_ GE493.out | refine below_set ?_ GE494.out) | exact HB.out)) hb); clear BK493; clear BK494; clear HB; have BK493 := n0_; have BK494 := n1_; have HB := n2_; clear n0_ n1_ n2_; (try clear hb); (try clear hb2); (try clear hk); (try clear hi))))
      go_meet
      case rel => exact ⟨_, (!t497), (by first | rfl | (simp; done) | (simp [*]; done)), H', ⟨by first | omega | exact Nat.le_refl _⟩, ⟨by (with_reducible repeat (first | refine blk_drewN ?_ _ | refine blk_drew ?_ | refine blk_alloc ?_ _)); exact BK493.out⟩, ⟨by (with_reducible repeat (first | refine blk_drewN ?_ _ | refine blk_drew ?_ | refine blk_alloc ?_ _)); exact BK494.out⟩, ⟨by repeat (first | (with_reducible first | exact HB.out | apply below_alloc | apply pw_below_drewN | apply below_drew1 | refine below_set ?_ GE493.out | refine below_set ?_ GE494.out) | exact HB.out)⟩⟩
    · replace c9 := Bool.eq_false_iff.mpr c9
      subst c9
      have H1 : (aumbrylaw16_RecordSizes.j0 k t495 true a0_0 a0_1 a0_2 l0_3 a1_0 a1_1 a1_2 l1_3) = some r := by rw [if_neg (show ¬ (false = true) by decide)] at H; exact H
      clear H
      have H := H1
      clear H1
      have H' := Aside0.mk H
      clear H
      have hnb16 := NB493_494.out
      have hnc16 := NB494_493.out
      have hcz17_0 : w7.cell? ⟨gb493, 0, none⟩ = some (.int .i64 a0_0) := (blk_cell BK493.out 0).trans rfl
      have hcz17_1 : w7.cell? ⟨gb493, 1, none⟩ = some (.string a0_1) := (blk_cell BK493.out 1).trans rfl
      have hcz17_2 : w7.cell? ⟨gb493, 2, none⟩ = some (.int .i64 a0_2) := (blk_cell BK493.out 2).trans rfl
      have hcz17_3 : w7.cell? ⟨gb493, 3, none⟩ = some (.slice A0_3 l0_3.length c0_3) := (blk_cell BK493.out 3).trans rfl
      have hfz17_0 := blk_frozen BK493.out 0
      have hfz17_1 := blk_frozen BK493.out 1
      have hfz17_2 := blk_frozen BK493.out 2
      have hfz17_3 := blk_frozen BK493.out 3
      go_wp2_with (first | (go_at_call 10; (with_reducible refine (aumbrylaw16_few.calls a0_0 a0_1 a0_2 _ _ l0_3 false _ ?side1 ?side2 A8.out).mono ?_); (case side1 => repeat (first | exact (Kd.C_below HR0_3.out HB.out) | (with_reducible refine Kd.C_alloc ?_ _) | (with_reducible refine Kd.C_drewN ?_ _) | (with_reducible refine Kd.C_drew ?_))); (case side2 => exact HC0_3.out); rintro e w18 ⟨rfl, hb⟩; have n0_ := Aside0.mk (blk_below (g := gb493) (o := .cells #[.int .i64 a0_0, .string a0_1, .int .i64 a0_2, .slice A0_3 l0_3.length c0_3] 25 (0, 0)) (by (with_reducible repeat (first | refine blk_drewN ?_ _ | refine blk_drew ?_ | refine blk_alloc ?_ _)); exact BK493.out) hb); have n1_ := Aside0.mk (blk_below (g := gb494) (o := .cells #[.int .i64 a1_0, .string a1_1, .int .i64 a1_2, .slice A1_3 l1_3.length c1_3] 25 (0, 0)) (by (with_reducible repeat (first | refine blk_drewN ?_ _ | refine blk_drew ?_ | refine blk_alloc ?_ _)); exact BK494.out) hb); have n2_ := Aside0.mk (below_step (by repeat (first | (with_reducible first | exact HB.out | apply below_alloc | apply pw_below_drewN | apply below_drew1 | refine below_set ?_ GE493.out | refine below_set ?_ GE494.out) | exact HB.out)) hb); clear BK493; clear BK494; clear HB; have BK493 := n0_; have BK494 := n1_; have HB := n2_; clear n0_ n1_ n2_; (try clear hb); (try clear hb2); (try clear hk); (try clear hi)))
      repeat (go_quiet (first | (go_at_call 10; (with_reducible refine (aumbrylaw16_few.calls a0_0 a0_1 a0_2 _ _ l0_3 false _ ?side1 ?side2 A8.out).mono ?_); (case side1 => repeat (first | exact (Kd.C_below HR0_3.out HB.out) | (with_reducible refine Kd.C_alloc ?_ _) | (with_reducible refine Kd.C_drewN ?_ _) | (with_reducible refine Kd.C_drew ?_))); (case side2 => exact HC0_3.out); rintro e w18 ⟨rfl, hb⟩; have n0_ := Aside0.mk (blk_below (g := gb493) (o := .cells #[.int .i64 a0_0, .string a0_1, .int .i64 a0_2, .slice A0_3 l0_3.length c0_3] 25 (0, 0)) (by (with_reducible repeat (first | refine blk_drewN ?_ _ | refine blk_drew ?_ | refine blk_alloc ?_ _)); exact BK493.out) hb); have n1_ := Aside0.mk (blk_below (g := gb494) (o := .cells #[.int .i64 a1_0, .string a1_1, .int .i64 a1_2, .slice A1_3 l1_3.length c1_3] 25 (0, 0)) (by (with_reducible repeat (first | refine blk_drewN ?_ _ | refine blk_drew ?_ | refine blk_alloc ?_ _)); exact BK494.out) hb); have n2_ := Aside0.mk (below_step (by repeat (first | (with_reducible first | exact HB.out | apply below_alloc | apply pw_below_drewN | apply below_drew1 | refine below_set ?_ GE493.out | refine below_set ?_ GE494.out) | exact HB.out)) hb); clear BK493; clear BK494; clear HB; have BK493 := n0_; have BK494 := n1_; have HB := n2_; clear n0_ n1_ n2_; (try clear hb); (try clear hb2); (try clear hk); (try clear hi))); try go_wp2_with (first | (go_at_call 10; (with_reducible refine (aumbrylaw16_few.calls a0_0 a0_1 a0_2 _ _ l0_3 false _ ?side1 ?side2 A8.out).mono ?_); (case side1 => repeat (first | exact (Kd.C_below HR0_3.out HB.out) | (with_reducible refine Kd.C_alloc ?_ _) | (with_reducible refine Kd.C_drewN ?_ _) | (with_reducible refine Kd.C_drew ?_))); (case side2 => exact HC0_3.out); rintro e w18 ⟨rfl, hb⟩; have n0_ := Aside0.mk (blk_below (g := gb493) (o := .cells #[.int .i64 a0_0, .string a0_1, .int .i64 a0_2, .slice A0_3 l0_3.length c0_3] 25 (0, 0)) (by (with_reducible repeat (first | refine blk_drewN ?_ _ | refine blk_drew ?_ | refine blk_alloc ?_ _)); exact BK493.out) hb); have n1_ := Aside0.mk (blk_below (g := gb494) (o := .cells #[.int .i64 a1_0, .string a1_1, .int .i64 a1_2, .slice A1_3 l1_3.length c1_3] 25 (0, 0)) (by (with_reducible repeat (first | refine blk_drewN ?_ _ | refine blk_drew ?_ | refine blk_alloc ?_ _)); exact BK494.out) hb); have n2_ := Aside0.mk (below_step (by repeat (first | (with_reducible first | exact HB.out | apply below_alloc | apply pw_below_drewN | apply below_drew1 | refine below_set ?_ GE493.out | refine below_set ?_ GE494.out) | exact HB.out)) hb); clear BK493; clear BK494; clear HB; have BK493 := n0_; have BK494 := n1_; have HB := n2_; clear n0_ n1_ n2_; (try clear hb); (try clear hb2); (try clear hk); (try clear hi))))
      go_meet
      case rel => exact ⟨_, (true), (by first | rfl | (simp; done) | (simp [*]; done)), H', ⟨by first | omega | exact Nat.le_refl _⟩, ⟨by (with_reducible repeat (first | refine blk_drewN ?_ _ | refine blk_drew ?_ | refine blk_alloc ?_ _)); exact BK493.out⟩, ⟨by (with_reducible repeat (first | refine blk_drewN ?_ _ | refine blk_drew ?_ | refine blk_alloc ?_ _)); exact BK494.out⟩, ⟨by repeat (first | (with_reducible first | exact HB.out | apply below_alloc | apply pw_below_drewN | apply below_drew1 | refine below_set ?_ GE493.out | refine below_set ?_ GE494.out) | exact HB.out)⟩⟩
  case rest =>
    clear HC4
    try clear c1
    try clear p2
    try clear c8
    try clear c9
    try clear c11
    try clear c16
    try clear hcz12_0
    try clear hcz12_1
    try clear hcz12_2
    try clear hcz12_3
    try clear hcz14_0
    try clear hcz14_1
    try clear hcz14_2
    try clear hcz14_3
    try clear hcz17_0
    try clear hcz17_1
    try clear hcz17_2
    try clear hcz17_3
    try clear hfz12_0
    try clear hfz12_1
    try clear hfz12_2
    try clear hfz12_3
    try clear hfz14_0
    try clear hfz14_1
    try clear hfz14_2
    try clear hfz14_3
    try clear hfz17_0
    try clear hfz17_1
    try clear hfz17_2
    try clear hfz17_3
    obtain ⟨kq, x20_3, rfl, HA, HJ3, BK493, BK494, HB⟩ := hcut
    cases kq with
    | zero => exact absurd HA.out (by simp [aumbrylaw16_RecordSizes.j0])
    | succ kj3 =>
      have H := HA.out
      clear HA
      simp only [aumbrylaw16_RecordSizes.j0] at H
      by_cases c19 : x20_3 = true
      · subst c19
        have H1 : (some t495) = some r := by rw [if_pos rfl] at H; exact H
        clear H
        have H := H1
        clear H1
        obtain rfl := Option.some.inj H
        go_wp2
        repeat (go_quiet (fail); try go_wp2)
        go_ret
        exact ⟨by first | rfl | (simp [errW_none, errW_some] <;> rfl) | (simp [*, errW_none, errW_some] <;> rfl), by repeat (first | (with_reducible first | exact HB.out | apply below_alloc | apply pw_below_drewN | apply below_drew1 | refine below_set ?_ GE493.out | refine below_set ?_ GE494.out) | exact HB.out)⟩
      · replace c19 := Bool.eq_false_iff.mpr c19
        subst c19
        have H1 : ((record_Encode.f kj3 a0_0 a0_1 a0_2 l0_3).bind fun bt498 => ((record_Encode.f kj3 a1_0 a1_1 a1_2 l1_3).bind fun bt502 => (if bt498.2 = 0 then (aumbrylaw16_RecordSizes.j1 kj3 t495 bt498.1 bt498.2 bt502.1 (bt502.2 != 0) a0_0 a0_1 a0_2 l0_3 a1_0 a1_1 a1_2 l1_3) else (aumbrylaw16_RecordSizes.j1 kj3 t495 bt498.1 bt498.2 bt502.1 true a0_0 a0_1 a0_2 l0_3 a1_0 a1_1 a1_2 l1_3)))) = some r := by rw [if_neg (show ¬ (false = true) by decide)] at H; exact H
        clear H
        have H := H1
        clear H1
        replace H := Option.bind_eq_some_iff.mp H
        obtain ⟨⟨t498, t501⟩, A200, H⟩ := H
        replace H : ((record_Encode.f kj3 a1_0 a1_1 a1_2 l1_3).bind fun bt502 => (if t501 = 0 then (aumbrylaw16_RecordSizes.j1 kj3 t495 t498 t501 bt502.1 (bt502.2 != 0) a0_0 a0_1 a0_2 l0_3 a1_0 a1_1 a1_2 l1_3) else (aumbrylaw16_RecordSizes.j1 kj3 t495 t498 t501 bt502.1 true a0_0 a0_1 a0_2 l0_3 a1_0 a1_1 a1_2 l1_3))) = some r := H
        have A20 := Aside0.mk A200
        clear A200
        replace H := Option.bind_eq_some_iff.mp H
        obtain ⟨⟨t502, t505⟩, A210, H⟩ := H
        replace H : (if t501 = 0 then (aumbrylaw16_RecordSizes.j1 kj3 t495 t498 t501 t502 (t505 != 0) a0_0 a0_1 a0_2 l0_3 a1_0 a1_1 a1_2 l1_3) else (aumbrylaw16_RecordSizes.j1 kj3 t495 t498 t501 t502 true a0_0 a0_1 a0_2 l0_3 a1_0 a1_1 a1_2 l1_3)) = some r := H
        have A21 := Aside0.mk A210
        clear A210
        have HC22 := Aside0.mk H
        clear H
        have hnb23 := NB493_494.out
        have hnc23 := NB494_493.out
        have hcz24_0 : wc.cell? ⟨gb493, 0, none⟩ = some (.int .i64 a0_0) := (blk_cell BK493.out 0).trans rfl
        have hcz24_1 : wc.cell? ⟨gb493, 1, none⟩ = some (.string a0_1) := (blk_cell BK493.out 1).trans rfl
        have hcz24_2 : wc.cell? ⟨gb493, 2, none⟩ = some (.int .i64 a0_2) := (blk_cell BK493.out 2).trans rfl
        have hcz24_3 : wc.cell? ⟨gb493, 3, none⟩ = some (.slice A0_3 l0_3.length c0_3) := (blk_cell BK493.out 3).trans rfl
        have hfz24_0 := blk_frozen BK493.out 0
        have hfz24_1 := blk_frozen BK493.out 1
        have hfz24_2 := blk_frozen BK493.out 2
        have hfz24_3 := blk_frozen BK493.out 3
        go_upto_region 6 with (first | (go_at_call 11; (with_reducible refine (record_Encode.calls kj3 a0_0 a0_1 a0_2 _ _ l0_3 t498 t501 _ ?side1 ?side2 A20.out).mono ?_); (case side1 => repeat (first | exact (Kd.C_below HR0_3.out HB.out) | (with_reducible refine Kd.C_alloc ?_ _) | (with_reducible refine Kd.C_drewN ?_ _) | (with_reducible refine Kd.C_drew ?_))); (case side2 => exact HC0_3.out); rintro e w25 ⟨v499, rfl, ho0, hb⟩; have n0_ := Aside0.mk (Kd.R_lower ho0 (below_size (by repeat (first | (with_reducible first | exact HB.out | apply below_alloc | apply pw_below_drewN | apply below_drew1 | refine below_set ?_ GE493.out | refine below_set ?_ GE494.out) | exact HB.out)))); have n1_ := Aside0.mk (blk_below (g := gb493) (o := .cells #[.int .i64 a0_0, .string a0_1, .int .i64 a0_2, .slice A0_3 l0_3.length c0_3] 25 (0, 0)) (by (with_reducible repeat (first | refine blk_drewN ?_ _ | refine blk_drew ?_ | refine blk_alloc ?_ _)); exact BK493.out) hb); have n2_ := Aside0.mk (blk_below (g := gb494) (o := .cells #[.int .i64 a1_0, .string a1_1, .int .i64 a1_2, .slice A1_3 l1_3.length c1_3] 25 (0, 0)) (by (with_reducible repeat (first | refine blk_drewN ?_ _ | refine blk_drew ?_ | refine blk_alloc ?_ _)); exact BK494.out) hb); have n3_ := Aside0.mk (below_step (by repeat (first | (with_reducible first | exact HB.out | apply below_alloc | apply pw_below_drewN | apply below_drew1 | refine below_set ?_ GE493.out | refine below_set ?_ GE494.out) | exact HB.out)) hb); clear BK493; clear BK494; clear HB; have HO500 := n0_; have BK493 := n1_; have BK494 := n2_; have HB := n3_; clear n0_ n1_ n2_ n3_; (try clear hb); (try clear hb2); (try clear hk); (try clear hi); (try clear ho0); have hcz26_0 : w25.cell? ⟨gb494, 0, none⟩ = some (.int .i64 a1_0) := (blk_cell BK494.out 0).trans rfl; have hcz26_1 : w25.cell? ⟨gb494, 1, none⟩ = some (.string a1_1) := (blk_cell BK494.out 1).trans rfl; have hcz26_2 : w25.cell? ⟨gb494, 2, none⟩ = some (.int .i64 a1_2) := (blk_cell BK494.out 2).trans rfl; have hcz26_3 : w25.cell? ⟨gb494, 3, none⟩ = some (.slice A1_3 l1_3.length c1_3) := (blk_cell BK494.out 3).trans rfl; have hfz26_0 := blk_frozen BK494.out 0; have hfz26_1 := blk_frozen BK494.out 1; have hfz26_2 := blk_frozen BK494.out 2; have hfz26_3 := blk_frozen BK494.out 3) | (go_at_call 11; (with_reducible refine (record_Encode.calls kj3 a1_0 a1_1 a1_2 _ _ l1_3 t502 t505 _ ?side1 ?side2 A21.out).mono ?_); (case side1 => repeat (first | exact (Kd.C_below HR1_3.out HB.out) | (with_reducible refine Kd.C_alloc ?_ _) | (with_reducible refine Kd.C_drewN ?_ _) | (with_reducible refine Kd.C_drew ?_))); (case side2 => exact HC1_3.out); rintro e w27 ⟨v503, rfl, ho0, hb⟩; have n0_ := Aside0.mk (Kd.R_elder' (by (with_reducible repeat (first | apply Kd.R_alloc | apply Kd.R_drewN | apply Kd.R_drew)); exact HO500.out) (Kd.R_base ho0) hb); have n1_ := Aside0.mk (Kd.R_lower (Kd.R_new' ho0 (Kd.R_lt (by (with_reducible repeat (first | apply Kd.R_alloc | apply Kd.R_drewN | apply Kd.R_drew)); exact HO500.out))) (below_size (by repeat (first | (with_reducible first | exact HB.out | apply below_alloc | apply pw_below_drewN | apply below_drew1 | refine below_set ?_ GE493.out | refine below_set ?_ GE494.out) | exact HB.out)))); have n2_ := Aside0.mk (blk_below (g := gb493) (o := .cells #[.int .i64 a0_0, .string a0_1, .int .i64 a0_2, .slice A0_3 l0_3.length c0_3] 25 (0, 0)) (by (with_reducible repeat (first | refine blk_drewN ?_ _ | refine blk_drew ?_ | refine blk_alloc ?_ _)); exact BK493.out) hb); have n3_ := Aside0.mk (blk_below (g := gb494) (o := .cells #[.int .i64 a1_0, .string a1_1, .int .i64 a1_2, .slice A1_3 l1_3.length c1_3] 25 (0, 0)) (by (with_reducible repeat (first | refine blk_drewN ?_ _ | refine blk_drew ?_ | refine blk_alloc ?_ _)); exact BK494.out) hb); have n4_ := Aside0.mk (below_step (by repeat (first | (with_reducible first | exact HB.out | apply below_alloc | apply pw_below_drewN | apply below_drew1 | refine below_set ?_ GE493.out | refine below_set ?_ GE494.out) | exact HB.out)) hb); clear HO500; clear BK493; clear BK494; clear HB; have HO500 := n0_; have HO504 := n1_; have BK493 := n2_; have BK494 := n3_; have HB := n4_; clear n0_ n1_ n2_ n3_ n4_; (try clear hb); (try clear hb2); (try clear hk); (try clear hi); (try clear ho0)))
        repeat (go_quiet (first | (go_at_call 11; (with_reducible refine (record_Encode.calls kj3 a0_0 a0_1 a0_2 _ _ l0_3 t498 t501 _ ?side1 ?side2 A20.out).mono ?_); (case side1 => repeat (first | exact (Kd.C_below HR0_3.out HB.out) | (with_reducible refine Kd.C_alloc ?_ _) | (with_reducible refine Kd.C_drewN ?_ _) | (with_reducible refine Kd.C_drew ?_))); (case side2 => exact HC0_3.out); rintro e w25 ⟨v499, rfl, ho0, hb⟩; have n0_ := Aside0.mk (Kd.R_lower ho0 (below_size (by repeat (first | (with_reducible first | exact HB.out | apply below_alloc | apply pw_below_drewN | apply below_drew1 | refine below_set ?_ GE493.out | refine below_set ?_ GE494.out) | exact HB.out)))); have n1_ := Aside0.mk (blk_below (g := gb493) (o := .cells #[.int .i64 a0_0, .string a0_1, .int .i64 a0_2, .slice A0_3 l0_3.length c0_3] 25 (0, 0)) (by (with_reducible repeat (first | refine blk_drewN ?_ _ | refine blk_drew ?_ | refine blk_alloc ?_ _)); exact BK493.out) hb); have n2_ := Aside0.mk (blk_below (g := gb494) (o := .cells #[.int .i64 a1_0, .string a1_1, .int .i64 a1_2, .slice A1_3 l1_3.length c1_3] 25 (0, 0)) (by (with_reducible repeat (first | refine blk_drewN ?_ _ | refine blk_drew ?_ | refine blk_alloc ?_ _)); exact BK494.out) hb); have n3_ := Aside0.mk (below_step (by repeat (first | (with_reducible first | exact HB.out | apply below_alloc | apply pw_below_drewN | apply below_drew1 | refine below_set ?_ GE493.out | refine below_set ?_ GE494.out) | exact HB.out)) hb); clear BK493; clear BK494; clear HB; have HO500 := n0_; have BK493 := n1_; have BK494 := n2_; have HB := n3_; clear n0_ n1_ n2_ n3_; (try clear hb); (try clear hb2); (try clear hk); (try clear hi); (try clear ho0); have hcz26_0 : w25.cell? ⟨gb494, 0, none⟩ = some (.int .i64 a1_0) := (blk_cell BK494.out 0).trans rfl; have hcz26_1 : w25.cell? ⟨gb494, 1, none⟩ = some (.string a1_1) := (blk_cell BK494.out 1).trans rfl; have hcz26_2 : w25.cell? ⟨gb494, 2, none⟩ = some (.int .i64 a1_2) := (blk_cell BK494.out 2).trans rfl; have hcz26_3 : w25.cell? ⟨gb494, 3, none⟩ = some (.slice A1_3 l1_3.length c1_3) := (blk_cell BK494.out 3).trans rfl; have hfz26_0 := blk_frozen BK494.out 0; have hfz26_1 := blk_frozen BK494.out 1; have hfz26_2 := blk_frozen BK494.out 2; have hfz26_3 := blk_frozen BK494.out 3) | (go_at_call 11; (with_reducible refine (record_Encode.calls kj3 a1_0 a1_1 a1_2 _ _ l1_3 t502 t505 _ ?side1 ?side2 A21.out).mono ?_); (case side1 => repeat (first | exact (Kd.C_below HR1_3.out HB.out) | (with_reducible refine Kd.C_alloc ?_ _) | (with_reducible refine Kd.C_drewN ?_ _) | (with_reducible refine Kd.C_drew ?_))); (case side2 => exact HC1_3.out); rintro e w27 ⟨v503, rfl, ho0, hb⟩; have n0_ := Aside0.mk (Kd.R_elder' (by (with_reducible repeat (first | apply Kd.R_alloc | apply Kd.R_drewN | apply Kd.R_drew)); exact HO500.out) (Kd.R_base ho0) hb); have n1_ := Aside0.mk (Kd.R_lower (Kd.R_new' ho0 (Kd.R_lt (by (with_reducible repeat (first | apply Kd.R_alloc | apply Kd.R_drewN | apply Kd.R_drew)); exact HO500.out))) (below_size (by repeat (first | (with_reducible first | exact HB.out | apply below_alloc | apply pw_below_drewN | apply below_drew1 | refine below_set ?_ GE493.out | refine below_set ?_ GE494.out) | exact HB.out)))); have n2_ := Aside0.mk (blk_below (g := gb493) (o := .cells #[.int .i64 a0_0, .string a0_1, .int .i64 a0_2, .slice A0_3 l0_3.length c0_3] 25 (0, 0)) (by (with_reducible repeat (first | refine blk_drewN ?_ _ | refine blk_drew ?_ | refine blk_alloc ?_ _)); exact BK493.out) hb); have n3_ := Aside0.mk (blk_below (g := gb494) (o := .cells #[.int .i64 a1_0, .string a1_1, .int .i64 a1_2, .slice A1_3 l1_3.length c1_3] 25 (0, 0)) (by (with_reducible repeat (first | refine blk_drewN ?_ _ | refine blk_drew ?_ | refine blk_alloc ?_ _)); exact BK494.out) hb); have n4_ := Aside0.mk (below_step (by repeat (first | (with_reducible first | exact HB.out | apply below_alloc | apply pw_below_drewN | apply below_drew1 | refine below_set ?_ GE493.out | refine below_set ?_ GE494.out) | exact HB.out)) hb); clear HO500; clear BK493; clear BK494; clear HB; have HO500 := n0_; have HO504 := n1_; have BK493 := n2_; have BK494 := n3_; have HB := n4_; clear n0_ n1_ n2_ n3_ n4_; (try clear hb); (try clear hb2); (try clear hk); (try clear hi); (try clear ho0))); go_upto_region 6 with (first | (go_at_call 11; (with_reducible refine (record_Encode.calls kj3 a0_0 a0_1 a0_2 _ _ l0_3 t498 t501 _ ?side1 ?side2 A20.out).mono ?_); (case side1 => repeat (first | exact (Kd.C_below HR0_3.out HB.out) | (with_reducible refine Kd.C_alloc ?_ _) | (with_reducible refine Kd.C_drewN ?_ _) | (with_reducible refine Kd.C_drew ?_))); (case side2 => exact HC0_3.out); rintro e w25 ⟨v499, rfl, ho0, hb⟩; have n0_ := Aside0.mk (Kd.R_lower ho0 (below_size (by repeat (first | (with_reducible first | exact HB.out | apply below_alloc | apply pw_below_drewN | apply below_drew1 | refine below_set ?_ GE493.out | refine below_set ?_ GE494.out) | exact HB.out)))); have n1_ := Aside0.mk (blk_below (g := gb493) (o := .cells #[.int .i64 a0_0, .string a0_1, .int .i64 a0_2, .slice A0_3 l0_3.length c0_3] 25 (0, 0)) (by (with_reducible repeat (first | refine blk_drewN ?_ _ | refine blk_drew ?_ | refine blk_alloc ?_ _)); exact BK493.out) hb); have n2_ := Aside0.mk (blk_below (g := gb494) (o := .cells #[.int .i64 a1_0, .string a1_1, .int .i64 a1_2, .slice A1_3 l1_3.length c1_3] 25 (0, 0)) (by (with_reducible repeat (first | refine blk_drewN ?_ _ | refine blk_drew ?_ | refine blk_alloc ?_ _)); exact BK494.out) hb); have n3_ := Aside0.mk (below_step (by repeat (first | (with_reducible first | exact HB.out | apply below_alloc | apply pw_below_drewN | apply below_drew1 | refine below_set ?_ GE493.out | refine below_set ?_ GE494.out) | exact HB.out)) hb); clear BK493; clear BK494; clear HB; have HO500 := n0_; have BK493 := n1_; have BK494 := n2_; have HB := n3_; clear n0_ n1_ n2_ n3_; (try clear hb); (try clear hb2); (try clear hk); (try clear hi); (try clear ho0); have hcz26_0 : w25.cell? ⟨gb494, 0, none⟩ = some (.int .i64 a1_0) := (blk_cell BK494.out 0).trans rfl; have hcz26_1 : w25.cell? ⟨gb494, 1, none⟩ = some (.string a1_1) := (blk_cell BK494.out 1).trans rfl; have hcz26_2 : w25.cell? ⟨gb494, 2, none⟩ = some (.int .i64 a1_2) := (blk_cell BK494.out 2).trans rfl; have hcz26_3 : w25.cell? ⟨gb494, 3, none⟩ = some (.slice A1_3 l1_3.length c1_3) := (blk_cell BK494.out 3).trans rfl; have hfz26_0 := blk_frozen BK494.out 0; have hfz26_1 := blk_frozen BK494.out 1; have hfz26_2 := blk_frozen BK494.out 2; have hfz26_3 := blk_frozen BK494.out 3) | (go_at_call 11; (with_reducible refine (record_Encode.calls kj3 a1_0 a1_1 a1_2 _ _ l1_3 t502 t505 _ ?side1 ?side2 A21.out).mono ?_); (case side1 => repeat (first | exact (Kd.C_below HR1_3.out HB.out) | (with_reducible refine Kd.C_alloc ?_ _) | (with_reducible refine Kd.C_drewN ?_ _) | (with_reducible refine Kd.C_drew ?_))); (case side2 => exact HC1_3.out); rintro e w27 ⟨v503, rfl, ho0, hb⟩; have n0_ := Aside0.mk (Kd.R_elder' (by (with_reducible repeat (first | apply Kd.R_alloc | apply Kd.R_drewN | apply Kd.R_drew)); exact HO500.out) (Kd.R_base ho0) hb); have n1_ := Aside0.mk (Kd.R_lower (Kd.R_new' ho0 (Kd.R_lt (by (with_reducible repeat (first | apply Kd.R_alloc | apply Kd.R_drewN | apply Kd.R_drew)); exact HO500.out))) (below_size (by repeat (first | (with_reducible first | exact HB.out | apply below_alloc | apply pw_below_drewN | apply below_drew1 | refine below_set ?_ GE493.out | refine below_set ?_ GE494.out) | exact HB.out)))); have n2_ := Aside0.mk (blk_below (g := gb493) (o := .cells #[.int .i64 a0_0, .string a0_1, .int .i64 a0_2, .slice A0_3 l0_3.length c0_3] 25 (0, 0)) (by (with_reducible repeat (first | refine blk_drewN ?_ _ | refine blk_drew ?_ | refine blk_alloc ?_ _)); exact BK493.out) hb); have n3_ := Aside0.mk (blk_below (g := gb494) (o := .cells #[.int .i64 a1_0, .string a1_1, .int .i64 a1_2, .slice A1_3 l1_3.length c1_3] 25 (0, 0)) (by (with_reducible repeat (first | refine blk_drewN ?_ _ | refine blk_drew ?_ | refine blk_alloc ?_ _)); exact BK494.out) hb); have n4_ := Aside0.mk (below_step (by repeat (first | (with_reducible first | exact HB.out | apply below_alloc | apply pw_below_drewN | apply below_drew1 | refine below_set ?_ GE493.out | refine below_set ?_ GE494.out) | exact HB.out)) hb); clear HO500; clear BK493; clear BK494; clear HB; have HO500 := n0_; have HO504 := n1_; have BK493 := n2_; have BK494 := n3_; have HB := n4_; clear n0_ n1_ n2_ n3_ n4_; (try clear hb); (try clear hb2); (try clear hk); (try clear hi); (try clear ho0))))
        (try simp only [Act.put, List.setIfInBounds_toArray, List.set_cons_zero, List.set_cons_succ])
        go_cut [37] (fun v37 wc => ∃ (kq : Nat) (x37_21 : Bool), v37 = .bool x37_21 ∧ Aside0 (aumbrylaw16_RecordSizes.j1 kq t495 t498 t501 t502 x37_21 a0_0 a0_1 a0_2 l0_3 a1_0 a1_1 a1_2 l1_3 = some r) ∧ Aside0 (kq ≤ kj3) ∧ Aside0 (Kd.R (Kd.int .u8) 5 wc w.heap.size (fun k_ => some k_ ≠ (v503 : Value).ownBlock) v499 t498) ∧ Aside0 (Kd.R (Kd.int .u8) 5 wc w.heap.size (fun k_ => some k_ ≠ (v499 : Value).ownBlock) v503 t502) ∧ Aside0 (wc.heap[gb493]? = some (.cells #[.int .i64 a0_0, .string a0_1, .int .i64 a0_2, (.slice A0_3 l0_3.length c0_3)] 25 (0, 0))) ∧ Aside0 (wc.heap[gb494]? = some (.cells #[.int .i64 a1_0, .string a1_1, .int .i64 a1_2, (.slice A1_3 l1_3.length c1_3)] 25 (0, 0))) ∧ Aside0 (Below w.heap.size w wc))
        case first =>
          have H := HC22.out
          clear HC22
          by_cases c28 : t501 = 0
          · rw [if_pos c28] at H
            have c28b0 : (t501 == 0) = true := beq_iff_eq.mpr c28
            have c28b1 : (t501 != 0) = false := bne_eq_false_iff_eq.mpr c28
            clear c28
            (first | rw [c28b0] | (simp only [i64_w, i32_w]; rw [c28b0]) | skip)
            have H' := Aside0.mk H
            clear H
            go_wp2
            repeat (go_quiet (fail); try go_wp2)
            go_meet
            case rel => exact ⟨_, ((t505 != 0)), (by first | rfl | (simp; done) | (simp [*]; done)), H', ⟨by have := HJ3.out; first | omega | exact Nat.le_refl _⟩, ⟨by (with_reducible repeat (first | apply Kd.R_alloc | apply Kd.R_drewN | apply Kd.R_drew)); exact Kd.R_mono HO500.out (fun _ hk => hk.2)⟩, ⟨by (with_reducible repeat (first | apply Kd.R_alloc | apply Kd.R_drewN | apply Kd.R_drew)); exact Kd.R_mono HO504.out (fun _ hk => hk.2)⟩, ⟨by (with_reducible repeat (first | refine blk_drewN ?_ _ | refine blk_drew ?_ | refine blk_alloc ?_ _)); exact BK493.out⟩, ⟨by (with_reducible repeat (first | refine blk_drewN ?_ _ | refine blk_drew ?_ | refine blk_alloc ?_ _)); exact BK494.out⟩, ⟨by repeat (first | (with_reducible first | exact HB.out | apply below_alloc | apply pw_below_drewN | apply below_drew1 | refine below_set ?_ GE493.out | refine below_set ?_ GE494.out) | exact HB.out)⟩⟩
          · rw [if_neg c28] at H
            have c28b0 : (t501 == 0) = false := beq_eq_false_iff_ne.mpr c28
            have c28b1 : (t501 != 0) = true := bne_iff_ne.mpr c28
            (first | rw [c28b0] | (simp only [i64_w, i32_w]; rw [c28b0]) | skip)
            have H' := Aside0.mk H
            clear H
            go_wp2
            repeat (go_quiet (fail); try go_wp2)
            go_meet
            case rel => exact ⟨_, (true), (by first | rfl | (simp; done) | (simp [*]; done)), H', ⟨by have := HJ3.out; first | omega | exact Nat.le_refl _⟩, ⟨by (with_reducible repeat (first | apply Kd.R_alloc | apply Kd.R_drewN | apply Kd.R_drew)); exact Kd.R_mono HO500.out (fun _ hk => hk.2)⟩, ⟨by (with_reducible repeat (first | apply Kd.R_alloc | apply Kd.R_drewN | apply Kd.R_drew)); exact Kd.R_mono HO504.out (fun _ hk => hk.2)⟩, ⟨by (with_reducible repeat (first | refine blk_drewN ?_ _ | refine blk_drew ?_ | refine blk_alloc ?_ _)); exact BK493.out⟩, ⟨by (with_reducible repeat (first | refine blk_drewN ?_ _ | refine blk_drew ?_ | refine blk_alloc ?_ _)); exact BK494.out⟩, ⟨by repeat (first | (with_reducible first | exact HB.out | apply below_alloc | apply pw_below_drewN | apply below_drew1 | refine below_set ?_ GE493.out | refine below_set ?_ GE494.out) | exact HB.out)⟩⟩
        case rest =>
          clear HC22
          try clear c1
          try clear c2
          try clear p2
          try clear c8
          try clear c9
          try clear c11
          try clear c16
          try clear c19
          try clear c23
          try clear c28
          try clear c28b0
          try clear c28b1
          try clear hcz12_0
          try clear hcz12_1
          try clear hcz12_2
          try clear hcz12_3
          try clear hcz14_0
          try clear hcz14_1
          try clear hcz14_2
          try clear hcz14_3
          try clear hcz17_0
          try clear hcz17_1
          try clear hcz17_2
          try clear hcz17_3
          try clear hcz24_0
          try clear hcz24_1
          try clear hcz24_2
          try clear hcz24_3
          try clear hcz26_0
          try clear hcz26_1
          try clear hcz26_2
          try clear hcz26_3
          try clear hfz12_0
          try clear hfz12_1
          try clear hfz12_2
          try clear hfz12_3
          try clear hfz14_0
          try clear hfz14_1
          try clear hfz14_2
          try clear hfz14_3
          try clear hfz17_0
          try clear hfz17_1
          try clear hfz17_2
          try clear hfz17_3
          try clear hfz24_0
          try clear hfz24_1
          try clear hfz24_2
          try clear hfz24_3
          try clear hfz26_0
          try clear hfz26_1
          try clear hfz26_2
          try clear hfz26_3
          try clear p2
          obtain ⟨kq, x37_21, rfl, HA, HJ21, HO_6, HO_8, BK493, BK494, HB⟩ := hcut
          cases kq with
          | zero => exact absurd HA.out (by simp [aumbrylaw16_RecordSizes.j1])
          | succ kj21 =>
            have H := HA.out
            clear HA
            simp only [aumbrylaw16_RecordSizes.j1] at H
            by_cases c29 : x37_21 = true
            · subst c29
              have H1 : (if t495 = true then (if t501 = 0 then (some true) else (some ((t498.length : Int) == 0))) else (some false)) = some r := by rw [if_pos rfl] at H; exact H
              clear H
              have H := H1
              clear H1
              by_cases c30 : t495 = true
              · subst c30
                have H1 : (if t501 = 0 then (some true) else (some ((t498.length : Int) == 0))) = some r := by rw [if_pos rfl] at H; exact H
                clear H
                have H := H1
                clear H1
                by_cases c31 : t501 = 0
                · rw [if_pos c31] at H
                  have c31b0 : (t501 == 0) = true := beq_iff_eq.mpr c31
                  have c31b1 : (t501 != 0) = false := bne_eq_false_iff_eq.mpr c31
                  clear c31
                  obtain rfl := Option.some.inj H
                  go_wp2
                  repeat (go_quiet (fail); try go_wp2)
                  go_ret
                  exact ⟨by first | rfl | (simp [errW_none, errW_some] <;> rfl) | (simp [*, errW_none, errW_some] <;> rfl), by repeat (first | (with_reducible first | exact HB.out | apply below_alloc | apply pw_below_drewN | apply below_drew1 | refine below_set ?_ GE493.out | refine below_set ?_ GE494.out) | exact HB.out)⟩
                · rw [if_neg c31] at H
                  have c31b0 : (t501 == 0) = false := beq_eq_false_iff_ne.mpr c31
                  have c31b1 : (t501 != 0) = true := bne_iff_ne.mpr c31
                  obtain rfl := Option.some.inj H
                  obtain ⟨Ao32, co32, eo32⟩ := Kd.R_slice HO_6.out
                  subst eo32
                  go_wp2
                  repeat (go_quiet (fail); try go_wp2)
                  go_ret
                  exact ⟨by first | rfl | (simp [errW_none, errW_some] <;> rfl) | (simp [*, errW_none, errW_some] <;> rfl), by repeat (first | (with_reducible first | exact HB.out | apply below_alloc | apply pw_below_drewN | apply below_drew1 | refine below_set ?_ GE493.out | refine below_set ?_ GE494.out) | exact HB.out)⟩
              · replace c30 := Bool.eq_false_iff.mpr c30
                subst c30
                have H1 : (some false) = some r := by rw [if_neg (show ¬ (false = true) by decide)] at H; exact H
                clear H
                have H := H1
                clear H1
                exact absurd (H.trans (congrArg some hrt.out)) (by decide)
            · replace c29 := Bool.eq_false_iff.mpr c29
              subst c29
              have H1 : ((aumbryref02_Same.f kj21 t498 t502).bind fun t506 => ((aumbryref16_Same.f kj21 a0_0 a0_1 a0_2 l0_3 a1_0 a1_1 a1_2 l1_3).bind fun t507 => (if t495 = true then (if (t498.length : Int) = (wrap64 ((wrap64 (8 + (a0_1.size : Int))) + (wrap64 (2 * (l0_3.length : Int))))) then (if (t498.length : Int) > 0 then (if 0 < (t498.length : Int) then (if (wrap64 (rd t498 0)) = a0_0 then (some (t506 == t507)) else (some false)) else (none)) else (some false)) else (some false)) else (some false)))) = some r := by rw [if_neg (show ¬ (false = true) by decide)] at H; exact H
              clear H
              have H := H1
              clear H1
              replace H := Option.bind_eq_some_iff.mp H
              obtain ⟨t506, A330, H⟩ := H
              replace H : ((aumbryref16_Same.f kj21 a0_0 a0_1 a0_2 l0_3 a1_0 a1_1 a1_2 l1_3).bind fun t507 => (if t495 = true then (if (t498.length : Int) = (wrap64 ((wrap64 (8 + (a0_1.size : Int))) + (wrap64 (2 * (l0_3.length : Int))))) then (if (t498.length : Int) > 0 then (if 0 < (t498.length : Int) then (if (wrap64 (rd t498 0)) = a0_0 then (some (t506 == t507)) else (some false)) else (none)) else (some false)) else (some false)) else (some false))) = some r := H
              have A33 := Aside0.mk A330
              clear A330
              replace H := Option.bind_eq_some_iff.mp H
              obtain ⟨t507, A340, H⟩ := H
              replace H : (if t495 = true then (if (t498.length : Int) = (wrap64 ((wrap64 (8 + (a0_1.size : Int))) + (wrap64 (2 * (l0_3.length : Int))))) then (if (t498.length : Int) > 0 then (if 0 < (t498.length : Int) then (if (wrap64 (rd t498 0)) = a0_0 then (some (t506 == t507)) else (some false)) else (none)) else (some false)) else (some false)) else (some false)) = some r := H
              have A34 := Aside0.mk A340
              clear A340
              by_cases c35 : t495 = true
              · subst c35
                have H1 : (if (t498.length : Int) = (wrap64 ((wrap64 (8 + (a0_1.size : Int))) + (wrap64 (2 * (l0_3.length : Int))))) then (if (t498.length : Int) > 0 then (if 0 < (t498.length : Int) then (if (wrap64 (rd t498 0)) = a0_0 then (some (t506 == t507)) else (some false)) else (none)) else (some false)) else (some false)) = some r := by rw [if_pos rfl] at H; exact H
                clear H
                have H := H1
                clear H1
                by_cases c36 : (t498.length : Int) = (wrap64 ((wrap64 (8 + (a0_1.size : Int))) + (wrap64 (2 * (l0_3.length : Int)))))
                · rw [if_pos c36] at H
                  have c36b0 : ((t498.length : Int) == (wrap64 ((wrap64 (8 + (a0_1.size : Int))) + (wrap64 (2 * (l0_3.length : Int)))))) = true := beq_iff_eq.mpr c36
                  have c36b1 : ((t498.length : Int) != (wrap64 ((wrap64 (8 + (a0_1.size : Int))) + (wrap64 (2 * (l0_3.length : Int)))))) = false := bne_eq_false_iff_eq.mpr c36
                  clear c36
                  by_cases c37 : (t498.length : Int) > 0
                  · rw [if_pos c37] at H
                    have c37b0 : decide (0 < (t498.length : Int)) = true := decide_eq_true c37
                    have c37b1 : decide (0 < t498.length) = true := decide_eq_true (by omega)
                    clear c37
                    by_cases c38 : 0 < (t498.length : Int)
                    · rw [if_pos c38] at H
                      have c38b0 : decide (0 < (t498.length : Int)) = true := decide_eq_true c38
                      have c38b1 : decide (0 < t498.length) = true := decide_eq_true (by omega)
                      clear c38
                      by_cases c39 : (wrap64 (rd t498 0)) = a0_0
                      · rw [if_pos c39] at H
                        have c39b0 : ((wrap64 (rd t498 0)) == a0_0) = true := beq_iff_eq.mpr c39
                        have c39b1 : ((wrap64 (rd t498 0)) != a0_0) = false := bne_eq_false_iff_eq.mpr c39
                        clear c39
                        obtain rfl := Option.some.inj H
                        obtain ⟨Ao40, co40, eo40⟩ := Kd.R_slice HO_6.out
                        subst eo40
                        obtain ⟨Ao41, co41, eo41⟩ := Kd.R_slice HO_8.out
                        subst eo41
                        go_wp2_with (first | (go_at_call 15; (with_reducible refine (aumbryref02_Same.calls kj21 _ _ t498 _ _ t502 t506 _ ?side1 ?side2 ?side3 ?side4 A33.out).mono ?_); (case side1 => repeat (first | exact (Kd.R_reads' HO_6.out).2.2 | (with_reducible refine Kd.C_alloc ?_ _) | (with_reducible refine Kd.C_drewN ?_ _) | (with_reducible refine Kd.C_drew ?_))); (case side2 => exact (Kd.R_reads' HO_6.out).2.1); (case side3 => repeat (first | exact (Kd.R_reads' HO_8.out).2.2 | (with_reducible refine Kd.C_alloc ?_ _) | (with_reducible refine Kd.C_drewN ?_ _) | (with_reducible refine Kd.C_drew ?_))); (case side4 => exact (Kd.R_reads' HO_8.out).2.1); rintro e w' ⟨rfl, ⟨nd, rfl⟩⟩; (try first | exact ⟨rfl, _, World.drewN_drewN _ _ _⟩ | exact ⟨rfl, _, Eq.trans (World.drewN_drewN _ _ _) (congrArg (World.drewN _) (Nat.add_assoc _ _ _))⟩); have hnb42 := NB493_494.out; have hnc42 := NB494_493.out; have hcz43_0 : wc.cell? ⟨gb493, 0, none⟩ = some (.int .i64 a0_0) := (blk_cell BK493.out 0).trans rfl; have hcz43_1 : wc.cell? ⟨gb493, 1, none⟩ = some (.string a0_1) := (blk_cell BK493.out 1).trans rfl; have hcz43_2 : wc.cell? ⟨gb493, 2, none⟩ = some (.int .i64 a0_2) := (blk_cell BK493.out 2).trans rfl; have hcz43_3 : wc.cell? ⟨gb493, 3, none⟩ = some (.slice A0_3 l0_3.length c0_3) := (blk_cell BK493.out 3).trans rfl; have hfz43_0 := blk_frozen BK493.out 0; have hfz43_1 := blk_frozen BK493.out 1; have hfz43_2 := blk_frozen BK493.out 2; have hfz43_3 := blk_frozen BK493.out 3; have hcz44_0 : wc.cell? ⟨gb494, 0, none⟩ = some (.int .i64 a1_0) := (blk_cell BK494.out 0).trans rfl; have hcz44_1 : wc.cell? ⟨gb494, 1, none⟩ = some (.string a1_1) := (blk_cell BK494.out 1).trans rfl; have hcz44_2 : wc.cell? ⟨gb494, 2, none⟩ = some (.int .i64 a1_2) := (blk_cell BK494.out 2).trans rfl; have hcz44_3 : wc.cell? ⟨gb494, 3, none⟩ = some (.slice A1_3 l1_3.length c1_3) := (blk_cell BK494.out 3).trans rfl; have hfz44_0 := blk_frozen BK494.out 0; have hfz44_1 := blk_frozen BK494.out 1; have hfz44_2 := blk_frozen BK494.out 2; have hfz44_3 := blk_frozen BK494.out 3) | (go_at_call 16; (with_reducible refine (aumbryref16_Same.calls kj21 a0_0 a0_1 a0_2 _ _ l0_3 a1_0 a1_1 a1_2 _ _ l1_3 t507 _ ?side1 ?side2 ?side3 ?side4 A34.out).mono ?_); (case side1 => repeat (first | exact (Kd.C_below HR0_3.out (by repeat (first | (with_reducible first | exact HB.out | apply below_alloc | apply pw_below_drewN | apply below_drew1 | refine below_set ?_ GE493.out | refine below_set ?_ GE494.out) | exact HB.out))) | (with_reducible refine Kd.C_alloc ?_ _) | (with_reducible refine Kd.C_drewN ?_ _) | (with_reducible refine Kd.C_drew ?_))); (case side2 => exact HC0_3.out); (case side3 => repeat (first | exact (Kd.C_below HR1_3.out (by repeat (first | (with_reducible first | exact HB.out | apply below_alloc | apply pw_below_drewN | apply below_drew1 | refine below_set ?_ GE493.out | refine below_set ?_ GE494.out) | exact HB.out))) | (with_reducible refine Kd.C_alloc ?_ _) | (with_reducible refine Kd.C_drewN ?_ _) | (with_reducible refine Kd.C_drew ?_))); (case side4 => exact HC1_3.out); rintro e w45 ⟨rfl, hb⟩; have n0_ := Aside0.mk (Kd.R_below (by (with_reducible repeat (first | apply Kd.R_alloc | apply Kd.R_drewN | apply Kd.R_drew)); exact HO_6.out) hb); have n1_ := Aside0.mk (Kd.R_below (by (with_reducible repeat (first | apply Kd.R_alloc | apply Kd.R_drewN | apply Kd.R_drew)); exact HO_8.out) hb); have n2_ := Aside0.mk (blk_below (g := gb493) (o := .cells #[.int .i64 a0_0, .string a0_1, .int .i64 a0_2, .slice A0_3 l0_3.length c0_3] 25 (0, 0)) (by (with_reducible repeat (first | refine blk_drewN ?_ _ | refine blk_drew ?_ | refine blk_alloc ?_ _)); exact BK493.out) hb); have n3_ := Aside0.mk (blk_below (g := gb494) (o := .cells #[.int .i64 a1_0, .string a1_1, .int .i64 a1_2, .slice A1_3 l1_3.length c1_3] 25 (0, 0)) (by (with_reducible repeat (first | refine blk_drewN ?_ _ | refine blk_drew ?_ | refine blk_alloc ?_ _)); exact BK494.out) hb); have n4_ := Aside0.mk (below_step (by repeat (first | (with_reducible first | exact HB.out | apply below_alloc | apply pw_below_drewN | apply below_drew1 | refine below_set ?_ GE493.out | refine below_set ?_ GE494.out) | exact HB.out)) hb); clear HO_6; clear HO_8; clear BK493; clear BK494; clear HB; have HO_6 := n0_; have HO_8 := n1_; have BK493 := n2_; have BK494 := n3_; have HB := n4_; clear n0_ n1_ n2_ n3_ n4_; (try clear hb); (try clear hb2); (try clear hk); (try clear hi); have hcz46_0 : w45.cell? ⟨gb493, 0, none⟩ = some (.int .i64 a0_0) := (blk_cell BK493.out 0).trans rfl; have hcz46_1 : w45.cell? ⟨gb493, 1, none⟩ = some (.string a0_1) := (blk_cell BK493.out 1).trans rfl; have hcz46_2 : w45.cell? ⟨gb493, 2, none⟩ = some (.int .i64 a0_2) := (blk_cell BK493.out 2).trans rfl; have hcz46_3 : w45.cell? ⟨gb493, 3, none⟩ = some (.slice A0_3 l0_3.length c0_3) := (blk_cell BK493.out 3).trans rfl; have hfz46_0 := blk_frozen BK493.out 0; have hfz46_1 := blk_frozen BK493.out 1; have hfz46_2 := blk_frozen BK493.out 2; have hfz46_3 := blk_frozen BK493.out 3; have p508 : 0 ≤ (0 : Int) := (by omega); have q508 : 0 < (t498.length : Int) := of_decide_eq_true (by first | (with_reducible assumption) | assumption); obtain ⟨ad508, e508, hx508_0⟩ := Kd.at_int (Kd.R_reads' HO_6.out).2.2 0 p508 q508; cases e508; have qi508 : (0 < t498.length) = True := eq_true (by omega); (try rw [show ((0 : Int)).toNat = 0 from rfl] at hx508_0); (try rw [Addr.add_zero'] at hx508_0); replace p508 := eq_true p508; replace q508 := eq_true q508))
                        repeat (go_quiet (first | (go_at_call 15; (with_reducible refine (aumbryref02_Same.calls kj21 _ _ t498 _ _ t502 t506 _ ?side1 ?side2 ?side3 ?side4 A33.out).mono ?_); (case side1 => repeat (first | exact (Kd.R_reads' HO_6.out).2.2 | (with_reducible refine Kd.C_alloc ?_ _) | (with_reducible refine Kd.C_drewN ?_ _) | (with_reducible refine Kd.C_drew ?_))); (case side2 => exact (Kd.R_reads' HO_6.out).2.1); (case side3 => repeat (first | exact (Kd.R_reads' HO_8.out).2.2 | (with_reducible refine Kd.C_alloc ?_ _) | (with_reducible refine Kd.C_drewN ?_ _) | (with_reducible refine Kd.C_drew ?_))); (case side4 => exact (Kd.R_reads' HO_8.out).2.1); rintro e w' ⟨rfl, ⟨nd, rfl⟩⟩; (try first | exact ⟨rfl, _, World.drewN_drewN _ _ _⟩ | exact ⟨rfl, _, Eq.trans (World.drewN_drewN _ _ _) (congrArg (World.drewN _) (Nat.add_assoc _ _ _))⟩); have hnb42 := NB493_494.out; have hnc42 := NB494_493.out; have hcz43_0 : wc.cell? ⟨gb493, 0, none⟩ = some (.int .i64 a0_0) := (blk_cell BK493.out 0).trans rfl; have hcz43_1 : wc.cell? ⟨gb493, 1, none⟩ = some (.string a0_1) := (blk_cell BK493.out 1).trans rfl; have hcz43_2 : wc.cell? ⟨gb493, 2, none⟩ = some (.int .i64 a0_2) := (blk_cell BK493.out 2).trans rfl; have hcz43_3 : wc.cell? ⟨gb493, 3, none⟩ = some (.slice A0_3 l0_3.length c0_3) := (blk_cell BK493.out 3).trans rfl; have hfz43_0 := blk_frozen BK493.out 0; have hfz43_1 := blk_frozen BK493.out 1; have hfz43_2 := blk_frozen BK493.out 2; have hfz43_3 := blk_frozen BK493.out 3; have hcz44_0 : wc.cell? ⟨gb494, 0, none⟩ = some (.int .i64 a1_0) := (blk_cell BK494.out 0).trans rfl; have hcz44_1 : wc.cell? ⟨gb494, 1, none⟩ = some (.string a1_1) := (blk_cell BK494.out 1).trans rfl; have hcz44_2 : wc.cell? ⟨gb494, 2, none⟩ = some (.int .i64 a1_2) := (blk_cell BK494.out 2).trans rfl; have hcz44_3 : wc.cell? ⟨gb494, 3, none⟩ = some (.slice A1_3 l1_3.length c1_3) := (blk_cell BK494.out 3).trans rfl; have hfz44_0 := blk_frozen BK494.out 0; have hfz44_1 := blk_frozen BK494.out 1; have hfz44_2 := blk_frozen BK494.out 2; have hfz44_3 := blk_frozen BK494.out 3) | (go_at_call 16; (with_reducible refine (aumbryref16_Same.calls kj21 a0_0 a0_1 a0_2 _ _ l0_3 a1_0 a1_1 a1_2 _ _ l1_3 t507 _ ?side1 ?side2 ?side3 ?side4 A34.out).mono ?_); (case side1 => repeat (first | exact (Kd.C_below HR0_3.out (by repeat (first | (with_reducible first | exact HB.out | apply below_alloc | apply pw_below_drewN | apply below_drew1 | refine below_set ?_ GE493.out | refine below_set ?_ GE494.out) | exact HB.out))) | (with_reducible refine Kd.C_alloc ?_ _) | (with_reducible refine Kd.C_drewN ?_ _) | (with_reducible refine Kd.C_drew ?_))); (case side2 => exact HC0_3.out); (case side3 => repeat (first | exact (Kd.C_below HR1_3.out (by repeat (first | (with_reducible first | exact HB.out | apply below_alloc | apply pw_below_drewN | apply below_drew1 | refine below_set ?_ GE493.out | refine below_set ?_ GE494.out) | exact HB.out))) | (with_reducible refine Kd.C_alloc ?_ _) | (with_reducible refine Kd.C_drewN ?_ _) | (with_reducible refine Kd.C_drew ?_))); (case side4 => exact HC1_3.out); rintro e w45 ⟨rfl, hb⟩; have n0_ := Aside0.mk (Kd.R_below (by (with_reducible repeat (first | apply Kd.R_alloc | apply Kd.R_drewN | apply Kd.R_drew)); exact HO_6.out) hb); have n1_ := Aside0.mk (Kd.R_below (by (with_reducible repeat (first | apply Kd.R_alloc | apply Kd.R_drewN | apply Kd.R_drew)); exact HO_8.out) hb); have n2_ := Aside0.mk (blk_below (g := gb493) (o := .cells #[.int .i64 a0_0, .string a0_1, .int .i64 a0_2, .slice A0_3 l0_3.length c0_3] 25 (0, 0)) (by (with_reducible repeat (first | refine blk_drewN ?_ _ | refine blk_drew ?_ | refine blk_alloc ?_ _)); exact BK493.out) hb); have n3_ := Aside0.mk (blk_below (g := gb494) (o := .cells #[.int .i64 a1_0, .string a1_1, .int .i64 a1_2, .slice A1_3 l1_3.length c1_3] 25 (0, 0)) (by (with_reducible repeat (first | refine blk_drewN ?_ _ | refine blk_drew ?_ | refine blk_alloc ?_ _)); exact BK494.out) hb); have n4_ := Aside0.mk (below_step (by repeat (first | (with_reducible first | exact HB.out | apply below_alloc | apply pw_below_drewN | apply below_drew1 | refine below_set ?_ GE493.out | refine below_set ?_ GE494.out) | exact HB.out)) hb); clear HO_6; clear HO_8; clear BK493; clear BK494; clear HB; have HO_6 := n0_; have HO_8 := n1_; have BK493 := n2_; have BK494 := n3_; have HB := n4_; clear n0_ n1_ n2_ n3_ n4_; (try clear hb); (try clear hb2); (try clear hk); (try clear hi); have hcz46_0 : w45.cell? ⟨gb493, 0, none⟩ = some (.int .i64 a0_0) := (blk_cell BK493.out 0).trans rfl; have hcz46_1 : w45.cell? ⟨gb493, 1, none⟩ = some (.string a0_1) := (blk_cell BK493.out 1).trans rfl; have hcz46_2 : w45.cell? ⟨gb493, 2, none⟩ = some (.int .i64 a0_2) := (blk_cell BK493.out 2).trans rfl; have hcz46_3 : w45.cell? ⟨gb493, 3, none⟩ = some (.slice A0_3 l0_3.length c0_3) := (blk_cell BK493.out 3).trans rfl; have hfz46_0 := blk_frozen BK493.out 0; have hfz46_1 := blk_frozen BK493.out 1; have hfz46_2 := blk_frozen BK493.out 2; have hfz46_3 := blk_frozen BK493.out 3; have p508 : 0 ≤ (0 : Int) := (by omega); have q508 : 0 < (t498.length : Int) := of_decide_eq_true (by first | (with_reducible assumption) | assumption); obtain ⟨ad508, e508, hx508_0⟩ := Kd.at_int (Kd.R_reads' HO_6.out).2.2 0 p508 q508; cases e508; have qi508 : (0 < t498.length) = True := eq_true (by omega); (try rw [show ((0 : Int)).toNat = 0 from rfl] at hx508_0); (try rw [Addr.add_zero'] at hx508_0); replace p508 := eq_true p508; replace q508 := eq_true q508)); try go_wp2_with (first | (go_at_call 15; (with_reducible refine (aumbryref02_Same.calls kj21 _ _ t498 _ _ t502 t506 _ ?side1 ?side2 ?side3 ?side4 A33.out).mono ?_); (case side1 => repeat (first | exact (Kd.R_reads' HO_6.out).2.2 | (with_reducible refine Kd.C_alloc ?_ _) | (with_reducible refine Kd.C_drewN ?_ _) | (with_reducible refine Kd.C_drew ?_))); (case side2 => exact (Kd.R_reads' HO_6.out).2.1); (case side3 => repeat (first | exact (Kd.R_reads' HO_8.out).2.2 | (with_reducible refine Kd.C_alloc ?_ _) | (with_reducible refine Kd.C_drewN ?_ _) | (with_reducible refine Kd.C_drew ?_))); (case side4 => exact (Kd.R_reads' HO_8.out).2.1); rintro e w' ⟨rfl, ⟨nd, rfl⟩⟩; (try first | exact ⟨rfl, _, World.drewN_drewN _ _ _⟩ | exact ⟨rfl, _, Eq.trans (World.drewN_drewN _ _ _) (congrArg (World.drewN _) (Nat.add_assoc _ _ _))⟩); have hnb42 := NB493_494.out; have hnc42 := NB494_493.out; have hcz43_0 : wc.cell? ⟨gb493, 0, none⟩ = some (.int .i64 a0_0) := (blk_cell BK493.out 0).trans rfl; have hcz43_1 : wc.cell? ⟨gb493, 1, none⟩ = some (.string a0_1) := (blk_cell BK493.out 1).trans rfl; have hcz43_2 : wc.cell? ⟨gb493, 2, none⟩ = some (.int .i64 a0_2) := (blk_cell BK493.out 2).trans rfl; have hcz43_3 : wc.cell? ⟨gb493, 3, none⟩ = some (.slice A0_3 l0_3.length c0_3) := (blk_cell BK493.out 3).trans rfl; have hfz43_0 := blk_frozen BK493.out 0; have hfz43_1 := blk_frozen BK493.out 1; have hfz43_2 := blk_frozen BK493.out 2; have hfz43_3 := blk_frozen BK493.out 3; have hcz44_0 : wc.cell? ⟨gb494, 0, none⟩ = some (.int .i64 a1_0) := (blk_cell BK494.out 0).trans rfl; have hcz44_1 : wc.cell? ⟨gb494, 1, none⟩ = some (.string a1_1) := (blk_cell BK494.out 1).trans rfl; have hcz44_2 : wc.cell? ⟨gb494, 2, none⟩ = some (.int .i64 a1_2) := (blk_cell BK494.out 2).trans rfl; have hcz44_3 : wc.cell? ⟨gb494, 3, none⟩ = some (.slice A1_3 l1_3.length c1_3) := (blk_cell BK494.out 3).trans rfl; have hfz44_0 := blk_frozen BK494.out 0; have hfz44_1 := blk_frozen BK494.out 1; have hfz44_2 := blk_frozen BK494.out 2; have hfz44_3 := blk_frozen BK494.out 3) | (go_at_call 16; (with_reducible refine (aumbryref16_Same.calls kj21 a0_0 a0_1 a0_2 _ _ l0_3 a1_0 a1_1 a1_2 _ _ l1_3 t507 _ ?side1 ?side2 ?side3 ?side4 A34.out).mono ?_); (case side1 => repeat (first | exact (Kd.C_below HR0_3.out (by repeat (first | (with_reducible first | exact HB.out | apply below_alloc | apply pw_below_drewN | apply below_drew1 | refine below_set ?_ GE493.out | refine below_set ?_ GE494.out) | exact HB.out))) | (with_reducible refine Kd.C_alloc ?_ _) | (with_reducible refine Kd.C_drewN ?_ _) | (with_reducible refine Kd.C_drew ?_))); (case side2 => exact HC0_3.out); (case side3 => repeat (first | exact (Kd.C_below HR1_3.out (by repeat (first | (with_reducible first | exact HB.out | apply below_alloc | apply pw_below_drewN | apply below_drew1 | refine below_set ?_ GE493.out | refine below_set ?_ GE494.out) | exact HB.out))) | (with_reducible refine Kd.C_alloc ?_ _) | (with_reducible refine Kd.C_drewN ?_ _) | (with_reducible refine Kd.C_drew ?_))); (case side4 => exact HC1_3.out); rintro e w45 ⟨rfl, hb⟩; have n0_ := Aside0.mk (Kd.R_below (by (with_reducible repeat (first | apply Kd.R_alloc | apply Kd.R_drewN | apply Kd.R_drew)); exact HO_6.out) hb); have n1_ := Aside0.mk (Kd.R_below (by (with_reducible repeat (first | apply Kd.R_alloc | apply Kd.R_drewN | apply Kd.R_drew)); exact HO_8.out) hb); have n2_ := Aside0.mk (blk_below (g := gb493) (o := .cells #[.int .i64 a0_0, .string a0_1, .int .i64 a0_2, .slice A0_3 l0_3.length c0_3] 25 (0, 0)) (by (with_reducible repeat (first | refine blk_drewN ?_ _ | refine blk_drew ?_ | refine blk_alloc ?_ _)); exact BK493.out) hb); have n3_ := Aside0.mk (blk_below (g := gb494) (o := .cells #[.int .i64 a1_0, .string a1_1, .int .i64 a1_2, .slice A1_3 l1_3.length c1_3] 25 (0, 0)) (by (with_reducible repeat (first | refine blk_drewN ?_ _ | refine blk_drew ?_ | refine blk_alloc ?_ _)); exact BK494.out) hb); have n4_ := Aside0.mk (below_step (by repeat (first | (with_reducible first | exact HB.out | apply below_alloc | apply pw_below_drewN | apply below_drew1 | refine below_set ?_ GE493.out | refine below_set ?_ GE494.out) | exact HB.out)) hb); clear HO_6; clear HO_8; clear BK493; clear BK494; clear HB; have HO_6 := n0_; have HO_8 := n1_; have BK493 := n2_; have BK494 := n3_; have HB := n4_; clear n0_ n1_ n2_ n3_ n4_; (try clear hb); (try clear hb2); (try clear hk); (try clear hi); have hcz46_0 : w45.cell? ⟨gb493, 0, none⟩ = some (.int .i64 a0_0) := (blk_cell BK493.out 0).trans rfl; have hcz46_1 : w45.cell? ⟨gb493, 1, none⟩ = some (.string a0_1) := (blk_cell BK493.out 1).trans rfl; have hcz46_2 : w45.cell? ⟨gb493, 2, none⟩ = some (.int .i64 a0_2) := (blk_cell BK493.out 2).trans rfl; have hcz46_3 : w45.cell? ⟨gb493, 3, none⟩ = some (.slice A0_3 l0_3.length c0_3) := (blk_cell BK493.out 3).trans rfl; have hfz46_0 := blk_frozen BK493.out 0; have hfz46_1 := blk_frozen BK493.out 1; have hfz46_2 := blk_frozen BK493.out 2; have hfz46_3 := blk_frozen BK493.out 3; have p508 : 0 ≤ (0 : Int) := (by omega); have q508 : 0 < (t498.length : Int) := of_decide_eq_true (by first | (with_reducible assumption) | assumption); obtain ⟨ad508, e508, hx508_0⟩ := Kd.at_int (Kd.R_reads' HO_6.out).2.2 0 p508 q508; cases e508; have qi508 : (0 < t498.length) = True := eq_true (by omega); (try rw [show ((0 : Int)).toNat = 0 from rfl] at hx508_0); (try rw [Addr.add_zero'] at hx508_0); replace p508 := eq_true p508; replace q508 := eq_true q508)))
                        go_ret
                        exact ⟨by first | rfl | (simp [errW_none, errW_some] <;> rfl) | (simp [*, errW_none, errW_some] <;> rfl), by repeat (first | (with_reducible first | exact HB.out | apply below_alloc | apply pw_below_drewN | apply below_drew1 | refine below_set ?_ GE493.out | refine below_set ?_ GE494.out) | exact HB.out)⟩
                      · rw [if_neg c39] at H
                        have c39b0 : ((wrap64 (rd t498 0)) == a0_0) = false := beq_eq_false_iff_ne.mpr c39
                        have c39b1 : ((wrap64 (rd t498 0)) != a0_0) = true := bne_iff_ne.mpr c39
                        exact absurd (H.trans (congrArg some hrt.out)) (by decide)
                    · rw [if_neg c38] at H
                      exact absurd H (by simp)
                  · rw [if_neg c37] at H
                    have c37b0 : decide (0 < (t498.length : Int)) = false := decide_eq_false c37
                    have c37b1 : decide (0 < t498.length) = false := decide_eq_false (by omega)
                    clear c37
                    exact absurd (H.trans (congrArg some hrt.out)) (by decide)
                · rw [if_neg c36] at H
                  have c36b0 : ((t498.length : Int) == (wrap64 ((wrap64 (8 + (a0_1.size : Int))) + (wrap64 (2 * (l0_3.length : Int)))))) = false := beq_eq_false_iff_ne.mpr c36
                  have c36b1 : ((t498.length : Int) != (wrap64 ((wrap64 (8 + (a0_1.size : Int))) + (wrap64 (2 * (l0_3.length : Int)))))) = true := bne_iff_ne.mpr c36
                  exact absurd (H.trans (congrArg some hrt.out)) (by decide)
              · replace c35 := Bool.eq_false_iff.mpr c35
                subst c35
                have H1 : (some false) = some r := by rw [if_neg (show ¬ (false = true) by decide)] at H; exact H
                clear H
                have H := H1
                clear H1
                exact absurd (H.trans (congrArg some hrt.out)) (by decide)

end Go.Proofs.Ytoeegdpkmdgkdaa.PAll
