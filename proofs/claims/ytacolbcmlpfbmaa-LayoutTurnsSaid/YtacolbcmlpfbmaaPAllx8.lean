-- LAID BY A PROGRAM OF THIS SESSION (wip/tools: the kit's print with changes of our own)
import Derived.Test.YtacolbcmlpfbmaaPAllx0
import Derived.Test.YtacolbcmlpfbmaaPAllx1
import Derived.Test.YtacolbcmlpfbmaaPAllx2
import Derived.Test.YtacolbcmlpfbmaaPAllx3
namespace Go.Proofs.Ytacolbcmlpfbmaa.PAll
open Go.RowKit Go.Proofs.YtacolbcmlpfbmaaW.PrintWords Go.Proofs.YtacolbcmlpfbmaaW.PrintLast Go.Proofs.YtacolbcmlpfbmaaW.PrintMore
attribute [local go_sem] max2_int min2_int max_two min_two max_three min_three max_four min_four   -- for this text's walks alone
set_option linter.unusedVariables false
set_option linter.unusedSimpArgs false

/-! ### aumbrylaw14_LayoutTurns: function 6 -/
mutual
def aumbrylaw14_LayoutTurns.j0 : Nat → Int → Bool → Bool → Int → Int → Int → Int → Int → Int → Option (Bool)
  | 0, _, _, _, _, _, _, _, _, _ => none
  | k + 1, x1, x5, x23, x217000, x217001, x217002, x217003, x217004, x217005 => if x23 = true then (some x5) else (if 32 ≤ 281474976710656 then (aumbrylaw14_LayoutTurns.l0 k x1 x5 (wrap64 (x217000 + x217001)) (List.replicate 32 false) 0 x217000 x217001 x217002 x217003 x217004 x217005) else (none))
def aumbrylaw14_LayoutTurns.l0 : Nat → Int → Bool → Int → List Bool → Int → Int → Int → Int → Int → Int → Int → Option (Bool)
  | 0, _, _, _, _, _, _, _, _, _, _, _ => none
  | k + 1, x1, x5, x6, x7, x8, x217000, x217001, x217002, x217003, x217004, x217005 => if x8 < x6 then (aumbrylaw14_LayoutTurns.j2 k x1 x5 x6 x7 x8 (decide (x8 < 32)) x217000 x217001 x217002 x217003 x217004 x217005) else (aumbrylaw14_LayoutTurns.j2 k x1 x5 x6 x7 x8 false x217000 x217001 x217002 x217003 x217004 x217005)
def aumbrylaw14_LayoutTurns.j2 : Nat → Int → Bool → Int → List Bool → Int → Bool → Int → Int → Int → Int → Int → Int → Option (Bool)
  | 0, _, _, _, _, _, _, _, _, _, _, _, _ => none
  | k + 1, x1, x5, x6, x7, x8, x37, x217000, x217001, x217002, x217003, x217004, x217005 => if x37 = true then ((layout_Disk.f k x217000 x217001 x217002 x217003 x217004 x217005 x1 x8).bind fun t222 => (if t222 < 0 then (aumbrylaw14_LayoutTurns.j3 k x1 x5 x6 x7 x8 t222 true x217000 x217001 x217002 x217003 x217004 x217005) else (if t222 ≥ x6 then (aumbrylaw14_LayoutTurns.j3 k x1 x5 x6 x7 x8 t222 true x217000 x217001 x217002 x217003 x217004 x217005) else (if 0 ≤ t222 then (if t222 < (x7.length : Int) then (if rdOf false x7 t222 = true then (aumbrylaw14_LayoutTurns.j3 k x1 x5 x6 x7 x8 t222 true x217000 x217001 x217002 x217003 x217004 x217005) else ((layout_Shard.f k x217000 x217001 x217002 x217003 x217004 x217005 x1 t222).bind fun t224 => (aumbrylaw14_LayoutTurns.j3 k x1 x5 x6 x7 x8 t222 (t224 != x8) x217000 x217001 x217002 x217003 x217004 x217005))) else (none)) else (none))))) else (some x5)
def aumbrylaw14_LayoutTurns.j3 : Nat → Int → Bool → Int → List Bool → Int → Int → Bool → Int → Int → Int → Int → Int → Int → Option (Bool)
  | 0, _, _, _, _, _, _, _, _, _, _, _, _, _ => none
  | k + 1, x1, x5, x6, x7, x8, x9, x64, x217000, x217001, x217002, x217003, x217004, x217005 => if x64 = true then (some false) else (if 0 ≤ x9 then (if x9 < (x7.length : Int) then (aumbrylaw14_LayoutTurns.l0 k x1 x5 x6 (x7.set (x9 : Int).toNat true) (wrap64 (x8 + 1)) x217000 x217001 x217002 x217003 x217004 x217005) else (none)) else (none))
end
def aumbrylaw14_LayoutTurns.f (k : Nat) (a0_0 : Int) (a0_1 : Int) (a0_2 : Int) (a0_3 : Int) (a0_4 : Int) (a0_5 : Int) (a1 : Int) : Option (Bool) := (aumbrylaw14_awake.f k).bind fun t217 => ((layout_Check.f k a0_0 a0_1 a0_2 a0_3 a0_4 a0_5).bind fun t218 => (if t218 = 0 then (if a1 < 0 then (aumbrylaw14_LayoutTurns.j0 k a1 t217 true a0_0 a0_1 a0_2 a0_3 a0_4 a0_5) else (aumbrylaw14_LayoutTurns.j0 k a1 t217 (decide (a1 ≥ a0_3)) a0_0 a0_1 a0_2 a0_3 a0_4 a0_5)) else (aumbrylaw14_LayoutTurns.j0 k a1 t217 true a0_0 a0_1 a0_2 a0_3 a0_4 a0_5)))
theorem aumbrylaw14_LayoutTurns.mono_l : ∀ k, (∀ y0 y1 y2 y3 y4 y5 y6 y7 y8, LeO (aumbrylaw14_LayoutTurns.j0 k y0 y1 y2 y3 y4 y5 y6 y7 y8) (aumbrylaw14_LayoutTurns.j0 (k + 1) y0 y1 y2 y3 y4 y5 y6 y7 y8)) ∧ (∀ y0 y1 y2 y3 y4 y5 y6 y7 y8 y9 y10, LeO (aumbrylaw14_LayoutTurns.l0 k y0 y1 y2 y3 y4 y5 y6 y7 y8 y9 y10) (aumbrylaw14_LayoutTurns.l0 (k + 1) y0 y1 y2 y3 y4 y5 y6 y7 y8 y9 y10)) ∧ (∀ y0 y1 y2 y3 y4 y5 y6 y7 y8 y9 y10 y11, LeO (aumbrylaw14_LayoutTurns.j2 k y0 y1 y2 y3 y4 y5 y6 y7 y8 y9 y10 y11) (aumbrylaw14_LayoutTurns.j2 (k + 1) y0 y1 y2 y3 y4 y5 y6 y7 y8 y9 y10 y11)) ∧ (∀ y0 y1 y2 y3 y4 y5 y6 y7 y8 y9 y10 y11 y12, LeO (aumbrylaw14_LayoutTurns.j3 k y0 y1 y2 y3 y4 y5 y6 y7 y8 y9 y10 y11 y12) (aumbrylaw14_LayoutTurns.j3 (k + 1) y0 y1 y2 y3 y4 y5 y6 y7 y8 y9 y10 y11 y12))
  | 0 => ⟨fun _ _ _ _ _ _ _ _ _ r h => by simp [aumbrylaw14_LayoutTurns.j0] at h, fun _ _ _ _ _ _ _ _ _ _ _ r h => by simp [aumbrylaw14_LayoutTurns.l0] at h, fun _ _ _ _ _ _ _ _ _ _ _ _ r h => by simp [aumbrylaw14_LayoutTurns.j2] at h, fun _ _ _ _ _ _ _ _ _ _ _ _ _ r h => by simp [aumbrylaw14_LayoutTurns.j3] at h⟩
  | k + 1 => by
    obtain ⟨ih0, ih1, ih2, ih3⟩ := aumbrylaw14_LayoutTurns.mono_l k
    refine ⟨?_, ?_, ?_, ?_⟩
    · intro y0 y1 y2 y3 y4 y5 y6 y7 y8
      unfold aumbrylaw14_LayoutTurns.j0
      repeat' first
      | (with_reducible exact ih0 _ _ _ _ _ _ _ _ _)
      | (with_reducible exact ih1 _ _ _ _ _ _ _ _ _ _ _)
      | (with_reducible exact ih2 _ _ _ _ _ _ _ _ _ _ _ _)
      | (with_reducible exact ih3 _ _ _ _ _ _ _ _ _ _ _ _ _)
      | (with_reducible exact aumbrylaw14_awake.mono _)
      | (with_reducible exact layout_Check.mono _ _ _ _ _ _ _)
      | (with_reducible exact layout_Disk.mono _ _ _ _ _ _ _ _ _)
      | (with_reducible exact layout_Shard.mono _ _ _ _ _ _ _ _ _)
      | (with_reducible exact LeO.refl _)
      | (with_reducible exact LeO.none _)
      | (with_reducible refine LeO.ite ?_ ?_)
      | (with_reducible refine LeO.bind ?_ (fun _ => ?_))
      | exact ih0 _ _ _ _ _ _ _ _ _
      | exact ih1 _ _ _ _ _ _ _ _ _ _ _
      | exact ih2 _ _ _ _ _ _ _ _ _ _ _ _
      | exact ih3 _ _ _ _ _ _ _ _ _ _ _ _ _
      | exact aumbrylaw14_awake.mono _
      | exact layout_Check.mono _ _ _ _ _ _ _
      | exact layout_Disk.mono _ _ _ _ _ _ _ _ _
      | exact layout_Shard.mono _ _ _ _ _ _ _ _ _
      | exact LeO.none _
      | refine LeO.ite ?_ ?_
      | refine LeO.bind ?_ (fun _ => ?_)
    · intro y0 y1 y2 y3 y4 y5 y6 y7 y8 y9 y10
      unfold aumbrylaw14_LayoutTurns.l0
      repeat' first
      | (with_reducible exact ih0 _ _ _ _ _ _ _ _ _)
      | (with_reducible exact ih1 _ _ _ _ _ _ _ _ _ _ _)
      | (with_reducible exact ih2 _ _ _ _ _ _ _ _ _ _ _ _)
      | (with_reducible exact ih3 _ _ _ _ _ _ _ _ _ _ _ _ _)
      | (with_reducible exact aumbrylaw14_awake.mono _)
      | (with_reducible exact layout_Check.mono _ _ _ _ _ _ _)
      | (with_reducible exact layout_Disk.mono _ _ _ _ _ _ _ _ _)
      | (with_reducible exact layout_Shard.mono _ _ _ _ _ _ _ _ _)
      | (with_reducible exact LeO.refl _)
      | (with_reducible exact LeO.none _)
      | (with_reducible refine LeO.ite ?_ ?_)
      | (with_reducible refine LeO.bind ?_ (fun _ => ?_))
      | exact ih0 _ _ _ _ _ _ _ _ _
      | exact ih1 _ _ _ _ _ _ _ _ _ _ _
      | exact ih2 _ _ _ _ _ _ _ _ _ _ _ _
      | exact ih3 _ _ _ _ _ _ _ _ _ _ _ _ _
      | exact aumbrylaw14_awake.mono _
      | exact layout_Check.mono _ _ _ _ _ _ _
      | exact layout_Disk.mono _ _ _ _ _ _ _ _ _
      | exact layout_Shard.mono _ _ _ _ _ _ _ _ _
      | exact LeO.none _
      | refine LeO.ite ?_ ?_
      | refine LeO.bind ?_ (fun _ => ?_)
    · intro y0 y1 y2 y3 y4 y5 y6 y7 y8 y9 y10 y11
      unfold aumbrylaw14_LayoutTurns.j2
      repeat' first
      | (with_reducible exact ih0 _ _ _ _ _ _ _ _ _)
      | (with_reducible exact ih1 _ _ _ _ _ _ _ _ _ _ _)
      | (with_reducible exact ih2 _ _ _ _ _ _ _ _ _ _ _ _)
      | (with_reducible exact ih3 _ _ _ _ _ _ _ _ _ _ _ _ _)
      | (with_reducible exact aumbrylaw14_awake.mono _)
      | (with_reducible exact layout_Check.mono _ _ _ _ _ _ _)
      | (with_reducible exact layout_Disk.mono _ _ _ _ _ _ _ _ _)
      | (with_reducible exact layout_Shard.mono _ _ _ _ _ _ _ _ _)
      | (with_reducible exact LeO.refl _)
      | (with_reducible exact LeO.none _)
      | (with_reducible refine LeO.ite ?_ ?_)
      | (with_reducible refine LeO.bind ?_ (fun _ => ?_))
      | exact ih0 _ _ _ _ _ _ _ _ _
      | exact ih1 _ _ _ _ _ _ _ _ _ _ _
      | exact ih2 _ _ _ _ _ _ _ _ _ _ _ _
      | exact ih3 _ _ _ _ _ _ _ _ _ _ _ _ _
      | exact aumbrylaw14_awake.mono _
      | exact layout_Check.mono _ _ _ _ _ _ _
      | exact layout_Disk.mono _ _ _ _ _ _ _ _ _
      | exact layout_Shard.mono _ _ _ _ _ _ _ _ _
      | exact LeO.none _
      | refine LeO.ite ?_ ?_
      | refine LeO.bind ?_ (fun _ => ?_)
    · intro y0 y1 y2 y3 y4 y5 y6 y7 y8 y9 y10 y11 y12
      unfold aumbrylaw14_LayoutTurns.j3
      repeat' first
      | (with_reducible exact ih0 _ _ _ _ _ _ _ _ _)
      | (with_reducible exact ih1 _ _ _ _ _ _ _ _ _ _ _)
      | (with_reducible exact ih2 _ _ _ _ _ _ _ _ _ _ _ _)
      | (with_reducible exact ih3 _ _ _ _ _ _ _ _ _ _ _ _ _)
      | (with_reducible exact aumbrylaw14_awake.mono _)
      | (with_reducible exact layout_Check.mono _ _ _ _ _ _ _)
      | (with_reducible exact layout_Disk.mono _ _ _ _ _ _ _ _ _)
      | (with_reducible exact layout_Shard.mono _ _ _ _ _ _ _ _ _)
      | (with_reducible exact LeO.refl _)
      | (with_reducible exact LeO.none _)
      | (with_reducible refine LeO.ite ?_ ?_)
      | (with_reducible refine LeO.bind ?_ (fun _ => ?_))
      | exact ih0 _ _ _ _ _ _ _ _ _
      | exact ih1 _ _ _ _ _ _ _ _ _ _ _
      | exact ih2 _ _ _ _ _ _ _ _ _ _ _ _
      | exact ih3 _ _ _ _ _ _ _ _ _ _ _ _ _
      | exact aumbrylaw14_awake.mono _
      | exact layout_Check.mono _ _ _ _ _ _ _
      | exact layout_Disk.mono _ _ _ _ _ _ _ _ _
      | exact layout_Shard.mono _ _ _ _ _ _ _ _ _
      | exact LeO.none _
      | refine LeO.ite ?_ ?_
      | refine LeO.bind ?_ (fun _ => ?_)
theorem aumbrylaw14_LayoutTurns.mono : ∀ a0 a1 a2 a3 a4 a5 a6 k, LeO (aumbrylaw14_LayoutTurns.f k a0 a1 a2 a3 a4 a5 a6) (aumbrylaw14_LayoutTurns.f (k + 1) a0 a1 a2 a3 a4 a5 a6) := by
  intro a0 a1 a2 a3 a4 a5 a6 k
  obtain ⟨ih0, ih1, ih2, ih3⟩ := aumbrylaw14_LayoutTurns.mono_l k
  unfold aumbrylaw14_LayoutTurns.f
  repeat' first
      | (with_reducible exact ih0 _ _ _ _ _ _ _ _ _)
      | (with_reducible exact ih1 _ _ _ _ _ _ _ _ _ _ _)
      | (with_reducible exact ih2 _ _ _ _ _ _ _ _ _ _ _ _)
      | (with_reducible exact ih3 _ _ _ _ _ _ _ _ _ _ _ _ _)
      | (with_reducible exact aumbrylaw14_awake.mono _)
      | (with_reducible exact layout_Check.mono _ _ _ _ _ _ _)
      | (with_reducible exact layout_Disk.mono _ _ _ _ _ _ _ _ _)
      | (with_reducible exact layout_Shard.mono _ _ _ _ _ _ _ _ _)
      | (with_reducible exact LeO.refl _)
      | (with_reducible exact LeO.none _)
      | (with_reducible refine LeO.ite ?_ ?_)
      | (with_reducible refine LeO.bind ?_ (fun _ => ?_))
      | exact ih0 _ _ _ _ _ _ _ _ _
      | exact ih1 _ _ _ _ _ _ _ _ _ _ _
      | exact ih2 _ _ _ _ _ _ _ _ _ _ _ _
      | exact ih3 _ _ _ _ _ _ _ _ _ _ _ _ _
      | exact aumbrylaw14_awake.mono _
      | exact layout_Check.mono _ _ _ _ _ _ _
      | exact layout_Disk.mono _ _ _ _ _ _ _ _ _
      | exact layout_Shard.mono _ _ _ _ _ _ _ _ _
      | exact LeO.none _
      | refine LeO.ite ?_ ?_
      | refine LeO.bind ?_ (fun _ => ?_)
set_option maxHeartbeats 8000000 in
set_option maxRecDepth 100000 in
theorem aumbrylaw14_LayoutTurns.calls (k : Nat) (a0_0 : Int) (a0_1 : Int) (a0_2 : Int) (a0_3 : Int) (a0_4 : Int) (a0_5 : Int) (a1 : Int) (r : Bool) (w : World) (h : aumbrylaw14_LayoutTurns.f k a0_0 a0_1 a0_2 a0_3 a0_4 a0_5 a1 = some r) :
    Calls Try.prog 6 #[.agg #[.int .i64 a0_0, .int .i64 a0_1, .int .i64 a0_2, .int .i64 a0_3, .int .i64 a0_4, .int .i64 a0_5], .int .i64 a1] w fun e w' => e = .returned (.bool r) ∧ Below w.heap.size w w' := by
  have hu24 := Try.underlying24
  have HB := Aside0.mk (Below.refl w.heap.size w)
  have H : ((aumbrylaw14_awake.f k).bind fun t217 => ((layout_Check.f k a0_0 a0_1 a0_2 a0_3 a0_4 a0_5).bind fun t218 => (if t218 = 0 then (if a1 < 0 then (aumbrylaw14_LayoutTurns.j0 k a1 t217 true a0_0 a0_1 a0_2 a0_3 a0_4 a0_5) else (aumbrylaw14_LayoutTurns.j0 k a1 t217 (decide (a1 ≥ a0_3)) a0_0 a0_1 a0_2 a0_3 a0_4 a0_5)) else (aumbrylaw14_LayoutTurns.j0 k a1 t217 true a0_0 a0_1 a0_2 a0_3 a0_4 a0_5)))) = some r := h
  clear h
  replace H := Option.bind_eq_some_iff.mp H
  obtain ⟨t217, A30, H⟩ := H
  replace H : ((layout_Check.f k a0_0 a0_1 a0_2 a0_3 a0_4 a0_5).bind fun t218 => (if t218 = 0 then (if a1 < 0 then (aumbrylaw14_LayoutTurns.j0 k a1 t217 true a0_0 a0_1 a0_2 a0_3 a0_4 a0_5) else (aumbrylaw14_LayoutTurns.j0 k a1 t217 (decide (a1 ≥ a0_3)) a0_0 a0_1 a0_2 a0_3 a0_4 a0_5)) else (aumbrylaw14_LayoutTurns.j0 k a1 t217 true a0_0 a0_1 a0_2 a0_3 a0_4 a0_5))) = some r := H
  have A3 := Aside0.mk A30
  clear A30
  have HC4 := Aside0.mk H
  clear H
  go_enter Try.func6, Try.ntmps6
  go_upto_region 2 with (first | ((with_reducible refine gate_dst (N := 2) rfl ?_); refine box_event ?hg (N := 2) ?hd (cs := #[.int .i64 a0_0, .int .i64 a0_1, .int .i64 a0_2, .int .i64 a0_3, .int .i64 a0_4, .int .i64 a0_5]) (t := 24) ?hr ?_; (case hd => rfl); (case hg => rfl); (case hr => first | (go_simp; done) | (go_simp; rfl)); intro gb216 hg w5 hbox hb; have n0_ := Aside0.mk (below_step (by repeat (first | (with_reducible first | exact HB.out | apply below_alloc | apply pw_below_drewN | apply below_drew1) | exact HB.out)) hb); have n1_ := Aside0.mk (hbox); have n2_ := Aside0.mk ((by rw [hg]; exact (below_size (by repeat (first | (with_reducible first | exact HB.out | apply below_alloc | apply pw_below_drewN | apply below_drew1) | exact HB.out))) : w.heap.size ≤ gb216)); have n3_ := Aside0.mk ((by rw [hg]; exact (below_size (by repeat (first | (with_reducible first | exact HB.out | apply below_alloc | apply pw_below_drewN | apply below_drew1) | exact HB.out))) : w.heap.size ≤ gb216)); clear HB; have HB := n0_; have BK216 := n1_; have GW216 := n2_; have GE216 := n3_; clear n0_ n1_ n2_ n3_; clear hb hbox hg) | ((with_reducible refine gate_callee (f := 9) rfl ?_); refine goesL_ (some 10) rfl rfl Try.func9 (by kernel_rfl) rfl #[] rfl (by (try simp only [List.map_toArray, List.map_cons, List.map_nil]); first | done | rfl | (simp only [List.length_drop, List.length_take]; rfl)) ?_; (with_reducible refine (aumbrylaw14_awake.calls k  t217 _ A3.out).mono ?_); rintro e w6 ⟨rfl, hb⟩; refine ⟨_, rfl, ?_⟩; have n0_ := Aside0.mk (blk_below (g := gb216) (o := .cells #[.int .i64 a0_0, .int .i64 a0_1, .int .i64 a0_2, .int .i64 a0_3, .int .i64 a0_4, .int .i64 a0_5] 24 (0, 0)) (by (with_reducible repeat (first | refine blk_drewN ?_ _ | refine blk_drew ?_ | refine blk_alloc ?_ _)); exact BK216.out) hb); have n1_ := Aside0.mk (below_step (by repeat (first | (with_reducible first | exact HB.out | apply below_alloc | apply pw_below_drewN | apply below_drew1 | refine below_set ?_ GE216.out) | exact HB.out)) hb); clear BK216; clear HB; have BK216 := n0_; have HB := n1_; clear n0_ n1_; (try clear hb); (try clear hb2); (try clear hk); (try clear hi)))
  (try simp only [Act.put, List.setIfInBounds_toArray, List.set_cons_zero, List.set_cons_succ])
  go_cut [23] (fun v23 wc => ∃ (kq : Nat) (x23_3 : Bool), v23 = .bool x23_3 ∧ Aside0 (aumbrylaw14_LayoutTurns.j0 kq a1 t217 x23_3 a0_0 a0_1 a0_2 a0_3 a0_4 a0_5 = some r) ∧ Aside0 (kq ≤ k) ∧ Aside0 (wc.heap[gb216]? = some (.cells #[.int .i64 a0_0, .int .i64 a0_1, .int .i64 a0_2, .int .i64 a0_3, .int .i64 a0_4, .int .i64 a0_5] 24 (0, 0))) ∧ Aside0 (Below w.heap.size w wc))
  case first =>
    have H := HC4.out
    clear HC4
    replace H := Option.bind_eq_some_iff.mp H
    obtain ⟨t218, A70, H⟩ := H
    replace H : (if t218 = 0 then (if a1 < 0 then (aumbrylaw14_LayoutTurns.j0 k a1 t217 true a0_0 a0_1 a0_2 a0_3 a0_4 a0_5) else (aumbrylaw14_LayoutTurns.j0 k a1 t217 (decide (a1 ≥ a0_3)) a0_0 a0_1 a0_2 a0_3 a0_4 a0_5)) else (aumbrylaw14_LayoutTurns.j0 k a1 t217 true a0_0 a0_1 a0_2 a0_3 a0_4 a0_5)) = some r := H
    have A7 := Aside0.mk A70
    clear A70
    by_cases c8 : t218 = 0
    · rw [if_pos c8] at H
      have c8b0 : (t218 == 0) = true := beq_iff_eq.mpr c8
      have c8b1 : (t218 != 0) = false := bne_eq_false_iff_eq.mpr c8
      clear c8
      (first | rw [c8b0] | (simp only [i64_w, i32_w]; rw [c8b0]) | skip)
      by_cases c9 : a1 < 0
      · rw [if_pos c9] at H
        have c9b0 : decide (a1 < 0) = true := decide_eq_true c9
        clear c9
        have H' := Aside0.mk H
        clear H
        have hcz10_0 : w6.cell? ⟨gb216, 0, none⟩ = some (.int .i64 a0_0) := (blk_cell BK216.out 0).trans rfl
        have hcz10_1 : w6.cell? ⟨gb216, 1, none⟩ = some (.int .i64 a0_1) := (blk_cell BK216.out 1).trans rfl
        have hcz10_2 : w6.cell? ⟨gb216, 2, none⟩ = some (.int .i64 a0_2) := (blk_cell BK216.out 2).trans rfl
        have hcz10_3 : w6.cell? ⟨gb216, 3, none⟩ = some (.int .i64 a0_3) := (blk_cell BK216.out 3).trans rfl
        have hcz10_4 : w6.cell? ⟨gb216, 4, none⟩ = some (.int .i64 a0_4) := (blk_cell BK216.out 4).trans rfl
        have hcz10_5 : w6.cell? ⟨gb216, 5, none⟩ = some (.int .i64 a0_5) := (blk_cell BK216.out 5).trans rfl
        have hfz10_0 := blk_frozen BK216.out 0
        have hfz10_1 := blk_frozen BK216.out 1
        have hfz10_2 := blk_frozen BK216.out 2
        have hfz10_3 := blk_frozen BK216.out 3
        have hfz10_4 := blk_frozen BK216.out 4
        have hfz10_5 := blk_frozen BK216.out 5
        go_wp2_with (first | ((with_reducible refine gate_callee (f := 10) rfl ?_); refine goesL_ (some 12) rfl rfl Try.func10 (by kernel_rfl) rfl #[.agg #[.int .i64 a0_0, .int .i64 a0_1, .int .i64 a0_2, .int .i64 a0_3, .int .i64 a0_4, .int .i64 a0_5]] rfl (by (try simp only [List.map_toArray, List.map_cons, List.map_nil]); first | done | rfl | (simp only [List.length_drop, List.length_take]; rfl)) ?_; (with_reducible refine (layout_Check.calls k a0_0 a0_1 a0_2 a0_3 a0_4 a0_5 t218 _ A7.out).mono ?_); rintro e w11 ⟨rfl, hb⟩; refine ⟨_, rfl, ?_⟩; have n0_ := Aside0.mk (blk_below (g := gb216) (o := .cells #[.int .i64 a0_0, .int .i64 a0_1, .int .i64 a0_2, .int .i64 a0_3, .int .i64 a0_4, .int .i64 a0_5] 24 (0, 0)) (by (with_reducible repeat (first | refine blk_drewN ?_ _ | refine blk_drew ?_ | refine blk_alloc ?_ _)); exact BK216.out) hb); have n1_ := Aside0.mk (below_step (by repeat (first | (with_reducible first | exact HB.out | apply below_alloc | apply pw_below_drewN | apply below_drew1 | refine below_set ?_ GE216.out) | exact HB.out)) hb); clear BK216; clear HB; have BK216 := n0_; have HB := n1_; clear n0_ n1_; (try clear hb); (try clear hb2); (try clear hk); (try clear hi)))
        go_meet
        case rel => exact ⟨_, (true), (by first | rfl | (simp; done) | (simp [*]; done)), H', ⟨by first | omega | exact Nat.le_refl _⟩, ⟨by (with_reducible repeat (first | refine blk_drewN ?_ _ | refine blk_drew ?_ | refine blk_alloc ?_ _)); exact BK216.out⟩, ⟨by repeat (first | (with_reducible first | exact HB.out | apply below_alloc | apply pw_below_drewN | apply below_drew1 | refine below_set ?_ GE216.out) | exact HB.out)⟩⟩
      · rw [if_neg c9] at H
        have c9b0 : decide (a1 < 0) = false := decide_eq_false c9
        clear c9
        have H' := Aside0.mk H
        clear H
        have hcz12_0 : w6.cell? ⟨gb216, 0, none⟩ = some (.int .i64 a0_0) := (blk_cell BK216.out 0).trans rfl
        have hcz12_1 : w6.cell? ⟨gb216, 1, none⟩ = some (.int .i64 a0_1) := (blk_cell BK216.out 1).trans rfl
        have hcz12_2 : w6.cell? ⟨gb216, 2, none⟩ = some (.int .i64 a0_2) := (blk_cell BK216.out 2).trans rfl
        have hcz12_3 : w6.cell? ⟨gb216, 3, none⟩ = some (.int .i64 a0_3) := (blk_cell BK216.out 3).trans rfl
        have hcz12_4 : w6.cell? ⟨gb216, 4, none⟩ = some (.int .i64 a0_4) := (blk_cell BK216.out 4).trans rfl
        have hcz12_5 : w6.cell? ⟨gb216, 5, none⟩ = some (.int .i64 a0_5) := (blk_cell BK216.out 5).trans rfl
        have hfz12_0 := blk_frozen BK216.out 0
        have hfz12_1 := blk_frozen BK216.out 1
        have hfz12_2 := blk_frozen BK216.out 2
        have hfz12_3 := blk_frozen BK216.out 3
        have hfz12_4 := blk_frozen BK216.out 4
        have hfz12_5 := blk_frozen BK216.out 5
        go_wp2_with (first | ((with_reducible refine gate_callee (f := 10) rfl ?_); refine goesL_ (some 12) rfl rfl Try.func10 (by kernel_rfl) rfl #[.agg #[.int .i64 a0_0, .int .i64 a0_1, .int .i64 a0_2, .int .i64 a0_3, .int .i64 a0_4, .int .i64 a0_5]] rfl (by (try simp only [List.map_toArray, List.map_cons, List.map_nil]); first | done | rfl | (simp only [List.length_drop, List.length_take]; rfl)) ?_; (with_reducible refine (layout_Check.calls k a0_0 a0_1 a0_2 a0_3 a0_4 a0_5 t218 _ A7.out).mono ?_); rintro e w13 ⟨rfl, hb⟩; refine ⟨_, rfl, ?_⟩; have n0_ := Aside0.mk (blk_below (g := gb216) (o := .cells #[.int .i64 a0_0, .int .i64 a0_1, .int .i64 a0_2, .int .i64 a0_3, .int .i64 a0_4, .int .i64 a0_5] 24 (0, 0)) (by (with_reducible repeat (first | refine blk_drewN ?_ _ | refine blk_drew ?_ | refine blk_alloc ?_ _)); exact BK216.out) hb); have n1_ := Aside0.mk (below_step (by repeat (first | (with_reducible first | exact HB.out | apply below_alloc | apply pw_below_drewN | apply below_drew1 | refine below_set ?_ GE216.out) | exact HB.out)) hb); clear BK216; clear HB; have BK216 := n0_; have HB := n1_; clear n0_ n1_; (try clear hb); (try clear hb2); (try clear hk); (try clear hi); have hcz14_0 : w13.cell? ⟨gb216, 0, none⟩ = some (.int .i64 a0_0) := (blk_cell BK216.out 0).trans rfl; have hcz14_1 : w13.cell? ⟨gb216, 1, none⟩ = some (.int .i64 a0_1) := (blk_cell BK216.out 1).trans rfl; have hcz14_2 : w13.cell? ⟨gb216, 2, none⟩ = some (.int .i64 a0_2) := (blk_cell BK216.out 2).trans rfl; have hcz14_3 : w13.cell? ⟨gb216, 3, none⟩ = some (.int .i64 a0_3) := (blk_cell BK216.out 3).trans rfl; have hcz14_4 : w13.cell? ⟨gb216, 4, none⟩ = some (.int .i64 a0_4) := (blk_cell BK216.out 4).trans rfl; have hcz14_5 : w13.cell? ⟨gb216, 5, none⟩ = some (.int .i64 a0_5) := (blk_cell BK216.out 5).trans rfl; have hfz14_0 := blk_frozen BK216.out 0; have hfz14_1 := blk_frozen BK216.out 1; have hfz14_2 := blk_frozen BK216.out 2; have hfz14_3 := blk_frozen BK216.out 3; have hfz14_4 := blk_frozen BK216.out 4; have hfz14_5 := blk_frozen BK216.out 5))
        go_meet
        case rel => exact ⟨_, (decide (a1 ≥ a0_3)), (by first | rfl | (simp; done) | (simp [*]; done)), H', ⟨by first | omega | exact Nat.le_refl _⟩, ⟨by (with_reducible repeat (first | refine blk_drewN ?_ _ | refine blk_drew ?_ | refine blk_alloc ?_ _)); exact BK216.out⟩, ⟨by repeat (first | (with_reducible first | exact HB.out | apply below_alloc | apply pw_below_drewN | apply below_drew1 | refine below_set ?_ GE216.out) | exact HB.out)⟩⟩
    · rw [if_neg c8] at H
      have c8b0 : (t218 == 0) = false := beq_eq_false_iff_ne.mpr c8
      have c8b1 : (t218 != 0) = true := bne_iff_ne.mpr c8
      (first | rw [c8b0] | (simp only [i64_w, i32_w]; rw [c8b0]) | skip)
      have H' := Aside0.mk H
      clear H
      have hcz15_0 : w6.cell? ⟨gb216, 0, none⟩ = some (.int .i64 a0_0) := (blk_cell BK216.out 0).trans rfl
      have hcz15_1 : w6.cell? ⟨gb216, 1, none⟩ = some (.int .i64 a0_1) := (blk_cell BK216.out 1).trans rfl
      have hcz15_2 : w6.cell? ⟨gb216, 2, none⟩ = some (.int .i64 a0_2) := (blk_cell BK216.out 2).trans rfl
      have hcz15_3 : w6.cell? ⟨gb216, 3, none⟩ = some (.int .i64 a0_3) := (blk_cell BK216.out 3).trans rfl
      have hcz15_4 : w6.cell? ⟨gb216, 4, none⟩ = some (.int .i64 a0_4) := (blk_cell BK216.out 4).trans rfl
      have hcz15_5 : w6.cell? ⟨gb216, 5, none⟩ = some (.int .i64 a0_5) := (blk_cell BK216.out 5).trans rfl
      have hfz15_0 := blk_frozen BK216.out 0
      have hfz15_1 := blk_frozen BK216.out 1
      have hfz15_2 := blk_frozen BK216.out 2
      have hfz15_3 := blk_frozen BK216.out 3
      have hfz15_4 := blk_frozen BK216.out 4
      have hfz15_5 := blk_frozen BK216.out 5
      go_wp2_with (first | ((with_reducible refine gate_callee (f := 10) rfl ?_); refine goesL_ (some 12) rfl rfl Try.func10 (by kernel_rfl) rfl #[.agg #[.int .i64 a0_0, .int .i64 a0_1, .int .i64 a0_2, .int .i64 a0_3, .int .i64 a0_4, .int .i64 a0_5]] rfl (by (try simp only [List.map_toArray, List.map_cons, List.map_nil]); first | done | rfl | (simp only [List.length_drop, List.length_take]; rfl)) ?_; (with_reducible refine (layout_Check.calls k a0_0 a0_1 a0_2 a0_3 a0_4 a0_5 t218 _ A7.out).mono ?_); rintro e w16 ⟨rfl, hb⟩; refine ⟨_, rfl, ?_⟩; have n0_ := Aside0.mk (blk_below (g := gb216) (o := .cells #[.int .i64 a0_0, .int .i64 a0_1, .int .i64 a0_2, .int .i64 a0_3, .int .i64 a0_4, .int .i64 a0_5] 24 (0, 0)) (by (with_reducible repeat (first | refine blk_drewN ?_ _ | refine blk_drew ?_ | refine blk_alloc ?_ _)); exact BK216.out) hb); have n1_ := Aside0.mk (below_step (by repeat (first | (with_reducible first | exact HB.out | apply below_alloc | apply pw_below_drewN | apply below_drew1 | refine below_set ?_ GE216.out) | exact HB.out)) hb); clear BK216; clear HB; have BK216 := n0_; have HB := n1_; clear n0_ n1_; (try clear hb); (try clear hb2); (try clear hk); (try clear hi)))
      go_meet
      case rel => exact ⟨_, (true), (by first | rfl | (simp; done) | (simp [*]; done)), H', ⟨by first | omega | exact Nat.le_refl _⟩, ⟨by (with_reducible repeat (first | refine blk_drewN ?_ _ | refine blk_drew ?_ | refine blk_alloc ?_ _)); exact BK216.out⟩, ⟨by repeat (first | (with_reducible first | exact HB.out | apply below_alloc | apply pw_below_drewN | apply below_drew1 | refine below_set ?_ GE216.out) | exact HB.out)⟩⟩
  case rest =>
    clear HC4
    try clear c1
    try clear p2
    try clear c6
    try clear c8
    try clear c8b0
    try clear c8b1
    try clear c9
    try clear c9b0
    try clear c10
    try clear hcz10_0
    try clear hcz10_1
    try clear hcz10_2
    try clear hcz10_3
    try clear hcz10_4
    try clear hcz10_5
    try clear hcz12_0
    try clear hcz12_1
    try clear hcz12_2
    try clear hcz12_3
    try clear hcz12_4
    try clear hcz12_5
    try clear hcz14_0
    try clear hcz14_1
    try clear hcz14_2
    try clear hcz14_3
    try clear hcz14_4
    try clear hcz14_5
    try clear hcz15_0
    try clear hcz15_1
    try clear hcz15_2
    try clear hcz15_3
    try clear hcz15_4
    try clear hcz15_5
    try clear hfz10_0
    try clear hfz10_1
    try clear hfz10_2
    try clear hfz10_3
    try clear hfz10_4
    try clear hfz10_5
    try clear hfz12_0
    try clear hfz12_1
    try clear hfz12_2
    try clear hfz12_3
    try clear hfz12_4
    try clear hfz12_5
    try clear hfz14_0
    try clear hfz14_1
    try clear hfz14_2
    try clear hfz14_3
    try clear hfz14_4
    try clear hfz14_5
    try clear hfz15_0
    try clear hfz15_1
    try clear hfz15_2
    try clear hfz15_3
    try clear hfz15_4
    try clear hfz15_5
    obtain ⟨kq, x23_3, rfl, HA, HJ3, BK216, HB⟩ := hcut
    cases kq with
    | zero => exact absurd HA.out (by simp [aumbrylaw14_LayoutTurns.j0])
    | succ kj3 =>
      have H := HA.out
      clear HA
      simp only [aumbrylaw14_LayoutTurns.j0] at H
      by_cases c17 : x23_3 = true
      · subst c17
        have H1 : (some t217) = some r := by rw [if_pos rfl] at H; exact H
        clear H
        have H := H1
        clear H1
        obtain rfl := Option.some.inj H
        go_wp2
        go_ret
        exact ⟨by first | rfl | (simp [errW_none, errW_some] <;> rfl) | (simp [*, errW_none, errW_some] <;> rfl), by repeat (first | (with_reducible first | exact HB.out | apply below_alloc | apply pw_below_drewN | apply below_drew1 | refine below_set ?_ GE216.out) | exact HB.out)⟩
      · replace c17 := Bool.eq_false_iff.mpr c17
        subst c17
        have H1 : (if 32 ≤ 281474976710656 then (aumbrylaw14_LayoutTurns.l0 kj3 a1 t217 (wrap64 (a0_0 + a0_1)) (List.replicate 32 false) 0 a0_0 a0_1 a0_2 a0_3 a0_4 a0_5) else (none)) = some r := by rw [if_neg (show ¬ (false = true) by decide)] at H; exact H
        clear H
        have H := H1
        clear H1
        by_cases c18 : 32 ≤ 281474976710656
        · rw [if_pos c18] at H
          have c18b0 := eq_true c18
          have c18b1 : decide (32 ≤ 281474976710656) = true := decide_eq_true c18
          clear c18
          obtain ⟨y219, hy219⟩ : ∃ y_ : List Bool, y_ = (List.replicate 32 false) := ⟨_, rfl⟩
          replace H : (aumbrylaw14_LayoutTurns.l0 kj3 a1 t217 (wrap64 (a0_0 + a0_1)) y219 0 a0_0 a0_1 a0_2 a0_3 a0_4 a0_5) = some r := by first | (rw [hy219]; with_reducible exact H) | (have H2_ := (Option.bind_some _ _).symm.trans H; rw [hy219]; with_reducible exact H2_) | (have H2_ := (Option.bind_some _ _).symm.trans H; with_reducible exact H2_) | with_reducible exact H | (rw [hy219]; exact H) | exact H
          have Ny219 := Aside0.mk hy219
          clear hy219
          have H' := Aside0.mk H
          clear H
          have hcz19_0 : wc.cell? ⟨gb216, 0, none⟩ = some (.int .i64 a0_0) := (blk_cell BK216.out 0).trans rfl
          have hcz19_1 : wc.cell? ⟨gb216, 1, none⟩ = some (.int .i64 a0_1) := (blk_cell BK216.out 1).trans rfl
          have hcz19_2 : wc.cell? ⟨gb216, 2, none⟩ = some (.int .i64 a0_2) := (blk_cell BK216.out 2).trans rfl
          have hcz19_3 : wc.cell? ⟨gb216, 3, none⟩ = some (.int .i64 a0_3) := (blk_cell BK216.out 3).trans rfl
          have hcz19_4 : wc.cell? ⟨gb216, 4, none⟩ = some (.int .i64 a0_4) := (blk_cell BK216.out 4).trans rfl
          have hcz19_5 : wc.cell? ⟨gb216, 5, none⟩ = some (.int .i64 a0_5) := (blk_cell BK216.out 5).trans rfl
          have hfz19_0 := blk_frozen BK216.out 0
          have hfz19_1 := blk_frozen BK216.out 1
          have hfz19_2 := blk_frozen BK216.out 2
          have hfz19_3 := blk_frozen BK216.out 3
          have hfz19_4 := blk_frozen BK216.out 4
          have hfz19_5 := blk_frozen BK216.out 5
          go_wp2_with (first | ((with_reducible refine gate_dst (N := 30) rfl ?_); refine Kd.R_make Kd.bool _ 4 rfl (N := 30) rfl 31 _ _ rfl 32 rfl rfl Try.underlying31 (.bool false) 1 info4 rfl (by decide) (by omega) false (ok := fun _ => True) (okp := fun _ => True) rfl (fun _ hk => hk) trivial (by omega) (by omega) (Below.refl _ _) (Nat.le_refl _) ?_; intro v220 w20 ho21 hb hg_ hnew_; clear hg_ hnew_; (first | rw [← Ny219.out] at ho21 | (simp only [Int.reduceToNat] at ho21; rw [← Ny219.out] at ho21)); have n0_ := Aside0.mk (Kd.R_lower ho21 (below_size (by repeat (first | (with_reducible first | exact HB.out | apply below_alloc | apply pw_below_drewN | apply below_drew1 | refine below_set ?_ GE216.out) | exact HB.out)))); have n1_ := Aside0.mk (blk_below (g := gb216) (o := .cells #[.int .i64 a0_0, .int .i64 a0_1, .int .i64 a0_2, .int .i64 a0_3, .int .i64 a0_4, .int .i64 a0_5] 24 (0, 0)) (by (with_reducible repeat (first | refine blk_drewN ?_ _ | refine blk_drew ?_ | refine blk_alloc ?_ _)); exact BK216.out) hb); have n2_ := Aside0.mk (below_step (by repeat (first | (with_reducible first | exact HB.out | apply below_alloc | apply pw_below_drewN | apply below_drew1 | refine below_set ?_ GE216.out) | exact HB.out)) hb); clear BK216; clear HB; have HO221 := n0_; have BK216 := n1_; have HB := n2_; clear n0_ n1_ n2_; clear hb ho21))
          go_loopg [8] kj3 (fun kq v8 w' => ∃ (x7_2 : List Bool) (x8_2 : Int), v8 = .int .i64 x8_2 ∧ Aside0 (aumbrylaw14_LayoutTurns.l0 kq a1 t217 (wrap64 (a0_0 + a0_1)) x7_2 x8_2 a0_0 a0_1 a0_2 a0_3 a0_4 a0_5 = some r) ∧ Aside0 (kq ≤ kj3) ∧ Aside0 (Kd.R Kd.bool 4 w' w.heap.size (fun _ => True) v220 x7_2) ∧ Aside0 (w'.heap[gb216]? = some (.cells #[.int .i64 a0_0, .int .i64 a0_1, .int .i64 a0_2, .int .i64 a0_3, .int .i64 a0_4, .int .i64 a0_5] 24 (0, 0))) ∧ Aside0 (Below w.heap.size w w'))
          case atStart => exact ⟨(y219), (0), (by first | rfl | (simp; done) | (simp [*]; done)), H', ⟨Nat.le_refl _⟩, ⟨by (with_reducible repeat (first | apply Kd.R_alloc | apply Kd.R_drewN | apply Kd.R_drew)); exact HO221.out⟩, ⟨by (with_reducible repeat (first | refine blk_drewN ?_ _ | refine blk_drew ?_ | refine blk_alloc ?_ _)); exact BK216.out⟩, ⟨by repeat (first | (with_reducible first | exact HB.out | apply below_alloc | apply pw_below_drewN | apply below_drew1 | refine below_set ?_ GE216.out) | exact HB.out)⟩⟩
          case round =>
            clear H'
            try clear c1
            try clear p2
            try clear c6
            try clear p6
            try clear c8
            try clear c8b0
            try clear c8b1
            try clear c9
            try clear c9b0
            try clear c10
            try clear c17
            try clear c18
            try clear c18b0
            try clear c18b1
            try clear hcz10_0
            try clear hcz10_1
            try clear hcz10_2
            try clear hcz10_3
            try clear hcz10_4
            try clear hcz10_5
            try clear hcz12_0
            try clear hcz12_1
            try clear hcz12_2
            try clear hcz12_3
            try clear hcz12_4
            try clear hcz12_5
            try clear hcz14_0
            try clear hcz14_1
            try clear hcz14_2
            try clear hcz14_3
            try clear hcz14_4
            try clear hcz14_5
            try clear hcz15_0
            try clear hcz15_1
            try clear hcz15_2
            try clear hcz15_3
            try clear hcz15_4
            try clear hcz15_5
            try clear hcz19_0
            try clear hcz19_1
            try clear hcz19_2
            try clear hcz19_3
            try clear hcz19_4
            try clear hcz19_5
            try clear hfz10_0
            try clear hfz10_1
            try clear hfz10_2
            try clear hfz10_3
            try clear hfz10_4
            try clear hfz10_5
            try clear hfz12_0
            try clear hfz12_1
            try clear hfz12_2
            try clear hfz12_3
            try clear hfz12_4
            try clear hfz12_5
            try clear hfz14_0
            try clear hfz14_1
            try clear hfz14_2
            try clear hfz14_3
            try clear hfz14_4
            try clear hfz14_5
            try clear hfz15_0
            try clear hfz15_1
            try clear hfz15_2
            try clear hfz15_3
            try clear hfz15_4
            try clear hfz15_5
            try clear hfz19_0
            try clear hfz19_1
            try clear hfz19_2
            try clear hfz19_3
            try clear hfz19_4
            try clear hfz19_5
            try clear p2
            obtain ⟨x7_2, x8_2, rfl, HA, HK2, HO_7, BK216, HB⟩ := hrel
            cases gk with
            | zero => exact absurd HA.out (by simp [aumbrylaw14_LayoutTurns.l0])
            | succ k2 =>
              have H := HA.out
              clear HA
              simp only [aumbrylaw14_LayoutTurns.l0] at H
              have HC22 := Aside0.mk H
              clear H
              go_upto_region 7 with (fail)
              go_cut [37] (fun v37 wc => ∃ (kq : Nat) (x37_21 : Bool), v37 = .bool x37_21 ∧ Aside0 (aumbrylaw14_LayoutTurns.j2 kq a1 t217 (wrap64 (a0_0 + a0_1)) x7_2 x8_2 x37_21 a0_0 a0_1 a0_2 a0_3 a0_4 a0_5 = some r) ∧ Aside0 (kq ≤ k2) ∧ Aside0 (Kd.R Kd.bool 4 wc w.heap.size (fun _ => True) v220 x7_2) ∧ Aside0 (wc.heap[gb216]? = some (.cells #[.int .i64 a0_0, .int .i64 a0_1, .int .i64 a0_2, .int .i64 a0_3, .int .i64 a0_4, .int .i64 a0_5] 24 (0, 0))) ∧ Aside0 (Below w.heap.size w wc))
              case first =>
                have H := HC22.out
                clear HC22
                by_cases c23 : x8_2 < (wrap64 (a0_0 + a0_1))
                · rw [if_pos c23] at H
                  have c23b0 : decide (x8_2 < (wrap64 (a0_0 + a0_1))) = true := decide_eq_true c23
                  clear c23
                  (first | rw [c23b0] | (simp only [i64_w, i32_w]; rw [c23b0]) | skip)
                  have H' := Aside0.mk H
                  clear H
                  go_wp2
                  go_meet
                  case rel => exact ⟨_, (decide (x8_2 < 32)), (by first | rfl | (simp; done) | (simp [*]; done)), H', ⟨by have := HJ3.out; have := HK2.out; first | omega | exact Nat.le_refl _⟩, ⟨by (with_reducible repeat (first | apply Kd.R_alloc | apply Kd.R_drewN | apply Kd.R_drew)); exact HO_7.out⟩, ⟨by (with_reducible repeat (first | refine blk_drewN ?_ _ | refine blk_drew ?_ | refine blk_alloc ?_ _)); exact BK216.out⟩, ⟨by repeat (first | (with_reducible first | exact HB.out | apply below_alloc | apply pw_below_drewN | apply below_drew1 | refine below_set ?_ GE216.out) | exact HB.out)⟩⟩
                · rw [if_neg c23] at H
                  have c23b0 : decide (x8_2 < (wrap64 (a0_0 + a0_1))) = false := decide_eq_false c23
                  clear c23
                  (first | rw [c23b0] | (simp only [i64_w, i32_w]; rw [c23b0]) | skip)
                  have H' := Aside0.mk H
                  clear H
                  go_wp2
                  go_meet
                  case rel => exact ⟨_, (false), (by first | rfl | (simp; done) | (simp [*]; done)), H', ⟨by have := HJ3.out; have := HK2.out; first | omega | exact Nat.le_refl _⟩, ⟨by (with_reducible repeat (first | apply Kd.R_alloc | apply Kd.R_drewN | apply Kd.R_drew)); exact HO_7.out⟩, ⟨by (with_reducible repeat (first | refine blk_drewN ?_ _ | refine blk_drew ?_ | refine blk_alloc ?_ _)); exact BK216.out⟩, ⟨by repeat (first | (with_reducible first | exact HB.out | apply below_alloc | apply pw_below_drewN | apply below_drew1 | refine below_set ?_ GE216.out) | exact HB.out)⟩⟩
              case rest =>
                clear HC22
                try clear c1
                try clear c2
                try clear p2
                try clear c6
                try clear p6
                try clear c8
                try clear c8b0
                try clear c8b1
                try clear c9
                try clear c9b0
                try clear c10
                try clear c17
                try clear c18
                try clear c18b0
                try clear c18b1
                try clear c23
                try clear c23b0
                try clear hcz10_0
                try clear hcz10_1
                try clear hcz10_2
                try clear hcz10_3
                try clear hcz10_4
                try clear hcz10_5
                try clear hcz12_0
                try clear hcz12_1
                try clear hcz12_2
                try clear hcz12_3
                try clear hcz12_4
                try clear hcz12_5
                try clear hcz14_0
                try clear hcz14_1
                try clear hcz14_2
                try clear hcz14_3
                try clear hcz14_4
                try clear hcz14_5
                try clear hcz15_0
                try clear hcz15_1
                try clear hcz15_2
                try clear hcz15_3
                try clear hcz15_4
                try clear hcz15_5
                try clear hcz19_0
                try clear hcz19_1
                try clear hcz19_2
                try clear hcz19_3
                try clear hcz19_4
                try clear hcz19_5
                try clear hfz10_0
                try clear hfz10_1
                try clear hfz10_2
                try clear hfz10_3
                try clear hfz10_4
                try clear hfz10_5
                try clear hfz12_0
                try clear hfz12_1
                try clear hfz12_2
                try clear hfz12_3
                try clear hfz12_4
                try clear hfz12_5
                try clear hfz14_0
                try clear hfz14_1
                try clear hfz14_2
                try clear hfz14_3
                try clear hfz14_4
                try clear hfz14_5
                try clear hfz15_0
                try clear hfz15_1
                try clear hfz15_2
                try clear hfz15_3
                try clear hfz15_4
                try clear hfz15_5
                try clear hfz19_0
                try clear hfz19_1
                try clear hfz19_2
                try clear hfz19_3
                try clear hfz19_4
                try clear hfz19_5
                try clear p2
                try clear p6
                obtain ⟨kq, x37_21, rfl, HA, HJ21, HO_7, BK216, HB⟩ := hcut
                cases kq with
                | zero => exact absurd HA.out (by simp [aumbrylaw14_LayoutTurns.j2])
                | succ kj21 =>
                  have H := HA.out
                  clear HA
                  simp only [aumbrylaw14_LayoutTurns.j2] at H
                  by_cases c24 : x37_21 = true
                  · subst c24
                    have H1 : ((layout_Disk.f kj21 a0_0 a0_1 a0_2 a0_3 a0_4 a0_5 a1 x8_2).bind fun t222 => (if t222 < 0 then (aumbrylaw14_LayoutTurns.j3 kj21 a1 t217 (wrap64 (a0_0 + a0_1)) x7_2 x8_2 t222 true a0_0 a0_1 a0_2 a0_3 a0_4 a0_5) else (if t222 ≥ (wrap64 (a0_0 + a0_1)) then (aumbrylaw14_LayoutTurns.j3 kj21 a1 t217 (wrap64 (a0_0 + a0_1)) x7_2 x8_2 t222 true a0_0 a0_1 a0_2 a0_3 a0_4 a0_5) else (if 0 ≤ t222 then (if t222 < (x7_2.length : Int) then (if rdOf false x7_2 t222 = true then (aumbrylaw14_LayoutTurns.j3 kj21 a1 t217 (wrap64 (a0_0 + a0_1)) x7_2 x8_2 t222 true a0_0 a0_1 a0_2 a0_3 a0_4 a0_5) else ((layout_Shard.f kj21 a0_0 a0_1 a0_2 a0_3 a0_4 a0_5 a1 t222).bind fun t224 => (aumbrylaw14_LayoutTurns.j3 kj21 a1 t217 (wrap64 (a0_0 + a0_1)) x7_2 x8_2 t222 (t224 != x8_2) a0_0 a0_1 a0_2 a0_3 a0_4 a0_5))) else (none)) else (none))))) = some r := by rw [if_pos rfl] at H; exact H
                    clear H
                    have H := H1
                    clear H1
                    replace H := Option.bind_eq_some_iff.mp H
                    obtain ⟨t222, A250, H⟩ := H
                    replace H : (if t222 < 0 then (aumbrylaw14_LayoutTurns.j3 kj21 a1 t217 (wrap64 (a0_0 + a0_1)) x7_2 x8_2 t222 true a0_0 a0_1 a0_2 a0_3 a0_4 a0_5) else (if t222 ≥ (wrap64 (a0_0 + a0_1)) then (aumbrylaw14_LayoutTurns.j3 kj21 a1 t217 (wrap64 (a0_0 + a0_1)) x7_2 x8_2 t222 true a0_0 a0_1 a0_2 a0_3 a0_4 a0_5) else (if 0 ≤ t222 then (if t222 < (x7_2.length : Int) then (if rdOf false x7_2 t222 = true then (aumbrylaw14_LayoutTurns.j3 kj21 a1 t217 (wrap64 (a0_0 + a0_1)) x7_2 x8_2 t222 true a0_0 a0_1 a0_2 a0_3 a0_4 a0_5) else ((layout_Shard.f kj21 a0_0 a0_1 a0_2 a0_3 a0_4 a0_5 a1 t222).bind fun t224 => (aumbrylaw14_LayoutTurns.j3 kj21 a1 t217 (wrap64 (a0_0 + a0_1)) x7_2 x8_2 t222 (t224 != x8_2) a0_0 a0_1 a0_2 a0_3 a0_4 a0_5))) else (none)) else (none)))) = some r := H
                    have A25 := Aside0.mk A250
                    clear A250
                    have HC26 := Aside0.mk H
                    clear H
                    have hcz27_0 : wc.cell? ⟨gb216, 0, none⟩ = some (.int .i64 a0_0) := (blk_cell BK216.out 0).trans rfl
                    have hcz27_1 : wc.cell? ⟨gb216, 1, none⟩ = some (.int .i64 a0_1) := (blk_cell BK216.out 1).trans rfl
                    have hcz27_2 : wc.cell? ⟨gb216, 2, none⟩ = some (.int .i64 a0_2) := (blk_cell BK216.out 2).trans rfl
                    have hcz27_3 : wc.cell? ⟨gb216, 3, none⟩ = some (.int .i64 a0_3) := (blk_cell BK216.out 3).trans rfl
                    have hcz27_4 : wc.cell? ⟨gb216, 4, none⟩ = some (.int .i64 a0_4) := (blk_cell BK216.out 4).trans rfl
                    have hcz27_5 : wc.cell? ⟨gb216, 5, none⟩ = some (.int .i64 a0_5) := (blk_cell BK216.out 5).trans rfl
                    have hfz27_0 := blk_frozen BK216.out 0
                    have hfz27_1 := blk_frozen BK216.out 1
                    have hfz27_2 := blk_frozen BK216.out 2
                    have hfz27_3 := blk_frozen BK216.out 3
                    have hfz27_4 := blk_frozen BK216.out 4
                    have hfz27_5 := blk_frozen BK216.out 5
                    go_upto_region 10 with (first | ((with_reducible refine gate_callee (f := 20) rfl ?_); refine goesL_ (some 43) rfl rfl Try.func20 (by kernel_rfl) rfl #[.agg #[.int .i64 a0_0, .int .i64 a0_1, .int .i64 a0_2, .int .i64 a0_3, .int .i64 a0_4, .int .i64 a0_5], .int .i64 a1, .int .i64 x8_2] rfl (by (try simp only [List.map_toArray, List.map_cons, List.map_nil]); first | done | rfl | (simp only [List.length_drop, List.length_take]; rfl)) ?_; (with_reducible refine (layout_Disk.calls kj21 a0_0 a0_1 a0_2 a0_3 a0_4 a0_5 a1 x8_2 t222 _ A25.out).mono ?_); rintro e w28 ⟨rfl, hb⟩; refine ⟨_, rfl, ?_⟩; have n0_ := Aside0.mk (Kd.R_below (by (with_reducible repeat (first | apply Kd.R_alloc | apply Kd.R_drewN | apply Kd.R_drew)); exact HO_7.out) hb); have n1_ := Aside0.mk (blk_below (g := gb216) (o := .cells #[.int .i64 a0_0, .int .i64 a0_1, .int .i64 a0_2, .int .i64 a0_3, .int .i64 a0_4, .int .i64 a0_5] 24 (0, 0)) (by (with_reducible repeat (first | refine blk_drewN ?_ _ | refine blk_drew ?_ | refine blk_alloc ?_ _)); exact BK216.out) hb); have n2_ := Aside0.mk (below_step (by repeat (first | (with_reducible first | exact HB.out | apply below_alloc | apply pw_below_drewN | apply below_drew1 | refine below_set ?_ GE216.out) | exact HB.out)) hb); clear HO_7; clear BK216; clear HB; have HO_7 := n0_; have BK216 := n1_; have HB := n2_; clear n0_ n1_ n2_; (try clear hb); (try clear hb2); (try clear hk); (try clear hi)))
                    (try simp only [Act.put, List.setIfInBounds_toArray, List.set_cons_zero, List.set_cons_succ])
                    go_cut [64] (fun v64 wc => ∃ (kq : Nat) (x64_25 : Bool), v64 = .bool x64_25 ∧ Aside0 (aumbrylaw14_LayoutTurns.j3 kq a1 t217 (wrap64 (a0_0 + a0_1)) x7_2 x8_2 t222 x64_25 a0_0 a0_1 a0_2 a0_3 a0_4 a0_5 = some r) ∧ Aside0 (kq ≤ kj21) ∧ Aside0 (Kd.R Kd.bool 4 wc w.heap.size (fun _ => True) v220 x7_2) ∧ Aside0 (wc.heap[gb216]? = some (.cells #[.int .i64 a0_0, .int .i64 a0_1, .int .i64 a0_2, .int .i64 a0_3, .int .i64 a0_4, .int .i64 a0_5] 24 (0, 0))) ∧ Aside0 (Below w.heap.size w wc))
                    case first =>
                      have H := HC26.out
                      clear HC26
                      by_cases c29 : t222 < 0
                      · rw [if_pos c29] at H
                        have c29b0 : decide (t222 < 0) = true := decide_eq_true c29
                        clear c29
                        (first | rw [c29b0] | (simp only [i64_w, i32_w]; rw [c29b0]) | skip)
                        have H' := Aside0.mk H
                        clear H
                        go_wp2
                        go_meet
                        case rel => exact ⟨_, (true), (by first | rfl | (simp; done) | (simp [*]; done)), H', ⟨by have := HJ3.out; have := HK2.out; have := HJ21.out; first | omega | exact Nat.le_refl _⟩, ⟨by (with_reducible repeat (first | apply Kd.R_alloc | apply Kd.R_drewN | apply Kd.R_drew)); exact HO_7.out⟩, ⟨by (with_reducible repeat (first | refine blk_drewN ?_ _ | refine blk_drew ?_ | refine blk_alloc ?_ _)); exact BK216.out⟩, ⟨by repeat (first | (with_reducible first | exact HB.out | apply below_alloc | apply pw_below_drewN | apply below_drew1 | refine below_set ?_ GE216.out) | exact HB.out)⟩⟩
                      · rw [if_neg c29] at H
                        have c29b0 : decide (t222 < 0) = false := decide_eq_false c29
                        clear c29
                        (first | rw [c29b0] | (simp only [i64_w, i32_w]; rw [c29b0]) | skip)
                        by_cases c30 : t222 ≥ (wrap64 (a0_0 + a0_1))
                        · rw [if_pos c30] at H
                          have c30b0 : decide ((wrap64 (a0_0 + a0_1)) ≤ t222) = true := decide_eq_true c30
                          clear c30
                          have H' := Aside0.mk H
                          clear H
                          go_wp2
                          go_meet
                          case rel => exact ⟨_, (true), (by first | rfl | (simp; done) | (simp [*]; done)), H', ⟨by have := HJ3.out; have := HK2.out; have := HJ21.out; first | omega | exact Nat.le_refl _⟩, ⟨by (with_reducible repeat (first | apply Kd.R_alloc | apply Kd.R_drewN | apply Kd.R_drew)); exact HO_7.out⟩, ⟨by (with_reducible repeat (first | refine blk_drewN ?_ _ | refine blk_drew ?_ | refine blk_alloc ?_ _)); exact BK216.out⟩, ⟨by repeat (first | (with_reducible first | exact HB.out | apply below_alloc | apply pw_below_drewN | apply below_drew1 | refine below_set ?_ GE216.out) | exact HB.out)⟩⟩
                        · rw [if_neg c30] at H
                          have c30b0 : decide ((wrap64 (a0_0 + a0_1)) ≤ t222) = false := decide_eq_false c30
                          clear c30
                          by_cases c31 : 0 ≤ t222
                          · rw [if_pos c31] at H
                            have c31b0 : decide (0 ≤ t222) = true := decide_eq_true c31
                            clear c31
                            by_cases c32 : t222 < (x7_2.length : Int)
                            · rw [if_pos c32] at H
                              have c32b0 : decide (t222 < (x7_2.length : Int)) = true := decide_eq_true c32
                              clear c32
                              obtain ⟨bq33, hbq33⟩ : ∃ b_ : Bool, b_ = (rdOf false x7_2 t222) := ⟨_, rfl⟩
                              replace H : (if bq33 = true then (aumbrylaw14_LayoutTurns.j3 kj21 a1 t217 (wrap64 (a0_0 + a0_1)) x7_2 x8_2 t222 true a0_0 a0_1 a0_2 a0_3 a0_4 a0_5) else ((layout_Shard.f kj21 a0_0 a0_1 a0_2 a0_3 a0_4 a0_5 a1 t222).bind fun t224 => (aumbrylaw14_LayoutTurns.j3 kj21 a1 t217 (wrap64 (a0_0 + a0_1)) x7_2 x8_2 t222 (t224 != x8_2) a0_0 a0_1 a0_2 a0_3 a0_4 a0_5))) = some r := by rw [← hbq33] at H; exact H
                              have Nbq33 := Aside0.mk hbq33
                              clear hbq33
                              by_cases c34 : bq33 = true
                              · subst c34
                                have H1 : (aumbrylaw14_LayoutTurns.j3 kj21 a1 t217 (wrap64 (a0_0 + a0_1)) x7_2 x8_2 t222 true a0_0 a0_1 a0_2 a0_3 a0_4 a0_5) = some r := by rw [if_pos rfl] at H; exact H
                                clear H
                                have H := H1
                                clear H1
                                have H' := Aside0.mk H
                                clear H
                                obtain ⟨Ao35, co35, eo35⟩ := Kd.R_slice HO_7.out
                                subst eo35
                                have p223 : 0 ≤ (t222 : Int) := of_decide_eq_true (by first | (with_reducible assumption) | assumption)
                                have q223 : t222 < (x7_2.length : Int) := of_decide_eq_true (by first | (with_reducible assumption) | assumption)
                                obtain ⟨ad223, e223, hx223_0⟩ := Kd.at_bool (Kd.R_reads' HO_7.out).2.2 t222 p223 q223
                                (try rw [← Nbq33.out] at hx223_0)
                                cases e223
                                replace p223 := eq_true p223
                                replace q223 := eq_true q223
                                go_wp2
                                go_meet
                                case rel => exact ⟨_, (true), (by first | rfl | (simp; done) | (simp [*]; done)), H', ⟨by have := HJ3.out; have := HK2.out; have := HJ21.out; first | omega | exact Nat.le_refl _⟩, ⟨by (with_reducible repeat (first | apply Kd.R_alloc | apply Kd.R_drewN | apply Kd.R_drew)); exact HO_7.out⟩, ⟨by (with_reducible repeat (first | refine blk_drewN ?_ _ | refine blk_drew ?_ | refine blk_alloc ?_ _)); exact BK216.out⟩, ⟨by repeat (first | (with_reducible first | exact HB.out | apply below_alloc | apply pw_below_drewN | apply below_drew1 | refine below_set ?_ GE216.out) | exact HB.out)⟩⟩
                              · replace c34 := Bool.eq_false_iff.mpr c34
                                subst c34
                                have H1 : ((layout_Shard.f kj21 a0_0 a0_1 a0_2 a0_3 a0_4 a0_5 a1 t222).bind fun t224 => (aumbrylaw14_LayoutTurns.j3 kj21 a1 t217 (wrap64 (a0_0 + a0_1)) x7_2 x8_2 t222 (t224 != x8_2) a0_0 a0_1 a0_2 a0_3 a0_4 a0_5)) = some r := by rw [if_neg (show ¬ (false = true) by decide)] at H; exact H
                                clear H
                                have H := H1
                                clear H1
                                replace H := Option.bind_eq_some_iff.mp H
                                obtain ⟨t224, A360, H⟩ := H
                                replace H : (aumbrylaw14_LayoutTurns.j3 kj21 a1 t217 (wrap64 (a0_0 + a0_1)) x7_2 x8_2 t222 (t224 != x8_2) a0_0 a0_1 a0_2 a0_3 a0_4 a0_5) = some r := H
                                have A36 := Aside0.mk A360
                                clear A360
                                have H' := Aside0.mk H
                                clear H
                                obtain ⟨Ao37, co37, eo37⟩ := Kd.R_slice HO_7.out
                                subst eo37
                                have p223 : 0 ≤ (t222 : Int) := of_decide_eq_true (by first | (with_reducible assumption) | assumption)
                                have q223 : t222 < (x7_2.length : Int) := of_decide_eq_true (by first | (with_reducible assumption) | assumption)
                                obtain ⟨ad223, e223, hx223_0⟩ := Kd.at_bool (Kd.R_reads' HO_7.out).2.2 t222 p223 q223
                                (try rw [← Nbq33.out] at hx223_0)
                                cases e223
                                replace p223 := eq_true p223
                                replace q223 := eq_true q223
                                have hcz38_0 : w28.cell? ⟨gb216, 0, none⟩ = some (.int .i64 a0_0) := (blk_cell BK216.out 0).trans rfl
                                have hcz38_1 : w28.cell? ⟨gb216, 1, none⟩ = some (.int .i64 a0_1) := (blk_cell BK216.out 1).trans rfl
                                have hcz38_2 : w28.cell? ⟨gb216, 2, none⟩ = some (.int .i64 a0_2) := (blk_cell BK216.out 2).trans rfl
                                have hcz38_3 : w28.cell? ⟨gb216, 3, none⟩ = some (.int .i64 a0_3) := (blk_cell BK216.out 3).trans rfl
                                have hcz38_4 : w28.cell? ⟨gb216, 4, none⟩ = some (.int .i64 a0_4) := (blk_cell BK216.out 4).trans rfl
                                have hcz38_5 : w28.cell? ⟨gb216, 5, none⟩ = some (.int .i64 a0_5) := (blk_cell BK216.out 5).trans rfl
                                have hfz38_0 := blk_frozen BK216.out 0
                                have hfz38_1 := blk_frozen BK216.out 1
                                have hfz38_2 := blk_frozen BK216.out 2
                                have hfz38_3 := blk_frozen BK216.out 3
                                have hfz38_4 := blk_frozen BK216.out 4
                                have hfz38_5 := blk_frozen BK216.out 5
                                go_wp2_with (first | (go_at_call 22; (with_reducible refine (layout_Shard.calls kj21 a0_0 a0_1 a0_2 a0_3 a0_4 a0_5 a1 t222 t224 _ A36.out).mono ?_); rintro e w39 ⟨rfl, hb⟩; have n0_ := Aside0.mk (Kd.R_below (by (with_reducible repeat (first | apply Kd.R_alloc | apply Kd.R_drewN | apply Kd.R_drew)); exact HO_7.out) hb); have n1_ := Aside0.mk (blk_below (g := gb216) (o := .cells #[.int .i64 a0_0, .int .i64 a0_1, .int .i64 a0_2, .int .i64 a0_3, .int .i64 a0_4, .int .i64 a0_5] 24 (0, 0)) (by (with_reducible repeat (first | refine blk_drewN ?_ _ | refine blk_drew ?_ | refine blk_alloc ?_ _)); exact BK216.out) hb); have n2_ := Aside0.mk (below_step (by repeat (first | (with_reducible first | exact HB.out | apply below_alloc | apply pw_below_drewN | apply below_drew1 | refine below_set ?_ GE216.out) | exact HB.out)) hb); clear HO_7; clear BK216; clear HB; have HO_7 := n0_; have BK216 := n1_; have HB := n2_; clear n0_ n1_ n2_; (try clear hb); (try clear hb2); (try clear hk); (try clear hi)))
                                go_meet
                                case rel => exact ⟨_, ((t224 != x8_2)), (by first | rfl | (simp; done) | (simp [*]; done)), H', ⟨by have := HJ3.out; have := HK2.out; have := HJ21.out; first | omega | exact Nat.le_refl _⟩, ⟨by (with_reducible repeat (first | apply Kd.R_alloc | apply Kd.R_drewN | apply Kd.R_drew)); exact HO_7.out⟩, ⟨by (with_reducible repeat (first | refine blk_drewN ?_ _ | refine blk_drew ?_ | refine blk_alloc ?_ _)); exact BK216.out⟩, ⟨by repeat (first | (with_reducible first | exact HB.out | apply below_alloc | apply pw_below_drewN | apply below_drew1 | refine below_set ?_ GE216.out) | exact HB.out)⟩⟩
                            · rw [if_neg c32] at H
                              exact absurd H (by simp)
                          · rw [if_neg c31] at H
                            exact absurd H (by simp)
                    case rest =>
                      clear HC26
                      try clear c1
                      try clear c2
                      try clear p2
                      try clear q2
                      try clear hx2
                      try clear c3
                      try clear q3
                      try clear c6
                      try clear p6
                      try clear c8
                      try clear c8b0
                      try clear c8b1
                      try clear c9
                      try clear c9b0
                      try clear c10
                      try clear c17
                      try clear c18
                      try clear c18b0
                      try clear c18b1
                      try clear c20
                      try clear p22
                      try clear q22
                      try clear hx22
                      try clear c23
                      try clear c23b0
                      try clear c24
                      try clear c29
                      try clear c29b0
                      try clear c30
                      try clear c30b0
                      try clear c31
                      try clear c31b0
                      try clear c32
                      try clear c32b0
                      try clear q33
                      try clear c34
                      try clear hcz10_0
                      try clear hcz10_1
                      try clear hcz10_2
                      try clear hcz10_3
                      try clear hcz10_4
                      try clear hcz10_5
                      try clear hcz12_0
                      try clear hcz12_1
                      try clear hcz12_2
                      try clear hcz12_3
                      try clear hcz12_4
                      try clear hcz12_5
                      try clear hcz14_0
                      try clear hcz14_1
                      try clear hcz14_2
                      try clear hcz14_3
                      try clear hcz14_4
                      try clear hcz14_5
                      try clear hcz15_0
                      try clear hcz15_1
                      try clear hcz15_2
                      try clear hcz15_3
                      try clear hcz15_4
                      try clear hcz15_5
                      try clear hcz19_0
                      try clear hcz19_1
                      try clear hcz19_2
                      try clear hcz19_3
                      try clear hcz19_4
                      try clear hcz19_5
                      try clear hcz27_0
                      try clear hcz27_1
                      try clear hcz27_2
                      try clear hcz27_3
                      try clear hcz27_4
                      try clear hcz27_5
                      try clear hcz38_0
                      try clear hcz38_1
                      try clear hcz38_2
                      try clear hcz38_3
                      try clear hcz38_4
                      try clear hcz38_5
                      try clear hfz10_0
                      try clear hfz10_1
                      try clear hfz10_2
                      try clear hfz10_3
                      try clear hfz10_4
                      try clear hfz10_5
                      try clear hfz12_0
                      try clear hfz12_1
                      try clear hfz12_2
                      try clear hfz12_3
                      try clear hfz12_4
                      try clear hfz12_5
                      try clear hfz14_0
                      try clear hfz14_1
                      try clear hfz14_2
                      try clear hfz14_3
                      try clear hfz14_4
                      try clear hfz14_5
                      try clear hfz15_0
                      try clear hfz15_1
                      try clear hfz15_2
                      try clear hfz15_3
                      try clear hfz15_4
                      try clear hfz15_5
                      try clear hfz19_0
                      try clear hfz19_1
                      try clear hfz19_2
                      try clear hfz19_3
                      try clear hfz19_4
                      try clear hfz19_5
                      try clear hfz27_0
                      try clear hfz27_1
                      try clear hfz27_2
                      try clear hfz27_3
                      try clear hfz27_4
                      try clear hfz27_5
                      try clear hfz38_0
                      try clear hfz38_1
                      try clear hfz38_2
                      try clear hfz38_3
                      try clear hfz38_4
                      try clear hfz38_5
                      try clear hx223_0
                      try clear p2
                      try clear p223
                      try clear p6
                      try clear q223
                      obtain ⟨kq, x64_25, rfl, HA, HJ25, HO_7, BK216, HB⟩ := hcut
                      cases kq with
                      | zero => exact absurd HA.out (by simp [aumbrylaw14_LayoutTurns.j3])
                      | succ kj25 =>
                        have H := HA.out
                        clear HA
                        simp only [aumbrylaw14_LayoutTurns.j3] at H
                        by_cases c40 : x64_25 = true
                        · subst c40
                          have H1 : (some false) = some r := by rw [if_pos rfl] at H; exact H
                          clear H
                          have H := H1
                          clear H1
                          obtain rfl := Option.some.inj H
                          go_wp2
                          go_ret
                          exact ⟨by first | rfl | (simp [errW_none, errW_some] <;> rfl) | (simp [*, errW_none, errW_some] <;> rfl), by repeat (first | (with_reducible first | exact HB.out | apply below_alloc | apply pw_below_drewN | apply below_drew1 | refine below_set ?_ GE216.out) | exact HB.out)⟩
                        · replace c40 := Bool.eq_false_iff.mpr c40
                          subst c40
                          have H1 : (if 0 ≤ t222 then (if t222 < (x7_2.length : Int) then (aumbrylaw14_LayoutTurns.l0 kj25 a1 t217 (wrap64 (a0_0 + a0_1)) (x7_2.set (t222 : Int).toNat true) (wrap64 (x8_2 + 1)) a0_0 a0_1 a0_2 a0_3 a0_4 a0_5) else (none)) else (none)) = some r := by rw [if_neg (show ¬ (false = true) by decide)] at H; exact H
                          clear H
                          have H := H1
                          clear H1
                          by_cases c41 : 0 ≤ t222
                          · rw [if_pos c41] at H
                            have c41b0 : decide (0 ≤ t222) = true := decide_eq_true c41
                            clear c41
                            by_cases c42 : t222 < (x7_2.length : Int)
                            · rw [if_pos c42] at H
                              have c42b0 : decide (t222 < (x7_2.length : Int)) = true := decide_eq_true c42
                              clear c42
                              obtain ⟨y225, hy225⟩ : ∃ y_ : List Bool, y_ = (x7_2.set (t222 : Int).toNat true) := ⟨_, rfl⟩
                              replace H : (aumbrylaw14_LayoutTurns.l0 kj25 a1 t217 (wrap64 (a0_0 + a0_1)) y225 (wrap64 (x8_2 + 1)) a0_0 a0_1 a0_2 a0_3 a0_4 a0_5) = some r := by first | (rw [hy225]; with_reducible exact H) | (have H2_ := (Option.bind_some _ _).symm.trans H; rw [hy225]; with_reducible exact H2_) | (have H2_ := (Option.bind_some _ _).symm.trans H; with_reducible exact H2_) | with_reducible exact H | (rw [hy225]; exact H) | exact H
                              have Ny225 := Aside0.mk hy225
                              clear hy225
                              have H' := Aside0.mk H
                              clear H
                              have p43 : 0 ≤ (t222 : Int) := of_decide_eq_true (by first | (with_reducible assumption) | assumption)
                              have q43 : (t222 : Int) < ((x7_2.length : Int) : Int) := of_decide_eq_true (by first | (with_reducible assumption) | assumption)
                              obtain ⟨go43, co43, eo43, gb43, gl43, cl43, HG43⟩ := Kd.R_form HO_7.out (by omega)
                              (first | cases eo43 | (injection eo43 with ea_ en_ ec_; (first | subst ea_ | (injection ea_ with ea_; subst ea_)); subst ec_; clear en_))
                              have GB43 := Aside0.mk gb43
                              have GG43 := Aside0.mk HG43
                              clear gb43 gl43 HG43
                              obtain ⟨hx43_0, hf43_0⟩ := Kd.R_celln false HO_7.out (t222 : Int) p43 q43
                              replace p43 := eq_true p43
                              replace q43 := eq_true q43
                              have HP44 := Kd.R_putg HO_7.out (t222 : Int) true
                              go_wp2_with (first | ((with_reducible refine gate_store (t := 4) (p := 67) rfl ?_); refine store_event (t := 4) (p := 67) (v := ?vo_w45) (w1 := (wc.setCell ⟨go43, (t222 : Int).toNat, none⟩ (.bool true))) ?hg ?ho ?hn ?hr ?_; (case ho => rfl); (case hg => rfl); (case hn => rfl); (case hr => first | (go_simp; done) | (go_simp; rfl)); intro w45 hw; have hg : wc.grownBy w45 (some go43) := (by rw [hw]; exact HP44.2); have hp_ : Kd.R Kd.bool 4 w45 w.heap.size (fun _ => True) (.slice (some ⟨go43, 0, none⟩) x7_2.length co43) y225 := (by rw [hw, Ny225.out]; exact HP44.1); clear HP44; have n0_ := Aside0.mk (hp_); have n1_ := Aside0.mk (blk_grown (g := gb216) (o := .cells #[.int .i64 a0_0, .int .i64 a0_1, .int .i64 a0_2, .int .i64 a0_3, .int .i64 a0_4, .int .i64 a0_5] 24 (0, 0)) (by (with_reducible repeat (first | refine blk_drewN ?_ _ | refine blk_drew ?_ | refine blk_alloc ?_ _)); exact BK216.out) hg (Kd.R_ne HO_7.out BK216.out (by decide))); have n2_ := Aside0.mk ((by rw [hw]; exact below_set (HB.out) GB43.out : Below w.heap.size w w45)); clear HO_7; clear BK216; clear HB; have HO_7 := n0_; have BK216 := n1_; have HB := n2_; clear n0_ n1_ n2_; clear hg hw hp_))
                              go_roundg kj25
                              case measure => have := HJ3.out; have := HK2.out; have := HJ21.out; have := HJ25.out; omega
                              case rel => exact ⟨(y225), (wrap64 (x8_2 + 1)), (by first | rfl | (simp; done) | (simp [*]; done)), H', ⟨by have := HJ3.out; have := HK2.out; have := HJ21.out; have := HJ25.out; omega⟩, ⟨by (with_reducible repeat (first | apply Kd.R_alloc | apply Kd.R_drewN | apply Kd.R_drew)); exact HO_7.out⟩, ⟨by (with_reducible repeat (first | refine blk_drewN ?_ _ | refine blk_drew ?_ | refine blk_alloc ?_ _)); exact BK216.out⟩, ⟨by repeat (first | (with_reducible first | exact HB.out | apply below_alloc | apply pw_below_drewN | apply below_drew1 | refine below_set ?_ GE216.out) | exact HB.out)⟩⟩
                            · rw [if_neg c42] at H
                              exact absurd H (by simp)
                          · rw [if_neg c41] at H
                            exact absurd H (by simp)
                  · replace c24 := Bool.eq_false_iff.mpr c24
                    subst c24
                    have H1 : (some t217) = some r := by rw [if_neg (show ¬ (false = true) by decide)] at H; exact H
                    clear H
                    have H := H1
                    clear H1
                    obtain rfl := Option.some.inj H
                    go_wp2
                    go_ret
                    exact ⟨by first | rfl | (simp [errW_none, errW_some] <;> rfl) | (simp [*, errW_none, errW_some] <;> rfl), by repeat (first | (with_reducible first | exact HB.out | apply below_alloc | apply pw_below_drewN | apply below_drew1 | refine below_set ?_ GE216.out) | exact HB.out)⟩
        · rw [if_neg c18] at H
          exact absurd H (by simp)

end Go.Proofs.Ytacolbcmlpfbmaa.PAll
