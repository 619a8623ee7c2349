-- LAID BY A PROGRAM OF THIS SESSION (wip/tools: the kit's print with changes of our own)
import Derived.Test.YtacolbcmlpfbmaaPAllx0
import Derived.Test.YtacolbcmlpfbmaaPAllx1
import Derived.Test.YtacolbcmlpfbmaaPAllx2
namespace Go.Proofs.Ytacolbcmlpfbmaa.PAll
open Go.RowKit Go.Proofs.YtacolbcmlpfbmaaW.PrintWords Go.Proofs.YtacolbcmlpfbmaaW.PrintLast Go.Proofs.YtacolbcmlpfbmaaW.PrintMore
attribute [local go_sem] max2_int min2_int max_two min_two max_three min_three max_four min_four   -- for this text's walks alone
set_option linter.unusedVariables false
set_option linter.unusedSimpArgs false

/-! ### aumbrylaw14_awake: function 9 -/
def aumbrylaw14_awake.j0 : Nat → Bool → Int → Int → Int → Int → Int → Int → Option (Bool)
  | 0, _, _, _, _, _, _, _ => none
  | k + 1, x2, x141000, x141001, x141002, x141003, x141004, x141005 => (layout_Stripe.f k x141000 x141001 x141002 x141003 x141004 x141005 0).bind fun t145 => (if t145 = 8 then ((layout_Disk.f k x141000 x141001 x141002 x141003 x141004 x141005 4 2).bind fun t146 => (if t146 = 0 then ((layout_Shard.f k x141000 x141001 x141002 x141003 x141004 x141005 4 0).bind fun t147 => (if t147 = 2 then ((layout_Needs.f k x141000 x141001 x141002 x141003 x141004 x141005 9).bind fun t148 => (if x2 = true then (if t148 = 2 then ((layout_Check.f k 0 0 0 0 0 0).bind fun t149 => (some (t149 == 50))) else (some false)) else (some false))) else (if x2 = true then (some false) else (some false)))) else (if x2 = true then (some false) else (some false)))) else (if x2 = true then (some false) else (some false)))
def aumbrylaw14_awake.f (k : Nat)  : Option (Bool) := (layout_Check.f k 2 1 4 5 3 2).bind fun t141 => (if t141 = 0 then ((layout_Sectors.f k 2 1 4 5 3 2).bind fun t142 => (if t142 = 13 then ((layout_Area.f k 2 1 4 5 3 2 1 0).bind fun t143 => (if t143 = 3 then ((layout_Slot.f k 2 1 4 5 3 2 2).bind fun t144 => (aumbrylaw14_awake.j0 k (t144 == 7) 2 1 4 5 3 2)) else (aumbrylaw14_awake.j0 k false 2 1 4 5 3 2))) else (aumbrylaw14_awake.j0 k false 2 1 4 5 3 2))) else (aumbrylaw14_awake.j0 k false 2 1 4 5 3 2))
theorem aumbrylaw14_awake.mono_l : ∀ k, (∀ y0 y1 y2 y3 y4 y5 y6, LeO (aumbrylaw14_awake.j0 k y0 y1 y2 y3 y4 y5 y6) (aumbrylaw14_awake.j0 (k + 1) y0 y1 y2 y3 y4 y5 y6))
  | 0 => fun _ _ _ _ _ _ _ r h => by simp [aumbrylaw14_awake.j0] at h
  | k + 1 => by
    have ih0 := aumbrylaw14_awake.mono_l k
    · intro y0 y1 y2 y3 y4 y5 y6
      unfold aumbrylaw14_awake.j0
      repeat' first
      | (with_reducible exact ih0 _ _ _ _ _ _ _)
      | (with_reducible exact layout_Area.mono _ _ _ _ _ _ _ _ _)
      | (with_reducible exact layout_Check.mono _ _ _ _ _ _ _)
      | (with_reducible exact layout_Disk.mono _ _ _ _ _ _ _ _ _)
      | (with_reducible exact layout_Needs.mono _ _ _ _ _ _ _ _)
      | (with_reducible exact layout_Sectors.mono _ _ _ _ _ _ _)
      | (with_reducible exact layout_Shard.mono _ _ _ _ _ _ _ _ _)
      | (with_reducible exact layout_Slot.mono _ _ _ _ _ _ _ _)
      | (with_reducible exact layout_Stripe.mono _ _ _ _ _ _ _ _)
      | (with_reducible exact LeO.refl _)
      | (with_reducible exact LeO.none _)
      | (with_reducible refine LeO.ite ?_ ?_)
      | (with_reducible refine LeO.bind ?_ (fun _ => ?_))
      | exact ih0 _ _ _ _ _ _ _
      | exact layout_Area.mono _ _ _ _ _ _ _ _ _
      | exact layout_Check.mono _ _ _ _ _ _ _
      | exact layout_Disk.mono _ _ _ _ _ _ _ _ _
      | exact layout_Needs.mono _ _ _ _ _ _ _ _
      | exact layout_Sectors.mono _ _ _ _ _ _ _
      | exact layout_Shard.mono _ _ _ _ _ _ _ _ _
      | exact layout_Slot.mono _ _ _ _ _ _ _ _
      | exact layout_Stripe.mono _ _ _ _ _ _ _ _
      | exact LeO.none _
      | refine LeO.ite ?_ ?_
      | refine LeO.bind ?_ (fun _ => ?_)
theorem aumbrylaw14_awake.mono : ∀ k, LeO (aumbrylaw14_awake.f k ) (aumbrylaw14_awake.f (k + 1) ) := by
  intro  k
  have ih0 := aumbrylaw14_awake.mono_l k
  unfold aumbrylaw14_awake.f
  repeat' first
      | (with_reducible exact ih0 _ _ _ _ _ _ _)
      | (with_reducible exact layout_Area.mono _ _ _ _ _ _ _ _ _)
      | (with_reducible exact layout_Check.mono _ _ _ _ _ _ _)
      | (with_reducible exact layout_Disk.mono _ _ _ _ _ _ _ _ _)
      | (with_reducible exact layout_Needs.mono _ _ _ _ _ _ _ _)
      | (with_reducible exact layout_Sectors.mono _ _ _ _ _ _ _)
      | (with_reducible exact layout_Shard.mono _ _ _ _ _ _ _ _ _)
      | (with_reducible exact layout_Slot.mono _ _ _ _ _ _ _ _)
      | (with_reducible exact layout_Stripe.mono _ _ _ _ _ _ _ _)
      | (with_reducible exact LeO.refl _)
      | (with_reducible exact LeO.none _)
      | (with_reducible refine LeO.ite ?_ ?_)
      | (with_reducible refine LeO.bind ?_ (fun _ => ?_))
      | exact ih0 _ _ _ _ _ _ _
      | exact layout_Area.mono _ _ _ _ _ _ _ _ _
      | exact layout_Check.mono _ _ _ _ _ _ _
      | exact layout_Disk.mono _ _ _ _ _ _ _ _ _
      | exact layout_Needs.mono _ _ _ _ _ _ _ _
      | exact layout_Sectors.mono _ _ _ _ _ _ _
      | exact layout_Shard.mono _ _ _ _ _ _ _ _ _
      | exact layout_Slot.mono _ _ _ _ _ _ _ _
      | exact layout_Stripe.mono _ _ _ _ _ _ _ _
      | exact LeO.none _
      | refine LeO.ite ?_ ?_
      | refine LeO.bind ?_ (fun _ => ?_)
set_option maxHeartbeats 8000000 in
set_option maxRecDepth 100000 in
theorem aumbrylaw14_awake.calls (k : Nat)  (r : Bool) (w : World) (h : aumbrylaw14_awake.f k  = some r) :
    Calls Try.prog 9 #[] w fun e w' => e = .returned (.bool r) ∧ Below w.heap.size w w' := by
  have hu24 := Try.underlying24
  have HB := Aside0.mk (Below.refl w.heap.size w)
  have H : ((layout_Check.f k 2 1 4 5 3 2).bind fun t141 => (if t141 = 0 then ((layout_Sectors.f k 2 1 4 5 3 2).bind fun t142 => (if t142 = 13 then ((layout_Area.f k 2 1 4 5 3 2 1 0).bind fun t143 => (if t143 = 3 then ((layout_Slot.f k 2 1 4 5 3 2 2).bind fun t144 => (aumbrylaw14_awake.j0 k (t144 == 7) 2 1 4 5 3 2)) else (aumbrylaw14_awake.j0 k false 2 1 4 5 3 2))) else (aumbrylaw14_awake.j0 k false 2 1 4 5 3 2))) else (aumbrylaw14_awake.j0 k false 2 1 4 5 3 2))) = some r := h
  clear h
  have HC1 := Aside0.mk H
  clear H
  go_enter Try.func9, Try.ntmps9
  go_upto_region 2 with (first | ((with_reducible refine gate_dst (N := 1) rfl ?_); refine box_event ?hg (N := 1) ?hd (cs := #[.int .i64 0, .int .i64 0, .int .i64 0, .int .i64 0, .int .i64 0, .int .i64 0]) (t := 24) ?hr ?_; (case hd => rfl); (case hg => rfl); (case hr => first | (go_simp; done) | (go_simp; rfl)); intro gb140 hg w2 hbox hb; have n0_ := Aside0.mk (below_step (by repeat (first | (with_reducible first | exact HB.out | apply below_alloc | apply pw_below_drewN | apply below_drew1) | exact HB.out)) hb); have n1_ := Aside0.mk (hbox); have n2_ := Aside0.mk ((by rw [hg]; exact (below_size (by repeat (first | (with_reducible first | exact HB.out | apply below_alloc | apply pw_below_drewN | apply below_drew1) | exact HB.out))) : w.heap.size ≤ gb140)); have n3_ := Aside0.mk ((by rw [hg]; exact (below_size (by repeat (first | (with_reducible first | exact HB.out | apply below_alloc | apply pw_below_drewN | apply below_drew1) | exact HB.out))) : w.heap.size ≤ gb140)); clear HB; have HB := n0_; have BK140 := n1_; have GW140 := n2_; have GE140 := n3_; clear n0_ n1_ n2_ n3_; clear hb hbox hg; have hcz3_0 : w2.cell? ⟨gb140, 0, none⟩ = some (.int .i64 0) := (blk_cell BK140.out 0).trans rfl; have hcz3_1 : w2.cell? ⟨gb140, 1, none⟩ = some (.int .i64 0) := (blk_cell BK140.out 1).trans rfl; have hcz3_2 : w2.cell? ⟨gb140, 2, none⟩ = some (.int .i64 0) := (blk_cell BK140.out 2).trans rfl; have hcz3_3 : w2.cell? ⟨gb140, 3, none⟩ = some (.int .i64 0) := (blk_cell BK140.out 3).trans rfl; have hcz3_4 : w2.cell? ⟨gb140, 4, none⟩ = some (.int .i64 0) := (blk_cell BK140.out 4).trans rfl; have hcz3_5 : w2.cell? ⟨gb140, 5, none⟩ = some (.int .i64 0) := (blk_cell BK140.out 5).trans rfl; have hfz3_0 := blk_frozen BK140.out 0; have hfz3_1 := blk_frozen BK140.out 1; have hfz3_2 := blk_frozen BK140.out 2; have hfz3_3 := blk_frozen BK140.out 3; have hfz3_4 := blk_frozen BK140.out 4; have hfz3_5 := blk_frozen BK140.out 5))
  (try simp only [Act.put, List.setIfInBounds_toArray, List.set_cons_zero, List.set_cons_succ])
  go_cut [2] (fun v2 wc => ∃ (kq : Nat) (x2_0 : Bool), v2 = .bool x2_0 ∧ Aside0 (aumbrylaw14_awake.j0 kq x2_0 2 1 4 5 3 2 = some r) ∧ Aside0 (kq ≤ k) ∧ Aside0 (wc.heap[gb140]? = some (.cells #[.int .i64 2, .int .i64 1, .int .i64 4, .int .i64 5, .int .i64 3, .int .i64 2] 24 (0, 0))) ∧ Aside0 (Below w.heap.size w wc))
  case first =>
    have H := HC1.out
    clear HC1
    replace H := Option.bind_eq_some_iff.mp H
    obtain ⟨t141, A40, H⟩ := H
    replace H : (if t141 = 0 then ((layout_Sectors.f k 2 1 4 5 3 2).bind fun t142 => (if t142 = 13 then ((layout_Area.f k 2 1 4 5 3 2 1 0).bind fun t143 => (if t143 = 3 then ((layout_Slot.f k 2 1 4 5 3 2 2).bind fun t144 => (aumbrylaw14_awake.j0 k (t144 == 7) 2 1 4 5 3 2)) else (aumbrylaw14_awake.j0 k false 2 1 4 5 3 2))) else (aumbrylaw14_awake.j0 k false 2 1 4 5 3 2))) else (aumbrylaw14_awake.j0 k false 2 1 4 5 3 2)) = some r := H
    have A4 := Aside0.mk A40
    clear A40
    by_cases c5 : t141 = 0
    · rw [if_pos c5] at H
      have c5b0 : (t141 == 0) = true := beq_iff_eq.mpr c5
      have c5b1 : (t141 != 0) = false := bne_eq_false_iff_eq.mpr c5
      clear c5
      (first | rw [c5b0] | (simp only [i64_w, i32_w]; rw [c5b0]) | skip)
      replace H := Option.bind_eq_some_iff.mp H
      obtain ⟨t142, A60, H⟩ := H
      replace H : (if t142 = 13 then ((layout_Area.f k 2 1 4 5 3 2 1 0).bind fun t143 => (if t143 = 3 then ((layout_Slot.f k 2 1 4 5 3 2 2).bind fun t144 => (aumbrylaw14_awake.j0 k (t144 == 7) 2 1 4 5 3 2)) else (aumbrylaw14_awake.j0 k false 2 1 4 5 3 2))) else (aumbrylaw14_awake.j0 k false 2 1 4 5 3 2)) = some r := H
      have A6 := Aside0.mk A60
      clear A60
      by_cases c7 : t142 = 13
      · rw [if_pos c7] at H
        have c7b0 : (t142 == 13) = true := beq_iff_eq.mpr c7
        have c7b1 : (t142 != 13) = false := bne_eq_false_iff_eq.mpr c7
        clear c7
        replace H := Option.bind_eq_some_iff.mp H
        obtain ⟨t143, A80, H⟩ := H
        replace H : (if t143 = 3 then ((layout_Slot.f k 2 1 4 5 3 2 2).bind fun t144 => (aumbrylaw14_awake.j0 k (t144 == 7) 2 1 4 5 3 2)) else (aumbrylaw14_awake.j0 k false 2 1 4 5 3 2)) = some r := H
        have A8 := Aside0.mk A80
        clear A80
        by_cases c9 : t143 = 3
        · rw [if_pos c9] at H
          have c9b0 : (t143 == 3) = true := beq_iff_eq.mpr c9
          have c9b1 : (t143 != 3) = false := bne_eq_false_iff_eq.mpr c9
          clear c9
          replace H := Option.bind_eq_some_iff.mp H
          obtain ⟨t144, A100, H⟩ := H
          replace H : (aumbrylaw14_awake.j0 k (t144 == 7) 2 1 4 5 3 2) = some r := H
          have A10 := Aside0.mk A100
          clear A100
          have H' := Aside0.mk H
          clear H
          have hcz11_0 : w2.cell? ⟨gb140, 0, none⟩ = some (.int .i64 0) := (blk_cell BK140.out 0).trans rfl
          have hcz11_1 : w2.cell? ⟨gb140, 1, none⟩ = some (.int .i64 0) := (blk_cell BK140.out 1).trans rfl
          have hcz11_2 : w2.cell? ⟨gb140, 2, none⟩ = some (.int .i64 0) := (blk_cell BK140.out 2).trans rfl
          have hcz11_3 : w2.cell? ⟨gb140, 3, none⟩ = some (.int .i64 0) := (blk_cell BK140.out 3).trans rfl
          have hcz11_4 : w2.cell? ⟨gb140, 4, none⟩ = some (.int .i64 0) := (blk_cell BK140.out 4).trans rfl
          have hcz11_5 : w2.cell? ⟨gb140, 5, none⟩ = some (.int .i64 0) := (blk_cell BK140.out 5).trans rfl
          have hfz11_0 := blk_frozen BK140.out 0
          have hfz11_1 := blk_frozen BK140.out 1
          have hfz11_2 := blk_frozen BK140.out 2
          have hfz11_3 := blk_frozen BK140.out 3
          have hfz11_4 := blk_frozen BK140.out 4
          have hfz11_5 := blk_frozen BK140.out 5
          go_wp2_with (first | ((with_reducible refine gate_callee (f := 10) rfl ?_); refine goesL_ (some 6) rfl rfl Try.func10 (by kernel_rfl) rfl #[.agg #[.int .i64 2, .int .i64 1, .int .i64 4, .int .i64 5, .int .i64 3, .int .i64 2]] rfl (by (try simp only [List.map_toArray, List.map_cons, List.map_nil]); first | done | rfl | (simp only [List.length_drop, List.length_take]; rfl)) ?_; (with_reducible refine (layout_Check.calls k 2 1 4 5 3 2 t141 _ A4.out).mono ?_); rintro e w12 ⟨rfl, hb⟩; refine ⟨_, rfl, ?_⟩; have n0_ := Aside0.mk (blk_below (g := gb140) (o := .cells #[.int .i64 2, .int .i64 1, .int .i64 4, .int .i64 5, .int .i64 3, .int .i64 2] 24 (0, 0)) (by (with_reducible repeat (first | refine blk_drewN ?_ _ | refine blk_drew ?_ | refine blk_alloc ?_ _)); refine blk_put (cs := #[.int .i64 2, .int .i64 1, .int .i64 4, .int .i64 5, .int .i64 3, .int .i64 0]) ?_ 5 _ rfl; (with_reducible repeat (first | refine blk_drewN ?_ _ | refine blk_drew ?_ | refine blk_alloc ?_ _)); refine blk_put (cs := #[.int .i64 2, .int .i64 1, .int .i64 4, .int .i64 5, .int .i64 0, .int .i64 0]) ?_ 4 _ rfl; (with_reducible repeat (first | refine blk_drewN ?_ _ | refine blk_drew ?_ | refine blk_alloc ?_ _)); refine blk_put (cs := #[.int .i64 2, .int .i64 1, .int .i64 4, .int .i64 0, .int .i64 0, .int .i64 0]) ?_ 3 _ rfl; (with_reducible repeat (first | refine blk_drewN ?_ _ | refine blk_drew ?_ | refine blk_alloc ?_ _)); refine blk_put (cs := #[.int .i64 2, .int .i64 1, .int .i64 0, .int .i64 0, .int .i64 0, .int .i64 0]) ?_ 2 _ rfl; (with_reducible repeat (first | refine blk_drewN ?_ _ | refine blk_drew ?_ | refine blk_alloc ?_ _)); refine blk_put (cs := #[.int .i64 2, .int .i64 0, .int .i64 0, .int .i64 0, .int .i64 0, .int .i64 0]) ?_ 1 _ rfl; (with_reducible repeat (first | refine blk_drewN ?_ _ | refine blk_drew ?_ | refine blk_alloc ?_ _)); refine blk_put (cs := #[.int .i64 0, .int .i64 0, .int .i64 0, .int .i64 0, .int .i64 0, .int .i64 0]) ?_ 0 _ rfl; (with_reducible repeat (first | refine blk_drewN ?_ _ | refine blk_drew ?_ | refine blk_alloc ?_ _)); exact BK140.out) hb); have n1_ := Aside0.mk (below_step (by repeat (first | (with_reducible first | exact HB.out | apply below_alloc | apply pw_below_drewN | apply below_drew1 | refine below_set ?_ GE140.out) | exact HB.out)) hb); clear BK140; clear HB; have BK140 := n0_; have HB := n1_; clear n0_ n1_; (try clear hb); (try clear hb2); (try clear hk); (try clear hi); have hcz13_0 : w12.cell? ⟨gb140, 0, none⟩ = some (.int .i64 2) := (blk_cell BK140.out 0).trans rfl; have hcz13_1 : w12.cell? ⟨gb140, 1, none⟩ = some (.int .i64 1) := (blk_cell BK140.out 1).trans rfl; have hcz13_2 : w12.cell? ⟨gb140, 2, none⟩ = some (.int .i64 4) := (blk_cell BK140.out 2).trans rfl; have hcz13_3 : w12.cell? ⟨gb140, 3, none⟩ = some (.int .i64 5) := (blk_cell BK140.out 3).trans rfl; have hcz13_4 : w12.cell? ⟨gb140, 4, none⟩ = some (.int .i64 3) := (blk_cell BK140.out 4).trans rfl; have hcz13_5 : w12.cell? ⟨gb140, 5, none⟩ = some (.int .i64 2) := (blk_cell BK140.out 5).trans rfl; have hfz13_0 := blk_frozen BK140.out 0; have hfz13_1 := blk_frozen BK140.out 1; have hfz13_2 := blk_frozen BK140.out 2; have hfz13_3 := blk_frozen BK140.out 3; have hfz13_4 := blk_frozen BK140.out 4; have hfz13_5 := blk_frozen BK140.out 5) | (go_at_call 12; (with_reducible refine (layout_Sectors.calls k 2 1 4 5 3 2 t142 _ A6.out).mono ?_); rintro e w14 ⟨rfl, hb⟩; have n0_ := Aside0.mk (blk_below (g := gb140) (o := .cells #[.int .i64 2, .int .i64 1, .int .i64 4, .int .i64 5, .int .i64 3, .int .i64 2] 24 (0, 0)) (by (with_reducible repeat (first | refine blk_drewN ?_ _ | refine blk_drew ?_ | refine blk_alloc ?_ _)); exact BK140.out) hb); have n1_ := Aside0.mk (below_step (by repeat (first | (with_reducible first | exact HB.out | apply below_alloc | apply pw_below_drewN | apply below_drew1 | refine below_set ?_ GE140.out) | exact HB.out)) hb); clear BK140; clear HB; have BK140 := n0_; have HB := n1_; clear n0_ n1_; (try clear hb); (try clear hb2); (try clear hk); (try clear hi); have hcz15_0 : w14.cell? ⟨gb140, 0, none⟩ = some (.int .i64 2) := (blk_cell BK140.out 0).trans rfl; have hcz15_1 : w14.cell? ⟨gb140, 1, none⟩ = some (.int .i64 1) := (blk_cell BK140.out 1).trans rfl; have hcz15_2 : w14.cell? ⟨gb140, 2, none⟩ = some (.int .i64 4) := (blk_cell BK140.out 2).trans rfl; have hcz15_3 : w14.cell? ⟨gb140, 3, none⟩ = some (.int .i64 5) := (blk_cell BK140.out 3).trans rfl; have hcz15_4 : w14.cell? ⟨gb140, 4, none⟩ = some (.int .i64 3) := (blk_cell BK140.out 4).trans rfl; have hcz15_5 : w14.cell? ⟨gb140, 5, none⟩ = some (.int .i64 2) := (blk_cell BK140.out 5).trans rfl; have hfz15_0 := blk_frozen BK140.out 0; have hfz15_1 := blk_frozen BK140.out 1; have hfz15_2 := blk_frozen BK140.out 2; have hfz15_3 := blk_frozen BK140.out 3; have hfz15_4 := blk_frozen BK140.out 4; have hfz15_5 := blk_frozen BK140.out 5) | (go_at_call 14; (with_reducible refine (layout_Area.calls k 2 1 4 5 3 2 1 0 t143 _ A8.out).mono ?_); rintro e w16 ⟨rfl, hb⟩; have n0_ := Aside0.mk (blk_below (g := gb140) (o := .cells #[.int .i64 2, .int .i64 1, .int .i64 4, .int .i64 5, .int .i64 3, .int .i64 2] 24 (0, 0)) (by (with_reducible repeat (first | refine blk_drewN ?_ _ | refine blk_drew ?_ | refine blk_alloc ?_ _)); exact BK140.out) hb); have n1_ := Aside0.mk (below_step (by repeat (first | (with_reducible first | exact HB.out | apply below_alloc | apply pw_below_drewN | apply below_drew1 | refine below_set ?_ GE140.out) | exact HB.out)) hb); clear BK140; clear HB; have BK140 := n0_; have HB := n1_; clear n0_ n1_; (try clear hb); (try clear hb2); (try clear hk); (try clear hi); have hcz17_0 : w16.cell? ⟨gb140, 0, none⟩ = some (.int .i64 2) := (blk_cell BK140.out 0).trans rfl; have hcz17_1 : w16.cell? ⟨gb140, 1, none⟩ = some (.int .i64 1) := (blk_cell BK140.out 1).trans rfl; have hcz17_2 : w16.cell? ⟨gb140, 2, none⟩ = some (.int .i64 4) := (blk_cell BK140.out 2).trans rfl; have hcz17_3 : w16.cell? ⟨gb140, 3, none⟩ = some (.int .i64 5) := (blk_cell BK140.out 3).trans rfl; have hcz17_4 : w16.cell? ⟨gb140, 4, none⟩ = some (.int .i64 3) := (blk_cell BK140.out 4).trans rfl; have hcz17_5 : w16.cell? ⟨gb140, 5, none⟩ = some (.int .i64 2) := (blk_cell BK140.out 5).trans rfl; have hfz17_0 := blk_frozen BK140.out 0; have hfz17_1 := blk_frozen BK140.out 1; have hfz17_2 := blk_frozen BK140.out 2; have hfz17_3 := blk_frozen BK140.out 3; have hfz17_4 := blk_frozen BK140.out 4; have hfz17_5 := blk_frozen BK140.out 5) | (go_at_call 16; (with_reducible refine (layout_Slot.calls k 2 1 4 5 3 2 2 t144 _ A10.out).mono ?_); rintro e w18 ⟨rfl, hb⟩; have n0_ := Aside0.mk (blk_below (g := gb140) (o := .cells #[.int .i64 2, .int .i64 1, .int .i64 4, .int .i64 5, .int .i64 3, .int .i64 2] 24 (0, 0)) (by (with_reducible repeat (first | refine blk_drewN ?_ _ | refine blk_drew ?_ | refine blk_alloc ?_ _)); exact BK140.out) hb); have n1_ := Aside0.mk (below_step (by repeat (first | (with_reducible first | exact HB.out | apply below_alloc | apply pw_below_drewN | apply below_drew1 | refine below_set ?_ GE140.out) | exact HB.out)) hb); clear BK140; clear HB; have BK140 := n0_; have HB := n1_; clear n0_ n1_; (try clear hb); (try clear hb2); (try clear hk); (try clear hi)))
          go_meet
          case rel => exact ⟨_, ((t144 == 7)), (by first | rfl | (simp; done) | (simp [*]; done)), H', ⟨by first | omega | exact Nat.le_refl _⟩, ⟨by (with_reducible repeat (first | refine blk_drewN ?_ _ | refine blk_drew ?_ | refine blk_alloc ?_ _)); exact BK140.out⟩, ⟨by repeat (first | (with_reducible first | exact HB.out | apply below_alloc | apply pw_below_drewN | apply below_drew1 | refine below_set ?_ GE140.out) | exact HB.out)⟩⟩
        · rw [if_neg c9] at H
          have c9b0 : (t143 == 3) = false := beq_eq_false_iff_ne.mpr c9
          have c9b1 : (t143 != 3) = true := bne_iff_ne.mpr c9
          have H' := Aside0.mk H
          clear H
          have hcz19_0 : w2.cell? ⟨gb140, 0, none⟩ = some (.int .i64 0) := (blk_cell BK140.out 0).trans rfl
          have hcz19_1 : w2.cell? ⟨gb140, 1, none⟩ = some (.int .i64 0) := (blk_cell BK140.out 1).trans rfl
          have hcz19_2 : w2.cell? ⟨gb140, 2, none⟩ = some (.int .i64 0) := (blk_cell BK140.out 2).trans rfl
          have hcz19_3 : w2.cell? ⟨gb140, 3, none⟩ = some (.int .i64 0) := (blk_cell BK140.out 3).trans rfl
          have hcz19_4 : w2.cell? ⟨gb140, 4, none⟩ = some (.int .i64 0) := (blk_cell BK140.out 4).trans rfl
          have hcz19_5 : w2.cell? ⟨gb140, 5, none⟩ = some (.int .i64 0) := (blk_cell BK140.out 5).trans rfl
          have hfz19_0 := blk_frozen BK140.out 0
          have hfz19_1 := blk_frozen BK140.out 1
          have hfz19_2 := blk_frozen BK140.out 2
          have hfz19_3 := blk_frozen BK140.out 3
          have hfz19_4 := blk_frozen BK140.out 4
          have hfz19_5 := blk_frozen BK140.out 5
          go_wp2_with (first | ((with_reducible refine gate_callee (f := 10) rfl ?_); refine goesL_ (some 6) rfl rfl Try.func10 (by kernel_rfl) rfl #[.agg #[.int .i64 2, .int .i64 1, .int .i64 4, .int .i64 5, .int .i64 3, .int .i64 2]] rfl (by (try simp only [List.map_toArray, List.map_cons, List.map_nil]); first | done | rfl | (simp only [List.length_drop, List.length_take]; rfl)) ?_; (with_reducible refine (layout_Check.calls k 2 1 4 5 3 2 t141 _ A4.out).mono ?_); rintro e w20 ⟨rfl, hb⟩; refine ⟨_, rfl, ?_⟩; have n0_ := Aside0.mk (blk_below (g := gb140) (o := .cells #[.int .i64 2, .int .i64 1, .int .i64 4, .int .i64 5, .int .i64 3, .int .i64 2] 24 (0, 0)) (by (with_reducible repeat (first | refine blk_drewN ?_ _ | refine blk_drew ?_ | refine blk_alloc ?_ _)); refine blk_put (cs := #[.int .i64 2, .int .i64 1, .int .i64 4, .int .i64 5, .int .i64 3, .int .i64 0]) ?_ 5 _ rfl; (with_reducible repeat (first | refine blk_drewN ?_ _ | refine blk_drew ?_ | refine blk_alloc ?_ _)); refine blk_put (cs := #[.int .i64 2, .int .i64 1, .int .i64 4, .int .i64 5, .int .i64 0, .int .i64 0]) ?_ 4 _ rfl; (with_reducible repeat (first | refine blk_drewN ?_ _ | refine blk_drew ?_ | refine blk_alloc ?_ _)); refine blk_put (cs := #[.int .i64 2, .int .i64 1, .int .i64 4, .int .i64 0, .int .i64 0, .int .i64 0]) ?_ 3 _ rfl; (with_reducible repeat (first | refine blk_drewN ?_ _ | refine blk_drew ?_ | refine blk_alloc ?_ _)); refine blk_put (cs := #[.int .i64 2, .int .i64 1, .int .i64 0, .int .i64 0, .int .i64 0, .int .i64 0]) ?_ 2 _ rfl; (with_reducible repeat (first | refine blk_drewN ?_ _ | refine blk_drew ?_ | refine blk_alloc ?_ _)); refine blk_put (cs := #[.int .i64 2, .int .i64 0, .int .i64 0, .int .i64 0, .int .i64 0, .int .i64 0]) ?_ 1 _ rfl; (with_reducible repeat (first | refine blk_drewN ?_ _ | refine blk_drew ?_ | refine blk_alloc ?_ _)); refine blk_put (cs := #[.int .i64 0, .int .i64 0, .int .i64 0, .int .i64 0, .int .i64 0, .int .i64 0]) ?_ 0 _ rfl; (with_reducible repeat (first | refine blk_drewN ?_ _ | refine blk_drew ?_ | refine blk_alloc ?_ _)); exact BK140.out) hb); have n1_ := Aside0.mk (below_step (by repeat (first | (with_reducible first | exact HB.out | apply below_alloc | apply pw_below_drewN | apply below_drew1 | refine below_set ?_ GE140.out) | exact HB.out)) hb); clear BK140; clear HB; have BK140 := n0_; have HB := n1_; clear n0_ n1_; (try clear hb); (try clear hb2); (try clear hk); (try clear hi); have hcz21_0 : w20.cell? ⟨gb140, 0, none⟩ = some (.int .i64 2) := (blk_cell BK140.out 0).trans rfl; have hcz21_1 : w20.cell? ⟨gb140, 1, none⟩ = some (.int .i64 1) := (blk_cell BK140.out 1).trans rfl; have hcz21_2 : w20.cell? ⟨gb140, 2, none⟩ = some (.int .i64 4) := (blk_cell BK140.out 2).trans rfl; have hcz21_3 : w20.cell? ⟨gb140, 3, none⟩ = some (.int .i64 5) := (blk_cell BK140.out 3).trans rfl; have hcz21_4 : w20.cell? ⟨gb140, 4, none⟩ = some (.int .i64 3) := (blk_cell BK140.out 4).trans rfl; have hcz21_5 : w20.cell? ⟨gb140, 5, none⟩ = some (.int .i64 2) := (blk_cell BK140.out 5).trans rfl; have hfz21_0 := blk_frozen BK140.out 0; have hfz21_1 := blk_frozen BK140.out 1; have hfz21_2 := blk_frozen BK140.out 2; have hfz21_3 := blk_frozen BK140.out 3; have hfz21_4 := blk_frozen BK140.out 4; have hfz21_5 := blk_frozen BK140.out 5) | (go_at_call 12; (with_reducible refine (layout_Sectors.calls k 2 1 4 5 3 2 t142 _ A6.out).mono ?_); rintro e w22 ⟨rfl, hb⟩; have n0_ := Aside0.mk (blk_below (g := gb140) (o := .cells #[.int .i64 2, .int .i64 1, .int .i64 4, .int .i64 5, .int .i64 3, .int .i64 2] 24 (0, 0)) (by (with_reducible repeat (first | refine blk_drewN ?_ _ | refine blk_drew ?_ | refine blk_alloc ?_ _)); exact BK140.out) hb); have n1_ := Aside0.mk (below_step (by repeat (first | (with_reducible first | exact HB.out | apply below_alloc | apply pw_below_drewN | apply below_drew1 | refine below_set ?_ GE140.out) | exact HB.out)) hb); clear BK140; clear HB; have BK140 := n0_; have HB := n1_; clear n0_ n1_; (try clear hb); (try clear hb2); (try clear hk); (try clear hi); have hcz23_0 : w22.cell? ⟨gb140, 0, none⟩ = some (.int .i64 2) := (blk_cell BK140.out 0).trans rfl; have hcz23_1 : w22.cell? ⟨gb140, 1, none⟩ = some (.int .i64 1) := (blk_cell BK140.out 1).trans rfl; have hcz23_2 : w22.cell? ⟨gb140, 2, none⟩ = some (.int .i64 4) := (blk_cell BK140.out 2).trans rfl; have hcz23_3 : w22.cell? ⟨gb140, 3, none⟩ = some (.int .i64 5) := (blk_cell BK140.out 3).trans rfl; have hcz23_4 : w22.cell? ⟨gb140, 4, none⟩ = some (.int .i64 3) := (blk_cell BK140.out 4).trans rfl; have hcz23_5 : w22.cell? ⟨gb140, 5, none⟩ = some (.int .i64 2) := (blk_cell BK140.out 5).trans rfl; have hfz23_0 := blk_frozen BK140.out 0; have hfz23_1 := blk_frozen BK140.out 1; have hfz23_2 := blk_frozen BK140.out 2; have hfz23_3 := blk_frozen BK140.out 3; have hfz23_4 := blk_frozen BK140.out 4; have hfz23_5 := blk_frozen BK140.out 5) | (go_at_call 14; (with_reducible refine (layout_Area.calls k 2 1 4 5 3 2 1 0 t143 _ A8.out).mono ?_); rintro e w24 ⟨rfl, hb⟩; have n0_ := Aside0.mk (blk_below (g := gb140) (o := .cells #[.int .i64 2, .int .i64 1, .int .i64 4, .int .i64 5, .int .i64 3, .int .i64 2] 24 (0, 0)) (by (with_reducible repeat (first | refine blk_drewN ?_ _ | refine blk_drew ?_ | refine blk_alloc ?_ _)); exact BK140.out) hb); have n1_ := Aside0.mk (below_step (by repeat (first | (with_reducible first | exact HB.out | apply below_alloc | apply pw_below_drewN | apply below_drew1 | refine below_set ?_ GE140.out) | exact HB.out)) hb); clear BK140; clear HB; have BK140 := n0_; have HB := n1_; clear n0_ n1_; (try clear hb); (try clear hb2); (try clear hk); (try clear hi)))
          go_meet
          case rel => exact ⟨_, (false), (by first | rfl | (simp; done) | (simp [*]; done)), H', ⟨by first | omega | exact Nat.le_refl _⟩, ⟨by (with_reducible repeat (first | refine blk_drewN ?_ _ | refine blk_drew ?_ | refine blk_alloc ?_ _)); exact BK140.out⟩, ⟨by repeat (first | (with_reducible first | exact HB.out | apply below_alloc | apply pw_below_drewN | apply below_drew1 | refine below_set ?_ GE140.out) | exact HB.out)⟩⟩
      · rw [if_neg c7] at H
        have c7b0 : (t142 == 13) = false := beq_eq_false_iff_ne.mpr c7
        have c7b1 : (t142 != 13) = true := bne_iff_ne.mpr c7
        have H' := Aside0.mk H
        clear H
        have hcz25_0 : w2.cell? ⟨gb140, 0, none⟩ = some (.int .i64 0) := (blk_cell BK140.out 0).trans rfl
        have hcz25_1 : w2.cell? ⟨gb140, 1, none⟩ = some (.int .i64 0) := (blk_cell BK140.out 1).trans rfl
        have hcz25_2 : w2.cell? ⟨gb140, 2, none⟩ = some (.int .i64 0) := (blk_cell BK140.out 2).trans rfl
        have hcz25_3 : w2.cell? ⟨gb140, 3, none⟩ = some (.int .i64 0) := (blk_cell BK140.out 3).trans rfl
        have hcz25_4 : w2.cell? ⟨gb140, 4, none⟩ = some (.int .i64 0) := (blk_cell BK140.out 4).trans rfl
        have hcz25_5 : w2.cell? ⟨gb140, 5, none⟩ = some (.int .i64 0) := (blk_cell BK140.out 5).trans rfl
        have hfz25_0 := blk_frozen BK140.out 0
        have hfz25_1 := blk_frozen BK140.out 1
        have hfz25_2 := blk_frozen BK140.out 2
        have hfz25_3 := blk_frozen BK140.out 3
        have hfz25_4 := blk_frozen BK140.out 4
        have hfz25_5 := blk_frozen BK140.out 5
        go_wp2_with (first | ((with_reducible refine gate_callee (f := 10) rfl ?_); refine goesL_ (some 6) rfl rfl Try.func10 (by kernel_rfl) rfl #[.agg #[.int .i64 2, .int .i64 1, .int .i64 4, .int .i64 5, .int .i64 3, .int .i64 2]] rfl (by (try simp only [List.map_toArray, List.map_cons, List.map_nil]); first | done | rfl | (simp only [List.length_drop, List.length_take]; rfl)) ?_; (with_reducible refine (layout_Check.calls k 2 1 4 5 3 2 t141 _ A4.out).mono ?_); rintro e w26 ⟨rfl, hb⟩; refine ⟨_, rfl, ?_⟩; have n0_ := Aside0.mk (blk_below (g := gb140) (o := .cells #[.int .i64 2, .int .i64 1, .int .i64 4, .int .i64 5, .int .i64 3, .int .i64 2] 24 (0, 0)) (by (with_reducible repeat (first | refine blk_drewN ?_ _ | refine blk_drew ?_ | refine blk_alloc ?_ _)); refine blk_put (cs := #[.int .i64 2, .int .i64 1, .int .i64 4, .int .i64 5, .int .i64 3, .int .i64 0]) ?_ 5 _ rfl; (with_reducible repeat (first | refine blk_drewN ?_ _ | refine blk_drew ?_ | refine blk_alloc ?_ _)); refine blk_put (cs := #[.int .i64 2, .int .i64 1, .int .i64 4, .int .i64 5, .int .i64 0, .int .i64 0]) ?_ 4 _ rfl; (with_reducible repeat (first | refine blk_drewN ?_ _ | refine blk_drew ?_ | refine blk_alloc ?_ _)); refine blk_put (cs := #[.int .i64 2, .int .i64 1, .int .i64 4, .int .i64 0, .int .i64 0, .int .i64 0]) ?_ 3 _ rfl; (with_reducible repeat (first | refine blk_drewN ?_ _ | refine blk_drew ?_ | refine blk_alloc ?_ _)); refine blk_put (cs := #[.int .i64 2, .int .i64 1, .int .i64 0, .int .i64 0, .int .i64 0, .int .i64 0]) ?_ 2 _ rfl; (with_reducible repeat (first | refine blk_drewN ?_ _ | refine blk_drew ?_ | refine blk_alloc ?_ _)); refine blk_put (cs := #[.int .i64 2, .int .i64 0, .int .i64 0, .int .i64 0, .int .i64 0, .int .i64 0]) ?_ 1 _ rfl; (with_reducible repeat (first | refine blk_drewN ?_ _ | refine blk_drew ?_ | refine blk_alloc ?_ _)); refine blk_put (cs := #[.int .i64 0, .int .i64 0, .int .i64 0, .int .i64 0, .int .i64 0, .int .i64 0]) ?_ 0 _ rfl; (with_reducible repeat (first | refine blk_drewN ?_ _ | refine blk_drew ?_ | refine blk_alloc ?_ _)); exact BK140.out) hb); have n1_ := Aside0.mk (below_step (by repeat (first | (with_reducible first | exact HB.out | apply below_alloc | apply pw_below_drewN | apply below_drew1 | refine below_set ?_ GE140.out) | exact HB.out)) hb); clear BK140; clear HB; have BK140 := n0_; have HB := n1_; clear n0_ n1_; (try clear hb); (try clear hb2); (try clear hk); (try clear hi); have hcz27_0 : w26.cell? ⟨gb140, 0, none⟩ = some (.int .i64 2) := (blk_cell BK140.out 0).trans rfl; have hcz27_1 : w26.cell? ⟨gb140, 1, none⟩ = some (.int .i64 1) := (blk_cell BK140.out 1).trans rfl; have hcz27_2 : w26.cell? ⟨gb140, 2, none⟩ = some (.int .i64 4) := (blk_cell BK140.out 2).trans rfl; have hcz27_3 : w26.cell? ⟨gb140, 3, none⟩ = some (.int .i64 5) := (blk_cell BK140.out 3).trans rfl; have hcz27_4 : w26.cell? ⟨gb140, 4, none⟩ = some (.int .i64 3) := (blk_cell BK140.out 4).trans rfl; have hcz27_5 : w26.cell? ⟨gb140, 5, none⟩ = some (.int .i64 2) := (blk_cell BK140.out 5).trans rfl; have hfz27_0 := blk_frozen BK140.out 0; have hfz27_1 := blk_frozen BK140.out 1; have hfz27_2 := blk_frozen BK140.out 2; have hfz27_3 := blk_frozen BK140.out 3; have hfz27_4 := blk_frozen BK140.out 4; have hfz27_5 := blk_frozen BK140.out 5) | (go_at_call 12; (with_reducible refine (layout_Sectors.calls k 2 1 4 5 3 2 t142 _ A6.out).mono ?_); rintro e w28 ⟨rfl, hb⟩; have n0_ := Aside0.mk (blk_below (g := gb140) (o := .cells #[.int .i64 2, .int .i64 1, .int .i64 4, .int .i64 5, .int .i64 3, .int .i64 2] 24 (0, 0)) (by (with_reducible repeat (first | refine blk_drewN ?_ _ | refine blk_drew ?_ | refine blk_alloc ?_ _)); exact BK140.out) hb); have n1_ := Aside0.mk (below_step (by repeat (first | (with_reducible first | exact HB.out | apply below_alloc | apply pw_below_drewN | apply below_drew1 | refine below_set ?_ GE140.out) | exact HB.out)) hb); clear BK140; clear HB; have BK140 := n0_; have HB := n1_; clear n0_ n1_; (try clear hb); (try clear hb2); (try clear hk); (try clear hi)))
        go_meet
        case rel => exact ⟨_, (false), (by first | rfl | (simp; done) | (simp [*]; done)), H', ⟨by first | omega | exact Nat.le_refl _⟩, ⟨by (with_reducible repeat (first | refine blk_drewN ?_ _ | refine blk_drew ?_ | refine blk_alloc ?_ _)); exact BK140.out⟩, ⟨by repeat (first | (with_reducible first | exact HB.out | apply below_alloc | apply pw_below_drewN | apply below_drew1 | refine below_set ?_ GE140.out) | exact HB.out)⟩⟩
    · rw [if_neg c5] at H
      have c5b0 : (t141 == 0) = false := beq_eq_false_iff_ne.mpr c5
      have c5b1 : (t141 != 0) = true := bne_iff_ne.mpr c5
      (first | rw [c5b0] | (simp only [i64_w, i32_w]; rw [c5b0]) | skip)
      have H' := Aside0.mk H
      clear H
      have hcz29_0 : w2.cell? ⟨gb140, 0, none⟩ = some (.int .i64 0) := (blk_cell BK140.out 0).trans rfl
      have hcz29_1 : w2.cell? ⟨gb140, 1, none⟩ = some (.int .i64 0) := (blk_cell BK140.out 1).trans rfl
      have hcz29_2 : w2.cell? ⟨gb140, 2, none⟩ = some (.int .i64 0) := (blk_cell BK140.out 2).trans rfl
      have hcz29_3 : w2.cell? ⟨gb140, 3, none⟩ = some (.int .i64 0) := (blk_cell BK140.out 3).trans rfl
      have hcz29_4 : w2.cell? ⟨gb140, 4, none⟩ = some (.int .i64 0) := (blk_cell BK140.out 4).trans rfl
      have hcz29_5 : w2.cell? ⟨gb140, 5, none⟩ = some (.int .i64 0) := (blk_cell BK140.out 5).trans rfl
      have hfz29_0 := blk_frozen BK140.out 0
      have hfz29_1 := blk_frozen BK140.out 1
      have hfz29_2 := blk_frozen BK140.out 2
      have hfz29_3 := blk_frozen BK140.out 3
      have hfz29_4 := blk_frozen BK140.out 4
      have hfz29_5 := blk_frozen BK140.out 5
      go_wp2_with (first | ((with_reducible refine gate_callee (f := 10) rfl ?_); refine goesL_ (some 6) rfl rfl Try.func10 (by kernel_rfl) rfl #[.agg #[.int .i64 2, .int .i64 1, .int .i64 4, .int .i64 5, .int .i64 3, .int .i64 2]] rfl (by (try simp only [List.map_toArray, List.map_cons, List.map_nil]); first | done | rfl | (simp only [List.length_drop, List.length_take]; rfl)) ?_; (with_reducible refine (layout_Check.calls k 2 1 4 5 3 2 t141 _ A4.out).mono ?_); rintro e w30 ⟨rfl, hb⟩; refine ⟨_, rfl, ?_⟩; have n0_ := Aside0.mk (blk_below (g := gb140) (o := .cells #[.int .i64 2, .int .i64 1, .int .i64 4, .int .i64 5, .int .i64 3, .int .i64 2] 24 (0, 0)) (by (with_reducible repeat (first | refine blk_drewN ?_ _ | refine blk_drew ?_ | refine blk_alloc ?_ _)); refine blk_put (cs := #[.int .i64 2, .int .i64 1, .int .i64 4, .int .i64 5, .int .i64 3, .int .i64 0]) ?_ 5 _ rfl; (with_reducible repeat (first | refine blk_drewN ?_ _ | refine blk_drew ?_ | refine blk_alloc ?_ _)); refine blk_put (cs := #[.int .i64 2, .int .i64 1, .int .i64 4, .int .i64 5, .int .i64 0, .int .i64 0]) ?_ 4 _ rfl; (with_reducible repeat (first | refine blk_drewN ?_ _ | refine blk_drew ?_ | refine blk_alloc ?_ _)); refine blk_put (cs := #[.int .i64 2, .int .i64 1, .int .i64 4, .int .i64 0, .int .i64 0, .int .i64 0]) ?_ 3 _ rfl; (with_reducible repeat (first | refine blk_drewN ?_ _ | refine blk_drew ?_ | refine blk_alloc ?_ _)); refine blk_put (cs := #[.int .i64 2, .int .i64 1, .int .i64 0, .int .i64 0, .int .i64 0, .int .i64 0]) ?_ 2 _ rfl; (with_reducible repeat (first | refine blk_drewN ?_ _ | refine blk_drew ?_ | refine blk_alloc ?_ _)); refine blk_put (cs := #[.int .i64 2, .int .i64 0, .int .i64 0, .int .i64 0, .int .i64 0, .int .i64 0]) ?_ 1 _ rfl; (with_reducible repeat (first | refine blk_drewN ?_ _ | refine blk_drew ?_ | refine blk_alloc ?_ _)); refine blk_put (cs := #[.int .i64 0, .int .i64 0, .int .i64 0, .int .i64 0, .int .i64 0, .int .i64 0]) ?_ 0 _ rfl; (with_reducible repeat (first | refine blk_drewN ?_ _ | refine blk_drew ?_ | refine blk_alloc ?_ _)); exact BK140.out) hb); have n1_ := Aside0.mk (below_step (by repeat (first | (with_reducible first | exact HB.out | apply below_alloc | apply pw_below_drewN | apply below_drew1 | refine below_set ?_ GE140.out) | exact HB.out)) hb); clear BK140; clear HB; have BK140 := n0_; have HB := n1_; clear n0_ n1_; (try clear hb); (try clear hb2); (try clear hk); (try clear hi)))
      go_meet
      case rel => exact ⟨_, (false), (by first | rfl | (simp; done) | (simp [*]; done)), H', ⟨by first | omega | exact Nat.le_refl _⟩, ⟨by (with_reducible repeat (first | refine blk_drewN ?_ _ | refine blk_drew ?_ | refine blk_alloc ?_ _)); exact BK140.out⟩, ⟨by repeat (first | (with_reducible first | exact HB.out | apply below_alloc | apply pw_below_drewN | apply below_drew1 | refine below_set ?_ GE140.out) | exact HB.out)⟩⟩
  case rest =>
    clear HC1
    try clear c1
    try clear p2
    try clear c5
    try clear c5b0
    try clear c5b1
    try clear c7
    try clear c7b0
    try clear c7b1
    try clear c9
    try clear c9b0
    try clear c9b1
    try clear c10
    try clear hcz11_0
    try clear hcz11_1
    try clear hcz11_2
    try clear hcz11_3
    try clear hcz11_4
    try clear hcz11_5
    try clear hcz13_0
    try clear hcz13_1
    try clear hcz13_2
    try clear hcz13_3
    try clear hcz13_4
    try clear hcz13_5
    try clear hcz15_0
    try clear hcz15_1
    try clear hcz15_2
    try clear hcz15_3
    try clear hcz15_4
    try clear hcz15_5
    try clear hcz17_0
    try clear hcz17_1
    try clear hcz17_2
    try clear hcz17_3
    try clear hcz17_4
    try clear hcz17_5
    try clear hcz19_0
    try clear hcz19_1
    try clear hcz19_2
    try clear hcz19_3
    try clear hcz19_4
    try clear hcz19_5
    try clear hcz21_0
    try clear hcz21_1
    try clear hcz21_2
    try clear hcz21_3
    try clear hcz21_4
    try clear hcz21_5
    try clear hcz23_0
    try clear hcz23_1
    try clear hcz23_2
    try clear hcz23_3
    try clear hcz23_4
    try clear hcz23_5
    try clear hcz25_0
    try clear hcz25_1
    try clear hcz25_2
    try clear hcz25_3
    try clear hcz25_4
    try clear hcz25_5
    try clear hcz27_0
    try clear hcz27_1
    try clear hcz27_2
    try clear hcz27_3
    try clear hcz27_4
    try clear hcz27_5
    try clear hcz29_0
    try clear hcz29_1
    try clear hcz29_2
    try clear hcz29_3
    try clear hcz29_4
    try clear hcz29_5
    try clear hcz3_0
    try clear hcz3_1
    try clear hcz3_2
    try clear hcz3_3
    try clear hcz3_4
    try clear hcz3_5
    try clear hfz11_0
    try clear hfz11_1
    try clear hfz11_2
    try clear hfz11_3
    try clear hfz11_4
    try clear hfz11_5
    try clear hfz13_0
    try clear hfz13_1
    try clear hfz13_2
    try clear hfz13_3
    try clear hfz13_4
    try clear hfz13_5
    try clear hfz15_0
    try clear hfz15_1
    try clear hfz15_2
    try clear hfz15_3
    try clear hfz15_4
    try clear hfz15_5
    try clear hfz17_0
    try clear hfz17_1
    try clear hfz17_2
    try clear hfz17_3
    try clear hfz17_4
    try clear hfz17_5
    try clear hfz19_0
    try clear hfz19_1
    try clear hfz19_2
    try clear hfz19_3
    try clear hfz19_4
    try clear hfz19_5
    try clear hfz21_0
    try clear hfz21_1
    try clear hfz21_2
    try clear hfz21_3
    try clear hfz21_4
    try clear hfz21_5
    try clear hfz23_0
    try clear hfz23_1
    try clear hfz23_2
    try clear hfz23_3
    try clear hfz23_4
    try clear hfz23_5
    try clear hfz25_0
    try clear hfz25_1
    try clear hfz25_2
    try clear hfz25_3
    try clear hfz25_4
    try clear hfz25_5
    try clear hfz27_0
    try clear hfz27_1
    try clear hfz27_2
    try clear hfz27_3
    try clear hfz27_4
    try clear hfz27_5
    try clear hfz29_0
    try clear hfz29_1
    try clear hfz29_2
    try clear hfz29_3
    try clear hfz29_4
    try clear hfz29_5
    try clear hfz3_0
    try clear hfz3_1
    try clear hfz3_2
    try clear hfz3_3
    try clear hfz3_4
    try clear hfz3_5
    obtain ⟨kq, x2_0, rfl, HA, HJ0, BK140, HB⟩ := hcut
    cases kq with
    | zero => exact absurd HA.out (by simp [aumbrylaw14_awake.j0])
    | succ kj0 =>
      have H := HA.out
      clear HA
      simp only [aumbrylaw14_awake.j0] at H
      replace H := Option.bind_eq_some_iff.mp H
      obtain ⟨t145, A310, H⟩ := H
      replace H : (if t145 = 8 then ((layout_Disk.f kj0 2 1 4 5 3 2 4 2).bind fun t146 => (if t146 = 0 then ((layout_Shard.f kj0 2 1 4 5 3 2 4 0).bind fun t147 => (if t147 = 2 then ((layout_Needs.f kj0 2 1 4 5 3 2 9).bind fun t148 => (if x2_0 = true then (if t148 = 2 then ((layout_Check.f kj0 0 0 0 0 0 0).bind fun t149 => (some (t149 == 50))) else (some false)) else (some false))) else (if x2_0 = true then (some false) else (some false)))) else (if x2_0 = true then (some false) else (some false)))) else (if x2_0 = true then (some false) else (some false))) = some r := H
      have A31 := Aside0.mk A310
      clear A310
      by_cases c32 : t145 = 8
      · rw [if_pos c32] at H
        have c32b0 : (t145 == 8) = true := beq_iff_eq.mpr c32
        have c32b1 : (t145 != 8) = false := bne_eq_false_iff_eq.mpr c32
        clear c32
        replace H := Option.bind_eq_some_iff.mp H
        obtain ⟨t146, A330, H⟩ := H
        replace H : (if t146 = 0 then ((layout_Shard.f kj0 2 1 4 5 3 2 4 0).bind fun t147 => (if t147 = 2 then ((layout_Needs.f kj0 2 1 4 5 3 2 9).bind fun t148 => (if x2_0 = true then (if t148 = 2 then ((layout_Check.f kj0 0 0 0 0 0 0).bind fun t149 => (some (t149 == 50))) else (some false)) else (some false))) else (if x2_0 = true then (some false) else (some false)))) else (if x2_0 = true then (some false) else (some false))) = some r := H
        have A33 := Aside0.mk A330
        clear A330
        by_cases c34 : t146 = 0
        · rw [if_pos c34] at H
          have c34b0 : (t146 == 0) = true := beq_iff_eq.mpr c34
          have c34b1 : (t146 != 0) = false := bne_eq_false_iff_eq.mpr c34
          clear c34
          replace H := Option.bind_eq_some_iff.mp H
          obtain ⟨t147, A350, H⟩ := H
          replace H : (if t147 = 2 then ((layout_Needs.f kj0 2 1 4 5 3 2 9).bind fun t148 => (if x2_0 = true then (if t148 = 2 then ((layout_Check.f kj0 0 0 0 0 0 0).bind fun t149 => (some (t149 == 50))) else (some false)) else (some false))) else (if x2_0 = true then (some false) else (some false))) = some r := H
          have A35 := Aside0.mk A350
          clear A350
          by_cases c36 : t147 = 2
          · rw [if_pos c36] at H
            have c36b0 : (t147 == 2) = true := beq_iff_eq.mpr c36
            have c36b1 : (t147 != 2) = false := bne_eq_false_iff_eq.mpr c36
            clear c36
            replace H := Option.bind_eq_some_iff.mp H
            obtain ⟨t148, A370, H⟩ := H
            replace H : (if x2_0 = true then (if t148 = 2 then ((layout_Check.f kj0 0 0 0 0 0 0).bind fun t149 => (some (t149 == 50))) else (some false)) else (some false)) = some r := H
            have A37 := Aside0.mk A370
            clear A370
            by_cases c38 : x2_0 = true
            · subst c38
              have H1 : (if t148 = 2 then ((layout_Check.f kj0 0 0 0 0 0 0).bind fun t149 => (some (t149 == 50))) else (some false)) = some r := by rw [if_pos rfl] at H; exact H
              clear H
              have H := H1
              clear H1
              by_cases c39 : t148 = 2
              · rw [if_pos c39] at H
                have c39b0 : (t148 == 2) = true := beq_iff_eq.mpr c39
                have c39b1 : (t148 != 2) = false := bne_eq_false_iff_eq.mpr c39
                clear c39
                replace H := Option.bind_eq_some_iff.mp H
                obtain ⟨t149, A400, H⟩ := H
                replace H : (some (t149 == 50)) = some r := H
                have A40 := Aside0.mk A400
                clear A400
                obtain rfl := Option.some.inj H
                have hcz41_0 : wc.cell? ⟨gb140, 0, none⟩ = some (.int .i64 2) := (blk_cell BK140.out 0).trans rfl
                have hcz41_1 : wc.cell? ⟨gb140, 1, none⟩ = some (.int .i64 1) := (blk_cell BK140.out 1).trans rfl
                have hcz41_2 : wc.cell? ⟨gb140, 2, none⟩ = some (.int .i64 4) := (blk_cell BK140.out 2).trans rfl
                have hcz41_3 : wc.cell? ⟨gb140, 3, none⟩ = some (.int .i64 5) := (blk_cell BK140.out 3).trans rfl
                have hcz41_4 : wc.cell? ⟨gb140, 4, none⟩ = some (.int .i64 3) := (blk_cell BK140.out 4).trans rfl
                have hcz41_5 : wc.cell? ⟨gb140, 5, none⟩ = some (.int .i64 2) := (blk_cell BK140.out 5).trans rfl
                have hfz41_0 := blk_frozen BK140.out 0
                have hfz41_1 := blk_frozen BK140.out 1
                have hfz41_2 := blk_frozen BK140.out 2
                have hfz41_3 := blk_frozen BK140.out 3
                have hfz41_4 := blk_frozen BK140.out 4
                have hfz41_5 := blk_frozen BK140.out 5
                go_wp2_with (first | ((with_reducible refine gate_callee (f := 18) rfl ?_); refine goesL_ (some 24) rfl rfl Try.func18 (by kernel_rfl) rfl #[.agg #[.int .i64 2, .int .i64 1, .int .i64 4, .int .i64 5, .int .i64 3, .int .i64 2], .int .i64 0] rfl (by (try simp only [List.map_toArray, List.map_cons, List.map_nil]); first | done | rfl | (simp only [List.length_drop, List.length_take]; rfl)) ?_; (with_reducible refine (layout_Stripe.calls kj0 2 1 4 5 3 2 0 t145 _ A31.out).mono ?_); rintro e w42 ⟨rfl, hb⟩; refine ⟨_, rfl, ?_⟩; have n0_ := Aside0.mk (blk_below (g := gb140) (o := .cells #[.int .i64 2, .int .i64 1, .int .i64 4, .int .i64 5, .int .i64 3, .int .i64 2] 24 (0, 0)) (by (with_reducible repeat (first | refine blk_drewN ?_ _ | refine blk_drew ?_ | refine blk_alloc ?_ _)); exact BK140.out) hb); have n1_ := Aside0.mk (below_step (by repeat (first | (with_reducible first | exact HB.out | apply below_alloc | apply pw_below_drewN | apply below_drew1 | refine below_set ?_ GE140.out) | exact HB.out)) hb); clear BK140; clear HB; have BK140 := n0_; have HB := n1_; clear n0_ n1_; (try clear hb); (try clear hb2); (try clear hk); (try clear hi); have hcz43_0 : w42.cell? ⟨gb140, 0, none⟩ = some (.int .i64 2) := (blk_cell BK140.out 0).trans rfl; have hcz43_1 : w42.cell? ⟨gb140, 1, none⟩ = some (.int .i64 1) := (blk_cell BK140.out 1).trans rfl; have hcz43_2 : w42.cell? ⟨gb140, 2, none⟩ = some (.int .i64 4) := (blk_cell BK140.out 2).trans rfl; have hcz43_3 : w42.cell? ⟨gb140, 3, none⟩ = some (.int .i64 5) := (blk_cell BK140.out 3).trans rfl; have hcz43_4 : w42.cell? ⟨gb140, 4, none⟩ = some (.int .i64 3) := (blk_cell BK140.out 4).trans rfl; have hcz43_5 : w42.cell? ⟨gb140, 5, none⟩ = some (.int .i64 2) := (blk_cell BK140.out 5).trans rfl; have hfz43_0 := blk_frozen BK140.out 0; have hfz43_1 := blk_frozen BK140.out 1; have hfz43_2 := blk_frozen BK140.out 2; have hfz43_3 := blk_frozen BK140.out 3; have hfz43_4 := blk_frozen BK140.out 4; have hfz43_5 := blk_frozen BK140.out 5) | (go_at_call 20; (with_reducible refine (layout_Disk.calls kj0 2 1 4 5 3 2 4 2 t146 _ A33.out).mono ?_); rintro e w44 ⟨rfl, hb⟩; have n0_ := Aside0.mk (blk_below (g := gb140) (o := .cells #[.int .i64 2, .int .i64 1, .int .i64 4, .int .i64 5, .int .i64 3, .int .i64 2] 24 (0, 0)) (by (with_reducible repeat (first | refine blk_drewN ?_ _ | refine blk_drew ?_ | refine blk_alloc ?_ _)); exact BK140.out) hb); have n1_ := Aside0.mk (below_step (by repeat (first | (with_reducible first | exact HB.out | apply below_alloc | apply pw_below_drewN | apply below_drew1 | refine below_set ?_ GE140.out) | exact HB.out)) hb); clear BK140; clear HB; have BK140 := n0_; have HB := n1_; clear n0_ n1_; (try clear hb); (try clear hb2); (try clear hk); (try clear hi); have hcz45_0 : w44.cell? ⟨gb140, 0, none⟩ = some (.int .i64 2) := (blk_cell BK140.out 0).trans rfl; have hcz45_1 : w44.cell? ⟨gb140, 1, none⟩ = some (.int .i64 1) := (blk_cell BK140.out 1).trans rfl; have hcz45_2 : w44.cell? ⟨gb140, 2, none⟩ = some (.int .i64 4) := (blk_cell BK140.out 2).trans rfl; have hcz45_3 : w44.cell? ⟨gb140, 3, none⟩ = some (.int .i64 5) := (blk_cell BK140.out 3).trans rfl; have hcz45_4 : w44.cell? ⟨gb140, 4, none⟩ = some (.int .i64 3) := (blk_cell BK140.out 4).trans rfl; have hcz45_5 : w44.cell? ⟨gb140, 5, none⟩ = some (.int .i64 2) := (blk_cell BK140.out 5).trans rfl; have hfz45_0 := blk_frozen BK140.out 0; have hfz45_1 := blk_frozen BK140.out 1; have hfz45_2 := blk_frozen BK140.out 2; have hfz45_3 := blk_frozen BK140.out 3; have hfz45_4 := blk_frozen BK140.out 4; have hfz45_5 := blk_frozen BK140.out 5) | (go_at_call 22; (with_reducible refine (layout_Shard.calls kj0 2 1 4 5 3 2 4 0 t147 _ A35.out).mono ?_); rintro e w46 ⟨rfl, hb⟩; have n0_ := Aside0.mk (blk_below (g := gb140) (o := .cells #[.int .i64 2, .int .i64 1, .int .i64 4, .int .i64 5, .int .i64 3, .int .i64 2] 24 (0, 0)) (by (with_reducible repeat (first | refine blk_drewN ?_ _ | refine blk_drew ?_ | refine blk_alloc ?_ _)); exact BK140.out) hb); have n1_ := Aside0.mk (below_step (by repeat (first | (with_reducible first | exact HB.out | apply below_alloc | apply pw_below_drewN | apply below_drew1 | refine below_set ?_ GE140.out) | exact HB.out)) hb); clear BK140; clear HB; have BK140 := n0_; have HB := n1_; clear n0_ n1_; (try clear hb); (try clear hb2); (try clear hk); (try clear hi); have hcz47_0 : w46.cell? ⟨gb140, 0, none⟩ = some (.int .i64 2) := (blk_cell BK140.out 0).trans rfl; have hcz47_1 : w46.cell? ⟨gb140, 1, none⟩ = some (.int .i64 1) := (blk_cell BK140.out 1).trans rfl; have hcz47_2 : w46.cell? ⟨gb140, 2, none⟩ = some (.int .i64 4) := (blk_cell BK140.out 2).trans rfl; have hcz47_3 : w46.cell? ⟨gb140, 3, none⟩ = some (.int .i64 5) := (blk_cell BK140.out 3).trans rfl; have hcz47_4 : w46.cell? ⟨gb140, 4, none⟩ = some (.int .i64 3) := (blk_cell BK140.out 4).trans rfl; have hcz47_5 : w46.cell? ⟨gb140, 5, none⟩ = some (.int .i64 2) := (blk_cell BK140.out 5).trans rfl; have hfz47_0 := blk_frozen BK140.out 0; have hfz47_1 := blk_frozen BK140.out 1; have hfz47_2 := blk_frozen BK140.out 2; have hfz47_3 := blk_frozen BK140.out 3; have hfz47_4 := blk_frozen BK140.out 4; have hfz47_5 := blk_frozen BK140.out 5) | (go_at_call 24; (with_reducible refine (layout_Needs.calls kj0 2 1 4 5 3 2 9 t148 _ A37.out).mono ?_); rintro e w48 ⟨rfl, hb⟩; have n0_ := Aside0.mk (blk_below (g := gb140) (o := .cells #[.int .i64 2, .int .i64 1, .int .i64 4, .int .i64 5, .int .i64 3, .int .i64 2] 24 (0, 0)) (by (with_reducible repeat (first | refine blk_drewN ?_ _ | refine blk_drew ?_ | refine blk_alloc ?_ _)); exact BK140.out) hb); have n1_ := Aside0.mk (below_step (by repeat (first | (with_reducible first | exact HB.out | apply below_alloc | apply pw_below_drewN | apply below_drew1 | refine below_set ?_ GE140.out) | exact HB.out)) hb); clear BK140; clear HB; have BK140 := n0_; have HB := n1_; clear n0_ n1_; (try clear hb); (try clear hb2); (try clear hk); (try clear hi)) | (go_at_call 10; (with_reducible refine (layout_Check.calls kj0 0 0 0 0 0 0 t149 _ A40.out).mono ?_); rintro e w49 ⟨rfl, hb⟩; have n0_ := Aside0.mk (blk_below (g := gb140) (o := .cells #[.int .i64 2, .int .i64 1, .int .i64 4, .int .i64 5, .int .i64 3, .int .i64 2] 24 (0, 0)) (by (with_reducible repeat (first | refine blk_drewN ?_ _ | refine blk_drew ?_ | refine blk_alloc ?_ _)); exact BK140.out) hb); have n1_ := Aside0.mk (below_step (by repeat (first | (with_reducible first | exact HB.out | apply below_alloc | apply pw_below_drewN | apply below_drew1 | refine below_set ?_ GE140.out) | exact HB.out)) hb); clear BK140; clear HB; have BK140 := n0_; have HB := n1_; clear n0_ n1_; (try clear hb); (try clear hb2); (try clear hk); (try clear hi)))
                go_ret
                exact ⟨by first | rfl | (simp [errW_none, errW_some] <;> rfl) | (simp [*, errW_none, errW_some] <;> rfl), by repeat (first | (with_reducible first | exact HB.out | apply below_alloc | apply pw_below_drewN | apply below_drew1 | refine below_set ?_ GE140.out) | exact HB.out)⟩
              · rw [if_neg c39] at H
                have c39b0 : (t148 == 2) = false := beq_eq_false_iff_ne.mpr c39
                have c39b1 : (t148 != 2) = true := bne_iff_ne.mpr c39
                obtain rfl := Option.some.inj H
                have hcz50_0 : wc.cell? ⟨gb140, 0, none⟩ = some (.int .i64 2) := (blk_cell BK140.out 0).trans rfl
                have hcz50_1 : wc.cell? ⟨gb140, 1, none⟩ = some (.int .i64 1) := (blk_cell BK140.out 1).trans rfl
                have hcz50_2 : wc.cell? ⟨gb140, 2, none⟩ = some (.int .i64 4) := (blk_cell BK140.out 2).trans rfl
                have hcz50_3 : wc.cell? ⟨gb140, 3, none⟩ = some (.int .i64 5) := (blk_cell BK140.out 3).trans rfl
                have hcz50_4 : wc.cell? ⟨gb140, 4, none⟩ = some (.int .i64 3) := (blk_cell BK140.out 4).trans rfl
                have hcz50_5 : wc.cell? ⟨gb140, 5, none⟩ = some (.int .i64 2) := (blk_cell BK140.out 5).trans rfl
                have hfz50_0 := blk_frozen BK140.out 0
                have hfz50_1 := blk_frozen BK140.out 1
                have hfz50_2 := blk_frozen BK140.out 2
                have hfz50_3 := blk_frozen BK140.out 3
                have hfz50_4 := blk_frozen BK140.out 4
                have hfz50_5 := blk_frozen BK140.out 5
                go_wp2_with (first | ((with_reducible refine gate_callee (f := 18) rfl ?_); refine goesL_ (some 24) rfl rfl Try.func18 (by kernel_rfl) rfl #[.agg #[.int .i64 2, .int .i64 1, .int .i64 4, .int .i64 5, .int .i64 3, .int .i64 2], .int .i64 0] rfl (by (try simp only [List.map_toArray, List.map_cons, List.map_nil]); first | done | rfl | (simp only [List.length_drop, List.length_take]; rfl)) ?_; (with_reducible refine (layout_Stripe.calls kj0 2 1 4 5 3 2 0 t145 _ A31.out).mono ?_); rintro e w51 ⟨rfl, hb⟩; refine ⟨_, rfl, ?_⟩; have n0_ := Aside0.mk (blk_below (g := gb140) (o := .cells #[.int .i64 2, .int .i64 1, .int .i64 4, .int .i64 5, .int .i64 3, .int .i64 2] 24 (0, 0)) (by (with_reducible repeat (first | refine blk_drewN ?_ _ | refine blk_drew ?_ | refine blk_alloc ?_ _)); exact BK140.out) hb); have n1_ := Aside0.mk (below_step (by repeat (first | (with_reducible first | exact HB.out | apply below_alloc | apply pw_below_drewN | apply below_drew1 | refine below_set ?_ GE140.out) | exact HB.out)) hb); clear BK140; clear HB; have BK140 := n0_; have HB := n1_; clear n0_ n1_; (try clear hb); (try clear hb2); (try clear hk); (try clear hi); have hcz52_0 : w51.cell? ⟨gb140, 0, none⟩ = some (.int .i64 2) := (blk_cell BK140.out 0).trans rfl; have hcz52_1 : w51.cell? ⟨gb140, 1, none⟩ = some (.int .i64 1) := (blk_cell BK140.out 1).trans rfl; have hcz52_2 : w51.cell? ⟨gb140, 2, none⟩ = some (.int .i64 4) := (blk_cell BK140.out 2).trans rfl; have hcz52_3 : w51.cell? ⟨gb140, 3, none⟩ = some (.int .i64 5) := (blk_cell BK140.out 3).trans rfl; have hcz52_4 : w51.cell? ⟨gb140, 4, none⟩ = some (.int .i64 3) := (blk_cell BK140.out 4).trans rfl; have hcz52_5 : w51.cell? ⟨gb140, 5, none⟩ = some (.int .i64 2) := (blk_cell BK140.out 5).trans rfl; have hfz52_0 := blk_frozen BK140.out 0; have hfz52_1 := blk_frozen BK140.out 1; have hfz52_2 := blk_frozen BK140.out 2; have hfz52_3 := blk_frozen BK140.out 3; have hfz52_4 := blk_frozen BK140.out 4; have hfz52_5 := blk_frozen BK140.out 5) | (go_at_call 20; (with_reducible refine (layout_Disk.calls kj0 2 1 4 5 3 2 4 2 t146 _ A33.out).mono ?_); rintro e w53 ⟨rfl, hb⟩; have n0_ := Aside0.mk (blk_below (g := gb140) (o := .cells #[.int .i64 2, .int .i64 1, .int .i64 4, .int .i64 5, .int .i64 3, .int .i64 2] 24 (0, 0)) (by (with_reducible repeat (first | refine blk_drewN ?_ _ | refine blk_drew ?_ | refine blk_alloc ?_ _)); exact BK140.out) hb); have n1_ := Aside0.mk (below_step (by repeat (first | (with_reducible first | exact HB.out | apply below_alloc | apply pw_below_drewN | apply below_drew1 | refine below_set ?_ GE140.out) | exact HB.out)) hb); clear BK140; clear HB; have BK140 := n0_; have HB := n1_; clear n0_ n1_; (try clear hb); (try clear hb2); (try clear hk); (try clear hi); have hcz54_0 : w53.cell? ⟨gb140, 0, none⟩ = some (.int .i64 2) := (blk_cell BK140.out 0).trans rfl; have hcz54_1 : w53.cell? ⟨gb140, 1, none⟩ = some (.int .i64 1) := (blk_cell BK140.out 1).trans rfl; have hcz54_2 : w53.cell? ⟨gb140, 2, none⟩ = some (.int .i64 4) := (blk_cell BK140.out 2).trans rfl; have hcz54_3 : w53.cell? ⟨gb140, 3, none⟩ = some (.int .i64 5) := (blk_cell BK140.out 3).trans rfl; have hcz54_4 : w53.cell? ⟨gb140, 4, none⟩ = some (.int .i64 3) := (blk_cell BK140.out 4).trans rfl; have hcz54_5 : w53.cell? ⟨gb140, 5, none⟩ = some (.int .i64 2) := (blk_cell BK140.out 5).trans rfl; have hfz54_0 := blk_frozen BK140.out 0; have hfz54_1 := blk_frozen BK140.out 1; have hfz54_2 := blk_frozen BK140.out 2; have hfz54_3 := blk_frozen BK140.out 3; have hfz54_4 := blk_frozen BK140.out 4; have hfz54_5 := blk_frozen BK140.out 5) | (go_at_call 22; (with_reducible refine (layout_Shard.calls kj0 2 1 4 5 3 2 4 0 t147 _ A35.out).mono ?_); rintro e w55 ⟨rfl, hb⟩; have n0_ := Aside0.mk (blk_below (g := gb140) (o := .cells #[.int .i64 2, .int .i64 1, .int .i64 4, .int .i64 5, .int .i64 3, .int .i64 2] 24 (0, 0)) (by (with_reducible repeat (first | refine blk_drewN ?_ _ | refine blk_drew ?_ | refine blk_alloc ?_ _)); exact BK140.out) hb); have n1_ := Aside0.mk (below_step (by repeat (first | (with_reducible first | exact HB.out | apply below_alloc | apply pw_below_drewN | apply below_drew1 | refine below_set ?_ GE140.out) | exact HB.out)) hb); clear BK140; clear HB; have BK140 := n0_; have HB := n1_; clear n0_ n1_; (try clear hb); (try clear hb2); (try clear hk); (try clear hi); have hcz56_0 : w55.cell? ⟨gb140, 0, none⟩ = some (.int .i64 2) := (blk_cell BK140.out 0).trans rfl; have hcz56_1 : w55.cell? ⟨gb140, 1, none⟩ = some (.int .i64 1) := (blk_cell BK140.out 1).trans rfl; have hcz56_2 : w55.cell? ⟨gb140, 2, none⟩ = some (.int .i64 4) := (blk_cell BK140.out 2).trans rfl; have hcz56_3 : w55.cell? ⟨gb140, 3, none⟩ = some (.int .i64 5) := (blk_cell BK140.out 3).trans rfl; have hcz56_4 : w55.cell? ⟨gb140, 4, none⟩ = some (.int .i64 3) := (blk_cell BK140.out 4).trans rfl; have hcz56_5 : w55.cell? ⟨gb140, 5, none⟩ = some (.int .i64 2) := (blk_cell BK140.out 5).trans rfl; have hfz56_0 := blk_frozen BK140.out 0; have hfz56_1 := blk_frozen BK140.out 1; have hfz56_2 := blk_frozen BK140.out 2; have hfz56_3 := blk_frozen BK140.out 3; have hfz56_4 := blk_frozen BK140.out 4; have hfz56_5 := blk_frozen BK140.out 5) | (go_at_call 24; (with_reducible refine (layout_Needs.calls kj0 2 1 4 5 3 2 9 t148 _ A37.out).mono ?_); rintro e w57 ⟨rfl, hb⟩; have n0_ := Aside0.mk (blk_below (g := gb140) (o := .cells #[.int .i64 2, .int .i64 1, .int .i64 4, .int .i64 5, .int .i64 3, .int .i64 2] 24 (0, 0)) (by (with_reducible repeat (first | refine blk_drewN ?_ _ | refine blk_drew ?_ | refine blk_alloc ?_ _)); exact BK140.out) hb); have n1_ := Aside0.mk (below_step (by repeat (first | (with_reducible first | exact HB.out | apply below_alloc | apply pw_below_drewN | apply below_drew1 | refine below_set ?_ GE140.out) | exact HB.out)) hb); clear BK140; clear HB; have BK140 := n0_; have HB := n1_; clear n0_ n1_; (try clear hb); (try clear hb2); (try clear hk); (try clear hi)))
                go_ret
                exact ⟨by first | rfl | (simp [errW_none, errW_some] <;> rfl) | (simp [*, errW_none, errW_some] <;> rfl), by repeat (first | (with_reducible first | exact HB.out | apply below_alloc | apply pw_below_drewN | apply below_drew1 | refine below_set ?_ GE140.out) | exact HB.out)⟩
            · replace c38 := Bool.eq_false_iff.mpr c38
              subst c38
              have H1 : (some false) = some r := by rw [if_neg (show ¬ (false = true) by decide)] at H; exact H
              clear H
              have H := H1
              clear H1
              obtain rfl := Option.some.inj H
              have hcz58_0 : wc.cell? ⟨gb140, 0, none⟩ = some (.int .i64 2) := (blk_cell BK140.out 0).trans rfl
              have hcz58_1 : wc.cell? ⟨gb140, 1, none⟩ = some (.int .i64 1) := (blk_cell BK140.out 1).trans rfl
              have hcz58_2 : wc.cell? ⟨gb140, 2, none⟩ = some (.int .i64 4) := (blk_cell BK140.out 2).trans rfl
              have hcz58_3 : wc.cell? ⟨gb140, 3, none⟩ = some (.int .i64 5) := (blk_cell BK140.out 3).trans rfl
              have hcz58_4 : wc.cell? ⟨gb140, 4, none⟩ = some (.int .i64 3) := (blk_cell BK140.out 4).trans rfl
              have hcz58_5 : wc.cell? ⟨gb140, 5, none⟩ = some (.int .i64 2) := (blk_cell BK140.out 5).trans rfl
              have hfz58_0 := blk_frozen BK140.out 0
              have hfz58_1 := blk_frozen BK140.out 1
              have hfz58_2 := blk_frozen BK140.out 2
              have hfz58_3 := blk_frozen BK140.out 3
              have hfz58_4 := blk_frozen BK140.out 4
              have hfz58_5 := blk_frozen BK140.out 5
              go_wp2_with (first | ((with_reducible refine gate_callee (f := 18) rfl ?_); refine goesL_ (some 24) rfl rfl Try.func18 (by kernel_rfl) rfl #[.agg #[.int .i64 2, .int .i64 1, .int .i64 4, .int .i64 5, .int .i64 3, .int .i64 2], .int .i64 0] rfl (by (try simp only [List.map_toArray, List.map_cons, List.map_nil]); first | done | rfl | (simp only [List.length_drop, List.length_take]; rfl)) ?_; (with_reducible refine (layout_Stripe.calls kj0 2 1 4 5 3 2 0 t145 _ A31.out).mono ?_); rintro e w59 ⟨rfl, hb⟩; refine ⟨_, rfl, ?_⟩; have n0_ := Aside0.mk (blk_below (g := gb140) (o := .cells #[.int .i64 2, .int .i64 1, .int .i64 4, .int .i64 5, .int .i64 3, .int .i64 2] 24 (0, 0)) (by (with_reducible repeat (first | refine blk_drewN ?_ _ | refine blk_drew ?_ | refine blk_alloc ?_ _)); exact BK140.out) hb); have n1_ := Aside0.mk (below_step (by repeat (first | (with_reducible first | exact HB.out | apply below_alloc | apply pw_below_drewN | apply below_drew1 | refine below_set ?_ GE140.out) | exact HB.out)) hb); clear BK140; clear HB; have BK140 := n0_; have HB := n1_; clear n0_ n1_; (try clear hb); (try clear hb2); (try clear hk); (try clear hi); have hcz60_0 : w59.cell? ⟨gb140, 0, none⟩ = some (.int .i64 2) := (blk_cell BK140.out 0).trans rfl; have hcz60_1 : w59.cell? ⟨gb140, 1, none⟩ = some (.int .i64 1) := (blk_cell BK140.out 1).trans rfl; have hcz60_2 : w59.cell? ⟨gb140, 2, none⟩ = some (.int .i64 4) := (blk_cell BK140.out 2).trans rfl; have hcz60_3 : w59.cell? ⟨gb140, 3, none⟩ = some (.int .i64 5) := (blk_cell BK140.out 3).trans rfl; have hcz60_4 : w59.cell? ⟨gb140, 4, none⟩ = some (.int .i64 3) := (blk_cell BK140.out 4).trans rfl; have hcz60_5 : w59.cell? ⟨gb140, 5, none⟩ = some (.int .i64 2) := (blk_cell BK140.out 5).trans rfl; have hfz60_0 := blk_frozen BK140.out 0; have hfz60_1 := blk_frozen BK140.out 1; have hfz60_2 := blk_frozen BK140.out 2; have hfz60_3 := blk_frozen BK140.out 3; have hfz60_4 := blk_frozen BK140.out 4; have hfz60_5 := blk_frozen BK140.out 5) | (go_at_call 20; (with_reducible refine (layout_Disk.calls kj0 2 1 4 5 3 2 4 2 t146 _ A33.out).mono ?_); rintro e w61 ⟨rfl, hb⟩; have n0_ := Aside0.mk (blk_below (g := gb140) (o := .cells #[.int .i64 2, .int .i64 1, .int .i64 4, .int .i64 5, .int .i64 3, .int .i64 2] 24 (0, 0)) (by (with_reducible repeat (first | refine blk_drewN ?_ _ | refine blk_drew ?_ | refine blk_alloc ?_ _)); exact BK140.out) hb); have n1_ := Aside0.mk (below_step (by repeat (first | (with_reducible first | exact HB.out | apply below_alloc | apply pw_below_drewN | apply below_drew1 | refine below_set ?_ GE140.out) | exact HB.out)) hb); clear BK140; clear HB; have BK140 := n0_; have HB := n1_; clear n0_ n1_; (try clear hb); (try clear hb2); (try clear hk); (try clear hi); have hcz62_0 : w61.cell? ⟨gb140, 0, none⟩ = some (.int .i64 2) := (blk_cell BK140.out 0).trans rfl; have hcz62_1 : w61.cell? ⟨gb140, 1, none⟩ = some (.int .i64 1) := (blk_cell BK140.out 1).trans rfl; have hcz62_2 : w61.cell? ⟨gb140, 2, none⟩ = some (.int .i64 4) := (blk_cell BK140.out 2).trans rfl; have hcz62_3 : w61.cell? ⟨gb140, 3, none⟩ = some (.int .i64 5) := (blk_cell BK140.out 3).trans rfl; have hcz62_4 : w61.cell? ⟨gb140, 4, none⟩ = some (.int .i64 3) := (blk_cell BK140.out 4).trans rfl; have hcz62_5 : w61.cell? ⟨gb140, 5, none⟩ = some (.int .i64 2) := (blk_cell BK140.out 5).trans rfl; have hfz62_0 := blk_frozen BK140.out 0; have hfz62_1 := blk_frozen BK140.out 1; have hfz62_2 := blk_frozen BK140.out 2; have hfz62_3 := blk_frozen BK140.out 3; have hfz62_4 := blk_frozen BK140.out 4; have hfz62_5 := blk_frozen BK140.out 5) | (go_at_call 22; (with_reducible refine (layout_Shard.calls kj0 2 1 4 5 3 2 4 0 t147 _ A35.out).mono ?_); rintro e w63 ⟨rfl, hb⟩; have n0_ := Aside0.mk (blk_below (g := gb140) (o := .cells #[.int .i64 2, .int .i64 1, .int .i64 4, .int .i64 5, .int .i64 3, .int .i64 2] 24 (0, 0)) (by (with_reducible repeat (first | refine blk_drewN ?_ _ | refine blk_drew ?_ | refine blk_alloc ?_ _)); exact BK140.out) hb); have n1_ := Aside0.mk (below_step (by repeat (first | (with_reducible first | exact HB.out | apply below_alloc | apply pw_below_drewN | apply below_drew1 | refine below_set ?_ GE140.out) | exact HB.out)) hb); clear BK140; clear HB; have BK140 := n0_; have HB := n1_; clear n0_ n1_; (try clear hb); (try clear hb2); (try clear hk); (try clear hi); have hcz64_0 : w63.cell? ⟨gb140, 0, none⟩ = some (.int .i64 2) := (blk_cell BK140.out 0).trans rfl; have hcz64_1 : w63.cell? ⟨gb140, 1, none⟩ = some (.int .i64 1) := (blk_cell BK140.out 1).trans rfl; have hcz64_2 : w63.cell? ⟨gb140, 2, none⟩ = some (.int .i64 4) := (blk_cell BK140.out 2).trans rfl; have hcz64_3 : w63.cell? ⟨gb140, 3, none⟩ = some (.int .i64 5) := (blk_cell BK140.out 3).trans rfl; have hcz64_4 : w63.cell? ⟨gb140, 4, none⟩ = some (.int .i64 3) := (blk_cell BK140.out 4).trans rfl; have hcz64_5 : w63.cell? ⟨gb140, 5, none⟩ = some (.int .i64 2) := (blk_cell BK140.out 5).trans rfl; have hfz64_0 := blk_frozen BK140.out 0; have hfz64_1 := blk_frozen BK140.out 1; have hfz64_2 := blk_frozen BK140.out 2; have hfz64_3 := blk_frozen BK140.out 3; have hfz64_4 := blk_frozen BK140.out 4; have hfz64_5 := blk_frozen BK140.out 5) | (go_at_call 24; (with_reducible refine (layout_Needs.calls kj0 2 1 4 5 3 2 9 t148 _ A37.out).mono ?_); rintro e w65 ⟨rfl, hb⟩; have n0_ := Aside0.mk (blk_below (g := gb140) (o := .cells #[.int .i64 2, .int .i64 1, .int .i64 4, .int .i64 5, .int .i64 3, .int .i64 2] 24 (0, 0)) (by (with_reducible repeat (first | refine blk_drewN ?_ _ | refine blk_drew ?_ | refine blk_alloc ?_ _)); exact BK140.out) hb); have n1_ := Aside0.mk (below_step (by repeat (first | (with_reducible first | exact HB.out | apply below_alloc | apply pw_below_drewN | apply below_drew1 | refine below_set ?_ GE140.out) | exact HB.out)) hb); clear BK140; clear HB; have BK140 := n0_; have HB := n1_; clear n0_ n1_; (try clear hb); (try clear hb2); (try clear hk); (try clear hi)))
              go_ret
              exact ⟨by first | rfl | (simp [errW_none, errW_some] <;> rfl) | (simp [*, errW_none, errW_some] <;> rfl), by repeat (first | (with_reducible first | exact HB.out | apply below_alloc | apply pw_below_drewN | apply below_drew1 | refine below_set ?_ GE140.out) | exact HB.out)⟩
          · rw [if_neg c36] at H
            have c36b0 : (t147 == 2) = false := beq_eq_false_iff_ne.mpr c36
            have c36b1 : (t147 != 2) = true := bne_iff_ne.mpr c36
            by_cases c66 : x2_0 = true
            · subst c66
              have H1 : (some false) = some r := by rw [if_pos rfl] at H; exact H
              clear H
              have H := H1
              clear H1
              obtain rfl := Option.some.inj H
              have hcz67_0 : wc.cell? ⟨gb140, 0, none⟩ = some (.int .i64 2) := (blk_cell BK140.out 0).trans rfl
              have hcz67_1 : wc.cell? ⟨gb140, 1, none⟩ = some (.int .i64 1) := (blk_cell BK140.out 1).trans rfl
              have hcz67_2 : wc.cell? ⟨gb140, 2, none⟩ = some (.int .i64 4) := (blk_cell BK140.out 2).trans rfl
              have hcz67_3 : wc.cell? ⟨gb140, 3, none⟩ = some (.int .i64 5) := (blk_cell BK140.out 3).trans rfl
              have hcz67_4 : wc.cell? ⟨gb140, 4, none⟩ = some (.int .i64 3) := (blk_cell BK140.out 4).trans rfl
              have hcz67_5 : wc.cell? ⟨gb140, 5, none⟩ = some (.int .i64 2) := (blk_cell BK140.out 5).trans rfl
              have hfz67_0 := blk_frozen BK140.out 0
              have hfz67_1 := blk_frozen BK140.out 1
              have hfz67_2 := blk_frozen BK140.out 2
              have hfz67_3 := blk_frozen BK140.out 3
              have hfz67_4 := blk_frozen BK140.out 4
              have hfz67_5 := blk_frozen BK140.out 5
              go_wp2_with (first | ((with_reducible refine gate_callee (f := 18) rfl ?_); refine goesL_ (some 24) rfl rfl Try.func18 (by kernel_rfl) rfl #[.agg #[.int .i64 2, .int .i64 1, .int .i64 4, .int .i64 5, .int .i64 3, .int .i64 2], .int .i64 0] rfl (by (try simp only [List.map_toArray, List.map_cons, List.map_nil]); first | done | rfl | (simp only [List.length_drop, List.length_take]; rfl)) ?_; (with_reducible refine (layout_Stripe.calls kj0 2 1 4 5 3 2 0 t145 _ A31.out).mono ?_); rintro e w68 ⟨rfl, hb⟩; refine ⟨_, rfl, ?_⟩; have n0_ := Aside0.mk (blk_below (g := gb140) (o := .cells #[.int .i64 2, .int .i64 1, .int .i64 4, .int .i64 5, .int .i64 3, .int .i64 2] 24 (0, 0)) (by (with_reducible repeat (first | refine blk_drewN ?_ _ | refine blk_drew ?_ | refine blk_alloc ?_ _)); exact BK140.out) hb); have n1_ := Aside0.mk (below_step (by repeat (first | (with_reducible first | exact HB.out | apply below_alloc | apply pw_below_drewN | apply below_drew1 | refine below_set ?_ GE140.out) | exact HB.out)) hb); clear BK140; clear HB; have BK140 := n0_; have HB := n1_; clear n0_ n1_; (try clear hb); (try clear hb2); (try clear hk); (try clear hi); have hcz69_0 : w68.cell? ⟨gb140, 0, none⟩ = some (.int .i64 2) := (blk_cell BK140.out 0).trans rfl; have hcz69_1 : w68.cell? ⟨gb140, 1, none⟩ = some (.int .i64 1) := (blk_cell BK140.out 1).trans rfl; have hcz69_2 : w68.cell? ⟨gb140, 2, none⟩ = some (.int .i64 4) := (blk_cell BK140.out 2).trans rfl; have hcz69_3 : w68.cell? ⟨gb140, 3, none⟩ = some (.int .i64 5) := (blk_cell BK140.out 3).trans rfl; have hcz69_4 : w68.cell? ⟨gb140, 4, none⟩ = some (.int .i64 3) := (blk_cell BK140.out 4).trans rfl; have hcz69_5 : w68.cell? ⟨gb140, 5, none⟩ = some (.int .i64 2) := (blk_cell BK140.out 5).trans rfl; have hfz69_0 := blk_frozen BK140.out 0; have hfz69_1 := blk_frozen BK140.out 1; have hfz69_2 := blk_frozen BK140.out 2; have hfz69_3 := blk_frozen BK140.out 3; have hfz69_4 := blk_frozen BK140.out 4; have hfz69_5 := blk_frozen BK140.out 5) | (go_at_call 20; (with_reducible refine (layout_Disk.calls kj0 2 1 4 5 3 2 4 2 t146 _ A33.out).mono ?_); rintro e w70 ⟨rfl, hb⟩; have n0_ := Aside0.mk (blk_below (g := gb140) (o := .cells #[.int .i64 2, .int .i64 1, .int .i64 4, .int .i64 5, .int .i64 3, .int .i64 2] 24 (0, 0)) (by (with_reducible repeat (first | refine blk_drewN ?_ _ | refine blk_drew ?_ | refine blk_alloc ?_ _)); exact BK140.out) hb); have n1_ := Aside0.mk (below_step (by repeat (first | (with_reducible first | exact HB.out | apply below_alloc | apply pw_below_drewN | apply below_drew1 | refine below_set ?_ GE140.out) | exact HB.out)) hb); clear BK140; clear HB; have BK140 := n0_; have HB := n1_; clear n0_ n1_; (try clear hb); (try clear hb2); (try clear hk); (try clear hi); have hcz71_0 : w70.cell? ⟨gb140, 0, none⟩ = some (.int .i64 2) := (blk_cell BK140.out 0).trans rfl; have hcz71_1 : w70.cell? ⟨gb140, 1, none⟩ = some (.int .i64 1) := (blk_cell BK140.out 1).trans rfl; have hcz71_2 : w70.cell? ⟨gb140, 2, none⟩ = some (.int .i64 4) := (blk_cell BK140.out 2).trans rfl; have hcz71_3 : w70.cell? ⟨gb140, 3, none⟩ = some (.int .i64 5) := (blk_cell BK140.out 3).trans rfl; have hcz71_4 : w70.cell? ⟨gb140, 4, none⟩ = some (.int .i64 3) := (blk_cell BK140.out 4).trans rfl; have hcz71_5 : w70.cell? ⟨gb140, 5, none⟩ = some (.int .i64 2) := (blk_cell BK140.out 5).trans rfl; have hfz71_0 := blk_frozen BK140.out 0; have hfz71_1 := blk_frozen BK140.out 1; have hfz71_2 := blk_frozen BK140.out 2; have hfz71_3 := blk_frozen BK140.out 3; have hfz71_4 := blk_frozen BK140.out 4; have hfz71_5 := blk_frozen BK140.out 5) | (go_at_call 22; (with_reducible refine (layout_Shard.calls kj0 2 1 4 5 3 2 4 0 t147 _ A35.out).mono ?_); rintro e w72 ⟨rfl, hb⟩; have n0_ := Aside0.mk (blk_below (g := gb140) (o := .cells #[.int .i64 2, .int .i64 1, .int .i64 4, .int .i64 5, .int .i64 3, .int .i64 2] 24 (0, 0)) (by (with_reducible repeat (first | refine blk_drewN ?_ _ | refine blk_drew ?_ | refine blk_alloc ?_ _)); exact BK140.out) hb); have n1_ := Aside0.mk (below_step (by repeat (first | (with_reducible first | exact HB.out | apply below_alloc | apply pw_below_drewN | apply below_drew1 | refine below_set ?_ GE140.out) | exact HB.out)) hb); clear BK140; clear HB; have BK140 := n0_; have HB := n1_; clear n0_ n1_; (try clear hb); (try clear hb2); (try clear hk); (try clear hi)))
              go_ret
              exact ⟨by first | rfl | (simp [errW_none, errW_some] <;> rfl) | (simp [*, errW_none, errW_some] <;> rfl), by repeat (first | (with_reducible first | exact HB.out | apply below_alloc | apply pw_below_drewN | apply below_drew1 | refine below_set ?_ GE140.out) | exact HB.out)⟩
            · replace c66 := Bool.eq_false_iff.mpr c66
              subst c66
              have H1 : (some false) = some r := by rw [if_neg (show ¬ (false = true) by decide)] at H; exact H
              clear H
              have H := H1
              clear H1
              obtain rfl := Option.some.inj H
              have hcz73_0 : wc.cell? ⟨gb140, 0, none⟩ = some (.int .i64 2) := (blk_cell BK140.out 0).trans rfl
              have hcz73_1 : wc.cell? ⟨gb140, 1, none⟩ = some (.int .i64 1) := (blk_cell BK140.out 1).trans rfl
              have hcz73_2 : wc.cell? ⟨gb140, 2, none⟩ = some (.int .i64 4) := (blk_cell BK140.out 2).trans rfl
              have hcz73_3 : wc.cell? ⟨gb140, 3, none⟩ = some (.int .i64 5) := (blk_cell BK140.out 3).trans rfl
              have hcz73_4 : wc.cell? ⟨gb140, 4, none⟩ = some (.int .i64 3) := (blk_cell BK140.out 4).trans rfl
              have hcz73_5 : wc.cell? ⟨gb140, 5, none⟩ = some (.int .i64 2) := (blk_cell BK140.out 5).trans rfl
              have hfz73_0 := blk_frozen BK140.out 0
              have hfz73_1 := blk_frozen BK140.out 1
              have hfz73_2 := blk_frozen BK140.out 2
              have hfz73_3 := blk_frozen BK140.out 3
              have hfz73_4 := blk_frozen BK140.out 4
              have hfz73_5 := blk_frozen BK140.out 5
              go_wp2_with (first | ((with_reducible refine gate_callee (f := 18) rfl ?_); refine goesL_ (some 24) rfl rfl Try.func18 (by kernel_rfl) rfl #[.agg #[.int .i64 2, .int .i64 1, .int .i64 4, .int .i64 5, .int .i64 3, .int .i64 2], .int .i64 0] rfl (by (try simp only [List.map_toArray, List.map_cons, List.map_nil]); first | done | rfl | (simp only [List.length_drop, List.length_take]; rfl)) ?_; (with_reducible refine (layout_Stripe.calls kj0 2 1 4 5 3 2 0 t145 _ A31.out).mono ?_); rintro e w74 ⟨rfl, hb⟩; refine ⟨_, rfl, ?_⟩; have n0_ := Aside0.mk (blk_below (g := gb140) (o := .cells #[.int .i64 2, .int .i64 1, .int .i64 4, .int .i64 5, .int .i64 3, .int .i64 2] 24 (0, 0)) (by (with_reducible repeat (first | refine blk_drewN ?_ _ | refine blk_drew ?_ | refine blk_alloc ?_ _)); exact BK140.out) hb); have n1_ := Aside0.mk (below_step (by repeat (first | (with_reducible first | exact HB.out | apply below_alloc | apply pw_below_drewN | apply below_drew1 | refine below_set ?_ GE140.out) | exact HB.out)) hb); clear BK140; clear HB; have BK140 := n0_; have HB := n1_; clear n0_ n1_; (try clear hb); (try clear hb2); (try clear hk); (try clear hi); have hcz75_0 : w74.cell? ⟨gb140, 0, none⟩ = some (.int .i64 2) := (blk_cell BK140.out 0).trans rfl; have hcz75_1 : w74.cell? ⟨gb140, 1, none⟩ = some (.int .i64 1) := (blk_cell BK140.out 1).trans rfl; have hcz75_2 : w74.cell? ⟨gb140, 2, none⟩ = some (.int .i64 4) := (blk_cell BK140.out 2).trans rfl; have hcz75_3 : w74.cell? ⟨gb140, 3, none⟩ = some (.int .i64 5) := (blk_cell BK140.out 3).trans rfl; have hcz75_4 : w74.cell? ⟨gb140, 4, none⟩ = some (.int .i64 3) := (blk_cell BK140.out 4).trans rfl; have hcz75_5 : w74.cell? ⟨gb140, 5, none⟩ = some (.int .i64 2) := (blk_cell BK140.out 5).trans rfl; have hfz75_0 := blk_frozen BK140.out 0; have hfz75_1 := blk_frozen BK140.out 1; have hfz75_2 := blk_frozen BK140.out 2; have hfz75_3 := blk_frozen BK140.out 3; have hfz75_4 := blk_frozen BK140.out 4; have hfz75_5 := blk_frozen BK140.out 5) | (go_at_call 20; (with_reducible refine (layout_Disk.calls kj0 2 1 4 5 3 2 4 2 t146 _ A33.out).mono ?_); rintro e w76 ⟨rfl, hb⟩; have n0_ := Aside0.mk (blk_below (g := gb140) (o := .cells #[.int .i64 2, .int .i64 1, .int .i64 4, .int .i64 5, .int .i64 3, .int .i64 2] 24 (0, 0)) (by (with_reducible repeat (first | refine blk_drewN ?_ _ | refine blk_drew ?_ | refine blk_alloc ?_ _)); exact BK140.out) hb); have n1_ := Aside0.mk (below_step (by repeat (first | (with_reducible first | exact HB.out | apply below_alloc | apply pw_below_drewN | apply below_drew1 | refine below_set ?_ GE140.out) | exact HB.out)) hb); clear BK140; clear HB; have BK140 := n0_; have HB := n1_; clear n0_ n1_; (try clear hb); (try clear hb2); (try clear hk); (try clear hi); have hcz77_0 : w76.cell? ⟨gb140, 0, none⟩ = some (.int .i64 2) := (blk_cell BK140.out 0).trans rfl; have hcz77_1 : w76.cell? ⟨gb140, 1, none⟩ = some (.int .i64 1) := (blk_cell BK140.out 1).trans rfl; have hcz77_2 : w76.cell? ⟨gb140, 2, none⟩ = some (.int .i64 4) := (blk_cell BK140.out 2).trans rfl; have hcz77_3 : w76.cell? ⟨gb140, 3, none⟩ = some (.int .i64 5) := (blk_cell BK140.out 3).trans rfl; have hcz77_4 : w76.cell? ⟨gb140, 4, none⟩ = some (.int .i64 3) := (blk_cell BK140.out 4).trans rfl; have hcz77_5 : w76.cell? ⟨gb140, 5, none⟩ = some (.int .i64 2) := (blk_cell BK140.out 5).trans rfl; have hfz77_0 := blk_frozen BK140.out 0; have hfz77_1 := blk_frozen BK140.out 1; have hfz77_2 := blk_frozen BK140.out 2; have hfz77_3 := blk_frozen BK140.out 3; have hfz77_4 := blk_frozen BK140.out 4; have hfz77_5 := blk_frozen BK140.out 5) | (go_at_call 22; (with_reducible refine (layout_Shard.calls kj0 2 1 4 5 3 2 4 0 t147 _ A35.out).mono ?_); rintro e w78 ⟨rfl, hb⟩; have n0_ := Aside0.mk (blk_below (g := gb140) (o := .cells #[.int .i64 2, .int .i64 1, .int .i64 4, .int .i64 5, .int .i64 3, .int .i64 2] 24 (0, 0)) (by (with_reducible repeat (first | refine blk_drewN ?_ _ | refine blk_drew ?_ | refine blk_alloc ?_ _)); exact BK140.out) hb); have n1_ := Aside0.mk (below_step (by repeat (first | (with_reducible first | exact HB.out | apply below_alloc | apply pw_below_drewN | apply below_drew1 | refine below_set ?_ GE140.out) | exact HB.out)) hb); clear BK140; clear HB; have BK140 := n0_; have HB := n1_; clear n0_ n1_; (try clear hb); (try clear hb2); (try clear hk); (try clear hi)))
              go_ret
              exact ⟨by first | rfl | (simp [errW_none, errW_some] <;> rfl) | (simp [*, errW_none, errW_some] <;> rfl), by repeat (first | (with_reducible first | exact HB.out | apply below_alloc | apply pw_below_drewN | apply below_drew1 | refine below_set ?_ GE140.out) | exact HB.out)⟩
        · rw [if_neg c34] at H
          have c34b0 : (t146 == 0) = false := beq_eq_false_iff_ne.mpr c34
          have c34b1 : (t146 != 0) = true := bne_iff_ne.mpr c34
          by_cases c79 : x2_0 = true
          · subst c79
            have H1 : (some false) = some r := by rw [if_pos rfl] at H; exact H
            clear H
            have H := H1
            clear H1
            obtain rfl := Option.some.inj H
            have hcz80_0 : wc.cell? ⟨gb140, 0, none⟩ = some (.int .i64 2) := (blk_cell BK140.out 0).trans rfl
            have hcz80_1 : wc.cell? ⟨gb140, 1, none⟩ = some (.int .i64 1) := (blk_cell BK140.out 1).trans rfl
            have hcz80_2 : wc.cell? ⟨gb140, 2, none⟩ = some (.int .i64 4) := (blk_cell BK140.out 2).trans rfl
            have hcz80_3 : wc.cell? ⟨gb140, 3, none⟩ = some (.int .i64 5) := (blk_cell BK140.out 3).trans rfl
            have hcz80_4 : wc.cell? ⟨gb140, 4, none⟩ = some (.int .i64 3) := (blk_cell BK140.out 4).trans rfl
            have hcz80_5 : wc.cell? ⟨gb140, 5, none⟩ = some (.int .i64 2) := (blk_cell BK140.out 5).trans rfl
            have hfz80_0 := blk_frozen BK140.out 0
            have hfz80_1 := blk_frozen BK140.out 1
            have hfz80_2 := blk_frozen BK140.out 2
            have hfz80_3 := blk_frozen BK140.out 3
            have hfz80_4 := blk_frozen BK140.out 4
            have hfz80_5 := blk_frozen BK140.out 5
            go_wp2_with (first | ((with_reducible refine gate_callee (f := 18) rfl ?_); refine goesL_ (some 24) rfl rfl Try.func18 (by kernel_rfl) rfl #[.agg #[.int .i64 2, .int .i64 1, .int .i64 4, .int .i64 5, .int .i64 3, .int .i64 2], .int .i64 0] rfl (by (try simp only [List.map_toArray, List.map_cons, List.map_nil]); first | done | rfl | (simp only [List.length_drop, List.length_take]; rfl)) ?_; (with_reducible refine (layout_Stripe.calls kj0 2 1 4 5 3 2 0 t145 _ A31.out).mono ?_); rintro e w81 ⟨rfl, hb⟩; refine ⟨_, rfl, ?_⟩; have n0_ := Aside0.mk (blk_below (g := gb140) (o := .cells #[.int .i64 2, .int .i64 1, .int .i64 4, .int .i64 5, .int .i64 3, .int .i64 2] 24 (0, 0)) (by (with_reducible repeat (first | refine blk_drewN ?_ _ | refine blk_drew ?_ | refine blk_alloc ?_ _)); exact BK140.out) hb); have n1_ := Aside0.mk (below_step (by repeat (first | (with_reducible first | exact HB.out | apply below_alloc | apply pw_below_drewN | apply below_drew1 | refine below_set ?_ GE140.out) | exact HB.out)) hb); clear BK140; clear HB; have BK140 := n0_; have HB := n1_; clear n0_ n1_; (try clear hb); (try clear hb2); (try clear hk); (try clear hi); have hcz82_0 : w81.cell? ⟨gb140, 0, none⟩ = some (.int .i64 2) := (blk_cell BK140.out 0).trans rfl; have hcz82_1 : w81.cell? ⟨gb140, 1, none⟩ = some (.int .i64 1) := (blk_cell BK140.out 1).trans rfl; have hcz82_2 : w81.cell? ⟨gb140, 2, none⟩ = some (.int .i64 4) := (blk_cell BK140.out 2).trans rfl; have hcz82_3 : w81.cell? ⟨gb140, 3, none⟩ = some (.int .i64 5) := (blk_cell BK140.out 3).trans rfl; have hcz82_4 : w81.cell? ⟨gb140, 4, none⟩ = some (.int .i64 3) := (blk_cell BK140.out 4).trans rfl; have hcz82_5 : w81.cell? ⟨gb140, 5, none⟩ = some (.int .i64 2) := (blk_cell BK140.out 5).trans rfl; have hfz82_0 := blk_frozen BK140.out 0; have hfz82_1 := blk_frozen BK140.out 1; have hfz82_2 := blk_frozen BK140.out 2; have hfz82_3 := blk_frozen BK140.out 3; have hfz82_4 := blk_frozen BK140.out 4; have hfz82_5 := blk_frozen BK140.out 5) | (go_at_call 20; (with_reducible refine (layout_Disk.calls kj0 2 1 4 5 3 2 4 2 t146 _ A33.out).mono ?_); rintro e w83 ⟨rfl, hb⟩; have n0_ := Aside0.mk (blk_below (g := gb140) (o := .cells #[.int .i64 2, .int .i64 1, .int .i64 4, .int .i64 5, .int .i64 3, .int .i64 2] 24 (0, 0)) (by (with_reducible repeat (first | refine blk_drewN ?_ _ | refine blk_drew ?_ | refine blk_alloc ?_ _)); exact BK140.out) hb); have n1_ := Aside0.mk (below_step (by repeat (first | (with_reducible first | exact HB.out | apply below_alloc | apply pw_below_drewN | apply below_drew1 | refine below_set ?_ GE140.out) | exact HB.out)) hb); clear BK140; clear HB; have BK140 := n0_; have HB := n1_; clear n0_ n1_; (try clear hb); (try clear hb2); (try clear hk); (try clear hi)))
            go_ret
            exact ⟨by first | rfl | (simp [errW_none, errW_some] <;> rfl) | (simp [*, errW_none, errW_some] <;> rfl), by repeat (first | (with_reducible first | exact HB.out | apply below_alloc | apply pw_below_drewN | apply below_drew1 | refine below_set ?_ GE140.out) | exact HB.out)⟩
          · replace c79 := Bool.eq_false_iff.mpr c79
            subst c79
            have H1 : (some false) = some r := by rw [if_neg (show ¬ (false = true) by decide)] at H; exact H
            clear H
            have H := H1
            clear H1
            obtain rfl := Option.some.inj H
            have hcz84_0 : wc.cell? ⟨gb140, 0, none⟩ = some (.int .i64 2) := (blk_cell BK140.out 0).trans rfl
            have hcz84_1 : wc.cell? ⟨gb140, 1, none⟩ = some (.int .i64 1) := (blk_cell BK140.out 1).trans rfl
            have hcz84_2 : wc.cell? ⟨gb140, 2, none⟩ = some (.int .i64 4) := (blk_cell BK140.out 2).trans rfl
            have hcz84_3 : wc.cell? ⟨gb140, 3, none⟩ = some (.int .i64 5) := (blk_cell BK140.out 3).trans rfl
            have hcz84_4 : wc.cell? ⟨gb140, 4, none⟩ = some (.int .i64 3) := (blk_cell BK140.out 4).trans rfl
            have hcz84_5 : wc.cell? ⟨gb140, 5, none⟩ = some (.int .i64 2) := (blk_cell BK140.out 5).trans rfl
            have hfz84_0 := blk_frozen BK140.out 0
            have hfz84_1 := blk_frozen BK140.out 1
            have hfz84_2 := blk_frozen BK140.out 2
            have hfz84_3 := blk_frozen BK140.out 3
            have hfz84_4 := blk_frozen BK140.out 4
            have hfz84_5 := blk_frozen BK140.out 5
            go_wp2_with (first | ((with_reducible refine gate_callee (f := 18) rfl ?_); refine goesL_ (some 24) rfl rfl Try.func18 (by kernel_rfl) rfl #[.agg #[.int .i64 2, .int .i64 1, .int .i64 4, .int .i64 5, .int .i64 3, .int .i64 2], .int .i64 0] rfl (by (try simp only [List.map_toArray, List.map_cons, List.map_nil]); first | done | rfl | (simp only [List.length_drop, List.length_take]; rfl)) ?_; (with_reducible refine (layout_Stripe.calls kj0 2 1 4 5 3 2 0 t145 _ A31.out).mono ?_); rintro e w85 ⟨rfl, hb⟩; refine ⟨_, rfl, ?_⟩; have n0_ := Aside0.mk (blk_below (g := gb140) (o := .cells #[.int .i64 2, .int .i64 1, .int .i64 4, .int .i64 5, .int .i64 3, .int .i64 2] 24 (0, 0)) (by (with_reducible repeat (first | refine blk_drewN ?_ _ | refine blk_drew ?_ | refine blk_alloc ?_ _)); exact BK140.out) hb); have n1_ := Aside0.mk (below_step (by repeat (first | (with_reducible first | exact HB.out | apply below_alloc | apply pw_below_drewN | apply below_drew1 | refine below_set ?_ GE140.out) | exact HB.out)) hb); clear BK140; clear HB; have BK140 := n0_; have HB := n1_; clear n0_ n1_; (try clear hb); (try clear hb2); (try clear hk); (try clear hi); have hcz86_0 : w85.cell? ⟨gb140, 0, none⟩ = some (.int .i64 2) := (blk_cell BK140.out 0).trans rfl; have hcz86_1 : w85.cell? ⟨gb140, 1, none⟩ = some (.int .i64 1) := (blk_cell BK140.out 1).trans rfl; have hcz86_2 : w85.cell? ⟨gb140, 2, none⟩ = some (.int .i64 4) := (blk_cell BK140.out 2).trans rfl; have hcz86_3 : w85.cell? ⟨gb140, 3, none⟩ = some (.int .i64 5) := (blk_cell BK140.out 3).trans rfl; have hcz86_4 : w85.cell? ⟨gb140, 4, none⟩ = some (.int .i64 3) := (blk_cell BK140.out 4).trans rfl; have hcz86_5 : w85.cell? ⟨gb140, 5, none⟩ = some (.int .i64 2) := (blk_cell BK140.out 5).trans rfl; have hfz86_0 := blk_frozen BK140.out 0; have hfz86_1 := blk_frozen BK140.out 1; have hfz86_2 := blk_frozen BK140.out 2; have hfz86_3 := blk_frozen BK140.out 3; have hfz86_4 := blk_frozen BK140.out 4; have hfz86_5 := blk_frozen BK140.out 5) | (go_at_call 20; (with_reducible refine (layout_Disk.calls kj0 2 1 4 5 3 2 4 2 t146 _ A33.out).mono ?_); rintro e w87 ⟨rfl, hb⟩; have n0_ := Aside0.mk (blk_below (g := gb140) (o := .cells #[.int .i64 2, .int .i64 1, .int .i64 4, .int .i64 5, .int .i64 3, .int .i64 2] 24 (0, 0)) (by (with_reducible repeat (first | refine blk_drewN ?_ _ | refine blk_drew ?_ | refine blk_alloc ?_ _)); exact BK140.out) hb); have n1_ := Aside0.mk (below_step (by repeat (first | (with_reducible first | exact HB.out | apply below_alloc | apply pw_below_drewN | apply below_drew1 | refine below_set ?_ GE140.out) | exact HB.out)) hb); clear BK140; clear HB; have BK140 := n0_; have HB := n1_; clear n0_ n1_; (try clear hb); (try clear hb2); (try clear hk); (try clear hi)))
            go_ret
            exact ⟨by first | rfl | (simp [errW_none, errW_some] <;> rfl) | (simp [*, errW_none, errW_some] <;> rfl), by repeat (first | (with_reducible first | exact HB.out | apply below_alloc | apply pw_below_drewN | apply below_drew1 | refine below_set ?_ GE140.out) | exact HB.out)⟩
      · rw [if_neg c32] at H
        have c32b0 : (t145 == 8) = false := beq_eq_false_iff_ne.mpr c32
        have c32b1 : (t145 != 8) = true := bne_iff_ne.mpr c32
        by_cases c88 : x2_0 = true
        · subst c88
          have H1 : (some false) = some r := by rw [if_pos rfl] at H; exact H
          clear H
          have H := H1
          clear H1
          obtain rfl := Option.some.inj H
          have hcz89_0 : wc.cell? ⟨gb140, 0, none⟩ = some (.int .i64 2) := (blk_cell BK140.out 0).trans rfl
          have hcz89_1 : wc.cell? ⟨gb140, 1, none⟩ = some (.int .i64 1) := (blk_cell BK140.out 1).trans rfl
          have hcz89_2 : wc.cell? ⟨gb140, 2, none⟩ = some (.int .i64 4) := (blk_cell BK140.out 2).trans rfl
          have hcz89_3 : wc.cell? ⟨gb140, 3, none⟩ = some (.int .i64 5) := (blk_cell BK140.out 3).trans rfl
          have hcz89_4 : wc.cell? ⟨gb140, 4, none⟩ = some (.int .i64 3) := (blk_cell BK140.out 4).trans rfl
          have hcz89_5 : wc.cell? ⟨gb140, 5, none⟩ = some (.int .i64 2) := (blk_cell BK140.out 5).trans rfl
          have hfz89_0 := blk_frozen BK140.out 0
          have hfz89_1 := blk_frozen BK140.out 1
          have hfz89_2 := blk_frozen BK140.out 2
          have hfz89_3 := blk_frozen BK140.out 3
          have hfz89_4 := blk_frozen BK140.out 4
          have hfz89_5 := blk_frozen BK140.out 5
          go_wp2_with (first | ((with_reducible refine gate_callee (f := 18) rfl ?_); refine goesL_ (some 24) rfl rfl Try.func18 (by kernel_rfl) rfl #[.agg #[.int .i64 2, .int .i64 1, .int .i64 4, .int .i64 5, .int .i64 3, .int .i64 2], .int .i64 0] rfl (by (try simp only [List.map_toArray, List.map_cons, List.map_nil]); first | done | rfl | (simp only [List.length_drop, List.length_take]; rfl)) ?_; (with_reducible refine (layout_Stripe.calls kj0 2 1 4 5 3 2 0 t145 _ A31.out).mono ?_); rintro e w90 ⟨rfl, hb⟩; refine ⟨_, rfl, ?_⟩; have n0_ := Aside0.mk (blk_below (g := gb140) (o := .cells #[.int .i64 2, .int .i64 1, .int .i64 4, .int .i64 5, .int .i64 3, .int .i64 2] 24 (0, 0)) (by (with_reducible repeat (first | refine blk_drewN ?_ _ | refine blk_drew ?_ | refine blk_alloc ?_ _)); exact BK140.out) hb); have n1_ := Aside0.mk (below_step (by repeat (first | (with_reducible first | exact HB.out | apply below_alloc | apply pw_below_drewN | apply below_drew1 | refine below_set ?_ GE140.out) | exact HB.out)) hb); clear BK140; clear HB; have BK140 := n0_; have HB := n1_; clear n0_ n1_; (try clear hb); (try clear hb2); (try clear hk); (try clear hi)))
          go_ret
          exact ⟨by first | rfl | (simp [errW_none, errW_some] <;> rfl) | (simp [*, errW_none, errW_some] <;> rfl), by repeat (first | (with_reducible first | exact HB.out | apply below_alloc | apply pw_below_drewN | apply below_drew1 | refine below_set ?_ GE140.out) | exact HB.out)⟩
        · replace c88 := Bool.eq_false_iff.mpr c88
          subst c88
          have H1 : (some false) = some r := by rw [if_neg (show ¬ (false = true) by decide)] at H; exact H
          clear H
          have H := H1
          clear H1
          obtain rfl := Option.some.inj H
          have hcz91_0 : wc.cell? ⟨gb140, 0, none⟩ = some (.int .i64 2) := (blk_cell BK140.out 0).trans rfl
          have hcz91_1 : wc.cell? ⟨gb140, 1, none⟩ = some (.int .i64 1) := (blk_cell BK140.out 1).trans rfl
          have hcz91_2 : wc.cell? ⟨gb140, 2, none⟩ = some (.int .i64 4) := (blk_cell BK140.out 2).trans rfl
          have hcz91_3 : wc.cell? ⟨gb140, 3, none⟩ = some (.int .i64 5) := (blk_cell BK140.out 3).trans rfl
          have hcz91_4 : wc.cell? ⟨gb140, 4, none⟩ = some (.int .i64 3) := (blk_cell BK140.out 4).trans rfl
          have hcz91_5 : wc.cell? ⟨gb140, 5, none⟩ = some (.int .i64 2) := (blk_cell BK140.out 5).trans rfl
          have hfz91_0 := blk_frozen BK140.out 0
          have hfz91_1 := blk_frozen BK140.out 1
          have hfz91_2 := blk_frozen BK140.out 2
          have hfz91_3 := blk_frozen BK140.out 3
          have hfz91_4 := blk_frozen BK140.out 4
          have hfz91_5 := blk_frozen BK140.out 5
          go_wp2_with (first | ((with_reducible refine gate_callee (f := 18) rfl ?_); refine goesL_ (some 24) rfl rfl Try.func18 (by kernel_rfl) rfl #[.agg #[.int .i64 2, .int .i64 1, .int .i64 4, .int .i64 5, .int .i64 3, .int .i64 2], .int .i64 0] rfl (by (try simp only [List.map_toArray, List.map_cons, List.map_nil]); first | done | rfl | (simp only [List.length_drop, List.length_take]; rfl)) ?_; (with_reducible refine (layout_Stripe.calls kj0 2 1 4 5 3 2 0 t145 _ A31.out).mono ?_); rintro e w92 ⟨rfl, hb⟩; refine ⟨_, rfl, ?_⟩; have n0_ := Aside0.mk (blk_below (g := gb140) (o := .cells #[.int .i64 2, .int .i64 1, .int .i64 4, .int .i64 5, .int .i64 3, .int .i64 2] 24 (0, 0)) (by (with_reducible repeat (first | refine blk_drewN ?_ _ | refine blk_drew ?_ | refine blk_alloc ?_ _)); exact BK140.out) hb); have n1_ := Aside0.mk (below_step (by repeat (first | (with_reducible first | exact HB.out | apply below_alloc | apply pw_below_drewN | apply below_drew1 | refine below_set ?_ GE140.out) | exact HB.out)) hb); clear BK140; clear HB; have BK140 := n0_; have HB := n1_; clear n0_ n1_; (try clear hb); (try clear hb2); (try clear hk); (try clear hi)))
          go_ret
          exact ⟨by first | rfl | (simp [errW_none, errW_some] <;> rfl) | (simp [*, errW_none, errW_some] <;> rfl), by repeat (first | (with_reducible first | exact HB.out | apply below_alloc | apply pw_below_drewN | apply below_drew1 | refine below_set ?_ GE140.out) | exact HB.out)⟩

/-! ### aumbrylaw14_LayoutNames: function 3 -/
def aumbrylaw14_LayoutNames.f (k : Nat)  : Option (Bool) := (aumbrylaw14_awake.f k).bind fun t150 => (if t150 = true then (some true) else (some false))
theorem aumbrylaw14_LayoutNames.mono : ∀ k, LeO (aumbrylaw14_LayoutNames.f k ) (aumbrylaw14_LayoutNames.f (k + 1) ) := by
  intro  k
  unfold aumbrylaw14_LayoutNames.f
  repeat' first
      | (with_reducible exact aumbrylaw14_awake.mono _)
      | (with_reducible exact LeO.refl _)
      | (with_reducible exact LeO.none _)
      | (with_reducible refine LeO.ite ?_ ?_)
      | (with_reducible refine LeO.bind ?_ (fun _ => ?_))
      | exact aumbrylaw14_awake.mono _
      | exact LeO.none _
      | refine LeO.ite ?_ ?_
      | refine LeO.bind ?_ (fun _ => ?_)
set_option maxHeartbeats 8000000 in
set_option maxRecDepth 100000 in
theorem aumbrylaw14_LayoutNames.calls (k : Nat)  (r : Bool) (w : World) (h : aumbrylaw14_LayoutNames.f k  = some r) :
    Calls Try.prog 3 #[] w fun e w' => e = .returned (.bool r) ∧ Below w.heap.size w w' := by
  have HB := Aside0.mk (Below.refl w.heap.size w)
  have H : ((aumbrylaw14_awake.f k).bind fun t150 => (if t150 = true then (some true) else (some false))) = some r := h
  clear h
  replace H := Option.bind_eq_some_iff.mp H
  obtain ⟨t150, A10, H⟩ := H
  replace H : (if t150 = true then (some true) else (some false)) = some r := H
  have A1 := Aside0.mk A10
  clear A10
  by_cases c2 : t150 = true
  · subst c2
    have H1 : (some true) = some r := by rw [if_pos rfl] at H; exact H
    clear H
    have H := H1
    clear H1
    obtain rfl := Option.some.inj H
    go_enter Try.func3, Try.ntmps3
    go_wp2_with (first | ((with_reducible refine gate_callee (f := 9) rfl ?_); refine goesL_ (some 2) rfl rfl Try.func9 (by kernel_rfl) rfl #[] rfl (by (try simp only [List.map_toArray, List.map_cons, List.map_nil]); first | done | rfl | (simp only [List.length_drop, List.length_take]; rfl)) ?_; (with_reducible refine (aumbrylaw14_awake.calls k  true _ A1.out).mono ?_); rintro e w3 ⟨rfl, hb⟩; refine ⟨_, rfl, ?_⟩; have n0_ := Aside0.mk (below_step (by repeat (first | (with_reducible first | exact HB.out | apply below_alloc | apply pw_below_drewN | apply below_drew1) | exact HB.out)) hb); clear HB; have HB := n0_; clear n0_; (try clear hb); (try clear hb2); (try clear hk); (try clear hi)))
    go_ret
    exact ⟨by first | rfl | (simp [errW_none, errW_some] <;> rfl) | (simp [*, errW_none, errW_some] <;> rfl), by repeat (first | (with_reducible first | exact HB.out | apply below_alloc | apply pw_below_drewN | apply below_drew1) | exact HB.out)⟩
  · replace c2 := Bool.eq_false_iff.mpr c2
    subst c2
    have H1 : (some false) = some r := by rw [if_neg (show ¬ (false = true) by decide)] at H; exact H
    clear H
    have H := H1
    clear H1
    obtain rfl := Option.some.inj H
    go_enter Try.func3, Try.ntmps3
    go_wp2_with (first | ((with_reducible refine gate_callee (f := 9) rfl ?_); refine goesL_ (some 2) rfl rfl Try.func9 (by kernel_rfl) rfl #[] rfl (by (try simp only [List.map_toArray, List.map_cons, List.map_nil]); first | done | rfl | (simp only [List.length_drop, List.length_take]; rfl)) ?_; (with_reducible refine (aumbrylaw14_awake.calls k  false _ A1.out).mono ?_); rintro e w4 ⟨rfl, hb⟩; refine ⟨_, rfl, ?_⟩; have n0_ := Aside0.mk (below_step (by repeat (first | (with_reducible first | exact HB.out | apply below_alloc | apply pw_below_drewN | apply below_drew1) | exact HB.out)) hb); clear HB; have HB := n0_; clear n0_; (try clear hb); (try clear hb2); (try clear hk); (try clear hi)))
    go_ret
    exact ⟨by first | rfl | (simp [errW_none, errW_some] <;> rfl) | (simp [*, errW_none, errW_some] <;> rfl), by repeat (first | (with_reducible first | exact HB.out | apply below_alloc | apply pw_below_drewN | apply below_drew1) | exact HB.out)⟩

/-- THE ONE PURE STATEMENT of aumbrylaw14_LayoutNames: yours. -/
def aumbrylaw14_LayoutNames.Pure : Prop := ∃ k, aumbrylaw14_LayoutNames.f k  = some true
theorem aumbrylaw14_LayoutNames.walk (P : aumbrylaw14_LayoutNames.Pure)  (w : World)  :
    Calls Try.prog 3 #[] w fun e w' => e = .returned (.bool true) ∧ Below w.heap.size w w' := by
  obtain ⟨k, h⟩ := P  
  refine (aumbrylaw14_LayoutNames.calls k  true w h).mono ?_
  rintro e w' ⟨rfl, hd⟩
  exact ⟨rfl, hd⟩

/-! ### aumbryref05_Check: function 28 -/
def aumbryref05_Check.j0 : Nat → Bool → Option (Int)
  | 0, _ => none
  | k + 1, x24 => if x24 = true then (some 50) else (some 0)
def aumbryref05_Check.f (k : Nat) (a0 : Int) (a1 : Int) : Option (Int) := if a0 < 1 then (aumbryref05_Check.j0 k true) else (if a0 > 256 then (aumbryref05_Check.j0 k true) else (if a1 < 0 then (aumbryref05_Check.j0 k true) else (if a1 > 256 then (aumbryref05_Check.j0 k true) else (aumbryref05_Check.j0 k (decide ((wrap64 (a0 + a1)) > 256))))))
theorem aumbryref05_Check.mono_l : ∀ k, (∀ y0, LeO (aumbryref05_Check.j0 k y0) (aumbryref05_Check.j0 (k + 1) y0))
  | 0 => fun _ r h => by simp [aumbryref05_Check.j0] at h
  | k + 1 => by
    have ih0 := aumbryref05_Check.mono_l k
    · intro y0
      unfold aumbryref05_Check.j0
      repeat' first
      | (with_reducible exact ih0 _)
      | (with_reducible exact LeO.refl _)
      | (with_reducible exact LeO.none _)
      | (with_reducible refine LeO.ite ?_ ?_)
      | (with_reducible refine LeO.bind ?_ (fun _ => ?_))
      | exact ih0 _
      | exact LeO.none _
      | refine LeO.ite ?_ ?_
      | refine LeO.bind ?_ (fun _ => ?_)
theorem aumbryref05_Check.mono : ∀ a0 a1 k, LeO (aumbryref05_Check.f k a0 a1) (aumbryref05_Check.f (k + 1) a0 a1) := by
  intro a0 a1 k
  have ih0 := aumbryref05_Check.mono_l k
  unfold aumbryref05_Check.f
  repeat' first
      | (with_reducible exact ih0 _)
      | (with_reducible exact LeO.refl _)
      | (with_reducible exact LeO.none _)
      | (with_reducible refine LeO.ite ?_ ?_)
      | (with_reducible refine LeO.bind ?_ (fun _ => ?_))
      | exact ih0 _
      | exact LeO.none _
      | refine LeO.ite ?_ ?_
      | refine LeO.bind ?_ (fun _ => ?_)
set_option maxHeartbeats 8000000 in
set_option maxRecDepth 100000 in
theorem aumbryref05_Check.calls (k : Nat) (a0 : Int) (a1 : Int) (r : Int) (w : World) (h : aumbryref05_Check.f k a0 a1 = some r) :
    Calls Try.prog 28 #[.int .i64 a0, .int .i64 a1] w fun e w' => e = .returned (.int .i64 r) ∧ Drawn0 w w' := by
  have H : (if a0 < 1 then (aumbryref05_Check.j0 k true) else (if a0 > 256 then (aumbryref05_Check.j0 k true) else (if a1 < 0 then (aumbryref05_Check.j0 k true) else (if a1 > 256 then (aumbryref05_Check.j0 k true) else (aumbryref05_Check.j0 k (decide ((wrap64 (a0 + a1)) > 256))))))) = some r := h
  clear h
  have HC3 := Aside0.mk H
  clear H
  go_enter Try.func28, Try.ntmps28
  go_upto_region 1 with (fail)
  go_cut [24] (fun v24 wc => ∃ (kq : Nat) (x24_2 : Bool), v24 = .bool x24_2 ∧ Aside0 (aumbryref05_Check.j0 kq x24_2 = some r) ∧ Aside0 (kq ≤ k) ∧ Drawn0 w wc)
  case first =>
    have H := HC3.out
    clear HC3
    by_cases c4 : a0 < 1
    · rw [if_pos c4] at H
      have c4b0 : decide (a0 < 1) = true := decide_eq_true c4
      clear c4
      (first | rw [c4b0] | (simp only [i64_w, i32_w]; rw [c4b0]) | skip)
      have H' := Aside0.mk H
      clear H
      go_wp2
      go_meet
      case rel => exact ⟨_, (true), (by first | rfl | (simp; done) | (simp [*]; done)), H', ⟨by first | omega | exact Nat.le_refl _⟩, by repeat (first | exact Drawn0.refl _ | apply Drawn0.step)⟩
    · rw [if_neg c4] at H
      have c4b0 : decide (a0 < 1) = false := decide_eq_false c4
      clear c4
      (first | rw [c4b0] | (simp only [i64_w, i32_w]; rw [c4b0]) | skip)
      by_cases c5 : a0 > 256
      · rw [if_pos c5] at H
        have c5b0 : decide (256 < a0) = true := decide_eq_true c5
        clear c5
        have H' := Aside0.mk H
        clear H
        go_wp2
        go_meet
        case rel => exact ⟨_, (true), (by first | rfl | (simp; done) | (simp [*]; done)), H', ⟨by first | omega | exact Nat.le_refl _⟩, by repeat (first | exact Drawn0.refl _ | apply Drawn0.step)⟩
      · rw [if_neg c5] at H
        have c5b0 : decide (256 < a0) = false := decide_eq_false c5
        clear c5
        by_cases c6 : a1 < 0
        · rw [if_pos c6] at H
          have c6b0 : decide (a1 < 0) = true := decide_eq_true c6
          clear c6
          have H' := Aside0.mk H
          clear H
          go_wp2
          go_meet
          case rel => exact ⟨_, (true), (by first | rfl | (simp; done) | (simp [*]; done)), H', ⟨by first | omega | exact Nat.le_refl _⟩, by repeat (first | exact Drawn0.refl _ | apply Drawn0.step)⟩
        · rw [if_neg c6] at H
          have c6b0 : decide (a1 < 0) = false := decide_eq_false c6
          clear c6
          by_cases c7 : a1 > 256
          · rw [if_pos c7] at H
            have c7b0 : decide (256 < a1) = true := decide_eq_true c7
            clear c7
            have H' := Aside0.mk H
            clear H
            go_wp2
            go_meet
            case rel => exact ⟨_, (true), (by first | rfl | (simp; done) | (simp [*]; done)), H', ⟨by first | omega | exact Nat.le_refl _⟩, by repeat (first | exact Drawn0.refl _ | apply Drawn0.step)⟩
          · rw [if_neg c7] at H
            have c7b0 : decide (256 < a1) = false := decide_eq_false c7
            clear c7
            have H' := Aside0.mk H
            clear H
            go_wp2
            go_meet
            case rel => exact ⟨_, (decide ((wrap64 (a0 + a1)) > 256)), (by first | rfl | (simp; done) | (simp [*]; done)), H', ⟨by first | omega | exact Nat.le_refl _⟩, by repeat (first | exact Drawn0.refl _ | apply Drawn0.step)⟩
  case rest =>
    clear HC3
    try clear c2
    try clear p2
    try clear c4
    try clear c4b0
    try clear c5
    try clear c5b0
    try clear c6
    try clear c6b0
    try clear p6
    try clear c7
    try clear c7b0
    obtain ⟨kq, x24_2, rfl, HA, HJ2, ⟨mc2, rfl⟩⟩ := hcut
    cases kq with
    | zero => exact absurd HA.out (by simp [aumbryref05_Check.j0])
    | succ kj2 =>
      have H := HA.out
      clear HA
      simp only [aumbryref05_Check.j0] at H
      by_cases c8 : x24_2 = true
      · subst c8
        have H1 : (some 50) = some r := by rw [if_pos rfl] at H; exact H
        clear H
        have H := H1
        clear H1
        obtain rfl := Option.some.inj H
        go_wp2
        go_ret
        exact ⟨by first | rfl | (simp; done) | (simp [*]; done), by repeat (first | exact Drawn0.refl _ | apply Drawn0.step)⟩
      · replace c8 := Bool.eq_false_iff.mpr c8
        subst c8
        have H1 : (some 0) = some r := by rw [if_neg (show ¬ (false = true) by decide)] at H; exact H
        clear H
        have H := H1
        clear H1
        obtain rfl := Option.some.inj H
        go_wp2
        go_ret
        exact ⟨by first | rfl | (simp; done) | (simp [*]; done), by repeat (first | exact Drawn0.refl _ | apply Drawn0.step)⟩

end Go.Proofs.Ytacolbcmlpfbmaa.PAll
