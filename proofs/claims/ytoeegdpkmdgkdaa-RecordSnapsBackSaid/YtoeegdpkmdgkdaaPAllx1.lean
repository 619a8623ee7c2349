-- LAID BY A PROGRAM OF THIS SESSION (wip/tools: the kit's print with changes of our own)
import Derived.Test.YtoeegdpkmdgkdaaPAllx0
namespace Go.Proofs.Ytoeegdpkmdgkdaa.PAll
open Go.RowKit Go.Proofs.YtoeegdpkmdgkdaaW.PrintWords Go.Proofs.YtoeegdpkmdgkdaaW.PrintLast Go.Proofs.YtoeegdpkmdgkdaaW.PrintMore
attribute [local go_sem] min2_int min_two   -- for this text's walks alone
set_option linter.unusedVariables false
set_option linter.unusedSimpArgs false

/-! ### record_Check: function 17 -/
mutual
def record_Check.j0 : Nat → Bool → Int → ByteArray → Int → List Int → Option (Int)
 | 0, _, _, _, _, _ => none
 | k + 1, x3, x102000, x102001, x102002, x102003 => record_Check.l0 k x3 x102003 (x102003.length : Int) 0 x102000 x102001 x102002 x102003
def record_Check.l0 : Nat → Bool → List Int → Int → Int → Int → ByteArray → Int → List Int → Option (Int)
 | 0, _, _, _, _, _, _, _, _ => none
 | k + 1, x3, x43, x44, x45, x102000, x102001, x102002, x102003 => if x45 < x44 then (if 0 ≤ x45 then (if x45 < (x43.length : Int) then (if x3 = true then (record_Check.l0 k true x43 x44 (wrap64 (x45 + 1)) x102000 x102001 x102002 x102003) else (if (rd x43 x45) < 0 then (record_Check.l0 k true x43 x44 (wrap64 (x45 + 1)) x102000 x102001 x102002 x102003) else (record_Check.l0 k (decide ((rd x43 x45) ≥ 256)) x43 x44 (wrap64 (x45 + 1)) x102000 x102001 x102002 x102003))) else (none)) else (none)) else (if x3 = true then (record_Check.j2 k true) else (if x102000 = 2 then (if x102002 = 0 then (record_Check.j2 k (decide ((x102003.length : Int) > 0))) else (record_Check.j2 k true)) else (record_Check.j2 k false)))
def record_Check.j2 : Nat → Bool → Option (Int)
 | 0, _ => none
 | k + 1, x75 => if x75 = true then (some 1) else (some 0)
end
def record_Check.f (k : Nat) (a0_0 : Int) (a0_1 : ByteArray) (a0_2 : Int) (l0_3 : List Int) : Option (Int) := if a0_0 = 1 then (if (a0_1.size : Int) < 1 then (record_Check.j0 k true a0_0 a0_1 a0_2 l0_3) else (if (a0_1.size : Int) > 64 then (record_Check.j0 k true a0_0 a0_1 a0_2 l0_3) else (if a0_2 < 0 then (record_Check.j0 k true a0_0 a0_1 a0_2 l0_3) else (if a0_2 > 2147483647 then (record_Check.j0 k true a0_0 a0_1 a0_2 l0_3) else (record_Check.j0 k (decide ((l0_3.length : Int) > 256)) a0_0 a0_1 a0_2 l0_3))))) else (if a0_0 = 2 then (if (a0_1.size : Int) < 1 then (record_Check.j0 k true a0_0 a0_1 a0_2 l0_3) else (if (a0_1.size : Int) > 64 then (record_Check.j0 k true a0_0 a0_1 a0_2 l0_3) else (if a0_2 < 0 then (record_Check.j0 k true a0_0 a0_1 a0_2 l0_3) else (if a0_2 > 2147483647 then (record_Check.j0 k true a0_0 a0_1 a0_2 l0_3) else (record_Check.j0 k (decide ((l0_3.length : Int) > 256)) a0_0 a0_1 a0_2 l0_3))))) else (record_Check.j0 k true a0_0 a0_1 a0_2 l0_3))
theorem record_Check.mono_l : ∀ k, (∀ y0 y1 y2 y3 y4, LeO (record_Check.j0 k y0 y1 y2 y3 y4) (record_Check.j0 (k + 1) y0 y1 y2 y3 y4)) ∧ (∀ y0 y1 y2 y3 y4 y5 y6 y7, LeO (record_Check.l0 k y0 y1 y2 y3 y4 y5 y6 y7) (record_Check.l0 (k + 1) y0 y1 y2 y3 y4 y5 y6 y7)) ∧ (∀ y0, LeO (record_Check.j2 k y0) (record_Check.j2 (k + 1) y0))
 | 0 => ⟨fun _ _ _ _ _ r h => by simp [record_Check.j0] at h, fun _ _ _ _ _ _ _ _ r h => by simp [record_Check.l0] at h, fun _ r h => by simp [record_Check.j2] at h⟩
 | k + 1 => by
  obtain ⟨ih0, ih1, ih2⟩ := record_Check.mono_l k
  refine ⟨?_, ?_, ?_⟩
  ·intro y0 y1 y2 y3 y4
   unfold record_Check.j0
   repeat' first
   | (with_reducible exact ih0 _ _ _ _ _)
   | (with_reducible exact ih1 _ _ _ _ _ _ _ _)
   | (with_reducible exact ih2 _)
   | (with_reducible exact LeO.refl _)
   | (with_reducible exact LeO.none _)
   | (with_reducible refine LeO.ite ?_ ?_)
   | (with_reducible refine LeO.bind ?_ (fun _ => ?_))
   | exact ih0 _ _ _ _ _
   | exact ih1 _ _ _ _ _ _ _ _
   | exact ih2 _
   | exact LeO.none _
   | refine LeO.ite ?_ ?_
   | refine LeO.bind ?_ (fun _ => ?_)
  ·intro y0 y1 y2 y3 y4 y5 y6 y7
   unfold record_Check.l0
   repeat' first
   | (with_reducible exact ih0 _ _ _ _ _)
   | (with_reducible exact ih1 _ _ _ _ _ _ _ _)
   | (with_reducible exact ih2 _)
   | (with_reducible exact LeO.refl _)
   | (with_reducible exact LeO.none _)
   | (with_reducible refine LeO.ite ?_ ?_)
   | (with_reducible refine LeO.bind ?_ (fun _ => ?_))
   | exact ih0 _ _ _ _ _
   | exact ih1 _ _ _ _ _ _ _ _
   | exact ih2 _
   | exact LeO.none _
   | refine LeO.ite ?_ ?_
   | refine LeO.bind ?_ (fun _ => ?_)
  ·intro y0
   unfold record_Check.j2
   repeat' first
   | (with_reducible exact ih0 _ _ _ _ _)
   | (with_reducible exact ih1 _ _ _ _ _ _ _ _)
   | (with_reducible exact ih2 _)
   | (with_reducible exact LeO.refl _)
   | (with_reducible exact LeO.none _)
   | (with_reducible refine LeO.ite ?_ ?_)
   | (with_reducible refine LeO.bind ?_ (fun _ => ?_))
   | exact ih0 _ _ _ _ _
   | exact ih1 _ _ _ _ _ _ _ _
   | exact ih2 _
   | exact LeO.none _
   | refine LeO.ite ?_ ?_
   | refine LeO.bind ?_ (fun _ => ?_)
theorem record_Check.mono : ∀ a0 a1 a2 a3 k, LeO (record_Check.f k a0 a1 a2 a3) (record_Check.f (k + 1) a0 a1 a2 a3) := by
 intro a0 a1 a2 a3 k
 obtain ⟨ih0, ih1, ih2⟩ := record_Check.mono_l k
 unfold record_Check.f
 repeat' first
   | (with_reducible exact ih0 _ _ _ _ _)
   | (with_reducible exact ih1 _ _ _ _ _ _ _ _)
   | (with_reducible exact ih2 _)
   | (with_reducible exact LeO.refl _)
   | (with_reducible exact LeO.none _)
   | (with_reducible refine LeO.ite ?_ ?_)
   | (with_reducible refine LeO.bind ?_ (fun _ => ?_))
   | exact ih0 _ _ _ _ _
   | exact ih1 _ _ _ _ _ _ _ _
   | exact ih2 _
   | exact LeO.none _
   | refine LeO.ite ?_ ?_
   | refine LeO.bind ?_ (fun _ => ?_)
set_option maxHeartbeats 8000000 in
set_option maxRecDepth 100000 in
theorem record_Check.calls (k : Nat) (a0_0 : Int) (a0_1 : ByteArray) (a0_2 : Int) (A0_3 : Option Addr) (c0_3 : Nat) (l0_3 : List Int) (r : Int) (w : World) (hr0_3 : Kd.C (Kd.int .i64) w A0_3 l0_3.length l0_3) (hc0_3 : l0_3.length ≤ c0_3) (h : record_Check.f k a0_0 a0_1 a0_2 l0_3 = some r) :
  Calls Try.prog 17 #[.agg #[.int .i64 a0_0, .string a0_1, .int .i64 a0_2, .slice A0_3 l0_3.length c0_3]] w fun e w' => e = .returned (.int .i64 r) ∧ Below w.heap.size w w' := by
 have hu25 := Try.underlying25
 have HR0_3 := Aside0.mk hr0_3
 have HC0_3 := Aside0.mk hc0_3
 clear hr0_3 hc0_3
 have HB := Aside0.mk (Below.refl w.heap.size w)
 have H : (if a0_0 = 1 then (if (a0_1.size : Int) < 1 then (record_Check.j0 k true a0_0 a0_1 a0_2 l0_3) else (if (a0_1.size : Int) > 64 then (record_Check.j0 k true a0_0 a0_1 a0_2 l0_3) else (if a0_2 < 0 then (record_Check.j0 k true a0_0 a0_1 a0_2 l0_3) else (if a0_2 > 2147483647 then (record_Check.j0 k true a0_0 a0_1 a0_2 l0_3) else (record_Check.j0 k (decide ((l0_3.length : Int) > 256)) a0_0 a0_1 a0_2 l0_3))))) else (if a0_0 = 2 then (if (a0_1.size : Int) < 1 then (record_Check.j0 k true a0_0 a0_1 a0_2 l0_3) else (if (a0_1.size : Int) > 64 then (record_Check.j0 k true a0_0 a0_1 a0_2 l0_3) else (if a0_2 < 0 then (record_Check.j0 k true a0_0 a0_1 a0_2 l0_3) else (if a0_2 > 2147483647 then (record_Check.j0 k true a0_0 a0_1 a0_2 l0_3) else (record_Check.j0 k (decide ((l0_3.length : Int) > 256)) a0_0 a0_1 a0_2 l0_3))))) else (record_Check.j0 k true a0_0 a0_1 a0_2 l0_3))) = some r := h
 clear h
 have HC2 := Aside0.mk H
 clear H
 go_enter Try.func17, Try.ntmps17
 go_upto_region 1 with (first | ((with_reducible refine gate_dst (N := 1) rfl ?_); (try (refine gate_guard (by rfl) ?_; dsimp only)); refine box_event ?hg (N := 1) ?hd (cs := #[.int .i64 a0_0, .string a0_1, .int .i64 a0_2, .slice A0_3 l0_3.length c0_3]) (t := 25) ?hr ?_; (case hd => rfl); (case hg => rfl); (case hr => first | (go_simp; done) | (go_simp; rfl)); intro gb101 hg w3 hbox hb; have n0_ := Aside0.mk (below_step (by repeat (first | (with_reducible first | exact HB.out | apply below_alloc | apply pw_below_drewN | apply below_drew1) | exact HB.out)) hb); have n1_ := Aside0.mk (hbox); have n2_ := Aside0.mk ((by rw [hg]; exact (below_size (by repeat (first | (with_reducible first | exact HB.out | apply below_alloc | apply pw_below_drewN | apply below_drew1) | exact HB.out))) : w.heap.size ≤ gb101)); have n3_ := Aside0.mk ((by rw [hg]; exact (below_size (by repeat (first | (with_reducible first | exact HB.out | apply below_alloc | apply pw_below_drewN | apply below_drew1) | exact HB.out))) : w.heap.size ≤ gb101)); clear HB; have HB := n0_; have BK101 := n1_; have GW101 := n2_; have GE101 := n3_; clear n0_ n1_ n2_ n3_; clear hb hbox hg))
 (try simp only [Act.put, List.setIfInBounds_toArray, List.set_cons_zero, List.set_cons_succ])
 go_cut [3] (fun v3 wc => ∃ (kq : Nat) (x3_1 : Bool), v3 = .bool x3_1 ∧ Aside0 (record_Check.j0 kq x3_1 a0_0 a0_1 a0_2 l0_3 = some r) ∧ Aside0 (kq ≤ k) ∧ Aside0 (wc.heap[gb101]? = some (.cells #[.int .i64 a0_0, .string a0_1, .int .i64 a0_2, (.slice A0_3 l0_3.length c0_3)] 25 (0, 0))) ∧ Aside0 (Below w.heap.size w wc))
 case first =>
  have H := HC2.out
  clear HC2
  by_cases c4 : a0_0 = 1
  ·rw [if_pos c4] at H
   have c4b0 : (a0_0 == 1) = true := beq_iff_eq.mpr c4
   have c4b1 : (a0_0 != 1) = false := bne_eq_false_iff_eq.mpr c4
   clear c4
   (first | rw [c4b0] | (simp only [i64_w, i32_w]; rw [c4b0]) | skip)
   by_cases c5 : (a0_1.size : Int) < 1
   ·rw [if_pos c5] at H
    have c5b0 : decide ((a0_1.size : Int) < 1) = true := decide_eq_true c5
    have c5b1 : decide (a0_1.size < 1) = true := decide_eq_true (by omega)
    clear c5
    have H' := Aside0.mk H
    clear H
    have hcz6_0 : w3.cell? ⟨gb101, 0, none⟩ = some (.int .i64 a0_0) := (blk_cell BK101.out 0).trans rfl
    have hcz6_1 : w3.cell? ⟨gb101, 1, none⟩ = some (.string a0_1) := (blk_cell BK101.out 1).trans rfl
    have hcz6_2 : w3.cell? ⟨gb101, 2, none⟩ = some (.int .i64 a0_2) := (blk_cell BK101.out 2).trans rfl
    have hcz6_3 : w3.cell? ⟨gb101, 3, none⟩ = some (.slice A0_3 l0_3.length c0_3) := (blk_cell BK101.out 3).trans rfl
    have hfz6_0 := blk_frozen BK101.out 0
    have hfz6_1 := blk_frozen BK101.out 1
    have hfz6_2 := blk_frozen BK101.out 2
    have hfz6_3 := blk_frozen BK101.out 3
    go_wp2
    go_meet
    case rel => exact ⟨_, (true), (by first | rfl | (simp; done) | (simp [*]; done)), H', ⟨by first | omega | exact Nat.le_refl _⟩, ⟨by (with_reducible repeat (first | refine blk_drewN ?_ _ | refine blk_drew ?_ | refine blk_alloc ?_ _)); exact BK101.out⟩, ⟨by repeat (first | (with_reducible first | exact HB.out | apply below_alloc | apply pw_below_drewN | apply below_drew1 | refine below_set ?_ GE101.out) | exact HB.out)⟩⟩
   ·rw [if_neg c5] at H
    have c5b0 : decide ((a0_1.size : Int) < 1) = false := decide_eq_false c5
    have c5b1 : decide (a0_1.size < 1) = false := decide_eq_false (by omega)
    clear c5
    by_cases c7 : (a0_1.size : Int) > 64
    ·rw [if_pos c7] at H
     have c7b0 : decide (64 < (a0_1.size : Int)) = true := decide_eq_true c7
     have c7b1 : decide (64 < a0_1.size) = true := decide_eq_true (by omega)
     clear c7
     have H' := Aside0.mk H
     clear H
     have hcz8_0 : w3.cell? ⟨gb101, 0, none⟩ = some (.int .i64 a0_0) := (blk_cell BK101.out 0).trans rfl
     have hcz8_1 : w3.cell? ⟨gb101, 1, none⟩ = some (.string a0_1) := (blk_cell BK101.out 1).trans rfl
     have hcz8_2 : w3.cell? ⟨gb101, 2, none⟩ = some (.int .i64 a0_2) := (blk_cell BK101.out 2).trans rfl
     have hcz8_3 : w3.cell? ⟨gb101, 3, none⟩ = some (.slice A0_3 l0_3.length c0_3) := (blk_cell BK101.out 3).trans rfl
     have hfz8_0 := blk_frozen BK101.out 0
     have hfz8_1 := blk_frozen BK101.out 1
     have hfz8_2 := blk_frozen BK101.out 2
     have hfz8_3 := blk_frozen BK101.out 3
     go_wp2
     go_meet
     case rel => exact ⟨_, (true), (by first | rfl | (simp; done) | (simp [*]; done)), H', ⟨by first | omega | exact Nat.le_refl _⟩, ⟨by (with_reducible repeat (first | refine blk_drewN ?_ _ | refine blk_drew ?_ | refine blk_alloc ?_ _)); exact BK101.out⟩, ⟨by repeat (first | (with_reducible first | exact HB.out | apply below_alloc | apply pw_below_drewN | apply below_drew1 | refine below_set ?_ GE101.out) | exact HB.out)⟩⟩
    ·rw [if_neg c7] at H
     have c7b0 : decide (64 < (a0_1.size : Int)) = false := decide_eq_false c7
     have c7b1 : decide (64 < a0_1.size) = false := decide_eq_false (by omega)
     clear c7
     by_cases c9 : a0_2 < 0
     ·rw [if_pos c9] at H
      have c9b0 : decide (a0_2 < 0) = true := decide_eq_true c9
      clear c9
      have H' := Aside0.mk H
      clear H
      have hcz10_0 : w3.cell? ⟨gb101, 0, none⟩ = some (.int .i64 a0_0) := (blk_cell BK101.out 0).trans rfl
      have hcz10_1 : w3.cell? ⟨gb101, 1, none⟩ = some (.string a0_1) := (blk_cell BK101.out 1).trans rfl
      have hcz10_2 : w3.cell? ⟨gb101, 2, none⟩ = some (.int .i64 a0_2) := (blk_cell BK101.out 2).trans rfl
      have hcz10_3 : w3.cell? ⟨gb101, 3, none⟩ = some (.slice A0_3 l0_3.length c0_3) := (blk_cell BK101.out 3).trans rfl
      have hfz10_0 := blk_frozen BK101.out 0
      have hfz10_1 := blk_frozen BK101.out 1
      have hfz10_2 := blk_frozen BK101.out 2
      have hfz10_3 := blk_frozen BK101.out 3
      go_wp2
      go_meet
      case rel => exact ⟨_, (true), (by first | rfl | (simp; done) | (simp [*]; done)), H', ⟨by first | omega | exact Nat.le_refl _⟩, ⟨by (with_reducible repeat (first | refine blk_drewN ?_ _ | refine blk_drew ?_ | refine blk_alloc ?_ _)); exact BK101.out⟩, ⟨by repeat (first | (with_reducible first | exact HB.out | apply below_alloc | apply pw_below_drewN | apply below_drew1 | refine below_set ?_ GE101.out) | exact HB.out)⟩⟩
     ·rw [if_neg c9] at H
      have c9b0 : decide (a0_2 < 0) = false := decide_eq_false c9
      clear c9
      by_cases c11 : a0_2 > 2147483647
      ·rw [if_pos c11] at H
       have c11b0 : decide (2147483647 < a0_2) = true := decide_eq_true c11
       clear c11
       have H' := Aside0.mk H
       clear H
       have hcz12_0 : w3.cell? ⟨gb101, 0, none⟩ = some (.int .i64 a0_0) := (blk_cell BK101.out 0).trans rfl
       have hcz12_1 : w3.cell? ⟨gb101, 1, none⟩ = some (.string a0_1) := (blk_cell BK101.out 1).trans rfl
       have hcz12_2 : w3.cell? ⟨gb101, 2, none⟩ = some (.int .i64 a0_2) := (blk_cell BK101.out 2).trans rfl
       have hcz12_3 : w3.cell? ⟨gb101, 3, none⟩ = some (.slice A0_3 l0_3.length c0_3) := (blk_cell BK101.out 3).trans rfl
       have hfz12_0 := blk_frozen BK101.out 0
       have hfz12_1 := blk_frozen BK101.out 1
       have hfz12_2 := blk_frozen BK101.out 2
       have hfz12_3 := blk_frozen BK101.out 3
       go_wp2
       go_meet
       case rel => exact ⟨_, (true), (by first | rfl | (simp; done) | (simp [*]; done)), H', ⟨by first | omega | exact Nat.le_refl _⟩, ⟨by (with_reducible repeat (first | refine blk_drewN ?_ _ | refine blk_drew ?_ | refine blk_alloc ?_ _)); exact BK101.out⟩, ⟨by repeat (first | (with_reducible first | exact HB.out | apply below_alloc | apply pw_below_drewN | apply below_drew1 | refine below_set ?_ GE101.out) | exact HB.out)⟩⟩
      ·rw [if_neg c11] at H
       have c11b0 : decide (2147483647 < a0_2) = false := decide_eq_false c11
       clear c11
       have H' := Aside0.mk H
       clear H
       have hcz13_0 : w3.cell? ⟨gb101, 0, none⟩ = some (.int .i64 a0_0) := (blk_cell BK101.out 0).trans rfl
       have hcz13_1 : w3.cell? ⟨gb101, 1, none⟩ = some (.string a0_1) := (blk_cell BK101.out 1).trans rfl
       have hcz13_2 : w3.cell? ⟨gb101, 2, none⟩ = some (.int .i64 a0_2) := (blk_cell BK101.out 2).trans rfl
       have hcz13_3 : w3.cell? ⟨gb101, 3, none⟩ = some (.slice A0_3 l0_3.length c0_3) := (blk_cell BK101.out 3).trans rfl
       have hfz13_0 := blk_frozen BK101.out 0
       have hfz13_1 := blk_frozen BK101.out 1
       have hfz13_2 := blk_frozen BK101.out 2
       have hfz13_3 := blk_frozen BK101.out 3
       go_wp2
       go_meet
       case rel => exact ⟨_, (decide ((l0_3.length : Int) > 256)), (by first | rfl | (simp; done) | (simp [*]; done)), H', ⟨by first | omega | exact Nat.le_refl _⟩, ⟨by (with_reducible repeat (first | refine blk_drewN ?_ _ | refine blk_drew ?_ | refine blk_alloc ?_ _)); exact BK101.out⟩, ⟨by repeat (first | (with_reducible first | exact HB.out | apply below_alloc | apply pw_below_drewN | apply below_drew1 | refine below_set ?_ GE101.out) | exact HB.out)⟩⟩
  ·rw [if_neg c4] at H
   have c4b0 : (a0_0 == 1) = false := beq_eq_false_iff_ne.mpr c4
   have c4b1 : (a0_0 != 1) = true := bne_iff_ne.mpr c4
   (first | rw [c4b0] | (simp only [i64_w, i32_w]; rw [c4b0]) | skip)
   by_cases c14 : a0_0 = 2
   ·rw [if_pos c14] at H
    have c14b0 : (a0_0 == 2) = true := beq_iff_eq.mpr c14
    have c14b1 : (a0_0 != 2) = false := bne_eq_false_iff_eq.mpr c14
    clear c14
    by_cases c15 : (a0_1.size : Int) < 1
    ·rw [if_pos c15] at H
     have c15b0 : decide ((a0_1.size : Int) < 1) = true := decide_eq_true c15
     have c15b1 : decide (a0_1.size < 1) = true := decide_eq_true (by omega)
     clear c15
     have H' := Aside0.mk H
     clear H
     have hcz16_0 : w3.cell? ⟨gb101, 0, none⟩ = some (.int .i64 a0_0) := (blk_cell BK101.out 0).trans rfl
     have hcz16_1 : w3.cell? ⟨gb101, 1, none⟩ = some (.string a0_1) := (blk_cell BK101.out 1).trans rfl
     have hcz16_2 : w3.cell? ⟨gb101, 2, none⟩ = some (.int .i64 a0_2) := (blk_cell BK101.out 2).trans rfl
     have hcz16_3 : w3.cell? ⟨gb101, 3, none⟩ = some (.slice A0_3 l0_3.length c0_3) := (blk_cell BK101.out 3).trans rfl
     have hfz16_0 := blk_frozen BK101.out 0
     have hfz16_1 := blk_frozen BK101.out 1
     have hfz16_2 := blk_frozen BK101.out 2
     have hfz16_3 := blk_frozen BK101.out 3
     go_wp2
     go_meet
     case rel => exact ⟨_, (true), (by first | rfl | (simp; done) | (simp [*]; done)), H', ⟨by first | omega | exact Nat.le_refl _⟩, ⟨by (with_reducible repeat (first | refine blk_drewN ?_ _ | refine blk_drew ?_ | refine blk_alloc ?_ _)); exact BK101.out⟩, ⟨by repeat (first | (with_reducible first | exact HB.out | apply below_alloc | apply pw_below_drewN | apply below_drew1 | refine below_set ?_ GE101.out) | exact HB.out)⟩⟩
    ·rw [if_neg c15] at H
     have c15b0 : decide ((a0_1.size : Int) < 1) = false := decide_eq_false c15
     have c15b1 : decide (a0_1.size < 1) = false := decide_eq_false (by omega)
     clear c15
     by_cases c17 : (a0_1.size : Int) > 64
     ·rw [if_pos c17] at H
      have c17b0 : decide (64 < (a0_1.size : Int)) = true := decide_eq_true c17
      have c17b1 : decide (64 < a0_1.size) = true := decide_eq_true (by omega)
      clear c17
      have H' := Aside0.mk H
      clear H
      have hcz18_0 : w3.cell? ⟨gb101, 0, none⟩ = some (.int .i64 a0_0) := (blk_cell BK101.out 0).trans rfl
      have hcz18_1 : w3.cell? ⟨gb101, 1, none⟩ = some (.string a0_1) := (blk_cell BK101.out 1).trans rfl
      have hcz18_2 : w3.cell? ⟨gb101, 2, none⟩ = some (.int .i64 a0_2) := (blk_cell BK101.out 2).trans rfl
      have hcz18_3 : w3.cell? ⟨gb101, 3, none⟩ = some (.slice A0_3 l0_3.length c0_3) := (blk_cell BK101.out 3).trans rfl
      have hfz18_0 := blk_frozen BK101.out 0
      have hfz18_1 := blk_frozen BK101.out 1
      have hfz18_2 := blk_frozen BK101.out 2
      have hfz18_3 := blk_frozen BK101.out 3
      go_wp2
      go_meet
      case rel => exact ⟨_, (true), (by first | rfl | (simp; done) | (simp [*]; done)), H', ⟨by first | omega | exact Nat.le_refl _⟩, ⟨by (with_reducible repeat (first | refine blk_drewN ?_ _ | refine blk_drew ?_ | refine blk_alloc ?_ _)); exact BK101.out⟩, ⟨by repeat (first | (with_reducible first | exact HB.out | apply below_alloc | apply pw_below_drewN | apply below_drew1 | refine below_set ?_ GE101.out) | exact HB.out)⟩⟩
     ·rw [if_neg c17] at H
      have c17b0 : decide (64 < (a0_1.size : Int)) = false := decide_eq_false c17
      have c17b1 : decide (64 < a0_1.size) = false := decide_eq_false (by omega)
      clear c17
      by_cases c19 : a0_2 < 0
      ·rw [if_pos c19] at H
       have c19b0 : decide (a0_2 < 0) = true := decide_eq_true c19
       clear c19
       have H' := Aside0.mk H
       clear H
       have hcz20_0 : w3.cell? ⟨gb101, 0, none⟩ = some (.int .i64 a0_0) := (blk_cell BK101.out 0).trans rfl
       have hcz20_1 : w3.cell? ⟨gb101, 1, none⟩ = some (.string a0_1) := (blk_cell BK101.out 1).trans rfl
       have hcz20_2 : w3.cell? ⟨gb101, 2, none⟩ = some (.int .i64 a0_2) := (blk_cell BK101.out 2).trans rfl
       have hcz20_3 : w3.cell? ⟨gb101, 3, none⟩ = some (.slice A0_3 l0_3.length c0_3) := (blk_cell BK101.out 3).trans rfl
       have hfz20_0 := blk_frozen BK101.out 0
       have hfz20_1 := blk_frozen BK101.out 1
       have hfz20_2 := blk_frozen BK101.out 2
       have hfz20_3 := blk_frozen BK101.out 3
       go_wp2
       go_meet
       case rel => exact ⟨_, (true), (by first | rfl | (simp; done) | (simp [*]; done)), H', ⟨by first | omega | exact Nat.le_refl _⟩, ⟨by (with_reducible repeat (first | refine blk_drewN ?_ _ | refine blk_drew ?_ | refine blk_alloc ?_ _)); exact BK101.out⟩, ⟨by repeat (first | (with_reducible first | exact HB.out | apply below_alloc | apply pw_below_drewN | apply below_drew1 | refine below_set ?_ GE101.out) | exact HB.out)⟩⟩
      ·rw [if_neg c19] at H
       have c19b0 : decide (a0_2 < 0) = false := decide_eq_false c19
       clear c19
       by_cases c21 : a0_2 > 2147483647
       ·rw [if_pos c21] at H
        have c21b0 : decide (2147483647 < a0_2) = true := decide_eq_true c21
        clear c21
        have H' := Aside0.mk H
        clear H
        have hcz22_0 : w3.cell? ⟨gb101, 0, none⟩ = some (.int .i64 a0_0) := (blk_cell BK101.out 0).trans rfl
        have hcz22_1 : w3.cell? ⟨gb101, 1, none⟩ = some (.string a0_1) := (blk_cell BK101.out 1).trans rfl
        have hcz22_2 : w3.cell? ⟨gb101, 2, none⟩ = some (.int .i64 a0_2) := (blk_cell BK101.out 2).trans rfl
        have hcz22_3 : w3.cell? ⟨gb101, 3, none⟩ = some (.slice A0_3 l0_3.length c0_3) := (blk_cell BK101.out 3).trans rfl
        have hfz22_0 := blk_frozen BK101.out 0
        have hfz22_1 := blk_frozen BK101.out 1
        have hfz22_2 := blk_frozen BK101.out 2
        have hfz22_3 := blk_frozen BK101.out 3
        go_wp2
        go_meet
        case rel => exact ⟨_, (true), (by first | rfl | (simp; done) | (simp [*]; done)), H', ⟨by first | omega | exact Nat.le_refl _⟩, ⟨by (with_reducible repeat (first | refine blk_drewN ?_ _ | refine blk_drew ?_ | refine blk_alloc ?_ _)); exact BK101.out⟩, ⟨by repeat (first | (with_reducible first | exact HB.out | apply below_alloc | apply pw_below_drewN | apply below_drew1 | refine below_set ?_ GE101.out) | exact HB.out)⟩⟩
       ·rw [if_neg c21] at H
        have c21b0 : decide (2147483647 < a0_2) = false := decide_eq_false c21
        clear c21
        have H' := Aside0.mk H
        clear H
        have hcz23_0 : w3.cell? ⟨gb101, 0, none⟩ = some (.int .i64 a0_0) := (blk_cell BK101.out 0).trans rfl
        have hcz23_1 : w3.cell? ⟨gb101, 1, none⟩ = some (.string a0_1) := (blk_cell BK101.out 1).trans rfl
        have hcz23_2 : w3.cell? ⟨gb101, 2, none⟩ = some (.int .i64 a0_2) := (blk_cell BK101.out 2).trans rfl
        have hcz23_3 : w3.cell? ⟨gb101, 3, none⟩ = some (.slice A0_3 l0_3.length c0_3) := (blk_cell BK101.out 3).trans rfl
        have hfz23_0 := blk_frozen BK101.out 0
        have hfz23_1 := blk_frozen BK101.out 1
        have hfz23_2 := blk_frozen BK101.out 2
        have hfz23_3 := blk_frozen BK101.out 3
        go_wp2
        go_meet
        case rel => exact ⟨_, (decide ((l0_3.length : Int) > 256)), (by first | rfl | (simp; done) | (simp [*]; done)), H', ⟨by first | omega | exact Nat.le_refl _⟩, ⟨by (with_reducible repeat (first | refine blk_drewN ?_ _ | refine blk_drew ?_ | refine blk_alloc ?_ _)); exact BK101.out⟩, ⟨by repeat (first | (with_reducible first | exact HB.out | apply below_alloc | apply pw_below_drewN | apply below_drew1 | refine below_set ?_ GE101.out) | exact HB.out)⟩⟩
   ·rw [if_neg c14] at H
    have c14b0 : (a0_0 == 2) = false := beq_eq_false_iff_ne.mpr c14
    have c14b1 : (a0_0 != 2) = true := bne_iff_ne.mpr c14
    have H' := Aside0.mk H
    clear H
    have hcz24_0 : w3.cell? ⟨gb101, 0, none⟩ = some (.int .i64 a0_0) := (blk_cell BK101.out 0).trans rfl
    have hcz24_1 : w3.cell? ⟨gb101, 1, none⟩ = some (.string a0_1) := (blk_cell BK101.out 1).trans rfl
    have hcz24_2 : w3.cell? ⟨gb101, 2, none⟩ = some (.int .i64 a0_2) := (blk_cell BK101.out 2).trans rfl
    have hcz24_3 : w3.cell? ⟨gb101, 3, none⟩ = some (.slice A0_3 l0_3.length c0_3) := (blk_cell BK101.out 3).trans rfl
    have hfz24_0 := blk_frozen BK101.out 0
    have hfz24_1 := blk_frozen BK101.out 1
    have hfz24_2 := blk_frozen BK101.out 2
    have hfz24_3 := blk_frozen BK101.out 3
    go_wp2
    go_meet
    case rel => exact ⟨_, (true), (by first | rfl | (simp; done) | (simp [*]; done)), H', ⟨by first | omega | exact Nat.le_refl _⟩, ⟨by (with_reducible repeat (first | refine blk_drewN ?_ _ | refine blk_drew ?_ | refine blk_alloc ?_ _)); exact BK101.out⟩, ⟨by repeat (first | (with_reducible first | exact HB.out | apply below_alloc | apply pw_below_drewN | apply below_drew1 | refine below_set ?_ GE101.out) | exact HB.out)⟩⟩
 case rest =>
  clear HC2
  try clear c1
  try clear c2
  try clear p2
  try clear c4
  try clear c4b0
  try clear c4b1
  try clear c5
  try clear c5b0
  try clear c5b1
  try clear c7
  try clear c7b0
  try clear c7b1
  try clear c9
  try clear c9b0
  try clear c11
  try clear c11b0
  try clear c14
  try clear c14b0
  try clear c14b1
  try clear c15
  try clear c15b0
  try clear c15b1
  try clear c17
  try clear c17b0
  try clear c17b1
  try clear c19
  try clear c19b0
  try clear c21
  try clear c21b0
  try clear hcz10_0
  try clear hcz10_1
  try clear hcz10_2
  try clear hcz10_3
  try clear hcz12_0
  try clear hcz12_1
  try clear hcz12_2
  try clear hcz12_3
  try clear hcz13_0
  try clear hcz13_1
  try clear hcz13_2
  try clear hcz13_3
  try clear hcz16_0
  try clear hcz16_1
  try clear hcz16_2
  try clear hcz16_3
  try clear hcz18_0
  try clear hcz18_1
  try clear hcz18_2
  try clear hcz18_3
  try clear hcz20_0
  try clear hcz20_1
  try clear hcz20_2
  try clear hcz20_3
  try clear hcz22_0
  try clear hcz22_1
  try clear hcz22_2
  try clear hcz22_3
  try clear hcz23_0
  try clear hcz23_1
  try clear hcz23_2
  try clear hcz23_3
  try clear hcz24_0
  try clear hcz24_1
  try clear hcz24_2
  try clear hcz24_3
  try clear hcz6_0
  try clear hcz6_1
  try clear hcz6_2
  try clear hcz6_3
  try clear hcz8_0
  try clear hcz8_1
  try clear hcz8_2
  try clear hcz8_3
  try clear hfz10_0
  try clear hfz10_1
  try clear hfz10_2
  try clear hfz10_3
  try clear hfz12_0
  try clear hfz12_1
  try clear hfz12_2
  try clear hfz12_3
  try clear hfz13_0
  try clear hfz13_1
  try clear hfz13_2
  try clear hfz13_3
  try clear hfz16_0
  try clear hfz16_1
  try clear hfz16_2
  try clear hfz16_3
  try clear hfz18_0
  try clear hfz18_1
  try clear hfz18_2
  try clear hfz18_3
  try clear hfz20_0
  try clear hfz20_1
  try clear hfz20_2
  try clear hfz20_3
  try clear hfz22_0
  try clear hfz22_1
  try clear hfz22_2
  try clear hfz22_3
  try clear hfz23_0
  try clear hfz23_1
  try clear hfz23_2
  try clear hfz23_3
  try clear hfz24_0
  try clear hfz24_1
  try clear hfz24_2
  try clear hfz24_3
  try clear hfz6_0
  try clear hfz6_1
  try clear hfz6_2
  try clear hfz6_3
  try clear hfz8_0
  try clear hfz8_1
  try clear hfz8_2
  try clear hfz8_3
  obtain ⟨kq, x3_1, rfl, HA, HJ1, BK101, HB⟩ := hcut
  cases kq with
  | zero => exact absurd HA.out (by simp [record_Check.j0])
  | succ kj1 =>
   have H := HA.out
   clear HA
   simp only [record_Check.j0] at H
   have H' := Aside0.mk H
   clear H
   have hcz25_0 : wc.cell? ⟨gb101, 0, none⟩ = some (.int .i64 a0_0) := (blk_cell BK101.out 0).trans rfl
   have hcz25_1 : wc.cell? ⟨gb101, 1, none⟩ = some (.string a0_1) := (blk_cell BK101.out 1).trans rfl
   have hcz25_2 : wc.cell? ⟨gb101, 2, none⟩ = some (.int .i64 a0_2) := (blk_cell BK101.out 2).trans rfl
   have hcz25_3 : wc.cell? ⟨gb101, 3, none⟩ = some (.slice A0_3 l0_3.length c0_3) := (blk_cell BK101.out 3).trans rfl
   have hfz25_0 := blk_frozen BK101.out 0
   have hfz25_1 := blk_frozen BK101.out 1
   have hfz25_2 := blk_frozen BK101.out 2
   have hfz25_3 := blk_frozen BK101.out 3
   go_wp2
   go_loopg [3, 45] kj1 (fun kq v3 v45 w' => ∃ (x3_2 : Bool) (x45_2 : Int), v3 = .bool x3_2 ∧ v45 = .int .i64 x45_2 ∧ Aside0 (record_Check.l0 kq x3_2 l0_3 (l0_3.length : Int) x45_2 a0_0 a0_1 a0_2 l0_3 = some r) ∧ Aside0 (kq ≤ kj1) ∧ Aside0 (w'.heap[gb101]? = some (.cells #[.int .i64 a0_0, .string a0_1, .int .i64 a0_2, (.slice A0_3 l0_3.length c0_3)] 25 (0, 0))) ∧ Aside0 (Below w.heap.size w w'))
   case atStart => exact ⟨(x3_1), (0), (by first | rfl | (simp; done) | (simp [*]; done)), (by first | rfl | (simp; done) | (simp [*]; done)), H', ⟨Nat.le_refl _⟩, ⟨by (with_reducible repeat (first | refine blk_drewN ?_ _ | refine blk_drew ?_ | refine blk_alloc ?_ _)); exact BK101.out⟩, ⟨by repeat (first | (with_reducible first | exact HB.out | apply below_alloc | apply pw_below_drewN | apply below_drew1 | refine below_set ?_ GE101.out) | exact HB.out)⟩⟩
   case round =>
    clear H'
    try clear c1
    try clear c2
    try clear p2
    try clear c4
    try clear c4b0
    try clear c4b1
    try clear c5
    try clear c5b0
    try clear c5b1
    try clear c7
    try clear c7b0
    try clear c7b1
    try clear c9
    try clear c9b0
    try clear c11
    try clear c11b0
    try clear c14
    try clear c14b0
    try clear c14b1
    try clear c15
    try clear c15b0
    try clear c15b1
    try clear c17
    try clear c17b0
    try clear c17b1
    try clear c19
    try clear c19b0
    try clear c21
    try clear c21b0
    try clear hcz10_0
    try clear hcz10_1
    try clear hcz10_2
    try clear hcz10_3
    try clear hcz12_0
    try clear hcz12_1
    try clear hcz12_2
    try clear hcz12_3
    try clear hcz13_0
    try clear hcz13_1
    try clear hcz13_2
    try clear hcz13_3
    try clear hcz16_0
    try clear hcz16_1
    try clear hcz16_2
    try clear hcz16_3
    try clear hcz18_0
    try clear hcz18_1
    try clear hcz18_2
    try clear hcz18_3
    try clear hcz20_0
    try clear hcz20_1
    try clear hcz20_2
    try clear hcz20_3
    try clear hcz22_0
    try clear hcz22_1
    try clear hcz22_2
    try clear hcz22_3
    try clear hcz23_0
    try clear hcz23_1
    try clear hcz23_2
    try clear hcz23_3
    try clear hcz24_0
    try clear hcz24_1
    try clear hcz24_2
    try clear hcz24_3
    try clear hcz25_0
    try clear hcz25_1
    try clear hcz25_2
    try clear hcz25_3
    try clear hcz6_0
    try clear hcz6_1
    try clear hcz6_2
    try clear hcz6_3
    try clear hcz8_0
    try clear hcz8_1
    try clear hcz8_2
    try clear hcz8_3
    try clear hfz10_0
    try clear hfz10_1
    try clear hfz10_2
    try clear hfz10_3
    try clear hfz12_0
    try clear hfz12_1
    try clear hfz12_2
    try clear hfz12_3
    try clear hfz13_0
    try clear hfz13_1
    try clear hfz13_2
    try clear hfz13_3
    try clear hfz16_0
    try clear hfz16_1
    try clear hfz16_2
    try clear hfz16_3
    try clear hfz18_0
    try clear hfz18_1
    try clear hfz18_2
    try clear hfz18_3
    try clear hfz20_0
    try clear hfz20_1
    try clear hfz20_2
    try clear hfz20_3
    try clear hfz22_0
    try clear hfz22_1
    try clear hfz22_2
    try clear hfz22_3
    try clear hfz23_0
    try clear hfz23_1
    try clear hfz23_2
    try clear hfz23_3
    try clear hfz24_0
    try clear hfz24_1
    try clear hfz24_2
    try clear hfz24_3
    try clear hfz25_0
    try clear hfz25_1
    try clear hfz25_2
    try clear hfz25_3
    try clear hfz6_0
    try clear hfz6_1
    try clear hfz6_2
    try clear hfz6_3
    try clear hfz8_0
    try clear hfz8_1
    try clear hfz8_2
    try clear hfz8_3
    try clear p2
    obtain ⟨x3_2, x45_2, rfl, rfl, HA, HK2, BK101, HB⟩ := hrel
    cases gk with
    | zero => exact absurd HA.out (by simp [record_Check.l0])
    | succ k2 =>
     have H := HA.out
     clear HA
     simp only [record_Check.l0] at H
     by_cases c26 : x45_2 < (l0_3.length : Int)
     ·rw [if_pos c26] at H
      have c26b0 : decide (x45_2 < (l0_3.length : Int)) = true := decide_eq_true c26
      clear c26
      by_cases c27 : 0 ≤ x45_2
      ·rw [if_pos c27] at H
       have c27b0 : decide (0 ≤ x45_2) = true := decide_eq_true c27
       clear c27
       by_cases c28 : x45_2 < (l0_3.length : Int)
       ·rw [if_pos c28] at H
        have c28b0 : decide (x45_2 < (l0_3.length : Int)) = true := decide_eq_true c28
        clear c28
        by_cases c29 : x3_2 = true
        ·subst c29
         have H1 : (record_Check.l0 k2 true l0_3 (l0_3.length : Int) (wrap64 (x45_2 + 1)) a0_0 a0_1 a0_2 l0_3) = some r := by rw [if_pos rfl] at H; exact H
         clear H
         have H := H1
         clear H1
         have H' := Aside0.mk H
         clear H
         have p102 : 0 ≤ (x45_2 : Int) := of_decide_eq_true (by first | (with_reducible assumption) | assumption)
         have q102 : x45_2 < (l0_3.length : Int) := of_decide_eq_true (by first | (with_reducible assumption) | assumption)
         obtain ⟨ad102, e102, hx102_0⟩ := Kd.at_int HR0_3.out x45_2 p102 q102
         cases e102
         replace hx102_0 := (HB.out.cell (World.block_lt_of_cell? w _ hx102_0)).trans hx102_0
         replace p102 := eq_true p102
         replace q102 := eq_true q102
         go_wp2
         go_roundg k2
         case measure => have := HJ1.out; have := HK2.out; omega
         case rel => exact ⟨(true), (wrap64 (x45_2 + 1)), (by first | rfl | (simp; done) | (simp [*]; done)), (by first | rfl | (simp; done) | (simp [*]; done)), H', ⟨by have := HJ1.out; have := HK2.out; omega⟩, ⟨by (with_reducible repeat (first | refine blk_drewN ?_ _ | refine blk_drew ?_ | refine blk_alloc ?_ _)); exact BK101.out⟩, ⟨by repeat (first | (with_reducible first | exact HB.out | apply below_alloc | apply pw_below_drewN | apply below_drew1 | refine below_set ?_ GE101.out) | exact HB.out)⟩⟩
        ·replace c29 := Bool.eq_false_iff.mpr c29
         subst c29
         have H1 : (if (rd l0_3 x45_2) < 0 then (record_Check.l0 k2 true l0_3 (l0_3.length : Int) (wrap64 (x45_2 + 1)) a0_0 a0_1 a0_2 l0_3) else (record_Check.l0 k2 (decide ((rd l0_3 x45_2) ≥ 256)) l0_3 (l0_3.length : Int) (wrap64 (x45_2 + 1)) a0_0 a0_1 a0_2 l0_3)) = some r := by rw [if_neg (show ¬ (false = true) by decide)] at H; exact H
         clear H
         have H := H1
         clear H1
         by_cases c30 : (rd l0_3 x45_2) < 0
         ·rw [if_pos c30] at H
          have c30b0 : decide ((rd l0_3 x45_2) < 0) = true := decide_eq_true c30
          clear c30
          have H' := Aside0.mk H
          clear H
          have p102 : 0 ≤ (x45_2 : Int) := of_decide_eq_true (by first | (with_reducible assumption) | assumption)
          have q102 : x45_2 < (l0_3.length : Int) := of_decide_eq_true (by first | (with_reducible assumption) | assumption)
          obtain ⟨ad102, e102, hx102_0⟩ := Kd.at_int HR0_3.out x45_2 p102 q102
          cases e102
          replace hx102_0 := (HB.out.cell (World.block_lt_of_cell? w _ hx102_0)).trans hx102_0
          replace p102 := eq_true p102
          replace q102 := eq_true q102
          go_wp2
          go_roundg k2
          case measure => have := HJ1.out; have := HK2.out; omega
          case rel => exact ⟨(true), (wrap64 (x45_2 + 1)), (by first | rfl | (simp; done) | (simp [*]; done)), (by first | rfl | (simp; done) | (simp [*]; done)), H', ⟨by have := HJ1.out; have := HK2.out; omega⟩, ⟨by (with_reducible repeat (first | refine blk_drewN ?_ _ | refine blk_drew ?_ | refine blk_alloc ?_ _)); exact BK101.out⟩, ⟨by repeat (first | (with_reducible first | exact HB.out | apply below_alloc | apply pw_below_drewN | apply below_drew1 | refine below_set ?_ GE101.out) | exact HB.out)⟩⟩
         ·rw [if_neg c30] at H
          have c30b0 : decide ((rd l0_3 x45_2) < 0) = false := decide_eq_false c30
          clear c30
          have H' := Aside0.mk H
          clear H
          have p102 : 0 ≤ (x45_2 : Int) := of_decide_eq_true (by first | (with_reducible assumption) | assumption)
          have q102 : x45_2 < (l0_3.length : Int) := of_decide_eq_true (by first | (with_reducible assumption) | assumption)
          obtain ⟨ad102, e102, hx102_0⟩ := Kd.at_int HR0_3.out x45_2 p102 q102
          cases e102
          replace hx102_0 := (HB.out.cell (World.block_lt_of_cell? w _ hx102_0)).trans hx102_0
          replace p102 := eq_true p102
          replace q102 := eq_true q102
          go_wp2
          go_roundg k2
          case measure => have := HJ1.out; have := HK2.out; omega
          case rel => exact ⟨(decide ((rd l0_3 x45_2) ≥ 256)), (wrap64 (x45_2 + 1)), (by first | rfl | (simp; done) | (simp [*]; done)), (by first | rfl | (simp; done) | (simp [*]; done)), H', ⟨by have := HJ1.out; have := HK2.out; omega⟩, ⟨by (with_reducible repeat (first | refine blk_drewN ?_ _ | refine blk_drew ?_ | refine blk_alloc ?_ _)); exact BK101.out⟩, ⟨by repeat (first | (with_reducible first | exact HB.out | apply below_alloc | apply pw_below_drewN | apply below_drew1 | refine below_set ?_ GE101.out) | exact HB.out)⟩⟩
       ·rw [if_neg c28] at H
        exact absurd H (by simp)
      ·rw [if_neg c27] at H
       exact absurd H (by simp)
     ·rw [if_neg c26] at H
      have c26b0 : decide (x45_2 < (l0_3.length : Int)) = false := decide_eq_false c26
      clear c26
      have HC31 := Aside0.mk H
      clear H
      go_upto_region 7 with (fail)
      go_cut [75] (fun v75 wc => ∃ (kq : Nat) (x75_30 : Bool), v75 = .bool x75_30 ∧ Aside0 (record_Check.j2 kq x75_30 = some r) ∧ Aside0 (kq ≤ k2) ∧ Aside0 (wc.heap[gb101]? = some (.cells #[.int .i64 a0_0, .string a0_1, .int .i64 a0_2, (.slice A0_3 l0_3.length c0_3)] 25 (0, 0))) ∧ Aside0 (Below w.heap.size w wc))
      case first =>
       have H := HC31.out
       clear HC31
       by_cases c32 : x3_2 = true
       ·subst c32
        have H1 : (record_Check.j2 k2 true) = some r := by rw [if_pos rfl] at H; exact H
        clear H
        have H := H1
        clear H1
        have H' := Aside0.mk H
        clear H
        go_wp2
        go_meet
        case rel => exact ⟨_, (true), (by first | rfl | (simp; done) | (simp [*]; done)), H', ⟨by have := HJ1.out; have := HK2.out; first | omega | exact Nat.le_refl _⟩, ⟨by (with_reducible repeat (first | refine blk_drewN ?_ _ | refine blk_drew ?_ | refine blk_alloc ?_ _)); exact BK101.out⟩, ⟨by repeat (first | (with_reducible first | exact HB.out | apply below_alloc | apply pw_below_drewN | apply below_drew1 | refine below_set ?_ GE101.out) | exact HB.out)⟩⟩
       ·replace c32 := Bool.eq_false_iff.mpr c32
        subst c32
        have H1 : (if a0_0 = 2 then (if a0_2 = 0 then (record_Check.j2 k2 (decide ((l0_3.length : Int) > 0))) else (record_Check.j2 k2 true)) else (record_Check.j2 k2 false)) = some r := by rw [if_neg (show ¬ (false = true) by decide)] at H; exact H
        clear H
        have H := H1
        clear H1
        by_cases c33 : a0_0 = 2
        ·rw [if_pos c33] at H
         have c33b0 : (a0_0 == 2) = true := beq_iff_eq.mpr c33
         have c33b1 : (a0_0 != 2) = false := bne_eq_false_iff_eq.mpr c33
         clear c33
         (first | rw [c33b0] | (simp only [i64_w, i32_w]; rw [c33b0]) | skip)
         by_cases c34 : a0_2 = 0
         ·rw [if_pos c34] at H
          have c34b0 : (a0_2 == 0) = true := beq_iff_eq.mpr c34
          have c34b1 : (a0_2 != 0) = false := bne_eq_false_iff_eq.mpr c34
          clear c34
          have H' := Aside0.mk H
          clear H
          have hcz35_0 : wr.cell? ⟨gb101, 0, none⟩ = some (.int .i64 a0_0) := (blk_cell BK101.out 0).trans rfl
          have hcz35_1 : wr.cell? ⟨gb101, 1, none⟩ = some (.string a0_1) := (blk_cell BK101.out 1).trans rfl
          have hcz35_2 : wr.cell? ⟨gb101, 2, none⟩ = some (.int .i64 a0_2) := (blk_cell BK101.out 2).trans rfl
          have hcz35_3 : wr.cell? ⟨gb101, 3, none⟩ = some (.slice A0_3 l0_3.length c0_3) := (blk_cell BK101.out 3).trans rfl
          have hfz35_0 := blk_frozen BK101.out 0
          have hfz35_1 := blk_frozen BK101.out 1
          have hfz35_2 := blk_frozen BK101.out 2
          have hfz35_3 := blk_frozen BK101.out 3
          go_wp2
          go_meet
          case rel => exact ⟨_, (decide ((l0_3.length : Int) > 0)), (by first | rfl | (simp; done) | (simp [*]; done)), H', ⟨by have := HJ1.out; have := HK2.out; first | omega | exact Nat.le_refl _⟩, ⟨by (with_reducible repeat (first | refine blk_drewN ?_ _ | refine blk_drew ?_ | refine blk_alloc ?_ _)); exact BK101.out⟩, ⟨by repeat (first | (with_reducible first | exact HB.out | apply below_alloc | apply pw_below_drewN | apply below_drew1 | refine below_set ?_ GE101.out) | exact HB.out)⟩⟩
         ·rw [if_neg c34] at H
          have c34b0 : (a0_2 == 0) = false := beq_eq_false_iff_ne.mpr c34
          have c34b1 : (a0_2 != 0) = true := bne_iff_ne.mpr c34
          have H' := Aside0.mk H
          clear H
          have hcz36_0 : wr.cell? ⟨gb101, 0, none⟩ = some (.int .i64 a0_0) := (blk_cell BK101.out 0).trans rfl
          have hcz36_1 : wr.cell? ⟨gb101, 1, none⟩ = some (.string a0_1) := (blk_cell BK101.out 1).trans rfl
          have hcz36_2 : wr.cell? ⟨gb101, 2, none⟩ = some (.int .i64 a0_2) := (blk_cell BK101.out 2).trans rfl
          have hcz36_3 : wr.cell? ⟨gb101, 3, none⟩ = some (.slice A0_3 l0_3.length c0_3) := (blk_cell BK101.out 3).trans rfl
          have hfz36_0 := blk_frozen BK101.out 0
          have hfz36_1 := blk_frozen BK101.out 1
          have hfz36_2 := blk_frozen BK101.out 2
          have hfz36_3 := blk_frozen BK101.out 3
          go_wp2
          go_meet
          case rel => exact ⟨_, (true), (by first | rfl | (simp; done) | (simp [*]; done)), H', ⟨by have := HJ1.out; have := HK2.out; first | omega | exact Nat.le_refl _⟩, ⟨by (with_reducible repeat (first | refine blk_drewN ?_ _ | refine blk_drew ?_ | refine blk_alloc ?_ _)); exact BK101.out⟩, ⟨by repeat (first | (with_reducible first | exact HB.out | apply below_alloc | apply pw_below_drewN | apply below_drew1 | refine below_set ?_ GE101.out) | exact HB.out)⟩⟩
        ·rw [if_neg c33] at H
         have c33b0 : (a0_0 == 2) = false := beq_eq_false_iff_ne.mpr c33
         have c33b1 : (a0_0 != 2) = true := bne_iff_ne.mpr c33
         (first | rw [c33b0] | (simp only [i64_w, i32_w]; rw [c33b0]) | skip)
         have H' := Aside0.mk H
         clear H
         have hcz37_0 : wr.cell? ⟨gb101, 0, none⟩ = some (.int .i64 a0_0) := (blk_cell BK101.out 0).trans rfl
         have hcz37_1 : wr.cell? ⟨gb101, 1, none⟩ = some (.string a0_1) := (blk_cell BK101.out 1).trans rfl
         have hcz37_2 : wr.cell? ⟨gb101, 2, none⟩ = some (.int .i64 a0_2) := (blk_cell BK101.out 2).trans rfl
         have hcz37_3 : wr.cell? ⟨gb101, 3, none⟩ = some (.slice A0_3 l0_3.length c0_3) := (blk_cell BK101.out 3).trans rfl
         have hfz37_0 := blk_frozen BK101.out 0
         have hfz37_1 := blk_frozen BK101.out 1
         have hfz37_2 := blk_frozen BK101.out 2
         have hfz37_3 := blk_frozen BK101.out 3
         go_wp2
         go_meet
         case rel => exact ⟨_, (false), (by first | rfl | (simp; done) | (simp [*]; done)), H', ⟨by have := HJ1.out; have := HK2.out; first | omega | exact Nat.le_refl _⟩, ⟨by (with_reducible repeat (first | refine blk_drewN ?_ _ | refine blk_drew ?_ | refine blk_alloc ?_ _)); exact BK101.out⟩, ⟨by repeat (first | (with_reducible first | exact HB.out | apply below_alloc | apply pw_below_drewN | apply below_drew1 | refine below_set ?_ GE101.out) | exact HB.out)⟩⟩
      case rest =>
       clear HC31
       try clear c1
       try clear p1
       try clear q1
       try clear hx1
       try clear c2
       try clear p2
       try clear c3
       try clear c4
       try clear c4b0
       try clear c4b1
       try clear c5
       try clear c5b0
       try clear c5b1
       try clear p6
       try clear c7
       try clear c7b0
       try clear c7b1
       try clear c9
       try clear c9b0
       try clear p10
       try clear q10
       try clear hx10
       try clear c11
       try clear c11b0
       try clear c14
       try clear c14b0
       try clear c14b1
       try clear c15
       try clear c15b0
       try clear c15b1
       try clear c17
       try clear c17b0
       try clear c17b1
       try clear c19
       try clear c19b0
       try clear c21
       try clear c21b0
       try clear c26
       try clear c26b0
       try clear c27
       try clear c27b0
       try clear c28
       try clear c28b0
       try clear c29
       try clear c30
       try clear c30b0
       try clear c32
       try clear c33
       try clear c33b0
       try clear c33b1
       try clear c34
       try clear c34b0
       try clear c34b1
       try clear hcz10_0
       try clear hcz10_1
       try clear hcz10_2
       try clear hcz10_3
       try clear hcz12_0
       try clear hcz12_1
       try clear hcz12_2
       try clear hcz12_3
       try clear hcz13_0
       try clear hcz13_1
       try clear hcz13_2
       try clear hcz13_3
       try clear hcz16_0
       try clear hcz16_1
       try clear hcz16_2
       try clear hcz16_3
       try clear hcz18_0
       try clear hcz18_1
       try clear hcz18_2
       try clear hcz18_3
       try clear hcz20_0
       try clear hcz20_1
       try clear hcz20_2
       try clear hcz20_3
       try clear hcz22_0
       try clear hcz22_1
       try clear hcz22_2
       try clear hcz22_3
       try clear hcz23_0
       try clear hcz23_1
       try clear hcz23_2
       try clear hcz23_3
       try clear hcz24_0
       try clear hcz24_1
       try clear hcz24_2
       try clear hcz24_3
       try clear hcz25_0
       try clear hcz25_1
       try clear hcz25_2
       try clear hcz25_3
       try clear hcz35_0
       try clear hcz35_1
       try clear hcz35_2
       try clear hcz35_3
       try clear hcz36_0
       try clear hcz36_1
       try clear hcz36_2
       try clear hcz36_3
       try clear hcz37_0
       try clear hcz37_1
       try clear hcz37_2
       try clear hcz37_3
       try clear hcz6_0
       try clear hcz6_1
       try clear hcz6_2
       try clear hcz6_3
       try clear hcz8_0
       try clear hcz8_1
       try clear hcz8_2
       try clear hcz8_3
       try clear hfz10_0
       try clear hfz10_1
       try clear hfz10_2
       try clear hfz10_3
       try clear hfz12_0
       try clear hfz12_1
       try clear hfz12_2
       try clear hfz12_3
       try clear hfz13_0
       try clear hfz13_1
       try clear hfz13_2
       try clear hfz13_3
       try clear hfz16_0
       try clear hfz16_1
       try clear hfz16_2
       try clear hfz16_3
       try clear hfz18_0
       try clear hfz18_1
       try clear hfz18_2
       try clear hfz18_3
       try clear hfz20_0
       try clear hfz20_1
       try clear hfz20_2
       try clear hfz20_3
       try clear hfz22_0
       try clear hfz22_1
       try clear hfz22_2
       try clear hfz22_3
       try clear hfz23_0
       try clear hfz23_1
       try clear hfz23_2
       try clear hfz23_3
       try clear hfz24_0
       try clear hfz24_1
       try clear hfz24_2
       try clear hfz24_3
       try clear hfz25_0
       try clear hfz25_1
       try clear hfz25_2
       try clear hfz25_3
       try clear hfz35_0
       try clear hfz35_1
       try clear hfz35_2
       try clear hfz35_3
       try clear hfz36_0
       try clear hfz36_1
       try clear hfz36_2
       try clear hfz36_3
       try clear hfz37_0
       try clear hfz37_1
       try clear hfz37_2
       try clear hfz37_3
       try clear hfz6_0
       try clear hfz6_1
       try clear hfz6_2
       try clear hfz6_3
       try clear hfz8_0
       try clear hfz8_1
       try clear hfz8_2
       try clear hfz8_3
       try clear hx102_0
       try clear p102
       try clear p2
       try clear q102
       obtain ⟨kq, x75_30, rfl, HA, HJ30, BK101, HB⟩ := hcut
       cases kq with
       | zero => exact absurd HA.out (by simp [record_Check.j2])
       | succ kj30 =>
        have H := HA.out
        clear HA
        simp only [record_Check.j2] at H
        by_cases c38 : x75_30 = true
        ·subst c38
         have H1 : (some 1) = some r := by rw [if_pos rfl] at H; exact H
         clear H
         have H := H1
         clear H1
         obtain rfl := Option.some.inj H
         go_wp2
         go_ret
         exact ⟨by first | rfl | (simp [errW_none, errW_some] <;> rfl) | (simp [*, errW_none, errW_some] <;> rfl), by repeat (first | (with_reducible first | exact HB.out | apply below_alloc | apply pw_below_drewN | apply below_drew1 | refine below_set ?_ GE101.out) | exact HB.out)⟩
        ·replace c38 := Bool.eq_false_iff.mpr c38
         subst c38
         have H1 : (some 0) = some r := by rw [if_neg (show ¬ (false = true) by decide)] at H; exact H
         clear H
         have H := H1
         clear H1
         obtain rfl := Option.some.inj H
         go_wp2
         go_ret
         exact ⟨by first | rfl | (simp [errW_none, errW_some] <;> rfl) | (simp [*, errW_none, errW_some] <;> rfl), by repeat (first | (with_reducible first | exact HB.out | apply below_alloc | apply pw_below_drewN | apply below_drew1 | refine below_set ?_ GE101.out) | exact HB.out)⟩

end Go.Proofs.Ytoeegdpkmdgkdaa.PAll
