-- LAID BY A PROGRAM OF THIS SESSION (wip/tools: the kit's print with changes of our own)
import Derived.Test.YtoeegdpkmdgkdaaPAllx0
namespace Go.Proofs.Ytoeegdpkmdgkdaa.PAll
open Go.RowKit Go.Proofs.YtoeegdpkmdgkdaaW.PrintWords Go.Proofs.YtoeegdpkmdgkdaaW.PrintLast Go.Proofs.YtoeegdpkmdgkdaaW.PrintMore
attribute [local go_sem] min2_int min_two   -- for this text's walks alone
set_option linter.unusedVariables false
set_option linter.unusedSimpArgs false

/-! ### aumbryref16_Check: function 18 -/
mutual
def aumbryref16_Check.j0 : Nat → Bool → Int → ByteArray → Int → List Int → Option (Int)
 | 0, _, _, _, _, _ => none
 | k + 1, x39, x183000, x183001, x183002, x183003 => if x39 = true then (some 1) else (aumbryref16_Check.l0 k 0 x183000 x183001 x183002 x183003)
def aumbryref16_Check.l0 : Nat → Int → Int → ByteArray → Int → List Int → Option (Int)
 | 0, _, _, _, _, _ => none
 | k + 1, x3, x183000, x183001, x183002, x183003 => if x3 < (x183003.length : Int) then (if 0 ≤ x3 then (if (rd x183003 x3) < 0 then (aumbryref16_Check.j2 k x3 true x183000 x183001 x183002 x183003) else (aumbryref16_Check.j2 k x3 (decide ((rd x183003 x3) ≥ 256)) x183000 x183001 x183002 x183003)) else (none)) else (if x183000 = 2 then (if x183002 = 0 then (aumbryref16_Check.j3 k (decide ((x183003.length : Int) > 0))) else (aumbryref16_Check.j3 k true)) else (aumbryref16_Check.j3 k false))
def aumbryref16_Check.j2 : Nat → Int → Bool → Int → ByteArray → Int → List Int → Option (Int)
 | 0, _, _, _, _, _, _ => none
 | k + 1, x3, x60, x183000, x183001, x183002, x183003 => if x60 = true then (some 1) else (aumbryref16_Check.l0 k (wrap64 (x3 + 1)) x183000 x183001 x183002 x183003)
def aumbryref16_Check.j3 : Nat → Bool → Option (Int)
 | 0, _ => none
 | k + 1, x74 => if x74 = true then (some 1) else (some 0)
end
def aumbryref16_Check.f (k : Nat) (a0_0 : Int) (a0_1 : ByteArray) (a0_2 : Int) (l0_3 : List Int) : Option (Int) := if a0_0 = 1 then (if (a0_1.size : Int) < 1 then (aumbryref16_Check.j0 k true a0_0 a0_1 a0_2 l0_3) else (if (a0_1.size : Int) > 64 then (aumbryref16_Check.j0 k true a0_0 a0_1 a0_2 l0_3) else (if a0_2 < 0 then (aumbryref16_Check.j0 k true a0_0 a0_1 a0_2 l0_3) else (if a0_2 > 2147483647 then (aumbryref16_Check.j0 k true a0_0 a0_1 a0_2 l0_3) else (aumbryref16_Check.j0 k (decide ((l0_3.length : Int) > 256)) a0_0 a0_1 a0_2 l0_3))))) else (if a0_0 = 2 then (if (a0_1.size : Int) < 1 then (aumbryref16_Check.j0 k true a0_0 a0_1 a0_2 l0_3) else (if (a0_1.size : Int) > 64 then (aumbryref16_Check.j0 k true a0_0 a0_1 a0_2 l0_3) else (if a0_2 < 0 then (aumbryref16_Check.j0 k true a0_0 a0_1 a0_2 l0_3) else (if a0_2 > 2147483647 then (aumbryref16_Check.j0 k true a0_0 a0_1 a0_2 l0_3) else (aumbryref16_Check.j0 k (decide ((l0_3.length : Int) > 256)) a0_0 a0_1 a0_2 l0_3))))) else (aumbryref16_Check.j0 k true a0_0 a0_1 a0_2 l0_3))
theorem aumbryref16_Check.mono_l : ∀ k, (∀ y0 y1 y2 y3 y4, LeO (aumbryref16_Check.j0 k y0 y1 y2 y3 y4) (aumbryref16_Check.j0 (k + 1) y0 y1 y2 y3 y4)) ∧ (∀ y0 y1 y2 y3 y4, LeO (aumbryref16_Check.l0 k y0 y1 y2 y3 y4) (aumbryref16_Check.l0 (k + 1) y0 y1 y2 y3 y4)) ∧ (∀ y0 y1 y2 y3 y4 y5, LeO (aumbryref16_Check.j2 k y0 y1 y2 y3 y4 y5) (aumbryref16_Check.j2 (k + 1) y0 y1 y2 y3 y4 y5)) ∧ (∀ y0, LeO (aumbryref16_Check.j3 k y0) (aumbryref16_Check.j3 (k + 1) y0))
 | 0 => ⟨fun _ _ _ _ _ r h => by simp [aumbryref16_Check.j0] at h, fun _ _ _ _ _ r h => by simp [aumbryref16_Check.l0] at h, fun _ _ _ _ _ _ r h => by simp [aumbryref16_Check.j2] at h, fun _ r h => by simp [aumbryref16_Check.j3] at h⟩
 | k + 1 => by
  obtain ⟨ih0, ih1, ih2, ih3⟩ := aumbryref16_Check.mono_l k
  refine ⟨?_, ?_, ?_, ?_⟩
  ·intro y0 y1 y2 y3 y4
   unfold aumbryref16_Check.j0
   repeat' first
   | (with_reducible exact ih0 _ _ _ _ _)
   | (with_reducible exact ih1 _ _ _ _ _)
   | (with_reducible exact ih2 _ _ _ _ _ _)
   | (with_reducible exact ih3 _)
   | (with_reducible exact LeO.refl _)
   | (with_reducible exact LeO.none _)
   | (with_reducible refine LeO.ite ?_ ?_)
   | (with_reducible refine LeO.bind ?_ (fun _ => ?_))
   | exact ih0 _ _ _ _ _
   | exact ih1 _ _ _ _ _
   | exact ih2 _ _ _ _ _ _
   | exact ih3 _
   | exact LeO.none _
   | refine LeO.ite ?_ ?_
   | refine LeO.bind ?_ (fun _ => ?_)
  ·intro y0 y1 y2 y3 y4
   unfold aumbryref16_Check.l0
   repeat' first
   | (with_reducible exact ih0 _ _ _ _ _)
   | (with_reducible exact ih1 _ _ _ _ _)
   | (with_reducible exact ih2 _ _ _ _ _ _)
   | (with_reducible exact ih3 _)
   | (with_reducible exact LeO.refl _)
   | (with_reducible exact LeO.none _)
   | (with_reducible refine LeO.ite ?_ ?_)
   | (with_reducible refine LeO.bind ?_ (fun _ => ?_))
   | exact ih0 _ _ _ _ _
   | exact ih1 _ _ _ _ _
   | exact ih2 _ _ _ _ _ _
   | exact ih3 _
   | exact LeO.none _
   | refine LeO.ite ?_ ?_
   | refine LeO.bind ?_ (fun _ => ?_)
  ·intro y0 y1 y2 y3 y4 y5
   unfold aumbryref16_Check.j2
   repeat' first
   | (with_reducible exact ih0 _ _ _ _ _)
   | (with_reducible exact ih1 _ _ _ _ _)
   | (with_reducible exact ih2 _ _ _ _ _ _)
   | (with_reducible exact ih3 _)
   | (with_reducible exact LeO.refl _)
   | (with_reducible exact LeO.none _)
   | (with_reducible refine LeO.ite ?_ ?_)
   | (with_reducible refine LeO.bind ?_ (fun _ => ?_))
   | exact ih0 _ _ _ _ _
   | exact ih1 _ _ _ _ _
   | exact ih2 _ _ _ _ _ _
   | exact ih3 _
   | exact LeO.none _
   | refine LeO.ite ?_ ?_
   | refine LeO.bind ?_ (fun _ => ?_)
  ·intro y0
   unfold aumbryref16_Check.j3
   repeat' first
   | (with_reducible exact ih0 _ _ _ _ _)
   | (with_reducible exact ih1 _ _ _ _ _)
   | (with_reducible exact ih2 _ _ _ _ _ _)
   | (with_reducible exact ih3 _)
   | (with_reducible exact LeO.refl _)
   | (with_reducible exact LeO.none _)
   | (with_reducible refine LeO.ite ?_ ?_)
   | (with_reducible refine LeO.bind ?_ (fun _ => ?_))
   | exact ih0 _ _ _ _ _
   | exact ih1 _ _ _ _ _
   | exact ih2 _ _ _ _ _ _
   | exact ih3 _
   | exact LeO.none _
   | refine LeO.ite ?_ ?_
   | refine LeO.bind ?_ (fun _ => ?_)
theorem aumbryref16_Check.mono : ∀ a0 a1 a2 a3 k, LeO (aumbryref16_Check.f k a0 a1 a2 a3) (aumbryref16_Check.f (k + 1) a0 a1 a2 a3) := by
 intro a0 a1 a2 a3 k
 obtain ⟨ih0, ih1, ih2, ih3⟩ := aumbryref16_Check.mono_l k
 unfold aumbryref16_Check.f
 repeat' first
   | (with_reducible exact ih0 _ _ _ _ _)
   | (with_reducible exact ih1 _ _ _ _ _)
   | (with_reducible exact ih2 _ _ _ _ _ _)
   | (with_reducible exact ih3 _)
   | (with_reducible exact LeO.refl _)
   | (with_reducible exact LeO.none _)
   | (with_reducible refine LeO.ite ?_ ?_)
   | (with_reducible refine LeO.bind ?_ (fun _ => ?_))
   | exact ih0 _ _ _ _ _
   | exact ih1 _ _ _ _ _
   | exact ih2 _ _ _ _ _ _
   | exact ih3 _
   | exact LeO.none _
   | refine LeO.ite ?_ ?_
   | refine LeO.bind ?_ (fun _ => ?_)
set_option maxHeartbeats 8000000 in
set_option maxRecDepth 100000 in
theorem aumbryref16_Check.calls (k : Nat) (a0_0 : Int) (a0_1 : ByteArray) (a0_2 : Int) (A0_3 : Option Addr) (c0_3 : Nat) (l0_3 : List Int) (r : Int) (w : World) (hr0_3 : Kd.C (Kd.int .i64) w A0_3 l0_3.length l0_3) (hc0_3 : l0_3.length ≤ c0_3) (h : aumbryref16_Check.f k a0_0 a0_1 a0_2 l0_3 = some r) :
  Calls Try.prog 18 #[.agg #[.int .i64 a0_0, .string a0_1, .int .i64 a0_2, .slice A0_3 l0_3.length c0_3]] w fun e w' => e = .returned (.int .i64 r) ∧ Below w.heap.size w w' := by
 have hu25 := Try.underlying25
 have HR0_3 := Aside0.mk hr0_3
 have HC0_3 := Aside0.mk hc0_3
 clear hr0_3 hc0_3
 have HB := Aside0.mk (Below.refl w.heap.size w)
 have H : (if a0_0 = 1 then (if (a0_1.size : Int) < 1 then (aumbryref16_Check.j0 k true a0_0 a0_1 a0_2 l0_3) else (if (a0_1.size : Int) > 64 then (aumbryref16_Check.j0 k true a0_0 a0_1 a0_2 l0_3) else (if a0_2 < 0 then (aumbryref16_Check.j0 k true a0_0 a0_1 a0_2 l0_3) else (if a0_2 > 2147483647 then (aumbryref16_Check.j0 k true a0_0 a0_1 a0_2 l0_3) else (aumbryref16_Check.j0 k (decide ((l0_3.length : Int) > 256)) a0_0 a0_1 a0_2 l0_3))))) else (if a0_0 = 2 then (if (a0_1.size : Int) < 1 then (aumbryref16_Check.j0 k true a0_0 a0_1 a0_2 l0_3) else (if (a0_1.size : Int) > 64 then (aumbryref16_Check.j0 k true a0_0 a0_1 a0_2 l0_3) else (if a0_2 < 0 then (aumbryref16_Check.j0 k true a0_0 a0_1 a0_2 l0_3) else (if a0_2 > 2147483647 then (aumbryref16_Check.j0 k true a0_0 a0_1 a0_2 l0_3) else (aumbryref16_Check.j0 k (decide ((l0_3.length : Int) > 256)) a0_0 a0_1 a0_2 l0_3))))) else (aumbryref16_Check.j0 k true a0_0 a0_1 a0_2 l0_3))) = some r := h
 clear h
 have HC2 := Aside0.mk H
 clear H
 go_enter Try.func18, Try.ntmps18
 go_upto_region 1 with (first | ((with_reducible refine gate_dst (N := 1) rfl ?_); (try (refine gate_guard (by rfl) ?_; dsimp only)); refine box_event ?hg (N := 1) ?hd (cs := #[.int .i64 a0_0, .string a0_1, .int .i64 a0_2, .slice A0_3 l0_3.length c0_3]) (t := 25) ?hr ?_; (case hd => rfl); (case hg => rfl); (case hr => first | (go_simp; done) | (go_simp; rfl)); intro gb182 hg w3 hbox hb; have n0_ := Aside0.mk (below_step (by repeat (first | (with_reducible first | exact HB.out | apply below_alloc | apply pw_below_drewN | apply below_drew1) | exact HB.out)) hb); have n1_ := Aside0.mk (hbox); have n2_ := Aside0.mk ((by rw [hg]; exact (below_size (by repeat (first | (with_reducible first | exact HB.out | apply below_alloc | apply pw_below_drewN | apply below_drew1) | exact HB.out))) : w.heap.size ≤ gb182)); have n3_ := Aside0.mk ((by rw [hg]; exact (below_size (by repeat (first | (with_reducible first | exact HB.out | apply below_alloc | apply pw_below_drewN | apply below_drew1) | exact HB.out))) : w.heap.size ≤ gb182)); clear HB; have HB := n0_; have BK182 := n1_; have GW182 := n2_; have GE182 := n3_; clear n0_ n1_ n2_ n3_; clear hb hbox hg))
 (try simp only [Act.put, List.setIfInBounds_toArray, List.set_cons_zero, List.set_cons_succ])
 go_cut [39] (fun v39 wc => ∃ (kq : Nat) (x39_1 : Bool), v39 = .bool x39_1 ∧ Aside0 (aumbryref16_Check.j0 kq x39_1 a0_0 a0_1 a0_2 l0_3 = some r) ∧ Aside0 (kq ≤ k) ∧ Aside0 (wc.heap[gb182]? = some (.cells #[.int .i64 a0_0, .string a0_1, .int .i64 a0_2, (.slice A0_3 l0_3.length c0_3)] 25 (0, 0))) ∧ Aside0 (Below w.heap.size w wc))
 case first =>
  have H := HC2.out
  clear HC2
  by_cases c4 : a0_0 = 1
  ·rw [if_pos c4] at H
   have c4b0 : (a0_0 == 1) = true := beq_iff_eq.mpr c4
   have c4b1 : (a0_0 != 1) = false := bne_eq_false_iff_eq.mpr c4
   clear c4
   (first | rw [c4b0] | (simp only [i64_w, i32_w]; rw [c4b0]) | skip)
   by_cases c5 : (a0_1.size : Int) < 1
   ·rw [if_pos c5] at H
    have c5b0 : decide ((a0_1.size : Int) < 1) = true := decide_eq_true c5
    have c5b1 : decide (a0_1.size < 1) = true := decide_eq_true (by omega)
    clear c5
    have H' := Aside0.mk H
    clear H
    have hcz6_0 : w3.cell? ⟨gb182, 0, none⟩ = some (.int .i64 a0_0) := (blk_cell BK182.out 0).trans rfl
    have hcz6_1 : w3.cell? ⟨gb182, 1, none⟩ = some (.string a0_1) := (blk_cell BK182.out 1).trans rfl
    have hcz6_2 : w3.cell? ⟨gb182, 2, none⟩ = some (.int .i64 a0_2) := (blk_cell BK182.out 2).trans rfl
    have hcz6_3 : w3.cell? ⟨gb182, 3, none⟩ = some (.slice A0_3 l0_3.length c0_3) := (blk_cell BK182.out 3).trans rfl
    have hfz6_0 := blk_frozen BK182.out 0
    have hfz6_1 := blk_frozen BK182.out 1
    have hfz6_2 := blk_frozen BK182.out 2
    have hfz6_3 := blk_frozen BK182.out 3
    go_wp2
    go_meet
    case rel => exact ⟨_, (true), (by first | rfl | (simp; done) | (simp [*]; done)), H', ⟨by first | omega | exact Nat.le_refl _⟩, ⟨by (with_reducible repeat (first | refine blk_drewN ?_ _ | refine blk_drew ?_ | refine blk_alloc ?_ _)); exact BK182.out⟩, ⟨by repeat (first | (with_reducible first | exact HB.out | apply below_alloc | apply pw_below_drewN | apply below_drew1 | refine below_set ?_ GE182.out) | exact HB.out)⟩⟩
   ·rw [if_neg c5] at H
    have c5b0 : decide ((a0_1.size : Int) < 1) = false := decide_eq_false c5
    have c5b1 : decide (a0_1.size < 1) = false := decide_eq_false (by omega)
    clear c5
    by_cases c7 : (a0_1.size : Int) > 64
    ·rw [if_pos c7] at H
     have c7b0 : decide (64 < (a0_1.size : Int)) = true := decide_eq_true c7
     have c7b1 : decide (64 < a0_1.size) = true := decide_eq_true (by omega)
     clear c7
     have H' := Aside0.mk H
     clear H
     have hcz8_0 : w3.cell? ⟨gb182, 0, none⟩ = some (.int .i64 a0_0) := (blk_cell BK182.out 0).trans rfl
     have hcz8_1 : w3.cell? ⟨gb182, 1, none⟩ = some (.string a0_1) := (blk_cell BK182.out 1).trans rfl
     have hcz8_2 : w3.cell? ⟨gb182, 2, none⟩ = some (.int .i64 a0_2) := (blk_cell BK182.out 2).trans rfl
     have hcz8_3 : w3.cell? ⟨gb182, 3, none⟩ = some (.slice A0_3 l0_3.length c0_3) := (blk_cell BK182.out 3).trans rfl
     have hfz8_0 := blk_frozen BK182.out 0
     have hfz8_1 := blk_frozen BK182.out 1
     have hfz8_2 := blk_frozen BK182.out 2
     have hfz8_3 := blk_frozen BK182.out 3
     go_wp2
     go_meet
     case rel => exact ⟨_, (true), (by first | rfl | (simp; done) | (simp [*]; done)), H', ⟨by first | omega | exact Nat.le_refl _⟩, ⟨by (with_reducible repeat (first | refine blk_drewN ?_ _ | refine blk_drew ?_ | refine blk_alloc ?_ _)); exact BK182.out⟩, ⟨by repeat (first | (with_reducible first | exact HB.out | apply below_alloc | apply pw_below_drewN | apply below_drew1 | refine below_set ?_ GE182.out) | exact HB.out)⟩⟩
    ·rw [if_neg c7] at H
     have c7b0 : decide (64 < (a0_1.size : Int)) = false := decide_eq_false c7
     have c7b1 : decide (64 < a0_1.size) = false := decide_eq_false (by omega)
     clear c7
     by_cases c9 : a0_2 < 0
     ·rw [if_pos c9] at H
      have c9b0 : decide (a0_2 < 0) = true := decide_eq_true c9
      clear c9
      have H' := Aside0.mk H
      clear H
      have hcz10_0 : w3.cell? ⟨gb182, 0, none⟩ = some (.int .i64 a0_0) := (blk_cell BK182.out 0).trans rfl
      have hcz10_1 : w3.cell? ⟨gb182, 1, none⟩ = some (.string a0_1) := (blk_cell BK182.out 1).trans rfl
      have hcz10_2 : w3.cell? ⟨gb182, 2, none⟩ = some (.int .i64 a0_2) := (blk_cell BK182.out 2).trans rfl
      have hcz10_3 : w3.cell? ⟨gb182, 3, none⟩ = some (.slice A0_3 l0_3.length c0_3) := (blk_cell BK182.out 3).trans rfl
      have hfz10_0 := blk_frozen BK182.out 0
      have hfz10_1 := blk_frozen BK182.out 1
      have hfz10_2 := blk_frozen BK182.out 2
      have hfz10_3 := blk_frozen BK182.out 3
      go_wp2
      go_meet
      case rel => exact ⟨_, (true), (by first | rfl | (simp; done) | (simp [*]; done)), H', ⟨by first | omega | exact Nat.le_refl _⟩, ⟨by (with_reducible repeat (first | refine blk_drewN ?_ _ | refine blk_drew ?_ | refine blk_alloc ?_ _)); exact BK182.out⟩, ⟨by repeat (first | (with_reducible first | exact HB.out | apply below_alloc | apply pw_below_drewN | apply below_drew1 | refine below_set ?_ GE182.out) | exact HB.out)⟩⟩
     ·rw [if_neg c9] at H
      have c9b0 : decide (a0_2 < 0) = false := decide_eq_false c9
      clear c9
      by_cases c11 : a0_2 > 2147483647
      ·rw [if_pos c11] at H
       have c11b0 : decide (2147483647 < a0_2) = true := decide_eq_true c11
       clear c11
       have H' := Aside0.mk H
       clear H
       have hcz12_0 : w3.cell? ⟨gb182, 0, none⟩ = some (.int .i64 a0_0) := (blk_cell BK182.out 0).trans rfl
       have hcz12_1 : w3.cell? ⟨gb182, 1, none⟩ = some (.string a0_1) := (blk_cell BK182.out 1).trans rfl
       have hcz12_2 : w3.cell? ⟨gb182, 2, none⟩ = some (.int .i64 a0_2) := (blk_cell BK182.out 2).trans rfl
       have hcz12_3 : w3.cell? ⟨gb182, 3, none⟩ = some (.slice A0_3 l0_3.length c0_3) := (blk_cell BK182.out 3).trans rfl
       have hfz12_0 := blk_frozen BK182.out 0
       have hfz12_1 := blk_frozen BK182.out 1
       have hfz12_2 := blk_frozen BK182.out 2
       have hfz12_3 := blk_frozen BK182.out 3
       go_wp2
       go_meet
       case rel => exact ⟨_, (true), (by first | rfl | (simp; done) | (simp [*]; done)), H', ⟨by first | omega | exact Nat.le_refl _⟩, ⟨by (with_reducible repeat (first | refine blk_drewN ?_ _ | refine blk_drew ?_ | refine blk_alloc ?_ _)); exact BK182.out⟩, ⟨by repeat (first | (with_reducible first | exact HB.out | apply below_alloc | apply pw_below_drewN | apply below_drew1 | refine below_set ?_ GE182.out) | exact HB.out)⟩⟩
      ·rw [if_neg c11] at H
       have c11b0 : decide (2147483647 < a0_2) = false := decide_eq_false c11
       clear c11
       have H' := Aside0.mk H
       clear H
       have hcz13_0 : w3.cell? ⟨gb182, 0, none⟩ = some (.int .i64 a0_0) := (blk_cell BK182.out 0).trans rfl
       have hcz13_1 : w3.cell? ⟨gb182, 1, none⟩ = some (.string a0_1) := (blk_cell BK182.out 1).trans rfl
       have hcz13_2 : w3.cell? ⟨gb182, 2, none⟩ = some (.int .i64 a0_2) := (blk_cell BK182.out 2).trans rfl
       have hcz13_3 : w3.cell? ⟨gb182, 3, none⟩ = some (.slice A0_3 l0_3.length c0_3) := (blk_cell BK182.out 3).trans rfl
       have hfz13_0 := blk_frozen BK182.out 0
       have hfz13_1 := blk_frozen BK182.out 1
       have hfz13_2 := blk_frozen BK182.out 2
       have hfz13_3 := blk_frozen BK182.out 3
       go_wp2
       go_meet
       case rel => exact ⟨_, (decide ((l0_3.length : Int) > 256)), (by first | rfl | (simp; done) | (simp [*]; done)), H', ⟨by first | omega | exact Nat.le_refl _⟩, ⟨by (with_reducible repeat (first | refine blk_drewN ?_ _ | refine blk_drew ?_ | refine blk_alloc ?_ _)); exact BK182.out⟩, ⟨by repeat (first | (with_reducible first | exact HB.out | apply below_alloc | apply pw_below_drewN | apply below_drew1 | refine below_set ?_ GE182.out) | exact HB.out)⟩⟩
  ·rw [if_neg c4] at H
   have c4b0 : (a0_0 == 1) = false := beq_eq_false_iff_ne.mpr c4
   have c4b1 : (a0_0 != 1) = true := bne_iff_ne.mpr c4
   (first | rw [c4b0] | (simp only [i64_w, i32_w]; rw [c4b0]) | skip)
   by_cases c14 : a0_0 = 2
   ·rw [if_pos c14] at H
    have c14b0 : (a0_0 == 2) = true := beq_iff_eq.mpr c14
    have c14b1 : (a0_0 != 2) = false := bne_eq_false_iff_eq.mpr c14
    clear c14
    by_cases c15 : (a0_1.size : Int) < 1
    ·rw [if_pos c15] at H
     have c15b0 : decide ((a0_1.size : Int) < 1) = true := decide_eq_true c15
     have c15b1 : decide (a0_1.size < 1) = true := decide_eq_true (by omega)
     clear c15
     have H' := Aside0.mk H
     clear H
     have hcz16_0 : w3.cell? ⟨gb182, 0, none⟩ = some (.int .i64 a0_0) := (blk_cell BK182.out 0).trans rfl
     have hcz16_1 : w3.cell? ⟨gb182, 1, none⟩ = some (.string a0_1) := (blk_cell BK182.out 1).trans rfl
     have hcz16_2 : w3.cell? ⟨gb182, 2, none⟩ = some (.int .i64 a0_2) := (blk_cell BK182.out 2).trans rfl
     have hcz16_3 : w3.cell? ⟨gb182, 3, none⟩ = some (.slice A0_3 l0_3.length c0_3) := (blk_cell BK182.out 3).trans rfl
     have hfz16_0 := blk_frozen BK182.out 0
     have hfz16_1 := blk_frozen BK182.out 1
     have hfz16_2 := blk_frozen BK182.out 2
     have hfz16_3 := blk_frozen BK182.out 3
     go_wp2
     go_meet
     case rel => exact ⟨_, (true), (by first | rfl | (simp; done) | (simp [*]; done)), H', ⟨by first | omega | exact Nat.le_refl _⟩, ⟨by (with_reducible repeat (first | refine blk_drewN ?_ _ | refine blk_drew ?_ | refine blk_alloc ?_ _)); exact BK182.out⟩, ⟨by repeat (first | (with_reducible first | exact HB.out | apply below_alloc | apply pw_below_drewN | apply below_drew1 | refine below_set ?_ GE182.out) | exact HB.out)⟩⟩
    ·rw [if_neg c15] at H
     have c15b0 : decide ((a0_1.size : Int) < 1) = false := decide_eq_false c15
     have c15b1 : decide (a0_1.size < 1) = false := decide_eq_false (by omega)
     clear c15
     by_cases c17 : (a0_1.size : Int) > 64
     ·rw [if_pos c17] at H
      have c17b0 : decide (64 < (a0_1.size : Int)) = true := decide_eq_true c17
      have c17b1 : decide (64 < a0_1.size) = true := decide_eq_true (by omega)
      clear c17
      have H' := Aside0.mk H
      clear H
      have hcz18_0 : w3.cell? ⟨gb182, 0, none⟩ = some (.int .i64 a0_0) := (blk_cell BK182.out 0).trans rfl
      have hcz18_1 : w3.cell? ⟨gb182, 1, none⟩ = some (.string a0_1) := (blk_cell BK182.out 1).trans rfl
      have hcz18_2 : w3.cell? ⟨gb182, 2, none⟩ = some (.int .i64 a0_2) := (blk_cell BK182.out 2).trans rfl
      have hcz18_3 : w3.cell? ⟨gb182, 3, none⟩ = some (.slice A0_3 l0_3.length c0_3) := (blk_cell BK182.out 3).trans rfl
      have hfz18_0 := blk_frozen BK182.out 0
      have hfz18_1 := blk_frozen BK182.out 1
      have hfz18_2 := blk_frozen BK182.out 2
      have hfz18_3 := blk_frozen BK182.out 3
      go_wp2
      go_meet
      case rel => exact ⟨_, (true), (by first | rfl | (simp; done) | (simp [*]; done)), H', ⟨by first | omega | exact Nat.le_refl _⟩, ⟨by (with_reducible repeat (first | refine blk_drewN ?_ _ | refine blk_drew ?_ | refine blk_alloc ?_ _)); exact BK182.out⟩, ⟨by repeat (first | (with_reducible first | exact HB.out | apply below_alloc | apply pw_below_drewN | apply below_drew1 | refine below_set ?_ GE182.out) | exact HB.out)⟩⟩
     ·rw [if_neg c17] at H
      have c17b0 : decide (64 < (a0_1.size : Int)) = false := decide_eq_false c17
      have c17b1 : decide (64 < a0_1.size) = false := decide_eq_false (by omega)
      clear c17
      by_cases c19 : a0_2 < 0
      ·rw [if_pos c19] at H
       have c19b0 : decide (a0_2 < 0) = true := decide_eq_true c19
       clear c19
       have H' := Aside0.mk H
       clear H
       have hcz20_0 : w3.cell? ⟨gb182, 0, none⟩ = some (.int .i64 a0_0) := (blk_cell BK182.out 0).trans rfl
       have hcz20_1 : w3.cell? ⟨gb182, 1, none⟩ = some (.string a0_1) := (blk_cell BK182.out 1).trans rfl
       have hcz20_2 : w3.cell? ⟨gb182, 2, none⟩ = some (.int .i64 a0_2) := (blk_cell BK182.out 2).trans rfl
       have hcz20_3 : w3.cell? ⟨gb182, 3, none⟩ = some (.slice A0_3 l0_3.length c0_3) := (blk_cell BK182.out 3).trans rfl
       have hfz20_0 := blk_frozen BK182.out 0
       have hfz20_1 := blk_frozen BK182.out 1
       have hfz20_2 := blk_frozen BK182.out 2
       have hfz20_3 := blk_frozen BK182.out 3
       go_wp2
       go_meet
       case rel => exact ⟨_, (true), (by first | rfl | (simp; done) | (simp [*]; done)), H', ⟨by first | omega | exact Nat.le_refl _⟩, ⟨by (with_reducible repeat (first | refine blk_drewN ?_ _ | refine blk_drew ?_ | refine blk_alloc ?_ _)); exact BK182.out⟩, ⟨by repeat (first | (with_reducible first | exact HB.out | apply below_alloc | apply pw_below_drewN | apply below_drew1 | refine below_set ?_ GE182.out) | exact HB.out)⟩⟩
      ·rw [if_neg c19] at H
       have c19b0 : decide (a0_2 < 0) = false := decide_eq_false c19
       clear c19
       by_cases c21 : a0_2 > 2147483647
       ·rw [if_pos c21] at H
        have c21b0 : decide (2147483647 < a0_2) = true := decide_eq_true c21
        clear c21
        have H' := Aside0.mk H
        clear H
        have hcz22_0 : w3.cell? ⟨gb182, 0, none⟩ = some (.int .i64 a0_0) := (blk_cell BK182.out 0).trans rfl
        have hcz22_1 : w3.cell? ⟨gb182, 1, none⟩ = some (.string a0_1) := (blk_cell BK182.out 1).trans rfl
        have hcz22_2 : w3.cell? ⟨gb182, 2, none⟩ = some (.int .i64 a0_2) := (blk_cell BK182.out 2).trans rfl
        have hcz22_3 : w3.cell? ⟨gb182, 3, none⟩ = some (.slice A0_3 l0_3.length c0_3) := (blk_cell BK182.out 3).trans rfl
        have hfz22_0 := blk_frozen BK182.out 0
        have hfz22_1 := blk_frozen BK182.out 1
        have hfz22_2 := blk_frozen BK182.out 2
        have hfz22_3 := blk_frozen BK182.out 3
        go_wp2
        go_meet
        case rel => exact ⟨_, (true), (by first | rfl | (simp; done) | (simp [*]; done)), H', ⟨by first | omega | exact Nat.le_refl _⟩, ⟨by (with_reducible repeat (first | refine blk_drewN ?_ _ | refine blk_drew ?_ | refine blk_alloc ?_ _)); exact BK182.out⟩, ⟨by repeat (first | (with_reducible first | exact HB.out | apply below_alloc | apply pw_below_drewN | apply below_drew1 | refine below_set ?_ GE182.out) | exact HB.out)⟩⟩
       ·rw [if_neg c21] at H
        have c21b0 : decide (2147483647 < a0_2) = false := decide_eq_false c21
        clear c21
        have H' := Aside0.mk H
        clear H
        have hcz23_0 : w3.cell? ⟨gb182, 0, none⟩ = some (.int .i64 a0_0) := (blk_cell BK182.out 0).trans rfl
        have hcz23_1 : w3.cell? ⟨gb182, 1, none⟩ = some (.string a0_1) := (blk_cell BK182.out 1).trans rfl
        have hcz23_2 : w3.cell? ⟨gb182, 2, none⟩ = some (.int .i64 a0_2) := (blk_cell BK182.out 2).trans rfl
        have hcz23_3 : w3.cell? ⟨gb182, 3, none⟩ = some (.slice A0_3 l0_3.length c0_3) := (blk_cell BK182.out 3).trans rfl
        have hfz23_0 := blk_frozen BK182.out 0
        have hfz23_1 := blk_frozen BK182.out 1
        have hfz23_2 := blk_frozen BK182.out 2
        have hfz23_3 := blk_frozen BK182.out 3
        go_wp2
        go_meet
        case rel => exact ⟨_, (decide ((l0_3.length : Int) > 256)), (by first | rfl | (simp; done) | (simp [*]; done)), H', ⟨by first | omega | exact Nat.le_refl _⟩, ⟨by (with_reducible repeat (first | refine blk_drewN ?_ _ | refine blk_drew ?_ | refine blk_alloc ?_ _)); exact BK182.out⟩, ⟨by repeat (first | (with_reducible first | exact HB.out | apply below_alloc | apply pw_below_drewN | apply below_drew1 | refine below_set ?_ GE182.out) | exact HB.out)⟩⟩
   ·rw [if_neg c14] at H
    have c14b0 : (a0_0 == 2) = false := beq_eq_false_iff_ne.mpr c14
    have c14b1 : (a0_0 != 2) = true := bne_iff_ne.mpr c14
    have H' := Aside0.mk H
    clear H
    have hcz24_0 : w3.cell? ⟨gb182, 0, none⟩ = some (.int .i64 a0_0) := (blk_cell BK182.out 0).trans rfl
    have hcz24_1 : w3.cell? ⟨gb182, 1, none⟩ = some (.string a0_1) := (blk_cell BK182.out 1).trans rfl
    have hcz24_2 : w3.cell? ⟨gb182, 2, none⟩ = some (.int .i64 a0_2) := (blk_cell BK182.out 2).trans rfl
    have hcz24_3 : w3.cell? ⟨gb182, 3, none⟩ = some (.slice A0_3 l0_3.length c0_3) := (blk_cell BK182.out 3).trans rfl
    have hfz24_0 := blk_frozen BK182.out 0
    have hfz24_1 := blk_frozen BK182.out 1
    have hfz24_2 := blk_frozen BK182.out 2
    have hfz24_3 := blk_frozen BK182.out 3
    go_wp2
    go_meet
    case rel => exact ⟨_, (true), (by first | rfl | (simp; done) | (simp [*]; done)), H', ⟨by first | omega | exact Nat.le_refl _⟩, ⟨by (with_reducible repeat (first | refine blk_drewN ?_ _ | refine blk_drew ?_ | refine blk_alloc ?_ _)); exact BK182.out⟩, ⟨by repeat (first | (with_reducible first | exact HB.out | apply below_alloc | apply pw_below_drewN | apply below_drew1 | refine below_set ?_ GE182.out) | exact HB.out)⟩⟩
 case rest =>
  clear HC2
  try clear c1
  try clear c2
  try clear p2
  try clear c4
  try clear c4b0
  try clear c4b1
  try clear c5
  try clear c5b0
  try clear c5b1
  try clear c7
  try clear c7b0
  try clear c7b1
  try clear c9
  try clear c9b0
  try clear c11
  try clear c11b0
  try clear c14
  try clear c14b0
  try clear c14b1
  try clear c15
  try clear c15b0
  try clear c15b1
  try clear c17
  try clear c17b0
  try clear c17b1
  try clear c18
  try clear c19
  try clear c19b0
  try clear c21
  try clear c21b0
  try clear hcz10_0
  try clear hcz10_1
  try clear hcz10_2
  try clear hcz10_3
  try clear hcz12_0
  try clear hcz12_1
  try clear hcz12_2
  try clear hcz12_3
  try clear hcz13_0
  try clear hcz13_1
  try clear hcz13_2
  try clear hcz13_3
  try clear hcz16_0
  try clear hcz16_1
  try clear hcz16_2
  try clear hcz16_3
  try clear hcz18_0
  try clear hcz18_1
  try clear hcz18_2
  try clear hcz18_3
  try clear hcz20_0
  try clear hcz20_1
  try clear hcz20_2
  try clear hcz20_3
  try clear hcz22_0
  try clear hcz22_1
  try clear hcz22_2
  try clear hcz22_3
  try clear hcz23_0
  try clear hcz23_1
  try clear hcz23_2
  try clear hcz23_3
  try clear hcz24_0
  try clear hcz24_1
  try clear hcz24_2
  try clear hcz24_3
  try clear hcz6_0
  try clear hcz6_1
  try clear hcz6_2
  try clear hcz6_3
  try clear hcz8_0
  try clear hcz8_1
  try clear hcz8_2
  try clear hcz8_3
  try clear hfz10_0
  try clear hfz10_1
  try clear hfz10_2
  try clear hfz10_3
  try clear hfz12_0
  try clear hfz12_1
  try clear hfz12_2
  try clear hfz12_3
  try clear hfz13_0
  try clear hfz13_1
  try clear hfz13_2
  try clear hfz13_3
  try clear hfz16_0
  try clear hfz16_1
  try clear hfz16_2
  try clear hfz16_3
  try clear hfz18_0
  try clear hfz18_1
  try clear hfz18_2
  try clear hfz18_3
  try clear hfz20_0
  try clear hfz20_1
  try clear hfz20_2
  try clear hfz20_3
  try clear hfz22_0
  try clear hfz22_1
  try clear hfz22_2
  try clear hfz22_3
  try clear hfz23_0
  try clear hfz23_1
  try clear hfz23_2
  try clear hfz23_3
  try clear hfz24_0
  try clear hfz24_1
  try clear hfz24_2
  try clear hfz24_3
  try clear hfz6_0
  try clear hfz6_1
  try clear hfz6_2
  try clear hfz6_3
  try clear hfz8_0
  try clear hfz8_1
  try clear hfz8_2
  try clear hfz8_3
  obtain ⟨kq, x39_1, rfl, HA, HJ1, BK182, HB⟩ := hcut
  cases kq with
  | zero => exact absurd HA.out (by simp [aumbryref16_Check.j0])
  | succ kj1 =>
   have H := HA.out
   clear HA
   simp only [aumbryref16_Check.j0] at H
   by_cases c25 : x39_1 = true
   ·subst c25
    have H1 : (some 1) = some r := by rw [if_pos rfl] at H; exact H
    clear H
    have H := H1
    clear H1
    obtain rfl := Option.some.inj H
    go_wp2
    go_ret
    exact ⟨by first | rfl | (simp [errW_none, errW_some] <;> rfl) | (simp [*, errW_none, errW_some] <;> rfl), by repeat (first | (with_reducible first | exact HB.out | apply below_alloc | apply pw_below_drewN | apply below_drew1 | refine below_set ?_ GE182.out) | exact HB.out)⟩
   ·replace c25 := Bool.eq_false_iff.mpr c25
    subst c25
    have H1 : (aumbryref16_Check.l0 kj1 0 a0_0 a0_1 a0_2 l0_3) = some r := by rw [if_neg (show ¬ (false = true) by decide)] at H; exact H
    clear H
    have H := H1
    clear H1
    have H' := Aside0.mk H
    clear H
    go_wp2
    go_loopg [3] kj1 (fun kq v3 w' => ∃ (x3_2 : Int), v3 = .int .i64 x3_2 ∧ Aside0 (aumbryref16_Check.l0 kq x3_2 a0_0 a0_1 a0_2 l0_3 = some r) ∧ Aside0 (kq ≤ kj1) ∧ Aside0 (w'.heap[gb182]? = some (.cells #[.int .i64 a0_0, .string a0_1, .int .i64 a0_2, (.slice A0_3 l0_3.length c0_3)] 25 (0, 0))) ∧ Aside0 (Below w.heap.size w w'))
    case atStart => exact ⟨(0), (by first | rfl | (simp; done) | (simp [*]; done)), H', ⟨Nat.le_refl _⟩, ⟨by (with_reducible repeat (first | refine blk_drewN ?_ _ | refine blk_drew ?_ | refine blk_alloc ?_ _)); exact BK182.out⟩, ⟨by repeat (first | (with_reducible first | exact HB.out | apply below_alloc | apply pw_below_drewN | apply below_drew1 | refine below_set ?_ GE182.out) | exact HB.out)⟩⟩
    case round =>
     clear H'
     try clear c1
     try clear c2
     try clear p2
     try clear c4
     try clear c4b0
     try clear c4b1
     try clear c5
     try clear c5b0
     try clear c5b1
     try clear c7
     try clear c7b0
     try clear c7b1
     try clear c9
     try clear c9b0
     try clear c11
     try clear c11b0
     try clear c14
     try clear c14b0
     try clear c14b1
     try clear c15
     try clear c15b0
     try clear c15b1
     try clear c17
     try clear c17b0
     try clear c17b1
     try clear c18
     try clear c19
     try clear c19b0
     try clear c21
     try clear c21b0
     try clear c25
     try clear hcz10_0
     try clear hcz10_1
     try clear hcz10_2
     try clear hcz10_3
     try clear hcz12_0
     try clear hcz12_1
     try clear hcz12_2
     try clear hcz12_3
     try clear hcz13_0
     try clear hcz13_1
     try clear hcz13_2
     try clear hcz13_3
     try clear hcz16_0
     try clear hcz16_1
     try clear hcz16_2
     try clear hcz16_3
     try clear hcz18_0
     try clear hcz18_1
     try clear hcz18_2
     try clear hcz18_3
     try clear hcz20_0
     try clear hcz20_1
     try clear hcz20_2
     try clear hcz20_3
     try clear hcz22_0
     try clear hcz22_1
     try clear hcz22_2
     try clear hcz22_3
     try clear hcz23_0
     try clear hcz23_1
     try clear hcz23_2
     try clear hcz23_3
     try clear hcz24_0
     try clear hcz24_1
     try clear hcz24_2
     try clear hcz24_3
     try clear hcz6_0
     try clear hcz6_1
     try clear hcz6_2
     try clear hcz6_3
     try clear hcz8_0
     try clear hcz8_1
     try clear hcz8_2
     try clear hcz8_3
     try clear hfz10_0
     try clear hfz10_1
     try clear hfz10_2
     try clear hfz10_3
     try clear hfz12_0
     try clear hfz12_1
     try clear hfz12_2
     try clear hfz12_3
     try clear hfz13_0
     try clear hfz13_1
     try clear hfz13_2
     try clear hfz13_3
     try clear hfz16_0
     try clear hfz16_1
     try clear hfz16_2
     try clear hfz16_3
     try clear hfz18_0
     try clear hfz18_1
     try clear hfz18_2
     try clear hfz18_3
     try clear hfz20_0
     try clear hfz20_1
     try clear hfz20_2
     try clear hfz20_3
     try clear hfz22_0
     try clear hfz22_1
     try clear hfz22_2
     try clear hfz22_3
     try clear hfz23_0
     try clear hfz23_1
     try clear hfz23_2
     try clear hfz23_3
     try clear hfz24_0
     try clear hfz24_1
     try clear hfz24_2
     try clear hfz24_3
     try clear hfz6_0
     try clear hfz6_1
     try clear hfz6_2
     try clear hfz6_3
     try clear hfz8_0
     try clear hfz8_1
     try clear hfz8_2
     try clear hfz8_3
     try clear p2
     obtain ⟨x3_2, rfl, HA, HK2, BK182, HB⟩ := hrel
     cases gk with
     | zero => exact absurd HA.out (by simp [aumbryref16_Check.l0])
     | succ k2 =>
      have H := HA.out
      clear HA
      simp only [aumbryref16_Check.l0] at H
      by_cases c26 : x3_2 < (l0_3.length : Int)
      ·rw [if_pos c26] at H
       have c26b0 : decide (x3_2 < (l0_3.length : Int)) = true := decide_eq_true c26
       clear c26
       have HC27 := Aside0.mk H
       clear H
       have hcz28_0 : wr.cell? ⟨gb182, 0, none⟩ = some (.int .i64 a0_0) := (blk_cell BK182.out 0).trans rfl
       have hcz28_1 : wr.cell? ⟨gb182, 1, none⟩ = some (.string a0_1) := (blk_cell BK182.out 1).trans rfl
       have hcz28_2 : wr.cell? ⟨gb182, 2, none⟩ = some (.int .i64 a0_2) := (blk_cell BK182.out 2).trans rfl
       have hcz28_3 : wr.cell? ⟨gb182, 3, none⟩ = some (.slice A0_3 l0_3.length c0_3) := (blk_cell BK182.out 3).trans rfl
       have hfz28_0 := blk_frozen BK182.out 0
       have hfz28_1 := blk_frozen BK182.out 1
       have hfz28_2 := blk_frozen BK182.out 2
       have hfz28_3 := blk_frozen BK182.out 3
       go_upto_region 6 with (fail)
       go_cut [60] (fun v60 wc => ∃ (kq : Nat) (x60_26 : Bool), v60 = .bool x60_26 ∧ Aside0 (aumbryref16_Check.j2 kq x3_2 x60_26 a0_0 a0_1 a0_2 l0_3 = some r) ∧ Aside0 (kq ≤ k2) ∧ Aside0 (wc.heap[gb182]? = some (.cells #[.int .i64 a0_0, .string a0_1, .int .i64 a0_2, (.slice A0_3 l0_3.length c0_3)] 25 (0, 0))) ∧ Aside0 (Below w.heap.size w wc))
       case first =>
        have H := HC27.out
        clear HC27
        by_cases c29 : 0 ≤ x3_2
        ·rw [if_pos c29] at H
         have c29b0 : decide (0 ≤ x3_2) = true := decide_eq_true c29
         clear c29
         (first | rw [c29b0] | (simp only [i64_w, i32_w]; rw [c29b0]) | skip)
         by_cases c30 : (rd l0_3 x3_2) < 0
         ·rw [if_pos c30] at H
          have c30b0 : decide ((rd l0_3 x3_2) < 0) = true := decide_eq_true c30
          clear c30
          have H' := Aside0.mk H
          clear H
          have hcz31_0 : wr.cell? ⟨gb182, 0, none⟩ = some (.int .i64 a0_0) := (blk_cell BK182.out 0).trans rfl
          have hcz31_1 : wr.cell? ⟨gb182, 1, none⟩ = some (.string a0_1) := (blk_cell BK182.out 1).trans rfl
          have hcz31_2 : wr.cell? ⟨gb182, 2, none⟩ = some (.int .i64 a0_2) := (blk_cell BK182.out 2).trans rfl
          have hcz31_3 : wr.cell? ⟨gb182, 3, none⟩ = some (.slice A0_3 l0_3.length c0_3) := (blk_cell BK182.out 3).trans rfl
          have hfz31_0 := blk_frozen BK182.out 0
          have hfz31_1 := blk_frozen BK182.out 1
          have hfz31_2 := blk_frozen BK182.out 2
          have hfz31_3 := blk_frozen BK182.out 3
          have p183 : 0 ≤ (x3_2 : Int) := of_decide_eq_true (by first | (with_reducible assumption) | assumption)
          have q183 : x3_2 < (l0_3.length : Int) := of_decide_eq_true (by first | (with_reducible assumption) | assumption)
          obtain ⟨ad183, e183, hx183_0⟩ := Kd.at_int HR0_3.out x3_2 p183 q183
          cases e183
          replace hx183_0 := (HB.out.cell (World.block_lt_of_cell? w _ hx183_0)).trans hx183_0
          replace p183 := eq_true p183
          replace q183 := eq_true q183
          go_wp2
          go_meet
          case rel => exact ⟨_, (true), (by first | rfl | (simp; done) | (simp [*]; done)), H', ⟨by have := HJ1.out; have := HK2.out; first | omega | exact Nat.le_refl _⟩, ⟨by (with_reducible repeat (first | refine blk_drewN ?_ _ | refine blk_drew ?_ | refine blk_alloc ?_ _)); exact BK182.out⟩, ⟨by repeat (first | (with_reducible first | exact HB.out | apply below_alloc | apply pw_below_drewN | apply below_drew1 | refine below_set ?_ GE182.out) | exact HB.out)⟩⟩
         ·rw [if_neg c30] at H
          have c30b0 : decide ((rd l0_3 x3_2) < 0) = false := decide_eq_false c30
          clear c30
          have H' := Aside0.mk H
          clear H
          have hcz32_0 : wr.cell? ⟨gb182, 0, none⟩ = some (.int .i64 a0_0) := (blk_cell BK182.out 0).trans rfl
          have hcz32_1 : wr.cell? ⟨gb182, 1, none⟩ = some (.string a0_1) := (blk_cell BK182.out 1).trans rfl
          have hcz32_2 : wr.cell? ⟨gb182, 2, none⟩ = some (.int .i64 a0_2) := (blk_cell BK182.out 2).trans rfl
          have hcz32_3 : wr.cell? ⟨gb182, 3, none⟩ = some (.slice A0_3 l0_3.length c0_3) := (blk_cell BK182.out 3).trans rfl
          have hfz32_0 := blk_frozen BK182.out 0
          have hfz32_1 := blk_frozen BK182.out 1
          have hfz32_2 := blk_frozen BK182.out 2
          have hfz32_3 := blk_frozen BK182.out 3
          have p183 : 0 ≤ (x3_2 : Int) := of_decide_eq_true (by first | (with_reducible assumption) | assumption)
          have q183 : x3_2 < (l0_3.length : Int) := of_decide_eq_true (by first | (with_reducible assumption) | assumption)
          obtain ⟨ad183, e183, hx183_0⟩ := Kd.at_int HR0_3.out x3_2 p183 q183
          cases e183
          replace hx183_0 := (HB.out.cell (World.block_lt_of_cell? w _ hx183_0)).trans hx183_0
          replace p183 := eq_true p183
          replace q183 := eq_true q183
          have p184 : 0 ≤ (x3_2 : Int) := of_decide_eq_true (by first | (with_reducible assumption) | assumption)
          have q184 : x3_2 < (l0_3.length : Int) := of_decide_eq_true (by first | (with_reducible assumption) | assumption)
          obtain ⟨ad184, e184, hx184_0⟩ := Kd.at_int HR0_3.out x3_2 p184 q184
          obtain rfl : ad183 = ad184 := (by injection e184)
          replace hx184_0 := (HB.out.cell (World.block_lt_of_cell? w _ hx184_0)).trans hx184_0
          replace p184 := eq_true p184
          replace q184 := eq_true q184
          go_wp2
          go_meet
          case rel => exact ⟨_, (decide ((rd l0_3 x3_2) ≥ 256)), (by first | rfl | (simp; done) | (simp [*]; done)), H', ⟨by have := HJ1.out; have := HK2.out; first | omega | exact Nat.le_refl _⟩, ⟨by (with_reducible repeat (first | refine blk_drewN ?_ _ | refine blk_drew ?_ | refine blk_alloc ?_ _)); exact BK182.out⟩, ⟨by repeat (first | (with_reducible first | exact HB.out | apply below_alloc | apply pw_below_drewN | apply below_drew1 | refine below_set ?_ GE182.out) | exact HB.out)⟩⟩
        ·rw [if_neg c29] at H
         exact absurd H (by simp)
       case rest =>
        clear HC27
        try clear c1
        try clear p1
        try clear q1
        try clear hx1
        try clear c2
        try clear p2
        try clear c3
        try clear c4
        try clear c4b0
        try clear c4b1
        try clear c5
        try clear c5b0
        try clear c5b1
        try clear c7
        try clear c7b0
        try clear c7b1
        try clear c9
        try clear c9b0
        try clear c11
        try clear c11b0
        try clear c14
        try clear c14b0
        try clear c14b1
        try clear c15
        try clear c15b0
        try clear c15b1
        try clear c17
        try clear c17b0
        try clear c17b1
        try clear c18
        try clear p18
        try clear q18
        try clear hx18
        try clear c19
        try clear c19b0
        try clear c21
        try clear c21b0
        try clear c25
        try clear c26
        try clear c26b0
        try clear c29
        try clear c29b0
        try clear c30
        try clear c30b0
        try clear hcz10_0
        try clear hcz10_1
        try clear hcz10_2
        try clear hcz10_3
        try clear hcz12_0
        try clear hcz12_1
        try clear hcz12_2
        try clear hcz12_3
        try clear hcz13_0
        try clear hcz13_1
        try clear hcz13_2
        try clear hcz13_3
        try clear hcz16_0
        try clear hcz16_1
        try clear hcz16_2
        try clear hcz16_3
        try clear hcz18_0
        try clear hcz18_1
        try clear hcz18_2
        try clear hcz18_3
        try clear hcz20_0
        try clear hcz20_1
        try clear hcz20_2
        try clear hcz20_3
        try clear hcz22_0
        try clear hcz22_1
        try clear hcz22_2
        try clear hcz22_3
        try clear hcz23_0
        try clear hcz23_1
        try clear hcz23_2
        try clear hcz23_3
        try clear hcz24_0
        try clear hcz24_1
        try clear hcz24_2
        try clear hcz24_3
        try clear hcz28_0
        try clear hcz28_1
        try clear hcz28_2
        try clear hcz28_3
        try clear hcz31_0
        try clear hcz31_1
        try clear hcz31_2
        try clear hcz31_3
        try clear hcz32_0
        try clear hcz32_1
        try clear hcz32_2
        try clear hcz32_3
        try clear hcz6_0
        try clear hcz6_1
        try clear hcz6_2
        try clear hcz6_3
        try clear hcz8_0
        try clear hcz8_1
        try clear hcz8_2
        try clear hcz8_3
        try clear hfz10_0
        try clear hfz10_1
        try clear hfz10_2
        try clear hfz10_3
        try clear hfz12_0
        try clear hfz12_1
        try clear hfz12_2
        try clear hfz12_3
        try clear hfz13_0
        try clear hfz13_1
        try clear hfz13_2
        try clear hfz13_3
        try clear hfz16_0
        try clear hfz16_1
        try clear hfz16_2
        try clear hfz16_3
        try clear hfz18_0
        try clear hfz18_1
        try clear hfz18_2
        try clear hfz18_3
        try clear hfz20_0
        try clear hfz20_1
        try clear hfz20_2
        try clear hfz20_3
        try clear hfz22_0
        try clear hfz22_1
        try clear hfz22_2
        try clear hfz22_3
        try clear hfz23_0
        try clear hfz23_1
        try clear hfz23_2
        try clear hfz23_3
        try clear hfz24_0
        try clear hfz24_1
        try clear hfz24_2
        try clear hfz24_3
        try clear hfz28_0
        try clear hfz28_1
        try clear hfz28_2
        try clear hfz28_3
        try clear hfz31_0
        try clear hfz31_1
        try clear hfz31_2
        try clear hfz31_3
        try clear hfz32_0
        try clear hfz32_1
        try clear hfz32_2
        try clear hfz32_3
        try clear hfz6_0
        try clear hfz6_1
        try clear hfz6_2
        try clear hfz6_3
        try clear hfz8_0
        try clear hfz8_1
        try clear hfz8_2
        try clear hfz8_3
        try clear hx183_0
        try clear hx184_0
        try clear p183
        try clear p184
        try clear p2
        try clear q183
        try clear q184
        obtain ⟨kq, x60_26, rfl, HA, HJ26, BK182, HB⟩ := hcut
        cases kq with
        | zero => exact absurd HA.out (by simp [aumbryref16_Check.j2])
        | succ kj26 =>
         have H := HA.out
         clear HA
         simp only [aumbryref16_Check.j2] at H
         by_cases c33 : x60_26 = true
         ·subst c33
          have H1 : (some 1) = some r := by rw [if_pos rfl] at H; exact H
          clear H
          have H := H1
          clear H1
          obtain rfl := Option.some.inj H
          go_wp2
          go_ret
          exact ⟨by first | rfl | (simp [errW_none, errW_some] <;> rfl) | (simp [*, errW_none, errW_some] <;> rfl), by repeat (first | (with_reducible first | exact HB.out | apply below_alloc | apply pw_below_drewN | apply below_drew1 | refine below_set ?_ GE182.out) | exact HB.out)⟩
         ·replace c33 := Bool.eq_false_iff.mpr c33
          subst c33
          have H1 : (aumbryref16_Check.l0 kj26 (wrap64 (x3_2 + 1)) a0_0 a0_1 a0_2 l0_3) = some r := by rw [if_neg (show ¬ (false = true) by decide)] at H; exact H
          clear H
          have H := H1
          clear H1
          have H' := Aside0.mk H
          clear H
          go_wp2
          go_roundg kj26
          case measure => have := HJ1.out; have := HK2.out; have := HJ26.out; omega
          case rel => exact ⟨(wrap64 (x3_2 + 1)), (by first | rfl | (simp; done) | (simp [*]; done)), H', ⟨by have := HJ1.out; have := HK2.out; have := HJ26.out; omega⟩, ⟨by (with_reducible repeat (first | refine blk_drewN ?_ _ | refine blk_drew ?_ | refine blk_alloc ?_ _)); exact BK182.out⟩, ⟨by repeat (first | (with_reducible first | exact HB.out | apply below_alloc | apply pw_below_drewN | apply below_drew1 | refine below_set ?_ GE182.out) | exact HB.out)⟩⟩
      ·rw [if_neg c26] at H
       have c26b0 : decide (x3_2 < (l0_3.length : Int)) = false := decide_eq_false c26
       clear c26
       have HC34 := Aside0.mk H
       clear H
       have hcz35_0 : wr.cell? ⟨gb182, 0, none⟩ = some (.int .i64 a0_0) := (blk_cell BK182.out 0).trans rfl
       have hcz35_1 : wr.cell? ⟨gb182, 1, none⟩ = some (.string a0_1) := (blk_cell BK182.out 1).trans rfl
       have hcz35_2 : wr.cell? ⟨gb182, 2, none⟩ = some (.int .i64 a0_2) := (blk_cell BK182.out 2).trans rfl
       have hcz35_3 : wr.cell? ⟨gb182, 3, none⟩ = some (.slice A0_3 l0_3.length c0_3) := (blk_cell BK182.out 3).trans rfl
       have hfz35_0 := blk_frozen BK182.out 0
       have hfz35_1 := blk_frozen BK182.out 1
       have hfz35_2 := blk_frozen BK182.out 2
       have hfz35_3 := blk_frozen BK182.out 3
       go_upto_region 8 with (fail)
       go_cut [74] (fun v74 wc => ∃ (kq : Nat) (x74_33 : Bool), v74 = .bool x74_33 ∧ Aside0 (aumbryref16_Check.j3 kq x74_33 = some r) ∧ Aside0 (kq ≤ k2) ∧ Aside0 (wc.heap[gb182]? = some (.cells #[.int .i64 a0_0, .string a0_1, .int .i64 a0_2, (.slice A0_3 l0_3.length c0_3)] 25 (0, 0))) ∧ Aside0 (Below w.heap.size w wc))
       case first =>
        have H := HC34.out
        clear HC34
        by_cases c36 : a0_0 = 2
        ·rw [if_pos c36] at H
         have c36b0 : (a0_0 == 2) = true := beq_iff_eq.mpr c36
         have c36b1 : (a0_0 != 2) = false := bne_eq_false_iff_eq.mpr c36
         clear c36
         (first | rw [c36b0] | (simp only [i64_w, i32_w]; rw [c36b0]) | skip)
         by_cases c37 : a0_2 = 0
         ·rw [if_pos c37] at H
          have c37b0 : (a0_2 == 0) = true := beq_iff_eq.mpr c37
          have c37b1 : (a0_2 != 0) = false := bne_eq_false_iff_eq.mpr c37
          clear c37
          have H' := Aside0.mk H
          clear H
          have hcz38_0 : wr.cell? ⟨gb182, 0, none⟩ = some (.int .i64 a0_0) := (blk_cell BK182.out 0).trans rfl
          have hcz38_1 : wr.cell? ⟨gb182, 1, none⟩ = some (.string a0_1) := (blk_cell BK182.out 1).trans rfl
          have hcz38_2 : wr.cell? ⟨gb182, 2, none⟩ = some (.int .i64 a0_2) := (blk_cell BK182.out 2).trans rfl
          have hcz38_3 : wr.cell? ⟨gb182, 3, none⟩ = some (.slice A0_3 l0_3.length c0_3) := (blk_cell BK182.out 3).trans rfl
          have hfz38_0 := blk_frozen BK182.out 0
          have hfz38_1 := blk_frozen BK182.out 1
          have hfz38_2 := blk_frozen BK182.out 2
          have hfz38_3 := blk_frozen BK182.out 3
          go_wp2
          go_meet
          case rel => exact ⟨_, (decide ((l0_3.length : Int) > 0)), (by first | rfl | (simp; done) | (simp [*]; done)), H', ⟨by have := HJ1.out; have := HK2.out; first | omega | exact Nat.le_refl _⟩, ⟨by (with_reducible repeat (first | refine blk_drewN ?_ _ | refine blk_drew ?_ | refine blk_alloc ?_ _)); exact BK182.out⟩, ⟨by repeat (first | (with_reducible first | exact HB.out | apply below_alloc | apply pw_below_drewN | apply below_drew1 | refine below_set ?_ GE182.out) | exact HB.out)⟩⟩
         ·rw [if_neg c37] at H
          have c37b0 : (a0_2 == 0) = false := beq_eq_false_iff_ne.mpr c37
          have c37b1 : (a0_2 != 0) = true := bne_iff_ne.mpr c37
          have H' := Aside0.mk H
          clear H
          have hcz39_0 : wr.cell? ⟨gb182, 0, none⟩ = some (.int .i64 a0_0) := (blk_cell BK182.out 0).trans rfl
          have hcz39_1 : wr.cell? ⟨gb182, 1, none⟩ = some (.string a0_1) := (blk_cell BK182.out 1).trans rfl
          have hcz39_2 : wr.cell? ⟨gb182, 2, none⟩ = some (.int .i64 a0_2) := (blk_cell BK182.out 2).trans rfl
          have hcz39_3 : wr.cell? ⟨gb182, 3, none⟩ = some (.slice A0_3 l0_3.length c0_3) := (blk_cell BK182.out 3).trans rfl
          have hfz39_0 := blk_frozen BK182.out 0
          have hfz39_1 := blk_frozen BK182.out 1
          have hfz39_2 := blk_frozen BK182.out 2
          have hfz39_3 := blk_frozen BK182.out 3
          go_wp2
          go_meet
          case rel => exact ⟨_, (true), (by first | rfl | (simp; done) | (simp [*]; done)), H', ⟨by have := HJ1.out; have := HK2.out; first | omega | exact Nat.le_refl _⟩, ⟨by (with_reducible repeat (first | refine blk_drewN ?_ _ | refine blk_drew ?_ | refine blk_alloc ?_ _)); exact BK182.out⟩, ⟨by repeat (first | (with_reducible first | exact HB.out | apply below_alloc | apply pw_below_drewN | apply below_drew1 | refine below_set ?_ GE182.out) | exact HB.out)⟩⟩
        ·rw [if_neg c36] at H
         have c36b0 : (a0_0 == 2) = false := beq_eq_false_iff_ne.mpr c36
         have c36b1 : (a0_0 != 2) = true := bne_iff_ne.mpr c36
         (first | rw [c36b0] | (simp only [i64_w, i32_w]; rw [c36b0]) | skip)
         have H' := Aside0.mk H
         clear H
         have hcz40_0 : wr.cell? ⟨gb182, 0, none⟩ = some (.int .i64 a0_0) := (blk_cell BK182.out 0).trans rfl
         have hcz40_1 : wr.cell? ⟨gb182, 1, none⟩ = some (.string a0_1) := (blk_cell BK182.out 1).trans rfl
         have hcz40_2 : wr.cell? ⟨gb182, 2, none⟩ = some (.int .i64 a0_2) := (blk_cell BK182.out 2).trans rfl
         have hcz40_3 : wr.cell? ⟨gb182, 3, none⟩ = some (.slice A0_3 l0_3.length c0_3) := (blk_cell BK182.out 3).trans rfl
         have hfz40_0 := blk_frozen BK182.out 0
         have hfz40_1 := blk_frozen BK182.out 1
         have hfz40_2 := blk_frozen BK182.out 2
         have hfz40_3 := blk_frozen BK182.out 3
         go_wp2
         go_meet
         case rel => exact ⟨_, (false), (by first | rfl | (simp; done) | (simp [*]; done)), H', ⟨by have := HJ1.out; have := HK2.out; first | omega | exact Nat.le_refl _⟩, ⟨by (with_reducible repeat (first | refine blk_drewN ?_ _ | refine blk_drew ?_ | refine blk_alloc ?_ _)); exact BK182.out⟩, ⟨by repeat (first | (with_reducible first | exact HB.out | apply below_alloc | apply pw_below_drewN | apply below_drew1 | refine below_set ?_ GE182.out) | exact HB.out)⟩⟩
       case rest =>
        clear HC34
        try clear c1
        try clear p1
        try clear q1
        try clear hx1
        try clear c2
        try clear p2
        try clear c3
        try clear c4
        try clear c4b0
        try clear c4b1
        try clear c5
        try clear c5b0
        try clear c5b1
        try clear p6
        try clear c7
        try clear c7b0
        try clear c7b1
        try clear c9
        try clear c9b0
        try clear c11
        try clear c11b0
        try clear c14
        try clear c14b0
        try clear c14b1
        try clear c15
        try clear c15b0
        try clear c15b1
        try clear c17
        try clear c17b0
        try clear c17b1
        try clear c18
        try clear p18
        try clear q18
        try clear hx18
        try clear c19
        try clear c19b0
        try clear c21
        try clear c21b0
        try clear c25
        try clear c26
        try clear c26b0
        try clear c29
        try clear c29b0
        try clear c30
        try clear c30b0
        try clear c33
        try clear c36
        try clear c36b0
        try clear c36b1
        try clear c37
        try clear c37b0
        try clear c37b1
        try clear hcz10_0
        try clear hcz10_1
        try clear hcz10_2
        try clear hcz10_3
        try clear hcz12_0
        try clear hcz12_1
        try clear hcz12_2
        try clear hcz12_3
        try clear hcz13_0
        try clear hcz13_1
        try clear hcz13_2
        try clear hcz13_3
        try clear hcz16_0
        try clear hcz16_1
        try clear hcz16_2
        try clear hcz16_3
        try clear hcz18_0
        try clear hcz18_1
        try clear hcz18_2
        try clear hcz18_3
        try clear hcz20_0
        try clear hcz20_1
        try clear hcz20_2
        try clear hcz20_3
        try clear hcz22_0
        try clear hcz22_1
        try clear hcz22_2
        try clear hcz22_3
        try clear hcz23_0
        try clear hcz23_1
        try clear hcz23_2
        try clear hcz23_3
        try clear hcz24_0
        try clear hcz24_1
        try clear hcz24_2
        try clear hcz24_3
        try clear hcz28_0
        try clear hcz28_1
        try clear hcz28_2
        try clear hcz28_3
        try clear hcz31_0
        try clear hcz31_1
        try clear hcz31_2
        try clear hcz31_3
        try clear hcz32_0
        try clear hcz32_1
        try clear hcz32_2
        try clear hcz32_3
        try clear hcz35_0
        try clear hcz35_1
        try clear hcz35_2
        try clear hcz35_3
        try clear hcz38_0
        try clear hcz38_1
        try clear hcz38_2
        try clear hcz38_3
        try clear hcz39_0
        try clear hcz39_1
        try clear hcz39_2
        try clear hcz39_3
        try clear hcz40_0
        try clear hcz40_1
        try clear hcz40_2
        try clear hcz40_3
        try clear hcz6_0
        try clear hcz6_1
        try clear hcz6_2
        try clear hcz6_3
        try clear hcz8_0
        try clear hcz8_1
        try clear hcz8_2
        try clear hcz8_3
        try clear hfz10_0
        try clear hfz10_1
        try clear hfz10_2
        try clear hfz10_3
        try clear hfz12_0
        try clear hfz12_1
        try clear hfz12_2
        try clear hfz12_3
        try clear hfz13_0
        try clear hfz13_1
        try clear hfz13_2
        try clear hfz13_3
        try clear hfz16_0
        try clear hfz16_1
        try clear hfz16_2
        try clear hfz16_3
        try clear hfz18_0
        try clear hfz18_1
        try clear hfz18_2
        try clear hfz18_3
        try clear hfz20_0
        try clear hfz20_1
        try clear hfz20_2
        try clear hfz20_3
        try clear hfz22_0
        try clear hfz22_1
        try clear hfz22_2
        try clear hfz22_3
        try clear hfz23_0
        try clear hfz23_1
        try clear hfz23_2
        try clear hfz23_3
        try clear hfz24_0
        try clear hfz24_1
        try clear hfz24_2
        try clear hfz24_3
        try clear hfz28_0
        try clear hfz28_1
        try clear hfz28_2
        try clear hfz28_3
        try clear hfz31_0
        try clear hfz31_1
        try clear hfz31_2
        try clear hfz31_3
        try clear hfz32_0
        try clear hfz32_1
        try clear hfz32_2
        try clear hfz32_3
        try clear hfz35_0
        try clear hfz35_1
        try clear hfz35_2
        try clear hfz35_3
        try clear hfz38_0
        try clear hfz38_1
        try clear hfz38_2
        try clear hfz38_3
        try clear hfz39_0
        try clear hfz39_1
        try clear hfz39_2
        try clear hfz39_3
        try clear hfz40_0
        try clear hfz40_1
        try clear hfz40_2
        try clear hfz40_3
        try clear hfz6_0
        try clear hfz6_1
        try clear hfz6_2
        try clear hfz6_3
        try clear hfz8_0
        try clear hfz8_1
        try clear hfz8_2
        try clear hfz8_3
        try clear hx183_0
        try clear hx184_0
        try clear p1
        try clear p18
        try clear p183
        try clear p184
        try clear p2
        try clear q1
        try clear q18
        try clear q183
        try clear q184
        obtain ⟨kq, x74_33, rfl, HA, HJ33, BK182, HB⟩ := hcut
        cases kq with
        | zero => exact absurd HA.out (by simp [aumbryref16_Check.j3])
        | succ kj33 =>
         have H := HA.out
         clear HA
         simp only [aumbryref16_Check.j3] at H
         by_cases c41 : x74_33 = true
         ·subst c41
          have H1 : (some 1) = some r := by rw [if_pos rfl] at H; exact H
          clear H
          have H := H1
          clear H1
          obtain rfl := Option.some.inj H
          go_wp2
          go_ret
          exact ⟨by first | rfl | (simp [errW_none, errW_some] <;> rfl) | (simp [*, errW_none, errW_some] <;> rfl), by repeat (first | (with_reducible first | exact HB.out | apply below_alloc | apply pw_below_drewN | apply below_drew1 | refine below_set ?_ GE182.out) | exact HB.out)⟩
         ·replace c41 := Bool.eq_false_iff.mpr c41
          subst c41
          have H1 : (some 0) = some r := by rw [if_neg (show ¬ (false = true) by decide)] at H; exact H
          clear H
          have H := H1
          clear H1
          obtain rfl := Option.some.inj H
          go_wp2
          go_ret
          exact ⟨by first | rfl | (simp [errW_none, errW_some] <;> rfl) | (simp [*, errW_none, errW_some] <;> rfl), by repeat (first | (with_reducible first | exact HB.out | apply below_alloc | apply pw_below_drewN | apply below_drew1 | refine below_set ?_ GE182.out) | exact HB.out)⟩

end Go.Proofs.Ytoeegdpkmdgkdaa.PAll
