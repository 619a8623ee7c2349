-- LAID BY A PROGRAM OF THIS SESSION (wip/tools: the kit's print with changes of our own)
import Derived.Test.YtoeegdpkmdgkdaaPAllx0
import Derived.Test.YtoeegdpkmdgkdaaPAllx10
import Derived.Test.YtoeegdpkmdgkdaaPAllx11
import Derived.Test.YtoeegdpkmdgkdaaPAllx15
namespace Go.Proofs.Ytoeegdpkmdgkdaa.PAll
open Go.RowKit Go.Proofs.YtoeegdpkmdgkdaaW.PrintWords Go.Proofs.YtoeegdpkmdgkdaaW.PrintLast Go.Proofs.YtoeegdpkmdgkdaaW.PrintMore
attribute [local go_sem] min2_int min_two   -- for this text's walks alone
set_option linter.unusedVariables false
set_option linter.unusedSimpArgs false

/-! ### aumbryref16_Unsnap: function 24 -/
mutual
def aumbryref16_Unsnap.l0 : Nat → List (List Int) → List Int → Int → Option ((List (S61)) × Int)
 | 0, _, _, _ => none
 | k + 1, x0, x4, x5 => if x5 < 2 then (if 0 ≤ x5 then (if x5 < (x0.length : Int) then (if ((rd_L2 x0 x5).length : Int) > 4096 then (aumbryref16_Unsnap.j1 k x0 x4 x5 true) else (if x5 > 0 then (if ((rd_L2 x0 x5).length : Int) > 0 then (if 0 ≤ (wrap64 (x5 - 1)) then (if (wrap64 (x5 - 1)) < (x0.length : Int) then (aumbryref16_Unsnap.j1 k x0 x4 x5 (decide (((rd_L2 x0 (wrap64 (x5 - 1))).length : Int) < 4096))) else (none)) else (none)) else (aumbryref16_Unsnap.j1 k x0 x4 x5 false)) else (aumbryref16_Unsnap.j1 k x0 x4 x5 false))) else (none)) else (none)) else (if (x4.length : Int) < 2 then (some (([] : List (S61)), 160)) else (if 0 < (x4.length : Int) then (if 1 < (x4.length : Int) then (if 2 ≤ (x4.length : Int) then (aumbryref16_Unsnap.l1 k (x4.drop 2) (wrap64 ((wrap64 (256 * (wrap64 (rd x4 0)))) + (wrap64 (rd x4 1)))) ([] : List (S61)) 0) else (none)) else (none)) else (none)))
def aumbryref16_Unsnap.j1 : Nat → List (List Int) → List Int → Int → Bool → Option ((List (S61)) × Int)
 | 0, _, _, _, _ => none
 | k + 1, x0, x4, x5, x47 => if x47 = true then (some (([] : List (S61)), 160)) else (if 0 ≤ x5 then (if x5 < (x0.length : Int) then (if x4.length + (rd_L2 x0 x5).length < 140737488355328 then (aumbryref16_Unsnap.l0 k x0 (x4 ++ (rd_L2 x0 x5)) (wrap64 (x5 + 1))) else (none)) else (none)) else (none))
def aumbryref16_Unsnap.l1 : Nat → List Int → Int → List (S61) → Int → Option ((List (S61)) × Int)
 | 0, _, _, _, _ => none
 | k + 1, x4, x6, x7, x8 => if x8 < x6 then (if (x4.length : Int) < 4 then (some (([] : List (S61)), 160)) else ((aumbryref11_Number.f x4).bind fun t411 => (if 4 ≤ (x4.length : Int) then ((aumbryref16_next.f k (x4.drop 4)).bind fun bt417 => (if bt417.2.2.2.2.2 = true then (if t411 > 2147483647 then (aumbryref16_Unsnap.j3 k x6 x7 x8 t411 bt417.2.2.2.2.1 true bt417.1 bt417.2.1 bt417.2.2.1 bt417.2.2.2.1) else (aumbryref16_Unsnap.j3 k x6 x7 x8 t411 bt417.2.2.2.2.1 (bt417.1 != 1) bt417.1 bt417.2.1 bt417.2.2.1 bt417.2.2.2.1)) else (aumbryref16_Unsnap.j3 k x6 x7 x8 t411 bt417.2.2.2.2.1 true bt417.1 bt417.2.1 bt417.2.2.1 bt417.2.2.2.1))) else (none)))) else ((aumbryref16_May.f k x7).bind fun t431 => (if t431 = true then (aumbryref16_Unsnap.j4 k x7 (decide ((x4.length : Int) > 0))) else (aumbryref16_Unsnap.j4 k x7 true)))
def aumbryref16_Unsnap.j3 : Nat → Int → List (S61) → Int → Int → List Int → Bool → Int → ByteArray → Int → List Int → Option ((List (S61)) × Int)
 | 0, _, _, _, _, _, _, _, _, _, _ => none
 | k + 1, x6, x7, x8, x9, x11, x96, x428000, x428001, x428002, x428003 => if x96 = true then (some (([] : List (S61)), 160)) else (if x7.length < 2513169434916 then (aumbryref16_Unsnap.l1 k x11 x6 (x7 ++ [(⟨x428001, x428002, wrap64 (x9), x428003⟩ : S61)]) (wrap64 (x8 + 1))) else (none))
def aumbryref16_Unsnap.j4 : Nat → List (S61) → Bool → Option ((List (S61)) × Int)
 | 0, _, _ => none
 | k + 1, x7, x118 => if x118 = true then (some (([] : List (S61)), 160)) else (some (x7, 0))
end
def aumbryref16_Unsnap.f (k : Nat) (l0 : List (List Int)) : Option ((List (S61)) × Int) := if (l0.length : Int) = 2 then (aumbryref16_Unsnap.l0 k l0 ([] : List Int) 0) else (some (([] : List (S61)), 160))
theorem aumbryref16_Unsnap.mono_l : ∀ k, (∀ y0 y1 y2, LeO (aumbryref16_Unsnap.l0 k y0 y1 y2) (aumbryref16_Unsnap.l0 (k + 1) y0 y1 y2)) ∧ (∀ y0 y1 y2 y3, LeO (aumbryref16_Unsnap.j1 k y0 y1 y2 y3) (aumbryref16_Unsnap.j1 (k + 1) y0 y1 y2 y3)) ∧ (∀ y0 y1 y2 y3, LeO (aumbryref16_Unsnap.l1 k y0 y1 y2 y3) (aumbryref16_Unsnap.l1 (k + 1) y0 y1 y2 y3)) ∧ (∀ y0 y1 y2 y3 y4 y5 y6 y7 y8 y9, LeO (aumbryref16_Unsnap.j3 k y0 y1 y2 y3 y4 y5 y6 y7 y8 y9) (aumbryref16_Unsnap.j3 (k + 1) y0 y1 y2 y3 y4 y5 y6 y7 y8 y9)) ∧ (∀ y0 y1, LeO (aumbryref16_Unsnap.j4 k y0 y1) (aumbryref16_Unsnap.j4 (k + 1) y0 y1))
 | 0 => ⟨fun _ _ _ r h => by simp [aumbryref16_Unsnap.l0] at h, fun _ _ _ _ r h => by simp [aumbryref16_Unsnap.j1] at h, fun _ _ _ _ r h => by simp [aumbryref16_Unsnap.l1] at h, fun _ _ _ _ _ _ _ _ _ _ r h => by simp [aumbryref16_Unsnap.j3] at h, fun _ _ r h => by simp [aumbryref16_Unsnap.j4] at h⟩
 | k + 1 => by
  obtain ⟨ih0, ih1, ih2, ih3, ih4⟩ := aumbryref16_Unsnap.mono_l k
  refine ⟨?_, ?_, ?_, ?_, ?_⟩
  ·intro y0 y1 y2
   unfold aumbryref16_Unsnap.l0
   repeat' first
   | (with_reducible exact ih0 _ _ _)
   | (with_reducible exact ih1 _ _ _ _)
   | (with_reducible exact ih2 _ _ _ _)
   | (with_reducible exact ih3 _ _ _ _ _ _ _ _ _ _)
   | (with_reducible exact ih4 _ _)
   | (with_reducible exact aumbryref16_May.mono _ _)
   | (with_reducible exact aumbryref16_next.mono _ _)
   | (with_reducible exact LeO.refl _)
   | (with_reducible exact LeO.none _)
   | (with_reducible refine LeO.ite ?_ ?_)
   | (with_reducible refine LeO.bind ?_ (fun _ => ?_))
   | exact ih0 _ _ _
   | exact ih1 _ _ _ _
   | exact ih2 _ _ _ _
   | exact ih3 _ _ _ _ _ _ _ _ _ _
   | exact ih4 _ _
   | exact aumbryref16_May.mono _ _
   | exact aumbryref16_next.mono _ _
   | exact LeO.none _
   | refine LeO.ite ?_ ?_
   | refine LeO.bind ?_ (fun _ => ?_)
  ·intro y0 y1 y2 y3
   unfold aumbryref16_Unsnap.j1
   repeat' first
   | (with_reducible exact ih0 _ _ _)
   | (with_reducible exact ih1 _ _ _ _)
   | (with_reducible exact ih2 _ _ _ _)
   | (with_reducible exact ih3 _ _ _ _ _ _ _ _ _ _)
   | (with_reducible exact ih4 _ _)
   | (with_reducible exact aumbryref16_May.mono _ _)
   | (with_reducible exact aumbryref16_next.mono _ _)
   | (with_reducible exact LeO.refl _)
   | (with_reducible exact LeO.none _)
   | (with_reducible refine LeO.ite ?_ ?_)
   | (with_reducible refine LeO.bind ?_ (fun _ => ?_))
   | exact ih0 _ _ _
   | exact ih1 _ _ _ _
   | exact ih2 _ _ _ _
   | exact ih3 _ _ _ _ _ _ _ _ _ _
   | exact ih4 _ _
   | exact aumbryref16_May.mono _ _
   | exact aumbryref16_next.mono _ _
   | exact LeO.none _
   | refine LeO.ite ?_ ?_
   | refine LeO.bind ?_ (fun _ => ?_)
  ·intro y0 y1 y2 y3
   unfold aumbryref16_Unsnap.l1
   repeat' first
   | (with_reducible exact ih0 _ _ _)
   | (with_reducible exact ih1 _ _ _ _)
   | (with_reducible exact ih2 _ _ _ _)
   | (with_reducible exact ih3 _ _ _ _ _ _ _ _ _ _)
   | (with_reducible exact ih4 _ _)
   | (with_reducible exact aumbryref16_May.mono _ _)
   | (with_reducible exact aumbryref16_next.mono _ _)
   | (with_reducible exact LeO.refl _)
   | (with_reducible exact LeO.none _)
   | (with_reducible refine LeO.ite ?_ ?_)
   | (with_reducible refine LeO.bind ?_ (fun _ => ?_))
   | exact ih0 _ _ _
   | exact ih1 _ _ _ _
   | exact ih2 _ _ _ _
   | exact ih3 _ _ _ _ _ _ _ _ _ _
   | exact ih4 _ _
   | exact aumbryref16_May.mono _ _
   | exact aumbryref16_next.mono _ _
   | exact LeO.none _
   | refine LeO.ite ?_ ?_
   | refine LeO.bind ?_ (fun _ => ?_)
  ·intro y0 y1 y2 y3 y4 y5 y6 y7 y8 y9
   unfold aumbryref16_Unsnap.j3
   repeat' first
   | (with_reducible exact ih0 _ _ _)
   | (with_reducible exact ih1 _ _ _ _)
   | (with_reducible exact ih2 _ _ _ _)
   | (with_reducible exact ih3 _ _ _ _ _ _ _ _ _ _)
   | (with_reducible exact ih4 _ _)
   | (with_reducible exact aumbryref16_May.mono _ _)
   | (with_reducible exact aumbryref16_next.mono _ _)
   | (with_reducible exact LeO.refl _)
   | (with_reducible exact LeO.none _)
   | (with_reducible refine LeO.ite ?_ ?_)
   | (with_reducible refine LeO.bind ?_ (fun _ => ?_))
   | exact ih0 _ _ _
   | exact ih1 _ _ _ _
   | exact ih2 _ _ _ _
   | exact ih3 _ _ _ _ _ _ _ _ _ _
   | exact ih4 _ _
   | exact aumbryref16_May.mono _ _
   | exact aumbryref16_next.mono _ _
   | exact LeO.none _
   | refine LeO.ite ?_ ?_
   | refine LeO.bind ?_ (fun _ => ?_)
  ·intro y0 y1
   unfold aumbryref16_Unsnap.j4
   repeat' first
   | (with_reducible exact ih0 _ _ _)
   | (with_reducible exact ih1 _ _ _ _)
   | (with_reducible exact ih2 _ _ _ _)
   | (with_reducible exact ih3 _ _ _ _ _ _ _ _ _ _)
   | (with_reducible exact ih4 _ _)
   | (with_reducible exact aumbryref16_May.mono _ _)
   | (with_reducible exact aumbryref16_next.mono _ _)
   | (with_reducible exact LeO.refl _)
   | (with_reducible exact LeO.none _)
   | (with_reducible refine LeO.ite ?_ ?_)
   | (with_reducible refine LeO.bind ?_ (fun _ => ?_))
   | exact ih0 _ _ _
   | exact ih1 _ _ _ _
   | exact ih2 _ _ _ _
   | exact ih3 _ _ _ _ _ _ _ _ _ _
   | exact ih4 _ _
   | exact aumbryref16_May.mono _ _
   | exact aumbryref16_next.mono _ _
   | exact LeO.none _
   | refine LeO.ite ?_ ?_
   | refine LeO.bind ?_ (fun _ => ?_)
theorem aumbryref16_Unsnap.mono : ∀ a0 k, LeO (aumbryref16_Unsnap.f k a0) (aumbryref16_Unsnap.f (k + 1) a0) := by
 intro a0 k
 obtain ⟨ih0, ih1, ih2, ih3, ih4⟩ := aumbryref16_Unsnap.mono_l k
 unfold aumbryref16_Unsnap.f
 repeat' first
   | (with_reducible exact ih0 _ _ _)
   | (with_reducible exact ih1 _ _ _ _)
   | (with_reducible exact ih2 _ _ _ _)
   | (with_reducible exact ih3 _ _ _ _ _ _ _ _ _ _)
   | (with_reducible exact ih4 _ _)
   | (with_reducible exact aumbryref16_May.mono _ _)
   | (with_reducible exact aumbryref16_next.mono _ _)
   | (with_reducible exact LeO.refl _)
   | (with_reducible exact LeO.none _)
   | (with_reducible refine LeO.ite ?_ ?_)
   | (with_reducible refine LeO.bind ?_ (fun _ => ?_))
   | exact ih0 _ _ _
   | exact ih1 _ _ _ _
   | exact ih2 _ _ _ _
   | exact ih3 _ _ _ _ _ _ _ _ _ _
   | exact ih4 _ _
   | exact aumbryref16_May.mono _ _
   | exact aumbryref16_next.mono _ _
   | exact LeO.none _
   | refine LeO.ite ?_ ?_
   | refine LeO.bind ?_ (fun _ => ?_)
set_option maxHeartbeats 8000000 in
set_option maxRecDepth 100000 in
theorem aumbryref16_Unsnap.calls (k : Nat) (A0 : Option Addr) (c0 : Nat) (l0 : List (List Int)) (r1 : List (S61)) (r2 : Int) (w : World) (hr0 : Kd.C (Kd.slice 5 (Kd.int .u8)) w A0 l0.length l0) (hc0 : l0.length ≤ c0) (h : aumbryref16_Unsnap.f k l0 = some (r1, r2)) :
  Calls Try.prog 24 #[.slice A0 l0.length c0] w fun e w' => ∃ v0_ : Value, e = .returned (.tuple #[v0_, .int .i64 r2]) ∧ Kd.N k61 61 w' w.heap.size (fun k_ => (w.heap.size ≤ k_)) v0_ r1 ∧ Below w.heap.size w w' := by
 have hu25 := Try.underlying25
 have hu61 := Try.underlying61
 have HR0 := Aside0.mk hr0
 have HC0 := Aside0.mk hc0
 clear hr0 hc0
 have HB := Aside0.mk (Below.refl w.heap.size w)
 have H : (if (l0.length : Int) = 2 then (aumbryref16_Unsnap.l0 k l0 ([] : List Int) 0) else (some (([] : List (S61)), 160))) = some (r1, r2) := h
 clear h
 by_cases c2 : (l0.length : Int) = 2
 ·rw [if_pos c2] at H
  have c2b0 : ((l0.length : Int) == 2) = true := beq_iff_eq.mpr c2
  have c2b1 : ((l0.length : Int) != 2) = false := bne_eq_false_iff_eq.mpr c2
  clear c2
  have H' := Aside0.mk H
  clear H
  go_enter Try.func24, Try.ntmps24
  go_wp2
  repeat (go_quiet (fail); try go_wp2)
  go_loopg [4, 5] k (fun kq v4 v5 w' => ∃ (x4_1 : List Int) (x5_1 : Int), v5 = .int .i64 x5_1 ∧ Aside0 (aumbryref16_Unsnap.l0 kq l0 x4_1 x5_1 = some (r1, r2)) ∧ Aside0 (kq ≤ k) ∧ Aside0 (Kd.R (Kd.int .u8) 5 w' w.heap.size (fun k_ => (w.heap.size ≤ k_)) v4 x4_1) ∧ Aside0 (Below w.heap.size w w'))
  case atStart => exact ⟨(([] : List Int)), (0), (by first | rfl | (simp; done) | (simp [*]; done)), H', ⟨Nat.le_refl _⟩, ⟨by first | exact Kd.R_nil _ _ _ _ _ | exact Kd.N_nil _ _ _ _ _ | exact Kd.V_nil _ _ _ _ _ | exact Kd.Q_nil _ _ _ _ _ | exact Kd.S_nil _ _ _ _ _⟩, ⟨by repeat (first | (with_reducible first | exact HB.out | apply below_alloc | apply pw_below_drewN | apply below_drew1) | exact HB.out)⟩⟩
  case round =>
   clear H'
   try clear c2
   try clear c2b0
   try clear c2b1
   try clear p2
   obtain ⟨x4_1, x5_1, rfl, HA, HK1, HO_4, HB⟩ := hrel
   cases gk with
   | zero => exact absurd HA.out (by simp [aumbryref16_Unsnap.l0])
   | succ k1 =>
    have H := HA.out
    clear HA
    simp only [aumbryref16_Unsnap.l0] at H
    by_cases c3 : x5_1 < 2
    ·rw [if_pos c3] at H
     have c3b0 : decide (x5_1 < 2) = true := decide_eq_true c3
     clear c3
     have HC4 := Aside0.mk H
     clear H
     go_upto_region 7 with (fail)
     repeat (go_quiet (fail); go_upto_region 7 with (fail))
     go_cut [47] (fun v47 wc => ∃ (kq : Nat) (x47_3 : Bool), v47 = .bool x47_3 ∧ Aside0 (aumbryref16_Unsnap.j1 kq l0 x4_1 x5_1 x47_3 = some (r1, r2)) ∧ Aside0 (kq ≤ k1) ∧ Aside0 (Kd.R (Kd.int .u8) 5 wc w.heap.size (fun k_ => (w.heap.size ≤ k_)) u4 x4_1) ∧ Aside0 (Below w.heap.size w wc))
     case first =>
      have H := HC4.out
      clear HC4
      by_cases c5 : 0 ≤ x5_1
      ·rw [if_pos c5] at H
       have c5b0 : decide (0 ≤ x5_1) = true := decide_eq_true c5
       clear c5
       (first | rw [c5b0] | (simp only [i64_w, i32_w]; rw [c5b0]) | skip)
       by_cases c6 : x5_1 < (l0.length : Int)
       ·rw [if_pos c6] at H
        have c6b0 : decide (x5_1 < (l0.length : Int)) = true := decide_eq_true c6
        clear c6
        by_cases c7 : ((rd_L2 l0 x5_1).length : Int) > 4096
        ·rw [if_pos c7] at H
         have c7b0 : decide (4096 < ((rd_L2 l0 x5_1).length : Int)) = true := decide_eq_true c7
         have c7b1 : decide (4096 < (rd_L2 l0 x5_1).length) = true := decide_eq_true (by omega)
         clear c7
         have H' := Aside0.mk H
         clear H
         have p397 : 0 ≤ (x5_1 : Int) := of_decide_eq_true (by first | (with_reducible assumption) | assumption)
         have q397 : x5_1 < (l0.length : Int) := of_decide_eq_true (by first | (with_reducible assumption) | assumption)
         obtain ⟨ad397, A397_0, c397_0, e397, hx397_0, hl397_0, hi397_0⟩ := at_L2 HR0.out x5_1 p397 q397
         cases e397
         replace hx397_0 := (HB.out.cell (World.block_lt_of_cell? w _ hx397_0)).trans hx397_0
         have HR397_0 := Aside0.mk hi397_0
         have HC397_0 := Aside0.mk hl397_0
         clear hi397_0 hl397_0
         replace p397 := eq_true p397
         replace q397 := eq_true q397
         go_wp2
         repeat (go_quiet (fail); try go_wp2)
         go_meet
         case rel => exact ⟨_, (true), (by first | rfl | (simp; done) | (simp [*]; done)), H', ⟨by have := HK1.out; first | omega | exact Nat.le_refl _⟩, ⟨by (with_reducible repeat (first | apply Kd.R_alloc | apply Kd.R_drewN | apply Kd.R_drew)); exact HO_4.out⟩, ⟨by repeat (first | (with_reducible first | exact HB.out | apply below_alloc | apply pw_below_drewN | apply below_drew1) | exact HB.out)⟩⟩
        ·rw [if_neg c7] at H
         have c7b0 : decide (4096 < ((rd_L2 l0 x5_1).length : Int)) = false := decide_eq_false c7
         have c7b1 : decide (4096 < (rd_L2 l0 x5_1).length) = false := decide_eq_false (by omega)
         clear c7
         by_cases c8 : x5_1 > 0
         ·rw [if_pos c8] at H
          have c8b0 : decide (0 < x5_1) = true := decide_eq_true c8
          clear c8
          by_cases c9 : ((rd_L2 l0 x5_1).length : Int) > 0
          ·rw [if_pos c9] at H
           have c9b0 : decide (0 < ((rd_L2 l0 x5_1).length : Int)) = true := decide_eq_true c9
           have c9b1 : decide (0 < (rd_L2 l0 x5_1).length) = true := decide_eq_true (by omega)
           clear c9
           obtain ⟨ji10, hji10⟩ : ∃ j_ : Int, (wrap64 (x5_1 - 1)) = j_ := ⟨_, rfl⟩
           replace H : (if 0 ≤ (ji10) then (if (ji10) < (l0.length : Int) then (aumbryref16_Unsnap.j1 k1 l0 x4_1 x5_1 (decide (((rd_L2 l0 (ji10)).length : Int) < 4096))) else (none)) else (none)) = some (r1, r2) := by first | (rw [hji10] at H; exact H) | (simp only [hji10] at H ⊢; exact H)
           have hji10w : (IntKind.i64.wrap (x5_1 - 1)) = ji10 := (i64_w _).trans hji10
           by_cases c11 : 0 ≤ (ji10)
           ·rw [if_pos c11] at H
            have c11b0 : decide (0 ≤ (ji10)) = true := decide_eq_true c11
            clear c11
            by_cases c12 : (ji10) < (l0.length : Int)
            ·rw [if_pos c12] at H
             have c12b0 : decide ((ji10) < (l0.length : Int)) = true := decide_eq_true c12
             clear c12
             have H' := Aside0.mk H
             clear H
             have p397 : 0 ≤ (x5_1 : Int) := of_decide_eq_true (by first | (with_reducible assumption) | assumption)
             have q397 : x5_1 < (l0.length : Int) := of_decide_eq_true (by first | (with_reducible assumption) | assumption)
             obtain ⟨ad397, A397_0, c397_0, e397, hx397_0, hl397_0, hi397_0⟩ := at_L2 HR0.out x5_1 p397 q397
             cases e397
             replace hx397_0 := (HB.out.cell (World.block_lt_of_cell? w _ hx397_0)).trans hx397_0
             have HR397_0 := Aside0.mk hi397_0
             have HC397_0 := Aside0.mk hl397_0
             clear hi397_0 hl397_0
             replace p397 := eq_true p397
             replace q397 := eq_true q397
             have p398 : 0 ≤ (x5_1 : Int) := of_decide_eq_true (by first | (with_reducible assumption) | assumption)
             have q398 : x5_1 < (l0.length : Int) := of_decide_eq_true (by first | (with_reducible assumption) | assumption)
             obtain ⟨ad398, A398_0, c398_0, e398, hx398_0, hl398_0, hi398_0⟩ := at_L2 HR0.out x5_1 p398 q398
             obtain rfl : ad397 = ad398 := (by injection e398)
             replace hx398_0 := (HB.out.cell (World.block_lt_of_cell? w _ hx398_0)).trans hx398_0
             have HR398_0 := Aside0.mk hi398_0
             have HC398_0 := Aside0.mk hl398_0
             clear hi398_0 hl398_0
             replace p398 := eq_true p398
             replace q398 := eq_true q398
             have ea_ := Option.some.inj (hx397_0.symm.trans hx398_0)
             injection ea_ with ea_ en_ ec_
             subst ea_
             subst ec_
             clear en_
             have p399 : 0 ≤ ((ji10) : Int) := of_decide_eq_true (by first | (with_reducible assumption) | assumption)
             have q399 : (ji10) < (l0.length : Int) := of_decide_eq_true (by first | (with_reducible assumption) | assumption)
             obtain ⟨ad399, A399_0, c399_0, e399, hx399_0, hl399_0, hi399_0⟩ := at_L2 HR0.out (ji10) p399 q399
             obtain rfl : ad397 = ad399 := (by injection e399)
             replace hx399_0 := (HB.out.cell (World.block_lt_of_cell? w _ hx399_0)).trans hx399_0
             have HR399_0 := Aside0.mk hi399_0
             have HC399_0 := Aside0.mk hl399_0
             clear hi399_0 hl399_0
             replace p399 := eq_true p399
             replace q399 := eq_true q399
             go_wp2
             repeat (go_quiet (fail); try go_wp2)
             try subst hji10
             go_meet
             case rel => exact ⟨_, (decide (((rd_L2 l0 (((wrap64 (x5_1 - 1))))).length : Int) < 4096)), (by first | rfl | (simp; done) | (simp only [← hji10] <;> (first | rfl | simp)) | (simp [*]; done)), H', ⟨by have := HK1.out; first | omega | exact Nat.le_refl _⟩, ⟨by (with_reducible repeat (first | apply Kd.R_alloc | apply Kd.R_drewN | apply Kd.R_drew)); exact HO_4.out⟩, ⟨by repeat (first | (with_reducible first | exact HB.out | apply below_alloc | apply pw_below_drewN | apply below_drew1) | exact HB.out)⟩⟩
            ·rw [if_neg c12] at H
             exact absurd H (by simp)
           ·rw [if_neg c11] at H
            exact absurd H (by simp)
          ·rw [if_neg c9] at H
           have c9b0 : decide (0 < ((rd_L2 l0 x5_1).length : Int)) = false := decide_eq_false c9
           have c9b1 : decide (0 < (rd_L2 l0 x5_1).length) = false := decide_eq_false (by omega)
           clear c9
           have H' := Aside0.mk H
           clear H
           have p397 : 0 ≤ (x5_1 : Int) := of_decide_eq_true (by first | (with_reducible assumption) | assumption)
           have q397 : x5_1 < (l0.length : Int) := of_decide_eq_true (by first | (with_reducible assumption) | assumption)
           obtain ⟨ad397, A397_0, c397_0, e397, hx397_0, hl397_0, hi397_0⟩ := at_L2 HR0.out x5_1 p397 q397
           cases e397
           replace hx397_0 := (HB.out.cell (World.block_lt_of_cell? w _ hx397_0)).trans hx397_0
           have HR397_0 := Aside0.mk hi397_0
           have HC397_0 := Aside0.mk hl397_0
           clear hi397_0 hl397_0
           replace p397 := eq_true p397
           replace q397 := eq_true q397
           have p398 : 0 ≤ (x5_1 : Int) := of_decide_eq_true (by first | (with_reducible assumption) | assumption)
           have q398 : x5_1 < (l0.length : Int) := of_decide_eq_true (by first | (with_reducible assumption) | assumption)
           obtain ⟨ad398, A398_0, c398_0, e398, hx398_0, hl398_0, hi398_0⟩ := at_L2 HR0.out x5_1 p398 q398
           obtain rfl : ad397 = ad398 := (by injection e398)
           replace hx398_0 := (HB.out.cell (World.block_lt_of_cell? w _ hx398_0)).trans hx398_0
           have HR398_0 := Aside0.mk hi398_0
           have HC398_0 := Aside0.mk hl398_0
           clear hi398_0 hl398_0
           replace p398 := eq_true p398
           replace q398 := eq_true q398
           have ea_ := Option.some.inj (hx397_0.symm.trans hx398_0)
           injection ea_ with ea_ en_ ec_
           subst ea_
           subst ec_
           clear en_
           go_wp2
           repeat (go_quiet (fail); try go_wp2)
           try subst hji10
           go_meet
           case rel => exact ⟨_, (false), (by first | rfl | (simp; done) | (simp [*]; done)), H', ⟨by have := HK1.out; first | omega | exact Nat.le_refl _⟩, ⟨by (with_reducible repeat (first | apply Kd.R_alloc | apply Kd.R_drewN | apply Kd.R_drew)); exact HO_4.out⟩, ⟨by repeat (first | (with_reducible first | exact HB.out | apply below_alloc | apply pw_below_drewN | apply below_drew1) | exact HB.out)⟩⟩
         ·rw [if_neg c8] at H
          have c8b0 : decide (0 < x5_1) = false := decide_eq_false c8
          clear c8
          have H' := Aside0.mk H
          clear H
          have p397 : 0 ≤ (x5_1 : Int) := of_decide_eq_true (by first | (with_reducible assumption) | assumption)
          have q397 : x5_1 < (l0.length : Int) := of_decide_eq_true (by first | (with_reducible assumption) | assumption)
          obtain ⟨ad397, A397_0, c397_0, e397, hx397_0, hl397_0, hi397_0⟩ := at_L2 HR0.out x5_1 p397 q397
          cases e397
          replace hx397_0 := (HB.out.cell (World.block_lt_of_cell? w _ hx397_0)).trans hx397_0
          have HR397_0 := Aside0.mk hi397_0
          have HC397_0 := Aside0.mk hl397_0
          clear hi397_0 hl397_0
          replace p397 := eq_true p397
          replace q397 := eq_true q397
          go_wp2
          repeat (go_quiet (fail); try go_wp2)
          try subst hji10
          go_meet
          case rel => exact ⟨_, (false), (by first | rfl | (simp; done) | (simp [*]; done)), H', ⟨by have := HK1.out; first | omega | exact Nat.le_refl _⟩, ⟨by (with_reducible repeat (first | apply Kd.R_alloc | apply Kd.R_drewN | apply Kd.R_drew)); exact HO_4.out⟩, ⟨by repeat (first | (with_reducible first | exact HB.out | apply below_alloc | apply pw_below_drewN | apply below_drew1) | exact HB.out)⟩⟩
       ·rw [if_neg c6] at H
        exact absurd H (by simp)
      ·rw [if_neg c5] at H
       exact absurd H (by simp)
     case rest =>
      clear HC4
      try clear c1
      try clear c2
      try clear c2b0
      try clear c2b1
      try clear p2
      try clear c3
      try clear c3b0
      try clear p3
      try clear q3
      try clear hx3
      try clear c5
      try clear c5b0
      try clear c6
      try clear c6b0
      try clear p6
      try clear c7
      try clear c7b0
      try clear c7b1
      try clear c8
      try clear c8b0
      try clear c9
      try clear c9b0
      try clear c9b1
      try clear c11
      try clear c11b0
      try clear c12
      try clear c12b0
      try clear hx397_0
      try clear hx398_0
      try clear hx399_0
      try clear p2
      try clear p397
      try clear p398
      try clear p399
      try clear q397
      try clear q398
      try clear q399
      obtain ⟨kq, x47_3, rfl, HA, HJ3, HO_4, HB⟩ := hcut
      cases kq with
      | zero => exact absurd HA.out (by simp [aumbryref16_Unsnap.j1])
      | succ kj3 =>
       have H := HA.out
       clear HA
       simp only [aumbryref16_Unsnap.j1] at H
       by_cases c13 : x47_3 = true
       ·subst c13
        have H1 : (some (([] : List (S61)), 160)) = some (r1, r2) := by rw [if_pos rfl] at H; exact H
        clear H
        have H := H1
        clear H1
        simp only [Option.some.injEq, Prod.mk.injEq] at H
        obtain ⟨rfl, rfl⟩ := H
        go_wp2
        repeat (go_quiet (fail); try go_wp2)
        go_ret2
        exact ⟨_, by first | rfl | (simp [errW_none, errW_some] <;> rfl) | (simp [*, errW_none, errW_some] <;> rfl), by first | exact Kd.S_nil _ _ _ _ _ | exact Kd.N_nil _ _ _ _ _ | exact Kd.V_nil _ _ _ _ _ | exact Kd.Q_nil _ _ _ _ _ | exact Kd.R_nil _ _ _ _ _, by repeat (first | (with_reducible first | exact HB.out | apply below_alloc | apply pw_below_drewN | apply below_drew1) | exact HB.out)⟩
       ·replace c13 := Bool.eq_false_iff.mpr c13
        subst c13
        have H1 : (if 0 ≤ x5_1 then (if x5_1 < (l0.length : Int) then (if x4_1.length + (rd_L2 l0 x5_1).length < 140737488355328 then (aumbryref16_Unsnap.l0 kj3 l0 (x4_1 ++ (rd_L2 l0 x5_1)) (wrap64 (x5_1 + 1))) else (none)) else (none)) else (none)) = some (r1, r2) := by rw [if_neg (show ¬ (false = true) by decide)] at H; exact H
        clear H
        have H := H1
        clear H1
        by_cases c14 : 0 ≤ x5_1
        ·rw [if_pos c14] at H
         have c14b0 : decide (0 ≤ x5_1) = true := decide_eq_true c14
         clear c14
         by_cases c15 : x5_1 < (l0.length : Int)
         ·rw [if_pos c15] at H
          have c15b0 : decide (x5_1 < (l0.length : Int)) = true := decide_eq_true c15
          clear c15
          by_cases c16 : x4_1.length + (rd_L2 l0 x5_1).length < 140737488355328
          ·rw [if_pos c16] at H
           have LMc16 := Aside0.mk c16
           clear c16
           obtain ⟨y401, hy401⟩ : ∃ y_ : List Int, y_ = (x4_1 ++ (rd_L2 l0 x5_1)) := ⟨_, rfl⟩
           replace H : (aumbryref16_Unsnap.l0 kj3 l0 y401 (wrap64 (x5_1 + 1))) = some (r1, r2) := by first | (rw [hy401]; with_reducible exact H) | (have H2_ := (Option.bind_some _ _).symm.trans H; rw [hy401]; with_reducible exact H2_) | (have H2_ := (Option.bind_some _ _).symm.trans H; with_reducible exact H2_) | with_reducible exact H | (rw [hy401]; exact H) | exact H
           have Ny401 := Aside0.mk hy401
           clear hy401
           have H' := Aside0.mk H
           clear H
           have p400 : 0 ≤ (x5_1 : Int) := of_decide_eq_true (by first | (with_reducible assumption) | assumption)
           have q400 : x5_1 < (l0.length : Int) := of_decide_eq_true (by first | (with_reducible assumption) | assumption)
           obtain ⟨ad400, A400_0, c400_0, e400, hx400_0, hl400_0, hi400_0⟩ := at_L2 HR0.out x5_1 p400 q400
           cases e400
           replace hx400_0 := (HB.out.cell (World.block_lt_of_cell? w _ hx400_0)).trans hx400_0
           have HR400_0 := Aside0.mk hi400_0
           have HC400_0 := Aside0.mk hl400_0
           clear hi400_0 hl400_0
           replace p400 := eq_true p400
           replace q400 := eq_true q400
           go_wp2_with (first | ((with_reducible refine gate_builtin (b := .append) (xs := #[.tmp 48, .tmp 52]) rfl ?_); (try (refine gate_guard (by rfl) ?_; dsimp only)); at_builtin; refine Kd.R_append_rows (Kd.int .u8) (w0 := w) w.heap.size rfl (.tmp 48) (.tmp 52) 26 5 (.int .u8 0) 1 rfl Try.underlying26 info5 rfl (by decide) (by omega) u4 x4_1 (rd_L2 l0 x5_1) _ _ _ (fun k_ => (w.heap.size ≤ k_)) (fun _ => False) rfl rfl ?aO ?aR (fun _ _ h => h) (fun _ h => h.elim) ?aF ?aB ?aS ?aL ?_; (case aR => repeat (first | exact (Kd.C_below HR400_0.out HB.out) | (with_reducible refine Kd.C_alloc ?_ _) | (with_reducible refine Kd.C_drewN ?_ _) | (with_reducible refine Kd.C_drew ?_))); (case aB => exact (by repeat (first | (with_reducible first | exact HB.out | apply below_alloc | apply pw_below_drewN | apply below_drew1) | exact HB.out))); (case aF => exact (fun k_ hk => (Nat.le_trans (below_size (by repeat (first | (with_reducible first | exact HB.out | apply below_alloc | apply pw_below_drewN | apply below_drew1) | exact HB.out))) hk))); (case aO => exact (by (with_reducible repeat (first | apply Kd.R_alloc | apply Kd.R_drewN | apply Kd.R_drew)); exact HO_4.out)); (case aS => exact (below_size (by repeat (first | (with_reducible first | exact HB.out | apply below_alloc | apply pw_below_drewN | apply below_drew1) | exact HB.out)))); (case aL => have := LMc16.out; omega); intro v402 w17 ho hb hg hat; rw [← Ny401.out] at ho; have n0_ := Aside0.mk (hb); have n1_ := Aside0.mk (ho); clear HB; clear HO_4; have HB := n0_; have HO403 := n1_; clear n0_ n1_; clear ho hb hg hat))
           repeat (go_quiet (first | ((with_reducible refine gate_builtin (b := .append) (xs := #[.tmp 48, .tmp 52]) rfl ?_); (try (refine gate_guard (by rfl) ?_; dsimp only)); at_builtin; refine Kd.R_append_rows (Kd.int .u8) (w0 := w) w.heap.size rfl (.tmp 48) (.tmp 52) 26 5 (.int .u8 0) 1 rfl Try.underlying26 info5 rfl (by decide) (by omega) u4 x4_1 (rd_L2 l0 x5_1) _ _ _ (fun k_ => (w.heap.size ≤ k_)) (fun _ => False) rfl rfl ?aO ?aR (fun _ _ h => h) (fun _ h => h.elim) ?aF ?aB ?aS ?aL ?_; (case aR => repeat (first | exact (Kd.C_below HR400_0.out HB.out) | (with_reducible refine Kd.C_alloc ?_ _) | (with_reducible refine Kd.C_drewN ?_ _) | (with_reducible refine Kd.C_drew ?_))); (case aB => exact (by repeat (first | (with_reducible first | exact HB.out | apply below_alloc | apply pw_below_drewN | apply below_drew1) | exact HB.out))); (case aF => exact (fun k_ hk => (Nat.le_trans (below_size (by repeat (first | (with_reducible first | exact HB.out | apply below_alloc | apply pw_below_drewN | apply below_drew1) | exact HB.out))) hk))); (case aO => exact (by (with_reducible repeat (first | apply Kd.R_alloc | apply Kd.R_drewN | apply Kd.R_drew)); exact HO_4.out)); (case aS => exact (below_size (by repeat (first | (with_reducible first | exact HB.out | apply below_alloc | apply pw_below_drewN | apply below_drew1) | exact HB.out)))); (case aL => have := LMc16.out; omega); intro v402 w17 ho hb hg hat; rw [← Ny401.out] at ho; have n0_ := Aside0.mk (hb); have n1_ := Aside0.mk (ho); clear HB; clear HO_4; have HB := n0_; have HO403 := n1_; clear n0_ n1_; clear ho hb hg hat)); try go_wp2_with (first | ((with_reducible refine gate_builtin (b := .append) (xs := #[.tmp 48, .tmp 52]) rfl ?_); (try (refine gate_guard (by rfl) ?_; dsimp only)); at_builtin; refine Kd.R_append_rows (Kd.int .u8) (w0 := w) w.heap.size rfl (.tmp 48) (.tmp 52) 26 5 (.int .u8 0) 1 rfl Try.underlying26 info5 rfl (by decide) (by omega) u4 x4_1 (rd_L2 l0 x5_1) _ _ _ (fun k_ => (w.heap.size ≤ k_)) (fun _ => False) rfl rfl ?aO ?aR (fun _ _ h => h) (fun _ h => h.elim) ?aF ?aB ?aS ?aL ?_; (case aR => repeat (first | exact (Kd.C_below HR400_0.out HB.out) | (with_reducible refine Kd.C_alloc ?_ _) | (with_reducible refine Kd.C_drewN ?_ _) | (with_reducible refine Kd.C_drew ?_))); (case aB => exact (by repeat (first | (with_reducible first | exact HB.out | apply below_alloc | apply pw_below_drewN | apply below_drew1) | exact HB.out))); (case aF => exact (fun k_ hk => (Nat.le_trans (below_size (by repeat (first | (with_reducible first | exact HB.out | apply below_alloc | apply pw_below_drewN | apply below_drew1) | exact HB.out))) hk))); (case aO => exact (by (with_reducible repeat (first | apply Kd.R_alloc | apply Kd.R_drewN | apply Kd.R_drew)); exact HO_4.out)); (case aS => exact (below_size (by repeat (first | (with_reducible first | exact HB.out | apply below_alloc | apply pw_below_drewN | apply below_drew1) | exact HB.out)))); (case aL => have := LMc16.out; omega); intro v402 w17 ho hb hg hat; rw [← Ny401.out] at ho; have n0_ := Aside0.mk (hb); have n1_ := Aside0.mk (ho); clear HB; clear HO_4; have HB := n0_; have HO403 := n1_; clear n0_ n1_; clear ho hb hg hat)))
           go_roundg kj3
           case measure => have := HK1.out; have := HJ3.out; omega
           case rel => exact ⟨(y401), (wrap64 (x5_1 + 1)), (by first | rfl | (simp; done) | (simp [*]; done)), H', ⟨by have := HK1.out; have := HJ3.out; omega⟩, ⟨by (with_reducible repeat (first | apply Kd.R_alloc | apply Kd.R_drewN | apply Kd.R_drew)); exact HO403.out⟩, ⟨by repeat (first | (with_reducible first | exact HB.out | apply below_alloc | apply pw_below_drewN | apply below_drew1) | exact HB.out)⟩⟩
          ·rw [if_neg c16] at H
           exact absurd H (by simp)
         ·rw [if_neg c15] at H
          exact absurd H (by simp)
        ·rw [if_neg c14] at H
         exact absurd H (by simp)
    ·rw [if_neg c3] at H
     have c3b0 : decide (x5_1 < 2) = false := decide_eq_false c3
     clear c3
     by_cases c18 : (x4_1.length : Int) < 2
     ·rw [if_pos c18] at H
      have c18b0 : decide ((x4_1.length : Int) < 2) = true := decide_eq_true c18
      have c18b1 : decide (x4_1.length < 2) = true := decide_eq_true (by omega)
      clear c18
      simp only [Option.some.injEq, Prod.mk.injEq] at H
      obtain ⟨rfl, rfl⟩ := H
      obtain ⟨Ao19, co19, eo19⟩ := Kd.R_slice HO_4.out
      subst eo19
      go_wp2
      repeat (go_quiet (fail); try go_wp2)
      go_ret2
      exact ⟨_, by first | rfl | (simp [errW_none, errW_some] <;> rfl) | (simp [*, errW_none, errW_some] <;> rfl), by first | exact Kd.S_nil _ _ _ _ _ | exact Kd.N_nil _ _ _ _ _ | exact Kd.V_nil _ _ _ _ _ | exact Kd.Q_nil _ _ _ _ _ | exact Kd.R_nil _ _ _ _ _, by repeat (first | (with_reducible first | exact HB.out | apply below_alloc | apply pw_below_drewN | apply below_drew1) | exact HB.out)⟩
     ·rw [if_neg c18] at H
      have c18b0 : decide ((x4_1.length : Int) < 2) = false := decide_eq_false c18
      have c18b1 : decide (x4_1.length < 2) = false := decide_eq_false (by omega)
      clear c18
      by_cases c20 : 0 < (x4_1.length : Int)
      ·rw [if_pos c20] at H
       have c20b0 : decide (0 < (x4_1.length : Int)) = true := decide_eq_true c20
       have c20b1 : decide (0 < x4_1.length) = true := decide_eq_true (by omega)
       clear c20
       by_cases c21 : 1 < (x4_1.length : Int)
       ·rw [if_pos c21] at H
        have c21b0 : decide (1 < (x4_1.length : Int)) = true := decide_eq_true c21
        have c21b1 : decide (1 < x4_1.length) = true := decide_eq_true (by omega)
        clear c21
        by_cases c22 : 2 ≤ (x4_1.length : Int)
        ·rw [if_pos c22] at H
         have c22b0 := eq_true c22
         have c22b1 : decide (2 ≤ (x4_1.length : Int)) = true := decide_eq_true c22
         clear c22
         obtain ⟨y406, hy406⟩ : ∃ y_ : List Int, y_ = (x4_1.drop 2) := ⟨_, rfl⟩
         replace H : (aumbryref16_Unsnap.l1 k1 y406 (wrap64 ((wrap64 (256 * (wrap64 (rd x4_1 0)))) + (wrap64 (rd x4_1 1)))) ([] : List (S61)) 0) = some (r1, r2) := by first | (rw [hy406]; with_reducible exact H) | (have H2_ := (Option.bind_some _ _).symm.trans H; rw [hy406]; with_reducible exact H2_) | (have H2_ := (Option.bind_some _ _).symm.trans H; with_reducible exact H2_) | with_reducible exact H | (rw [hy406]; exact H) | exact H
         have Ny406 := Aside0.mk hy406
         clear hy406
         have H' := Aside0.mk H
         clear H
         obtain ⟨Ao23, co23, eo23⟩ := Kd.R_slice HO_4.out
         subst eo23
         have p404 : 0 ≤ (0 : Int) := (by omega)
         have q404 : 0 < (x4_1.length : Int) := of_decide_eq_true (by first | (with_reducible assumption) | assumption)
         obtain ⟨ad404, e404, hx404_0⟩ := Kd.at_int (Kd.R_reads' HO_4.out).2.2 0 p404 q404
         cases e404
         have qi404 : (0 < x4_1.length) = True := eq_true (by omega)
         (try rw [show ((0 : Int)).toNat = 0 from rfl] at hx404_0)
         (try rw [Addr.add_zero'] at hx404_0)
         replace p404 := eq_true p404
         replace q404 := eq_true q404
         have p405 : 0 ≤ (1 : Int) := (by omega)
         have q405 : 1 < (x4_1.length : Int) := of_decide_eq_true (by first | (with_reducible assumption) | assumption)
         obtain ⟨ad405, e405, hx405_0⟩ := Kd.at_int (Kd.R_reads' HO_4.out).2.2 1 p405 q405
         obtain rfl : ad404 = ad405 := (by injection e405)
         (try simp only [show (1 : Int).toNat = 1 from rfl, Nat.reduceMul, Nat.reduceEqDiff, Go.Addr.add, ↓reduceIte] at hx405_0)
         have qi405 : (1 < x4_1.length) = True := eq_true (by omega)
         (try rw [show ((1 : Int)).toNat = 1 from rfl] at hx405_0)
         replace p405 := eq_true p405
         replace q405 := eq_true q405
         have q24 : (2 : Int) ≤ ((x4_1.length : Int) : Int) := of_decide_eq_true (by first | (with_reducible assumption) | assumption)
         obtain ⟨i024, hi024, _, hsz24, _⟩ := info_parts info5
         have hroom24 : x4_1.length ≤ co23 := (Kd.R_reads' HO_4.out).2.1
         have hC24 : Kd.F (Kd.int .u8) _ _ (some ad404) x4_1.length x4_1 := (Kd.V_at (base := w.heap.size) (Kd.R_V HO_4.out)).2.2
         have hcut24 := cut_from (P := Try.prog) 26 5 .i64 Try.underlying26 hi024 1 hsz24 (some ad404) x4_1.length co23 2 (by omega) q24
         have hr24 := Kd.F_cut (m := (2 : Int).toNat) (c := co23) hC24 (by omega) hroom24
         obtain ⟨A24, hA24⟩ : ∃ Aq_, Aq_ = (if co23 = (2 : Int).toNat then (some ad404) else ((some ad404) : Option Addr).map (·.add ((2 : Int).toNat * 1))) := ⟨_, rfl⟩
         obtain ⟨c24, hc24⟩ : ∃ cq_, cq_ = co23 - (2 : Int).toNat := ⟨_, rfl⟩
         have hy24 : y406.length = x4_1.length - (2 : Int).toNat := (by rw [Ny406.out, List.length_drop] <;> omega)
         rw [show (x4_1).drop (2 : Int).toNat = y406 from Ny406.out.symm] at hr24
         replace hr24 : Kd.F (Kd.int .u8) _ _ A24 y406.length y406 := (by rw [hA24]; exact hr24)
         rw [← hy24, ← hA24, ← hc24] at hcut24
         have HO410 := Aside0.mk (show Kd.V (Kd.int .u8) 5 _ w.heap.size _ (.slice A24 y406.length c24) y406 from Kd.V_mk (by rw [hy24, hc24]; exact Nat.sub_le_sub_right hroom24 _) hr24)
         have HC410 := Aside0.mk (show y406.length ≤ c24 from by rw [hy24, hc24]; exact Nat.sub_le_sub_right hroom24 _)
         clear hr24 hC24 hroom24 hi024 hsz24 hc24
         have KY24 := Aside0.mk hy24
         have KA24 := Aside0.mk hA24
         clear hy24 hA24
         replace q24 := eq_true q24
         go_wp2
         repeat (go_quiet (fail); try go_wp2)
         go_loopg [4, 7, 8] k1 (fun kq v4 v7 v8 w' => ∃ (x4_2 : List Int) (x7_2 : List (S61)) (x8_2 : Int), v8 = .int .i64 x8_2 ∧ Aside0 (aumbryref16_Unsnap.l1 kq x4_2 (wrap64 ((wrap64 (256 * (wrap64 (rd x4_1 0)))) + (wrap64 (rd x4_1 1)))) x7_2 x8_2 = some (r1, r2)) ∧ Aside0 (kq ≤ k1) ∧ Aside0 (Kd.V (Kd.int .u8) 5 w' w.heap.size (fun k_ => (w.heap.size ≤ k_) ∧ some k_ ≠ (v7 : Value).ownBlock) v4 x4_2) ∧ Aside0 (Kd.N k61 61 w' w.heap.size (fun k_ => (w.heap.size ≤ k_)) v7 x7_2) ∧ Aside0 (Below w.heap.size w w'))
         case atStart => exact ⟨(y406), (([] : List (S61))), (0), (by first | rfl | (simp; done) | (simp [*]; done)), H', ⟨Nat.le_refl _⟩, ⟨by (with_reducible repeat (first | apply Kd.V_alloc | apply Kd.V_drewN | apply Kd.V_drew)); exact Kd.V_mono HO410.out (fun _ hk => ⟨hk, (by simp [Value.ownBlock])⟩)⟩, ⟨by first | exact Kd.S_nil _ _ _ _ _ | exact Kd.N_nil _ _ _ _ _ | exact Kd.V_nil _ _ _ _ _ | exact Kd.Q_nil _ _ _ _ _ | exact Kd.R_nil _ _ _ _ _⟩, ⟨by repeat (first | (with_reducible first | exact HB.out | apply below_alloc | apply pw_below_drewN | apply below_drew1) | exact HB.out)⟩⟩
         case round =>
          clear H'
          try clear c1
          try clear c2
          try clear c2b0
          try clear c2b1
          try clear p2
          try clear q2
          try clear c3
          try clear c3b0
          try clear p3
          try clear q3
          try clear hx3
          try clear c4
          try clear p4
          try clear q4
          try clear hx4
          try clear qi4
          try clear c5
          try clear c5b0
          try clear c6
          try clear c6b0
          try clear p6
          try clear c7
          try clear c7b0
          try clear c7b1
          try clear c8
          try clear c8b0
          try clear c9
          try clear c9b0
          try clear c9b1
          try clear c11
          try clear c11b0
          try clear c12
          try clear c12b0
          try clear c13
          try clear c14
          try clear c14b0
          try clear c15
          try clear c15b0
          try clear c16
          try clear c18
          try clear c18b0
          try clear c18b1
          try clear c20
          try clear c20b0
          try clear c20b1
          try clear c21
          try clear c21b0
          try clear c21b1
          try clear c22
          try clear c22b0
          try clear c22b1
          try clear c24
          try clear q24
          try clear hx397_0
          try clear hx398_0
          try clear hx399_0
          try clear hx400_0
          try clear hx404_0
          try clear hx405_0
          try clear p2
          try clear p3
          try clear p397
          try clear p398
          try clear p399
          try clear p400
          try clear p404
          try clear p405
          try clear p6
          try clear q24
          try clear q3
          try clear q397
          try clear q398
          try clear q399
          try clear q400
          try clear q404
          try clear q405
          obtain ⟨x4_2, x7_2, x8_2, rfl, HA, HK2, HO_4, HO_7, HB⟩ := hrel
          cases gk with
          | zero => exact absurd HA.out (by simp [aumbryref16_Unsnap.l1])
          | succ k2 =>
           have H := HA.out
           clear HA
           simp only [aumbryref16_Unsnap.l1] at H
           by_cases c25 : x8_2 < (wrap64 ((wrap64 (256 * (wrap64 (rd x4_1 0)))) + (wrap64 (rd x4_1 1))))
           ·rw [if_pos c25] at H
            have c25b0 : decide (x8_2 < (wrap64 ((wrap64 (256 * (wrap64 (rd x4_1 0)))) + (wrap64 (rd x4_1 1))))) = true := decide_eq_true c25
            clear c25
            by_cases c26 : (x4_2.length : Int) < 4
            ·rw [if_pos c26] at H
             have c26b0 : decide ((x4_2.length : Int) < 4) = true := decide_eq_true c26
             have c26b1 : decide (x4_2.length < 4) = true := decide_eq_true (by omega)
             clear c26
             simp only [Option.some.injEq, Prod.mk.injEq] at H
             obtain ⟨rfl, rfl⟩ := H
             obtain ⟨Ao27, co27, eo27⟩ := Kd.V_slice HO_4.out
             subst eo27
             go_wp2
             repeat (go_quiet (fail); try go_wp2)
             go_ret2
             exact ⟨_, by first | rfl | (simp [errW_none, errW_some] <;> rfl) | (simp [*, errW_none, errW_some] <;> rfl), by first | exact Kd.S_nil _ _ _ _ _ | exact Kd.N_nil _ _ _ _ _ | exact Kd.V_nil _ _ _ _ _ | exact Kd.Q_nil _ _ _ _ _ | exact Kd.R_nil _ _ _ _ _, by repeat (first | (with_reducible first | exact HB.out | apply below_alloc | apply pw_below_drewN | apply below_drew1) | exact HB.out)⟩
            ·rw [if_neg c26] at H
             have c26b0 : decide ((x4_2.length : Int) < 4) = false := decide_eq_false c26
             have c26b1 : decide (x4_2.length < 4) = false := decide_eq_false (by omega)
             clear c26
             replace H := Option.bind_eq_some_iff.mp H
             obtain ⟨t411, A280, H⟩ := H
             replace H : (if 4 ≤ (x4_2.length : Int) then ((aumbryref16_next.f k2 (x4_2.drop 4)).bind fun bt417 => (if bt417.2.2.2.2.2 = true then (if t411 > 2147483647 then (aumbryref16_Unsnap.j3 k2 (wrap64 ((wrap64 (256 * (wrap64 (rd x4_1 0)))) + (wrap64 (rd x4_1 1)))) x7_2 x8_2 t411 bt417.2.2.2.2.1 true bt417.1 bt417.2.1 bt417.2.2.1 bt417.2.2.2.1) else (aumbryref16_Unsnap.j3 k2 (wrap64 ((wrap64 (256 * (wrap64 (rd x4_1 0)))) + (wrap64 (rd x4_1 1)))) x7_2 x8_2 t411 bt417.2.2.2.2.1 (bt417.1 != 1) bt417.1 bt417.2.1 bt417.2.2.1 bt417.2.2.2.1)) else (aumbryref16_Unsnap.j3 k2 (wrap64 ((wrap64 (256 * (wrap64 (rd x4_1 0)))) + (wrap64 (rd x4_1 1)))) x7_2 x8_2 t411 bt417.2.2.2.2.1 true bt417.1 bt417.2.1 bt417.2.2.1 bt417.2.2.2.1))) else (none)) = some (r1, r2) := H
             have A28 := Aside0.mk A280
             clear A280
             by_cases c29 : 4 ≤ (x4_2.length : Int)
             ·rw [if_pos c29] at H
              have c29b0 := eq_true c29
              have c29b1 : decide (4 ≤ (x4_2.length : Int)) = true := decide_eq_true c29
              clear c29
              obtain ⟨y412, hy412⟩ : ∃ y_ : List Int, y_ = (x4_2.drop 4) := ⟨_, rfl⟩
              replace H : ((aumbryref16_next.f k2 y412).bind fun bt417 => (if bt417.2.2.2.2.2 = true then (if t411 > 2147483647 then (aumbryref16_Unsnap.j3 k2 (wrap64 ((wrap64 (256 * (wrap64 (rd x4_1 0)))) + (wrap64 (rd x4_1 1)))) x7_2 x8_2 t411 bt417.2.2.2.2.1 true bt417.1 bt417.2.1 bt417.2.2.1 bt417.2.2.2.1) else (aumbryref16_Unsnap.j3 k2 (wrap64 ((wrap64 (256 * (wrap64 (rd x4_1 0)))) + (wrap64 (rd x4_1 1)))) x7_2 x8_2 t411 bt417.2.2.2.2.1 (bt417.1 != 1) bt417.1 bt417.2.1 bt417.2.2.1 bt417.2.2.2.1)) else (aumbryref16_Unsnap.j3 k2 (wrap64 ((wrap64 (256 * (wrap64 (rd x4_1 0)))) + (wrap64 (rd x4_1 1)))) x7_2 x8_2 t411 bt417.2.2.2.2.1 true bt417.1 bt417.2.1 bt417.2.2.1 bt417.2.2.2.1))) = some (r1, r2) := by first | (rw [hy412]; with_reducible exact H) | (have H2_ := (Option.bind_some _ _).symm.trans H; rw [hy412]; with_reducible exact H2_) | (have H2_ := (Option.bind_some _ _).symm.trans H; with_reducible exact H2_) | with_reducible exact H | (rw [hy412]; exact H) | exact H
              have Ny412 := Aside0.mk hy412
              clear hy412
              replace H := Option.bind_eq_some_iff.mp H
              obtain ⟨⟨t417, t418, t419, t420, t423, t426⟩, A300, H⟩ := H
              replace H : (if t426 = true then (if t411 > 2147483647 then (aumbryref16_Unsnap.j3 k2 (wrap64 ((wrap64 (256 * (wrap64 (rd x4_1 0)))) + (wrap64 (rd x4_1 1)))) x7_2 x8_2 t411 t423 true t417 t418 t419 t420) else (aumbryref16_Unsnap.j3 k2 (wrap64 ((wrap64 (256 * (wrap64 (rd x4_1 0)))) + (wrap64 (rd x4_1 1)))) x7_2 x8_2 t411 t423 (t417 != 1) t417 t418 t419 t420)) else (aumbryref16_Unsnap.j3 k2 (wrap64 ((wrap64 (256 * (wrap64 (rd x4_1 0)))) + (wrap64 (rd x4_1 1)))) x7_2 x8_2 t411 t423 true t417 t418 t419 t420)) = some (r1, r2) := H
              have A30 := Aside0.mk A300
              clear A300
              have HC31 := Aside0.mk H
              clear H
              obtain ⟨Ao32, co32, eo32⟩ := Kd.V_slice HO_4.out
              subst eo32
              have q33 : (4 : Int) ≤ ((x4_2.length : Int) : Int) := of_decide_eq_true (by first | (with_reducible assumption) | assumption)
              obtain ⟨i033, hi033, _, hsz33, _⟩ := info_parts info5
              have hroom33 : x4_2.length ≤ co32 := (Kd.V_reads' HO_4.out).2.1
              have hC33 : Kd.F (Kd.int .u8) _ _ Ao32 x4_2.length x4_2 := (Kd.V_at (base := w.heap.size) HO_4.out).2.2
              have hcut33 := cut_from (P := Try.prog) 26 5 .i64 Try.underlying26 hi033 1 hsz33 Ao32 x4_2.length co32 4 (by omega) q33
              have hr33 := Kd.F_cut (m := (4 : Int).toNat) (c := co32) hC33 (by omega) hroom33
              obtain ⟨A33, hA33⟩ : ∃ Aq_, Aq_ = (if co32 = (4 : Int).toNat then Ao32 else (Ao32 : Option Addr).map (·.add ((4 : Int).toNat * 1))) := ⟨_, rfl⟩
              obtain ⟨c33, hc33⟩ : ∃ cq_, cq_ = co32 - (4 : Int).toNat := ⟨_, rfl⟩
              have hy33 : y412.length = x4_2.length - (4 : Int).toNat := (by rw [Ny412.out, List.length_drop] <;> omega)
              rw [show (x4_2).drop (4 : Int).toNat = y412 from Ny412.out.symm] at hr33
              replace hr33 : Kd.F (Kd.int .u8) _ _ A33 y412.length y412 := (by rw [hA33]; exact hr33)
              rw [← hy33, ← hA33, ← hc33] at hcut33
              have HO416 := Aside0.mk (show Kd.V (Kd.int .u8) 5 _ w.heap.size _ (.slice A33 y412.length c33) y412 from Kd.V_mk (by rw [hy33, hc33]; exact Nat.sub_le_sub_right hroom33 _) hr33)
              have HC416 := Aside0.mk (show y412.length ≤ c33 from by rw [hy33, hc33]; exact Nat.sub_le_sub_right hroom33 _)
              clear hr33 hC33 hroom33 hi033 hsz33 hc33
              have KY33 := Aside0.mk hy33
              have KA33 := Aside0.mk hA33
              clear hy33 hA33
              replace q33 := eq_true q33
              go_upto_region 22 with (first | (go_at_call 42; (with_reducible refine (aumbryref11_Number.calls _ _ x4_2 t411 _ ?side1 ?side2 A28.out).mono ?_); (case side1 => repeat (first | exact (Kd.V_reads' HO_4.out).2.2 | (with_reducible refine Kd.C_alloc ?_ _) | (with_reducible refine Kd.C_drewN ?_ _) | (with_reducible refine Kd.C_drew ?_))); (case side2 => exact (Kd.V_reads' HO_4.out).2.1); rintro e w' ⟨rfl, ⟨nd, rfl⟩⟩; (try first | exact ⟨rfl, _, World.drewN_drewN _ _ _⟩ | exact ⟨rfl, _, Eq.trans (World.drewN_drewN _ _ _) (congrArg (World.drewN _) (Nat.add_assoc _ _ _))⟩)) | (go_at_call 33; (with_reducible refine (aumbryref16_next.calls k2 (fun k_ => ((w.heap.size ≤ k_) ∧ some k_ ≠ (u7 : Value).ownBlock)) _ _ y412 t417 t418 t419 t420 t423 t426 _ ?side1 A30.out).mono ?_); (case side1 => exact HO416.out); rintro e w34 ⟨v421, v424, rfl, ho0, ho1, hb⟩; have n0_ := Aside0.mk (Kd.V_below (by (with_reducible repeat (first | apply Kd.V_alloc | apply Kd.V_drewN | apply Kd.V_drew)); exact HO_4.out) hb); have n1_ := Aside0.mk (Kd.N_below (by (with_reducible repeat (first | apply Kd.N_alloc | apply Kd.N_drewN | apply Kd.N_drew)); exact HO_7.out) hb); have n2_ := Aside0.mk (Kd.V_below (by (with_reducible repeat (first | apply Kd.V_alloc | apply Kd.V_drewN | apply Kd.V_drew)); exact HO416.out) hb); have n3_ := Aside0.mk (Kd.V_lower (Kd.V_mono (ok' := fun k_ => (w.heap.size ≤ k_) ∧ some k_ ≠ (u7 : Value).ownBlock) ho0 (fun k_ hk_ => ⟨Or.elim hk_ (fun hs_ => hs_.1) (fun hn_ => (Nat.le_trans (below_size (by repeat (first | (with_reducible first | exact HB.out | apply below_alloc | apply pw_below_drewN | apply below_drew1) | exact HB.out))) hn_)), Or.elim hk_ (fun hs_ => hs_.2) (fun hn_ => (Kd.fresh' (Kd.N_lt (by (with_reducible repeat (first | apply Kd.N_alloc | apply Kd.N_drewN | apply Kd.N_drew)); exact HO_7.out)) k_ hn_))⟩)) (below_size (by repeat (first | (with_reducible first | exact HB.out | apply below_alloc | apply pw_below_drewN | apply below_drew1) | exact HB.out)))); have n4_ := Aside0.mk (Kd.V_lower (Kd.V_mono (ok' := fun k_ => (w.heap.size ≤ k_) ∧ some k_ ≠ (u7 : Value).ownBlock) ho1 (fun k_ hk_ => ⟨Or.elim hk_ (fun hs_ => hs_.1) (fun hn_ => (Nat.le_trans (below_size (by repeat (first | (with_reducible first | exact HB.out | apply below_alloc | apply pw_below_drewN | apply below_drew1) | exact HB.out))) hn_)), Or.elim hk_ (fun hs_ => hs_.2) (fun hn_ => (Kd.fresh' (Kd.N_lt (by (with_reducible repeat (first | apply Kd.N_alloc | apply Kd.N_drewN | apply Kd.N_drew)); exact HO_7.out)) k_ hn_))⟩)) (below_size (by repeat (first | (with_reducible first | exact HB.out | apply below_alloc | apply pw_below_drewN | apply below_drew1) | exact HB.out)))); have n5_ := Aside0.mk (below_step (by repeat (first | (with_reducible first | exact HB.out | apply below_alloc | apply pw_below_drewN | apply below_drew1) | exact HB.out)) hb); clear HO_4; clear HO_7; clear HO416; clear HB; have HO_4 := n0_; have HO_7 := n1_; have HO416 := n2_; have HO422 := n3_; have HO425 := n4_; have HB := n5_; clear n0_ n1_ n2_ n3_ n4_ n5_; (try clear hb); (try clear hb2); (try clear hk); (try clear hi); (try clear ho0); (try clear ho1)) | ((with_reducible refine gate_dst (N := 10) rfl ?_); (try (refine gate_guard (by rfl) ?_; dsimp only)); refine box_event ?hg (N := 10) ?hd (cs := #[.int .i64 0, .string (⟨#[]⟩ : ByteArray), .int .i64 0, .slice none 0 0]) (t := 25) ?hr ?_; (case hd => rfl); (case hg => rfl); (case hr => first | (go_simp; done) | (go_simp; rfl)); intro gb427 hg w35 hbox hb; have n0_ := Aside0.mk (Kd.V_below (Kd.V_elderB (by (with_reducible repeat (first | apply Kd.V_alloc | apply Kd.V_drewN | apply Kd.V_drew)); exact HO_4.out) gb427 (Nat.le_of_eq hg.symm)) hb); have n1_ := Aside0.mk (Kd.N_below (Kd.N_elderB (by (with_reducible repeat (first | apply Kd.N_alloc | apply Kd.N_drewN | apply Kd.N_drew)); exact HO_7.out) gb427 (Nat.le_of_eq hg.symm)) hb); have n2_ := Aside0.mk (Kd.V_below (Kd.V_elderB (by (with_reducible repeat (first | apply Kd.V_alloc | apply Kd.V_drewN | apply Kd.V_drew)); exact HO416.out) gb427 (Nat.le_of_eq hg.symm)) hb); have n3_ := Aside0.mk (Kd.V_below (Kd.V_elderB (by (with_reducible repeat (first | apply Kd.V_alloc | apply Kd.V_drewN | apply Kd.V_drew)); exact HO422.out) gb427 (Nat.le_of_eq hg.symm)) hb); have n4_ := Aside0.mk (Kd.V_below (Kd.V_elderB (by (with_reducible repeat (first | apply Kd.V_alloc | apply Kd.V_drewN | apply Kd.V_drew)); exact HO425.out) gb427 (Nat.le_of_eq hg.symm)) hb); have n5_ := Aside0.mk (below_step (by repeat (first | (with_reducible first | exact HB.out | apply below_alloc | apply pw_below_drewN | apply below_drew1) | exact HB.out)) hb); have n6_ := Aside0.mk (hbox); have n7_ := Aside0.mk ((by rw [hg]; exact (below_size (by repeat (first | (with_reducible first | exact HB.out | apply below_alloc | apply pw_below_drewN | apply below_drew1) | exact HB.out))) : w.heap.size ≤ gb427)); have n8_ := Aside0.mk ((by rw [hg]; exact (below_size (by repeat (first | (with_reducible first | exact HB.out | apply below_alloc | apply pw_below_drewN | apply below_drew1) | exact HB.out))) : w.heap.size ≤ gb427)); clear HO_4; clear HO_7; clear HO416; clear HO422; clear HO425; clear HB; have HO_4 := n0_; have HO_7 := n1_; have HO416 := n2_; have HO422 := n3_; have HO425 := n4_; have HB := n5_; have BK427 := n6_; have GW427 := n7_; have GE427 := n8_; clear n0_ n1_ n2_ n3_ n4_ n5_ n6_ n7_ n8_; clear hb hbox hg; have hcz36_0 : w35.cell? ⟨gb427, 0, none⟩ = some (.int .i64 0) := (blk_cell BK427.out 0).trans rfl; have hcz36_1 : w35.cell? ⟨gb427, 1, none⟩ = some (.string (⟨#[]⟩ : ByteArray)) := (blk_cell BK427.out 1).trans rfl; have hcz36_2 : w35.cell? ⟨gb427, 2, none⟩ = some (.int .i64 0) := (blk_cell BK427.out 2).trans rfl; have hcz36_3 : w35.cell? ⟨gb427, 3, none⟩ = some (.slice none 0 0) := (blk_cell BK427.out 3).trans rfl; have hfz36_0 := blk_frozen BK427.out 0; have hfz36_1 := blk_frozen BK427.out 1; have hfz36_2 := blk_frozen BK427.out 2; have hfz36_3 := blk_frozen BK427.out 3; obtain ⟨Ao37, co37, eo37⟩ := Kd.V_slice HO422.out; subst eo37))
              repeat (go_quiet (first | (go_at_call 42; (with_reducible refine (aumbryref11_Number.calls _ _ x4_2 t411 _ ?side1 ?side2 A28.out).mono ?_); (case side1 => repeat (first | exact (Kd.V_reads' HO_4.out).2.2 | (with_reducible refine Kd.C_alloc ?_ _) | (with_reducible refine Kd.C_drewN ?_ _) | (with_reducible refine Kd.C_drew ?_))); (case side2 => exact (Kd.V_reads' HO_4.out).2.1); rintro e w' ⟨rfl, ⟨nd, rfl⟩⟩; (try first | exact ⟨rfl, _, World.drewN_drewN _ _ _⟩ | exact ⟨rfl, _, Eq.trans (World.drewN_drewN _ _ _) (congrArg (World.drewN _) (Nat.add_assoc _ _ _))⟩)) | (go_at_call 33; (with_reducible refine (aumbryref16_next.calls k2 (fun k_ => ((w.heap.size ≤ k_) ∧ some k_ ≠ (u7 : Value).ownBlock)) _ _ y412 t417 t418 t419 t420 t423 t426 _ ?side1 A30.out).mono ?_); (case side1 => exact HO416.out); rintro e w34 ⟨v421, v424, rfl, ho0, ho1, hb⟩; have n0_ := Aside0.mk (Kd.V_below (by (with_reducible repeat (first | apply Kd.V_alloc | apply Kd.V_drewN | apply Kd.V_drew)); exact HO_4.out) hb); have n1_ := Aside0.mk (Kd.N_below (by (with_reducible repeat (first | apply Kd.N_alloc | apply Kd.N_drewN | apply Kd.N_drew)); exact HO_7.out) hb); have n2_ := Aside0.mk (Kd.V_below (by (with_reducible repeat (first | apply Kd.V_alloc | apply Kd.V_drewN | apply Kd.V_drew)); exact HO416.out) hb); have n3_ := Aside0.mk (Kd.V_lower (Kd.V_mono (ok' := fun k_ => (w.heap.size ≤ k_) ∧ some k_ ≠ (u7 : Value).ownBlock) ho0 (fun k_ hk_ => ⟨Or.elim hk_ (fun hs_ => hs_.1) (fun hn_ => (Nat.le_trans (below_size (by repeat (first | (with_reducible first | exact HB.out | apply below_alloc | apply pw_below_drewN | apply below_drew1) | exact HB.out))) hn_)), Or.elim hk_ (fun hs_ => hs_.2) (fun hn_ => (Kd.fresh' (Kd.N_lt (by (with_reducible repeat (first | apply Kd.N_alloc | apply Kd.N_drewN | apply Kd.N_drew)); exact HO_7.out)) k_ hn_))⟩)) (below_size (by repeat (first | (with_reducible first | exact HB.out | apply below_alloc | apply pw_below_drewN | apply below_drew1) | exact HB.out)))); have n4_ := Aside0.mk (Kd.V_lower (Kd.V_mono (ok' := fun k_ => (w.heap.size ≤ k_) ∧ some k_ ≠ (u7 : Value).ownBlock) ho1 (fun k_ hk_ => ⟨Or.elim hk_ (fun hs_ => hs_.1) (fun hn_ => (Nat.le_trans (below_size (by repeat (first | (with_reducible first | exact HB.out | apply below_alloc | apply pw_below_drewN | apply below_drew1) | exact HB.out))) hn_)), Or.elim hk_ (fun hs_ => hs_.2) (fun hn_ => (Kd.fresh' (Kd.N_lt (by (with_reducible repeat (first | apply Kd.N_alloc | apply Kd.N_drewN | apply Kd.N_drew)); exact HO_7.out)) k_ hn_))⟩)) (below_size (by repeat (first | (with_reducible first | exact HB.out | apply below_alloc | apply pw_below_drewN | apply below_drew1) | exact HB.out)))); have n5_ := Aside0.mk (below_step (by repeat (first | (with_reducible first | exact HB.out | apply below_alloc | apply pw_below_drewN | apply below_drew1) | exact HB.out)) hb); clear HO_4; clear HO_7; clear HO416; clear HB; have HO_4 := n0_; have HO_7 := n1_; have HO416 := n2_; have HO422 := n3_; have HO425 := n4_; have HB := n5_; clear n0_ n1_ n2_ n3_ n4_ n5_; (try clear hb); (try clear hb2); (try clear hk); (try clear hi); (try clear ho0); (try clear ho1)) | ((with_reducible refine gate_dst (N := 10) rfl ?_); (try (refine gate_guard (by rfl) ?_; dsimp only)); refine box_event ?hg (N := 10) ?hd (cs := #[.int .i64 0, .string (⟨#[]⟩ : ByteArray), .int .i64 0, .slice none 0 0]) (t := 25) ?hr ?_; (case hd => rfl); (case hg => rfl); (case hr => first | (go_simp; done) | (go_simp; rfl)); intro gb427 hg w35 hbox hb; have n0_ := Aside0.mk (Kd.V_below (Kd.V_elderB (by (with_reducible repeat (first | apply Kd.V_alloc | apply Kd.V_drewN | apply Kd.V_drew)); exact HO_4.out) gb427 (Nat.le_of_eq hg.symm)) hb); have n1_ := Aside0.mk (Kd.N_below (Kd.N_elderB (by (with_reducible repeat (first | apply Kd.N_alloc | apply Kd.N_drewN | apply Kd.N_drew)); exact HO_7.out) gb427 (Nat.le_of_eq hg.symm)) hb); have n2_ := Aside0.mk (Kd.V_below (Kd.V_elderB (by (with_reducible repeat (first | apply Kd.V_alloc | apply Kd.V_drewN | apply Kd.V_drew)); exact HO416.out) gb427 (Nat.le_of_eq hg.symm)) hb); have n3_ := Aside0.mk (Kd.V_below (Kd.V_elderB (by (with_reducible repeat (first | apply Kd.V_alloc | apply Kd.V_drewN | apply Kd.V_drew)); exact HO422.out) gb427 (Nat.le_of_eq hg.symm)) hb); have n4_ := Aside0.mk (Kd.V_below (Kd.V_elderB (by (with_reducible repeat (first | apply Kd.V_alloc | apply Kd.V_drewN | apply Kd.V_drew)); exact HO425.out) gb427 (Nat.le_of_eq hg.symm)) hb); have n5_ := Aside0.mk (below_step (by repeat (first | (with_reducible first | exact HB.out | apply below_alloc | apply pw_below_drewN | apply below_drew1) | exact HB.out)) hb); have n6_ := Aside0.mk (hbox); have n7_ := Aside0.mk ((by rw [hg]; exact (below_size (by repeat (first | (with_reducible first | exact HB.out | apply below_alloc | apply pw_below_drewN | apply below_drew1) | exact HB.out))) : w.heap.size ≤ gb427)); have n8_ := Aside0.mk ((by rw [hg]; exact (below_size (by repeat (first | (with_reducible first | exact HB.out | apply below_alloc | apply pw_below_drewN | apply below_drew1) | exact HB.out))) : w.heap.size ≤ gb427)); clear HO_4; clear HO_7; clear HO416; clear HO422; clear HO425; clear HB; have HO_4 := n0_; have HO_7 := n1_; have HO416 := n2_; have HO422 := n3_; have HO425 := n4_; have HB := n5_; have BK427 := n6_; have GW427 := n7_; have GE427 := n8_; clear n0_ n1_ n2_ n3_ n4_ n5_ n6_ n7_ n8_; clear hb hbox hg; have hcz36_0 : w35.cell? ⟨gb427, 0, none⟩ = some (.int .i64 0) := (blk_cell BK427.out 0).trans rfl; have hcz36_1 : w35.cell? ⟨gb427, 1, none⟩ = some (.string (⟨#[]⟩ : ByteArray)) := (blk_cell BK427.out 1).trans rfl; have hcz36_2 : w35.cell? ⟨gb427, 2, none⟩ = some (.int .i64 0) := (blk_cell BK427.out 2).trans rfl; have hcz36_3 : w35.cell? ⟨gb427, 3, none⟩ = some (.slice none 0 0) := (blk_cell BK427.out 3).trans rfl; have hfz36_0 := blk_frozen BK427.out 0; have hfz36_1 := blk_frozen BK427.out 1; have hfz36_2 := blk_frozen BK427.out 2; have hfz36_3 := blk_frozen BK427.out 3; obtain ⟨Ao37, co37, eo37⟩ := Kd.V_slice HO422.out; subst eo37)); go_upto_region 22 with (first | (go_at_call 42; (with_reducible refine (aumbryref11_Number.calls _ _ x4_2 t411 _ ?side1 ?side2 A28.out).mono ?_); (case side1 => repeat (first | exact (Kd.V_reads' HO_4.out).2.2 | (with_reducible refine Kd.C_alloc ?_ _) | (with_reducible refine Kd.C_drewN ?_ _) | (with_reducible refine Kd.C_drew ?_))); (case side2 => exact (Kd.V_reads' HO_4.out).2.1); rintro e w' ⟨rfl, ⟨nd, rfl⟩⟩; (try first | exact ⟨rfl, _, World.drewN_drewN _ _ _⟩ | exact ⟨rfl, _, Eq.trans (World.drewN_drewN _ _ _) (congrArg (World.drewN _) (Nat.add_assoc _ _ _))⟩)) | (go_at_call 33; (with_reducible refine (aumbryref16_next.calls k2 (fun k_ => ((w.heap.size ≤ k_) ∧ some k_ ≠ (u7 : Value).ownBlock)) _ _ y412 t417 t418 t419 t420 t423 t426 _ ?side1 A30.out).mono ?_); (case side1 => exact HO416.out); rintro e w34 ⟨v421, v424, rfl, ho0, ho1, hb⟩; have n0_ := Aside0.mk (Kd.V_below (by (with_reducible repeat (first | apply Kd.V_alloc | apply Kd.V_drewN | apply Kd.V_drew)); exact HO_4.out) hb); have n1_ := Aside0.mk (Kd.N_below (by (with_reducible repeat (first | apply Kd.N_alloc | apply Kd.N_drewN | apply Kd.N_drew)); exact HO_7.out) hb); have n2_ := Aside0.mk (Kd.V_below (by (with_reducible repeat (first | apply Kd.V_alloc | apply Kd.V_drewN | apply Kd.V_drew)); exact HO416.out) hb); have n3_ := Aside0.mk (Kd.V_lower (Kd.V_mono (ok' := fun k_ => (w.heap.size ≤ k_) ∧ some k_ ≠ (u7 : Value).ownBlock) ho0 (fun k_ hk_ => ⟨Or.elim hk_ (fun hs_ => hs_.1) (fun hn_ => (Nat.le_trans (below_size (by repeat (first | (with_reducible first | exact HB.out | apply below_alloc | apply pw_below_drewN | apply below_drew1) | exact HB.out))) hn_)), Or.elim hk_ (fun hs_ => hs_.2) (fun hn_ => (Kd.fresh' (Kd.N_lt (by (with_reducible repeat (first | apply Kd.N_alloc | apply Kd.N_drewN | apply Kd.N_drew)); exact HO_7.out)) k_ hn_))⟩)) (below_size (by repeat (first | (with_reducible first | exact HB.out | apply below_alloc | apply pw_below_drewN | apply below_drew1) | exact HB.out)))); have n4_ := Aside0.mk (Kd.V_lower (Kd.V_mono (ok' := fun k_ => (w.heap.size ≤ k_) ∧ some k_ ≠ (u7 : Value).ownBlock) ho1 (fun k_ hk_ => ⟨Or.elim hk_ (fun hs_ => hs_.1) (fun hn_ => (Nat.le_trans (below_size (by repeat (first | (with_reducible first | exact HB.out | apply below_alloc | apply pw_below_drewN | apply below_drew1) | exact HB.out))) hn_)), Or.elim hk_ (fun hs_ => hs_.2) (fun hn_ => (Kd.fresh' (Kd.N_lt (by (with_reducible repeat (first | apply Kd.N_alloc | apply Kd.N_drewN | apply Kd.N_drew)); exact HO_7.out)) k_ hn_))⟩)) (below_size (by repeat (first | (with_reducible first | exact HB.out | apply below_alloc | apply pw_below_drewN | apply below_drew1) | exact HB.out)))); have n5_ := Aside0.mk (below_step (by repeat (first | (with_reducible first | exact HB.out | apply below_alloc | apply pw_below_drewN | apply below_drew1) | exact HB.out)) hb); clear HO_4; clear HO_7; clear HO416; clear HB; have HO_4 := n0_; have HO_7 := n1_; have HO416 := n2_; have HO422 := n3_; have HO425 := n4_; have HB := n5_; clear n0_ n1_ n2_ n3_ n4_ n5_; (try clear hb); (try clear hb2); (try clear hk); (try clear hi); (try clear ho0); (try clear ho1)) | ((with_reducible refine gate_dst (N := 10) rfl ?_); (try (refine gate_guard (by rfl) ?_; dsimp only)); refine box_event ?hg (N := 10) ?hd (cs := #[.int .i64 0, .string (⟨#[]⟩ : ByteArray), .int .i64 0, .slice none 0 0]) (t := 25) ?hr ?_; (case hd => rfl); (case hg => rfl); (case hr => first | (go_simp; done) | (go_simp; rfl)); intro gb427 hg w35 hbox hb; have n0_ := Aside0.mk (Kd.V_below (Kd.V_elderB (by (with_reducible repeat (first | apply Kd.V_alloc | apply Kd.V_drewN | apply Kd.V_drew)); exact HO_4.out) gb427 (Nat.le_of_eq hg.symm)) hb); have n1_ := Aside0.mk (Kd.N_below (Kd.N_elderB (by (with_reducible repeat (first | apply Kd.N_alloc | apply Kd.N_drewN | apply Kd.N_drew)); exact HO_7.out) gb427 (Nat.le_of_eq hg.symm)) hb); have n2_ := Aside0.mk (Kd.V_below (Kd.V_elderB (by (with_reducible repeat (first | apply Kd.V_alloc | apply Kd.V_drewN | apply Kd.V_drew)); exact HO416.out) gb427 (Nat.le_of_eq hg.symm)) hb); have n3_ := Aside0.mk (Kd.V_below (Kd.V_elderB (by (with_reducible repeat (first | apply Kd.V_alloc | apply Kd.V_drewN | apply Kd.V_drew)); exact HO422.out) gb427 (Nat.le_of_eq hg.symm)) hb); have n4_ := Aside0.mk (Kd.V_below (Kd.V_elderB (by (with_reducible repeat (first | apply Kd.V_alloc | apply Kd.V_drewN | apply Kd.V_drew)); exact HO425.out) gb427 (Nat.le_of_eq hg.symm)) hb); have n5_ := Aside0.mk (below_step (by repeat (first | (with_reducible first | exact HB.out | apply below_alloc | apply pw_below_drewN | apply below_drew1) | exact HB.out)) hb); have n6_ := Aside0.mk (hbox); have n7_ := Aside0.mk ((by rw [hg]; exact (below_size (by repeat (first | (with_reducible first | exact HB.out | apply below_alloc | apply pw_below_drewN | apply below_drew1) | exact HB.out))) : w.heap.size ≤ gb427)); have n8_ := Aside0.mk ((by rw [hg]; exact (below_size (by repeat (first | (with_reducible first | exact HB.out | apply below_alloc | apply pw_below_drewN | apply below_drew1) | exact HB.out))) : w.heap.size ≤ gb427)); clear HO_4; clear HO_7; clear HO416; clear HO422; clear HO425; clear HB; have HO_4 := n0_; have HO_7 := n1_; have HO416 := n2_; have HO422 := n3_; have HO425 := n4_; have HB := n5_; have BK427 := n6_; have GW427 := n7_; have GE427 := n8_; clear n0_ n1_ n2_ n3_ n4_ n5_ n6_ n7_ n8_; clear hb hbox hg; have hcz36_0 : w35.cell? ⟨gb427, 0, none⟩ = some (.int .i64 0) := (blk_cell BK427.out 0).trans rfl; have hcz36_1 : w35.cell? ⟨gb427, 1, none⟩ = some (.string (⟨#[]⟩ : ByteArray)) := (blk_cell BK427.out 1).trans rfl; have hcz36_2 : w35.cell? ⟨gb427, 2, none⟩ = some (.int .i64 0) := (blk_cell BK427.out 2).trans rfl; have hcz36_3 : w35.cell? ⟨gb427, 3, none⟩ = some (.slice none 0 0) := (blk_cell BK427.out 3).trans rfl; have hfz36_0 := blk_frozen BK427.out 0; have hfz36_1 := blk_frozen BK427.out 1; have hfz36_2 := blk_frozen BK427.out 2; have hfz36_3 := blk_frozen BK427.out 3; obtain ⟨Ao37, co37, eo37⟩ := Kd.V_slice HO422.out; subst eo37)))
              (try simp only [Act.put, List.setIfInBounds_toArray, List.set_cons_zero, List.set_cons_succ])
              go_cut [96] (fun v96 wc => ∃ (kq : Nat) (x96_30 : Bool), v96 = .bool x96_30 ∧ Aside0 (aumbryref16_Unsnap.j3 kq (wrap64 ((wrap64 (256 * (wrap64 (rd x4_1 0)))) + (wrap64 (rd x4_1 1)))) x7_2 x8_2 t411 t423 x96_30 t417 t418 t419 t420 = some (r1, r2)) ∧ Aside0 (kq ≤ k2) ∧ Aside0 (Kd.N k61 61 wc w.heap.size (fun k_ => (w.heap.size ≤ k_) ∧ k_ ≠ gb427) u7 x7_2) ∧ Aside0 (Kd.V (Kd.int .u8) 5 wc w.heap.size (fun k_ => (w.heap.size ≤ k_) ∧ some k_ ≠ (u7 : Value).ownBlock ∧ k_ ≠ gb427) v424 t423) ∧ Aside0 (Kd.V (Kd.int .i64) 3 wc w.heap.size (fun k_ => (w.heap.size ≤ k_) ∧ some k_ ≠ (u7 : Value).ownBlock ∧ k_ ≠ gb427) (.slice Ao37 t420.length co37) t420) ∧ Aside0 (wc.heap[gb427]? = some (.cells #[.int .i64 t417, .string t418, .int .i64 t419, (.slice Ao37 t420.length co37)] 25 (0, 0))) ∧ Aside0 (Below w.heap.size w wc))
              case first =>
               have H := HC31.out
               clear HC31
               by_cases c38 : t426 = true
               ·subst c38
                have H1 : (if t411 > 2147483647 then (aumbryref16_Unsnap.j3 k2 (wrap64 ((wrap64 (256 * (wrap64 (rd x4_1 0)))) + (wrap64 (rd x4_1 1)))) x7_2 x8_2 t411 t423 true t417 t418 t419 t420) else (aumbryref16_Unsnap.j3 k2 (wrap64 ((wrap64 (256 * (wrap64 (rd x4_1 0)))) + (wrap64 (rd x4_1 1)))) x7_2 x8_2 t411 t423 (t417 != 1) t417 t418 t419 t420)) = some (r1, r2) := by rw [if_pos rfl] at H; exact H
                clear H
                have H := H1
                clear H1
                by_cases c39 : t411 > 2147483647
                ·rw [if_pos c39] at H
                 have c39b0 : decide (2147483647 < t411) = true := decide_eq_true c39
                 clear c39
                 (first | rw [c39b0] | (simp only [i64_w, i32_w]; rw [c39b0]) | skip)
                 have H' := Aside0.mk H
                 clear H
                 go_wp2
                 repeat (go_quiet (fail); try go_wp2)
                 try subst hji10
                 go_meet
                 case rel => exact ⟨_, (true), (by first | rfl | (simp; done) | (simp [*]; done)), H', ⟨by have := HK1.out; have := HK2.out; first | omega | exact Nat.le_refl _⟩, ⟨by (with_reducible repeat (first | apply Kd.N_alloc | apply Kd.N_drewN | apply Kd.N_drew)); exact Kd.N_mono (Kd.N_far (p := ⟨gb427, 3, none⟩) (Kd.N_far (p := ⟨gb427, 2, none⟩) (Kd.N_far (p := ⟨gb427, 1, none⟩) (Kd.N_far (p := ⟨gb427, 0, none⟩) (Kd.N_mono HO_7.out (fun k_ hk => (⟨hk, hk.2⟩ : _ ∧ k_ ≠ gb427))) (fun _ hk => hk.2) (.int .i64 t417)) (fun _ hk => hk.2) (.string t418)) (fun _ hk => hk.2) (.int .i64 t419)) (fun _ hk => hk.2) (.slice Ao37 t420.length co37)) (fun _ hk => ⟨hk.1.1, hk.1.2⟩)⟩, ⟨by (with_reducible repeat (first | apply Kd.V_alloc | apply Kd.V_drewN | apply Kd.V_drew)); exact Kd.V_mono (Kd.V_far (p := ⟨gb427, 3, none⟩) (Kd.V_far (p := ⟨gb427, 2, none⟩) (Kd.V_far (p := ⟨gb427, 1, none⟩) (Kd.V_far (p := ⟨gb427, 0, none⟩) (Kd.V_mono HO425.out (fun k_ hk => (⟨hk, hk.2⟩ : _ ∧ k_ ≠ gb427))) (fun _ hk => hk.2) (.int .i64 t417)) (fun _ hk => hk.2) (.string t418)) (fun _ hk => hk.2) (.int .i64 t419)) (fun _ hk => hk.2) (.slice Ao37 t420.length co37)) (fun _ hk => ⟨hk.1.1.1, ⟨hk.1.1.2, hk.1.2⟩⟩)⟩, ⟨by (with_reducible repeat (first | apply Kd.V_alloc | apply Kd.V_drewN | apply Kd.V_drew)); exact Kd.V_mono (Kd.V_far (p := ⟨gb427, 3, none⟩) (Kd.V_far (p := ⟨gb427, 2, none⟩) (Kd.V_far (p := ⟨gb427, 1, none⟩) (Kd.V_far (p := ⟨gb427, 0, none⟩) (Kd.V_mono HO422.out (fun k_ hk => (⟨hk, hk.2⟩ : _ ∧ k_ ≠ gb427))) (fun _ hk => hk.2) (.int .i64 t417)) (fun _ hk => hk.2) (.string t418)) (fun _ hk => hk.2) (.int .i64 t419)) (fun _ hk => hk.2) (.slice Ao37 t420.length co37)) (fun _ hk => ⟨hk.1.1.1, ⟨hk.1.1.2, hk.1.2⟩⟩)⟩, ⟨by (with_reducible repeat (first | refine blk_drewN ?_ _ | refine blk_drew ?_ | refine blk_alloc ?_ _)); refine blk_put (cs := #[.int .i64 t417, .string t418, .int .i64 t419, .slice none 0 0]) ?_ 3 _ rfl; (with_reducible repeat (first | refine blk_drewN ?_ _ | refine blk_drew ?_ | refine blk_alloc ?_ _)); refine blk_put (cs := #[.int .i64 t417, .string t418, .int .i64 0, .slice none 0 0]) ?_ 2 _ rfl; (with_reducible repeat (first | refine blk_drewN ?_ _ | refine blk_drew ?_ | refine blk_alloc ?_ _)); refine blk_put (cs := #[.int .i64 t417, .string (⟨#[]⟩ : ByteArray), .int .i64 0, .slice none 0 0]) ?_ 1 _ rfl; (with_reducible repeat (first | refine blk_drewN ?_ _ | refine blk_drew ?_ | refine blk_alloc ?_ _)); refine blk_put (cs := #[.int .i64 0, .string (⟨#[]⟩ : ByteArray), .int .i64 0, .slice none 0 0]) ?_ 0 _ rfl; (with_reducible repeat (first | refine blk_drewN ?_ _ | refine blk_drew ?_ | refine blk_alloc ?_ _)); exact BK427.out⟩, ⟨by repeat (first | (with_reducible first | exact HB.out | apply below_alloc | apply pw_below_drewN | apply below_drew1 | refine below_set ?_ GE427.out) | exact HB.out)⟩⟩
                ·rw [if_neg c39] at H
                 have c39b0 : decide (2147483647 < t411) = false := decide_eq_false c39
                 clear c39
                 (first | rw [c39b0] | (simp only [i64_w, i32_w]; rw [c39b0]) | skip)
                 have H' := Aside0.mk H
                 clear H
                 have hcz40_0 : w35.cell? ⟨gb427, 0, none⟩ = some (.int .i64 0) := (blk_cell BK427.out 0).trans rfl
                 have hcz40_1 : w35.cell? ⟨gb427, 1, none⟩ = some (.string (⟨#[]⟩ : ByteArray)) := (blk_cell BK427.out 1).trans rfl
                 have hcz40_2 : w35.cell? ⟨gb427, 2, none⟩ = some (.int .i64 0) := (blk_cell BK427.out 2).trans rfl
                 have hcz40_3 : w35.cell? ⟨gb427, 3, none⟩ = some (.slice none 0 0) := (blk_cell BK427.out 3).trans rfl
                 have hfz40_0 := blk_frozen BK427.out 0
                 have hfz40_1 := blk_frozen BK427.out 1
                 have hfz40_2 := blk_frozen BK427.out 2
                 have hfz40_3 := blk_frozen BK427.out 3
                 go_wp2
                 repeat (go_quiet (fail); try go_wp2)
                 try subst hji10
                 go_meet
                 case rel => exact ⟨_, ((t417 != 1)), (by first | rfl | (simp; done) | (simp [*]; done)), H', ⟨by have := HK1.out; have := HK2.out; first | omega | exact Nat.le_refl _⟩, ⟨by (with_reducible repeat (first | apply Kd.N_alloc | apply Kd.N_drewN | apply Kd.N_drew)); exact Kd.N_mono (Kd.N_far (p := ⟨gb427, 3, none⟩) (Kd.N_far (p := ⟨gb427, 2, none⟩) (Kd.N_far (p := ⟨gb427, 1, none⟩) (Kd.N_far (p := ⟨gb427, 0, none⟩) (Kd.N_mono HO_7.out (fun k_ hk => (⟨hk, hk.2⟩ : _ ∧ k_ ≠ gb427))) (fun _ hk => hk.2) (.int .i64 t417)) (fun _ hk => hk.2) (.string t418)) (fun _ hk => hk.2) (.int .i64 t419)) (fun _ hk => hk.2) (.slice Ao37 t420.length co37)) (fun _ hk => ⟨hk.1.1, hk.1.2⟩)⟩, ⟨by (with_reducible repeat (first | apply Kd.V_alloc | apply Kd.V_drewN | apply Kd.V_drew)); exact Kd.V_mono (Kd.V_far (p := ⟨gb427, 3, none⟩) (Kd.V_far (p := ⟨gb427, 2, none⟩) (Kd.V_far (p := ⟨gb427, 1, none⟩) (Kd.V_far (p := ⟨gb427, 0, none⟩) (Kd.V_mono HO425.out (fun k_ hk => (⟨hk, hk.2⟩ : _ ∧ k_ ≠ gb427))) (fun _ hk => hk.2) (.int .i64 t417)) (fun _ hk => hk.2) (.string t418)) (fun _ hk => hk.2) (.int .i64 t419)) (fun _ hk => hk.2) (.slice Ao37 t420.length co37)) (fun _ hk => ⟨hk.1.1.1, ⟨hk.1.1.2, hk.1.2⟩⟩)⟩, ⟨by (with_reducible repeat (first | apply Kd.V_alloc | apply Kd.V_drewN | apply Kd.V_drew)); exact Kd.V_mono (Kd.V_far (p := ⟨gb427, 3, none⟩) (Kd.V_far (p := ⟨gb427, 2, none⟩) (Kd.V_far (p := ⟨gb427, 1, none⟩) (Kd.V_far (p := ⟨gb427, 0, none⟩) (Kd.V_mono HO422.out (fun k_ hk => (⟨hk, hk.2⟩ : _ ∧ k_ ≠ gb427))) (fun _ hk => hk.2) (.int .i64 t417)) (fun _ hk => hk.2) (.string t418)) (fun _ hk => hk.2) (.int .i64 t419)) (fun _ hk => hk.2) (.slice Ao37 t420.length co37)) (fun _ hk => ⟨hk.1.1.1, ⟨hk.1.1.2, hk.1.2⟩⟩)⟩, ⟨by (with_reducible repeat (first | refine blk_drewN ?_ _ | refine blk_drew ?_ | refine blk_alloc ?_ _)); refine blk_put (cs := #[.int .i64 t417, .string t418, .int .i64 t419, .slice none 0 0]) ?_ 3 _ rfl; (with_reducible repeat (first | refine blk_drewN ?_ _ | refine blk_drew ?_ | refine blk_alloc ?_ _)); refine blk_put (cs := #[.int .i64 t417, .string t418, .int .i64 0, .slice none 0 0]) ?_ 2 _ rfl; (with_reducible repeat (first | refine blk_drewN ?_ _ | refine blk_drew ?_ | refine blk_alloc ?_ _)); refine blk_put (cs := #[.int .i64 t417, .string (⟨#[]⟩ : ByteArray), .int .i64 0, .slice none 0 0]) ?_ 1 _ rfl; (with_reducible repeat (first | refine blk_drewN ?_ _ | refine blk_drew ?_ | refine blk_alloc ?_ _)); refine blk_put (cs := #[.int .i64 0, .string (⟨#[]⟩ : ByteArray), .int .i64 0, .slice none 0 0]) ?_ 0 _ rfl; (with_reducible repeat (first | refine blk_drewN ?_ _ | refine blk_drew ?_ | refine blk_alloc ?_ _)); exact BK427.out⟩, ⟨by repeat (first | (with_reducible first | exact HB.out | apply below_alloc | apply pw_below_drewN | apply below_drew1 | refine below_set ?_ GE427.out) | exact HB.out)⟩⟩
               ·replace c38 := Bool.eq_false_iff.mpr c38
                subst c38
                have H1 : (aumbryref16_Unsnap.j3 k2 (wrap64 ((wrap64 (256 * (wrap64 (rd x4_1 0)))) + (wrap64 (rd x4_1 1)))) x7_2 x8_2 t411 t423 true t417 t418 t419 t420) = some (r1, r2) := by rw [if_neg (show ¬ (false = true) by decide)] at H; exact H
                clear H
                have H := H1
                clear H1
                have H' := Aside0.mk H
                clear H
                go_wp2
                repeat (go_quiet (fail); try go_wp2)
                try subst hji10
                go_meet
                case rel => exact ⟨_, (true), (by first | rfl | (simp; done) | (simp [*]; done)), H', ⟨by have := HK1.out; have := HK2.out; first | omega | exact Nat.le_refl _⟩, ⟨by (with_reducible repeat (first | apply Kd.N_alloc | apply Kd.N_drewN | apply Kd.N_drew)); exact Kd.N_mono (Kd.N_far (p := ⟨gb427, 3, none⟩) (Kd.N_far (p := ⟨gb427, 2, none⟩) (Kd.N_far (p := ⟨gb427, 1, none⟩) (Kd.N_far (p := ⟨gb427, 0, none⟩) (Kd.N_mono HO_7.out (fun k_ hk => (⟨hk, hk.2⟩ : _ ∧ k_ ≠ gb427))) (fun _ hk => hk.2) (.int .i64 t417)) (fun _ hk => hk.2) (.string t418)) (fun _ hk => hk.2) (.int .i64 t419)) (fun _ hk => hk.2) (.slice Ao37 t420.length co37)) (fun _ hk => ⟨hk.1.1, hk.1.2⟩)⟩, ⟨by (with_reducible repeat (first | apply Kd.V_alloc | apply Kd.V_drewN | apply Kd.V_drew)); exact Kd.V_mono (Kd.V_far (p := ⟨gb427, 3, none⟩) (Kd.V_far (p := ⟨gb427, 2, none⟩) (Kd.V_far (p := ⟨gb427, 1, none⟩) (Kd.V_far (p := ⟨gb427, 0, none⟩) (Kd.V_mono HO425.out (fun k_ hk => (⟨hk, hk.2⟩ : _ ∧ k_ ≠ gb427))) (fun _ hk => hk.2) (.int .i64 t417)) (fun _ hk => hk.2) (.string t418)) (fun _ hk => hk.2) (.int .i64 t419)) (fun _ hk => hk.2) (.slice Ao37 t420.length co37)) (fun _ hk => ⟨hk.1.1.1, ⟨hk.1.1.2, hk.1.2⟩⟩)⟩, ⟨by (with_reducible repeat (first | apply Kd.V_alloc | apply Kd.V_drewN | apply Kd.V_drew)); exact Kd.V_mono (Kd.V_far (p := ⟨gb427, 3, none⟩) (Kd.V_far (p := ⟨gb427, 2, none⟩) (Kd.V_far (p := ⟨gb427, 1, none⟩) (Kd.V_far (p := ⟨gb427, 0, none⟩) (Kd.V_mono HO422.out (fun k_ hk => (⟨hk, hk.2⟩ : _ ∧ k_ ≠ gb427))) (fun _ hk => hk.2) (.int .i64 t417)) (fun _ hk => hk.2) (.string t418)) (fun _ hk => hk.2) (.int .i64 t419)) (fun _ hk => hk.2) (.slice Ao37 t420.length co37)) (fun _ hk => ⟨hk.1.1.1, ⟨hk.1.1.2, hk.1.2⟩⟩)⟩, ⟨by (with_reducible repeat (first | refine blk_drewN ?_ _ | refine blk_drew ?_ | refine blk_alloc ?_ _)); refine blk_put (cs := #[.int .i64 t417, .string t418, .int .i64 t419, .slice none 0 0]) ?_ 3 _ rfl; (with_reducible repeat (first | refine blk_drewN ?_ _ | refine blk_drew ?_ | refine blk_alloc ?_ _)); refine blk_put (cs := #[.int .i64 t417, .string t418, .int .i64 0, .slice none 0 0]) ?_ 2 _ rfl; (with_reducible repeat (first | refine blk_drewN ?_ _ | refine blk_drew ?_ | refine blk_alloc ?_ _)); refine blk_put (cs := #[.int .i64 t417, .string (⟨#[]⟩ : ByteArray), .int .i64 0, .slice none 0 0]) ?_ 1 _ rfl; (with_reducible repeat (first | refine blk_drewN ?_ _ | refine blk_drew ?_ | refine blk_alloc ?_ _)); refine blk_put (cs := #[.int .i64 0, .string (⟨#[]⟩ : ByteArray), .int .i64 0, .slice none 0 0]) ?_ 0 _ rfl; (with_reducible repeat (first | refine blk_drewN ?_ _ | refine blk_drew ?_ | refine blk_alloc ?_ _)); exact BK427.out⟩, ⟨by repeat (first | (with_reducible first | exact HB.out | apply below_alloc | apply pw_below_drewN | apply below_drew1 | refine below_set ?_ GE427.out) | exact HB.out)⟩⟩
              case rest =>
               clear HC31
               try clear c1
               try clear c2
               try clear c2b0
               try clear c2b1
               try clear p2
               try clear q2
               try clear c3
               try clear c3b0
               try clear p3
               try clear q3
               try clear hx3
               try clear c4
               try clear p4
               try clear q4
               try clear hx4
               try clear qi4
               try clear c5
               try clear c5b0
               try clear c6
               try clear c6b0
               try clear p6
               try clear c7
               try clear c7b0
               try clear c7b1
               try clear c8
               try clear c8b0
               try clear c9
               try clear c9b0
               try clear c9b1
               try clear c11
               try clear c11b0
               try clear c12
               try clear c12b0
               try clear c13
               try clear c14
               try clear c14b0
               try clear c15
               try clear c15b0
               try clear c16
               try clear c18
               try clear c18b0
               try clear c18b1
               try clear c20
               try clear c20b0
               try clear c20b1
               try clear c21
               try clear c21b0
               try clear c21b1
               try clear c22
               try clear c22b0
               try clear c22b1
               try clear c24
               try clear q24
               try clear c25
               try clear c25b0
               try clear c26
               try clear c26b0
               try clear c26b1
               try clear c29
               try clear c29b0
               try clear c29b1
               try clear c33
               try clear q33
               try clear c38
               try clear c39
               try clear c39b0
               try clear p39
               try clear q39
               try clear hx39
               try clear c40
               try clear p40
               try clear q40
               try clear hx40
               try clear qi40
               try clear hcz36_0
               try clear hcz36_1
               try clear hcz36_2
               try clear hcz36_3
               try clear hcz40_0
               try clear hcz40_1
               try clear hcz40_2
               try clear hcz40_3
               try clear hfz36_0
               try clear hfz36_1
               try clear hfz36_2
               try clear hfz36_3
               try clear hfz40_0
               try clear hfz40_1
               try clear hfz40_2
               try clear hfz40_3
               try clear hx397_0
               try clear hx398_0
               try clear hx399_0
               try clear hx400_0
               try clear hx404_0
               try clear hx405_0
               try clear p2
               try clear p3
               try clear p397
               try clear p398
               try clear p399
               try clear p4
               try clear p400
               try clear p404
               try clear p405
               try clear p6
               try clear q2
               try clear q24
               try clear q3
               try clear q33
               try clear q397
               try clear q398
               try clear q399
               try clear q4
               try clear q400
               try clear q404
               try clear q405
               obtain ⟨kq, x96_30, rfl, HA, HJ30, HO_7, HO_11, HO_428003, BK427, HB⟩ := hcut
               cases kq with
               | zero => exact absurd HA.out (by simp [aumbryref16_Unsnap.j3])
               | succ kj30 =>
                have H := HA.out
                clear HA
                simp only [aumbryref16_Unsnap.j3] at H
                by_cases c41 : x96_30 = true
                ·subst c41
                 have H1 : (some (([] : List (S61)), 160)) = some (r1, r2) := by rw [if_pos rfl] at H; exact H
                 clear H
                 have H := H1
                 clear H1
                 simp only [Option.some.injEq, Prod.mk.injEq] at H
                 obtain ⟨rfl, rfl⟩ := H
                 go_wp2
                 repeat (go_quiet (fail); try go_wp2)
                 go_ret2
                 exact ⟨_, by first | rfl | (simp [errW_none, errW_some] <;> rfl) | (simp [*, errW_none, errW_some] <;> rfl), by first | exact Kd.S_nil _ _ _ _ _ | exact Kd.N_nil _ _ _ _ _ | exact Kd.V_nil _ _ _ _ _ | exact Kd.Q_nil _ _ _ _ _ | exact Kd.R_nil _ _ _ _ _, by repeat (first | (with_reducible first | exact HB.out | apply below_alloc | apply pw_below_drewN | apply below_drew1 | refine below_set ?_ GE427.out) | exact HB.out)⟩
                ·replace c41 := Bool.eq_false_iff.mpr c41
                 subst c41
                 have H1 : (if x7_2.length < 2513169434916 then (aumbryref16_Unsnap.l1 kj30 t423 (wrap64 ((wrap64 (256 * (wrap64 (rd x4_1 0)))) + (wrap64 (rd x4_1 1)))) (x7_2 ++ [(⟨t418, t419, wrap64 (t411), t420⟩ : S61)]) (wrap64 (x8_2 + 1))) else (none)) = some (r1, r2) := by rw [if_neg (show ¬ (false = true) by decide)] at H; exact H
                 clear H
                 have H := H1
                 clear H1
                 by_cases c42 : x7_2.length < 2513169434916
                 ·rw [if_pos c42] at H
                  have LMc42 := Aside0.mk c42
                  clear c42
                  obtain ⟨y428, hy428⟩ : ∃ y_ : List (S61), y_ = (x7_2 ++ [(⟨t418, t419, wrap64 (t411), t420⟩ : S61)]) := ⟨_, rfl⟩
                  replace H : (aumbryref16_Unsnap.l1 kj30 t423 (wrap64 ((wrap64 (256 * (wrap64 (rd x4_1 0)))) + (wrap64 (rd x4_1 1)))) y428 (wrap64 (x8_2 + 1))) = some (r1, r2) := by first | (rw [hy428]; with_reducible exact H) | (have H2_ := (Option.bind_some _ _).symm.trans H; rw [hy428]; with_reducible exact H2_) | (have H2_ := (Option.bind_some _ _).symm.trans H; with_reducible exact H2_) | with_reducible exact H | (rw [hy428]; exact H) | exact H
                  have Ny428 := Aside0.mk hy428
                  clear hy428
                  have H' := Aside0.mk H
                  clear H
                  have hcz43_0 : wc.cell? ⟨gb427, 0, none⟩ = some (.int .i64 t417) := (blk_cell BK427.out 0).trans rfl
                  have hcz43_1 : wc.cell? ⟨gb427, 1, none⟩ = some (.string t418) := (blk_cell BK427.out 1).trans rfl
                  have hcz43_2 : wc.cell? ⟨gb427, 2, none⟩ = some (.int .i64 t419) := (blk_cell BK427.out 2).trans rfl
                  have hcz43_3 : wc.cell? ⟨gb427, 3, none⟩ = some (.slice Ao37 t420.length co37) := (blk_cell BK427.out 3).trans rfl
                  have hfz43_0 := blk_frozen BK427.out 0
                  have hfz43_1 := blk_frozen BK427.out 1
                  have hfz43_2 := blk_frozen BK427.out 2
                  have hfz43_3 := blk_frozen BK427.out 3
                  go_wp2_with (first | ((with_reducible refine gate_builtin (b := .append) (xs := #[.tmp 97, .tmp 107]) rfl ?_); (try (refine gate_guard (by rfl) ?_; dsimp only)); at_builtin; refine Kd.N_append k61 (w0 := w) w.heap.size rfl (.tmp 97) (.tmp 107) 37 61 (.agg #[(.string ⟨#[]⟩), (.int .i64 0), (.int .i64 0), (.slice none 0 0)]) 56 rfl Try.underlying37 info61 rfl (by decide) (by omega) u7 x7_2 (⟨t418, t419, wrap64 (t411), t420⟩ : S61) [.string t418, .int .i64 t419, .int .i64 (wrap64 (t411)), .slice Ao37 t420.length co37] (fun k_ => (w.heap.size ≤ k_) ∧ k_ ≠ gb427) (fun k_ => ((fun k_ => (w.heap.size ≤ k_) ∧ k_ ≠ gb427)) k_ ∧ some k_ ≠ (u7 : Value).ownBlock) rfl rfl ?aP (fun _ hk => hk) ?aF ?aO ?aB ?aS ?aL ?_; (case aP => exact (k61_mkF _ _ (⟨t418, t419, wrap64 (t411), t420⟩ : S61) (Kd.V_reads' (Kd.V_mono (ok' := (fun k_ => ((fun k_ => (w.heap.size ≤ k_) ∧ k_ ≠ gb427)) k_ ∧ some k_ ≠ (u7 : Value).ownBlock)) (HO_428003.out) (fun k_ hk => ⟨⟨hk.1, hk.2.2⟩, hk.2.1⟩))).2.1 (Kd.V_F (Kd.V_mono (ok' := (fun k_ => ((fun k_ => (w.heap.size ≤ k_) ∧ k_ ≠ gb427)) k_ ∧ some k_ ≠ (u7 : Value).ownBlock)) (HO_428003.out) (fun k_ hk => ⟨⟨hk.1, hk.2.2⟩, hk.2.1⟩))))); (case aB => exact (by repeat (first | (with_reducible first | exact HB.out | apply below_alloc | apply pw_below_drewN | apply below_drew1 | refine below_set ?_ GE427.out) | exact HB.out))); (case aF => exact (fun k_ hk => ⟨(Nat.le_trans (below_size (by repeat (first | (with_reducible first | exact HB.out | apply below_alloc | apply pw_below_drewN | apply below_drew1 | refine below_set ?_ GE427.out) | exact HB.out))) hk), Kd.freshB (g := gb427) (o := .cells #[.int .i64 t417, .string t418, .int .i64 t419, .slice Ao37 t420.length co37] 25 (0, 0)) (by (with_reducible repeat (first | refine blk_drewN ?_ _ | refine blk_drew ?_ | refine blk_alloc ?_ _)); exact BK427.out) k_ hk⟩)); (case aO => exact (by (with_reducible repeat (first | apply Kd.N_alloc | apply Kd.N_drewN | apply Kd.N_drew)); exact HO_7.out)); (case aS => exact (below_size (by repeat (first | (with_reducible first | exact HB.out | apply below_alloc | apply pw_below_drewN | apply below_drew1 | refine below_set ?_ GE427.out) | exact HB.out)))); (case aL => have := LMc42.out; omega); intro v429 w44 ho hb hg hat; rw [← Ny428.out] at ho; have n0_ := Aside0.mk (Kd.V_afterv (ok := (fun k_ => (w.heap.size ≤ k_) ∧ k_ ≠ gb427)) (by (with_reducible repeat (first | apply Kd.V_alloc | apply Kd.V_drewN | apply Kd.V_drew)); exact Kd.V_mono HO_11.out (fun _ hk => ⟨⟨hk.1, hk.2.2⟩, hk.2.1⟩)) hg hat); have n1_ := Aside0.mk (Kd.V_afterv (ok := (fun k_ => (w.heap.size ≤ k_) ∧ k_ ≠ gb427)) (by (with_reducible repeat (first | apply Kd.V_alloc | apply Kd.V_drewN | apply Kd.V_drew)); exact Kd.V_mono HO_428003.out (fun _ hk => ⟨⟨hk.1, hk.2.2⟩, hk.2.1⟩)) hg hat); have n2_ := Aside0.mk (blk_grown (g := gb427) (o := .cells #[.int .i64 t417, .string t418, .int .i64 t419, .slice Ao37 t420.length co37] 25 (0, 0)) (by (with_reducible repeat (first | refine blk_drewN ?_ _ | refine blk_drew ?_ | refine blk_alloc ?_ _)); exact BK427.out) hg (Kd.N_ne HO_7.out BK427.out (by decide))); have n3_ := Aside0.mk (hb); have n4_ := Aside0.mk (ho); clear HO_11; clear HO_428003; clear BK427; clear HB; clear HO_7; have HO_11 := n0_; have HO_428003 := n1_; have BK427 := n2_; have HB := n3_; have HO430 := n4_; clear n0_ n1_ n2_ n3_ n4_; clear ho hb hg hat))
                  repeat (go_quiet (first | ((with_reducible refine gate_builtin (b := .append) (xs := #[.tmp 97, .tmp 107]) rfl ?_); (try (refine gate_guard (by rfl) ?_; dsimp only)); at_builtin; refine Kd.N_append k61 (w0 := w) w.heap.size rfl (.tmp 97) (.tmp 107) 37 61 (.agg #[(.string ⟨#[]⟩), (.int .i64 0), (.int .i64 0), (.slice none 0 0)]) 56 rfl Try.underlying37 info61 rfl (by decide) (by omega) u7 x7_2 (⟨t418, t419, wrap64 (t411), t420⟩ : S61) [.string t418, .int .i64 t419, .int .i64 (wrap64 (t411)), .slice Ao37 t420.length co37] (fun k_ => (w.heap.size ≤ k_) ∧ k_ ≠ gb427) (fun k_ => ((fun k_ => (w.heap.size ≤ k_) ∧ k_ ≠ gb427)) k_ ∧ some k_ ≠ (u7 : Value).ownBlock) rfl rfl ?aP (fun _ hk => hk) ?aF ?aO ?aB ?aS ?aL ?_; (case aP => exact (k61_mkF _ _ (⟨t418, t419, wrap64 (t411), t420⟩ : S61) (Kd.V_reads' (Kd.V_mono (ok' := (fun k_ => ((fun k_ => (w.heap.size ≤ k_) ∧ k_ ≠ gb427)) k_ ∧ some k_ ≠ (u7 : Value).ownBlock)) (HO_428003.out) (fun k_ hk => ⟨⟨hk.1, hk.2.2⟩, hk.2.1⟩))).2.1 (Kd.V_F (Kd.V_mono (ok' := (fun k_ => ((fun k_ => (w.heap.size ≤ k_) ∧ k_ ≠ gb427)) k_ ∧ some k_ ≠ (u7 : Value).ownBlock)) (HO_428003.out) (fun k_ hk => ⟨⟨hk.1, hk.2.2⟩, hk.2.1⟩))))); (case aB => exact (by repeat (first | (with_reducible first | exact HB.out | apply below_alloc | apply pw_below_drewN | apply below_drew1 | refine below_set ?_ GE427.out) | exact HB.out))); (case aF => exact (fun k_ hk => ⟨(Nat.le_trans (below_size (by repeat (first | (with_reducible first | exact HB.out | apply below_alloc | apply pw_below_drewN | apply below_drew1 | refine below_set ?_ GE427.out) | exact HB.out))) hk), Kd.freshB (g := gb427) (o := .cells #[.int .i64 t417, .string t418, .int .i64 t419, .slice Ao37 t420.length co37] 25 (0, 0)) (by (with_reducible repeat (first | refine blk_drewN ?_ _ | refine blk_drew ?_ | refine blk_alloc ?_ _)); exact BK427.out) k_ hk⟩)); (case aO => exact (by (with_reducible repeat (first | apply Kd.N_alloc | apply Kd.N_drewN | apply Kd.N_drew)); exact HO_7.out)); (case aS => exact (below_size (by repeat (first | (with_reducible first | exact HB.out | apply below_alloc | apply pw_below_drewN | apply below_drew1 | refine below_set ?_ GE427.out) | exact HB.out)))); (case aL => have := LMc42.out; omega); intro v429 w44 ho hb hg hat; rw [← Ny428.out] at ho; have n0_ := Aside0.mk (Kd.V_afterv (ok := (fun k_ => (w.heap.size ≤ k_) ∧ k_ ≠ gb427)) (by (with_reducible repeat (first | apply Kd.V_alloc | apply Kd.V_drewN | apply Kd.V_drew)); exact Kd.V_mono HO_11.out (fun _ hk => ⟨⟨hk.1, hk.2.2⟩, hk.2.1⟩)) hg hat); have n1_ := Aside0.mk (Kd.V_afterv (ok := (fun k_ => (w.heap.size ≤ k_) ∧ k_ ≠ gb427)) (by (with_reducible repeat (first | apply Kd.V_alloc | apply Kd.V_drewN | apply Kd.V_drew)); exact Kd.V_mono HO_428003.out (fun _ hk => ⟨⟨hk.1, hk.2.2⟩, hk.2.1⟩)) hg hat); have n2_ := Aside0.mk (blk_grown (g := gb427) (o := .cells #[.int .i64 t417, .string t418, .int .i64 t419, .slice Ao37 t420.length co37] 25 (0, 0)) (by (with_reducible repeat (first | refine blk_drewN ?_ _ | refine blk_drew ?_ | refine blk_alloc ?_ _)); exact BK427.out) hg (Kd.N_ne HO_7.out BK427.out (by decide))); have n3_ := Aside0.mk (hb); have n4_ := Aside0.mk (ho); clear HO_11; clear HO_428003; clear BK427; clear HB; clear HO_7; have HO_11 := n0_; have HO_428003 := n1_; have BK427 := n2_; have HB := n3_; have HO430 := n4_; clear n0_ n1_ n2_ n3_ n4_; clear ho hb hg hat)); try go_wp2_with (first | ((with_reducible refine gate_builtin (b := .append) (xs := #[.tmp 97, .tmp 107]) rfl ?_); (try (refine gate_guard (by rfl) ?_; dsimp only)); at_builtin; refine Kd.N_append k61 (w0 := w) w.heap.size rfl (.tmp 97) (.tmp 107) 37 61 (.agg #[(.string ⟨#[]⟩), (.int .i64 0), (.int .i64 0), (.slice none 0 0)]) 56 rfl Try.underlying37 info61 rfl (by decide) (by omega) u7 x7_2 (⟨t418, t419, wrap64 (t411), t420⟩ : S61) [.string t418, .int .i64 t419, .int .i64 (wrap64 (t411)), .slice Ao37 t420.length co37] (fun k_ => (w.heap.size ≤ k_) ∧ k_ ≠ gb427) (fun k_ => ((fun k_ => (w.heap.size ≤ k_) ∧ k_ ≠ gb427)) k_ ∧ some k_ ≠ (u7 : Value).ownBlock) rfl rfl ?aP (fun _ hk => hk) ?aF ?aO ?aB ?aS ?aL ?_; (case aP => exact (k61_mkF _ _ (⟨t418, t419, wrap64 (t411), t420⟩ : S61) (Kd.V_reads' (Kd.V_mono (ok' := (fun k_ => ((fun k_ => (w.heap.size ≤ k_) ∧ k_ ≠ gb427)) k_ ∧ some k_ ≠ (u7 : Value).ownBlock)) (HO_428003.out) (fun k_ hk => ⟨⟨hk.1, hk.2.2⟩, hk.2.1⟩))).2.1 (Kd.V_F (Kd.V_mono (ok' := (fun k_ => ((fun k_ => (w.heap.size ≤ k_) ∧ k_ ≠ gb427)) k_ ∧ some k_ ≠ (u7 : Value).ownBlock)) (HO_428003.out) (fun k_ hk => ⟨⟨hk.1, hk.2.2⟩, hk.2.1⟩))))); (case aB => exact (by repeat (first | (with_reducible first | exact HB.out | apply below_alloc | apply pw_below_drewN | apply below_drew1 | refine below_set ?_ GE427.out) | exact HB.out))); (case aF => exact (fun k_ hk => ⟨(Nat.le_trans (below_size (by repeat (first | (with_reducible first | exact HB.out | apply below_alloc | apply pw_below_drewN | apply below_drew1 | refine below_set ?_ GE427.out) | exact HB.out))) hk), Kd.freshB (g := gb427) (o := .cells #[.int .i64 t417, .string t418, .int .i64 t419, .slice Ao37 t420.length co37] 25 (0, 0)) (by (with_reducible repeat (first | refine blk_drewN ?_ _ | refine blk_drew ?_ | refine blk_alloc ?_ _)); exact BK427.out) k_ hk⟩)); (case aO => exact (by (with_reducible repeat (first | apply Kd.N_alloc | apply Kd.N_drewN | apply Kd.N_drew)); exact HO_7.out)); (case aS => exact (below_size (by repeat (first | (with_reducible first | exact HB.out | apply below_alloc | apply pw_below_drewN | apply below_drew1 | refine below_set ?_ GE427.out) | exact HB.out)))); (case aL => have := LMc42.out; omega); intro v429 w44 ho hb hg hat; rw [← Ny428.out] at ho; have n0_ := Aside0.mk (Kd.V_afterv (ok := (fun k_ => (w.heap.size ≤ k_) ∧ k_ ≠ gb427)) (by (with_reducible repeat (first | apply Kd.V_alloc | apply Kd.V_drewN | apply Kd.V_drew)); exact Kd.V_mono HO_11.out (fun _ hk => ⟨⟨hk.1, hk.2.2⟩, hk.2.1⟩)) hg hat); have n1_ := Aside0.mk (Kd.V_afterv (ok := (fun k_ => (w.heap.size ≤ k_) ∧ k_ ≠ gb427)) (by (with_reducible repeat (first | apply Kd.V_alloc | apply Kd.V_drewN | apply Kd.V_drew)); exact Kd.V_mono HO_428003.out (fun _ hk => ⟨⟨hk.1, hk.2.2⟩, hk.2.1⟩)) hg hat); have n2_ := Aside0.mk (blk_grown (g := gb427) (o := .cells #[.int .i64 t417, .string t418, .int .i64 t419, .slice Ao37 t420.length co37] 25 (0, 0)) (by (with_reducible repeat (first | refine blk_drewN ?_ _ | refine blk_drew ?_ | refine blk_alloc ?_ _)); exact BK427.out) hg (Kd.N_ne HO_7.out BK427.out (by decide))); have n3_ := Aside0.mk (hb); have n4_ := Aside0.mk (ho); clear HO_11; clear HO_428003; clear BK427; clear HB; clear HO_7; have HO_11 := n0_; have HO_428003 := n1_; have BK427 := n2_; have HB := n3_; have HO430 := n4_; clear n0_ n1_ n2_ n3_ n4_; clear ho hb hg hat)))
                  go_roundg kj30
                  case measure => have := HK1.out; have := HK2.out; have := HJ30.out; omega
                  case rel => exact ⟨(t423), (y428), (wrap64 (x8_2 + 1)), (by first | rfl | (simp; done) | (simp [*]; done)), H', ⟨by have := HK1.out; have := HK2.out; have := HJ30.out; omega⟩, ⟨by (with_reducible repeat (first | apply Kd.V_alloc | apply Kd.V_drewN | apply Kd.V_drew)); exact Kd.V_mono HO_11.out (fun _ hk => ⟨hk.1.1, hk.2⟩)⟩, ⟨by (with_reducible repeat (first | apply Kd.N_alloc | apply Kd.N_drewN | apply Kd.N_drew)); exact Kd.N_mono HO430.out (fun _ hk => hk.1)⟩, ⟨by repeat (first | (with_reducible first | exact HB.out | apply below_alloc | apply pw_below_drewN | apply below_drew1 | refine below_set ?_ GE427.out) | exact HB.out)⟩⟩
                 ·rw [if_neg c42] at H
                  exact absurd H (by simp)
             ·rw [if_neg c29] at H
              exact absurd H (by simp)
           ·rw [if_neg c25] at H
            have c25b0 : decide (x8_2 < (wrap64 ((wrap64 (256 * (wrap64 (rd x4_1 0)))) + (wrap64 (rd x4_1 1))))) = false := decide_eq_false c25
            clear c25
            replace H := Option.bind_eq_some_iff.mp H
            obtain ⟨t431, A450, H⟩ := H
            replace H : (if t431 = true then (aumbryref16_Unsnap.j4 k2 x7_2 (decide ((x4_2.length : Int) > 0))) else (aumbryref16_Unsnap.j4 k2 x7_2 true)) = some (r1, r2) := H
            have A45 := Aside0.mk A450
            clear A450
            have HC46 := Aside0.mk H
            clear H
            obtain ⟨Ao47, co47, eo47⟩ := Kd.N_slice HO_7.out
            subst eo47
            go_upto_region 27 with (first | (go_at_call 38; (with_reducible refine (aumbryref16_May.calls k2 _ _ x7_2 t431 _ ?side1 ?side2 A45.out).mono ?_); (case side1 => repeat (first | exact (Kd.N_reads' HO_7.out).2.2 | (with_reducible refine Kd.C_alloc ?_ _) | (with_reducible refine Kd.C_drewN ?_ _) | (with_reducible refine Kd.C_drew ?_))); (case side2 => exact (Kd.N_reads' HO_7.out).2.1); rintro e w48 ⟨rfl, hb⟩; have n0_ := Aside0.mk (Kd.V_below (by (with_reducible repeat (first | apply Kd.V_alloc | apply Kd.V_drewN | apply Kd.V_drew)); exact HO_4.out) hb); have n1_ := Aside0.mk (Kd.N_below (by (with_reducible repeat (first | apply Kd.N_alloc | apply Kd.N_drewN | apply Kd.N_drew)); exact HO_7.out) hb); have n2_ := Aside0.mk (below_step (by repeat (first | (with_reducible first | exact HB.out | apply below_alloc | apply pw_below_drewN | apply below_drew1) | exact HB.out)) hb); clear HO_4; clear HO_7; clear HB; have HO_4 := n0_; have HO_7 := n1_; have HB := n2_; clear n0_ n1_ n2_; (try clear hb); (try clear hb2); (try clear hk); (try clear hi)))
            repeat (go_quiet (first | (go_at_call 38; (with_reducible refine (aumbryref16_May.calls k2 _ _ x7_2 t431 _ ?side1 ?side2 A45.out).mono ?_); (case side1 => repeat (first | exact (Kd.N_reads' HO_7.out).2.2 | (with_reducible refine Kd.C_alloc ?_ _) | (with_reducible refine Kd.C_drewN ?_ _) | (with_reducible refine Kd.C_drew ?_))); (case side2 => exact (Kd.N_reads' HO_7.out).2.1); rintro e w48 ⟨rfl, hb⟩; have n0_ := Aside0.mk (Kd.V_below (by (with_reducible repeat (first | apply Kd.V_alloc | apply Kd.V_drewN | apply Kd.V_drew)); exact HO_4.out) hb); have n1_ := Aside0.mk (Kd.N_below (by (with_reducible repeat (first | apply Kd.N_alloc | apply Kd.N_drewN | apply Kd.N_drew)); exact HO_7.out) hb); have n2_ := Aside0.mk (below_step (by repeat (first | (with_reducible first | exact HB.out | apply below_alloc | apply pw_below_drewN | apply below_drew1) | exact HB.out)) hb); clear HO_4; clear HO_7; clear HB; have HO_4 := n0_; have HO_7 := n1_; have HB := n2_; clear n0_ n1_ n2_; (try clear hb); (try clear hb2); (try clear hk); (try clear hi))); go_upto_region 27 with (first | (go_at_call 38; (with_reducible refine (aumbryref16_May.calls k2 _ _ x7_2 t431 _ ?side1 ?side2 A45.out).mono ?_); (case side1 => repeat (first | exact (Kd.N_reads' HO_7.out).2.2 | (with_reducible refine Kd.C_alloc ?_ _) | (with_reducible refine Kd.C_drewN ?_ _) | (with_reducible refine Kd.C_drew ?_))); (case side2 => exact (Kd.N_reads' HO_7.out).2.1); rintro e w48 ⟨rfl, hb⟩; have n0_ := Aside0.mk (Kd.V_below (by (with_reducible repeat (first | apply Kd.V_alloc | apply Kd.V_drewN | apply Kd.V_drew)); exact HO_4.out) hb); have n1_ := Aside0.mk (Kd.N_below (by (with_reducible repeat (first | apply Kd.N_alloc | apply Kd.N_drewN | apply Kd.N_drew)); exact HO_7.out) hb); have n2_ := Aside0.mk (below_step (by repeat (first | (with_reducible first | exact HB.out | apply below_alloc | apply pw_below_drewN | apply below_drew1) | exact HB.out)) hb); clear HO_4; clear HO_7; clear HB; have HO_4 := n0_; have HO_7 := n1_; have HB := n2_; clear n0_ n1_ n2_; (try clear hb); (try clear hb2); (try clear hk); (try clear hi))))
            (try simp only [Act.put, List.setIfInBounds_toArray, List.set_cons_zero, List.set_cons_succ])
            go_cut [118] (fun v118 wc => ∃ (kq : Nat) (x118_45 : Bool), v118 = .bool x118_45 ∧ Aside0 (aumbryref16_Unsnap.j4 kq x7_2 x118_45 = some (r1, r2)) ∧ Aside0 (kq ≤ k2) ∧ Aside0 (Kd.N k61 61 wc w.heap.size (fun k_ => (w.heap.size ≤ k_)) (.slice Ao47 x7_2.length co47) x7_2) ∧ Aside0 (Below w.heap.size w wc))
            case first =>
             have H := HC46.out
             clear HC46
             by_cases c49 : t431 = true
             ·subst c49
              have H1 : (aumbryref16_Unsnap.j4 k2 x7_2 (decide ((x4_2.length : Int) > 0))) = some (r1, r2) := by rw [if_pos rfl] at H; exact H
              clear H
              have H := H1
              clear H1
              have H' := Aside0.mk H
              clear H
              obtain ⟨Ao50, co50, eo50⟩ := Kd.V_slice HO_4.out
              subst eo50
              go_wp2
              repeat (go_quiet (fail); try go_wp2)
              try subst hji10
              go_meet
              case rel => exact ⟨_, (decide ((x4_2.length : Int) > 0)), (by first | rfl | (simp; done) | (simp [*]; done)), H', ⟨by have := HK1.out; have := HK2.out; first | omega | exact Nat.le_refl _⟩, ⟨by (with_reducible repeat (first | apply Kd.N_alloc | apply Kd.N_drewN | apply Kd.N_drew)); exact HO_7.out⟩, ⟨by repeat (first | (with_reducible first | exact HB.out | apply below_alloc | apply pw_below_drewN | apply below_drew1) | exact HB.out)⟩⟩
             ·replace c49 := Bool.eq_false_iff.mpr c49
              subst c49
              have H1 : (aumbryref16_Unsnap.j4 k2 x7_2 true) = some (r1, r2) := by rw [if_neg (show ¬ (false = true) by decide)] at H; exact H
              clear H
              have H := H1
              clear H1
              have H' := Aside0.mk H
              clear H
              go_wp2
              repeat (go_quiet (fail); try go_wp2)
              try subst hji10
              go_meet
              case rel => exact ⟨_, (true), (by first | rfl | (simp; done) | (simp [*]; done)), H', ⟨by have := HK1.out; have := HK2.out; first | omega | exact Nat.le_refl _⟩, ⟨by (with_reducible repeat (first | apply Kd.N_alloc | apply Kd.N_drewN | apply Kd.N_drew)); exact HO_7.out⟩, ⟨by repeat (first | (with_reducible first | exact HB.out | apply below_alloc | apply pw_below_drewN | apply below_drew1) | exact HB.out)⟩⟩
            case rest =>
             clear HC46
             try clear c1
             try clear c2
             try clear c2b0
             try clear c2b1
             try clear p2
             try clear q2
             try clear c3
             try clear c3b0
             try clear p3
             try clear q3
             try clear hx3
             try clear c4
             try clear p4
             try clear q4
             try clear hx4
             try clear qi4
             try clear c5
             try clear c5b0
             try clear c6
             try clear c6b0
             try clear p6
             try clear c7
             try clear c7b0
             try clear c7b1
             try clear c8
             try clear c8b0
             try clear c9
             try clear c9b0
             try clear c9b1
             try clear c11
             try clear c11b0
             try clear c12
             try clear c12b0
             try clear c13
             try clear c14
             try clear c14b0
             try clear c15
             try clear c15b0
             try clear c16
             try clear c18
             try clear c18b0
             try clear c18b1
             try clear c20
             try clear c20b0
             try clear c20b1
             try clear c21
             try clear c21b0
             try clear c21b1
             try clear c22
             try clear c22b0
             try clear c22b1
             try clear c24
             try clear q24
             try clear c25
             try clear c25b0
             try clear c26
             try clear c26b0
             try clear c26b1
             try clear c29
             try clear c29b0
             try clear c29b1
             try clear c33
             try clear q33
             try clear c38
             try clear c39
             try clear c39b0
             try clear p39
             try clear q39
             try clear hx39
             try clear c40
             try clear p40
             try clear q40
             try clear hx40
             try clear qi40
             try clear c41
             try clear c42
             try clear c49
             try clear hcz36_0
             try clear hcz36_1
             try clear hcz36_2
             try clear hcz36_3
             try clear hcz40_0
             try clear hcz40_1
             try clear hcz40_2
             try clear hcz40_3
             try clear hcz43_0
             try clear hcz43_1
             try clear hcz43_2
             try clear hcz43_3
             try clear hfz36_0
             try clear hfz36_1
             try clear hfz36_2
             try clear hfz36_3
             try clear hfz40_0
             try clear hfz40_1
             try clear hfz40_2
             try clear hfz40_3
             try clear hfz43_0
             try clear hfz43_1
             try clear hfz43_2
             try clear hfz43_3
             try clear hx397_0
             try clear hx398_0
             try clear hx399_0
             try clear hx400_0
             try clear hx404_0
             try clear hx405_0
             try clear p2
             try clear p3
             try clear p39
             try clear p397
             try clear p398
             try clear p399
             try clear p4
             try clear p40
             try clear p400
             try clear p404
             try clear p405
             try clear p6
             try clear q2
             try clear q24
             try clear q3
             try clear q33
             try clear q39
             try clear q397
             try clear q398
             try clear q399
             try clear q4
             try clear q40
             try clear q400
             try clear q404
             try clear q405
             obtain ⟨kq, x118_45, rfl, HA, HJ45, HO_7, HB⟩ := hcut
             cases kq with
             | zero => exact absurd HA.out (by simp [aumbryref16_Unsnap.j4])
             | succ kj45 =>
              have H := HA.out
              clear HA
              simp only [aumbryref16_Unsnap.j4] at H
              by_cases c51 : x118_45 = true
              ·subst c51
               have H1 : (some (([] : List (S61)), 160)) = some (r1, r2) := by rw [if_pos rfl] at H; exact H
               clear H
               have H := H1
               clear H1
               simp only [Option.some.injEq, Prod.mk.injEq] at H
               obtain ⟨rfl, rfl⟩ := H
               go_wp2
               repeat (go_quiet (fail); try go_wp2)
               go_ret2
               exact ⟨_, by first | rfl | (simp [errW_none, errW_some] <;> rfl) | (simp [*, errW_none, errW_some] <;> rfl), by first | exact Kd.S_nil _ _ _ _ _ | exact Kd.N_nil _ _ _ _ _ | exact Kd.V_nil _ _ _ _ _ | exact Kd.Q_nil _ _ _ _ _ | exact Kd.R_nil _ _ _ _ _, by repeat (first | (with_reducible first | exact HB.out | apply below_alloc | apply pw_below_drewN | apply below_drew1) | exact HB.out)⟩
              ·replace c51 := Bool.eq_false_iff.mpr c51
               subst c51
               have H1 : (some (x7_2, 0)) = some (r1, r2) := by rw [if_neg (show ¬ (false = true) by decide)] at H; exact H
               clear H
               have H := H1
               clear H1
               simp only [Option.some.injEq, Prod.mk.injEq] at H
               obtain ⟨rfl, rfl⟩ := H
               go_wp2
               repeat (go_quiet (fail); try go_wp2)
               go_ret2
               exact ⟨_, by first | rfl | (simp [errW_none, errW_some] <;> rfl) | (simp [*, errW_none, errW_some] <;> rfl), by (with_reducible repeat (first | apply Kd.N_alloc | apply Kd.N_drewN | apply Kd.N_drew)); exact HO_7.out, by repeat (first | (with_reducible first | exact HB.out | apply below_alloc | apply pw_below_drewN | apply below_drew1) | exact HB.out)⟩
        ·rw [if_neg c22] at H
         exact absurd H (by simp)
       ·rw [if_neg c21] at H
        exact absurd H (by simp)
      ·rw [if_neg c20] at H
       exact absurd H (by simp)
 ·rw [if_neg c2] at H
  have c2b0 : ((l0.length : Int) == 2) = false := beq_eq_false_iff_ne.mpr c2
  have c2b1 : ((l0.length : Int) != 2) = true := bne_iff_ne.mpr c2
  simp only [Option.some.injEq, Prod.mk.injEq] at H
  obtain ⟨rfl, rfl⟩ := H
  go_enter Try.func24, Try.ntmps24
  go_wp2
  repeat (go_quiet (fail); try go_wp2)
  go_ret2
  exact ⟨_, by first | rfl | (simp [errW_none, errW_some] <;> rfl) | (simp [*, errW_none, errW_some] <;> rfl), by first | exact Kd.S_nil _ _ _ _ _ | exact Kd.N_nil _ _ _ _ _ | exact Kd.V_nil _ _ _ _ _ | exact Kd.Q_nil _ _ _ _ _ | exact Kd.R_nil _ _ _ _ _, by repeat (first | (with_reducible first | exact HB.out | apply below_alloc | apply pw_below_drewN | apply below_drew1) | exact HB.out)⟩

end Go.Proofs.Ytoeegdpkmdgkdaa.PAll
