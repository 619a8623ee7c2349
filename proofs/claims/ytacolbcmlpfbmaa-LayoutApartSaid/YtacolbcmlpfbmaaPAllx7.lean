-- LAID BY A PROGRAM OF THIS SESSION (wip/tools: the kit's print with changes of our own)
import Derived.Test.YtacolbcmlpfbmaaPAllx0
import Derived.Test.YtacolbcmlpfbmaaPAllx1
import Derived.Test.YtacolbcmlpfbmaaPAllx2
import Derived.Test.YtacolbcmlpfbmaaPAllx3
namespace Go.Proofs.Ytacolbcmlpfbmaa.PAll
open Go.RowKit Go.Proofs.YtacolbcmlpfbmaaW.PrintWords Go.Proofs.YtacolbcmlpfbmaaW.PrintLast Go.Proofs.YtacolbcmlpfbmaaW.PrintMore
attribute [local go_sem] max2_int min2_int max_two min_two max_three min_three max_four min_four   -- for this text's walks alone
set_option linter.unusedVariables false
set_option linter.unusedSimpArgs false

/-! ### aumbrylaw14_LayoutApart: function 5 -/
mutual
def aumbrylaw14_LayoutApart.l0 : Nat → Bool → Int → List Bool → List Int → Int → Int → Int → Int → Int → Int → Int → Option (Bool)
  | 0, _, _, _, _, _, _, _, _, _, _, _ => none
  | k + 1, x3, x4, x5, x6, x7, x190000, x190001, x190002, x190003, x190004, x190005 => if x7 < 4 then ((layout_Area.f k x190000 x190001 x190002 x190003 x190004 x190005 (wrap64 (Int.tdiv x7 2)) (Int.tmod x7 2)).bind fun t198 => (if x6.length < 17592186044416 then (aumbrylaw14_LayoutApart.l0 k x3 x4 x5 (x6 ++ [t198]) (wrap64 (x7 + 1)) x190000 x190001 x190002 x190003 x190004 x190005) else (none))) else (aumbrylaw14_LayoutApart.l1 k x3 x4 x5 x6 0 x190000 x190001 x190002 x190003 x190004 x190005)
def aumbrylaw14_LayoutApart.l1 : Nat → Bool → Int → List Bool → List Int → Int → Int → Int → Int → Int → Int → Int → Option (Bool)
  | 0, _, _, _, _, _, _, _, _, _, _, _ => none
  | k + 1, x3, x4, x5, x6, x8, x190000, x190001, x190002, x190003, x190004, x190005 => if x8 < x190004 then (aumbrylaw14_LayoutApart.j2 k x3 x4 x5 x6 x8 (decide (x8 < 64)) x190000 x190001 x190002 x190003 x190004 x190005) else (aumbrylaw14_LayoutApart.j2 k x3 x4 x5 x6 x8 false x190000 x190001 x190002 x190003 x190004 x190005)
def aumbrylaw14_LayoutApart.j2 : Nat → Bool → Int → List Bool → List Int → Int → Bool → Int → Int → Int → Int → Int → Int → Option (Bool)
  | 0, _, _, _, _, _, _, _, _, _, _, _, _ => none
  | k + 1, x3, x4, x5, x6, x8, x46, x190000, x190001, x190002, x190003, x190004, x190005 => if x46 = true then ((layout_Slot.f k x190000 x190001 x190002 x190003 x190004 x190005 x8).bind fun t202 => (if x6.length < 17592186044416 then (aumbrylaw14_LayoutApart.l1 k x3 x4 x5 (x6 ++ [t202]) (wrap64 (x8 + 1)) x190000 x190001 x190002 x190003 x190004 x190005) else (none))) else (aumbrylaw14_LayoutApart.l2 k x3 x4 x5 x6 0 x190000 x190001 x190002 x190003 x190004 x190005)
def aumbrylaw14_LayoutApart.l2 : Nat → Bool → Int → List Bool → List Int → Int → Int → Int → Int → Int → Int → Int → Option (Bool)
  | 0, _, _, _, _, _, _, _, _, _, _, _ => none
  | k + 1, x3, x4, x5, x6, x9, x190000, x190001, x190002, x190003, x190004, x190005 => if x9 < x190003 then (aumbrylaw14_LayoutApart.j4 k x3 x4 x5 x6 x9 (decide (x9 < 256)) x190000 x190001 x190002 x190003 x190004 x190005) else (aumbrylaw14_LayoutApart.j4 k x3 x4 x5 x6 x9 false x190000 x190001 x190002 x190003 x190004 x190005)
def aumbrylaw14_LayoutApart.j4 : Nat → Bool → Int → List Bool → List Int → Int → Bool → Int → Int → Int → Int → Int → Int → Option (Bool)
  | 0, _, _, _, _, _, _, _, _, _, _, _, _ => none
  | k + 1, x3, x4, x5, x6, x9, x62, x190000, x190001, x190002, x190003, x190004, x190005 => if x62 = true then ((layout_Stripe.f k x190000 x190001 x190002 x190003 x190004 x190005 x9).bind fun t206 => (if x6.length < 17592186044416 then (aumbrylaw14_LayoutApart.l2 k x3 x4 x5 (x6 ++ [t206]) (wrap64 (x9 + 1)) x190000 x190001 x190002 x190003 x190004 x190005) else (none))) else (aumbrylaw14_LayoutApart.l3 k x3 x4 x5 x6 0)
def aumbrylaw14_LayoutApart.l3 : Nat → Bool → Int → List Bool → List Int → Int → Option (Bool)
  | 0, _, _, _, _, _ => none
  | k + 1, x3, x4, x5, x6, x10 => if x10 < (x6.length : Int) then (if 0 ≤ x10 then (if (rd x6 x10) < 1 then (aumbrylaw14_LayoutApart.j6 k x3 x4 x5 x6 x10 true) else (if (rd x6 x10) ≥ x4 then (aumbrylaw14_LayoutApart.j6 k x3 x4 x5 x6 x10 true) else (if x4 > 1000 then (aumbrylaw14_LayoutApart.j6 k x3 x4 x5 x6 x10 true) else (if 0 ≤ (rd x6 x10) then (if (rd x6 x10) < (x5.length : Int) then (aumbrylaw14_LayoutApart.j6 k x3 x4 x5 x6 x10 (rdOf false x5 (rd x6 x10))) else (none)) else (none))))) else (none)) else (if x3 = true then (some ((wrap64 ((x6.length : Int) + 1)) == x4)) else (some false))
def aumbrylaw14_LayoutApart.j6 : Nat → Bool → Int → List Bool → List Int → Int → Bool → Option (Bool)
  | 0, _, _, _, _, _, _ => none
  | k + 1, x3, x4, x5, x6, x10, x102 => if x102 = true then (some false) else (if 0 ≤ x10 then (if x10 < (x6.length : Int) then (if 0 ≤ (rd x6 x10) then (if (rd x6 x10) < (x5.length : Int) then (aumbrylaw14_LayoutApart.l3 k x3 x4 (x5.set ((rd x6 x10) : Int).toNat true) x6 (wrap64 (x10 + 1))) else (none)) else (none)) else (none)) else (none))
end
def aumbrylaw14_LayoutApart.f (k : Nat) (a0_0 : Int) (a0_1 : Int) (a0_2 : Int) (a0_3 : Int) (a0_4 : Int) (a0_5 : Int) : Option (Bool) := (aumbrylaw14_awake.f k).bind fun t190 => ((layout_Check.f k a0_0 a0_1 a0_2 a0_3 a0_4 a0_5).bind fun t191 => (if t191 = 0 then ((layout_Sectors.f k a0_0 a0_1 a0_2 a0_3 a0_4 a0_5).bind fun t193 => (if 1000 ≤ 281474976710656 then ((some (List.replicate 1000 false : List Bool)).bind fun y194 => (if 0 < (y194.length : Int) then (aumbrylaw14_LayoutApart.l0 k t190 t193 (y194.set (0 : Int).toNat true) ([] : List Int) 0 a0_0 a0_1 a0_2 a0_3 a0_4 a0_5) else (none))) else (none))) else (if t190 = true then ((layout_Sectors.f k a0_0 a0_1 a0_2 a0_3 a0_4 a0_5).bind fun t192 => (some (t192 == 0))) else (some false))))
theorem aumbrylaw14_LayoutApart.mono_l : ∀ k, (∀ y0 y1 y2 y3 y4 y5 y6 y7 y8 y9 y10, LeO (aumbrylaw14_LayoutApart.l0 k y0 y1 y2 y3 y4 y5 y6 y7 y8 y9 y10) (aumbrylaw14_LayoutApart.l0 (k + 1) y0 y1 y2 y3 y4 y5 y6 y7 y8 y9 y10)) ∧ (∀ y0 y1 y2 y3 y4 y5 y6 y7 y8 y9 y10, LeO (aumbrylaw14_LayoutApart.l1 k y0 y1 y2 y3 y4 y5 y6 y7 y8 y9 y10) (aumbrylaw14_LayoutApart.l1 (k + 1) y0 y1 y2 y3 y4 y5 y6 y7 y8 y9 y10)) ∧ (∀ y0 y1 y2 y3 y4 y5 y6 y7 y8 y9 y10 y11, LeO (aumbrylaw14_LayoutApart.j2 k y0 y1 y2 y3 y4 y5 y6 y7 y8 y9 y10 y11) (aumbrylaw14_LayoutApart.j2 (k + 1) y0 y1 y2 y3 y4 y5 y6 y7 y8 y9 y10 y11)) ∧ (∀ y0 y1 y2 y3 y4 y5 y6 y7 y8 y9 y10, LeO (aumbrylaw14_LayoutApart.l2 k y0 y1 y2 y3 y4 y5 y6 y7 y8 y9 y10) (aumbrylaw14_LayoutApart.l2 (k + 1) y0 y1 y2 y3 y4 y5 y6 y7 y8 y9 y10)) ∧ (∀ y0 y1 y2 y3 y4 y5 y6 y7 y8 y9 y10 y11, LeO (aumbrylaw14_LayoutApart.j4 k y0 y1 y2 y3 y4 y5 y6 y7 y8 y9 y10 y11) (aumbrylaw14_LayoutApart.j4 (k + 1) y0 y1 y2 y3 y4 y5 y6 y7 y8 y9 y10 y11)) ∧ (∀ y0 y1 y2 y3 y4, LeO (aumbrylaw14_LayoutApart.l3 k y0 y1 y2 y3 y4) (aumbrylaw14_LayoutApart.l3 (k + 1) y0 y1 y2 y3 y4)) ∧ (∀ y0 y1 y2 y3 y4 y5, LeO (aumbrylaw14_LayoutApart.j6 k y0 y1 y2 y3 y4 y5) (aumbrylaw14_LayoutApart.j6 (k + 1) y0 y1 y2 y3 y4 y5))
  | 0 => ⟨fun _ _ _ _ _ _ _ _ _ _ _ r h => by simp [aumbrylaw14_LayoutApart.l0] at h, fun _ _ _ _ _ _ _ _ _ _ _ r h => by simp [aumbrylaw14_LayoutApart.l1] at h, fun _ _ _ _ _ _ _ _ _ _ _ _ r h => by simp [aumbrylaw14_LayoutApart.j2] at h, fun _ _ _ _ _ _ _ _ _ _ _ r h => by simp [aumbrylaw14_LayoutApart.l2] at h, fun _ _ _ _ _ _ _ _ _ _ _ _ r h => by simp [aumbrylaw14_LayoutApart.j4] at h, fun _ _ _ _ _ r h => by simp [aumbrylaw14_LayoutApart.l3] at h, fun _ _ _ _ _ _ r h => by simp [aumbrylaw14_LayoutApart.j6] at h⟩
  | k + 1 => by
    obtain ⟨ih0, ih1, ih2, ih3, ih4, ih5, ih6⟩ := aumbrylaw14_LayoutApart.mono_l k
    refine ⟨?_, ?_, ?_, ?_, ?_, ?_, ?_⟩
    · intro y0 y1 y2 y3 y4 y5 y6 y7 y8 y9 y10
      unfold aumbrylaw14_LayoutApart.l0
      repeat' first
      | (with_reducible exact ih0 _ _ _ _ _ _ _ _ _ _ _)
      | (with_reducible exact ih1 _ _ _ _ _ _ _ _ _ _ _)
      | (with_reducible exact ih2 _ _ _ _ _ _ _ _ _ _ _ _)
      | (with_reducible exact ih3 _ _ _ _ _ _ _ _ _ _ _)
      | (with_reducible exact ih4 _ _ _ _ _ _ _ _ _ _ _ _)
      | (with_reducible exact ih5 _ _ _ _ _)
      | (with_reducible exact ih6 _ _ _ _ _ _)
      | (with_reducible exact aumbrylaw14_awake.mono _)
      | (with_reducible exact layout_Area.mono _ _ _ _ _ _ _ _ _)
      | (with_reducible exact layout_Check.mono _ _ _ _ _ _ _)
      | (with_reducible exact layout_Sectors.mono _ _ _ _ _ _ _)
      | (with_reducible exact layout_Slot.mono _ _ _ _ _ _ _ _)
      | (with_reducible exact layout_Stripe.mono _ _ _ _ _ _ _ _)
      | (with_reducible exact LeO.refl _)
      | (with_reducible exact LeO.none _)
      | (with_reducible refine LeO.ite ?_ ?_)
      | (with_reducible refine LeO.bind ?_ (fun _ => ?_))
      | exact ih0 _ _ _ _ _ _ _ _ _ _ _
      | exact ih1 _ _ _ _ _ _ _ _ _ _ _
      | exact ih2 _ _ _ _ _ _ _ _ _ _ _ _
      | exact ih3 _ _ _ _ _ _ _ _ _ _ _
      | exact ih4 _ _ _ _ _ _ _ _ _ _ _ _
      | exact ih5 _ _ _ _ _
      | exact ih6 _ _ _ _ _ _
      | exact aumbrylaw14_awake.mono _
      | exact layout_Area.mono _ _ _ _ _ _ _ _ _
      | exact layout_Check.mono _ _ _ _ _ _ _
      | exact layout_Sectors.mono _ _ _ _ _ _ _
      | exact layout_Slot.mono _ _ _ _ _ _ _ _
      | exact layout_Stripe.mono _ _ _ _ _ _ _ _
      | exact LeO.none _
      | refine LeO.ite ?_ ?_
      | refine LeO.bind ?_ (fun _ => ?_)
    · intro y0 y1 y2 y3 y4 y5 y6 y7 y8 y9 y10
      unfold aumbrylaw14_LayoutApart.l1
      repeat' first
      | (with_reducible exact ih0 _ _ _ _ _ _ _ _ _ _ _)
      | (with_reducible exact ih1 _ _ _ _ _ _ _ _ _ _ _)
      | (with_reducible exact ih2 _ _ _ _ _ _ _ _ _ _ _ _)
      | (with_reducible exact ih3 _ _ _ _ _ _ _ _ _ _ _)
      | (with_reducible exact ih4 _ _ _ _ _ _ _ _ _ _ _ _)
      | (with_reducible exact ih5 _ _ _ _ _)
      | (with_reducible exact ih6 _ _ _ _ _ _)
      | (with_reducible exact aumbrylaw14_awake.mono _)
      | (with_reducible exact layout_Area.mono _ _ _ _ _ _ _ _ _)
      | (with_reducible exact layout_Check.mono _ _ _ _ _ _ _)
      | (with_reducible exact layout_Sectors.mono _ _ _ _ _ _ _)
      | (with_reducible exact layout_Slot.mono _ _ _ _ _ _ _ _)
      | (with_reducible exact layout_Stripe.mono _ _ _ _ _ _ _ _)
      | (with_reducible exact LeO.refl _)
      | (with_reducible exact LeO.none _)
      | (with_reducible refine LeO.ite ?_ ?_)
      | (with_reducible refine LeO.bind ?_ (fun _ => ?_))
      | exact ih0 _ _ _ _ _ _ _ _ _ _ _
      | exact ih1 _ _ _ _ _ _ _ _ _ _ _
      | exact ih2 _ _ _ _ _ _ _ _ _ _ _ _
      | exact ih3 _ _ _ _ _ _ _ _ _ _ _
      | exact ih4 _ _ _ _ _ _ _ _ _ _ _ _
      | exact ih5 _ _ _ _ _
      | exact ih6 _ _ _ _ _ _
      | exact aumbrylaw14_awake.mono _
      | exact layout_Area.mono _ _ _ _ _ _ _ _ _
      | exact layout_Check.mono _ _ _ _ _ _ _
      | exact layout_Sectors.mono _ _ _ _ _ _ _
      | exact layout_Slot.mono _ _ _ _ _ _ _ _
      | exact layout_Stripe.mono _ _ _ _ _ _ _ _
      | exact LeO.none _
      | refine LeO.ite ?_ ?_
      | refine LeO.bind ?_ (fun _ => ?_)
    · intro y0 y1 y2 y3 y4 y5 y6 y7 y8 y9 y10 y11
      unfold aumbrylaw14_LayoutApart.j2
      repeat' first
      | (with_reducible exact ih0 _ _ _ _ _ _ _ _ _ _ _)
      | (with_reducible exact ih1 _ _ _ _ _ _ _ _ _ _ _)
      | (with_reducible exact ih2 _ _ _ _ _ _ _ _ _ _ _ _)
      | (with_reducible exact ih3 _ _ _ _ _ _ _ _ _ _ _)
      | (with_reducible exact ih4 _ _ _ _ _ _ _ _ _ _ _ _)
      | (with_reducible exact ih5 _ _ _ _ _)
      | (with_reducible exact ih6 _ _ _ _ _ _)
      | (with_reducible exact aumbrylaw14_awake.mono _)
      | (with_reducible exact layout_Area.mono _ _ _ _ _ _ _ _ _)
      | (with_reducible exact layout_Check.mono _ _ _ _ _ _ _)
      | (with_reducible exact layout_Sectors.mono _ _ _ _ _ _ _)
      | (with_reducible exact layout_Slot.mono _ _ _ _ _ _ _ _)
      | (with_reducible exact layout_Stripe.mono _ _ _ _ _ _ _ _)
      | (with_reducible exact LeO.refl _)
      | (with_reducible exact LeO.none _)
      | (with_reducible refine LeO.ite ?_ ?_)
      | (with_reducible refine LeO.bind ?_ (fun _ => ?_))
      | exact ih0 _ _ _ _ _ _ _ _ _ _ _
      | exact ih1 _ _ _ _ _ _ _ _ _ _ _
      | exact ih2 _ _ _ _ _ _ _ _ _ _ _ _
      | exact ih3 _ _ _ _ _ _ _ _ _ _ _
      | exact ih4 _ _ _ _ _ _ _ _ _ _ _ _
      | exact ih5 _ _ _ _ _
      | exact ih6 _ _ _ _ _ _
      | exact aumbrylaw14_awake.mono _
      | exact layout_Area.mono _ _ _ _ _ _ _ _ _
      | exact layout_Check.mono _ _ _ _ _ _ _
      | exact layout_Sectors.mono _ _ _ _ _ _ _
      | exact layout_Slot.mono _ _ _ _ _ _ _ _
      | exact layout_Stripe.mono _ _ _ _ _ _ _ _
      | exact LeO.none _
      | refine LeO.ite ?_ ?_
      | refine LeO.bind ?_ (fun _ => ?_)
    · intro y0 y1 y2 y3 y4 y5 y6 y7 y8 y9 y10
      unfold aumbrylaw14_LayoutApart.l2
      repeat' first
      | (with_reducible exact ih0 _ _ _ _ _ _ _ _ _ _ _)
      | (with_reducible exact ih1 _ _ _ _ _ _ _ _ _ _ _)
      | (with_reducible exact ih2 _ _ _ _ _ _ _ _ _ _ _ _)
      | (with_reducible exact ih3 _ _ _ _ _ _ _ _ _ _ _)
      | (with_reducible exact ih4 _ _ _ _ _ _ _ _ _ _ _ _)
      | (with_reducible exact ih5 _ _ _ _ _)
      | (with_reducible exact ih6 _ _ _ _ _ _)
      | (with_reducible exact aumbrylaw14_awake.mono _)
      | (with_reducible exact layout_Area.mono _ _ _ _ _ _ _ _ _)
      | (with_reducible exact layout_Check.mono _ _ _ _ _ _ _)
      | (with_reducible exact layout_Sectors.mono _ _ _ _ _ _ _)
      | (with_reducible exact layout_Slot.mono _ _ _ _ _ _ _ _)
      | (with_reducible exact layout_Stripe.mono _ _ _ _ _ _ _ _)
      | (with_reducible exact LeO.refl _)
      | (with_reducible exact LeO.none _)
      | (with_reducible refine LeO.ite ?_ ?_)
      | (with_reducible refine LeO.bind ?_ (fun _ => ?_))
      | exact ih0 _ _ _ _ _ _ _ _ _ _ _
      | exact ih1 _ _ _ _ _ _ _ _ _ _ _
      | exact ih2 _ _ _ _ _ _ _ _ _ _ _ _
      | exact ih3 _ _ _ _ _ _ _ _ _ _ _
      | exact ih4 _ _ _ _ _ _ _ _ _ _ _ _
      | exact ih5 _ _ _ _ _
      | exact ih6 _ _ _ _ _ _
      | exact aumbrylaw14_awake.mono _
      | exact layout_Area.mono _ _ _ _ _ _ _ _ _
      | exact layout_Check.mono _ _ _ _ _ _ _
      | exact layout_Sectors.mono _ _ _ _ _ _ _
      | exact layout_Slot.mono _ _ _ _ _ _ _ _
      | exact layout_Stripe.mono _ _ _ _ _ _ _ _
      | exact LeO.none _
      | refine LeO.ite ?_ ?_
      | refine LeO.bind ?_ (fun _ => ?_)
    · intro y0 y1 y2 y3 y4 y5 y6 y7 y8 y9 y10 y11
      unfold aumbrylaw14_LayoutApart.j4
      repeat' first
      | (with_reducible exact ih0 _ _ _ _ _ _ _ _ _ _ _)
      | (with_reducible exact ih1 _ _ _ _ _ _ _ _ _ _ _)
      | (with_reducible exact ih2 _ _ _ _ _ _ _ _ _ _ _ _)
      | (with_reducible exact ih3 _ _ _ _ _ _ _ _ _ _ _)
      | (with_reducible exact ih4 _ _ _ _ _ _ _ _ _ _ _ _)
      | (with_reducible exact ih5 _ _ _ _ _)
      | (with_reducible exact ih6 _ _ _ _ _ _)
      | (with_reducible exact aumbrylaw14_awake.mono _)
      | (with_reducible exact layout_Area.mono _ _ _ _ _ _ _ _ _)
      | (with_reducible exact layout_Check.mono _ _ _ _ _ _ _)
      | (with_reducible exact layout_Sectors.mono _ _ _ _ _ _ _)
      | (with_reducible exact layout_Slot.mono _ _ _ _ _ _ _ _)
      | (with_reducible exact layout_Stripe.mono _ _ _ _ _ _ _ _)
      | (with_reducible exact LeO.refl _)
      | (with_reducible exact LeO.none _)
      | (with_reducible refine LeO.ite ?_ ?_)
      | (with_reducible refine LeO.bind ?_ (fun _ => ?_))
      | exact ih0 _ _ _ _ _ _ _ _ _ _ _
      | exact ih1 _ _ _ _ _ _ _ _ _ _ _
      | exact ih2 _ _ _ _ _ _ _ _ _ _ _ _
      | exact ih3 _ _ _ _ _ _ _ _ _ _ _
      | exact ih4 _ _ _ _ _ _ _ _ _ _ _ _
      | exact ih5 _ _ _ _ _
      | exact ih6 _ _ _ _ _ _
      | exact aumbrylaw14_awake.mono _
      | exact layout_Area.mono _ _ _ _ _ _ _ _ _
      | exact layout_Check.mono _ _ _ _ _ _ _
      | exact layout_Sectors.mono _ _ _ _ _ _ _
      | exact layout_Slot.mono _ _ _ _ _ _ _ _
      | exact layout_Stripe.mono _ _ _ _ _ _ _ _
      | exact LeO.none _
      | refine LeO.ite ?_ ?_
      | refine LeO.bind ?_ (fun _ => ?_)
    · intro y0 y1 y2 y3 y4
      unfold aumbrylaw14_LayoutApart.l3
      repeat' first
      | (with_reducible exact ih0 _ _ _ _ _ _ _ _ _ _ _)
      | (with_reducible exact ih1 _ _ _ _ _ _ _ _ _ _ _)
      | (with_reducible exact ih2 _ _ _ _ _ _ _ _ _ _ _ _)
      | (with_reducible exact ih3 _ _ _ _ _ _ _ _ _ _ _)
      | (with_reducible exact ih4 _ _ _ _ _ _ _ _ _ _ _ _)
      | (with_reducible exact ih5 _ _ _ _ _)
      | (with_reducible exact ih6 _ _ _ _ _ _)
      | (with_reducible exact aumbrylaw14_awake.mono _)
      | (with_reducible exact layout_Area.mono _ _ _ _ _ _ _ _ _)
      | (with_reducible exact layout_Check.mono _ _ _ _ _ _ _)
      | (with_reducible exact layout_Sectors.mono _ _ _ _ _ _ _)
      | (with_reducible exact layout_Slot.mono _ _ _ _ _ _ _ _)
      | (with_reducible exact layout_Stripe.mono _ _ _ _ _ _ _ _)
      | (with_reducible exact LeO.refl _)
      | (with_reducible exact LeO.none _)
      | (with_reducible refine LeO.ite ?_ ?_)
      | (with_reducible refine LeO.bind ?_ (fun _ => ?_))
      | exact ih0 _ _ _ _ _ _ _ _ _ _ _
      | exact ih1 _ _ _ _ _ _ _ _ _ _ _
      | exact ih2 _ _ _ _ _ _ _ _ _ _ _ _
      | exact ih3 _ _ _ _ _ _ _ _ _ _ _
      | exact ih4 _ _ _ _ _ _ _ _ _ _ _ _
      | exact ih5 _ _ _ _ _
      | exact ih6 _ _ _ _ _ _
      | exact aumbrylaw14_awake.mono _
      | exact layout_Area.mono _ _ _ _ _ _ _ _ _
      | exact layout_Check.mono _ _ _ _ _ _ _
      | exact layout_Sectors.mono _ _ _ _ _ _ _
      | exact layout_Slot.mono _ _ _ _ _ _ _ _
      | exact layout_Stripe.mono _ _ _ _ _ _ _ _
      | exact LeO.none _
      | refine LeO.ite ?_ ?_
      | refine LeO.bind ?_ (fun _ => ?_)
    · intro y0 y1 y2 y3 y4 y5
      unfold aumbrylaw14_LayoutApart.j6
      repeat' first
      | (with_reducible exact ih0 _ _ _ _ _ _ _ _ _ _ _)
      | (with_reducible exact ih1 _ _ _ _ _ _ _ _ _ _ _)
      | (with_reducible exact ih2 _ _ _ _ _ _ _ _ _ _ _ _)
      | (with_reducible exact ih3 _ _ _ _ _ _ _ _ _ _ _)
      | (with_reducible exact ih4 _ _ _ _ _ _ _ _ _ _ _ _)
      | (with_reducible exact ih5 _ _ _ _ _)
      | (with_reducible exact ih6 _ _ _ _ _ _)
      | (with_reducible exact aumbrylaw14_awake.mono _)
      | (with_reducible exact layout_Area.mono _ _ _ _ _ _ _ _ _)
      | (with_reducible exact layout_Check.mono _ _ _ _ _ _ _)
      | (with_reducible exact layout_Sectors.mono _ _ _ _ _ _ _)
      | (with_reducible exact layout_Slot.mono _ _ _ _ _ _ _ _)
      | (with_reducible exact layout_Stripe.mono _ _ _ _ _ _ _ _)
      | (with_reducible exact LeO.refl _)
      | (with_reducible exact LeO.none _)
      | (with_reducible refine LeO.ite ?_ ?_)
      | (with_reducible refine LeO.bind ?_ (fun _ => ?_))
      | exact ih0 _ _ _ _ _ _ _ _ _ _ _
      | exact ih1 _ _ _ _ _ _ _ _ _ _ _
      | exact ih2 _ _ _ _ _ _ _ _ _ _ _ _
      | exact ih3 _ _ _ _ _ _ _ _ _ _ _
      | exact ih4 _ _ _ _ _ _ _ _ _ _ _ _
      | exact ih5 _ _ _ _ _
      | exact ih6 _ _ _ _ _ _
      | exact aumbrylaw14_awake.mono _
      | exact layout_Area.mono _ _ _ _ _ _ _ _ _
      | exact layout_Check.mono _ _ _ _ _ _ _
      | exact layout_Sectors.mono _ _ _ _ _ _ _
      | exact layout_Slot.mono _ _ _ _ _ _ _ _
      | exact layout_Stripe.mono _ _ _ _ _ _ _ _
      | exact LeO.none _
      | refine LeO.ite ?_ ?_
      | refine LeO.bind ?_ (fun _ => ?_)
theorem aumbrylaw14_LayoutApart.mono : ∀ a0 a1 a2 a3 a4 a5 k, LeO (aumbrylaw14_LayoutApart.f k a0 a1 a2 a3 a4 a5) (aumbrylaw14_LayoutApart.f (k + 1) a0 a1 a2 a3 a4 a5) := by
  intro a0 a1 a2 a3 a4 a5 k
  obtain ⟨ih0, ih1, ih2, ih3, ih4, ih5, ih6⟩ := aumbrylaw14_LayoutApart.mono_l k
  unfold aumbrylaw14_LayoutApart.f
  repeat' first
      | (with_reducible exact ih0 _ _ _ _ _ _ _ _ _ _ _)
      | (with_reducible exact ih1 _ _ _ _ _ _ _ _ _ _ _)
      | (with_reducible exact ih2 _ _ _ _ _ _ _ _ _ _ _ _)
      | (with_reducible exact ih3 _ _ _ _ _ _ _ _ _ _ _)
      | (with_reducible exact ih4 _ _ _ _ _ _ _ _ _ _ _ _)
      | (with_reducible exact ih5 _ _ _ _ _)
      | (with_reducible exact ih6 _ _ _ _ _ _)
      | (with_reducible exact aumbrylaw14_awake.mono _)
      | (with_reducible exact layout_Area.mono _ _ _ _ _ _ _ _ _)
      | (with_reducible exact layout_Check.mono _ _ _ _ _ _ _)
      | (with_reducible exact layout_Sectors.mono _ _ _ _ _ _ _)
      | (with_reducible exact layout_Slot.mono _ _ _ _ _ _ _ _)
      | (with_reducible exact layout_Stripe.mono _ _ _ _ _ _ _ _)
      | (with_reducible exact LeO.refl _)
      | (with_reducible exact LeO.none _)
      | (with_reducible refine LeO.ite ?_ ?_)
      | (with_reducible refine LeO.bind ?_ (fun _ => ?_))
      | exact ih0 _ _ _ _ _ _ _ _ _ _ _
      | exact ih1 _ _ _ _ _ _ _ _ _ _ _
      | exact ih2 _ _ _ _ _ _ _ _ _ _ _ _
      | exact ih3 _ _ _ _ _ _ _ _ _ _ _
      | exact ih4 _ _ _ _ _ _ _ _ _ _ _ _
      | exact ih5 _ _ _ _ _
      | exact ih6 _ _ _ _ _ _
      | exact aumbrylaw14_awake.mono _
      | exact layout_Area.mono _ _ _ _ _ _ _ _ _
      | exact layout_Check.mono _ _ _ _ _ _ _
      | exact layout_Sectors.mono _ _ _ _ _ _ _
      | exact layout_Slot.mono _ _ _ _ _ _ _ _
      | exact layout_Stripe.mono _ _ _ _ _ _ _ _
      | exact LeO.none _
      | refine LeO.ite ?_ ?_
      | refine LeO.bind ?_ (fun _ => ?_)
set_option maxHeartbeats 8000000 in
set_option maxRecDepth 100000 in
theorem aumbrylaw14_LayoutApart.calls (k : Nat) (a0_0 : Int) (a0_1 : Int) (a0_2 : Int) (a0_3 : Int) (a0_4 : Int) (a0_5 : Int) (r : Bool) (w : World) (h : aumbrylaw14_LayoutApart.f k a0_0 a0_1 a0_2 a0_3 a0_4 a0_5 = some r) :
    Calls Try.prog 5 #[.agg #[.int .i64 a0_0, .int .i64 a0_1, .int .i64 a0_2, .int .i64 a0_3, .int .i64 a0_4, .int .i64 a0_5]] w fun e w' => e = .returned (.bool r) ∧ Below w.heap.size w w' := by
  have hu24 := Try.underlying24
  have HB := Aside0.mk (Below.refl w.heap.size w)
  have H : ((aumbrylaw14_awake.f k).bind fun t190 => ((layout_Check.f k a0_0 a0_1 a0_2 a0_3 a0_4 a0_5).bind fun t191 => (if t191 = 0 then ((layout_Sectors.f k a0_0 a0_1 a0_2 a0_3 a0_4 a0_5).bind fun t193 => (if 1000 ≤ 281474976710656 then ((some (List.replicate 1000 false : List Bool)).bind fun y194 => (if 0 < (y194.length : Int) then (aumbrylaw14_LayoutApart.l0 k t190 t193 (y194.set (0 : Int).toNat true) ([] : List Int) 0 a0_0 a0_1 a0_2 a0_3 a0_4 a0_5) else (none))) else (none))) else (if t190 = true then ((layout_Sectors.f k a0_0 a0_1 a0_2 a0_3 a0_4 a0_5).bind fun t192 => (some (t192 == 0))) else (some false))))) = some r := h
  clear h
  replace H := Option.bind_eq_some_iff.mp H
  obtain ⟨t190, A20, H⟩ := H
  replace H : ((layout_Check.f k a0_0 a0_1 a0_2 a0_3 a0_4 a0_5).bind fun t191 => (if t191 = 0 then ((layout_Sectors.f k a0_0 a0_1 a0_2 a0_3 a0_4 a0_5).bind fun t193 => (if 1000 ≤ 281474976710656 then ((some (List.replicate 1000 false : List Bool)).bind fun y194 => (if 0 < (y194.length : Int) then (aumbrylaw14_LayoutApart.l0 k t190 t193 (y194.set (0 : Int).toNat true) ([] : List Int) 0 a0_0 a0_1 a0_2 a0_3 a0_4 a0_5) else (none))) else (none))) else (if t190 = true then ((layout_Sectors.f k a0_0 a0_1 a0_2 a0_3 a0_4 a0_5).bind fun t192 => (some (t192 == 0))) else (some false)))) = some r := H
  have A2 := Aside0.mk A20
  clear A20
  replace H := Option.bind_eq_some_iff.mp H
  obtain ⟨t191, A30, H⟩ := H
  replace H : (if t191 = 0 then ((layout_Sectors.f k a0_0 a0_1 a0_2 a0_3 a0_4 a0_5).bind fun t193 => (if 1000 ≤ 281474976710656 then ((some (List.replicate 1000 false : List Bool)).bind fun y194 => (if 0 < (y194.length : Int) then (aumbrylaw14_LayoutApart.l0 k t190 t193 (y194.set (0 : Int).toNat true) ([] : List Int) 0 a0_0 a0_1 a0_2 a0_3 a0_4 a0_5) else (none))) else (none))) else (if t190 = true then ((layout_Sectors.f k a0_0 a0_1 a0_2 a0_3 a0_4 a0_5).bind fun t192 => (some (t192 == 0))) else (some false))) = some r := H
  have A3 := Aside0.mk A30
  clear A30
  by_cases c4 : t191 = 0
  · rw [if_pos c4] at H
    have c4b0 : (t191 == 0) = true := beq_iff_eq.mpr c4
    have c4b1 : (t191 != 0) = false := bne_eq_false_iff_eq.mpr c4
    clear c4
    replace H := Option.bind_eq_some_iff.mp H
    obtain ⟨t193, A50, H⟩ := H
    replace H : (if 1000 ≤ 281474976710656 then ((some (List.replicate 1000 false : List Bool)).bind fun y194 => (if 0 < (y194.length : Int) then (aumbrylaw14_LayoutApart.l0 k t190 t193 (y194.set (0 : Int).toNat true) ([] : List Int) 0 a0_0 a0_1 a0_2 a0_3 a0_4 a0_5) else (none))) else (none)) = some r := H
    have A5 := Aside0.mk A50
    clear A50
    by_cases c6 : 1000 ≤ 281474976710656
    · rw [if_pos c6] at H
      have c6b0 := eq_true c6
      have c6b1 : decide (1000 ≤ 281474976710656) = true := decide_eq_true c6
      clear c6
      obtain ⟨y194, hy194⟩ : ∃ y_ : List Bool, y_ = (List.replicate 1000 false) := ⟨_, rfl⟩
      replace H : (if 0 < (y194.length : Int) then (aumbrylaw14_LayoutApart.l0 k t190 t193 (y194.set (0 : Int).toNat true) ([] : List Int) 0 a0_0 a0_1 a0_2 a0_3 a0_4 a0_5) else (none)) = some r := by first | (rw [hy194]; with_reducible exact H) | (have H2_ := (Option.bind_some _ _).symm.trans H; rw [hy194]; with_reducible exact H2_) | (have H2_ := (Option.bind_some _ _).symm.trans H; with_reducible exact H2_) | with_reducible exact H | (rw [hy194]; exact H) | exact H
      have Ny194 := Aside0.mk hy194
      clear hy194
      by_cases c7 : 0 < (y194.length : Int)
      · rw [if_pos c7] at H
        have c7b0 : decide (0 < (y194.length : Int)) = true := decide_eq_true c7
        have c7b1 : decide (0 < y194.length) = true := decide_eq_true (by omega)
        clear c7
        obtain ⟨y197, hy197⟩ : ∃ y_ : List Bool, y_ = (y194.set (0 : Int).toNat true) := ⟨_, rfl⟩
        replace H : (aumbrylaw14_LayoutApart.l0 k t190 t193 y197 ([] : List Int) 0 a0_0 a0_1 a0_2 a0_3 a0_4 a0_5) = some r := by first | (rw [hy197]; with_reducible exact H) | (have H2_ := (Option.bind_some _ _).symm.trans H; rw [hy197]; with_reducible exact H2_) | (have H2_ := (Option.bind_some _ _).symm.trans H; with_reducible exact H2_) | with_reducible exact H | (rw [hy197]; exact H) | exact H
        have Ny197 := Aside0.mk hy197
        clear hy197
        have H' := Aside0.mk H
        clear H
        go_enter Try.func5, Try.ntmps5
        go_wp2_with (first | ((with_reducible refine gate_dst (N := 1) rfl ?_); (try (refine gate_guard (by rfl) ?_; dsimp only)); refine box_event ?hg (N := 1) ?hd (cs := #[.int .i64 a0_0, .int .i64 a0_1, .int .i64 a0_2, .int .i64 a0_3, .int .i64 a0_4, .int .i64 a0_5]) (t := 24) ?hr ?_; (case hd => rfl); (case hg => rfl); (case hr => first | (go_simp; done) | (go_simp; rfl)); intro gb189 hg w9 hbox hb; have n0_ := Aside0.mk (below_step (by repeat (first | (with_reducible first | exact HB.out | apply below_alloc | apply pw_below_drewN | apply below_drew1) | exact HB.out)) hb); have n1_ := Aside0.mk (hbox); have n2_ := Aside0.mk ((by rw [hg]; exact (below_size (by repeat (first | (with_reducible first | exact HB.out | apply below_alloc | apply pw_below_drewN | apply below_drew1) | exact HB.out))) : w.heap.size ≤ gb189)); have n3_ := Aside0.mk ((by rw [hg]; exact (below_size (by repeat (first | (with_reducible first | exact HB.out | apply below_alloc | apply pw_below_drewN | apply below_drew1) | exact HB.out))) : w.heap.size ≤ gb189)); clear HB; have HB := n0_; have BK189 := n1_; have GW189 := n2_; have GE189 := n3_; clear n0_ n1_ n2_ n3_; clear hb hbox hg) | ((with_reducible refine gate_callee (f := 9) rfl ?_); refine goesL_ (some 11) rfl rfl Try.func9 (by kernel_rfl) rfl #[] rfl (by (try simp only [List.map_toArray, List.map_cons, List.map_nil]); first | done | rfl | (simp only [List.length_drop, List.length_take]; rfl)) ?_; (with_reducible refine (aumbrylaw14_awake.calls k  t190 _ A2.out).mono ?_); rintro e w10 ⟨rfl, hb⟩; refine ⟨_, rfl, ?_⟩; have n0_ := Aside0.mk (blk_below (g := gb189) (o := .cells #[.int .i64 a0_0, .int .i64 a0_1, .int .i64 a0_2, .int .i64 a0_3, .int .i64 a0_4, .int .i64 a0_5] 24 (0, 0)) (by (with_reducible repeat (first | refine blk_drewN ?_ _ | refine blk_drew ?_ | refine blk_alloc ?_ _)); exact BK189.out) hb); have n1_ := Aside0.mk (below_step (by repeat (first | (with_reducible first | exact HB.out | apply below_alloc | apply pw_below_drewN | apply below_drew1 | refine below_set ?_ GE189.out) | exact HB.out)) hb); clear BK189; clear HB; have BK189 := n0_; have HB := n1_; clear n0_ n1_; (try clear hb); (try clear hb2); (try clear hk); (try clear hi); have hcz11_0 : w10.cell? ⟨gb189, 0, none⟩ = some (.int .i64 a0_0) := (blk_cell BK189.out 0).trans rfl; have hcz11_1 : w10.cell? ⟨gb189, 1, none⟩ = some (.int .i64 a0_1) := (blk_cell BK189.out 1).trans rfl; have hcz11_2 : w10.cell? ⟨gb189, 2, none⟩ = some (.int .i64 a0_2) := (blk_cell BK189.out 2).trans rfl; have hcz11_3 : w10.cell? ⟨gb189, 3, none⟩ = some (.int .i64 a0_3) := (blk_cell BK189.out 3).trans rfl; have hcz11_4 : w10.cell? ⟨gb189, 4, none⟩ = some (.int .i64 a0_4) := (blk_cell BK189.out 4).trans rfl; have hcz11_5 : w10.cell? ⟨gb189, 5, none⟩ = some (.int .i64 a0_5) := (blk_cell BK189.out 5).trans rfl; have hfz11_0 := blk_frozen BK189.out 0; have hfz11_1 := blk_frozen BK189.out 1; have hfz11_2 := blk_frozen BK189.out 2; have hfz11_3 := blk_frozen BK189.out 3; have hfz11_4 := blk_frozen BK189.out 4; have hfz11_5 := blk_frozen BK189.out 5) | ((with_reducible refine gate_callee (f := 10) rfl ?_); refine goesL_ (some 13) rfl rfl Try.func10 (by kernel_rfl) rfl #[.agg #[.int .i64 a0_0, .int .i64 a0_1, .int .i64 a0_2, .int .i64 a0_3, .int .i64 a0_4, .int .i64 a0_5]] rfl (by (try simp only [List.map_toArray, List.map_cons, List.map_nil]); first | done | rfl | (simp only [List.length_drop, List.length_take]; rfl)) ?_; (with_reducible refine (layout_Check.calls k a0_0 a0_1 a0_2 a0_3 a0_4 a0_5 t191 _ A3.out).mono ?_); rintro e w12 ⟨rfl, hb⟩; refine ⟨_, rfl, ?_⟩; have n0_ := Aside0.mk (blk_below (g := gb189) (o := .cells #[.int .i64 a0_0, .int .i64 a0_1, .int .i64 a0_2, .int .i64 a0_3, .int .i64 a0_4, .int .i64 a0_5] 24 (0, 0)) (by (with_reducible repeat (first | refine blk_drewN ?_ _ | refine blk_drew ?_ | refine blk_alloc ?_ _)); exact BK189.out) hb); have n1_ := Aside0.mk (below_step (by repeat (first | (with_reducible first | exact HB.out | apply below_alloc | apply pw_below_drewN | apply below_drew1 | refine below_set ?_ GE189.out) | exact HB.out)) hb); clear BK189; clear HB; have BK189 := n0_; have HB := n1_; clear n0_ n1_; (try clear hb); (try clear hb2); (try clear hk); (try clear hi); have hcz13_0 : w12.cell? ⟨gb189, 0, none⟩ = some (.int .i64 a0_0) := (blk_cell BK189.out 0).trans rfl; have hcz13_1 : w12.cell? ⟨gb189, 1, none⟩ = some (.int .i64 a0_1) := (blk_cell BK189.out 1).trans rfl; have hcz13_2 : w12.cell? ⟨gb189, 2, none⟩ = some (.int .i64 a0_2) := (blk_cell BK189.out 2).trans rfl; have hcz13_3 : w12.cell? ⟨gb189, 3, none⟩ = some (.int .i64 a0_3) := (blk_cell BK189.out 3).trans rfl; have hcz13_4 : w12.cell? ⟨gb189, 4, none⟩ = some (.int .i64 a0_4) := (blk_cell BK189.out 4).trans rfl; have hcz13_5 : w12.cell? ⟨gb189, 5, none⟩ = some (.int .i64 a0_5) := (blk_cell BK189.out 5).trans rfl; have hfz13_0 := blk_frozen BK189.out 0; have hfz13_1 := blk_frozen BK189.out 1; have hfz13_2 := blk_frozen BK189.out 2; have hfz13_3 := blk_frozen BK189.out 3; have hfz13_4 := blk_frozen BK189.out 4; have hfz13_5 := blk_frozen BK189.out 5) | ((with_reducible refine gate_callee (f := 12) rfl ?_); refine goesL_ (some 22) rfl rfl Try.func12 (by kernel_rfl) rfl #[.agg #[.int .i64 a0_0, .int .i64 a0_1, .int .i64 a0_2, .int .i64 a0_3, .int .i64 a0_4, .int .i64 a0_5]] rfl (by (try simp only [List.map_toArray, List.map_cons, List.map_nil]); first | done | rfl | (simp only [List.length_drop, List.length_take]; rfl)) ?_; (with_reducible refine (layout_Sectors.calls k a0_0 a0_1 a0_2 a0_3 a0_4 a0_5 t193 _ A5.out).mono ?_); rintro e w14 ⟨rfl, hb⟩; refine ⟨_, rfl, ?_⟩; have n0_ := Aside0.mk (blk_below (g := gb189) (o := .cells #[.int .i64 a0_0, .int .i64 a0_1, .int .i64 a0_2, .int .i64 a0_3, .int .i64 a0_4, .int .i64 a0_5] 24 (0, 0)) (by (with_reducible repeat (first | refine blk_drewN ?_ _ | refine blk_drew ?_ | refine blk_alloc ?_ _)); exact BK189.out) hb); have n1_ := Aside0.mk (below_step (by repeat (first | (with_reducible first | exact HB.out | apply below_alloc | apply pw_below_drewN | apply below_drew1 | refine below_set ?_ GE189.out) | exact HB.out)) hb); clear BK189; clear HB; have BK189 := n0_; have HB := n1_; clear n0_ n1_; (try clear hb); (try clear hb2); (try clear hk); (try clear hi)) | ((with_reducible refine gate_dst (N := 23) rfl ?_); (try (refine gate_guard (by rfl) ?_; dsimp only)); refine Kd.R_make Kd.bool _ 4 rfl (N := 23) rfl 31 _ _ rfl 1000 rfl rfl Try.underlying31 (.bool false) 1 info4 rfl (by decide) (by omega) false (ok := fun _ => True) (okp := fun _ => True) rfl (fun _ hk => hk) trivial (by omega) (by omega) (Below.refl _ _) (Nat.le_refl _) ?_; intro v195 w15 ho16 hb hg_ hnew_; clear hg_ hnew_; (first | rw [← Ny194.out] at ho16 | (simp only [Int.reduceToNat] at ho16; rw [← Ny194.out] at ho16)); have n0_ := Aside0.mk (Kd.R_lower ho16 (below_size (by repeat (first | (with_reducible first | exact HB.out | apply below_alloc | apply pw_below_drewN | apply below_drew1 | refine below_set ?_ GE189.out) | exact HB.out)))); have n1_ := Aside0.mk (blk_below (g := gb189) (o := .cells #[.int .i64 a0_0, .int .i64 a0_1, .int .i64 a0_2, .int .i64 a0_3, .int .i64 a0_4, .int .i64 a0_5] 24 (0, 0)) (by (with_reducible repeat (first | refine blk_drewN ?_ _ | refine blk_drew ?_ | refine blk_alloc ?_ _)); exact BK189.out) hb); have n2_ := Aside0.mk (below_step (by repeat (first | (with_reducible first | exact HB.out | apply below_alloc | apply pw_below_drewN | apply below_drew1 | refine below_set ?_ GE189.out) | exact HB.out)) hb); clear BK189; clear HB; have HO196 := n0_; have BK189 := n1_; have HB := n2_; clear n0_ n1_ n2_; clear hb ho16; have p8 : 0 ≤ (0 : Int) := (by omega); have q8 : (0 : Int) < ((y194.length : Int) : Int) := of_decide_eq_true (by first | (with_reducible assumption) | assumption); have qi8 : (0 < y194.length) = True := eq_true (by omega); obtain ⟨go8, co8, eo8, gb8, gl8, cl8, HG8⟩ := Kd.R_form HO196.out (by omega); (first | cases eo8 | (injection eo8 with ea_ en_ ec_; (first | subst ea_ | (injection ea_ with ea_; subst ea_)); subst ec_; clear en_)); have GB8 := Aside0.mk gb8; have GG8 := Aside0.mk HG8; clear gb8 gl8 HG8; obtain ⟨hx8_0, hf8_0⟩ := Kd.R_celln false HO196.out (0 : Int) p8 q8; (try rw [show ((0 : Int)).toNat = 0 from rfl] at hx8_0); (try simp only [Nat.reduceMul, Nat.zero_mul, Nat.zero_add, Nat.reduceAdd] at hx8_0); (try rw [show ((0 : Int)).toNat = 0 from rfl] at hf8_0); (try simp only [Nat.reduceMul, Nat.zero_mul, Nat.zero_add, Nat.reduceAdd] at hf8_0); replace p8 := eq_true p8; replace q8 := eq_true q8; obtain ⟨hy17_, hz17_⟩ := Kd.R_celln false HO196.out (0 : Int) (by omega) (of_decide_eq_true (by first | (with_reducible assumption) | assumption)); (try simp only [Int.reduceToNat, Int.toNat_zero, Int.toNat_ofNat, Nat.reduceMul, Nat.zero_mul, Nat.zero_add] at hy17_ hz17_); (try rw [show ((0 : Int)).toNat = 0 from rfl] at hy17_); (try rw [show ((0 : Int)).toNat = 0 from rfl] at hz17_); have HP17 := Kd.R_putg HO196.out (0 : Int) true) | ((with_reducible refine gate_store (t := 4) (p := 25) rfl ?_); refine store_event (t := 4) (p := 25) (v := ?vo_w18) (w1 := (w15.setCell ⟨go8, (0 : Int).toNat, none⟩ (.bool true))) ?hg ?ho ?hn ?hr ?_; (case ho => rfl); (case hg => rfl); (case hn => rfl); (case hr => first | (go_simp; done) | (go_simp; rfl)); intro w18 hw; have hg : w15.grownBy w18 (some go8) := (by rw [hw]; exact HP17.2); have hp_ : Kd.R Kd.bool 4 w18 w.heap.size (fun _ => True) (.slice (some ⟨go8, 0, none⟩) y194.length co8) y197 := (by rw [hw, Ny197.out]; exact HP17.1); clear HP17; have n0_ := Aside0.mk (blk_grown (g := gb189) (o := .cells #[.int .i64 a0_0, .int .i64 a0_1, .int .i64 a0_2, .int .i64 a0_3, .int .i64 a0_4, .int .i64 a0_5] 24 (0, 0)) (by (with_reducible repeat (first | refine blk_drewN ?_ _ | refine blk_drew ?_ | refine blk_alloc ?_ _)); exact BK189.out) hg (Kd.R_ne HO196.out BK189.out (by decide))); have n1_ := Aside0.mk (hp_); have n2_ := Aside0.mk ((by rw [hw]; exact below_set (HB.out) GB8.out : Below w.heap.size w w18)); clear BK189; clear HO196; clear HB; have BK189 := n0_; have HO196 := n1_; have HB := n2_; clear n0_ n1_ n2_; clear hg hw hp_))
        go_loopg [6, 7] k (fun kq v6 v7 w' => ∃ (x6_1 : List Int) (x7_1 : Int), v7 = .int .i64 x7_1 ∧ Aside0 (aumbrylaw14_LayoutApart.l0 kq t190 t193 y197 x6_1 x7_1 a0_0 a0_1 a0_2 a0_3 a0_4 a0_5 = some r) ∧ Aside0 (kq ≤ k) ∧ Aside0 (Kd.R Kd.bool 4 w' w.heap.size (fun _ => True) (.slice (some ⟨go8, 0, none⟩) y194.length co8) y197) ∧ Aside0 (Kd.R (Kd.int .i64) 3 w' w.heap.size (fun _ => True) v6 x6_1) ∧ Aside0 (w'.heap[gb189]? = some (.cells #[.int .i64 a0_0, .int .i64 a0_1, .int .i64 a0_2, .int .i64 a0_3, .int .i64 a0_4, .int .i64 a0_5] 24 (0, 0))) ∧ Aside0 (Below w.heap.size w w'))
        case atStart => exact ⟨(([] : List Int)), (0), (by first | rfl | (simp; done) | (simp [*]; done)), H', ⟨Nat.le_refl _⟩, ⟨by (with_reducible repeat (first | apply Kd.R_alloc | apply Kd.R_drewN | apply Kd.R_drew)); exact HO196.out⟩, ⟨by first | exact Kd.R_nil _ _ _ _ _ | exact Kd.N_nil _ _ _ _ _ | exact Kd.V_nil _ _ _ _ _ | exact Kd.Q_nil _ _ _ _ _ | exact Kd.S_nil _ _ _ _ _⟩, ⟨by (with_reducible repeat (first | refine blk_drewN ?_ _ | refine blk_drew ?_ | refine blk_alloc ?_ _)); exact BK189.out⟩, ⟨by repeat (first | (with_reducible first | exact HB.out | apply below_alloc | apply pw_below_drewN | apply below_drew1 | refine below_set ?_ GE189.out) | exact HB.out)⟩⟩
        case round =>
          clear H'
          try clear c1
          try clear p2
          try clear c4
          try clear c4b0
          try clear c4b1
          try clear c5
          try clear c6
          try clear c6b0
          try clear c6b1
          try clear c7
          try clear c7b0
          try clear c7b1
          try clear p8
          try clear q8
          try clear hx8
          try clear qi8
          try clear hf8
          try clear c9
          try clear c10
          try clear c12
          try clear hcz11_0
          try clear hcz11_1
          try clear hcz11_2
          try clear hcz11_3
          try clear hcz11_4
          try clear hcz11_5
          try clear hcz13_0
          try clear hcz13_1
          try clear hcz13_2
          try clear hcz13_3
          try clear hcz13_4
          try clear hcz13_5
          try clear hfz11_0
          try clear hfz11_1
          try clear hfz11_2
          try clear hfz11_3
          try clear hfz11_4
          try clear hfz11_5
          try clear hfz13_0
          try clear hfz13_1
          try clear hfz13_2
          try clear hfz13_3
          try clear hfz13_4
          try clear hfz13_5
          try clear hx8_0
          try clear p8
          try clear q8
          obtain ⟨x6_1, x7_1, rfl, HA, HK1, HO_5, HO_6, BK189, HB⟩ := hrel
          have hl5_1 := (Kd.R_reads' HO_5.out).1
          rw [hl5_1] at HO_5
          (try simp only [hl5_1])
          (try simp only [hl5_1] at BK189)
          (try simp only [hl5_1] at HO_6)
          cases gk with
          | zero => exact absurd HA.out (by simp [aumbrylaw14_LayoutApart.l0])
          | succ k1 =>
            have H := HA.out
            clear HA
            simp only [aumbrylaw14_LayoutApart.l0] at H
            by_cases c19 : x7_1 < 4
            · rw [if_pos c19] at H
              have c19b0 : decide (x7_1 < 4) = true := decide_eq_true c19
              clear c19
              replace H := Option.bind_eq_some_iff.mp H
              obtain ⟨t198, A200, H⟩ := H
              replace H : (if x6_1.length < 17592186044416 then (aumbrylaw14_LayoutApart.l0 k1 t190 t193 y197 (x6_1 ++ [t198]) (wrap64 (x7_1 + 1)) a0_0 a0_1 a0_2 a0_3 a0_4 a0_5) else (none)) = some r := H
              have A20 := Aside0.mk A200
              clear A200
              by_cases c21 : x6_1.length < 17592186044416
              · rw [if_pos c21] at H
                have LMc21 := Aside0.mk c21
                clear c21
                obtain ⟨y199, hy199⟩ : ∃ y_ : List Int, y_ = (x6_1 ++ [t198]) := ⟨_, rfl⟩
                replace H : (aumbrylaw14_LayoutApart.l0 k1 t190 t193 y197 y199 (wrap64 (x7_1 + 1)) a0_0 a0_1 a0_2 a0_3 a0_4 a0_5) = some r := by first | (rw [hy199]; with_reducible exact H) | (have H2_ := (Option.bind_some _ _).symm.trans H; rw [hy199]; with_reducible exact H2_) | (have H2_ := (Option.bind_some _ _).symm.trans H; with_reducible exact H2_) | with_reducible exact H | (rw [hy199]; exact H) | exact H
                have Ny199 := Aside0.mk hy199
                clear hy199
                have H' := Aside0.mk H
                clear H
                have hcz22_0 : wr.cell? ⟨gb189, 0, none⟩ = some (.int .i64 a0_0) := (blk_cell BK189.out 0).trans rfl
                have hcz22_1 : wr.cell? ⟨gb189, 1, none⟩ = some (.int .i64 a0_1) := (blk_cell BK189.out 1).trans rfl
                have hcz22_2 : wr.cell? ⟨gb189, 2, none⟩ = some (.int .i64 a0_2) := (blk_cell BK189.out 2).trans rfl
                have hcz22_3 : wr.cell? ⟨gb189, 3, none⟩ = some (.int .i64 a0_3) := (blk_cell BK189.out 3).trans rfl
                have hcz22_4 : wr.cell? ⟨gb189, 4, none⟩ = some (.int .i64 a0_4) := (blk_cell BK189.out 4).trans rfl
                have hcz22_5 : wr.cell? ⟨gb189, 5, none⟩ = some (.int .i64 a0_5) := (blk_cell BK189.out 5).trans rfl
                have hfz22_0 := blk_frozen BK189.out 0
                have hfz22_1 := blk_frozen BK189.out 1
                have hfz22_2 := blk_frozen BK189.out 2
                have hfz22_3 := blk_frozen BK189.out 3
                have hfz22_4 := blk_frozen BK189.out 4
                have hfz22_5 := blk_frozen BK189.out 5
                go_wp2_with (first | ((with_reducible refine gate_callee (f := 14) rfl ?_); refine goesL_ (some 36) rfl rfl Try.func14 (by kernel_rfl) rfl #[.agg #[.int .i64 a0_0, .int .i64 a0_1, .int .i64 a0_2, .int .i64 a0_3, .int .i64 a0_4, .int .i64 a0_5], .int .i64 (wrap64 (Int.tdiv x7_1 2)), .int .i64 (Int.tmod x7_1 2)] rfl (by (try simp only [List.map_toArray, List.map_cons, List.map_nil]); first | done | rfl | (simp only [List.length_drop, List.length_take]; rfl)) ?_; (with_reducible refine (layout_Area.calls k1 a0_0 a0_1 a0_2 a0_3 a0_4 a0_5 (wrap64 (Int.tdiv x7_1 2)) (Int.tmod x7_1 2) t198 _ A20.out).mono ?_); rintro e w23 ⟨rfl, hb⟩; refine ⟨_, rfl, ?_⟩; have n0_ := Aside0.mk (Kd.R_below (by (with_reducible repeat (first | apply Kd.R_alloc | apply Kd.R_drewN | apply Kd.R_drew)); exact HO_5.out) hb); have n1_ := Aside0.mk (Kd.R_below (by (with_reducible repeat (first | apply Kd.R_alloc | apply Kd.R_drewN | apply Kd.R_drew)); exact HO_6.out) hb); have n2_ := Aside0.mk (blk_below (g := gb189) (o := .cells #[.int .i64 a0_0, .int .i64 a0_1, .int .i64 a0_2, .int .i64 a0_3, .int .i64 a0_4, .int .i64 a0_5] 24 (0, 0)) (by (with_reducible repeat (first | refine blk_drewN ?_ _ | refine blk_drew ?_ | refine blk_alloc ?_ _)); exact BK189.out) hb); have n3_ := Aside0.mk (below_step (by repeat (first | (with_reducible first | exact HB.out | apply below_alloc | apply pw_below_drewN | apply below_drew1 | refine below_set ?_ GE189.out) | exact HB.out)) hb); clear HO_5; clear HO_6; clear BK189; clear HB; have HO_5 := n0_; have HO_6 := n1_; have BK189 := n2_; have HB := n3_; clear n0_ n1_ n2_ n3_; (try clear hb); (try clear hb2); (try clear hk); (try clear hi)) | ((with_reducible refine gate_builtin (b := .append) (xs := #[.tmp 30, .tmp 37]) rfl ?_); (try (refine gate_guard (by rfl) ?_; dsimp only)); at_builtin; refine Kd.R_append (Kd.int .i64) (w0 := w) w.heap.size rfl (.tmp 30) (.tmp 37) 32 3 (.int .i64 0) 8 rfl Try.underlying32 info3 rfl (by decide) (by omega) u6 x6_1 t198 [.int .i64 t198] (fun _ => True) (fun _ => False) rfl rfl ?aP (fun _ hk => hk.elim) ?aF ?aO ?aB ?aS ?aL ?_; (case aP => exact rfl); (case aB => exact (by repeat (first | (with_reducible first | exact HB.out | apply below_alloc | apply pw_below_drewN | apply below_drew1 | refine below_set ?_ GE189.out) | exact HB.out))); (case aF => exact (fun _ _ => trivial)); (case aO => exact (by (with_reducible repeat (first | apply Kd.R_alloc | apply Kd.R_drewN | apply Kd.R_drew)); exact HO_6.out)); (case aS => exact (below_size (by repeat (first | (with_reducible first | exact HB.out | apply below_alloc | apply pw_below_drewN | apply below_drew1 | refine below_set ?_ GE189.out) | exact HB.out)))); (case aL => have := LMc21.out; omega); intro v200 w24 ho hb hg hat; rw [← Ny199.out] at ho; have n0_ := Aside0.mk (Kd.R_over' (by (with_reducible repeat (first | apply Kd.R_alloc | apply Kd.R_drewN | apply Kd.R_drew)); exact HO_5.out) (Kd.R_typed (by (with_reducible repeat (first | apply Kd.R_alloc | apply Kd.R_drewN | apply Kd.R_drew)); exact HO_6.out)) (by decide) hg); have n1_ := Aside0.mk (blk_grown (g := gb189) (o := .cells #[.int .i64 a0_0, .int .i64 a0_1, .int .i64 a0_2, .int .i64 a0_3, .int .i64 a0_4, .int .i64 a0_5] 24 (0, 0)) (by (with_reducible repeat (first | refine blk_drewN ?_ _ | refine blk_drew ?_ | refine blk_alloc ?_ _)); exact BK189.out) hg (Kd.R_ne HO_6.out BK189.out (by decide))); have n2_ := Aside0.mk (hb); have n3_ := Aside0.mk (ho); clear HO_5; clear BK189; clear HB; clear HO_6; have HO_5 := n0_; have BK189 := n1_; have HB := n2_; have HO201 := n3_; clear n0_ n1_ n2_ n3_; clear ho hb hg hat))
                (try simp only [← hl5_1])
                go_roundg k1
                case measure => have := HK1.out; omega
                case rel => exact ⟨(y199), (wrap64 (x7_1 + 1)), (by first | rfl | (simp; done) | (simp [*]; done)), H', ⟨by have := HK1.out; omega⟩, ⟨by (try simp only [hl5_1]); (with_reducible repeat (first | apply Kd.R_alloc | apply Kd.R_drewN | apply Kd.R_drew)); exact HO_5.out⟩, ⟨by (try simp only [hl5_1]); (with_reducible repeat (first | apply Kd.R_alloc | apply Kd.R_drewN | apply Kd.R_drew)); exact HO201.out⟩, ⟨by (try simp only [hl5_1]); (with_reducible repeat (first | refine blk_drewN ?_ _ | refine blk_drew ?_ | refine blk_alloc ?_ _)); exact BK189.out⟩, ⟨by repeat (first | (with_reducible first | exact HB.out | apply below_alloc | apply pw_below_drewN | apply below_drew1 | refine below_set ?_ GE189.out) | exact HB.out)⟩⟩
              · rw [if_neg c21] at H
                exact absurd H (by simp)
            · rw [if_neg c19] at H
              have c19b0 : decide (x7_1 < 4) = false := decide_eq_false c19
              clear c19
              have H' := Aside0.mk H
              clear H
              go_wp2
              go_loopg [6, 8] k1 (fun kq v6 v8 w' => ∃ (x6_2 : List Int) (x8_2 : Int), v8 = .int .i64 x8_2 ∧ Aside0 (aumbrylaw14_LayoutApart.l1 kq t190 t193 y197 x6_2 x8_2 a0_0 a0_1 a0_2 a0_3 a0_4 a0_5 = some r) ∧ Aside0 (kq ≤ k1) ∧ Aside0 (Kd.R Kd.bool 4 w' w.heap.size (fun _ => True) (.slice (some ⟨go8, 0, none⟩) y197.length co8) y197) ∧ Aside0 (Kd.R (Kd.int .i64) 3 w' w.heap.size (fun _ => True) v6 x6_2) ∧ Aside0 (w'.heap[gb189]? = some (.cells #[.int .i64 a0_0, .int .i64 a0_1, .int .i64 a0_2, .int .i64 a0_3, .int .i64 a0_4, .int .i64 a0_5] 24 (0, 0))) ∧ Aside0 (Below w.heap.size w w'))
              case atStart => exact ⟨(x6_1), (0), (by first | rfl | (simp; done) | (simp [*]; done)), H', ⟨Nat.le_refl _⟩, ⟨by (try simp only [hl5_1]); (with_reducible repeat (first | apply Kd.R_alloc | apply Kd.R_drewN | apply Kd.R_drew)); exact HO_5.out⟩, ⟨by (try simp only [hl5_1]); (with_reducible repeat (first | apply Kd.R_alloc | apply Kd.R_drewN | apply Kd.R_drew)); exact HO_6.out⟩, ⟨by (try simp only [hl5_1]); (with_reducible repeat (first | refine blk_drewN ?_ _ | refine blk_drew ?_ | refine blk_alloc ?_ _)); exact BK189.out⟩, ⟨by repeat (first | (with_reducible first | exact HB.out | apply below_alloc | apply pw_below_drewN | apply below_drew1 | refine below_set ?_ GE189.out) | exact HB.out)⟩⟩
              case round =>
                clear H'
                try clear c1
                try clear c2
                try clear p2
                try clear c4
                try clear c4b0
                try clear c4b1
                try clear c5
                try clear c6
                try clear c6b0
                try clear c6b1
                try clear p6
                try clear c7
                try clear c7b0
                try clear c7b1
                try clear p8
                try clear q8
                try clear hx8
                try clear qi8
                try clear hf8
                try clear c9
                try clear c10
                try clear c12
                try clear c14
                try clear c19
                try clear c19b0
                try clear c21
                try clear hcz11_0
                try clear hcz11_1
                try clear hcz11_2
                try clear hcz11_3
                try clear hcz11_4
                try clear hcz11_5
                try clear hcz13_0
                try clear hcz13_1
                try clear hcz13_2
                try clear hcz13_3
                try clear hcz13_4
                try clear hcz13_5
                try clear hcz22_0
                try clear hcz22_1
                try clear hcz22_2
                try clear hcz22_3
                try clear hcz22_4
                try clear hcz22_5
                try clear hfz11_0
                try clear hfz11_1
                try clear hfz11_2
                try clear hfz11_3
                try clear hfz11_4
                try clear hfz11_5
                try clear hfz13_0
                try clear hfz13_1
                try clear hfz13_2
                try clear hfz13_3
                try clear hfz13_4
                try clear hfz13_5
                try clear hfz22_0
                try clear hfz22_1
                try clear hfz22_2
                try clear hfz22_3
                try clear hfz22_4
                try clear hfz22_5
                try clear hx8_0
                try clear p2
                try clear p8
                try clear q8
                obtain ⟨x6_2, x8_2, rfl, HA, HK2, HO_5, HO_6, BK189, HB⟩ := hrel
                cases gk with
                | zero => exact absurd HA.out (by simp [aumbrylaw14_LayoutApart.l1])
                | succ k2 =>
                  have H := HA.out
                  clear HA
                  simp only [aumbrylaw14_LayoutApart.l1] at H
                  have HC25 := Aside0.mk H
                  clear H
                  go_upto_region 13 with (fail)
                  go_cut [46] (fun v46 wc => ∃ (kq : Nat) (x46_24 : Bool), v46 = .bool x46_24 ∧ Aside0 (aumbrylaw14_LayoutApart.j2 kq t190 t193 y197 x6_2 x8_2 x46_24 a0_0 a0_1 a0_2 a0_3 a0_4 a0_5 = some r) ∧ Aside0 (kq ≤ k2) ∧ Aside0 (Kd.R Kd.bool 4 wc w.heap.size (fun _ => True) (.slice (some ⟨go8, 0, none⟩) y197.length co8) y197) ∧ Aside0 (Kd.R (Kd.int .i64) 3 wc w.heap.size (fun _ => True) u6 x6_2) ∧ Aside0 (wc.heap[gb189]? = some (.cells #[.int .i64 a0_0, .int .i64 a0_1, .int .i64 a0_2, .int .i64 a0_3, .int .i64 a0_4, .int .i64 a0_5] 24 (0, 0))) ∧ Aside0 (Below w.heap.size w wc))
                  case first =>
                    have H := HC25.out
                    clear HC25
                    by_cases c26 : x8_2 < a0_4
                    · rw [if_pos c26] at H
                      have c26b0 : decide (x8_2 < a0_4) = true := decide_eq_true c26
                      clear c26
                      (first | rw [c26b0] | (simp only [i64_w, i32_w]; rw [c26b0]) | skip)
                      have H' := Aside0.mk H
                      clear H
                      have hcz27_0 : wr.cell? ⟨gb189, 0, none⟩ = some (.int .i64 a0_0) := (blk_cell BK189.out 0).trans rfl
                      have hcz27_1 : wr.cell? ⟨gb189, 1, none⟩ = some (.int .i64 a0_1) := (blk_cell BK189.out 1).trans rfl
                      have hcz27_2 : wr.cell? ⟨gb189, 2, none⟩ = some (.int .i64 a0_2) := (blk_cell BK189.out 2).trans rfl
                      have hcz27_3 : wr.cell? ⟨gb189, 3, none⟩ = some (.int .i64 a0_3) := (blk_cell BK189.out 3).trans rfl
                      have hcz27_4 : wr.cell? ⟨gb189, 4, none⟩ = some (.int .i64 a0_4) := (blk_cell BK189.out 4).trans rfl
                      have hcz27_5 : wr.cell? ⟨gb189, 5, none⟩ = some (.int .i64 a0_5) := (blk_cell BK189.out 5).trans rfl
                      have hfz27_0 := blk_frozen BK189.out 0
                      have hfz27_1 := blk_frozen BK189.out 1
                      have hfz27_2 := blk_frozen BK189.out 2
                      have hfz27_3 := blk_frozen BK189.out 3
                      have hfz27_4 := blk_frozen BK189.out 4
                      have hfz27_5 := blk_frozen BK189.out 5
                      go_wp2
                      go_meet
                      case rel => exact ⟨_, (decide (x8_2 < 64)), (by first | rfl | (simp; done) | (simp [*]; done)), H', ⟨by have := HK1.out; have := HK2.out; first | omega | exact Nat.le_refl _⟩, ⟨by (try simp only [hl5_1]); (with_reducible repeat (first | apply Kd.R_alloc | apply Kd.R_drewN | apply Kd.R_drew)); exact HO_5.out⟩, ⟨by (try simp only [hl5_1]); (with_reducible repeat (first | apply Kd.R_alloc | apply Kd.R_drewN | apply Kd.R_drew)); exact HO_6.out⟩, ⟨by (try simp only [hl5_1]); (with_reducible repeat (first | refine blk_drewN ?_ _ | refine blk_drew ?_ | refine blk_alloc ?_ _)); exact BK189.out⟩, ⟨by repeat (first | (with_reducible first | exact HB.out | apply below_alloc | apply pw_below_drewN | apply below_drew1 | refine below_set ?_ GE189.out) | exact HB.out)⟩⟩
                    · rw [if_neg c26] at H
                      have c26b0 : decide (x8_2 < a0_4) = false := decide_eq_false c26
                      clear c26
                      (first | rw [c26b0] | (simp only [i64_w, i32_w]; rw [c26b0]) | skip)
                      have H' := Aside0.mk H
                      clear H
                      have hcz28_0 : wr.cell? ⟨gb189, 0, none⟩ = some (.int .i64 a0_0) := (blk_cell BK189.out 0).trans rfl
                      have hcz28_1 : wr.cell? ⟨gb189, 1, none⟩ = some (.int .i64 a0_1) := (blk_cell BK189.out 1).trans rfl
                      have hcz28_2 : wr.cell? ⟨gb189, 2, none⟩ = some (.int .i64 a0_2) := (blk_cell BK189.out 2).trans rfl
                      have hcz28_3 : wr.cell? ⟨gb189, 3, none⟩ = some (.int .i64 a0_3) := (blk_cell BK189.out 3).trans rfl
                      have hcz28_4 : wr.cell? ⟨gb189, 4, none⟩ = some (.int .i64 a0_4) := (blk_cell BK189.out 4).trans rfl
                      have hcz28_5 : wr.cell? ⟨gb189, 5, none⟩ = some (.int .i64 a0_5) := (blk_cell BK189.out 5).trans rfl
                      have hfz28_0 := blk_frozen BK189.out 0
                      have hfz28_1 := blk_frozen BK189.out 1
                      have hfz28_2 := blk_frozen BK189.out 2
                      have hfz28_3 := blk_frozen BK189.out 3
                      have hfz28_4 := blk_frozen BK189.out 4
                      have hfz28_5 := blk_frozen BK189.out 5
                      go_wp2
                      go_meet
                      case rel => exact ⟨_, (false), (by first | rfl | (simp; done) | (simp [*]; done)), H', ⟨by have := HK1.out; have := HK2.out; first | omega | exact Nat.le_refl _⟩, ⟨by (try simp only [hl5_1]); (with_reducible repeat (first | apply Kd.R_alloc | apply Kd.R_drewN | apply Kd.R_drew)); exact HO_5.out⟩, ⟨by (try simp only [hl5_1]); (with_reducible repeat (first | apply Kd.R_alloc | apply Kd.R_drewN | apply Kd.R_drew)); exact HO_6.out⟩, ⟨by (try simp only [hl5_1]); (with_reducible repeat (first | refine blk_drewN ?_ _ | refine blk_drew ?_ | refine blk_alloc ?_ _)); exact BK189.out⟩, ⟨by repeat (first | (with_reducible first | exact HB.out | apply below_alloc | apply pw_below_drewN | apply below_drew1 | refine below_set ?_ GE189.out) | exact HB.out)⟩⟩
                  case rest =>
                    clear HC25
                    try clear c1
                    try clear c2
                    try clear p2
                    try clear c4
                    try clear c4b0
                    try clear c4b1
                    try clear c5
                    try clear c6
                    try clear c6b0
                    try clear c6b1
                    try clear p6
                    try clear c7
                    try clear c7b0
                    try clear c7b1
                    try clear p8
                    try clear q8
                    try clear hx8
                    try clear qi8
                    try clear hf8
                    try clear c9
                    try clear c10
                    try clear c12
                    try clear c14
                    try clear c19
                    try clear c19b0
                    try clear c21
                    try clear c26
                    try clear c26b0
                    try clear hcz11_0
                    try clear hcz11_1
                    try clear hcz11_2
                    try clear hcz11_3
                    try clear hcz11_4
                    try clear hcz11_5
                    try clear hcz13_0
                    try clear hcz13_1
                    try clear hcz13_2
                    try clear hcz13_3
                    try clear hcz13_4
                    try clear hcz13_5
                    try clear hcz22_0
                    try clear hcz22_1
                    try clear hcz22_2
                    try clear hcz22_3
                    try clear hcz22_4
                    try clear hcz22_5
                    try clear hcz27_0
                    try clear hcz27_1
                    try clear hcz27_2
                    try clear hcz27_3
                    try clear hcz27_4
                    try clear hcz27_5
                    try clear hcz28_0
                    try clear hcz28_1
                    try clear hcz28_2
                    try clear hcz28_3
                    try clear hcz28_4
                    try clear hcz28_5
                    try clear hfz11_0
                    try clear hfz11_1
                    try clear hfz11_2
                    try clear hfz11_3
                    try clear hfz11_4
                    try clear hfz11_5
                    try clear hfz13_0
                    try clear hfz13_1
                    try clear hfz13_2
                    try clear hfz13_3
                    try clear hfz13_4
                    try clear hfz13_5
                    try clear hfz22_0
                    try clear hfz22_1
                    try clear hfz22_2
                    try clear hfz22_3
                    try clear hfz22_4
                    try clear hfz22_5
                    try clear hfz27_0
                    try clear hfz27_1
                    try clear hfz27_2
                    try clear hfz27_3
                    try clear hfz27_4
                    try clear hfz27_5
                    try clear hfz28_0
                    try clear hfz28_1
                    try clear hfz28_2
                    try clear hfz28_3
                    try clear hfz28_4
                    try clear hfz28_5
                    try clear hx8_0
                    try clear p2
                    try clear p6
                    try clear p8
                    try clear q8
                    obtain ⟨kq, x46_24, rfl, HA, HJ24, HO_5, HO_6, BK189, HB⟩ := hcut
                    cases kq with
                    | zero => exact absurd HA.out (by simp [aumbrylaw14_LayoutApart.j2])
                    | succ kj24 =>
                      have H := HA.out
                      clear HA
                      simp only [aumbrylaw14_LayoutApart.j2] at H
                      by_cases c29 : x46_24 = true
                      · subst c29
                        have H1 : ((layout_Slot.f kj24 a0_0 a0_1 a0_2 a0_3 a0_4 a0_5 x8_2).bind fun t202 => (if x6_2.length < 17592186044416 then (aumbrylaw14_LayoutApart.l1 kj24 t190 t193 y197 (x6_2 ++ [t202]) (wrap64 (x8_2 + 1)) a0_0 a0_1 a0_2 a0_3 a0_4 a0_5) else (none))) = some r := by rw [if_pos rfl] at H; exact H
                        clear H
                        have H := H1
                        clear H1
                        replace H := Option.bind_eq_some_iff.mp H
                        obtain ⟨t202, A300, H⟩ := H
                        replace H : (if x6_2.length < 17592186044416 then (aumbrylaw14_LayoutApart.l1 kj24 t190 t193 y197 (x6_2 ++ [t202]) (wrap64 (x8_2 + 1)) a0_0 a0_1 a0_2 a0_3 a0_4 a0_5) else (none)) = some r := H
                        have A30 := Aside0.mk A300
                        clear A300
                        by_cases c31 : x6_2.length < 17592186044416
                        · rw [if_pos c31] at H
                          have LMc31 := Aside0.mk c31
                          clear c31
                          obtain ⟨y203, hy203⟩ : ∃ y_ : List Int, y_ = (x6_2 ++ [t202]) := ⟨_, rfl⟩
                          replace H : (aumbrylaw14_LayoutApart.l1 kj24 t190 t193 y197 y203 (wrap64 (x8_2 + 1)) a0_0 a0_1 a0_2 a0_3 a0_4 a0_5) = some r := by first | (rw [hy203]; with_reducible exact H) | (have H2_ := (Option.bind_some _ _).symm.trans H; rw [hy203]; with_reducible exact H2_) | (have H2_ := (Option.bind_some _ _).symm.trans H; with_reducible exact H2_) | with_reducible exact H | (rw [hy203]; exact H) | exact H
                          have Ny203 := Aside0.mk hy203
                          clear hy203
                          have H' := Aside0.mk H
                          clear H
                          have hcz32_0 : wc.cell? ⟨gb189, 0, none⟩ = some (.int .i64 a0_0) := (blk_cell BK189.out 0).trans rfl
                          have hcz32_1 : wc.cell? ⟨gb189, 1, none⟩ = some (.int .i64 a0_1) := (blk_cell BK189.out 1).trans rfl
                          have hcz32_2 : wc.cell? ⟨gb189, 2, none⟩ = some (.int .i64 a0_2) := (blk_cell BK189.out 2).trans rfl
                          have hcz32_3 : wc.cell? ⟨gb189, 3, none⟩ = some (.int .i64 a0_3) := (blk_cell BK189.out 3).trans rfl
                          have hcz32_4 : wc.cell? ⟨gb189, 4, none⟩ = some (.int .i64 a0_4) := (blk_cell BK189.out 4).trans rfl
                          have hcz32_5 : wc.cell? ⟨gb189, 5, none⟩ = some (.int .i64 a0_5) := (blk_cell BK189.out 5).trans rfl
                          have hfz32_0 := blk_frozen BK189.out 0
                          have hfz32_1 := blk_frozen BK189.out 1
                          have hfz32_2 := blk_frozen BK189.out 2
                          have hfz32_3 := blk_frozen BK189.out 3
                          have hfz32_4 := blk_frozen BK189.out 4
                          have hfz32_5 := blk_frozen BK189.out 5
                          go_wp2_with (first | ((with_reducible refine gate_callee (f := 16) rfl ?_); refine goesL_ (some 52) rfl rfl Try.func16 (by kernel_rfl) rfl #[.agg #[.int .i64 a0_0, .int .i64 a0_1, .int .i64 a0_2, .int .i64 a0_3, .int .i64 a0_4, .int .i64 a0_5], .int .i64 x8_2] rfl (by (try simp only [List.map_toArray, List.map_cons, List.map_nil]); first | done | rfl | (simp only [List.length_drop, List.length_take]; rfl)) ?_; (with_reducible refine (layout_Slot.calls kj24 a0_0 a0_1 a0_2 a0_3 a0_4 a0_5 x8_2 t202 _ A30.out).mono ?_); rintro e w33 ⟨rfl, hb⟩; refine ⟨_, rfl, ?_⟩; have n0_ := Aside0.mk (Kd.R_below (by (with_reducible repeat (first | apply Kd.R_alloc | apply Kd.R_drewN | apply Kd.R_drew)); exact HO_5.out) hb); have n1_ := Aside0.mk (Kd.R_below (by (with_reducible repeat (first | apply Kd.R_alloc | apply Kd.R_drewN | apply Kd.R_drew)); exact HO_6.out) hb); have n2_ := Aside0.mk (blk_below (g := gb189) (o := .cells #[.int .i64 a0_0, .int .i64 a0_1, .int .i64 a0_2, .int .i64 a0_3, .int .i64 a0_4, .int .i64 a0_5] 24 (0, 0)) (by (with_reducible repeat (first | refine blk_drewN ?_ _ | refine blk_drew ?_ | refine blk_alloc ?_ _)); exact BK189.out) hb); have n3_ := Aside0.mk (below_step (by repeat (first | (with_reducible first | exact HB.out | apply below_alloc | apply pw_below_drewN | apply below_drew1 | refine below_set ?_ GE189.out) | exact HB.out)) hb); clear HO_5; clear HO_6; clear BK189; clear HB; have HO_5 := n0_; have HO_6 := n1_; have BK189 := n2_; have HB := n3_; clear n0_ n1_ n2_ n3_; (try clear hb); (try clear hb2); (try clear hk); (try clear hi)) | ((with_reducible refine gate_builtin (b := .append) (xs := #[.tmp 49, .tmp 53]) rfl ?_); (try (refine gate_guard (by rfl) ?_; dsimp only)); at_builtin; refine Kd.R_append (Kd.int .i64) (w0 := w) w.heap.size rfl (.tmp 49) (.tmp 53) 32 3 (.int .i64 0) 8 rfl Try.underlying32 info3 rfl (by decide) (by omega) u6 x6_2 t202 [.int .i64 t202] (fun _ => True) (fun _ => False) rfl rfl ?aP (fun _ hk => hk.elim) ?aF ?aO ?aB ?aS ?aL ?_; (case aP => exact rfl); (case aB => exact (by repeat (first | (with_reducible first | exact HB.out | apply below_alloc | apply pw_below_drewN | apply below_drew1 | refine below_set ?_ GE189.out) | exact HB.out))); (case aF => exact (fun _ _ => trivial)); (case aO => exact (by (with_reducible repeat (first | apply Kd.R_alloc | apply Kd.R_drewN | apply Kd.R_drew)); exact HO_6.out)); (case aS => exact (below_size (by repeat (first | (with_reducible first | exact HB.out | apply below_alloc | apply pw_below_drewN | apply below_drew1 | refine below_set ?_ GE189.out) | exact HB.out)))); (case aL => have := LMc31.out; omega); intro v204 w34 ho hb hg hat; rw [← Ny203.out] at ho; have n0_ := Aside0.mk (Kd.R_over' (by (with_reducible repeat (first | apply Kd.R_alloc | apply Kd.R_drewN | apply Kd.R_drew)); exact HO_5.out) (Kd.R_typed (by (with_reducible repeat (first | apply Kd.R_alloc | apply Kd.R_drewN | apply Kd.R_drew)); exact HO_6.out)) (by decide) hg); have n1_ := Aside0.mk (blk_grown (g := gb189) (o := .cells #[.int .i64 a0_0, .int .i64 a0_1, .int .i64 a0_2, .int .i64 a0_3, .int .i64 a0_4, .int .i64 a0_5] 24 (0, 0)) (by (with_reducible repeat (first | refine blk_drewN ?_ _ | refine blk_drew ?_ | refine blk_alloc ?_ _)); exact BK189.out) hg (Kd.R_ne HO_6.out BK189.out (by decide))); have n2_ := Aside0.mk (hb); have n3_ := Aside0.mk (ho); clear HO_5; clear BK189; clear HB; clear HO_6; have HO_5 := n0_; have BK189 := n1_; have HB := n2_; have HO205 := n3_; clear n0_ n1_ n2_ n3_; clear ho hb hg hat))
                          go_roundg kj24
                          case measure => have := HK1.out; have := HK2.out; have := HJ24.out; omega
                          case rel => exact ⟨(y203), (wrap64 (x8_2 + 1)), (by first | rfl | (simp; done) | (simp [*]; done)), H', ⟨by have := HK1.out; have := HK2.out; have := HJ24.out; omega⟩, ⟨by (try simp only [hl5_1]); (with_reducible repeat (first | apply Kd.R_alloc | apply Kd.R_drewN | apply Kd.R_drew)); exact HO_5.out⟩, ⟨by (try simp only [hl5_1]); (with_reducible repeat (first | apply Kd.R_alloc | apply Kd.R_drewN | apply Kd.R_drew)); exact HO205.out⟩, ⟨by (try simp only [hl5_1]); (with_reducible repeat (first | refine blk_drewN ?_ _ | refine blk_drew ?_ | refine blk_alloc ?_ _)); exact BK189.out⟩, ⟨by repeat (first | (with_reducible first | exact HB.out | apply below_alloc | apply pw_below_drewN | apply below_drew1 | refine below_set ?_ GE189.out) | exact HB.out)⟩⟩
                        · rw [if_neg c31] at H
                          exact absurd H (by simp)
                      · replace c29 := Bool.eq_false_iff.mpr c29
                        subst c29
                        have H1 : (aumbrylaw14_LayoutApart.l2 kj24 t190 t193 y197 x6_2 0 a0_0 a0_1 a0_2 a0_3 a0_4 a0_5) = some r := by rw [if_neg (show ¬ (false = true) by decide)] at H; exact H
                        clear H
                        have H := H1
                        clear H1
                        have H' := Aside0.mk H
                        clear H
                        go_wp2
                        go_loopg [6, 9] kj24 (fun kq v6 v9 w' => ∃ (x6_4 : List Int) (x9_4 : Int), v9 = .int .i64 x9_4 ∧ Aside0 (aumbrylaw14_LayoutApart.l2 kq t190 t193 y197 x6_4 x9_4 a0_0 a0_1 a0_2 a0_3 a0_4 a0_5 = some r) ∧ Aside0 (kq ≤ kj24) ∧ Aside0 (Kd.R Kd.bool 4 w' w.heap.size (fun _ => True) (.slice (some ⟨go8, 0, none⟩) y197.length co8) y197) ∧ Aside0 (Kd.R (Kd.int .i64) 3 w' w.heap.size (fun _ => True) v6 x6_4) ∧ Aside0 (w'.heap[gb189]? = some (.cells #[.int .i64 a0_0, .int .i64 a0_1, .int .i64 a0_2, .int .i64 a0_3, .int .i64 a0_4, .int .i64 a0_5] 24 (0, 0))) ∧ Aside0 (Below w.heap.size w w'))
                        case atStart => exact ⟨(x6_2), (0), (by first | rfl | (simp; done) | (simp [*]; done)), H', ⟨Nat.le_refl _⟩, ⟨by (try simp only [hl5_1]); (with_reducible repeat (first | apply Kd.R_alloc | apply Kd.R_drewN | apply Kd.R_drew)); exact HO_5.out⟩, ⟨by (try simp only [hl5_1]); (with_reducible repeat (first | apply Kd.R_alloc | apply Kd.R_drewN | apply Kd.R_drew)); exact HO_6.out⟩, ⟨by (try simp only [hl5_1]); (with_reducible repeat (first | refine blk_drewN ?_ _ | refine blk_drew ?_ | refine blk_alloc ?_ _)); exact BK189.out⟩, ⟨by repeat (first | (with_reducible first | exact HB.out | apply below_alloc | apply pw_below_drewN | apply below_drew1 | refine below_set ?_ GE189.out) | exact HB.out)⟩⟩
                        case round =>
                          clear H'
                          try clear c1
                          try clear c2
                          try clear p2
                          try clear c3
                          try clear c4
                          try clear c4b0
                          try clear c4b1
                          try clear c5
                          try clear c6
                          try clear c6b0
                          try clear c6b1
                          try clear p6
                          try clear c7
                          try clear c7b0
                          try clear c7b1
                          try clear p8
                          try clear q8
                          try clear hx8
                          try clear qi8
                          try clear hf8
                          try clear c9
                          try clear c10
                          try clear c12
                          try clear c14
                          try clear c16
                          try clear c19
                          try clear c19b0
                          try clear c21
                          try clear c26
                          try clear c26b0
                          try clear c29
                          try clear c31
                          try clear hcz11_0
                          try clear hcz11_1
                          try clear hcz11_2
                          try clear hcz11_3
                          try clear hcz11_4
                          try clear hcz11_5
                          try clear hcz13_0
                          try clear hcz13_1
                          try clear hcz13_2
                          try clear hcz13_3
                          try clear hcz13_4
                          try clear hcz13_5
                          try clear hcz22_0
                          try clear hcz22_1
                          try clear hcz22_2
                          try clear hcz22_3
                          try clear hcz22_4
                          try clear hcz22_5
                          try clear hcz27_0
                          try clear hcz27_1
                          try clear hcz27_2
                          try clear hcz27_3
                          try clear hcz27_4
                          try clear hcz27_5
                          try clear hcz28_0
                          try clear hcz28_1
                          try clear hcz28_2
                          try clear hcz28_3
                          try clear hcz28_4
                          try clear hcz28_5
                          try clear hcz32_0
                          try clear hcz32_1
                          try clear hcz32_2
                          try clear hcz32_3
                          try clear hcz32_4
                          try clear hcz32_5
                          try clear hfz11_0
                          try clear hfz11_1
                          try clear hfz11_2
                          try clear hfz11_3
                          try clear hfz11_4
                          try clear hfz11_5
                          try clear hfz13_0
                          try clear hfz13_1
                          try clear hfz13_2
                          try clear hfz13_3
                          try clear hfz13_4
                          try clear hfz13_5
                          try clear hfz22_0
                          try clear hfz22_1
                          try clear hfz22_2
                          try clear hfz22_3
                          try clear hfz22_4
                          try clear hfz22_5
                          try clear hfz27_0
                          try clear hfz27_1
                          try clear hfz27_2
                          try clear hfz27_3
                          try clear hfz27_4
                          try clear hfz27_5
                          try clear hfz28_0
                          try clear hfz28_1
                          try clear hfz28_2
                          try clear hfz28_3
                          try clear hfz28_4
                          try clear hfz28_5
                          try clear hfz32_0
                          try clear hfz32_1
                          try clear hfz32_2
                          try clear hfz32_3
                          try clear hfz32_4
                          try clear hfz32_5
                          try clear hx8_0
                          try clear p2
                          try clear p6
                          try clear p8
                          try clear q8
                          obtain ⟨x6_4, x9_4, rfl, HA, HK4, HO_5, HO_6, BK189, HB⟩ := hrel
                          cases gk with
                          | zero => exact absurd HA.out (by simp [aumbrylaw14_LayoutApart.l2])
                          | succ k4 =>
                            have H := HA.out
                            clear HA
                            simp only [aumbrylaw14_LayoutApart.l2] at H
                            have HC35 := Aside0.mk H
                            clear H
                            go_upto_region 17 with (fail)
                            go_cut [62] (fun v62 wc => ∃ (kq : Nat) (x62_34 : Bool), v62 = .bool x62_34 ∧ Aside0 (aumbrylaw14_LayoutApart.j4 kq t190 t193 y197 x6_4 x9_4 x62_34 a0_0 a0_1 a0_2 a0_3 a0_4 a0_5 = some r) ∧ Aside0 (kq ≤ k4) ∧ Aside0 (Kd.R Kd.bool 4 wc w.heap.size (fun _ => True) (.slice (some ⟨go8, 0, none⟩) y197.length co8) y197) ∧ Aside0 (Kd.R (Kd.int .i64) 3 wc w.heap.size (fun _ => True) u6 x6_4) ∧ Aside0 (wc.heap[gb189]? = some (.cells #[.int .i64 a0_0, .int .i64 a0_1, .int .i64 a0_2, .int .i64 a0_3, .int .i64 a0_4, .int .i64 a0_5] 24 (0, 0))) ∧ Aside0 (Below w.heap.size w wc))
                            case first =>
                              have H := HC35.out
                              clear HC35
                              by_cases c36 : x9_4 < a0_3
                              · rw [if_pos c36] at H
                                have c36b0 : decide (x9_4 < a0_3) = true := decide_eq_true c36
                                clear c36
                                (first | rw [c36b0] | (simp only [i64_w, i32_w]; rw [c36b0]) | skip)
                                have H' := Aside0.mk H
                                clear H
                                have hcz37_0 : wr.cell? ⟨gb189, 0, none⟩ = some (.int .i64 a0_0) := (blk_cell BK189.out 0).trans rfl
                                have hcz37_1 : wr.cell? ⟨gb189, 1, none⟩ = some (.int .i64 a0_1) := (blk_cell BK189.out 1).trans rfl
                                have hcz37_2 : wr.cell? ⟨gb189, 2, none⟩ = some (.int .i64 a0_2) := (blk_cell BK189.out 2).trans rfl
                                have hcz37_3 : wr.cell? ⟨gb189, 3, none⟩ = some (.int .i64 a0_3) := (blk_cell BK189.out 3).trans rfl
                                have hcz37_4 : wr.cell? ⟨gb189, 4, none⟩ = some (.int .i64 a0_4) := (blk_cell BK189.out 4).trans rfl
                                have hcz37_5 : wr.cell? ⟨gb189, 5, none⟩ = some (.int .i64 a0_5) := (blk_cell BK189.out 5).trans rfl
                                have hfz37_0 := blk_frozen BK189.out 0
                                have hfz37_1 := blk_frozen BK189.out 1
                                have hfz37_2 := blk_frozen BK189.out 2
                                have hfz37_3 := blk_frozen BK189.out 3
                                have hfz37_4 := blk_frozen BK189.out 4
                                have hfz37_5 := blk_frozen BK189.out 5
                                go_wp2
                                go_meet
                                case rel => exact ⟨_, (decide (x9_4 < 256)), (by first | rfl | (simp; done) | (simp [*]; done)), H', ⟨by have := HK1.out; have := HK2.out; have := HJ24.out; have := HK4.out; first | omega | exact Nat.le_refl _⟩, ⟨by (try simp only [hl5_1]); (with_reducible repeat (first | apply Kd.R_alloc | apply Kd.R_drewN | apply Kd.R_drew)); exact HO_5.out⟩, ⟨by (try simp only [hl5_1]); (with_reducible repeat (first | apply Kd.R_alloc | apply Kd.R_drewN | apply Kd.R_drew)); exact HO_6.out⟩, ⟨by (try simp only [hl5_1]); (with_reducible repeat (first | refine blk_drewN ?_ _ | refine blk_drew ?_ | refine blk_alloc ?_ _)); exact BK189.out⟩, ⟨by repeat (first | (with_reducible first | exact HB.out | apply below_alloc | apply pw_below_drewN | apply below_drew1 | refine below_set ?_ GE189.out) | exact HB.out)⟩⟩
                              · rw [if_neg c36] at H
                                have c36b0 : decide (x9_4 < a0_3) = false := decide_eq_false c36
                                clear c36
                                (first | rw [c36b0] | (simp only [i64_w, i32_w]; rw [c36b0]) | skip)
                                have H' := Aside0.mk H
                                clear H
                                have hcz38_0 : wr.cell? ⟨gb189, 0, none⟩ = some (.int .i64 a0_0) := (blk_cell BK189.out 0).trans rfl
                                have hcz38_1 : wr.cell? ⟨gb189, 1, none⟩ = some (.int .i64 a0_1) := (blk_cell BK189.out 1).trans rfl
                                have hcz38_2 : wr.cell? ⟨gb189, 2, none⟩ = some (.int .i64 a0_2) := (blk_cell BK189.out 2).trans rfl
                                have hcz38_3 : wr.cell? ⟨gb189, 3, none⟩ = some (.int .i64 a0_3) := (blk_cell BK189.out 3).trans rfl
                                have hcz38_4 : wr.cell? ⟨gb189, 4, none⟩ = some (.int .i64 a0_4) := (blk_cell BK189.out 4).trans rfl
                                have hcz38_5 : wr.cell? ⟨gb189, 5, none⟩ = some (.int .i64 a0_5) := (blk_cell BK189.out 5).trans rfl
                                have hfz38_0 := blk_frozen BK189.out 0
                                have hfz38_1 := blk_frozen BK189.out 1
                                have hfz38_2 := blk_frozen BK189.out 2
                                have hfz38_3 := blk_frozen BK189.out 3
                                have hfz38_4 := blk_frozen BK189.out 4
                                have hfz38_5 := blk_frozen BK189.out 5
                                go_wp2
                                go_meet
                                case rel => exact ⟨_, (false), (by first | rfl | (simp; done) | (simp [*]; done)), H', ⟨by have := HK1.out; have := HK2.out; have := HJ24.out; have := HK4.out; first | omega | exact Nat.le_refl _⟩, ⟨by (try simp only [hl5_1]); (with_reducible repeat (first | apply Kd.R_alloc | apply Kd.R_drewN | apply Kd.R_drew)); exact HO_5.out⟩, ⟨by (try simp only [hl5_1]); (with_reducible repeat (first | apply Kd.R_alloc | apply Kd.R_drewN | apply Kd.R_drew)); exact HO_6.out⟩, ⟨by (try simp only [hl5_1]); (with_reducible repeat (first | refine blk_drewN ?_ _ | refine blk_drew ?_ | refine blk_alloc ?_ _)); exact BK189.out⟩, ⟨by repeat (first | (with_reducible first | exact HB.out | apply below_alloc | apply pw_below_drewN | apply below_drew1 | refine below_set ?_ GE189.out) | exact HB.out)⟩⟩
                            case rest =>
                              clear HC35
                              try clear c1
                              try clear c2
                              try clear p2
                              try clear c3
                              try clear c4
                              try clear c4b0
                              try clear c4b1
                              try clear c5
                              try clear c6
                              try clear c6b0
                              try clear c6b1
                              try clear p6
                              try clear c7
                              try clear c7b0
                              try clear c7b1
                              try clear p8
                              try clear q8
                              try clear hx8
                              try clear qi8
                              try clear hf8
                              try clear c9
                              try clear c10
                              try clear c12
                              try clear c14
                              try clear c16
                              try clear c19
                              try clear c19b0
                              try clear c21
                              try clear c26
                              try clear c26b0
                              try clear c29
                              try clear c31
                              try clear c36
                              try clear c36b0
                              try clear hcz11_0
                              try clear hcz11_1
                              try clear hcz11_2
                              try clear hcz11_3
                              try clear hcz11_4
                              try clear hcz11_5
                              try clear hcz13_0
                              try clear hcz13_1
                              try clear hcz13_2
                              try clear hcz13_3
                              try clear hcz13_4
                              try clear hcz13_5
                              try clear hcz22_0
                              try clear hcz22_1
                              try clear hcz22_2
                              try clear hcz22_3
                              try clear hcz22_4
                              try clear hcz22_5
                              try clear hcz27_0
                              try clear hcz27_1
                              try clear hcz27_2
                              try clear hcz27_3
                              try clear hcz27_4
                              try clear hcz27_5
                              try clear hcz28_0
                              try clear hcz28_1
                              try clear hcz28_2
                              try clear hcz28_3
                              try clear hcz28_4
                              try clear hcz28_5
                              try clear hcz32_0
                              try clear hcz32_1
                              try clear hcz32_2
                              try clear hcz32_3
                              try clear hcz32_4
                              try clear hcz32_5
                              try clear hcz37_0
                              try clear hcz37_1
                              try clear hcz37_2
                              try clear hcz37_3
                              try clear hcz37_4
                              try clear hcz37_5
                              try clear hcz38_0
                              try clear hcz38_1
                              try clear hcz38_2
                              try clear hcz38_3
                              try clear hcz38_4
                              try clear hcz38_5
                              try clear hfz11_0
                              try clear hfz11_1
                              try clear hfz11_2
                              try clear hfz11_3
                              try clear hfz11_4
                              try clear hfz11_5
                              try clear hfz13_0
                              try clear hfz13_1
                              try clear hfz13_2
                              try clear hfz13_3
                              try clear hfz13_4
                              try clear hfz13_5
                              try clear hfz22_0
                              try clear hfz22_1
                              try clear hfz22_2
                              try clear hfz22_3
                              try clear hfz22_4
                              try clear hfz22_5
                              try clear hfz27_0
                              try clear hfz27_1
                              try clear hfz27_2
                              try clear hfz27_3
                              try clear hfz27_4
                              try clear hfz27_5
                              try clear hfz28_0
                              try clear hfz28_1
                              try clear hfz28_2
                              try clear hfz28_3
                              try clear hfz28_4
                              try clear hfz28_5
                              try clear hfz32_0
                              try clear hfz32_1
                              try clear hfz32_2
                              try clear hfz32_3
                              try clear hfz32_4
                              try clear hfz32_5
                              try clear hfz37_0
                              try clear hfz37_1
                              try clear hfz37_2
                              try clear hfz37_3
                              try clear hfz37_4
                              try clear hfz37_5
                              try clear hfz38_0
                              try clear hfz38_1
                              try clear hfz38_2
                              try clear hfz38_3
                              try clear hfz38_4
                              try clear hfz38_5
                              try clear hx8_0
                              try clear p2
                              try clear p6
                              try clear p8
                              try clear q8
                              obtain ⟨kq, x62_34, rfl, HA, HJ34, HO_5, HO_6, BK189, HB⟩ := hcut
                              cases kq with
                              | zero => exact absurd HA.out (by simp [aumbrylaw14_LayoutApart.j4])
                              | succ kj34 =>
                                have H := HA.out
                                clear HA
                                simp only [aumbrylaw14_LayoutApart.j4] at H
                                by_cases c39 : x62_34 = true
                                · subst c39
                                  have H1 : ((layout_Stripe.f kj34 a0_0 a0_1 a0_2 a0_3 a0_4 a0_5 x9_4).bind fun t206 => (if x6_4.length < 17592186044416 then (aumbrylaw14_LayoutApart.l2 kj34 t190 t193 y197 (x6_4 ++ [t206]) (wrap64 (x9_4 + 1)) a0_0 a0_1 a0_2 a0_3 a0_4 a0_5) else (none))) = some r := by rw [if_pos rfl] at H; exact H
                                  clear H
                                  have H := H1
                                  clear H1
                                  replace H := Option.bind_eq_some_iff.mp H
                                  obtain ⟨t206, A400, H⟩ := H
                                  replace H : (if x6_4.length < 17592186044416 then (aumbrylaw14_LayoutApart.l2 kj34 t190 t193 y197 (x6_4 ++ [t206]) (wrap64 (x9_4 + 1)) a0_0 a0_1 a0_2 a0_3 a0_4 a0_5) else (none)) = some r := H
                                  have A40 := Aside0.mk A400
                                  clear A400
                                  by_cases c41 : x6_4.length < 17592186044416
                                  · rw [if_pos c41] at H
                                    have LMc41 := Aside0.mk c41
                                    clear c41
                                    obtain ⟨y207, hy207⟩ : ∃ y_ : List Int, y_ = (x6_4 ++ [t206]) := ⟨_, rfl⟩
                                    replace H : (aumbrylaw14_LayoutApart.l2 kj34 t190 t193 y197 y207 (wrap64 (x9_4 + 1)) a0_0 a0_1 a0_2 a0_3 a0_4 a0_5) = some r := by first | (rw [hy207]; with_reducible exact H) | (have H2_ := (Option.bind_some _ _).symm.trans H; rw [hy207]; with_reducible exact H2_) | (have H2_ := (Option.bind_some _ _).symm.trans H; with_reducible exact H2_) | with_reducible exact H | (rw [hy207]; exact H) | exact H
                                    have Ny207 := Aside0.mk hy207
                                    clear hy207
                                    have H' := Aside0.mk H
                                    clear H
                                    have hcz42_0 : wc.cell? ⟨gb189, 0, none⟩ = some (.int .i64 a0_0) := (blk_cell BK189.out 0).trans rfl
                                    have hcz42_1 : wc.cell? ⟨gb189, 1, none⟩ = some (.int .i64 a0_1) := (blk_cell BK189.out 1).trans rfl
                                    have hcz42_2 : wc.cell? ⟨gb189, 2, none⟩ = some (.int .i64 a0_2) := (blk_cell BK189.out 2).trans rfl
                                    have hcz42_3 : wc.cell? ⟨gb189, 3, none⟩ = some (.int .i64 a0_3) := (blk_cell BK189.out 3).trans rfl
                                    have hcz42_4 : wc.cell? ⟨gb189, 4, none⟩ = some (.int .i64 a0_4) := (blk_cell BK189.out 4).trans rfl
                                    have hcz42_5 : wc.cell? ⟨gb189, 5, none⟩ = some (.int .i64 a0_5) := (blk_cell BK189.out 5).trans rfl
                                    have hfz42_0 := blk_frozen BK189.out 0
                                    have hfz42_1 := blk_frozen BK189.out 1
                                    have hfz42_2 := blk_frozen BK189.out 2
                                    have hfz42_3 := blk_frozen BK189.out 3
                                    have hfz42_4 := blk_frozen BK189.out 4
                                    have hfz42_5 := blk_frozen BK189.out 5
                                    go_wp2_with (first | ((with_reducible refine gate_callee (f := 18) rfl ?_); refine goesL_ (some 68) rfl rfl Try.func18 (by kernel_rfl) rfl #[.agg #[.int .i64 a0_0, .int .i64 a0_1, .int .i64 a0_2, .int .i64 a0_3, .int .i64 a0_4, .int .i64 a0_5], .int .i64 x9_4] rfl (by (try simp only [List.map_toArray, List.map_cons, List.map_nil]); first | done | rfl | (simp only [List.length_drop, List.length_take]; rfl)) ?_; (with_reducible refine (layout_Stripe.calls kj34 a0_0 a0_1 a0_2 a0_3 a0_4 a0_5 x9_4 t206 _ A40.out).mono ?_); rintro e w43 ⟨rfl, hb⟩; refine ⟨_, rfl, ?_⟩; have n0_ := Aside0.mk (Kd.R_below (by (with_reducible repeat (first | apply Kd.R_alloc | apply Kd.R_drewN | apply Kd.R_drew)); exact HO_5.out) hb); have n1_ := Aside0.mk (Kd.R_below (by (with_reducible repeat (first | apply Kd.R_alloc | apply Kd.R_drewN | apply Kd.R_drew)); exact HO_6.out) hb); have n2_ := Aside0.mk (blk_below (g := gb189) (o := .cells #[.int .i64 a0_0, .int .i64 a0_1, .int .i64 a0_2, .int .i64 a0_3, .int .i64 a0_4, .int .i64 a0_5] 24 (0, 0)) (by (with_reducible repeat (first | refine blk_drewN ?_ _ | refine blk_drew ?_ | refine blk_alloc ?_ _)); exact BK189.out) hb); have n3_ := Aside0.mk (below_step (by repeat (first | (with_reducible first | exact HB.out | apply below_alloc | apply pw_below_drewN | apply below_drew1 | refine below_set ?_ GE189.out) | exact HB.out)) hb); clear HO_5; clear HO_6; clear BK189; clear HB; have HO_5 := n0_; have HO_6 := n1_; have BK189 := n2_; have HB := n3_; clear n0_ n1_ n2_ n3_; (try clear hb); (try clear hb2); (try clear hk); (try clear hi)) | ((with_reducible refine gate_builtin (b := .append) (xs := #[.tmp 65, .tmp 69]) rfl ?_); (try (refine gate_guard (by rfl) ?_; dsimp only)); at_builtin; refine Kd.R_append (Kd.int .i64) (w0 := w) w.heap.size rfl (.tmp 65) (.tmp 69) 32 3 (.int .i64 0) 8 rfl Try.underlying32 info3 rfl (by decide) (by omega) u6 x6_4 t206 [.int .i64 t206] (fun _ => True) (fun _ => False) rfl rfl ?aP (fun _ hk => hk.elim) ?aF ?aO ?aB ?aS ?aL ?_; (case aP => exact rfl); (case aB => exact (by repeat (first | (with_reducible first | exact HB.out | apply below_alloc | apply pw_below_drewN | apply below_drew1 | refine below_set ?_ GE189.out) | exact HB.out))); (case aF => exact (fun _ _ => trivial)); (case aO => exact (by (with_reducible repeat (first | apply Kd.R_alloc | apply Kd.R_drewN | apply Kd.R_drew)); exact HO_6.out)); (case aS => exact (below_size (by repeat (first | (with_reducible first | exact HB.out | apply below_alloc | apply pw_below_drewN | apply below_drew1 | refine below_set ?_ GE189.out) | exact HB.out)))); (case aL => have := LMc41.out; omega); intro v208 w44 ho hb hg hat; rw [← Ny207.out] at ho; have n0_ := Aside0.mk (Kd.R_over' (by (with_reducible repeat (first | apply Kd.R_alloc | apply Kd.R_drewN | apply Kd.R_drew)); exact HO_5.out) (Kd.R_typed (by (with_reducible repeat (first | apply Kd.R_alloc | apply Kd.R_drewN | apply Kd.R_drew)); exact HO_6.out)) (by decide) hg); have n1_ := Aside0.mk (blk_grown (g := gb189) (o := .cells #[.int .i64 a0_0, .int .i64 a0_1, .int .i64 a0_2, .int .i64 a0_3, .int .i64 a0_4, .int .i64 a0_5] 24 (0, 0)) (by (with_reducible repeat (first | refine blk_drewN ?_ _ | refine blk_drew ?_ | refine blk_alloc ?_ _)); exact BK189.out) hg (Kd.R_ne HO_6.out BK189.out (by decide))); have n2_ := Aside0.mk (hb); have n3_ := Aside0.mk (ho); clear HO_5; clear BK189; clear HB; clear HO_6; have HO_5 := n0_; have BK189 := n1_; have HB := n2_; have HO209 := n3_; clear n0_ n1_ n2_ n3_; clear ho hb hg hat))
                                    go_roundg kj34
                                    case measure => have := HK1.out; have := HK2.out; have := HJ24.out; have := HK4.out; have := HJ34.out; omega
                                    case rel => exact ⟨(y207), (wrap64 (x9_4 + 1)), (by first | rfl | (simp; done) | (simp [*]; done)), H', ⟨by have := HK1.out; have := HK2.out; have := HJ24.out; have := HK4.out; have := HJ34.out; omega⟩, ⟨by (try simp only [hl5_1]); (with_reducible repeat (first | apply Kd.R_alloc | apply Kd.R_drewN | apply Kd.R_drew)); exact HO_5.out⟩, ⟨by (try simp only [hl5_1]); (with_reducible repeat (first | apply Kd.R_alloc | apply Kd.R_drewN | apply Kd.R_drew)); exact HO209.out⟩, ⟨by (try simp only [hl5_1]); (with_reducible repeat (first | refine blk_drewN ?_ _ | refine blk_drew ?_ | refine blk_alloc ?_ _)); exact BK189.out⟩, ⟨by repeat (first | (with_reducible first | exact HB.out | apply below_alloc | apply pw_below_drewN | apply below_drew1 | refine below_set ?_ GE189.out) | exact HB.out)⟩⟩
                                  · rw [if_neg c41] at H
                                    exact absurd H (by simp)
                                · replace c39 := Bool.eq_false_iff.mpr c39
                                  subst c39
                                  have H1 : (aumbrylaw14_LayoutApart.l3 kj34 t190 t193 y197 x6_4 0) = some r := by rw [if_neg (show ¬ (false = true) by decide)] at H; exact H
                                  clear H
                                  have H := H1
                                  clear H1
                                  have H' := Aside0.mk H
                                  clear H
                                  go_wp2
                                  go_loopg [10] kj34 (fun kq v10 w' => ∃ (x5_6 : List Bool) (x10_6 : Int), v10 = .int .i64 x10_6 ∧ Aside0 (aumbrylaw14_LayoutApart.l3 kq t190 t193 x5_6 x6_4 x10_6 = some r) ∧ Aside0 (kq ≤ kj34) ∧ Aside0 (Kd.R Kd.bool 4 w' w.heap.size (fun _ => True) (.slice (some ⟨go8, 0, none⟩) y197.length co8) x5_6) ∧ Aside0 (Kd.R (Kd.int .i64) 3 w' w.heap.size (fun _ => True) u6 x6_4) ∧ Aside0 (w'.heap[gb189]? = some (.cells #[.int .i64 a0_0, .int .i64 a0_1, .int .i64 a0_2, .int .i64 a0_3, .int .i64 a0_4, .int .i64 a0_5] 24 (0, 0))) ∧ Aside0 (Below w.heap.size w w'))
                                  case atStart => exact ⟨(y197), (0), (by first | rfl | (simp; done) | (simp [*]; done)), H', ⟨Nat.le_refl _⟩, ⟨by (try simp only [hl5_1]); (with_reducible repeat (first | apply Kd.R_alloc | apply Kd.R_drewN | apply Kd.R_drew)); exact HO_5.out⟩, ⟨by (try simp only [hl5_1]); (with_reducible repeat (first | apply Kd.R_alloc | apply Kd.R_drewN | apply Kd.R_drew)); exact HO_6.out⟩, ⟨by (try simp only [hl5_1]); (with_reducible repeat (first | refine blk_drewN ?_ _ | refine blk_drew ?_ | refine blk_alloc ?_ _)); exact BK189.out⟩, ⟨by repeat (first | (with_reducible first | exact HB.out | apply below_alloc | apply pw_below_drewN | apply below_drew1 | refine below_set ?_ GE189.out) | exact HB.out)⟩⟩
                                  case round =>
                                    clear H'
                                    try clear c1
                                    try clear c2
                                    try clear p2
                                    try clear c3
                                    try clear c4
                                    try clear c4b0
                                    try clear c4b1
                                    try clear c5
                                    try clear c6
                                    try clear c6b0
                                    try clear c6b1
                                    try clear p6
                                    try clear c7
                                    try clear c7b0
                                    try clear c7b1
                                    try clear p8
                                    try clear q8
                                    try clear hx8
                                    try clear qi8
                                    try clear hf8
                                    try clear c9
                                    try clear c10
                                    try clear c12
                                    try clear c14
                                    try clear c16
                                    try clear c18
                                    try clear c19
                                    try clear c19b0
                                    try clear c21
                                    try clear c26
                                    try clear c26b0
                                    try clear c29
                                    try clear c31
                                    try clear c36
                                    try clear c36b0
                                    try clear c39
                                    try clear c41
                                    try clear hcz11_0
                                    try clear hcz11_1
                                    try clear hcz11_2
                                    try clear hcz11_3
                                    try clear hcz11_4
                                    try clear hcz11_5
                                    try clear hcz13_0
                                    try clear hcz13_1
                                    try clear hcz13_2
                                    try clear hcz13_3
                                    try clear hcz13_4
                                    try clear hcz13_5
                                    try clear hcz22_0
                                    try clear hcz22_1
                                    try clear hcz22_2
                                    try clear hcz22_3
                                    try clear hcz22_4
                                    try clear hcz22_5
                                    try clear hcz27_0
                                    try clear hcz27_1
                                    try clear hcz27_2
                                    try clear hcz27_3
                                    try clear hcz27_4
                                    try clear hcz27_5
                                    try clear hcz28_0
                                    try clear hcz28_1
                                    try clear hcz28_2
                                    try clear hcz28_3
                                    try clear hcz28_4
                                    try clear hcz28_5
                                    try clear hcz32_0
                                    try clear hcz32_1
                                    try clear hcz32_2
                                    try clear hcz32_3
                                    try clear hcz32_4
                                    try clear hcz32_5
                                    try clear hcz37_0
                                    try clear hcz37_1
                                    try clear hcz37_2
                                    try clear hcz37_3
                                    try clear hcz37_4
                                    try clear hcz37_5
                                    try clear hcz38_0
                                    try clear hcz38_1
                                    try clear hcz38_2
                                    try clear hcz38_3
                                    try clear hcz38_4
                                    try clear hcz38_5
                                    try clear hcz42_0
                                    try clear hcz42_1
                                    try clear hcz42_2
                                    try clear hcz42_3
                                    try clear hcz42_4
                                    try clear hcz42_5
                                    try clear hfz11_0
                                    try clear hfz11_1
                                    try clear hfz11_2
                                    try clear hfz11_3
                                    try clear hfz11_4
                                    try clear hfz11_5
                                    try clear hfz13_0
                                    try clear hfz13_1
                                    try clear hfz13_2
                                    try clear hfz13_3
                                    try clear hfz13_4
                                    try clear hfz13_5
                                    try clear hfz22_0
                                    try clear hfz22_1
                                    try clear hfz22_2
                                    try clear hfz22_3
                                    try clear hfz22_4
                                    try clear hfz22_5
                                    try clear hfz27_0
                                    try clear hfz27_1
                                    try clear hfz27_2
                                    try clear hfz27_3
                                    try clear hfz27_4
                                    try clear hfz27_5
                                    try clear hfz28_0
                                    try clear hfz28_1
                                    try clear hfz28_2
                                    try clear hfz28_3
                                    try clear hfz28_4
                                    try clear hfz28_5
                                    try clear hfz32_0
                                    try clear hfz32_1
                                    try clear hfz32_2
                                    try clear hfz32_3
                                    try clear hfz32_4
                                    try clear hfz32_5
                                    try clear hfz37_0
                                    try clear hfz37_1
                                    try clear hfz37_2
                                    try clear hfz37_3
                                    try clear hfz37_4
                                    try clear hfz37_5
                                    try clear hfz38_0
                                    try clear hfz38_1
                                    try clear hfz38_2
                                    try clear hfz38_3
                                    try clear hfz38_4
                                    try clear hfz38_5
                                    try clear hfz42_0
                                    try clear hfz42_1
                                    try clear hfz42_2
                                    try clear hfz42_3
                                    try clear hfz42_4
                                    try clear hfz42_5
                                    try clear hx8_0
                                    try clear p2
                                    try clear p6
                                    try clear p8
                                    try clear q8
                                    obtain ⟨x5_6, x10_6, rfl, HA, HK6, HO_5, HO_6, BK189, HB⟩ := hrel
                                    have hl5_6 := (Kd.R_reads' HO_5.out).1
                                    rw [hl5_6] at HO_5
                                    (try simp only [hl5_6])
                                    (try simp only [hl5_6] at BK189)
                                    (try simp only [hl5_6] at HO_6)
                                    cases gk with
                                    | zero => exact absurd HA.out (by simp [aumbrylaw14_LayoutApart.l3])
                                    | succ k6 =>
                                      have H := HA.out
                                      clear HA
                                      simp only [aumbrylaw14_LayoutApart.l3] at H
                                      by_cases c45 : x10_6 < (x6_4.length : Int)
                                      · rw [if_pos c45] at H
                                        have c45b0 : decide (x10_6 < (x6_4.length : Int)) = true := decide_eq_true c45
                                        clear c45
                                        have HC46 := Aside0.mk H
                                        clear H
                                        obtain ⟨Ao47, co47, eo47⟩ := Kd.R_slice HO_6.out
                                        subst eo47
                                        go_upto_region 23 with (fail)
                                        go_cut [102] (fun v102 wc => ∃ (kq : Nat) (x102_45 : Bool), v102 = .bool x102_45 ∧ Aside0 (aumbrylaw14_LayoutApart.j6 kq t190 t193 x5_6 x6_4 x10_6 x102_45 = some r) ∧ Aside0 (kq ≤ k6) ∧ Aside0 (Kd.R Kd.bool 4 wc w.heap.size (fun _ => True) (.slice (some ⟨go8, 0, none⟩) x5_6.length co8) x5_6) ∧ Aside0 (Kd.R (Kd.int .i64) 3 wc w.heap.size (fun _ => True) (.slice Ao47 x6_4.length co47) x6_4) ∧ Aside0 (wc.heap[gb189]? = some (.cells #[.int .i64 a0_0, .int .i64 a0_1, .int .i64 a0_2, .int .i64 a0_3, .int .i64 a0_4, .int .i64 a0_5] 24 (0, 0))) ∧ Aside0 (Below w.heap.size w wc))
                                        case first =>
                                          have H := HC46.out
                                          clear HC46
                                          by_cases c48 : 0 ≤ x10_6
                                          · rw [if_pos c48] at H
                                            have c48b0 : decide (0 ≤ x10_6) = true := decide_eq_true c48
                                            clear c48
                                            (first | rw [c48b0] | (simp only [i64_w, i32_w]; rw [c48b0]) | skip)
                                            by_cases c49 : (rd x6_4 x10_6) < 1
                                            · rw [if_pos c49] at H
                                              have c49b0 : decide ((rd x6_4 x10_6) < 1) = true := decide_eq_true c49
                                              clear c49
                                              have H' := Aside0.mk H
                                              clear H
                                              have p210 : 0 ≤ (x10_6 : Int) := of_decide_eq_true (by first | (with_reducible assumption) | assumption)
                                              have q210 : x10_6 < (x6_4.length : Int) := of_decide_eq_true (by first | (with_reducible assumption) | assumption)
                                              obtain ⟨ad210, e210, hx210_0⟩ := Kd.at_int (Kd.R_reads' HO_6.out).2.2 x10_6 p210 q210
                                              cases e210
                                              replace p210 := eq_true p210
                                              replace q210 := eq_true q210
                                              go_wp2
                                              go_meet
                                              case rel => exact ⟨_, (true), (by first | rfl | (simp; done) | (simp [*]; done)), H', ⟨by have := HK1.out; have := HK2.out; have := HJ24.out; have := HK4.out; have := HJ34.out; have := HK6.out; first | omega | exact Nat.le_refl _⟩, ⟨by (try simp only [hl5_1]); (try simp only [hl5_6]); (with_reducible repeat (first | apply Kd.R_alloc | apply Kd.R_drewN | apply Kd.R_drew)); exact HO_5.out⟩, ⟨by (try simp only [hl5_1]); (try simp only [hl5_6]); (with_reducible repeat (first | apply Kd.R_alloc | apply Kd.R_drewN | apply Kd.R_drew)); exact HO_6.out⟩, ⟨by (try simp only [hl5_1]); (try simp only [hl5_6]); (with_reducible repeat (first | refine blk_drewN ?_ _ | refine blk_drew ?_ | refine blk_alloc ?_ _)); exact BK189.out⟩, ⟨by repeat (first | (with_reducible first | exact HB.out | apply below_alloc | apply pw_below_drewN | apply below_drew1 | refine below_set ?_ GE189.out) | exact HB.out)⟩⟩
                                            · rw [if_neg c49] at H
                                              have c49b0 : decide ((rd x6_4 x10_6) < 1) = false := decide_eq_false c49
                                              clear c49
                                              by_cases c50 : (rd x6_4 x10_6) ≥ t193
                                              · rw [if_pos c50] at H
                                                have c50b0 : decide (t193 ≤ (rd x6_4 x10_6)) = true := decide_eq_true c50
                                                clear c50
                                                have H' := Aside0.mk H
                                                clear H
                                                have p210 : 0 ≤ (x10_6 : Int) := of_decide_eq_true (by first | (with_reducible assumption) | assumption)
                                                have q210 : x10_6 < (x6_4.length : Int) := of_decide_eq_true (by first | (with_reducible assumption) | assumption)
                                                obtain ⟨ad210, e210, hx210_0⟩ := Kd.at_int (Kd.R_reads' HO_6.out).2.2 x10_6 p210 q210
                                                cases e210
                                                replace p210 := eq_true p210
                                                replace q210 := eq_true q210
                                                have p211 : 0 ≤ (x10_6 : Int) := of_decide_eq_true (by first | (with_reducible assumption) | assumption)
                                                have q211 : x10_6 < (x6_4.length : Int) := of_decide_eq_true (by first | (with_reducible assumption) | assumption)
                                                obtain ⟨ad211, e211, hx211_0⟩ := Kd.at_int (Kd.R_reads' HO_6.out).2.2 x10_6 p211 q211
                                                obtain rfl : ad210 = ad211 := (by injection e211)
                                                replace p211 := eq_true p211
                                                replace q211 := eq_true q211
                                                go_wp2
                                                go_meet
                                                case rel => exact ⟨_, (true), (by first | rfl | (simp; done) | (simp [*]; done)), H', ⟨by have := HK1.out; have := HK2.out; have := HJ24.out; have := HK4.out; have := HJ34.out; have := HK6.out; first | omega | exact Nat.le_refl _⟩, ⟨by (try simp only [hl5_1]); (try simp only [hl5_6]); (with_reducible repeat (first | apply Kd.R_alloc | apply Kd.R_drewN | apply Kd.R_drew)); exact HO_5.out⟩, ⟨by (try simp only [hl5_1]); (try simp only [hl5_6]); (with_reducible repeat (first | apply Kd.R_alloc | apply Kd.R_drewN | apply Kd.R_drew)); exact HO_6.out⟩, ⟨by (try simp only [hl5_1]); (try simp only [hl5_6]); (with_reducible repeat (first | refine blk_drewN ?_ _ | refine blk_drew ?_ | refine blk_alloc ?_ _)); exact BK189.out⟩, ⟨by repeat (first | (with_reducible first | exact HB.out | apply below_alloc | apply pw_below_drewN | apply below_drew1 | refine below_set ?_ GE189.out) | exact HB.out)⟩⟩
                                              · rw [if_neg c50] at H
                                                have c50b0 : decide (t193 ≤ (rd x6_4 x10_6)) = false := decide_eq_false c50
                                                clear c50
                                                by_cases c51 : t193 > 1000
                                                · rw [if_pos c51] at H
                                                  have c51b0 : decide (1000 < t193) = true := decide_eq_true c51
                                                  clear c51
                                                  have H' := Aside0.mk H
                                                  clear H
                                                  have p210 : 0 ≤ (x10_6 : Int) := of_decide_eq_true (by first | (with_reducible assumption) | assumption)
                                                  have q210 : x10_6 < (x6_4.length : Int) := of_decide_eq_true (by first | (with_reducible assumption) | assumption)
                                                  obtain ⟨ad210, e210, hx210_0⟩ := Kd.at_int (Kd.R_reads' HO_6.out).2.2 x10_6 p210 q210
                                                  cases e210
                                                  replace p210 := eq_true p210
                                                  replace q210 := eq_true q210
                                                  have p211 : 0 ≤ (x10_6 : Int) := of_decide_eq_true (by first | (with_reducible assumption) | assumption)
                                                  have q211 : x10_6 < (x6_4.length : Int) := of_decide_eq_true (by first | (with_reducible assumption) | assumption)
                                                  obtain ⟨ad211, e211, hx211_0⟩ := Kd.at_int (Kd.R_reads' HO_6.out).2.2 x10_6 p211 q211
                                                  obtain rfl : ad210 = ad211 := (by injection e211)
                                                  replace p211 := eq_true p211
                                                  replace q211 := eq_true q211
                                                  go_wp2
                                                  go_meet
                                                  case rel => exact ⟨_, (true), (by first | rfl | (simp; done) | (simp [*]; done)), H', ⟨by have := HK1.out; have := HK2.out; have := HJ24.out; have := HK4.out; have := HJ34.out; have := HK6.out; first | omega | exact Nat.le_refl _⟩, ⟨by (try simp only [hl5_1]); (try simp only [hl5_6]); (with_reducible repeat (first | apply Kd.R_alloc | apply Kd.R_drewN | apply Kd.R_drew)); exact HO_5.out⟩, ⟨by (try simp only [hl5_1]); (try simp only [hl5_6]); (with_reducible repeat (first | apply Kd.R_alloc | apply Kd.R_drewN | apply Kd.R_drew)); exact HO_6.out⟩, ⟨by (try simp only [hl5_1]); (try simp only [hl5_6]); (with_reducible repeat (first | refine blk_drewN ?_ _ | refine blk_drew ?_ | refine blk_alloc ?_ _)); exact BK189.out⟩, ⟨by repeat (first | (with_reducible first | exact HB.out | apply below_alloc | apply pw_below_drewN | apply below_drew1 | refine below_set ?_ GE189.out) | exact HB.out)⟩⟩
                                                · rw [if_neg c51] at H
                                                  have c51b0 : decide (1000 < t193) = false := decide_eq_false c51
                                                  clear c51
                                                  by_cases c52 : 0 ≤ (rd x6_4 x10_6)
                                                  · rw [if_pos c52] at H
                                                    have c52b0 : decide (0 ≤ (rd x6_4 x10_6)) = true := decide_eq_true c52
                                                    clear c52
                                                    by_cases c53 : (rd x6_4 x10_6) < (x5_6.length : Int)
                                                    · rw [if_pos c53] at H
                                                      have c53b0 : decide ((rd x6_4 x10_6) < (x5_6.length : Int)) = true := decide_eq_true c53
                                                      clear c53
                                                      have H' := Aside0.mk H
                                                      clear H
                                                      have p210 : 0 ≤ (x10_6 : Int) := of_decide_eq_true (by first | (with_reducible assumption) | assumption)
                                                      have q210 : x10_6 < (x6_4.length : Int) := of_decide_eq_true (by first | (with_reducible assumption) | assumption)
                                                      obtain ⟨ad210, e210, hx210_0⟩ := Kd.at_int (Kd.R_reads' HO_6.out).2.2 x10_6 p210 q210
                                                      cases e210
                                                      replace p210 := eq_true p210
                                                      replace q210 := eq_true q210
                                                      have p211 : 0 ≤ (x10_6 : Int) := of_decide_eq_true (by first | (with_reducible assumption) | assumption)
                                                      have q211 : x10_6 < (x6_4.length : Int) := of_decide_eq_true (by first | (with_reducible assumption) | assumption)
                                                      obtain ⟨ad211, e211, hx211_0⟩ := Kd.at_int (Kd.R_reads' HO_6.out).2.2 x10_6 p211 q211
                                                      obtain rfl : ad210 = ad211 := (by injection e211)
                                                      replace p211 := eq_true p211
                                                      replace q211 := eq_true q211
                                                      have p212 : 0 ≤ (x10_6 : Int) := of_decide_eq_true (by first | (with_reducible assumption) | assumption)
                                                      have q212 : x10_6 < (x6_4.length : Int) := of_decide_eq_true (by first | (with_reducible assumption) | assumption)
                                                      obtain ⟨ad212, e212, hx212_0⟩ := Kd.at_int (Kd.R_reads' HO_6.out).2.2 x10_6 p212 q212
                                                      obtain rfl : ad210 = ad212 := (by injection e212)
                                                      replace p212 := eq_true p212
                                                      replace q212 := eq_true q212
                                                      have p213 : 0 ≤ ((rd x6_4 x10_6) : Int) := of_decide_eq_true (by first | (with_reducible assumption) | assumption)
                                                      have q213 : (rd x6_4 x10_6) < (x5_6.length : Int) := of_decide_eq_true (by first | (with_reducible assumption) | assumption)
                                                      obtain ⟨ad213, e213, hx213_0⟩ := Kd.at_bool (Kd.R_reads' HO_5.out).2.2 (rd x6_4 x10_6) p213 q213
                                                      obtain rfl : (⟨go8, 0, none⟩ : Addr) = ad213 := (by injection e213)
                                                      (first | simp only [add_plain] at hx213_0 | simp only [add_at] at hx213_0 | simp only [Addr.add, Nat.zero_add] at hx213_0 | skip)
                                                      replace p213 := eq_true p213
                                                      replace q213 := eq_true q213
                                                      go_wp2
                                                      go_meet
                                                      case rel => exact ⟨_, (rdOf false x5_6 (rd x6_4 x10_6)), (by first | rfl | (simp; done) | (simp [*]; done)), H', ⟨by have := HK1.out; have := HK2.out; have := HJ24.out; have := HK4.out; have := HJ34.out; have := HK6.out; first | omega | exact Nat.le_refl _⟩, ⟨by (try simp only [hl5_1]); (try simp only [hl5_6]); (with_reducible repeat (first | apply Kd.R_alloc | apply Kd.R_drewN | apply Kd.R_drew)); exact HO_5.out⟩, ⟨by (try simp only [hl5_1]); (try simp only [hl5_6]); (with_reducible repeat (first | apply Kd.R_alloc | apply Kd.R_drewN | apply Kd.R_drew)); exact HO_6.out⟩, ⟨by (try simp only [hl5_1]); (try simp only [hl5_6]); (with_reducible repeat (first | refine blk_drewN ?_ _ | refine blk_drew ?_ | refine blk_alloc ?_ _)); exact BK189.out⟩, ⟨by repeat (first | (with_reducible first | exact HB.out | apply below_alloc | apply pw_below_drewN | apply below_drew1 | refine below_set ?_ GE189.out) | exact HB.out)⟩⟩
                                                    · rw [if_neg c53] at H
                                                      exact absurd H (by simp)
                                                  · rw [if_neg c52] at H
                                                    exact absurd H (by simp)
                                          · rw [if_neg c48] at H
                                            exact absurd H (by simp)
                                        case rest =>
                                          clear HC46
                                          try clear c1
                                          try clear c2
                                          try clear p2
                                          try clear q2
                                          try clear hx2
                                          try clear c3
                                          try clear c4
                                          try clear c4b0
                                          try clear c4b1
                                          try clear c5
                                          try clear c6
                                          try clear c6b0
                                          try clear c6b1
                                          try clear p6
                                          try clear c7
                                          try clear c7b0
                                          try clear c7b1
                                          try clear p8
                                          try clear q8
                                          try clear hx8
                                          try clear qi8
                                          try clear hf8
                                          try clear c9
                                          try clear c10
                                          try clear c12
                                          try clear c14
                                          try clear c16
                                          try clear c18
                                          try clear c19
                                          try clear c19b0
                                          try clear c21
                                          try clear p21
                                          try clear q21
                                          try clear hx21
                                          try clear c26
                                          try clear c26b0
                                          try clear c29
                                          try clear c31
                                          try clear c36
                                          try clear c36b0
                                          try clear c39
                                          try clear c41
                                          try clear c45
                                          try clear c45b0
                                          try clear c48
                                          try clear c48b0
                                          try clear c49
                                          try clear c49b0
                                          try clear c50
                                          try clear c50b0
                                          try clear c51
                                          try clear c51b0
                                          try clear c52
                                          try clear c52b0
                                          try clear c53
                                          try clear c53b0
                                          try clear hcz11_0
                                          try clear hcz11_1
                                          try clear hcz11_2
                                          try clear hcz11_3
                                          try clear hcz11_4
                                          try clear hcz11_5
                                          try clear hcz13_0
                                          try clear hcz13_1
                                          try clear hcz13_2
                                          try clear hcz13_3
                                          try clear hcz13_4
                                          try clear hcz13_5
                                          try clear hcz22_0
                                          try clear hcz22_1
                                          try clear hcz22_2
                                          try clear hcz22_3
                                          try clear hcz22_4
                                          try clear hcz22_5
                                          try clear hcz27_0
                                          try clear hcz27_1
                                          try clear hcz27_2
                                          try clear hcz27_3
                                          try clear hcz27_4
                                          try clear hcz27_5
                                          try clear hcz28_0
                                          try clear hcz28_1
                                          try clear hcz28_2
                                          try clear hcz28_3
                                          try clear hcz28_4
                                          try clear hcz28_5
                                          try clear hcz32_0
                                          try clear hcz32_1
                                          try clear hcz32_2
                                          try clear hcz32_3
                                          try clear hcz32_4
                                          try clear hcz32_5
                                          try clear hcz37_0
                                          try clear hcz37_1
                                          try clear hcz37_2
                                          try clear hcz37_3
                                          try clear hcz37_4
                                          try clear hcz37_5
                                          try clear hcz38_0
                                          try clear hcz38_1
                                          try clear hcz38_2
                                          try clear hcz38_3
                                          try clear hcz38_4
                                          try clear hcz38_5
                                          try clear hcz42_0
                                          try clear hcz42_1
                                          try clear hcz42_2
                                          try clear hcz42_3
                                          try clear hcz42_4
                                          try clear hcz42_5
                                          try clear hfz11_0
                                          try clear hfz11_1
                                          try clear hfz11_2
                                          try clear hfz11_3
                                          try clear hfz11_4
                                          try clear hfz11_5
                                          try clear hfz13_0
                                          try clear hfz13_1
                                          try clear hfz13_2
                                          try clear hfz13_3
                                          try clear hfz13_4
                                          try clear hfz13_5
                                          try clear hfz22_0
                                          try clear hfz22_1
                                          try clear hfz22_2
                                          try clear hfz22_3
                                          try clear hfz22_4
                                          try clear hfz22_5
                                          try clear hfz27_0
                                          try clear hfz27_1
                                          try clear hfz27_2
                                          try clear hfz27_3
                                          try clear hfz27_4
                                          try clear hfz27_5
                                          try clear hfz28_0
                                          try clear hfz28_1
                                          try clear hfz28_2
                                          try clear hfz28_3
                                          try clear hfz28_4
                                          try clear hfz28_5
                                          try clear hfz32_0
                                          try clear hfz32_1
                                          try clear hfz32_2
                                          try clear hfz32_3
                                          try clear hfz32_4
                                          try clear hfz32_5
                                          try clear hfz37_0
                                          try clear hfz37_1
                                          try clear hfz37_2
                                          try clear hfz37_3
                                          try clear hfz37_4
                                          try clear hfz37_5
                                          try clear hfz38_0
                                          try clear hfz38_1
                                          try clear hfz38_2
                                          try clear hfz38_3
                                          try clear hfz38_4
                                          try clear hfz38_5
                                          try clear hfz42_0
                                          try clear hfz42_1
                                          try clear hfz42_2
                                          try clear hfz42_3
                                          try clear hfz42_4
                                          try clear hfz42_5
                                          try clear hx210_0
                                          try clear hx211_0
                                          try clear hx212_0
                                          try clear hx213_0
                                          try clear hx8_0
                                          try clear p2
                                          try clear p210
                                          try clear p211
                                          try clear p212
                                          try clear p213
                                          try clear p6
                                          try clear p8
                                          try clear q210
                                          try clear q211
                                          try clear q212
                                          try clear q213
                                          try clear q8
                                          obtain ⟨kq, x102_45, rfl, HA, HJ45, HO_5, HO_6, BK189, HB⟩ := hcut
                                          cases kq with
                                          | zero => exact absurd HA.out (by simp [aumbrylaw14_LayoutApart.j6])
                                          | succ kj45 =>
                                            have H := HA.out
                                            clear HA
                                            simp only [aumbrylaw14_LayoutApart.j6] at H
                                            by_cases c54 : x102_45 = true
                                            · subst c54
                                              have H1 : (some false) = some r := by rw [if_pos rfl] at H; exact H
                                              clear H
                                              have H := H1
                                              clear H1
                                              obtain rfl := Option.some.inj H
                                              go_wp2
                                              go_ret
                                              exact ⟨by first | rfl | (simp [errW_none, errW_some] <;> rfl) | (simp [*, errW_none, errW_some] <;> rfl), by repeat (first | (with_reducible first | exact HB.out | apply below_alloc | apply pw_below_drewN | apply below_drew1 | refine below_set ?_ GE189.out) | exact HB.out)⟩
                                            · replace c54 := Bool.eq_false_iff.mpr c54
                                              subst c54
                                              have H1 : (if 0 ≤ x10_6 then (if x10_6 < (x6_4.length : Int) then (if 0 ≤ (rd x6_4 x10_6) then (if (rd x6_4 x10_6) < (x5_6.length : Int) then (aumbrylaw14_LayoutApart.l3 kj45 t190 t193 (x5_6.set ((rd x6_4 x10_6) : Int).toNat true) x6_4 (wrap64 (x10_6 + 1))) else (none)) else (none)) else (none)) else (none)) = some r := by rw [if_neg (show ¬ (false = true) by decide)] at H; exact H
                                              clear H
                                              have H := H1
                                              clear H1
                                              by_cases c55 : 0 ≤ x10_6
                                              · rw [if_pos c55] at H
                                                have c55b0 : decide (0 ≤ x10_6) = true := decide_eq_true c55
                                                clear c55
                                                by_cases c56 : x10_6 < (x6_4.length : Int)
                                                · rw [if_pos c56] at H
                                                  have c56b0 : decide (x10_6 < (x6_4.length : Int)) = true := decide_eq_true c56
                                                  clear c56
                                                  by_cases c57 : 0 ≤ (rd x6_4 x10_6)
                                                  · rw [if_pos c57] at H
                                                    have c57b0 : decide (0 ≤ (rd x6_4 x10_6)) = true := decide_eq_true c57
                                                    clear c57
                                                    by_cases c58 : (rd x6_4 x10_6) < (x5_6.length : Int)
                                                    · rw [if_pos c58] at H
                                                      have c58b0 : decide ((rd x6_4 x10_6) < (x5_6.length : Int)) = true := decide_eq_true c58
                                                      clear c58
                                                      obtain ⟨y215, hy215⟩ : ∃ y_ : List Bool, y_ = (x5_6.set ((rd x6_4 x10_6) : Int).toNat true) := ⟨_, rfl⟩
                                                      replace H : (aumbrylaw14_LayoutApart.l3 kj45 t190 t193 y215 x6_4 (wrap64 (x10_6 + 1))) = some r := by first | (rw [hy215]; with_reducible exact H) | (have H2_ := (Option.bind_some _ _).symm.trans H; rw [hy215]; with_reducible exact H2_) | (have H2_ := (Option.bind_some _ _).symm.trans H; with_reducible exact H2_) | with_reducible exact H | (rw [hy215]; exact H) | exact H
                                                      have Ny215 := Aside0.mk hy215
                                                      clear hy215
                                                      have H' := Aside0.mk H
                                                      clear H
                                                      have p214 : 0 ≤ (x10_6 : Int) := of_decide_eq_true (by first | (with_reducible assumption) | assumption)
                                                      have q214 : x10_6 < (x6_4.length : Int) := of_decide_eq_true (by first | (with_reducible assumption) | assumption)
                                                      obtain ⟨ad214, e214, hx214_0⟩ := Kd.at_int (Kd.R_reads' HO_6.out).2.2 x10_6 p214 q214
                                                      cases e214
                                                      replace p214 := eq_true p214
                                                      replace q214 := eq_true q214
                                                      have p59 : 0 ≤ ((rd x6_4 x10_6) : Int) := of_decide_eq_true (by first | (with_reducible assumption) | assumption)
                                                      have q59 : ((rd x6_4 x10_6) : Int) < ((x5_6.length : Int) : Int) := of_decide_eq_true (by first | (with_reducible assumption) | assumption)
                                                      obtain ⟨hx59_0, hf59_0⟩ := Kd.R_celln false HO_5.out ((rd x6_4 x10_6) : Int) p59 q59
                                                      replace p59 := eq_true p59
                                                      replace q59 := eq_true q59
                                                      have HP60 := Kd.R_putg HO_5.out ((rd x6_4 x10_6) : Int) true
                                                      go_wp2_with (first | ((with_reducible refine gate_store (t := 4) (p := 108) rfl ?_); refine store_event (t := 4) (p := 108) (v := ?vo_w61) (w1 := (wc.setCell ⟨go8, ((rd x6_4 x10_6) : Int).toNat, none⟩ (.bool true))) ?hg ?ho ?hn ?hr ?_; (case ho => rfl); (case hg => rfl); (case hn => rfl); (case hr => first | (go_simp; done) | (go_simp; rfl)); intro w61 hw; have hg : wc.grownBy w61 (some go8) := (by rw [hw]; exact HP60.2); have hp_ : Kd.R Kd.bool 4 w61 w.heap.size (fun _ => True) (.slice (some ⟨go8, 0, none⟩) x5_6.length co8) y215 := (by rw [hw, Ny215.out]; exact HP60.1); clear HP60; have n0_ := Aside0.mk (hp_); have n1_ := Aside0.mk (Kd.R_over' (v := (.slice (some ⟨go8, 0, none⟩) x5_6.length co8)) (by (with_reducible repeat (first | apply Kd.R_alloc | apply Kd.R_drewN | apply Kd.R_drew)); exact HO_6.out) (Kd.R_typed HO_5.out) (by decide) hg); have n2_ := Aside0.mk (blk_grown (g := gb189) (o := .cells #[.int .i64 a0_0, .int .i64 a0_1, .int .i64 a0_2, .int .i64 a0_3, .int .i64 a0_4, .int .i64 a0_5] 24 (0, 0)) (by (with_reducible repeat (first | refine blk_drewN ?_ _ | refine blk_drew ?_ | refine blk_alloc ?_ _)); exact BK189.out) hg (Kd.R_ne HO_5.out BK189.out (by decide))); have n3_ := Aside0.mk ((by rw [hw]; exact below_set (HB.out) GB8.out : Below w.heap.size w w61)); clear HO_5; clear HO_6; clear BK189; clear HB; have HO_5 := n0_; have HO_6 := n1_; have BK189 := n2_; have HB := n3_; clear n0_ n1_ n2_ n3_; clear hg hw hp_))
                                                      (try simp only [← hl5_6])
                                                      go_roundg kj45
                                                      case measure => have := HK1.out; have := HK2.out; have := HJ24.out; have := HK4.out; have := HJ34.out; have := HK6.out; have := HJ45.out; omega
                                                      case rel => exact ⟨(y215), (wrap64 (x10_6 + 1)), (by first | rfl | (simp; done) | (simp [*]; done)), H', ⟨by have := HK1.out; have := HK2.out; have := HJ24.out; have := HK4.out; have := HJ34.out; have := HK6.out; have := HJ45.out; omega⟩, ⟨by (try simp only [hl5_1]); (try simp only [hl5_6]); (with_reducible repeat (first | apply Kd.R_alloc | apply Kd.R_drewN | apply Kd.R_drew)); exact HO_5.out⟩, ⟨by (try simp only [hl5_1]); (try simp only [hl5_6]); (with_reducible repeat (first | apply Kd.R_alloc | apply Kd.R_drewN | apply Kd.R_drew)); exact HO_6.out⟩, ⟨by (try simp only [hl5_1]); (try simp only [hl5_6]); (with_reducible repeat (first | refine blk_drewN ?_ _ | refine blk_drew ?_ | refine blk_alloc ?_ _)); exact BK189.out⟩, ⟨by repeat (first | (with_reducible first | exact HB.out | apply below_alloc | apply pw_below_drewN | apply below_drew1 | refine below_set ?_ GE189.out) | exact HB.out)⟩⟩
                                                    · rw [if_neg c58] at H
                                                      exact absurd H (by simp)
                                                  · rw [if_neg c57] at H
                                                    exact absurd H (by simp)
                                                · rw [if_neg c56] at H
                                                  exact absurd H (by simp)
                                              · rw [if_neg c55] at H
                                                exact absurd H (by simp)
                                      · rw [if_neg c45] at H
                                        have c45b0 : decide (x10_6 < (x6_4.length : Int)) = false := decide_eq_false c45
                                        clear c45
                                        by_cases c62 : t190 = true
                                        · subst c62
                                          have H1 : (some ((wrap64 ((x6_4.length : Int) + 1)) == t193)) = some r := by rw [if_pos rfl] at H; exact H
                                          clear H
                                          have H := H1
                                          clear H1
                                          obtain rfl := Option.some.inj H
                                          obtain ⟨Ao63, co63, eo63⟩ := Kd.R_slice HO_6.out
                                          subst eo63
                                          go_wp2
                                          go_ret
                                          exact ⟨by first | rfl | (simp [errW_none, errW_some] <;> rfl) | (simp [*, errW_none, errW_some] <;> rfl), by repeat (first | (with_reducible first | exact HB.out | apply below_alloc | apply pw_below_drewN | apply below_drew1 | refine below_set ?_ GE189.out) | exact HB.out)⟩
                                        · replace c62 := Bool.eq_false_iff.mpr c62
                                          subst c62
                                          have H1 : (some false) = some r := by rw [if_neg (show ¬ (false = true) by decide)] at H; exact H
                                          clear H
                                          have H := H1
                                          clear H1
                                          obtain rfl := Option.some.inj H
                                          obtain ⟨Ao64, co64, eo64⟩ := Kd.R_slice HO_6.out
                                          subst eo64
                                          go_wp2
                                          go_ret
                                          exact ⟨by first | rfl | (simp [errW_none, errW_some] <;> rfl) | (simp [*, errW_none, errW_some] <;> rfl), by repeat (first | (with_reducible first | exact HB.out | apply below_alloc | apply pw_below_drewN | apply below_drew1 | refine below_set ?_ GE189.out) | exact HB.out)⟩
      · rw [if_neg c7] at H
        exact absurd H (by simp)
    · rw [if_neg c6] at H
      exact absurd H (by simp)
  · rw [if_neg c4] at H
    have c4b0 : (t191 == 0) = false := beq_eq_false_iff_ne.mpr c4
    have c4b1 : (t191 != 0) = true := bne_iff_ne.mpr c4
    by_cases c65 : t190 = true
    · subst c65
      have H1 : ((layout_Sectors.f k a0_0 a0_1 a0_2 a0_3 a0_4 a0_5).bind fun t192 => (some (t192 == 0))) = some r := by rw [if_pos rfl] at H; exact H
      clear H
      have H := H1
      clear H1
      replace H := Option.bind_eq_some_iff.mp H
      obtain ⟨t192, A660, H⟩ := H
      replace H : (some (t192 == 0)) = some r := H
      have A66 := Aside0.mk A660
      clear A660
      obtain rfl := Option.some.inj H
      go_enter Try.func5, Try.ntmps5
      go_wp2_with (first | ((with_reducible refine gate_dst (N := 1) rfl ?_); (try (refine gate_guard (by rfl) ?_; dsimp only)); refine box_event ?hg (N := 1) ?hd (cs := #[.int .i64 a0_0, .int .i64 a0_1, .int .i64 a0_2, .int .i64 a0_3, .int .i64 a0_4, .int .i64 a0_5]) (t := 24) ?hr ?_; (case hd => rfl); (case hg => rfl); (case hr => first | (go_simp; done) | (go_simp; rfl)); intro gb189 hg w67 hbox hb; have n0_ := Aside0.mk (below_step (by repeat (first | (with_reducible first | exact HB.out | apply below_alloc | apply pw_below_drewN | apply below_drew1) | exact HB.out)) hb); have n1_ := Aside0.mk (hbox); have n2_ := Aside0.mk ((by rw [hg]; exact (below_size (by repeat (first | (with_reducible first | exact HB.out | apply below_alloc | apply pw_below_drewN | apply below_drew1) | exact HB.out))) : w.heap.size ≤ gb189)); have n3_ := Aside0.mk ((by rw [hg]; exact (below_size (by repeat (first | (with_reducible first | exact HB.out | apply below_alloc | apply pw_below_drewN | apply below_drew1) | exact HB.out))) : w.heap.size ≤ gb189)); clear HB; have HB := n0_; have BK189 := n1_; have GW189 := n2_; have GE189 := n3_; clear n0_ n1_ n2_ n3_; clear hb hbox hg) | ((with_reducible refine gate_callee (f := 9) rfl ?_); refine goesL_ (some 11) rfl rfl Try.func9 (by kernel_rfl) rfl #[] rfl (by (try simp only [List.map_toArray, List.map_cons, List.map_nil]); first | done | rfl | (simp only [List.length_drop, List.length_take]; rfl)) ?_; (with_reducible refine (aumbrylaw14_awake.calls k  true _ A2.out).mono ?_); rintro e w68 ⟨rfl, hb⟩; refine ⟨_, rfl, ?_⟩; have n0_ := Aside0.mk (blk_below (g := gb189) (o := .cells #[.int .i64 a0_0, .int .i64 a0_1, .int .i64 a0_2, .int .i64 a0_3, .int .i64 a0_4, .int .i64 a0_5] 24 (0, 0)) (by (with_reducible repeat (first | refine blk_drewN ?_ _ | refine blk_drew ?_ | refine blk_alloc ?_ _)); exact BK189.out) hb); have n1_ := Aside0.mk (below_step (by repeat (first | (with_reducible first | exact HB.out | apply below_alloc | apply pw_below_drewN | apply below_drew1 | refine below_set ?_ GE189.out) | exact HB.out)) hb); clear BK189; clear HB; have BK189 := n0_; have HB := n1_; clear n0_ n1_; (try clear hb); (try clear hb2); (try clear hk); (try clear hi); have hcz69_0 : w68.cell? ⟨gb189, 0, none⟩ = some (.int .i64 a0_0) := (blk_cell BK189.out 0).trans rfl; have hcz69_1 : w68.cell? ⟨gb189, 1, none⟩ = some (.int .i64 a0_1) := (blk_cell BK189.out 1).trans rfl; have hcz69_2 : w68.cell? ⟨gb189, 2, none⟩ = some (.int .i64 a0_2) := (blk_cell BK189.out 2).trans rfl; have hcz69_3 : w68.cell? ⟨gb189, 3, none⟩ = some (.int .i64 a0_3) := (blk_cell BK189.out 3).trans rfl; have hcz69_4 : w68.cell? ⟨gb189, 4, none⟩ = some (.int .i64 a0_4) := (blk_cell BK189.out 4).trans rfl; have hcz69_5 : w68.cell? ⟨gb189, 5, none⟩ = some (.int .i64 a0_5) := (blk_cell BK189.out 5).trans rfl; have hfz69_0 := blk_frozen BK189.out 0; have hfz69_1 := blk_frozen BK189.out 1; have hfz69_2 := blk_frozen BK189.out 2; have hfz69_3 := blk_frozen BK189.out 3; have hfz69_4 := blk_frozen BK189.out 4; have hfz69_5 := blk_frozen BK189.out 5) | ((with_reducible refine gate_callee (f := 10) rfl ?_); refine goesL_ (some 13) rfl rfl Try.func10 (by kernel_rfl) rfl #[.agg #[.int .i64 a0_0, .int .i64 a0_1, .int .i64 a0_2, .int .i64 a0_3, .int .i64 a0_4, .int .i64 a0_5]] rfl (by (try simp only [List.map_toArray, List.map_cons, List.map_nil]); first | done | rfl | (simp only [List.length_drop, List.length_take]; rfl)) ?_; (with_reducible refine (layout_Check.calls k a0_0 a0_1 a0_2 a0_3 a0_4 a0_5 t191 _ A3.out).mono ?_); rintro e w70 ⟨rfl, hb⟩; refine ⟨_, rfl, ?_⟩; have n0_ := Aside0.mk (blk_below (g := gb189) (o := .cells #[.int .i64 a0_0, .int .i64 a0_1, .int .i64 a0_2, .int .i64 a0_3, .int .i64 a0_4, .int .i64 a0_5] 24 (0, 0)) (by (with_reducible repeat (first | refine blk_drewN ?_ _ | refine blk_drew ?_ | refine blk_alloc ?_ _)); exact BK189.out) hb); have n1_ := Aside0.mk (below_step (by repeat (first | (with_reducible first | exact HB.out | apply below_alloc | apply pw_below_drewN | apply below_drew1 | refine below_set ?_ GE189.out) | exact HB.out)) hb); clear BK189; clear HB; have BK189 := n0_; have HB := n1_; clear n0_ n1_; (try clear hb); (try clear hb2); (try clear hk); (try clear hi); have hcz71_0 : w70.cell? ⟨gb189, 0, none⟩ = some (.int .i64 a0_0) := (blk_cell BK189.out 0).trans rfl; have hcz71_1 : w70.cell? ⟨gb189, 1, none⟩ = some (.int .i64 a0_1) := (blk_cell BK189.out 1).trans rfl; have hcz71_2 : w70.cell? ⟨gb189, 2, none⟩ = some (.int .i64 a0_2) := (blk_cell BK189.out 2).trans rfl; have hcz71_3 : w70.cell? ⟨gb189, 3, none⟩ = some (.int .i64 a0_3) := (blk_cell BK189.out 3).trans rfl; have hcz71_4 : w70.cell? ⟨gb189, 4, none⟩ = some (.int .i64 a0_4) := (blk_cell BK189.out 4).trans rfl; have hcz71_5 : w70.cell? ⟨gb189, 5, none⟩ = some (.int .i64 a0_5) := (blk_cell BK189.out 5).trans rfl; have hfz71_0 := blk_frozen BK189.out 0; have hfz71_1 := blk_frozen BK189.out 1; have hfz71_2 := blk_frozen BK189.out 2; have hfz71_3 := blk_frozen BK189.out 3; have hfz71_4 := blk_frozen BK189.out 4; have hfz71_5 := blk_frozen BK189.out 5) | (go_at_call 12; (with_reducible refine (layout_Sectors.calls k a0_0 a0_1 a0_2 a0_3 a0_4 a0_5 t192 _ A66.out).mono ?_); rintro e w72 ⟨rfl, hb⟩; have n0_ := Aside0.mk (blk_below (g := gb189) (o := .cells #[.int .i64 a0_0, .int .i64 a0_1, .int .i64 a0_2, .int .i64 a0_3, .int .i64 a0_4, .int .i64 a0_5] 24 (0, 0)) (by (with_reducible repeat (first | refine blk_drewN ?_ _ | refine blk_drew ?_ | refine blk_alloc ?_ _)); exact BK189.out) hb); have n1_ := Aside0.mk (below_step (by repeat (first | (with_reducible first | exact HB.out | apply below_alloc | apply pw_below_drewN | apply below_drew1 | refine below_set ?_ GE189.out) | exact HB.out)) hb); clear BK189; clear HB; have BK189 := n0_; have HB := n1_; clear n0_ n1_; (try clear hb); (try clear hb2); (try clear hk); (try clear hi)))
      go_ret
      exact ⟨by first | rfl | (simp [errW_none, errW_some] <;> rfl) | (simp [*, errW_none, errW_some] <;> rfl), by repeat (first | (with_reducible first | exact HB.out | apply below_alloc | apply pw_below_drewN | apply below_drew1 | refine below_set ?_ GE189.out) | exact HB.out)⟩
    · replace c65 := Bool.eq_false_iff.mpr c65
      subst c65
      have H1 : (some false) = some r := by rw [if_neg (show ¬ (false = true) by decide)] at H; exact H
      clear H
      have H := H1
      clear H1
      obtain rfl := Option.some.inj H
      go_enter Try.func5, Try.ntmps5
      go_wp2_with (first | ((with_reducible refine gate_dst (N := 1) rfl ?_); (try (refine gate_guard (by rfl) ?_; dsimp only)); refine box_event ?hg (N := 1) ?hd (cs := #[.int .i64 a0_0, .int .i64 a0_1, .int .i64 a0_2, .int .i64 a0_3, .int .i64 a0_4, .int .i64 a0_5]) (t := 24) ?hr ?_; (case hd => rfl); (case hg => rfl); (case hr => first | (go_simp; done) | (go_simp; rfl)); intro gb189 hg w73 hbox hb; have n0_ := Aside0.mk (below_step (by repeat (first | (with_reducible first | exact HB.out | apply below_alloc | apply pw_below_drewN | apply below_drew1) | exact HB.out)) hb); have n1_ := Aside0.mk (hbox); have n2_ := Aside0.mk ((by rw [hg]; exact (below_size (by repeat (first | (with_reducible first | exact HB.out | apply below_alloc | apply pw_below_drewN | apply below_drew1) | exact HB.out))) : w.heap.size ≤ gb189)); have n3_ := Aside0.mk ((by rw [hg]; exact (below_size (by repeat (first | (with_reducible first | exact HB.out | apply below_alloc | apply pw_below_drewN | apply below_drew1) | exact HB.out))) : w.heap.size ≤ gb189)); clear HB; have HB := n0_; have BK189 := n1_; have GW189 := n2_; have GE189 := n3_; clear n0_ n1_ n2_ n3_; clear hb hbox hg) | ((with_reducible refine gate_callee (f := 9) rfl ?_); refine goesL_ (some 11) rfl rfl Try.func9 (by kernel_rfl) rfl #[] rfl (by (try simp only [List.map_toArray, List.map_cons, List.map_nil]); first | done | rfl | (simp only [List.length_drop, List.length_take]; rfl)) ?_; (with_reducible refine (aumbrylaw14_awake.calls k  false _ A2.out).mono ?_); rintro e w74 ⟨rfl, hb⟩; refine ⟨_, rfl, ?_⟩; have n0_ := Aside0.mk (blk_below (g := gb189) (o := .cells #[.int .i64 a0_0, .int .i64 a0_1, .int .i64 a0_2, .int .i64 a0_3, .int .i64 a0_4, .int .i64 a0_5] 24 (0, 0)) (by (with_reducible repeat (first | refine blk_drewN ?_ _ | refine blk_drew ?_ | refine blk_alloc ?_ _)); exact BK189.out) hb); have n1_ := Aside0.mk (below_step (by repeat (first | (with_reducible first | exact HB.out | apply below_alloc | apply pw_below_drewN | apply below_drew1 | refine below_set ?_ GE189.out) | exact HB.out)) hb); clear BK189; clear HB; have BK189 := n0_; have HB := n1_; clear n0_ n1_; (try clear hb); (try clear hb2); (try clear hk); (try clear hi); have hcz75_0 : w74.cell? ⟨gb189, 0, none⟩ = some (.int .i64 a0_0) := (blk_cell BK189.out 0).trans rfl; have hcz75_1 : w74.cell? ⟨gb189, 1, none⟩ = some (.int .i64 a0_1) := (blk_cell BK189.out 1).trans rfl; have hcz75_2 : w74.cell? ⟨gb189, 2, none⟩ = some (.int .i64 a0_2) := (blk_cell BK189.out 2).trans rfl; have hcz75_3 : w74.cell? ⟨gb189, 3, none⟩ = some (.int .i64 a0_3) := (blk_cell BK189.out 3).trans rfl; have hcz75_4 : w74.cell? ⟨gb189, 4, none⟩ = some (.int .i64 a0_4) := (blk_cell BK189.out 4).trans rfl; have hcz75_5 : w74.cell? ⟨gb189, 5, none⟩ = some (.int .i64 a0_5) := (blk_cell BK189.out 5).trans rfl; have hfz75_0 := blk_frozen BK189.out 0; have hfz75_1 := blk_frozen BK189.out 1; have hfz75_2 := blk_frozen BK189.out 2; have hfz75_3 := blk_frozen BK189.out 3; have hfz75_4 := blk_frozen BK189.out 4; have hfz75_5 := blk_frozen BK189.out 5) | ((with_reducible refine gate_callee (f := 10) rfl ?_); refine goesL_ (some 13) rfl rfl Try.func10 (by kernel_rfl) rfl #[.agg #[.int .i64 a0_0, .int .i64 a0_1, .int .i64 a0_2, .int .i64 a0_3, .int .i64 a0_4, .int .i64 a0_5]] rfl (by (try simp only [List.map_toArray, List.map_cons, List.map_nil]); first | done | rfl | (simp only [List.length_drop, List.length_take]; rfl)) ?_; (with_reducible refine (layout_Check.calls k a0_0 a0_1 a0_2 a0_3 a0_4 a0_5 t191 _ A3.out).mono ?_); rintro e w76 ⟨rfl, hb⟩; refine ⟨_, rfl, ?_⟩; have n0_ := Aside0.mk (blk_below (g := gb189) (o := .cells #[.int .i64 a0_0, .int .i64 a0_1, .int .i64 a0_2, .int .i64 a0_3, .int .i64 a0_4, .int .i64 a0_5] 24 (0, 0)) (by (with_reducible repeat (first | refine blk_drewN ?_ _ | refine blk_drew ?_ | refine blk_alloc ?_ _)); exact BK189.out) hb); have n1_ := Aside0.mk (below_step (by repeat (first | (with_reducible first | exact HB.out | apply below_alloc | apply pw_below_drewN | apply below_drew1 | refine below_set ?_ GE189.out) | exact HB.out)) hb); clear BK189; clear HB; have BK189 := n0_; have HB := n1_; clear n0_ n1_; (try clear hb); (try clear hb2); (try clear hk); (try clear hi)))
      go_ret
      exact ⟨by first | rfl | (simp [errW_none, errW_some] <;> rfl) | (simp [*, errW_none, errW_some] <;> rfl), by repeat (first | (with_reducible first | exact HB.out | apply below_alloc | apply pw_below_drewN | apply below_drew1 | refine below_set ?_ GE189.out) | exact HB.out)⟩

end Go.Proofs.Ytacolbcmlpfbmaa.PAll
