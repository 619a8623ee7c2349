import Derived.Test.YtmmcbncpnlknbaaGreatF19
set_option linter.unusedVariables false
set_option linter.unusedSimpArgs false
namespace Go.Proofs.YtmmcbncpnlknbaaGreat.PAll
open Go.RowKit Go.Proofs.YtmmcbncpnlknbaaGreatW.PrintWords Go.Proofs.YtmmcbncpnlknbaaGreatW.PrintLast Go.Proofs.YtmmcbncpnlknbaaGreatW.PrintMore
def metalog_first.l0:Nat->List Int->Int->Int->Option (Int)
 | 0,_,_,_=>none
 | k+1,x5,x6,x7=>if x7 < x6 then (if 0<=x7 then (if x7 < (x5.length:Int) then (if (rd x5 x7)=0 then (metalog_first.l0 k x5 x6 (wrap64 (x7+1))) else (some (rd x5 x7))) else (none)) else (none)) else (some 0)
def metalog_first.f (k:Nat) (l0:List Int):Option (Int):=metalog_first.l0 k l0 (l0.length:Int) 0
theorem metalog_first.mono_l:∀ k,(∀ y0 y1 y2,LeO (metalog_first.l0 k y0 y1 y2) (metalog_first.l0 (k+1) y0 y1 y2))
 | 0=>fun _ _ _ r h=>by simp [metalog_first.l0] at h
 | k+1=>by
  have ih0:=metalog_first.mono_l k
  ·intro y0 y1 y2
   unfold metalog_first.l0
   repeat' first
   | (with_reducible exact ih0 _ _ _)
   | (with_reducible exact LeO.refl _)
   | (with_reducible exact LeO.none _)
   | (with_reducible refine LeO.ite ?_ ?_)
   | (with_reducible refine LeO.bind ?_ (fun _=>?_))
   | exact ih0 _ _ _
   | exact LeO.none _
   | refine LeO.ite ?_ ?_
   | refine LeO.bind ?_ (fun _=>?_)
theorem metalog_first.mono:∀ a0 k,LeO (metalog_first.f k a0) (metalog_first.f (k+1) a0):=by
 intro a0 k
 have ih0:=metalog_first.mono_l k
 unfold metalog_first.f
 repeat' first
   | (with_reducible exact ih0 _ _ _)
   | (with_reducible exact LeO.refl _)
   | (with_reducible exact LeO.none _)
   | (with_reducible refine LeO.ite ?_ ?_)
   | (with_reducible refine LeO.bind ?_ (fun _=>?_))
   | exact ih0 _ _ _
   | exact LeO.none _
   | refine LeO.ite ?_ ?_
   | refine LeO.bind ?_ (fun _=>?_)
set_option maxHeartbeats 8000000 in
set_option maxRecDepth 100000 in
theorem metalog_first.calls (k:Nat) (A0:Option Addr) (c0:Nat) (l0:List Int) (r:Int) (w:World) (hr0:Kd.C (Kd.int .i64) w A0 l0.length l0) (hc0:l0.length<=c0) (h:metalog_first.f k l0=some r) :
  Calls Tryz.prog 55 #[.slice A0 l0.length c0] w fun e w'=>e=.returned (.int .i64 r)/\Drawn0 w w':=by
 have HR0:=Aside0.mk hr0
 have HC0:=Aside0.mk hc0
 clear hr0 hc0
 have H:(metalog_first.l0 k l0 (l0.length:Int) 0)=some r:=h
 clear h
 have H':=Aside0.mk H
 clear H
 go_enter Tryz.func55,Tryz.ntmps55
 go_wp2
 go_loopg [7] k (fun kq v7 w'=>∃ (x7_1:Int),v7=.int .i64 x7_1/\Aside0 (metalog_first.l0 kq l0 (l0.length:Int) x7_1=some r)/\Aside0 (kq<=k)/\Drawn0 w w')
 case atStart=>exact ⟨(0),(by first|rfl|(simp;done)|(simp [*];done)),H',⟨Nat.le_refl _⟩,by repeat (first|exact Drawn0.refl _|apply Drawn0.step)⟩
 case round =>
  clear H'
  obtain ⟨x7_1,rfl,HA,HK1,⟨m1,rfl⟩⟩:=hrel
  cases gk with
  | zero=>exact absurd HA.out (by simp [metalog_first.l0])
  | succ k1 =>
   have H:=HA.out
   clear HA
   simp only [metalog_first.l0] at H
   by_cases c2:x7_1 < (l0.length:Int)
   ·rw [if_pos c2] at H
    have c2b0:decide (x7_1 < (l0.length:Int))=true:=decide_eq_true c2
    clear c2
    by_cases c3:0<=x7_1
    ·rw [if_pos c3] at H
     have c3b0:decide (0<=x7_1)=true:=decide_eq_true c3
     clear c3
     by_cases c4:x7_1 < (l0.length:Int)
     ·rw [if_pos c4] at H
      have c4b0:decide (x7_1 < (l0.length:Int))=true:=decide_eq_true c4
      clear c4
      by_cases c5:(rd l0 x7_1)=0
      ·rw [if_pos c5] at H
       have c5b0:((rd l0 x7_1) == 0)=true:=beq_iff_eq.mpr c5
       have c5b1:((rd l0 x7_1) != 0)=false:=bne_eq_false_iff_eq.mpr c5
       clear c5
       have H':=Aside0.mk H
       clear H
       have p194:0<=(x7_1:Int):=of_decide_eq_true (by first|(with_reducible assumption)|assumption)
       have q194:x7_1 < (l0.length:Int):=of_decide_eq_true (by first|(with_reducible assumption)|assumption)
       obtain ⟨ad194,e194,hx194_0⟩:=Kd.at_int HR0.out x7_1 p194 q194
       cases e194
       replace p194:=eq_true p194
       replace q194:=eq_true q194
       go_wp2
       go_roundg k1
       case measure=>have:=HK1.out;omega
       case rel=>exact ⟨(wrap64 (x7_1+1)),(by first|rfl|(simp;done)|(simp [*];done)),H',⟨by have:=HK1.out;omega⟩,by repeat (first|exact Drawn0.refl _|apply Drawn0.step)⟩
      ·rw [if_neg c5] at H
       have c5b0:((rd l0 x7_1) == 0)=false:=beq_eq_false_iff_ne.mpr c5
       have c5b1:((rd l0 x7_1) != 0)=true:=bne_iff_ne.mpr c5
       obtain rfl:=Option.some.inj H
       have p194:0<=(x7_1:Int):=of_decide_eq_true (by first|(with_reducible assumption)|assumption)
       have q194:x7_1 < (l0.length:Int):=of_decide_eq_true (by first|(with_reducible assumption)|assumption)
       obtain ⟨ad194,e194,hx194_0⟩:=Kd.at_int HR0.out x7_1 p194 q194
       cases e194
       replace p194:=eq_true p194
       replace q194:=eq_true q194
       go_wp2
       go_ret
       exact ⟨by first|rfl|(simp;done)|(simp [*];done),by repeat (first|exact Drawn0.refl _|apply Drawn0.step)⟩
     ·rw [if_neg c4] at H
      exact absurd H (by simp)
    ·rw [if_neg c3] at H
     exact absurd H (by simp)
   ·rw [if_neg c2] at H
    have c2b0:decide (x7_1 < (l0.length:Int))=false:=decide_eq_false c2
    clear c2
    obtain rfl:=Option.some.inj H
    go_wp2
    go_ret
    exact ⟨by first|rfl|(simp;done)|(simp [*];done),by repeat (first|exact Drawn0.refl _|apply Drawn0.step)⟩
def slices_Index_int_int.l0:Nat->List Int->Int->Int->Int->Option (Int)
 | 0,_,_,_,_=>none
 | k+1,x0,x1,x7,x8=>if x8 < x7 then (if 0<=x8 then (if x8 < (x0.length:Int) then (if x1=(rd x0 x8) then (some x8) else (slices_Index_int_int.l0 k x0 x1 x7 (wrap64 (x8+1)))) else (none)) else (none)) else (some (-1))
def slices_Index_int_int.f (k:Nat) (l0:List Int) (a1:Int):Option (Int):=slices_Index_int_int.l0 k l0 a1 (l0.length:Int) 0
theorem slices_Index_int_int.mono_l:∀ k,(∀ y0 y1 y2 y3,LeO (slices_Index_int_int.l0 k y0 y1 y2 y3) (slices_Index_int_int.l0 (k+1) y0 y1 y2 y3))
 | 0=>fun _ _ _ _ r h=>by simp [slices_Index_int_int.l0] at h
 | k+1=>by
  have ih0:=slices_Index_int_int.mono_l k
  ·intro y0 y1 y2 y3
   unfold slices_Index_int_int.l0
   repeat' first
   | (with_reducible exact ih0 _ _ _ _)
   | (with_reducible exact LeO.refl _)
   | (with_reducible exact LeO.none _)
   | (with_reducible refine LeO.ite ?_ ?_)
   | (with_reducible refine LeO.bind ?_ (fun _=>?_))
   | exact ih0 _ _ _ _
   | exact LeO.none _
   | refine LeO.ite ?_ ?_
   | refine LeO.bind ?_ (fun _=>?_)
theorem slices_Index_int_int.mono:∀ a0 a1 k,LeO (slices_Index_int_int.f k a0 a1) (slices_Index_int_int.f (k+1) a0 a1):=by
 intro a0 a1 k
 have ih0:=slices_Index_int_int.mono_l k
 unfold slices_Index_int_int.f
 repeat' first
   | (with_reducible exact ih0 _ _ _ _)
   | (with_reducible exact LeO.refl _)
   | (with_reducible exact LeO.none _)
   | (with_reducible refine LeO.ite ?_ ?_)
   | (with_reducible refine LeO.bind ?_ (fun _=>?_))
   | exact ih0 _ _ _ _
   | exact LeO.none _
   | refine LeO.ite ?_ ?_
   | refine LeO.bind ?_ (fun _=>?_)
set_option maxHeartbeats 8000000 in
set_option maxRecDepth 100000 in
theorem slices_Index_int_int.calls (k:Nat) (A0:Option Addr) (c0:Nat) (l0:List Int) (a1:Int) (r:Int) (w:World) (hr0:Kd.C (Kd.int .i64) w A0 l0.length l0) (hc0:l0.length<=c0) (h:slices_Index_int_int.f k l0 a1=some r) :
  Calls Tryz.prog 118 #[.slice A0 l0.length c0,.int .i64 a1] w fun e w'=>e=.returned (.int .i64 r)/\Drawn0 w w':=by
 have HR0:=Aside0.mk hr0
 have HC0:=Aside0.mk hc0
 clear hr0 hc0
 have H:(slices_Index_int_int.l0 k l0 a1 (l0.length:Int) 0)=some r:=h
 clear h
 have H':=Aside0.mk H
 clear H
 go_enter Tryz.func118,Tryz.ntmps118
 go_wp2
 go_loopg [8] k (fun kq v8 w'=>∃ (x8_1:Int),v8=.int .i64 x8_1/\Aside0 (slices_Index_int_int.l0 kq l0 a1 (l0.length:Int) x8_1=some r)/\Aside0 (kq<=k)/\Drawn0 w w')
 case atStart=>exact ⟨(0),(by first|rfl|(simp;done)|(simp [*];done)),H',⟨Nat.le_refl _⟩,by repeat (first|exact Drawn0.refl _|apply Drawn0.step)⟩
 case round =>
  clear H'
  try clear c1
  try clear p2
  obtain ⟨x8_1,rfl,HA,HK1,⟨m1,rfl⟩⟩:=hrel
  cases gk with
  | zero=>exact absurd HA.out (by simp [slices_Index_int_int.l0])
  | succ k1 =>
   have H:=HA.out
   clear HA
   simp only [slices_Index_int_int.l0] at H
   by_cases c3:x8_1 < (l0.length:Int)
   ·rw [if_pos c3] at H
    have c3b0:decide (x8_1 < (l0.length:Int))=true:=decide_eq_true c3
    clear c3
    by_cases c4:0<=x8_1
    ·rw [if_pos c4] at H
     have c4b0:decide (0<=x8_1)=true:=decide_eq_true c4
     clear c4
     by_cases c5:x8_1 < (l0.length:Int)
     ·rw [if_pos c5] at H
      have c5b0:decide (x8_1 < (l0.length:Int))=true:=decide_eq_true c5
      clear c5
      by_cases c6:a1=(rd l0 x8_1)
      ·rw [if_pos c6] at H
       have c6b0:(a1 == (rd l0 x8_1))=true:=beq_iff_eq.mpr c6
       have c6b1:(a1 != (rd l0 x8_1))=false:=bne_eq_false_iff_eq.mpr c6
       clear c6
       obtain rfl:=Option.some.inj H
       have p203:0<=(x8_1:Int):=of_decide_eq_true (by first|(with_reducible assumption)|assumption)
       have q203:x8_1 < (l0.length:Int):=of_decide_eq_true (by first|(with_reducible assumption)|assumption)
       obtain ⟨ad203,e203,hx203_0⟩:=Kd.at_int HR0.out x8_1 p203 q203
       cases e203
       replace p203:=eq_true p203
       replace q203:=eq_true q203
       go_wp2
       go_ret
       exact ⟨by first|rfl|(simp;done)|(simp [*];done),by repeat (first|exact Drawn0.refl _|apply Drawn0.step)⟩
      ·rw [if_neg c6] at H
       have c6b0:(a1 == (rd l0 x8_1))=false:=beq_eq_false_iff_ne.mpr c6
       have c6b1:(a1 != (rd l0 x8_1))=true:=bne_iff_ne.mpr c6
       have H':=Aside0.mk H
       clear H
       have p203:0<=(x8_1:Int):=of_decide_eq_true (by first|(with_reducible assumption)|assumption)
       have q203:x8_1 < (l0.length:Int):=of_decide_eq_true (by first|(with_reducible assumption)|assumption)
       obtain ⟨ad203,e203,hx203_0⟩:=Kd.at_int HR0.out x8_1 p203 q203
       cases e203
       replace p203:=eq_true p203
       replace q203:=eq_true q203
       go_wp2
       go_roundg k1
       case measure=>have:=HK1.out;omega
       case rel=>exact ⟨(wrap64 (x8_1+1)),(by first|rfl|(simp;done)|(simp [*];done)),H',⟨by have:=HK1.out;omega⟩,by repeat (first|exact Drawn0.refl _|apply Drawn0.step)⟩
     ·rw [if_neg c5] at H
      exact absurd H (by simp)
    ·rw [if_neg c4] at H
     exact absurd H (by simp)
   ·rw [if_neg c3] at H
    have c3b0:decide (x8_1 < (l0.length:Int))=false:=decide_eq_false c3
    clear c3
    obtain rfl:=Option.some.inj H
    go_wp2
    go_ret
    exact ⟨by first|rfl|(simp;done)|(simp [*];done),by repeat (first|exact Drawn0.refl _|apply Drawn0.step)⟩
def slices_Contains_int_int.f (k:Nat) (l0:List Int) (a1:Int):Option (Bool):=(slices_Index_int_int.f k l0 a1).bind fun t204=>(some (decide (t204 ≥ 0)))
theorem slices_Contains_int_int.mono:∀ a0 a1 k,LeO (slices_Contains_int_int.f k a0 a1) (slices_Contains_int_int.f (k+1) a0 a1):=by
 intro a0 a1 k
 unfold slices_Contains_int_int.f
 repeat' first
   | (with_reducible exact slices_Index_int_int.mono _ _ _)
   | (with_reducible exact LeO.refl _)
   | (with_reducible exact LeO.none _)
   | (with_reducible refine LeO.ite ?_ ?_)
   | (with_reducible refine LeO.bind ?_ (fun _=>?_))
   | exact slices_Index_int_int.mono _ _ _
   | exact LeO.none _
   | refine LeO.ite ?_ ?_
   | refine LeO.bind ?_ (fun _=>?_)
set_option maxHeartbeats 8000000 in
set_option maxRecDepth 100000 in
theorem slices_Contains_int_int.calls (k:Nat) (A0:Option Addr) (c0:Nat) (l0:List Int) (a1:Int) (r:Bool) (w:World) (hr0:Kd.C (Kd.int .i64) w A0 l0.length l0) (hc0:l0.length<=c0) (h:slices_Contains_int_int.f k l0 a1=some r) :
  Calls Tryz.prog 86 #[.slice A0 l0.length c0,.int .i64 a1] w fun e w'=>e=.returned (.bool r)/\Drawn0 w w':=by
 have HR0:=Aside0.mk hr0
 have HC0:=Aside0.mk hc0
 clear hr0 hc0
 have H:((slices_Index_int_int.f k l0 a1).bind fun t204=>(some (decide (t204 ≥ 0))))=some r:=h
 clear h
 replace H:=Option.bind_eq_some_iff.mp H
 obtain ⟨t204,A30,H⟩:=H
 replace H:(some (decide (t204 ≥ 0)))=some r:=H
 have A3:=Aside0.mk A30
 clear A30
 obtain rfl:=Option.some.inj H
 go_enter Tryz.func86,Tryz.ntmps86
 go_wp2_with (first|((with_reducible refine gate_callee (f:=118) rfl ?_);refine goesL_ (some 7) rfl rfl Tryz.func118 (by kernel_rfl) rfl #[.slice A0 l0.length c0,.int .i64 a1] rfl (by (try simp only [List.map_toArray,List.map_cons,List.map_nil]);first|done|rfl|(simp only [List.length_drop,List.length_take];rfl)) ?_;(with_reducible refine (slices_Index_int_int.calls k _ _ l0 a1 t204 _ ?side1 ?side2 A3.out).mono ?_);(case side1=>repeat (first|exact HR0.out|(with_reducible refine Kd.C_alloc ?_ _)|(with_reducible refine Kd.C_drewN ?_ _)|(with_reducible refine Kd.C_drew ?_)));(case side2=>exact HC0.out);rintro e w' ⟨rfl,⟨nd,rfl⟩⟩;refine ⟨_,rfl,?_⟩))
 go_ret
 exact ⟨by first|rfl|(simp;done)|(simp [*];done),by repeat (first|exact Drawn0.refl _|apply Drawn0.step)⟩
def stripeio_first.l0:Nat->List Int->Int->Int->Option (Int)
 | 0,_,_,_=>none
 | k+1,x5,x6,x7=>if x7 < x6 then (if 0<=x7 then (if x7 < (x5.length:Int) then (if (rd x5 x7)=0 then (stripeio_first.l0 k x5 x6 (wrap64 (x7+1))) else (some (rd x5 x7))) else (none)) else (none)) else (some 0)
def stripeio_first.f (k:Nat) (l0:List Int):Option (Int):=stripeio_first.l0 k l0 (l0.length:Int) 0
theorem stripeio_first.mono_l:∀ k,(∀ y0 y1 y2,LeO (stripeio_first.l0 k y0 y1 y2) (stripeio_first.l0 (k+1) y0 y1 y2))
 | 0=>fun _ _ _ r h=>by simp [stripeio_first.l0] at h
 | k+1=>by
  have ih0:=stripeio_first.mono_l k
  ·intro y0 y1 y2
   unfold stripeio_first.l0
   repeat' first
   | (with_reducible exact ih0 _ _ _)
   | (with_reducible exact LeO.refl _)
   | (with_reducible exact LeO.none _)
   | (with_reducible refine LeO.ite ?_ ?_)
   | (with_reducible refine LeO.bind ?_ (fun _=>?_))
   | exact ih0 _ _ _
   | exact LeO.none _
   | refine LeO.ite ?_ ?_
   | refine LeO.bind ?_ (fun _=>?_)
theorem stripeio_first.mono:∀ a0 k,LeO (stripeio_first.f k a0) (stripeio_first.f (k+1) a0):=by
 intro a0 k
 have ih0:=stripeio_first.mono_l k
 unfold stripeio_first.f
 repeat' first
   | (with_reducible exact ih0 _ _ _)
   | (with_reducible exact LeO.refl _)
   | (with_reducible exact LeO.none _)
   | (with_reducible refine LeO.ite ?_ ?_)
   | (with_reducible refine LeO.bind ?_ (fun _=>?_))
   | exact ih0 _ _ _
   | exact LeO.none _
   | refine LeO.ite ?_ ?_
   | refine LeO.bind ?_ (fun _=>?_)
set_option maxHeartbeats 8000000 in
set_option maxRecDepth 100000 in
theorem stripeio_first.calls (k:Nat) (A0:Option Addr) (c0:Nat) (l0:List Int) (r:Int) (w:World) (hr0:Kd.C (Kd.int .i64) w A0 l0.length l0) (hc0:l0.length<=c0) (h:stripeio_first.f k l0=some r) :
  Calls Tryz.prog 123 #[.slice A0 l0.length c0] w fun e w'=>e=.returned (.int .i64 r)/\Drawn0 w w':=by
 have HR0:=Aside0.mk hr0
 have HC0:=Aside0.mk hc0
 clear hr0 hc0
 have H:(stripeio_first.l0 k l0 (l0.length:Int) 0)=some r:=h
 clear h
 have H':=Aside0.mk H
 clear H
 go_enter Tryz.func123,Tryz.ntmps123
 go_wp2
 go_loopg [7] k (fun kq v7 w'=>∃ (x7_1:Int),v7=.int .i64 x7_1/\Aside0 (stripeio_first.l0 kq l0 (l0.length:Int) x7_1=some r)/\Aside0 (kq<=k)/\Drawn0 w w')
 case atStart=>exact ⟨(0),(by first|rfl|(simp;done)|(simp [*];done)),H',⟨Nat.le_refl _⟩,by repeat (first|exact Drawn0.refl _|apply Drawn0.step)⟩
 case round =>
  clear H'
  try clear c1
  obtain ⟨x7_1,rfl,HA,HK1,⟨m1,rfl⟩⟩:=hrel
  cases gk with
  | zero=>exact absurd HA.out (by simp [stripeio_first.l0])
  | succ k1 =>
   have H:=HA.out
   clear HA
   simp only [stripeio_first.l0] at H
   by_cases c2:x7_1 < (l0.length:Int)
   ·rw [if_pos c2] at H
    have c2b0:decide (x7_1 < (l0.length:Int))=true:=decide_eq_true c2
    clear c2
    by_cases c3:0<=x7_1
    ·rw [if_pos c3] at H
     have c3b0:decide (0<=x7_1)=true:=decide_eq_true c3
     clear c3
     by_cases c4:x7_1 < (l0.length:Int)
     ·rw [if_pos c4] at H
      have c4b0:decide (x7_1 < (l0.length:Int))=true:=decide_eq_true c4
      clear c4
      by_cases c5:(rd l0 x7_1)=0
      ·rw [if_pos c5] at H
       have c5b0:((rd l0 x7_1) == 0)=true:=beq_iff_eq.mpr c5
       have c5b1:((rd l0 x7_1) != 0)=false:=bne_eq_false_iff_eq.mpr c5
       clear c5
       have H':=Aside0.mk H
       clear H
       have p205:0<=(x7_1:Int):=of_decide_eq_true (by first|(with_reducible assumption)|assumption)
       have q205:x7_1 < (l0.length:Int):=of_decide_eq_true (by first|(with_reducible assumption)|assumption)
       obtain ⟨ad205,e205,hx205_0⟩:=Kd.at_int HR0.out x7_1 p205 q205
       cases e205
       replace p205:=eq_true p205
       replace q205:=eq_true q205
       go_wp2
       go_roundg k1
       case measure=>have:=HK1.out;omega
       case rel=>exact ⟨(wrap64 (x7_1+1)),(by first|rfl|(simp;done)|(simp [*];done)),H',⟨by have:=HK1.out;omega⟩,by repeat (first|exact Drawn0.refl _|apply Drawn0.step)⟩
      ·rw [if_neg c5] at H
       have c5b0:((rd l0 x7_1) == 0)=false:=beq_eq_false_iff_ne.mpr c5
       have c5b1:((rd l0 x7_1) != 0)=true:=bne_iff_ne.mpr c5
       obtain rfl:=Option.some.inj H
       have p205:0<=(x7_1:Int):=of_decide_eq_true (by first|(with_reducible assumption)|assumption)
       have q205:x7_1 < (l0.length:Int):=of_decide_eq_true (by first|(with_reducible assumption)|assumption)
       obtain ⟨ad205,e205,hx205_0⟩:=Kd.at_int HR0.out x7_1 p205 q205
       cases e205
       replace p205:=eq_true p205
       replace q205:=eq_true q205
       go_wp2
       go_ret
       exact ⟨by first|rfl|(simp;done)|(simp [*];done),by repeat (first|exact Drawn0.refl _|apply Drawn0.step)⟩
     ·rw [if_neg c4] at H
      exact absurd H (by simp)
    ·rw [if_neg c3] at H
     exact absurd H (by simp)
   ·rw [if_neg c2] at H
    have c2b0:decide (x7_1 < (l0.length:Int))=false:=decide_eq_false c2
    clear c2
    obtain rfl:=Option.some.inj H
    go_wp2
    go_ret
    exact ⟨by first|rfl|(simp;done)|(simp [*];done),by repeat (first|exact Drawn0.refl _|apply Drawn0.step)⟩
def stripeio_argued.f (a0:Bool):Option (Int):=if a0=true then (some 0) else (some 1)
set_option maxHeartbeats 8000000 in
set_option maxRecDepth 100000 in
theorem stripeio_argued.calls (a0:Bool) (r:Int) (w:World) (h:stripeio_argued.f a0=some r) :
  Calls Tryz.prog 143 #[.bool a0] w fun e w'=>e=.returned (.int .i64 r)/\Drawn0 w w':=by
 have H:(if a0=true then (some 0) else (some 1))=some r:=h
 clear h
 by_cases c2:a0=true
 ·subst c2
  have H1:(some 0)=some r:=by rw [if_pos rfl] at H;exact H
  clear H
  have H:=H1
  clear H1
  obtain rfl:=Option.some.inj H
  go_enter Tryz.func143,Tryz.ntmps143
  go_wp2
  go_ret
  exact ⟨by first|rfl|(simp;done)|(simp [*];done),by repeat (first|exact Drawn0.refl _|apply Drawn0.step)⟩
 ·replace c2:=Bool.eq_false_iff.mpr c2
  subst c2
  have H1:(some 1)=some r:=by rw [if_neg (show ¬ (false=true) by decide)] at H;exact H
  clear H
  have H:=H1
  clear H1
  obtain rfl:=Option.some.inj H
  go_enter Tryz.func143,Tryz.ntmps143
  go_wp2
  go_ret
  exact ⟨by first|rfl|(simp;done)|(simp [*];done),by repeat (first|exact Drawn0.refl _|apply Drawn0.step)⟩
end Go.Proofs.YtmmcbncpnlknbaaGreat.PAll
namespace Go.Proofs.YtmmcbncpnlknbaaGreat.LayA
open Go.RowKit Go.Proofs.YtmmcbncpnlknbaaGreat.PAll Go.Proofs.YtmmcbncpnlknbaaGreatW.PrintWords Go.Proofs.YtmmcbncpnlknbaaGreatW.PrintLast
def R (x:Int):Prop:=-9223372036854775808<=x/\x<=9223372036854775807
theorem of_wf {x:Int} (h:(Lit.int .i64 x).wf=true):R x:=by
 simp [Lit.wf,IntKind.min,IntKind.max,IntKind.signed,IntKind.bits] at h
 exact h
def Good (K M Z T L O:Int):Prop:=1<=K/\0<=M/\K+M<=32/\1<=Z/\Z<=4096/\1<=T/\T<=256/\1<=L/\L<=64/\1<=O/\O<=64
instance (K M Z T L O:Int):Decidable (Good K M Z T L O):=by unfold Good;infer_instance
section
variable (K M Z T L O:Int)
def chk:Int:=if Good K M Z T L O then 0 else 50
end
end Go.Proofs.YtmmcbncpnlknbaaGreat.LayA
namespace Go.Proofs.YtmmcbncpnlknbaaGreat.Top
open Go Go.RowKit Go.Proofs.YtmmcbncpnlknbaaGreatW.PrintWords Go.Proofs.YtmmcbncpnlknbaaGreatW.PrintLast Go.Proofs.YtmmcbncpnlknbaaGreatW.PrintMore
def geoV (K M Z T L O:Int):Value:=.agg #[.int .i64 K,.int .i64 M,.int .i64 Z,.int .i64 T,.int .i64 L,.int .i64 O]
def lineC (a f:Nat) (K M Z T L O st ep:Int):Array Value:=#[.pointer (some ⟨a,0,none⟩),.pointer (some ⟨f,0,none⟩),.int .i64 K,.int .i64 M,.int .i64 Z,.int .i64 T,.int .i64 L,.int .i64 O,.int .i64 st,.int .i64 ep]
def lineV (a f:Nat) (K M Z T L O st ep:Int):Value:=.agg (lineC a f K M Z T L O st ep)
section
set_option maxRecDepth 100000
theorem chk1_ok {x y:Int} {b:Bool} (hb:decide (1<=x/\x<=y)=b) (w:World):Calls Tryz.prog 24 #[.int .i64 x,.int .i64 y] w fun e w'=>e=.returned (.bool b)/\w'=w:=by
 go_enter Tryz.func24,Tryz.ntmps24
 subst hb
 by_cases p1:1<=x <;> by_cases p2:x<=y
 all_goals
  go_wp2
  go_ret
  exact ⟨by simp [p1,p2],rfl⟩
theorem cau_ok {K M x:Int} (hK:LayA.R K) (hM:LayA.R M) (hx:(if 1<=K/\0<=M/\K+M<=256 then 0 else 50)=x) (w:World):Calls Tryz.prog 25 #[.int .i64 K,.int .i64 M] w fun e w'=>e=.returned (.int .i64 x)/\w'=w:=by
 unfold LayA.R at hK hM
 subst hx
 rcases (show K < 1∨(¬ K < 1/\M < 0)∨(¬ K < 1/\¬ M < 0/\256 < K)∨(¬ K < 1/\¬ M < 0/\¬ 256 < K/\256 - K < M)∨(¬ K < 1/\¬ M < 0/\¬ 256 < K/\¬ 256 - K < M) by omega) with p1|⟨p1,p2⟩|⟨p1,p2,p3⟩|⟨p1,p2,p3,p4⟩|⟨p1,p2,p3,p4⟩
 all_goals (
  first|rw [if_neg (by omega)]|rw [if_pos (by omega)]
  go_enter Tryz.func25,Tryz.ntmps25
  try (have gw:wrap64 (256 - K)=256 - K:=w64 _ (by omega))
  go_wp2
  go_ret
  exact ⟨rfl,rfl⟩)
theorem box23 {w:World} {g:Nat} {K M Z T L O:Int} (h:w.heap[g]?=some (.cells #[.int .i64 K,.int .i64 M,.int .i64 Z,.int .i64 T,.int .i64 L,.int .i64 O] 23 (0,0))):w.cell? ⟨g,0,none⟩=some (.int .i64 K)/\w.cell? ⟨g,1,none⟩=some (.int .i64 M)/\w.cell? ⟨g,2,none⟩=some (.int .i64 Z)/\w.cell? ⟨g,3,none⟩=some (.int .i64 T)/\w.cell? ⟨g,4,none⟩=some (.int .i64 L)/\w.cell? ⟨g,5,none⟩=some (.int .i64 O):=by simp [World.cell?,h]
def gk (b:Bool):Int:=if b=true then 0 else 50
set_option maxHeartbeats 4000000 in
theorem gchk_ok {K M Z T L O:Int} (hK:LayA.R K) (hM:LayA.R M) (w:World) :
  Calls Tryz.prog 12 #[geoV K M Z T L O] w fun e w'=>e=.returned (.int .i64 (LayA.chk K M Z T L O))/\Below w.heap.size w w':=by
 have H0:=Aside0.mk (below_alloc (Below.refl w.heap.size w) (.cells #[.int .i64 K,.int .i64 M,.int .i64 Z,.int .i64 T,.int .i64 L,.int .i64 O] 23))
 unfold geoV
 by_cases c0:1<=K/\0<=M/\K+M<=256
 ·have HC:=Aside0.mk (fun W=>cau_ok hK hM (if_pos c0) W)
  have gw:wrap64 (K+M)=K+M:=w64 _ (by omega)
  obtain ⟨b1,h1⟩:∃ b,decide (1<=K+M/\K+M<=32)=b:=⟨_,rfl⟩
  obtain ⟨b2,h2⟩:∃ b,decide (1<=Z/\Z<=4096)=b:=⟨_,rfl⟩
  obtain ⟨b3,h3⟩:∃ b,decide (1<=T/\T<=256)=b:=⟨_,rfl⟩
  obtain ⟨b4,h4⟩:∃ b,decide (1<=L/\L<=64)=b:=⟨_,rfl⟩
  obtain ⟨b5,h5⟩:∃ b,decide (1<=O/\O<=64)=b:=⟨_,rfl⟩
  have D1:=Aside0.mk (fun W=>chk1_ok h1 W)
  have D2:=Aside0.mk (fun W=>chk1_ok h2 W)
  have D3:=Aside0.mk (fun W=>chk1_ok h3 W)
  have D4:=Aside0.mk (fun W=>chk1_ok h4 W)
  have D5:=Aside0.mk (fun W=>chk1_ok h5 W)
  have HE:LayA.chk K M Z T L O=gk (b1 && b2 && b3 && b4 && b5):=by
   rw [<- h1,<- h2,<- h3,<- h4,<- h5]
   unfold gk
   by_cases h:LayA.Good K M Z T L O
   ·rw [show LayA.chk K M Z T L O=0 from if_pos h,if_pos (by simp only [Bool.and_eq_true,decide_eq_true_eq];unfold LayA.Good at h;omega)]
   ·rw [show LayA.chk K M Z T L O=50 from if_neg h,if_neg (fun k=>h (by simp only [Bool.and_eq_true,decide_eq_true_eq] at k;unfold LayA.Good;omega))]
  rw [HE]
  clear h1 h2 h3 h4 h5 HE c0
  rcases (show b1=false∨b1=true/\b2=false∨b1=true/\b2=true/\b3=false∨b1=true/\b2=true/\b3=true/\b4=false∨b1=true/\b2=true/\b3=true/\b4=true/\b5=false∨b1=true/\b2=true/\b3=true/\b4=true/\b5=true by cases b1 <;> cases b2 <;> cases b3 <;> cases b4 <;> cases b5 <;> simp) with rfl|⟨rfl,rfl⟩|⟨rfl,rfl,rfl⟩|⟨rfl,rfl,rfl,rfl⟩|⟨rfl,rfl,rfl,rfl,rfl⟩|⟨rfl,rfl,rfl,rfl,rfl⟩
  all_goals (
   go_enter Tryz.func12,Tryz.ntmps12
   go_wp2_with (first|(go_at_call 25;go_loud (refine (HC.out _).mono ?_;rintro e1 w1 ⟨rfl,rfl⟩))|(go_at_call 24;first|(with_reducible refine (D1.out _).mono ?_;rintro e2 w2 ⟨rfl,rfl⟩)|(with_reducible refine (D2.out _).mono ?_;rintro e2 w2 ⟨rfl,rfl⟩)|(with_reducible refine (D3.out _).mono ?_;rintro e2 w2 ⟨rfl,rfl⟩)|(with_reducible refine (D4.out _).mono ?_;rintro e2 w2 ⟨rfl,rfl⟩)|(with_reducible refine (D5.out _).mono ?_;rintro e2 w2 ⟨rfl,rfl⟩)))
   go_ret
   exact ⟨rfl,H0.out⟩)
 ·have HC:=Aside0.mk (fun W=>cau_ok hK hM (if_neg c0) W)
  rw [show LayA.chk K M Z T L O=50 from if_neg (by unfold LayA.Good;omega)]
  go_enter Tryz.func12,Tryz.ntmps12
  go_wp2_with (first|(go_at_call 25;go_loud (refine (HC.out _).mono ?_;rintro e1 w1 ⟨rfl,rfl⟩)))
  go_ret
  exact ⟨rfl,H0.out⟩
theorem cell_lt' {w:World} {p:Addr} {v:Value} (h:w.cell? p=some v):p.block < w.heap.size:=by
 unfold World.cell? at h
 split at h
 ·rename_i h1
  exact (Array.getElem?_eq_some_iff.1 h1).1
 ·cases h
section
variable {K M Z T L O:Int} {w W:World}
theorem gchk0 (hg:LayA.Good K M Z T L O) (w:World):Calls Tryz.prog 12 #[.agg #[.int .i64 K,.int .i64 M,.int .i64 Z,.int .i64 T,.int .i64 L,.int .i64 O]] w fun e w'=>e=.returned (.int .i64 0)/\Below w.heap.size w w':=by
 have hg':=hg
 unfold LayA.Good at hg'
 have h:=gchk_ok (K:=K) (M:=M) (Z:=Z) (T:=T) (L:=L) (O:=O) (by unfold LayA.R;omega) (by unfold LayA.R;omega) w
 rwa [show LayA.chk K M Z T L O=0 from if_pos hg] at h
structure Bx23 (w W:World) (K M Z T L O:Int):Prop where
 at_:W.heap[w.heap.size]?=some (.cells #[.int .i64 K,.int .i64 M,.int .i64 Z,.int .i64 T,.int .i64 L,.int .i64 O] 23 (0,0))
 bel:Below w.heap.size w W
theorem Bx23.mk0 (w:World) (K M Z T L O:Int):Bx23 w (w.alloc (.cells #[.int .i64 K,.int .i64 M,.int .i64 Z,.int .i64 T,.int .i64 L,.int .i64 O] 23)) K M Z T L O:=⟨heap_alloc_new w _,below_alloc (Below.refl _ _) _⟩
theorem Bx23.step {W2:World} (h:Bx23 w W K M Z T L O) (hb:Below W.heap.size W W2):Bx23 w W2 K M Z T L O:=⟨(hb.block _ (blk_lt h.1)).trans h.1,below_step h.2 hb⟩
def PsR (w:World) (A:Option Addr) (ps:List Int):Prop:=∀ j,j < ps.length->∃ ad,A=some ad/\w.cell? (ad.add j)=some (.int .i64 (ps.getD j 0))
theorem PsR.below {A:Option Addr} {ps:List Int} (h:PsR w A ps) (hb:Below w.heap.size w W):PsR W A ps:=fun j hj=>by
 obtain ⟨ad,e,hc⟩:=h j hj
 exact ⟨ad,e,(hb.cell (cell_lt' hc)).trans hc⟩
theorem ps_at {g:Nat} {ps:List Int} (h:w.heap[g]?=some (.cells (ps.map (Value.int .i64)).toArray 3 (0,0))):PsR w (some ⟨g,0,none⟩) ps:=fun j hj=>⟨_,rfl,by
 have e:(⟨g,0,none⟩:Addr).add j=⟨g,j,none⟩:=by unfold Addr.add;split <;> simp_all
 rw [e,cell_of_row w g j _ _ _ h]
 simp [hj]⟩
theorem sum_le:∀ l:List Int,(∀ x ∈ l,0<=x/\x<=1000000)->0<=l.sum/\l.sum<=1000000*l.length
 | [],_=>by simp
 | a :: l,h=>by
  have h1:=sum_le l (fun x hx=>h x (List.mem_cons_of_mem _ hx))
  have h2:=h a List.mem_cons_self
  rw [List.sum_cons,List.length_cons]
  omega
set_option maxHeartbeats 2000000 in
theorem place_ok (hg:LayA.Good K M Z T L O) {i n:Int} (hi:0<=i/\i < n) (hn:n<=1000000) {A:Option Addr} {c:Nat} {ps:List Int} (hp:∀ x ∈ ps,0<=x/\x<=1000000) (hl:ps.length<=3) (hA:PsR w A ps) :
  Calls Tryz.prog 34 #[geoV K M Z T L O,.int .i64 i,.int .i64 n,.slice A ps.length c] w fun e w'=>e=.returned (.int .i64 (1+i+ps.sum))/\Below w.heap.size w w':=by
 have H0:=Aside0.mk (Bx23.mk0 w K M Z T L O)
 obtain ⟨p0,p1,p2,p3,p4,p5⟩:=box23 H0.out.1
 have HC:=Aside0.mk (fun W=>gchk0 hg W)
 obtain ⟨m,hm⟩:∃ m,ps.length=m:=⟨_,rfl⟩
 have HP:=Aside0.mk (And.intro hA (And.intro hp (And.intro hm hl)))
 have f1:¬ i < 0:=by omega
 have f2:¬ n<=i:=by omega
 have gw:wrap64 (1+i)=1+i:=w64 _ (by omega)
 have HI:=Aside0.mk (And.intro hi hn)
 rw [hm]
 unfold geoV
 clear hA hp hl hm hi hn hg
 go_enter Tryz.func34,Tryz.ntmps34
 go_wp2_with (first|(go_at_call 12;go_loud (refine (HC.out _).mono ?_;rintro e1 w1 ⟨rfl,hb1⟩;have H1:=Aside0.mk (H0.out.step hb1);clear hb1)))
 go_loopg [9,11,28] m (fun kq x9 x11 x28 wr=>∃ j:Nat,x28=.int .i64 j/\j+kq=m/\x9=.int .i64 (1+i+(ps.take j).sum)/\Aside0 (Below w.heap.size w wr))
 case atStart=>exact ⟨0,rfl,by omega,by simp [gw],⟨H1.out.bel⟩⟩
 case round =>
  obtain ⟨j,rfl,hj,rfl,HB⟩:=hrel
  by_cases hin:j < m
  ·have g1:(j:Int) < (m:Int):=by omega
   have g0:(0:Int)<=(j:Int):=by omega
   have gj:wrap64 ((j:Int)+1)=(j:Int)+1:=w64 _ (by have:=HP.out.2.2;omega)
   have hjl:j < ps.length:=by have:=HP.out.2.2;omega
   obtain ⟨ad,rfl,hx⟩:=HP.out.1.below HB.out j hjl
   have hs:(ps.take (j+1)).sum=(ps.take j).sum+ps.getD j 0:=by rw [List.take_succ_eq_append_getElem hjl,List.sum_append,List.getD_eq_getElem?_getD,List.getElem?_eq_getElem hjl];simp
   have hb1:=sum_le (ps.take j) (fun x hx=>HP.out.2.1 x (List.mem_of_mem_take hx))
   have hb2:=HP.out.2.1 (ps.getD j 0) (by rw [List.getD_eq_getElem?_getD,List.getElem?_eq_getElem hjl];exact List.getElem_mem _)
   have hb3:(ps.take j).length<=3:=by rw [List.length_take];have:=HP.out.2.2;omega
   generalize ps.getD j 0=x at *
   generalize (ps.take j).sum=s at *
   have gs:wrap64 (1+i+s+x)=1+i+s+x:=w64 _ (by have:=HI.out;omega)
   have HQ:=Aside0.mk (And.intro hin (And.intro hj hs))
   clear hs hb1 hb2 hb3 hjl
   go_wp2
   go_roundg (m - (j+1))
   case measure=>exact meas5 HQ.out.1 HQ.out.2.1
   case rel=>exact ⟨j+1,by simp [gj],meas4 HQ.out.1,by rw [HQ.out.2.2];simp [gs];omega,HB⟩
  ·have g1:¬ (j:Int) < (m:Int):=by omega
   go_wp2
   go_ret
   exact ⟨show Ending.returned (.int .i64 (1+i+(ps.take j).sum))=Ending.returned (.int .i64 (1+i+ps.sum)) by rw [List.take_of_length_le (by have:=HP.out.2.2;omega)],HB.out⟩
end
section
variable {K M Z T L O:Int} {w W:World}
theorem placeN (hg:LayA.Good K M Z T L O) {i n:Int} (hi:0<=i/\i < n) (hn:n<=1000000) {g c:Nat} (ps:List Int) (hp:∀ x ∈ ps,0<=x/\x<=1000000) (hl:ps.length<=3) (h:W.heap[g]?=some (.cells (ps.map (Value.int .i64)).toArray 3 (0,0))) {r:Int} (hr:1+i+ps.sum=r) :
  Calls Tryz.prog 34 #[.agg #[.int .i64 K,.int .i64 M,.int .i64 Z,.int .i64 T,.int .i64 L,.int .i64 O],.int .i64 i,.int .i64 n,.slice (some ⟨g,0,none⟩) ps.length c] W fun e w'=>e=.returned (.int .i64 r)/\Below W.heap.size W w':=by
 subst hr
 exact place_ok hg hi hn hp hl (ps_at h)
theorem place0 (hg:LayA.Good K M Z T L O) {i n:Int} (hi:0<=i/\i < n) (hn:n<=1000000) (W:World) :
  Calls Tryz.prog 34 #[.agg #[.int .i64 K,.int .i64 M,.int .i64 Z,.int .i64 T,.int .i64 L,.int .i64 O],.int .i64 i,.int .i64 n,.slice none 0 0] W fun e w'=>e=.returned (.int .i64 (1+i))/\Below W.heap.size W w':=by
 have h:=place_ok (w:=W) hg hi hn (A:=none) (c:=0) (ps:=[]) (by simp) (by simp) (fun j hj=>by simp at hj)
 simpa [geoV] using h
theorem row2 (w:World) (a b:Obj):((w.alloc a).alloc b).heap[w.heap.size+1]?=some b:=by
 have h:=heap_alloc_new (w.alloc a) b
 rw [hsz] at h
 exact h
theorem slot_ok {i:Int} (hg:LayA.Good K M Z T L O) (hi:0<=i/\i < L) (w:World) :
  Calls Tryz.prog 139 #[geoV K M Z T L O,.int .i64 i] w fun e w'=>e=.returned (.int .i64 (5+i))/\Below w.heap.size w w':=by
 have H0:=Aside0.mk (Bx23.mk0 w K M Z T L O)
 obtain ⟨p0,p1,p2,p3,p4,p5⟩:=box23 H0.out.1
 have HP:=Aside0.mk (fun (W:World) (g c:Nat) (h:W.heap[g]?=some (.cells #[.int .i64 4] 3 (0,0)))=>placeN hg hi (by unfold LayA.Good at hg;omega) (c:=c) [4] (by simp) (by simp) h (r:=5+i) (by simp;omega))
 unfold geoV
 clear hg hi
 go_enter Tryz.func139,Tryz.ntmps139
 go_wp2_with (first|(go_at_call 34;go_loud (refine (HP.out _ _ _ (row2 w _ _)).mono ?_;rintro e1 w1 ⟨rfl,hb1⟩;have H1:=Aside0.mk ((H0.out.step (below_alloc (Below.refl _ _) _)).step hb1);clear hb1)))
 go_ret
 exact ⟨rfl,H1.out.bel⟩
theorem stripe_ok {st:Int} (hg:LayA.Good K M Z T L O) (hs:0<=st/\st < T) (w:World) :
  Calls Tryz.prog 174 #[geoV K M Z T L O,.int .i64 st] w fun e w'=>e=.returned (.int .i64 (5+L+st))/\Below w.heap.size w w':=by
 have hg':=hg
 unfold LayA.Good at hg'
 have H0:=Aside0.mk (Bx23.mk0 w K M Z T L O)
 obtain ⟨p0,p1,p2,p3,p4,p5⟩:=box23 H0.out.1
 have HP:=Aside0.mk (fun (W:World) (g c:Nat) (h:W.heap[g]?=some (.cells #[.int .i64 4,.int .i64 L] 3 (0,0)))=>placeN hg hs (by omega) (c:=c) [4,L] (by simp;omega) (by simp) h (r:=5+L+st) (by simp;omega))
 unfold geoV
 clear hg hs hg'
 go_enter Tryz.func174,Tryz.ntmps174
 go_wp2_with (first|(go_at_call 34;go_loud (refine (HP.out _ _ _ (row2 w _ _)).mono ?_;rintro e1 w1 ⟨rfl,hb1⟩;have H1:=Aside0.mk ((H0.out.step (below_alloc (Below.refl _ _) _)).step hb1);clear hb1)))
 go_ret
 exact ⟨rfl,H1.out.bel⟩
theorem sectors_ok (hg:LayA.Good K M Z T L O) (w:World) :
  Calls Tryz.prog 19 #[geoV K M Z T L O] w fun e w'=>e=.returned (.int .i64 (5+L+T))/\Below w.heap.size w w':=by
 have hg':=hg
 unfold LayA.Good at hg'
 have H0:=Aside0.mk (Bx23.mk0 w K M Z T L O)
 obtain ⟨p0,p1,p2,p3,p4,p5⟩:=box23 H0.out.1
 have HP:=Aside0.mk (fun (W:World) (g c:Nat) (h:W.heap[g]?=some (.cells #[.int .i64 4,.int .i64 L,.int .i64 T] 3 (0,0)))=>placeN hg (i:=0) (n:=1) (by omega) (by omega) (c:=c) [4,L,T] (by simp;omega) (by simp) h (r:=5+L+T) (by simp;omega))
 unfold geoV
 clear hg hg'
 go_enter Tryz.func19,Tryz.ntmps19
 go_wp2_with (first|(go_at_call 34;go_loud (refine (HP.out _ _ _ (row2 w _ _)).mono ?_;rintro e1 w1 ⟨rfl,hb1⟩;have H1:=Aside0.mk ((H0.out.step (below_alloc (Below.refl _ _) _)).step hb1);clear hb1)))
 go_ret
 exact ⟨rfl,H1.out.bel⟩
theorem area_ok {i j:Int} (hg:LayA.Good K M Z T L O) (hi:0<=i/\i < 2) (hj:0<=j/\j < 2) (w:World) :
  Calls Tryz.prog 59 #[geoV K M Z T L O,.int .i64 i,.int .i64 j] w fun e w'=>e=.returned (.int .i64 (1+i*2+j))/\Below w.heap.size w w':=by
 have H0:=Aside0.mk (Bx23.mk0 w K M Z T L O)
 obtain ⟨p0,p1,p2,p3,p4,p5⟩:=box23 H0.out.1
 have HQ:=Aside0.mk (fun W=>place0 hg hi (by omega) W)
 have HP:=Aside0.mk (fun (W:World) (g c:Nat) (h:W.heap[g]?=some (.cells #[.int .i64 (i*2)] 3 (0,0)))=>placeN hg hj (by omega) (c:=c) [i*2] (by simp;omega) (by simp) h (r:=1+i*2+j) (by simp;omega))
 have gw:wrap64 (i*2)=i*2:=w64 _ (by omega)
 have hne:(1+i == 0)=false:=by simp;omega
 unfold geoV
 clear hg hj
 go_enter Tryz.func59,Tryz.ntmps59
 go_wp2_with (first|(go_at_call 34;(with_reducible refine (HQ.out _).mono ?_);rintro e1 w1 ⟨rfl,hb1⟩;have H1:=Aside0.mk (H0.out.step hb1);clear hb1;obtain ⟨q0,q1,q2,q3,q4,q5⟩:=box23 H1.out.1)|(go_at_call 34;go_loud (refine (HP.out _ _ _ (heap_alloc_new _ _)).mono ?_;rintro e2 w2 ⟨rfl,hb2⟩;have H2:=Aside0.mk ((H1.out.step (below_alloc (Below.refl _ _) _)).step hb2);clear hb2)))
 go_ret
 exact ⟨rfl,H2.out.bel⟩
theorem disk_ok {st h:Int} (hg:LayA.Good K M Z T L O) (hs:0<=st/\st < T) (hh:0<=h/\h < K+M) (w:World) :
  Calls Tryz.prog 149 #[geoV K M Z T L O,.int .i64 st,.int .i64 h] w fun e w'=>e=.returned (.int .i64 ((h+st) % (K+M)))/\Below w.heap.size w w':=by
 have hg':=hg
 unfold LayA.Good at hg'
 have H0:=Aside0.mk (Bx23.mk0 w K M Z T L O)
 obtain ⟨p0,p1,p2,p3,p4,p5⟩:=box23 H0.out.1
 have HQ:=Aside0.mk (fun W=>place0 hg hs (by omega) W)
 have HP:=Aside0.mk (fun W=>place0 hg hh (by omega) W)
 have g1:wrap64 (K+M)=K+M:=w64 _ (by omega)
 have g2:wrap64 (h+st)=h+st:=w64 _ (by omega)
 have n1:(1+st == 0)=false:=by simp;omega
 have n2:(1+h == 0)=false:=by simp;omega
 have n3:¬ K+M=0:=by omega
 have ht:(h+st).tmod (K+M)=(h+st) % (K+M):=Int.tmod_eq_emod_of_nonneg (by omega)
 have hb:=Int.emod_lt_of_pos (h+st) (show 0 < K+M by omega)
 have hb0:=Int.emod_nonneg (h+st) n3
 have g3:wrap64 ((h+st) % (K+M))=(h+st) % (K+M):=w64 _ (by omega)
 unfold geoV
 clear hg
 go_enter Tryz.func149,Tryz.ntmps149
 go_wp2_with (first|(go_at_call 34;(with_reducible refine (HQ.out _).mono ?_);rintro e1 w1 ⟨rfl,hb1⟩;have H1:=Aside0.mk (H0.out.step hb1);clear hb1;obtain ⟨q0,q1,q2,q3,q4,q5⟩:=box23 H1.out.1)|(go_at_call 34;(with_reducible refine (HP.out _).mono ?_);rintro e2 w2 ⟨rfl,hb2⟩;have H2:=Aside0.mk (H1.out.step hb2);clear hb2;obtain ⟨r0,r1,r2,r3,r4,r5⟩:=box23 H2.out.1))
 go_ret
 exact ⟨rfl,H2.out.bel⟩
end
end
theorem gcheck_ok {K M Z T L O:Int} (hg:LayA.Good K M Z T L O) (w:World) :
  Calls Tryz.prog 12 #[geoV K M Z T L O] w fun e w'=>e=.returned (.int .i64 0)/\Below w.heap.size w w':=gchk0 hg w
set_option maxRecDepth 100000 in
set_option maxHeartbeats 1000000 in
theorem lat_ok {K M Z T L O st ep:Int} (a f:Nat) (hg:LayA.Good K M Z T L O) (hs:0<=st/\st < T) (w:World) :
  Calls Tryz.prog 148 #[lineV a f K M Z T L O st ep] w fun e w'=>e=.returned (.int .i64 (5+L+st))/\Below w.heap.size w w':=by
 have HS:=Aside0.mk (fun W=>stripe_ok (O:=O) (Z:=Z) hg hs W)
 unfold geoV at HS
 unfold lineV lineC
 clear hg hs
 go_enter Tryz.func148,Tryz.ntmps148
 go_wp2_with (first|(go_at_call 174;go_loud (refine (HS.out _).mono ?_;rintro e1 w1 ⟨rfl,hb1⟩;have HB1:=Aside0.mk hb1;clear hb1))|fail)
 go_ret
 exact ⟨rfl,below_step (below_alloc (Below.refl _ _) _) HB1.out⟩
end Go.Proofs.YtmmcbncpnlknbaaGreat.Top
