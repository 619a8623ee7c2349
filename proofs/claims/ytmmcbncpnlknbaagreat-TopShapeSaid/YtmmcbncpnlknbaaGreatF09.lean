import Derived.Test.YtmmcbncpnlknbaaGreatF08
set_option linter.unusedVariables false
set_option linter.unusedSimpArgs false
namespace Go.Proofs.YtmmcbncpnlknbaaGreat.PAll
open Go.RowKit Go.Proofs.YtmmcbncpnlknbaaGreatW.PrintWords Go.Proofs.YtmmcbncpnlknbaaGreatW.PrintLast Go.Proofs.YtmmcbncpnlknbaaGreatW.PrintMore
mutual
def poly_sum.l0:Nat->List Int->List (List Int)->Int->Int->Option (List Int)
 | 0,_,_,_,_=>none
 | k+1,x3,x8,x9,x10=>if x10 < x9 then (if 0<=x10 then (if x10 < (x8.length:Int) then (poly_sum.l1 k x3 x8 x9 x10 (rd_L5 x8 x10) ((rd_L5 x8 x10).length:Int) 0) else (none)) else (none)) else (poly_sum.l2 k x3)
def poly_sum.l1:Nat->List Int->List (List Int)->Int->Int->List Int->Int->Int->Option (List Int)
 | 0,_,_,_,_,_,_,_=>none
 | k+1,x3,x8,x9,x10,x14,x15,x16=>if x16 < x15 then (if 0<=x16 then (if x16 < (x14.length:Int) then (if x16=(x3.length:Int) then (if x3.length < 140737488355328 then ((some (x3 ++ [0]:List Int)).bind fun y230=>(if x16 < (y230.length:Int) then (poly_sum.l1 k (y230.set (x16:Int).toNat (Go.bits .xor .u8 (rd y230 x16) (rd x14 x16))) x8 x9 x10 x14 x15 (wrap64 (x16+1))) else (none))) else (none)) else (if x16 < (x3.length:Int) then (poly_sum.l1 k (x3.set (x16:Int).toNat (Go.bits .xor .u8 (rd x3 x16) (rd x14 x16))) x8 x9 x10 x14 x15 (wrap64 (x16+1))) else (none))) else (none)) else (none)) else (poly_sum.l0 k x3 x8 x9 (wrap64 (x10+1)))
def poly_sum.l2:Nat->List Int->Option (List Int)
 | 0,_=>none
 | k+1,x3=>if (x3.length:Int) > 0 then (if 0<=(wrap64 ((x3.length:Int) - 1)) then (if (wrap64 ((x3.length:Int) - 1)) < (x3.length:Int) then (poly_sum.j3 k x3 ((rd x3 (wrap64 ((x3.length:Int) - 1))) == 0)) else (none)) else (none)) else (poly_sum.j3 k x3 false)
def poly_sum.j3:Nat->List Int->Bool->Option (List Int)
 | 0,_,_=>none
 | k+1,x3,x48=>if x48=true then (if 0<=(wrap64 ((x3.length:Int) - 1)) then (if (wrap64 ((x3.length:Int) - 1))<=(x3.length:Int) then (poly_sum.l2 k (x3.take ((wrap64 ((x3.length:Int) - 1)):Int).toNat)) else (none)) else (none)) else (some x3)
end
def poly_sum.f (k:Nat) (l0:List (List Int)):Option (List Int):=poly_sum.l0 k ([]:List Int) l0 (l0.length:Int) 0
theorem poly_sum.mono_l:∀ k,(∀ y0 y1 y2 y3,LeO (poly_sum.l0 k y0 y1 y2 y3) (poly_sum.l0 (k+1) y0 y1 y2 y3))/\(∀ y0 y1 y2 y3 y4 y5 y6,LeO (poly_sum.l1 k y0 y1 y2 y3 y4 y5 y6) (poly_sum.l1 (k+1) y0 y1 y2 y3 y4 y5 y6))/\(∀ y0,LeO (poly_sum.l2 k y0) (poly_sum.l2 (k+1) y0))/\(∀ y0 y1,LeO (poly_sum.j3 k y0 y1) (poly_sum.j3 (k+1) y0 y1))
 | 0=>⟨fun _ _ _ _ r h=>by simp [poly_sum.l0] at h,fun _ _ _ _ _ _ _ r h=>by simp [poly_sum.l1] at h,fun _ r h=>by simp [poly_sum.l2] at h,fun _ _ r h=>by simp [poly_sum.j3] at h⟩
 | k+1=>by
  obtain ⟨ih0,ih1,ih2,ih3⟩:=poly_sum.mono_l k
  refine ⟨?_,?_,?_,?_⟩
  ·intro y0 y1 y2 y3
   unfold poly_sum.l0
   repeat' first
   | (with_reducible exact ih0 _ _ _ _)
   | (with_reducible exact ih1 _ _ _ _ _ _ _)
   | (with_reducible exact ih2 _)
   | (with_reducible exact ih3 _ _)
   | (with_reducible exact LeO.refl _)
   | (with_reducible exact LeO.none _)
   | (with_reducible refine LeO.ite ?_ ?_)
   | (with_reducible refine LeO.bind ?_ (fun _=>?_))
   | exact ih0 _ _ _ _
   | exact ih1 _ _ _ _ _ _ _
   | exact ih2 _
   | exact ih3 _ _
   | exact LeO.none _
   | refine LeO.ite ?_ ?_
   | refine LeO.bind ?_ (fun _=>?_)
  ·intro y0 y1 y2 y3 y4 y5 y6
   unfold poly_sum.l1
   repeat' first
   | (with_reducible exact ih0 _ _ _ _)
   | (with_reducible exact ih1 _ _ _ _ _ _ _)
   | (with_reducible exact ih2 _)
   | (with_reducible exact ih3 _ _)
   | (with_reducible exact LeO.refl _)
   | (with_reducible exact LeO.none _)
   | (with_reducible refine LeO.ite ?_ ?_)
   | (with_reducible refine LeO.bind ?_ (fun _=>?_))
   | exact ih0 _ _ _ _
   | exact ih1 _ _ _ _ _ _ _
   | exact ih2 _
   | exact ih3 _ _
   | exact LeO.none _
   | refine LeO.ite ?_ ?_
   | refine LeO.bind ?_ (fun _=>?_)
  ·intro y0
   unfold poly_sum.l2
   repeat' first
   | (with_reducible exact ih0 _ _ _ _)
   | (with_reducible exact ih1 _ _ _ _ _ _ _)
   | (with_reducible exact ih2 _)
   | (with_reducible exact ih3 _ _)
   | (with_reducible exact LeO.refl _)
   | (with_reducible exact LeO.none _)
   | (with_reducible refine LeO.ite ?_ ?_)
   | (with_reducible refine LeO.bind ?_ (fun _=>?_))
   | exact ih0 _ _ _ _
   | exact ih1 _ _ _ _ _ _ _
   | exact ih2 _
   | exact ih3 _ _
   | exact LeO.none _
   | refine LeO.ite ?_ ?_
   | refine LeO.bind ?_ (fun _=>?_)
  ·intro y0 y1
   unfold poly_sum.j3
   repeat' first
   | (with_reducible exact ih0 _ _ _ _)
   | (with_reducible exact ih1 _ _ _ _ _ _ _)
   | (with_reducible exact ih2 _)
   | (with_reducible exact ih3 _ _)
   | (with_reducible exact LeO.refl _)
   | (with_reducible exact LeO.none _)
   | (with_reducible refine LeO.ite ?_ ?_)
   | (with_reducible refine LeO.bind ?_ (fun _=>?_))
   | exact ih0 _ _ _ _
   | exact ih1 _ _ _ _ _ _ _
   | exact ih2 _
   | exact ih3 _ _
   | exact LeO.none _
   | refine LeO.ite ?_ ?_
   | refine LeO.bind ?_ (fun _=>?_)
theorem poly_sum.mono:∀ a0 k,LeO (poly_sum.f k a0) (poly_sum.f (k+1) a0):=by
 intro a0 k
 obtain ⟨ih0,ih1,ih2,ih3⟩:=poly_sum.mono_l k
 unfold poly_sum.f
 repeat' first
   | (with_reducible exact ih0 _ _ _ _)
   | (with_reducible exact ih1 _ _ _ _ _ _ _)
   | (with_reducible exact ih2 _)
   | (with_reducible exact ih3 _ _)
   | (with_reducible exact LeO.refl _)
   | (with_reducible exact LeO.none _)
   | (with_reducible refine LeO.ite ?_ ?_)
   | (with_reducible refine LeO.bind ?_ (fun _=>?_))
   | exact ih0 _ _ _ _
   | exact ih1 _ _ _ _ _ _ _
   | exact ih2 _
   | exact ih3 _ _
   | exact LeO.none _
   | refine LeO.ite ?_ ?_
   | refine LeO.bind ?_ (fun _=>?_)
set_option maxHeartbeats 8000000 in
set_option maxRecDepth 100000 in
theorem poly_sum.calls (k:Nat) (A0:Option Addr) (c0:Nat) (l0:List (List Int)) (r:List Int) (w:World) (hr0:Kd.C (Kd.slice 5 (Kd.int .u8)) w A0 l0.length l0) (hc0:l0.length<=c0) (h:poly_sum.f k l0=some r) :
  Calls Tryz.prog 220 #[.slice A0 l0.length c0] w fun e w'=>∃ v0_:Value,e=.returned (v0_)/\Kd.R (Kd.int .u8) 5 w' w.heap.size (fun _=>True) v0_ r/\Below w.heap.size w w':=by
 have HR0:=Aside0.mk hr0
 have HC0:=Aside0.mk hc0
 clear hr0 hc0
 have HB:=Aside0.mk (Below.refl w.heap.size w)
 have H:(poly_sum.l0 k ([]:List Int) l0 (l0.length:Int) 0)=some r:=h
 clear h
 have H':=Aside0.mk H
 clear H
 go_enter Tryz.func220,Tryz.ntmps220
 go_wp2
 go_loopg [3,10] k (fun kq v3 v10 w'=>∃ (x3_1:List Int) (x10_1:Int),v10=.int .i64 x10_1/\Aside0 (poly_sum.l0 kq x3_1 l0 (l0.length:Int) x10_1=some r)/\Aside0 (kq<=k)/\Aside0 (Kd.R (Kd.int .u8) 5 w' w.heap.size (fun _=>True) v3 x3_1)/\Aside0 (Below w.heap.size w w'))
 case atStart=>exact ⟨(([]:List Int)),(0),(by first|rfl|(simp;done)|(simp [*];done)),H',⟨Nat.le_refl _⟩,⟨by first|exact Kd.R_nil _ _ _ _ _|exact Kd.N_nil _ _ _ _ _|exact Kd.V_nil _ _ _ _ _|exact Kd.Q_nil _ _ _ _ _|exact Kd.S_nil _ _ _ _ _⟩,⟨by repeat (first|(with_reducible first|exact HB.out|apply below_alloc|apply pw_below_drewN|apply below_drew1)|exact HB.out)⟩⟩
 case round =>
  clear H'
  obtain ⟨x3_1,x10_1,rfl,HA,HK1,HO_3,HB⟩:=hrel
  cases gk with
  | zero=>exact absurd HA.out (by simp [poly_sum.l0])
  | succ k1 =>
   have H:=HA.out
   clear HA
   simp only [poly_sum.l0] at H
   by_cases c2:x10_1 < (l0.length:Int)
   ·rw [if_pos c2] at H
    have c2b0:decide (x10_1 < (l0.length:Int))=true:=decide_eq_true c2
    clear c2
    by_cases c3:0<=x10_1
    ·rw [if_pos c3] at H
     have c3b0:decide (0<=x10_1)=true:=decide_eq_true c3
     clear c3
     by_cases c4:x10_1 < (l0.length:Int)
     ·rw [if_pos c4] at H
      have c4b0:decide (x10_1 < (l0.length:Int))=true:=decide_eq_true c4
      clear c4
      have H':=Aside0.mk H
      clear H
      have p228:0<=(x10_1:Int):=of_decide_eq_true (by first|(with_reducible assumption)|assumption)
      have q228:x10_1 < (l0.length:Int):=of_decide_eq_true (by first|(with_reducible assumption)|assumption)
      obtain ⟨ad228,A228_0,c228_0,e228,hx228_0,hl228_0,hi228_0⟩:=at_L5 HR0.out x10_1 p228 q228
      cases e228
      replace hx228_0:=(HB.out.cell (World.block_lt_of_cell? w _ hx228_0)).trans hx228_0
      have HR228_0:=Aside0.mk hi228_0
      have HC228_0:=Aside0.mk hl228_0
      clear hi228_0 hl228_0
      replace p228:=eq_true p228
      replace q228:=eq_true q228
      go_wp2
      go_loopg [3,16] k1 (fun kq v3 v16 w'=>∃ (x3_2:List Int) (x16_2:Int),v16=.int .i64 x16_2/\Aside0 (poly_sum.l1 kq x3_2 l0 (l0.length:Int) x10_1 (rd_L5 l0 x10_1) ((rd_L5 l0 x10_1).length:Int) x16_2=some r)/\Aside0 (kq<=k1)/\Aside0 (Kd.R (Kd.int .u8) 5 w' w.heap.size (fun _=>True) v3 x3_2)/\Aside0 (Below w.heap.size w w'))
      case atStart=>exact ⟨(x3_1),(0),(by first|rfl|(simp;done)|(simp [*];done)),H',⟨Nat.le_refl _⟩,⟨by (with_reducible repeat (first|apply Kd.R_alloc|apply Kd.R_drewN|apply Kd.R_drew));exact HO_3.out⟩,⟨by repeat (first|(with_reducible first|exact HB.out|apply below_alloc|apply pw_below_drewN|apply below_drew1)|exact HB.out)⟩⟩
      case round =>
       clear H'
       try clear c2
       try clear p2
       try clear q2
       try clear hx2
       try clear c3
       try clear c4
       try clear hx228_0
       try clear p228
       try clear q228
       obtain ⟨x3_2,x16_2,rfl,HA,HK2,HO_3,HB⟩:=hrel
       cases gk with
       | zero=>exact absurd HA.out (by simp [poly_sum.l1])
       | succ k2 =>
        have H:=HA.out
        clear HA
        simp only [poly_sum.l1] at H
        by_cases c5:x16_2 < ((rd_L5 l0 x10_1).length:Int)
        ·rw [if_pos c5] at H
         have c5b0:decide (x16_2 < ((rd_L5 l0 x10_1).length:Int))=true:=decide_eq_true c5
         clear c5
         by_cases c6:0<=x16_2
         ·rw [if_pos c6] at H
          have c6b0:decide (0<=x16_2)=true:=decide_eq_true c6
          clear c6
          by_cases c7:x16_2 < ((rd_L5 l0 x10_1).length:Int)
          ·rw [if_pos c7] at H
           have c7b0:decide (x16_2 < ((rd_L5 l0 x10_1).length:Int))=true:=decide_eq_true c7
           clear c7
           by_cases c8:x16_2=(x3_2.length:Int)
           ·rw [if_pos c8] at H
            have c8b0:(x16_2 == (x3_2.length:Int))=true:=beq_iff_eq.mpr c8
            have c8b1:(x16_2 != (x3_2.length:Int))=false:=bne_eq_false_iff_eq.mpr c8
            clear c8
            by_cases c9:x3_2.length < 140737488355328
            ·rw [if_pos c9] at H
             have LMc9:=Aside0.mk c9
             clear c9
             obtain ⟨y230,hy230⟩:∃ y_:List Int,y_=(x3_2 ++ [0]):=⟨_,rfl⟩
             replace H:(if x16_2 < (y230.length:Int) then (poly_sum.l1 k2 (y230.set (x16_2:Int).toNat (Go.bits .xor .u8 (rd y230 x16_2) (rd (rd_L5 l0 x10_1) x16_2))) l0 (l0.length:Int) x10_1 (rd_L5 l0 x10_1) ((rd_L5 l0 x10_1).length:Int) (wrap64 (x16_2+1))) else (none))=some r:=by first|(rw [hy230];with_reducible exact H)|(have H2_:=(Option.bind_some _ _).symm.trans H;rw [hy230];with_reducible exact H2_)|(have H2_:=(Option.bind_some _ _).symm.trans H;with_reducible exact H2_)|with_reducible exact H|(rw [hy230];exact H)|exact H
             have Ny230:=Aside0.mk hy230
             clear hy230
             by_cases c10:x16_2 < (y230.length:Int)
             ·rw [if_pos c10] at H
              have c10b0:decide (x16_2 < (y230.length:Int))=true:=decide_eq_true c10
              clear c10
              obtain ⟨y234,hy234⟩:∃ y_:List Int,y_=(y230.set (x16_2:Int).toNat (Go.bits .xor .u8 (rd y230 x16_2) (rd (rd_L5 l0 x10_1) x16_2))):=⟨_,rfl⟩
              replace H:(poly_sum.l1 k2 y234 l0 (l0.length:Int) x10_1 (rd_L5 l0 x10_1) ((rd_L5 l0 x10_1).length:Int) (wrap64 (x16_2+1)))=some r:=by first|(rw [hy234];with_reducible exact H)|(have H2_:=(Option.bind_some _ _).symm.trans H;rw [hy234];with_reducible exact H2_)|(have H2_:=(Option.bind_some _ _).symm.trans H;with_reducible exact H2_)|with_reducible exact H|(rw [hy234];exact H)|exact H
              have Ny234:=Aside0.mk hy234
              clear hy234
              have H':=Aside0.mk H
              clear H
              have p229:0<=(x16_2:Int):=of_decide_eq_true (by first|(with_reducible assumption)|assumption)
              have q229:x16_2 < ((rd_L5 l0 x10_1).length:Int):=of_decide_eq_true (by first|(with_reducible assumption)|assumption)
              obtain ⟨ad229,e229,hx229_0⟩:=Kd.at_int HR228_0.out x16_2 p229 q229
              cases e229
              replace hx229_0:=(HB.out.cell (World.block_lt_of_cell? w _ hx229_0)).trans hx229_0
              replace p229:=eq_true p229
              replace q229:=eq_true q229
              obtain ⟨Ao12,co12,eo12⟩:=Kd.R_slice HO_3.out
              subst eo12
              go_wp2_with (first|((with_reducible refine gate_builtin (b:=.append) (xs:=#[.tmp 25,.tmp 26]) rfl ?_);(try (refine gate_guard (by rfl) ?_;dsimp only));at_builtin;refine Kd.R_append (Kd.int .u8) (w0:=w) w.heap.size rfl (.tmp 25) (.tmp 26) 36 5 (.int .u8 0) 1 rfl Tryz.underlying36 info5 rfl (by decide) (by omega) (.slice Ao12 x3_2.length co12) x3_2 0 [.int .u8 0] (fun _=>True) (fun _=>False) rfl rfl ?aP (fun _ hk=>hk.elim) ?aF ?aO ?aB ?aS ?aL ?_;(case aP=>exact rfl);(case aB=>exact (by repeat (first|(with_reducible first|exact HB.out|apply below_alloc|apply pw_below_drewN|apply below_drew1)|exact HB.out)));(case aF=>exact (fun _ _=>trivial));(case aO=>exact (by (with_reducible repeat (first|apply Kd.R_alloc|apply Kd.R_drewN|apply Kd.R_drew));exact HO_3.out));(case aS=>exact (below_size (by repeat (first|(with_reducible first|exact HB.out|apply below_alloc|apply pw_below_drewN|apply below_drew1)|exact HB.out))));(case aL=>have:=LMc9.out;omega);intro v231 w13 ho hb hg hat;rw [<- Ny230.out] at ho;have n0_:=Aside0.mk (hb);have n1_:=Aside0.mk (ho);clear HB;clear HO_3;have HB:=n0_;have HO232:=n1_;clear n0_ n1_;clear ho hb hg hat;obtain ⟨Ao14,co14,eo14⟩:=Kd.R_slice HO232.out;subst eo14;have p233:0<=(x16_2:Int):=of_decide_eq_true (by first|(with_reducible assumption)|assumption);have q233:x16_2 < (y230.length:Int):=of_decide_eq_true (by first|(with_reducible assumption)|assumption);obtain ⟨ad233,e233,hx233_0⟩:=Kd.at_int (Kd.R_reads' HO232.out).2.2 x16_2 p233 q233;cases e233;replace p233:=eq_true p233;replace q233:=eq_true q233;have p11:0<=(x16_2:Int):=of_decide_eq_true (by first|(with_reducible assumption)|assumption);have q11:(x16_2:Int) < ((y230.length:Int):Int):=of_decide_eq_true (by first|(with_reducible assumption)|assumption);obtain ⟨go11,co11,eo11,gb11,gl11,cl11,HG11⟩:=Kd.R_form HO232.out (by omega);(first|cases eo11|(injection eo11 with ea_ en_ ec_;(first|subst ea_|(injection ea_ with ea_;subst ea_));subst ec_;clear en_));have GB11:=Aside0.mk gb11;have GG11:=Aside0.mk HG11;clear gb11 gl11 HG11;(first|simp only [add_plain] at hx233_0|skip);obtain ⟨hx11_0,hf11_0⟩:=Kd.R_celln 0 HO232.out (x16_2:Int) p11 q11;replace p11:=eq_true p11;replace q11:=eq_true q11;obtain ⟨hy15_,hz15_⟩:=Kd.R_celln 0 HO232.out (x16_2:Int) (of_decide_eq_true (by first|(with_reducible assumption)|assumption)) (of_decide_eq_true (by first|(with_reducible assumption)|assumption));have HP15:=Kd.R_putg HO232.out (x16_2:Int) (Go.bits .xor .u8 (rd y230 x16_2) (rd (rd_L5 l0 x10_1) x16_2)))|((with_reducible refine gate_store (t:=5) (p:=34) rfl ?_);refine store_event (t:=5) (p:=34) (v:=?vo_w16) (w1:=(w13.setCell ⟨go11,(x16_2:Int).toNat,none⟩ (.int .u8 (Go.bits .xor .u8 (rd y230 x16_2) (rd (rd_L5 l0 x10_1) x16_2))))) ?hg ?ho ?hn ?hr ?_;(case ho=>rfl);(case hg=>rfl);(case hn=>rfl);(case hr=>first|(go_simp;done)|(go_simp;rfl));intro w16 hw;have hg:w13.grownBy w16 (some go11):=(by rw [hw];exact HP15.2);have hp_:Kd.R (Kd.int .u8) 5 w16 w.heap.size (fun _=>True) (.slice (some ⟨go11,0,none⟩) y230.length co14) y234:=(by rw [hw,Ny234.out];exact HP15.1);clear HP15;have n0_:=Aside0.mk (hp_);have n1_:=Aside0.mk ((by rw [hw];exact below_set (HB.out) GB11.out:Below w.heap.size w w16));clear HO232;clear HB;have HO232:=n0_;have HB:=n1_;clear n0_ n1_;clear hg hw hp_))
              go_roundg k2
              case measure=>have:=HK1.out;have:=HK2.out;omega
              case rel=>exact ⟨(y234),(wrap64 (x16_2+1)),(by first|rfl|(simp;done)|(simp [*];done)),H',⟨by have:=HK1.out;have:=HK2.out;omega⟩,⟨by (with_reducible repeat (first|apply Kd.R_alloc|apply Kd.R_drewN|apply Kd.R_drew));exact HO232.out⟩,⟨by repeat (first|(with_reducible first|exact HB.out|apply below_alloc|apply pw_below_drewN|apply below_drew1)|exact HB.out)⟩⟩
             ·rw [if_neg c10] at H
              exact absurd H (by simp)
            ·rw [if_neg c9] at H
             exact absurd H (by simp)
           ·rw [if_neg c8] at H
            have c8b0:(x16_2 == (x3_2.length:Int))=false:=beq_eq_false_iff_ne.mpr c8
            have c8b1:(x16_2 != (x3_2.length:Int))=true:=bne_iff_ne.mpr c8
            by_cases c17:x16_2 < (x3_2.length:Int)
            ·rw [if_pos c17] at H
             have c17b0:decide (x16_2 < (x3_2.length:Int))=true:=decide_eq_true c17
             clear c17
             obtain ⟨y236,hy236⟩:∃ y_:List Int,y_=(x3_2.set (x16_2:Int).toNat (Go.bits .xor .u8 (rd x3_2 x16_2) (rd (rd_L5 l0 x10_1) x16_2))):=⟨_,rfl⟩
             replace H:(poly_sum.l1 k2 y236 l0 (l0.length:Int) x10_1 (rd_L5 l0 x10_1) ((rd_L5 l0 x10_1).length:Int) (wrap64 (x16_2+1)))=some r:=by first|(rw [hy236];with_reducible exact H)|(have H2_:=(Option.bind_some _ _).symm.trans H;rw [hy236];with_reducible exact H2_)|(have H2_:=(Option.bind_some _ _).symm.trans H;with_reducible exact H2_)|with_reducible exact H|(rw [hy236];exact H)|exact H
             have Ny236:=Aside0.mk hy236
             clear hy236
             have H':=Aside0.mk H
             clear H
             have p229:0<=(x16_2:Int):=of_decide_eq_true (by first|(with_reducible assumption)|assumption)
             have q229:x16_2 < ((rd_L5 l0 x10_1).length:Int):=of_decide_eq_true (by first|(with_reducible assumption)|assumption)
             obtain ⟨ad229,e229,hx229_0⟩:=Kd.at_int HR228_0.out x16_2 p229 q229
             cases e229
             replace hx229_0:=(HB.out.cell (World.block_lt_of_cell? w _ hx229_0)).trans hx229_0
             replace p229:=eq_true p229
             replace q229:=eq_true q229
             obtain ⟨Ao19,co19,eo19⟩:=Kd.R_slice HO_3.out
             subst eo19
             have p235:0<=(x16_2:Int):=of_decide_eq_true (by first|(with_reducible assumption)|assumption)
             have q235:x16_2 < (x3_2.length:Int):=of_decide_eq_true (by first|(with_reducible assumption)|assumption)
             obtain ⟨ad235,e235,hx235_0⟩:=Kd.at_int (Kd.R_reads' HO_3.out).2.2 x16_2 p235 q235
             cases e235
             replace p235:=eq_true p235
             replace q235:=eq_true q235
             have p18:0<=(x16_2:Int):=of_decide_eq_true (by first|(with_reducible assumption)|assumption)
             have q18:(x16_2:Int) < ((x3_2.length:Int):Int):=of_decide_eq_true (by first|(with_reducible assumption)|assumption)
             obtain ⟨go18,co18,eo18,gb18,gl18,cl18,HG18⟩:=Kd.R_form HO_3.out (by omega)
             (first|cases eo18|(injection eo18 with ea_ en_ ec_;(first|subst ea_|(injection ea_ with ea_;subst ea_));subst ec_;clear en_))
             have GB18:=Aside0.mk gb18
             have GG18:=Aside0.mk HG18
             clear gb18 gl18 HG18
             (first|simp only [add_plain] at hx235_0|skip)
             obtain ⟨hx18_0,hf18_0⟩:=Kd.R_celln 0 HO_3.out (x16_2:Int) p18 q18
             replace p18:=eq_true p18
             replace q18:=eq_true q18
             have HP20:=Kd.R_putg HO_3.out (x16_2:Int) (Go.bits .xor .u8 (rd x3_2 x16_2) (rd (rd_L5 l0 x10_1) x16_2))
             go_wp2_with (first|((with_reducible refine gate_store (t:=5) (p:=34) rfl ?_);refine store_event (t:=5) (p:=34) (v:=?vo_w21) (w1:=(wr.setCell ⟨go18,(x16_2:Int).toNat,none⟩ (.int .u8 (Go.bits .xor .u8 (rd x3_2 x16_2) (rd (rd_L5 l0 x10_1) x16_2))))) ?hg ?ho ?hn ?hr ?_;(case ho=>rfl);(case hg=>rfl);(case hn=>rfl);(case hr=>first|(go_simp;done)|(go_simp;rfl));intro w21 hw;have hg:wr.grownBy w21 (some go18):=(by rw [hw];exact HP20.2);have hp_:Kd.R (Kd.int .u8) 5 w21 w.heap.size (fun _=>True) (.slice (some ⟨go18,0,none⟩) x3_2.length co19) y236:=(by rw [hw,Ny236.out];exact HP20.1);clear HP20;have n0_:=Aside0.mk (hp_);have n1_:=Aside0.mk ((by rw [hw];exact below_set (HB.out) GB18.out:Below w.heap.size w w21));clear HO_3;clear HB;have HO_3:=n0_;have HB:=n1_;clear n0_ n1_;clear hg hw hp_))
             go_roundg k2
             case measure=>have:=HK1.out;have:=HK2.out;omega
             case rel=>exact ⟨(y236),(wrap64 (x16_2+1)),(by first|rfl|(simp;done)|(simp [*];done)),H',⟨by have:=HK1.out;have:=HK2.out;omega⟩,⟨by (with_reducible repeat (first|apply Kd.R_alloc|apply Kd.R_drewN|apply Kd.R_drew));exact HO_3.out⟩,⟨by repeat (first|(with_reducible first|exact HB.out|apply below_alloc|apply pw_below_drewN|apply below_drew1)|exact HB.out)⟩⟩
            ·rw [if_neg c17] at H
             exact absurd H (by simp)
          ·rw [if_neg c7] at H
           exact absurd H (by simp)
         ·rw [if_neg c6] at H
          exact absurd H (by simp)
        ·rw [if_neg c5] at H
         have c5b0:decide (x16_2 < ((rd_L5 l0 x10_1).length:Int))=false:=decide_eq_false c5
         clear c5
         have H':=Aside0.mk H
         clear H
         go_wp2
         go_roundg k2
         case measure=>have:=HK1.out;have:=HK2.out;omega
         case rel=>exact ⟨(x3_2),(wrap64 (x10_1+1)),(by first|rfl|(simp;done)|(simp [*];done)),H',⟨by have:=HK1.out;have:=HK2.out;omega⟩,⟨by (with_reducible repeat (first|apply Kd.R_alloc|apply Kd.R_drewN|apply Kd.R_drew));exact HO_3.out⟩,⟨by repeat (first|(with_reducible first|exact HB.out|apply below_alloc|apply pw_below_drewN|apply below_drew1)|exact HB.out)⟩⟩
     ·rw [if_neg c4] at H
      exact absurd H (by simp)
    ·rw [if_neg c3] at H
     exact absurd H (by simp)
   ·rw [if_neg c2] at H
    have c2b0:decide (x10_1 < (l0.length:Int))=false:=decide_eq_false c2
    clear c2
    have H':=Aside0.mk H
    clear H
    go_wp2
    go_loopg [3] k1 (fun kq v3 w'=>∃ (x3_2:List Int),Aside0 (poly_sum.l2 kq x3_2=some r)/\Aside0 (kq<=k1)/\Aside0 (Kd.R (Kd.int .u8) 5 w' w.heap.size (fun _=>True) v3 x3_2)/\Aside0 (Below w.heap.size w w'))
    case atStart=>exact ⟨(x3_1),H',⟨Nat.le_refl _⟩,⟨by (with_reducible repeat (first|apply Kd.R_alloc|apply Kd.R_drewN|apply Kd.R_drew));exact HO_3.out⟩,⟨by repeat (first|(with_reducible first|exact HB.out|apply below_alloc|apply pw_below_drewN|apply below_drew1)|exact HB.out)⟩⟩
    case round =>
     clear H'
     try clear c1
     try clear p1
     try clear q1
     try clear hx1
     try clear hf1
     try clear c2
     try clear p2
     try clear q2
     try clear hx2
     try clear c3
     try clear c4
     try clear c5
     try clear c6
     try clear p6
     try clear c7
     try clear c8
     try clear c9
     try clear c10
     try clear p11
     try clear q11
     try clear hx11
     try clear hf11
     try clear c17
     try clear p18
     try clear q18
     try clear hx18
     try clear hf18
     try clear hx11_0
     try clear hx18_0
     try clear hx228_0
     try clear hx229_0
     try clear hx233_0
     try clear hx235_0
     try clear p11
     try clear p18
     try clear p2
     try clear p228
     try clear p229
     try clear p233
     try clear p235
     try clear q11
     try clear q18
     try clear q2
     try clear q228
     try clear q229
     try clear q233
     try clear q235
     obtain ⟨x3_2,HA,HK2,HO_3,HB⟩:=hrel
     cases gk with
     | zero=>exact absurd HA.out (by simp [poly_sum.l2])
     | succ k2 =>
      have H:=HA.out
      clear HA
      simp only [poly_sum.l2] at H
      have HC22:=Aside0.mk H
      clear H
      go_upto_region 13 with (fail)
      go_cut [48] (fun v48 wc=>∃ (kq:Nat) (x48_21:Bool),v48=.bool x48_21/\Aside0 (poly_sum.j3 kq x3_2 x48_21=some r)/\Aside0 (kq<=k2)/\Aside0 (Kd.R (Kd.int .u8) 5 wc w.heap.size (fun _=>True) u3 x3_2)/\Aside0 (Below w.heap.size w wc))
      case first =>
       have H:=HC22.out
       clear HC22
       by_cases c23:(x3_2.length:Int) > 0
       ·rw [if_pos c23] at H
        have c23b0:decide (0 < (x3_2.length:Int))=true:=decide_eq_true c23
        have c23b1:decide (0 < x3_2.length)=true:=decide_eq_true (by omega)
        clear c23
        (first|rw [c23b0]|(simp only [i64_w,i32_w];rw [c23b0])|skip)
        obtain ⟨ji24,hji24⟩:∃ j_:Int,(wrap64 ((x3_2.length:Int) - 1))=j_:=⟨_,rfl⟩
        replace H:(if 0<=(ji24) then (if (ji24) < (x3_2.length:Int) then (poly_sum.j3 k2 x3_2 ((rd x3_2 (ji24)) == 0)) else (none)) else (none))=some r:=by first|(rw [hji24] at H;exact H)|(simp only [hji24] at H ⊢;exact H)
        have hji24w:(IntKind.i64.wrap ((x3_2.length:Int) - 1))=ji24:=(i64_w _).trans hji24
        by_cases c25:0<=(ji24)
        ·rw [if_pos c25] at H
         have c25b0:decide (0<=(ji24))=true:=decide_eq_true c25
         clear c25
         by_cases c26:(ji24) < (x3_2.length:Int)
         ·rw [if_pos c26] at H
          have c26b0:decide ((ji24) < (x3_2.length:Int))=true:=decide_eq_true c26
          clear c26
          have H':=Aside0.mk H
          clear H
          obtain ⟨Ao27,co27,eo27⟩:=Kd.R_slice HO_3.out
          subst eo27
          have p237:0<=((ji24):Int):=of_decide_eq_true (by first|(with_reducible assumption)|assumption)
          have q237:(ji24) < (x3_2.length:Int):=of_decide_eq_true (by first|(with_reducible assumption)|assumption)
          obtain ⟨ad237,e237,hx237_0⟩:=Kd.at_int (Kd.R_reads' HO_3.out).2.2 (ji24) p237 q237
          cases e237
          replace p237:=eq_true p237
          replace q237:=eq_true q237
          go_wp2
          try subst hji24
          go_meet
          case rel=>exact ⟨_,(((rd x3_2 (((wrap64 ((x3_2.length:Int) - 1))))) == 0)),(by first|rfl|(simp;done)|(simp only [<- hji24] <;> (first|rfl|simp))|(simp [*];done)),H',⟨by have:=HK1.out;have:=HK2.out;first|omega|exact Nat.le_refl _⟩,⟨by (with_reducible repeat (first|apply Kd.R_alloc|apply Kd.R_drewN|apply Kd.R_drew));exact HO_3.out⟩,⟨by repeat (first|(with_reducible first|exact HB.out|apply below_alloc|apply pw_below_drewN|apply below_drew1)|exact HB.out)⟩⟩
         ·rw [if_neg c26] at H
          exact absurd H (by simp)
        ·rw [if_neg c25] at H
         exact absurd H (by simp)
       ·rw [if_neg c23] at H
        have c23b0:decide (0 < (x3_2.length:Int))=false:=decide_eq_false c23
        have c23b1:decide (0 < x3_2.length)=false:=decide_eq_false (by omega)
        clear c23
        (first|rw [c23b0]|(simp only [i64_w,i32_w];rw [c23b0])|skip)
        have H':=Aside0.mk H
        clear H
        obtain ⟨Ao28,co28,eo28⟩:=Kd.R_slice HO_3.out
        subst eo28
        go_wp2
        try subst hji24
        go_meet
        case rel=>exact ⟨_,(false),(by first|rfl|(simp;done)|(simp [*];done)),H',⟨by have:=HK1.out;have:=HK2.out;first|omega|exact Nat.le_refl _⟩,⟨by (with_reducible repeat (first|apply Kd.R_alloc|apply Kd.R_drewN|apply Kd.R_drew));exact HO_3.out⟩,⟨by repeat (first|(with_reducible first|exact HB.out|apply below_alloc|apply pw_below_drewN|apply below_drew1)|exact HB.out)⟩⟩
      case rest =>
       clear HC22
       try clear c1
       try clear p1
       try clear q1
       try clear hx1
       try clear hf1
       try clear c2
       try clear p2
       try clear q2
       try clear hx2
       try clear c3
       try clear c4
       try clear c5
       try clear c6
       try clear p6
       try clear c7
       try clear c8
       try clear c9
       try clear c10
       try clear p11
       try clear q11
       try clear hx11
       try clear hf11
       try clear c17
       try clear p18
       try clear q18
       try clear hx18
       try clear hf18
       try clear c22
       try clear p22
       try clear q22
       try clear hx22
       try clear c23
       try clear p23
       try clear q23
       try clear hx23
       try clear c25
       try clear c26
       try clear hx11_0
       try clear hx18_0
       try clear hx228_0
       try clear hx229_0
       try clear hx233_0
       try clear hx235_0
       try clear hx237_0
       try clear p1
       try clear p11
       try clear p18
       try clear p2
       try clear p228
       try clear p229
       try clear p233
       try clear p235
       try clear p237
       try clear p6
       try clear q1
       try clear q11
       try clear q18
       try clear q2
       try clear q228
       try clear q229
       try clear q233
       try clear q235
       try clear q237
       obtain ⟨kq,x48_21,rfl,HA,HJ21,HO_3,HB⟩:=hcut
       cases kq with
       | zero=>exact absurd HA.out (by simp [poly_sum.j3])
       | succ kj21 =>
        have H:=HA.out
        clear HA
        simp only [poly_sum.j3] at H
        by_cases c29:x48_21=true
        ·subst c29
         have H1:(if 0<=(wrap64 ((x3_2.length:Int) - 1)) then (if (wrap64 ((x3_2.length:Int) - 1))<=(x3_2.length:Int) then (poly_sum.l2 kj21 (x3_2.take ((wrap64 ((x3_2.length:Int) - 1)):Int).toNat)) else (none)) else (none))=some r:=by rw [if_pos rfl] at H;exact H
         clear H
         have H:=H1
         clear H1
         obtain ⟨ji30,hji30⟩:∃ j_:Int,(wrap64 ((x3_2.length:Int) - 1))=j_:=⟨_,rfl⟩
         replace H:(if 0<=(ji30) then (if (ji30)<=(x3_2.length:Int) then (poly_sum.l2 kj21 (x3_2.take ((ji30):Int).toNat)) else (none)) else (none))=some r:=by first|(rw [hji30] at H;exact H)|(simp only [hji30] at H ⊢;exact H)
         have hji30w:(IntKind.i64.wrap ((x3_2.length:Int) - 1))=ji30:=(i64_w _).trans hji30
         by_cases c31:0<=(ji30)
         ·rw [if_pos c31] at H
          have c31b0:=eq_true c31
          have c31b1:decide (0<=(ji30))=true:=decide_eq_true c31
          clear c31
          by_cases c32:(ji30)<=(x3_2.length:Int)
          ·rw [if_pos c32] at H
           have c32b0:=eq_true c32
           have c32b1:decide ((ji30)<=(x3_2.length:Int))=true:=decide_eq_true c32
           clear c32
           obtain ⟨y238,hy238⟩:∃ y_:List Int,y_=(x3_2.take ((ji30):Int).toNat):=⟨_,rfl⟩
           replace H:(poly_sum.l2 kj21 y238)=some r:=by first|(rw [hy238];with_reducible exact H)|(have H2_:=(Option.bind_some _ _).symm.trans H;rw [hy238];with_reducible exact H2_)|(have H2_:=(Option.bind_some _ _).symm.trans H;with_reducible exact H2_)|with_reducible exact H|(rw [hy238];exact H)|exact H
           have Ny238:=Aside0.mk hy238
           clear hy238
           have H':=Aside0.mk H
           clear H
           obtain ⟨Ao33,co33,eo33⟩:=Kd.R_slice HO_3.out
           subst eo33
           have q34:((ji30):Int)<=((x3_2.length:Int):Int):=of_decide_eq_true (by first|(with_reducible assumption)|assumption)
           obtain ⟨i034,hi034,_,hsz34,_⟩:=info_parts info5
           have hcut34:=cut_to (P:=Tryz.prog) 36 5 .i64 Tryz.underlying36 hi034 Ao33 x3_2.length co33 (ji30) (of_decide_eq_true (by first|(with_reducible assumption)|assumption)) q34 (Kd.R_reads' HO_3.out).2.1
           have hr34:=Kd.R_take (m:=((ji30):Int).toNat) HO_3.out (by omega)
           have hy34:y238.length=((ji30):Int).toNat:=(by rw [Ny238.out,List.length_take];omega)
           rw [<- Ny238.out] at hr34
           rw [<- hy34] at hr34 hcut34
           clear hy34 hi034 hsz34 HO_3
           have HO240:=Aside0.mk hr34
           clear hr34
           replace q34:=eq_true q34
           go_wp2
           go_roundg kj21
           case measure=>have:=HK1.out;have:=HK2.out;have:=HJ21.out;omega
           case rel=>exact ⟨(y238),H',⟨by have:=HK1.out;have:=HK2.out;have:=HJ21.out;omega⟩,⟨by (with_reducible repeat (first|apply Kd.R_alloc|apply Kd.R_drewN|apply Kd.R_drew));exact HO240.out⟩,⟨by repeat (first|(with_reducible first|exact HB.out|apply below_alloc|apply pw_below_drewN|apply below_drew1)|exact HB.out)⟩⟩
          ·rw [if_neg c32] at H
           exact absurd H (by simp)
         ·rw [if_neg c31] at H
          exact absurd H (by simp)
        ·replace c29:=Bool.eq_false_iff.mpr c29
         subst c29
         have H1:(some x3_2)=some r:=by rw [if_neg (show ¬ (false=true) by decide)] at H;exact H
         clear H
         have H:=H1
         clear H1
         obtain rfl:=Option.some.inj H
         go_wp2
         go_ret
         exact ⟨_,by first|rfl|(simp [errW_none,errW_some] <;> rfl)|(simp [*,errW_none,errW_some] <;> rfl),by (with_reducible repeat (first|apply Kd.R_alloc|apply Kd.R_drewN|apply Kd.R_drew));exact HO_3.out,by repeat (first|(with_reducible first|exact HB.out|apply below_alloc|apply pw_below_drewN|apply below_drew1)|exact HB.out)⟩
def poly_Norm.f (k:Nat) (l0:List Int):Option (List Int):=(poly_sum.f k (([l0]:List (List Int)))).bind fun t244=>(some t244)
theorem poly_Norm.mono:∀ a0 k,LeO (poly_Norm.f k a0) (poly_Norm.f (k+1) a0):=by
 intro a0 k
 unfold poly_Norm.f
 repeat' first
   | (with_reducible exact poly_sum.mono _ _)
   | (with_reducible exact LeO.refl _)
   | (with_reducible exact LeO.none _)
   | (with_reducible refine LeO.ite ?_ ?_)
   | (with_reducible refine LeO.bind ?_ (fun _=>?_))
   | exact poly_sum.mono _ _
   | exact LeO.none _
   | refine LeO.ite ?_ ?_
   | refine LeO.bind ?_ (fun _=>?_)
set_option maxHeartbeats 8000000 in
set_option maxRecDepth 100000 in
theorem poly_Norm.calls (k:Nat) (P0_:Nat->Prop) (A0:Option Addr) (c0:Nat) (l0:List Int) (r:List Int) (w:World) (hs0:Kd.V (Kd.int .u8) 5 w w.heap.size (fun k_=>P0_ k_) (.slice A0 l0.length c0) l0) (h:poly_Norm.f k l0=some r) :
  Calls Tryz.prog 214 #[.slice A0 l0.length c0] w fun e w'=>∃ v0_:Value,e=.returned (v0_)/\Kd.R (Kd.int .u8) 5 w' w.heap.size (fun k_=>(w.heap.size<=k_)) v0_ r/\Below w.heap.size w w':=by
 have HO0:=Aside0.mk (show Kd.V (Kd.int .u8) 5 w w.heap.size (fun k_=>(P0_ k_∨w.heap.size<=k_)) (.slice A0 l0.length c0) l0 from Kd.V_mono hs0 (fun k_ hk=>.inl hk))
 have HB:=Aside0.mk (Below.refl w.heap.size w)
 have H:((poly_sum.f k (([l0]:List (List Int)))).bind fun t244=>(some t244))=some r:=h
 clear h
 obtain ⟨y241,hy241⟩:∃ y_:List (List Int),y_=(([l0]:List (List Int))):=⟨_,rfl⟩
 replace H:((poly_sum.f k y241).bind fun t244=>(some t244))=some r:=by first|(rw [hy241];with_reducible exact H)|(have H2_:=(Option.bind_some _ _).symm.trans H;rw [hy241];with_reducible exact H2_)|(have H2_:=(Option.bind_some _ _).symm.trans H;with_reducible exact H2_)|with_reducible exact H|(rw [hy241];exact H)|exact H
 have Ny241:=Aside0.mk hy241
 clear hy241
 replace H:=Option.bind_eq_some_iff.mp H
 obtain ⟨t244,A20,H⟩:=H
 replace H:(some t244)=some r:=H
 have A2:=Aside0.mk A20
 clear A20
 obtain rfl:=Option.some.inj H
 go_enter Tryz.func214,Tryz.ntmps214
 go_wp2_with (first|((with_reducible refine gate_dst (N:=4) rfl ?_);refine Kd.N_lit (Kd.slice 5 (Kd.int .u8)) _ 36 ?hg (N':=4) ?hd (xs:=([l0]:List (List Int))) (inner:=[.slice A0 l0.length c0]) (ok:=(fun k_=>(P0_ k_∨w.heap.size<=k_))) (okp:=(fun k_=>(P0_ k_∨w.heap.size<=k_))) ?hr ?hp (fun _ hk=>hk) ((show ∀ k_,w.heap.size<=k_->(fun k_=>(P0_ k_∨w.heap.size<=k_)) k_ from fun k_ hk=>(.inr (Nat.le_trans (below_size (by repeat (first|(with_reducible first|exact HB.out|apply below_alloc|apply pw_below_drewN|apply below_drew1)|exact HB.out))) hk))) _ (Nat.le_refl _)) (Below.refl _ _) (Nat.le_refl _) (by simp) ?_;(case hd=>rfl);(case hg=>rfl);(case hr=>first|(go_simp;done)|(go_simp;rfl));(case hp=>exact (Reps.one (show Kd.FK (Kd.slice 5 (Kd.int .u8)) _ _ l0 [.slice A0 l0.length c0] from (Kd.FK_slice_mk (Kd.V_reads' (Kd.V_mono (ok':=(fun k_=>(P0_ k_∨w.heap.size<=k_))) (HO0.out) (fun k_ hk=>hk))).2.1 (Kd.V_F (Kd.V_mono (ok':=(fun k_=>(P0_ k_∨w.heap.size<=k_))) (HO0.out) (fun k_ hk=>hk))))) (Reps.none _ _)));intro v242 w3 ho4 hb hg_ hnew_;clear hg_ hnew_;(first|rw [<- Ny241.out] at ho4|(simp only [Int.reduceToNat] at ho4;rw [<- Ny241.out] at ho4));have n0_:=Aside0.mk (Kd.V_elder' (by (with_reducible repeat (first|apply Kd.V_alloc|apply Kd.V_drewN|apply Kd.V_drew));exact HO0.out) (Kd.N_base ho4) hb);have n1_:=Aside0.mk (Kd.N_lower ho4 (below_size (by repeat (first|(with_reducible first|exact HB.out|apply below_alloc|apply pw_below_drewN|apply below_drew1)|exact HB.out))));have n2_:=Aside0.mk (below_step (by repeat (first|(with_reducible first|exact HB.out|apply below_alloc|apply pw_below_drewN|apply below_drew1)|exact HB.out)) hb);clear HO0;clear HB;have HO0:=n0_;have HO243:=n1_;have HB:=n2_;clear n0_ n1_ n2_;clear hb ho4;obtain ⟨Ao5,co5,eo5⟩:=Kd.N_slice HO243.out;subst eo5)|((with_reducible refine gate_callee (f:=220) rfl ?_);refine goesL_ (some 5) rfl rfl Tryz.func220 (by kernel_rfl) rfl #[.slice Ao5 y241.length co5] rfl (by (try simp only [List.map_toArray,List.map_cons,List.map_nil]);first|done|rfl|(simp only [List.length_drop,List.length_take];rfl)) ?_;(with_reducible refine (poly_sum.calls k _ _ y241 t244 _ ?side1 ?side2 A2.out).mono ?_);(case side1=>repeat (first|exact (Kd.N_reads' HO243.out).2.2|(with_reducible refine Kd.C_alloc ?_ _)|(with_reducible refine Kd.C_drewN ?_ _)|(with_reducible refine Kd.C_drew ?_)));(case side2=>exact (Kd.N_reads' HO243.out).2.1);rintro e w6 ⟨v245,rfl,ho0,hb⟩;refine ⟨_,rfl,?_⟩;have n0_:=Aside0.mk (Kd.V_elder' (by (with_reducible repeat (first|apply Kd.V_alloc|apply Kd.V_drewN|apply Kd.V_drew));exact HO0.out) (Kd.R_base ho0) hb);have n1_:=Aside0.mk (Kd.N_elder' (by (with_reducible repeat (first|apply Kd.N_alloc|apply Kd.N_drewN|apply Kd.N_drew));exact HO243.out) (Kd.R_base ho0) hb);have n2_:=Aside0.mk (Kd.R_lower (Kd.R_newM (M:=fun k_=>(w.heap.size<=k_)) ho0 (below_size (by repeat (first|(with_reducible first|exact HB.out|apply below_alloc|apply pw_below_drewN|apply below_drew1)|exact HB.out))) (fun k_ h_=>h_)) (below_size (by repeat (first|(with_reducible first|exact HB.out|apply below_alloc|apply pw_below_drewN|apply below_drew1)|exact HB.out))));have n3_:=Aside0.mk (below_step (by repeat (first|(with_reducible first|exact HB.out|apply below_alloc|apply pw_below_drewN|apply below_drew1)|exact HB.out)) hb);clear HO0;clear HO243;clear HB;have HO0:=n0_;have HO243:=n1_;have HO246:=n2_;have HB:=n3_;clear n0_ n1_ n2_ n3_;(try clear hb);(try clear hb2);(try clear hk);(try clear hi);(try clear ho0)))
 go_ret
 exact ⟨_,by first|rfl|(simp [errW_none,errW_some] <;> rfl)|(simp [*,errW_none,errW_some] <;> rfl),by (with_reducible repeat (first|apply Kd.R_alloc|apply Kd.R_drewN|apply Kd.R_drew));exact Kd.R_mono HO246.out (fun _ hk=>hk.1),by repeat (first|(with_reducible first|exact HB.out|apply below_alloc|apply pw_below_drewN|apply below_drew1)|exact HB.out)⟩
end Go.Proofs.YtmmcbncpnlknbaaGreat.PAll
