import Derived.Test.YtmmcbncpnlknbaaGreatF14
import Derived.Deep.CutRange
set_option linter.unusedVariables false
set_option linter.unusedSimpArgs false
namespace Go.Proofs.YtmmcbncpnlknbaaGreat.Top
open Go Go.RowKit Go.Proofs.YtmmcbncpnlknbaaGreatW.PrintWords Go.Proofs.YtmmcbncpnlknbaaGreatW.PrintLast Go.Proofs.YtmmcbncpnlknbaaGreatW.PrintMore
attribute [local irreducible] mulRows PAll.poly_sum.f PAll.poly_Norm.f
structure SolF (s known g p high p2 o:List Int) (e:Nat):Prop where
 norm:PAll.poly_Norm.f 100 known=some g
 glen:g.length=e+1
 em:e<=s.length
 rev:PAll.slices_Reverse_byte_byte.f 100 s=some s.reverse
 prod:PAll.poly_sum.f 100 (mulRows g s.reverse s.length)=some p
 hig:PAll.poly_Norm.f 100 (p.take s.length)=some high
 hlen:high.length<=e
 one:PAll.poly_sum.f 100 (mulRows [1] [1] ([1]:List Int).length)=some [1]
 all:PAll.poly_sum.f 100 (mulRows [1] p p.length)=some p2
 top:PAll.poly_Norm.f 100 (p2.drop s.length)=some o
 bs:byteL s
 bg:byteL g
 bp:byteL p
 ls:s.length<=50
 lp:p.length<=50
 lp2:p2.length<=50
 le:e<=50
theorem mk_run (n:Nat) (hn:n<=100000):∀ W:World,(Instr.makeSlice 36 (.int .i64 (n:Int)) (.int .i64 (n:Int))).run Tryz.prog W=.ok (.slice (some ⟨W.heap.size,0,none⟩) n n) (W.alloc (.cells (madeCells #[.int .u8 0] n) 5)):=fun W=>by
 obtain ⟨i0,hi,hz0,hz1,hz2⟩:=info_parts info5'
 have h:=run_make (P:=Tryz.prog) (w:=W) 36 5 i0 (.int .u8 0) Tryz.underlying36 hi hz0 .i64 .i64 (n:Int) (n:Int) (by omega) (by omega) (by rw [hz2];omega) (by omega)
 rw [hz1] at h
 simp at h
 exact h
theorem cset_ne {w:World} {a b i j:Nat} {v:Value} (h:a≠b):(w.setCell ⟨a,i,none⟩ v).cell? ⟨b,j,none⟩=w.cell? ⟨b,j,none⟩:=World.cell?_setCell_far _ _ _ _ (by simpa using h)
theorem calloc_old {w:World} {o:Obj} {b j:Nat} (h:b < w.heap.size):(w.alloc o).cell? ⟨b,j,none⟩=w.cell? ⟨b,j,none⟩:=by
 unfold World.cell?
 rw [heap_alloc_old _ _ h]
attribute [local go_sem] cset_ne calloc_old
set_option maxRecDepth 100000 in
set_option maxHeartbeats 20000000 in
theorem solve_ok {w:World} {f:Nat} (h:Fd w f) (v u:Value) (s known g p high p2 o:List Int) (e:Nat) (hv:Bs w v s) (hu:Bs w u known) (F:SolF s known g p high p2 o e) :
  Calls Tryz.prog 193 #[.pointer (some ⟨f,0,none⟩),v,u] w fun e w'=>∃ x y,e=.returned (.tuple #[x,y,.int .i64 0])/\Bs w' x [1]/\Bf (fun k=>w.heap.size<=k) w' y o/\Below w.heap.size w w':=by
 obtain ⟨A,cc,rfl,hcc,hC⟩:=hv
 have H:=Aside0.mk h
 have HU:=Aside0.mk hu
 have HF:=Aside0.mk F
 have b0:Below w.heap.size w (w.alloc (.cells #[.pointer (some ⟨f,0,none⟩)] 57)):=below_alloc (Below.refl _ _) _
 have hc0:=heap_alloc_new w (.cells #[.pointer (some ⟨f,0,none⟩)] 57)
 obtain ⟨w0,hw0⟩:∃ w0,w.alloc (.cells #[.pointer (some ⟨f,0,none⟩)] 57)=w0:=⟨_,rfl⟩
 obtain ⟨m,hm⟩:∃ m,s.length=m:=⟨_,rfl⟩
 have HV:=Aside0.mk (show Bs w (.slice A m cc) s from by rw [<- hm];exact ⟨A,cc,rfl,hcc,hC⟩)
 have ge0:¬ ((e:Int) < 0):=by omega
 have gem:¬ ((m:Int) < (e:Int)):=by have:=F.em;omega
 have gwe:wrap64 (e:Int)=(e:Int):=w64 _ (by have:=F.le;omega)
 obtain ⟨M1,hM1⟩:∃ M1,m+1=M1:=⟨_,rfl⟩
 have gw1:wrap64 ((m:Int)+1)=(M1:Int):=by rw [w64 _ (by have:=F.ls;omega)];omega
 have gw2:IntKind.i64.wrap ((m:Int)+1)=(M1:Int):=by rw [IntKind.wrap_i64];have:=F.ls;omega
 have hmk:=mk_run M1 (by have:=F.ls;omega)
 have HM1:=Aside0.mk hM1
 clear hM1
 rw [hw0] at b0 hc0
 have HW:=Aside0.mk (And.intro hw0 (And.intro b0 (And.intro hc0 hm)))
 rw [hm]
 clear h hcc hC hu F b0 hc0 hw0 hm
 go_enter Tryz.func193,Tryz.ntmps193
 go_wp2
 go_step3
 rw [HW.out.1]
 obtain ⟨LP,hLP⟩:∃ LP,p.length=LP:=⟨_,rfl⟩
 have HLP:=Aside0.mk hLP
 obtain ⟨j,hj⟩:∃ j,min LP m=j:=⟨_,rfl⟩
 have gif:(if m < LP then (m:Int) else (LP:Int))=(j:Int):=by split <;> omega
 have HJ:=Aside0.mk hj
 clear hLP hj
 go_wp2_with (first|(go_at_call 214;go_loud (refine (norm_ok (HU.out.below HW.out.2.1) HF.out.norm).mono ?_;rintro e2 w1 ⟨x1,rfl,hr1,hb1⟩;obtain ⟨A1,c1,rfl⟩:=Kd.R_slice hr1;have cf:=cell_of hb1 (show w0.cell? ⟨w.heap.size,0,none⟩=some (.pointer (some ⟨f,0,none⟩)) by simp [World.cell?,HW.out.2.2.1]);have HG:=Aside0.mk (Bs.of_R hr1);rw [HF.out.glen] at *;have HB1:=Aside0.mk (below_step HW.out.2.1 hb1);have HC1:=Aside0.mk cf;have HA1:=Aside0.mk hb1;clear hr1 hb1))|(go_at_call 171;go_loud (refine (Bs.clone (HV.out.below HB1.out) (by have:=HF.out.ls;omega)).mono ?_;rintro e2 w2 ⟨x2,rfl,hr2,hb2⟩;have HR2:=Aside0.mk hr2;have HB2:=Aside0.mk hb2;clear hr2 hb2 cf))|(go_at_call 215;go_loud (refine (PAll.slices_Reverse_byte_byte.calls 100 _ x2 s s.reverse w1 w2 HB2.out HR2.out HF.out.rev).mono ?_;rintro e2 w3 ⟨rfl,hr3,hb3,hk3⟩;have HR3:=Aside0.mk (Bs.of_R hr3);have HB3:=Aside0.mk hb3;have cf:=cell_of hb3 HC1.out;clear hr3 hb3 hk3))|(go_at_call 194;go_loud (refine (pmul_ok (H.out.below (below_step HB1.out HB3.out)) _ x2 g s.reverse p (HG.out.below HB3.out) HR3.out HF.out.bg (fun y hy=>HF.out.bs y (List.mem_reverse.1 hy)) (by have:=HF.out.glen;have:=HF.out.le;omega) (by have:=HF.out.ls;simp;omega) (by rw [List.length_reverse];exact HF.out.prod)).mono ?_;rintro e2 w4 ⟨x4,rfl,hr4,hb4⟩;have hr4b:=Bs.of_R hr4;obtain ⟨A4,c4,rfl,hc4,hC4⟩:=hr4b;have HP4:=Aside0.mk (And.intro hc4 hC4);rw [HLP.out];have HB4:=Aside0.mk (below_step HB3.out hb4);clear hr4 hb4 cf hc4 hC4)))
 have hcut:∀ W:World,(Instr.slice 36 (.slice A4 LP c4) none (some (.int .i64 (j:Int))) none).run Tryz.prog W=.ok (.slice A4 j c4) W:=fun W=>by
  obtain ⟨i0,hi,_⟩:=info_parts info5'
  have:=cut_to (P:=Tryz.prog) 36 5 .i64 Tryz.underlying36 hi A4 LP c4 (j:Int) (by omega) (by have:=HJ.out;omega) (by have:=HP4.out.1;rw [HLP.out] at this;exact this) W
  simpa using this
 have HT:=Aside0.mk (show ∀ W,Below w4.heap.size w4 W->Bs W (.slice A4 j c4) (p.take m) from fun W hW=>by
  have h2:=Kd.C_take (m:=j) HP4.out.2 (by have:=HJ.out;have:=HLP.out;omega)
  have e2:p.take j=p.take m:=by
   rw [<- HJ.out,<- HLP.out]
   by_cases hpm:p.length<=m
   ·rw [Nat.min_eq_left hpm,List.take_of_length_le (Nat.le_refl _),List.take_of_length_le hpm]
   ·rw [Nat.min_eq_right (by omega)]
  have e3:(p.take m).length=j:=by rw [<- e2,List.length_take,HLP.out];have:=HJ.out;omega
  rw [e2] at h2
  exact ⟨A4,c4,by rw [e3],by rw [e3];have:=HJ.out;have:=HP4.out.1;have:=HLP.out;omega,Kd.C_below h2 hW⟩)
 have HN:=Aside0.mk (show ∀ W,Below w4.heap.size w4 W->Calls Tryz.prog 214 #[.slice A4 j c4] W fun e w'=>∃ u,e=.returned u/\Bs w' u high/\Below W.heap.size W w' from fun W hW=>(norm_ok (HT.out W hW) (r:=high) (by rw [<- HW.out.2.2.2];exact HF.out.hig)).mono (by
  rintro e2 w6 ⟨x6,rfl,hr6,hb6⟩
  exact ⟨x6,rfl,Bs.of_R hr6,hb6⟩))
 have hmz:(madeCells #[Value.int .u8 0] M1)[m]?=some (.int .u8 0):=by
  have:=HM1.out
  unfold madeCells
  rw [Array.getElem?_map,Array.getElem?_range]
  have:=HM1.out
  rw [if_pos (by omega)]
  simp [Nat.mod_one]
 go_cut [14,15] from 49 to 58 (fun x14 x15 wx=>∃ gl gh,x14=.pointer (some ⟨gl,0,none⟩)/\x15=.pointer (some ⟨gh,0,none⟩)/\∃ g5 A6 c6,wx.cell? ⟨gl,0,none⟩=some (.slice (some ⟨g5,0,none⟩) M1 M1)/\wx.cell? ⟨gh,0,none⟩=some (.slice A6 high.length c6)/\wx.cell? ⟨g5,m,none⟩=some (.int .u8 0)/\wx.frozen? ⟨g5,m,none⟩=false/\¬ g5=gh/\w4.heap.size<=g5/\Below w4.heap.size w4 wx)
 case first =>
  go_region_law (first|(go_simp;go_at_call 214;refine (HN.out _ ?qb).mono ?_;(case qb=>(repeat (first|(with_reducible first|exact Below.refl _ _|apply below_alloc|apply pw_below_drewN|apply below_drew1)|exact Below.refl _ _)));rintro e2 w6 ⟨x6,rfl,hr6,hb6⟩;have HR6:=Aside0.mk hr6;obtain ⟨A6,c6,rfl,hc6,hC6⟩:=hr6;clear hc6 hC6;have HB6:=Aside0.mk hb6;have hrc:=fun p (hp:Addr.block p < _)=>hb6.cell hp;have hrf:=fun p (hp:Addr.block p < _)=>hb6.frozen hp;have hsz:=hb6.size;simp at hsz;(try have hl0:w4.heap.size < w6.heap.size:=(by omega));(try have hl1:w4.heap.size+1 < w6.heap.size:=(by omega));(try have hl2:w4.heap.size+1+1 < w6.heap.size:=(by omega));clear hb6))
  any_goals (go_wp2;go_meet;refine ⟨_,_,rfl,rfl,?_⟩;go_simp;(try (refine ⟨_,World.cell?_setCell_same' _ _ _ (by go_simp),?_⟩;go_simp));(repeat (first|refine And.intro (by omega) ?_|refine And.intro ⟨_,_,World.cell?_setCell_same' _ _ _ (by go_simp)⟩ ?_));(repeat (first|(with_reducible first|exact Below.refl _ _|apply below_alloc|apply pw_below_drewN|apply below_drew1)|exact Below.refl _ _|refine below_set ?_ (by omega)|exact HB6.out|refine below_step ?_ HB6.out)))
  all_goals trace_state
 case rest =>
  obtain ⟨gl,gh,rfl,rfl,g5,A6,c6,k1,k2,k3,k4,k5,k6,HB6⟩:=hcut
  have hA4:=below_step HA1.out HB4.out
  have hA6:=below_step hA4 HB6
  have cf:=cell_of hA6 (show w0.cell? ⟨w.heap.size,0,none⟩=some (.pointer (some ⟨f,0,none⟩)) by simp [World.cell?,HW.out.2.2.1])
  have hlt:=cell_lt (show w0.cell? ⟨w.heap.size,0,none⟩=some (.pointer (some ⟨f,0,none⟩)) by simp [World.cell?,HW.out.2.2.1])
  have hn1:¬ g5=w.heap.size:=by have:=hA4.size;omega
  have b7:Below w4.heap.size w4 (wc.setCell ⟨g5,m,none⟩ (.int .u8 1)):=below_set HB6 k6
  have c7:(wc.setCell ⟨g5,m,none⟩ (.int .u8 1)).cell? ⟨w.heap.size,0,none⟩=some (.pointer (some ⟨f,0,none⟩)):=(cset_ne hn1).trans cf
  have d7:(wc.setCell ⟨g5,m,none⟩ (.int .u8 1)).cell? ⟨gh,0,none⟩=some (.slice A6 high.length c6):=(cset_ne k5).trans k2
  have k2':(m:Int) < (M1:Int):=by have:=HM1.out;omega
  have k0':(0:Int)<=m:=by omega
  obtain ⟨W7,hW7⟩:∃ W7,wc.setCell ⟨g5,m,none⟩ (.int .u8 1)=W7:=⟨_,rfl⟩
  rw [hW7] at b7 c7 d7
  have hs7:W7.heap.size=wc.heap.size:=by rw [<- hW7];simp [World.setCell]
  obtain ⟨W8,hW8,q0,q1,q2,qs,qb⟩:=three W7 (.cells #[.int .u8 1] 5) (.cells #[.slice none 0 0] 36) (.cells #[.slice (some ⟨wc.heap.size,0,none⟩) 1 1] 36)
  rw [hs7] at q0 q1 q2
  have HQ:=Aside0.mk (And.intro hW7 (And.intro hW8 (And.intro b7 (And.intro qb (And.intro hA4 qs)))))
  have e1:W8.cell? ⟨wc.heap.size,0,none⟩=some (.int .u8 1):=by simp [World.cell?,q0]
  have e2:W8.cell? ⟨wc.heap.size+1+1,0,none⟩=some (.slice (some ⟨wc.heap.size,0,none⟩) 1 1):=by simp [World.cell?,q2]
  have e3:=cell_of qb c7
  have e4:=cell_of qb d7
  have e5:W8.frozen? ⟨wc.heap.size+1+1,0,none⟩=false:=by simp [World.frozen?,q2]
  have he1:(high.length:Int)<=(e:Int):=by have:=HF.out.hlen;omega
  have hrow:Bs W8 (.slice (some ⟨wc.heap.size,0,none⟩) 1 1) [1]:=by
   have h:=Bs.of_R (Kd.R_alloc (Kd.R_alloc (R_lit1 W7 1) (.cells #[.slice none 0 0] 36)) (.cells #[.slice (some ⟨wc.heap.size,0,none⟩) 1 1] 36))
   rw [hW8,hs7] at h
   exact h
  have HQ2:=Aside0.mk (And.intro hrow q2)
  have hne8:¬ wc.heap.size+1+1=w.heap.size:=by have:=hA6.size;omega
  have hge8:w4.heap.size<=wc.heap.size+1+1:=by have:=HB6.size;omega
  have hw8:Below w.heap.size w W8:=below_step HW.out.2.1 (below_step hA4 (below_step b7 qb))
  have HW8:=Aside0.mk (And.intro hw8 (below_step b7 qb))
  have HP8:=Aside0.mk (show Bs w4 (.slice A4 LP c4) p from ⟨A4,c4,by rw [HLP.out],HP4.out⟩)
  clear hrow hw8
  clear hA4 hA6 cf hlt b7 c7 d7 hW7 hW8 q0 q1 q2 qs qb HB6 HN hmk hs7
  have HK:=Aside0.mk (And.intro e1 (And.intro e2 (And.intro e3 (And.intro e4 e5))))
  clear e1 e2 e3 e4 e5
  go_wp2
  go_step3
  rw [HQ.out.1,HQ.out.2.1]
  have e1:=HK.out.1
  have e2:=HK.out.2.1
  have e3:=HK.out.2.2.1
  have e4:=HK.out.2.2.2.1
  have e5:=HK.out.2.2.2.2
  have gi1':gi 1=1:=by decide +kernel
  have hi:=fun n=>inv_ok (w:=W8.drewN n) (H.out.below (below_step HW8.out.1 (pw_below_drewN (Below.refl _ _) n))) 1 (by omega) (by omega)
  rw [gi1'] at hi
  have HI:=Aside0.mk hi
  clear hi
  go_wp2
  go_loopg [19] 1 (fun kq x wr=>kq=1/\wr=W8)
  case atStart=>exact ⟨rfl,rfl⟩
  case round =>
   obtain ⟨rfl,rfl⟩:=hrel
   go_wp2
   go_quiet (go_loud (go_at_call 212;exact quiet_drawn HI.out))
   have hsz:(wr.drewN nq).heap.size=wr.heap.size:=rfl
   have hlit:=Bs.of_R (R_lit1 (wr.drewN nq) 1)
   rw [hsz] at hlit
   have hbl:Below wr.heap.size wr ((wr.drewN nq).alloc (.cells #[.int .u8 1] 5)):=below_alloc (pw_below_drewN (Below.refl _ _) _) _
   have hcall:=pmul_ok (H.out.below (below_step HW8.out.1 hbl)) _ _ [1] [1] [1] (HQ2.out.1.below hbl) hlit (by intro x hx;simp at hx;omega) (by intro x hx;simp at hx;omega) (by simp) (by simp) HF.out.one
   have HC:=Aside0.mk hcall
   have HBL:=Aside0.mk hbl
   clear hsz hlit hbl hcall
   have HQ2b:=Aside0.mk (And.intro hne8 hge8)
   obtain ⟨LQ,hLQ⟩:∃ LQ,p2.length=LQ:=⟨_,rfl⟩
   have HLQ:=Aside0.mk hLQ
   obtain ⟨j2,hj2⟩:∃ j2,min LQ m=j2:=⟨_,rfl⟩
   have gif2:(if m < LQ then (m:Int) else (LQ:Int))=(j2:Int):=by split <;> omega
   have HJ2:=Aside0.mk hj2
   clear hLQ hj2
   go_wp2_with (first|(go_at_call 194;go_loud (refine H10.out.2.1.mono ?_);rintro e2 w11 ⟨x11,rfl,hr11,hb11⟩;have hr11b:=Bs.of_R hr11;obtain ⟨A11,c11,rfl,hc11,hC11⟩:=hr11b;have g1:=cell_of hb11 HK10.out;have H11:=Aside0.mk (And.intro hc11 (And.intro hC11 hb11));rw [HLQ.out];clear hr11 hb11 hc11 hC11 f1 f2 f3)|(go_at_call 194;go_loud (refine HC.out.mono ?_);rintro e2 w10 ⟨x10,rfl,hr10,hb10⟩;obtain ⟨A10,c10,rfl⟩:=Kd.R_slice hr10;have hb10':=below_step HBL.out hb10;have f1:=cell_of hb10' HK.out.2.1;have f2:=cell_of hb10' HK.out.2.2.1;have f3:w10.frozen? ⟨wc.heap.size+1+1,0,none⟩=false:=(hb10'.frozen (cell_lt HK.out.2.1)).trans HK.out.2.2.2.2;have hk2:=(hb10'.block _ (Array.getElem?_eq_some_iff.1 HQ2.out.2).1).trans HQ2.out.2;have hrow:=Kd.R_set hr10 hk2 (by decide) 0 (.slice A10 1 c10);have hb:=below_set (j:=0) (v:=.slice A10 1 c10) (below_step HW8.out.2 hb10') hge8;have hcall2:=pmul_ok (H.out.below (below_step HW.out.2.1 (below_step HQ.out.2.2.2.2.1 hb))) _ _ [1] p p2 (Bs.of_R hrow) (HP8.out.below hb) (by intro x hx;simp at hx;omega) HF.out.bp (by simp) (by have:=HF.out.lp;omega) HF.out.all;have hf1:=cell_of (Below.refl w10.heap.size w10) f1;have H10:=Aside0.mk (And.intro hb (And.intro hcall2 (Bs.of_R hrow)));have k1:(w10.setCell ⟨wc.heap.size+1+1,0,none⟩ (.slice A10 1 c10)).cell? ⟨wc.heap.size+1+1,0,none⟩=some (.slice A10 1 c10):=World.cell?_setCell_same' _ _ _ (by rw [f1];rfl);have HK10:=Aside0.mk k1;clear hr10 hb10 hb10' e1 e2 e3 e4 e5 hk2 hrow hb hcall2 k1 hf1))
   have hcut2:∀ W:World,(Instr.slice 36 (.slice A11 LQ c11) (some (.int .i64 (j2:Int))) none none).run Tryz.prog W=.ok (.slice (if c11=j2 then A11 else A11.map (·.add j2)) (LQ - j2) (c11 - j2)) W:=fun W=>by
    obtain ⟨i0,hi,_,hsz,_⟩:=info_parts info5'
    have:=cut_from (P:=Tryz.prog) 36 5 .i64 Tryz.underlying36 hi 1 hsz A11 LQ c11 (j2:Int) (by omega) (by have:=HJ2.out;omega) W
    simpa using this
   have HT2:=Aside0.mk (show ∀ W,Below w11.heap.size w11 W->Bs W (.slice (if c11=j2 then A11 else A11.map (·.add j2)) (LQ - j2) (c11 - j2)) (p2.drop m) from fun W hW=>by
    have hlq:=HLQ.out
    have hjq:=HJ2.out
    have hcq:=H11.out.1
    have h2:=Kd.C_drop (m:=j2) (c:=c11) H11.out.2.1 (by omega) (by omega)
    have e2:p2.drop j2=p2.drop m:=by
     by_cases hpm:LQ<=m
     ·rw [<- hjq,Nat.min_eq_left hpm,List.drop_eq_nil_of_le (by omega),List.drop_eq_nil_of_le (by omega)]
     ·rw [<- hjq,Nat.min_eq_right (by omega)]
    have e3:(p2.drop m).length=LQ - j2:=by rw [<- e2,List.length_drop];omega
    rw [e2] at h2
    exact ⟨_,c11 - j2,by rw [e3],by rw [e3];omega,by
     have h3:=Kd.C_below h2 hW
     simp only [show (Kd.int .u8).sz=1 from rfl,Nat.mul_one] at h3
     exact h3⟩)
   have HN2:=Aside0.mk (show ∀ W,Below w11.heap.size w11 W->Calls Tryz.prog 214 #[.slice (if c11=j2 then A11 else A11.map (·.add j2)) (LQ - j2) (c11 - j2)] W fun e w'=>∃ u,e=.returned u/\Bf (fun k=>W.heap.size<=k) w' u o/\Below W.heap.size W w' from fun W hW=>(norm_ok (HT2.out W hW) (r:=o) (by rw [<- HW.out.2.2.2];exact HF.out.top)).mono (by
    rintro e2 w6 ⟨x6,rfl,hr6,hb6⟩
    exact ⟨x6,rfl,Bf.of_R hr6 (fun k hk _=>hk),hb6⟩))
   have hlt17:=cell_lt g1
   go_region_law (first|(go_simp;go_at_call 214;refine (HN2.out _ ?qb).mono ?_;(case qb=>(repeat (first|(with_reducible first|exact Below.refl _ _|apply below_alloc|apply pw_below_drewN|apply below_drew1)|exact Below.refl _ _)));rintro e2 w12 ⟨x12,rfl,hr12,hb12⟩;have H12:=Aside0.mk (And.intro hr12 hb12);have g2:=cell_of hb12 (show w11.drew.cell? ⟨wc.heap.size+1+1,0,none⟩=some (.slice A10 1 c10) from g1);clear hr12 hb12))
   all_goals go_wp2
   all_goals (first|(rw [Exit.noGoto_ret];go_ret3)|go_ret3)
   all_goals
    have hb1112:Below w11.heap.size w11 w12:=below_step (below_drew1 (Below.refl _ _)) H12.out.2
    have hb1012:=below_step H11.out.2.2 hb1112
    exact ⟨_,_,rfl,H10.out.2.2.below hb1012,H12.out.1.mono (fun k hk=>Nat.le_trans (below_step HW.out.2.1 (below_step HQ.out.2.2.2.2.1 (below_step H10.out.1 H11.out.2.2))).size hk),below_step HW.out.2.1 (below_step HQ.out.2.2.2.2.1 (below_step H10.out.1 hb1012))⟩
end Go.Proofs.YtmmcbncpnlknbaaGreat.Top
namespace Go.Proofs.YtmmcbncpnlknbaaGreat.Top
open Go Go.RowKit Go.Proofs.YtmmcbncpnlknbaaGreatW.PrintWords Go.Proofs.YtmmcbncpnlknbaaGreatW.PrintLast Go.Proofs.YtmmcbncpnlknbaaGreatW.PrintMore
theorem sdL_len (f:Nat->Sd):∀ i,(sdL f i).length=i*4
 | 0=>rfl
 | i+1=>by rw [sdL,List.length_append,sdL_len f i];simp [sdC];omega
theorem sdL_get (f:Nat->Sd):∀ n i j,i < n->j < 4->(sdL f n)[i*4+j]?=(sdC (f i))[j]?
 | 0,i,j,h,_=>by omega
 | n+1,i,j,h,hj=>by
  have hl:=sdL_len f n
  rw [sdL]
  by_cases hi:i < n
  ·rw [List.getElem?_append_left (by omega)]
   exact sdL_get f n i j hi hj
  ·have:i=n:=by omega
   subst this
   rw [List.getElem?_append_right (by omega),hl]
   congr 1
   omega
structure Sr (w:World) (g n:Nat) (f:Nat->Sd):Prop where
 lt:g < w.heap.size
 at_:∀ i,i < n->w.cell? ⟨g,i*4,none⟩=some (.int .i64 (f i).e)/\w.cell? ⟨g,i*4+1,none⟩=some (.string (f i).s)/\w.cell? ⟨g,i*4+2,none⟩=some (.bool (f i).is)/\w.cell? ⟨g,i*4+3,none⟩=some (.bool (f i).no)
theorem Sr.below {w W:World} {g n:Nat} {f:Nat->Sd} (h:Sr w g n f) (hb:Below w.heap.size w W):Sr W g n f :=
 ⟨Nat.lt_of_lt_of_le h.lt hb.size,fun i hi=>by
  obtain ⟨h0,h1,h2,h3⟩:=h.at_ i hi
  exact ⟨(hb.cell (p:=⟨g,i*4,none⟩) h.lt).trans h0,(hb.cell (p:=⟨g,i*4+1,none⟩) h.lt).trans h1,(hb.cell (p:=⟨g,i*4+2,none⟩) h.lt).trans h2,(hb.cell (p:=⟨g,i*4+3,none⟩) h.lt).trans h3⟩⟩
theorem Sr.of_own {w:World} {base n:Nat} {v:Value} {f:Nat->Sd} (h:w.ownsRow base 269 4 v n (sdL f n)) (hn:1<=n):∃ g c,v=.slice (some ⟨g,0,none⟩) n c/\n<=c/\base<=g/\Sr w g n f:=by
 obtain ⟨_,⟨rfl,h0⟩|⟨g,cap,cur,rfl,hg,hh,hcp,_,hs,ht⟩⟩:=h
 ·omega
 ·refine ⟨g,cap,rfl,hcp,hg,(Array.getElem?_eq_some_iff.1 hh).1,fun i hi=>?_⟩
  have key:∀ j,j < 4->cur[i*4+j]?=(sdC (f i))[j]? :=fun j hj=>by
   have h1:=sdL_get f n i j hi hj
   rw [<- ht,List.getElem?_take] at h1
   rw [if_pos (by omega)] at h1
   simpa using h1
  have k0:=key 0 (by omega)
  have k1:=key 1 (by omega)
  have k2:=key 2 (by omega)
  have k3:=key 3 (by omega)
  simp only [sdC,Nat.add_zero] at k0 k1 k2 k3
  simp [World.cell?,hh,k0,k1,k2,k3]
theorem Om.keep {w W:World} {b c:Nat} {key:Value} (h:Om w b key c) (hb:W.heap[b]?=w.heap[b]?):Om W b key c:=by
 rcases h with ⟨h0,h⟩|⟨h0,h⟩
 ·exact .inl ⟨h0,hb.trans h⟩
 ·exact .inr ⟨h0,hb.trans h⟩
theorem setB_same {w:World} {b:Nat} (h:b < w.heap.size) (o:Obj):(Go.ChangeMaps.setBlock w b o).heap[b]?=some o:=by simp [Go.ChangeMaps.setBlock,h]
theorem om_next0 {w:World} {b r:Nat} {key:Value} (hr:w.heap[r]?=some (.mapIter (some b) 0 #[] 0)) (h:w.heap[b]?=some (.map #[] 0)) (ty:TypeId):(Instr.next (.pointer (some ⟨r,0,none⟩)) false ty).run Tryz.prog w=.ok (.tuple #[.bool false]) w:=by
 rcases run_next_at (P:=Tryz.prog) w ty r b 0 0 #[] #[] 0 hr h (fun x hx=>by simp at hx) (Nat.le_refl _) with ⟨_,h⟩|⟨e,he,_⟩
 ·exact h
 ·simp [leftOf] at he
theorem om_next1 {w:World} {b r:Nat} {key:Value} {c:Int} (hr:w.heap[r]?=some (.mapIter (some b) 1 #[] 1)) (h:Om1 w b key c) (hne:r≠b) (ty:TypeId) :
  ∃ w',(Instr.next (.pointer (some ⟨r,0,none⟩)) false ty).run Tryz.prog w=.ok (.tuple #[.bool true,key,.int .i64 c]) w'/\(Instr.entry (.pointer (some ⟨r,0,none⟩))).run Tryz.prog w'=.ok (.tuple #[key,.int .i64 c]) w'/\w.grownBy w' (some r)/\w'.heap.size=w.heap.size/\w'.heap[r]?=some (.mapIter (some b) 1 #[0] 1):=by
 unfold Om1 at h
 rcases run_next_at (P:=Tryz.prog) w ty r b 1 1 #[] #[⟨key,.int .i64 c,0⟩] 1 hr h (fun x hx=>by simp at hx;subst hx;exact Nat.lt_succ_self 0) (Nat.le_refl _) with ⟨h0,_⟩|⟨e,he,w1,hw1,hrun⟩
 ·simp [leftOf] at h0
 ·have e1:e=⟨key,.int .i64 c,0⟩:=by simpa [leftOf] using he
  subst e1
  have hr1:w1.heap[r]?=some (.mapIter (some b) 1 #[] 1):=by rcases hw1 with rfl|rfl <;> exact hr
  have hb1:w1.heap[b]?=some (.map #[⟨key,.int .i64 c,0⟩] 1):=by rcases hw1 with rfl|rfl <;> exact h
  have hg1:w.grownBy w1 (some r):=by
   rcases hw1 with rfl|rfl
   ·exact ⟨rfl,rfl,rfl,Nat.le_refl _,fun _ _ _=>rfl⟩
   ·exact (grown_drew w).but _
  have hs1:w1.heap.size=w.heap.size:=by rcases hw1 with rfl|rfl <;> rfl
  have hg:=om_grown w1 r (.mapIter (some b) 1 #[0] 1)
  have hr2:(Go.ChangeMaps.setBlock w1 r (.mapIter (some b) 1 #[0] 1)).heap[r]?=some (.mapIter (some b) 1 #[0] 1):=setB_same (Array.getElem?_eq_some_iff.1 hr1).1 _
  refine ⟨Go.ChangeMaps.setBlock w1 r (.mapIter (some b) 1 #[0] 1),hrun,?_,hg1.trans hg,by simp [Go.ChangeMaps.setBlock,hs1],hr2⟩
  exact run_entry_at (P:=Tryz.prog) _ r b 1 #[] #[⟨key,.int .i64 c,0⟩] 1 ⟨key,.int .i64 c,0⟩ hr2 ((hg.block b (Array.getElem?_eq_some_iff.1 hb1).1 (by simpa using hne.symm)).trans hb1) (by simp) (by simp)
theorem om_next2 {w:World} {b r:Nat} {key:Value} {c:Int} (hr:w.heap[r]?=some (.mapIter (some b) 1 #[0] 1)) (h:Om1 w b key c) (ty:TypeId):(Instr.next (.pointer (some ⟨r,0,none⟩)) false ty).run Tryz.prog w=.ok (.tuple #[.bool false]) w:=by
 unfold Om1 at h
 rcases run_next_at (P:=Tryz.prog) w ty r b 1 1 #[0] #[⟨key,.int .i64 c,0⟩] 1 hr h (fun x hx=>by simp at hx;subst hx;exact Nat.lt_succ_self 0) (Nat.le_refl _) with ⟨_,h⟩|⟨e,he,_⟩
 ·exact h
 ·simp [leftOf] at he
theorem below_grown2 {n b:Nat} {w W W':World} (h:Below n w W) (hg:W.grownBy W' (some b)) (hb:n<=b) (hn:n<=W.heap.size):Below n w W' :=
 ⟨hg.os.trans h.os,hg.tape.trans h.tape,hg.output.trans h.output,Nat.le_trans h.size hg.size,fun k hk=>(hg.block k (by omega) (by simp;omega)).trans (h.block k hk)⟩
theorem bx165 {w:World} {b:Nat} {x:Int} {s:ByteArray} (h:w.heap[b]?=some (.cells #[.int .i64 x,.string s] 165 (0,0))):w.cell? ⟨b,0,none⟩=some (.int .i64 x)/\w.cell? ⟨b,1,none⟩=some (.string s)/\w.frozen? ⟨b,0,none⟩=false/\w.frozen? ⟨b,1,none⟩=false:=by
 simp [World.cell?,World.frozen?,h]
theorem bx_set2 {w:World} {b:Nat} {x0 x1:Value} (h:w.heap[b]?=some (.cells #[x0,x1] 165 (0,0))) (v0 v1:Value):((w.setCell ⟨b,0,none⟩ v0).setCell ⟨b,1,none⟩ v1).heap[b]?=some (.cells #[v0,v1] 165 (0,0)):=by
 simp [World.setCell,Array.getElem?_modify,h]
theorem set2_old (w:World) (v0 v1:Value) (o:Obj) {b k:Nat} (hk:k≠b) (hlt:k < w.heap.size):(((w.setCell ⟨b,0,none⟩ v0).setCell ⟨b,1,none⟩ v1).alloc o).heap[k]?=w.heap[k]? :=by
 rw [Below.heap_alloc _ _ _ (by simp [World.setCell];exact hlt),Below.heap_setCell _ _ _ _ (by exact hk),Below.heap_setCell _ _ _ _ (by exact hk)]
theorem set2_below0 {w w2:World} (h:Below w.heap.size w w2) (v0 v1:Value):Below w.heap.size w ((w2.setCell ⟨w.heap.size,0,none⟩ v0).setCell ⟨w.heap.size,1,none⟩ v1) :=
 below_grown2 (below_grown2 h (grown_setCell w2 w.heap.size 0 v0) (Nat.le_refl _) h.size) (grown_setCell _ w.heap.size 1 v1) (Nat.le_refl _) (by simp [World.setCell];exact h.size)
theorem set2_below {w w2:World} (h:Below w.heap.size w w2) (v0 v1:Value) (o:Obj):Below w.heap.size w (((w2.setCell ⟨w.heap.size,0,none⟩ v0).setCell ⟨w.heap.size,1,none⟩ v1).alloc o):=below_alloc (set2_below0 h v0 v1) o
def cntS (f:Nat->Sd):Nat->Nat
 | 0=>0
 | i+1=>cntS f i+(if (f i).is=true then 1 else 0)
theorem cntS_le (f:Nat->Sd):∀ i,cntS f i<=i
 | 0=>Nat.le_refl _
 | i+1=>by have:=cntS_le f i;unfold cntS;split <;> omega
def bestV (c:Nat) (e0:Int) (s0:ByteArray):Value:=if c=0 then .agg #[.int .i64 0,.string ⟨#[]⟩] else .agg #[.int .i64 e0,.string s0]
attribute [local go_sem] cset_ne calloc_old
set_option maxRecDepth 100000 in
set_option maxHeartbeats 2000000 in
theorem count_ok {w:World} {g n c:Nat} {f:Nat->Sd} (hS:Sr w g n f) (hn:n<=32) {e0:Int} {s0:ByteArray} (h0:0<=e0) (hw:I64 e0) (hs:s0.size<=maxLen) (hall:∀ i,i < n->(f i).is=true->(f i).e=e0/\(f i).s=s0) :
  Calls Tryz.prog 165 #[.slice (some ⟨g,0,none⟩) n c] w fun e w'=>e=.returned (.tuple #[bestV (cntS f n) e0 s0,.int .i64 (cntS f n)])/\Below w.heap.size w w':=by
 obtain ⟨kl,hkl⟩:=key165 (s0:=s0) hw hs
 have HS:=Aside0.mk (And.intro hS (And.intro h0 (And.intro hall hkl)))
 have hmm:=@run_makeMap Tryz.prog
 clear hS h0 hw hs hall hkl
 go_enter Tryz.func165,Tryz.ntmps165
 go_wp2
 go_loopg [13] n (fun kq x wr=>∃ i:Nat,x=.int .i64 i/\i+kq=n/\Aside0 (Om wr (w.heap.size+1) (.agg #[.int .i64 e0,.string s0]) (cntS f i)/\wr.heap[w.heap.size]?=some (.cells #[.int .i64 0,.string ⟨#[]⟩] 165 (0,0))/\Below w.heap.size w wr/\w.heap.size+1 < wr.heap.size))
 case atStart =>
  refine ⟨0,rfl,by omega,⟨.inl ⟨rfl,?_⟩,?_,below_alloc (below_alloc (Below.refl _ _) _) _,by simp⟩⟩
  ·have:=heap_alloc_new (w.alloc (.cells #[.int .i64 0,.string ⟨#[]⟩] 165)) (.map #[] 0)
   rwa [World.size_alloc] at this
  ·exact (Below.heap_alloc _ _ _ (by simp)).trans (heap_alloc_new _ _)
 case round =>
  obtain ⟨i,rfl,hik,HX⟩:=hrel
  by_cases hin:i < n
  ·have g1:(i:Int) < (n:Int):=by omega
   have g3:(0:Int)<=(i:Int):=by omega
   have hc:=cntS_le f i
   obtain ⟨c0,c1,c2,c3⟩:=(HS.out.1.below HX.out.2.2.1).at_ i hin
   have hb1:Below wr.heap.size wr (wr.alloc (.cells #[.int .i64 (f i).e,.string (f i).s,.bool (f i).is,.bool (f i).no] 269)):=below_alloc (Below.refl _ _) _
   cases his:(f i).is with
   | false =>
    have gw:wrap64 ((i:Int)+1)=(i:Int)+1:=w64 _ (by omega)
    rw [his] at c2 hb1
    have HB:=Aside0.mk hb1
    clear hb1
    go_wp2
    go_roundg (n - (i+1))
    case measure=>exact meas5 hin hik
    case rel=>exact ⟨i+1,by simp,meas4 hin,⟨by rw [cntS,his];exact HX.out.1.keep (HB.out.block _ HX.out.2.2.2),(HB.out.block _ (by have:=HX.out.2.2.2;omega)).trans HX.out.2.1,below_step HX.out.2.2.1 HB.out,by have:=HX.out.2.2.2;simp;omega⟩⟩
   | true =>
    obtain ⟨hfe,hfs⟩:=HS.out.2.2.1 i hin his
    rw [his] at c2 hb1
    rw [hfe] at c0 hb1
    rw [hfs] at c1 hb1
    have hom1:Om (wr.alloc (.cells #[.int .i64 e0,.string s0,.bool true,.bool (f i).no] 269)).drew (w.heap.size+1) (.agg #[.int .i64 e0,.string s0]) (cntS f i):=HX.out.1.keep (hb1.block _ HX.out.2.2.2)
    have hlk:=om_look HS.out.2.2.2 hom1
    obtain ⟨w2,hent,hom2,hg2,hz2⟩:=om_ent HS.out.2.2.2 hom1
    have hlk2:=om1_look HS.out.2.2.2 hom2
    obtain ⟨w3,hst,hom3,hg3,hz3⟩:=om_st hom2 (IntKind.i64.wrap ((cntS f i:Int)+1))
    have gw2:IntKind.i64.wrap ((cntS f i:Int)+1)=((cntS f (i+1):Nat):Int):=by
     have hcs:cntS f (i+1)=cntS f i+1:=by simp [cntS,his]
     rw [hcs,IntKind.wrap_i64]
     omega
    rw [gw2] at hom3
    clear gw2
    have HB:=Aside0.mk (And.intro hb1 (And.intro hom3 (And.intro hg2 (And.intro hz2 (And.intro hg3 hz3)))))
    clear hb1 hom1 hom2 hom3 hg2 hz2 hg3 hz3 hfe hfs
    have gw:wrap64 ((i:Int)+1)=(i:Int)+1:=w64 _ (by omega)
    go_wp2
    go_region_law (fail)
    all_goals (
     go_wp2
     go_roundg (n - (i+1))
     case measure=>exact meas5 hin hik
     case rel =>
      obtain ⟨hb1,hom3,hg2,hz2,hg3,hz3⟩:=HB.out
      have hlt:=HX.out.2.2.2
      have hz1:(wr.alloc (.cells #[.int .i64 e0,.string s0,.bool true,.bool (f i).no] 269)).drew.heap.size=wr.heap.size+1:=by simp
      rw [hz1] at hz2
      exact ⟨i+1,by simp,meas4 hin,⟨.inr ⟨by rw [cntS,his];exact Nat.succ_pos _,hom3⟩,(hg3.block _ (by omega) (by simp)).trans ((hg2.block _ (by omega) (by simp)).trans ((hb1.block _ (by omega)).trans HX.out.2.1)),below_grown2 (below_grown2 (below_drew1 (below_step HX.out.2.2.1 hb1)) hg2 (by omega) (by omega)) hg3 (by omega) (by omega),by omega⟩⟩)
  ·have g1:¬ (i:Int) < (n:Int):=by omega
   have e1:i=n:=by omega
   subst e1
   rcases HX.out.1 with ⟨hc0,hm0⟩|⟨hc0,hm1⟩
   ·have hrun:=run_range_map (P:=Tryz.prog) wr 283 165 3 (w.heap.size+1) #[] 0 Tryz.underlying283 hm0
    have hb1:Below wr.heap.size wr (wr.alloc (.mapIter (some (w.heap.size+1)) 0 #[] 0)):=below_alloc (Below.refl _ _) _
    have hnx:=fun ty=>om_next0 (key:=.int .i64 0) (heap_alloc_new wr (.mapIter (some (w.heap.size+1)) 0 #[] 0)) ((hb1.block _ HX.out.2.2.2).trans hm0) ty
    have HB:=Aside0.mk (And.intro hb1 (And.intro hm0 hnx))
    clear hb1 hm0 hnx
    have hbx:=(HB.out.1.block _ (show w.heap.size < wr.heap.size by have:=HX.out.2.2.2;omega)).trans HX.out.2.1
    go_wp2
    obtain ⟨W1,hW1⟩:∃ W1,wr.alloc (.mapIter (some (w.heap.size+1)) 0 #[] 0)=W1:=⟨_,rfl⟩
    rw [hW1] at HB hbx
    rw [hW1]
    clear hW1 hrun
    go_loopg [3] 0 (fun kq x wq=>x=.int .i64 0/\wq=W1)
    case atStart=>exact ⟨rfl,rfl⟩
    case round =>
     obtain ⟨rfl,rfl⟩:=hrel
     have hnx:=HB.out.2.2
     obtain ⟨b0,b1,f0,f1⟩:=bx165 hbx
     have hbx0:=Aside0.mk hbx
     have HG:=Aside0.mk (below_grown2 (below_grown2 (below_step HX.out.2.2.1 HB.out.1) (grown_setCell wr w.heap.size 0 (.int .i64 0)) (Nat.le_refl _) (below_step HX.out.2.2.1 HB.out.1).size) (grown_setCell _ w.heap.size 1 (.string ⟨#[]⟩)) (Nat.le_refl _) (by simp [World.setCell];exact (below_step HX.out.2.2.1 HB.out.1).size))
     clear hbx
     go_wp2
     refine bodyPost_ret (results_ct rfl _ _ w.heap.size 165 #[.int .i64 0,.string ⟨#[]⟩] (0,0) _ rfl (bx_set2 hbx0.out _ _) Tryz.underlying165 rfl (by kernel_rfl)) rfl ⟨?_,HG.out⟩
     simp [bestV,hc0]
   ·have hrun:=run_range_map (P:=Tryz.prog) wr 283 165 3 (w.heap.size+1) #[⟨.agg #[.int .i64 e0,.string s0],.int .i64 (cntS f i),0⟩] 1 Tryz.underlying283 hm1
    have hb1:Below wr.heap.size wr (wr.alloc (.mapIter (some (w.heap.size+1)) 1 #[] 1)):=below_alloc (Below.refl _ _) _
    have hm2:Om1 (wr.alloc (.mapIter (some (w.heap.size+1)) 1 #[] 1)) (w.heap.size+1) (.agg #[.int .i64 e0,.string s0]) (cntS f i):=(hb1.block _ HX.out.2.2.2).trans hm1
    have hbx:=(hb1.block _ (show w.heap.size < wr.heap.size by have:=HX.out.2.2.2;omega)).trans HX.out.2.1
    obtain ⟨w2,hnx,hen,hg2,hz2,hit2⟩:=om_next1 (heap_alloc_new wr (.mapIter (some (w.heap.size+1)) 1 #[] 1)) hm2 (by have:=HX.out.2.2.2;omega) 0
    have hz1:(wr.alloc (.mapIter (some (w.heap.size+1)) 1 #[] 1)).heap.size=wr.heap.size+1:=by simp
    obtain ⟨W1,hW1⟩:∃ W1,wr.alloc (.mapIter (some (w.heap.size+1)) 1 #[] 1)=W1:=⟨_,rfl⟩
    rw [hW1] at hb1 hm2 hbx hnx hg2 hz2 hz1
    have HB:=Aside0.mk (And.intro hb1 (And.intro hm2 (And.intro hbx (And.intro hg2 (And.intro hz2 (And.intro hit2 (And.intro hz1 (And.intro hnx hen))))))))
    clear hb1 hm2 hbx hg2 hz2 hit2 hz1 hm1 hnx hen
    go_wp2
    clear hW1 hrun
    go_loopg [3] 1 (fun kq x wq=>(kq=1/\x=.int .i64 0/\wq=W1)∨(kq=0/\x=.int .i64 (cntS f i)/\Aside0 (wq.heap[wr.heap.size]?=some (.mapIter (some (w.heap.size+1)) 1 #[0] 1)/\Om1 wq (w.heap.size+1) (.agg #[.int .i64 e0,.string s0]) (cntS f i)/\wq.heap[w.heap.size]?=some (.cells #[.int .i64 e0,.string s0] 165 (0,0))/\Below w.heap.size w wq)))
    case atStart=>exact .inl ⟨rfl,rfl,rfl⟩
    case round =>
     rcases hrel with ⟨rfl,rfl,rfl⟩|⟨rfl,rfl,HY⟩
     ·obtain ⟨hb1,hm2,hbx,hg2,hz2,hit2,hz1,hnx,hen⟩:=HB.out
      have hlt:=HX.out.2.2.2
      have hl2:w.heap.size < w2.heap.size:=by omega
      obtain ⟨b0,b1,f0,f1⟩:=bx165 ((hg2.block _ (by omega) (by simp;omega)).trans hbx)
      have h0:=HS.out.2.1
      clear hb1 hm2 hbx hg2 hz2 hit2 hz1
      by_cases he:e0=0
      ·subst he
       have gc:(0:Int) < (cntS f i:Int):=by omega
       go_wp2
       go_roundg 0
       case measure=>exact Nat.zero_lt_one
       case rel =>
        obtain ⟨hb1,hm2,hbx,hg2,hz2,hit2,hz1,hnx,hen⟩:=HB.out
        have hlt:=HX.out.2.2.2
        have hbw:Below w.heap.size w w2:=below_grown2 (below_step HX.out.2.2.1 hb1) hg2 HX.out.2.2.1.size (by omega)
        exact .inr ⟨rfl,rfl,⟨(set2_old _ _ _ _ (by omega) (by omega)).trans hit2,(set2_old _ _ _ _ (by omega) (by omega)).trans ((hg2.block _ (by omega) (by simp;omega)).trans hm2),blk_alloc (bx_set2 ((hg2.block _ (by omega) (by simp;omega)).trans hbx) _ _) _,set2_below hbw _ _ _⟩⟩
      ·have gc:(0:Int) < e0:=by omega
       go_wp2
       go_roundg 0
       case measure=>exact Nat.zero_lt_one
       case rel =>
        obtain ⟨hb1,hm2,hbx,hg2,hz2,hit2,hz1,hnx,hen⟩:=HB.out
        have hlt:=HX.out.2.2.2
        have hbw:Below w.heap.size w w2:=below_grown2 (below_step HX.out.2.2.1 hb1) hg2 HX.out.2.2.1.size (by omega)
        exact .inr ⟨rfl,rfl,⟨(set2_old _ _ _ _ (by omega) (by omega)).trans hit2,(set2_old _ _ _ _ (by omega) (by omega)).trans ((hg2.block _ (by omega) (by simp;omega)).trans hm2),blk_alloc (bx_set2 ((hg2.block _ (by omega) (by simp;omega)).trans hbx) _ _) _,set2_below hbw _ _ _⟩⟩
     ·have hnx:=om_next2 HY.out.1 HY.out.2.1 0
      obtain ⟨b0,b1,f0,f1⟩:=bx165 HY.out.2.2.1
      go_wp2
      refine bodyPost_ret (results_ct rfl _ _ w.heap.size 165 #[.int .i64 e0,.string s0] (0,0) _ rfl (bx_set2 HY.out.2.2.1 _ _) Tryz.underlying165 rfl (by kernel_rfl)) rfl ⟨?_,set2_below0 HY.out.2.2.2 _ _⟩
      simp [bestV,Nat.ne_of_gt hc0]
end Go.Proofs.YtmmcbncpnlknbaaGreat.Top
namespace Go.Proofs.YtmmcbncpnlknbaaGreat.Top
open Go Go.RowKit Go.Proofs.YtmmcbncpnlknbaaGreatW.PrintWords Go.Proofs.YtmmcbncpnlknbaaGreatW.PrintLast Go.Proofs.YtmmcbncpnlknbaaGreatW.PrintMore
def rb (l:List Bool) (i:Nat):Bool:=l.getD i false
def Bo (w:World) (v:Value) (l:List Bool):Prop:=∃ A c,v=.slice A l.length c/\l.length<=c/\Kd.bool.C w A l.length l
theorem Bo.at {w:World} {A:Option Addr} {l:List Bool} (h:Kd.bool.C w A l.length l) (i:Nat) (hi:i < l.length):∃ ad,A=some ad/\w.cell? (ad.add i)=some (.bool (rb l i)):=by
 obtain ⟨ad,e,h2⟩:=Kd.at_bool h (i:Int) (by omega) (by omega)
 rw [Int.toNat_natCast] at h2
 exact ⟨ad,e,h2⟩
theorem Bo.below {w W:World} {v:Value} {l:List Bool} (h:Bo w v l) (hb:Below w.heap.size w W):Bo W v l:=by
 obtain ⟨A,c,h1,h2,h3⟩:=h
 exact ⟨A,c,h1,h2,Kd.C_below h3 hb⟩
def out0 (word:List Int) (miss:List Bool) (n i:Nat):List Int:=(List.range n).map (fun (j:Nat)=>if j < i/\rb miss j=true then 0 else rd word (j:Int))
def known (miss:List Bool) (i:Nat):List Int:=((List.range i).filter (fun (j:Nat)=>rb miss j)).map (fun (j:Nat)=>(j:Int))
theorem out0_zero (word:List Int) (miss:List Bool):out0 word miss word.length 0=word:=by
 apply List.ext_getElem
 ·simp [out0]
 ·intro i h1 h2
  simp [out0,rd,List.getD,h2]
theorem out0_len (word:List Int) (miss:List Bool) (n i:Nat):(out0 word miss n i).length=n:=by simp [out0]
theorem out0_lost (word:List Int) (miss:List Bool) (n i:Nat) (hi:i < n) (h:rb miss i=true):(out0 word miss n i).set i 0=out0 word miss n (i+1):=by
 apply List.ext_getElem
 ·simp [out0]
 ·intro j h1 h2
  rw [List.getElem_set]
  simp only [out0,List.getElem_map,List.getElem_range]
  by_cases hj:i=j
  ·subst hj
   simp [h]
  ·rw [if_neg hj]
   by_cases hm:rb miss j=true
   ·by_cases hlt:j < i
    ·rw [if_pos ⟨hlt,hm⟩,if_pos ⟨by omega,hm⟩]
    ·rw [if_neg (fun e=>hlt e.1),if_neg (fun e=>hlt (by omega))]
   ·rw [if_neg (fun e=>hm e.2),if_neg (fun e=>hm e.2)]
theorem out0_there (word:List Int) (miss:List Bool) (n i:Nat) (h:rb miss i=false):out0 word miss n (i+1)=out0 word miss n i:=by
 unfold out0
 refine List.map_congr_left (fun j hj=>?_)
 by_cases hm:rb miss j=true
 ·by_cases hlt:j < i
  ·rw [if_pos ⟨by omega,hm⟩,if_pos ⟨hlt,hm⟩]
  ·have:j≠i:=fun e=>by rw [e,h] at hm;cases hm
   rw [if_neg (fun e=>hlt (by omega)),if_neg (fun e=>hlt e.1)]
 ·rw [if_neg (fun e=>hm e.2),if_neg (fun e=>hm e.2)]
theorem known_lost (miss:List Bool) (i:Nat) (h:rb miss i=true):known miss i ++ [(i:Int)]=known miss (i+1):=by
 unfold known
 rw [List.range_succ,List.filter_append,List.map_append]
 simp [h]
theorem known_there (miss:List Bool) (i:Nat) (h:rb miss i=false):known miss (i+1)=known miss i:=by
 unfold known
 rw [List.range_succ,List.filter_append,List.map_append]
 simp [h]
theorem known_len (miss:List Bool):∀ i,(known miss i).length<=i:=fun i=>by
 unfold known
 rw [List.length_map]
 exact Nat.le_trans (List.length_filter_le _ _) (by simp)
theorem known_byte (miss:List Bool) (i:Nat) (hi:i<=7):byteL (known miss i):=by
 intro x hx
 obtain ⟨j,hj,rfl⟩:=List.mem_map.1 hx
 have:=(List.mem_filter.1 hj).1
 have:j < i:=by simpa using this
 omega
theorem out0_byte {word:List Int} (miss:List Bool) (n i:Nat) (h:byteL word):byteL (out0 word miss n i):=by
 intro x hx
 obtain ⟨j,_,rfl⟩:=List.mem_map.1 hx
 split
 ·omega
 ·exact byteL_rd h j
def outs (k m:Nat) (out full o slope:List Int):Nat->List Int
 | 0=>out
 | i+1=>if evL full (i:Int)=0 then (outs k m out full o slope i).set i (bx (rd (outs k m out full o slope i) (i:Int)) (gm (evL o (i:Int)) (gi (gm (evL slope (i:Int)) (wgt k m i))))) else outs k m out full o slope i
theorem outs_len (k m:Nat) (out full o slope:List Int):∀ i,(outs k m out full o slope i).length=out.length
 | 0=>rfl
 | i+1=>by
  rw [outs]
  split
  ·rw [List.length_set,outs_len k m out full o slope i]
  ·exact outs_len k m out full o slope i
theorem outs_byte (k m:Nat) {out:List Int} (full o slope:List Int) (h:byteL out):∀ i,byteL (outs k m out full o slope i)
 | 0=>h
 | i+1=>by
  have ih:=outs_byte k m full o slope h i
  rw [outs]
  split
  ·intro x hx
   rcases List.mem_or_eq_of_mem_set hx with hx|rfl
   ·exact ih x hx
   ·exact bx_byte _ _
  ·exact ih
def rts (full:List Int):Nat->Nat
 | 0=>0
 | i+1=>if evL full (i:Int)=0 then rts full i+1 else rts full i
theorem rts_le (full:List Int):∀ i,rts full i<=i
 | 0=>Nat.le_refl _
 | i+1=>by
  have:=rts_le full i
  rw [rts]
  split <;> omega
structure WordF (k m:Nat) (word:List Int) (miss:List Bool) (loc:Nat->List Int) (s g p high p2 o full slope:List Int) (e:Nat):Prop where
 hk:1<=k
 hkm:k+m<=7
 lw:word.length=k+m
 lm:miss.length=k+m
 bw:byteL word
 kn:(known miss (k+m)).length<=m
 hs:s=(List.range m).map (acc k m (out0 word miss (k+m) (k+m)) (k+m))
 l0:loc 0=[1]
 ls:∀ i,i < (known miss (k+m)).length->PAll.poly_sum.f 100 (mulRows (loc i) [rd (known miss (k+m)) (i:Int),1] 2)=some (loc (i+1))
 lb:∀ i,i<=(known miss (k+m)).length->byteL (loc i)/\(loc i).length<=100
 sol:SolF s (loc (known miss (k+m)).length) g p high p2 o e
 mul:PAll.poly_sum.f 100 (mulRows [1] (loc (known miss (k+m)).length) (loc (known miss (k+m)).length).length)=some full
 der:PAll.poly_Deriv.f 100 full=some slope
 bf:byteL full
 bo:byteL o
 bsl:byteL slope
 lf:full.length<=100
 lo:o.length<=100
 lsl:slope.length<=100
 root:∀ i,i < k+m->evL full (i:Int)=0->rb miss i=true/\1<=gm (evL slope (i:Int)) (wgt k m i)
 rtn:rts full (k+m)+1=full.length
 fin:∀ l,l < m->acc k m (outs k m (out0 word miss (k+m) (k+m)) full o slope (k+m)) (k+m) l=0
end Go.Proofs.YtmmcbncpnlknbaaGreat.Top
