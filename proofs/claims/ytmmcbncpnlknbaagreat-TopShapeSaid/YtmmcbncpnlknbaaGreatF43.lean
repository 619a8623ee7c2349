import Derived.Test.YtmmcbncpnlknbaaGreatF42
import Derived.Deep.Fields
import Derived.ChangeSame
set_option linter.unusedVariables false
set_option linter.unusedSimpArgs false
namespace Go.Proofs.YtmmcbncpnlknbaaGreat.Top
open Go Go.RowKit Go.Proofs.YtmmcbncpnlknbaaGreatW.PrintWords Go.Proofs.YtmmcbncpnlknbaaGreatW.PrintLast Go.Proofs.YtmmcbncpnlknbaaGreatW.PrintMore
open Go.Proofs.YtmmcbncpnlknbaaGreat.PAll (S39 k39 k39_heap at_T39 rd_T39 z39 at_L3)
set_option maxRecDepth 100000
theorem info39:(Tryz.prog.info? 39).map (fun i=>(i.zero,i.size,i.bytes))=some (some (.agg #[.int .i64 0,.string ⟨#[]⟩,.slice none 0 0,.int .i64 0,.int .i64 0,.int .i64 0,.int .u8 0,.slice none 0 0]),8,104):=by kernel_rfl
def OpIn (w:World) (p:Op1×List Value):Prop:=∃ A' c' d1 d2 d3 d4 A'' n'' c'',p.2=(opC p.1.kd p.1.key A' p.1.data.length c' d1 d2 d3 d4 (.slice A'' n'' c'')).toList/\p.1.data.length<=c'/\(Kd.int .u8).C w A' p.1.data.length p.1.data/\byteL p.1.data/\p.1.data.length<=1000
structure FwR (w W:World) (v:Value) (R:List (Op1×List Value)):Prop where
 own:W.ownsRow w.heap.size 39 8 v R.length (R.flatMap (·.2))
 ops:∀ p ∈ R,OpIn w p
 bel:Below w.heap.size w W
def Row8 (W:World) (p:Addr) (x:S39) (A2:Option Addr) (c2:Nat) (A7:Option Addr) (c7:Nat):Prop:=W.cell? p=some (.int .i64 x.f0)/\W.cell? ⟨p.block,p.off+1,none⟩=some (.string x.f1)/\W.cell? ⟨p.block,p.off+2,none⟩=some (.slice A2 x.f2.length c2)/\W.cell? ⟨p.block,p.off+3,none⟩=some (.int .i64 x.f3)/\W.cell? ⟨p.block,p.off+4,none⟩=some (.int .i64 x.f4)/\W.cell? ⟨p.block,p.off+5,none⟩=some (.int .i64 x.f5)/\W.cell? ⟨p.block,p.off+6,none⟩=some (.int .u8 x.f6)/\W.cell? ⟨p.block,p.off+7,none⟩=some (.slice A7 x.f7.length c7)
theorem Row8.below {w W:World} {p:Addr} {x:S39} {A2:Option Addr} {c2:Nat} {A7:Option Addr} {c7:Nat} (h:Row8 w p x A2 c2 A7 c7) (hb:Below w.heap.size w W):Row8 W p x A2 c2 A7 c7:=by
 have hl:=cell_lt h.2.1
 exact ⟨(hb.cell hl).trans h.1,(hb.cell (p:=⟨p.block,_,none⟩) hl).trans h.2.1,(hb.cell (p:=⟨p.block,_,none⟩) hl).trans h.2.2.1,(hb.cell (p:=⟨p.block,_,none⟩) hl).trans h.2.2.2.1,(hb.cell (p:=⟨p.block,_,none⟩) hl).trans h.2.2.2.2.1,(hb.cell (p:=⟨p.block,_,none⟩) hl).trans h.2.2.2.2.2.1,(hb.cell (p:=⟨p.block,_,none⟩) hl).trans h.2.2.2.2.2.2.1,(hb.cell (p:=⟨p.block,_,none⟩) hl).trans h.2.2.2.2.2.2.2⟩
section
variable {w W:World} {A:Option Addr} {c:Nat} {l:List S39}
def FewP (w w':World) (e:Ending):Prop:=∃ v R,e=.returned v/\FwR w w' v R/\(R.length<=40∨R.length<=501/\∀ p ∈ R,p.1.kd=0)
theorem kp_of {A7:Option Addr} {l7:List (List Int)} (h:(Kd.slice 3 (Kd.int .i64)).C w A7 l7.length l7) (hb:Below w.heap.size w W):KpR W A7 l7.length:=fun j hj=>by
 obtain ⟨ad,A0,c0,e,hc,_⟩:=at_L3 (Kd.F_now (Kd.F_below (Kd.C_F (Kd.heap_slice 3 (Kd.heap_int .i64)) h) hb)) (j:Int) (by omega) (by omega)
 exact ⟨ad,A0,_,c0,e,by simpa using hc⟩
theorem made8 (n:Nat):(madeCells (opC 0 ⟨#[]⟩ none 0 0 0 0 0 0 (.slice none 0 0)) (n*8)).toList=(List.replicate n ((⟨0,⟨#[]⟩,[]⟩:Op1),(opC 0 ⟨#[]⟩ none 0 0 0 0 0 0 (.slice none 0 0)).toList)).flatMap (·.2):=by
 unfold madeCells
 rw [Array.toList_map,Array.toList_range]
 induction n with
 | zero=>rfl
 | succ n ih =>
  rw [Nat.succ_mul,List.range_add,List.map_append,ih,List.replicate_succ',List.flatMap_append,List.map_map]
  congr 1
  have h:∀ j,(n*8+j) % 8=j % 8:=fun j=>by omega
  simp only [opC,Function.comp_def,List.size_toArray,List.length_cons,List.length_nil,h]
  rfl
theorem few_ok (hC:Kd.C k39 w A l.length l) (hb:∀ x ∈ l,byteL x.f2) :
  Calls Tryz.prog 13 #[.slice A l.length c,.int .i64 40] w fun e w'=>FewP w w' e:=by
 have HC:=Aside0.mk (And.intro (fun W (hb:Below w.heap.size w W)=>Kd.F_now (Kd.F_below (Kd.C_F k39_heap hC) hb)) hb)
 obtain ⟨n,hn⟩:∃ n,l.length=n:=⟨_,rfl⟩
 have HN:=Aside0.mk hn
 rw [hn] at HC ⊢
 clear hC hb hn
 go_enter Tryz.func13,Tryz.ntmps13
 by_cases h5:n<=500
 ·have g0:¬ (500:Int) < (n:Int):=by omega
  go_wp2
  go_loopg [5,6] n (fun kq x5 x6 wr=>∃ (i:Nat) (R:List (Op1×List Value)),x6=.int .i64 i/\i+kq=n/\R.length<=40/\Aside0 (FwR w wr x5 R))
  case atStart=>exact ⟨0,[],rfl,by omega,by decide,⟨World.ownsRow_nil _ _ _ _,fun p h=>by simp at h,Below.refl _ _⟩⟩
  case round =>
   obtain ⟨i,R,rfl,hik,hR,HX⟩:=hrel
   obtain ⟨A9,c9,h9,_⟩:=own_slice2 HX.out.own
   subst h9
   by_cases hin:i < n
   ·have f1:(i:Int) < (n:Int):=by omega
    by_cases hr4:R.length < 40
    ·have f2:(R.length:Int) < 40:=by omega
     have f0:(0:Int)<=(i:Int):=by omega
     have gw:wrap64 ((i:Int)+1)=(i:Int)+1:=w64 _ (by omega)
     have HI:=Aside0.mk (And.intro hin (And.intro hik hr4))
     obtain ⟨ad,A2,c2,A7,c7,rfl,y0,y1,y2,y3,y4,y5,y6,y7,hl2,hC2,hl7,hC7⟩:=at_T39 (HC.out.1 _ (Below.refl _ _)) (i:Int) f0 f1
     simp only [Int.toNat_natCast] at y0 y1 y2 y3 y4 y5 y6 y7 hl2 hC2 hl7 hC7
     have hxm:rd_T39 l (i:Int) ∈ l:=by
      unfold rd_T39
      rw [Int.toNat_natCast,List.getD_eq_getElem?_getD,List.getElem?_eq_getElem (show i < l.length by rw [HN.out];exact hin)]
      exact List.getElem_mem _
     have hxb:=HC.out.2 _ hxm
     generalize rd_T39 l (i:Int)=x at *
     have HS:=Aside0.mk (fun W (hb:Below w.heap.size w W)=>msmall_ok (w:=W) x.f1 A2 x.f2.length c2 A7 x.f7.length c7 (fun W2 hb2=>kp_of hC7 (below_step hb hb2)))
     have HY:=Aside0.mk (fun W (hb:Below w.heap.size w W)=>(show Row8 w (ad.add (i*8)) x A2 c2 A7 c7 from ⟨y0,y1,y2,y3,y4,y5,y6,y7⟩).below hb)
     have HD:=Aside0.mk (And.intro hl2 (And.intro hC2 hxb))
     have HB1:=Aside0.mk (below_step HX.out.bel (below_drew1 (Below.refl wr.heap.size wr)))
     have HL:=Aside0.mk (show (R.length+1)*104<=140737488355328 by omega)
     clear y0 y1 y2 y3 y4 y5 y6 y7 hl2 hC2 hl7 hC7 hxm hxb
     obtain ⟨y0,y1,y2,y3,y4,y5,y6,y7⟩:=HY.out _ HB1.out
     unfold smaC at HS
     go_upto_region 7 with (fail)
     go_region_held3 (fun W=>W.cell? (ad.add (i*8))=some (.int .i64 x.f0)/\W.cell? ⟨(ad.add (i*8)).block,(ad.add (i*8)).off+1,none⟩=some (.string x.f1)/\W.cell? ⟨(ad.add (i*8)).block,(ad.add (i*8)).off+2,none⟩=some (.slice A2 x.f2.length c2)/\W.cell? ⟨(ad.add (i*8)).block,(ad.add (i*8)).off+3,none⟩=some (.int .i64 x.f3)/\W.cell? ⟨(ad.add (i*8)).block,(ad.add (i*8)).off+4,none⟩=some (.int .i64 x.f4)/\W.cell? ⟨(ad.add (i*8)).block,(ad.add (i*8)).off+5,none⟩=some (.int .i64 x.f5)/\W.cell? ⟨(ad.add (i*8)).block,(ad.add (i*8)).off+6,none⟩=some (.int .u8 x.f6)/\W.cell? ⟨(ad.add (i*8)).block,(ad.add (i*8)).off+7,none⟩=some (.slice A7 x.f7.length c7)) (first|exact HY.out _ HB2.out|exact HY.out _ HB1.out) (first|(go_at_call 26;refine (HS.out _ HB1.out).mono ?_;rintro e2 w2 hp2;obtain ⟨⟨b2,rfl,hm2⟩,hb2⟩:=hp2;have HB2:=Aside0.mk (below_step HB1.out hb2);have HM2:=Aside0.mk (And.intro hm2 hb2);clear hm2 hb2))
     cases b2 with
     | false =>
      go_wp2
      go_roundg (n - (i+1))
      case measure=>exact meas5 HI.out.1 HI.out.2.1
      case rel=>exact ⟨i+1,R,by simp [gw],meas4 HI.out.1,hR,⟨own_below (own_below HX.out.own (below_drew1 (Below.refl _ _))) HM2.out.2,HX.out.ops,HB2.out⟩⟩
     | true =>
      clear y0 y1 y2 y3 y4 y5 y6 y7
      obtain ⟨y0,y1,y2,y3,y4,y5,y6,y7⟩:=HY.out _ HB2.out
      go_wp2_with (first|((with_reducible refine gate_builtin (b:=.append) (xs:=#[.tmp 42,.tmp 47]) rfl ?_);at_builtin;go_loud (refine print_append_cells (w0:=w) w.heap.size rfl (.tmp 42) (.tmp 47) 24 39 (.agg #[.int .i64 0,.string ⟨#[]⟩,.slice none 0 0,.int .i64 0,.int .i64 0,.int .i64 0,.int .u8 0,.slice none 0 0]) 8 104 rfl Tryz.underlying24 info39 rfl (by decide) (by decide) (.slice A9 R.length c9) R.length (R.flatMap (·.2)) (opC x.f0 x.f1 A2 x.f2.length c2 x.f3 x.f4 x.f5 x.f6 (.slice A7 x.f7.length c7)).toList rfl rfl rfl (by simp [opC,Value.oneCell']) (own_below (own_below HX.out.own (below_drew1 (Below.refl _ _))) HM2.out.2) HB2.out HB2.out.size HL.out ?_;intro v4 w4 ho4 hb4 hg4 hat4;obtain ⟨A8,c8,h77,_⟩:=own_slice2 ho4;subst h77;have H4:=Aside0.mk (And.intro ho4 hb4);clear ho4 hb4 hg4 hat4)))
      go_roundg (n - (i+1))
      case measure=>exact meas5 HI.out.1 HI.out.2.1
      case rel=>exact ⟨i+1,R ++ [(⟨x.f0,x.f1,x.f2⟩,(opC x.f0 x.f1 A2 x.f2.length c2 x.f3 x.f4 x.f5 x.f6 (.slice A7 x.f7.length c7)).toList)],by simp [gw],meas4 HI.out.1,by have:=HI.out.2.2;simp;omega,⟨by simpa using H4.out.1,fun p hp=>by
       rcases List.mem_append.1 hp with h|h
       ·exact HX.out.ops p h
       ·simp at h;subst h;exact ⟨_,_,_,_,_,_,_,_,_,rfl,HD.out.1,HD.out.2.1,HD.out.2.2,by have:=HM2.out.1 trivial;show x.f2.length<=1000;omega⟩,H4.out.2⟩⟩
    ·have f2:¬ (R.length:Int) < 40:=by omega
     go_wp2
     go_ret
     exact ⟨_,R,rfl,HX.out,.inl hR⟩
   ·have f1:¬ (i:Int) < (n:Int):=by omega
    go_wp2
    go_ret
    exact ⟨_,R,rfl,HX.out,.inl hR⟩
 ·have g0:(500:Int) < (n:Int):=by omega
  have hmk:(Instr.makeSlice 24 (.int .i64 501) (.int .i64 501)).run Tryz.prog w=.ok (.slice (some ⟨w.heap.size,0,none⟩) 501 501) (w.alloc (.cells (madeCells (opC 0 ⟨#[]⟩ none 0 0 0 0 0 0 (.slice none 0 0)) (501*8)) 39)):=by
   obtain ⟨i0,hi,hz0,hz1,hz2⟩:=info_parts info39
   have h:=run_make (P:=Tryz.prog) (w:=w) 24 39 i0 (.agg #[.int .i64 0,.string ⟨#[]⟩,.slice none 0 0,.int .i64 0,.int .i64 0,.int .i64 0,.int .u8 0,.slice none 0 0]) Tryz.underlying24 hi hz0 .i64 .i64 501 501 (by omega) (by omega) (by rw [hz2];omega) (by omega)
   rw [hz1] at h
   exact h
  have hbl:=below_alloc (Below.refl w.heap.size w) (.cells (madeCells (opC 0 ⟨#[]⟩ none 0 0 0 0 0 0 (.slice none 0 0)) (501*8)) 39)
  have how:(w.alloc (.cells (madeCells (opC 0 ⟨#[]⟩ none 0 0 0 0 0 0 (.slice none 0 0)) (501*8)) 39)).ownsRow w.heap.size 39 8 (.slice (some ⟨w.heap.size,0,none⟩) 501 501) 501 ((List.replicate 501 ((⟨0,⟨#[]⟩,[]⟩:Op1),(opC 0 ⟨#[]⟩ none 0 0 0 0 0 0 (.slice none 0 0)).toList)).flatMap (·.2)):=by
   have h8:=made8 501
   refine ⟨by rw [<- h8,Array.length_toList,size_madeCells],.inr ⟨_,_,_,rfl,Nat.le_refl _,heap_alloc_new w _,Nat.le_refl _,by unfold maxLen;omega,size_madeCells _ _,?_⟩⟩
   rw [<- h8]
   exact List.take_of_length_le (by rw [Array.length_toList,size_madeCells];exact Nat.le_refl _)
  have HW:=Aside0.mk (And.intro how hbl)
  clear how hbl
  go_wp2
  go_ret
  exact ⟨_,List.replicate 501 ((⟨0,⟨#[]⟩,[]⟩:Op1),(opC 0 ⟨#[]⟩ none 0 0 0 0 0 0 (.slice none 0 0)).toList),rfl,⟨by rw [List.length_replicate];exact HW.out.1,fun p hp=>by
   rw [List.eq_of_mem_replicate hp]
   exact ⟨none,0,0,0,0,0,none,0,0,rfl,Nat.le_refl _,Kd.C_nil _ _,fun x hx=>by simp at hx,Nat.zero_le _⟩,HW.out.2⟩,.inr ⟨by rw [List.length_replicate];exact Nat.le_refl _,fun p hp=>by rw [List.eq_of_mem_replicate hp]⟩⟩
end
theorem fw_get:∀ (R:List (Op1×List Value)) (i j:Nat) (p:Op1×List Value),(∀ p ∈ R,p.2.length=8)->R[i]?=some p->j < 8->(R.flatMap (·.2))[i*8+j]?=p.2[j]?
 | [],i,j,q,_,h,_=>by simp at h
 | a :: L,0,j,q,h8,h,hj=>by
  simp at h
  subst h
  rw [List.flatMap_cons,List.getElem?_append_left (by rw [h8 _ List.mem_cons_self];omega),Nat.zero_mul,Nat.zero_add]
 | a :: L,i+1,j,q,h8,h,hj=>by
  rw [List.flatMap_cons,List.getElem?_append_right (by rw [h8 _ List.mem_cons_self];omega)]
  simp only [List.getElem?_cons_succ] at h
  rw [<- fw_get L i j q (fun p hp=>h8 p (List.mem_cons_of_mem _ hp)) h hj,h8 _ List.mem_cons_self]
  congr 1
  omega
section
variable {w W w1:World} {v:Value} {R:List (Op1×List Value)}
theorem OpIn.len {p:Op1×List Value} (h:OpIn w p):p.2.length=8:=by
 obtain ⟨_,_,_,_,_,_,_,_,_,e,_⟩:=h
 rw [e]
 rfl
theorem OpIn.below {p:Op1×List Value} (h:OpIn w p) (hb:Below w.heap.size w W):OpIn W p:=by
 obtain ⟨A',c',d1,d2,d3,d4,A'',n'',c'',e,h1,h2,h3⟩:=h
 exact ⟨A',c',d1,d2,d3,d4,A'',n'',c'',e,h1,Kd.F_now (Kd.F_below (Kd.C_F (Kd.heap_int .u8) h2) hb),h3⟩
theorem FwR.row (h:FwR w W v R) {i:Nat} {p:Op1×List Value} (hp:R[i]?=some p):∃ g c,v=.slice (some ⟨g,0,none⟩) R.length c/\g < W.heap.size/\∀ j,j < 8->W.cell? ⟨g,i*8+j,none⟩=p.2[j]? :=by
 have hi:i < R.length:=(List.getElem?_eq_some_iff.1 hp).1
 obtain ⟨_,⟨rfl,h0⟩|⟨g,cap,cur,rfl,_,hh,hcp,_,hs,ht⟩⟩:=h.own
 ·omega
 ·refine ⟨g,cap,rfl,blk_lt hh,fun j hj=>?_⟩
  have h1:=fw_get R i j p (fun p hp=>(h.ops p hp).len) hp hj
  rw [<- ht,List.getElem?_take,if_pos (by omega)] at h1
  rw [<- h1]
  simp [World.cell?,hh]
theorem scr_of {A:Option Addr} {c:Nat} (h:FwR w W (.slice A R.length c) R) (hk:∀ p ∈ R,p.1.kd=1∨p.1.kd=2∨p.1.kd=3∨p.1.kd=4∨p.1.kd=5) (hl:R.length<=40):Scr W A R.length c (R.map (·.1)):=by
 refine ⟨⟨by rw [List.length_map],?_,by omega⟩,fun i q hq=>?_,fun q hq=>?_⟩
 ·obtain ⟨A1,c1,e,h1⟩:=own_slice2 h.own
  injection e with _ _ e
  omega
 ·rw [List.getElem?_map] at hq
  obtain ⟨p,hp,rfl⟩:=Option.map_eq_some_iff.1 hq
  obtain ⟨g,c1,e,hg,hc⟩:=h.row hp
  injection e with e
  obtain ⟨A',c',d1,d2,d3,d4,A'',n'',c'',e2,h1,h2,h3⟩:=(h.ops p (List.mem_of_getElem? hp)).below h.bel
  exact ⟨g,e,hg,A',c',d1,d2,d3,d4,A'',n'',c'',fun j hj=>by rw [hc j hj,e2];simp,⟨_,_,rfl,h1,Kd.F_mono (Kd.C_F (Kd.heap_int .u8) h2) (fun _ h=>.inl h)⟩⟩
 ·obtain ⟨p,hp,rfl⟩:=List.mem_map.1 hq
  obtain ⟨A',c',d1,d2,d3,d4,A'',n'',c'',e2,h1,h2,h3⟩:=h.ops p hp
  exact ⟨hk p hp,h3⟩
structure ClR (w1 W:World) (v:Value) (R:List (Op1×List Value)) (Am:Option Addr) (cm:Nat) (Lm:List Mdl):Prop where
 fw:FwR w1 W v R
 kd:∀ p ∈ R,p.1.kd=1∨p.1.kd=2∨p.1.kd=3∨p.1.kd=4∨p.1.kd=5
 md:Md W Am cm Lm
 le:Lm.length<=R.length
def CliR (w w':World) (e:Ending):Prop:=(∃ A n c l m,e=.returned (.tuple #[.slice A n c,m])/\Scr w' A n c l)/\Below w.heap.size w w'
theorem cl_and {a b c d e f g h:Prop} (x:a/\b/\c/\d/\e/\f/\g) (y:h):a/\b/\c/\d/\e/\f/\h:=⟨x.1,x.2.1,x.2.2.1,x.2.2.2.1,x.2.2.2.2.1,x.2.2.2.2.2.1,y⟩
theorem clients_ok {A:Option Addr} {c:Nat} {l:List S39} (hC:Kd.C k39 w A l.length l) (hb:∀ x ∈ l,byteL x.f2) {K M Z:Nat} {T Lx O:Int} (hgo:LayA.Good K M Z T Lx O) :
  Calls Tryz.prog 6 #[geoV K M Z T Lx O,.slice A l.length c,.int .i64 40] w fun e w'=>CliR w w' e:=by
 have H0:=Aside0.mk (show Gb w (w.alloc (.cells (geoC K M Z T Lx O) 23)) w.heap.size K M Z T Lx O from ⟨heap_alloc_new w _,below_alloc (Below.refl _ _) _⟩)
 have HF:=Aside0.mk (few_ok (c:=c) (w:=w.alloc (.cells (geoC K M Z T Lx O) 23)) (Kd.F_now (Kd.F_below (Kd.C_F k39_heap hC) (below_alloc (Below.refl _ _) _))) hb)
 have HG:=Aside0.mk hgo
 obtain ⟨n,hn⟩:∃ n,l.length=n:=⟨_,rfl⟩
 rw [hn] at HF ⊢
 unfold geoV
 unfold geoC at H0 HF
 clear hC hb hgo hn
 go_enter Tryz.func6,Tryz.ntmps6
 go_upto_region 4 with (first|(go_at_call 13;go_loud (refine HF.out.mono ?_;rintro e1 w1 hp1;obtain ⟨v1,R,rfl,hw1,hl1⟩:=hp1;obtain ⟨A1,c1,rfl,_⟩:=own_slice2 hw1.own;have H1:=Aside0.mk (And.intro hw1 (And.intro (H0.out.step hw1.bel) hl1));clear hw1 hl1)))
 have HN:=Aside0.mk (show R.length<=501 by have:=H1.out.2.2;omega)
 go_wp2
 go_loopg [8,9,11] (R.length) (fun kq x8 x9 x11 wr=>∃ (i:Nat) (R':List (Op1×List Value)) (Am:Option Addr) (cm:Nat) (Lm:List Mdl),x11=.int .i64 i/\x9=.slice Am Lm.length cm/\i+kq=R.length/\R'.length<=40/\Aside0 (ClR w1 wr x8 R' Am cm Lm))
 case atStart=>exact ⟨0,[],none,0,[],rfl,rfl,by omega,by decide,⟨⟨World.ownsRow_nil _ _ _ _,fun p h=>by simp at h,Below.refl _ _⟩,fun p h=>by simp at h,Md.nil _,Nat.le_refl _⟩⟩
 case round =>
  obtain ⟨i,R',Am,cm,Lm,rfl,rfl,hik,hR,HX⟩:=hrel
  obtain ⟨A9,c9,h9,_⟩:=own_slice2 HX.out.fw.own
  subst h9
  have HBw:=Aside0.mk (H1.out.2.1.step HX.out.fw.bel).2
  by_cases hin:i < R.length
  ·have f1:(i:Int) < (R.length:Int):=by omega
   by_cases hr4:R'.length < 40
   ·have f2:(R'.length:Int) < 40:=by omega
    have f0:(0:Int)<=(i:Int):=by omega
    have gw:wrap64 ((i:Int)+1)=(i:Int)+1:=w64 _ (by have:=HN.out;omega)
    have HI:=Aside0.mk (And.intro hin (And.intro hik (And.intro hr4 hR)))
    obtain ⟨p,hp⟩:∃ p,R[i]?=some p:=⟨_,List.getElem?_eq_getElem hin⟩
    have hop:=H1.out.1.ops p (List.mem_of_getElem? hp)
    obtain ⟨g,c2,e2,hg,hc⟩:=H1.out.1.row hp
    injection e2 with e2 _ e4
    subst e2 e4
    obtain ⟨⟨kd,key,dat⟩,cs⟩:=p
    have HOp:=Aside0.mk (hop.below H1.out.1.bel)
    obtain ⟨A',c',d1,d2,d3,d4,A'',n'',c'',ecs,hl2,hC2,hbd,hd⟩:=hop
    simp only at ecs hl2 hC2 hbd hd
    subst ecs
    have HY:=Aside0.mk (fun W (hb:Below w1.heap.size w1 W)=>OpAt.cells (B:=0) (g:=g) (i:=i) (kd:=kd) (k:=key) (A':=A') (n:=dat.length) (c':=c') (d1:=d1) (d2:=d2) (d3:=d3) (d4:=d4) (v:=.slice A'' n'' c'') (fun j hj=>by rw [hc j hj];simp) hb hg)
    have HD:=Aside0.mk hd
    have HSh:=Aside0.mk (fun W (hm:Md W Am cm Lm)=>should_ok (w:=W) HG.out hm (by have:=HX.out.le;omega) kd key A' dat.length c' HD.out)
    have H16:=Aside0.mk (fun W=>call16 (kd:=kd) (k:=key) (A:=A') (n:=dat.length) (c:=c') (d1:=d1) (d2:=d2) (d3:=d3) (d4:=d4) (A':=A'') (n':=n'') (c':=c'') W)
    have H14:=Aside0.mk (fun W=>client14 (kd:=kd) (k:=key) (A:=A') (n:=dat.length) (c:=c') (d1:=d1) (d2:=d2) (d3:=d3) (d4:=d4) (A':=A'') (n':=n'') (c':=c'') W)
    have HL:=Aside0.mk (show (R'.length+1)*104<=140737488355328 by omega)
    unfold geoV calC at HSh
    unfold opC at H14 H16
    unfold calC at H16
    clear hp hg hc hl2 hC2 hbd hd
    obtain ⟨y0,y1,y2,y3,y4,y5,y6,y7⟩:=HY.out _ HX.out.fw.bel
    by_cases hkd:1<=kd/\kd<=5
    ·rw [show (decide (1<=kd) && decide (kd<=5))=true by simp [hkd]] at H14
     have HK:=Aside0.mk (show kd=1∨kd=2∨kd=3∨kd=4∨kd=5 by omega)
     clear hkd
     go_upto_region 9 with (first|(go_at_call 14;go_loud (refine (H14.out _).mono ?_;rintro e2 w2 ⟨rfl,hb2⟩;have H2:=Aside0.mk (And.intro hb2 (below_step HX.out.fw.bel hb2));clear y0 y1 y2 y3 y4 y5 y6 y7 hb2;obtain ⟨y0,y1,y2,y3,y4,y5,y6,y7⟩:=HY.out _ H2.out.2))|((with_reducible refine gate_builtin (b:=.append) (xs:=#[.tmp 34,.tmp 39]) rfl ?_);at_builtin;go_loud (refine print_append_cells (w0:=w1) w1.heap.size rfl (.tmp 34) (.tmp 39) 24 39 (.agg #[.int .i64 0,.string ⟨#[]⟩,.slice none 0 0,.int .i64 0,.int .i64 0,.int .i64 0,.int .u8 0,.slice none 0 0]) 8 104 rfl Tryz.underlying24 info39 rfl (by decide) (by decide) (.slice A9 R'.length c9) R'.length (R'.flatMap (·.2)) (opC kd key A' dat.length c' d1 d2 d3 d4 (.slice A'' n'' c'')).toList rfl rfl rfl (by simp [opC,Value.oneCell']) (own_below HX.out.fw.own H2.out.1) H2.out.2 H2.out.2.size HL.out ?_;intro v4 w4 ho4 hb4 hg4 hat4;obtain ⟨A8,c8,h77,_⟩:=own_slice2 ho4;subst h77;have H4:=Aside0.mk (And.intro ho4 (And.intro hb4 ((HX.out.md.below H2.out.1).grown (own_below HX.out.fw.own H2.out.1) hg4)));clear ho4 hb4 hg4 hat4)))
     have H5:=Aside0.mk (And.intro (below_drew1 (Below.refl w4.heap.size w4)) (show Gb w w4.drew w.heap.size K M Z T Lx O from H1.out.2.1.step (below_step H4.out.2.1 (below_drew1 (Below.refl w4.heap.size w4)))))
     go_region_held3 (fun W=>W.cell? ⟨w.heap.size,0,none⟩=some (.int .i64 K)/\W.cell? ⟨w.heap.size,1,none⟩=some (.int .i64 M)/\W.cell? ⟨w.heap.size,2,none⟩=some (.int .i64 Z)/\W.cell? ⟨w.heap.size,3,none⟩=some (.int .i64 T)/\W.cell? ⟨w.heap.size,4,none⟩=some (.int .i64 Lx)/\W.cell? ⟨w.heap.size,5,none⟩=some (.int .i64 O)/\W.cell? ⟨g,i*8,none⟩=some (.int .i64 kd)/\W.cell? ⟨g,i*8+1,none⟩=some (.string key)/\W.cell? ⟨g,i*8+2,none⟩=some (.slice A' dat.length c')/\W.cell? ⟨g,i*8+3,none⟩=some (.int .i64 d1)/\W.cell? ⟨g,i*8+4,none⟩=some (.int .i64 d2)/\W.cell? ⟨g,i*8+5,none⟩=some (.int .i64 d3)/\W.cell? ⟨g,i*8+6,none⟩=some (.int .u8 d4)/\W.cell? ⟨g,i*8+7,none⟩=some (.slice A'' n'' c'')) (first|exact cl_and H7.out.2.all (HY.out _ (below_step H4.out.2.1 H7.out.1))|exact cl_and H6.out.2.all (HY.out _ (below_step H4.out.2.1 H6.out.1))|exact cl_and H5.out.2.all (HY.out _ (below_step H4.out.2.1 H5.out.1))) (first
      | (go_at_call 16;refine (H16.out _).mono ?_;rintro e6 w6 ⟨rfl,hb6⟩;have H6:=Aside0.mk (And.intro (below_step H5.out.1 hb6) (H5.out.2.step hb6));clear hb6)
      | (go_at_call 15;refine (HSh.out _ (H4.out.2.2.below H6.out.1)).mono ?_;rintro e7 w7 hp7;obtain ⟨⟨x7,A7,c7,L7,rfl,hm7,hl7⟩,hb7⟩:=hp7;have H7:=Aside0.mk (And.intro (below_step H6.out.1 hb7) (H6.out.2.step hb7));have HM7:=Aside0.mk (And.intro hm7 hl7);clear hb7 hm7 hl7))
     go_wp2
     go_roundg (R.length - (i+1))
     case measure=>exact meas5 HI.out.1 HI.out.2.1
     case rel=>exact ⟨i+1,R' ++ [(⟨kd,key,dat⟩,(opC kd key A' dat.length c' d1 d2 d3 d4 (.slice A'' n'' c'')).toList)],A7,c7,L7,by simp [gw],rfl,meas4 HI.out.1,by have:=HI.out.2.2.1;simp;omega,⟨⟨own_below (by simpa using H4.out.1) H7.out.1,fun p hp=>by
       rcases List.mem_append.1 hp with h|h
       ·exact HX.out.fw.ops p h
       ·simp at h;subst h;exact HOp.out,below_step H4.out.2.1 H7.out.1⟩,fun p hp=>by
       rcases List.mem_append.1 hp with h|h
       ·exact HX.out.kd p h
       ·simp at h;subst h;exact HK.out,HM7.out.1,by have:=HM7.out.2;have:=HX.out.le;simp;omega⟩⟩
    ·rw [show (decide (1<=kd) && decide (kd<=5))=false by simp;omega] at H14
     go_wp2_with (first|(go_at_call 14;go_loud (refine (H14.out _).mono ?_;rintro e2 w2 ⟨rfl,hb2⟩;have H2:=Aside0.mk hb2;clear hb2)))
     go_roundg (R.length - (i+1))
     case measure=>exact meas5 HI.out.1 HI.out.2.1
     case rel=>exact ⟨i+1,R',Am,cm,Lm,by simp [gw],rfl,meas4 HI.out.1,HI.out.2.2.2,⟨⟨own_below HX.out.fw.own H2.out,HX.out.fw.ops,below_step HX.out.fw.bel H2.out⟩,HX.out.kd,HX.out.md.below H2.out,HX.out.le⟩⟩
   ·have f2:¬ (R'.length:Int) < 40:=by omega
    go_wp2
    go_ret2
    exact ⟨⟨_,_,_,_,_,rfl,scr_of HX.out.fw HX.out.kd hR⟩,HBw.out⟩
  ·have f1:¬ (i:Int) < (R.length:Int):=by omega
   go_wp2
   go_ret2
   exact ⟨⟨_,_,_,_,_,rfl,scr_of HX.out.fw HX.out.kd hR⟩,HBw.out⟩
end
def anL (a:Ans) (m:Nat):Prop:=a.data.length<=1000/\a.keys.length<=m
theorem inS_len (x:Ob):∀ S:List Ob,(inS x S).length=S.length+1
 | []=>rfl
 | y :: r=>by
  unfold inS
  split
  ·rfl
  ·rw [List.length_cons,inS_len x r,List.length_cons]
theorem putS_le (S:List Ob) (o:Ob):(putS S o).length<=S.length+1:=by
 unfold putS offS
 rw [inS_len]
 exact Nat.succ_le_succ (List.length_filter_le _ _)
theorem step_I (P T O:Nat) {s:Pst} {m:Nat} {o:Op1} (h1:∀ k,(s.dat k).length<=1000) (h2:s.S.length<=m) (ho:o.data.length<=1000) :
  ((∀ k,((stepP P T O s o).1.dat k).length<=1000)/\(stepP P T O s o).1.S.length<=m+1)/\anL (stepP P T O s o).2 m:=by
 have h0:s.S.length<=m+1:=by omega
 unfold stepP anL
 split
 ·refine ⟨?_,by simp⟩
  unfold putP
  repeat' split
  ·exact ⟨h1,h0⟩
  ·exact ⟨h1,h0⟩
  ·exact ⟨h1,h0⟩
  ·refine ⟨fun k=>?_,Nat.le_trans (putS_le _ _) (by omega)⟩
   simp only
   split
   ·exact ho
   ·exact h1 k
 ·split
  ·refine ⟨⟨h1,h0⟩,?_,by simp⟩
   unfold getP
   repeat' split
   all_goals first|exact h1 _|exact Nat.zero_le _
  ·split
   ·refine ⟨?_,by simp⟩
    unfold delP
    repeat' split
    ·exact ⟨h1,h0⟩
    ·exact ⟨h1,h0⟩
    ·exact ⟨h1,Nat.le_trans (List.length_filter_le _ _) h0⟩
   ·split
    ·exact ⟨⟨h1,h0⟩,by simp⟩
    ·refine ⟨⟨h1,h0⟩,Nat.zero_le _,?_⟩
     simp only [List.length_map]
     rw [allS_len]
     exact h2
theorem anP_le (P T O:Nat):∀ (l:List Op1) (s:Pst) (m:Nat),(∀ k,(s.dat k).length<=1000)->s.S.length<=m->(∀ o ∈ l,o.data.length<=1000)->∀ a ∈ anP P T O l s,anL a (m+l.length)
 | [],s,m,_,_,_,a,h=>by simp [anP] at h
 | o :: l,s,m,h1,h2,h3,a,h=>by
  obtain ⟨⟨h4,h5⟩,h6⟩:=step_I P T O h1 h2 (h3 o List.mem_cons_self)
  rcases List.mem_cons.1 h with rfl|h
  ·exact ⟨h6.1,Nat.le_trans h6.2 (by simp)⟩
  ·have h7:=anP_le P T O l _ _ h4 h5 (fun o ho=>h3 o (List.mem_cons_of_mem _ ho)) a h
   exact ⟨h7.1,by have:=h7.2;simp only [List.length_cons];omega⟩
section
variable {w W:World}
theorem Scr.below {A:Option Addr} {n c:Nat} {l:List Op1} (h:Scr w A n c l) (hb:Below w.heap.size w W):Scr W A n c l:=by
 refine ⟨h.len,fun i q hq=>?_,h.ok⟩
 obtain ⟨g,e,hg,A',c',d1,d2,d3,d4,A'',n'',c'',h1,h2⟩:=h.row i q hq
 exact ⟨g,e,Nat.lt_of_lt_of_le hg hb.size,A',c',d1,d2,d3,d4,A'',n'',c'',fun j hj=>(cell_below hb hg).trans (h1 j hj),(h2.fr (Fr.of_below hb)).raise hb.size⟩
theorem Az.below {B base:Nat} {v:Value} {Ls:List An3} (h:Az B w base v Ls) (hb:Below w.heap.size w W):Az B W base v Ls:=h.gs (P:=fun _=>False) (Gs.of_below hb) (fun _ h=>h.elim) (Fr.of_below hb)
theorem tell8 {P T O B5 B6 base5 base6:Nat} {v5 v6:Value} {L5 L6:List An3} {A:Option Addr} {n c:Nat} {l:List Op1} (h5:Az B5 w base5 v5 L5) (h6:Az B6 w base6 v6 L6) (e5:L5.map (fun q=>q.2.2)=anP P T O l pst0) (e6:L6.map (fun q=>q.2.2)=anP P T O l pst0) (hs:Scr W A n c l) :
  Calls Tryz.prog 8 #[v5,v6] w fun e w'=>e=.returned (.bool true)/\Below w.heap.size w w':=by
 have hl:l.length<=400:=by have:=hs.len;omega
 have h1:=congrArg List.length e5
 rw [List.length_map,anP_len] at h1
 refine same8 h5 h6 (e5.trans e6.symm) (by omega) (fun q hq=>?_)
 have h2:q.2.2 ∈ anP P T O l pst0:=e5 ▸ List.mem_map_of_mem hq
 have h3:=anP_le P T O l pst0 0 (fun k=>Nat.zero_le _) (Nat.le_refl _) (fun o ho=>(hs.ok o ho).2.2) _ h2
 exact ⟨Nat.le_trans h3.1 (by omega),Nat.le_trans h3.2 (by omega)⟩
def TopP (w w':World) (e:Ending):Prop:=e=.returned (.bool true)/\Below w.heap.size w w'
set_option maxHeartbeats 4000000 in
theorem top1_ok {K M Z T L O:Nat} (hg:LayA.Good K M Z T L O) (h7:K+M<=7) (hz:Z<=8) {A:Option Addr} {c:Nat} {l:List S39} (hC:Kd.C k39 w A l.length l) (hb:∀ x ∈ l,byteL x.f2) (hl:l.length<=500) (n:Int) (hn:LayA.R n) (hsm:fitB K M Z T L O l.length=true) :
  Calls Tryz.prog 3 #[geoV K M Z T L O,.slice A l.length c,.int .i64 n] w fun e w'=>TopP w w' e:=by
 have hg':=hg
 unfold LayA.Good at hg'
 unfold LayA.R at hn
 have H0:=Aside0.mk (show Gb w (w.alloc (.cells (geoC K M Z T L O) 23)) w.heap.size K M Z T L O from ⟨heap_alloc_new w _,below_alloc (Below.refl _ _) _⟩)
 have HA:=Aside0.mk awake_ok
 have HF:=Aside0.mk (fun W=>by
  have h:=fits5_ok (K:=K) (M:=M) (Z:=Z) (T:=T) (L:=L) (O:=O) (by unfold LayA.R;omega) (by unfold LayA.R;omega) W A l.length c
  rw [hsm] at h
  exact h)
 have HC:=Aside0.mk (fun W (hw:Below w.heap.size w W)=>clients_ok (c:=c) (w:=W) (Kd.F_now (Kd.F_below (Kd.C_F k39_heap hC) hw)) hb hg)
 have HR:=Aside0.mk (fun (W:World) (A:Option Addr) (n c:Nat) (l:List Op1) (hs:Scr W A n c l)=>run_ok (w:=W) (K:=K) (M:=M) (Z:=Z) (T:=T) (L:=L) (O:=O) ⟨hg,h7,by omega⟩ hs)
 obtain ⟨N,hN⟩:∃ N,l.length=N:=⟨_,rfl⟩
 rw [hN] at HF HC ⊢
 unfold geoV at HF HC HR ⊢
 unfold geoC at H0
 obtain ⟨nn,hnn⟩:∃ nn:Nat,(n < 0/\wrap64 (n+1)=n+1/\wrap64 (-(n+1))=nn/\-(n+1)=(nn:Int))∨(¬ n < 0/\n=nn):=by
  by_cases h:n < 0
  ·exact ⟨(-(n+1)).toNat,.inl ⟨h,w64 _ (by omega),by rw [w64 _ (by omega)];omega,by omega⟩⟩
  ·exact ⟨n.toNat,.inr ⟨h,by omega⟩⟩
 clear hC hb hl hN hsm
 have hKZ:K*Z<=56:=Nat.le_trans (Nat.mul_le_mul (show K<=7 by omega) hz) (by decide)
 have hKZ1:1<=K*Z:=Nat.mul_pos (by omega) (by omega)
 obtain ⟨P,hP⟩:∃ P,K*Z=P:=⟨_,rfl⟩
 rw [hP] at hKZ hKZ1
 have gP:wrap64 ((K:Int)*Z)=(P:Int):=by rw [w64 _ (by rw [<- Int.natCast_mul,hP];omega),<- Int.natCast_mul,hP]
 have gP2:IntKind.i64.wrap ((K:Int)*Z)=(P:Int):=(i64_w _).trans gP
 obtain ⟨m2,hm2⟩:∃ m2:Nat,(nn:Int) % 4=m2/\m2<=3:=⟨nn % 4,by omega,by omega⟩
 obtain ⟨l2,hl2⟩:∃ l2:Nat,(nn:Int) % 7=l2/\l2<=6:=⟨nn % 7,by omega,by omega⟩
 obtain ⟨hm2,hm3⟩:=hm2
 obtain ⟨hl2,hl3⟩:=hl2
 have HR2:=Aside0.mk (fun (W:World) (A:Option Addr) (n c:Nat) (l:List Op1) (hs:Scr W A n c l)=>show Calls Tryz.prog 7 #[.agg #[.int .i64 1,.int .i64 m2,.int .i64 P,.int .i64 T,.int .i64 (1+(l2:Int)),.int .i64 O],.slice A n c] W fun e w'=>RunP W w' e l (1*P) T O from run_ok (w:=W) (K:=1) (M:=m2) (Z:=P) (T:=T) (L:=1+l2) (O:=O) ⟨by unfold LayA.Good;omega,by omega,by omega⟩ hs)
 have HE:=Aside0.mk hP
 have n0:(0:Int)<=nn/\(nn:Int)<=9223372036854775807:=by rcases hnn with h|h <;> omega
 obtain ⟨n0,n5⟩:=n0
 clear hg hg' hz h7 hKZ hKZ1 hP hm3 hl3
 go_enter Tryz.func3,Tryz.ntmps3
 rcases hnn with ⟨n1,n2,n3,n4⟩|⟨n1,rfl⟩
 all_goals (
  go_wp2_with (first
   | (go_at_call 4;go_loud (refine (HA.out _).mono ?_;rintro e1 w1 ⟨rfl,hb1⟩;have H1:=Aside0.mk (H0.out.step hb1);obtain ⟨s0,s1,s2,s3,s4,s5,_⟩:=H1.out.all;clear hb1))
   | (go_at_call 5;go_loud (refine (HF.out _).mono ?_;rintro e2 w2 ⟨rfl,hb2⟩;have H2:=Aside0.mk (H1.out.step hb2);obtain ⟨q0,q1,q2,q3,q4,q5,_⟩:=H2.out.all;clear hb2))
   | (go_at_call 6;go_loud (refine (HC.out _ H2.out.2).mono ?_;rintro e3 w3 hp3;obtain ⟨⟨A3,n3',c3,l3,m3,rfl,hs3⟩,hb3⟩:=hp3;have H3:=Aside0.mk (And.intro (H2.out.step hb3) hs3);obtain ⟨r0,r1,r2,r3,r4,r5,_⟩:=H3.out.1.all;have t0:=fun o=>(cell_below (below_alloc (Below.refl _ _) o) (blk_lt H3.out.1.1)).trans r0;have t2:=fun o=>(cell_below (below_alloc (Below.refl _ _) o) (blk_lt H3.out.1.1)).trans r2;have t5:=fun o=>(cell_below (below_alloc (Below.refl _ _) o) (blk_lt H3.out.1.1)).trans r5;have t4:=fun o=>(cell_below (below_alloc (Below.refl _ _) o) (blk_lt H3.out.1.1)).trans r4;have t3:=fun o=>(cell_below (below_alloc (Below.refl _ _) o) (blk_lt H3.out.1.1)).trans r3;have t1:=fun o=>(cell_below (below_alloc (Below.refl _ _) o) (blk_lt H3.out.1.1)).trans r1;clear hb3 hs3))
   | (go_at_call 7;go_loud (refine (HR2.out _ _ _ _ _ H5.out.2.2.2.1).mono ?_;rintro e6 w6 ⟨v6,L6,B6,base6,rfl,haz6,he6,hb6⟩;have H6:=Aside0.mk (And.intro haz6 (And.intro (H5.out.1.below hb6) (And.intro he6 (below_step H5.out.2.2.2.2 hb6))));clear hb6 haz6 he6))
   | (go_at_call 7;go_loud (refine (HR.out _ _ _ _ _ (H3.out.2.below (below_alloc (Below.refl _ _) _))).mono ?_;rintro e5 w5 ⟨v5,L5,B5,base5,rfl,haz5,he5,hb5⟩;have hbx:=(hb5.block _ (by rw [hsz];exact Nat.lt_succ_self _)).trans (heap_alloc_new w3 _);obtain ⟨x0,x1,x2,x3,x4,x5⟩:=geo_cells hbx;have H5:=Aside0.mk (And.intro haz5 (And.intro he5 (And.intro hbx (And.intro ((H3.out.2.below (below_alloc (Below.refl _ _) _)).below hb5) (below_step (below_alloc H3.out.1.2 _) hb5)))));clear hb5 haz5 he5 hbx))
   | (go_at_call 8;go_loud (refine (tell8 H6.out.2.1 H6.out.1 (H5.out.2.1.trans (by rw [HE.out])) (H6.out.2.2.1.trans (by rw [Nat.one_mul])) H3.out.2).mono ?_;rintro e7 w7 ⟨rfl,hb7⟩;have H7:=Aside0.mk (below_step H6.out.2.2.2 hb7);clear hb7)))
  go_ret
  exact ⟨rfl,H7.out⟩)
end
theorem top0_ok {w:World} {K M Z T L O:Int} (hK:LayA.R K) (hM:LayA.R M) {A:Option Addr} {N c:Nat} (n:Int) (hsm:fitB K M Z T L O N=false) :
  Calls Tryz.prog 3 #[geoV K M Z T L O,.slice A N c,.int .i64 n] w fun e w'=>TopP w w' e:=by
 have H0:=Aside0.mk (show Gb w (w.alloc (.cells (geoC K M Z T L O) 23)) w.heap.size K M Z T L O from ⟨heap_alloc_new w _,below_alloc (Below.refl _ _) _⟩)
 have HA:=Aside0.mk awake_ok
 have HF:=Aside0.mk (fun W=>by
  have h:=fits5_ok (K:=K) (M:=M) (Z:=Z) (T:=T) (L:=L) (O:=O) hK hM W A N c
  rw [hsm] at h
  exact h)
 unfold geoV at HF ⊢
 unfold geoC at H0
 clear hK hM hsm
 go_enter Tryz.func3,Tryz.ntmps3
 go_wp2_with (first
   | (go_at_call 4;go_loud (refine (HA.out _).mono ?_;rintro e1 w1 ⟨rfl,hb1⟩;have H1:=Aside0.mk (H0.out.step hb1);obtain ⟨s0,s1,s2,s3,s4,s5,_⟩:=H1.out.all;clear hb1))
   | (go_at_call 5;go_loud (refine (HF.out _).mono ?_;rintro e2 w2 ⟨rfl,hb2⟩;have H2:=Aside0.mk (H1.out.step hb2);clear hb2)))
 go_ret
 exact ⟨rfl,H2.out.2⟩
theorem topshape_ok {w:World} {K M Z T L O:Int} (hK:LayA.R K) (hM:LayA.R M) {A:Option Addr} {c:Nat} {l:List S39} (hC:Kd.C k39 w A l.length l) (hb:∀ x ∈ l,byteL x.f2) {n:Int} (hn:LayA.R n) :
  Calls Tryz.prog 3 #[geoV K M Z T L O,.slice A l.length c,.int .i64 n] w fun e w'=>TopP w w' e:=by
 cases hf:fitB K M Z T L O l.length with
 | false=>exact top0_ok hK hM n hf
 | true =>
  have hf':=hf
  unfold fitB smallB at hf'
  simp only [Bool.and_eq_true,Bool.or_eq_true,Bool.not_eq_true',decide_eq_true_eq,decide_eq_false_iff_not] at hf'
  obtain ⟨⟨h1,hg⟩,h5⟩:=hf'
  have h2:=h1.resolve_left (fun h=>h hg)
  have hg':=hg
  unfold LayA.Good at hg'
  obtain ⟨K,rfl⟩:=Int.eq_ofNat_of_zero_le (show 0<=K by omega)
  obtain ⟨M,rfl⟩:=Int.eq_ofNat_of_zero_le (show 0<=M by omega)
  obtain ⟨Z,rfl⟩:=Int.eq_ofNat_of_zero_le (show 0<=Z by omega)
  obtain ⟨T,rfl⟩:=Int.eq_ofNat_of_zero_le (show 0<=T by omega)
  obtain ⟨L,rfl⟩:=Int.eq_ofNat_of_zero_le (show 0<=L by omega)
  obtain ⟨O,rfl⟩:=Int.eq_ofNat_of_zero_le (show 0<=O by omega)
  exact top1_ok hg (by omega) (by omega) hC hb h5 n hn hf
end Go.Proofs.YtmmcbncpnlknbaaGreat.Top
namespace Go.Proofs.YtmmcbncpnlknbaaGreat.Open
open Go.ChangeShapes Go.WideShapes Go.Deep Go.Proofs.YtmmcbncpnlknbaaGreatW.PrintWords
section
variable {H:Type} {P:Program} {w:World} {base:Nat} {spare:Nat->Bool} {held:Bool} {α:Type}
def Opens (enc:TypeId×Value->H) (P:Program) (w:World) (base:Nat) (spare:Nat->Bool) (held:Bool) (t:TypeId) (d:Kd α) (ok:α->Prop):Prop :=
 ∀ fuel cs x,DataW.trod enc P w base spare held fuel t cs=some x->∃ a,d.K w a cs/\ok a
variable {enc:TypeId×Value->H}
theorem opens_int {t:TypeId} {k:IntKind} (ht:P.underlying t=some (.int k)):Opens enc P w base spare held t (Kd.int k) (fun n=>(Lit.int k n).wf=true):=by
 intro fuel cs x h
 obtain ⟨n,rfl,_,hw⟩:=DataW.trod_int ht h
 exact ⟨n,rfl,hw⟩
theorem opens_string {t:TypeId} (ht:P.underlying t=some .string):Opens enc P w base spare held t Kd.string (fun s=>s.size<=maxLen):=by
 intro fuel cs x h
 obtain ⟨n,rfl,_,hm⟩:=DataW.trod_string ht h
 exact ⟨n,rfl,hm⟩
theorem opens_slice {t e:TypeId} {d:Kd α} {ok:α->Prop} (ht:P.underlying t=some (.slice e)) (hC:P.cellsOf e=d.sz) (hd:Opens enc P w base spare held e d ok) (z:α) :
  Opens enc P w base spare held t (Kd.slice e d) (fun l=>∀ a ∈ l,ok a):=by
 intro fuel cs x h
 rcases open_slice ht h with ⟨rfl,_⟩|⟨a,len,cap,m,n,D,Pl,rfl,hb,hl,hm,hmm,_,hx⟩
 ·exact ⟨[],⟨none,0,rfl,Nat.le_refl _,Kd.C_nil _ _⟩,by simp⟩
 ·have hlm:len<=m:=by rw [hmm];split <;> omega
  have hel:∀ i,∃ b:α,i < len->ok b/\∃ c:List Value,c.length=d.sz/\d.K w b c/\∀ j u,c[j]?=some u->w.cell? (a.add (i*d.sz+j))=some u:=by
   intro i
   by_cases hi:i < len
   ·obtain ⟨cs',h1,h2⟩:=hx i (by omega)
    obtain ⟨b,hb1,hb2⟩:=hd _ _ _ h2
    obtain ⟨_,hlen,hat⟩:=World.cells?_some h1
    refine ⟨b,fun _=>⟨hb2,cs',by rw [hlen,hC],hb1,fun j u hj=>?_⟩⟩
    have hjl:j < cs'.length:=(List.getElem?_eq_some_iff.1 hj).1
    rw [<- hj,<- hat j (by omega),Go.Deep.add_add,hC]
   ·exact ⟨z,fun h=>absurd h hi⟩
  let f:Nat->α:=fun i=>Classical.choose (hel i)
  have hf:∀ i,i < len->ok (f i)/\∃ c:List Value,c.length=d.sz/\d.K w (f i) c/\∀ j u,c[j]?=some u->w.cell? (a.add (i*d.sz+j))=some u:=fun i=>Classical.choose_spec (hel i)
  have hll:((List.range len).map f).length=len:=by simp
  refine ⟨(List.range len).map f,⟨some a,cap,by rw [hll],by rw [hll];exact hl,?_⟩,?_⟩
  ·rw [hll]
   unfold maxLen at hm
   refine ⟨hll,by omega,fun _=>⟨a,rfl,fun j p hj=>?_⟩⟩
   have hj2:j < len:=by have:=(List.getElem?_eq_some_iff.1 hj).1;omega
   rw [List.getElem?_map,List.getElem?_range hj2] at hj
   obtain rfl:f j=p:=by simpa using hj
   exact (hf j hj2).2
  ·intro b hb'
   obtain ⟨i,hi,rfl⟩:=List.mem_map.1 hb'
   exact (hf i (List.mem_range.1 hi)).1
theorem fields_of {t:TypeId} {fs:Array Field} {fuel:Nat} {cs:List Value} {x:DataW H×List MemPlace} (hs:P.underlying t=some (.struct fs)) (hone:oneCellFields P fs=true) (hC:P.cellsOf t=fs.size)
  (h:DataW.trod enc P w base spare held fuel t cs=some x):cs.length=fs.size/\∃ n,∀ (j:Nat) (f:Field),fs[j]?=some f->∃ v y,cs[j]?=some v/\DataW.trod enc P w base spare held n f.type [v]=some y:=by
 obtain ⟨ys,n,hn',hy,hlen,hyl,hf⟩:=DataW.trod_struct hs h
 refine ⟨hlen.trans hC,n,fun j f hj=>?_⟩
 obtain ⟨ho,hk⟩:=hone_of hone j f hj
 have hjl:j < fs.size:=(Array.getElem?_eq_some_iff.1 hj).1
 have hv:cs[j]?=some (cs[j]'(by omega)):=List.getElem?_eq_getElem (by omega)
 have h1:=hf j f hj
 rw [ho,hk] at h1
 have hone':(cs.drop j).take 1=[cs[j]'(by omega)]:=by
  rw [List.drop_eq_getElem_cons (by omega)]
  rfl
 rw [hone'] at h1
 have hys:ys[j]?=some (ys[j]'(by omega)):=List.getElem?_eq_getElem (by omega)
 exact ⟨_,_,hv,h1.trans hys⟩
theorem field_at {ft:TypeId} {n j:Nat} {cs:List Value} {d:Kd α} {ok:α->Prop} {fs:Array Field} (f:Field) (hfs:fs[j]?=some f) (hft:f.type=ft) (hd:Opens enc P w base spare held ft d ok)
  (hf:∀ (j:Nat) (f:Field),fs[j]?=some f->∃ v y,cs[j]?=some v/\DataW.trod enc P w base spare held n f.type [v]=some y):∃ v a,cs[j]?=some v/\d.K w a [v]/\ok a:=by
 obtain ⟨v,y,h1,h2⟩:=hf j f hfs
 subst hft
 obtain ⟨a,h3,h4⟩:=hd _ _ _ h2
 exact ⟨v,a,h1,h3,h4⟩
end
end Go.Proofs.YtmmcbncpnlknbaaGreat.Open
