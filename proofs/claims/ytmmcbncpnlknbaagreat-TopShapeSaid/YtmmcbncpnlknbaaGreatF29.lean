import Derived.Test.YtmmcbncpnlknbaaGreatF28
set_option linter.unusedVariables false
set_option linter.unusedSimpArgs false
namespace Go.Proofs.YtmmcbncpnlknbaaGreat.Top
open Go Go.RowKit Go.Proofs.YtmmcbncpnlknbaaGreatW.PrintWords Go.Proofs.YtmmcbncpnlknbaaGreatW.PrintLast Go.Proofs.YtmmcbncpnlknbaaGreatW.PrintMore
def savC (ar ep:Int) (A:Option Addr) (n c:Nat):Array Value:=#[.int .i64 ar,.int .i64 ep,.slice A n c]
structure Sv (w W:World) (K M Z T L O ar ep:Int) (A:Option Addr) (n c:Nat):Prop where
 geo:W.heap[w.heap.size]?=some (.cells (geoC K M Z T L O) 23 (0,0))
 sav:W.heap[w.heap.size+1]?=some (.cells (savC ar ep A n c) 105 (0,0))
 bl:Below w.heap.size w W
section
variable {w W W':World} {K M Z T L O ar ep:Int} {A:Option Addr} {n c:Nat}
theorem Sv.new:Sv w ((w.alloc (.cells (geoC K M Z T L O) 23)).alloc (.cells (savC ar ep A n c) 105)) K M Z T L O ar ep A n c :=
 ⟨two0 w _ _,two1 w _ _,below_alloc (below_alloc (Below.refl _ _) _) _⟩
theorem Sv.step (h:Sv w W K M Z T L O ar ep A n c) (hb:Below W.heap.size W W'):Sv w W' K M Z T L O ar ep A n c :=
 ⟨(hb.block _ (blk_lt h.geo)).trans h.geo,(hb.block _ (blk_lt h.sav)).trans h.sav,below_step h.bl hb⟩
theorem Sv.all (h:Sv w W K M Z T L O ar ep A n c):W.cell? ⟨w.heap.size,0,none⟩=some (.int .i64 K)/\W.cell? ⟨w.heap.size,1,none⟩=some (.int .i64 M)/\W.cell? ⟨w.heap.size,2,none⟩=some (.int .i64 Z)/\W.cell? ⟨w.heap.size,3,none⟩=some (.int .i64 T)/\W.cell? ⟨w.heap.size,4,none⟩=some (.int .i64 L)/\W.cell? ⟨w.heap.size,5,none⟩=some (.int .i64 O)/\W.cell? ⟨w.heap.size+1,0,none⟩=some (.int .i64 ar)/\W.cell? ⟨w.heap.size+1,1,none⟩=some (.int .i64 ep)/\W.cell? ⟨w.heap.size+1,2,none⟩=some (.slice A n c):=by
 obtain ⟨h0,h1,h2,h3,h4,h5⟩:=geo_cells h.geo
 exact ⟨h0,h1,h2,h3,h4,h5,by simp [World.cell?,h.sav,savC],by simp [World.cell?,h.sav,savC],by simp [World.cell?,h.sav,savC]⟩
end
structure Sw (W:World) (g:Nat) (K M Z T L O ar ep:Int) (A:Option Addr) (n c:Nat):Prop where
 geo:W.heap[g]?=some (.cells (geoC K M Z T L O) 23 (0,0))
 sav:W.heap[g+1]?=some (.cells (savC ar ep A n c) 105 (0,0))
section
variable {W W':World} {g:Nat} {K M Z T L O ar ep:Int} {A:Option Addr} {n c:Nat}
theorem Sw.gs (h:Sw W g K M Z T L O ar ep A n c) {S:Nat->Prop} (hg:Gs S W W') (hS:∀ k,S k->k < g):Sw W' g K M Z T L O ar ep A n c :=
 ⟨(hg.block _ (blk_lt h.geo) (fun e=>by have:=hS _ e;omega)).trans h.geo,(hg.block _ (blk_lt h.sav) (fun e=>by have:=hS _ e;omega)).trans h.sav⟩
theorem Sw.step (h:Sw W g K M Z T L O ar ep A n c) (hb:Below W.heap.size W W'):Sw W' g K M Z T L O ar ep A n c:=⟨(hb.block _ (blk_lt h.geo)).trans h.geo,(hb.block _ (blk_lt h.sav)).trans h.sav⟩
theorem Sw.all (h:Sw W g K M Z T L O ar ep A n c):W.cell? ⟨g,0,none⟩=some (.int .i64 K)/\W.cell? ⟨g,1,none⟩=some (.int .i64 M)/\W.cell? ⟨g,2,none⟩=some (.int .i64 Z)/\W.cell? ⟨g,3,none⟩=some (.int .i64 T)/\W.cell? ⟨g,4,none⟩=some (.int .i64 L)/\W.cell? ⟨g,5,none⟩=some (.int .i64 O)/\W.cell? ⟨g+1,0,none⟩=some (.int .i64 ar)/\W.cell? ⟨g+1,1,none⟩=some (.int .i64 ep):=by
 obtain ⟨h0,h1,h2,h3,h4,h5⟩:=geo_cells h.geo
 exact ⟨h0,h1,h2,h3,h4,h5,by simp [World.cell?,h.sav,savC],by simp [World.cell?,h.sav,savC]⟩
end
def savE (E:Nat->Int->List Int) (ar ep:Int) (P:List (List Int)) (n:Nat):Nat->Nat->Int->List Int
 | 0=>E
 | i+1=>allE (savE E ar ep P n i) (1+ar*2+i) (SecA.sect (1+ar*2+i) ep (P.getD i [])) n
def partsL (L:List Ob):List (List Int):=[(snapL L).take 4096,((snapL L).drop 4096).take 4096]
set_option maxRecDepth 100000 in
set_option maxHeartbeats 2000000 in
theorem save_ok {B n Tk a:Nat} {w:World} {S:Nat->Prop} {sec:Int} {dead:Nat->Bool} {E:Nat->Int->List Int} {cl:Bool} {K M Z T L O:Int} (hx:Ax B w a S sec n Tk dead E cl) (hd:∀ i,i < n->dead i=false) (hT:Tk+2*n<=1000000) (hn0:0 < n) (hg:LayA.Good K M Z T L O)
  {ar ep:Int} (har:ar=0∨ar=1) (hep:0<=ep/\ep<=1000) (hsec:5<=sec) {base:Nat} {A:Option Addr} {nn c:Nat} {Lo:List (Ob×Value)} (ho:Oz w base (.slice A nn c) Lo) (hm:MayO (Lo.map Prod.fst)) :
  Calls Tryz.prog 40 #[.pointer (some ⟨a,0,none⟩),geoV K M Z T L O,.agg #[.int .i64 ar,.int .i64 ep,.slice A nn c]] w fun e w'=>e=.returned (.int .i64 0)/\Ax B w' a S sec n (Tk+2*n) dead (savE E ar ep (partsL (Lo.map Prod.fst)) n 2) true/\Gs S w w':=by
 have H0:=Aside0.mk (Sv.new (w:=w) (K:=K) (M:=M) (Z:=Z) (T:=T) (L:=L) (O:=O) (ar:=ar) (ep:=ep) (A:=A) (n:=nn) (c:=c))
 have hSn:∀ W,Below w.heap.size w W->Oz W base (.slice A nn c) Lo:=fun W hb=>⟨own_move ho.own (fun k hk=>hb.block k (own_lt ho.own k hk)),fun p hp=>by
  obtain ⟨A',c',h1,h2,h3⟩:=ho.row p hp
  exact ⟨A',c',h1,h2,h3.gs (Gs.of_below (S:=fun _=>False) hb) (fun _ hk=>hk.elim)⟩⟩
 have HS:=Aside0.mk (fun (W:World) (hb:Below w.heap.size w W)=>snap_ok (hSn W hb) hm)
 have HM:=Aside0.mk (fun W=>mcheck_ok a hg W)
 have hlen:(snapL (Lo.map Prod.fst)).length<=6000:=snap_len hm
 have hby:=snap_bytes (Lo.map Prod.fst)
 obtain ⟨P,hP⟩:∃ P,partsL (Lo.map Prod.fst)=P:=⟨_,rfl⟩
 have hPl:P.length=2/\(∀ i,(P.getD i []).length<=4096)/\∀ i,byteL (P.getD i []):=by
  rw [<- hP]
  unfold partsL
  refine ⟨rfl,fun i=>?_,fun i=>?_⟩
  ·rcases i with _|_|i
   ·simp;omega
   ·simp;omega
   ·simp
  ·rcases i with _|_|i
   ·exact bytesL (RecB.bytes_take hby _)
   ·exact bytesL (RecB.bytes_take (RecB.bytes_drop hby _) _)
   ·intro x hx
    simp at hx
 have HA:=Aside0.mk (fun (i:Nat) (hi:i < 2) (W:World)=>area_ok (i:=ar) (j:=(i:Int)) hg (by omega) (by omega) W)
 have HH:=Aside0.mk (And.intro hx (And.intro hd (And.intro hT (And.intro hPl (And.intro har (And.intro hep hsec))))))
 have har0:0<=ar:=by omega
 have har1:ar<=1:=by omega
 have hep0:0<=ep:=by omega
 have hep1:ep<=2147483547:=by omega
 have hn3:(0:Int) < (n:Int):=by omega
 rw [show [(snapL (Lo.map Prod.fst)).take 4096,((snapL (Lo.map Prod.fst)).drop 4096).take 4096]=P from hP] at HS
 rw [hP]
 unfold geoV at HM HA ⊢
 unfold geoC savC at H0
 clear hx hd hT hg har hep hsec ho hm hSn hlen hby hP hPl hn0
 go_enter Tryz.func40,Tryz.ntmps40
 go_upto_region 2 with (go_at_call 54;go_loud (refine (HS.out _ H0.out.bl).mono ?_;rintro e1 w1 ⟨u1,rfl,hR1,hb1⟩;have H1:=Aside0.mk ((H0.out.step hb1).step (below_drew1 (Below.refl _ _)));have HR1:=Aside0.mk hR1;clear hR1 hb1))
 go_region_held3 (fun W=>W.cell? ⟨w.heap.size,0,none⟩=some (.int .i64 K)/\W.cell? ⟨w.heap.size,1,none⟩=some (.int .i64 M)/\W.cell? ⟨w.heap.size,2,none⟩=some (.int .i64 Z)/\W.cell? ⟨w.heap.size,3,none⟩=some (.int .i64 T)/\W.cell? ⟨w.heap.size,4,none⟩=some (.int .i64 L)/\W.cell? ⟨w.heap.size,5,none⟩=some (.int .i64 O)/\W.cell? ⟨w.heap.size+1,0,none⟩=some (.int .i64 ar)/\W.cell? ⟨w.heap.size+1,1,none⟩=some (.int .i64 ep)/\W.cell? ⟨w.heap.size+1,2,none⟩=some (.slice A nn c)) (first|exact H3.out.all|(exact (H2.out.step (below_alloc (Below.refl _ _) _)).all)|exact H2.out.all|exact H1.out.all) (first|(go_at_call 55;go_loud (refine (mfirst3 _).mono ?_;rintro e3 w3 ⟨rfl,hb3⟩;have H3:=Aside0.mk ((H2.out.step (below_alloc (Below.refl _ _) _)).step hb3);have HB3:=Aside0.mk (below_step (below_alloc HB2.out _) hb3);clear hb3))|(go_at_call 57;go_loud (refine (munless_ok _ _).mono ?_;rintro e9 w9 ⟨rfl,rfl⟩))|(go_at_call 56;go_loud (refine (HM.out _).mono ?_;rintro e2 w2 ⟨rfl,hb2⟩;have H2:=Aside0.mk (H1.out.step hb2);have HB2:=Aside0.mk hb2;clear hb2)))
 have hS:∀ k,S k->k < w.heap.size:=fun k hk=>(HH.out.1.S_ge hk).2.2
 have HSl:=Aside0.mk hS
 have HR3:Aside0 (∀ W,Gs S w3 W->Rs W u1 P):=⟨fun W hg=>HR1.out W (fun k hk hlt=>by
  have h1:=H0.out.bl.size
  have h2:=HB3.out.size
  have h3:w1.drew.heap.size=w1.heap.size:=rfl
  exact (hg.block k (by omega) (fun e=>by have:=hS k e;omega)).trans (HB3.out.block k (by omega)))⟩
 obtain ⟨A7,c7,e7,_⟩:=HR3.out w3 (Gs.refl _ _)
 subst e7
 rw [HH.out.2.2.2.1.1]
 rw [HH.out.2.2.2.1.1] at HR3
 clear hS
 go_wp2
 go_loopg [9,10,11,12,13,50,55] 2 (fun kq x9 x10 x11 x12 x13 x50 x55 wr=>∃ i:Nat,x50=.int .i64 i/\x9=.bool true/\i+kq=2/\Aside0 (Ax B wr a S sec n (Tk+i*n) dead (savE E ar ep P n i) false/\Gs S w3 wr))
 case atStart=>exact ⟨0,rfl,rfl,rfl,⟨by simpa [savE] using (HH.out.1.below H3.out.bl).weak,Gs.refl _ _⟩⟩
 case round =>
  obtain ⟨i,rfl,rfl,hik,HX⟩:=hrel
  by_cases hin:i < 2
  ·have f1:(i:Int) < 2:=by omega
   have f2:(0:Int)<=(i:Int):=by omega
   obtain ⟨A',c',e',hc',hC'⟩:=HR3.out wr HX.out.2
   rw [HH.out.2.2.2.1.1] at e'
   injection e' with e1 e2 e3
   subst e1 e3
   obtain ⟨adr,v,e4,hcell,hv⟩:=Rs.at hC' i (by rw [HH.out.2.2.2.1.1];exact hin)
   subst e4
   have HV:=Aside0.mk hv
   have HG:=Aside0.mk (⟨(H3.out.geo),(H3.out.sav)⟩:Sw w3 w.heap.size K M Z T L O ar ep A nn c)
   have H4:=Aside0.mk ((HG.out.gs HX.out.2 HSl.out).step (below_drew1 (Below.refl _ _)))
   have HA4:=Aside0.mk (HA.out i hin)
   have GW:=Aside0.mk (show wrap64 ((i:Int)+1)=(i:Int)+1 from w64 _ (by omega))
   have hin2:i*n<=1*n:=Nat.mul_le_mul_right n (by omega)
   have HTT:=Aside0.mk (show Tk+i*n+n<=1000000 by have:=HH.out.2.2.1;omega)
   have HTs:=Aside0.mk (show 1+ar*2+(i:Int) < sec by have:=HH.out.2.2.2.2.2.2;omega)
   have HTm:=Aside0.mk (show SecA.May (1+ar*2+(i:Int)) ep (P.getD i []) by
    have h1:=HH.out.2.2.2.1.2.1 i
    unfold SecA.May
    refine ⟨?_,?_,?_⟩ <;> first|omega|(constructor <;> omega))
   clear hv hC'
   go_wp2
   go_region_held3 (fun W=>W.cell? ⟨w.heap.size,0,none⟩=some (.int .i64 K)/\W.cell? ⟨w.heap.size,1,none⟩=some (.int .i64 M)/\W.cell? ⟨w.heap.size,2,none⟩=some (.int .i64 Z)/\W.cell? ⟨w.heap.size,3,none⟩=some (.int .i64 T)/\W.cell? ⟨w.heap.size,4,none⟩=some (.int .i64 L)/\W.cell? ⟨w.heap.size,5,none⟩=some (.int .i64 O)/\W.cell? ⟨w.heap.size+1,0,none⟩=some (.int .i64 ar)/\W.cell? ⟨w.heap.size+1,1,none⟩=some (.int .i64 ep)) (first|exact H6.out.all|exact H5.out.all|exact H4.out.all) (first|(go_at_call 58;go_loud (refine (vwrite_ok (HX.out.1.below HB5.out) HH.out.2.1 (HTT.out) (1+ar*2+(i:Int)) ep HTs.out HTm.out (HH.out.2.2.2.1.2.2 i) (HV.out.below HB5.out)).mono ?_;rintro e6 w6 ⟨rfl,hx6,hg6⟩;have H6:=Aside0.mk (H5.out.gs hg6 HSl.out);have HX6:=Aside0.mk (And.intro hx6 ((Gs.of_below HB5.out).trans hg6));clear hx6 hg6))|(go_at_call 59;go_loud (refine (HA4.out _).mono ?_;rintro e5 w5 ⟨rfl,hb5⟩;have H5:=Aside0.mk (H4.out.step hb5);have HB5:=Aside0.mk (show Below wr.heap.size wr w5 from below_step (below_drew1 (Below.refl _ _)) hb5);clear hb5)))
   go_wp2
   go_roundg (2 - (i+1))
   case measure=>exact meas5 hin hik
   case rel=>exact ⟨i+1,by simp [GW.out],by simpa using hn3,meas4 hin,⟨by
    have h1:=HX6.out.1
    rw [show Tk+i*n+n=Tk+(i+1)*n by rw [Nat.succ_mul];omega] at h1
    exact h1,HX.out.2.trans HX6.out.2⟩⟩
  ·have f1:¬ (i:Int) < 2:=by omega
   have e2:i=2:=by omega
   subst e2
   go_wp2_with (first|(go_at_call 55;go_loud (refine (mfirst2 _).mono ?_;rintro e7 w7 ⟨rfl,hb7⟩;have H7:=Aside0.mk (below_step (below_alloc (Below.refl _ _) _) hb7);clear hb7))|(go_at_call 53;go_loud (refine (aflushed HX.out.1 HH.out.2.1).mono ?_;rintro e6 w6 ⟨rfl,hx6,hg6⟩;have H6:=Aside0.mk (And.intro hx6 (HX.out.2.trans hg6));clear hx6 hg6))|(go_at_call 57;go_loud (refine (munless_ok _ _).mono ?_;rintro e9 w9 ⟨rfl,rfl⟩)))
   go_ret
   exact ⟨rfl,H6.out.1.below H7.out,((Gs.of_below H3.out.bl).trans H6.out.2).trans (Gs.of_below H7.out)⟩
structure Sb (B:Nat) (w:World) (s c b1 b2 a f:Nat) (K M Z T L O:Nat) (Q:Nat->Prop) (Tk:Nat) (dead:Nat->Bool) (E:Nat->Int->List Int) (cl:Bool) (ar ba ct:Nat) (S:List Ob):Prop where
 box:w.heap[s]?=some (.cells (stC c a f K M Z T L O ar ba ct) 110 (0,0))
 cat:∃ ad,Cat w c K M Z T L O b1 b2 S ad (ownM S) (cntM S)
 ax:Ax B w a Q (5+(L:Int)+T) (K+M) Tk dead E cl
 fd:Fd w f
 eb:EByte E
 nq:¬ Q s/\¬ Q b1/\¬ Q b2
 ge:B<=s/\B<=b1/\B<=b2
theorem st_cells {w:World} {s c a f:Nat} {K M Z T L O ar ba ct:Int} (h:w.heap[s]?=some (.cells (stC c a f K M Z T L O ar ba ct) 110 (0,0))) :
  w.cell? ⟨s,0,none⟩=some (.pointer (some ⟨c,0,none⟩))/\w.cell? ⟨s,1,none⟩=some (.pointer (some ⟨a,0,none⟩))/\w.cell? ⟨s,2,none⟩=some (.pointer (some ⟨f,0,none⟩))/\w.cell? ⟨s,3,none⟩=some (.int .i64 K)/\w.cell? ⟨s,4,none⟩=some (.int .i64 M)/\w.cell? ⟨s,5,none⟩=some (.int .i64 Z)/\w.cell? ⟨s,6,none⟩=some (.int .i64 T)/\w.cell? ⟨s,7,none⟩=some (.int .i64 L)/\w.cell? ⟨s,8,none⟩=some (.int .i64 O)/\w.cell? ⟨s,9,none⟩=some (.int .i64 ar)/\w.cell? ⟨s,10,none⟩=some (.int .i64 ba)/\w.cell? ⟨s,11,none⟩=some (.int .i64 ct)/\w.cell? ⟨s,12,none⟩=some (.bool false):=by
 simp only [World.cell?,h,stC]
 exact ⟨rfl,rfl,rfl,rfl,rfl,rfl,rfl,rfl,rfl,rfl,rfl,rfl,rfl⟩
section
variable {B:Nat} {w W:World} {s c b1 b2 a f:Nat} {K M Z T L O:Nat} {Q:Nat->Prop} {Tk:Nat} {dead:Nat->Bool} {E:Nat->Int->List Int} {cl:Bool} {ar ba ct:Nat} {S:List Ob}
theorem Sb.below (h:Sb B w s c b1 b2 a f K M Z T L O Q Tk dead E cl ar ba ct S) (hb:Below w.heap.size w W):Sb B W s c b1 b2 a f K M Z T L O Q Tk dead E cl ar ba ct S:=by
 obtain ⟨ad,hc⟩:=h.cat
 exact ⟨(hb.block _ (blk_lt h.box)).trans h.box,⟨ad,hc.below hb⟩,h.ax.below hb,h.fd.below hb,h.eb,h.nq,h.ge⟩
theorem fz_of {w:World} {k t:Nat} {cells:Array Value} (h:w.heap[k]?=some (.cells cells t (0,0))) (ht:t ∉ ([119,95,90,110,63,43,30]:List Nat)):Fz w k:=⟨cells,t,h,ht⟩
theorem Sb.qc (h:Sb B w s c b1 b2 a f K M Z T L O Q Tk dead E cl ar ba ct S):¬ Q c/\(∀ k,Q k->¬ T3 w k)/\¬ Q f:=by
 obtain ⟨ad,hc⟩:=h.cat
 obtain ⟨cf,hf,_⟩:=h.fd.cells
 refine ⟨fun hq=>(h.ax.S_ge hq).2.1 (fz_of hc.box (by decide)),fun k hq ⟨cells,h3⟩=>(h.ax.S_ge hq).2.1 (fz_of h3 (by decide)),fun hq=>(h.ax.S_ge hq).2.1 (fz_of hf (by decide))⟩
theorem Sb.disk (h:Sb B w s c b1 b2 a f K M Z T L O Q Tk dead E cl ar ba ct S) (hg:Gs Q w W) {Tk':Nat} {dead':Nat->Bool} {E':Nat->Int->List Int} {cl':Bool} (hx:Ax B W a Q (5+(L:Int)+T) (K+M) Tk' dead' E' cl') (he:EByte E'):Sb B W s c b1 b2 a f K M Z T L O Q Tk' dead' E' cl' ar ba ct S:=by
 obtain ⟨ad,hc⟩:=h.cat
 obtain ⟨q1,q2,q3⟩:=h.qc
 exact ⟨(hg.block _ (blk_lt h.box) h.nq.1).trans h.box,⟨ad,hc.gs hg q1 h.nq.2.1 h.nq.2.2 q2⟩,hx,h.fd.keep (hg.block _ h.fd.lt q3),he,h.nq,h.ge⟩
theorem Sb.turn (h:Sb B w s c b1 b2 a f K M Z T L O Q Tk dead E cl ar ba ct S) (hg:Gs (fun j=>j=b1∨j=b2) w W) {S':List Ob} {ad':ByteArray->Value} (hc':Cat W c K M Z T L O b1 b2 S' ad' (ownM S') (cntM S')):Sb B W s c b1 b2 a f K M Z T L O Q Tk dead E cl ar ba ct S':=by
 obtain ⟨ad,hc⟩:=h.cat
 obtain ⟨cf,hf,_⟩:=h.fd.cells
 have hm:∀ {k t:Nat} {cells:Array Value},w.heap[k]?=some (.cells cells t (0,0))->¬ (k=b1∨k=b2):=fun hk e=>by
  obtain ⟨es,cl,h1⟩:=hc.mapQ _ e
  rw [hk] at h1
  cases h1
 refine ⟨(hg.block _ (blk_lt h.box) (hm h.box)).trans h.box,⟨ad',hc'⟩,?_,h.fd.keep (hg.block _ h.fd.lt (hm hf)),h.eb,h.nq,h.ge⟩
 refine h.ax.keep (hg.fr (fun k hk hq=>?_)) (fun k hk=>hg.block k (h.ax.S_ge hk).2.2 (fun e=>?_))
 ·rcases hq with rfl|rfl
  ·obtain ⟨es,cl,h1⟩:=hc.objs.mapb
   exact ⟨h.ge.2.1,map_nfz h1⟩
  ·obtain ⟨es,cl,h1⟩:=hc.own.mapb
   exact ⟨h.ge.2.2,map_nfz h1⟩
 ·rcases e with rfl|rfl
  ·exact h.nq.2.1 hk
  ·exact h.nq.2.2 hk
theorem Sb.set (h:Sb B w s c b1 b2 a f K M Z T L O Q Tk dead E cl ar ba ct S) (i:Nat) (v:Value) {ar' ba' ct':Nat} (he:(stC c a f K M Z T L O ar ba ct).setIfInBounds i v=stC c a f K M Z T L O ar' ba' ct') :
  Sb B (w.setCell ⟨s,i,none⟩ v) s c b1 b2 a f K M Z T L O Q Tk dead E cl ar' ba' ct' S/\Gs (fun k=>k=s) w (w.setCell ⟨s,i,none⟩ v):=by
 obtain ⟨ad,hc⟩:=h.cat
 obtain ⟨cf,hf,_⟩:=h.fd.cells
 have hg:Gs (fun k=>k=s) w (w.setCell ⟨s,i,none⟩ v):=(Gs.refl (fun k=>k=s) w).set (.inr rfl) i v
 have hbx:=set_cells h.box i v
 rw [he] at hbx
 have hne:∀ {k:Nat} {o:Obj},w.heap[k]?=some o->(∀ cells,o≠.cells cells 110 (0,0))->¬ k=s:=fun hk ho e=>by
  subst e
  rw [h.box] at hk
  injection hk with hk
  exact ho _ hk.symm
 refine ⟨⟨hbx,⟨ad,hc.gs hg (hne hc.box (fun _ e=>by cases e)) ?_ ?_ ?_⟩,?_,h.fd.keep (hg.block _ h.fd.lt (hne hf (fun _ e=>by cases e))),h.eb,h.nq,h.ge⟩,hg⟩
 ·obtain ⟨es,cl,h1⟩:=hc.objs.mapb
  exact hne h1 (fun _ e=>by cases e)
 ·obtain ⟨es,cl,h1⟩:=hc.own.mapb
  exact hne h1 (fun _ e=>by cases e)
 ·rintro k rfl ⟨cells,h3⟩
  rw [h.box] at h3
  cases h3
 ·refine h.ax.keep (hg.fr (fun k hk hq=>?_)) (fun k hk=>hg.block k (h.ax.S_ge hk).2.2 (fun e=>?_))
  ·subst hq
   refine ⟨h.ge.1,?_⟩
   rintro ⟨cells,t,h1,h2⟩
   rw [h.box] at h1
   injection h1 with h1
   injection h1 with _ h1
   exact h2 (by rw [<- h1];decide)
  ·subst e
   exact h.nq.1 hk
end
def SC (w W:World) (s c a f:Nat) (K M Z T L O ar ba ct:Int):Prop:=W.heap[s]?=some (.cells (stC c a f K M Z T L O ar ba ct) 110 (0,0))/\Below w.heap.size w W
theorem SC.step {w W W':World} {s c a f:Nat} {K M Z T L O ar ba ct:Int} (h:SC w W s c a f K M Z T L O ar ba ct) (hb:Below W.heap.size W W'):SC w W' s c a f K M Z T L O ar ba ct:=⟨(hb.block _ (blk_lt h.1)).trans h.1,below_step h.2 hb⟩
theorem SC.all {w W:World} {s c a f:Nat} {K M Z T L O ar ba ct:Int} (h:SC w W s c a f K M Z T L O ar ba ct) :
  W.cell? ⟨s,0,none⟩=some (.pointer (some ⟨c,0,none⟩))/\W.cell? ⟨s,1,none⟩=some (.pointer (some ⟨a,0,none⟩))/\W.cell? ⟨s,2,none⟩=some (.pointer (some ⟨f,0,none⟩))/\W.cell? ⟨s,3,none⟩=some (.int .i64 K)/\W.cell? ⟨s,4,none⟩=some (.int .i64 M)/\W.cell? ⟨s,5,none⟩=some (.int .i64 Z)/\W.cell? ⟨s,6,none⟩=some (.int .i64 T)/\W.cell? ⟨s,7,none⟩=some (.int .i64 L)/\W.cell? ⟨s,8,none⟩=some (.int .i64 O)/\W.cell? ⟨s,9,none⟩=some (.int .i64 ar)/\W.cell? ⟨s,10,none⟩=some (.int .i64 ba)/\W.cell? ⟨s,11,none⟩=some (.int .i64 ct):=by
 obtain ⟨h0,h1,h2,h3,h4,h5,h6,h7,h8,h9,h10,h11,_⟩:=st_cells h.1
 exact ⟨h0,h1,h2,h3,h4,h5,h6,h7,h8,h9,h10,h11⟩
theorem bx105 {w:World} {b:Nat} {v0 v1 v2:Value} (h:w.heap[b]?=some (.cells #[v0,v1,v2] 105 (0,0))):w.cell? ⟨b,0,none⟩=some v0/\w.cell? ⟨b,1,none⟩=some v1/\w.cell? ⟨b,2,none⟩=some v2/\w.frozen? ⟨b,0,none⟩=false/\w.frozen? ⟨b,1,none⟩=false/\w.frozen? ⟨b,2,none⟩=false:=by simp [World.cell?,World.frozen?,h]
theorem bx_set3 {w:World} {b:Nat} {x0 x1 x2:Value} (h:w.heap[b]?=some (.cells #[x0,x1,x2] 105 (0,0))) (v0 v1 v2:Value):(((w.setCell ⟨b,0,none⟩ v0).setCell ⟨b,1,none⟩ v1).setCell ⟨b,2,none⟩ v2).heap[b]?=some (.cells #[v0,v1,v2] 105 (0,0)):=set_cells (set_cells (set_cells h 0 v0) 1 v1) 2 v2
theorem SC.four {w W:World} {s c a f:Nat} {K M Z T L O ar ba ct:Int} (h:SC w W s c a f K M Z T L O ar ba ct):W.cell? ⟨s,0,none⟩=some (.pointer (some ⟨c,0,none⟩))/\W.cell? ⟨s,9,none⟩=some (.int .i64 ar)/\W.cell? ⟨s,10,none⟩=some (.int .i64 ba)/\W.cell? ⟨s,11,none⟩=some (.int .i64 ct):=⟨h.all.1,h.all.2.2.2.2.2.2.2.2.2.1,h.all.2.2.2.2.2.2.2.2.2.2.1,h.all.2.2.2.2.2.2.2.2.2.2.2⟩
theorem Oz.gs {w W:World} {base:Nat} {v:Value} {Lo:List (Ob×Value)} (h:Oz w base v Lo) {Q:Nat->Prop} (hg:Gs Q w W) (hQ:∀ k,Q k->¬ T3 w k/\¬ ∃ cells,w.heap[k]?=some (.cells cells 139 (0,0))):Oz W base v Lo :=
 ⟨own_move h.own (fun k hk=>hg.block k (own_lt h.own k hk) (fun e=>(hQ k e).2 (own_typed h.own k hk))),fun p hp=>by
  obtain ⟨A',c',h1,h2,h3⟩:=h.row p hp
  exact ⟨A',c',h1,h2,h3.gs hg (fun k hk=>(hQ k hk).1)⟩⟩
theorem st_seven {W:World} {s c a f g:Nat} {K M Z T L O ar ba ct ar1 ba1:Int} {A:Option Addr} {n m:Nat} (h:W.heap[s]?=some (.cells (stC c a f K M Z T L O ar ba ct) 110 (0,0))) (h2:W.heap[g]?=some (.cells (savC ar1 ba1 A n m) 105 (0,0))):W.cell? ⟨s,1,none⟩=some (.pointer (some ⟨a,0,none⟩))/\W.cell? ⟨s,3,none⟩=some (.int .i64 K)/\W.cell? ⟨s,4,none⟩=some (.int .i64 M)/\W.cell? ⟨s,5,none⟩=some (.int .i64 Z)/\W.cell? ⟨s,6,none⟩=some (.int .i64 T)/\W.cell? ⟨s,7,none⟩=some (.int .i64 L)/\W.cell? ⟨s,8,none⟩=some (.int .i64 O)/\W.cell? ⟨g,0,none⟩=some (.int .i64 ar1)/\W.cell? ⟨g,1,none⟩=some (.int .i64 ba1)/\W.cell? ⟨g,2,none⟩=some (.slice A n m):=by
 obtain ⟨h0,h1,_,h3,h4,h5,h6,h7,h8,_⟩:=st_cells h
 obtain ⟨g0,g1,g2,_⟩:=bx105 h2
 exact ⟨h1,h3,h4,h5,h6,h7,h8,g0,g1,g2⟩
theorem SC.bx {w W:World} {s c a f:Nat} {K M Z T L O ar ba ct:Int} (h:SC w W s c a f K M Z T L O ar ba ct):W.heap[s]?=some (.cells (stC c a f K M Z T L O ar ba ct) 110 (0,0)):=h.1
theorem savE_byte {E:Nat->Int->List Int} (h:EByte E) (ar ep:Int) {P:List (List Int)} (hP:∀ i,byteL (P.getD i [])) (n:Nat):∀ i,EByte (savE E ar ep P n i)
 | 0=>h
 | i+1=>(savE_byte h ar ep hP n i).all _ _ (hP i) n
theorem parts_byte (L:List Ob) (i:Nat):byteL ((partsL L).getD i []):=by
 have hby:=snap_bytes L
 unfold partsL
 rcases i with _|_|i
 ·exact bytesL (RecB.bytes_take hby _)
 ·exact bytesL (RecB.bytes_take (RecB.bytes_drop hby _) _)
 ·intro x hx
  simp at hx
theorem savE_far (E:Nat->Int->List Int) (ar ep:Int) (P:List (List Int)) (n:Nat) {d:Nat} {y:Int} (har:ar<=1) (hy:5<=y):∀ i,i<=2->savE E ar ep P n i d y=E d y
 | 0,_=>rfl
 | i+1,h=>by
  unfold savE allE
  rw [if_neg (fun e=>by omega)]
  exact savE_far E ar ep P n har hy i (by omega)
theorem SC.set {w W:World} {s c a f:Nat} {K M Z T L O ar ba ct:Int} (h:SC w W s c a f K M Z T L O ar ba ct) {g:Nat} (hg:w.heap.size<=g) (hs:s < w.heap.size) (i:Nat) (v:Value):SC w (W.setCell ⟨g,i,none⟩ v) s c a f K M Z T L O ar ba ct:=by
 have h1:Gs (fun k=>k=g) W (W.setCell ⟨g,i,none⟩ v):=(Gs.refl (fun k=>k=g) W).set (.inr rfl) i v
 exact ⟨(h1.block _ (blk_lt h.1) (by omega)).trans h.1,below_of_gs h.2 h1 (fun k e=>by omega)⟩
section
variable {B:Nat} {w W:World} {s c b1 b2 a f:Nat} {K M Z T L O:Nat} {Q:Nat->Prop} {Tk:Nat} {dead:Nat->Bool} {E:Nat->Int->List Int} {cl:Bool} {ar ba ct:Nat} {S:List Ob}
set_option maxRecDepth 100000 in
set_option maxHeartbeats 2000000 in
theorem room_lt {K M Z T L O ar ba ct:Int} (h:w.heap[s]?=some (.cells (stC c a f K M Z T L O ar ba ct) 110 (0,0))) (hlt:ct < L) :
  Calls Tryz.prog 94 #[.pointer (some ⟨s,0,none⟩)] w fun e w'=>e=.returned (.int .i64 0)/\Below w.heap.size w w':=by
 have H0:=Aside0.mk (show SC w w.drew s c a f K M Z T L O ar ba ct from ⟨h,below_drew1 (Below.refl _ _)⟩)
 clear h
 go_enter Tryz.func94,Tryz.ntmps94
 go_wp2
 go_region_held3 (fun W=>W.cell? ⟨s,7,none⟩=some (.int .i64 L)/\W.cell? ⟨s,11,none⟩=some (.int .i64 ct)) (exact ⟨H0.out.all.2.2.2.2.2.2.2.1,H0.out.all.2.2.2.2.2.2.2.2.2.2.2⟩) (fail)
 go_wp2
 go_ret
 exact ⟨rfl,H0.out.2⟩
def RoomP (B:Nat) (w w':World) (s c b1 b2 a f:Nat) (K M Z T L O:Nat) (Q:Nat->Prop) (Tk:Nat) (E:Nat->Int->List Int) (ba ct:Nat) (S:List Ob):Prop :=
 ∃ Tk' E' ar' ba' ct',Sb B w' s c b1 b2 a f K M Z T L O Q Tk' (fun _=>false) E' true ar' ba' ct' S/\Gs (fun k=>Q k∨k=s) w w'/\ct' < L/\ba'+ct'=ba+ct/\ar'<=1/\Tk'<=Tk+2*(K+M)/\(∀ i y,5<=y->E' i y=E i y)/\(ba'=0->E'=E)
set_option maxRecDepth 100000 in
set_option maxHeartbeats 2000000 in
theorem room_save (h:Sb B w s c b1 b2 a f K M Z T L O Q Tk (fun _=>false) E true ar ba L S) (hg:LayA.Good K M Z T L O) (hw:WfS S T O) (har:ar<=1) (hep:ba+L<=1000) (hT:Tk+2*(K+M)<=1000000) :
  Calls Tryz.prog 94 #[.pointer (some ⟨s,0,none⟩)] w fun e w'=>e=.returned (.int .i64 0)/\RoomP B w w' s c b1 b2 a f K M Z T L O Q Tk E ba L S:=by
 have hg':=hg
 unfold LayA.Good at hg'
 obtain ⟨ad,hc⟩:=h.cat
 have H0:=Aside0.mk (show SC w w.drew s c a f K M Z T L O ar ba L from ⟨h.box,below_drew1 (Below.refl _ _)⟩)
 have HC:=Aside0.mk (fun (W:World) (hb:Below w.heap.size w W)=>call_ok (hc.below hb) (by have:=hw.len;omega) (fun o ho=>by have:=(hw.ok o ho).1;unfold RecA.Ok at this;exact ⟨this.2.1.2,by omega⟩))
 have HH:=Aside0.mk (And.intro h (And.intro hg hw))
 have HM:=Aside0.mk (allS_may hw (by omega) (by omega))
 have g1:¬ (L:Int) < (L:Int):=by omega
 have gw1:wrap64 (1 - (ar:Int))=((1 - ar:Nat):Int):=by rw [w64 _ (by omega)];omega
 have gw2:wrap64 ((ba:Int)+L)=((ba+L:Nat):Int):=by rw [w64 _ (by omega)];omega
 have HX:=Aside0.mk (And.intro hT (And.intro har hep))
 obtain ⟨ar1,har1⟩:∃ q,1 - ar=q:=⟨_,rfl⟩
 obtain ⟨ba1,hba1⟩:∃ q,ba+L=q:=⟨_,rfl⟩
 rw [har1] at gw1
 rw [hba1] at gw2
 have HE:=Aside0.mk (And.intro har1 hba1)
 clear h hg hg' hw har hep hT hc har1 hba1
 go_enter Tryz.func94,Tryz.ntmps94
 go_wp2
 go_region_held3 (fun W=>W.cell? ⟨s,7,none⟩=some (.int .i64 L)/\W.cell? ⟨s,11,none⟩=some (.int .i64 L)) (exact ⟨H0.out.all.2.2.2.2.2.2.2.1,H0.out.all.2.2.2.2.2.2.2.2.2.2.2⟩) (fail)
 go_wp2
 have H1:=Aside0.mk (H0.out.step (below_drew1 (Below.refl _ _)))
 have H1':=Aside0.mk (show SC w ((w.alloc (Obj.cells #[.int .i64 0,.int .i64 0,.slice none 0 0] 105)).drew.drew) s c a f K M Z T L O ar ba L from ⟨((below_alloc (Below.refl w.heap.size w) _).block _ (blk_lt HH.out.1.box)).trans HH.out.1.box,below_drew1 (below_drew1 (below_alloc (Below.refl _ _) _))⟩)
 have HZ:=Aside0.mk (show ((w.alloc (Obj.cells #[.int .i64 0,.int .i64 0,.slice none 0 0] 105)).drew.drew).heap[w.heap.size]?=some (.cells #[.int .i64 0,.int .i64 0,.slice none 0 0] 105 (0,0)) from heap_alloc_new w _)
 have HSL:=Aside0.mk (blk_lt HH.out.1.box)
 go_cut [3] from 200 to 200 (fun x3 wx=>∃ g A2 n2 c2,x3=.pointer (some ⟨g,0,none⟩)/\Aside0 (SC w wx s c a f K M Z T L O ar ba L/\wx.heap[g]?=some (.cells (savC ar1 ba1 A2 n2 c2) 105 (0,0))/\w.heap.size<=g/\∃ L2 bs,Oz wx bs (.slice A2 n2 c2) L2/\L2.map Prod.fst=allS S))
 case first =>
  go_region_held3 (fun W=>W.cell? ⟨s,0,none⟩=some (.pointer (some ⟨c,0,none⟩))/\W.cell? ⟨s,9,none⟩=some (.int .i64 ar)/\W.cell? ⟨s,10,none⟩=some (.int .i64 ba)/\W.cell? ⟨s,11,none⟩=some (.int .i64 L)) (first|with_reducible exact H2.out.four|with_reducible exact (H2.out.step (below_alloc (Below.refl _ _) _)).four|with_reducible exact ((((H2.out.step (below_alloc (Below.refl _ _) _)).set H2.out.2.size HSL.out 0 _).set H2.out.2.size HSL.out 1 _).set H2.out.2.size HSL.out 2 _).four|with_reducible exact (((H2.out.set (Nat.le_refl _) HSL.out 0 _).set (Nat.le_refl _) HSL.out 1 _).set (Nat.le_refl _) HSL.out 2 _).four|with_reducible exact H1.out.four|with_reducible exact H1'.out.four) (first|(go_at_call 100;refine (HC.out _ H1.out.2).mono ?_;rintro e2 w2 ⟨v2,L2,rfl,hO2,hL2,hb2⟩;obtain ⟨A2,c2,rfl,_⟩:=own_slice2 hO2.own;obtain ⟨m0,m1,m2,m3,m4,m5,m6,m7,m8,m9,m10,m11⟩:=(H1.out.step hb2).all;have H2:=Aside0.mk (H1.out.step hb2);have HO2:=Aside0.mk (And.intro hO2 hL2);clear hb2 hO2 hL2)|(go_at_call 100;refine (HC.out _ H1'.out.2).mono ?_;rintro e2 w2 ⟨v2,L2,rfl,hO2,hL2,hb2⟩;obtain ⟨A2,c2,rfl,_⟩:=own_slice2 hO2.own;obtain ⟨m0,m1,m2,m3,m4,m5,m6,m7,m8,m9,m10,m11⟩:=(H1'.out.step hb2).all;have hbz:=(hb2.block _ (blk_lt HZ.out)).trans HZ.out;obtain ⟨z0,z1,z2,z3,z4,z5⟩:=bx105 hbz;have HB9:=Aside0.mk hbz;clear hbz;have H2:=Aside0.mk (H1'.out.step hb2);have HO2:=Aside0.mk (And.intro hO2 hL2);clear hb2 hO2 hL2))
  all_goals (go_wp2;go_meet)
  ·refine ⟨w2.heap.size,A2,L2.length,c2,rfl,⟨H2.out.step (below_alloc (Below.refl _ _) _),?_,H2.out.2.size,L2,_,HO2.out.1.gs (Gs.of_below (S:=fun _=>False) (below_alloc (Below.refl _ _) _)) (fun _ hk=>hk.elim),HO2.out.2⟩⟩
   rw [heap_alloc_new,(i64_w _).trans gw1,(i64_w _).trans gw2]
   rfl
  ·have hg2:Gs (fun k=>k=w.heap.size) w2 (((w2.setCell ⟨w.heap.size,0,none⟩ (.int .i64 (IntKind.i64.wrap (1 - ↑ar)))).setCell ⟨w.heap.size,1,none⟩ (.int .i64 (IntKind.i64.wrap (↑ba+↑L)))).setCell ⟨w.heap.size,2,none⟩ (.slice A2 L2.length c2)):=(((Gs.refl (fun k=>k=w.heap.size) w2).set (.inr rfl) 0 _).set (.inr rfl) 1 _).set (.inr rfl) 2 _
   refine ⟨w.heap.size,A2,L2.length,c2,rfl,⟨((H2.out.set (Nat.le_refl _) HSL.out 0 _).set (Nat.le_refl _) HSL.out 1 _).set (Nat.le_refl _) HSL.out 2 _,?_,Nat.le_refl _,L2,_,HO2.out.1.gs hg2 ?_,HO2.out.2⟩⟩
   ·rw [bx_set3 HB9.out,(i64_w _).trans gw1,(i64_w _).trans gw2]
    rfl
   ·rintro k rfl
    refine ⟨fun ⟨cells,h3⟩=>?_,fun ⟨cells,h3⟩=>?_⟩ <;> (rw [HB9.out] at h3;cases h3)
 case rest =>
  obtain ⟨g,A2,n2,c2,rfl,HK⟩:=hcut
  obtain ⟨hsc,hgx,hge,L2,bs,hO2,hL2⟩:=HK.out
  have h4:=Aside0.mk (hsc.step (below_drew1 (Below.refl _ _)))
  have hgx1:=Aside0.mk (show wc.drew.heap[g]?=_ from hgx)
  have HV:=Aside0.mk (And.intro hge (And.intro hO2 hL2))
  clear hsc hgx hge hO2 hL2
  have hQ:∀ k,Q k->k < w.heap.size:=fun k hk=>(HH.out.1.ax.S_ge hk).2.2
  have hn0:0 < K+M:=by have:=HH.out.2.1;unfold LayA.Good at this;omega
  have HS:=Aside0.mk (save_ok (w:=wc.drew) (ar:=(ar1:Int)) (ep:=(ba1:Int)) (HH.out.1.ax.below h4.out.2) (fun _ _=>rfl) HX.out.1 hn0 HH.out.2.1 (by have:=HE.out.1;omega) (by have:=HE.out.2;have:=HX.out.2.2;omega) (by omega) (HV.out.2.1.gs (Gs.of_below (S:=fun _=>False) (below_drew1 (Below.refl _ _))) (fun _ hk=>hk.elim)) (by rw [HV.out.2.2];exact HM.out))
  obtain ⟨E',hE'⟩:∃ E',savE E (ar1:Int) (ba1:Int) (partsL (L2.map Prod.fst)) (K+M) 2=E':=⟨_,rfl⟩
  rw [hE'] at HS
  have HQ:=Aside0.mk (And.intro hQ hE')
  clear hE' hQ hn0
  unfold geoV at HS
  go_wp2
  go_region_held3 (fun W=>W.cell? ⟨s,1,none⟩=some (.pointer (some ⟨a,0,none⟩))/\W.cell? ⟨s,3,none⟩=some (.int .i64 K)/\W.cell? ⟨s,4,none⟩=some (.int .i64 M)/\W.cell? ⟨s,5,none⟩=some (.int .i64 Z)/\W.cell? ⟨s,6,none⟩=some (.int .i64 T)/\W.cell? ⟨s,7,none⟩=some (.int .i64 L)/\W.cell? ⟨s,8,none⟩=some (.int .i64 O)/\W.cell? ⟨g,0,none⟩=some (.int .i64 ar1)/\W.cell? ⟨g,1,none⟩=some (.int .i64 ba1)/\W.cell? ⟨g,2,none⟩=some (.slice A2 n2 c2)) (first|with_reducible exact st_seven H5.out.1 H5.out.2.1|with_reducible exact st_seven h4.out.bx hgx1.out) (first|(go_at_call 40;go_loud (refine HS.out.mono ?_;rintro e5 w5 ⟨rfl,hx5,hg5⟩;have H5:=Aside0.mk (And.intro ((hg5.block _ (blk_lt h4.out.1) HH.out.1.nq.1).trans h4.out.1) (And.intro ((hg5.block _ (blk_lt hgx1.out) (fun e=>Nat.not_lt.2 HV.out.1 (HQ.out.1 _ e))).trans hgx1.out) (And.intro hx5 hg5)));clear hx5 hg5)))
  obtain ⟨p0,p1,p2,p3,p4,p5,p6,p7,p8,p9,p10,p11,p12⟩:=st_cells H5.out.1
  obtain ⟨g0,g1,g2,_⟩:=bx105 H5.out.2.1
  have fz:∀ i,w5.frozen? ⟨s,i,none⟩=false:=fun i=>by simp [World.frozen?,H5.out.1]
  have fz9:=fz 9
  have fz10:=fz 10
  have fz11:=fz 11
  clear fz
  go_wp2
  go_region_law (fail)
  all_goals
   have hb0:=HH.out.1.below h4.out.2
   have he:EByte E':=by
    rw [<- HQ.out.2]
    exact (savE_byte hb0.eb _ _ (parts_byte _) _ 2)
   have hg5:=H5.out.2.2.2
   have hs5:=hb0.disk hg5 H5.out.2.2.1 he
   obtain ⟨h6,g6⟩:=hs5.set 9 (.int .i64 (ar1:Int)) (ar':=ar1) (ba':=ba) (ct':=L) rfl
   obtain ⟨h7,g7⟩:=h6.set 10 (.int .i64 (ba1:Int)) (ar':=ar1) (ba':=ba1) (ct':=L) rfl
   obtain ⟨h8,g8⟩:=h7.set 11 (.int .i64 0) (ar':=ar1) (ba':=ba1) (ct':=0) rfl
   have h9:=h8.below (below_drew1 (Below.refl _ _))
   go_wp2
   go_ret
   have hL:0 < L:=by have:=HH.out.2.1;unfold LayA.Good at this;omega
   refine ⟨rfl,_,E',ar1,ba1,0,h9,?_,hL,by have:=HE.out.2;omega,by have:=HE.out.1;omega,Nat.le_refl _,fun i y hy=>?_,fun e=>by have:=HE.out.2;omega⟩
   ·have m1:Gs (fun k=>Q k∨k=s) w wc.drew:=Gs.of_below h4.out.2
    have m2:∀ {A B:World},Gs (fun k=>k=s) A B->Gs (fun k=>Q k∨k=s) A B:=fun h=>h.mono (fun k _ e=>.inr e)
    exact ((((m1.trans (hg5.mono (fun k _ e=>.inl e))).trans (m2 g6)).trans (m2 g7)).trans (m2 g8)).trans (Gs.of_below (below_drew1 (Below.refl _ _)))
   ·rw [<- HQ.out.2]
    exact savE_far E _ _ _ _ (by have:=HE.out.1;omega) hy 2 (Nat.le_refl _)
theorem room_ok (h:Sb B w s c b1 b2 a f K M Z T L O Q Tk (fun _=>false) E true ar ba ct S) (hg:LayA.Good K M Z T L O) (hw:WfS S T O) (har:ar<=1) (hct:ct<=L) (hep:ba+ct<=1000) (hT:Tk+2*(K+M)<=1000000) :
  Calls Tryz.prog 94 #[.pointer (some ⟨s,0,none⟩)] w fun e w'=>e=.returned (.int .i64 0)/\RoomP B w w' s c b1 b2 a f K M Z T L O Q Tk E ba ct S:=by
 by_cases hlt:ct < L
 ·refine (room_lt h.box (by omega)).mono ?_
  rintro e w' ⟨rfl,hb⟩
  exact ⟨rfl,Tk,E,ar,ba,ct,h.below hb,Gs.of_below hb,hlt,rfl,har,by omega,fun _ _ _=>rfl,fun _=>rfl⟩
 ·have e:ct=L:=by omega
  subst e
  exact room_save h hg hw har hep hT
end
end Go.Proofs.YtmmcbncpnlknbaaGreat.Top
