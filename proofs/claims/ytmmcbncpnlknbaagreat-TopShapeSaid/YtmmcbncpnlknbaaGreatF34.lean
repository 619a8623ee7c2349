import Derived.Test.YtmmcbncpnlknbaaGreatF33
set_option linter.unusedVariables false
set_option linter.unusedSimpArgs false
namespace Go.Proofs.YtmmcbncpnlknbaaGreat.Top
open Go Go.RowKit Go.Proofs.YtmmcbncpnlknbaaGreatW.PrintWords Go.Proofs.YtmmcbncpnlknbaaGreatW.PrintLast Go.Proofs.YtmmcbncpnlknbaaGreatW.PrintMore
theorem fmt_byte (n:Nat):EByte (fmtE n):=savE_byte (EByte.all (fun _ _ x hx=>by simp at hx) 0 0 (fun x hx=>by simp at hx;omega) n) _ _ (parts_byte []) n 2
section
variable {B:Nat} {w W:World} {a f:Nat} {K M Z T L O:Nat} {Q:Nat->Prop} {sec:Int} {Tk:Nat} {dead:Nat->Bool} {E:Nat->Int->List Int} {cl:Bool}
set_option maxRecDepth 100000 in
set_option maxHeartbeats 2000000 in
theorem fmt37 {n:Nat} (hx:Ax B w a Q sec n Tk dead E cl) (hd:∀ i,i < n->dead i=false) (hT:Tk+n<=1000000) (h1:0 < sec) {g3 g9:Nat} (hg3:w.heap[g3]?=some (.cells #[.pointer (some ⟨a,0,none⟩)] 60 (0,0))) {ad:Addr} {c:Nat} (hg9:w.heap[g9]?=some (.cells #[.slice (some ad) n c] 98 (0,0))) (hr:∀ i,i < n->w.cell? (ad.add i)=some (.int .i64 i)) (hb:ad.block < w.heap.size/\¬ Q ad.block) :
  Calls Tryz.prog 37 #[.pointer (some ⟨g3,0,none⟩),.pointer (some ⟨g9,0,none⟩)] w fun e w'=>e=.returned (.int .i64 0)/\Ax B w' a Q sec n (Tk+n) dead (allE E 0 (SecA.sect 0 0 [76]) n) true/\Gs Q w w':=by
 have HC:=Aside0.mk (mlabel_ok (c:=c) hx hd hT h1 hr hb)
 have k0:w.cell? ⟨g3,0,none⟩=some (.pointer (some ⟨a,0,none⟩)):=by simp [World.cell?,hg3]
 have k1:w.cell? ⟨g9,0,none⟩=some (.slice (some ad) n c):=by simp [World.cell?,hg9]
 clear hx hd hr hb hg3 hg9
 go_enter Tryz.func37,Tryz.ntmps37
 go_wp2_with (first|(go_at_call 38;go_loud (refine HC.out.mono ?_;rintro e1 w1 ⟨rfl,h1⟩;have H1:=Aside0.mk h1;clear h1)))
 go_ret
 exact ⟨rfl,H1.out⟩
set_option maxRecDepth 100000 in
set_option maxHeartbeats 2000000 in
theorem fmt39 {n:Nat} (hx:Ax B w a Q sec n Tk dead E cl) (hd:∀ i,i < n->dead i=false) (hT:Tk+2*n<=1000000) (hn0:0 < n) (h1:5<=sec) (hg:LayA.Good K M Z T L O) {g3 g5:Nat} (hg3:w.heap[g3]?=some (.cells #[.pointer (some ⟨a,0,none⟩)] 60 (0,0))) (hg5:w.heap[g5]?=some (.cells (geoC K M Z T L O) 23 (0,0))) :
  Calls Tryz.prog 39 #[.pointer (some ⟨g3,0,none⟩),.pointer (some ⟨g5,0,none⟩)] w fun e w'=>e=.returned (.int .i64 0)/\Ax B w' a Q sec n (Tk+2*n) dead (savE E 0 0 (partsL []) n 2) true/\Gs Q w w':=by
 have HC:=Aside0.mk (save_ok (ar:=0) (ep:=0) (base:=w.heap.size) (A:=none) (nn:=0) (c:=0) (Lo:=[]) hx hd hT hn0 hg (.inl rfl) (by omega) h1 ⟨World.ownsRow_nil _ _ _ _,fun p hp=>nomatch hp⟩ ⟨(fun o ho=>nomatch ho),(fun i p q hp=>by simp at hp),by simp,by simp⟩)
 have k0:w.cell? ⟨g3,0,none⟩=some (.pointer (some ⟨a,0,none⟩)):=by simp [World.cell?,hg3]
 obtain ⟨q0,q1,q2,q3,q4,q5⟩:=geo_cells hg5
 unfold geoV at HC
 clear hx hd hg3 hg5 hg
 go_enter Tryz.func39,Tryz.ntmps39
 go_wp2_with (first|(go_at_call 40;go_loud (refine HC.out.mono ?_;rintro e1 w1 ⟨rfl,h1⟩;have H1:=Aside0.mk h1;clear h1)))
 go_ret
 exact ⟨rfl,H1.out⟩
theorem call_first_ab {w:World} {g:Nat} {x y:Array Value} (hfn:w.heap[g]?=some (.cells #[.func (.func 37) #[] x,.func (.func 39) #[] y] 101 (0,0)))
  {P1 P2:World->Prop} (h1f:∀ W,P1 W->W.heap[g]?=w.heap[g]?)
  (c0:Calls Tryz.prog 37 x w fun e w'=>e=.returned (.int .i64 0)/\P1 w')
  (c1:∀ W,P1 W->Calls Tryz.prog 39 y W fun e w'=>e=.returned (.int .i64 0)/\P2 w') :
  Calls Tryz.prog 36 #[.slice (some ⟨g,0,none⟩) 2 2] w fun e w'=>e=.returned (.int .i64 0)/\P2 w':=by
 refine cfirst_ok (n:=2) (by omega) (fun i=>match i with
   | 0=>(37,#[],x)
   | _=>(39,#[],y))
  (fun i W=>match i with
   | 0=>W=w
   | 1=>P1 W
   | _=>P2 W) rfl ?_ ?_ ?_
 ·intro i hi W hP
  have hg:W.heap[g]?=w.heap[g]? :=by
   match i,hi,hP with
   | 0,_,hP=>exact congrArg (fun W:World=>W.heap[g]?) hP
   | 1,_,hP=>exact h1f W hP
  match i,hi with
  | 0,_=>simp [World.cell?,hg,hfn]
  | 1,_=>simp [World.cell?,hg,hfn]
 ·intro i hi xs W
  match i,hi with
  | 0,_=>exact Tryz.call37 xs W
  | 1,_=>exact Tryz.call39 xs W
 ·intro i hi W hP
  match i,hi,hP with
  | 0,_,hP=>cases hP;simpa using c0
  | 1,_,hP=>simpa using c1 W hP
end
def FmtP (B:Nat) (w w':World) (e:Ending) (a f:Nat) (K M Z T L O:Nat) (Q:Nat->Prop):Prop :=
 ∃ s c b1 b2,e=.returned (.tuple #[.pointer (some ⟨s,0,none⟩),.int .i64 0])/\St B w' s c b1 b2 a f K M Z T L O Q (3*(K+M)) (fmtE (K+M)) 0 0 0 pst0/\(w.heap.size<=s/\w.heap.size<=c/\w.heap.size<=b1/\w.heap.size<=b2)/\Gs Q w w'
def upto (n:Nat):List Int:=(List.range n).map fun i:Nat=>(i:Int)
theorem upto_succ (n:Nat):upto (n+1)=upto n ++ [(n:Int)]:=by unfold upto;rw [List.range_succ,List.map_append];rfl
theorem le_8 {i:Nat} (h:i < 64):(i+1)*8<=140737488355328:=by omega
theorem own_ne {w:World} {base e size n g t:Nat} {v x:Value} {xs:List Value} (h:w.ownsRow base e size v n xs) (hb:Boxed w g t x) (ht:t≠e):some g≠v.ownBlock:=fun e9=>by
 obtain ⟨cells,h1⟩:=own_typed h g e9.symm
 rw [show w.heap[g]?=_ from hb] at h1
 cases h1
 exact ht rfl
section
variable {B:Nat} {w W:World} {a f:Nat} {K M Z T L O:Nat} {Q:Nat->Prop}
attribute [local go_sem] calloc_old
set_option maxRecDepth 100000 in
set_option maxHeartbeats 2000000 in
theorem format_ok (hx:Ax B w a Q (5+(L:Int)+T) (K+M) 0 (fun _=>false) (fun _ _=>[]) true) (hf:Fd w f) (hg:Geo K M Z T L O) :
  Calls Tryz.prog 20 #[.pointer (some ⟨a,0,none⟩),.pointer (some ⟨f,0,none⟩),geoV K M Z T L O] w fun e w'=>FmtP B w w' e a f K M Z T L O Q:=by
 have hg':=hg.good
 unfold LayA.Good at hg'
 have h7:=hg.n7
 have hb0:Below w.heap.size w ((w.alloc (.cells #[.pointer (some ⟨a,0,none⟩)] 60)).alloc (.cells (geoC K M Z T L O) 23)):=below_alloc (below_alloc (Below.refl _ _) _) _
 have H0:=Aside0.mk (And.intro (two0 w (.cells #[.pointer (some ⟨a,0,none⟩)] 60) (.cells (geoC K M Z T L O) 23)) (And.intro (two1 w (.cells #[.pointer (some ⟨a,0,none⟩)] 60) (.cells (geoC K M Z T L O) 23)) hb0))
 have HC:=Aside0.mk (ccheck2_ok (hx.below hb0) f hg.good)
 have HN:=Aside0.mk (fun W=>cnew_ok hg.good none 0 W)
 have HH:=Aside0.mk (And.intro hx (And.intro hf hg))
 have gw2:wrap64 ((K:Int)+M)=((K+M:Nat):Int):=by rw [w64 _ (by omega)];simp
 have HN0:=Aside0.mk (show 1<=K+M by omega)
 obtain ⟨n,hn⟩:∃ n,K+M=n:=⟨_,rfl⟩
 have HNn:=Aside0.mk hn
 rw [hn] at gw2 h7
 unfold geoC at H0 HC
 unfold geoV at HC HN ⊢
 clear hx hf hg hg' hb0 hn
 go_enter Tryz.func20,Tryz.ntmps20
 go_wp2_with (first|(go_at_call 35;go_loud (refine HC.out.mono ?_;rintro e1 w1 ⟨rfl,hb1⟩;have H1:=Aside0.mk (And.intro ((hb1.block _ (blk_lt H0.out.1)).trans H0.out.1) (And.intro ((hb1.block _ (blk_lt H0.out.2.1)).trans H0.out.2.1) (below_step H0.out.2.2 hb1)));obtain ⟨q0,q1,q2,q3,q4,q5⟩:=geo_cells H1.out.2.1;have hl5:=blk_lt H1.out.2.1;clear hb1)))
 obtain ⟨W2,hW2⟩:∃ q,w1.alloc (.cells #[.slice none 0 0] 98)=q:=⟨_,rfl⟩
 have hbW:Below w1.heap.size w1 W2:=by rw [<- hW2];exact below_alloc (Below.refl _ _) _
 have hx2:Boxed W2 w1.heap.size 98 (.slice none 0 0):=by rw [<- hW2];exact heap_alloc_new w1 _
 have hs2:W2.heap.size=w1.heap.size+1:=by rw [<- hW2];exact hsz _ _
 have H2:=Aside0.mk (And.intro hbW hs2)
 rw [hW2]
 simp only [gw2]
 go_loopg [10,26] n (fun kq x10 x26 wr=>∃ i:Nat,x26=.int .i64 i/\i+kq=n/\Aside0 (∃ v,Boxed wr w1.heap.size 98 v/\wr.ownsRow W2.heap.size 3 1 v i ((upto i).map (Value.int .i64))/\Gs (fun k=>k=w1.heap.size) W2 wr))
 case atStart=>exact ⟨0,rfl,by omega,⟨_,hx2,World.ownsRow_nil _ _ _ _,Gs.refl _ _⟩⟩
 case round =>
  clear hx2 hbW hs2 hW2
  obtain ⟨i,rfl,hik,HX⟩:=hrel
  obtain ⟨v,hv,hrow,hG⟩:=HX.out
  obtain ⟨A9,c9,h9,_⟩:=own_slice2 hrow
  subst h9
  have hcv:=hv.cell
  have hfv:wr.frozen? ⟨w1.heap.size,0,none⟩=false:=by simp [World.frozen?,show wr.heap[w1.heap.size]?=_ from hv]
  have hlv:=blk_lt (show wr.heap[w1.heap.size]?=some (.cells _ 98 (0,0)) from hv)
  have HV:=Aside0.mk (And.intro hv (And.intro hrow hG))
  clear hv hrow hG
  by_cases hin:i < n
  ·have f1:(i:Int) < (n:Int):=by omega
   have HI:=Aside0.mk (show (i+1)*8<=140737488355328 from le_8 (show i < 64 by omega))
   have GW:=Aside0.mk (show wrap64 ((i:Int)+1)=(i:Int)+1 from w64 _ (by omega))
   have hin7:=hin
   go_wp2_with (first|((with_reducible refine gate_builtin (b:=.append) (xs:=#[.tmp 29,.tmp 31]) rfl ?_);at_builtin;go_loud (refine print_append_cells (w0:=wr) W2.heap.size rfl (.tmp 29) (.tmp 31) 98 3 (.int .i64 0) 1 8 rfl Tryz.underlying98 info3 rfl (by decide) (by decide) (.slice A9 i c9) i ((upto i).map (Value.int .i64)) [.int .i64 (i:Int)] rfl rfl rfl (by simp [Value.oneCell']) HV.out.2.1 (Below.refl _ _) HV.out.2.2.size HI.out ?_;intro v4 w4 ho4 hb4 hg4 hat4;obtain ⟨A7,c7,h77,_⟩:=own_slice2 ho4;subst h77;have hv4:=(hg4.block w1.heap.size hlv (own_ne HV.out.2.1 HV.out.1 (by decide))).trans HV.out.1;have z0:w4.cell? ⟨w1.heap.size,0,none⟩=some (.slice A9 i c9):=Boxed.cell (t:=98) hv4;have z1:w4.frozen? ⟨w1.heap.size,0,none⟩=false:=(by simp [World.frozen?,hv4]);have H4:=Aside0.mk (And.intro ho4 (And.intro hg4 hv4));clear ho4 hb4 hg4 hat4 hv4)))
   go_roundg (n - (i+1))
   case measure=>exact meas5 hin7 hik
   case rel =>
    have hgs:Gs (fun k=>k=w1.heap.size) w4 (w4.setCell ⟨w1.heap.size,0,none⟩ (.slice A7 (i+1) c7)):=(Gs.refl (fun k=>k=w1.heap.size) w4).set (.inr rfl) 0 _
    have hne:∀ k,(Value.slice A7 (i+1) c7).ownBlock=some k->¬ k=w1.heap.size:=fun k hk e=>by
     subst e
     exact own_ne H4.out.1 (show Boxed w4 w1.heap.size 98 (.slice A9 i c9) from H4.out.2.2) (by decide) hk.symm
    refine ⟨i+1,by simp [GW.out],meas4 hin7,⟨_,set_cells H4.out.2.2 0 _,?_,?_⟩⟩
    ·rw [upto_succ,List.map_append]
     exact own_move H4.out.1 (fun k hk=>hgs.block k (own_lt H4.out.1 k hk) (hne k hk))
    ·refine HV.out.2.2.but ⟨?_,?_,?_,?_,?_⟩
     ·exact (hgs.os).trans H4.out.2.1.os
     ·exact (hgs.tape).trans H4.out.2.1.tape
     ·exact (hgs.output).trans H4.out.2.1.output
     ·exact Nat.le_trans H4.out.2.1.size hgs.size
     ·intro k hk hk2
      have h1:¬ k=w1.heap.size:=fun e=>hk2 (.inr e)
      refine (hgs.block k (Nat.lt_of_lt_of_le hk H4.out.2.1.size) h1).trans (H4.out.2.1.block k hk (fun e=>hk2 (.inl (own_base HV.out.2.1 k e.symm))))
  ·have f1:¬ (i:Int) < (n:Int):=by omega
   have e0:i=n:=by omega
   subst e0
   have hbe:Below w.heap.size w wr:=below_of_gs (below_step H1.out.2.2 H2.out.1) HV.out.2.2 (fun k e=>by have:=H1.out.2.2.size;omega)
   obtain ⟨g9,hg9⟩:∃ g9,A9=some ⟨g9,0,none⟩:=by
    rcases HV.out.2.1.2 with ⟨_,h0⟩|⟨g,cap,cur,he,_⟩
    ·have:=HN0.out;have:=HNn.out;omega
    ·injection he with he1
     exact ⟨g,he1⟩
   subst hg9
   obtain ⟨WF,hWF⟩:∃ q,wr.alloc (.cells #[.func (.func 37) #[] #[.pointer (some ⟨w.heap.size,0,none⟩),.pointer (some ⟨w1.heap.size,0,none⟩)],.func (.func 39) #[] #[.pointer (some ⟨w.heap.size,0,none⟩),.pointer (some ⟨w.heap.size+1,0,none⟩)]] 101)=q:=⟨_,rfl⟩
   have hbF:Below wr.heap.size wr WF:=by rw [<- hWF];exact below_alloc (Below.refl _ _) _
   have hfn:WF.heap[wr.heap.size]?=some (.cells #[.func (.func 37) #[] #[.pointer (some ⟨w.heap.size,0,none⟩),.pointer (some ⟨w1.heap.size,0,none⟩)],.func (.func 39) #[] #[.pointer (some ⟨w.heap.size,0,none⟩),.pointer (some ⟨w.heap.size+1,0,none⟩)]] 101 (0,0)):=by rw [<- hWF];exact heap_alloc_new wr _
   have hbw:=below_step hbe hbF
   have hx:=HH.out.1.below hbw
   have hB2:=fun k (hk:k < w.heap.size+1+1)=>((HV.out.2.2.block k (by have:=H2.out.2;have:=blk_lt H1.out.2.1;omega) (by have:=blk_lt H1.out.2.1;omega)).trans (H2.out.1.block k (by have:=blk_lt H1.out.2.1;omega)))
   have h3:WF.heap[w.heap.size]?=some (.cells #[.pointer (some ⟨a,0,none⟩)] 60 (0,0)):=(hbF.block _ (by have:=hbe.size;have:=HV.out.2.2.size;have:=H2.out.2;have:=blk_lt H1.out.2.1;omega)).trans ((hB2 _ (by omega)).trans H1.out.1)
   have h5:WF.heap[w.heap.size+1]?=some (.cells (geoC K M Z T L O) 23 (0,0)):=(hbF.block _ (by have:=hbe.size;have:=HV.out.2.2.size;have:=H2.out.2;have:=blk_lt H1.out.2.1;omega)).trans ((hB2 _ (by omega)).trans H1.out.2.1)
   have h9:WF.heap[w1.heap.size]?=some (.cells #[.slice (some ⟨g9,0,none⟩) i c9] 98 (0,0)):=(hbF.block _ hlv).trans HV.out.1
   have hrow:WF.ownsRow W2.heap.size 3 1 (.slice (some ⟨g9,0,none⟩) i c9) i ((upto i).map (Value.int .i64)):=own_move HV.out.2.1 (fun k hk=>hbF.block k (own_lt HV.out.2.1 k hk))
   rw [HNn.out] at hx
   have hsecs:(5:Int)<=5+(L:Int)+T:=by omega
   have hR:=call_first_ab (P1:=fun W=>Ax B W a Q (5+(L:Int)+T) i (0+i) (fun _=>false) (fmt1 i) true/\Gs Q WF W) (P2:=fun W=>Ax B W a Q (5+(L:Int)+T) i (0+i+2*i) (fun _=>false) (fmtE i) true/\Gs Q WF W) hfn (fun W hW=>hW.2.block _ (blk_lt hfn) (hx.not_cells hfn (by decide)))
    (fmt37 hx (fun _ _=>rfl) (by omega) (by omega) h3 h9 (fun j hj=>by
     have h1:=hrow.cellAt j (by omega)
     rw [add_plain]
     rw [h1,List.getElem?_map]
     simp [upto,hj]) ⟨own_lt hrow g9 rfl,by
      obtain ⟨cs,h1⟩:=own_typed hrow g9 rfl
      exact hx.not_cells h1 (by decide)⟩)
    (fun W hW=>(fmt39 hW.1 (fun _ _=>rfl) (by omega) (by have:=HN0.out;have:=HNn.out;omega) hsecs HH.out.2.2.good ((hW.2.block _ (blk_lt h3) (hx.not_cells h3 (by decide))).trans h3) ((hW.2.block _ (blk_lt h5) (hx.not_cells h5 (by decide))).trans h5)).mono (by
     rintro e w' ⟨rfl,h1,h2⟩
     exact ⟨rfl,h1,hW.2.trans h2⟩))
   have HR:=Aside0.mk (And.intro hR (And.intro h3 (And.intro h5 (And.intro hbw hx))))
   rw [<- hWF] at HR
   clear hR h3 h5 h9 hrow hx hB2 hbw hbF hbe hWF hfn
   go_wp2_with (first|(go_at_call 41;go_loud (refine (HN.out _).mono ?_;rintro e9 w9 ⟨cc,bb1,bb2,rfl,hcat,hge1,hge2,hge3,hb9⟩;obtain ⟨p0,p1,p2,p3,p4,p5⟩:=geo_cells ((hb9.block _ (blk_lt H8.out.2.2.1)).trans H8.out.2.2.1);have p6:w9.cell? ⟨w.heap.size,0,none⟩=some (.pointer (some ⟨a,0,none⟩)):=(by simp [World.cell?,(hb9.block _ (blk_lt H8.out.2.1)).trans H8.out.2.1]);have H9:=Aside0.mk (And.intro hcat (And.intro hge1 (And.intro hge2 (And.intro hge3 hb9))));clear hcat hge1 hge2 hge3 hb9))|(go_at_call 36;go_loud (refine HR.out.1.mono ?_;rintro e8 w8 ⟨rfl,hx8,hg8⟩;have h38:=(hg8.block _ (blk_lt HR.out.2.1) (HR.out.2.2.2.2.not_cells HR.out.2.1 (by decide))).trans HR.out.2.1;have h58:=(hg8.block _ (blk_lt HR.out.2.2.1) (HR.out.2.2.2.2.not_cells HR.out.2.2.1 (by decide))).trans HR.out.2.2.1;obtain ⟨r0,r1,r2,r3,r4,r5⟩:=geo_cells h58;have H8:=Aside0.mk (And.intro (And.intro hx8 hg8) (And.intro h38 (And.intro h58 trivial)));clear hx8 hg8 h38 h58)))
   go_ret2
   have hBw:=HH.out.1.B_le
   have hbw:=HR.out.2.2.2.1
   have hQF:∀ k,Q k->k < (wr.alloc (.cells #[.func (.func 37) #[] #[.pointer (some ⟨w.heap.size,0,none⟩),.pointer (some ⟨w1.heap.size,0,none⟩)],.func (.func 39) #[] #[.pointer (some ⟨w.heap.size,0,none⟩),.pointer (some ⟨w.heap.size+1,0,none⟩)]] 101)).heap.size:=fun k hk=>(HR.out.2.2.2.2.S_ge hk).2.2
   have hs8:=H8.out.1.2.size
   have hs9:=H9.out.2.2.2.2.size
   have hsw:=hbw.size
   have hg91:=H9.out.2.1
   have hg92:=H9.out.2.2.1
   have hg93:=H9.out.2.2.2.1
   have hf8:=(HH.out.2.1.below hbw)
   obtain ⟨cf,hcf,_⟩:=hf8.cells
   have hf9:=((hf8.keep (H8.out.1.2.block _ hf8.lt (HR.out.2.2.2.2.not_cells hcf (by decide)))).below H9.out.2.2.2.2).below (below_alloc (Below.refl _ _) (Obj.cells (stC cc a f K M Z T L O 0 0 0) 110))
   have hx9:=(H8.out.1.1.below H9.out.2.2.2.2).below (below_alloc (Below.refl _ _) (Obj.cells (stC cc a f K M Z T L O 0 0 0) 110))
   have hc9:=(H9.out.1.below (below_alloc (Below.refl _ _) (Obj.cells (stC cc a f K M Z T L O 0 0 0) 110)))
   rw [<- HNn.out] at hx9
   refine ⟨w9.heap.size,cc,bb1,bb2,rfl,⟨⟨heap_alloc_new w9 _,⟨_,hc9.congr (fun _=>rfl) rfl⟩,?_,hf9,fmt_byte _,⟨?_,?_,?_⟩,?_,?_,?_⟩,WfP.zero _ _ _,(fun o ho=>nomatch ho),⟨rfl,by omega,by omega⟩,⟨fun h=>h,fun _ _=>⟨fun _ _ _=>rfl,fun _=>rfl,fun e=>by cases e⟩⟩⟩,⟨by omega,by omega,by omega,by omega⟩,?_⟩
   ·rw [show 3*(K+M)=0+(K+M)+2*(K+M) by omega]
    exact hx9
   ·intro hq;have:=hQF _ hq;omega
   ·intro hq;have:=hQF _ hq;omega
   ·intro hq;have:=hQF _ hq;omega
   ·omega
   ·omega
   ·omega
   ·exact (((Gs.of_below hbw).trans H8.out.1.2).trans (Gs.of_below H9.out.2.2.2.2)).trans (Gs.of_below (below_alloc (Below.refl _ _) _))
end
set_option maxRecDepth 100000 in
theorem info43:(Tryz.prog.info? 43).map (fun i=>(i.zero,i.size,i.bytes))=some (some (.agg #[.int .i64 0,.slice none 0 0,.int .i64 0,.slice none 0 0,.int .i64 0,.bool false]),6,80):=by kernel_rfl
abbrev An3:=Value×Value×Ans
def anCells (q:An3):List Value:=[.int .i64 q.2.2.err,q.1,.int .i64 q.2.2.len,q.2.1,.int .i64 0,.bool false]
structure Az (B:Nat) (w:World) (base:Nat) (v:Value) (L:List An3):Prop where
 own:w.ownsRow base 43 6 v L.length (L.flatMap anCells)
 row:∀ q ∈ L,Im B w q.1 q.2.2.data/\ImS B w q.2.1 q.2.2.keys
section
variable {B:Nat} {w W:World} {s c b1 b2 a f:Nat} {K M Z T L O:Nat} {Q:Nat->Prop} {Tk:Nat} {dead:Nat->Bool} {E:Nat->Int->List Int} {cl:Bool} {ar ba ct:Nat} {S:List Ob} {p p':Pst}
structure Tb3 (W:World) (g b30 b56 wd:Nat) (v:Value) (op:Array Value):Prop where
 op:W.heap[g]?=some (.cells op 39 (0,0))
 x30:W.heap[b30]?=some (.cells #[v] 30 (0,0))
 x56:W.heap[b56]?=some (.cells #[.pointer (some ⟨wd,0,none⟩)] 56 (0,0))
theorem Tb3.all {W:World} {g b30 b56 wd:Nat} {v:Value} {kd:Int} {k:ByteArray} {A:Option Addr} {n c:Nat} {d1 d2 d3 d4:Int} {u:Value} (h:Tb3 W g b30 b56 wd v (opC kd k A n c d1 d2 d3 d4 u)) :
  W.cell? ⟨g,0,none⟩=some (.int .i64 kd)/\W.cell? ⟨g,1,none⟩=some (.string k)/\W.cell? ⟨g,2,none⟩=some (.slice A n c)/\W.cell? ⟨g,3,none⟩=some (.int .i64 d1)/\W.cell? ⟨g,4,none⟩=some (.int .i64 d2)/\W.cell? ⟨g,5,none⟩=some (.int .i64 d3)/\W.cell? ⟨g,6,none⟩=some (.int .u8 d4)/\W.cell? ⟨g,7,none⟩=some u/\W.cell? ⟨b30,0,none⟩=some v/\W.cell? ⟨b56,0,none⟩=some (.pointer (some ⟨wd,0,none⟩)):=by
 simp [World.cell?,h.op,h.x30,h.x56,opC]
theorem Tb3.gs {W W':World} {g b30 b56 wd:Nat} {v:Value} {op:Array Value} (h:Tb3 W g b30 b56 wd v op) {P:Nat->Prop} (hg:Gs P W W') (h1:¬ P g) (h2:¬ P b30) (h3:¬ P b56):Tb3 W' g b30 b56 wd v op :=
 ⟨(hg.block _ (blk_lt h.op) h1).trans h.op,(hg.block _ (blk_lt h.x30) h2).trans h.x30,(hg.block _ (blk_lt h.x56) h3).trans h.x56⟩
theorem Tb3.below {W W':World} {g b30 b56 wd:Nat} {v:Value} {op:Array Value} (h:Tb3 W g b30 b56 wd v op) (hb:Below W.heap.size W W'):Tb3 W' g b30 b56 wd v op:=h.gs (Gs.of_below (S:=fun _=>False) hb) id id id
theorem Az.gs {base:Nat} {v:Value} {Ls:List An3} (h:Az B w base v Ls) {P:Nat->Prop} (hg:Gs P w W) (hP:∀ k,P k->¬ ∃ cells,w.heap[k]?=some (.cells cells 43 (0,0))) (hf:Fr B w W):Az B W base v Ls :=
 ⟨own_move h.own (fun k hk=>hg.block k (own_lt h.own k hk) (fun e=>hP k e (own_typed h.own k hk))),fun q hq=>⟨(h.row q hq).1.fr hf,(h.row q hq).2.fr hf⟩⟩
def TellG (B:Nat) (I:World->Prop) (w w':World) (b30 base:Nat) (Ls:List An3) (an:Ans):Prop :=
 I w'/\Fr B w w'/\∃ v' q,w'.heap[b30]?=some (.cells #[v'] 30 (0,0))/\q.2.2=an/\Az B w' base v' (Ls ++ [q])
theorem own_ne2 {w:World} {base e size n g t:Nat} {v:Value} {xs:List Value} {cells:Array Value} (h:w.ownsRow base e size v n xs) (hb:w.heap[g]?=some (.cells cells t (0,0))) (ht:t≠e):¬ v.ownBlock=some g:=fun e9=>by
 obtain ⟨cells,h1⟩:=own_typed h g e9
 rw [hb] at h1
 cases h1
 exact ht rfl
theorem le_80 {n:Nat} (h:n<=1000):(n+1)*80<=140737488355328:=by omega
theorem tell6 {W5 W6:World} {g b30 b56 wd base n:Nat} {v x:Value} {op:Array Value} {xs:List Value} (hT:Tb3 W5 g b30 b56 wd v op) (ho:W5.ownsRow base 43 6 x n xs) (hg:W5.grownBy W6 x.ownBlock):Tb3 W6 g b30 b56 wd v op :=
 hT.gs (Gs.of_grown hg (fun k hk _=>hk)) (own_ne2 ho hT.op (by decide)) (own_ne2 ho hT.x30 (by decide)) (own_ne2 ho hT.x56 (by decide))
theorem tell5 {I:World->Prop} {W5:World} (h5:I W5/\Fr B w W5/\Fk w W5) {g b30 b56 wd base:Nat} {v:Value} {op:Array Value} (hT:Tb3 w g b30 b56 wd v op) {Ls:List An3} (hA:Az B w base v Ls) {vd vk:Value} {an:Ans} (hd:Im B W5 vd an.data) (hk:ImS B W5 vk an.keys) :
  Tb3 W5 g b30 b56 wd v op/\Az B W5 base v Ls/\Fr B w W5/\(Im B W5 vd an.data/\ImS B W5 vk an.keys)/\I W5:=by
 obtain ⟨h1,hf,h3⟩:=h5
 refine ⟨⟨hf.cells hT.op (by decide),(h3 _ _ _ hT.x30 (.inr rfl)).trans hT.x30,hf.cells hT.x56 (by decide)⟩,⟨own_move hA.own (fun k hk=>?_),fun q hq=>⟨(hA.row q hq).1.fr hf,(hA.row q hq).2.fr hf⟩⟩,hf,⟨hd,hk⟩,h1⟩
 obtain ⟨cells,h9⟩:=own_typed hA.own k hk
 exact h3 k cells 43 h9 (.inl rfl)
theorem tell_end {I:World->Prop} (hI:Okv B I) {w0 W5 W6:World} {g b30 b56 wd base:Nat} {v v7 vd vk:Value} {op:Array Value} {Ls:List An3} {an:Ans} (hb:Below w.heap.size w w0) (hB:B<=base/\B<=b30)
  (h5:Tb3 W5 g b30 b56 wd v op/\Az B W5 base v Ls/\Fr B w0 W5/\(Im B W5 vd an.data/\ImS B W5 vk an.keys)/\I W5)
  (h6:Tb3 W6 g b30 b56 wd v op/\W6.ownsRow base 43 6 v7 (Ls.length+1) (Ls.flatMap anCells ++ [.int .i64 an.err,vd,.int .i64 an.len,vk,.int .i64 0,.bool false])/\W5.grownBy W6 v.ownBlock) :
  TellG B I w (W6.setCell ⟨b30,0,none⟩ v7) b30 base Ls an:=by
 obtain ⟨t5,az,hf,him,st⟩:=h5
 obtain ⟨t6,ho6,hg6⟩:=h6
 have hset:Gs (fun k=>k=b30) W6 (W6.setCell ⟨b30,0,none⟩ v7):=(Gs.refl (fun k=>k=b30) W6).set (.inr rfl) 0 v7
 have hgs:Gs (fun k=>v.ownBlock=some k∨k=b30) W5 (W6.setCell ⟨b30,0,none⟩ v7):=(Gs.of_grown hg6 (fun k hk _=>.inl hk)).trans (hset.mono (fun k _ e=>.inr e))
 have hP:∀ k,k < W5.heap.size->(v.ownBlock=some k∨k=b30)->B<=k/\∃ cells t,W5.heap[k]?=some (.cells cells t (0,0))/\(t=43∨t=30):=by
  rintro k hk (e|rfl)
  ·obtain ⟨cells,h1⟩:=own_typed az.own k e
   exact ⟨Nat.le_trans hB.1 (own_base az.own k e),cells,43,h1,.inl rfl⟩
  ·exact ⟨hB.2,_,30,t5.x30,.inr rfl⟩
 have hf7:=Gs.far hgs hP
 refine ⟨hI _ _ _ st hgs hP,((Fr.of_below hb).trans hf).trans hf7,v7,(vd,vk,an),set_cells t6.x30 0 v7,rfl,?_,?_⟩
 ·rw [List.length_append,List.length_singleton,List.flatMap_append]
  have e:[((vd,vk,an):An3)].flatMap anCells=[.int .i64 an.err,vd,.int .i64 an.len,vk,.int .i64 0,.bool false]:=by simp [anCells]
  rw [e]
  exact own_move ho6 (fun k hk=>hset.block k (own_lt ho6 k hk) (fun e=>own_ne2 ho6 t6.x30 (by decide) (e ▸ hk)))
 ·intro q hq
  rcases List.mem_append.1 hq with hq|hq
  ·exact ⟨(az.row q hq).1.fr hf7,(az.row q hq).2.fr hf7⟩
  ·obtain rfl:=List.mem_singleton.1 hq
   exact ⟨him.1.fr hf7,him.2.fr hf7⟩
attribute [local go_sem] calloc_old
set_option maxRecDepth 100000 in
set_option maxHeartbeats 4000000 in
theorem tell_gen {I:World->Prop} (hI:Okv B I) {wd b30 b56 base:Nat} (h56:w.heap[b56]?=some (.cells #[.pointer (some ⟨wd,0,none⟩)] 56 (0,0))) {v:Value} (h30:w.heap[b30]?=some (.cells #[v] 30 (0,0))) {Ls:List An3} (hA:Az B w base v Ls) (hLs:Ls.length<=1000) (hbase:B<=base/\base<=w.heap.size/\B<=b30)
  {kd:Int} {k:ByteArray} {A:Option Addr} {n9 c':Nat} {d1 d2 d3 d4:Int} {A':Option Addr} {n' c9:Nat} {an:Ans}
  (hc:∀ W,Below w.heap.size w W->Calls Tryz.prog 22 #[.pointer (some ⟨wd,0,none⟩),.agg (opC kd k A n9 c' d1 d2 d3 d4 (.slice A' n' c9))] W fun e w'=>OpR B I W w' e an) :
  Calls Tryz.prog 21 #[.agg (opC kd k A n9 c' d1 d2 d3 d4 (.slice A' n' c9)),.pointer (some ⟨b30,0,none⟩),.pointer (some ⟨b56,0,none⟩)] w fun e w'=>e=.returned (.tuple #[])/\TellG B I w w' b30 base Ls an:=by
 obtain ⟨A8,c8,rfl,_⟩:=own_slice2 hA.own
 have hb0:Below w.heap.size w (w.alloc (.cells (opC kd k A n9 c' d1 d2 d3 d4 (.slice A' n' c9)) 39)).drew:=below_drew1 (below_alloc (Below.refl _ _) _)
 have H0:=Aside0.mk (show Tb3 (w.alloc (.cells (opC kd k A n9 c' d1 d2 d3 d4 (.slice A' n' c9)) 39)).drew w.heap.size b30 b56 wd (.slice A8 Ls.length c8) (opC kd k A n9 c' d1 d2 d3 d4 (.slice A' n' c9)) from ⟨heap_alloc_new w _,(hb0.block _ (blk_lt h30)).trans h30,(hb0.block _ (blk_lt h56)).trans h56⟩)
 have HC:=Aside0.mk (hc _ hb0)
 have hA0:=hA.gs (Gs.of_below (S:=fun _=>False) hb0) (fun _ hk=>hk.elim) (Fr.of_below (B:=B) hb0)
 have HH:=Aside0.mk (And.intro hI (And.intro hb0 (And.intro hA0 (And.intro hbase hLs))))
 have HBs:=Aside0.mk (show base<=(w.alloc (.cells (opC kd k A n9 c' d1 d2 d3 d4 (.slice A' n' c9)) 39)).drew.heap.size from Nat.le_trans hbase.2.1 hb0.size)
 unfold opC at HC H0 HBs ⊢
 clear hI h56 h30 hA hc hb0 hA0 hbase
 go_enter Tryz.func21,Tryz.ntmps21
 go_wp2
 obtain ⟨x0,x1,x2,x3,x4,x5,x6,x7,x8,x9⟩:=H0.out.all
 go_region_law (first|(go_simp;go_at_call 22;(refine HC.out.mono ?_;rintro e5 w5 ⟨⟨u5,rfl,vd5,vk5,rfl,hd5,hk5⟩,h5⟩;have hd6:=hd5;obtain ⟨A5,c5,e55,_,_⟩:=hd6.slice;have hk6:=hk5;obtain ⟨A6,c6,e66,_,_⟩:=hk6;subst e55 e66;clear hd6;unfold ansC;have H5:=Aside0.mk (tell5 h5 H0.out HH.out.2.2.1 hd5 hk5);obtain ⟨y0,y1,y2,y3,y4,y5,y6,y7,y8,y9⟩:=H5.out.1.all;have hl30:=blk_lt H5.out.1.x30;clear h5 hd5 hk5))|(go_loud (refine step_append_cells (w0:=w5) base (by rfl) (.tmp 4) (.tmp 8) 30 43 (.agg #[.int .i64 0,.slice none 0 0,.int .i64 0,.slice none 0 0,.int .i64 0,.bool false]) 6 80 rfl Tryz.underlying30 info43 rfl (by decide) (by decide) (.slice A8 Ls.length c8) Ls.length (Ls.flatMap anCells) [.int .i64 an.err,.slice A5 an.data.length c5,.int .i64 an.len,.slice A6 an.keys.length c6,.int .i64 0,.bool false] rfl rfl rfl (by simp [Value.oneCell']) H5.out.2.1.own (Below.refl _ _) (Nat.le_trans HBs.out H5.out.2.2.1.size) (le_80 HH.out.2.2.2.2) ?_;intro v6 w6 ho6 hb6 hg6 hat6;obtain ⟨A7,c7,h77,_⟩:=own_slice2 ho6;subst h77;have H6:=Aside0.mk (And.intro (tell6 H5.out.1 H5.out.2.1.own hg6) (And.intro ho6 hg6));obtain ⟨_,_,_,_,_,_,_,_,t8,_⟩:=H6.out.1.all;have t9:w6.frozen? ⟨b30,0,none⟩=false:=(by simp [World.frozen?,H6.out.1.x30]);clear ho6 hb6 hg6 hat6)))
 all_goals exact bodyPost_end (results_none rfl _ _ _) rfl ⟨rfl,tell_end HH.out.1 HH.out.2.1 ⟨HH.out.2.2.2.1.1,HH.out.2.2.2.1.2.2⟩ H5.out H6.out⟩
end
section
variable {B B2:Nat} {w:World} {a mb n T:Nat} {sec:Int} {D:Nat->Dn} {C:Nat->Dc}
theorem Im.raise {v:Value} {l:List Int} (h:Im B w v l) (hB:B<=B2):Im B2 w v l:=Kd.V_mono h (fun k hk=>hk.elim (fun e=>.inl (by omega)) .inr)
theorem Mr.raise {b m:Nat} {f:Int->Option (List Int)} (h:Mr B w b m f) (hB:B<=B2) (hb:B2<=b):Mr B2 w b m f:=by
 obtain ⟨_,q,hq,h2⟩:=h
 refine ⟨hb,q,hq,fun y=>⟨fun v hv=>?_,(h2 y).2⟩⟩
 obtain ⟨h3,x,h4,h5⟩:=(h2 y).1 v hv
 exact ⟨h3,x,h4,h5.raise hB⟩
theorem Mr.low {b m:Nat} (h:Mr B w b m (fun _=>none)) (hB:B2<=B):Mr B2 w b m (fun _=>none):=by
 obtain ⟨h1,q,hq,h2⟩:=h
 refine ⟨Nat.le_trans hB h1,q,hq,fun y=>⟨fun v hv=>?_,(h2 y).2⟩⟩
 obtain ⟨h3,x,h4,h5⟩:=(h2 y).1 v hv
 cases h4
theorem Ar.low (h:Ar B w a mb sec n T D (fun _=>newC)) (hB:B2<=B):Ar B2 w a mb sec n T D (fun _=>newC) :=
 ⟨Nat.le_trans hB h.geA,Nat.le_trans hB h.geM,h.cellA,h.cellM,fun i hi=>by
  obtain ⟨nl,nw,h1,h2⟩:=h.dk i hi
  exact ⟨nl,nw,h1,Nat.le_trans hB h2.geB,h2.cell,Mr.low h2.ml hB,Mr.low h2.mw hB,h2.ne⟩,h.apart⟩
theorem Ax.raise {S:Nat->Prop} {dead:Nat->Bool} {E:Nat->Int->List Int} {cl:Bool} (h:Ax B w a S sec n T dead E cl) (hB:B<=B2) (hge:∀ k,S k->B2<=k):Ax B2 w a S sec n T dead E cl:=by
 obtain ⟨mb,D,C,ha,hS,hC⟩:=h.ex
 refine ⟨⟨mb,D,C,⟨hge _ ((hS a).2 (.inl rfl)),hge _ ((hS mb).2 (.inr (.inl rfl))),ha.cellA,ha.cellM,fun i hi=>?_,ha.apart⟩,hS,hC⟩,h.len,h.sec1,h.sec2,h.n32,h.tM⟩
 obtain ⟨nl,nw,h1,h2⟩:=ha.dk i hi
 have hd:∀ k,(D i).own k->B2<=k:=fun k hk=>hge k ((hS k).2 (.inr (.inr ⟨i,hi,hk⟩)))
 exact ⟨nl,nw,h1,hd _ (.inl rfl),h2.cell,h2.ml.raise hB (hd _ (.inr (.inl rfl))),h2.mw.raise hB (hd _ (.inr (.inr rfl))),h2.ne⟩
end
theorem Ax.new_low (w:World) (B2:Nat) (hB:B2<=w.heap.size) (n:Nat) (hn:n<=32) (hn1:1<=n) (sec:Int) (h0:1<=sec) (h1:sec<=4096) :
  Calls Tryz.prog 18 #[.int .i64 n,.int .i64 sec] w fun e w'=>e=.returned (.tuple #[.pointer (some ⟨w.heap.size,0,none⟩),.int .i64 0])/\(∃ S,Ax B2 w' w.heap.size S sec n 0 (fun _=>false) (fun _ _=>[]) true/\∀ k,S k->w.heap.size<=k)/\Below w.heap.size w w':=by
 refine (anew_ok w n hn hn1 sec h0 h1).mono ?_
 rintro e w' ⟨rfl,mb,D,ha,hb⟩
 have hax:Ax w.heap.size w' w.heap.size (fun k=>k=w.heap.size∨k=mb∨Ds n D k) sec n 0 (fun _=>false) (fun _ _=>[]) true:=⟨⟨mb,D,_,ha,fun k=>Iff.rfl,fun i hi=>⟨rfl,fun y=>rfl,fun _ y=>rfl⟩⟩,fun i _ y=>by simp,h0,h1,hn,by omega⟩
 exact ⟨rfl,⟨_,⟨⟨mb,D,_,ha.low hB,fun k=>Iff.rfl,fun i hi=>⟨rfl,fun y=>rfl,fun _ y=>rfl⟩⟩,fun i _ y=>by simp,h0,h1,hn,by omega⟩,fun k hk=>(hax.S_ge hk).1⟩,hb⟩
theorem St.raise {B B2:Nat} {w:World} {s c b1 b2 a f:Nat} {K M Z T L O:Nat} {Q:Nat->Prop} {Tk:Nat} {E:Nat->Int->List Int} {ar ba ct:Nat} {p:Pst} (h:St B w s c b1 b2 a f K M Z T L O Q Tk E ar ba ct p) (hB:B<=B2) (hge:∀ k,Q k->B2<=k) (h2:B2<=s/\B2<=b1/\B2<=b2):St B2 w s c b1 b2 a f K M Z T L O Q Tk E ar ba ct p :=
 ⟨⟨h.sb.box,h.sb.cat,h.sb.ax.raise hB hge,h.sb.fd,h.sb.eb,h.sb.nq,h2⟩,h.wf,h.str,h.ep,h.lg⟩
end Go.Proofs.YtmmcbncpnlknbaaGreat.Top
