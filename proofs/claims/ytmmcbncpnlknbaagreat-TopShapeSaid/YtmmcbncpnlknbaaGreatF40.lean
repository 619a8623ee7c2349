import Derived.Test.YtmmcbncpnlknbaaGreatF39
set_option linter.unusedVariables false
set_option linter.unusedSimpArgs false
namespace Go.Proofs.YtmmcbncpnlknbaaGreat.Top
open Go Go.RowKit Go.Proofs.YtmmcbncpnlknbaaGreatW.PrintWords Go.Proofs.YtmmcbncpnlknbaaGreatW.PrintLast Go.Proofs.YtmmcbncpnlknbaaGreatW.PrintMore
set_option maxRecDepth 100000
def keyA:ByteArray:=⟨#[97]⟩
def obA:Ob:=⟨keyA,1,1,[0]⟩
structure Hd (n:Nat) (dead:Nat->Bool) (E:Nat->Int->List Int):Prop where
 lv:∃ i,i < n/\dead i=false
 gone:∀ i,i < n->dead i=true->∀ y,E i y=[]
 e0:∀ i,i < n->dead i=false->E i 0=SecA.sect 0 0 [76]
 e1:∀ i,i < n->dead i=false->E i 1=SecA.sect 1 0 [0,0]
 e2:∀ i,i < n->dead i=false->E i 2=SecA.sect 2 0 []
 e3:∀ i,i < n->dead i=false->E i 3=[]
 e4:∀ i,i < n->dead i=false->E i 4=[]
 e5:∀ i,i < n->dead i=false->E i 5=SecA.sect 5 1 recA
theorem may_of {ad ep:Int} {l:List Int} (h1:0<=ad/\ad<=100) (h2:0<=ep/\ep<=100) (hl:l.length<=100):SecA.May ad ep l:=⟨⟨h1.1,by omega⟩,⟨h2.1,by omega⟩,by omega⟩
section
variable {B:Nat} {w W:World} {a f:Nat} {K M Z T O:Nat} {Q:Nat->Prop} {Tk:Nat} {dead:Nat->Bool} {E:Nat->Int->List Int} {n:Nat} {sec:Int} {cl:Bool}
theorem area_at (h:Ax B w a Q sec n Tk dead E cl) (he:EByte E) (hh:Hd n dead E) (hs:6<=sec) {K M Z T O:Int} (hg:LayA.Good K M Z T 1 O) {vk:Value} (hk:Bo w vk ((List.range n).map fun i=>!dead i)) (i:Nat) (hi:i < 2) :
  Calls Tryz.prog 137 #[.pointer (some ⟨a,0,none⟩),geoV K M Z T 1 O,vk,.int .i64 i] w fun e w'=>e=.returned (.tuple #[.agg #[.int .i64 i,.int .i64 0,.slice none 0 0],.bool (decide (i=0)),.bool true,.int .i64 0])/\Below w.heap.size w w':=by
 rcases i with _|_|i
 ·refine marea_ok hg 0 (by omega) (.inl ⟨rfl,rfl,rfl⟩) (lvN dead n) (fun j hj W hb=>?_)
  rcases j with _|_|j
  ·exact vote_has (h.below hb) he hh.lv (ad:=1) (ep:=0) (by omega) (may_of (by omega) (by omega) (by decide)) (dB (by decide)) hh.e1 (hk.below hb)
  ·exact vote_has (h.below hb) he hh.lv (ad:=2) (ep:=0) (by omega) (may_of (by omega) (by omega) (by decide)) (dB (by decide)) hh.e2 (hk.below hb)
  ·omega
 ·refine marea_ok hg 1 (by omega) (.inr ⟨rfl,rfl,rfl⟩) 0 (fun j hj W hb=>?_)
  rcases j with _|_|j
  ·exact vote_none (h.below hb) he hh.lv (ad:=3) (by omega) (by omega) hh.e3 (hk.below hb)
  ·exact vote_none (h.below hb) he hh.lv (ad:=4) (by omega) (by omega) hh.e4 (hk.below hb)
  ·omega
 ·omega
def RcvP (B:Nat) (w w':World) (e:Ending) (a f:Nat) (K M Z T O:Nat) (Q:Nat->Prop) (Tk:Nat) (dead:Nat->Bool) (E:Nat->Int->List Int):Prop :=
 ∃ s c b1 b2,e=.returned (.tuple #[.pointer (some ⟨s,0,none⟩),.int .i64 0])/\Sb B w' s c b1 b2 a f K M Z T 1 O Q Tk dead E true 0 0 1 [obA]/\(w.heap.size<=s/\w.heap.size<=c/\w.heap.size<=b1/\w.heap.size<=b2)/\Gs Q w w'
attribute [local go_sem] calloc_old
set_option maxHeartbeats 4000000 in
theorem recover_ok (hx:Ax B w a Q (5+((1:Nat):Int)+T) (K+M) Tk dead E true) (hf:Fd w f) (hg:LayA.Good K M Z T 1 O) (he:EByte E) (hh:Hd (K+M) dead E) :
  Calls Tryz.prog 69 #[.pointer (some ⟨a,0,none⟩),.pointer (some ⟨f,0,none⟩),geoV K M Z T 1 O] w fun e w'=>RcvP B w w' e a f K M Z T O Q Tk dead E:=by
 have hg':=hg
 unfold LayA.Good at hg'
 have hT1:1<=T:=by omega
 have hs6:(6:Int)<=5+((1:Nat):Int)+T:=by omega
 have hbx0:=below_alloc (Below.refl w.heap.size w) (.cells (geoC K M Z T 1 O) 23)
 have H0:=Aside0.mk (show Gb w (w.alloc (.cells (geoC K M Z T 1 O) 23)) w.heap.size K M Z T 1 O from ⟨heap_alloc_new w _,hbx0⟩)
 have HC:=Aside0.mk (ccheck2_ok (K:=K) (M:=M) (Z:=Z) (T:=T) (L:=1) (O:=O) (hx.below hbx0) f hg)
 have HK:=Aside0.mk (fun (W:World) (hb:Below w.heap.size w W)=>knows_ok (hx.below hb) (by omega) hh.e0)
 have HL:=Aside0.mk (fun (W:World) (vk:Value) (hb:Below w.heap.size w W) (hk:Bo W vk ((List.range (K+M)).map fun i=>!dead i))=>latest_ok (w:=W) (a:=a) (vk:=vk) hg (fun i hi W2 hb2=>area_at (hx.below (below_step hb hb2)) he hh hs6 hg (hk.below hb2) i hi))
 have HR:=Aside0.mk (fun (W:World) (vk:Value) (hb:Below w.heap.size w W) (hk:Bo W vk ((List.range (K+M)).map fun i=>!dead i))=>replay_ok (w:=W) (a:=a) (vk:=vk) hg (lvN dead (K+M)) (fun W2 hb2=>vote_has (hx.below (below_step hb hb2)) he hh.lv (ad:=5) (ep:=1) (by omega) (may_of (by omega) (by omega) (by decide)) (dB (by decide)) hh.e5 (hk.below hb2)))
 have HN:=Aside0.mk (fun W=>cnew_ok hg none 0 W)
 have HH:=Aside0.mk (And.intro hx (And.intro hf (And.intro hg (And.intro he (And.intro hh (And.intro hT1 hs6))))))
 unfold geoC at H0
 unfold geoV at HC HL HR HN ⊢
 clear hx hf hg hg' he hh hT1 hs6 hbx0
 obtain ⟨s0,s1,s2,s3,s4,s5,_⟩:=H0.out.all
 go_enter Tryz.func69,Tryz.ntmps69
 go_upto_region 7 with (first|(go_at_call 104;go_loud (refine (HK.out _ H1.out.2).mono ?_;rintro e2 w2 ⟨v2,rfl,hv2,hb2⟩;have hv2':=hv2;obtain ⟨A2,c2,h22,_,_⟩:=hv2';subst h22;simp only [List.length_map,List.length_range] at hv2;have H2:=Aside0.mk (And.intro (H1.out.step hb2) hv2);obtain ⟨g0,g1,g2,g3,g4,g5,_⟩:=H2.out.1.all;clear hb2 hv2))|(go_at_call 35;go_loud (refine HC.out.mono ?_;rintro e1 w1 ⟨rfl,hb1⟩;have H1:=Aside0.mk (H0.out.step hb1);clear hb1)))
 go_upto_region 10 with (first|(go_at_call 105;go_loud (refine (HL.out _ _ H2.out.1.2 H2.out.2).mono ?_;rintro e3 w3 ⟨rfl,hb3⟩;have H3:=Aside0.mk hb3;clear hb3)))
 obtain ⟨W3,hW3⟩:∃ q,w3.alloc (.cells #[.int .i64 0,.int .i64 0,.slice none 0 0] 105)=q:=⟨_,rfl⟩
 have hb3:Below w3.heap.size w3 W3:=by rw [<- hW3];exact below_alloc (Below.refl _ _) _
 have hx3:W3.heap[w3.heap.size]?=some (.cells #[.int .i64 0,.int .i64 0,.slice none 0 0] 105 (0,0)):=by rw [<- hW3];exact heap_alloc_new w3 _
 rw [hW3]
 have hb23:=below_step H3.out hb3
 have H4:=Aside0.mk (And.intro (H2.out.1.step hb23) (And.intro (H2.out.2.below hb23) hx3))
 generalize w3.heap.size=b11 at *
 clear hW3 hb3 hx3 hb23 s0 s1 s2 s3 s4 s5 g0 g1 g2 g3 g4 g5
 obtain ⟨s0,s1,s2,s3,s4,s5,_⟩:=H4.out.1.all
 obtain ⟨z0,z1,z2,_⟩:=bx105 H4.out.2.2
 go_upto_region 13 with (first|(go_at_call 106;go_loud (refine (HR.out _ _ H4.out.1.2 H4.out.2.1).mono ?_;rintro e4 w4 ⟨v4,rfl,hv4,hb4⟩;obtain ⟨A0,c0,ho4,hk4⟩:=hv4;obtain ⟨A4,c4,h44,_⟩:=own_slice2 ho4;subst h44;have H5:=Aside0.mk (And.intro (H4.out.1.step hb4) (And.intro ((hb4.block _ (blk_lt H4.out.2.2)).trans H4.out.2.2) (And.intro (H4.out.2.1.below hb4) (And.intro ho4 (And.intro hk4 (below_step H4.out.1.2 hb4))))));clear hb4 ho4 hk4)))
 clear s0 s1 s2 s3 s4 s5 z0 z1 z2
 obtain ⟨s0,s1,s2,s3,s4,s5,_⟩:=H5.out.1.all
 obtain ⟨z0,z1,z2,_⟩:=bx105 H5.out.2.1
 go_upto_region 16 with (first|(go_at_call 41;go_loud (refine (HN.out _).mono ?_;rintro e5 w5 ⟨cc,bb1,bb2,rfl,hcat,hge1,hge2,hge3,hb5⟩;have H6:=Aside0.mk (And.intro hcat (And.intro hge1 (And.intro hge2 (And.intro hge3 hb5))));clear hcat hge1 hge2 hge3 hb5)))
 clear s0 s1 s2 s3 s4 s5 z0 z1 z2
 obtain ⟨g7,rfl⟩:∃ g7,A4=some ⟨g7,0,none⟩:=by
  rcases H5.out.2.2.2.1.2 with ⟨_,h0⟩|⟨g,cap,cur,he,_⟩
  ·simp at h0
  ·injection he with he1
   exact ⟨g,he1⟩
 go_wp2
 go_loopg [66] 1 (fun kq x66 wr=>∃ i:Nat,x66=.int .i64 i/\i+kq=1/\Aside0 ((i=0/\wr=w5)∨(i=1/\Below w4.heap.size w4 wr/\Gs (fun j=>j=bb1∨j=bb2) w5 wr/\∃ ad',Cat wr cc K M Z T ((1:Nat):Int) O bb1 bb2 [obA] ad' (ownM [obA]) (cntM [obA]))))
 case atStart=>exact ⟨0,rfl,rfl,⟨.inl ⟨rfl,rfl⟩⟩⟩
 case round =>
  obtain ⟨i,rfl,hik,HX⟩:=hrel
  have hcases:(i=0/\gk=1)∨(i=1/\gk=0):=by omega
  clear hik
  rcases hcases with ⟨rfl,hgk⟩|⟨rfl,hgk⟩
  ·obtain ⟨_,rfl⟩:True/\wr=w5:=by
    rcases HX.out with ⟨_,h⟩|⟨h,_⟩
    ·exact ⟨trivial,h⟩
    ·omega
   have HGK:=Aside0.mk hgk
   have hr:∀ j u,([.int .i64 1,.string ⟨#[97]⟩,.int .i64 1,.slice A0 1 c0]:List Value)[j]?=some u->wr.cell? ⟨g7,j,none⟩=some u:=fun j u hj=>by
    have h1:=H5.out.2.2.2.1.cellAt j (by have:=(List.getElem?_eq_some_iff.1 hj).1;simpa using this)
    rw [hj] at h1
    exact (H6.out.2.2.2.2.cell (p:=⟨g7,j,none⟩) (World.block_lt_of_cell? _ _ h1)).trans h1
   have r0:=hr 0 _ rfl
   have r1:=hr 1 _ rfl
   have r2:=hr 2 _ rfl
   have r3:=hr 3 _ rfl
   have hx11:=(H6.out.2.2.2.2.block _ (blk_lt H5.out.2.1)).trans H5.out.2.1
   obtain ⟨z0,z1,z2,_⟩:=bx105 hx11
   have HX11:=Aside0.mk hx11
   clear hgk hr hx11
   go_upto_region 19 with fail
   clear r0 r1 r2 r3 z0 z1 z2
   obtain ⟨W7,hW7⟩:∃ q,wr.alloc (.cells #[.int .i64 1,.string ⟨#[97]⟩,.int .i64 1,.slice A0 1 c0] 160)=q:=⟨_,rfl⟩
   have hb7:Below wr.heap.size wr W7:=by rw [<- hW7];exact below_alloc (Below.refl _ _) _
   have hx7:W7.heap[wr.heap.size]?=some (.cells #[.int .i64 1,.string ⟨#[97]⟩,.int .i64 1,.slice A0 1 c0] 160 (0,0)):=by rw [<- hW7];exact heap_alloc_new wr _
   rw [hW7]
   obtain ⟨x0,x1,x2,x3⟩:=bx160 hx7
   obtain ⟨z0,z1,z2,_⟩:=bx105 ((hb7.block _ (blk_lt HX11.out)).trans HX11.out)
   have hRt:Rt W7 A0 [0]:=own3_C (Kd.own_of_R (Kd.R_below H5.out.2.2.2.2.1 (below_step H6.out.2.2.2.2 hb7)))
   have hc0:1<=c0:=(Kd.R_reads' H5.out.2.2.2.2.1).2.1
   have HAp:=Aside0.mk (show Calls Tryz.prog 107 #[.pointer (some ⟨cc,0,none⟩),.agg #[.int .i64 1,.string ⟨#[97]⟩,.int .i64 1,.slice A0 1 c0],.int .i64 1] W7 fun e w'=>e=.returned (.int .i64 0)/\(∃ ad',Cat w' cc K M Z T ((1:Nat):Int) O bb1 bb2 [obA] ad' (ownM [obA]) (cntM [obA]))/\Gs (fun j=>j=bb1∨j=bb2) W7 w' from by
    have hOk:RecA.Ok 1 obA.f0 obA.f1 obA.f3:=by decide
    have hgd:=HH.out.2.2.1
    refine (capply_put (H6.out.1.below hb7) hgd obA hRt hc0 hOk ⟨by decide,by decide⟩ (len:=1) rfl (by simp [obA,needN]) (fun x hx=>⟨rfl,?_⟩) (by decide) ?_ (by simp [strOf,findS]) (fun x hx=>by simp [strOf,findS] at hx) (by simp [strOf,findS]) (by simp) (by omega)).mono ?_
    ·have h1:=HH.out.2.2.2.2.2.1
     simp [obA] at hx
     omega
    ·unfold LayA.Good at hgd
     simp [findS]
     omega
    ·rintro e w' ⟨rfl,⟨ad',hc⟩,hG⟩
     refine ⟨rfl,⟨ad',hc.congr (fun x=>?_) ?_⟩,hG⟩
     ·simp [orL,offL,strOf,findS,ownM,obA]
     ·simp [strOf,findS,cntM,obA])
   have H7:=Aside0.mk hb7
   clear hRt hc0 hW7 hb7 hx7
   go_wp2_with (first|(go_at_call 107;go_loud (refine HAp.out.mono ?_;rintro e8 w8 ⟨rfl,hc8,hg8⟩;have H8:=Aside0.mk (And.intro hc8 hg8);clear hc8 hg8)))
   go_roundg 0
   case measure=>have:=HGK.out;omega
   case rel =>
    refine ⟨1,rfl,rfl,⟨.inr ⟨rfl,below_of_gs (below_step H6.out.2.2.2.2 H7.out) H8.out.2 (fun k hk=>?_),(Gs.of_below H7.out).trans H8.out.2,H8.out.1⟩⟩⟩
    have:=H6.out.2.2.1
    have:=H6.out.2.2.2.1
    rcases hk with rfl|rfl <;> omega
  ·obtain ⟨_,hbw,hgw,ad',hcat⟩:True/\Below w4.heap.size w4 wr/\Gs (fun j=>j=bb1∨j=bb2) w5 wr/\∃ ad',Cat wr cc K M Z T ((1:Nat):Int) O bb1 bb2 [obA] ad' (ownM [obA]) (cntM [obA]):=by
    rcases HX.out with ⟨h,_⟩|⟨_,h⟩
    ·omega
    ·exact ⟨trivial,h⟩
   have hgeo:=(hbw.block _ (blk_lt H5.out.1.1)).trans H5.out.1.1
   have hx11:=(hbw.block _ (blk_lt H5.out.2.1)).trans H5.out.2.1
   obtain ⟨s0,s1,s2,s3,s4,s5⟩:=geo_cells hgeo
   obtain ⟨z0,z1,z2,_⟩:=bx105 hx11
   have hx:=HH.out.1
   have hb5:=below_step H5.out.2.2.2.2.2 H6.out.2.2.2.2
   have hsz:=H5.out.2.2.2.2.2.size
   have hge:=H6.out.2
   have hQa:Q a:=by
    obtain ⟨mb,D,C,ha,hS,hC⟩:=hx.ex
    exact (hS a).2 (.inl rfl)
   have hBa:=hx.S_ge hQa
   have hQ:∀ k,Q k->k < w.heap.size:=fun k hk=>(hx.S_ge hk).2.2
   have hfr:Fr B w5 wr:=hgw.fr (fun k hk e=>by
    obtain ⟨es1,cl1,m1⟩:=H6.out.1.objs.mapb
    obtain ⟨es2,cl2,m2⟩:=H6.out.1.own.mapb
    rcases e with rfl|rfl
    ·exact ⟨by omega,map_nfz m1⟩
    ·exact ⟨by omega,map_nfz m2⟩)
   have hxr:=(hx.below hb5).keep hfr (fun k hk=>hgw.block k (Nat.lt_of_lt_of_le (hQ k hk) hb5.size) (fun e=>by have:=hQ k hk;rcases e with rfl|rfl <;> omega))
   have hbr:Below w.heap.size w wr:=below_step H5.out.2.2.2.2.2 hbw
   have hb8:=below_alloc (Below.refl wr.heap.size wr) (.cells (stC cc a f K M Z T ((1:Nat):Int) O ((0:Nat):Int) ((0:Nat):Int) ((1:Nat):Int)) 110)
   have hrs:=hbr.size
   have hSb:Sb B (wr.alloc (.cells (stC cc a f K M Z T ((1:Nat):Int) O ((0:Nat):Int) ((0:Nat):Int) ((1:Nat):Int)) 110)) wr.heap.size cc bb1 bb2 a f K M Z T 1 O Q Tk dead E true 0 0 1 [obA] :=
    ⟨heap_alloc_new wr _,⟨ad',hcat.below hb8⟩,hxr.below hb8,((HH.out.2.1.below hb5).fr hfr).below hb8,HH.out.2.2.2.1,⟨fun h=>by have:=hQ _ h;omega,fun h=>by have:=hQ _ h;omega,fun h=>by have:=hQ _ h;omega⟩,by omega,by omega,by omega⟩
   obtain ⟨W8,hW8⟩:∃ q,wr.alloc (.cells (stC cc a f K M Z T ((1:Nat):Int) O ((0:Nat):Int) ((0:Nat):Int) ((1:Nat):Int)) 110)=q:=⟨_,rfl⟩
   rw [hW8] at hSb hb8
   have hM:=cmend_ok (w:=W8) (s:=wr.heap.size) (c:=cc) (a:=a) (f:=f) (vk:=.slice A2 (K+M) c2) HH.out.2.2.1 hSb.box (fun x hx2 W hb=>by
     have hxW:=hSb.ax.below hb
     have h6:=HH.out.2.2.2.2.2.2
     rcases hx2 with rfl|rfl|rfl
     ·exact mend_has hxW HH.out.2.2.2.1 HH.out.2.2.2.2.1.lv (ad:=1) (ep:=0) (by omega) (may_of (by omega) (by omega) (by decide)) (dB (by decide)) HH.out.2.2.2.2.1.e1 _
     ·exact mend_has hxW HH.out.2.2.2.1 HH.out.2.2.2.2.1.lv (ad:=2) (ep:=0) (by omega) (may_of (by omega) (by omega) (by decide)) (dB (by decide)) HH.out.2.2.2.2.1.e2 _
     ·exact mend_has hxW HH.out.2.2.2.1 HH.out.2.2.2.2.1.lv (ad:=5) (ep:=1) (by omega) (may_of (by omega) (by omega) (by decide)) (dB (by decide)) HH.out.2.2.2.2.1.e5 _)
    (fun W w'=>Ax B w' a Q (5+((1:Nat):Int)+T) (K+M) Tk dead E true/\Gs Q W w') (fun W hb=>((hSb.ax.below hb).flush HH.out.2.2.2.2.1.gone).mono (by
     rintro e w' ⟨rfl,h1,h2⟩
     exact ⟨rfl,by simpa using h1,h2⟩))
   have HM:=Aside0.mk hM
   have HE:=Aside0.mk (And.intro hSb (And.intro (below_step hbr hb8) (And.intro hrs (And.intro hsz hge))))
   clear hbw hgw hcat hgeo hx11 hx hb5 hsz hge hQa hBa hQ hfr hxr hbr hb8 hrs hSb hM hgk
   have hW9:wr.alloc (.cells #[.pointer (some ⟨cc,0,none⟩),.pointer (some ⟨a,0,none⟩),.pointer (some ⟨f,0,none⟩),.int .i64 K,.int .i64 M,.int .i64 Z,.int .i64 T,.int .i64 1,.int .i64 O,.int .i64 0,.int .i64 0,.int .i64 1,.bool false] 110)=W8:=hW8
   go_upto_region 23 with fail
   try rw [hW9]
   clear s0 s1 s2 s3 s4 s5 z0 z1 z2 hW8 hW9
   go_wp2_with (first|(go_at_call 108;go_loud (refine HM.out.mono ?_;rintro e8 w8 ⟨rfl,W9,hb9,hx9,hg9⟩;have H8:=Aside0.mk (And.intro hb9 (And.intro hx9 hg9));clear hb9 hx9 hg9)))
   go_ret2
   refine ⟨wr.heap.size,cc,bb1,bb2,rfl,(HE.out.1.below H8.out.1).disk H8.out.2.2 H8.out.2.1 HH.out.2.2.2.1,?_,(Gs.of_below (below_step HE.out.2.1 H8.out.1)).trans H8.out.2.2⟩
   obtain ⟨_,_,h3,h4,h5,h6,h7,_⟩:=HE.out
   exact ⟨h3,by omega,by omega,by omega⟩
end
section
variable {W:World} {wd a f:Nat} {sv ps:Value} {why K M Z T L O:Int}
abbrev Wd (W:World) (wd:Nat) (sv:Value) (why:Int) (a f:Nat) (K M Z T L O:Int) (ps:Value):Prop:=W.heap[wd]?=some (.cells (wdC sv why a f K M Z T L O ps) 63 (0,0))
theorem wd_all (h:Wd W wd sv why a f K M Z T L O ps):W.cell? ⟨wd,2,none⟩=some (.pointer (some ⟨a,0,none⟩))/\W.cell? ⟨wd,3,none⟩=some (.pointer (some ⟨f,0,none⟩))/\W.cell? ⟨wd,4,none⟩=some (.int .i64 K)/\W.cell? ⟨wd,5,none⟩=some (.int .i64 M)/\W.cell? ⟨wd,6,none⟩=some (.int .i64 Z)/\W.cell? ⟨wd,7,none⟩=some (.int .i64 T)/\W.cell? ⟨wd,8,none⟩=some (.int .i64 L)/\W.cell? ⟨wd,9,none⟩=some (.int .i64 O):=by
 simp [World.cell?,show W.heap[wd]?=_ from h,wdC]
theorem wd_old (h:Wd W wd sv why a f K M Z T L O ps):W.cell? ⟨wd,0,none⟩=some sv/\W.cell? ⟨wd,1,none⟩=some (.int .i64 why)/\W.cell? ⟨wd,10,none⟩=some ps/\W.frozen? ⟨wd,0,none⟩=false/\W.frozen? ⟨wd,1,none⟩=false/\W.frozen? ⟨wd,10,none⟩=false:=by
 simp [World.cell?,World.frozen?,show W.heap[wd]?=_ from h,wdC]
theorem wd_set0 (h:Wd W wd sv why a f K M Z T L O ps) (v:Value):Wd (W.setCell ⟨wd,0,none⟩ v) wd v why a f K M Z T L O ps:=set_cells h 0 v
theorem wd_set1 (h:Wd W wd sv why a f K M Z T L O ps) (x:Int):Wd (W.setCell ⟨wd,1,none⟩ (.int .i64 x)) wd sv x a f K M Z T L O ps:=set_cells h 1 _
theorem wd_set10 (h:Wd W wd sv why a f K M Z T L O ps) (v:Value):Wd (W.setCell ⟨wd,10,none⟩ v) wd sv why a f K M Z T L O v:=set_cells h 10 _
theorem wd_below {W':World} (h:Wd W wd sv why a f K M Z T L O ps) (hb:Below W.heap.size W W'):Wd W' wd sv why a f K M Z T L O ps:=(hb.block _ (blk_lt h)).trans h
theorem wd_gs {W':World} {Q:Nat->Prop} (h:Wd W wd sv why a f K M Z T L O ps) (hb:Gs Q W W') (hq:¬ Q wd):Wd W' wd sv why a f K M Z T L O ps:=(hb.block _ (blk_lt h) hq).trans h
end
section
variable {B:Nat} {w:World} {a f wd:Nat} {K M Z T O:Nat} {Q:Nat->Prop} {Tk:Nat} {dead:Nat->Bool} {E:Nat->Int->List Int} {sv ps:Value} {why:Int}
set_option maxHeartbeats 4000000 in
theorem wrecover_ok (hw:Wd w wd sv why a f K M Z T ((1:Nat):Int) O ps) (hB:B<=wd) (hx:Ax B w a Q (5+((1:Nat):Int)+T) (K+M) Tk dead E true) (hf:Fd w f) (hg:LayA.Good K M Z T 1 O) (he:EByte E) (hh:Hd (K+M) dead E) :
  Calls Tryz.prog 44 #[.pointer (some ⟨wd,0,none⟩),.slice none 0 0] w fun e w'=>e=.returned (.int .i64 0)/\∃ s c b1 b2,Sb B w' s c b1 b2 a f K M Z T 1 O Q Tk dead E true 0 0 1 [obA]/\Wd w' wd (.pointer (some ⟨s,0,none⟩)) 0 a f K M Z T ((1:Nat):Int) O (.pointer none)/\(w.heap.size<=s/\w.heap.size<=c/\w.heap.size<=b1/\w.heap.size<=b2)/\Gs (fun k=>Q k∨k=wd) w w':=by
 have hnq:¬ Q wd:=hx.not_cells hw (by decide)
 have HR:=Aside0.mk hx.restart
 have H0:=Aside0.mk hw
 obtain ⟨x2,_⟩:=wd_all hw
 have HH:=Aside0.mk (And.intro hnq (And.intro hB (And.intro hx (And.intro hf (And.intro hg (And.intro he hh))))))
 clear hnq hw hB hx hf hg he hh
 go_enter Tryz.func44,Tryz.ntmps44
 go_upto_region 2 with (first|(go_at_call 68;go_loud (refine HR.out.mono ?_;rintro e1 w1 ⟨rfl,hx1,hg1⟩;have H1:=Aside0.mk (And.intro hx1 hg1);clear hx1 hg1)))
 have hw1:=wd_gs H0.out H1.out.2 HH.out.1
 obtain ⟨cf,hcf,_⟩:=HH.out.2.2.2.1.cells
 have hf1:Fd w1 f:=HH.out.2.2.2.1.keep (H1.out.2.block _ HH.out.2.2.2.1.lt (HH.out.2.2.1.not_cells hcf (by decide)))
 have hd:=below_drew1 (Below.refl w1.heap.size w1)
 have HC:=Aside0.mk (recover_ok (H1.out.1.below hd) (hf1.below hd) HH.out.2.2.2.2.1 HH.out.2.2.2.2.2.1 HH.out.2.2.2.2.2.2)
 have H2:=Aside0.mk (wd_below hw1 hd)
 unfold geoV at HC
 clear hw1 hf1 hcf hd x2
 go_region_held3 (fun W=>W.cell? ⟨wd,2,none⟩=some (.pointer (some ⟨a,0,none⟩))/\W.cell? ⟨wd,3,none⟩=some (.pointer (some ⟨f,0,none⟩))/\W.cell? ⟨wd,4,none⟩=some (.int .i64 K)/\W.cell? ⟨wd,5,none⟩=some (.int .i64 M)/\W.cell? ⟨wd,6,none⟩=some (.int .i64 Z)/\W.cell? ⟨wd,7,none⟩=some (.int .i64 T)/\W.cell? ⟨wd,8,none⟩=some (.int .i64 1)/\W.cell? ⟨wd,9,none⟩=some (.int .i64 O)) (first|with_reducible exact wd_all H2.out|with_reducible exact wd_all H3.out|with_reducible exact wd_all (wd_set0 H3.out _)|with_reducible exact wd_all (wd_set1 H3.out _)|with_reducible exact wd_all (wd_set1 (wd_set0 H3.out _) _)|with_reducible exact wd_all (wd_set0 (wd_set1 H3.out _) _)) (first|(go_at_call 69;go_loud (refine HC.out.mono ?_;rintro e3 w3 ⟨s,c3,b1,b2,rfl,st3,ge3,gs3⟩;have h3:=wd_gs H2.out gs3 HH.out.1;obtain ⟨t0,t1,_,t3,t4,_⟩:=wd_old h3;have H3:=Aside0.mk h3;have H4:=Aside0.mk (And.intro st3 (And.intro ge3 gs3));clear st3 ge3 gs3 h3)))
 have h5:=wd_set1 (wd_set0 H3.out (.pointer (some ⟨s,0,none⟩))) 0
 obtain ⟨W5,hW5⟩:∃ q,(w3.setCell ⟨wd,0,none⟩ (.pointer (some ⟨s,0,none⟩))).setCell ⟨wd,1,none⟩ (.int .i64 0)=q:=⟨_,rfl⟩
 have hg5:Gs (fun k=>k=wd) w3 W5:=by rw [<- hW5];exact ((Gs.refl (fun k=>k=wd) w3).set (.inr rfl) 0 _).set (.inr rfl) 1 _
 rw [hW5] at h5 ⊢
 clear hW5 t0 t1 t3 t4
 obtain ⟨t0,t1,t2,t3,t4,t5⟩:=wd_old h5
 have h6:=wd_set10 h5 (.pointer none)
 have hg6:Gs (fun k=>k=wd) w3 (W5.setCell ⟨wd,10,none⟩ (.pointer none)):=hg5.set (.inr rfl) 10 _
 obtain ⟨W6,hW6⟩:∃ q,W5.setCell ⟨wd,10,none⟩ (.pointer none)=q:=⟨_,rfl⟩
 rw [hW6] at h6 hg6
 obtain ⟨t0',t1',_⟩:=wd_old h6
 have H6:=Aside0.mk (And.intro h6 hg6)
 clear h5 hg5 h6 hg6
 go_wp2
 go_ret
 have hs:=Gs.of_below (S:=fun k=>Q k∨k=wd) (below_drew1 (Below.refl w1.heap.size w1))
 have h1s:=H1.out.2.size
 have ge:=H4.out.2.1
 refine ⟨rfl,s,c3,b1,b2,H4.out.1.fr63 H6.out.2 (fun k hk e=>by subst e;exact ⟨HH.out.2.1,_,H3.out⟩),H6.out.1,⟨Nat.le_trans h1s ge.1,Nat.le_trans h1s ge.2.1,Nat.le_trans h1s ge.2.2.1,Nat.le_trans h1s ge.2.2.2⟩,((H1.out.2.mono (fun k _ e=>.inl e)).trans hs).trans ((H4.out.2.2.mono (fun k _ e=>.inl e)).trans (H6.out.2.mono (fun k _ e=>.inr e)))⟩
end
section
variable {B:Nat} {w:World} {I:World->Prop} {wd:Nat} {k:ByteArray} {A:Option Addr} {n9 c':Nat} {d1 d2 d3 d4:Int} {A':Option Addr} {n' c9:Nat}
def SysR (B:Nat) (I:World->Prop) (W w':World) (e:Ending):Prop:=e=.returned (.int .i64 0)/\I w'/\Fr B W w'/\Fk W w'
set_option maxHeartbeats 4000000 in
theorem do_rec (hI:Okv B I) (hB:B<=w.heap.size) (hc:∀ W,Below w.heap.size w W->Calls Tryz.prog 44 #[.pointer (some ⟨wd,0,none⟩),.slice none 0 0] W fun e w'=>SysR B I W w' e) :
  Calls Tryz.prog 22 #[.pointer (some ⟨wd,0,none⟩),.agg (opC 8 k A n9 c' d1 d2 d3 d4 (.slice none 0 0))] w fun e w'=>OpR B I w w' e ⟨0,[],0,[]⟩:=by
 have hb0:Below w.heap.size w ((w.alloc (.cells (opC 8 k A n9 c' d1 d2 d3 d4 (.slice none 0 0)) 39)).alloc (.cells ans0 43)):=below_alloc (below_alloc (Below.refl _ _) _) _
 have han:((w.alloc (.cells (opC 8 k A n9 c' d1 d2 d3 d4 (.slice none 0 0)) 39)).alloc (.cells ans0 43)).heap[w.heap.size+1]?=some (.cells ans0 43 (0,0)):=two1 w _ _
 have hop:((w.alloc (.cells (opC 8 k A n9 c' d1 d2 d3 d4 (.slice none 0 0)) 39)).alloc (.cells ans0 43)).heap[w.heap.size]?=some (.cells (opC 8 k A n9 c' d1 d2 d3 d4 (.slice none 0 0)) 39 (0,0)):=two0 w _ _
 have HC:=Aside0.mk (hc _ hb0)
 have HH:=Aside0.mk (And.intro hI (And.intro hb0 (And.intro hB (And.intro hop han))))
 unfold opC ans0 ansC at HC HH
 unfold opC
 clear hI hB hc hb0 han hop
 go_enter Tryz.func22,Tryz.ntmps22
 go_upto_region 20 with (first|(go_at_call 44;go_loud (refine HC.out.mono ?_;rintro e5 w5 ⟨rfl,h5⟩;have hb5:=((h5.2.2 _ _ _ HH.out.2.2.2.2 (.inl rfl)).trans HH.out.2.2.2.2);have H5:=Aside0.mk (And.intro hb5 h5);obtain ⟨⟨z0,z1,z2,z3,z4,z5⟩,y0,y1,y2,y3,y4,y5⟩:=bx43 hb5;clear h5 hb5)))
 have hb6:=set_same (i:=0) (v:=.int .i64 0) H5.out.1 rfl
 obtain ⟨W6,hW6⟩:∃ q,w5.setCell ⟨w.heap.size+1,0,none⟩ (.int .i64 0)=q:=⟨_,rfl⟩
 rw [hW6] at hb6 ⊢
 have hx6:=(hb6.block _ (blk_lt H5.out.1)).trans H5.out.1
 have HX6:=Aside0.mk (And.intro hx6 hb6)
 clear hW6 hb6 z0 z1 z2 z3 z4 z5 y0 y1 y2 y3 y4 y5
 obtain ⟨⟨z0,z1,z2,z3,z4,z5⟩,y0,y1,y2,y3,y4,y5⟩:=bx43 hx6
 clear hx6
 go_wp2
 refine bodyPost_ret (results_43 rfl _ _ (w.heap.size+1) (ansC 0 (.slice none 0 0) 0 (.slice none 0 0)) rfl (bx_set6 HX6.out.1 _ _ _ _ _ _) (by kernel_rfl)) rfl ?_
 have hg7:=(Gs.of_below (S:=fun k=>k=w.heap.size+1) HX6.out.2).trans (gs_set6 (.int .i64 0) (.slice none 0 0) (.int .i64 0) (.slice none 0 0) (.int .i64 0) (.bool false))
 exact ⟨⟨_,rfl,_,_,rfl,Im.nil _ _,ImS.nil _ _⟩,(op_end HH.out.1 H5.out.2 HH.out.2.1 HH.out.2.2.1 hg7 H5.out.1).1⟩
set_option maxHeartbeats 4000000 in
theorem do_fail (hI:Okv B I) (hB:B<=w.heap.size) {a:Nat} (hwd:w.cell? ⟨wd,2,none⟩=some (.pointer (some ⟨a,0,none⟩))) (hc:∀ W,Below w.heap.size w W->Calls Tryz.prog 45 #[.pointer (some ⟨a,0,none⟩),.int .i64 d1] W fun e w'=>SysR B I W w' e) :
  Calls Tryz.prog 22 #[.pointer (some ⟨wd,0,none⟩),.agg (opC 9 k A n9 c' d1 d2 d3 d4 (.slice A' n' c9))] w fun e w'=>OpR B I w w' e ⟨0,[],0,[]⟩:=by
 have hb0:Below w.heap.size w ((w.alloc (.cells (opC 9 k A n9 c' d1 d2 d3 d4 (.slice A' n' c9)) 39)).alloc (.cells ans0 43)).drew:=below_drew1 (below_alloc (below_alloc (Below.refl _ _) _) _)
 have han:((w.alloc (.cells (opC 9 k A n9 c' d1 d2 d3 d4 (.slice A' n' c9)) 39)).alloc (.cells ans0 43)).drew.heap[w.heap.size+1]?=some (.cells ans0 43 (0,0)):=two1 w _ _
 have hop:((w.alloc (.cells (opC 9 k A n9 c' d1 d2 d3 d4 (.slice A' n' c9)) 39)).alloc (.cells ans0 43)).drew.heap[w.heap.size]?=some (.cells (opC 9 k A n9 c' d1 d2 d3 d4 (.slice A' n' c9)) 39 (0,0)):=two0 w _ _
 have hlt:=World.block_lt_of_cell? _ _ hwd
 have x0:=(hb0.cell (p:=⟨wd,2,none⟩) hlt).trans hwd
 have x1:((w.alloc (.cells (opC 9 k A n9 c' d1 d2 d3 d4 (.slice A' n' c9)) 39)).alloc (.cells ans0 43)).drew.cell? ⟨w.heap.size,3,none⟩=some (.int .i64 d1):=by unfold World.cell?;rw [hop];rfl
 have HC:=Aside0.mk (hc _ hb0)
 have HH:=Aside0.mk (And.intro hI (And.intro hb0 (And.intro hB (And.intro hop han))))
 unfold opC ans0 ansC at HC HH x0 x1
 unfold opC
 clear hI hB hc hb0 han hop hwd
 go_enter Tryz.func22,Tryz.ntmps22
 go_wp2
 go_region_law (first|(go_simp;go_at_call 45;(refine HC.out.mono ?_;rintro e5 w5 ⟨rfl,h5⟩;have hb5:=((h5.2.2 _ _ _ HH.out.2.2.2.2 (.inl rfl)).trans HH.out.2.2.2.2);have H5:=Aside0.mk (And.intro hb5 h5);obtain ⟨⟨z0,z1,z2,z3,z4,z5⟩,y0,y1,y2,y3,y4,y5⟩:=bx43 hb5;clear h5 hb5)))
 all_goals
  have hb6:=set_same (i:=0) (v:=.int .i64 0) H5.out.1 rfl
  obtain ⟨W6,hW6⟩:∃ q,w5.setCell ⟨w.heap.size+1,0,none⟩ (.int .i64 0)=q:=⟨_,rfl⟩
  rw [hW6] at hb6 ⊢
  have hx6:=(hb6.block _ (blk_lt H5.out.1)).trans H5.out.1
  have HX6:=Aside0.mk (And.intro hx6 hb6)
  clear hW6 hb6 z0 z1 z2 z3 z4 z5 y0 y1 y2 y3 y4 y5
  obtain ⟨⟨z0,z1,z2,z3,z4,z5⟩,y0,y1,y2,y3,y4,y5⟩:=bx43 hx6
  clear hx6
  go_wp2
  refine bodyPost_ret (results_43 rfl _ _ (w.heap.size+1) (ansC 0 (.slice none 0 0) 0 (.slice none 0 0)) rfl (bx_set6 HX6.out.1 _ _ _ _ _ _) (by kernel_rfl)) rfl ?_
  have hg7:=(Gs.of_below (S:=fun k=>k=w.heap.size+1) HX6.out.2).trans (gs_set6 (.int .i64 0) (.slice none 0 0) (.int .i64 0) (.slice none 0 0) (.int .i64 0) (.bool false))
  exact ⟨⟨_,rfl,_,_,rfl,Im.nil _ _,ImS.nil _ _⟩,(op_end HH.out.1 H5.out.2 HH.out.2.1 HH.out.2.2.1 hg7 H5.out.1).1⟩
end
section
variable {B:Nat} {w W:World} {s c a f:Nat} {K M Z T L O:Nat}
set_option maxHeartbeats 2000000 in
theorem get_err {ar ba ct:Nat} (hbx:w.heap[s]?=some (.cells (stC c a f K M Z T L O ar ba ct) 110 (0,0))) {k:ByteArray} (hk:okK k=true) {o:Ob}
  (hG:Calls Tryz.prog 97 #[.pointer (some ⟨c,0,none⟩),.string k] w fun e w'=>∃ A cc,e=.returned (.tuple #[.agg #[.string o.f0,.int .i64 o.f1,.int .i64 o.f2,.slice A o.f3.length cc],.int .i64 0])/\(o.f3.length<=cc/\Rt w' A o.f3)/\Below w.heap.size w w')
  (h1:0 < o.f3.length) (hR:∀ W,Below w.heap.size w W->Calls Tryz.prog 98 #[.pointer (some ⟨a,0,none⟩),.pointer (some ⟨f,0,none⟩),geoV K M Z T L O,.int .i64 (o.f3.getD 0 0),.int .i64 o.f2] W fun e w'=>e=.returned (.tuple #[.slice none 0 0,.slice none 0 0,.int .i64 150])/\Below W.heap.size W w') :
  Calls Tryz.prog 63 #[.pointer (some ⟨s,0,none⟩),.string k] w fun e w'=>e=.returned (.tuple #[.slice none 0 0,.int .i64 150])/\Below w.heap.size w w':=by
 have HF:=Aside0.mk (fault_ok2 hbx k)
 rw [hk] at HF
 simp only [if_true] at HF
 have k0:=(st_cells hbx).1
 have HH:=Aside0.mk (And.intro hbx (And.intro hG (And.intro h1 hR)))
 obtain ⟨f0,f1,f2,f3⟩:=o
 simp only at HH h1
 have g1:(0:Int) < (f3.length:Int):=by omega
 clear hbx hG h1 hR hk
 unfold geoV at HH
 go_enter Tryz.func63,Tryz.ntmps63
 go_wp2_with (first|(go_at_call 97;go_loud (refine HH.out.2.1.mono ?_;rintro e2 w2 ⟨A2,c2,rfl,hR2,hb2⟩;have H2:=Aside0.mk (And.intro hR2 hb2);clear hR2 hb2))|(go_at_call 89;go_loud (refine HF.out.mono ?_;rintro e1 w1 ⟨rfl,e9⟩;obtain rfl:=e9.symm)))
 obtain ⟨W1,hW1⟩:∃ q,w2.alloc (.cells (obC f0 f1 f2 A2 f3.length c2) 139)=q:=⟨_,rfl⟩
 have hbW:Below w2.heap.size w2 W1:=by rw [<- hW1];exact below_alloc (Below.refl _ _) _
 have hg1:W1.heap[w2.heap.size]?=some (.cells (obC f0 f1 f2 A2 f3.length c2) 139 (0,0)):=by rw [<- hW1];exact heap_alloc_new w2 _
 have H3:=Aside0.mk (And.intro hg1 (And.intro (below_step H2.out.2 hbW) (H2.out.1.2.gs (Gs.of_below (S:=fun _=>False) hbW) (fun _ hk=>hk.elim))))
 clear hg1 hbW
 unfold obC at hW1
 rw [hW1]
 clear hW1
 go_loopg [36] 1 (fun kq x36 wr=>x36=.int .i64 0/\W1=wr)
 case atStart=>exact ⟨rfl,rfl⟩
 case round =>
  obtain ⟨rfl,rfl⟩:=hrel
  have g2:(0:Int)<=0:=by omega
  obtain ⟨ad,rfl,hx⟩:=plan_cell H3.out.2.2.1 HH.out.2.2.1
  have hx0:W1.cell? ad=some (.int .i64 (f3.getD 0 0)):=hx
  have hbs:=(H3.out.2.1.block _ (blk_lt HH.out.1)).trans HH.out.1
  have H4:=Aside0.mk (st_ten (W:=W1.drew) hbs H3.out.1)
  have HC:=Aside0.mk (HH.out.2.2.2 W1.drew (below_drew1 H3.out.2.1))
  generalize f3.getD 0 0=x at hx hx0 HC
  clear hx
  go_wp2
  go_region_held3 (fun W=>W.cell? ⟨s,1,none⟩=some (.pointer (some ⟨a,0,none⟩))/\W.cell? ⟨s,2,none⟩=some (.pointer (some ⟨f,0,none⟩))/\W.cell? ⟨s,3,none⟩=some (.int .i64 K)/\W.cell? ⟨s,4,none⟩=some (.int .i64 M)/\W.cell? ⟨s,5,none⟩=some (.int .i64 Z)/\W.cell? ⟨s,6,none⟩=some (.int .i64 T)/\W.cell? ⟨s,7,none⟩=some (.int .i64 L)/\W.cell? ⟨s,8,none⟩=some (.int .i64 O)/\W.cell? ⟨w2.heap.size,2,none⟩=some (.int .i64 f2)) (first|with_reducible exact H4.out|with_reducible exact H5.out.2) (first|(go_at_call 98;go_loud (refine HC.out.mono ?_;rintro e5 w5 ⟨rfl,hb5⟩;have H5:=Aside0.mk (And.intro (And.intro hbs hb5) (st_ten ((hb5.block _ (blk_lt hbs)).trans hbs) ((hb5.block _ (blk_lt H3.out.1)).trans H3.out.1)));clear hb5)))
  have hb5:=(H5.out.1.2.block _ (blk_lt H5.out.1.1)).trans H5.out.1.1
  have HE:=Aside0.mk (end_st hb5 150 (by decide))
  have HB5:=Aside0.mk hb5
  clear hb5
  go_wp2_with (first|(go_at_call 93;go_loud (refine HE.out.mono ?_;rintro e6 w6 ⟨rfl,hx6,hg6⟩;have H6:=Aside0.mk (And.intro hx6 hg6);clear hx6 hg6)))
  go_ret2
  have h56:Below w5.heap.size w5 w6:=⟨H6.out.2.os,H6.out.2.tape,H6.out.2.output,H6.out.2.size,fun k hk=>by
   by_cases e:k=s
   ·subst e
    rw [H6.out.1,HB5.out]
   ·exact H6.out.2.block k hk e⟩
  exact ⟨rfl,below_step (below_step (below_step H3.out.2.1 (below_drew1 (Below.refl _ _))) H5.out.1.2) h56⟩
end
theorem good1:LayA.Good 1 1 1 2 1 2:=by unfold LayA.Good;omega
theorem geo1:Geo 1 1 1 2 1 2:=⟨good1,by omega,by omega⟩
def dead1:Nat->Bool:=fun j=>if j=0 then true else false
def dead2:Nat->Bool:=fun j=>if j=1 then true else dead1 j
theorem dk0:dkN 1 1 0 0=0:=by decide
theorem dk1:dkN 1 1 0 1=1:=by decide
section
variable {B:Nat} {w:World} {s c b1 b2 a f:Nat} {Q:Nat->Prop} {Tk:Nat} {dead:Nat->Bool} {E:Nat->Int->List Int} {cl:Bool}
theorem catA (h:Sb B w s c b1 b2 a f 1 1 1 2 1 2 Q Tk dead E cl 0 0 1 [obA]) :
  Calls Tryz.prog 97 #[.pointer (some ⟨c,0,none⟩),.string keyA] w fun e w'=>∃ A cc,e=.returned (.tuple #[.agg #[.string obA.f0,.int .i64 obA.f1,.int .i64 obA.f2,.slice A obA.f3.length cc],.int .i64 0])/\(obA.f3.length<=cc/\Rt w' A obA.f3)/\Below w.heap.size w w':=by
 obtain ⟨ad,hc⟩:=h.cat
 refine (cget_ok hc keyA (by decide) (fun o ho=>by simp at ho;subst ho;decide)).mono ?_
 rintro e w' ⟨⟨o,A,cc,h1,rfl,h2⟩|⟨h1,_⟩,hb⟩
 ·have e1:obA=o:=Option.some.inj h1
  subst e1
  exact ⟨A,cc,rfl,⟨(Kd.R_reads' h2).2.1,own3_C (Kd.own_of_R h2)⟩,hb⟩
 ·cases h1
theorem readA1 (hx:Ax B w a Q 8 2 Tk dead1 E cl) (hf:Fd w f) (h6:E 1 6=SecA.sect 6 1 [7]) :
  Calls Tryz.prog 98 #[.pointer (some ⟨a,0,none⟩),.pointer (some ⟨f,0,none⟩),geoV 1 1 1 2 1 2,.int .i64 0,.int .i64 1] w fun e w'=>∃ v,e=.returned (.tuple #[v,.slice none 0 0,.int .i64 0])/\Bs w' v [7]/\Below w.heap.size w w':=by
 have h:=sread_core (K:=1) (M:=1) (Z:=1) (T:=2) (L:=1) (O:=2) (st:=0) (ep:=1) (f:=f) hx good1 (by omega) (by omega) (by omega) (by omega) (fun _=>[7])
  (fun i hi hd=>by
   rcases i with _|_|i
   ·rw [dk0] at hd;cases hd
   ·rw [dk1];exact h6
   ·omega) (fun _=>dB (by decide)) (fun _ _=>rfl) (by omega) 0 [[7],[7]] rfl (fun l hl=>dB (by simp at hl;subst hl;decide)) (fun l hl=>by simp at hl;subst hl;rfl)
  (fun W vh vs hW h1 h2=>by
   have hr:=shards_ok (f:=f) (k:=1) (m:=1) (N:=2) (L:=1) (hf.below hW) (has:=[false,true]) (shs:=[[],[7]]) h1 h2 ⟨rfl,rfl,rfl,by omega⟩ (by omega) (by omega) (fun i hi=>by
    rcases i with _|_|i
    ·cases hi
    ·rfl
    ·simp [rb] at hi) (by decide) _ (rightA [])
   refine hr.mono ?_
   rintro e w' ⟨g,cc,rfl,hrs,hbb⟩
   exact ⟨_,rfl,fun _=>⟨g,cc,rfl,by obtain ⟨A,c',he',hc',_⟩:=hrs;injection he' with _ _ q3;subst q3;exact hc',hrs⟩,hbb⟩)
 refine Calls.mono h ?_
 rintro e w' ⟨⟨_,v,rfl,hv⟩|⟨h,_⟩,hbb⟩
 ·exact ⟨v,rfl,hv,hbb⟩
 ·exact absurd rfl h
theorem readA2 (hx:Ax B w a Q 8 2 Tk dead2 E cl) (hf:Fd w f) :
  Calls Tryz.prog 98 #[.pointer (some ⟨a,0,none⟩),.pointer (some ⟨f,0,none⟩),geoV 1 1 1 2 1 2,.int .i64 0,.int .i64 1] w fun e w'=>e=.returned (.tuple #[.slice none 0 0,.slice none 0 0,.int .i64 150])/\Below w.heap.size w w':=by
 have h:=sread_core (K:=1) (M:=1) (Z:=1) (T:=2) (L:=1) (O:=2) (st:=0) (ep:=1) (f:=f) hx good1 (by omega) (by omega) (by omega) (by omega) (fun _=>[7])
  (fun i hi hd=>by
   rcases i with _|_|i
   ·rw [dk0] at hd;cases hd
   ·rw [dk1] at hd;cases hd
   ·omega) (fun _=>dB (by decide)) (fun _ _=>rfl) (by omega) 60 [[7],[7]] rfl (fun l hl=>dB (by simp at hl;subst hl;decide)) (fun l hl=>by simp at hl;subst hl;rfl)
  (fun W vh vs hW h1 h2=>by
   have hr:=shards_none (f:=f) (k:=1) (m:=1) (N:=2) (hf.below hW) (has:=[false,false]) (shs:=[[],[]]) h1 h2 ⟨rfl,rfl,rfl,by omega⟩ (by omega) (fun i=>by
    rcases i with _|_|i
    ·rfl
    ·rfl
    ·simp [rb])
   refine hr.mono ?_
   rintro e w' ⟨rfl,hbb⟩
   exact ⟨_,rfl,fun h=>(by cases h),hbb⟩)
 refine Calls.mono h ?_
 rintro e w' ⟨⟨h,_⟩|⟨_,rfl⟩,hbb⟩
 ·cases h
 ·exact ⟨rfl,hbb⟩
theorem getA1 (h:Sb B w s c b1 b2 a f 1 1 1 2 1 2 Q Tk dead1 E cl 0 0 1 [obA]) (h6:E 1 6=SecA.sect 6 1 [7]) :
  Calls Tryz.prog 63 #[.pointer (some ⟨s,0,none⟩),.string keyA] w fun e w'=>∃ v,e=.returned (.tuple #[v,.int .i64 0])/\Im B w' v [7]/\Below w.heap.size w w' :=
 get_core (o:=obA) h.box (by decide) (catA h) (P:=1) (len:=1) ⟨by omega,by omega⟩ rfl (by decide) (fun _=>[7]) (fun _=>rfl) (fun i=>List.replicate i 7) ⟨rfl,fun i=>by rw [List.replicate_succ']⟩ (by decide)
  (fun i hi W hb=>by
   rcases i with _|i
   ·exact readA1 (h.ax.below hb) (h.fd.below hb) h6
   ·simp [obA] at hi) B
theorem getA2 (h:Sb B w s c b1 b2 a f 1 1 1 2 1 2 Q Tk dead2 E cl 0 0 1 [obA]) :
  Calls Tryz.prog 63 #[.pointer (some ⟨s,0,none⟩),.string keyA] w fun e w'=>∃ v,e=.returned (.tuple #[v,.int .i64 150])/\Im B w' v []/\Below w.heap.size w w' :=
 (get_err (o:=obA) (ar:=0) (ba:=0) (ct:=1) h.box (by decide) (catA h) (by decide) (fun W hb=>readA2 (h.ax.below hb) (h.fd.below hb))).mono (by
  rintro e w' ⟨rfl,hb⟩
  exact ⟨_,rfl,Im.nil _ _,hb⟩)
end
end Go.Proofs.YtmmcbncpnlknbaaGreat.Top
