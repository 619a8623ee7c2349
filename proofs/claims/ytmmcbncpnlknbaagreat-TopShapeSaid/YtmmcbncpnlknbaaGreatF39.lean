import Derived.Test.YtmmcbncpnlknbaaGreatF38
set_option linter.unusedVariables false
set_option linter.unusedSimpArgs false
namespace Go.Proofs.YtmmcbncpnlknbaaGreat.Top
open Go Go.RowKit Go.Proofs.YtmmcbncpnlknbaaGreatW.PrintWords Go.Proofs.YtmmcbncpnlknbaaGreatW.PrintLast Go.Proofs.YtmmcbncpnlknbaaGreatW.PrintMore
set_option maxRecDepth 100000
def VtP (w w':World) (e:Ending) (has:Bool) (ep:Int) (d:List Int) (cnt:Nat) (wit:Bool):Prop :=
 ∃ vd,e=.returned (.tuple #[.agg #[.bool has,.int .i64 ep,vd,.int .i64 cnt,.bool wit],.int .i64 0])/\Bs w' vd d/\Below w.heap.size w w'
theorem Sv.set {w W:World} {K M Z T L O ar ep:Int} {A:Option Addr} {n c:Nat} (h:Sv w W K M Z T L O ar ep A n c) (i:Nat) (v:Value) {ar' ep':Int} {A':Option Addr} {n' c':Nat} (he:(savC ar ep A n c).setIfInBounds i v=savC ar' ep' A' n' c') :
  Sv w (W.setCell ⟨w.heap.size+1,i,none⟩ v) K M Z T L O ar' ep' A' n' c':=by
 have hs:Gs (fun k=>k=w.heap.size+1) W (W.setCell ⟨w.heap.size+1,i,none⟩ v):=(Gs.refl (fun k=>k=w.heap.size+1) W).set (.inr rfl) i v
 exact ⟨(hs.block _ (blk_lt h.geo) (by omega)).trans h.geo,by rw [<- he];exact set_cells h.sav i v,below_of_gs h.bl hs (fun k e=>by omega)⟩
theorem set_same {W:World} {b i t:Nat} {cs:Array Value} {v:Value} (h:W.heap[b]?=some (.cells cs t (0,0))) (hv:cs[i]?=some v):Below W.heap.size W (W.setCell ⟨b,i,none⟩ v):=by
 have hs:Gs (fun k=>k=b) W (W.setCell ⟨b,i,none⟩ v):=(Gs.refl (fun k=>k=b) W).set (.inr rfl) i v
 have e:cs.setIfInBounds i v=cs:=by
  obtain ⟨h1,h2⟩:=Array.getElem?_eq_some_iff.1 hv
  apply Array.ext
  ·simp
  ·intro j h3 h4
   rw [Array.getElem_setIfInBounds]
   split
   ·rename_i e
    subst e
    exact h2.symm
   ·rfl
 refine ⟨hs.os,hs.tape,hs.output,hs.size,fun k hk=>?_⟩
 by_cases hkb:k=b
 ·subst hkb
  rw [set_cells h,e,h]
 ·exact hs.block k hk hkb
def ArI (w W:World) (d0:List Int) (i:Nat) (x:Value):Prop :=
 (i=0/\x=.slice none 0 0)∨(i=1/\∃ (w2:World) (v0:Value),W.ownsRow w2.heap.size 36 1 x 1 [v0]/\Bs w2 v0 d0/\Below w2.heap.size w2 W/\w.heap.size+2<=w2.heap.size)∨(i=2/\∃ ga c,x=.slice (some ⟨ga,0,none⟩) 2 c/\Rs W x [d0,[]])
theorem Sv.low {w W W':World} {K M Z T L O ar ep:Int} {A:Option Addr} {n c B:Nat} (h:Sv w W K M Z T L O ar ep A n c) (hb:Below B W W') (hB:w.heap.size+2<=B):Sv w W' K M Z T L O ar ep A n c :=
 ⟨(hb.block _ (by omega)).trans h.geo,(hb.block _ (by omega)).trans h.sav,⟨hb.os.trans h.bl.os,hb.tape.trans h.bl.tape,hb.output.trans h.bl.output,Nat.le_trans h.bl.size hb.size,fun k hk=>(hb.block k (by omega)).trans (h.bl.block k hk)⟩⟩
theorem results_105 {fn:Func} {p u v x:Tmp} (h:fn.results=#[.cell p 105,.tmp u,.tmp v,.tmp x]) (tmps:Array Value) (w:World) (g:Nat) (cs:Array Value)
  (hp:tmps.getD p undef=.pointer (some ⟨g,0,none⟩)) (hg:w.heap[g]?=some (.cells cs 105 (0,0))) (hi:(Tryz.prog.info? 105).map (·.size)=some cs.size) :
  (results fn tmps).run Tryz.prog w=.ok (.tuple #[.agg cs,tmps.getD u undef,tmps.getD v undef,tmps.getD x undef]) w:=by
 have hp':tmps[p]?.getD undef=.pointer (some ⟨g,0,none⟩):=by simpa using hp
 simp [results,h,hp',asAddr,run_loadVar_row w g 105 105 cs (0,0) _ hg Tryz.underlying105 rfl hi]
attribute [local go_sem] calloc_old
set_option maxHeartbeats 4000000 in
theorem marea_ok {w:World} {a:Nat} {vk:Value} {K M Z T L O:Int} (hg:LayA.Good K M Z T L O) (which:Nat) (hw:which < 2) {has:Bool} {d0:List Int} {r:Int} (hd:(d0=[0,0]/\r=0/\has=true)∨(d0=[]/\r=160/\has=false)) (cnt:Nat)
  (hV:∀ j:Nat,j < 2->∀ W,Below w.heap.size w W->Calls Tryz.prog 138 #[.pointer (some ⟨a,0,none⟩),vk,.int .i64 (1+which*2+j)] W fun e w'=>VtP W w' e has 0 (if j=0 then d0 else []) cnt true) :
  Calls Tryz.prog 137 #[.pointer (some ⟨a,0,none⟩),geoV K M Z T L O,vk,.int .i64 which] w fun e w'=>e=.returned (.tuple #[.agg #[.int .i64 which,.int .i64 0,.slice none 0 0],.bool has,.bool true,.int .i64 0])/\Below w.heap.size w w':=by
 have H0:=Aside0.mk (Sv.new (w:=w) (K:=K) (M:=M) (Z:=Z) (T:=T) (L:=L) (O:=O) (ar:=which) (ep:=0) (A:=none) (n:=0) (c:=0))
 have HA:=Aside0.mk (fun (j:Nat) (hj:j < 2) W=>area_ok (i:=which) (j:=j) hg ⟨by omega,by omega⟩ ⟨by omega,by omega⟩ W)
 have HH:=Aside0.mk (And.intro hV (And.intro hd hw))
 unfold geoV at HA ⊢
 unfold geoC savC at H0
 clear hg hV hd hw
 go_enter Tryz.func137,Tryz.ntmps137
 go_wp2
 obtain ⟨W0,hW0⟩:∃ q,(w.alloc (.cells #[.int .i64 K,.int .i64 M,.int .i64 Z,.int .i64 T,.int .i64 L,.int .i64 O] 23)).alloc (.cells #[.int .i64 which,.int .i64 0,.slice none 0 0] 105)=q:=⟨_,rfl⟩
 rw [hW0] at H0 ⊢
 clear hW0
 go_loopg [9,10,12,20] 2 (fun kq x9 x10 x12 x20 wr=>∃ i:Nat,x9=.bool (decide (i=0) || has)/\x10=.bool true/\x20=.int .i64 i/\i+kq=2/\Aside0 (Sv w wr K M Z T L O which 0 none 0 0/\ArI w wr d0 i x12))
 case atStart=>exact ⟨0,rfl,rfl,rfl,rfl,⟨H0.out,.inl ⟨rfl,rfl⟩⟩⟩
 case round =>
  obtain ⟨i,rfl,rfl,rfl,hik,HX⟩:=hrel
  have hcases:(i=0/\gk=2)∨(i=1/\gk=1)∨(i=2/\gk=0):=by omega
  clear hik
  obtain ⟨s0,s1,s2,s3,s4,s5,s6,s7,s8⟩:=HX.out.1.all
  rcases hcases with ⟨rfl,hgk⟩|⟨rfl,hgk⟩|⟨rfl,hgk⟩
  ·obtain ⟨_,rfl⟩:True/\u12=.slice none 0 0:=by
    rcases HX.out.2 with ⟨_,h⟩|⟨h,_⟩|⟨h,_⟩
    ·exact ⟨trivial,h⟩
    ·omega
    ·omega
   have HGK:=Aside0.mk hgk
   clear hgk
   go_upto_region 7 with (first|(go_at_call 138;go_loud (refine (HH.out.1 0 (by omega) _ H1.out.bl).mono ?_;rintro e2 w2 ⟨vd,rfl,hvd,hb2⟩;obtain ⟨Ad,cd,rfl,hcd,hCd⟩:=hvd;have H2:=Aside0.mk (And.intro (H1.out.step hb2) (And.intro hcd hCd));clear hcd hCd hb2))|(go_at_call 59;go_loud (refine (HA.out 0 (by omega) _).mono ?_;rintro e1 w1 ⟨rfl,hb1⟩;have H1:=Aside0.mk (HX.out.1.step hb1);clear hb1)))
   obtain ⟨W3,hW3⟩:∃ q,w2.alloc (.cells #[.bool has,.int .i64 0,.slice Ad d0.length cd,.int .i64 cnt,.bool true] 231)=q:=⟨_,rfl⟩
   have hb3:Below w2.heap.size w2 W3:=by rw [<- hW3];exact below_alloc (Below.refl _ _) _
   have hx3:W3.heap[w2.heap.size]?=some (.cells #[.bool has,.int .i64 0,.slice Ad d0.length cd,.int .i64 cnt,.bool true] 231 (0,0)):=by rw [<- hW3];exact heap_alloc_new w2 _
   rw [hW3]
   have hs3:=H2.out.1.step hb3
   obtain ⟨y0,y1,y2,y3,y4⟩:=bx231 hx3
   obtain ⟨t0,t1,t2,t3,t4,t5,t6,t7,t8⟩:=hs3.all
   have z1:W3.frozen? ⟨w.heap.size+1,1,none⟩=false:=by simp [World.frozen?,hs3.sav]
   have hb4:=set_same (i:=1) (v:=.int .i64 0) hs3.sav rfl
   have H3:=Aside0.mk (And.intro hx3 (And.intro hs3 (And.intro hb3 hb4)))
   clear hW3 hb3 hx3 hs3 hb4 s0 s1 s2 s3 s4 s5 s6 s7 s8
   go_upto_region 11 with fail
   obtain ⟨W4,hW4⟩:∃ q,W3.setCell ⟨w.heap.size+1,1,none⟩ (.int .i64 0)=q:=⟨_,rfl⟩
   have hb4:=H3.out.2.2.2
   rw [hW4] at hb4 ⊢
   have hs4:=H3.out.2.1.step hb4
   clear y0 y1 y2 y3 y4 t0 t1 t2 t3 t4 t5 t6 t7 t8 z1 hW4
   obtain ⟨y0,y1,y2,y3,y4⟩:=bx231 ((hb4.block _ (blk_lt H3.out.1)).trans H3.out.1)
   obtain ⟨t0,t1,t2,t3,t4,t5,t6,t7,t8⟩:=hs4.all
   have H4:=Aside0.mk (And.intro hs4 (below_step H3.out.2.2.1 hb4))
   clear hs4 hb4
   cases has
   all_goals
    go_wp2_with (first|((with_reducible refine gate_builtin (b:=.append) (xs:=#[.tmp 59,.tmp 62]) rfl ?_);at_builtin;go_loud (refine print_append_cells (w0:=W4) W4.heap.size rfl (.tmp 59) (.tmp 62) 125 36 (.slice none 0 0) 1 24 rfl Tryz.underlying125 info36' rfl (by decide) (by decide) (.slice none 0 0) 0 [] [.slice Ad d0.length cd] rfl rfl rfl (by simp [Value.oneCell']) (World.ownsRow_nil _ _ _ _) (Below.refl _ _) (Nat.le_refl _) (by decide) ?_;intro v5 w5 ho5 hb5 hg5 hat5;have H5:=Aside0.mk (And.intro ho5 hb5);clear ho5 hb5 hg5 hat5)))
    go_roundg 1
    case measure=>have:=HGK.out;omega
    case rel =>
     refine ⟨1,by simp,by simp,rfl,rfl,⟨H4.out.1.step H5.out.2,.inr (.inl ⟨rfl,W4,_,H5.out.1,?_,H5.out.2,?_⟩)⟩⟩
     ·exact Bs.below ⟨Ad,cd,rfl,H2.out.2.1,H2.out.2.2⟩ H4.out.2
     ·have:=blk_lt H4.out.1.sav
      omega
  ·obtain ⟨_,Wb,v0,hrow,hv0,hbb,hBw⟩:True/\∃ (w2:World) (v0:Value),wr.ownsRow w2.heap.size 36 1 u12 1 [v0]/\Bs w2 v0 d0/\Below w2.heap.size w2 wr/\w.heap.size+2<=w2.heap.size:=by
    rcases HX.out.2 with ⟨h,_⟩|⟨_,h⟩|⟨h,_⟩
    ·omega
    ·exact ⟨trivial,h⟩
    ·omega
   obtain ⟨A9,c9,rfl,_⟩:=own_slice2 hrow
   have HB:=Aside0.mk (And.intro hrow (And.intro hv0 (And.intro hbb hBw)))
   have HGK:=Aside0.mk hgk
   clear hgk hrow hv0 hbb hBw
   go_upto_region 7 with (first|(go_at_call 138;go_loud (refine (HH.out.1 1 (by omega) _ H1.out.1.bl).mono ?_;rintro e2 w2 ⟨vd,rfl,hvd,hb2⟩;obtain ⟨Ad,cd,rfl,hcd,hCd⟩:=hvd;have H2:=Aside0.mk (And.intro (H1.out.1.step hb2) (below_step H1.out.2 hb2));clear hcd hCd hb2))|(go_at_call 59;go_loud (refine (HA.out 1 (by omega) _).mono ?_;rintro e1 w1 ⟨rfl,hb1⟩;have H1:=Aside0.mk (And.intro (HX.out.1.step hb1) hb1);clear hb1)))
   obtain ⟨nd,hnd⟩:∃ q,(if (1:Nat)=0 then d0 else []).length=q:=⟨_,rfl⟩
   have hnd0:nd=0:=by rw [<- hnd];rfl
   subst hnd0
   try rw [hnd]
   obtain ⟨W3,hW3⟩:∃ q,w2.alloc (.cells #[.bool has,.int .i64 0,.slice Ad 0 cd,.int .i64 cnt,.bool true] 231)=q:=⟨_,rfl⟩
   have hb3:Below w2.heap.size w2 W3:=by rw [<- hW3];exact below_alloc (Below.refl _ _) _
   have hx3:W3.heap[w2.heap.size]?=some (.cells #[.bool has,.int .i64 0,.slice Ad 0 cd,.int .i64 cnt,.bool true] 231 (0,0)):=by rw [<- hW3];exact heap_alloc_new w2 _
   rw [hW3]
   have hs3:=H2.out.1.step hb3
   obtain ⟨y0,y1,y2,y3,y4⟩:=bx231 hx3
   obtain ⟨t0,t1,t2,t3,t4,t5,t6,t7,t8⟩:=hs3.all
   have hw3:=below_step H2.out.2 hb3
   have H3:=Aside0.mk (And.intro hs3 (And.intro hw3 (own_below HB.out.1 hw3)))
   clear hW3 hb3 hx3 hs3 hw3 s0 s1 s2 s3 s4 s5 s6 s7 s8
   cases has
   all_goals
    go_wp2_with (first|((with_reducible refine gate_builtin (b:=.append) (xs:=#[.tmp 59,.tmp 62]) rfl ?_);at_builtin;go_loud (refine print_append_cells (w0:=W3) Wb.heap.size rfl (.tmp 59) (.tmp 62) 125 36 (.slice none 0 0) 1 24 rfl Tryz.underlying125 info36' rfl (by decide) (by decide) (.slice A9 1 c9) 1 [v0] [.slice Ad 0 cd] rfl rfl rfl (by simp [Value.oneCell']) H3.out.2.2 (Below.refl _ _) (Nat.le_trans HB.out.2.2.1.size H3.out.2.1.size) (by decide) ?_;intro v5 w5 ho5 hb5 hg5 hat5;have H5:=Aside0.mk (And.intro ho5 hb5);clear ho5 hb5 hg5 hat5)))
    go_roundg 0
    case measure=>have:=HGK.out;omega
    case rel =>
     obtain ⟨A7,c7,h77,h78⟩:=own_slice2 H5.out.1
     have hbs:Bs w5 v0 d0:=HB.out.2.1.below ((below_step HB.out.2.2.1 H3.out.2.1).trans H5.out.2)
     have hRs:Rs w5 v5 [d0,[]]:=rs_own ⟨by simp,by simp⟩ H5.out.1 (fun j hj=>by
      rcases j with _|_|j
      ·exact ⟨v0,rfl,hbs⟩
      ·exact ⟨.slice Ad 0 cd,rfl,Ad,cd,rfl,Nat.zero_le _,rfl,by simp,fun h=>absurd h (Nat.lt_irrefl 0)⟩
      ·simp at hj;omega)
     obtain ⟨ga,hga⟩:∃ ga,A7=some ⟨ga,0,none⟩:=by
      rcases H5.out.1.2 with ⟨_,h0⟩|⟨g,cap,cur,he,_⟩
      ·simp at h0
      ·rw [h77] at he
       injection he with he1
       exact ⟨g,he1⟩
     subst hga
     exact ⟨2,by simp,by simp,rfl,rfl,⟨H3.out.1.low H5.out.2 HB.out.2.2.2,.inr (.inr ⟨rfl,ga,c7,h77,hRs⟩)⟩⟩
  ·obtain ⟨_,ga,cg,rfl,hRs⟩:True/\∃ ga c,u12=.slice (some ⟨ga,0,none⟩) 2 c/\Rs wr u12 [d0,[]]:=by
    rcases HX.out.2 with ⟨h,_⟩|⟨h,_⟩|⟨_,h⟩
    ·omega
    ·omega
    ·exact ⟨trivial,h⟩
   have HU:=Aside0.mk (Rd.unsnap_run (r:=r) (HH.out.2.1.imp (fun h=>⟨h.1,h.2.1⟩) (fun h=>⟨h.1,h.2.1⟩)) wr hRs)
   have HR:=Aside0.mk HH.out.2.1
   have HS:=Aside0.mk HX.out.1
   clear hRs HX HH HA s0 s1 s2 s3 s4 s5 s6 s7 s8 hgk
   rcases HR.out with ⟨rfl,rfl,rfl⟩|⟨rfl,rfl,rfl⟩
   all_goals
    go_upto_region 16 with (first|(go_at_call 163;go_loud (refine HU.out.mono ?_;rintro e2 w2 ⟨rfl,hb2⟩;have H2:=Aside0.mk (HS.out.step hb2);clear hb2)))
    have z2:w2.frozen? ⟨w.heap.size+1,2,none⟩=false:=by simp [World.frozen?,H2.out.sav]
    obtain ⟨t0,t1,t2,t3,t4,t5,t6,t7,t8⟩:=H2.out.all
    have hb4:=set_same (i:=2) (v:=.slice none 0 0) H2.out.sav rfl
    go_upto_region 17 with fail
    obtain ⟨W4,hW4⟩:∃ q,w2.setCell ⟨w.heap.size+1,2,none⟩ (.slice none 0 0)=q:=⟨_,rfl⟩
    rw [hW4] at hb4 ⊢
    have h4:=H2.out.step hb4
    clear hW4 t0 t1 t2 t3 t4 t5 t6 t7 t8 z2
    obtain ⟨t0,t1,t2,t3,t4,t5,t6,t7,t8⟩:=h4.all
    have z0:W4.frozen? ⟨w.heap.size+1,0,none⟩=false:=by simp [World.frozen?,h4.sav]
    have z1:W4.frozen? ⟨w.heap.size+1,1,none⟩=false:=by simp [World.frozen?,h4.sav]
    have z2:W4.frozen? ⟨w.heap.size+1,2,none⟩=false:=by simp [World.frozen?,h4.sav]
    have h5:=((h4.set 0 (.int .i64 which) (ar':=which) (ep':=0) (A':=none) (n':=0) (c':=0) rfl).set 1 (.int .i64 0) (ar':=which) (ep':=0) (A':=none) (n':=0) (c':=0) rfl).set 2 (.slice none 0 0) (ar':=which) (ep':=0) (A':=none) (n':=0) (c':=0) rfl
    have H5:=Aside0.mk h5
    clear h4 h5 hb4
    go_wp2
    exact bodyPost_ret (results_105 rfl _ _ (w.heap.size+1) _ rfl H5.out.sav (by kernel_rfl)) rfl ⟨rfl,H5.out.bl⟩
end Go.Proofs.YtmmcbncpnlknbaaGreat.Top
namespace Go.Proofs.YtmmcbncpnlknbaaGreat.Top
open Go Go.RowKit Go.Proofs.YtmmcbncpnlknbaaGreatW.PrintWords Go.Proofs.YtmmcbncpnlknbaaGreatW.PrintLast Go.Proofs.YtmmcbncpnlknbaaGreatW.PrintMore
set_option maxRecDepth 100000
structure Lt (w W:World) (K M Z T L O:Int) (gb:Nat):Prop where
 sv:Sv w W K M Z T L O 0 0 none 0 0
 bx:W.heap[gb]?=some (.cells #[.int .i64 0,.int .i64 0,.slice none 0 0] 105 (0,0))
 ge:w.heap.size+2<=gb
theorem Lt.step {w W W':World} {K M Z T L O:Int} {gb:Nat} (h:Lt w W K M Z T L O gb) (hb:Below W.heap.size W W'):Lt w W' K M Z T L O gb:=⟨h.sv.step hb,(hb.block _ (blk_lt h.bx)).trans h.bx,h.ge⟩
theorem same3 {W:World} {b t:Nat} (h:W.heap[b]?=some (.cells #[.int .i64 0,.int .i64 0,.slice none 0 0] t (0,0))):Below W.heap.size W (((W.setCell ⟨b,0,none⟩ (.int .i64 0)).setCell ⟨b,1,none⟩ (.int .i64 0)).setCell ⟨b,2,none⟩ (.slice none 0 0)):=by
 have h1:=set_same (i:=0) (v:=.int .i64 0) h rfl
 have h2:=(h1.block _ (blk_lt h)).trans h
 have h3:=set_same (i:=1) (v:=.int .i64 0) h2 rfl
 have h4:=(h3.block _ (blk_lt h2)).trans h2
 exact below_step (below_step h1 h3) (set_same (i:=2) (v:=.slice none 0 0) h4 rfl)
attribute [local go_sem] calloc_old
set_option maxHeartbeats 4000000 in
theorem latest_ok {w:World} {a:Nat} {vk:Value} {K M Z T L O:Int} (hg:LayA.Good K M Z T L O)
  (hA:∀ i:Nat,i < 2->∀ W,Below w.heap.size w W->Calls Tryz.prog 137 #[.pointer (some ⟨a,0,none⟩),geoV K M Z T L O,vk,.int .i64 i] W fun e w'=>e=.returned (.tuple #[.agg #[.int .i64 i,.int .i64 0,.slice none 0 0],.bool (decide (i=0)),.bool true,.int .i64 0])/\Below W.heap.size W w') :
  Calls Tryz.prog 105 #[.pointer (some ⟨a,0,none⟩),geoV K M Z T L O,vk] w fun e w'=>e=.returned (.tuple #[.agg #[.int .i64 0,.int .i64 0,.slice none 0 0],.int .i64 0])/\Below w.heap.size w w':=by
 have H0:=Aside0.mk (Sv.new (w:=w) (K:=K) (M:=M) (Z:=Z) (T:=T) (L:=L) (O:=O) (ar:=0) (ep:=0) (A:=none) (n:=0) (c:=0))
 have HM:=Aside0.mk (fun W=>mcheck_ok a hg W)
 have HA:=Aside0.mk hA
 unfold geoV at HA HM ⊢
 unfold geoC savC at H0
 clear hg hA
 obtain ⟨s0,s1,s2,s3,s4,s5,s6,s7,s8⟩:=H0.out.all
 go_enter Tryz.func105,Tryz.ntmps105
 go_wp2_with (first|(go_at_call 56;go_loud (refine (HM.out _).mono ?_;rintro e1 w1 ⟨rfl,hb1⟩;have H1:=Aside0.mk (H0.out.step hb1);clear hb1)))
 obtain ⟨W0,hW0⟩:∃ q,w1.alloc (.cells #[.int .i64 0,.int .i64 0,.slice none 0 0] 105)=q:=⟨_,rfl⟩
 have h0:Lt w W0 K M Z T L O w1.heap.size:=by
  rw [<- hW0]
  exact ⟨H1.out.step (below_alloc (Below.refl _ _) _),heap_alloc_new w1 _,by have:=blk_lt H1.out.sav;omega⟩
 rw [hW0]
 clear hW0 s0 s1 s2 s3 s4 s5 s6 s7 s8
 have HX0:=Aside0.mk h0
 clear h0
 generalize w1.heap.size=gb at *
 go_loopg [10,11,24] 2 (fun kq x10 x11 x24 wr=>∃ i:Nat,x10=.bool (decide (0 < i))/\x11=.bool true/\x24=.int .i64 i/\i+kq=2/\Aside0 (Lt w wr K M Z T L O gb))
 case atStart=>exact ⟨0,rfl,rfl,rfl,rfl,HX0⟩
 case round =>
  obtain ⟨i,rfl,rfl,rfl,hik,HX⟩:=hrel
  have hcases:(i=0/\gk=2)∨(i=1/\gk=1)∨(i=2/\gk=0):=by omega
  clear hik
  obtain ⟨s0,s1,s2,s3,s4,s5,s6,s7,s8⟩:=HX.out.sv.all
  rcases hcases with ⟨rfl,hgk⟩|⟨rfl,hgk⟩|⟨rfl,hgk⟩
  ·have HGK:=Aside0.mk hgk
   clear hgk
   go_upto_region 10 with (first|(go_at_call 137;go_loud (refine (HA.out 0 (by omega) _ HX.out.sv.bl).mono ?_;rintro e2 w2 ⟨rfl,hb2⟩;have H2:=Aside0.mk (HX.out.step hb2);clear hb2)))
   obtain ⟨W3,hW3⟩:∃ q,w2.alloc (.cells #[.int .i64 0,.int .i64 0,.slice none 0 0] 105)=q:=⟨_,rfl⟩
   have hb3:Below w2.heap.size w2 W3:=by rw [<- hW3];exact below_alloc (Below.refl _ _) _
   have hx3:W3.heap[w2.heap.size]?=some (.cells #[.int .i64 0,.int .i64 0,.slice none 0 0] 105 (0,0)):=by rw [<- hW3];exact heap_alloc_new w2 _
   rw [hW3]
   have h3:=H2.out.step hb3
   obtain ⟨y0,y1,y2,_⟩:=bx105 hx3
   obtain ⟨g0,g1,g2,f0,f1,f2⟩:=bx105 h3.bx
   have H3:=Aside0.mk h3
   clear hW3 hb3 hx3 h3 s0 s1 s2 s3 s4 s5 s6 s7 s8
   go_upto_region 14 with fail
   have hb4:=same3 H3.out.bx
   go_wp2
   go_roundg 1
   case measure=>have:=HGK.out;omega
   case rel=>exact ⟨1,rfl,rfl,rfl,rfl,⟨H3.out.step hb4⟩⟩
  ·have HGK:=Aside0.mk hgk
   clear hgk
   go_upto_region 10 with (first|(go_at_call 137;go_loud (refine (HA.out 1 (by omega) _ HX.out.sv.bl).mono ?_;rintro e2 w2 ⟨rfl,hb2⟩;have H2:=Aside0.mk (HX.out.step hb2);clear hb2)))
   obtain ⟨W3,hW3⟩:∃ q,w2.alloc (.cells #[.int .i64 1,.int .i64 0,.slice none 0 0] 105)=q:=⟨_,rfl⟩
   have hb3:Below w2.heap.size w2 W3:=by rw [<- hW3];exact below_alloc (Below.refl _ _) _
   have hx3:W3.heap[w2.heap.size]?=some (.cells #[.int .i64 1,.int .i64 0,.slice none 0 0] 105 (0,0)):=by rw [<- hW3];exact heap_alloc_new w2 _
   rw [hW3]
   have h3:=H2.out.step hb3
   obtain ⟨y0,y1,y2,_⟩:=bx105 hx3
   obtain ⟨g0,g1,g2,f0,f1,f2⟩:=bx105 h3.bx
   have H3:=Aside0.mk h3
   clear hW3 hb3 hx3 h3 s0 s1 s2 s3 s4 s5 s6 s7 s8
   go_wp2
   go_roundg 0
   case measure=>have:=HGK.out;omega
   case rel=>exact ⟨2,rfl,rfl,rfl,rfl,H3⟩
  ·clear hgk HA HM
   obtain ⟨g0,g1,g2,_⟩:=bx105 HX.out.bx
   obtain ⟨_,_,_,f0,f1,f2⟩:=bx105 HX.out.sv.sav
   have hb4:=same3 HX.out.sv.sav
   go_wp2
   exact bodyPost_ret (results_ct rfl _ _ (w.heap.size+1) 105 _ (0,0) _ rfl ((hb4.block _ (blk_lt HX.out.sv.sav)).trans HX.out.sv.sav) Tryz.underlying105 rfl (by kernel_rfl)) rfl ⟨rfl,below_step HX.out.sv.bl hb4⟩
end Go.Proofs.YtmmcbncpnlknbaaGreat.Top
namespace Go.Proofs.YtmmcbncpnlknbaaGreat.Top
open Go Go.RowKit Go.Proofs.YtmmcbncpnlknbaaGreatW.PrintWords Go.Proofs.YtmmcbncpnlknbaaGreatW.PrintLast Go.Proofs.YtmmcbncpnlknbaaGreatW.PrintMore
set_option maxRecDepth 100000
def recA:List Int:=[1,1,97,0,0,0,1,0,1,0,0]
def RplP (w W:World) (v:Value):Prop:=∃ A c,W.ownsRow w.heap.size 160 4 v 1 [.int .i64 1,.string ⟨#[97]⟩,.int .i64 1,.slice A 1 c]/\Kd.R (Kd.int .i64) 3 W w.heap.size (fun _=>True) (.slice A 1 c) [0]
theorem info160:(Tryz.prog.info? 160).map (fun i=>(i.zero,i.size,i.bytes))=some (some (.agg #[.int .i64 0,.string ⟨#[]⟩,.int .i64 0,.slice none 0 0]),4,56):=by kernel_rfl
theorem bx160 {w:World} {b:Nat} {v0 v1 v2 v3:Value} (h:w.heap[b]?=some (.cells #[v0,v1,v2,v3] 160 (0,0))):w.cell? ⟨b,0,none⟩=some v0/\w.cell? ⟨b,1,none⟩=some v1/\w.cell? ⟨b,2,none⟩=some v2/\w.cell? ⟨b,3,none⟩=some v3:=by
 simp [World.cell?,h]
attribute [local go_sem] calloc_old
set_option maxHeartbeats 4000000 in
theorem replay_ok {w:World} {a:Nat} {vk:Value} {K M Z T O:Int} (hg:LayA.Good K M Z T 1 O) (cnt:Nat)
  (hV:∀ W,Below w.heap.size w W->Calls Tryz.prog 138 #[.pointer (some ⟨a,0,none⟩),vk,.int .i64 5] W fun e w'=>VtP W w' e true 1 recA cnt true) :
  Calls Tryz.prog 106 #[.pointer (some ⟨a,0,none⟩),geoV K M Z T 1 O,vk,.int .i64 0] w fun e w'=>∃ v,e=.returned (.tuple #[v,.int .i64 0])/\RplP w w' v/\Below w.heap.size w w':=by
 have H0:=Aside0.mk (show Gb w (w.alloc (.cells (geoC K M Z T 1 O) 23)) w.heap.size K M Z T 1 O from ⟨heap_alloc_new w _,below_alloc (Below.refl _ _) _⟩)
 have HM:=Aside0.mk (fun W=>mcheck_ok a hg W)
 have HS:=Aside0.mk (fun W=>slot_ok hg (i:=0) ⟨Int.le_refl 0,by omega⟩ W)
 have HV:=Aside0.mk hV
 unfold geoV at HM HS ⊢
 unfold geoC at H0
 clear hg hV
 obtain ⟨s0,s1,s2,s3,s4,s5,_⟩:=H0.out.all
 go_enter Tryz.func106,Tryz.ntmps106
 go_wp2
 go_step3
 go_wp2_with (first|(go_at_call 55;go_loud (refine (mfirst2 _).mono ?_;rintro e7 w7 ⟨rfl,hb7⟩;have H7:=Aside0.mk (H1.out.step (below_step (below_alloc (Below.refl _ _) _) hb7));obtain ⟨g0,g1,g2,g3,g4,g5,_⟩:=H7.out.all;clear hb7))|(go_at_call 57;go_loud (refine (munless_ok _ _).mono ?_;rintro e9 w9 ⟨rfl,rfl⟩))|(go_at_call 56;go_loud (refine (HM.out _).mono ?_;rintro e1 w1 ⟨rfl,hb1⟩;have H1:=Aside0.mk (H0.out.step hb1);clear hb1)))
 go_step3
 go_wp2
 clear s0 s1 s2 s3 s4 s5 g0 g1 g2 g3 g4 g5
 go_loopg [11,12,34] 1 (fun kq x11 x12 x34 wr=>∃ i:Nat,x12=.bool true/\x34=.int .i64 i/\i+kq=1/\Aside0 (Gb w wr w.heap.size K M Z T 1 O/\((i=0/\x11=.slice none 0 0)∨(i=1/\RplP w wr x11))))
 case atStart=>exact ⟨0,rfl,rfl,rfl,⟨H7.out,.inl ⟨rfl,rfl⟩⟩⟩
 case round =>
  obtain ⟨i,rfl,rfl,hik,HX⟩:=hrel
  have hcases:(i=0/\gk=1)∨(i=1/\gk=0):=by omega
  clear hik
  obtain ⟨s0,s1,s2,s3,s4,s5,_⟩:=HX.out.1.all
  rcases hcases with ⟨rfl,hgk⟩|⟨rfl,hgk⟩
  ·obtain ⟨_,rfl⟩:True/\u11=.slice none 0 0:=by
    rcases HX.out.2 with ⟨_,h⟩|⟨h,_⟩
    ·exact ⟨trivial,h⟩
    ·omega
   have HGK:=Aside0.mk hgk
   clear hgk
   go_upto_region 10 with (first|(go_at_call 138;go_loud (refine (HV.out _ H1.out.2).mono ?_;rintro e2 w2 ⟨vd,rfl,hvd,hb2⟩;obtain ⟨Ad,cd,rfl,hcd,hCd⟩:=hvd;have H2:=Aside0.mk (And.intro (H1.out.step hb2) (And.intro hcd hCd));clear hcd hCd hb2))|(go_at_call 139;go_loud (refine (HS.out _).mono ?_;rintro e1 w1 ⟨rfl,hb1⟩;have H1:=Aside0.mk (HX.out.1.step hb1);clear hb1)))
   simp only [show recA.length=11 from rfl]
   obtain ⟨W3,hW3⟩:∃ q,w2.alloc (.cells #[.bool true,.int .i64 1,.slice Ad 11 cd,.int .i64 cnt,.bool true] 231)=q:=⟨_,rfl⟩
   have hb3:Below w2.heap.size w2 W3:=by rw [<- hW3];exact below_alloc (Below.refl _ _) _
   have hx3:W3.heap[w2.heap.size]?=some (.cells #[.bool true,.int .i64 1,.slice Ad 11 cd,.int .i64 cnt,.bool true] 231 (0,0)):=by rw [<- hW3];exact heap_alloc_new w2 _
   rw [hW3]
   obtain ⟨y0,y1,y2,y3,y4⟩:=bx231 hx3
   have HD:=Aside0.mk (Rd.decodeA Ad cd W3 (Kd.C_below H2.out.2.2 hb3) H2.out.2.1)
   have H3:=Aside0.mk (And.intro hx3 (H2.out.1.step hb3))
   clear hW3 hb3 hx3 s0 s1 s2 s3 s4 s5
   go_upto_region 13 with (first|(go_at_call 140;go_loud (refine HD.out.mono ?_;rintro e4 w4 ⟨v4,rfl,hv4,hb4⟩;obtain ⟨A4,c4,rfl⟩:=Kd.R_slice hv4;have H4:=Aside0.mk (And.intro hv4 hb4);clear hv4 hb4)))
   try simp only [show ([0]:List Int).length=1 from rfl]
   obtain ⟨W5,hW5⟩:∃ q,w4.alloc (.cells #[.int .i64 1,.string ⟨#[97]⟩,.int .i64 1,.slice A4 1 c4] 160)=q:=⟨_,rfl⟩
   have hb5:Below w4.heap.size w4 W5:=by rw [<- hW5];exact below_alloc (Below.refl _ _) _
   have hx5:W5.heap[w4.heap.size]?=some (.cells #[.int .i64 1,.string ⟨#[97]⟩,.int .i64 1,.slice A4 1 c4] 160 (0,0)):=by rw [<- hW5];exact heap_alloc_new w4 _
   rw [hW5]
   have hb35:=below_step H4.out.2 hb5
   clear y0 y1 y2 y3 y4
   obtain ⟨y0,y1,y2,y3,y4⟩:=bx231 ((hb35.block _ (blk_lt H3.out.1)).trans H3.out.1)
   obtain ⟨z0,z1,z2,z3⟩:=bx160 hx5
   have H5:=Aside0.mk (And.intro (H3.out.2.step hb35) (Kd.R_below H4.out.1 hb5))
   clear hW5 hb5 hx5 hb35
   go_wp2_with (first|((with_reducible refine gate_builtin (b:=.append) (xs:=#[.tmp 73,.tmp 75]) rfl ?_);at_builtin;go_loud (refine print_append_cells (w0:=W5) W5.heap.size rfl (.tmp 73) (.tmp 75) 189 160 (.agg #[.int .i64 0,.string ⟨#[]⟩,.int .i64 0,.slice none 0 0]) 4 56 rfl Tryz.underlying189 info160 rfl (by decide) (by decide) (.slice none 0 0) 0 [] [.int .i64 1,.string ⟨#[97]⟩,.int .i64 1,.slice A4 1 c4] rfl rfl rfl (by simp [Value.oneCell']) (World.ownsRow_nil _ _ _ _) (Below.refl _ _) (Nat.le_refl _) (by decide) ?_;intro v6 w6 ho6 hb6 hg6 hat6;have H6:=Aside0.mk (And.intro ho6 hb6);clear ho6 hb6 hg6 hat6)))
   go_roundg 0
   case measure=>have:=HGK.out;omega
   case rel=>exact ⟨1,rfl,rfl,rfl,⟨H5.out.1.step H6.out.2,.inr ⟨rfl,A4,c4,ownsRow_base_a H6.out.1 H5.out.1.2.size,Kd.R_below (Kd.R_lower H5.out.2 H3.out.2.2.size) H6.out.2⟩⟩⟩
  ·obtain ⟨_,hR⟩:True/\RplP w wr u11:=by
    rcases HX.out.2 with ⟨h,_⟩|⟨_,h⟩
    ·omega
    ·exact ⟨trivial,h⟩
   obtain ⟨A,c,ho,hk⟩:=hR
   obtain ⟨A8,c8,rfl,_⟩:=own_slice2 ho
   have HR:=Aside0.mk (show RplP w wr _ from ⟨A,c,ho,hk⟩)
   clear ho hk hgk HM HS HV
   go_wp2
   go_ret2
   exact ⟨_,rfl,HR.out,HX.out.1.2⟩
end Go.Proofs.YtmmcbncpnlknbaaGreat.Top
namespace Go.Proofs.YtmmcbncpnlknbaaGreat.Top
open Go Go.RowKit Go.Proofs.YtmmcbncpnlknbaaGreatW.PrintWords Go.Proofs.YtmmcbncpnlknbaaGreatW.PrintLast Go.Proofs.YtmmcbncpnlknbaaGreatW.PrintMore
set_option maxRecDepth 100000
def mdL (i:Nat):List Value:=(List.range i).map fun j:Nat=>Value.int .i64 (1+(j:Int))
theorem le_24 {i:Nat} (h:i < 3):(i+1)*8<=140737488355328:=by omega
attribute [local go_sem] calloc_old
set_option maxHeartbeats 4000000 in
theorem cmend_ok {w:World} {s c a f:Nat} {vk:Value} {K M Z T O:Int} (hg:LayA.Good K M Z T 1 O) (hbx:w.heap[s]?=some (.cells (stC c a f K M Z T 1 O 0 0 1) 110 (0,0)))
  (hM:∀ x:Int,x=1∨x=2∨x=5->∀ W,Below w.heap.size w W->Calls Tryz.prog 141 #[.pointer (some ⟨a,0,none⟩),vk,.int .i64 x] W fun e w'=>e=.returned (.tuple #[.int .i64 0,.int .i64 0])/\Below W.heap.size W w')
  (P:World->World->Prop) (hF:∀ W,Below w.heap.size w W->Calls Tryz.prog 53 #[.pointer (some ⟨a,0,none⟩)] W fun e w'=>e=.returned (.int .i64 0)/\P W w') :
  Calls Tryz.prog 108 #[.pointer (some ⟨s,0,none⟩),vk] w fun e w'=>e=.returned (.int .i64 0)/\∃ W,Below w.heap.size w W/\P W w':=by
 have HA:=Aside0.mk (fun (i:Nat) (hi:i < 2) W=>show Calls Tryz.prog 59 #[geoV K M Z T 1 O,.int .i64 0,.int .i64 i] W fun e w'=>e=.returned (.int .i64 (1+(i:Int)))/\Below W.heap.size W w' from by simpa using area_ok (i:=0) (j:=i) hg ⟨Int.le_refl 0,by omega⟩ ⟨by omega,by omega⟩ W)
 have HS:=Aside0.mk (fun W=>slot_ok hg (i:=0) ⟨Int.le_refl 0,by omega⟩ W)
 have H0:=Aside0.mk (show SC w w s c a f K M Z T 1 O 0 0 1 from ⟨hbx,Below.refl _ _⟩)
 have HH:=Aside0.mk (And.intro hM hF)
 have HSL:=Aside0.mk (blk_lt hbx)
 unfold geoV at HA HS
 clear hg hbx hM hF
 go_enter Tryz.func108,Tryz.ntmps108
 go_wp2
 go_loopg [5,11] 2 (fun kq x5 x11 wr=>∃ i:Nat,x11=.int .i64 i/\i+kq=2/\Aside0 (wr.ownsRow w.heap.size 3 1 x5 i (mdL i)/\Below w.heap.size w wr))
 case atStart=>exact ⟨0,rfl,rfl,⟨World.ownsRow_nil _ _ _ _,Below.refl _ _⟩⟩
 case round =>
  obtain ⟨i,rfl,hik,HX⟩:=hrel
  obtain ⟨A5,c5,h55,_⟩:=own_slice2 HX.out.1
  subst h55
  by_cases hin:i < 2
  ·have g1:(i:Int) < 2:=by omega
   have gw:wrap64 ((i:Int)+1)=(i:Int)+1:=w64 _ (by omega)
   have H1:=Aside0.mk (show SC w wr.drew s c a f K M Z T 1 O 0 0 1 from ⟨((below_step HX.out.2 (below_drew1 (Below.refl _ _))).block _ HSL.out).trans H0.out.1,below_step HX.out.2 (below_drew1 (Below.refl _ _))⟩)
   obtain ⟨x0,x1,x2,x3,x4,x5,x6,x7,x8,x9,x10,x11⟩:=H1.out.all
   have HO:=Aside0.mk (own_below HX.out.1 (below_drew1 (Below.refl wr.heap.size wr)))
   have HI:=Aside0.mk (And.intro hin hik)
   go_wp2
   go_region_law (first|(go_simp;go_at_call 59;(refine (HA.out i HI.out.1 _).mono ?_;rintro e2 w2 ⟨rfl,hb2⟩;have H2:=Aside0.mk (And.intro (H1.out.step hb2) hb2);obtain ⟨y0,y1,y2,y3,y4,y5,y6,y7,y8,y9,y10,y11⟩:=H2.out.1.all;clear hb2))|(go_loud (refine step_append_cells (w0:=w2) w.heap.size (by rfl) (.tmp 14) (.tmp 25) 98 3 (.int .i64 0) 1 8 rfl Tryz.underlying98 info3 rfl (by decide) (by decide) (.slice A5 i c5) i (mdL i) [.int .i64 (1+(i:Int))] rfl rfl rfl (by simp [Value.oneCell']) (own_below HO.out H2.out.2) (Below.refl _ _) H2.out.1.2.size (le_24 (by have:=HI.out.1;omega)) ?_;intro v6 w6 ho6 hb6 hg6 hat6;obtain ⟨A7,c7,h77,_⟩:=own_slice2 ho6;subst h77;have H6:=Aside0.mk (And.intro ho6 hb6);clear ho6 hb6 hg6 hat6)))
   all_goals
    go_wp2
    go_roundg (2 - (i+1))
    case measure=>exact meas5 HI.out.1 HI.out.2
    case rel=>exact ⟨i+1,by simp [gw],meas4 HI.out.1,⟨by rw [mdL,List.range_succ,List.map_append];exact H6.out.1,H2.out.1.2.trans H6.out.2⟩⟩
  ·have e2:i=2:=by omega
   subst e2
   obtain ⟨q0,q1,q2,q3,q4,q5,q6,q7,q8,q9,q10,q11⟩:=(show SC w wr s c a f K M Z T 1 O 0 0 1 from ⟨(HX.out.2.block _ HSL.out).trans H0.out.1,HX.out.2⟩).all
   have H1:=Aside0.mk (show SC w wr.drew s c a f K M Z T 1 O 0 0 1 from ⟨((below_step HX.out.2 (below_drew1 (Below.refl _ _))).block _ HSL.out).trans H0.out.1,below_step HX.out.2 (below_drew1 (Below.refl _ _))⟩)
   obtain ⟨x0,x1,x2,x3,x4,x5,x6,x7,x8,x9,x10,x11⟩:=H1.out.all
   have HO:=Aside0.mk (own_below HX.out.1 (below_drew1 (Below.refl wr.heap.size wr)))
   clear hik
   go_wp2
   go_region_law (first|(go_simp;go_at_call 139;(refine (HS.out _).mono ?_;rintro e2 w2 ⟨rfl,hb2⟩;have H2:=Aside0.mk (And.intro (H1.out.step hb2) hb2);obtain ⟨y0,y1,y2,y3,y4,y5,y6,y7,y8,y9,y10,y11⟩:=H2.out.1.all;clear hb2))|(go_loud (refine step_append_cells (w0:=w2) w.heap.size (by rfl) (.tmp 33) (.tmp 44) 98 3 (.int .i64 0) 1 8 rfl Tryz.underlying98 info3 rfl (by decide) (by decide) (.slice A5 2 c5) 2 (mdL 2) [.int .i64 5] rfl rfl rfl (by simp [Value.oneCell']) (own_below HO.out H2.out.2) (Below.refl _ _) H2.out.1.2.size (le_24 (by omega)) ?_;intro v6 w6 ho6 hb6 hg6 hat6;obtain ⟨A7,c7,h77,_⟩:=own_slice2 ho6;subst h77;have H6:=Aside0.mk (And.intro ho6 hb6);clear ho6 hb6 hg6 hat6)))
   all_goals
    go_wp2
    obtain ⟨g7,rfl⟩:∃ g7,A7=some ⟨g7,0,none⟩:=by
     rcases H6.out.1.2 with ⟨_,h0⟩|⟨g,cap,cur,he,_⟩
     ·simp at h0
     ·injection he with he1
      exact ⟨g,he1⟩
    have hrow:∀ k:Nat,k < 3->w6.cell? ⟨g7,k,none⟩=some (.int .i64 (if k=0 then 1 else if k=1 then 2 else 5)):=fun k hk=>by
     have h1:=H6.out.1.cellAt k (by omega)
     rw [h1]
     rcases k with _|_|_|k
     ·rfl
     ·rfl
     ·rfl
     ·omega
    have H7:=Aside0.mk (And.intro hrow (H2.out.1.2.trans H6.out.2))
    clear hrow q0 q1 q2 q3 q4 q5 q6 q7 q8 q9 q10 q11 x0 x1 x2 x3 x4 x5 x6 x7 x8 x9 x10 x11 y0 y1 y2 y3 y4 y5 y6 y7 y8 y9 y10 y11
    go_loopg [48] 3 (fun kq x48 wq=>∃ k:Nat,x48=.int .i64 k/\k+kq=3/\Aside0 (Below w6.heap.size w6 wq))
    case atStart=>exact ⟨0,rfl,rfl,⟨Below.refl _ _⟩⟩
    case round =>
     obtain ⟨k,rfl,hkk,HY⟩:=hrel
     have hww:=below_step H7.out.2 HY.out
     obtain ⟨q0,q1,_⟩:=(show SC w wr s c a f K M Z T 1 O 0 0 1 from ⟨(hww.block _ HSL.out).trans H0.out.1,hww⟩).all
     have HW:=Aside0.mk hww
     clear hww
     by_cases hk3:k < 3
     ·have g1:(k:Int) < 3:=by omega
      have g3:(0:Int)<=(k:Int):=by omega
      have gw:wrap64 ((k:Int)+1)=(k:Int)+1:=w64 _ (by omega)
      have hc:=H7.out.1 k hk3
      have hc2:=(HY.out.cell (p:=⟨g7,k,none⟩) (World.block_lt_of_cell? _ _ hc)).trans hc
      have hx:(if k=0 then (1:Int) else if k=1 then 2 else 5)=1∨(if k=0 then (1:Int) else if k=1 then 2 else 5)=2∨(if k=0 then (1:Int) else if k=1 then 2 else 5)=5:=by
       split
       ·exact .inl rfl
       ·split
        ·exact .inr (.inl rfl)
        ·exact .inr (.inr rfl)
      generalize (if k=0 then (1:Int) else if k=1 then 2 else 5)=x at hc2 hx
      have HV:=Aside0.mk (HH.out.1 x hx wr HW.out)
      have HK:=Aside0.mk (And.intro hk3 hkk)
      clear hc hx hk3 hkk
      go_wp2_with (first|(go_at_call 141;go_loud (refine HV.out.mono ?_;rintro e8 w8 ⟨rfl,hb8⟩;have H8:=Aside0.mk hb8;clear hb8)))
      go_roundg (3 - (k+1))
      case measure=>exact meas5 HK.out.1 HK.out.2
      case rel=>exact ⟨k+1,by simp [gw],meas4 HK.out.1,⟨below_step HY.out H8.out⟩⟩
     ·have g1:¬ (k:Int) < 3:=by omega
      have HF:=Aside0.mk (HH.out.2 wr HW.out)
      go_wp2_with (first|(go_at_call 53;go_loud (refine HF.out.mono ?_;rintro e8 w8 ⟨rfl,hP⟩;have H8:=Aside0.mk hP;clear hP)))
      go_ret
      exact ⟨rfl,wr,HW.out,H8.out⟩
end Go.Proofs.YtmmcbncpnlknbaaGreat.Top
namespace Go.Proofs.YtmmcbncpnlknbaaGreat.Top
open Go Go.RowKit Go.Proofs.YtmmcbncpnlknbaaGreatW.PrintWords Go.Proofs.YtmmcbncpnlknbaaGreatW.PrintLast Go.Proofs.YtmmcbncpnlknbaaGreatW.PrintMore
set_option maxRecDepth 100000
def lvN (dead:Nat->Bool):Nat->Nat
 | 0=>0
 | i+1=>lvN dead i+(if dead i=true then 0 else 1)
theorem lvN_pos {dead:Nat->Bool}:∀ n,(∃ i,i < n/\dead i=false)->0 < lvN dead n
 | 0,⟨i,h,_⟩=>absurd h (by omega)
 | n+1,⟨i,h,hd⟩=>by
  rw [lvN]
  by_cases e:i=n
  ·subst e
   rw [hd]
   simp
  ·have:=lvN_pos n ⟨i,by omega,hd⟩
   omega
section
variable {B n T a:Nat} {w:World} {S:Nat->Prop} {sec:Int} {dead:Nat->Bool} {E:Nat->Int->List Int} {cl:Bool}
theorem rd_bytes (he:EByte E) (ad:Int) (i:Nat):SecA.Bytes (rdL dead E ad i):=by
 unfold rdL
 split
 ·intro x hx
  simp at hx
 ·exact he i ad
theorem sd_all {ad ep:Int} {l:List Int} (hm:SecA.May ad ep l) (hE:∀ i,i < n->dead i=false->E i ad=SecA.sect ad ep l) (i:Nat) (hi:i < n) (hd:dead i=false):(sdOf dead E ad i).is=true/\(sdOf dead E ad i).e=ep/\(sdOf dead E ad i).s=strOfNums l:=by
 have h1:rdL dead E ad i=SecA.sect ad ep l:=by
  unfold rdL
  rw [hd]
  exact hE i hi hd
 unfold sdOf
 rw [h1,SecA.back hm,hd]
 exact ⟨rfl,rfl,rfl⟩
theorem sd_dead {ad:Int} (i:Nat) (hd:dead i=true):(sdOf dead E ad i).is=false/\(sdOf dead E ad i).no=false:=by
 unfold sdOf
 rw [hd]
 exact ⟨rfl,rfl⟩
theorem unpack_nil (ad:Int):SecA.unpackM ad []=(0,[],110):=if_neg (fun h=>by have:=h.1;simp at this)
theorem sd_none {ad:Int} (hE:∀ i,i < n->dead i=false->E i ad=[]) (i:Nat) (hi:i < n):(sdOf dead E ad i).is=false/\(dead i=false->(sdOf dead E ad i).no=true):=by
 have h1:rdL dead E ad i=[]:=by
  unfold rdL
  split
  ·rfl
  ·rename_i h
   exact hE i hi (by simpa using h)
 unfold sdOf
 rw [h1,unpack_nil]
 refine ⟨by simp,fun h=>?_⟩
 simp [h]
theorem cnt_all {f:Nat->Sd}:∀ n,(∀ i,i < n->(f i).is=!dead i)->cntS f n=lvN dead n
 | 0,_=>rfl
 | n+1,h=>by
  rw [cntS,lvN,cnt_all n (fun i hi=>h i (by omega)),h n (by omega)]
  cases dead n <;> simp
theorem cnt_none {f:Nat->Sd}:∀ n,(∀ i,i < n->(f i).is=false)->cntS f n=0
 | 0,_=>rfl
 | n+1,h=>by rw [cntS,cnt_none n (fun i hi=>h i (by omega)),h n (by omega)];simp
theorem wit_some {kn:List Bool} {f:Nat->Sd} {n:Nat}:∀ m,(∃ i,i < m/\rb kn i=true/\((f i).is=true∨(f i).no=true))->witL kn f m=true
 | 0,⟨i,h,_⟩=>absurd h (by omega)
 | m+1,⟨i,h,h1,h2⟩=>by
  rw [witL]
  by_cases e:i=m
  ·subst e
   rw [h1]
   rcases h2 with h2|h2 <;> simp [h2]
  ·rw [wit_some (n:=n) m ⟨i,by omega,h1,h2⟩]
   rfl
theorem rb_live {i:Nat} (hi:i < n) (hd:dead i=false):rb ((List.range n).map fun i=>!dead i) i=true:=by
 rw [rb_map _ hi,hd]
 rfl
theorem vote_has (h:Ax B w a S sec n T dead E cl) (he:EByte E) (hn:∃ i,i < n/\dead i=false) {ad ep:Int} (h1:ad < sec) {l:List Int} (hm:SecA.May ad ep l) (hl:byteL l) (hE:∀ i,i < n->dead i=false->E i ad=SecA.sect ad ep l) {vk:Value} (hk:Bo w vk ((List.range n).map fun i=>!dead i)) :
  Calls Tryz.prog 138 #[.pointer (some ⟨a,0,none⟩),vk,.int .i64 ad] w fun e w'=>VtP w w' e true ep l (lvN dead n) true:=by
 have hc:cntS (sdOf dead E ad) n=lvN dead n:=cnt_all n (fun i hi=>by
  cases hd:dead i with
  | true=>exact (sd_dead i hd).1
  | false=>exact (sd_all hm hE i hi hd).1)
 have hp:=lvN_pos n hn
 obtain ⟨i,hi,hd⟩:=hn
 obtain ⟨ha,he',hln⟩:=hm
 refine (vread_ok h (by omega) ad ha.1 h1 (fun i _=>rd_bytes he ad i) hk (by simp) he'.1 (i64_of (by have:=he'.1;omega) (by have:=he'.2;omega)) hl (by omega) (fun j hj hjs=>?_)).mono ?_
 ·cases hdj:dead j with
  | true=>rw [(sd_dead j hdj).1] at hjs;cases hjs
  | false=>exact (sd_all ⟨ha,he',hln⟩ hE j hj hdj).2
 ·rintro e w' ⟨vd,rfl,hv,hb⟩
  rw [hc] at hv ⊢
  rw [wit_some (n:=n) n ⟨i,hi,rb_live hi hd,.inl (sd_all ⟨ha,he',hln⟩ hE i hi hd).1⟩]
  refine ⟨vd,?_,?_,hb⟩
  ·have h0:¬ lvN dead n=0:=by omega
   simp [bestE,h0,hp]
  ·rw [if_neg (by omega)] at hv
   exact hv
theorem vote_none (h:Ax B w a S sec n T dead E cl) (he:EByte E) (hn:∃ i,i < n/\dead i=false) {ad:Int} (h0:0<=ad) (h1:ad < sec) (hE:∀ i,i < n->dead i=false->E i ad=[]) {vk:Value} (hk:Bo w vk ((List.range n).map fun i=>!dead i)) :
  Calls Tryz.prog 138 #[.pointer (some ⟨a,0,none⟩),vk,.int .i64 ad] w fun e w'=>VtP w w' e false 0 [] 0 true:=by
 have hc:cntS (sdOf dead E ad) n=0:=cnt_none n (fun i hi=>(sd_none hE i hi).1)
 obtain ⟨i,hi,hd⟩:=hn
 refine (vread_ok h (by omega) ad h0 h1 (fun i _=>rd_bytes he ad i) hk (by simp) (e0:=0) (l0:=[]) (Int.le_refl 0) (i64_of (by omega) (by omega)) (fun x hx=>by simp at hx) (by simp) (fun j hj hjs=>?_)).mono ?_
 ·rw [(sd_none hE j hj).1] at hjs
  cases hjs
 ·rintro e w' ⟨vd,rfl,hv,hb⟩
  rw [hc] at hv ⊢
  rw [wit_some (n:=n) n ⟨i,hi,rb_live hi hd,.inr ((sd_none hE i hi).2 hd)⟩]
  exact ⟨vd,by simp [bestE],by simpa using hv,hb⟩
theorem mend_has (h:Ax B w a S sec n T dead E cl) (he:EByte E) (hn:∃ i,i < n/\dead i=false) {ad ep:Int} (h1:ad < sec) {l:List Int} (hm:SecA.May ad ep l) (hl:byteL l) (hE:∀ i,i < n->dead i=false->E i ad=SecA.sect ad ep l) (vk:Value) :
  Calls Tryz.prog 141 #[.pointer (some ⟨a,0,none⟩),vk,.int .i64 ad] w fun e w'=>e=.returned (.tuple #[.int .i64 0,.int .i64 0])/\Below w.heap.size w w':=by
 have hc:cntS (sdOf dead E ad) n=lvN dead n:=cnt_all n (fun i hi=>by
  cases hd:dead i with
  | true=>exact (sd_dead i hd).1
  | false=>exact (sd_all hm hE i hi hd).1)
 have hp:=lvN_pos n hn
 obtain ⟨i,hi,hd⟩:=hn
 obtain ⟨ha,he',hln⟩:=hm
 refine vmend_ok h (by omega) ad ha.1 h1 (fun i _=>rd_bytes he ad i) vk he'.1 (i64_of (by have:=he'.1;omega) (by have:=he'.2;omega)) hl ⟨ha,he',hln⟩ (fun j hj hjs=>?_) (fun j hj hdj=>(sd_all ⟨ha,he',hln⟩ hE j hj hdj).1) (by omega)
 cases hdj:dead j with
 | true=>rw [(sd_dead j hdj).1] at hjs;cases hjs
 | false=>exact (sd_all ⟨ha,he',hln⟩ hE j hj hdj).2
end
end Go.Proofs.YtmmcbncpnlknbaaGreat.Top
