import Derived.Test.YtmmcbncpnlknbaaGreatF32
set_option linter.unusedVariables false
set_option linter.unusedSimpArgs false
namespace Go.Proofs.YtmmcbncpnlknbaaGreat.Top
open Go Go.RowKit Go.Proofs.YtmmcbncpnlknbaaGreatW.PrintWords Go.Proofs.YtmmcbncpnlknbaaGreatW.PrintLast Go.Proofs.YtmmcbncpnlknbaaGreatW.PrintMore
def opC (kd:Int) (k:ByteArray) (A:Option Addr) (n c:Nat) (d1 d2 d3 d4:Int) (v:Value):Array Value:=#[.int .i64 kd,.string k,.slice A n c,.int .i64 d1,.int .i64 d2,.int .i64 d3,.int .u8 d4,v]
def wdC (s:Value) (why:Int) (a f:Nat) (K M Z T L O:Int) (ps:Value):Array Value:=#[s,.int .i64 why,.pointer (some ⟨a,0,none⟩),.pointer (some ⟨f,0,none⟩),.int .i64 K,.int .i64 M,.int .i64 Z,.int .i64 T,.int .i64 L,.int .i64 O,ps]
def ansC (e:Int) (vd:Value) (l:Int) (vk:Value):Array Value:=#[.int .i64 e,vd,.int .i64 l,vk,.int .i64 0,.bool false]
def ans0:Array Value:=ansC 0 (.slice none 0 0) 0 (.slice none 0 0)
def ImS (B:Nat) (w:World) (v:Value) (l:List ByteArray):Prop:=∃ A c,v=.slice A l.length c/\l.length<=c/\∀ i,i < l.length->∃ g,A=some ⟨g,0,none⟩/\(g < B∨Fz w g)/\w.cell? ⟨g,i,none⟩=some (.string (l.getD i ⟨#[]⟩))
theorem ImS.fr {B:Nat} {w W:World} {v:Value} {l:List ByteArray} (h:ImS B w v l) (hf:Fr B w W):ImS B W v l:=by
 obtain ⟨A,c,h1,h2,h3⟩:=h
 refine ⟨A,c,h1,h2,fun i hi=>?_⟩
 obtain ⟨g,h4,h5,h6⟩:=h3 i hi
 have hlt:g < w.heap.size:=World.block_lt_of_cell? _ _ h6
 refine ⟨g,h4,hf.fz hlt h5,?_⟩
 unfold World.cell? at h6 ⊢
 rw [hf.block g hlt h5]
 exact h6
theorem ImS.nil (B:Nat) (w:World):ImS B w (.slice none 0 0) []:=⟨none,0,rfl,Nat.le_refl _,fun i hi=>absurd hi (Nat.not_lt_zero i)⟩
theorem ImS.of_own {B base:Nat} {w:World} {v:Value} {l:List ByteArray} (h:w.ownsRow base 9 1 v l.length (l.map Value.string)):ImS B w v l:=by
 obtain ⟨A,c,rfl,hc⟩:=own_slice2 h
 refine ⟨A,c,rfl,hc,fun i hi=>?_⟩
 obtain ⟨g,hg⟩:∃ g,A=some ⟨g,0,none⟩:=by
  rcases h.2 with ⟨_,h0⟩|⟨g,cap,cur,he,_⟩
  ·omega
  ·injection he with he1
   exact ⟨g,he1⟩
 subst hg
 refine ⟨g,rfl,.inr ?_,?_⟩
 ·obtain ⟨cells,h1⟩:=own_typed h g rfl
  exact fz_of h1 (by decide)
 ·have h1:=h.cellAt i (by omega)
  rw [h1,List.getElem?_map,List.getD_eq_getElem?_getD,List.getElem?_eq_getElem hi]
  rfl
theorem results_43 {fn:Func} {p:Tmp} (h:fn.results=#[.cell p 43]) (tmps:Array Value) (w:World) (g:Nat) (cs:Array Value)
  (hp:tmps.getD p undef=.pointer (some ⟨g,0,none⟩)) (hg:w.heap[g]?=some (.cells cs 43 (0,0))) (hi:(Tryz.prog.info? 43).map (·.size)=some cs.size) :
  (results fn tmps).run Tryz.prog w=.ok (.agg cs) w:=by
 have hp':tmps[p]?.getD undef=.pointer (some ⟨g,0,none⟩):=by simpa using hp
 simp [results,h,hp',asAddr,run_loadVar_row w g 43 43 cs (0,0) _ hg Tryz.underlying43 rfl hi]
theorem bx43 {w:World} {b:Nat} {v0 v1 v2 v3 v4 v5:Value} (h:w.heap[b]?=some (.cells #[v0,v1,v2,v3,v4,v5] 43 (0,0))):(w.cell? ⟨b,0,none⟩=some v0/\w.cell? ⟨b,1,none⟩=some v1/\w.cell? ⟨b,2,none⟩=some v2/\w.cell? ⟨b,3,none⟩=some v3/\w.cell? ⟨b,4,none⟩=some v4/\w.cell? ⟨b,5,none⟩=some v5)/\w.frozen? ⟨b,0,none⟩=false/\w.frozen? ⟨b,1,none⟩=false/\w.frozen? ⟨b,2,none⟩=false/\w.frozen? ⟨b,3,none⟩=false/\w.frozen? ⟨b,4,none⟩=false/\w.frozen? ⟨b,5,none⟩=false:=by simp [World.cell?,World.frozen?,h]
theorem bx_set6 {w:World} {b:Nat} {x0 x1 x2 x3 x4 x5:Value} (h:w.heap[b]?=some (.cells #[x0,x1,x2,x3,x4,x5] 43 (0,0))) (v0 v1 v2 v3 v4 v5:Value):((((((w.setCell ⟨b,0,none⟩ v0).setCell ⟨b,1,none⟩ v1).setCell ⟨b,2,none⟩ v2).setCell ⟨b,3,none⟩ v3).setCell ⟨b,4,none⟩ v4).setCell ⟨b,5,none⟩ v5).heap[b]?=some (.cells #[v0,v1,v2,v3,v4,v5] 43 (0,0)):=set_cells (set_cells (set_cells (set_cells (set_cells (set_cells h 0 v0) 1 v1) 2 v2) 3 v3) 4 v4) 5 v5
theorem gs_set6 {w:World} {b:Nat} (v0 v1 v2 v3 v4 v5:Value):Gs (fun k=>k=b) w ((((((w.setCell ⟨b,0,none⟩ v0).setCell ⟨b,1,none⟩ v1).setCell ⟨b,2,none⟩ v2).setCell ⟨b,3,none⟩ v3).setCell ⟨b,4,none⟩ v4).setCell ⟨b,5,none⟩ v5):=((((((Gs.refl (fun k=>k=b) w).set (.inr rfl) 0 v0).set (.inr rfl) 1 v1).set (.inr rfl) 2 v2).set (.inr rfl) 3 v3).set (.inr rfl) 4 v4).set (.inr rfl) 5 v5
structure Cb (w W:World) (wd:Nat) (s:Value) (kd:Int) (k:ByteArray) (A:Option Addr) (n c:Nat) (d1 d2 d3 d4:Int) (v:Value):Prop where
 op:W.heap[w.heap.size]?=some (.cells (opC kd k A n c d1 d2 d3 d4 v) 39 (0,0))
 an:W.heap[w.heap.size+1]?=some (.cells ans0 43 (0,0))
 wd:W.cell? ⟨wd,0,none⟩=some s
theorem Cb.all {w W:World} {wd:Nat} {s:Value} {kd:Int} {k:ByteArray} {A:Option Addr} {n c:Nat} {d1 d2 d3 d4:Int} {v:Value} (h:Cb w W wd s kd k A n c d1 d2 d3 d4 v):W.cell? ⟨w.heap.size,0,none⟩=some (.int .i64 kd)/\W.cell? ⟨w.heap.size,1,none⟩=some (.string k)/\W.cell? ⟨w.heap.size,2,none⟩=some (.slice A n c)/\W.cell? ⟨wd,0,none⟩=some s:=by
 refine ⟨?_,?_,?_,h.wd⟩ <;> simp [World.cell?,h.op,opC]
theorem Cb.fr {B:Nat} {w W W':World} {wd:Nat} {s:Value} {kd:Int} {k:ByteArray} {A:Option Addr} {n c:Nat} {d1 d2 d3 d4:Int} {v:Value} (h:Cb w W wd s kd k A n c d1 d2 d3 d4 v) (hf:Fr B W W') (hw:wd < B) (ha:W'.heap[w.heap.size+1]?=W.heap[w.heap.size+1]?):Cb w W' wd s kd k A n c d1 d2 d3 d4 v:=by
 refine ⟨hf.cells h.op (by decide),ha.trans h.an,?_⟩
 have hlt:=World.block_lt_of_cell? _ _ h.wd
 have h6:=h.wd
 unfold World.cell? at h6 ⊢
 rw [hf.block wd hlt (.inl hw)]
 exact h6
def AnsV (B:Nat) (w:World) (v:Value) (a:Ans):Prop:=∃ vd vk,v=.agg (ansC a.err vd a.len vk)/\Im B w vd a.data/\ImS B w vk a.keys
section
variable {B:Nat} {w W:World} {s c b1 b2 a f:Nat} {K M Z T L O:Nat} {Q:Nat->Prop} {Tk:Nat} {dead:Nat->Bool} {E:Nat->Int->List Int} {cl:Bool} {ar ba ct:Nat} {S:List Ob} {p:Pst}
theorem Sb.lt (h:Sb B w s c b1 b2 a f K M Z T L O Q Tk dead E cl ar ba ct S):∀ k,Us Q s b1 b2 k->k < w.heap.size:=by
 obtain ⟨ad,hc⟩:=h.cat
 rintro k (hq|rfl|rfl|rfl)
 ·exact (h.ax.S_ge hq).2.2
 ·exact blk_lt h.box
 ·exact hc.objs.lt
 ·exact hc.own.lt
theorem Ax.not_cells {sec:Int} {n T:Nat} (h:Ax B w a Q sec n T dead E cl) {k t:Nat} {cells:Array Value} (hc:w.heap[k]?=some (.cells cells t (0,0))) (ht:t≠119/\t≠90/\t≠95):¬ Q k:=by
 obtain ⟨mb,D,C,ha,hS,hC⟩:=h.ex
 intro hq
 rcases (hS k).1 hq with rfl|rfl|⟨i,hi,hk⟩
 ·obtain ⟨cc,_,h1⟩:=ha.cellA
  rw [hc] at h1
  cases h1
  exact ht.2.1 rfl
 ·obtain ⟨cs,h1,_⟩:=ha.cellM
  rw [hc] at h1
  cases h1
  exact ht.2.2 rfl
 ·exact (ha.dk i hi).not_cells hc ht.1 hk
theorem Gs.far {P:Nat->Prop} {w W:World} (hg:Gs P w W) (hP:∀ k,k < w.heap.size->P k->B<=k/\∃ cells t,w.heap[k]?=some (.cells cells t (0,0))/\(t=43∨t=30)):Fr B w W:=by
 refine hg.fr (fun k hk hp=>?_)
 obtain ⟨h1,cells,t,h2,h3⟩:=hP k hk hp
 refine ⟨h1,?_⟩
 rintro ⟨cells',t',h4,h5⟩
 rw [h2] at h4
 injection h4 with h4
 injection h4 with _ h4
 exact h5 (by rw [<- h4];rcases h3 with rfl|rfl <;> decide)
theorem Sb.far (h:Sb B w s c b1 b2 a f K M Z T L O Q Tk dead E cl ar ba ct S) {P:Nat->Prop} (hg:Gs P w W) (hP:∀ k,k < w.heap.size->P k->B<=k/\∃ cells t,w.heap[k]?=some (.cells cells t (0,0))/\(t=43∨t=30)):Sb B W s c b1 b2 a f K M Z T L O Q Tk dead E cl ar ba ct S:=by
 obtain ⟨ad,hc⟩:=h.cat
 have hf:=Gs.far hg hP
 have hne:∀ {k:Nat} {o:Obj},w.heap[k]?=some o->(∀ cells t,o=.cells cells t (0,0)->t≠43/\t≠30)->¬ P k:=fun hk ho hp=>by
  obtain ⟨_,cells,t,h2,h3⟩:=hP _ ((Array.getElem?_eq_some_iff.1 hk).1) hp
  rw [hk] at h2
  injection h2 with h2
  obtain ⟨h4,h5⟩:=ho cells t h2
  rcases h3 with h3|h3
  ·exact h4 h3
  ·exact h5 h3
 have hcell:∀ {k:Nat} {cells:Array Value} {t:Nat},w.heap[k]?=some (.cells cells t (0,0))->t≠43->t≠30->¬ P k:=fun hk h1 h2=>hne hk (fun cells t e=>by cases e;exact ⟨h1,h2⟩)
 have hmap:∀ {k:Nat} {es:Array MapEntry} {cl:Nat},w.heap[k]?=some (.map es cl)->¬ P k:=fun hk=>hne hk (fun cells t e=>by cases e)
 have hT3:∀ k,P k->¬ T3 w k:=fun k hp ⟨cells,h3⟩=>hcell h3 (by decide) (by decide) hp
 obtain ⟨es1,cl1,m1⟩:=hc.objs.mapb
 obtain ⟨es2,cl2,m2⟩:=hc.own.mapb
 refine ⟨(hg.block _ (blk_lt h.box) (hcell h.box (by decide) (by decide))).trans h.box,⟨ad,hc.gs hg (hcell hc.box (by decide) (by decide)) (hmap m1) (hmap m2) hT3⟩,?_,h.fd.fr hf,h.eb,h.nq,h.ge⟩
 refine h.ax.keep hf (fun k hk=>hg.block k (h.ax.S_ge hk).2.2 (fun hp=>?_))
 obtain ⟨_,cells,t,h2,h3⟩:=hP k (h.ax.S_ge hk).2.2 hp
 exact h.ax.not_cells h2 (by rcases h3 with rfl|rfl <;> decide) hk
theorem St.far (h:St B w s c b1 b2 a f K M Z T L O Q Tk E ar ba ct p) {P:Nat->Prop} (hg:Gs P w W) (hP:∀ k,k < w.heap.size->P k->B<=k/\∃ cells t,w.heap[k]?=some (.cells cells t (0,0))/\(t=43∨t=30)):St B W s c b1 b2 a f K M Z T L O Q Tk E ar ba ct p:=⟨h.sb.far hg hP,h.wf,h.str,h.ep,h.lg⟩
theorem St.B_le (h:St B w s c b1 b2 a f K M Z T L O Q Tk E ar ba ct p):B<=w.heap.size:=by
 have h1:=blk_lt h.sb.box
 have h2:=h.sb.ge.1
 omega
def CliP (B:Nat) (w w':World) (e:Ending) (s c b1 b2 a f:Nat) (K M Z T L O:Nat) (Q:Nat->Prop) (Tk:Nat) (p':Pst) (an:Ans):Prop :=
 (∃ u,e=.returned u/\AnsV B w' u an)/\PutR B w w' s c b1 b2 a f K M Z T L O Q Tk p'
theorem cli_end {W5 W7:World} {w0:World} (h:PutR B w0 W5 s c b1 b2 a f K M Z T L O Q Tk p) (hb0:Below w.heap.size w w0) (hB:B<=w.heap.size) {g:Nat} (hg:g=w.heap.size+1) (hgs:Gs (fun k=>k=g) W5 W7) {cs:Array Value} (hc:W5.heap[g]?=some (.cells cs 43 (0,0))) :
  PutR B w W7 s c b1 b2 a f K M Z T L O Q Tk p/\Fr B W5 W7:=by
 obtain ⟨Tk',E',ar',ba',ct',h1,h2,h3⟩:=h
 have hP:∀ k,k < W5.heap.size->k=g->B<=k/\∃ cells t,W5.heap[k]?=some (.cells cells t (0,0))/\(t=43∨t=30):=fun k hk e=>by
  subst e
  exact ⟨by omega,cs,43,hc,.inl rfl⟩
 exact ⟨⟨Tk',E',ar',ba',ct',h1.far hgs hP,h2,gs_new ((Gs.of_below hb0).trans h3) hgs (fun k e=>.inl (by omega))⟩,Gs.far hgs hP⟩
theorem c4_set {W:World} {g wd i:Nat} {s x:Value} {kd:Int} {k:ByteArray} {A:Option Addr} {n c:Nat} (h:W.cell? ⟨g,0,none⟩=some (.int .i64 kd)/\W.cell? ⟨g,1,none⟩=some (.string k)/\W.cell? ⟨g,2,none⟩=some (.slice A n c)/\W.cell? ⟨wd,0,none⟩=some s) (hw:wd < g):(W.setCell ⟨g+1,i,none⟩ x).cell? ⟨g,0,none⟩=some (.int .i64 kd)/\(W.setCell ⟨g+1,i,none⟩ x).cell? ⟨g,1,none⟩=some (.string k)/\(W.setCell ⟨g+1,i,none⟩ x).cell? ⟨g,2,none⟩=some (.slice A n c)/\(W.setCell ⟨g+1,i,none⟩ x).cell? ⟨wd,0,none⟩=some s :=
 ⟨(cset_ne (by omega)).trans h.1,(cset_ne (by omega)).trans h.2.1,(cset_ne (by omega)).trans h.2.2.1,(cset_ne (by omega)).trans h.2.2.2⟩
theorem St.notUs (h:St B w s c b1 b2 a f K M Z T L O Q Tk E ar ba ct p) {wd:Nat} (hw:wd < B):¬ Us Q s b1 b2 wd:=by
 have h1:=h.sb.ge
 rintro (hq|rfl|rfl|rfl)
 ·have:=(h.sb.ax.S_ge hq).1
  omega
 all_goals omega
theorem cb_put {w0 W5:World} {p':Pst} (h:St B w s c b1 b2 a f K M Z T L O Q Tk E ar ba ct p) (hb:Below w.heap.size w w0) {Tk0:Nat} (h5:PutR B w0 W5 s c b1 b2 a f K M Z T L O Q Tk0 p') {wd:Nat} {sv:Value} {kd:Int} {k:ByteArray} {A:Option Addr} {n c0:Nat} {d1 d2 d3 d4:Int} {v:Value} (hc:Cb w w0 wd sv kd k A n c0 d1 d2 d3 d4 v) (hw:¬ Us Q s b1 b2 wd):Cb w W5 wd sv kd k A n c0 d1 d2 d3 d4 v:=by
 obtain ⟨Tk',E',ar',ba',ct',h1,h2,h3⟩:=h5
 refine ⟨(h3.block _ (blk_lt hc.op) (fun hu=>by have:=h.sb.lt _ hu;omega)).trans hc.op,(h3.block _ (blk_lt hc.an) (fun hu=>by have:=h.sb.lt _ hu;omega)).trans hc.an,?_⟩
 have h4:=h3.block wd (World.block_lt_of_cell? _ _ hc.wd) hw
 have h5:=hc.wd
 unfold World.cell? at h5 ⊢
 rw [h4]
 exact h5
set_option maxRecDepth 100000 in
set_option maxHeartbeats 2000000 in
theorem cli_put (h:St B w s c b1 b2 a f K M Z T L O Q Tk E ar ba ct p) (hg:Geo K M Z T L O) {wd:Nat} (hwd:w.cell? ⟨wd,0,none⟩=some (.pointer (some ⟨s,0,none⟩))) (hwB:¬ Us Q s b1 b2 wd) {k:ByteArray} {d:List Int} {A:Option Addr} {c':Nat} (hd:Im B w (.slice A d.length c') d) (hdb:byteL d) (hdl:d.length<=1000) (hep:p.ep+1<=1000) (hT:Tk+2000<=1000000) (d1 d2 d3 d4:Int) (vk:Value) :
  Calls Tryz.prog 42 #[.pointer (some ⟨wd,0,none⟩),.agg (opC 1 k A d.length c' d1 d2 d3 d4 vk)] w fun e w'=>CliP B w w' e s c b1 b2 a f K M Z T L O Q Tk (putP (K*Z) T O p k d).1 ⟨(putP (K*Z) T O p k d).2,[],0,[]⟩:=by
 have hb0:Below w.heap.size w ((w.alloc (.cells (opC 1 k A d.length c' d1 d2 d3 d4 vk) 39)).alloc (.cells ans0 43)).drew:=below_drew1 (below_alloc (below_alloc (Below.refl _ _) _) _)
 have hwlt:=World.block_lt_of_cell? _ _ hwd
 have H0:=Aside0.mk (show Cb w ((w.alloc (.cells (opC 1 k A d.length c' d1 d2 d3 d4 vk) 39)).alloc (.cells ans0 43)).drew wd (.pointer (some ⟨s,0,none⟩)) 1 k A d.length c' d1 d2 d3 d4 vk from ⟨two0 w _ _,two1 w _ _,(hb0.cell (p:=⟨wd,0,none⟩) hwlt).trans hwd⟩)
 have HP:=Aside0.mk (cput_ok2 (h.below hb0) hg k (hd.fr (Fr.of_below hb0)) hdb hdl hep hT)
 have HH:=Aside0.mk (And.intro h (And.intro hb0 hwB))
 have HW:=Aside0.mk hwlt
 obtain ⟨r,hr⟩:∃ r,putP (K*Z) T O p k d=r:=⟨_,rfl⟩
 rw [hr] at HP ⊢
 unfold opC ans0 ansC at H0
 unfold opC
 clear h hg hd hdb hdl hep hT hr hb0
 go_enter Tryz.func42,Tryz.ntmps42
 go_wp2
 go_region_held3 (fun W=>W.cell? ⟨w.heap.size,0,none⟩=some (.int .i64 1)/\W.cell? ⟨w.heap.size,1,none⟩=some (.string k)/\W.cell? ⟨w.heap.size,2,none⟩=some (.slice A d.length c')/\W.cell? ⟨wd,0,none⟩=some (.pointer (some ⟨s,0,none⟩))) (first|with_reducible exact H0.out.all|with_reducible exact H5.out.1.all|with_reducible exact c4_set H5.out.1.all HW.out|with_reducible exact c4_set (c4_set H5.out.1.all HW.out) HW.out) (first|(go_at_call 62;go_loud (refine HP.out.mono ?_;rintro e5 w5 ⟨rfl,h5⟩;have H5:=Aside0.mk (And.intro (cb_put HH.out.1 HH.out.2.1 h5 H0.out HH.out.2.2) h5);obtain ⟨⟨z0,z1,z2,z3,z4,z5⟩,y0,y1,y2,y3,y4,y5⟩:=bx43 H5.out.1.an;clear h5)))
 have hbx:=set_cells H5.out.1.an 0 (.int .i64 r.2)
 have HX:=Aside0.mk hbx
 obtain ⟨W6,hW6⟩:∃ q,w5.setCell ⟨w.heap.size+1,0,none⟩ (.int .i64 r.2)=q:=⟨_,rfl⟩
 have hg6:Gs (fun k=>k=w.heap.size+1) w5 W6:=by rw [<- hW6];exact (Gs.refl (fun k=>k=w.heap.size+1) w5).set (.inr rfl) 0 _
 have hbx6:W6.heap[w.heap.size+1]?=some (.cells (ansC r.2 (.slice none 0 0) 0 (.slice none 0 0)) 43 (0,0)):=by rw [<- hW6];exact hbx
 have HG:=Aside0.mk hg6
 have HX6:=Aside0.mk hbx6
 obtain ⟨⟨z0',z1',z2',z3',z4',z5'⟩,y0',y1',y2',y3',y4',y5'⟩:=bx43 (by simpa only [ansC] using hbx6)
 rw [hW6]
 clear hbx hW6 hg6 hbx6 z0 z1 z2 z3 z4 z5 y0 y1 y2 y3 y4 y5 HX
 go_wp2
 refine bodyPost_ret (results_43 rfl _ _ (w.heap.size+1) (ansC r.2 (.slice none 0 0) 0 (.slice none 0 0)) rfl (bx_set6 HX6.out _ _ _ _ _ _) (by kernel_rfl)) rfl ?_
 exact ⟨⟨_,rfl,_,_,rfl,Im.nil _ _,ImS.nil _ _⟩,(cli_end H5.out.2 HH.out.2.1 HH.out.1.B_le rfl (HG.out.trans (gs_set6 _ _ _ _ _ _)) H5.out.1.an).1⟩
end
section
variable {B:Nat} {w W:World} {s c b1 b2 a f:Nat} {K M Z T L O:Nat} {Q:Nat->Prop} {Tk:Nat} {E:Nat->Int->List Int} {ar ba ct:Nat} {p:Pst}
set_option maxRecDepth 100000 in
set_option maxHeartbeats 2000000 in
theorem cli_del (h:St B w s c b1 b2 a f K M Z T L O Q Tk E ar ba ct p) (hg:Geo K M Z T L O) {wd:Nat} (hwd:w.cell? ⟨wd,0,none⟩=some (.pointer (some ⟨s,0,none⟩))) (hwB:wd < B) {k:ByteArray} {A:Option Addr} {n9 c':Nat} (hep:p.ep+1<=1000) (hT:Tk+2000<=1000000) (d1 d2 d3 d4:Int) (vk:Value) :
  Calls Tryz.prog 42 #[.pointer (some ⟨wd,0,none⟩),.agg (opC 3 k A n9 c' d1 d2 d3 d4 vk)] w fun e w'=>CliP B w w' e s c b1 b2 a f K M Z T L O Q Tk (delP p k).1 ⟨(delP p k).2,[],0,[]⟩:=by
 have hb0:Below w.heap.size w ((w.alloc (.cells (opC 3 k A n9 c' d1 d2 d3 d4 vk) 39)).alloc (.cells ans0 43)).drew:=below_drew1 (below_alloc (below_alloc (Below.refl _ _) _) _)
 have hwlt:=World.block_lt_of_cell? _ _ hwd
 have H0:=Aside0.mk (show Cb w ((w.alloc (.cells (opC 3 k A n9 c' d1 d2 d3 d4 vk) 39)).alloc (.cells ans0 43)).drew wd (.pointer (some ⟨s,0,none⟩)) 3 k A n9 c' d1 d2 d3 d4 vk from ⟨two0 w _ _,two1 w _ _,(hb0.cell (p:=⟨wd,0,none⟩) hwlt).trans hwd⟩)
 have HP:=Aside0.mk (cdel_ok (h.below hb0) hg k hep hT)
 have HH:=Aside0.mk (And.intro h (And.intro hb0 (h.notUs hwB)))
 have HW:=Aside0.mk hwlt
 obtain ⟨r,hr⟩:∃ r,delP p k=r:=⟨_,rfl⟩
 rw [hr] at HP ⊢
 unfold opC ans0 ansC at H0
 unfold opC
 clear h hg hep hT hr hb0
 go_enter Tryz.func42,Tryz.ntmps42
 go_wp2
 go_region_held3 (fun W=>W.cell? ⟨w.heap.size,0,none⟩=some (.int .i64 3)/\W.cell? ⟨w.heap.size,1,none⟩=some (.string k)/\W.cell? ⟨w.heap.size,2,none⟩=some (.slice A n9 c')/\W.cell? ⟨wd,0,none⟩=some (.pointer (some ⟨s,0,none⟩))) (first|with_reducible exact H0.out.all|with_reducible exact H5.out.1.all|with_reducible exact c4_set H5.out.1.all HW.out|with_reducible exact c4_set (c4_set H5.out.1.all HW.out) HW.out) (first|(go_at_call 64;go_loud (refine HP.out.mono ?_;rintro e5 w5 ⟨rfl,h5⟩;have H5:=Aside0.mk (And.intro (cb_put HH.out.1 HH.out.2.1 h5 H0.out HH.out.2.2) h5);obtain ⟨⟨z0,z1,z2,z3,z4,z5⟩,y0,y1,y2,y3,y4,y5⟩:=bx43 H5.out.1.an;clear h5)))
 have hbx:=set_cells H5.out.1.an 0 (.int .i64 r.2)
 have HX:=Aside0.mk hbx
 obtain ⟨W6,hW6⟩:∃ q,w5.setCell ⟨w.heap.size+1,0,none⟩ (.int .i64 r.2)=q:=⟨_,rfl⟩
 have hg6:Gs (fun k=>k=w.heap.size+1) w5 W6:=by rw [<- hW6];exact (Gs.refl (fun k=>k=w.heap.size+1) w5).set (.inr rfl) 0 _
 have hbx6:W6.heap[w.heap.size+1]?=some (.cells (ansC r.2 (.slice none 0 0) 0 (.slice none 0 0)) 43 (0,0)):=by rw [<- hW6];exact hbx
 have HG:=Aside0.mk hg6
 have HX6:=Aside0.mk hbx6
 obtain ⟨⟨z0',z1',z2',z3',z4',z5'⟩,y0',y1',y2',y3',y4',y5'⟩:=bx43 (by simpa only [ansC] using hbx6)
 rw [hW6]
 clear hbx hW6 hg6 hbx6 z0 z1 z2 z3 z4 z5 y0 y1 y2 y3 y4 y5 HX
 go_wp2
 refine bodyPost_ret (results_43 rfl _ _ (w.heap.size+1) (ansC r.2 (.slice none 0 0) 0 (.slice none 0 0)) rfl (bx_set6 HX6.out _ _ _ _ _ _) (by kernel_rfl)) rfl ?_
 exact ⟨⟨_,rfl,_,_,rfl,Im.nil _ _,ImS.nil _ _⟩,(cli_end H5.out.2 HH.out.2.1 HH.out.1.B_le rfl (HG.out.trans (gs_set6 _ _ _ _ _ _)) H5.out.1.an).1⟩
theorem cb_below {w0:World} {wd:Nat} {sv:Value} {kd:Int} {k:ByteArray} {A:Option Addr} {n c0:Nat} {d1 d2 d3 d4:Int} {v:Value} (hc:Cb w w0 wd sv kd k A n c0 d1 d2 d3 d4 v) (hb:Below w0.heap.size w0 W):Cb w W wd sv kd k A n c0 d1 d2 d3 d4 v :=
 ⟨(hb.block _ (blk_lt hc.op)).trans hc.op,(hb.block _ (blk_lt hc.an)).trans hc.an,(hb.cell (p:=⟨wd,0,none⟩) (World.block_lt_of_cell? _ _ hc.wd)).trans hc.wd⟩
set_option maxRecDepth 100000 in
set_option maxHeartbeats 2000000 in
theorem cli_get_gen {wd:Nat} (hwd:w.cell? ⟨wd,0,none⟩=some (.pointer (some ⟨s,0,none⟩))) (hB:B<=w.heap.size) {k:ByteArray} {r:List Int×Int} (hc:∀ W,Below w.heap.size w W->Calls Tryz.prog 63 #[.pointer (some ⟨s,0,none⟩),.string k] W fun e w'=>∃ v,e=.returned (.tuple #[v,.int .i64 r.2])/\Im B w' v r.1/\Below W.heap.size W w') {A:Option Addr} {n9 c':Nat} (d1 d2 d3 d4:Int) (vk:Value) :
  Calls Tryz.prog 42 #[.pointer (some ⟨wd,0,none⟩),.agg (opC 2 k A n9 c' d1 d2 d3 d4 vk)] w fun e w'=>(∃ u,e=.returned u/\AnsV B w' u ⟨r.2,r.1,0,[]⟩)/\Below w.heap.size w w':=by
 have hb0:Below w.heap.size w ((w.alloc (.cells (opC 2 k A n9 c' d1 d2 d3 d4 vk) 39)).alloc (.cells ans0 43)).drew:=below_drew1 (below_alloc (below_alloc (Below.refl _ _) _) _)
 have hwlt:=World.block_lt_of_cell? _ _ hwd
 have H0:=Aside0.mk (show Cb w ((w.alloc (.cells (opC 2 k A n9 c' d1 d2 d3 d4 vk) 39)).alloc (.cells ans0 43)).drew wd (.pointer (some ⟨s,0,none⟩)) 2 k A n9 c' d1 d2 d3 d4 vk from ⟨two0 w _ _,two1 w _ _,(hb0.cell (p:=⟨wd,0,none⟩) hwlt).trans hwd⟩)
 have HP:=Aside0.mk (hc _ hb0)
 have HH:=Aside0.mk (And.intro hb0 hB)
 have HW:=Aside0.mk hwlt
 unfold opC ans0 ansC at H0
 unfold opC
 clear hc hb0 hB
 go_enter Tryz.func42,Tryz.ntmps42
 go_wp2
 go_region_held3 (fun W=>W.cell? ⟨w.heap.size,0,none⟩=some (.int .i64 2)/\W.cell? ⟨w.heap.size,1,none⟩=some (.string k)/\W.cell? ⟨w.heap.size,2,none⟩=some (.slice A n9 c')/\W.cell? ⟨wd,0,none⟩=some (.pointer (some ⟨s,0,none⟩))) (first|with_reducible exact H0.out.all|with_reducible exact H5.out.1.all|with_reducible exact c4_set H5.out.1.all HW.out|with_reducible exact c4_set (c4_set H5.out.1.all HW.out) HW.out) (first|(go_at_call 63;go_loud (refine HP.out.mono ?_;rintro e5 w5 ⟨v5,rfl,hv5,hb5⟩;have hv6:=hv5;obtain ⟨A5,c5,e55,_,_⟩:=hv6.slice;subst e55;clear hv6;have HV:=Aside0.mk hv5;have H5:=Aside0.mk (And.intro (cb_below H0.out hb5) (below_step HH.out.1 hb5));obtain ⟨⟨z0,z1,z2,z3,z4,z5⟩,y0,y1,y2,y3,y4,y5⟩:=bx43 H5.out.1.an;clear hv5 hb5)))
 have hbx:=set_cells (set_cells H5.out.1.an 1 (.slice A5 r.1.length c5)) 0 (.int .i64 r.2)
 have HX:=Aside0.mk hbx
 obtain ⟨W6,hW6⟩:∃ q,(w5.setCell ⟨w.heap.size+1,1,none⟩ (.slice A5 r.1.length c5)).setCell ⟨w.heap.size+1,0,none⟩ (.int .i64 r.2)=q:=⟨_,rfl⟩
 have hg6:Gs (fun k=>k=w.heap.size+1) w5 W6:=by rw [<- hW6];exact ((Gs.refl (fun k=>k=w.heap.size+1) w5).set (.inr rfl) 1 _).set (.inr rfl) 0 _
 have hbx6:W6.heap[w.heap.size+1]?=some (.cells (ansC r.2 (.slice A5 r.1.length c5) 0 (.slice none 0 0)) 43 (0,0)):=by rw [<- hW6];exact hbx
 have HG:=Aside0.mk hg6
 have HX6:=Aside0.mk hbx6
 obtain ⟨⟨z0',z1',z2',z3',z4',z5'⟩,y0',y1',y2',y3',y4',y5'⟩:=bx43 (by simpa only [ansC] using hbx6)
 rw [hW6]
 clear hbx hW6 hg6 hbx6 z0 z1 z2 z3 z4 z5 y0 y1 y2 y3 y4 y5 HX
 go_wp2
 refine bodyPost_ret (results_43 rfl _ _ (w.heap.size+1) (ansC r.2 (.slice A5 r.1.length c5) 0 (.slice none 0 0)) rfl (bx_set6 HX6.out _ _ _ _ _ _) (by kernel_rfl)) rfl ?_
 have hg7:=HG.out.trans (gs_set6 (w:=W6) (b:=w.heap.size+1) (.int .i64 r.2) (.slice A5 r.1.length c5) (.int .i64 0) (.slice none 0 0) (.int .i64 0) (.bool false))
 exact ⟨⟨_,rfl,_,_,rfl,HV.out.fr (Gs.far hg7 (fun k hk e=>by subst e;exact ⟨by have:=HH.out.2;omega,_,43,H5.out.1.an,.inl rfl⟩)),ImS.nil _ _⟩,below_of_gs H5.out.2 hg7 (fun k e=>by omega)⟩
theorem cli_get (h:St B w s c b1 b2 a f K M Z T L O Q Tk E ar ba ct p) (hg:Geo K M Z T L O) {wd:Nat} (hwd:w.cell? ⟨wd,0,none⟩=some (.pointer (some ⟨s,0,none⟩))) (hwB:wd < B) {k:ByteArray} {A:Option Addr} {n9 c':Nat} (d1 d2 d3 d4:Int) (vk:Value) :
  Calls Tryz.prog 42 #[.pointer (some ⟨wd,0,none⟩),.agg (opC 2 k A n9 c' d1 d2 d3 d4 vk)] w fun e w'=>CliP B w w' e s c b1 b2 a f K M Z T L O Q Tk p ⟨(getP p k).2,(getP p k).1,0,[]⟩:=by
 refine (cli_get_gen hwd h.B_le (fun W hb=>cget_st (h.below hb) hg k) d1 d2 d3 d4 vk).mono ?_
 rintro e w' ⟨h1,h2⟩
 exact ⟨h1,PutR.same h h2⟩
set_option maxRecDepth 100000 in
set_option maxHeartbeats 2000000 in
theorem cli_stat (h:St B w s c b1 b2 a f K M Z T L O Q Tk E ar ba ct p) (hg:Geo K M Z T L O) {wd:Nat} (hwd:w.cell? ⟨wd,0,none⟩=some (.pointer (some ⟨s,0,none⟩))) (hwB:wd < B) {k:ByteArray} {A:Option Addr} {n9 c':Nat} (d1 d2 d3 d4:Int) (vk:Value) :
  Calls Tryz.prog 42 #[.pointer (some ⟨wd,0,none⟩),.agg (opC 4 k A n9 c' d1 d2 d3 d4 vk)] w fun e w'=>CliP B w w' e s c b1 b2 a f K M Z T L O Q Tk p ⟨(statP p k).2,[],(statP p k).1,[]⟩:=by
 have hb0:Below w.heap.size w ((w.alloc (.cells (opC 4 k A n9 c' d1 d2 d3 d4 vk) 39)).alloc (.cells ans0 43)).drew:=below_drew1 (below_alloc (below_alloc (Below.refl _ _) _) _)
 have hwlt:=World.block_lt_of_cell? _ _ hwd
 have H0:=Aside0.mk (show Cb w ((w.alloc (.cells (opC 4 k A n9 c' d1 d2 d3 d4 vk) 39)).alloc (.cells ans0 43)).drew wd (.pointer (some ⟨s,0,none⟩)) 4 k A n9 c' d1 d2 d3 d4 vk from ⟨two0 w _ _,two1 w _ _,(hb0.cell (p:=⟨wd,0,none⟩) hwlt).trans hwd⟩)
 have HP:=Aside0.mk (cstat_ok (h.below hb0) k)
 have HH:=Aside0.mk (And.intro h (And.intro hb0 (h.notUs hwB)))
 have HW:=Aside0.mk hwlt
 obtain ⟨r,hr⟩:∃ r,statP p k=r:=⟨_,rfl⟩
 rw [hr] at HP ⊢
 unfold opC ans0 ansC at H0
 unfold opC
 clear h hg hr hb0
 go_enter Tryz.func42,Tryz.ntmps42
 go_wp2
 go_region_held3 (fun W=>W.cell? ⟨w.heap.size,0,none⟩=some (.int .i64 4)/\W.cell? ⟨w.heap.size,1,none⟩=some (.string k)/\W.cell? ⟨w.heap.size,2,none⟩=some (.slice A n9 c')/\W.cell? ⟨wd,0,none⟩=some (.pointer (some ⟨s,0,none⟩))) (first|with_reducible exact H0.out.all|with_reducible exact H5.out.1.all|with_reducible exact c4_set H5.out.1.all HW.out|with_reducible exact c4_set (c4_set H5.out.1.all HW.out) HW.out) (first|(go_at_call 65;go_loud (refine HP.out.mono ?_;rintro e5 w5 ⟨rfl,hb5⟩;have h5:=PutR.same (HH.out.1.below HH.out.2.1) hb5;have H5:=Aside0.mk (And.intro (cb_put HH.out.1 HH.out.2.1 h5 H0.out HH.out.2.2) h5);obtain ⟨⟨z0,z1,z2,z3,z4,z5⟩,y0,y1,y2,y3,y4,y5⟩:=bx43 H5.out.1.an;clear h5 hb5)))
 have hbx:=set_cells (set_cells H5.out.1.an 2 (.int .i64 r.1)) 0 (.int .i64 r.2)
 have HX:=Aside0.mk hbx
 obtain ⟨W6,hW6⟩:∃ q,(w5.setCell ⟨w.heap.size+1,2,none⟩ (.int .i64 r.1)).setCell ⟨w.heap.size+1,0,none⟩ (.int .i64 r.2)=q:=⟨_,rfl⟩
 have hg6:Gs (fun k=>k=w.heap.size+1) w5 W6:=by rw [<- hW6];exact ((Gs.refl (fun k=>k=w.heap.size+1) w5).set (.inr rfl) 2 _).set (.inr rfl) 0 _
 have hbx6:W6.heap[w.heap.size+1]?=some (.cells (ansC r.2 (.slice none 0 0) r.1 (.slice none 0 0)) 43 (0,0)):=by rw [<- hW6];exact hbx
 have HG:=Aside0.mk hg6
 have HX6:=Aside0.mk hbx6
 obtain ⟨⟨z0',z1',z2',z3',z4',z5'⟩,y0',y1',y2',y3',y4',y5'⟩:=bx43 (by simpa only [ansC] using hbx6)
 rw [hW6]
 clear hbx hW6 hg6 hbx6 z0 z1 z2 z3 z4 z5 y0 y1 y2 y3 y4 y5 HX
 go_wp2
 refine bodyPost_ret (results_43 rfl _ _ (w.heap.size+1) (ansC r.2 (.slice none 0 0) r.1 (.slice none 0 0)) rfl (bx_set6 HX6.out _ _ _ _ _ _) (by kernel_rfl)) rfl ?_
 exact ⟨⟨_,rfl,_,_,rfl,Im.nil _ _,ImS.nil _ _⟩,(cli_end H5.out.2 HH.out.2.1 HH.out.1.B_le rfl (HG.out.trans (gs_set6 _ _ _ _ _ _)) H5.out.1.an).1⟩
set_option maxRecDepth 100000 in
set_option maxHeartbeats 2000000 in
theorem cli_list (h:St B w s c b1 b2 a f K M Z T L O Q Tk E ar ba ct p) (hg:Geo K M Z T L O) {wd:Nat} (hwd:w.cell? ⟨wd,0,none⟩=some (.pointer (some ⟨s,0,none⟩))) (hwB:wd < B) {k:ByteArray} {A:Option Addr} {n9 c':Nat} (d1 d2 d3 d4:Int) (vk:Value) :
  Calls Tryz.prog 42 #[.pointer (some ⟨wd,0,none⟩),.agg (opC 5 k A n9 c' d1 d2 d3 d4 vk)] w fun e w'=>CliP B w w' e s c b1 b2 a f K M Z T L O Q Tk p ⟨0,[],0,(allS p.S).map fun o=>o.f0⟩:=by
 have hg':=hg.good
 unfold LayA.Good at hg'
 have hb0:Below w.heap.size w ((w.alloc (.cells (opC 5 k A n9 c' d1 d2 d3 d4 vk) 39)).alloc (.cells ans0 43)):=below_alloc (below_alloc (Below.refl _ _) _) _
 have hwlt:=World.block_lt_of_cell? _ _ hwd
 have H0:=Aside0.mk (show Cb w ((w.alloc (.cells (opC 5 k A n9 c' d1 d2 d3 d4 vk) 39)).alloc (.cells ans0 43)) wd (.pointer (some ⟨s,0,none⟩)) 5 k A n9 c' d1 d2 d3 d4 vk from ⟨two0 w _ _,two1 w _ _,(hb0.cell (p:=⟨wd,0,none⟩) hwlt).trans hwd⟩)
 have HP:=Aside0.mk (clist_ok (h.below hb0) (by omega))
 have HH:=Aside0.mk (And.intro h (And.intro hb0 (h.notUs hwB)))
 have hal:=allS_len p.S
 obtain ⟨r,hr⟩:∃ r,(allS p.S).map (fun o=>o.f0)=r:=⟨_,rfl⟩
 have hrl:p.S.length=r.length:=by rw [<- hr,List.length_map,hal]
 rw [hrl,show ((allS p.S).map fun o=>Value.string o.f0)=r.map Value.string by rw [<- hr,List.map_map];rfl] at HP
 rw [hr]
 unfold opC ans0 ansC at H0
 unfold opC
 obtain ⟨q0,q1,q2,q3⟩:=H0.out.all
 clear h hg hg' hr hb0 hal hrl
 go_enter Tryz.func42,Tryz.ntmps42
 go_upto_region 16 with (first|(go_at_call 66;go_loud (refine HP.out.mono ?_;rintro e5 w5 ⟨v5,rfl,hv5,hb5⟩;have hv6:=hv5;obtain ⟨A5,c5,e55,_⟩:=own_slice2 hv6;subst e55;clear hv6;have h5:=PutR.same (HH.out.1.below HH.out.2.1) hb5;have HV:=Aside0.mk (ImS.of_own (B:=B) hv5);have H5:=Aside0.mk (And.intro (cb_put HH.out.1 HH.out.2.1 h5 H0.out HH.out.2.2) h5);obtain ⟨⟨z0,z1,z2,z3,z4,z5⟩,y0,y1,y2,y3,y4,y5⟩:=bx43 H5.out.1.an;clear h5 hv5 hb5)))
 have hbx:=set_cells (set_cells H5.out.1.an 3 (.slice A5 r.length c5)) 0 (.int .i64 0)
 obtain ⟨W6,hW6⟩:∃ q,(w5.setCell ⟨w.heap.size+1,3,none⟩ (.slice A5 r.length c5)).setCell ⟨w.heap.size+1,0,none⟩ (.int .i64 0)=q:=⟨_,rfl⟩
 have hg6:Gs (fun k=>k=w.heap.size+1) w5 W6:=by rw [<- hW6];exact ((Gs.refl (fun k=>k=w.heap.size+1) w5).set (.inr rfl) 3 _).set (.inr rfl) 0 _
 have hbx6:W6.heap[w.heap.size+1]?=some (.cells (ansC 0 (.slice none 0 0) 0 (.slice A5 r.length c5)) 43 (0,0)):=by rw [<- hW6];exact hbx
 have HG:=Aside0.mk hg6
 have HX6:=Aside0.mk hbx6
 obtain ⟨⟨z0',z1',z2',z3',z4',z5'⟩,y0',y1',y2',y3',y4',y5'⟩:=bx43 (by simpa only [ansC] using hbx6)
 rw [hW6]
 clear hbx hW6 hg6 hbx6 z0 z1 z2 z3 z4 z5 y0 y1 y2 y3 y4 y5 q0 q1 q2 q3
 go_wp2
 refine bodyPost_ret (results_43 rfl _ _ (w.heap.size+1) (ansC 0 (.slice none 0 0) 0 (.slice A5 r.length c5)) rfl (bx_set6 HX6.out _ _ _ _ _ _) (by kernel_rfl)) rfl ?_
 have hfin:=fun W7 hg7=>cli_end (W7:=W7) H5.out.2 HH.out.2.1 HH.out.1.B_le rfl hg7 H5.out.1.an
 exact ⟨⟨_,rfl,_,_,rfl,Im.nil _ _,HV.out.fr (hfin _ (HG.out.trans (gs_set6 _ _ _ _ _ _))).2⟩,(hfin _ (HG.out.trans (gs_set6 _ _ _ _ _ _))).1⟩
end
section
variable {B:Nat} {w W:World} {s c b1 b2 a f:Nat} {K M Z T L O:Nat} {Q:Nat->Prop} {Tk:Nat} {E:Nat->Int->List Int} {ar ba ct:Nat} {p p':Pst}
def Fk (w W:World):Prop:=∀ (k:Nat) (cells:Array Value) (t:Nat),w.heap[k]?=some (.cells cells t (0,0))->(t=43∨t=30)->W.heap[k]?=w.heap[k]?
def Okv (B:Nat) (I:World->Prop):Prop:=∀ (W W':World) (P:Nat->Prop),I W->Gs P W W'->(∀ k,k < W.heap.size->P k->B<=k/\∃ cells t,W.heap[k]?=some (.cells cells t (0,0))/\(t=43∨t=30))->I W'
theorem Okv.below {I:World->Prop} (h:Okv B I) (hI:I w) (hb:Below w.heap.size w W):I W:=h w W (fun _=>False) hI (Gs.of_below hb) (fun _ _ e=>e.elim)
def OpR (B:Nat) (I:World->Prop) (w w':World) (e:Ending) (an:Ans):Prop:=(∃ u,e=.returned u/\AnsV B w' u an)/\I w'/\Fr B w w'/\Fk w w'
def StI (B:Nat) (s c b1 b2 a f:Nat) (K M Z T L O:Nat) (Q:Nat->Prop) (Tk:Nat) (p:Pst) (W:World):Prop:=∃ Tk' E' ar' ba' ct',St B W s c b1 b2 a f K M Z T L O Q Tk' E' ar' ba' ct' p/\Tk'<=Tk
theorem StI.okv:Okv B (StI B s c b1 b2 a f K M Z T L O Q Tk p):=fun W W' P ⟨_,_,_,_,_,h,h2⟩ hg hP=>⟨_,_,_,_,_,h.far hg hP,h2⟩
theorem Us.cells (h:St B w s c b1 b2 a f K M Z T L O Q Tk E ar ba ct p) {k t:Nat} {cells:Array Value} (hk:w.heap[k]?=some (.cells cells t (0,0))) (ht:(t≠119/\t≠90/\t≠95)/\t≠110):¬ Us Q s b1 b2 k:=by
 obtain ⟨ad,hc⟩:=h.sb.cat
 rintro (hq|rfl|rfl|rfl)
 ·exact h.sb.ax.not_cells hk ht.1 hq
 ·have h1:=h.sb.box
  rw [hk] at h1
  cases h1
  exact ht.2 rfl
 ·obtain ⟨es,cl,h1⟩:=hc.objs.mapb
  rw [hk] at h1
  cases h1
 ·obtain ⟨es,cl,h1⟩:=hc.own.mapb
  rw [hk] at h1
  cases h1
theorem CliP.op (h:St B w s c b1 b2 a f K M Z T L O Q Tk E ar ba ct p) {w':World} {e:Ending} {an:Ans} (h5:CliP B w w' e s c b1 b2 a f K M Z T L O Q Tk p' an):OpR B (StI B s c b1 b2 a f K M Z T L O Q (Tk+2000) p') w w' e an:=by
 obtain ⟨h1,Tk',E',ar',ba',ct',h2,h3,h4⟩:=h5
 exact ⟨h1,⟨Tk',E',ar',ba',ct',h2,h3⟩,h.sb.fr h4,fun k cells t hk ht=>h4.block k (blk_lt hk) (Us.cells h hk (by rcases ht with rfl|rfl <;> decide))⟩
theorem op_end {I:World->Prop} (hI:Okv B I) {w0 W5 W7:World} (h5:I W5/\Fr B w0 W5/\Fk w0 W5) (hb:Below w.heap.size w w0) (hB:B<=w.heap.size) (hg:Gs (fun k=>k=w.heap.size+1) W5 W7) {cs:Array Value} (hc:W5.heap[w.heap.size+1]?=some (.cells cs 43 (0,0))) :
  (I W7/\Fr B w W7/\Fk w W7)/\Fr B W5 W7:=by
 have hP:∀ k,k < W5.heap.size->k=w.heap.size+1->B<=k/\∃ cells t,W5.heap[k]?=some (.cells cells t (0,0))/\(t=43∨t=30):=fun k hk e=>by
  subst e
  exact ⟨by omega,cs,43,hc,.inl rfl⟩
 have hf:=Gs.far hg hP
 refine ⟨⟨hI _ _ _ h5.1 hg hP,((Fr.of_below hb).trans h5.2.1).trans hf,fun k cells t hk ht=>?_⟩,hf⟩
 have hlt:=blk_lt hk
 have h1:=(hb.block k hlt).trans hk
 have h2:=(h5.2.2 k cells t h1 ht).trans h1
 exact ((hg.block k (blk_lt h2) (by omega)).trans h2).trans hk.symm
set_option maxRecDepth 100000 in
set_option maxHeartbeats 4000000 in
theorem do_gen {I:World->Prop} (hI:Okv B I) (hB:B<=w.heap.size) {wd:Nat} {kd:Int} (hkd:kd=1∨kd=2∨kd=3∨kd=4∨kd=5) {k:ByteArray} {A:Option Addr} {n9 c':Nat} {d1 d2 d3 d4:Int} {A':Option Addr} {n' c9:Nat} {an:Ans}
  (hc:∀ W,Below w.heap.size w W->Calls Tryz.prog 42 #[.pointer (some ⟨wd,0,none⟩),.agg (opC kd k A n9 c' d1 d2 d3 d4 (.slice A' n' c9))] W fun e w'=>OpR B I W w' e an) :
  Calls Tryz.prog 22 #[.pointer (some ⟨wd,0,none⟩),.agg (opC kd k A n9 c' d1 d2 d3 d4 (.slice A' n' c9))] w fun e w'=>OpR B I w w' e an:=by
 have hb0:Below w.heap.size w ((w.alloc (.cells (opC kd k A n9 c' d1 d2 d3 d4 (.slice A' n' c9)) 39)).alloc (.cells ans0 43)):=below_alloc (below_alloc (Below.refl _ _) _) _
 have hop:((w.alloc (.cells (opC kd k A n9 c' d1 d2 d3 d4 (.slice A' n' c9)) 39)).alloc (.cells ans0 43)).heap[w.heap.size]?=some (.cells (opC kd k A n9 c' d1 d2 d3 d4 (.slice A' n' c9)) 39 (0,0)):=two0 w _ _
 have han:((w.alloc (.cells (opC kd k A n9 c' d1 d2 d3 d4 (.slice A' n' c9)) 39)).alloc (.cells ans0 43)).heap[w.heap.size+1]?=some (.cells ans0 43 (0,0)):=two1 w _ _
 have HC:=Aside0.mk (hc _ hb0)
 have HH:=Aside0.mk (And.intro hI (And.intro hb0 (And.intro hB (And.intro hop han))))
 unfold opC ans0 ansC at HC HH
 unfold opC
 clear hI hB hc hb0 hop han
 rcases hkd with rfl|rfl|rfl|rfl|rfl
 all_goals
  go_enter Tryz.func22,Tryz.ntmps22
  go_upto_region 20 with (first|(go_at_call 42;go_loud (refine HC.out.mono ?_;rintro e5 w5 ⟨⟨u5,rfl,vd5,vk5,rfl,hd5,hk5⟩,h5⟩;have hd6:=hd5;obtain ⟨A5,c5,e55,_,_⟩:=hd6.slice;have hk6:=hk5;obtain ⟨A6,c6,e66,_,_⟩:=hk6;subst e55 e66;clear hd6;have HV:=Aside0.mk (And.intro hd5 hk5);have hb5:=((h5.2.2 _ _ _ HH.out.2.2.2.2 (.inl rfl)).trans HH.out.2.2.2.2);have H5:=Aside0.mk (And.intro hb5 h5);obtain ⟨⟨z0,z1,z2,z3,z4,z5⟩,y0,y1,y2,y3,y4,y5⟩:=bx43 hb5;unfold ansC;clear h5 hd5 hk5 hb5)))
  have hbx6:=bx_set6 H5.out.1 (.int .i64 an.err) (.slice A5 an.data.length c5) (.int .i64 an.len) (.slice A6 an.keys.length c6) (.int .i64 0) (.bool false)
  have hg6:=gs_set6 (w:=w5) (b:=w.heap.size+1) (.int .i64 an.err) (.slice A5 an.data.length c5) (.int .i64 an.len) (.slice A6 an.keys.length c6) (.int .i64 0) (.bool false)
  generalize ((((((w5.setCell ⟨w.heap.size+1,0,none⟩ (.int .i64 an.err)).setCell ⟨w.heap.size+1,1,none⟩ (.slice A5 an.data.length c5)).setCell ⟨w.heap.size+1,2,none⟩ (.int .i64 an.len)).setCell ⟨w.heap.size+1,3,none⟩ (.slice A6 an.keys.length c6)).setCell ⟨w.heap.size+1,4,none⟩ (.int .i64 0)).setCell ⟨w.heap.size+1,5,none⟩ (.bool false))=W6 at hbx6 hg6 ⊢
  have HG:=Aside0.mk hg6
  have HX6:=Aside0.mk hbx6
  obtain ⟨⟨z0',z1',z2',z3',z4',z5'⟩,y0',y1',y2',y3',y4',y5'⟩:=bx43 hbx6
  clear hg6 hbx6 z0 z1 z2 z3 z4 z5 y0 y1 y2 y3 y4 y5
  go_wp2
  refine bodyPost_ret (results_43 rfl _ _ (w.heap.size+1) (ansC an.err (.slice A5 an.data.length c5) an.len (.slice A6 an.keys.length c6)) rfl (bx_set6 HX6.out _ _ _ _ _ _) (by kernel_rfl)) rfl ?_
  have hfin:=fun W7 hg7=>op_end (W7:=W7) HH.out.1 H5.out.2 HH.out.2.1 HH.out.2.2.1 hg7 H5.out.1
  exact ⟨⟨_,rfl,_,_,rfl,HV.out.1.fr (hfin _ (HG.out.trans (gs_set6 _ _ _ _ _ _))).2,HV.out.2.fr (hfin _ (HG.out.trans (gs_set6 _ _ _ _ _ _))).2⟩,(hfin _ (HG.out.trans (gs_set6 _ _ _ _ _ _))).1⟩
end
section
variable {B:Nat} {w W:World} {a f:Nat} {K M Z T L O:Nat} {Q:Nat->Prop} {sec:Int} {Tk:Nat} {dead:Nat->Bool} {E:Nat->Int->List Int} {cl:Bool}
set_option maxRecDepth 100000 in
set_option maxHeartbeats 2000000 in
theorem ccheck2_ok (hx:Ax B w a Q sec (K+M) Tk dead E cl) (f:Nat) (hg:LayA.Good K M Z T L O) :
  Calls Tryz.prog 35 #[.pointer (some ⟨a,0,none⟩),.pointer (some ⟨f,0,none⟩),geoV K M Z T L O] w fun e w'=>e=.returned (.int .i64 0)/\Below w.heap.size w w':=by
 have hg':=hg
 unfold LayA.Good at hg'
 have HG:=Aside0.mk (fun W=>gcheck_ok hg W)
 have HL0:=Aside0.mk (show Gb w (w.alloc (.cells (geoC K M Z T L O) 23)) w.heap.size K M Z T L O from ⟨heap_alloc_new w _,below_alloc (Below.refl w.heap.size w) _⟩)
 have HX:=Aside0.mk (fun (W:World) (hb:Below w.heap.size w W)=>(hx.below hb).live)
 have gw:IntKind.i64.wrap ((K:Int)+M)=((K+M:Nat):Int):=(i64_w _).trans (by rw [w64 _ (by omega)];simp)
 have gw2:wrap64 ((K:Int)+M)=((K+M:Nat):Int):=by rw [w64 _ (by omega)];simp
 obtain ⟨n,hn⟩:∃ n,K+M=n:=⟨_,rfl⟩
 rw [hn] at HX gw gw2
 unfold geoV at HG ⊢
 unfold geoC at HL0
 clear hx hg hg' hn
 go_enter Tryz.func35,Tryz.ntmps35
 go_upto_region 6 with (first|(go_at_call 12;go_loud (refine (HG.out _).mono ?_;rintro e2 w2 ⟨rfl,hb2⟩;have HL2:=Aside0.mk ((HL0.out.step hb2).step (below_drew1 (Below.refl _ _)));clear hb2)))
 go_region_held3 (fun W=>W.cell? ⟨w.heap.size,0,none⟩=some (.int .i64 K)/\W.cell? ⟨w.heap.size,1,none⟩=some (.int .i64 M)/\W.cell? ⟨w.heap.size,2,none⟩=some (.int .i64 Z)/\W.cell? ⟨w.heap.size,3,none⟩=some (.int .i64 T)/\W.cell? ⟨w.heap.size,4,none⟩=some (.int .i64 L)/\W.cell? ⟨w.heap.size,5,none⟩=some (.int .i64 O)/\Below w.heap.size w W) (first|with_reducible exact HL2.out.all|with_reducible exact HL3.out.all) (first|(go_at_call 50;go_loud (refine (HX.out _ HL2.out.2).mono ?_;rintro e3 w3 ⟨v3,rfl,hv3,hb3⟩;obtain ⟨A3,c3,rfl⟩:=Kd.R_slice hv3;rw [List.length_map,List.length_range];have HL3:=Aside0.mk (HL2.out.step hb3);clear hb3 hv3)))
 go_wp2
 go_ret
 exact ⟨rfl,HL3.out.2⟩
end
end Go.Proofs.YtmmcbncpnlknbaaGreat.Top
