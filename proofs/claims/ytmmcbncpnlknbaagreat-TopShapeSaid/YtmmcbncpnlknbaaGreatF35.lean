import Derived.Test.YtmmcbncpnlknbaaGreatF34
set_option linter.unusedVariables false
set_option linter.unusedSimpArgs false
namespace Go.Proofs.YtmmcbncpnlknbaaGreat.Top
open Go Go.RowKit Go.Proofs.YtmmcbncpnlknbaaGreatW.PrintWords Go.Proofs.YtmmcbncpnlknbaaGreatW.PrintLast Go.Proofs.YtmmcbncpnlknbaaGreatW.PrintMore
section
variable {B:Nat} {w W:World} {s c b1 b2 a f:Nat} {K M Z T L O:Nat} {Q:Nat->Prop} {Tk:Nat} {dead:Nat->Bool} {E:Nat->Int->List Int} {cl:Bool} {ar ba ct:Nat} {S:List Ob} {p:Pst}
theorem Gs.fr63 {P:Nat->Prop} {w W:World} (hg:Gs P w W) (hP:∀ k,k < w.heap.size->P k->B<=k/\∃ cells,w.heap[k]?=some (.cells cells 63 (0,0))):Fr B w W:=by
 refine hg.fr (fun k hk hp=>?_)
 obtain ⟨h1,cells,h2⟩:=hP k hk hp
 refine ⟨h1,?_⟩
 rintro ⟨cells',t',h4,h5⟩
 rw [h2] at h4
 injection h4 with h4
 injection h4 with _ h4
 exact h5 (by rw [<- h4];decide)
theorem Sb.fr63 (h:Sb B w s c b1 b2 a f K M Z T L O Q Tk dead E cl ar ba ct S) {P:Nat->Prop} (hg:Gs P w W) (hP:∀ k,k < w.heap.size->P k->B<=k/\∃ cells,w.heap[k]?=some (.cells cells 63 (0,0))):Sb B W s c b1 b2 a f K M Z T L O Q Tk dead E cl ar ba ct S:=by
 obtain ⟨ad,hc⟩:=h.cat
 have hf:=Gs.fr63 hg hP
 have hne:∀ {k:Nat} {o:Obj},w.heap[k]?=some o->(∀ cells t,o=.cells cells t (0,0)->t≠63)->¬ P k:=fun hk ho hp=>by
  obtain ⟨_,cells,h2⟩:=hP _ ((Array.getElem?_eq_some_iff.1 hk).1) hp
  rw [hk] at h2
  injection h2 with h2
  exact ho cells 63 h2 rfl
 have hcell:∀ {k:Nat} {cells:Array Value} {t:Nat},w.heap[k]?=some (.cells cells t (0,0))->t≠63->¬ P k:=fun hk h1=>hne hk (fun cells t e=>by cases e;exact h1)
 have hmap:∀ {k:Nat} {es:Array MapEntry} {cl:Nat},w.heap[k]?=some (.map es cl)->¬ P k:=fun hk=>hne hk (fun cells t e=>by cases e)
 have hT3:∀ k,P k->¬ T3 w k:=fun k hp ⟨cells,h3⟩=>hcell h3 (by decide) hp
 obtain ⟨es1,cl1,m1⟩:=hc.objs.mapb
 obtain ⟨es2,cl2,m2⟩:=hc.own.mapb
 refine ⟨(hg.block _ (blk_lt h.box) (hcell h.box (by decide))).trans h.box,⟨ad,hc.gs hg (hcell hc.box (by decide)) (hmap m1) (hmap m2) hT3⟩,?_,h.fd.fr hf,h.eb,h.nq,h.ge⟩
 refine h.ax.keep hf (fun k hk=>hg.block k (h.ax.S_ge hk).2.2 (fun hp=>?_))
 obtain ⟨_,cells,h2⟩:=hP k (h.ax.S_ge hk).2.2 hp
 exact h.ax.not_cells h2 (by decide) hk
theorem St.fr63 (h:St B w s c b1 b2 a f K M Z T L O Q Tk E ar ba ct p) {P:Nat->Prop} (hg:Gs P w W) (hP:∀ k,k < w.heap.size->P k->B<=k/\∃ cells,w.heap[k]?=some (.cells cells 63 (0,0))):St B W s c b1 b2 a f K M Z T L O Q Tk E ar ba ct p:=⟨h.sb.fr63 hg hP,h.wf,h.str,h.ep,h.lg⟩
end
structure Rb (w W:World) (g b56 wd:Nat) (K M Z T L O:Int) (cs:Array Value):Prop where
 xg:W.heap[g]?=some (.cells (geoC K M Z T L O) 23 (0,0))
 x56:W.heap[b56]?=some (.cells #[.pointer (some ⟨wd,0,none⟩)] 56 (0,0))
 xw:W.heap[wd]?=some (.cells cs 63 (0,0))
 bl:Below w.heap.size w W
section
variable {w W W':World} {g b56 wd:Nat} {K M Z T L O:Int} {cs:Array Value}
theorem Rb.step (h:Rb w W g b56 wd K M Z T L O cs) (hb:Below W.heap.size W W'):Rb w W' g b56 wd K M Z T L O cs :=
 ⟨(hb.block _ (blk_lt h.xg)).trans h.xg,(hb.block _ (blk_lt h.x56)).trans h.x56,(hb.block _ (blk_lt h.xw)).trans h.xw,below_step h.bl hb⟩
theorem Rb.set (h:Rb w W g b56 wd K M Z T L O cs) (hw:w.heap.size<=wd) (i:Nat) (v:Value):Rb w (W.setCell ⟨wd,i,none⟩ v) g b56 wd K M Z T L O (cs.setIfInBounds i v):=by
 have hs:Gs (fun k=>k=wd) W (W.setCell ⟨wd,i,none⟩ v):=(Gs.refl (fun k=>k=wd) W).set (.inr rfl) i v
 have h1:¬ g=wd:=fun e=>by have h2:=h.xg;rw [e,h.xw] at h2;cases h2
 have h3:¬ b56=wd:=fun e=>by have h2:=h.x56;rw [e,h.xw] at h2;cases h2
 exact ⟨(hs.block _ (blk_lt h.xg) h1).trans h.xg,(hs.block _ (blk_lt h.x56) h3).trans h.x56,set_cells h.xw i v,below_of_gs h.bl hs (fun k e=>by omega)⟩
theorem Rb.geo (h:Rb w W g b56 wd K M Z T L O cs):W.cell? ⟨g,0,none⟩=some (.int .i64 K)/\W.cell? ⟨g,1,none⟩=some (.int .i64 M)/\W.cell? ⟨g,2,none⟩=some (.int .i64 Z)/\W.cell? ⟨g,3,none⟩=some (.int .i64 T)/\W.cell? ⟨g,4,none⟩=some (.int .i64 L)/\W.cell? ⟨g,5,none⟩=some (.int .i64 O)/\W.cell? ⟨b56,0,none⟩=some (.pointer (some ⟨wd,0,none⟩)):=by
 obtain ⟨h0,h1,h2,h3,h4,h5⟩:=geo_cells h.xg
 exact ⟨h0,h1,h2,h3,h4,h5,by simp [World.cell?,h.x56]⟩
theorem Rb.wcell (h:Rb w W g b56 wd K M Z T L O cs) (i:Nat):W.cell? ⟨wd,i,none⟩=cs[i]?/\W.frozen? ⟨wd,i,none⟩=false:=by simp [World.cell?,World.frozen?,h.xw]
end
def wd0 (f:Nat) (K M Z T L O:Int):Array Value:=#[.pointer none,.int .i64 0,.pointer none,.pointer (some ⟨f,0,none⟩),.int .i64 K,.int .i64 M,.int .i64 Z,.int .i64 T,.int .i64 L,.int .i64 O,.pointer none]
theorem Gb.set {w W:World} {g h:Nat} {K M Z T L O:Int} (hg:Gb w W g K M Z T L O) (hh:w.heap.size<=h) (hne:g≠h) (v:Value):Gb w (W.setCell ⟨h,0,none⟩ v) g K M Z T L O:=by
 have hs:Gs (fun k=>k=h) W (W.setCell ⟨h,0,none⟩ v):=(Gs.refl (fun k=>k=h) W).set (.inr rfl) 0 v
 exact ⟨(hs.block _ (blk_lt hg.1) hne).trans hg.1,below_of_gs hg.2 hs (fun k e=>by omega)⟩
def RunC (w W:World) (b56 wd f:Nat) (K M Z T L O:Int):Prop:=Rb w W w.heap.size b56 wd K M Z T L O (wd0 f K M Z T L O)/\Fd W f/\w.heap.size < wd/\w.heap.size < b56
section
variable {w w1 w3:World} {f:Nat} {K M Z T L O:Int}
theorem hsz_fd {o:Obj} (h:Fd w3 (w1.alloc o).drew.heap.size):Fd w3 (w1.heap.size+1):=by
 rw [show (w1.alloc o).drew.heap.size=w1.heap.size+1 from hsz w1 o] at h
 exact h
theorem rbA (h:Gb w w3 w.heap.size K M Z T L O) (hf:Fd w3 f):RunC w ((w3.alloc (.cells #[.pointer (some ⟨w3.heap.size+1,0,none⟩)] 56)).alloc (.cells (wd0 f K M Z T L O) 63)) w3.heap.size (w3.heap.size+1) f K M Z T L O:=by
 have hb:=below_alloc (below_alloc (Below.refl w3.heap.size w3) (.cells #[.pointer (some ⟨w3.heap.size+1,0,none⟩)] 56)) (.cells (wd0 f K M Z T L O) 63)
 have:=blk_lt h.1
 exact ⟨⟨(hb.block _ this).trans h.1,two0 w3 _ _,two1 w3 _ _,below_step h.2 hb⟩,hf.below hb,by omega,by omega⟩
theorem rbB (h:Gb w w3 w.heap.size K M Z T L O) (hf:Fd w3 f):RunC w ((w3.alloc (.cells (wd0 f K M Z T L O) 63)).alloc (.cells #[.pointer (some ⟨w3.heap.size,0,none⟩)] 56)) (w3.heap.size+1) w3.heap.size f K M Z T L O:=by
 have hb:=below_alloc (below_alloc (Below.refl w3.heap.size w3) (.cells (wd0 f K M Z T L O) 63)) (.cells #[.pointer (some ⟨w3.heap.size,0,none⟩)] 56)
 have:=blk_lt h.1
 exact ⟨⟨(hb.block _ this).trans h.1,two1 w3 _ _,two0 w3 _ _,below_step h.2 hb⟩,hf.below hb,by omega,by omega⟩
theorem rbC (h:Gb w w3 w.heap.size K M Z T L O) (hf:Fd w3 f) {b:Nat} (hb:w3.heap[b]?=some (.cells #[.pointer none] 56 (0,0))) (hne:w.heap.size<=b/\w.heap.size≠b):RunC w ((w3.setCell ⟨b,0,none⟩ (.pointer (some ⟨w3.heap.size,0,none⟩))).alloc (.cells (wd0 f K M Z T L O) 63)) b w3.heap.size f K M Z T L O:=by
 have hs:Gs (fun k=>k=b) w3 (w3.setCell ⟨b,0,none⟩ (.pointer (some ⟨w3.heap.size,0,none⟩))):=(Gs.refl (fun k=>k=b) w3).set (.inr rfl) 0 _
 have hsz9:(w3.setCell ⟨b,0,none⟩ (.pointer (some ⟨w3.heap.size,0,none⟩))).heap.size=w3.heap.size:=by simp [World.setCell]
 have hg:=(h.set hne.1 hne.2 (.pointer (some ⟨w3.heap.size,0,none⟩))).step (below_alloc (Below.refl _ _) (.cells (wd0 f K M Z T L O) 63))
 have h9:=blk_lt h.1
 obtain ⟨cf,hcf,_⟩:=hf.cells
 have hx:=set_cells hb 0 (.pointer (some ⟨w3.heap.size,0,none⟩))
 have hn:=heap_alloc_new (w3.setCell ⟨b,0,none⟩ (.pointer (some ⟨w3.heap.size,0,none⟩))) (.cells (wd0 f K M Z T L O) 63)
 rw [hsz9] at hn
 exact ⟨⟨hg.1,((below_alloc (Below.refl _ _) _).block _ (blk_lt hx)).trans hx,hn,hg.2⟩,(hf.keep (hs.block _ hf.lt (fun e=>by subst e;rw [hb] at hcf;cases hcf))).below (below_alloc (Below.refl _ _) _),by omega,by omega⟩
end
structure R7 (w W:World) (b56 wd a f:Nat) (K M Z T L O:Nat) (cs:Array Value) (Q:Nat->Prop) (n:Nat):Prop where
 rb:Rb w W w.heap.size b56 wd K M Z T L O cs
 fd:Fd W f
 ax:Ax w.heap.size W a Q (5+(L:Int)+T) n 0 (fun _=>false) (fun _ _=>[]) true
 ge:(∀ k,Q k->a<=k)/\w.heap.size < a/\b56 < a/\wd < a/\w.heap.size < wd/\w.heap.size < b56
section
variable {w W W4 W5:World} {b56 wd a f:Nat} {K M Z T L O:Nat} {cs:Array Value} {Q:Nat->Prop} {n:Nat}
theorem Rb.lt (h:Rb w W w.heap.size b56 wd K M Z T L O cs):w.heap.size < W.heap.size/\b56 < W.heap.size/\wd < W.heap.size:=⟨blk_lt h.xg,blk_lt h.x56,blk_lt h.xw⟩
theorem r7_set (h4:Rb w W4 w.heap.size b56 wd K M Z T L O cs) (h5:Rb w W5 w.heap.size b56 wd K M Z T L O cs) (hf:Fd W5 f) (hlt:w.heap.size < wd/\w.heap.size < b56) (hx:Ax w.heap.size W5 W4.heap.size Q (5+(L:Int)+T) n 0 (fun _=>false) (fun _ _=>[]) true) (hQ:∀ k,Q k->W4.heap.size<=k) (i:Nat) (v:Value) :
  R7 w (W5.setCell ⟨wd,i,none⟩ v) b56 wd W4.heap.size f K M Z T L O (cs.setIfInBounds i v) Q n:=by
 have hs:Gs (fun k=>k=wd) W5 (W5.setCell ⟨wd,i,none⟩ v):=(Gs.refl (fun k=>k=wd) W5).set (.inr rfl) i v
 have hfr:Fr w.heap.size W5 (W5.setCell ⟨wd,i,none⟩ v):=hs.fr63 (fun k hk e=>by subst e;exact ⟨by omega,_,h5.xw⟩)
 have h9:=h4.lt
 obtain ⟨cf,hcf,_⟩:=hf.cells
 refine ⟨h5.set (by omega) i v,hf.keep (hs.block _ hf.lt (fun e=>by subst e;rw [h5.xw] at hcf;cases hcf)),hx.keep hfr (fun k hk=>hs.block k (hx.S_ge hk).2.2 (fun e=>?_)),hQ,h9.1,h9.2.1,h9.2.2,hlt.1,hlt.2⟩
 have:=hQ k hk
 omega
theorem R7.below (h:R7 w W b56 wd a f K M Z T L O cs Q n) (hb:Below W.heap.size W W5):R7 w W5 b56 wd a f K M Z T L O cs Q n :=
 ⟨h.rb.step hb,h.fd.below hb,h.ax.keep (Fr.of_below hb) (fun k hk=>hb.block k (h.ax.S_ge hk).2.2),h.ge⟩
theorem R7.all (h:R7 w W b56 wd a f K M Z T L O (wd0 f K M Z T L O |>.setIfInBounds 2 (.pointer (some ⟨a,0,none⟩))) Q n) :
  (W.cell? ⟨w.heap.size,0,none⟩=some (.int .i64 K)/\W.cell? ⟨w.heap.size,1,none⟩=some (.int .i64 M)/\W.cell? ⟨w.heap.size,2,none⟩=some (.int .i64 Z)/\W.cell? ⟨w.heap.size,3,none⟩=some (.int .i64 T)/\W.cell? ⟨w.heap.size,4,none⟩=some (.int .i64 L)/\W.cell? ⟨w.heap.size,5,none⟩=some (.int .i64 O)/\W.cell? ⟨b56,0,none⟩=some (.pointer (some ⟨wd,0,none⟩)))/\W.cell? ⟨wd,2,none⟩=some (.pointer (some ⟨a,0,none⟩))/\W.cell? ⟨wd,3,none⟩=some (.pointer (some ⟨f,0,none⟩)) :=
 ⟨h.rb.geo,(h.rb.wcell 2).1.trans (by simp [wd0]),(h.rb.wcell 3).1.trans (by simp [wd0])⟩
end
section
variable {w W:World} {b56 wd a f:Nat} {K M Z T L O:Nat} {cs:Array Value}
def wd1 (a f:Nat) (K M Z T L O:Int):Array Value:=(wd0 f K M Z T L O).setIfInBounds 2 (.pointer (some ⟨a,0,none⟩))
abbrev All8 (w W:World) (b56 wd a f:Nat) (K M Z T L O:Nat):Prop:=(W.cell? ⟨w.heap.size,0,none⟩=some (.int .i64 K)/\W.cell? ⟨w.heap.size,1,none⟩=some (.int .i64 M)/\W.cell? ⟨w.heap.size,2,none⟩=some (.int .i64 Z)/\W.cell? ⟨w.heap.size,3,none⟩=some (.int .i64 T)/\W.cell? ⟨w.heap.size,4,none⟩=some (.int .i64 L)/\W.cell? ⟨w.heap.size,5,none⟩=some (.int .i64 O)/\W.cell? ⟨b56,0,none⟩=some (.pointer (some ⟨wd,0,none⟩)))/\W.cell? ⟨wd,2,none⟩=some (.pointer (some ⟨a,0,none⟩))/\W.cell? ⟨wd,3,none⟩=some (.pointer (some ⟨f,0,none⟩))
theorem Rb.all8 (h:Rb w W w.heap.size b56 wd K M Z T L O (wd1 a f K M Z T L O)):All8 w W b56 wd a f K M Z T L O:=⟨h.geo,(h.wcell 2).1.trans (by simp [wd1,wd0]),(h.wcell 3).1.trans (by simp [wd1,wd0])⟩
theorem Rb.all8s (h:Rb w W w.heap.size b56 wd K M Z T L O (wd1 a f K M Z T L O)) (hw:w.heap.size<=wd) (v:Value):All8 w (W.setCell ⟨wd,0,none⟩ v) b56 wd a f K M Z T L O:=⟨(h.set hw 0 v).geo,((h.set hw 0 v).wcell 2).1.trans (by simp [wd1,wd0]),((h.set hw 0 v).wcell 3).1.trans (by simp [wd1,wd0])⟩
theorem Rb.all8t (h:Rb w W w.heap.size b56 wd K M Z T L O (wd1 a f K M Z T L O)) (hw:w.heap.size<=wd) (v u:Value):All8 w ((W.setCell ⟨wd,0,none⟩ v).setCell ⟨wd,1,none⟩ u) b56 wd a f K M Z T L O:=⟨((h.set hw 0 v).set hw 1 u).geo,(((h.set hw 0 v).set hw 1 u).wcell 2).1.trans (by simp [wd1,wd0]),(((h.set hw 0 v).set hw 1 u).wcell 3).1.trans (by simp [wd1,wd0])⟩
end
structure R9 (w W:World) (b56 wd s c b1 b2 a f:Nat) (K M Z T L O:Nat) (Q:Nat->Prop):Prop where
 x56:W.heap[b56]?=some (.cells #[.pointer (some ⟨wd,0,none⟩)] 56 (0,0))
 xw:W.heap[wd]?=some (.cells (wdC (.pointer (some ⟨s,0,none⟩)) 0 a f K M Z T L O (.pointer none)) 63 (0,0))
 st:St w.heap.size W s c b1 b2 a f K M Z T L O Q (3*(K+M)) (fmtE (K+M)) 0 0 0 pst0
 bl:Below w.heap.size w W
 ge:w.heap.size < a/\b56 < a/\wd < a/\w.heap.size < wd
 rs:(∀ k,Q k->a<=k)/\a<=s/\a<=b1/\a<=b2
section
variable {w W W8:World} {b56 wd a f s:Nat} {K M Z T L O:Nat} {cs:Array Value} {Q:Nat->Prop} {n:Nat}
theorem Rb.gs (h:Rb w W w.heap.size b56 wd K M Z T L O cs) (hg:Gs Q W W8) (h1:(∀ k,Q k->a<=k)/\w.heap.size < a/\b56 < a/\wd < a/\w.heap.size < wd/\w.heap.size < b56):Rb w W8 w.heap.size b56 wd K M Z T L O cs:=by
 have hn:∀ k,k < a->¬ Q k:=fun k hk hq=>by have:=h1.1 k hq;omega
 refine ⟨(hg.block _ (blk_lt h.xg) (hn _ h1.2.1)).trans h.xg,(hg.block _ (blk_lt h.x56) (hn _ h1.2.2.1)).trans h.x56,(hg.block _ (blk_lt h.xw) (hn _ h1.2.2.2.1)).trans h.xw,below_of_gs h.bl hg (fun k hq=>?_)⟩
 have:=h1.1 k hq
 omega
theorem run9 (h:R7 w W b56 wd a f K M Z T L O cs Q n) {c b1 b2:Nat} (hst:St w.heap.size W8 s c b1 b2 a f K M Z T L O Q (3*(K+M)) (fmtE (K+M)) 0 0 0 pst0) (hge:W.heap.size<=s/\W.heap.size<=c/\W.heap.size<=b1/\W.heap.size<=b2) (hg:Gs Q W W8) (i j:Nat) (v u:Value) (hc:((cs.setIfInBounds i v).setIfInBounds j u)=wdC (.pointer (some ⟨s,0,none⟩)) 0 a f K M Z T L O (.pointer none)) :
  R9 w ((W8.setCell ⟨wd,i,none⟩ v).setCell ⟨wd,j,none⟩ u) b56 wd s c b1 b2 a f K M Z T L O Q:=by
 have h8:=h.rb.gs hg h.ge
 have h9:=(h8.set (by have:=h.ge;omega) i v).set (by have:=h.ge;omega) j u
 have hs:Gs (fun k=>k=wd) W8 ((W8.setCell ⟨wd,i,none⟩ v).setCell ⟨wd,j,none⟩ u):=((Gs.refl (fun k=>k=wd) W8).set (.inr rfl) i v).set (.inr rfl) j u
 have hl:=h.rb.lt
 have ha:=(h.ax.S_ge (show Q a by obtain ⟨mb,D,C,ha,hS,hC⟩:=h.ax.ex;exact (hS a).2 (.inl rfl))).2.2
 refine ⟨h9.x56,hc ▸ h9.xw,hst.fr63 hs (fun k hk e=>by subst e;exact ⟨by have:=h.ge;omega,_,h8.xw⟩),h9.bl,⟨h.ge.2.1,h.ge.2.2.1,h.ge.2.2.2.1,h.ge.2.2.2.2.1⟩,h.ge.1,?_,?_,?_⟩ <;> omega
end
structure Op1 where
 kd:Int
 key:ByteArray
 data:List Int
def stepP (P T O:Nat) (p:Pst) (o:Op1):Pst×Ans :=
 if o.kd=1 then ((putP P T O p o.key o.data).1,⟨(putP P T O p o.key o.data).2,[],0,[]⟩)
 else if o.kd=2 then (p,⟨(getP p o.key).2,(getP p o.key).1,0,[]⟩)
 else if o.kd=3 then ((delP p o.key).1,⟨(delP p o.key).2,[],0,[]⟩)
 else if o.kd=4 then (p,⟨(statP p o.key).2,[],(statP p o.key).1,[]⟩)
 else (p,⟨0,[],0,(allS p.S).map fun o=>o.f0⟩)
def stP (P T O:Nat):List Op1->Pst->Pst
 | [],p=>p
 | o :: l,p=>stP P T O l (stepP P T O p o).1
def anP (P T O:Nat):List Op1->Pst->List Ans
 | [],p=>[]
 | o :: l,p=>(stepP P T O p o).2 :: anP P T O l (stepP P T O p o).1
theorem stP_snoc (P T O:Nat) (l:List Op1) (o:Op1) (p:Pst):stP P T O (l ++ [o]) p=(stepP P T O (stP P T O l p) o).1:=by
 induction l generalizing p with
 | nil=>rfl
 | cons x l ih=>exact ih _
theorem anP_len (P T O:Nat) (l:List Op1) (p:Pst):(anP P T O l p).length=l.length:=by
 induction l generalizing p with
 | nil=>rfl
 | cons x l ih=>simp only [anP,List.length_cons];rw [ih]
theorem step_ep (P T O:Nat) (p:Pst) (o:Op1):(stepP P T O p o).1.ep<=p.ep+1:=by
 unfold stepP
 split
 ·unfold putP
  repeat' split
  all_goals simp
 ·split
  ·simp
  ·split
   ·unfold delP
    repeat' split
    all_goals simp
   ·split <;> simp
theorem stP_ep (P T O:Nat) (l:List Op1) (p:Pst):(stP P T O l p).ep<=p.ep+l.length:=by
 induction l generalizing p with
 | nil=>exact Nat.le_refl _
 | cons x l ih =>
  have h1:=ih (stepP P T O p x).1
  have h2:=step_ep P T O p x
  simp only [stP,List.length_cons]
  omega
def OpAt (B:Nat) (w:World) (g i:Nat) (q:Op1):Prop :=
 ∃ A' c' d1 d2 d3 d4 A'' n'' c'',(∀ j,j < 8->w.cell? ⟨g,i*8+j,none⟩=(opC q.kd q.key A' q.data.length c' d1 d2 d3 d4 (.slice A'' n'' c''))[j]?)/\Im B w (.slice A' q.data.length c') q.data
structure Scr (w:World) (A:Option Addr) (n c:Nat) (l:List Op1):Prop where
 len:n=l.length/\n<=c/\n<=400
 row:∀ i q,l[i]?=some q->∃ g,A=some ⟨g,0,none⟩/\g < w.heap.size/\OpAt w.heap.size w g i q
 ok:∀ q ∈ l,(q.kd=1∨q.kd=2∨q.kd=3∨q.kd=4∨q.kd=5)/\byteL q.data/\q.data.length<=1000
theorem cell_below {w W:World} (hb:Below w.heap.size w W) {g i:Nat} (hg:g < w.heap.size):W.cell? ⟨g,i,none⟩=w.cell? ⟨g,i,none⟩:=hb.cell (p:=⟨g,i,none⟩) hg
theorem OpAt.cells {B:Nat} {w W:World} {g i:Nat} {kd:Int} {k:ByteArray} {A':Option Addr} {n c':Nat} {d1 d2 d3 d4:Int} {v:Value} (h:∀ j,j < 8->w.cell? ⟨g,i*8+j,none⟩=(opC kd k A' n c' d1 d2 d3 d4 v)[j]?) (hb:Below w.heap.size w W) (hg:g < w.heap.size) :
  W.cell? ⟨g,i*8,none⟩=some (.int .i64 kd)/\W.cell? ⟨g,i*8+1,none⟩=some (.string k)/\W.cell? ⟨g,i*8+2,none⟩=some (.slice A' n c')/\W.cell? ⟨g,i*8+3,none⟩=some (.int .i64 d1)/\W.cell? ⟨g,i*8+4,none⟩=some (.int .i64 d2)/\W.cell? ⟨g,i*8+5,none⟩=some (.int .i64 d3)/\W.cell? ⟨g,i*8+6,none⟩=some (.int .u8 d4)/\W.cell? ⟨g,i*8+7,none⟩=some v:=by
 refine ⟨?_,?_,?_,?_,?_,?_,?_,?_⟩
 ·exact (cell_below hb hg).trans (h 0 (by decide))
 ·exact (cell_below hb hg).trans (h 1 (by decide))
 ·exact (cell_below hb hg).trans (h 2 (by decide))
 ·exact (cell_below hb hg).trans (h 3 (by decide))
 ·exact (cell_below hb hg).trans (h 4 (by decide))
 ·exact (cell_below hb hg).trans (h 5 (by decide))
 ·exact (cell_below hb hg).trans (h 6 (by decide))
 ·exact (cell_below hb hg).trans (h 7 (by decide))
section
variable {B:Nat} {w W:World} {s c b1 b2 a f:Nat} {K M Z T L O:Nat} {Q:Nat->Prop} {Tk:Nat} {E:Nat->Int->List Int} {ar ba ct:Nat} {p:Pst}
theorem cli_ok (h:St B w s c b1 b2 a f K M Z T L O Q Tk E ar ba ct p) (hg:Geo K M Z T L O) {wd:Nat} (hwd:w.cell? ⟨wd,0,none⟩=some (.pointer (some ⟨s,0,none⟩))) (hwB:wd < B) {q:Op1} {A:Option Addr} {c':Nat} (hd:Im B w (.slice A q.data.length c') q.data) (hq:(q.kd=1∨q.kd=2∨q.kd=3∨q.kd=4∨q.kd=5)/\byteL q.data/\q.data.length<=1000) (hep:p.ep+1<=1000) (hT:Tk+2000<=1000000) (d1 d2 d3 d4:Int) (vk:Value) :
  Calls Tryz.prog 42 #[.pointer (some ⟨wd,0,none⟩),.agg (opC q.kd q.key A q.data.length c' d1 d2 d3 d4 vk)] w fun e w'=>CliP B w w' e s c b1 b2 a f K M Z T L O Q Tk (stepP (K*Z) T O p q).1 (stepP (K*Z) T O p q).2:=by
 obtain ⟨kd,key,data⟩:=q
 obtain ⟨hk,hdb,hdl⟩:=hq
 rcases hk with rfl|rfl|rfl|rfl|rfl
 ·exact cli_put h hg hwd (h.notUs hwB) hd hdb hdl hep hT d1 d2 d3 d4 vk
 ·exact cli_get h hg hwd hwB d1 d2 d3 d4 vk
 ·exact cli_del h hg hwd hwB hep hT d1 d2 d3 d4 vk
 ·exact cli_stat h hg hwd hwB d1 d2 d3 d4 vk
 ·exact cli_list h hg hwd hwB d1 d2 d3 d4 vk
end
def ROp (w:World) (A:Option Addr) (n:Nat) (V:Nat->Array Value):Prop:=∀ i,i < n->∃ g,A=some ⟨g,0,none⟩/\g < w.heap.size/\(∃ kd k A' n' c' d1 d2 d3 d4 A'' n'' c'',V i=opC kd k A' n' c' d1 d2 d3 d4 (.slice A'' n'' c''))/\∀ j,j < 8->w.cell? ⟨g,i*8+j,none⟩=(V i)[j]?
structure RunG (B:Nat) (I:Nat->World->Prop) (an:Nat->Ans) (W0 W:World) (b30 i:Nat):Prop where
 ex:∃ v Ls,W.heap[b30]?=some (.cells #[v] 30 (0,0))/\Az B W B v Ls/\Ls.map (fun q=>q.2.2)=(List.range i).map an
 inv:I i W
 fr:Fr B W0 W
section
variable {B:Nat} {I:Nat->World->Prop} {an:Nat->Ans} {w W0 W W':World} {b30 b56 wd i:Nat}
theorem RunG.below (hI:∀ i,Okv B (I i)) (h:RunG B I an W0 W b30 i) (hb:Below W.heap.size W W'):RunG B I an W0 W' b30 i:=by
 obtain ⟨⟨v,Ls,h1,h2,h3⟩,h4,h5⟩:=h
 exact ⟨⟨v,Ls,(hb.block _ (blk_lt h1)).trans h1,h2.gs (Gs.of_below (S:=fun _=>False) hb) (fun _ hk=>hk.elim) (Fr.of_below hb),h3⟩,(hI i).below h4 hb,h5.trans (Fr.of_below hb)⟩
theorem RunG.start (hI:∀ i,Okv B (I i)) (h:I 0 W0):RunG B I an W0 (W0.alloc (.cells #[.slice none 0 0] 30)) W0.heap.size 0 :=
 ⟨⟨.slice none 0 0,[],heap_alloc_new W0 _,⟨World.ownsRow_nil _ _ _ _,fun _ h=>nomatch h⟩,rfl⟩,(hI 0).below h (below_alloc (Below.refl _ _) _),Fr.of_below (below_alloc (Below.refl _ _) _)⟩
theorem RunG.bel (h:RunG B I an W0 W b30 i) (h2:Below w.heap.size w W0) (hB:w.heap.size<=B/\B<=W0.heap.size):Below w.heap.size w W:=by
 have h1:=h.fr.below hB.2
 exact ⟨h1.os.trans h2.os,h1.tape.trans h2.tape,h1.output.trans h2.output,Nat.le_trans h2.size h1.size,fun k hk=>(h1.block k (by omega)).trans (h2.block k hk)⟩
theorem tell_run (hI:∀ i,Okv B (I i)) (h:RunG B I an W0 W b30 i) (hB:B<=W0.heap.size/\W0.heap.size<=b30) (hn:i < 400) (h56:W0.heap[b56]?=some (.cells #[.pointer (some ⟨wd,0,none⟩)] 56 (0,0)))
  {kd:Int} {k:ByteArray} {A':Option Addr} {n' c':Nat} {d1 d2 d3 d4:Int} {A'':Option Addr} {n'' c'':Nat}
  (hc:∀ W1,I i W1->Fr B W0 W1->Calls Tryz.prog 22 #[.pointer (some ⟨wd,0,none⟩),.agg (opC kd k A' n' c' d1 d2 d3 d4 (.slice A'' n'' c''))] W1 fun e w'=>OpR B (I (i+1)) W1 w' e (an i)) :
  Calls Tryz.prog 21 #[.agg (opC kd k A' n' c' d1 d2 d3 d4 (.slice A'' n'' c'')),.pointer (some ⟨b30,0,none⟩),.pointer (some ⟨b56,0,none⟩)] W fun e w'=>e=.returned (.tuple #[])/\RunG B I an W0 w' b30 (i+1):=by
 obtain ⟨⟨v,Ls,x30,az,hm⟩,hi,hfr⟩:=h
 have hlen:Ls.length=i:=by have:=congrArg List.length hm;simpa using this
 have hsz:=hfr.size
 refine (tell_gen (hI (i+1)) (hfr.cells h56 (by decide)) x30 az (by omega) ⟨Nat.le_refl _,by omega,by omega⟩ (fun W1 hb1=>hc W1 ((hI i).below hi hb1) (hfr.trans (Fr.of_below hb1)))).mono ?_
 rintro e w' ⟨rfl,hi',hf',v',q',hx',hq',az'⟩
 refine ⟨rfl,⟨v',_,hx',az',?_⟩,hi',hfr.trans hf'⟩
 rw [List.map_append,hm,List.range_succ,List.map_append,List.map_singleton,List.map_singleton,hq']
end
attribute [local go_sem] calloc_old
def RunQ (w w':World) (e:Ending) (L:List Ans):Prop:=∃ v Ls B base,e=.returned (.tuple #[v,.int .i64 0])/\Az B w' base v Ls/\Ls.map (fun q=>q.2.2)=L/\Below w.heap.size w w'
set_option maxRecDepth 100000 in
set_option maxHeartbeats 4000000 in
theorem run_gen {w:World} {K M Z T L O:Nat} (hg:Geo K M Z T L O) {A:Option Addr} {n c:Nat} (hn:n<=400) {V:Nat->Array Value} (hs:ROp w A n V) (an:Nat->Ans)
  (hr:∀ W0 b56 wd s c b1 b2 a f Q,R9 w W0 b56 wd s c b1 b2 a f K M Z T L O Q->∃ (B:Nat) (I:Nat->World->Prop),(w.heap.size<=B/\B<=W0.heap.size)/\(∀ i,Okv B (I i))/\I 0 W0/\∀ i,i < n->∀ W,I i W->Fr B W0 W->Calls Tryz.prog 22 #[.pointer (some ⟨wd,0,none⟩),.agg (V i)] W fun e w'=>OpR B (I (i+1)) W w' e (an i)) :
  Calls Tryz.prog 7 #[geoV K M Z T L O,.slice A n c] w fun e w'=>RunQ w w' e ((List.range n).map an):=by
 have hg':=hg.good
 unfold LayA.Good at hg'
 have HScr:=Aside0.mk (And.intro hs (And.intro hn hr))
 have HG:=Aside0.mk (fun W=>gcheck_ok hg.good W)
 have H0:=Aside0.mk (show Gb w (w.alloc (.cells (geoC K M Z T L O) 23)) w.heap.size K M Z T L O from ⟨heap_alloc_new w _,below_alloc (Below.refl w.heap.size w) _⟩)
 have f1:¬ (500:Int) < (n:Int):=by omega
 have f2:¬ (n:Int) > 500:=by omega
 have HF:=Aside0.mk fnew_ok
 unfold geoV at HG ⊢
 unfold geoC at H0
 have HGo:=Aside0.mk hg
 have HGo1:=Aside0.mk (show 1<=K+M/\(5:Int)+L+T<=4096 by omega)
 clear hg' hs hr
 go_enter Tryz.func7,Tryz.ntmps7
 go_upto_region 6 with (first|(go_at_call 12;go_loud (refine (HG.out _).mono ?_;rintro e1 w1 ⟨rfl,hb1⟩;have H1:=Aside0.mk (H0.out.step hb1);clear hb1)))
 have H2:=Aside0.mk (H1.out.step (below_drew1 (Below.refl _ _)))
 have H2':=Aside0.mk (show Gb w (w1.alloc (.cells #[.pointer none] 56)).drew w.heap.size K M Z T L O from (H1.out.step (below_alloc (Below.refl _ _) _)).step (below_drew1 (Below.refl _ _)))
 have HZ:=Aside0.mk (show (w1.alloc (.cells #[.pointer none] 56)).drew.heap[w1.heap.size]?=some (.cells #[.pointer none] 56 (0,0)) from heap_alloc_new w1 _)
 have HS1:=Aside0.mk (show w.heap.size<=w1.heap.size/\w.heap.size≠w1.heap.size from by have:=blk_lt H1.out.1;omega)
 go_cut [7] from 200 to 200 (fun x7 wx=>∃ b56 wd f,x7=.pointer (some ⟨b56,0,none⟩)/\Aside0 (RunC w wx b56 wd f K M Z T L O))
 case first =>
  go_region_held3 (fun W=>W.cell? ⟨w.heap.size,0,none⟩=some (.int .i64 K)/\W.cell? ⟨w.heap.size,1,none⟩=some (.int .i64 M)/\W.cell? ⟨w.heap.size,2,none⟩=some (.int .i64 Z)/\W.cell? ⟨w.heap.size,3,none⟩=some (.int .i64 T)/\W.cell? ⟨w.heap.size,4,none⟩=some (.int .i64 L)/\W.cell? ⟨w.heap.size,5,none⟩=some (.int .i64 O)/\Below w.heap.size w W) (first|with_reducible exact H2.out.all|with_reducible exact H2'.out.all|with_reducible exact H3.out.all|with_reducible exact (H3.out.step (below_alloc (Below.refl _ _) _)).all|with_reducible exact ((H3.out.step (below_alloc (Below.refl _ _) _)).step (below_alloc (Below.refl _ _) _)).all|with_reducible exact ((H3.out.set HS1.out.1 HS1.out.2 _).step (below_alloc (Below.refl _ _) _)).all) (first|(go_at_call 17;go_loud (refine (HF.out _).mono ?_;rintro e3 w3 ⟨rfl,hf3,hb3⟩;have H3:=Aside0.mk (H2.out.step hb3);have HF3:=Aside0.mk (And.intro hf3 hb3);clear hf3 hb3))|(go_at_call 17;go_loud (refine (HF.out _).mono ?_;rintro e3 w3 ⟨rfl,hf3,hb3⟩;have H3:=Aside0.mk (H2'.out.step hb3);have HF3:=Aside0.mk (And.intro (hsz_fd hf3) hb3);have hz:=(hb3.block _ (blk_lt HZ.out)).trans HZ.out;have HZ3:=Aside0.mk hz;have z0:w3.cell? ⟨w1.heap.size,0,none⟩=some (.pointer none):=(by simp [World.cell?,hz]);have z1:w3.frozen? ⟨w1.heap.size,0,none⟩=false:=(by simp [World.frozen?,hz]);have hzl:=blk_lt hz;clear hz hf3 hb3)))
  all_goals (go_wp2;go_meet)
  all_goals first|exact ⟨_,_,_,rfl,⟨rbA H3.out HF3.out.1⟩⟩|exact ⟨_,_,_,rfl,⟨rbB H3.out HF3.out.1⟩⟩|exact ⟨_,_,_,rfl,⟨rbC H3.out HF3.out.1 HZ3.out HS1.out⟩⟩
 case rest =>
  obtain ⟨b56,wd,f,rfl,HK⟩:=hcut
  obtain ⟨hrb,hfd,hlt1,hlt2⟩:=HK.out
  have H3:=Aside0.mk (hrb.step (below_drew1 (Below.refl _ _)))
  have HS:=Aside0.mk (fun W=>sectors_ok HGo.out.good W)
  have HA:=Aside0.mk (fun (W:World) (hW:w.heap.size<=W.heap.size)=>Ax.new_low W w.heap.size hW (K+M) (by have:=HGo.out.n7;omega) HGo1.out.1 (5+(L:Int)+T) (by omega) HGo1.out.2)
  obtain ⟨nn,hnn⟩:∃ q,K+M=q:=⟨_,rfl⟩
  have gK:wrap64 ((K:Int)+M)=(nn:Int)/\IntKind.i64.wrap ((K:Int)+M)=(nn:Int):=by
   have h1:wrap64 ((K:Int)+M)=(nn:Int):=by rw [w64 _ (by have:=HGo.out.n7;omega)];omega
   exact ⟨h1,(i64_w _).trans h1⟩
  obtain ⟨gK1,gK2⟩:=gK
  rw [hnn] at HA
  have HN:=Aside0.mk hnn
  have HFd:=Aside0.mk (And.intro (hfd.below (below_drew1 (Below.refl _ _))) (And.intro hlt1 hlt2))
  unfold geoV at HS
  clear hrb hfd hlt1 hlt2 hnn
  go_wp2
  go_region_held3 (fun W=>W.cell? ⟨w.heap.size,0,none⟩=some (.int .i64 K)/\W.cell? ⟨w.heap.size,1,none⟩=some (.int .i64 M)/\W.cell? ⟨w.heap.size,2,none⟩=some (.int .i64 Z)/\W.cell? ⟨w.heap.size,3,none⟩=some (.int .i64 T)/\W.cell? ⟨w.heap.size,4,none⟩=some (.int .i64 L)/\W.cell? ⟨w.heap.size,5,none⟩=some (.int .i64 O)/\W.cell? ⟨b56,0,none⟩=some (.pointer (some ⟨wd,0,none⟩))) (first|with_reducible exact H3.out.geo|with_reducible exact H4.out.geo|with_reducible exact H5.out.geo|with_reducible exact (H5.out.set (Nat.le_of_lt HFd.out.2.1) 2 _).geo) (first|(go_at_call 18;go_loud (refine (HA.out _ H4.out.bl.size).mono ?_;rintro e5 w5 ⟨rfl,⟨Q,hx5⟩,hb5⟩;have H5:=Aside0.mk (H4.out.step hb5);have hb5f:=Aside0.mk hb5;have HX5:=Aside0.mk hx5;have z0:=(H5.out.wcell 2).1;have z1:=(H5.out.wcell 2).2;simp only [wd0] at z0;clear hx5 hb5))|(go_at_call 19;go_loud (refine (HS.out _).mono ?_;rintro e4 w4 ⟨rfl,hb4⟩;have H4:=Aside0.mk (H3.out.step hb4);have HB4:=Aside0.mk hb4;clear hb4)))
  have H7:=Aside0.mk (r7_set H4.out H5.out ((HFd.out.1.below HB4.out).below hb5f.out) HFd.out.2 HX5.out.1 HX5.out.2 2 (.pointer (some ⟨w4.heap.size,0,none⟩)))
  generalize w5.setCell ⟨wd,2,none⟩ (.pointer (some ⟨w4.heap.size,0,none⟩))=W7 at *
  generalize w4.heap.size=aa at *
  have H7:=Aside0.mk (H7.out.below (below_drew1 (Below.refl _ _)))
  have HF8:=Aside0.mk (format_ok (HN.out ▸ H7.out.ax) H7.out.fd HGo.out)
  have HL:=Aside0.mk (Nat.le_of_lt HFd.out.2.1)
  unfold geoV at HF8
  go_wp2
  go_region_held3 (fun W=>(W.cell? ⟨w.heap.size,0,none⟩=some (.int .i64 K)/\W.cell? ⟨w.heap.size,1,none⟩=some (.int .i64 M)/\W.cell? ⟨w.heap.size,2,none⟩=some (.int .i64 Z)/\W.cell? ⟨w.heap.size,3,none⟩=some (.int .i64 T)/\W.cell? ⟨w.heap.size,4,none⟩=some (.int .i64 L)/\W.cell? ⟨w.heap.size,5,none⟩=some (.int .i64 O)/\W.cell? ⟨b56,0,none⟩=some (.pointer (some ⟨wd,0,none⟩)))/\W.cell? ⟨wd,2,none⟩=some (.pointer (some ⟨aa,0,none⟩))/\W.cell? ⟨wd,3,none⟩=some (.pointer (some ⟨f,0,none⟩))) (first|with_reducible exact H7.out.rb.all8|with_reducible exact H8.out.all8|with_reducible exact H8.out.all8s HL.out _|with_reducible exact H8.out.all8t HL.out _ _) (first|(go_at_call 20;go_loud (refine HF8.out.mono ?_;rintro e8 w8 ⟨s,c8,b1,b2,rfl,st8,ge8,gs8⟩;have H8:=Aside0.mk (H7.out.rb.gs gs8 H7.out.ge);have HS8:=Aside0.mk st8;have HG8:=Aside0.mk ge8;have HGs:=Aside0.mk gs8;have t0:w8.cell? ⟨wd,0,none⟩=some (.pointer none):=((H8.out.wcell 0).1.trans (by simp [wd0]));have t1:=(H8.out.wcell 0).2;have t2:w8.cell? ⟨wd,1,none⟩=some (.int .i64 0):=((H8.out.wcell 1).1.trans (by simp [wd0]));have t3:=(H8.out.wcell 1).2;clear st8 ge8 gs8)))
  have H9:=Aside0.mk (run9 H7.out HS8.out HG8.out HGs.out 0 1 (.pointer (some ⟨s,0,none⟩)) (.int .i64 0) (by simp [wd0,wdC]))
  generalize (w8.setCell ⟨wd,0,none⟩ (.pointer (some ⟨s,0,none⟩))).setCell ⟨wd,1,none⟩ (.int .i64 0)=W9 at *
  obtain ⟨B,I,hBB,hI,hi0,hstep⟩:=HScr.out.2.2 _ _ _ _ _ _ _ _ _ _ H9.out
  have HI0:=Aside0.mk (RunG.start (an:=an) hI hi0)
  have HB0:=Aside0.mk (And.intro hBB (And.intro hI hstep))
  clear hBB hI hi0 hstep
  generalize hb30:W9.heap.size=b30 at *
  go_wp2
  go_loopg [11,60] n (fun kq x11 x60 wr=>∃ i:Nat,x60=.int .i64 i/\i+kq=n/\Aside0 (RunG B I an W9 wr b30 i))
  case atStart=>exact ⟨0,rfl,by omega,⟨HI0.out⟩⟩
  case round =>
   obtain ⟨i,rfl,hik,HX⟩:=hrel
   by_cases hin:i < n
   ·have f1:(i:Int) < (n:Int):=by omega
    have GW:=Aside0.mk (show wrap64 ((i:Int)+1)=(i:Int)+1 from w64 _ (by have:=HScr.out.2.1;omega))
    obtain ⟨g,rfl,hgw,⟨kd,k,A',n',c',d1,d2,d3,d4,A'',n'',c'',hV⟩,hcs⟩:=HScr.out.1 i hin
    have hst:=HB0.out.2.2 i hin
    rw [hV] at hcs hst
    have HC:=Aside0.mk (fun W hb=>tell_run HB0.out.2.1 (HX.out.below HB0.out.2.1 (W':=W) hb) (by rw [hb30];exact ⟨HB0.out.1.2,Nat.le_refl _⟩) (show i < 400 by have:=HScr.out.2.1;omega) H9.out.x56 (A':=A') (n':=n') (c':=c') hst)
    have HV:=Aside0.mk (OpAt.cells (B:=0) hcs (HX.out.bel H9.out.bl (by rw [hb30];exact HB0.out.1)) hgw)
    obtain ⟨y0,y1,y2,y3,y4,y5,y6,y7⟩:=HV.out
    have HN9:=Aside0.mk (And.intro hin hik)
    unfold opC at HC
    clear hcs hst hV hgw
    go_wp2_with (first|(go_at_call 21;go_loud (refine (HC.out _ (below_alloc (Below.refl _ _) _)).mono ?_;rintro e6 w6 ⟨rfl,hi6⟩;have H6:=Aside0.mk hi6;clear hi6)))
    go_roundg (n - (i+1))
    case measure=>exact meas5 HN9.out.1 HN9.out.2
    case rel=>exact ⟨i+1,by simp [GW.out],meas4 HN9.out.1,⟨H6.out⟩⟩
   ·have f1:¬ (i:Int) < (n:Int):=by omega
    have e1:i=n:=by omega
    subst e1
    have hbel:=HX.out.bel H9.out.bl (by rw [hb30];exact HB0.out.1)
    obtain ⟨⟨v,Ls,x30,az,hm⟩,hiv,hfr⟩:=HX.out
    have z0:wr.cell? ⟨b30,0,none⟩=some v:=by simp [World.cell?,x30]
    have HZ:=Aside0.mk (And.intro az (And.intro hm hbel))
    obtain ⟨A8,c8',rfl,_⟩:=own_slice2 az.own
    clear x30 az hm hiv hfr hbel
    have HP:RunQ w wr (.returned (.tuple #[.slice A8 Ls.length c8',.int .i64 0])) ((List.range i).map an):=⟨_,_,_,_,rfl,HZ.out⟩
    go_wp2
    exact bodyPost_ret (results_list (rs:=[.tmp 4,.tmp 5]) rfl (by simp) (.tmp (.tmp .nil))) rfl HP
end Go.Proofs.YtmmcbncpnlknbaaGreat.Top
namespace Go.Proofs.YtmmcbncpnlknbaaGreat.Top
open Go Go.RowKit Go.Proofs.YtmmcbncpnlknbaaGreatW.PrintWords Go.Proofs.YtmmcbncpnlknbaaGreatW.PrintLast Go.Proofs.YtmmcbncpnlknbaaGreatW.PrintMore
theorem tk9 {a b c i:Nat} (h:a<=b+2000) (h2:b<=c+2000*i):a<=c+2000*(i+1) :=
 Nat.le_trans h (Nat.le_trans (Nat.add_le_add_right h2 2000) (Nat.le_of_eq (Nat.add_assoc c (2000*i) 2000)))
def RunP (w w':World) (e:Ending) (l:List Op1) (P T O:Nat):Prop :=
 ∃ v Ls B base,e=.returned (.tuple #[v,.int .i64 0])/\Az B w' base v Ls/\Ls.map (fun q=>q.2.2)=anP P T O l pst0/\Below w.heap.size w w'
theorem anP_get (P T O:Nat):∀ (l:List Op1) (p:Pst) (d:Op1),anP P T O l p=(List.range l.length).map fun i=>(stepP P T O (stP P T O (l.take i) p) (l.getD i d)).2
 | [],p,d=>rfl
 | o :: l,p,d=>by
  rw [anP,anP_get P T O l _ d,List.length_cons,List.range_succ_eq_map,List.map_cons,List.map_map]
  rfl
theorem run_ok {w:World} {K M Z T L O:Nat} (hg:Geo K M Z T L O) {A:Option Addr} {n c:Nat} {l:List Op1} (hs:Scr w A n c l) :
  Calls Tryz.prog 7 #[geoV K M Z T L O,.slice A n c] w fun e w'=>RunP w w' e l (K*Z) T O:=by
 have h7:=hg.n7
 obtain ⟨V,hV⟩:∃ V:Nat->Array Value,∀ i,i < n->∃ q,l[i]?=some q/\∃ g,A=some ⟨g,0,none⟩/\g < w.heap.size/\∃ A' c' d1 d2 d3 d4 A'' n'' c'',V i=opC q.kd q.key A' q.data.length c' d1 d2 d3 d4 (.slice A'' n'' c'')/\(∀ j,j < 8->w.cell? ⟨g,i*8+j,none⟩=(V i)[j]?)/\Im w.heap.size w (.slice A' q.data.length c') q.data:=by
  have h1:∀ i,∃ v:Array Value,i < n->∃ q,l[i]?=some q/\∃ g,A=some ⟨g,0,none⟩/\g < w.heap.size/\∃ A' c' d1 d2 d3 d4 A'' n'' c'',v=opC q.kd q.key A' q.data.length c' d1 d2 d3 d4 (.slice A'' n'' c'')/\(∀ j,j < 8->w.cell? ⟨g,i*8+j,none⟩=v[j]?)/\Im w.heap.size w (.slice A' q.data.length c') q.data:=fun i=>by
   by_cases hi:i < n
   ·have hil:i < l.length:=by have:=hs.len.1;omega
    obtain ⟨g,rfl,hgw,A',c',d1,d2,d3,d4,A'',n'',c'',hcs,hIm⟩:=hs.row i _ (List.getElem?_eq_getElem hil)
    exact ⟨_,fun _=>⟨_,List.getElem?_eq_getElem hil,g,rfl,hgw,A',c',d1,d2,d3,d4,A'',n'',c'',rfl,hcs,hIm⟩⟩
   ·exact ⟨#[],fun h=>absurd h hi⟩
  exact ⟨fun i=>Classical.choose (h1 i),fun i=>Classical.choose_spec (h1 i)⟩
 refine (run_gen hg hs.len.2.2 (V:=V) (fun i hi=>?_) (fun i=>(stepP (K*Z) T O (stP (K*Z) T O (l.take i) pst0) (l.getD i ⟨0,⟨#[]⟩,[]⟩)).2) (fun W0 b56 wd s c b1 b2 a f Q h9=>?_)).mono ?_
 ·obtain ⟨q,_,g,hA,hgw,A',c',d1,d2,d3,d4,A'',n'',c'',h1,h2,_⟩:=hV i hi
  exact ⟨g,hA,hgw,⟨_,_,_,_,_,_,_,_,_,_,_,_,h1⟩,h2⟩
 ·have hst0:=h9.st.raise (Nat.le_of_lt h9.ge.1) h9.rs.1 h9.rs.2
  have hwd0:W0.cell? ⟨wd,0,none⟩=some (.pointer (some ⟨s,0,none⟩)):=by simp [World.cell?,h9.xw,wdC]
  refine ⟨a,fun i W=>StI a s c b1 b2 a f K M Z T L O Q (3*(K+M)+2000*i) (stP (K*Z) T O (l.take i) pst0) W/\W.cell? ⟨wd,0,none⟩=some (.pointer (some ⟨s,0,none⟩)),⟨Nat.le_of_lt h9.ge.1,hst0.B_le⟩,fun i W W' P hi hG hP=>⟨StI.okv _ _ _ hi.1 hG hP,?_⟩,⟨⟨_,_,_,_,_,hst0,by omega⟩,hwd0⟩,fun i hi W hI hfr=>?_⟩
  ·have hf:=Gs.far hG hP
   have h1:=hf.block wd (World.block_lt_of_cell? _ _ hi.2) (.inl h9.ge.2.2.1)
   have h2:=hi.2
   unfold World.cell? at h2 ⊢
   rw [h1]
   exact h2
  ·obtain ⟨q,hq,g,hA,hgw,A',c',d1,d2,d3,d4,A'',n'',c'',h1,_,him⟩:=hV i hi
   obtain ⟨⟨Tk,E,ar,ba,ct,st,hT⟩,hwd⟩:=hI
   have hbel:Below w.heap.size w W:=by
    have h1:=hfr.below hst0.B_le
    have h2:=h9.bl
    have h3:=h9.ge.1
    exact ⟨h1.os.trans h2.os,h1.tape.trans h2.tape,h1.output.trans h2.output,Nat.le_trans h2.size h1.size,fun k hk=>(h1.block k (by omega)).trans (h2.block k hk)⟩
   have hd2:Im a W (.slice A' q.data.length c') q.data:=(him.fr (Fr.of_below hbel)).raise (Nat.le_of_lt h9.ge.1)
   have hk:=hs.ok _ (List.mem_of_getElem? hq)
   have hep:=stP_ep (K*Z) T O (l.take i) pst0
   have htk:(l.take i).length<=i:=by rw [List.length_take];omega
   have hep0:pst0.ep=0:=rfl
   have hn4:=hs.len.2.2
   have hts:l.take (i+1)=l.take i ++ [q]:=by rw [List.take_add_one,hq];rfl
   have hqd:l.getD i ⟨0,⟨#[]⟩,[]⟩=q:=by rw [List.getD_eq_getElem?_getD,hq];rfl
   rw [h1]
   refine Calls.mono (do_gen (B:=a) (an:=(stepP (K*Z) T O (stP (K*Z) T O (l.take i) pst0) q).2) (I:=fun W=>StI a s c b1 b2 a f K M Z T L O Q (Tk+2000) (stepP (K*Z) T O (stP (K*Z) T O (l.take i) pst0) q).1 W/\W.cell? ⟨wd,0,none⟩=some (.pointer (some ⟨s,0,none⟩))) (fun W W' P hi hG hP=>⟨StI.okv _ _ _ hi.1 hG hP,?_⟩) st.B_le hk.1 (fun W2 hb2=>Calls.mono (cli_ok (st.below hb2) hg ((hb2.cell (p:=⟨wd,0,none⟩) (World.block_lt_of_cell? _ _ hwd)).trans hwd) h9.ge.2.2.1 (q:=q) (hd2.fr (Fr.of_below hb2)) hk (by omega) (by omega) d1 d2 d3 d4 (.slice A'' n'' c'')) ?_)) ?_
   ·have hf:=Gs.far hG hP
    have h1:=hf.block wd (World.block_lt_of_cell? _ _ hi.2) (.inl h9.ge.2.2.1)
    have h2:=hi.2
    unfold World.cell? at h2 ⊢
    rw [h1]
    exact h2
   ·intro e w' hcl
    obtain ⟨g1,g2,g3,g4⟩:=CliP.op (st.below hb2) hcl
    have hw2:=(hb2.cell (p:=⟨wd,0,none⟩) (World.block_lt_of_cell? _ _ hwd)).trans hwd
    refine ⟨g1,⟨g2,?_⟩,g3,g4⟩
    have h1:=g3.block wd (World.block_lt_of_cell? _ _ hw2) (.inl h9.ge.2.2.1)
    unfold World.cell? at hw2 ⊢
    rw [h1]
    exact hw2
   ·rintro e w' ⟨g1,⟨⟨Tk',E',ar',ba',ct',st',hT'⟩,g3⟩,g4,g5⟩
    rw [hqd]
    refine ⟨g1,⟨⟨Tk',E',ar',ba',ct',?_,tk9 hT' hT⟩,g3⟩,g4,g5⟩
    rw [hts,stP_snoc]
    exact st'
 ·rintro e w' ⟨v,Ls,B,base,rfl,h1,h2,h3⟩
  refine ⟨v,Ls,B,base,rfl,h1,?_,h3⟩
  rw [h2,anP_get (K*Z) T O l pst0 ⟨0,⟨#[]⟩,[]⟩,<- hs.len.1]
end Go.Proofs.YtmmcbncpnlknbaaGreat.Top
