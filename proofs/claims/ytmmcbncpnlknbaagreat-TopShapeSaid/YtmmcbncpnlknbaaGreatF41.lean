import Derived.Test.YtmmcbncpnlknbaaGreatF40
set_option linter.unusedVariables false
set_option linter.unusedSimpArgs false
namespace Go.Proofs.YtmmcbncpnlknbaaGreat.Top
open Go Go.RowKit Go.Proofs.YtmmcbncpnlknbaaGreatW.PrintWords Go.Proofs.YtmmcbncpnlknbaaGreatW.PrintLast Go.Proofs.YtmmcbncpnlknbaaGreatW.PrintMore
set_option maxRecDepth 100000
def VA (gd:Nat):Nat->Array Value
 | 0=>opC 1 keyA (some ⟨gd,0,none⟩) 1 1 0 0 0 0 (.slice none 0 0)
 | 1=>opC 9 ⟨#[]⟩ none 0 0 0 0 0 0 (.slice none 0 0)
 | 2=>opC 8 ⟨#[]⟩ none 0 0 0 0 0 0 (.slice none 0 0)
 | 3=>opC 2 keyA none 0 0 0 0 0 0 (.slice none 0 0)
 | 4=>opC 9 ⟨#[]⟩ none 0 0 1 0 0 0 (.slice none 0 0)
 | _=>opC 2 keyA none 0 0 0 0 0 0 (.slice none 0 0)
def ansA:Nat->Ans
 | 3=>⟨0,[7],0,[]⟩
 | 5=>⟨150,[],0,[]⟩
 | _=>⟨0,[],0,[]⟩
def pA:Pst:=(putP (1*1) 2 2 pst0 keyA [7]).1
theorem pA_S:pA.S=[obA]:=by rfl
theorem pA_ep:pA.ep=1:=by rfl
def WA (W:World) (wd s a f:Nat):Prop:=Wd W wd (.pointer (some ⟨s,0,none⟩)) 0 a f 1 1 1 2 1 2 (.pointer none)
def IA (B wd s c b1 b2 a f:Nat) (Q:Nat->Prop):Nat->World->Prop
 | 0=>fun W=>StI B s c b1 b2 a f 1 1 1 2 1 2 Q 6 pst0 W/\WA W wd s a f
 | 1=>fun W=>StI B s c b1 b2 a f 1 1 1 2 1 2 Q 2006 pA W/\WA W wd s a f
 | 2=>fun W=>∃ Tk E,Ax B W a Q 8 2 Tk dead1 E true/\Fd W f/\EByte E/\Hd 2 dead1 E/\E 1 6=SecA.sect 6 1 [7]/\WA W wd s a f
 | 3=>fun W=>∃ s c b1 b2 Tk E,Sb B W s c b1 b2 a f 1 1 1 2 1 2 Q Tk dead1 E true 0 0 1 [obA]/\E 1 6=SecA.sect 6 1 [7]/\WA W wd s a f
 | 4=>fun W=>∃ s c b1 b2 Tk E,Sb B W s c b1 b2 a f 1 1 1 2 1 2 Q Tk dead1 E true 0 0 1 [obA]/\E 1 6=SecA.sect 6 1 [7]/\WA W wd s a f
 | _=>fun W=>∃ s c b1 b2 Tk E,Sb B W s c b1 b2 a f 1 1 1 2 1 2 Q Tk dead2 E true 0 0 1 [obA]/\WA W wd s a f
section
variable {B:Nat} {w W W':World} {s c b1 b2 a f wd:Nat} {Q:Nat->Prop} {Tk:Nat} {dead:Nat->Bool} {E:Nat->Int->List Int} {cl:Bool}
theorem WA.far (h:WA W wd s a f) {P:Nat->Prop} (hg:Gs P W W') (hP:∀ k,k < W.heap.size->P k->B<=k/\∃ cells t,W.heap[k]?=some (.cells cells t (0,0))/\(t=43∨t=30)):WA W' wd s a f:=wd_gs h hg (fun hp=>by
 obtain ⟨_,cells,t,h1,h2⟩:=hP wd (blk_lt h) hp
 have h3:W.heap[wd]?=_:=h
 rw [h3] at h1
 cases h1
 rcases h2 with h2|h2 <;> cases h2)
theorem Ax.far {sec:Int} {n:Nat} (h:Ax B W a Q sec n Tk dead E cl) {P:Nat->Prop} (hg:Gs P W W') (hP:∀ k,k < W.heap.size->P k->B<=k/\∃ cells t,W.heap[k]?=some (.cells cells t (0,0))/\(t=43∨t=30)):Ax B W' a Q sec n Tk dead E cl :=
 h.keep (Gs.far hg hP) (fun k hk=>hg.block k (h.S_ge hk).2.2 (fun hp=>by
  obtain ⟨_,cells,t,h1,h2⟩:=hP k (h.S_ge hk).2.2 hp
  exact h.not_cells h1 (by rcases h2 with rfl|rfl <;> decide) hk))
theorem IA.okv:∀ i,Okv B (IA B wd s c b1 b2 a f Q i)
 | 0=>fun W W' P h hg hP=>⟨StI.okv _ _ _ h.1 hg hP,h.2.far hg hP⟩
 | 1=>fun W W' P h hg hP=>⟨StI.okv _ _ _ h.1 hg hP,h.2.far hg hP⟩
 | 2=>fun W W' P ⟨Tk,E,h1,h2,h3,h4,h5,h6⟩ hg hP=>⟨Tk,E,h1.far hg hP,h2.fr (Gs.far hg hP),h3,h4,h5,h6.far hg hP⟩
 | 3=>fun W W' P ⟨s,c,b1,b2,Tk,E,h1,h2,h3⟩ hg hP=>⟨s,c,b1,b2,Tk,E,h1.far hg hP,h2,h3.far hg hP⟩
 | 4=>fun W W' P ⟨s,c,b1,b2,Tk,E,h1,h2,h3⟩ hg hP=>⟨s,c,b1,b2,Tk,E,h1.far hg hP,h2,h3.far hg hP⟩
 | (n+5)=>fun W W' P ⟨s,c,b1,b2,Tk,E,h1,h3⟩ hg hP=>⟨s,c,b1,b2,Tk,E,h1.far hg hP,h3.far hg hP⟩
theorem fk_of {sec:Int} {n:Nat} (h:Ax B W a Q sec n Tk dead E cl) (hg:Gs Q W W'):Fr B W W'/\Fk W W':=⟨h.fr hg,fun k cells t hk ht=>hg.block k (blk_lt hk) (h.not_cells hk (by rcases ht with rfl|rfl <;> decide))⟩
theorem step0 (h:IA B wd s c b1 b2 a f Q 0 W) {gd:Nat} (hd:Im B W (.slice (some ⟨gd,0,none⟩) 1 1) [7]) :
  Calls Tryz.prog 22 #[.pointer (some ⟨wd,0,none⟩),.agg (VA gd 0)] W fun e w'=>OpR B (IA B wd s c b1 b2 a f Q 1) W w' e (ansA 0):=by
 obtain ⟨⟨Tk,E,ar,ba,ct,st,hT⟩,hw⟩:=h
 refine do_gen (IA.okv 1) st.B_le (.inl rfl) (fun W2 hb=>?_)
 have st2:=st.below hb
 have hw2:WA W2 wd s a f:=wd_below hw hb
 have hu:¬ Us Q s b1 b2 wd:=Us.cells st2 hw2 (by decide)
 refine (cli_put st2 geo1 (wd_old hw2).1 hu (k:=keyA) (d:=[7]) (hd.fr (Fr.of_below hb)) (dB (by decide)) (by decide) (by decide) (by omega) 0 0 0 0 (.slice none 0 0)).mono ?_
 intro e w' hcl
 obtain ⟨g1,⟨Tk',E',ar',ba',ct',q1,q2⟩,g3,g4⟩:=CliP.op st2 hcl
 obtain ⟨_,_,_,_,_,_,_,_,hG⟩:=hcl
 exact ⟨g1,⟨⟨Tk',E',ar',ba',ct',q1,by omega⟩,wd_gs hw2 hG hu⟩,g3,g4⟩
theorem step1 (h:IA B wd s c b1 b2 a f Q 1 W) (gd:Nat) :
  Calls Tryz.prog 22 #[.pointer (some ⟨wd,0,none⟩),.agg (VA gd 1)] W fun e w'=>OpR B (IA B wd s c b1 b2 a f Q 2) W w' e (ansA 1):=by
 obtain ⟨⟨Tk,E,ar,ba,ct,st,hT⟩,hw⟩:=h
 refine do_fail (IA.okv 2) st.B_le (wd_all hw).1 (fun W2 hb=>?_)
 have st2:=st.below hb
 have hw2:WA W2 wd s a f:=wd_below hw hb
 refine (st2.sb.ax.fail 0 (by omega)).mono ?_
 rintro e w' ⟨rfl,hx,hG⟩
 obtain ⟨g1,g2⟩:=fk_of st2.sb.ax hG
 have hE:∀ i:Nat,i < 2->dead1 i=false->i=1:=fun i hi hd=>by
  rcases i with _|_|i
  ·cases hd
  ·rfl
  ·omega
 obtain ⟨l1,l2⟩:=st2.lg
 have hep:=st2.ep.1
 rw [pA_ep] at hep
 have hcs:ct=1/\ba=0:=by have:=l1 (by omega);omega
 obtain ⟨rfl,rfl⟩:=hcs
 obtain ⟨l3,_,l4⟩:=l2 rfl (Nat.le_refl _)
 have l5:=l4 rfl obA pA_S 1 (by omega)
 have hstr:=st2.str obA (by rw [pA_S];simp) 0 (by decide) 1 (by omega)
 refine ⟨rfl,⟨Tk,fun j y=>if j=0 then [] else E j y,hx,(st2.sb.fd.fr g1),fun i y=>?_,⟨⟨1,by omega,rfl⟩,fun i hi hd y=>?_,?_,?_,?_,?_,?_,?_⟩,?_,wd_gs hw2 hG (st2.sb.ax.not_cells hw2 (by decide))⟩,g1,g2⟩
 ·show byteL (if i=0 then [] else E i y)
  split
  ·exact fun x hx=>by simp at hx
  ·exact st2.sb.eb i y
 ·rcases i with _|_|i
  ·rfl
  ·cases hd
  ·omega
 ·intro i hi hd
  obtain rfl:=hE i hi hd
  exact (l3 1 0 (by omega)).trans (by decide +kernel)
 ·intro i hi hd
  obtain rfl:=hE i hi hd
  exact (l3 1 1 (by omega)).trans (by decide +kernel)
 ·intro i hi hd
  obtain rfl:=hE i hi hd
  exact (l3 1 2 (by omega)).trans (by decide +kernel)
 ·intro i hi hd
  obtain rfl:=hE i hi hd
  exact (l3 1 3 (by omega)).trans (by decide +kernel)
 ·intro i hi hd
  obtain rfl:=hE i hi hd
  exact (l3 1 4 (by omega)).trans (by decide +kernel)
 ·intro i hi hd
  obtain rfl:=hE i hi hd
  exact l5.trans (by decide +kernel)
 ·show E 1 6=SecA.sect 6 1 [7]
  exact hstr.trans (by decide +kernel)
end
section
variable {B:Nat} {w W W':World} {s c b1 b2 a f wd:Nat} {Q:Nat->Prop} {Tk:Nat} {dead:Nat->Bool} {E:Nat->Int->List Int} {cl:Bool}
theorem fk_below (hb:Below w.heap.size w W):Fr B w W/\Fk w W:=⟨Fr.of_below hb,fun k cells t hk ht=>hb.block k (blk_lt hk)⟩
theorem step2 (h:IA B wd s c b1 b2 a f Q 2 W) (hB:B<=wd) (gd:Nat) :
  Calls Tryz.prog 22 #[.pointer (some ⟨wd,0,none⟩),.agg (VA gd 2)] W fun e w'=>OpR B (IA B wd s c b1 b2 a f Q 3) W w' e (ansA 2):=by
 obtain ⟨Tk,E,hx,hf,he,hh,h6,hw⟩:=h
 refine do_rec (IA.okv 3) hx.B_le (fun W2 hb=>?_)
 have hx2:=hx.below hb
 have hw2:WA W2 wd s a f:=wd_below hw hb
 refine (wrecover_ok (K:=1) (M:=1) (Z:=1) (T:=2) (O:=2) hw2 hB hx2 (hf.below hb) good1 he hh).mono ?_
 rintro e w' ⟨rfl,s',c',b1',b2',hs,hwd,_,hG⟩
 have hnf:¬ Fz W2 wd:=fun ⟨cells,t,h1,h2⟩=>by
  have h3:W2.heap[wd]?=_:=hw2
  rw [h3] at h1
  cases h1
  exact h2 (by decide)
 refine ⟨rfl,⟨s',c',b1',b2',Tk,E,hs,h6,hwd⟩,hG.fr (fun k hk e=>?_),fun k cells t hk ht=>hG.block k (blk_lt hk) (fun e=>?_)⟩
 ·rcases e with e|rfl
  ·exact ⟨(hx2.S_ge e).1,(hx2.S_ge e).2.1⟩
  ·exact ⟨hB,hnf⟩
 ·rcases e with e|rfl
  ·exact hx2.not_cells hk (by rcases ht with rfl|rfl <;> decide) e
  ·have h3:W2.heap[k]?=_:=hw2
   rw [h3] at hk
   cases hk
   rcases ht with ht|ht <;> cases ht
theorem step3 (h:IA B wd s c b1 b2 a f Q 3 W) (gd:Nat) :
  Calls Tryz.prog 22 #[.pointer (some ⟨wd,0,none⟩),.agg (VA gd 3)] W fun e w'=>OpR B (IA B wd s c b1 b2 a f Q 4) W w' e (ansA 3):=by
 obtain ⟨s',c',b1',b2',Tk,E,hs,h6,hw⟩:=h
 refine do_gen (IA.okv 4) hs.ax.B_le (.inr (.inl rfl)) (fun W2 hb=>?_)
 have hs2:=hs.below hb
 have hw2:WA W2 wd s' a f:=wd_below hw hb
 refine (cli_get_gen (B:=B) (wd_old hw2).1 hs2.ax.B_le (k:=keyA) (r:=([7],0)) (fun W3 hb3=>getA1 (hs2.below hb3) h6) 0 0 0 0 (.slice none 0 0)).mono ?_
 rintro e w' ⟨h1,hb2⟩
 exact ⟨h1,(IA.okv (s:=s) (c:=c) (b1:=b1) (b2:=b2) 4).below ⟨s',c',b1',b2',Tk,E,hs2,h6,hw2⟩ hb2,fk_below hb2⟩
theorem step4 (h:IA B wd s c b1 b2 a f Q 4 W) (gd:Nat) :
  Calls Tryz.prog 22 #[.pointer (some ⟨wd,0,none⟩),.agg (VA gd 4)] W fun e w'=>OpR B (IA B wd s c b1 b2 a f Q 5) W w' e (ansA 4):=by
 obtain ⟨s',c',b1',b2',Tk,E,hs,h6,hw⟩:=h
 refine do_fail (IA.okv 5) hs.ax.B_le (wd_all hw).1 (fun W2 hb=>?_)
 have hs2:=hs.below hb
 have hw2:WA W2 wd s' a f:=wd_below hw hb
 refine (hs2.ax.fail 1 (by omega)).mono ?_
 rintro e w' ⟨rfl,hx,hG⟩
 refine ⟨rfl,⟨s',c',b1',b2',Tk,fun j y=>if j=1 then [] else E j y,hs2.disk hG hx (fun i y=>?_),wd_gs hw2 hG (hs2.ax.not_cells hw2 (by decide))⟩,fk_of hs2.ax hG⟩
 show byteL (if i=1 then [] else E i y)
 split
 ·exact fun x hx=>by simp at hx
 ·exact hs2.eb i y
theorem step5 (h:IA B wd s c b1 b2 a f Q 5 W) (gd:Nat) :
  Calls Tryz.prog 22 #[.pointer (some ⟨wd,0,none⟩),.agg (VA gd 5)] W fun e w'=>OpR B (IA B wd s c b1 b2 a f Q 6) W w' e (ansA 5):=by
 obtain ⟨s',c',b1',b2',Tk,E,hs,hw⟩:=h
 refine do_gen (IA.okv 6) hs.ax.B_le (.inr (.inl rfl)) (fun W2 hb=>?_)
 have hs2:=hs.below hb
 have hw2:WA W2 wd s' a f:=wd_below hw hb
 refine (cli_get_gen (B:=B) (wd_old hw2).1 hs2.ax.B_le (k:=keyA) (r:=([],150)) (fun W3 hb3=>getA2 (hs2.below hb3)) 0 0 0 0 (.slice none 0 0)).mono ?_
 rintro e w' ⟨h1,hb2⟩
 exact ⟨h1,(IA.okv (s:=s) (c:=c) (b1:=b1) (b2:=b2) 6).below ⟨s',c',b1',b2',Tk,E,hs2,hw2⟩ hb2,fk_below hb2⟩
end
theorem runA {w:World} {A:Option Addr} {c gd:Nat} (hop:ROp w A 6 (VA gd)) (hd:Im w.heap.size w (.slice (some ⟨gd,0,none⟩) 1 1) [7]) :
  Calls Tryz.prog 7 #[geoV 1 1 1 2 1 2,.slice A 6 c] w fun e w'=>RunQ w w' e ((List.range 6).map ansA) :=
 run_gen geo1 (by omega) hop ansA (fun W0 b56 wd s c b1 b2 a f Q h9=>⟨w.heap.size,IA w.heap.size wd s c b1 b2 a f Q,⟨Nat.le_refl _,h9.bl.size⟩,IA.okv,⟨⟨_,_,_,_,_,h9.st,by omega⟩,h9.xw⟩,fun i hi W hI hfr=>by
  rcases i with _|_|_|_|_|_|i
  ·exact step0 hI (hd.fr ((Fr.of_below h9.bl).trans hfr))
  ·exact step1 hI gd
  ·exact step2 hI (Nat.le_of_lt h9.ge.2.2.2) gd
  ·exact step3 hI gd
  ·exact step4 hI gd
  ·exact step5 hI gd
  ·omega⟩)
theorem results_23 {fn:Func} {p:Tmp} (h:fn.results=#[.cell p 23]) (tmps:Array Value) (w:World) (g:Nat) (cs:Array Value)
  (hp:tmps.getD p undef=.pointer (some ⟨g,0,none⟩)) (hg:w.heap[g]?=some (.cells cs 23 (0,0))) (hi:(Tryz.prog.info? 23).map (·.size)=some cs.size) :
  (results fn tmps).run Tryz.prog w=.ok (.agg cs) w:=by
 have hp':tmps[p]?.getD undef=.pointer (some ⟨g,0,none⟩):=by simpa using hp
 simp [results,h,hp',asAddr,run_loadVar_row w g 23 23 cs (0,0) _ hg Tryz.underlying23 rfl hi]
theorem tiny_ok (w:World):Calls Tryz.prog 9 #[] w fun e w'=>e=.returned (geoV 1 1 1 2 1 2)/\Below w.heap.size w w':=by
 unfold geoV
 go_enter Tryz.func9,Tryz.ntmps9
 go_wp2
 exact bodyPost_ret (results_23 rfl _ _ w.heap.size _ rfl (heap_alloc_new w _) (by kernel_rfl)) rfl ⟨rfl,below_alloc (Below.refl _ _) _⟩
theorem steps_ok (w:World):Calls Tryz.prog 10 #[geoV 1 1 1 2 1 2] w fun e w'=>e=.returned (.int .i64 8)/\Below w.heap.size w w':=by
 have H0:=Aside0.mk (show Gb w (w.alloc (.cells (geoC 1 1 1 2 1 2) 23)) w.heap.size 1 1 1 2 1 2 from ⟨heap_alloc_new w _,below_alloc (Below.refl _ _) _⟩)
 have HG:=Aside0.mk (fun W=>gcheck_ok good1 W)
 obtain ⟨s0,s1,s2,s3,s4,s5,_⟩:=H0.out.all
 unfold geoC at H0 s0 s1 s2 s3 s4 s5
 unfold geoV at HG ⊢
 go_enter Tryz.func10,Tryz.ntmps10
 go_wp2_with (first|(go_at_call 12;go_loud (refine (HG.out _).mono ?_;rintro e1 w1 ⟨rfl,hb1⟩;have H1:=Aside0.mk (H0.out.step hb1);obtain ⟨g0,g1,g2,g3,g4,g5,_⟩:=H1.out.all;clear hb1)))
 go_ret
 exact ⟨rfl,H1.out.2⟩
def cA (gd:Nat):Array Value:=#[.int .i64 1,.string ⟨#[97]⟩,.slice (some ⟨gd,0,none⟩) 1 1,.int .i64 0,.int .i64 0,.int .i64 0,.int .u8 0,.slice none 0 0,.int .i64 9,.string ⟨#[]⟩,.slice none 0 0,.int .i64 0,.int .i64 0,.int .i64 0,.int .u8 0,.slice none 0 0,.int .i64 8,.string ⟨#[]⟩,.slice none 0 0,.int .i64 0,.int .i64 0,.int .i64 0,.int .u8 0,.slice none 0 0,.int .i64 2,.string ⟨#[97]⟩,.slice none 0 0,.int .i64 0,.int .i64 0,.int .i64 0,.int .u8 0,.slice none 0 0,.int .i64 9,.string ⟨#[]⟩,.slice none 0 0,.int .i64 1,.int .i64 0,.int .i64 0,.int .u8 0,.slice none 0 0,.int .i64 2,.string ⟨#[97]⟩,.slice none 0 0,.int .i64 0,.int .i64 0,.int .i64 0,.int .u8 0,.slice none 0 0]
theorem ropA (w:World):ROp ((w.alloc (.cells #[.int .u8 7] 5)).alloc (.cells (cA w.heap.size) 39)) (some ⟨w.heap.size+1,0,none⟩) 6 (VA w.heap.size):=fun i hi=>by
 refine ⟨w.heap.size+1,rfl,by simp,?_,fun j hj=>?_⟩
 ·rcases i with _|_|_|_|_|_|i
  all_goals first|exact ⟨_,_,_,_,_,_,_,_,_,_,_,_,rfl⟩|omega
 ·have hc:∀ k,((w.alloc (.cells #[.int .u8 7] 5)).alloc (.cells (cA w.heap.size) 39)).cell? ⟨w.heap.size+1,k,none⟩=(cA w.heap.size)[k]? :=fun k=>by
   simp only [World.cell?,two1]
   rfl
  rw [hc]
  rcases i with _|_|_|_|_|_|i
  all_goals first|omega|(rcases j with _|_|_|_|_|_|_|_|j <;> first|rfl|omega)
theorem ROp.below {w W:World} {A:Option Addr} {n:Nat} {V:Nat->Array Value} (h:ROp w A n V) (hb:Below w.heap.size w W):ROp W A n V:=fun i hi=>by
 obtain ⟨g,hA,hg,h1,h2⟩:=h i hi
 exact ⟨g,hA,Nat.lt_of_lt_of_le hg hb.size,h1,fun j hj=>(cell_below hb hg).trans (h2 j hj)⟩
theorem imA (w:World) (o:Obj) (B:Nat):Im B ((w.alloc (.cells #[.int .u8 7] 5)).alloc o) (.slice (some ⟨w.heap.size,0,none⟩) 1 1) [7]:=by
 have h:((w.alloc (.cells #[.int .u8 7] 5)).alloc o).ownsRow 0 5 1 (.slice (some ⟨w.heap.size,0,none⟩) 1 1) 1 [.int .u8 7]:=⟨rfl,.inr ⟨w.heap.size,1,#[.int .u8 7],rfl,Nat.zero_le _,two0 w _ _,Nat.le_refl _,by decide,rfl,rfl⟩⟩
 exact Im.of_R (Kd.R_of_own (h1:=fun _=>rfl) (ok:=fun _=>True) h (fun _ _=>trivial))
set_option maxHeartbeats 4000000 in
theorem awake_ok (w:World):Calls Tryz.prog 4 #[] w fun e w'=>e=.returned (.bool true)/\Below w.heap.size w w':=by
 have hb0:Below w.heap.size w ((w.alloc (.cells #[.int .u8 7] 5)).alloc (.cells (cA w.heap.size) 39)):=below_alloc (below_alloc (Below.refl _ _) _) _
 have H0:=Aside0.mk (And.intro (ropA w) (And.intro (imA w (.cells (cA w.heap.size) 39) 0) hb0))
 have HT:=Aside0.mk tiny_ok
 have HS:=Aside0.mk steps_ok
 obtain ⟨W0,hW0⟩:∃ q,(w.alloc (.cells #[.int .u8 7] 5)).alloc (.cells (cA w.heap.size) 39)=q:=⟨_,rfl⟩
 rw [hW0] at H0
 unfold cA at hW0
 unfold geoV at HT HS
 clear hb0
 go_enter Tryz.func4,Tryz.ntmps4
 go_upto_region 2 with fail
 try rw [hW0]
 clear hW0
 have hrun:=fun (W:World) (hb:Below W0.heap.size W0 W)=>runA (w:=W) (c:=6) (H0.out.1.below hb) ((H0.out.2.1.fr (Fr.of_below hb)).raise (Nat.zero_le _))
 unfold geoV at hrun
 have HRun:=Aside0.mk hrun
 clear hrun
 go_upto_region 3 with (first|(go_at_call 7;go_loud (refine (HRun.out _ H1.out).mono ?_;rintro e3 w3 ⟨v3,Ls,B3,base3,rfl,haz,hms,hb3⟩;have hl:Ls.length=6:=(by simpa using congrArg List.length hms);have haz':=haz.own;rw [hl] at haz';obtain ⟨A3,c3,h33,_⟩:=own_slice2 haz';subst h33;have H3:=Aside0.mk (And.intro haz (And.intro haz' (And.intro hms (And.intro hl (below_step H0.out.2.2 (below_step H1.out hb3))))));clear haz haz' hms hl hb3))|(go_at_call 9;go_loud (refine (HT.out _).mono ?_;rintro e1 w1 ⟨rfl,hb1⟩;have H1:=Aside0.mk hb1;clear hb1)))
 obtain ⟨haz,haz',hms,hl,hbl⟩:=H3.out
 obtain ⟨g3,rfl⟩:∃ g3,A3=some ⟨g3,0,none⟩:=by
  rcases haz'.2 with ⟨_,h0⟩|⟨g,cap,cur,he,_⟩
  ·simp at h0
  ·injection he with he1
   exact ⟨g,he1⟩
 rcases Ls with _|⟨q0,_|⟨q1,_|⟨q2,_|⟨q3,_|⟨q4,_|⟨q5,_|⟨q6,Ls⟩⟩⟩⟩⟩⟩⟩
 all_goals try (simp at hl;done)
 have hm:[q0.2.2,q1.2.2,q2.2.2,q3.2.2,q4.2.2,q5.2.2]=[ansA 0,ansA 1,ansA 2,ansA 3,ansA 4,ansA 5]:=hms
 simp only [List.cons.injEq,and_true] at hm
 obtain ⟨m0,m1,m2,m3,m4,m5⟩:=hm
 have hc:∀ k v,([q0,q1,q2,q3,q4,q5].flatMap anCells)[k]?=some v->k < 36->w3.cell? ⟨g3,k,none⟩=some v:=fun k v h hk=>(haz'.cellAt k (by omega)).trans h
 have c0:w3.cell? ⟨g3,0,none⟩=some (.int .i64 0):=hc 0 _ (by show some (Value.int .i64 q0.2.2.err)=_;rw [m0];rfl) (by omega)
 have c2:w3.cell? ⟨g3,12,none⟩=some (.int .i64 0):=hc 12 _ (by show some (Value.int .i64 q2.2.2.err)=_;rw [m2];rfl) (by omega)
 have c5:w3.cell? ⟨g3,30,none⟩=some (.int .i64 150):=hc 30 _ (by show some (Value.int .i64 q5.2.2.err)=_;rw [m5];rfl) (by omega)
 have hd3:=(haz.row q3 (by simp)).1
 rw [m3] at hd3
 obtain ⟨A4,c4,h44,hc4,hC4⟩:=hd3.slice
 have c3:w3.cell? ⟨g3,19,none⟩=some (.slice A4 1 c4):=hc 19 _ (by show some q3.1=_;rw [h44];rfl) (by omega)
 obtain ⟨ad,rfl,hx⟩:=Kd.at_int hC4 0 (by omega) (by decide)
 have c6:w3.cell? ad=some (.int .u8 7):=hx
 have HB:=Aside0.mk hbl
 clear haz haz' hms hl hbl hc hd3 hc4 hC4 hx m0 m1 m2 m3 m4 m5 H3 HRun
 go_wp2_with (first|(go_at_call 10;go_loud (refine (HS.out _).mono ?_;rintro e5 w5 ⟨rfl,hb5⟩;have H5:=Aside0.mk hb5;clear hb5))|(go_at_call 9;go_loud (refine (HT.out _).mono ?_;rintro e4 w4 ⟨rfl,hb4⟩;have H4:=Aside0.mk hb4;clear hb4)))
 go_ret
 exact ⟨rfl,below_step (below_step HB.out H4.out) H5.out⟩
abbrev Mdl:=ByteArray×Option Addr×Nat×Nat
def cellM (q:Mdl):List Value:=[.string q.1,.slice q.2.1 q.2.2.1 q.2.2.2]
structure Md (w:World) (A:Option Addr) (c:Nat) (L:List Mdl):Prop where
 cap:L.length<=c
 row:∀ i q,L[i]?=some q->∃ g,A=some ⟨g,0,none⟩/\g < w.heap.size/\w.cell? ⟨g,i*2,none⟩=some (.string q.1)/\w.cell? ⟨g,i*2+1,none⟩=some (.slice q.2.1 q.2.2.1 q.2.2.2)
 dat:∀ q ∈ L,q.2.2.1<=1000
 sh:(A=none/\c=0/\L=[])∨∃ g cs,A=some ⟨g,0,none⟩/\w.heap[g]?=some (.cells cs 80 (0,0))
section
variable {w W:World} {A:Option Addr} {c:Nat} {L:List Mdl}
theorem Md.below (h:Md w A c L) (hb:Below w.heap.size w W):Md W A c L:=⟨h.cap,fun i q hq=>by
 obtain ⟨g,h1,h2,h3,h4⟩:=h.row i q hq
 exact ⟨g,h1,Nat.lt_of_lt_of_le h2 hb.size,(cell_below hb h2).trans h3,(cell_below hb h2).trans h4⟩,h.dat,h.sh.imp id fun ⟨g,cs,h1,h2⟩=>⟨g,cs,h1,(hb.block g (blk_lt h2)).trans h2⟩⟩
theorem Md.nil (w:World):Md w none 0 []:=⟨Nat.le_refl _,fun i q h=>by simp at h,fun q h=>by simp at h,.inl ⟨rfl,rfl,rfl⟩⟩
def FndP (w w':World) (e:Ending):Prop:=(∃ B m c' b,e=.returned (.tuple #[.slice B m c',.bool b]))/\Below w.heap.size w w'
theorem find_ok (h:Md w A c L) (hn:L.length<=1000) (k:ByteArray) :
  Calls Tryz.prog 27 #[.slice A L.length c,.string k] w fun e w'=>FndP w w' e:=by
 have HH:=Aside0.mk (And.intro h hn)
 obtain ⟨n,hnn⟩:∃ n,L.length=n:=⟨_,rfl⟩
 have HN:=Aside0.mk hnn
 rw [hnn]
 clear h hn hnn
 go_enter Tryz.func27,Tryz.ntmps27
 go_wp2
 go_loopg [6] n (fun kq x6 wr=>∃ i:Nat,x6=.int .i64 i/\i+kq=n/\w=wr)
 case atStart=>exact ⟨0,rfl,by omega,rfl⟩
 case round =>
  obtain ⟨i,rfl,hik,rfl⟩:=hrel
  by_cases hin:i < n
  ·have g1:(i:Int) < (n:Int):=by omega
   have g0:(0:Int)<=(i:Int):=by omega
   have gw:wrap64 ((i:Int)+1)=(i:Int)+1:=w64 _ (by have:=HH.out.2;have:=HN.out;omega)
   have hil:i < L.length:=by have:=HN.out;omega
   obtain ⟨g,rfl,hg,hx,hy⟩:=HH.out.1.row i _ (List.getElem?_eq_getElem hil)
   generalize L[i]=q at hx hy
   obtain ⟨k1,B,m,c'⟩:=q
   simp only at hx hy
   have HI:=Aside0.mk (And.intro hin hik)
   clear hil hg
   cases hk:(k1.toList == k.toList) with
   | true =>
    go_wp2
    go_ret2
    exact ⟨⟨_,_,_,_,rfl⟩,Below.refl _ _⟩
   | false =>
    go_wp2
    go_roundg (n - (i+1))
    case measure=>exact meas5 HI.out.1 HI.out.2
    case rel=>exact ⟨i+1,by simp [gw],meas4 HI.out.1,rfl⟩
  ·have g1:¬ (i:Int) < (n:Int):=by omega
   go_wp2
   go_ret2
   exact ⟨⟨none,0,0,false,rfl⟩,Below.refl _ _⟩
def UsdP (w w':World) (e:Ending) (n:Nat):Prop:=(∃ r:Nat,e=.returned (.int .i64 r)/\r<=n*1000)/\Below w.heap.size w w'
theorem need_le {P m:Nat} (hm:m<=1000):needN P m<=1000:=by
 unfold needN
 split
 ·omega
 ·have:=Nat.div_le_self (m - 1) P
  omega
theorem used_ok {K M Z:Nat} {T Lx O:Int} (hg:LayA.Good K M Z T Lx O) (h:Md w A c L) (hn:L.length<=1000) :
  Calls Tryz.prog 28 #[geoV K M Z T Lx O,.slice A L.length c] w fun e w'=>UsdP w w' e L.length:=by
 have H0:=Aside0.mk (show Gb w (w.alloc (.cells (geoC K M Z T Lx O) 23)) w.heap.size K M Z T Lx O from ⟨heap_alloc_new w _,below_alloc (Below.refl _ _) _⟩)
 have HN:=Aside0.mk (fun (m:Nat) (hm:m<=1000) W=>needs_ok hg m (by omega) W)
 obtain ⟨n,hnn⟩:∃ n,L.length=n:=⟨_,rfl⟩
 have HH:=Aside0.mk (And.intro h (And.intro hn hnn))
 rw [hnn]
 unfold geoV at HN ⊢
 unfold geoC at H0
 clear h hn hnn hg
 go_enter Tryz.func28,Tryz.ntmps28
 go_wp2
 go_loopg [5,6] n (fun kq x5 x6 wr=>∃ i r:Nat,x5=.int .i64 r/\x6=.int .i64 i/\i+kq=n/\r<=i*1000/\Aside0 (Gb w wr w.heap.size K M Z T Lx O))
 case atStart=>exact ⟨0,0,rfl,rfl,by omega,by omega,H0⟩
 case round =>
  obtain ⟨i,r,rfl,rfl,hik,hr,HX⟩:=hrel
  by_cases hin:i < n
  ·have g1:(i:Int) < (n:Int):=by omega
   have g0:(0:Int)<=(i:Int):=by omega
   have gw:wrap64 ((i:Int)+1)=(i:Int)+1:=w64 _ (by have:=HH.out.2;omega)
   have hil:i < L.length:=by have:=HH.out.2;omega
   obtain ⟨g,rfl,hg,hx,hy⟩:=(HH.out.1.below HX.out.2).row i _ (List.getElem?_eq_getElem hil)
   have hm:=HH.out.1.dat _ (List.getElem_mem hil)
   generalize L[i]=q at hx hy hm
   obtain ⟨k1,B,m,c'⟩:=q
   simp only at hx hy hm
   have hb1:=below_drew1 (Below.refl wr.heap.size wr)
   have hy1:=(cell_below hb1 hg).trans hy
   have H1:=Aside0.mk (And.intro (HX.out.step hb1) hy1)
   have HG:=Aside0.mk (Nat.lt_of_lt_of_le hg hb1.size)
   have HM:=Aside0.mk (And.intro hm (And.intro (HN.out m hm) (need_le (P:=K*Z) hm)))
   have HI:=Aside0.mk (And.intro hin (And.intro hik (And.intro hr (show n<=1000 by have:=HH.out.2;omega))))
   obtain ⟨d,hd⟩:∃ d,needN (K*Z) m=d:=⟨_,rfl⟩
   rw [hd] at HM
   have hw2:IntKind.i64.wrap ((r:Int)+d)=(r:Int)+d:=(i64_w _).trans (w64 _ (by have:=HM.out.2.2;have:=HI.out;omega))
   obtain ⟨s0,s1,s2,s3,s4,s5,_⟩:=H1.out.1.all
   clear hil hg hx hy hb1 hm hd
   go_wp2
   go_region_held3 (fun W=>W.cell? ⟨w.heap.size,0,none⟩=some (.int .i64 K)/\W.cell? ⟨w.heap.size,1,none⟩=some (.int .i64 M)/\W.cell? ⟨w.heap.size,2,none⟩=some (.int .i64 Z)/\W.cell? ⟨w.heap.size,3,none⟩=some (.int .i64 T)/\W.cell? ⟨w.heap.size,4,none⟩=some (.int .i64 Lx)/\W.cell? ⟨w.heap.size,5,none⟩=some (.int .i64 O)/\W.cell? ⟨g,i*2+1,none⟩=some (.slice B m c')) (first|(exact ⟨H2.out.1.all.1,H2.out.1.all.2.1,H2.out.1.all.2.2.1,H2.out.1.all.2.2.2.1,H2.out.1.all.2.2.2.2.1,H2.out.1.all.2.2.2.2.2.1,H2.out.2⟩)|(exact ⟨H1.out.1.all.1,H1.out.1.all.2.1,H1.out.1.all.2.2.1,H1.out.1.all.2.2.2.1,H1.out.1.all.2.2.2.2.1,H1.out.1.all.2.2.2.2.2.1,H1.out.2⟩)) (first|(go_at_call 29;refine (HM.out.2.1 _).mono ?_;rintro e2 w2 ⟨rfl,hb2⟩;have H2:=Aside0.mk (And.intro (H1.out.1.step hb2) ((cell_below hb2 HG.out).trans H1.out.2));clear hb2))
   go_wp2
   go_roundg (n - (i+1))
   case measure=>exact meas5 HI.out.1 HI.out.2.1
   case rel=>exact ⟨i+1,r+d,by simp [hw2],by simp [gw],meas4 HI.out.1,by have:=HM.out.2.2;have:=HI.out;omega,Aside0.mk H2.out.1⟩
  ·have g1:¬ (i:Int) < (n:Int):=by omega
   have e1:i=n:=by omega
   subst e1
   go_wp2
   go_ret
   exact ⟨⟨r,rfl,hr⟩,HX.out.2⟩
end
theorem info80:(Tryz.prog.info? 80).map (fun i=>(i.zero,i.size,i.bytes))=some (some (.agg #[.string ⟨#[]⟩,.slice none 0 0]),2,40):=by kernel_rfl
theorem md_get:∀ (L:List Mdl) (i j:Nat) (q:Mdl),L[i]?=some q->j < 2->(L.flatMap cellM)[i*2+j]?=(cellM q)[j]?
 | [],i,j,q,h,_=>by simp at h
 | a :: L,0,j,q,h,hj=>by
  simp at h
  subst h
  rw [List.flatMap_cons,List.getElem?_append_left (by simp [cellM];omega),Nat.zero_mul,Nat.zero_add]
 | a :: L,i+1,j,q,h,hj=>by
  rw [List.flatMap_cons,List.getElem?_append_right (by simp [cellM];omega)]
  simp only [List.getElem?_cons_succ] at h
  rw [<- md_get L i j q h hj]
  congr 1
  simp [cellM]
  omega
theorem Md.of_own {w:World} {base c:Nat} {A:Option Addr} {L:List Mdl} (h:w.ownsRow base 80 2 (.slice A L.length c) L.length (L.flatMap cellM)) (hd:∀ q ∈ L,q.2.2.1<=1000):Md w A c L:=by
 obtain ⟨_,⟨e,h0⟩|⟨g,cap,cur,e,hg,hh,hcp,_,hs,ht⟩⟩:=h
 ·injection e with e1 e2 e3
  exact ⟨by omega,fun i q hq=>by rw [List.length_eq_zero_iff.1 h0] at hq;simp at hq,hd,.inl ⟨e1,e3,List.length_eq_zero_iff.1 h0⟩⟩
 ·injection e with e1 e2 e3
  subst e1 e3
  refine ⟨hcp,fun i q hq=>⟨g,rfl,(Array.getElem?_eq_some_iff.1 hh).1,?_⟩,hd,.inr ⟨g,cur,rfl,hh⟩⟩
  have hi:i < L.length:=(List.getElem?_eq_some_iff.1 hq).1
  have key:∀ j,j < 2->cur[i*2+j]?=(cellM q)[j]? :=fun j hj=>by
   have h1:=md_get L i j q hq hj
   rw [<- ht,List.getElem?_take] at h1
   rw [if_pos (by omega)] at h1
   simpa using h1
  have k0:=key 0 (by omega)
  have k1:=key 1 (by omega)
  simp only [cellM,Nat.add_zero] at k0 k1
  simp [World.cell?,hh,k0,k1]
theorem Md.grown {w W:World} {A:Option Addr} {c b n:Nat} {L:List Mdl} {v:Value} {xs:List Value} (h:Md w A c L) (ho:w.ownsRow b 39 8 v n xs) (hg:w.grownBy W v.ownBlock):Md W A c L:=by
 rcases h.sh with ⟨rfl,rfl,rfl⟩|⟨g,cs,rfl,hh⟩
 ·exact Md.nil W
 ·have hb:=hg.block g (blk_lt hh) (fun e=>own_ne2 ho hh (by decide) e.symm)
  refine ⟨h.cap,fun i q hq=>?_,h.dat,.inr ⟨g,cs,rfl,hb.trans hh⟩⟩
  obtain ⟨g',e,h1,h2,h3⟩:=h.row i q hq
  injection e with e
  injection e with e
  subst e
  exact ⟨g,rfl,Nat.lt_of_lt_of_le h1 hg.size,(World.cell?_of_block hb).trans h2,(World.cell?_of_block hb).trans h3⟩
section
variable {w W:World} {A:Option Addr} {c:Nat} {L:List Mdl}
def WouP (w w':World) (e:Ending) (n:Nat):Prop:=(∃ A c L,e=.returned (.slice A (List.length L) c)/\Md w' A c L/\L.length<=n)/\Below w.heap.size w w'
structure WoR (w W:World) (v:Value) (i:Nat) (L:List Mdl):Prop where
 own:W.ownsRow w.heap.size 80 2 v L.length (L.flatMap cellM)
 len:L.length<=i
 dat:∀ q ∈ L,q.2.2.1<=1000
 bel:Below w.heap.size w W
theorem without_ok (h:Md w A c L) (hn:L.length<=1000) (k:ByteArray) :
  Calls Tryz.prog 31 #[.slice A L.length c,.string k] w fun e w'=>WouP w w' e L.length:=by
 obtain ⟨n,hnn⟩:∃ n,L.length=n:=⟨_,rfl⟩
 have HH:=Aside0.mk (And.intro h (And.intro hn hnn))
 rw [hnn]
 clear h hn hnn
 go_enter Tryz.func31,Tryz.ntmps31
 go_wp2
 go_loopg [5,6] n (fun kq x5 x6 wr=>∃ (i:Nat) (L':List Mdl),x6=.int .i64 i/\i+kq=n/\Aside0 (WoR w wr x5 i L'))
 case atStart=>exact ⟨0,[],rfl,by omega,⟨World.ownsRow_nil _ _ _ _,Nat.le_refl _,fun q h=>by simp at h,Below.refl _ _⟩⟩
 case round =>
  obtain ⟨i,L',rfl,hik,HX⟩:=hrel
  obtain ⟨A9,c9,h9,_⟩:=own_slice2 HX.out.own
  subst h9
  by_cases hin:i < n
  ·have g1:(i:Int) < (n:Int):=by omega
   have g0:(0:Int)<=(i:Int):=by omega
   have gw:wrap64 ((i:Int)+1)=(i:Int)+1:=w64 _ (by have:=HH.out.2;omega)
   have hil:i < L.length:=by have:=HH.out.2;omega
   have hb40:(L'.length+1)*40<=140737488355328:=by have:=HH.out.2;have:=HX.out.len;omega
   have HL:=Aside0.mk hb40
   obtain ⟨g,rfl,hg,hx,hy⟩:=(HH.out.1.below HX.out.bel).row i _ (List.getElem?_eq_getElem hil)
   have hm:=HH.out.1.dat _ (List.getElem_mem hil)
   generalize L[i]=q at hx hy hm
   obtain ⟨k1,B,m,c'⟩:=q
   simp only at hx hy hm
   have HI:=Aside0.mk (And.intro hin (And.intro hik hm))
   clear hil hg hm hb40
   cases hk:(k1.toList == k.toList) with
   | true =>
    go_wp2
    go_roundg (n - (i+1))
    case measure=>exact meas5 HI.out.1 HI.out.2.1
    case rel=>exact ⟨i+1,L',by simp [gw],meas4 HI.out.1,⟨HX.out.own,by have:=HX.out.len;omega,HX.out.dat,HX.out.bel⟩⟩
   | false =>
    go_wp2_with (first|((with_reducible refine gate_builtin (b:=.append) (xs:=#[.tmp 20,.tmp 25]) rfl ?_);at_builtin;go_loud (refine print_append_cells (w0:=w) w.heap.size rfl (.tmp 20) (.tmp 25) 27 80 (.agg #[.string ⟨#[]⟩,.slice none 0 0]) 2 40 rfl Tryz.underlying27 info80 rfl (by decide) (by decide) (.slice A9 L'.length c9) L'.length (L'.flatMap cellM) [.string k1,.slice B m c'] rfl rfl rfl (by simp [Value.oneCell']) HX.out.own HX.out.bel HX.out.bel.size HL.out ?_;intro v4 w4 ho4 hb4 hg4 hat4;obtain ⟨A7,c7,h77,_⟩:=own_slice2 ho4;subst h77;have H4:=Aside0.mk (And.intro ho4 hb4);clear ho4 hb4 hg4 hat4)))
    go_roundg (n - (i+1))
    case measure=>exact meas5 HI.out.1 HI.out.2.1
    case rel=>exact ⟨i+1,L' ++ [(k1,B,m,c')],by simp [gw],meas4 HI.out.1,⟨by simpa [cellM] using H4.out.1,by have:=HX.out.len;simp;omega,fun q hq=>by
     rcases List.mem_append.1 hq with h|h
     ·exact HX.out.dat q h
     ·simp at h;subst h;exact HI.out.2.2,H4.out.2⟩⟩
  ·have g1:¬ (i:Int) < (n:Int):=by omega
   have e1:i=n:=by omega
   subst e1
   go_wp2
   go_ret
   exact ⟨⟨A9,c9,L',rfl,Md.of_own HX.out.own HX.out.dat,HX.out.len⟩,HX.out.bel⟩
end
end Go.Proofs.YtmmcbncpnlknbaaGreat.Top
