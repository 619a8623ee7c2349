import Derived.Test.YtmmcbncpnlknbaaGreatF31
set_option linter.unusedVariables false
set_option linter.unusedSimpArgs false
namespace Go.Proofs.YtmmcbncpnlknbaaGreat.Top
open Go Go.RowKit Go.Proofs.YtmmcbncpnlknbaaGreatW.PrintWords Go.Proofs.YtmmcbncpnlknbaaGreatW.PrintLast Go.Proofs.YtmmcbncpnlknbaaGreatW.PrintMore
section
variable {B:Nat} {w W:World} {s c b1 b2 a f:Nat} {K M Z T L O:Nat} {Q:Nat->Prop} {Tk:Nat} {E:Nat->Int->List Int} {ar ba ct:Nat} {p:Pst}
theorem call_first2 {w:World} {g s bs bk:Nat} (hfn:w.heap[g]?=some (.cells #[.func (.func 94) #[.pointer (some ⟨s,0,none⟩)] #[],.func (.func 99) #[] #[.pointer (some ⟨bs,0,none⟩),.pointer (some ⟨bk,0,none⟩)]] 101 (0,0)))
  {P1 P2:World->Prop} (h1f:∀ W,P1 W->W.heap[g]?=w.heap[g]?)
  (c0:Calls Tryz.prog 94 #[.pointer (some ⟨s,0,none⟩)] w fun e w'=>e=.returned (.int .i64 0)/\P1 w')
  (c1:∀ W,P1 W->Calls Tryz.prog 99 #[.pointer (some ⟨bs,0,none⟩),.pointer (some ⟨bk,0,none⟩)] W fun e w'=>e=.returned (.int .i64 0)/\P2 w') :
  Calls Tryz.prog 36 #[.slice (some ⟨g,0,none⟩) 2 2] w fun e w'=>e=.returned (.int .i64 0)/\P2 w':=by
 refine cfirst_ok (n:=2) (by omega) (fun i=>match i with
   | 0=>(94,#[.pointer (some ⟨s,0,none⟩)],#[])
   | _=>(99,#[],#[.pointer (some ⟨bs,0,none⟩),.pointer (some ⟨bk,0,none⟩)]))
  (fun i W=>match i with
   | 0=>W=w
   | 1=>P1 W
   | _=>P2 W) rfl ?_ ?_ ?_
 ·intro i hi W hP
  have hg:W.heap[g]?=w.heap[g]? :=by
   match i,hi,hP with
   | 0,_,hP=>exact congrArg (fun W:World=>W.heap[g]?) hP
   | 1,_,hP=>exact h1f W hP
  match i,hi with
  | 0,_=>simp [World.cell?,hg,hfn]
  | 1,_=>simp [World.cell?,hg,hfn]
 ·intro i hi xs W
  match i,hi with
  | 0,_=>exact Tryz.call94 xs W
  | 1,_=>exact Tryz.call99 xs W
 ·intro i hi W hP
  match i,hi,hP with
  | 0,_,hP=>cases hP;exact c0
  | 1,_,hP=>exact c1 W hP
theorem del_run (h:St B w s c b1 b2 a f K M Z T L O Q Tk E ar ba ct p) (hg:Geo K M Z T L O) {k:ByteArray} (hk:okK k=true) (hep:p.ep+1<=1000) (hT:Tk+2000<=1000000) (hf:(findS p.S k).isSome=true)
  {bs bk g:Nat} (hbs:w.heap[bs]?=some (.cells #[.pointer (some ⟨s,0,none⟩)] 59 (0,0))) (hbk:w.heap[bk]?=some (.cells #[.string k] 9 (0,0)))
  (hfn:w.heap[g]?=some (.cells #[.func (.func 94) #[.pointer (some ⟨s,0,none⟩)] #[],.func (.func 99) #[] #[.pointer (some ⟨bs,0,none⟩),.pointer (some ⟨bk,0,none⟩)]] 101 (0,0))) :
  Calls Tryz.prog 36 #[.slice (some ⟨g,0,none⟩) 2 2] w fun e w'=>e=.returned (.int .i64 0)/\PutR B w w' s c b1 b2 a f K M Z T L O Q Tk ⟨offS p.S k,p.dat,p.ep+1⟩:=by
 have hg':=hg.good
 unfold LayA.Good at hg'
 have hep2:=h.ep
 have h7:=hg.n7
 have hk':=hk
 unfold okK at hk'
 rw [decide_eq_true_iff] at hk'
 refine call_first2 hfn (P1:=fun W=>RoomP B w W s c b1 b2 a f K M Z T L O Q Tk E ba ct p.S) ?_ (room_ok h.sb hg.good h.wf.wf h.ep.2.2 h.ep.2.1 (by omega) (by omega)) (fun W hW=>?_)
 ·rintro W ⟨_,_,_,_,_,_,hG,_⟩
  exact ((h.sb.fr (hG.mono (fun k _ e=>e.elim .inl (fun e=>.inr (.inl e))))).cells hfn (by decide)).trans hfn.symm
 ·obtain ⟨Tk1,E1,ar1,ba1,ct1,hS1,hG1,r1,r2,r3,r4,r5,r6⟩:=hW
  have hG1':Gs (Us Q s b1 b2) w W:=hG1.mono (fun k _ e=>e.elim .inl (fun e=>.inr (.inl e)))
  have hf1:=h.sb.fr hG1'
  refine (del1_ok hS1 hg.good h.wf.wf r1 (by omega) (by omega) (hf1.cells hbs (by decide)) (hf1.cells hbk (by decide)) hk' hf).mono ?_
  rintro e w' ⟨rfl,hS2,hG2⟩
  refine ⟨rfl,_,_,ar1,ba1,ct1+1,⟨hS2,h.wf.off k,fun o ho i hi=>?_,⟨by simp only;omega,by omega,r3⟩,⟨fun _=>Nat.succ_pos _,fun e1 e2=>?_⟩⟩,by omega,hG1'.trans hG2⟩
  ·have ho1:=(mem_offS.1 ho).1
   have h9:=h.str o ho1 i hi
   have hr9:=h.wf.wf.rng o ho1 _ (getD_mem hi)
   refine Str.all ?_ (by omega)
   intro j hj
   rw [r5 _ _ (by omega)]
   exact h9 j hj
  ·have h8:=(h.lg.2 (by omega) (by omega)).2.1 (by omega)
   rw [h8] at hf
   cases hf
structure B2 (w W:World) (s:Nat) (k:ByteArray):Prop where
 xs:W.heap[w.heap.size]?=some (.cells #[.pointer (some ⟨s,0,none⟩)] 59 (0,0))
 xk:W.heap[w.heap.size+1]?=some (.cells #[.string k] 9 (0,0))
 bl:Below w.heap.size w W
theorem B2.new {k:ByteArray}:B2 w ((w.alloc (.cells #[.pointer (some ⟨s,0,none⟩)] 59)).alloc (.cells #[.string k] 9)) s k :=
 ⟨two0 w _ _,two1 w _ _,below_alloc (below_alloc (Below.refl _ _) _) _⟩
theorem B2.step {k:ByteArray} (h:B2 w W s k) {W':World} (hb:Below W.heap.size W W'):B2 w W' s k :=
 ⟨(hb.block _ (blk_lt h.xs)).trans h.xs,(hb.block _ (blk_lt h.xk)).trans h.xk,below_step h.bl hb⟩
theorem B2.all {k:ByteArray} (h:B2 w W s k) {cc:Nat} (hs:w.cell? ⟨s,0,none⟩=some (.pointer (some ⟨cc,0,none⟩))) (hlt:s < w.heap.size):W.cell? ⟨w.heap.size,0,none⟩=some (.pointer (some ⟨s,0,none⟩))/\W.cell? ⟨w.heap.size+1,0,none⟩=some (.string k)/\W.cell? ⟨s,0,none⟩=some (.pointer (some ⟨cc,0,none⟩)):=by
 refine ⟨?_,?_,(h.bl.cell (p:=⟨s,0,none⟩) hlt).trans hs⟩ <;> simp [World.cell?,h.xs,h.xk]
theorem B2.set4 {k:ByteArray} (h:B2 w W s k) {g:Nat} (hg:w.heap.size+1 < g) (v0 v1 v2 v3:Value):B2 w ((((W.setCell ⟨g,0,none⟩ v0).setCell ⟨g,1,none⟩ v1).setCell ⟨g,2,none⟩ v2).setCell ⟨g,3,none⟩ v3) s k:=by
 have h1:Gs (fun k=>k=g) W ((((W.setCell ⟨g,0,none⟩ v0).setCell ⟨g,1,none⟩ v1).setCell ⟨g,2,none⟩ v2).setCell ⟨g,3,none⟩ v3):=((((Gs.refl (fun k=>k=g) W).set (.inr rfl) 0 v0).set (.inr rfl) 1 v1).set (.inr rfl) 2 v2).set (.inr rfl) 3 v3
 exact ⟨(h1.block _ (blk_lt h.xs) (by omega)).trans h.xs,(h1.block _ (blk_lt h.xk) (by omega)).trans h.xk,below_of_gs h.bl h1 (fun k e=>by omega)⟩
def getX (S:List Ob) (k:ByteArray):Int:=if (findS S k).isSome=true then 0 else 193
theorem get_x {ad:ByteArray->Value} {S:List Ob} (h:Cat w c K M Z T L O b1 b2 S ad (ownM S) (cntM S)) (hw:WfS S T O) (k:ByteArray) (hk:k.size<=1000000) :
  Calls Tryz.prog 97 #[.pointer (some ⟨c,0,none⟩),.string k] w fun e w'=>(∃ x0 x1 x2 A n cc,e=.returned (.tuple #[.agg #[.string x0,.int .i64 x1,.int .i64 x2,.slice A n cc],.int .i64 (getX S k)]))/\Below w.heap.size w w':=by
 refine (cget_ok h k hk (fun o ho=>by have:=(hw.ok o ho).1;unfold RecA.Ok at this;omega)).mono ?_
 rintro e w' ⟨h1,hb⟩
 refine ⟨?_,hb⟩
 unfold getX
 rcases h1 with ⟨o,A,cc,h1,rfl,_⟩|⟨h1,rfl⟩
 ·rw [h1];exact ⟨_,_,_,_,_,_,rfl⟩
 ·rw [h1];exact ⟨_,_,_,_,_,_,rfl⟩
theorem bx139 {w:World} {b:Nat} {v0 v1 v2 v3:Value} (h:w.heap[b]?=some (.cells #[v0,v1,v2,v3] 139 (0,0))):w.cell? ⟨b,0,none⟩=some v0/\w.cell? ⟨b,1,none⟩=some v1/\w.cell? ⟨b,2,none⟩=some v2/\w.cell? ⟨b,3,none⟩=some v3/\w.frozen? ⟨b,0,none⟩=false/\w.frozen? ⟨b,1,none⟩=false/\w.frozen? ⟨b,2,none⟩=false/\w.frozen? ⟨b,3,none⟩=false:=by simp [World.cell?,World.frozen?,h]
set_option maxRecDepth 100000 in
set_option maxHeartbeats 2000000 in
theorem cdel_bad (h:St B w s c b1 b2 a f K M Z T L O Q Tk E ar ba ct p) {k:ByteArray} (hk:okK k=false) :
  Calls Tryz.prog 64 #[.pointer (some ⟨s,0,none⟩),.string k] w fun e w'=>e=.returned (.int .i64 190)/\Below w.heap.size w w':=by
 have H0:=Aside0.mk (B2.new (w:=w) (s:=s) (k:=k))
 have HF:=Aside0.mk (fault_ok2 ((H0.out.bl.block _ (blk_lt h.sb.box)).trans h.sb.box) k)
 rw [hk] at HF
 simp only [Bool.false_eq_true,if_false] at HF
 clear h hk
 go_enter Tryz.func64,Tryz.ntmps64
 go_wp2_with (first|(go_at_call 89;go_loud (refine HF.out.mono ?_;rintro e1 w1 ⟨rfl,rfl⟩)))
 go_ret
 exact ⟨rfl,H0.out.bl⟩
set_option maxRecDepth 100000 in
set_option maxHeartbeats 2000000 in
theorem cdel_good (h:St B w s c b1 b2 a f K M Z T L O Q Tk E ar ba ct p) (hg:Geo K M Z T L O) {k:ByteArray} (hk:okK k=true) (hep:p.ep+1<=1000) (hT:Tk+2000<=1000000) :
  Calls Tryz.prog 64 #[.pointer (some ⟨s,0,none⟩),.string k] w fun e w'=>e=.returned (.int .i64 (delP p k).2)/\PutR B w w' s c b1 b2 a f K M Z T L O Q Tk (delP p k).1:=by
 have hk':=hk
 unfold okK at hk'
 rw [decide_eq_true_iff] at hk'
 obtain ⟨ad,hc⟩:=h.sb.cat
 have hst:=(st_cells h.sb.box).1
 have hlt:=blk_lt h.sb.box
 have H0:=Aside0.mk (B2.new (w:=w) (s:=s) (k:=k))
 have HF:=Aside0.mk (fault_ok2 ((H0.out.bl.block _ hlt).trans h.sb.box) k)
 rw [hk] at HF
 simp only [if_true] at HF
 have HP:=Aside0.mk (fun (W:World) (hb:Below w.heap.size w W)=>get_x (hc.below hb) h.wf.wf k (by omega))
 obtain ⟨x,hx⟩:∃ x,getX p.S k=x:=⟨_,rfl⟩
 rw [hx] at HP
 obtain ⟨r,hr⟩:∃ r,delP p k=r:=⟨_,rfl⟩
 have hrx:r.2=x/\(x≠0->r.1=p)/\(x=0->r.1=⟨offS p.S k,p.dat,p.ep+1⟩/\(findS p.S k).isSome=true):=by
  rw [<- hr,<- hx]
  unfold delP getX
  rw [if_neg (by rw [hk];simp)]
  cases hf:findS p.S k with
  | none=>exact ⟨rfl,fun _=>rfl,fun e=>by simp at e⟩
  | some o=>exact ⟨rfl,fun e=>absurd rfl e,fun _=>⟨rfl,rfl⟩⟩
 rw [hr,hrx.1]
 have HH:=Aside0.mk (And.intro h (And.intro hg (And.intro hk (And.intro hep (And.intro hT hrx)))))
 have HA0:=Aside0.mk (fun (W:World) (hb:B2 w W s k)=>hb.all hst hlt)
 clear h hg hk hep hT hx hr hc hst hlt hrx hk'
 go_enter Tryz.func64,Tryz.ntmps64
 go_upto_region 4 with (first|(go_at_call 89;go_loud (refine HF.out.mono ?_;rintro e1 w1 ⟨rfl,rfl⟩)))
 have H1:=Aside0.mk (H0.out.step (below_drew1 (Below.refl _ _)))
 go_cut [6,7] from 200 to 200 (fun x6 x7 wx=>∃ g,x6=.pointer (some ⟨g,0,none⟩)/\x7=.int .i64 x/\Aside0 (B2 w wx s k))
 case first =>
  have H1':=Aside0.mk (show B2 w (((w.alloc (.cells #[.pointer (some ⟨s,0,none⟩)] 59)).alloc (.cells #[.string k] 9)).alloc (.cells #[.string ⟨#[]⟩,.int .i64 0,.int .i64 0,.slice none 0 0] 139)).drew s k from (H0.out.step (below_alloc (Below.refl _ _) _)).step (below_drew1 (Below.refl _ _)))
  have HZ:=Aside0.mk (show (((w.alloc (.cells #[.pointer (some ⟨s,0,none⟩)] 59)).alloc (.cells #[.string k] 9)).alloc (.cells #[.string ⟨#[]⟩,.int .i64 0,.int .i64 0,.slice none 0 0] 139)).drew.heap[w.heap.size+1+1]?=some (.cells #[.string ⟨#[]⟩,.int .i64 0,.int .i64 0,.slice none 0 0] 139 (0,0)) by
   have h9:=heap_alloc_new ((w.alloc (.cells #[.pointer (some ⟨s,0,none⟩)] 59)).alloc (.cells #[.string k] 9)) (.cells #[.string ⟨#[]⟩,.int .i64 0,.int .i64 0,.slice none 0 0] 139)
   rw [hsz,hsz] at h9
   exact h9)
  go_region_held3 (fun W=>W.cell? ⟨w.heap.size,0,none⟩=some (.pointer (some ⟨s,0,none⟩))/\W.cell? ⟨w.heap.size+1,0,none⟩=some (.string k)/\W.cell? ⟨s,0,none⟩=some (.pointer (some ⟨c,0,none⟩))) (first|with_reducible exact HA0.out _ H2.out|with_reducible exact HA0.out _ (H2.out.step (below_alloc (Below.refl _ _) _))|with_reducible exact HA0.out _ (H2.out.set4 (Nat.lt_succ_self _) _ _ _ _)|with_reducible exact HA0.out _ H1.out|with_reducible exact HA0.out _ H1'.out) (first|(go_at_call 97;refine (HP.out _ H1.out.bl).mono ?_;rintro e2 w2 ⟨⟨x0,x1,x2,A2,n2,c2,rfl⟩,hb2⟩;have H2:=Aside0.mk (H1.out.step hb2);clear hb2)|(go_at_call 97;go_loud (refine (HP.out _ H1'.out.bl).mono ?_;rintro e2 w2 ⟨⟨x0,x1,x2,A2,n2,c2,rfl⟩,hb2⟩;have H2:=Aside0.mk (H1'.out.step hb2);obtain ⟨z0,z1,z2,z3,z4,z5,z6,z7⟩:=bx139 ((hb2.block _ (blk_lt HZ.out)).trans HZ.out);clear hb2)))
  all_goals (go_wp2;go_meet)
  ·exact ⟨_,rfl,rfl,⟨H2.out.step (below_alloc (Below.refl _ _) _)⟩⟩
  ·exact ⟨_,rfl,rfl,⟨H2.out.set4 (Nat.lt_succ_self _) _ _ _ _⟩⟩
 case rest =>
  obtain ⟨g,rfl,rfl,HK⟩:=hcut
  by_cases hx0:x=0
  ·subst hx0
   obtain ⟨WF,hWF⟩:∃ q,(wc.alloc (.cells #[.func (.func 94) #[.pointer (some ⟨s,0,none⟩)] #[],.func (.func 99) #[] #[.pointer (some ⟨w.heap.size,0,none⟩),.pointer (some ⟨w.heap.size+1,0,none⟩)]] 101)).drew=q:=⟨_,rfl⟩
   have hb4:=HK.out.step (below_drew1 (Below.refl _ _))
   obtain ⟨k0,_,_⟩:=HA0.out _ hb4
   have hbW:Below wc.heap.size wc WF:=by rw [<- hWF];exact below_drew1 (below_alloc (Below.refl _ _) _)
   have hfn:WF.heap[wc.heap.size]?=some (.cells #[.func (.func 94) #[.pointer (some ⟨s,0,none⟩)] #[],.func (.func 99) #[] #[.pointer (some ⟨w.heap.size,0,none⟩),.pointer (some ⟨w.heap.size+1,0,none⟩)]] 101 (0,0)):=by rw [<- hWF];exact heap_alloc_new wc _
   have hB9:=HK.out.step hbW
   have hb9:=hB9.bl
   have hR:=del_run (bs:=w.heap.size) (bk:=w.heap.size+1) (g:=wc.heap.size) (HH.out.1.below hb9) HH.out.2.1 HH.out.2.2.1 HH.out.2.2.2.1 HH.out.2.2.2.2.1 (HH.out.2.2.2.2.2.2.2 rfl).2 hB9.xs hB9.xk hfn
   rw [<- (HH.out.2.2.2.2.2.2.2 rfl).1] at hR
   have k9:=(HA0.out _ hB9).1
   rw [<- hWF] at hR hb9 k9
   have HR:=Aside0.mk (And.intro hR (And.intro hb9 k9))
   have k_ne:w.heap.size≠s:=fun e=>by have:=blk_lt HH.out.1.sb.box;omega
   clear hb4 hR hbW hb9 hB9 HK k9 hWF hfn
   go_upto_region 7 with (fail)
   go_region_held3 (fun W=>W.cell? ⟨w.heap.size,0,none⟩=some (.pointer (some ⟨s,0,none⟩))) (first|with_reducible exact k0|with_reducible exact HR.out.2.2|with_reducible exact H5.out.2|with_reducible exact H6.out.2) (first|(go_at_call 93;go_loud (refine (HEN.out.1 0 (by decide)).mono ?_;rintro e6 w6 ⟨rfl,hbx6,hg6⟩;have H6:=Aside0.mk (And.intro (HEN.out.2 w6 hbx6 hg6) (cell_gs hg6 H5.out.2 k_ne));clear hbx6 hg6))|(go_at_call 36;go_loud (refine HR.out.1.mono ?_;rintro e5 w5 ⟨rfl,h5⟩;obtain ⟨ar9,ba9,ct9,hbx9,hto9⟩:=h5.boxed;have HEN:=Aside0.mk (And.intro (end_st hbx9) hto9);have H5:=Aside0.mk (And.intro h5 (put_cell HH.out.1 HR.out.2.1 h5 HR.out.2.2));clear h5 hbx9 hto9)))
   all_goals
    go_wp2
    go_ret
    exact ⟨rfl,H6.out.1.below HR.out.2.1⟩
  ·have hd:(x == 0)=false:=by simp [hx0]
   have hd2:decide (x=0)=false:=by simp [hx0]
   go_wp2
   go_ret
   exact ⟨rfl,by rw [HH.out.2.2.2.2.2.2.1 hx0];exact PutR.same HH.out.1 HK.out.bl⟩
theorem cdel_ok (h:St B w s c b1 b2 a f K M Z T L O Q Tk E ar ba ct p) (hg:Geo K M Z T L O) (k:ByteArray) (hep:p.ep+1<=1000) (hT:Tk+2000<=1000000) :
  Calls Tryz.prog 64 #[.pointer (some ⟨s,0,none⟩),.string k] w fun e w'=>e=.returned (.int .i64 (delP p k).2)/\PutR B w w' s c b1 b2 a f K M Z T L O Q Tk (delP p k).1:=by
 cases hk:okK k with
 | true=>exact cdel_good h hg hk hep hT
 | false =>
  have e1:delP p k=(p,190):=by unfold delP;rw [if_pos hk]
  rw [e1]
  refine (cdel_bad h hk).mono ?_
  rintro e w' ⟨rfl,hb⟩
  exact ⟨rfl,PutR.same h hb⟩
end
def statP (p:Pst) (k:ByteArray):Int×Int:=if okK k=false then (0,190) else match findS p.S k with
 | none=>(0,193)
 | some _=>(((p.dat k).length:Int),0)
section
variable {B:Nat} {w W:World} {s c b1 b2 a f:Nat} {K M Z T L O:Nat} {Q:Nat->Prop} {Tk:Nat} {E:Nat->Int->List Int} {ar ba ct:Nat} {p:Pst}
set_option maxRecDepth 100000 in
set_option maxHeartbeats 2000000 in
theorem cstat_ok (h:St B w s c b1 b2 a f K M Z T L O Q Tk E ar ba ct p) (k:ByteArray) :
  Calls Tryz.prog 65 #[.pointer (some ⟨s,0,none⟩),.string k] w fun e w'=>e=.returned (.tuple #[.int .i64 (statP p k).1,.int .i64 (statP p k).2])/\Below w.heap.size w w':=by
 have HF:=Aside0.mk (fault_ok2 h.sb.box k)
 have k0:=(st_cells h.sb.box).1
 cases hk:okK k with
 | false =>
  have e1:statP p k=(0,190):=by unfold statP;rw [if_pos hk]
  rw [e1]
  rw [hk] at HF
  simp only [Bool.false_eq_true,if_false] at HF
  clear h hk
  go_enter Tryz.func65,Tryz.ntmps65
  go_wp2_with (first|(go_at_call 89;go_loud (refine HF.out.mono ?_;rintro e1 w1 ⟨rfl,rfl⟩)))
  go_ret2
  exact ⟨rfl,Below.refl _ _⟩
 | true =>
  have hk':=hk
  unfold okK at hk'
  rw [decide_eq_true_iff] at hk'
  obtain ⟨ad,hc⟩:=h.sb.cat
  have hG:=cget_ok hc k (by omega) (fun o ho=>by have:=(h.wf.wf.ok o ho).1;unfold RecA.Ok at this;omega)
  have HP:Aside0 (Calls Tryz.prog 97 #[.pointer (some ⟨c,0,none⟩),.string k] w fun e w'=>(∃ x0 x2 A n cc,e=.returned (.tuple #[.agg #[.string x0,.int .i64 (statP p k).1,.int .i64 x2,.slice A n cc],.int .i64 (statP p k).2]))/\Below w.heap.size w w'):=⟨by
   refine hG.mono ?_
   rintro e w' ⟨h1,hb⟩
   refine ⟨?_,hb⟩
   unfold statP
   rw [if_neg (by rw [hk];simp)]
   rcases h1 with ⟨o,A,cc,h1,rfl,_⟩|⟨h1,rfl⟩
   ·rw [h1]
    have h2:=(h.wf.row o (findS_some h1).1).1
    rw [(findS_some h1).2] at h2
    exact ⟨o.f0,o.f2,A,_,cc,by unfold obV;rw [h2]⟩
   ·rw [h1]
    exact ⟨_,_,_,_,_,rfl⟩⟩
  obtain ⟨x,hx⟩:∃ x,statP p k=x:=⟨_,rfl⟩
  rw [hx] at HP ⊢
  obtain ⟨x1,x2⟩:=x
  rw [hk] at HF
  simp only [if_true] at HF
  clear h hk hk' hc hG hx
  go_enter Tryz.func65,Tryz.ntmps65
  go_wp2_with (first|(go_at_call 97;go_loud (refine HP.out.mono ?_;rintro e2 w2 ⟨⟨y0,y2,A2,n2,c2,rfl⟩,hb2⟩;have H2:=Aside0.mk hb2;clear hb2))|(go_at_call 89;go_loud (refine HF.out.mono ?_;rintro e1 w1 ⟨rfl,rfl⟩)))
  go_ret2
  exact ⟨rfl,below_alloc H2.out _⟩
theorem le_16 {i:Nat} (h:i < 64):(i+1)*16<=140737488355328:=by omega
theorem info9:(Tryz.prog.info? 9).map (fun i=>(i.zero,i.size,i.bytes))=some (some (.string ⟨#[]⟩),1,16):=by kernel_rfl
def anyK:ByteArray:=⟨#[97,110,121]⟩
set_option maxRecDepth 100000 in
set_option maxHeartbeats 2000000 in
theorem clist_ok (h:St B w s c b1 b2 a f K M Z T L O Q Tk E ar ba ct p) (hO:O<=64) :
  Calls Tryz.prog 66 #[.pointer (some ⟨s,0,none⟩)] w fun e w'=>∃ v,e=.returned (.tuple #[v,.int .i64 0])/\w'.ownsRow w.heap.size 9 1 v p.S.length ((allS p.S).map fun o=>Value.string o.f0)/\Below w.heap.size w w':=by
 have HF:=Aside0.mk (fault_ok2 h.sb.box anyK)
 rw [show okK anyK=true from rfl] at HF
 simp only [if_true] at HF
 have k0:=(st_cells h.sb.box).1
 obtain ⟨ad,hc⟩:=h.sb.cat
 have hlen:=h.wf.wf.len
 have HC:=Aside0.mk (call_ok hc (by omega) (fun o ho=>by have:=(h.wf.wf.ok o ho).1;unfold RecA.Ok at this;exact ⟨this.2.1.2,by omega⟩))
 have hal:=allS_len p.S
 obtain ⟨R,hR⟩:∃ R,allS p.S=R:=⟨_,rfl⟩
 have hRl:R.length<=64:=by rw [<- hR,hal];omega
 rw [<- hal,hR]
 unfold anyK at HF
 have HE:Aside0 (∀ w w' e,AllP p.S w w' e->∃ v L,e=.returned v/\Oz w' w.heap.size v L/\L.map Prod.fst=R/\Below w.heap.size w w'):=⟨fun w w' e h=>by rw [<- hR];exact h⟩
 clear h hc hal hlen hR
 go_enter Tryz.func66,Tryz.ntmps66
 go_wp2_with (first|(go_at_call 100;go_loud (refine HC.out.mono ?_;rintro e2 w2 h2;obtain ⟨v2,L2,rfl,hO2,hL2,hb2⟩:=HE.out _ _ _ h2;obtain ⟨A2,c2,rfl,_⟩:=own_slice2 hO2.own;have H2:=Aside0.mk (And.intro hO2 (And.intro hL2 hb2));clear h2 hO2 hL2 hb2))|(go_at_call 89;go_loud (refine HF.out.mono ?_;rintro e1 w1 ⟨rfl,e9⟩;obtain rfl:=e9.symm)))
 have HLl:=Aside0.mk (show L2.length=R.length by rw [<- H2.out.2.1,List.length_map])
 have hL64:L2.length<=64:=by rw [HLl.out];exact hRl
 go_loopg [2,18] L2.length (fun kq x2 x18 wr=>∃ (i:Nat) (y:Value),x18=.int .i64 i/\x2=y/\i+kq=L2.length/\Aside0 (wr.ownsRow w.heap.size 9 1 y i ((R.take i).map fun o=>Value.string o.f0)/\Below w.heap.size w wr/\Oz wr w.heap.size (.slice A2 L2.length c2) L2))
 case atStart=>exact ⟨0,_,rfl,rfl,by omega,⟨World.ownsRow_nil _ _ _ _,H2.out.2.2,H2.out.1⟩⟩
 case round =>
  obtain ⟨i,y,rfl,rfl,hik,HX⟩:=hrel
  by_cases hin:i < L2.length
  ·have f1:(i:Int) < (L2.length:Int):=by omega
   have f2:(0:Int)<=(i:Int):=by omega
   obtain ⟨q,hq⟩:∃ q,L2[i]?=some q:=⟨_,List.getElem?_eq_getElem hin⟩
   obtain ⟨g,hg⟩:∃ g,A2=some ⟨g,0,none⟩:=by
    rcases HX.out.2.2.own.2 with ⟨_,h0⟩|⟨g,cap,cur,he,_⟩
    ·omega
    ·injection he with he1
     exact ⟨g,he1⟩
   subst hg
   obtain ⟨A3,c3,h3,hc3,hR3⟩:=HX.out.2.2.row q (List.mem_of_getElem? hq)
   obtain ⟨q0,q1,q2,q3⟩:=HX.out.2.2.cells (Below.refl _ _) hq
   rw [h3] at q3
   obtain ⟨A9,c9,h9,_⟩:=own_slice2 HX.out.1
   subst h9
   have HQ:Aside0 ((R.take (i+1)).map (fun o=>Value.string o.f0)=(R.take i).map (fun o=>Value.string o.f0) ++ [.string q.1.f0]):=⟨by
    rw [List.take_add_one,<- H2.out.2.1,List.getElem?_map,hq]
    simp⟩
   have HI:=Aside0.mk (show (i+1)*16<=140737488355328 from le_16 (show i < 64 by omega))
   have GW:=Aside0.mk (show wrap64 ((i:Int)+1)=(i:Int)+1 from w64 _ (by omega))
   have HO:Aside0 (∀ o,(wr.alloc o).ownsRow w.heap.size 9 1 (.slice A9 i c9) i ((R.take i).map fun o=>Value.string o.f0)/\Below w.heap.size w (wr.alloc o)/\w.heap.size<=(wr.alloc o).heap.size/\Oz (wr.alloc o) w.heap.size (.slice (some ⟨g,0,none⟩) L2.length c2) L2):=⟨fun o=>⟨HX.out.1.alloc o,below_alloc HX.out.2.1 o,(below_alloc HX.out.2.1 o).size,HX.out.2.2.gs (Gs.of_below (S:=fun _=>False) (below_alloc (Below.refl _ _) _)) (fun _ hk=>hk.elim)⟩⟩
   clear hq h3 hc3 hR3
   go_wp2_with (first|((with_reducible refine gate_builtin (b:=.append) (xs:=#[.tmp 22,.tmp 25]) rfl ?_);at_builtin;go_loud (refine print_append_cells (w0:=w) w.heap.size rfl (.tmp 22) (.tmp 25) 41 9 (.string ⟨#[]⟩) 1 16 rfl Tryz.underlying41 info9 rfl (by decide) (by decide) (.slice A9 i c9) i ((R.take i).map fun o=>Value.string o.f0) [.string q.1.f0] rfl (by rw [hsz];rfl) rfl (by simp [Value.oneCell']) (HO.out _).1 (HO.out _).2.1 (HO.out _).2.2.1 HI.out ?_;intro v4 w4 ho4 hb4 hg4 hat4;obtain ⟨A7,c7,h77,_⟩:=own_slice2 ho4;subst h77;have H4:=Aside0.mk (And.intro ho4 (And.intro hb4 hg4));clear ho4 hb4 hg4 hat4)))
   go_roundg (L2.length - (i+1))
   case measure=>exact meas5 hin hik
   case rel=>exact ⟨i+1,_,by simp [GW.out],rfl,meas4 hin,⟨by rw [HQ.out];exact H4.out.1,H4.out.2.1,(HO.out _).2.2.2.gs (Gs.of_grown H4.out.2.2 (fun k hk _=>hk)) (fun k hk=>by
    obtain ⟨cells,h1⟩:=own_typed (HO.out (Obj.cells #[.string q.1.f0,.int .i64 q.1.f1,.int .i64 q.1.f2,.slice A3 q.1.f3.length c3] 139)).1 k hk
    refine ⟨fun ⟨c3,h3⟩=>?_,fun ⟨c3,h3⟩=>?_⟩ <;> (rw [h1] at h3;cases h3))⟩⟩
  ·have f1:¬ (i:Int) < (L2.length:Int):=by omega
   have e0:i=R.length:=by have:=HLl.out;omega
   have HE2:=Aside0.mk e0
   clear e0
   go_wp2
   go_ret2
   have h9:=HX.out.1
   rw [HE2.out,List.take_length] at h9
   exact ⟨_,rfl,h9,HX.out.2.1⟩
end
theorem cut_to {A:Option Addr} {n c m:Nat} (hm:m<=n) (hc:n<=c):∀ W:World,(Instr.slice 36 (.slice A n c) none (some (.int .i64 m)) none).run Tryz.prog W=.ok (.slice A m c) W:=by
 obtain ⟨i,hi,hz0,hz1,hz2⟩:=info_parts info5
 intro W
 have hel:Tryz.prog.elem 36=5:=by simp [Program.elem,Tryz.underlying36]
 have hu:Tryz.prog.underlying 36=some (.slice (Tryz.prog.elem 36)):=by rw [hel];exact Tryz.underlying36
 have ha:(A.map fun x=>x.add 0)=A:=by cases A <;> simp [Addr.add]
 rw [run_slice_h W 36 A n c hu .i64 m (by omega) (by omega),hel]
 simp [sizeOf,typeInfo,hi,sliced,Result.andThen,ha]
def piecesL (d:List Int) (P:Nat):Nat->List Int
 | 0=>[]
 | i+1=>piecesL d P i ++ pieceL d P i
theorem pieces_len (d:List Int) (P:Nat):∀ i,(piecesL d P i).length=i*P
 | 0=>by simp [piecesL]
 | i+1=>by rw [piecesL,List.length_append,pieces_len d P i,piece_len,Nat.succ_mul]
theorem pieces_take (d:List Int) (P:Nat):∀ i,(piecesL d P i).take d.length=d.take (i*P)
 | 0=>by simp [piecesL]
 | i+1=>by
  rw [piecesL,List.take_append,pieces_take d P i,pieces_len]
  unfold pieceL
  by_cases h:d.length<=i*P
  ·rw [show d.length - i*P=0 by omega,List.take_zero,List.append_nil,List.take_of_length_le h,List.take_of_length_le (by rw [Nat.succ_mul];omega)]
  ·have h1:((d.drop (i*P)).take P).length=min P (d.length - i*P):=by rw [List.length_take,List.length_drop]
   have h2:((d.drop (i*P)).take P ++ List.replicate (P - ((d.drop (i*P)).take P).length) 0).take (d.length - i*P)=(d.drop (i*P)).take P:=by
    rw [List.take_append,h1]
    by_cases h3:P<=d.length - i*P
    ·rw [Nat.min_eq_left h3,Nat.sub_self,List.replicate_zero,List.take_nil,List.append_nil,List.take_of_length_le (by rw [h1];omega)]
    ·rw [Nat.min_eq_right (by omega),Nat.sub_self,List.take_zero,List.append_nil,List.take_of_length_le (by rw [h1];omega)]
   rw [h2,Nat.succ_mul,List.take_add]
theorem pieces_all (d:List Int) {P:Nat} (hP:1<=P):(piecesL d P (needN P d.length)).take d.length=d:=by
 rw [pieces_take]
 refine List.take_of_length_le ?_
 unfold needN
 split
 ·omega
 ·have h1:=Nat.lt_div_mul_add (a:=d.length - 1) (b:=P) (by omega)
  rw [Nat.succ_mul]
  omega
section
variable {B:Nat} {w W:World} {s c b1 b2 a f:Nat} {K M Z T L O:Nat}
theorem oneL (l:List Int):∀ u ∈ l.map (Value.int .u8),u.oneCell'=true:=by
 intro u hu
 obtain ⟨x,_,rfl⟩:=List.mem_map.1 hu
 rfl
theorem maxL {a b:Nat} (ha:a<=7680000) (hb:b<=30000):a+b<=maxLen:=by unfold maxLen;omega
theorem capL {a b:Nat} (ha:a<=7680000) (hb:b<=30000):(a+b)*1<=140737488355328:=by omega
theorem bWL {w wr w5:World} (h:Below w.heap.size w wr) (h2:Below wr.drew.heap.size wr.drew w5):w.heap.size<=w5.heap.size:=Nat.le_trans h.size h2.size
theorem Im.take {B:Nat} {w:World} {A:Option Addr} {n c m:Nat} {l:List Int} (h:Im B w (.slice A n c) l) (hm:m<=l.length):Im B w (.slice A m c) (l.take m):=by
 obtain ⟨h1,h2,h3⟩:=Kd.V_at h
 have e:(l.take m).length=m:=by rw [List.length_take];omega
 exact ⟨A,c,by rw [e],by omega,Kd.F_imp h3 (fun W hC=>Kd.C_take hC hm)⟩
theorem st_ten {W:World} {s c a f g:Nat} {K M Z T L O ar ba ct:Int} {k:ByteArray} {l e:Int} {A:Option Addr} {n cc:Nat} (h:W.heap[s]?=some (.cells (stC c a f K M Z T L O ar ba ct) 110 (0,0))) (h2:W.heap[g]?=some (.cells (obC k l e A n cc) 139 (0,0))) :
  W.cell? ⟨s,1,none⟩=some (.pointer (some ⟨a,0,none⟩))/\W.cell? ⟨s,2,none⟩=some (.pointer (some ⟨f,0,none⟩))/\W.cell? ⟨s,3,none⟩=some (.int .i64 K)/\W.cell? ⟨s,4,none⟩=some (.int .i64 M)/\W.cell? ⟨s,5,none⟩=some (.int .i64 Z)/\W.cell? ⟨s,6,none⟩=some (.int .i64 T)/\W.cell? ⟨s,7,none⟩=some (.int .i64 L)/\W.cell? ⟨s,8,none⟩=some (.int .i64 O)/\W.cell? ⟨g,2,none⟩=some (.int .i64 e):=by
 obtain ⟨h0,h1,h2',h3,h4,h5,h6,h7,h8,h9,h10,h11,_⟩:=st_cells h
 obtain ⟨g0,g1,g2,g3⟩:=ob_cells h2
 exact ⟨h1,h2',h3,h4,h5,h6,h7,h8,g2⟩
set_option maxRecDepth 100000 in
set_option maxHeartbeats 2000000 in
theorem get_core {ar ba ct:Int} (hbx:w.heap[s]?=some (.cells (stC c a f K M Z T L O ar ba ct) 110 (0,0))) {k:ByteArray} (hk:okK k=true) {o:Ob}
  (hG:Calls Tryz.prog 97 #[.pointer (some ⟨c,0,none⟩),.string k] w fun e w'=>∃ A cc,e=.returned (.tuple #[.agg #[.string o.f0,.int .i64 o.f1,.int .i64 o.f2,.slice A o.f3.length cc],.int .i64 0])/\(o.f3.length<=cc/\Rt w' A o.f3)/\Below w.heap.size w w')
  {P len:Nat} (hP:1<=P/\P<=30000) (hlen:o.f1=len) (hn:o.f3.length<=256) (q:Nat->List Int) (hq:∀ i,(q i).length=P) (dt:Nat->List Int) (hdt:dt 0=[]/\∀ i,dt (i+1)=dt i ++ q i) (hle:len<=o.f3.length*P)
  (hR:∀ i,i < o.f3.length->∀ W,Below w.heap.size w W->Calls Tryz.prog 98 #[.pointer (some ⟨a,0,none⟩),.pointer (some ⟨f,0,none⟩),geoV K M Z T L O,.int .i64 (o.f3.getD i 0),.int .i64 o.f2] W fun e w'=>∃ v,e=.returned (.tuple #[v,.slice none 0 0,.int .i64 0])/\Bs w' v (q i)/\Below W.heap.size W w') (B:Nat) :
  Calls Tryz.prog 63 #[.pointer (some ⟨s,0,none⟩),.string k] w fun e w'=>∃ v,e=.returned (.tuple #[v,.int .i64 0])/\Im B w' v ((dt o.f3.length).take len)/\Below w.heap.size w w':=by
 have HF:=Aside0.mk (fault_ok2 hbx k)
 rw [hk] at HF
 simp only [if_true] at HF
 have k0:=(st_cells hbx).1
 have hdl:∀ i,(dt i).length=i*P:=by
  intro i
  induction i with
  | zero=>rw [hdt.1];simp
  | succ i ih=>rw [hdt.2,List.length_append,ih,hq,Nat.succ_mul]
 have hslt:=blk_lt hbx
 have HH:=Aside0.mk (And.intro hbx (And.intro hG (And.intro hP (And.intro hn (And.intro hq (And.intro hdt (And.intro hle (And.intro hR hdl))))))))
 obtain ⟨f0,f1,f2,f3⟩:=o
 simp only at hlen HH ⊢
 subst hlen
 clear hbx hG hP hn hq hdt hle hR hdl hk
 unfold geoV at HH
 go_enter Tryz.func63,Tryz.ntmps63
 go_wp2_with (first|(go_at_call 97;go_loud (refine HH.out.2.1.mono ?_;rintro e2 w2 ⟨A2,c2,rfl,hR2,hb2⟩;have H2:=Aside0.mk (And.intro hR2 hb2);clear hR2 hb2))|(go_at_call 89;go_loud (refine HF.out.mono ?_;rintro e1 w1 ⟨rfl,e9⟩;obtain rfl:=e9.symm)))
 obtain ⟨W1,hW1⟩:∃ q,w2.alloc (.cells (obC f0 len f2 A2 f3.length c2) 139)=q:=⟨_,rfl⟩
 have hbW:Below w2.heap.size w2 W1:=by rw [<- hW1];exact below_alloc (Below.refl _ _) _
 have hg1:W1.heap[w2.heap.size]?=some (.cells (obC f0 len f2 A2 f3.length c2) 139 (0,0)):=by rw [<- hW1];exact heap_alloc_new w2 _
 have H3:=Aside0.mk (And.intro hg1 (And.intro (below_step H2.out.2 hbW) (H2.out.1.2.gs (Gs.of_below (S:=fun _=>False) hbW) (fun _ hk=>hk.elim))))
 clear hg1 hbW
 unfold obC at hW1
 rw [hW1]
 clear hW1
 go_loopg [9,36] f3.length (fun kq x9 x36 wr=>∃ (i:Nat) (y:Value),x36=.int .i64 i/\x9=y/\i+kq=f3.length/\Aside0 (wr.ownsRow w.heap.size 5 1 y (dt i).length ((dt i).map (Value.int .u8))/\Below w.heap.size w wr/\wr.heap[w2.heap.size]?=some (.cells (obC f0 len f2 A2 f3.length c2) 139 (0,0))/\Rt wr A2 f3))
 case atStart=>exact ⟨0,_,rfl,rfl,by omega,⟨by rw [HH.out.2.2.2.2.2.1.1];exact World.ownsRow_nil _ _ _ _,H3.out.2.1,H3.out.1,H3.out.2.2⟩⟩
 case round =>
  obtain ⟨i,y,rfl,rfl,hik,HX⟩:=hrel
  by_cases hin:i < f3.length
  ·have g1:(i:Int) < (f3.length:Int):=by omega
   have g2:(0:Int)<=(i:Int):=by omega
   obtain ⟨ad,rfl,hx⟩:=plan_cell HX.out.2.2.2.1 hin
   obtain ⟨A9,c9,h9,_⟩:=own_slice2 HX.out.1
   subst h9
   have hbs:=(HX.out.2.1.block _ hslt).trans HH.out.1
   have H4:=Aside0.mk (st_ten (W:=wr.drew) hbs HX.out.2.2.1)
   have HC:=Aside0.mk (HH.out.2.2.2.2.2.2.2.1 i hin wr.drew (below_drew1 HX.out.2.1))
   obtain ⟨x,hxe⟩:∃ x,f3.getD i 0=x:=⟨_,rfl⟩
   rw [hxe] at hx HC
   have HV:=Aside0.mk (And.intro hbs hxe)
   obtain ⟨i0,hi,hz0,hz1,hz2⟩:=info_parts info5
   have HI:=Aside0.mk hi
   have GW:=Aside0.mk (show wrap64 ((i:Int)+1)=(i:Int)+1 from w64 _ (by have:=HH.out.2.2.2.1;omega))
   obtain ⟨n9,hn9⟩:∃ n9,(dt i).length=n9:=⟨_,rfl⟩
   have HN:=Aside0.mk (show n9=(dt i).length/\n9<=7680000 from ⟨hn9.symm,by rw [<- hn9,HH.out.2.2.2.2.2.2.2.2];exact Nat.le_trans (Nat.mul_le_mul (show i<=256 by have:=HH.out.2.2.2.1;omega) HH.out.2.2.1.2) (by omega)⟩)
   rw [hn9]
   rw [hn9] at HX
   clear hbs hxe hi hn9
   go_wp2
   go_region_held3 (fun W=>W.cell? ⟨s,1,none⟩=some (.pointer (some ⟨a,0,none⟩))/\W.cell? ⟨s,2,none⟩=some (.pointer (some ⟨f,0,none⟩))/\W.cell? ⟨s,3,none⟩=some (.int .i64 K)/\W.cell? ⟨s,4,none⟩=some (.int .i64 M)/\W.cell? ⟨s,5,none⟩=some (.int .i64 Z)/\W.cell? ⟨s,6,none⟩=some (.int .i64 T)/\W.cell? ⟨s,7,none⟩=some (.int .i64 L)/\W.cell? ⟨s,8,none⟩=some (.int .i64 O)/\W.cell? ⟨w2.heap.size,2,none⟩=some (.int .i64 f2)) (first|with_reducible exact H4.out|with_reducible exact H5.out.2) (first|(go_at_call 98;go_loud (refine HC.out.mono ?_;rintro e5 w5 ⟨v5,rfl,hv5,hb5⟩;obtain ⟨A5,c5,rfl,hc5,hC5⟩:=hv5;have H5:=Aside0.mk (And.intro (And.intro hC5 hb5) (st_ten ((hb5.block _ (blk_lt HV.out.1)).trans HV.out.1) ((hb5.block _ (blk_lt HX.out.2.2.1)).trans HX.out.2.2.1)));clear hb5 hC5 hc5)))
   have hql:=HH.out.2.2.2.2.1 i
   obtain ⟨ad5,e55,_⟩:=Kd.at_int H5.out.1.1 0 (by omega) (by rw [hql];have:=HH.out.2.2.1.1;omega)
   subst e55
   have hsrc:∀ j u,((q i).map (Value.int .u8))[j]?=some u->w5.cell? (ad5.add j)=some u:=by
    intro j u hj
    have hjl:j < (q i).length:=by have:=(List.getElem?_eq_some_iff.1 hj).1;simpa using this
    obtain ⟨ad',e',h⟩:=Kd.at_int H5.out.1.1 (j:Int) (by omega) (by omega)
    obtain rfl:=Option.some.inj e'
    rw [Int.toNat_natCast] at h
    rw [h,<- hj,List.getElem?_map]
    unfold rd
    simp [List.getD_eq_getElem?_getD,hjl]
   have hown5:w5.ownsRow w.heap.size 5 1 (.slice A9 n9 c9) n9 ((dt i).map (Value.int .u8)):=own_move HX.out.1 (fun k hk=>H5.out.1.2.block k (own_lt HX.out.1 k hk))
   have HS:=Aside0.mk (And.intro hsrc (And.intro hown5 hql))
   obtain ⟨nq,hnq⟩:∃ nq,(q i).length=nq:=⟨_,rfl⟩
   have HNQ:=Aside0.mk (And.intro hnq (show nq<=30000 by rw [<- hnq,hql];exact HH.out.2.2.1.2))
   rw [hnq]
   clear hsrc hown5 hql hnq
   go_wp2_with (first|((with_reducible refine gate_builtin (b:=.append) (xs:=#[.tmp 65,.tmp 66]) rfl ?_);at_builtin;go_loud (refine wpList_append_own _ rfl _ _ 36 rfl w.heap.size 5 i0 (.int .u8 0) 1 1 Tryz.underlying36 HI.out hz0 hz1 hz2 rfl (by decide) _ _ _ rfl HS.out.2.1 ad5 nq c5 ((q i).map (Value.int .u8)) rfl (by rw [List.length_map,HNQ.out.1,Nat.mul_one]) HS.out.1 (oneL _) (maxL (HN.out.2) HNQ.out.2) (capL (HN.out.2) HNQ.out.2) (bWL HX.out.2.1 H5.out.1.2) ?_;intro v6 w6 ho6 hg6 _;obtain ⟨A7,c7,h77,_⟩:=own_slice2 ho6;subst h77;have H6:=Aside0.mk (And.intro ho6 hg6);clear ho6 hg6)))
   go_roundg (f3.length - (i+1))
   case measure=>exact meas5 hin hik
   case rel =>
    have hty:∀ k,(Value.slice A9 n9 c9).ownBlock=some k->∃ cells,w5.heap[k]?=some (.cells cells 5 (0,0)):=fun k hk=>own_typed HS.out.2.1 k hk
    have hbk:∀ {k t:Nat} {cells:Array Value},w5.heap[k]?=some (.cells cells t (0,0))->t≠5->some k≠(Value.slice A9 n9 c9).ownBlock:=fun hk ht e=>by
     obtain ⟨cs,h1⟩:=hty _ e.symm
     rw [hk] at h1
     cases h1
     exact ht rfl
    have hx5:=(H5.out.1.2.block _ (blk_lt HX.out.2.2.1)).trans HX.out.2.2.1
    refine ⟨i+1,_,by rw [GW.out];simp,rfl,meas4 hin,⟨?_,?_,?_,?_⟩⟩
    ·have h9:=H6.out.1
     rw [HH.out.2.2.2.2.2.1.2 i,List.length_append,<- HN.out.1,HNQ.out.1,List.map_append]
     exact h9
    ·exact below_of_gs (below_step HX.out.2.1 (below_step (below_drew1 (Below.refl _ _)) H5.out.1.2)) (Gs.of_grown H6.out.2 (fun k hk _=>hk)) (fun k hk=>own_base HS.out.2.1 k hk)
    ·exact (H6.out.2.block _ (blk_lt hx5) (hbk hx5 (by decide))).trans hx5
    ·exact (HX.out.2.2.2.gs (Gs.of_below (S:=fun _=>False) (below_step (below_drew1 (Below.refl _ _)) H5.out.1.2)) (fun _ hk=>hk.elim)).gs (Gs.of_grown H6.out.2 (fun k hk _=>hk)) (fun k hk ⟨cells,h3⟩=>by
      obtain ⟨cs,h1⟩:=hty _ hk
      rw [h3] at h1
      cases h1)
  ·have g1:¬ (i:Int) < (f3.length:Int):=by omega
   have e0:i=f3.length:=by omega
   obtain ⟨A9,c9,h9,hcc⟩:=own_slice2 HX.out.1
   subst h9
   obtain ⟨n9,hn9⟩:∃ n9,(dt i).length=n9:=⟨_,rfl⟩
   have hle:len<=n9:=by
    rw [<- hn9,HH.out.2.2.2.2.2.2.2.2,e0]
    exact HH.out.2.2.2.2.2.2.1
   have hcu:=cut_to (A:=A9) hle (hn9 ▸ hcc)
   obtain ⟨_,l1,_,_⟩:=ob_cells HX.out.2.2.1
   have HE:=Aside0.mk (And.intro e0 (And.intro hn9 (And.intro hle hcc)))
   rw [hn9]
   clear e0 hn9 hle hcc
   go_wp2
   go_ret2
   refine ⟨_,rfl,?_,HX.out.2.1⟩
   have hR:Kd.R (Kd.int .u8) 5 wr w.heap.size (fun _=>True) (.slice A9 (dt i).length c9) (dt i):=Kd.R_of_own (h1:=fun _=>rfl) (by simpa [encs] using HX.out.1) (fun _ _=>trivial)
   have hV:=Im.of_R (B:=B) hR
   rw [HE.out.1] at hV
   exact Im.take hV (by rw [HH.out.2.2.2.2.2.2.2.2];exact HH.out.2.2.2.2.2.2.1)
end
def getP (p:Pst) (k:ByteArray):List Int×Int:=if okK k=false then ([],190) else match findS p.S k with
 | none=>([],193)
 | some _=>(p.dat k,0)
section
variable {B:Nat} {w W:World} {s c b1 b2 a f:Nat} {K M Z T L O:Nat} {Q:Nat->Prop} {Tk:Nat} {E:Nat->Int->List Int} {ar ba ct:Nat} {p:Pst}
set_option maxRecDepth 100000 in
set_option maxHeartbeats 2000000 in
theorem get_bad {K M Z T L O ar ba ct:Int} (hbx:w.heap[s]?=some (.cells (stC c a f K M Z T L O ar ba ct) 110 (0,0))) {k:ByteArray} (hk:okK k=false) :
  Calls Tryz.prog 63 #[.pointer (some ⟨s,0,none⟩),.string k] w fun e w'=>e=.returned (.tuple #[.slice none 0 0,.int .i64 190])/\w'=w:=by
 have HF:=Aside0.mk (fault_ok2 hbx k)
 rw [hk] at HF
 simp only [Bool.false_eq_true,if_false] at HF
 clear hbx hk
 go_enter Tryz.func63,Tryz.ntmps63
 go_wp2_with (first|(go_at_call 89;go_loud (refine HF.out.mono ?_;rintro e1 w1 ⟨rfl,e9⟩;obtain rfl:=e9.symm)))
 go_ret2
 exact ⟨rfl,rfl⟩
set_option maxRecDepth 100000 in
set_option maxHeartbeats 2000000 in
theorem get_none {K M Z T L O ar ba ct:Int} (hbx:w.heap[s]?=some (.cells (stC c a f K M Z T L O ar ba ct) 110 (0,0))) {k:ByteArray} (hk:okK k=true)
  (hG:Calls Tryz.prog 97 #[.pointer (some ⟨c,0,none⟩),.string k] w fun e w'=>e=.returned (.tuple #[.agg #[.string ⟨#[]⟩,.int .i64 0,.int .i64 0,.slice none 0 0],.int .i64 193])/\Below w.heap.size w w') :
  Calls Tryz.prog 63 #[.pointer (some ⟨s,0,none⟩),.string k] w fun e w'=>e=.returned (.tuple #[.slice none 0 0,.int .i64 193])/\Below w.heap.size w w':=by
 have HF:=Aside0.mk (fault_ok2 hbx k)
 rw [hk] at HF
 simp only [if_true] at HF
 have k0:=(st_cells hbx).1
 have HG:=Aside0.mk hG
 clear hbx hk hG
 go_enter Tryz.func63,Tryz.ntmps63
 go_wp2_with (first|(go_at_call 97;go_loud (refine HG.out.mono ?_;rintro e2 w2 ⟨rfl,hb2⟩;have H2:=Aside0.mk hb2;clear hb2))|(go_at_call 89;go_loud (refine HF.out.mono ?_;rintro e1 w1 ⟨rfl,e9⟩;obtain rfl:=e9.symm)))
 go_ret2
 exact ⟨rfl,below_alloc H2.out _⟩
theorem cget_st (h:St B w s c b1 b2 a f K M Z T L O Q Tk E ar ba ct p) (hg:Geo K M Z T L O) (k:ByteArray) :
  Calls Tryz.prog 63 #[.pointer (some ⟨s,0,none⟩),.string k] w fun e w'=>∃ v,e=.returned (.tuple #[v,.int .i64 (getP p k).2])/\Im B w' v (getP p k).1/\Below w.heap.size w w':=by
 have hg':=hg.good
 unfold LayA.Good at hg'
 cases hk:okK k with
 | false =>
  have e1:getP p k=([],190):=by unfold getP;rw [if_pos hk]
  rw [e1]
  refine (get_bad h.sb.box hk).mono ?_
  rintro e w' ⟨rfl,rfl⟩
  exact ⟨_,rfl,Im.nil _ _,Below.refl _ _⟩
 | true =>
  have hk':=hk
  unfold okK at hk'
  rw [decide_eq_true_iff] at hk'
  obtain ⟨ad,hc⟩:=h.sb.cat
  have hl:∀ o ∈ p.S,o.f3.length<=1000:=fun o ho=>by have:=(h.wf.wf.ok o ho).1;unfold RecA.Ok at this;omega
  cases hf:findS p.S k with
  | none =>
   have e1:getP p k=([],193):=by unfold getP;rw [if_neg (by rw [hk];simp),hf]
   rw [e1]
   refine (get_none h.sb.box hk ((cget_ok hc k (by omega) hl).mono ?_)).mono ?_
   ·rintro e w' ⟨h1|h1,hb⟩
    ·obtain ⟨o,A,cc,h2,_⟩:=h1
     rw [hf] at h2
     cases h2
    ·exact ⟨h1.2,hb⟩
   ·rintro e w' ⟨rfl,hb⟩
    exact ⟨_,rfl,Im.nil _ _,hb⟩
  | some o =>
   obtain ⟨ho,hok⟩:=findS_some hf
   have e1:getP p k=(p.dat k,0):=by unfold getP;rw [if_neg (by rw [hk];simp),hf]
   rw [e1]
   obtain ⟨r1,r2,r3⟩:=h.wf.row o ho
   obtain ⟨y1,y2⟩:=h.wf.byt o ho
   rw [hok] at r1 r2 y1 y2
   obtain ⟨o1,o2,o3⟩:=h.wf.wf.ok o ho
   unfold RecA.Ok at o1
   have hP1:1<=K*Z:=Nat.mul_pos (by omega) (by omega)
   have hP2:K*Z<=7*4096:=Nat.mul_le_mul (by have:=hg.n7;omega) hg.z
   have hneed:(p.dat k).length<=needN (K*Z) (p.dat k).length*(K*Z):=by
    unfold needN
    split
    ·omega
    ·have h1:=Nat.lt_div_mul_add (a:=(p.dat k).length - 1) (b:=K*Z) (by omega)
     rw [Nat.succ_mul]
     omega
   have hcore:=get_core (P:=K*Z) (len:=(p.dat k).length) h.sb.box hk (o:=o) (cget_some hc k (by omega) hl hf) ⟨hP1,by omega⟩ r1 (by omega) (fun i=>pieceL (p.dat k) (K*Z) i) (fun i=>piece_len _ _ _) (fun i=>piecesL (p.dat k) (K*Z) i) ⟨rfl,fun i=>rfl⟩ (by rw [r2];exact hneed) (fun i hi W hb=>?_) B
   ·refine hcore.mono ?_
    rintro e w' ⟨v,rfl,h1,h2⟩
    rw [r2,pieces_all _ hP1] at h1
    exact ⟨v,rfl,h1,h2⟩
   ·have hr:=h.wf.wf.rng o ho _ (getD_mem hi)
    have hstr:=h.str o ho i hi
    rw [hok] at hstr
    exact sread_ok (h.sb.ax.below hb) (h.sb.fd.below hb) hg.good hg.n7 hr (by omega) (by omega) (fun _ _=>rfl) hg.z (piece_len _ _ _) (piece_byte y1 _ _) hstr
end
end Go.Proofs.YtmmcbncpnlknbaaGreat.Top
