import Derived.Test.YtmmcbncpnlknbaaGreatF04
set_option linter.unusedVariables false
set_option linter.unusedSimpArgs false
namespace Go.Proofs.YtmmcbncpnlknbaaGreat.Top
open Go Go.RowKit Go.Proofs.YtmmcbncpnlknbaaGreatW.PrintWords Go.Proofs.YtmmcbncpnlknbaaGreatW.PrintLast Go.Proofs.YtmmcbncpnlknbaaGreatW.PrintMore
section
variable {B:Nat} {w:World} {d bl bw nl nw:Nat} {sec:Int} {dead:Bool} {fl fw:Int->Option (List Int)}
theorem Mr.range0 {b n:Nat} (h:Mr B w b n (fun _=>none)) :
  ∃ w1,(Instr.range 117 (.map (some b))).run Tryz.prog w=.ok (.pointer (some ⟨w.heap.size,0,none⟩)) w1/\(∀ W,W.heap[b]?=w1.heap[b]?->W.heap[w.heap.size]?=w1.heap[w.heap.size]?->∀ ty,(Instr.next (.pointer (some ⟨w.heap.size,0,none⟩)) false ty).run Tryz.prog W=.ok (.tuple #[.bool false]) W)/\w.grownBy w1 none/\w1.heap.size=w.heap.size+1:=by
 obtain ⟨hB,m,hm,hmf⟩:=h
 have hno:∀ a,m a=none:=fun a=>by
  cases hma:m a with
  | none=>rfl
  | some v=>obtain ⟨_,x,h2,_⟩:=(hmf a).1 v hma;cases h2
 obtain ⟨w1,cnt,hrun,hrg,hg1,hs1,_⟩:=hm.range (fun a ha=>by rw [hno a] at ha;cases ha) Tryz.underlying117
 refine ⟨w1,hrun,fun W h1 h2 ty=>?_,hg1,hs1⟩
 rcases (hrg.keep h1 h2).next (fun a ha=>by rw [hno a] at ha;cases ha) ty with ⟨_,_,h⟩|⟨a,v,_,_,_,ha,_⟩
 ·exact h
 ·rw [hno a] at ha;cases ha
set_option maxHeartbeats 4000000 in
theorem crash_ok (h:Dk B w d bl bw sec nl nw dead fl (fun _=>none)) (hn:nl+nw < maxLen) (kv:Value) :
  Calls Tryz.prog 103 #[.pointer (some ⟨d,0,none⟩),kv] w fun e w'=>e=.returned (.tuple #[])/\Dk B w' d bl bw sec (nl+nw) 0 dead fl (fun _=>none)/\Gs (fun k=>k=bl∨k=bw) w w':=by
 obtain ⟨c0,c1,c2,c3⟩:=h.cells
 obtain ⟨w1,hrun,hnext,hg1,hs1⟩:=h.mw.range0
 have h1:=h.below (⟨hg1.os,hg1.tape,hg1.output,by omega,fun k hk=>hg1.block k hk (by simp)⟩:Below w.heap.size w w1)
 have hnx:=hnext w1 rfl rfl 0
 have D1:=h1.below (below_drew1 (Below.refl w1.heap.size w1))
 have HD1:=Aside0.mk D1
 have H:=Aside0.mk h
 have HN:=Aside0.mk hn
 have HG1:=Aside0.mk hg1
 clear h hn hnext hg1 h1 D1
 go_enter Tryz.func103,Tryz.ntmps103
 go_wp2
 go_loopg [] 0 (fun kq w'=>w'=w1)
 case atStart=>rfl
 case round =>
  subst hrel
  have c1':wr.cell? ⟨d,1,none⟩=some (.map (some bl)):=HD1.out.cells.2.1
  have c2':wr.cell? ⟨d,2,none⟩=some (.map (some bw)):=HD1.out.cells.2.2.1
  go_wp2
  go_region_law (first
   | (go_simp;go_at_call 117;refine (copy_ok HD1.out.ml HD1.out.mw HD1.out.ne HN.out).mono ?_;rintro e w2 ⟨rfl,⟨n2,hn2,hm1⟩,hm2,hg2⟩;have H2:=Aside0.mk (And.intro hn2 (And.intro hm1 (And.intro hm2 hg2)));clear hn2 hm1 hm2 hg2))
  all_goals
   obtain ⟨hn2,hm1,hm2,hg2⟩:=H2.out
   have hgd:=hg2.block d HD1.out.lt HD1.out.dne.1
   have e2:w2.cell? ⟨d,2,none⟩=some (.map (some bw)):=(World.cell?_of_block (a:=⟨d,2,none⟩) hgd).trans HD1.out.cells.2.2.1
   obtain ⟨w3,hcl,hm3,hg3,hs3⟩:=hm2.clear 0
   have H3:=Aside0.mk (And.intro hm3 hg3)
   clear hn2 hm1 hm2 hg2 hm3 hg3 hs3 hgd
   go_wp2
   obtain ⟨hn2,hm1,hm2,hg2⟩:=H2.out
   obtain ⟨hm3,hg3⟩:=H3.out
   go_end0
   refine ⟨rfl,⟨HD1.out.geB,(hg3.block d (Nat.lt_of_lt_of_le HD1.out.lt hg2.size) (by simp;exact HD1.out.dne.2)).trans ((hg2.block d HD1.out.lt HD1.out.dne.1).trans HD1.out.cell),((hm1.mono hn2).fr (Fr.of_grown hg3 hm2.1 hm2.nfz) (hg3.block bl hm1.lt (by simp;exact HD1.out.ne))).congr (fun a=>rfl),hm3,HD1.out.ne⟩,?_⟩
   exact ((((Gs.of_grown HG1.out (by simp)).trans (Gs.of_below (below_drew1 (Below.refl _ _)))).trans (hg2.mono (fun k _ e=>.inl e))).step hg3 (fun j hj=>by cases hj;exact .inr (.inr rfl)))
end
structure Dn where
 d:Nat
 bl:Nat
 bw:Nat
structure Dc where
 dead:Bool
 fl:Int->Option (List Int)
 fw:Int->Option (List Int)
def Dn.own (x:Dn) (k:Nat):Prop:=k=x.d∨k=x.bl∨k=x.bw
def DK (B:Nat) (w:World) (sec:Int) (T:Nat) (x:Dn) (c:Dc):Prop:=∃ nl nw,nl+nw<=T/\Dk B w x.d x.bl x.bw sec nl nw c.dead c.fl c.fw
def setC (C:Nat->Dc) (i:Nat) (c:Dc):Nat->Dc:=fun j=>if j=i then c else C j
structure Ar (B:Nat) (w:World) (a mb:Nat) (sec:Int) (n T:Nat) (D:Nat->Dn) (C:Nat->Dc):Prop where
 geA:B<=a
 geM:B<=mb
 cellA:∃ c,n<=c/\w.heap[a]?=some (.cells #[.slice (some ⟨mb,0,none⟩) n c,.int .i64 (-1),.bool false] 90 (0,0))
 cellM:∃ cs:Array Value,w.heap[mb]?=some (.cells cs 95 (0,0))/\∀ i,i < n->cs[i*2]?=some (.pointer (some ⟨(D i).d,0,none⟩))/\∃ b,cs[i*2+1]?=some (.int .i64 b)
 dk:∀ i,i < n->DK B w sec T (D i) (C i)
 apart:∀ i j,i < n->j < n->i≠j->∀ k,(D i).own k->¬ (D j).own k
section
variable {B:Nat} {w:World} {a mb n T:Nat} {sec:Int} {D:Nat->Dn} {C:Nat->Dc} {x:Dn} {c:Dc}
theorem DK.mono {T':Nat} (h:DK B w sec T x c) (hT:T<=T'):DK B w sec T' x c:=by
 obtain ⟨nl,nw,h1,h2⟩:=h
 exact ⟨nl,nw,Nat.le_trans h1 hT,h2⟩
theorem DK.lt (h:DK B w sec T x c) {k:Nat} (hk:x.own k):k < w.heap.size:=by
 obtain ⟨nl,nw,h1,h2⟩:=h
 rcases hk with rfl|rfl|rfl
 ·exact h2.lt
 ·exact h2.ml.lt
 ·exact h2.mw.lt
theorem DK.ge (h:DK B w sec T x c) {k:Nat} (hk:x.own k):B<=k:=by
 obtain ⟨nl,nw,h1,h2⟩:=h
 rcases hk with rfl|rfl|rfl
 ·exact h2.geB
 ·exact h2.ml.1
 ·exact h2.mw.1
theorem DK.nfz (h:DK B w sec T x c) {k:Nat} (hk:x.own k):¬ Fz w k:=by
 obtain ⟨nl,nw,h1,h2⟩:=h
 rcases hk with rfl|rfl|rfl
 ·exact h2.nfd
 ·exact h2.ml.nfz
 ·exact h2.mw.nfz
theorem DK.not_cells (h:DK B w sec T x c) {k:Nat} {cs:Array Value} {t:TypeId} {f:Nat×Nat} (hc:w.heap[k]?=some (.cells cs t f)) (ht:t≠119):¬ x.own k:=by
 obtain ⟨nl,nw,h1,h2⟩:=h
 rintro (rfl|rfl|rfl)
 ·rw [h2.cell] at hc
  injection hc with hc
  injection hc with _ hc
  exact ht hc.symm
 ·obtain ⟨_,m,⟨D,⟨es,clock,hb,_⟩,_⟩,_⟩:=h2.ml
  rw [hb] at hc
  cases hc
 ·obtain ⟨_,m,⟨D,⟨es,clock,hb,_⟩,_⟩,_⟩:=h2.mw
  rw [hb] at hc
  cases hc
theorem DK.keep (h:DK B w sec T x c) {W:World} (hf:Fr B w W) (hb:∀ k,x.own k->W.heap[k]?=w.heap[k]?):DK B W sec T x c:=by
 obtain ⟨nl,nw,h1,h2⟩:=h
 exact ⟨nl,nw,h1,h2.fr hf (hb _ (.inl rfl)) (hb _ (.inr (.inl rfl))) (hb _ (.inr (.inr rfl)))⟩
theorem Ar.step (h:Ar B w a mb sec n T D C) {i:Nat} (hi:i < n) {W:World} (hg:Gs (D i).own w W) {T':Nat} (hT:T<=T') {c:Dc} (hd:DK B W sec T' (D i) c):Ar B W a mb sec n T' D (setC C i c):=by
 have hfr:Fr B w W:=hg.fr (fun k hk e=>⟨(h.dk i hi).ge e,(h.dk i hi).nfz e⟩)
 obtain ⟨cc,hcc,hca⟩:=h.cellA
 obtain ⟨cs,hcs,hcm⟩:=h.cellM
 refine ⟨h.geA,h.geM,⟨cc,hcc,(hg.block a (Array.getElem?_eq_some_iff.1 hca).1 ((h.dk i hi).not_cells hca (by decide))).trans hca⟩,⟨cs,(hg.block mb (Array.getElem?_eq_some_iff.1 hcs).1 ((h.dk i hi).not_cells hcs (by decide))).trans hcs,hcm⟩,fun j hj=>?_,h.apart⟩
 unfold setC
 by_cases hji:j=i
 ·subst hji
  rw [if_pos rfl]
  exact hd
 ·rw [if_neg hji]
  exact ((h.dk j hj).keep hfr (fun k hk=>hg.block k ((h.dk j hj).lt hk) (h.apart j i hj hi hji k hk))).mono hT
theorem Ar.below (h:Ar B w a mb sec n T D C) {W:World} (hb:Below w.heap.size w W):Ar B W a mb sec n T D C:=by
 obtain ⟨cc,hcc,hca⟩:=h.cellA
 obtain ⟨cs,hcs,hcm⟩:=h.cellM
 exact ⟨h.geA,h.geM,⟨cc,hcc,(hb.block a (Array.getElem?_eq_some_iff.1 hca).1).trans hca⟩,⟨cs,(hb.block mb (Array.getElem?_eq_some_iff.1 hcs).1).trans hcs,hcm⟩,fun j hj=>(h.dk j hj).keep (Fr.of_below hb) (fun k hk=>hb.block k ((h.dk j hj).lt hk)),h.apart⟩
theorem Ar.cells (h:Ar B w a mb sec n T D C):∃ c,n<=c/\w.cell? ⟨a,0,none⟩=some (.slice (some ⟨mb,0,none⟩) n c)/\w.cell? ⟨a,1,none⟩=some (.int .i64 (-1))/\w.cell? ⟨a,2,none⟩=some (.bool false):=by
 obtain ⟨cc,hcc,hca⟩:=h.cellA
 exact ⟨cc,hcc,by simp [World.cell?,hca]⟩
theorem Ar.mem (h:Ar B w a mb sec n T D C) {i:Nat} (hi:i < n):w.cell? ⟨mb,i*2,none⟩=some (.pointer (some ⟨(D i).d,0,none⟩))/\∃ b,w.cell? ⟨mb,i*2+1,none⟩=some (.int .i64 b):=by
 obtain ⟨cs,hcs,hcm⟩:=h.cellM
 obtain ⟨h1,b,h2⟩:=hcm i hi
 exact ⟨by simp [World.cell?,hcs,h1],b,by simp [World.cell?,hcs,h2]⟩
set_option maxHeartbeats 1000000 in
theorem down_ok (h:Ar B w a mb sec n T D C) :
  Calls Tryz.prog 75 #[.pointer (some ⟨a,0,none⟩)] w fun e w'=>e=.returned (.bool false)/\w'=w:=by
 obtain ⟨c,hc,c0,c1,c2⟩:=h.cells
 clear h
 go_enter Tryz.func75,Tryz.ntmps75
 go_wp2
 go_ret
 exact ⟨rfl,rfl⟩
set_option maxHeartbeats 1000000 in
theorem there_ok (h:Ar B w a mb sec n T D C) (i:Nat) (hi:i < n) :
  Calls Tryz.prog 70 #[.pointer (some ⟨a,0,none⟩),.int .i64 i] w fun e w'=>e=.returned (.bool true)/\w'=w:=by
 obtain ⟨c,hc,c0,c1,c2⟩:=h.cells
 have h0:¬ (i:Int) < 0:=by omega
 have h1:(i:Int) < (n:Int):=by omega
 have h2:(0:Int)<=i:=by omega
 have h3:(i:Int) ≥ 0:=by omega
 clear h
 go_enter Tryz.func70,Tryz.ntmps70
 go_wp2
 go_ret
 exact ⟨rfl,rfl⟩
end
section
variable {B:Nat} {w:World} {a mb n T:Nat} {sec:Int} {D:Nat->Dn} {C:Nat->Dc} {x:Dn} {c:Dc}
set_option maxHeartbeats 1000000 in
theorem aread_ok (h:Ar B w a mb sec n T D C) (i:Nat) (hi:i < n) (hl:(C i).dead=false) (ad:Int) (h0:0<=ad) (h1:ad < sec) (hs:sec<=4096) (hn:(eff (C i).fl (C i).fw ad).length<=100000) :
  Calls Tryz.prog 135 #[.pointer (some ⟨a,0,none⟩),.int .i64 i,.int .i64 ad] w fun e w'=>∃ v,e=.returned (.tuple #[v,.int .i64 0])/\Kd.R (Kd.int .u8) 5 w' w.heap.size (fun _=>True) v (eff (C i).fl (C i).fw ad)/\Below w.heap.size w w':=by
 obtain ⟨cc,hc,c0,c1,c2⟩:=h.cells
 obtain ⟨m0,bb,m1⟩:=h.mem hi
 have g0:(0:Int)<=i:=by omega
 have g1:(i:Int) < (n:Int):=by omega
 obtain ⟨nl,nw,hT,hd⟩:=h.dk i hi
 rw [hl] at hd
 have H:=Aside0.mk h
 have HD:=Aside0.mk hd
 have HI:=Aside0.mk hi
 have HA:=Aside0.mk (And.intro h0 (And.intro h1 (And.intro hs hn)))
 clear h hd hi h0 h1 hs hn hl hT
 go_enter Tryz.func135,Tryz.ntmps135
 go_wp2_with (first|(go_at_call 75;refine (down_ok H.out).mono ?_;rintro e w1 ⟨rfl,hw1⟩;obtain rfl:=hw1.symm)|(go_at_call 70;refine (there_ok H.out i HI.out).mono ?_;rintro e w1 ⟨rfl,hw1⟩;obtain rfl:=hw1.symm)|(go_at_call 162;refine (read_ok HD.out ad HA.out.1 HA.out.2.1 HA.out.2.2.1 HA.out.2.2.2).mono ?_;rintro e w2 ⟨v2,rfl,hr,hb2⟩;have HR:=Aside0.mk hr;have HB2:=Aside0.mk hb2;clear hr hb2))
 go_ret2
 exact ⟨_,rfl,HR.out,HB2.out⟩
set_option maxHeartbeats 1000000 in
theorem aread_dead (h:Ar B w a mb sec n T D C) (i:Nat) (hi:i < n) (hl:(C i).dead=true) (ad:Int) :
  Calls Tryz.prog 135 #[.pointer (some ⟨a,0,none⟩),.int .i64 i,.int .i64 ad] w fun e w'=>e=.returned (.tuple #[.slice none 0 0,.int .i64 120])/\w'=w:=by
 obtain ⟨cc,hc,c0,c1,c2⟩:=h.cells
 obtain ⟨m0,bb,m1⟩:=h.mem hi
 have g0:(0:Int)<=i:=by omega
 have g1:(i:Int) < (n:Int):=by omega
 obtain ⟨nl,nw,hT,hd⟩:=h.dk i hi
 rw [hl] at hd
 have H:=Aside0.mk h
 have HD:=Aside0.mk hd
 have HI:=Aside0.mk hi
 clear h hd hi hl hT
 go_enter Tryz.func135,Tryz.ntmps135
 go_wp2_with (first|(go_at_call 75;refine (down_ok H.out).mono ?_;rintro e w1 ⟨rfl,hw1⟩;obtain rfl:=hw1.symm)|(go_at_call 70;refine (there_ok H.out i HI.out).mono ?_;rintro e w1 ⟨rfl,hw1⟩;obtain rfl:=hw1.symm)|(go_at_call 162;refine (read_dead HD.out ad).mono ?_;rintro e w2 ⟨rfl,hw1⟩;obtain rfl:=hw1.symm))
 go_ret2
 exact ⟨rfl,rfl⟩
set_option maxHeartbeats 4000000 in
theorem awrite_ok (h:Ar B w a mb sec n T D C) (i:Nat) (hi:i < n) (hl:(C i).dead=false) (hT:T+1 < maxLen) (ad:Int) (h0:0<=ad) (h1:ad < sec) (hs:sec<=4096) (A:Option Addr) (c:Nat) (l:List Int) (hc:l.length<=c) (hC:(Kd.int .u8).C w A l.length l) (l0:1<=l.length) (l1:l.length<=4108) :
  Calls Tryz.prog 51 #[.pointer (some ⟨a,0,none⟩),.int .i64 i,.int .i64 ad,.slice A l.length c] w fun e w'=>e=.returned (.int .i64 0)/\Ar B w' a mb sec n (T+1) D (setC C i ⟨false,(C i).fl,updR (C i).fw ad l⟩)/\Gs (D i).own w w':=by
 obtain ⟨cc,hcc,c0,c1,c2⟩:=h.cells
 obtain ⟨m0,bb,m1⟩:=h.mem hi
 have g0:(0:Int)<=i:=by omega
 have g1:(i:Int) < (n:Int):=by omega
 obtain ⟨nl,nw,hT2,hd⟩:=h.dk i hi
 rw [hl] at hd
 have H:=Aside0.mk h
 have HD:=Aside0.mk hd
 have HI:=Aside0.mk hi
 have HT:=Aside0.mk (And.intro hT hT2)
 have HA:=Aside0.mk (And.intro h0 (And.intro h1 hs))
 have HL:=Aside0.mk (And.intro hc (And.intro hC (And.intro l0 l1)))
 obtain ⟨k,hk⟩:∃ k,l.length=k:=⟨_,rfl⟩
 have HK:=Aside0.mk hk
 rw [hk]
 clear h hd hi hl hT hT2 h0 h1 hs hc hC l0 l1 hk
 go_enter Tryz.func51,Tryz.ntmps51
 go_wp2_with (first|(go_at_call 75;refine (down_ok H.out).mono ?_;rintro e w1 ⟨rfl,hw1⟩;obtain rfl:=hw1.symm)|(go_at_call 70;refine (there_ok H.out i HI.out).mono ?_;rintro e w1 ⟨rfl,hw1⟩;obtain rfl:=hw1.symm)|(go_at_call 76;rw [<- HK.out];refine (write_ok HD.out (by have:=HT.out;omega) ad HA.out.1 HA.out.2.1 HA.out.2.2 A c l HL.out.1 HL.out.2.1 HL.out.2.2.1 HL.out.2.2.2).mono ?_;rintro e w2 ⟨rfl,hd2,hg2⟩;have hg3:=hg2.mono (S':=(D i).own) (fun k _ e=>.inr (.inr e));have ha2:=H.out.step HI.out hg3 (T':=T+1) (by omega) (c:=⟨false,(C i).fl,updR (C i).fw ad l⟩) ⟨nl,nw+1,by have:=HT.out;omega,hd2⟩;obtain ⟨cc2,hcc2,c02,c12,c22⟩:=ha2.cells;have HA2:=Aside0.mk (And.intro ha2 hg3);clear hd2 hg2 hg3 ha2))
 go_ret
 exact ⟨rfl,HA2.out⟩
end
section
variable {B:Nat} {w:World} {a mb n T:Nat} {sec:Int} {D:Nat->Dn} {C:Nat->Dc} {x:Dn} {c:Dc}
set_option maxHeartbeats 1000000 in
theorem flush_dead {d bl bw nl nw:Nat} {fl fw:Int->Option (List Int)} (h:Dk B w d bl bw sec nl nw true fl fw) :
  Calls Tryz.prog 78 #[.pointer (some ⟨d,0,none⟩)] w fun e w'=>e=.returned (.int .i64 120)/\w'=w:=by
 have H:=Aside0.mk h
 clear h
 go_enter Tryz.func78,Tryz.ntmps78
 go_wp2_with (first|(go_at_call 110;refine (fault_dead H.out 0).mono ?_;rintro e w1 ⟨rfl,hw1⟩;obtain rfl:=hw1.symm))
 go_ret
 exact ⟨rfl,rfl⟩
def flushC (c:Dc):Dc:=if c.dead then c else ⟨false,fun a=>(c.fw a).or (c.fl a),fun _=>none⟩
theorem DK.flush (h:DK B w sec T x c) (hT:T < maxLen) (hs:0 < sec) :
  Calls Tryz.prog 78 #[.pointer (some ⟨x.d,0,none⟩)] w fun e w'=>∃ r,e=.returned (.int .i64 r)/\DK B w' sec T x (flushC c)/\Gs x.own w w':=by
 obtain ⟨nl,nw,h1,h2⟩:=h
 unfold flushC
 cases hd:c.dead with
 | true =>
  rw [hd] at h2
  refine (flush_dead h2).mono ?_
  rintro e w1 ⟨rfl,rfl⟩
  exact ⟨_,rfl,⟨nl,nw,h1,by rw [if_pos rfl,hd];exact h2⟩,Gs.refl _ _⟩
 | false =>
  rw [hd] at h2
  refine (flush_ok h2 (by omega) hs).mono ?_
  rintro e w1 ⟨rfl,h3,h4⟩
  exact ⟨_,rfl,⟨nl+nw,0,h1,by rw [if_neg (by simp)];exact h3⟩,h4.mono (fun k _ e=>.inr e)⟩
theorem setC_seq (C:Nat->Dc) (f:Dc->Dc) (i:Nat):setC (fun j=>if j < i then f (C j) else C j) i (f (C i))=fun j=>if j < i+1 then f (C j) else C j:=by
 funext j
 unfold setC
 by_cases h:j=i
 ·subst h
  rw [if_pos rfl,if_pos (by omega)]
 ·rw [if_neg h]
  by_cases h2:j < i
  ·simp only []
   rw [if_pos h2,if_pos (by omega)]
  ·simp only []
   rw [if_neg h2,if_neg (by omega)]
def Ds (n:Nat) (D:Nat->Dn) (k:Nat):Prop:=∃ i,i < n/\(D i).own k
theorem Ar.fr (h:Ar B w a mb sec n T D C) {W:World} (hg:Gs (Ds n D) w W):Fr B w W:=hg.fr (fun k hk ⟨i,hi,hk2⟩=>⟨(h.dk i hi).ge hk2,(h.dk i hi).nfz hk2⟩)
theorem w64 (n:Int) (h:-9223372036854775808<=n/\n<=9223372036854775807):wrap64 n=n:=by unfold wrap64;omega
theorem info4:(Tryz.prog.info? 4).map (fun i=>(i.zero,i.size,i.bytes))=some (some (.bool false),1,1):=by kernel_rfl
theorem info95:(Tryz.prog.info? 95).map (fun i=>(i.zero,i.size,i.bytes))=some (some (.agg #[.pointer none,.int .i64 0]),2,16):=by kernel_rfl
set_option maxHeartbeats 4000000 in
theorem aflush_ok (h:Ar B w a mb sec n T D C) (hT:T < maxLen) (hs:0 < sec) (hn:n<=100) :
  Calls Tryz.prog 53 #[.pointer (some ⟨a,0,none⟩)] w fun e w'=>e=.returned (.int .i64 0)/\Ar B w' a mb sec n T D (fun j=>if j < n then flushC (C j) else C j)/\Gs (Ds n D) w w':=by
 obtain ⟨cc,hcc,c0,c1,c2⟩:=h.cells
 have H:=Aside0.mk h
 have HT:=Aside0.mk (And.intro hT hs)
 have HN:=Aside0.mk (And.intro hn hcc)
 clear h hT hs hn
 go_enter Tryz.func53,Tryz.ntmps53
 go_wp2
 go_loopg [18] n (fun kq p wr=>∃ i:Nat,p=.int .i64 i/\i+kq=n/\Aside0 (Ar B wr a mb sec n T D (fun j=>if j < i then flushC (C j) else C j))/\Aside0 (Gs (Ds n D) w wr))
 case atStart =>
  exact ⟨0,rfl,by omega,⟨by simpa using H.out⟩,⟨Gs.refl _ _⟩⟩
 case round =>
  obtain ⟨i,rfl,hk,HA,HG⟩:=hrel
  by_cases hi:i < n
  ·have g1:(i:Int) < (n:Int):=by omega
   have g0:(0:Int)<=i:=by omega
   obtain ⟨m0,bb,m1⟩:=HA.out.mem hi
   go_wp2_with (first|(go_at_call 78;refine (((HA.out.below (below_alloc (Below.refl _ _) _)).dk i hi).flush HT.out.1 HT.out.2).mono ?_;rintro e w2 ⟨r,rfl,hd2,hg2⟩;have ha2:=(HA.out.below (below_alloc (Below.refl _ _) _)).step hi hg2 (Nat.le_refl T) hd2;have HA2:=Aside0.mk ha2;have HG2:=Aside0.mk ((HG.out.trans (Gs.of_below (below_alloc (Below.refl _ _) _))).trans (hg2.mono (fun k hk e=>(⟨i,hi,e⟩:Ds n D k))));clear hd2 hg2 ha2))
   go_roundg (n - (i+1))
   case measure=>omega
   case rel =>
    have ha3:=HA2.out
    simp only [if_neg (Nat.lt_irrefl i)] at ha3
    rw [setC_seq] at ha3
    exact ⟨i+1,by simp [w64 _ (show -9223372036854775808<=(i:Int)+1/\(i:Int)+1<=9223372036854775807 from by have:=HN.out;omega)],by omega,⟨ha3⟩,HG2⟩
  ·have g1:¬ (i:Int) < (n:Int):=by omega
   go_wp2
   go_ret
   have e:i=n:=by omega
   subst e
   exact ⟨rfl,HA.out,HG.out⟩
set_option maxHeartbeats 4000000 in
theorem live_ok (h:Ar B w a mb sec n T D C) (hn:n<=100) :
  Calls Tryz.prog 50 #[.pointer (some ⟨a,0,none⟩)] w fun e w'=>∃ v,e=.returned v/\Kd.R Kd.bool 4 w' w.heap.size (fun _=>True) v ((List.range n).map (fun i=>!(C i).dead))/\Below w.heap.size w w':=by
 obtain ⟨cc,hcc,c0,c1,c2⟩:=h.cells
 have H:=Aside0.mk h
 have HN:=Aside0.mk (And.intro hn hcc)
 clear h hn
 go_enter Tryz.func50,Tryz.ntmps50
 go_wp2
 go_loopg [2,12] n (fun kq v p wr=>∃ i:Nat,p=.int .i64 i/\i+kq=n/\Aside0 (Kd.R Kd.bool 4 wr w.heap.size (fun _=>True) v ((List.range i).map (fun i=>!(C i).dead)))/\Aside0 (Below w.heap.size w wr))
 case atStart =>
  exact ⟨0,rfl,by omega,⟨Kd.R_nil _ _ _ _ _⟩,⟨Below.refl _ _⟩⟩
 case round =>
  obtain ⟨i,rfl,hk,HR,HB⟩:=hrel
  by_cases hi:i < n
  ·have g1:(i:Int) < (n:Int):=by omega
   have g0:(0:Int)<=i:=by omega
   have ha:=H.out.below HB.out
   obtain ⟨m0,bb,m1⟩:=ha.mem hi
   obtain ⟨nl,nw,hT2,hd⟩:=ha.dk i hi
   have HD:=Aside0.mk hd
   have hsz:(wr.alloc (Obj.cells #[.pointer (some ⟨(D i).d,0,none⟩),.int .i64 bb] 95)).heap.size=wr.heap.size+1:=by simp
   clear hd ha hT2
   go_wp2_with (first|(go_at_call 74;refine (dead_ok (HD.out.below (below_alloc (Below.refl _ _) _))).mono ?_;rintro e w2 ⟨rfl,hw2⟩;obtain rfl:=hw2.symm)|(at_builtin;refine Kd.R_append Kd.bool (w0:=w) w.heap.size rfl (.tmp 16) (.tmp 21) 120 4 (.bool false) 1 rfl Tryz.underlying120 info4 rfl (by decide) (by decide) u2 ((List.range i).map (fun i=>!(C i).dead)) (!(C i).dead) [.bool (!(C i).dead)] (fun _=>True) (fun k=>some k≠u2.ownBlock) rfl (by rw [hsz];rfl) rfl (fun _ hk=>⟨trivial,hk⟩) (fun _ _=>trivial) (Kd.R_below HR.out (below_alloc (Below.refl _ _) _)) (below_alloc HB.out _) (by have:=(below_alloc HB.out (Obj.cells #[.pointer (some ⟨(D i).d,0,none⟩),.int .i64 bb] 95)).size;simpa using this) (by simp;have:=HN.out;omega) ?_;intro v3 w3 ho3 hb3 hg3 hat3;have HO3:=Aside0.mk ho3;have HB3:=Aside0.mk hb3;clear ho3 hb3 hg3 hat3))
   go_roundg (n - (i+1))
   case measure=>omega
   case rel =>
    exact ⟨i+1,by simp [w64 _ (show -9223372036854775808<=(i:Int)+1/\(i:Int)+1<=9223372036854775807 from by have:=HN.out;omega)],by omega,⟨by rw [List.range_succ,List.map_append];exact HO3.out⟩,HB3⟩
  ·have g1:¬ (i:Int) < (n:Int):=by omega
   go_wp2
   go_ret
   have e:i=n:=by omega
   subst e
   exact ⟨_,rfl,HR.out,HB.out⟩
end
def mcells (D:Nat->Dn):Nat->List Value
 | 0=>[]
 | i+1=>mcells D i ++ [.pointer (some ⟨(D i).d,0,none⟩),.int .i64 0]
theorem mcells_len (D:Nat->Dn):∀ i,(mcells D i).length=i*2
 | 0=>rfl
 | i+1=>by rw [mcells,List.length_append,mcells_len D i];simp;omega
theorem mcells_congr {D D':Nat->Dn}:∀ i,(∀ j,j < i->D j=D' j)->mcells D i=mcells D' i
 | 0,_=>rfl
 | i+1,h=>by rw [mcells,mcells,mcells_congr i (fun j hj=>h j (by omega)),h i (by omega)]
theorem mcells_get (D:Nat->Dn):∀ n i,i < n->(mcells D n)[i*2]?=some (.pointer (some ⟨(D i).d,0,none⟩))/\(mcells D n)[i*2+1]?=some (.int .i64 0)
 | 0,i,h=>by omega
 | n+1,i,h=>by
  have hl:=mcells_len D n
  rw [mcells]
  by_cases hi:i < n
  ·obtain ⟨h1,h2⟩:=mcells_get D n i hi
   rw [List.getElem?_append_left (by omega),List.getElem?_append_left (by omega)]
   exact ⟨h1,h2⟩
  ·have:i=n:=by omega
   subst this
   rw [List.getElem?_append_right (by omega),List.getElem?_append_right (by omega),hl]
   simp
def newC:Dc:=⟨false,fun _=>none,fun _=>none⟩
structure Mk (w:World) (sec:Int) (W:World) (v:Value) (i:Nat) (D:Nat->Dn):Prop where
 cell:W.heap[w.heap.size]?=some (.cells #[v,.int .i64 (-1),.bool false] 90 (0,0))
 row:W.ownsRow w.heap.size 95 2 v i (mcells D i)
 dk:∀ j,j < i->DK w.heap.size W sec 0 (D j) newC
 apart:∀ j k,j < i->k < i->j≠k->∀ b,(D j).own b->¬ (D k).own b
 below:Below w.heap.size w W
theorem Mk.below' {w W W':World} {sec:Int} {v:Value} {i:Nat} {D:Nat->Dn} (h:Mk w sec W v i D) (hb:Below W.heap.size W W'):Mk w sec W' v i D :=
 ⟨(hb.block _ (Array.getElem?_eq_some_iff.1 h.cell).1).trans h.cell,own_move h.row (fun k hk=>hb.block k (own_lt h.row k hk)),fun j hj=>(h.dk j hj).keep (Fr.of_below hb) (fun k hk=>hb.block k ((h.dk j hj).lt hk)),h.apart,below_step h.below hb⟩
def setD (D:Nat->Dn) (i:Nat) (x:Dn):Nat->Dn:=fun j=>if j=i then x else D j
theorem own_slice {w:World} {base e size n:Nat} {v:Value} {xs:List Value} (h:w.ownsRow base e size v n xs):∃ A n c,v=.slice A n c:=by
 obtain ⟨_,⟨rfl,_⟩|⟨g,cap,cur,rfl,_⟩⟩:=h
 ·exact ⟨_,_,_,rfl⟩
 ·exact ⟨_,_,_,rfl⟩
theorem Mk.keepA {w w2 w3:World} {sec:Int} {v:Value} {i:Nat} {D:Nat->Dn} (m2:Mk w sec w2 v i D) (hg3:w2.grownBy w3 v.ownBlock):w3.heap[w.heap.size]?=some (.cells #[v,.int .i64 (-1),.bool false] 90 (0,0)):=by
 refine (hg3.block _ (Array.getElem?_eq_some_iff.1 m2.cell).1 (fun e=>?_)).trans m2.cell
 obtain ⟨cells,hc⟩:=own_typed m2.row _ e.symm
 rw [m2.cell] at hc
 injection hc with hc
 injection hc with _ hc
 cases hc
theorem Mk.ar {w W:World} {sec:Int} {v:Value} {n:Nat} {D:Nat->Dn} (h:Mk w sec W v n D) (hn:1<=n):∃ mb D',Ar w.heap.size W w.heap.size mb sec n 0 D' (fun _=>newC):=by
 obtain ⟨hl,⟨rfl,h0⟩|⟨g,cap,cur,rfl,hg,hh,hc,hc2,hs,ht⟩⟩:=h.row
 ·omega
 ·refine ⟨g,D,⟨Nat.le_refl _,hg,⟨cap,hc,h.cell⟩,⟨cur,hh,fun i hi=>?_⟩,h.dk,h.apart⟩⟩
  obtain ⟨h1,h2⟩:=mcells_get D n i hi
  rw [<- ht] at h1 h2
  have e:∀ j x,(cur.toList.take (n*2))[j]?=some x->cur[j]?=some x:=fun j x hx=>by
   rw [List.getElem?_take] at hx
   split at hx
   ·simpa using hx
   ·cases hx
  exact ⟨e _ _ h1,0,e _ _ h2⟩
theorem Mk.push {w wr w2 w3:World} {sec:Int} {v v3:Value} {i:Nat} {D:Nat->Dn} {x:Dn} (h:Mk w sec wr v i D) (h2:Below wr.heap.size wr w2) (hd:DK w.heap.size w2 sec 0 x newC) (hx:∀ k,x.own k->wr.heap.size<=k)
  (ho3:w3.ownsRow w.heap.size 95 2 v3 (i+1) (mcells D i ++ [.pointer (some ⟨x.d,0,none⟩),.int .i64 0])) (hb3:Below w.heap.size w w3) (hg3:w2.grownBy w3 v.ownBlock) :
  Mk w sec (w3.setCell ⟨w.heap.size,0,none⟩ v3) v3 (i+1) (setD D i x):=by
 have m2:=h.below' h2
 have hlt:=(Array.getElem?_eq_some_iff.1 m2.cell).1
 have hva:some w.heap.size≠v.ownBlock:=fun e=>by
  obtain ⟨cells,hc⟩:=own_typed m2.row _ e.symm
  rw [m2.cell] at hc
  injection hc with hc
  injection hc with _ hc
  cases hc
 have ca:w3.heap[w.heap.size]?=some (.cells #[v,.int .i64 (-1),.bool false] 90 (0,0)):=(hg3.block _ hlt hva).trans m2.cell
 have hva3:∀ k,v3.ownBlock=some k->k≠w.heap.size:=fun k e ek=>by
  subst ek
  obtain ⟨cells,hc⟩:=own_typed ho3 _ e
  rw [ca] at hc
  injection hc with hc
  injection hc with _ hc
  cases hc
 have fr3:Fr w.heap.size w2 w3:=⟨hg3.os,hg3.tape,hg3.output,hg3.size,fun k hk hf=>hg3.block k hk (fun e=>by
  obtain ⟨cells,hc⟩:=own_typed m2.row k e.symm
  rcases hf with hf|⟨cells',t,h1,h2⟩
  ·have:=own_base m2.row k e.symm
   omega
  ·rw [hc] at h1
   injection h1 with h1
   injection h1 with _ h1
   exact h2 (by rw [<- h1];decide))⟩
 have fr4:Fr w.heap.size w3 (w3.setCell ⟨w.heap.size,0,none⟩ v3):=Fr.of_grown (grown_setCell w3 w.heap.size 0 v3) (Nat.le_refl _) (by
  rintro ⟨cells,t,h1,h2⟩
  rw [ca] at h1
  injection h1 with h1
  injection h1 with _ h1
  exact h2 (by rw [<- h1];decide))
 have keep:∀ y:Dn,DK w.heap.size w2 sec 0 y newC->DK w.heap.size (w3.setCell ⟨w.heap.size,0,none⟩ v3) sec 0 y newC:=fun y hy=>by
  refine hy.keep (fr3.trans fr4) (fun k hk=>?_)
  have n1:=hy.not_cells m2.cell (by decide)
  refine (Below.heap_setCell w3 _ v3 k (fun e=>n1 (by have e':k=w.heap.size:=e;rw [<- e'];exact hk))).trans (hg3.block k (hy.lt hk) (fun e=>?_))
  obtain ⟨cells,hc⟩:=own_typed m2.row k e.symm
  exact hy.not_cells hc (by decide) hk
 refine ⟨?_,?_,fun j hj=>?_,fun j k hj hk hjk b hb1 hb2=>?_,⟨hb3.os,hb3.tape,hb3.output,by simp [World.setCell];exact hb3.size,fun k hk=>(Below.heap_setCell w3 _ v3 k (by simp;omega)).trans (hb3.block k hk)⟩⟩
 ·simp [World.setCell,Array.getElem?_modify,ca]
 ·have e:mcells (setD D i x) (i+1)=mcells D i ++ [.pointer (some ⟨x.d,0,none⟩),.int .i64 0]:=by
   rw [mcells,mcells_congr (D:=setD D i x) (D':=D) i (fun j hj=>if_neg (by omega))]
   simp [setD]
  rw [e]
  exact own_move ho3 (fun k hk=>Below.heap_setCell w3 _ v3 k (hva3 k hk))
 ·unfold setD
  by_cases hji:j=i
  ·rw [if_pos hji]
   exact keep x hd
  ·rw [if_neg hji]
   exact keep _ (m2.dk j (by omega))
 ·unfold setD at hb1 hb2
  by_cases hji:j=i
  ·rw [if_pos hji] at hb1
   rw [if_neg (by omega)] at hb2
   have:=(h.dk k (by omega)).lt hb2
   have:=hx b hb1
   omega
  ·rw [if_neg hji] at hb1
   by_cases hki:k=i
   ·rw [if_pos hki] at hb2
    have:=(h.dk j (by omega)).lt hb1
    have:=hx b hb2
    omega
   ·rw [if_neg hki] at hb2
    exact h.apart j k (by omega) (by omega) hjk b hb1 hb2
set_option maxHeartbeats 4000000 in
theorem anew_ok (w:World) (n:Nat) (hn:n<=32) (hn1:1<=n) (sec:Int) (h0:1<=sec) (h1:sec<=4096) :
  Calls Tryz.prog 18 #[.int .i64 n,.int .i64 sec] w fun e w'=>e=.returned (.tuple #[.pointer (some ⟨w.heap.size,0,none⟩),.int .i64 0])/\∃ mb D,Ar w.heap.size w' w.heap.size mb sec n 0 D (fun _=>newC)/\Below w.heap.size w w':=by
 have g0:¬ (n:Int) < 1:=by omega
 have g1:¬ (n:Int) > 32:=by omega
 have HN:=Aside0.mk (And.intro hn hn1)
 have HS:=Aside0.mk (And.intro h0 h1)
 clear hn hn1 h0 h1
 go_enter Tryz.func18,Tryz.ntmps18
 go_wp2
 go_loopg [18] n (fun kq p wr=>∃ (i:Nat) (v:Value) (D:Nat->Dn),p=.int .i64 i/\i+kq=n/\Aside0 (Mk w sec wr v i D))
 case atStart =>
  refine ⟨0,.slice none 0 0,fun _=>⟨0,0,0⟩,rfl,by omega,⟨?_⟩⟩
  exact ⟨heap_alloc_new _ _,⟨rfl,.inl ⟨rfl,rfl⟩⟩,fun j hj=>by omega,fun j k hj=>by omega,below_alloc (Below.refl _ _) _⟩
 case round =>
  obtain ⟨i,v,D,rfl,hk,HM⟩:=hrel
  by_cases hi:i < n
  ·have g2:(i:Int) < (n:Int):=by omega
   go_wp2_with (first|(go_at_call 33;go_loud (refine (new_ok w.heap.size wr (below_size HM.out.below) sec HS.out.1 HS.out.2).mono ?_;rintro e w2 ⟨d,rfl,hd2⟩;obtain ⟨bl,bw,q1,q2,q3,hd2,hb2⟩:=hd2;have hm2:=HM.out.below' hb2;have c0:w2.cell? ⟨w.heap.size,0,none⟩=some v:=(by simp [World.cell?,hm2.cell]);have HD2:=Aside0.mk (And.intro hb2 (And.intro hd2 (And.intro q1 (And.intro q2 (And.intro q3 hm2)))));clear hd2 hb2 hm2 q1 q2 q3))|(at_builtin;go_loud (refine print_append_cells (w0:=w) w.heap.size rfl (.tmp 32) (.tmp 35) 88 95 (.agg #[.pointer none,.int .i64 0]) 2 16 rfl Tryz.underlying88 info95 rfl (by decide) (by decide) v i (mcells D i) [.pointer (some ⟨d,0,none⟩),.int .i64 0] rfl rfl rfl (by simp [Value.oneCell']) HD2.out.2.2.2.2.2.row HD2.out.2.2.2.2.2.below (below_size HD2.out.2.2.2.2.2.below) (by have:=HN.out;omega) ?_;intro v3 w3 ho3 hb3 hg3 hat3;obtain ⟨A3,n3,c3',rfl⟩:=own_slice ho3;obtain ⟨hb2,hd2,q1,q2,q3,hm2⟩:=HD2.out;have hm3:=HM.out.push (x:=⟨d,bl,bw⟩) hb2 ⟨0,0,Nat.le_refl 0,hd2⟩ (by rintro k (rfl|rfl|rfl) <;> assumption) ho3 hb3 hg3;have hca:w3.heap[w.heap.size]?=some (.cells #[v,.int .i64 (-1),.bool false] 90 (0,0)):=hm2.keepA hg3;have c3:w3.cell? ⟨w.heap.size,0,none⟩=some v:=(by simp [World.cell?,hca]);have f3:w3.frozen? ⟨w.heap.size,0,none⟩=false:=(by simp [World.frozen?,hca]);have HM3:=Aside0.mk hm3;clear ho3 hb3 hg3 hat3 hb2 hd2 q1 q2 q3 hm2 hm3 hca)))
   go_roundg (n - (i+1))
   case measure=>omega
   case rel =>
    exact ⟨i+1,_,_,by simp [w64 _ (show -9223372036854775808<=(i:Int)+1/\(i:Int)+1<=9223372036854775807 from by have:=HN.out;omega)],by omega,HM3⟩
  ·have g2:¬ (i:Int) < (n:Int):=by omega
   go_wp2
   go_ret2
   have e:i=n:=by omega
   subst e
   obtain ⟨mb,D',h⟩:=HM.out.ar (by have:=HN.out;omega)
   exact ⟨rfl,⟨mb,D',h⟩,HM.out.below⟩
section
variable {B:Nat} {w:World} {a mb n T:Nat} {sec:Int} {D:Nat->Dn} {C:Nat->Dc} {x:Dn} {c:Dc}
theorem Ar.births (h:Ar B w a mb sec n T D C) (i:Nat) (b:Int):Ar B (w.setCell ⟨mb,i*2+1,none⟩ (.int .i64 b)) a mb sec n T D C/\Gs (fun k=>k=mb) w (w.setCell ⟨mb,i*2+1,none⟩ (.int .i64 b)):=by
 obtain ⟨cc,hcc,hca⟩:=h.cellA
 obtain ⟨cs,hcs,hcm⟩:=h.cellM
 have hg:=grown_setCell w mb (i*2+1) (.int .i64 b)
 have nf:¬ Fz w mb:=by
  rintro ⟨cells,t,h1,h2⟩
  rw [hcs] at h1
  injection h1 with h1
  injection h1 with _ h1
  exact h2 (by rw [<- h1];decide)
 have fr:Fr B w (w.setCell ⟨mb,i*2+1,none⟩ (.int .i64 b)):=Fr.of_grown hg h.geM nf
 have hne:a≠mb:=by
  rintro rfl
  rw [hca] at hcs
  injection hcs with hcs
  injection hcs with _ hcs
  cases hcs
 refine ⟨⟨h.geA,h.geM,⟨cc,hcc,(Below.heap_setCell w _ _ a hne).trans hca⟩,⟨cs.setIfInBounds (i*2+1) (.int .i64 b),by simp [World.setCell,Array.getElem?_modify,hcs],fun j hj=>?_⟩,fun j hj=>(h.dk j hj).keep fr (fun k hk=>Below.heap_setCell w _ _ k (fun e=>?_)),h.apart⟩,Gs.of_grown hg (fun k hk _=>by cases hk;rfl)⟩
 ·obtain ⟨h1,b',h2⟩:=hcm j hj
  constructor
  ·rw [Array.getElem?_setIfInBounds_ne (by omega)]
   exact h1
  ·by_cases hji:j=i
   ·subst hji
    exact ⟨b,by rw [Array.getElem?_setIfInBounds_self_of_lt];exact (Array.getElem?_eq_some_iff.1 h2).1⟩
   ·exact ⟨b',by rw [Array.getElem?_setIfInBounds_ne (by omega)];exact h2⟩
 ·have e':k=mb:=e
  subst e'
  exact (h.dk j hj).not_cells hcs (by decide) hk
theorem Ar.fzm (h:Ar B w a mb sec n T D C) (j:Nat):w.frozen? ⟨mb,j,none⟩=false:=by
 obtain ⟨cs,hcs,hcm⟩:=h.cellM
 simp [World.frozen?,hcs]
set_option maxHeartbeats 4000000 in
theorem afail_ok (h:Ar B w a mb sec n T D C) (i:Nat) (hi:i < n) :
  Calls Tryz.prog 45 #[.pointer (some ⟨a,0,none⟩),.int .i64 i] w fun e w'=>e=.returned (.int .i64 0)/\Ar B w' a mb sec n T D (setC C i ⟨true,fun _=>none,fun _=>none⟩)/\Gs (fun k=>k=mb∨(D i).own k) w w':=by
 obtain ⟨cc,hcc,c0,c1,c2⟩:=h.cells
 obtain ⟨m0,bb,m1⟩:=h.mem hi
 have g0:(0:Int)<=i:=by omega
 have g1:(i:Int) < (n:Int):=by omega
 obtain ⟨nl,nw,hT2,hd⟩:=h.dk i hi
 have H:=Aside0.mk h
 have HD:=Aside0.mk hd
 have HI:=Aside0.mk hi
 clear h hd hi hT2
 go_enter Tryz.func45,Tryz.ntmps45
 go_wp2_with (first|(go_at_call 70;refine (there_ok H.out i HI.out).mono ?_;rintro e w1 ⟨rfl,hw1⟩;obtain rfl:=hw1.symm)|(go_at_call 71;go_loud (refine (fail_ok HD.out).mono ?_;rintro e w2 ⟨rfl,hd2,hg2⟩;have hg3:=hg2.mono (S':=(D i).own) (fun k _ e=>e);have ha2:=H.out.step HI.out hg3 (T':=T) (Nat.le_refl _) (c:=⟨true,fun _=>none,fun _=>none⟩) ⟨0,0,(by omega),hd2⟩;obtain ⟨cc2,hcc2,c02,c12,c22⟩:=ha2.cells;obtain ⟨m02,bb2,m12⟩:=ha2.mem HI.out;have f12:w2.frozen? ⟨mb,i*2+1,none⟩=false:=ha2.fzm _;have HA2:=Aside0.mk (And.intro ha2 hg3);clear hd2 hg2 hg3 ha2)))
 go_ret
 obtain ⟨h3,g3⟩:=HA2.out.1.births i (wrap64 (bb2+1))
 exact ⟨rfl,h3,(HA2.out.2.mono (fun k _ e=>.inr e)).trans (g3.mono (fun k _ e=>.inl e))⟩
theorem DK.crash (h:DK B w sec T x c) (hc:∀ y,c.fw y=none) (hT:T < maxLen) (kv:Value) :
  Calls Tryz.prog 103 #[.pointer (some ⟨x.d,0,none⟩),kv] w fun e w'=>e=.returned (.tuple #[])/\DK B w' sec T x c/\Gs x.own w w':=by
 obtain ⟨nl,nw,h1,h2⟩:=h
 have e:c.fw=fun _=>none:=funext hc
 rw [e] at h2
 refine (crash_ok h2 (by omega) kv).mono ?_
 rintro e1 w1 ⟨rfl,h3,h4⟩
 exact ⟨rfl,⟨nl+nw,0,h1,by rw [e];exact h3⟩,h4.mono (fun k _ e=>.inr e)⟩
theorem setC_same (C:Nat->Dc) (i:Nat):setC C i (C i)=C:=by
 funext j
 unfold setC
 by_cases h:j=i
 ·rw [if_pos h,h]
 ·rw [if_neg h]
theorem Ar.again (h:Ar B w a mb sec n T D C):Ar B ((w.setCell ⟨a,1,none⟩ (.int .i64 (-1))).setCell ⟨a,2,none⟩ (.bool false)) a mb sec n T D C/\Gs (fun k=>k=a) w ((w.setCell ⟨a,1,none⟩ (.int .i64 (-1))).setCell ⟨a,2,none⟩ (.bool false)):=by
 obtain ⟨cc,hcc,hca⟩:=h.cellA
 obtain ⟨cs,hcs,hcm⟩:=h.cellM
 have nf:¬ Fz w a:=by
  rintro ⟨cells,t,h1,h2⟩
  rw [hca] at h1
  injection h1 with h1
  injection h1 with _ h1
  exact h2 (by rw [<- h1];decide)
 have hg:Gs (fun k=>k=a) w ((w.setCell ⟨a,1,none⟩ (.int .i64 (-1))).setCell ⟨a,2,none⟩ (.bool false)):=(Gs.of_grown (grown_setCell w a 1 _) (fun k hk _=>by cases hk;rfl)).step (grown_setCell _ a 2 _) (fun j hj=>by cases hj;exact .inr rfl)
 have fr:Fr B w _:=hg.fr (fun k hk e=>by rw [e];exact ⟨h.geA,nf⟩)
 have hne:mb≠a:=by
  rintro rfl
  rw [hca] at hcs
  injection hcs with hcs
  injection hcs with _ hcs
  cases hcs
 refine ⟨⟨h.geA,h.geM,⟨cc,hcc,by simp [World.setCell,Array.getElem?_modify,hca]⟩,⟨cs,(hg.block mb (Array.getElem?_eq_some_iff.1 hcs).1 hne).trans hcs,hcm⟩,fun j hj=>(h.dk j hj).keep fr (fun k hk=>hg.block k ((h.dk j hj).lt hk) (fun e=>?_)),h.apart⟩,hg⟩
 exact (h.dk j hj).not_cells hca (by decide) (e ▸ hk)
set_option maxHeartbeats 4000000 in
theorem restart_ok (h:Ar B w a mb sec n T D C) (hw:∀ i,i < n->∀ y,(C i).fw y=none) (hT:T < maxLen) (hn:n<=100) :
  Calls Tryz.prog 68 #[.pointer (some ⟨a,0,none⟩),.slice none 0 0] w fun e w'=>e=.returned (.tuple #[])/\Ar B w' a mb sec n T D C/\Gs (fun k=>k=a∨Ds n D k) w w':=by
 obtain ⟨cc,hcc,c0,c1,c2⟩:=h.cells
 have H:=Aside0.mk h
 have HW:=Aside0.mk hw
 have HT:=Aside0.mk (And.intro hT hn)
 clear h hT hw hn
 go_enter Tryz.func68,Tryz.ntmps68
 go_wp2
 go_loopg [14] n (fun kq p wr=>∃ i:Nat,p=.int .i64 i/\i+kq=n/\Aside0 (Ar B wr a mb sec n T D C)/\Aside0 (Gs (Ds n D) w wr))
 case atStart =>
  exact ⟨0,rfl,by omega,H,⟨Gs.refl _ _⟩⟩
 case round =>
  obtain ⟨i,rfl,hk,HA,HG⟩:=hrel
  by_cases hi:i < n
  ·have g1:(i:Int) < (n:Int):=by omega
   have g0:(0:Int)<=i:=by omega
   have g3:¬ (i:Int) < 0:=by omega
   obtain ⟨m0,bb,m1⟩:=HA.out.mem hi
   go_wp2_with (first|(go_at_call 103;refine (((HA.out.below (below_alloc (Below.refl _ _) _)).dk i hi).crash (HW.out i hi) HT.out.1 _).mono ?_;rintro e w2 ⟨rfl,hd2,hg2⟩;have ha2:=(HA.out.below (below_alloc (Below.refl _ _) _)).step hi hg2 (Nat.le_refl T) hd2;have HA2:=Aside0.mk ha2;have HG2:=Aside0.mk ((HG.out.trans (Gs.of_below (below_alloc (Below.refl _ _) _))).trans (hg2.mono (fun k hk e=>(⟨i,hi,e⟩:Ds n D k))));clear hd2 hg2 ha2))
   go_roundg (n - (i+1))
   case measure=>omega
   case rel =>
    have ha3:=HA2.out
    rw [setC_same] at ha3
    exact ⟨i+1,by simp [w64 _ (show -9223372036854775808<=(i:Int)+1/\(i:Int)+1<=9223372036854775807 from by have:=HT.out;omega)],by omega,⟨ha3⟩,HG2⟩
  ·have g1:¬ (i:Int) < (n:Int):=by omega
   obtain ⟨cc2,hcc2,c02,c12,c22⟩:=HA.out.cells
   have fa:∀ j,wr.frozen? ⟨a,j,none⟩=false:=fun j=>by
    obtain ⟨c3,_,h3⟩:=HA.out.cellA
    simp [World.frozen?,h3]
   have fa1:=fa 1
   have fa2:=fa 2
   clear fa
   go_wp2
   go_end0
   obtain ⟨h3,g3⟩:=HA.out.again
   exact ⟨rfl,h3,(HG.out.mono (fun k _ e=>.inr e)).trans (g3.mono (fun k _ e=>.inl e))⟩
end
end Go.Proofs.YtmmcbncpnlknbaaGreat.Top
