import Derived.Test.YtmmcbncpnlknbaaGreatF17
set_option linter.unusedVariables false
set_option linter.unusedSimpArgs false
namespace Go.Proofs.YtmmcbncpnlknbaaGreat.Top
open Go Go.RowKit Go.Proofs.YtmmcbncpnlknbaaGreatW.PrintWords Go.Proofs.YtmmcbncpnlknbaaGreatW.PrintLast Go.Proofs.YtmmcbncpnlknbaaGreatW.PrintMore
attribute [local irreducible] mulRows PAll.poly_sum.f PAll.poly_Norm.f PAll.poly_Deriv.f
def Right (k m N L:Nat) (has:List Bool) (shs:List (List Int)) (X:Nat->List Int):Prop :=
 ∀ n,n < L->∃ loc s g p high p2 o full slope e,WordF k m ((List.range N).map (wdF has shs n)) ((List.range N).map (msF has)) loc s g p high p2 o full slope e/\X n=outs k m (out0 ((List.range N).map (wdF has shs n)) ((List.range N).map (msF has)) (k+m) (k+m)) full o slope (k+m)
theorem hds (w:World) (n:Nat):(w.drewN n).heap.size=w.heap.size:=rfl
def colR (X:Nat->List Int) (n:Nat) (i:Nat):List Int:=(List.range n).map (fun (a:Nat)=>rd (X a) (i:Int))
theorem colR_succ (X:Nat->List Int) (n i:Nat):colR X n i ++ [rd (X n) (i:Int)]=colR X (n+1) i:=by unfold colR;rw [List.range_succ,List.map_append];rfl
theorem colR_len (X:Nat->List Int) (n i:Nat):(colR X n i).length=n:=by simp [colR]
set_option maxRecDepth 100000 in
set_option maxHeartbeats 1000000 in
theorem shards_ok {w:World} {f k m N L:Nat} (hf:Fd w f) {vh vs:Value} {has:List Bool} {shs:List (List Int)} (hh:Bo w vh has) (hs:Rs w vs shs) (hl:has.length=N/\shs.length=N/\k+m=N/\N<=7) (hk:1<=k) (hL:L < 10000)
  (hin:∀ i,rb has i=true->(shs.getD i []).length=L) (hany:anyB has N=true) (X:Nat->List Int) (HX:Right k m N L has shs X) :
  Calls Tryz.prog 152 #[.pointer (some ⟨f,0,none⟩),.int .i64 k,.int .i64 m,vh,vs] w fun e w'=>∃ g c,e=.returned (.tuple #[.slice (some ⟨g,0,none⟩) N c,.slice none 0 0,.int .i64 0])/\Rs w' (.slice (some ⟨g,0,none⟩) N c) ((List.range N).map (colR X L))/\Below w.heap.size w w':=by
 have H:=Aside0.mk hf
 have hh':=hh
 have hs':=hs
 obtain ⟨Ah,ch,rfl,hch,hCh⟩:=hh'
 obtain ⟨As,cs,rfl,hcs,hCs⟩:=hs'
 have e1:=hl.1
 have e2:=hl.2.1
 rw [e1] at hh ⊢
 rw [e2] at hs ⊢
 clear hch hCh hcs hCs e1 e2
 have HH:=Aside0.mk (And.intro hh hs)
 have HL:=Aside0.mk (And.intro hl (And.intro hk (And.intro hL (And.intro hin (And.intro hany HX)))))
 have gN:wrap64 ((k:Int)+m)=(N:Int):=by rw [w64 _ (by omega)];omega
 have hm1:=mk_run125 N (by omega)
 have hm2:=mk_run120 N (by omega)
 have hsz:szv has L (k+m)=(L:Int):=by rw [hl.2.2.1,szv,if_pos hany]
 have HSZ:=Aside0.mk hsz
 have g1:¬ ((L:Int) < 0):=by omega
 have hsb:∀ W:World,Below w.heap.size w W->Calls Tryz.prog 176 #[.int .i64 k,.int .i64 m,.slice Ah N ch,.slice As N cs] W fun e w'=>e=.returned (.int .i64 L)/\w'=W:=fun W hW=>by
  have h:=size_ok W k m L has shs _ _ (hh.below hW) (hs.below hW) (by omega) (by omega) hin (by omega)
  rw [hsz] at h
  exact h
 have HSB:=Aside0.mk hsb
 clear hf hh hs hl hk hL hin hany HX hsz hsb
 go_enter Tryz.func152,Tryz.ntmps152
 go_wp2
 go_step3
 go_wp2_with (first|(go_at_call 25;go_loud (refine (ccheck_ok _ k m HL.out.2.1 (by have:=HL.out.1;omega)).mono ?_;rintro e w1 ⟨rfl,nd,rfl⟩))|(go_at_call 176;refine (HSB.out _ ?qb).mono ?_;(case qb=>(repeat (first|(with_reducible first|exact Below.refl _ _|apply below_alloc|apply pw_below_drewN|apply below_drew1)|exact Below.refl _ _)));rintro e w2 ⟨rfl,rfl⟩))
 go_step3
 go_wp2
 simp only [gN]
 go_loopg [19,46] L (fun kq x y wr=>∃ n:Nat,x=.int .i64 0/\y=.int .i64 n/\n+kq=L/\Aside0 (Cs w.heap.size wr f k m N (w.heap.size+1) (w.heap.size+1+1) (w.heap.size+1+1+1) (w.heap.size+1+1+1+1+1+1+1+1+1) (w.heap.size+1+1+1+1) (w.heap.size) (w.heap.size+1+1+1+1+1+1) (w.heap.size+1+1+1+1+1+1+1) (w.heap.size+1+1+1+1+1+1+1+1) (w.heap.size+1+1+1+1+1) (.slice Ah N ch) (.slice As N cs))/\Aside0 (∃ ow ml,Rwo wr w.heap.size (w.heap.size+1+1+1+1+1) N ow (colR X n)/\Kd.R Kd.bool 4 wr w.heap.size (fun k=>k=w.heap.size+1+1+1+1+1+1+1+1) (.slice (some ⟨w.heap.size+1+1+1+1+1+1+1+1,0,none⟩) N N) ml)/\Aside0 (Below w.heap.size w wr))
 case atStart =>
  refine ⟨0,rfl,rfl,by omega,⟨⟨(by simp only [hal,hsz,hdr,hds];repeat (first|rw [if_pos trivial]|rw [if_pos (by omega)]|rw [if_neg (by omega)])),(by simp only [hal,hsz,hdr,hds];repeat (first|rw [if_pos trivial]|rw [if_pos (by omega)]|rw [if_neg (by omega)])),(by simp only [hal,hsz,hdr,hds];repeat (first|rw [if_pos trivial]|rw [if_pos (by omega)]|rw [if_neg (by omega)])),(by simp only [hal,hsz,hdr,hds];repeat (first|rw [if_pos trivial]|rw [if_pos (by omega)]|rw [if_neg (by omega)])),(by simp only [hal,hsz,hdr,hds];repeat (first|rw [if_pos trivial]|rw [if_pos (by omega)]|rw [if_neg (by omega)])),(by simp only [hal,hsz,hdr,hds];repeat (first|rw [if_pos trivial]|rw [if_pos (by omega)]|rw [if_neg (by omega)])),(by simp only [hal,hsz,hdr,hds];repeat (first|rw [if_pos trivial]|rw [if_pos (by omega)]|rw [if_neg (by omega)])),(by simp only [hal,hsz,hdr,hds];repeat (first|rw [if_pos trivial]|rw [if_pos (by omega)]|rw [if_neg (by omega)])),by omega⟩⟩,⟨⟨fun _=>N,List.replicate N false,⟨fun _=>.slice none 0 0,?_,fun i hi=>Kd.R_nil _ _ _ _ _⟩,?_⟩⟩,⟨?_⟩⟩
  ·rw [<- made_nil]
   exact (by simp only [hal,hsz,hdr,hds];repeat (first|rw [if_pos trivial]|rw [if_pos (by omega)]|rw [if_neg (by omega)]))
  ·refine Kd.R_alloc (Kd.R_of_own (h1:=fun _=>rfl) ?_ (fun k hk=>?_)) _
   ·have h:=own_made_of (enc:=Value.bool) (d:=false) ((((((((((w.alloc (Obj.cells #[Value.pointer (some ⟨f,0,none⟩)] 57)).alloc (Obj.cells #[Value.int IntKind.i64 k] 3)).alloc (Obj.cells #[Value.int IntKind.i64 m] 3)).alloc (Obj.cells #[Value.slice Ah N ch] 120)).alloc (Obj.cells #[Value.slice As N cs] 125)).drewN nd).alloc (Obj.cells (madeCells #[Value.slice none 0 0] N) 36)).alloc (Obj.cells #[Value.slice (some ⟨w.heap.size+1+1+1+1+1,0,none⟩) N N] 125)).alloc (Obj.cells #[Value.slice none 0 0] 98))) w.heap.size 4 N (by simp;omega) (by have:=HL.out.1;omega)
    simp only [hsz,hds] at h
    rw [List.length_replicate]
    exact h
   ·simp [Value.ownBlock] at hk
    omega
  ·repeat (first|(with_reducible first|exact Below.refl _ _|apply below_alloc|apply pw_below_drewN)|exact Below.refl _ _)
 case round =>
  obtain ⟨n,rfl,rfl,hn,HCs,HRo,HB⟩:=hrel
  obtain ⟨⟨ow,ml,hro,hml⟩⟩:=HRo
  by_cases hin:n < L
  ·have g2:(n:Int) < (L:Int):=by omega
   have gw':wrap64 ((n:Int)+1)=(n:Int)+1:=w64 _ (by have:=HL.out.2.2.1;omega)
   obtain ⟨loc,s,g,p,high,p2,o,full,slope,e,hF,hX⟩:=HL.out.2.2.2.2.2 n hin
   have hcall:=sh1_ok HCs.out hro hml rfl HB.out H.out HH.out.1 HH.out.2 HL.out.1 n (by have:=HL.out.2.2.1;omega) (fun i _ hr=>by rw [HL.out.2.2.2.1 i hr];exact hin) hF (X n) hX (fun i=>by rw [colR_len];have:=HL.out.2.2.1;omega)
   have HC:=Aside0.mk hcall
   clear hro hml hF hX hcall
   go_wp2_with (first|(go_at_call 177;go_loud (refine HC.out.mono ?_;rintro e1 w5 ⟨rfl,hcs,hro,hml,hb⟩;have H5:=Aside0.mk (And.intro hcs (And.intro hro (And.intro hml hb)));clear hcs hro hml hb)))
   go_roundg (L - (n+1))
   case measure=>omega
   case rel =>
    obtain ⟨ow',hro⟩:=H5.out.2.1
    exact ⟨n+1,rfl,by simp [gw'],by omega,⟨H5.out.1⟩,⟨⟨ow',_,hro.congr (fun i _=>colR_succ X n i),H5.out.2.2.1⟩⟩,⟨HB.out.trans H5.out.2.2.2⟩⟩
  ·have g2:¬ (n:Int) < (L:Int):=by omega
   have e1:n=L:=by omega
   subst e1
   have c1:=cellb HCs.out.cw
   have c2:=cellb HCs.out.co
   have hs0:=fun q=>compact0 (wr.drewN q)
   go_wp2_with (first|(go_at_call 179;go_loud (refine (sort0 wr).mono ?_;rintro e1 w5 ⟨rfl,hd⟩;have HD:=Aside0.mk hd.below;have c1:=cell_of hd.below c1;have c2:=cell_of hd.below c2;clear hd)))
   have HS:=Aside0.mk (fun q=>compact0 (w5.drewN q))
   go_quiet (go_loud (go_at_call 180;exact quiet_drawn HS.out))
   go_wp2
   rw [Exit.noGoto_ret]
   go_ret3
   have hb:=below_step HD.out (pw_below_drewN (Below.refl w5.heap.size w5) nq)
   exact ⟨_,_,rfl,(Rwo.rs (hro.below hb) (by have:=HL.out.1;omega)),HB.out.trans (hb.mono HB.out.size)⟩
end Go.Proofs.YtmmcbncpnlknbaaGreat.Top
namespace Go.Proofs.YtmmcbncpnlknbaaGreat.Top
open Go Go.RowKit Go.Proofs.YtmmcbncpnlknbaaGreatW.PrintWords Go.Proofs.YtmmcbncpnlknbaaGreatW.PrintLast Go.Proofs.YtmmcbncpnlknbaaGreatW.PrintMore
theorem anyB_no {l:List Bool} (h:∀ i,rb l i=false):∀ i,anyB l i=false
 | 0=>rfl
 | i+1=>by rw [anyB,anyB_no h i,h i];rfl
set_option maxRecDepth 100000 in
set_option maxHeartbeats 1000000 in
theorem shards_none {w:World} {f k m N:Nat} (hf:Fd w f) {vh vs:Value} {has:List Bool} {shs:List (List Int)} (hh:Bo w vh has) (hs:Rs w vs shs) (hl:has.length=N/\shs.length=N/\k+m=N/\N<=7) (hk:1<=k)
  (hno:∀ i,rb has i=false) :
  Calls Tryz.prog 152 #[.pointer (some ⟨f,0,none⟩),.int .i64 k,.int .i64 m,vh,vs] w fun e w'=>e=.returned (.tuple #[.slice none 0 0,.slice none 0 0,.int .i64 60])/\Below w.heap.size w w':=by
 have H:=Aside0.mk hf
 have hh':=hh
 have hs':=hs
 obtain ⟨Ah,ch,rfl,hch,hCh⟩:=hh'
 obtain ⟨As,cs,rfl,hcs,hCs⟩:=hs'
 have e1:=hl.1
 have e2:=hl.2.1
 rw [e1] at hh ⊢
 rw [e2] at hs ⊢
 clear hch hCh hcs hCs e1 e2
 have HL:=Aside0.mk (And.intro hl hk)
 have hsz:szv has 0 (k+m)=-1:=by rw [szv,anyB_no hno];rfl
 have hsb:∀ W:World,Below w.heap.size w W->Calls Tryz.prog 176 #[.int .i64 k,.int .i64 m,.slice Ah N ch,.slice As N cs] W fun e w'=>e=.returned (.int .i64 (-1))/\w'=W:=fun W hW=>by
  have h:=size_ok W k m 0 has shs _ _ (hh.below hW) (hs.below hW) (by omega) (by omega) (fun i hi=>by rw [hno i] at hi;cases hi) (by omega)
  rw [hsz] at h
  exact h
 have HSB:=Aside0.mk hsb
 clear hf hh hs hl hk hno hsz hsb
 go_enter Tryz.func152,Tryz.ntmps152
 go_wp2
 go_step3
 go_wp2_with (first|(go_at_call 25;go_loud (refine (ccheck_ok _ k m HL.out.2 (by have:=HL.out.1;omega)).mono ?_;rintro e w1 ⟨rfl,nd,rfl⟩))|(go_at_call 176;refine (HSB.out _ ?qb).mono ?_;(case qb=>(repeat (first|(with_reducible first|exact Below.refl _ _|apply below_alloc|apply pw_below_drewN|apply below_drew1)|exact Below.refl _ _)));rintro e w2 ⟨rfl,rfl⟩))
 rw [Exit.noGoto_ret]
 go_ret3
 refine ⟨rfl,?_⟩
 repeat (first|(with_reducible first|exact Below.refl _ _|apply below_alloc|apply pw_below_drewN)|exact Below.refl _ _)
def encH (p:Option Addr×Nat×Nat):Value:=.slice p.1 p.2.1 p.2.2
def hdK:Kd (Option Addr×Nat×Nat):=Kd.scalar encH (fun _=>rfl)
def hd0:Option Addr×Nat×Nat:=(none,0,0)
structure Rh (w:World) (base:Nat) (v:Value) (hd:List (Option Addr×Nat×Nat)) (ow:Nat->Nat) (rows:Nat->List Int):Prop where
 out:Kd.R hdK 36 w base (fun _=>True) v hd
 row:∀ i,i < hd.length->Kd.R (Kd.int .u8) 5 w base (fun k=>ow k=i) (encH (hd.getD i hd0)) (rows i)
section
variable {w W w1:World} {base N:Nat} {v v1:Value} {hd:List (Option Addr×Nat×Nat)} {ow:Nat->Nat} {rows rows':Nat->List Int}
theorem Rh.below (h:Rh w base v hd ow rows) (hb:Below w.heap.size w W):Rh W base v hd ow rows:=⟨Kd.R_below h.out hb,fun i hi=>Kd.R_below (h.row i hi) hb⟩
theorem Rh.congr (h:Rh w base v hd ow rows) (he:∀ i,i < hd.length->rows i=rows' i):Rh w base v hd ow rows':=⟨h.out,fun i hi=>by rw [<- he i hi];exact h.row i hi⟩
theorem Rh.lower (h:Rh w base v hd ow rows) {b:Nat} (hb:b<=base):Rh w b v hd ow rows:=⟨Kd.R_lower h.out hb,fun i hi=>Kd.R_lower (h.row i hi) hb⟩
theorem Rh.fresh (h:Rh w base v hd ow rows) (N:Nat):Rh w base v hd (owN ow w.heap.size N) rows:=⟨h.out,fun i hi=>Kd.R_mono (Kd.R_bound (h.row i hi)) (fun k hk=>by
 show owN ow w.heap.size N k=i
 rw [owN,if_pos hk.2.2.1]
 exact hk.1)⟩
theorem Rh.head {g c:Nat} (h:Rh w base (.slice (some ⟨g,0,none⟩) hd.length c) hd ow rows) {i:Nat} (hi:i < hd.length) {p:Option Addr×Nat×Nat} {l:List Int} (hr:Kd.R (Kd.int .u8) 5 w base (fun k=>ow k=i) (encH p) l) :
  Rh (w.setCell ⟨g,i,none⟩ (encH p)) base (.slice (some ⟨g,0,none⟩) hd.length c) (hd.set i p) ow (updF rows i l):=by
 obtain ⟨cg,hcg⟩:=Kd.R_typed h.out g rfl
 have h1:=(Kd.R_putg h.out (i:Int) p).1
 rw [Int.toNat_natCast] at h1
 refine ⟨h1,fun j hj=>?_⟩
 have hset:∀ {ok:Nat->Prop} {u:Value} {x:List Int},Kd.R (Kd.int .u8) 5 w base ok u x->Kd.R (Kd.int .u8) 5 (w.setCell ⟨g,i,none⟩ (encH p)) base ok u x:=fun hx=>Kd.R_set hx hcg (by decide) i _
 by_cases hji:j=i
 ·subst hji
  simp only [updF,if_pos rfl]
  rw [show (hd.set j p).getD j hd0=p from by simp [List.getD,hi]]
  exact hset hr
 ·simp only [updF,if_neg hji]
  rw [show (hd.set i p).getD j hd0=hd.getD j hd0 from by simp [List.getD,List.getElem?_set_ne (Ne.symm hji)]]
  rw [List.length_set] at hj
  exact hset (h.row j hj)
theorem Rh.poke (h:Rh w base v hd ow rows) {i g n c:Nat} (hi:i < hd.length) (he:hd.getD i hd0=(some ⟨g,0,none⟩,n,c)) (a:Nat) (x:Int) :
  Rh (w.setCell ⟨g,a,none⟩ (.int .u8 x)) base v hd ow (updF rows i ((rows i).set a x)):=by
 have hr:=h.row i hi
 rw [he] at hr
 obtain ⟨cg,hcg⟩:=Kd.R_typed hr g rfl
 have hog:ow g=i:=hr.1 g rfl
 have h1:=(Kd.R_putg hr (a:Int) x).1
 rw [Int.toNat_natCast] at h1
 refine ⟨Kd.R_set h.out hcg (by decide) a _,fun j hj=>?_⟩
 by_cases hji:j=i
 ·subst hji
  simp only [updF,if_pos rfl]
  rw [he]
  exact h1
 ·simp only [updF,if_neg hji]
  exact Kd.R_far (p:=⟨g,a,none⟩) (h.row j hj) (fun k hk e=>by
   have e:k=g:=e
   rw [e,hog] at hk
   exact hji hk.symm) _
end
def ownF (D:List (List Int)) (i:Nat):Nat->List Int:=fun a=>if a < i then D.getD a [] else []
theorem ownF_upd (D:List (List Int)) (i:Nat):updF (ownF D i) i (D.getD i [])=ownF D (i+1):=by
 funext a
 unfold updF ownF
 by_cases h:a=i
 ·subst h;simp
 ·rw [if_neg h]
  by_cases h2:a < i
  ·rw [if_pos h2,if_pos (by omega)]
  ·rw [if_neg h2,if_neg (by omega)]
def OwnP (w w':World) (u:Value) (D:List (List Int)):Prop:=∃ g c hd ow,u=.slice (some ⟨g,0,none⟩) D.length c/\hd.length=D.length/\Rh w' w.heap.size (.slice (some ⟨g,0,none⟩) D.length c) hd ow (fun i=>D.getD i [])/\Below w.heap.size w w'
set_option maxRecDepth 100000 in
set_option maxHeartbeats 1000000 in
theorem own_ok (w:World) (v:Value) (D:List (List Int)) (hv:Rs w v D) (hN:1<=D.length/\D.length<=100) (hD:∀ i,(D.getD i []).length<=10000) :
  Calls Tryz.prog 146 #[v] w fun e w'=>∃ u,e=.returned u/\OwnP w w' u D:=by
 obtain ⟨A,cc,rfl,hcc,hC⟩:=hv
 obtain ⟨N,hNe⟩:∃ N,D.length=N:=⟨_,rfl⟩
 have HC:=Aside0.mk (And.intro hC (And.intro hN (And.intro hD hNe)))
 rw [hNe] at hN ⊢
 have HN:=Aside0.mk hN
 clear hcc hC hD hNe
 go_enter Tryz.func146,Tryz.ntmps146
 go_wp2_with (first|((with_reducible refine gate_dst (N:=8) rfl ?_);go_loud (refine Kd.R_make hdK (w0:=w) w.heap.size 36 rfl (N:=8) rfl 125 _ _ rfl (N:Int) rfl rfl Tryz.underlying125 (.slice none 0 0) 24 info36' rfl (by decide) (by decide) hd0 (ok:=fun _=>True) (okp:=fun _=>True) rfl (fun _ hk=>hk) trivial (by omega) (by have:=HN.out;omega) (Below.refl _ _) (Nat.le_refl _) ?_;intro v4 w4 ho4 hb4 hg4 hnew4;rw [Int.toNat_natCast] at ho4;have HO4:=Aside0.mk ho4;have HB4:=Aside0.mk hb4;clear ho4 hb4 hg4 hnew4)))
 obtain ⟨g,c,e4,gb,gl,cl,hcl⟩:=Kd.R_form HO4.out (by simp;have:=HN.out;omega)
 subst e4
 rw [List.length_replicate] at *
 have HG:=Aside0.mk (And.intro gb gl)
 clear gb gl hcl cl
 go_loopg [11] N (fun kq x wr=>∃ i:Nat,x=.int .i64 i/\i+kq=N/\Aside0 (∃ hd ow,hd.length=N/\Rh wr w.heap.size (.slice (some ⟨g,0,none⟩) N c) hd ow (ownF D i))/\Aside0 (Below w.heap.size w wr))
 case atStart =>
  refine ⟨0,rfl,by omega,⟨⟨List.replicate N hd0,fun _=>0,by simp,HO4.out,fun i hi=>?_⟩⟩,HB4⟩
  rw [show (List.replicate N hd0).getD i hd0=hd0 from by rw [List.getD_eq_getElem?_getD,List.getElem?_replicate];split <;> rfl]
  exact Kd.R_nil _ _ _ _ _
 case round =>
  obtain ⟨i,rfl,hi,⟨hd,ow,hhl,hR⟩,HB⟩:=hrel
  by_cases hin:i < N
  ·have g1:(i:Int) < (N:Int):=by omega
   have g0:(0:Int)<=i:=by omega
   have gw':wrap64 ((i:Int)+1)=(i:Int)+1:=w64 _ (by have:=HN.out;omega)
   obtain ⟨ad,v2,ea,hx1,hb1⟩:=Rs.at HC.out.1 i (by have:=HC.out.2.2.2;omega)
   subst ea
   replace hx1:=cell_of HB.out hx1
   have hb2:=hb1.below HB.out
   obtain ⟨A2,c2,rfl,hc2,hC2⟩:=hb1
   have hcl:=Bs.clone hb2 (HC.out.2.2.1 i)
   have hR0:=hR
   rw [<- hhl] at hR0
   have HX:=Aside0.mk (And.intro hcl (And.intro hhl hR0))
   clear hc2 hC2 hb2 hcl hR hR0
   go_wp2_with (first|(go_at_call 171;go_loud (refine HX.out.1.mono ?_;rintro e1 w3 ⟨x3,rfl,hr3,hb3⟩;obtain ⟨A3,c3,rfl⟩:=Kd.R_slice hr3;have hR3:=(HX.out.2.2.fresh i).below hb3;have hcell:=Kd.R_celln hd0 hR3.out (i:Int) g0 (by rw [HX.out.2.1];exact g1);rw [Int.toNat_natCast] at hcell;obtain ⟨xo,fo⟩:=hcell;have hhead:=hR3.head (i:=i) (p:=(A3,(D.getD i []).length,c3)) (by rw [HX.out.2.1];exact hin) (Kd.R_mono (Kd.R_lower (Kd.R_bound hr3) HB.out.size) (ok':=fun k=>owN ow wr.heap.size i k=i) (fun k hk=>by show owN ow wr.heap.size i k=i;rw [owN,if_neg (by omega)]));rw [ownF_upd,HX.out.2.1] at hhead;have H3:=Aside0.mk (And.intro hhead hb3);clear hr3 hb3 hR3 hhead)))
   go_roundg (N - (i+1))
   case measure=>omega
   case rel =>
    exact ⟨i+1,by simp [gw'],by omega,⟨⟨_,_,by rw [List.length_set];exact HX.out.2.1,H3.out.1⟩⟩,⟨below_set (below_step HB.out H3.out.2) HG.out.1⟩⟩
  ·have g1:¬ (i:Int) < (N:Int):=by omega
   have e:i=N:=by omega
   subst e
   go_wp2
   go_ret
   refine ⟨_,rfl,g,c,hd,ow,by rw [HC.out.2.2.2];rfl,by rw [HC.out.2.2.2];exact hhl,?_,HB.out⟩
   rw [HC.out.2.2.2]
   exact hR.congr (fun a ha=>by rw [hhl] at ha;simp [ownF,ha])
set_option maxRecDepth 100000 in
set_option maxHeartbeats 2000000 in
theorem checked_ok {w:World} {f:Nat} (h:Fd w f) (k m L:Nat) (hk:1<=k) (hkm:k+m<=7) (v:Value) (D:List (List Int)) (hv:Rs w v D) (hN:D.length=k) (hD:∀ i,i < k->(D.getD i []).length=L) :
  Calls Tryz.prog 145 #[.pointer (some ⟨f,0,none⟩),.int .i64 k,.int .i64 m,.int .i64 k,v] w fun e w'=>∃ A c,e=.returned (.tuple #[.agg #[.int .i64 m,.int .i64 k,.slice A (parL k m).length c],.int .i64 0])/\Kd.R (Kd.int .u8) 5 w' w.heap.size (fun _=>True) (.slice A (parL k m).length c) (parL k m)/\Below w.heap.size w w':=by
 obtain ⟨A,cc,rfl,hcc,hC⟩:=hv
 rw [hN] at hC hcc ⊢
 have H:=Aside0.mk h
 have HK:=Aside0.mk (And.intro hk hkm)
 have HC:=Aside0.mk (And.intro hC (And.intro hN hD))
 clear h hcc hC hN hD hk hkm
 have hz0:=heap_alloc_new w (.cells #[.int .i64 0,.int .i64 0,.slice none 0 0] 241)
 have hb0:Below w.heap.size w (w.alloc (.cells #[.int .i64 0,.int .i64 0,.slice none 0 0] 241)):=below_alloc (Below.refl _ _) _
 obtain ⟨W,hW⟩:∃ W,w.alloc (.cells #[.int .i64 0,.int .i64 0,.slice none 0 0] 241)=W:=⟨_,rfl⟩
 rw [hW] at hz0 hb0
 have HW:=Aside0.mk (And.intro hW (And.intro hz0 hb0))
 clear hz0 hb0 hW
 go_enter Tryz.func145,Tryz.ntmps145
 go_wp2
 go_step3
 rw [HW.out.1]
 go_wp2_with (first|(go_at_call 170;go_loud (refine (parity_ok (H.out.below HW.out.2.2) k m HK.out.1 HK.out.2).mono ?_;rintro e1 w1 ⟨v1,rfl,hr1,hb1⟩;obtain ⟨A1,c1,rfl⟩:=Kd.R_slice hr1;have H1:=Aside0.mk (And.intro hr1 hb1);clear hr1 hb1)))
 go_step3
 go_wp2
 have hb2:Below w.heap.size w (w1.alloc (Obj.cells #[Value.int IntKind.i64 ↑m,Value.int IntKind.i64 ↑k,Value.slice A1 (parL k m).length c1] 241)):=below_step HW.out.2.2 (below_step H1.out.2 (below_alloc (Below.refl _ _) _))
 have hr2:=Kd.R_alloc H1.out.1 (.cells #[Value.int IntKind.i64 ↑m,Value.int IntKind.i64 ↑k,Value.slice A1 (parL k m).length c1] 241)
 have he2:=heap_alloc_new w1 (.cells #[Value.int IntKind.i64 ↑m,Value.int IntKind.i64 ↑k,Value.slice A1 (parL k m).length c1] 241)
 have hz2:=((below_step H1.out.2 (below_alloc (Below.refl _ _) (.cells #[Value.int IntKind.i64 ↑m,Value.int IntKind.i64 ↑k,Value.slice A1 (parL k m).length c1] 241))).block w.heap.size (blk_lt HW.out.2.1)).trans HW.out.2.1
 obtain ⟨W2,hW2⟩:∃ W2,w1.alloc (.cells #[Value.int IntKind.i64 ↑m,Value.int IntKind.i64 ↑k,Value.slice A1 (parL k m).length c1] 241)=W2:=⟨_,rfl⟩
 rw [hW2] at hb2 hr2 he2 hz2 ⊢
 have H2:=Aside0.mk (And.intro hb2 (And.intro hr2 (And.intro he2 hz2)))
 have hlt:w.heap.size < w1.heap.size:=by have:=blk_lt HW.out.2.1;have:=H1.out.2.size;omega
 clear hb2 hr2 he2 hz2 hW2
 go_loopg [14,34] k (fun kq x y wr=>∃ i:Nat,x=.bool false/\y=.int .i64 i/\i+kq=k/\wr=W2)
 case atStart=>exact ⟨0,rfl,rfl,by omega,rfl⟩
 case round =>
  obtain ⟨i,rfl,rfl,hi,rfl⟩:=hrel
  by_cases hin:i < k
  ·have g1:(i:Int) < (k:Int):=by omega
   have g0:(0:Int)<=i:=by omega
   have gk:(0:Int) < (k:Int):=by omega
   have gw':wrap64 ((i:Int)+1)=(i:Int)+1:=w64 _ (by have:=HK.out;omega)
   obtain ⟨ad,v2,ea,hx1,hb1⟩:=Rs.at (by rw [HC.out.2.1];exact HC.out.1) i (by have:=HC.out.2.1;omega)
   subst ea
   obtain ⟨ad',v3,ea',hx3,hb3⟩:=Rs.at (by rw [HC.out.2.1];exact HC.out.1) 0 (by have:=HC.out.2.1;omega)
   injection ea' with ea'
   subst ea'
   obtain ⟨A2,c2,rfl,_,_⟩:=hb1
   obtain ⟨A3,c3,rfl,_,_⟩:=hb3
   rw [HC.out.2.2 i hin] at hx1
   rw [HC.out.2.2 0 (by omega)] at hx3
   replace hx1:=cell_of H2.out.1 hx1
   replace hx3:=cell_of H2.out.1 hx3
   have hx4:wr.cell? ad=some (.slice A3 L c3):=by simpa [Addr.add] using hx3
   go_wp2
   go_roundg (k - (i+1))
   case measure=>omega
   case rel=>exact ⟨i+1,rfl,by simp [gw'],by omega,rfl⟩
  ·have g1:¬ (i:Int) < (k:Int):=by omega
   have e:i=k:=by omega
   subst e
   obtain ⟨x0,x1,x2⟩:wr.cell? ⟨w1.heap.size,0,none⟩=some (.int .i64 m)/\wr.cell? ⟨w1.heap.size,1,none⟩=some (.int .i64 i)/\wr.cell? ⟨w1.heap.size,2,none⟩=some (.slice A1 (parL i m).length c1):=by simp [World.cell?,H2.out.2.2.1]
   obtain ⟨y0,y1,y2⟩:wr.cell? ⟨w.heap.size,0,none⟩=some (.int .i64 0)/\wr.cell? ⟨w.heap.size,1,none⟩=some (.int .i64 0)/\wr.cell? ⟨w.heap.size,2,none⟩=some (.slice none 0 0):=by simp [World.cell?,H2.out.2.2.2]
   have fz:∀ j,wr.frozen? ⟨w.heap.size,j,none⟩=false:=fun j=>by simp [World.frozen?,H2.out.2.2.2]
   have f0:=fz 0
   have f1:=fz 1
   have f2:=fz 2
   have e2:=setc (setc (setc H2.out.2.2.2 0 (.int .i64 m)) 1 (.int .i64 i)) 2 (.slice A1 (parL i m).length c1)
   have E2:=Aside0.mk e2
   clear fz e2
   go_wp2
   refine bodyPost_ret (results_cr rfl _ _ w.heap.size _ rfl (run_loadVar_row _ _ _ _ _ _ _ E2.out Tryz.underlying241 rfl (by kernel_rfl))) rfl ⟨A1,c1,rfl,?_,?_⟩
   ·exact Kd.R_lower (Kd.R_mono (Kd.R_far (Kd.R_far (Kd.R_far (Kd.R_types H2.out.2.1 H2.out.2.2.2 (by decide)) (p:=⟨w.heap.size,0,none⟩) (fun j hj=>hj.2) _) (p:=⟨w.heap.size,1,none⟩) (fun j hj=>hj.2) _) (p:=⟨w.heap.size,2,none⟩) (fun j hj=>hj.2) _) (fun _ _=>trivial)) HW.out.2.2.size
   ·exact ⟨H2.out.1.os,H2.out.1.tape,H2.out.1.output,by simp [World.setCell];exact H2.out.1.size,fun j hj=>(Below.heap_setCell _ _ _ j (by simp;omega)).trans ((Below.heap_setCell _ _ _ j (by simp;omega)).trans ((Below.heap_setCell _ _ _ j (by simp;omega)).trans (H2.out.1.block j hj)))⟩
theorem encH_mk (a:Option Addr) (n c:Nat):encH (a,n,c)=.slice a n c:=rfl
theorem Rh.hdf {w:World} {base:Nat} {v:Value} {hd:List (Option Addr×Nat×Nat)} {ow:Nat->Nat} {rows:Nat->List Int} (h:Rh w base v hd ow rows) {i:Nat} (hi:i < hd.length) (hl:0 < (rows i).length):∃ g c,hd.getD i hd0=(some ⟨g,0,none⟩,(rows i).length,c)/\ow g=i/\base<=g/\g < w.heap.size:=by
 have hr:=h.row i hi
 obtain ⟨g,c,e,gb,gl,_⟩:=Kd.R_form hr hl
 generalize hd.getD i hd0=q at *
 obtain ⟨a,n,cc⟩:=q
 injection e with e1 e2 e3
 subst e1
 subst e2
 subst e3
 exact ⟨g,cc,rfl,hr.1 g rfl,gb,gl⟩
theorem parL_at (k:Nat):∀ m r j,r < m->j < k->rd (parL k m) ((r*k+j:Nat):Int)=btw (k+r) j
 | 0,r,j,hr,_=>by omega
 | m+1,r,j,hr,hj=>by
  rw [parL_succ]
  by_cases h:r < m
  ·have ih:=parL_at k m r j h hj
   have hl:r*k+j < (parL k m).length:=by
    rw [parL_len]
    have:(r+1)*k<=m*k:=Nat.mul_le_mul_right _ h
    rw [Nat.add_mul] at this
    omega
   rw [<- ih]
   unfold rd
   rw [Int.toNat_natCast]
   simp only [List.getD]
   rw [List.getElem?_append_left hl]
  ·have e:r=m:=by omega
   subst e
   have hl:(parL k r).length<=r*k+j:=by rw [parL_len];omega
   unfold rd
   rw [Int.toNat_natCast]
   simp only [List.getD]
   rw [List.getElem?_append_right hl,parL_len]
   simp [hj]
def addF (j:Nat) (i:Nat) (s row:List Int) (n:Nat):Int:=bx (rd row (n:Int)) (gm (btw i j) (rd s (n:Int)))
def addA (k j L:Nat) (s:List Int) (rows:Nat->List Int) (r:Nat):Nat->List Int:=fun i=>if k<=i/\i < k+r then (List.range L).map (addF j i s (rows i)) else rows i
theorem addA_zero (k j L:Nat) (s:List Int) (rows:Nat->List Int):addA k j L s rows 0=rows:=by
 funext i
 unfold addA
 rw [if_neg (by omega)]
theorem addA_upd (k j L:Nat) (s:List Int) (rows:Nat->List Int) (r:Nat):updF (addA k j L s rows r) (k+r) ((List.range L).map (addF j (k+r) s (rows (k+r))))=addA k j L s rows (r+1):=by
 funext i
 unfold updF addA
 by_cases h:i=k+r
 ·subst h
  rw [if_pos rfl,if_pos (by omega)]
 ·rw [if_neg h]
  by_cases h2:k<=i/\i < k+r
  ·rw [if_pos h2,if_pos (by omega)]
  ·rw [if_neg h2,if_neg (by omega)]
theorem range_rd {l:List Int} {L:Nat} (h:l.length=L):(List.range L).map (fun (n:Nat)=>rd l (n:Int))=l:=by
 apply List.ext_getElem
 ·simp [h]
 ·intro i h1 h2
  simp [rd,List.getD,h2]
theorem updF_same (rows:Nat->List Int) (i:Nat) {l:List Int} (h:rows i=l):updF rows i l=rows:=by
 funext a
 unfold updF
 split
 ·next e=>rw [e,h]
 ·rfl
theorem updF_updF (rows:Nat->List Int) (i:Nat) (a b:List Int):updF (updF rows i a) i b=updF rows i b:=by
 funext x
 unfold updF
 split <;> rfl
structure Ad (w:World) (bp bq bf f k m:Nat) (P A1:Option Addr) (cp c1:Nat):Prop where
 cp:w.heap[bp]?=some (.cells #[.slice P m cp] 125 (0,0))
 cq:w.heap[bq]?=some (.cells #[.int .i64 m,.int .i64 k,.slice A1 (parL k m).length c1] 241 (0,0))
 cf:w.heap[bf]?=some (.cells #[.pointer (some ⟨f,0,none⟩)] 57 (0,0))
theorem Ad.step {w W:World} {bp bq bf f k m:Nat} {P A1:Option Addr} {cp c1:Nat} (h:Ad w bp bq bf f k m P A1 cp c1) (hk:Kt w W):Ad W bp bq bf f k m P A1 cp c1 :=
 ⟨(hk _ _ _ h.cp (by decide) (by decide) (by decide)).trans h.cp,(hk _ _ _ h.cq (by decide) (by decide) (by decide)).trans h.cq,(hk _ _ _ h.cf (by decide) (by decide) (by decide)).trans h.cf⟩
theorem meas {n L q:Nat} (h:n < L) (hn:n+q=L):L - (n+1) < q:=by omega
theorem meas2 {n L q:Nat} (h:n < L) (hn:n+q=L):n+1+(L - (n+1))=L:=by omega
theorem updF_at (rows:Nat->List Int) (i:Nat) (l:List Int):updF rows i l i=l:=by simp [updF]
theorem idx_facts {r m k j:Nat} (hr:r < m) (hj:j < k) (hkm:k+m<=7):r*k+j < m*k/\wrap64 ((r:Int)*k)=((r*k:Nat):Int)/\wrap64 (((r*k:Nat):Int)+j)=((r*k+j:Nat):Int):=by
 have h2:(r+1)*k<=m*k:=Nat.mul_le_mul_right _ hr
 rw [Nat.add_mul] at h2
 have h3:r*k<=7*7:=Nat.mul_le_mul (by omega) (by omega)
 refine ⟨by omega,?_,?_⟩
 ·rw [show (r:Int)*k=((r*k:Nat):Int) from (Int.natCast_mul r k).symm]
  generalize r*k=z at *
  exact w64 _ (by omega)
 ·generalize r*k=z at *
  rw [w64 _ (by omega)]
  omega
attribute [local go_sem] calloc_old cset_ne
set_option maxRecDepth 100000 in
set_option maxHeartbeats 300000 in
theorem adder1_ok {B:Nat} {w wb:World} {g c bp bq bf f k m L cp c1 j:Nat} {P A1:Option Addr} (hA:Ad w bp bq bf f k m P A1 cp c1) {hd:List (Option Addr×Nat×Nat)} {ow:Nat->Nat} {rows:Nat->List Int} (hR:Rh w B (.slice (some ⟨g,0,none⟩) (k+m) c) hd ow rows) (hhl:hd.length=k+m)
  (hP:0 < m->P=some ⟨g,k,none⟩) (hM:Bf (fun x=>k+m<=ow x) w (.slice A1 (parL k m).length c1) (parL k m)) (hB:wb.heap.size=B) (hwb:Below B wb w) (hf:Fd wb f) (v:Value) (s:List Int) (hs:Bs wb v s) (hsb:byteL s) (hl:s.length=L) (hL:1<=L/\L<=10000) (hk:1<=k/\k+m<=7) (hj:j < k) (hrl:∀ i,k<=i->i < k+m->(rows i).length=L) :
  Calls Tryz.prog 172 #[.int .i64 j,v,.pointer (some ⟨bp,0,none⟩),.pointer (some ⟨bq,0,none⟩),.pointer (some ⟨bf,0,none⟩)] w fun e w'=>e=.returned (.tuple #[])/\Kt w w'/\Rh w' B (.slice (some ⟨g,0,none⟩) (k+m) c) hd ow (addA k j L s rows m)/\Bf (fun x=>k+m<=ow x) w' (.slice A1 (parL k m).length c1) (parL k m)/\Below B w w':=by
 obtain ⟨As,cs,rfl,hcs,hCs⟩:=hs
 rw [hl] at hcs ⊢
 have HA:=Aside0.mk hA
 have HR:=Aside0.mk hR
 have HM:=Aside0.mk hM
 have HW:=Aside0.mk (And.intro hB (And.intro hwb (And.intro hf (And.intro hCs (And.intro hsb hl)))))
 have HL:=Aside0.mk (And.intro hL (And.intro hk (And.intro hj (And.intro hhl (And.intro hP hrl)))))
 have q1:=cellb hA.cp
 obtain ⟨PL,hPL⟩:∃ PL,(parL k m).length=PL:=⟨_,rfl⟩
 have HPL:=Aside0.mk hPL
 clear hA hR hM hB hwb hf hcs hCs hsb hl hL hk hj hhl hP hrl hPL
 go_enter Tryz.func172,Tryz.ntmps172
 go_wp2
 go_loopg [14] m (fun kq x wr=>∃ r:Nat,x=.int .i64 r/\r+kq=m/\Aside0 (Kt w wr/\Rh wr B (.slice (some ⟨g,0,none⟩) (k+m) c) hd ow (addA k j L s rows r)/\Bf (fun x=>k+m<=ow x) wr (.slice A1 (parL k m).length c1) (parL k m)/\Below B w wr))
 case atStart=>exact ⟨0,rfl,by omega,⟨Kt.refl _,by rw [addA_zero];exact HR.out,HM.out,Below.refl _ _⟩⟩
 case round =>
  obtain ⟨r,rfl,hr,HS⟩:=hrel
  by_cases hrm:r < m
  ·have g1:(r:Int) < (m:Int):=by omega
   have g0:(0:Int)<=r:=by omega
   have hP:=HL.out.2.2.2.2.1 (by omega)
   subst hP
   have h7:k+m<=7:=HL.out.2.1.2
   have hjk:j < k:=HL.out.2.2.1
   have gw':wrap64 ((r:Int)+1)=(r:Int)+1:=w64 _ (by omega)
   have hAr:=HA.out.step HS.out.1
   have q1:=cellb hAr.cp
   obtain ⟨q2,q3⟩:wr.cell? ⟨bq,2,none⟩=some (.slice A1 (parL k m).length c1)/\wr.cell? ⟨bq,1,none⟩=some (.int .i64 k):=by simp [World.cell?,hAr.cq]
   have q4:=cellb hAr.cf
   rw [HPL.out] at q2
   obtain ⟨gt,ct,he,hog,hgb,hgl⟩:=HS.out.2.1.hdf (i:=k+r) (by have:=HL.out.2.2.2.1;omega) (by rw [addA,if_neg (by omega),HL.out.2.2.2.2.2 (k+r) (by omega) (by omega)];exact HL.out.1.1)
   have hrow:addA k j L s rows r (k+r)=rows (k+r):=by rw [addA,if_neg (by omega)]
   have hrl:=HL.out.2.2.2.2.2 (k+r) (by omega) (by omega)
   rw [hrow,hrl] at he
   have hc1:=(Kd.R_celln hd0 HS.out.2.1.out ((k+r:Nat):Int) (by omega) (by omega)).1
   rw [Int.toNat_natCast,show rdOf hd0 hd ((k+r:Nat):Int)=hd.getD (k+r) hd0 from by unfold rdOf;rw [Int.toNat_natCast],he] at hc1
   have hc2:wr.cell? ⟨g,k+r,none⟩=some (.slice (some ⟨gt,0,none⟩) L ct):=hc1
   obtain ⟨hidx,gq0,gq⟩:=idx_facts hrm hjk h7
   have hq0:=parL_at k m r j hrm hjk
   rw [show m*k=PL from by rw [<- HPL.out,parL_len]] at hidx
   obtain ⟨q,hq⟩:∃ q,r*k+j=q:=⟨_,rfl⟩
   rw [hq] at hidx gq hq0
   obtain ⟨rk,hrk2⟩:∃ rk,r*k=rk:=⟨_,rfl⟩
   rw [hrk2] at gq0 gq
   clear hq hrk2
   have gq1:(q:Int) < (PL:Int):=Int.ofNat_lt.2 hidx
   have gq2:(0:Int)<=q:=Int.natCast_nonneg q
   obtain ⟨Am,cm,em,hlm,hCm⟩:=HS.out.2.2.1.bs
   injection em with em1 em2 em3
   subst em1
   obtain ⟨adm,eam,hxm⟩:=Bs.at hCm q (by rw [HPL.out];exact hidx)
   subst eam
   rw [hq0] at hxm
   obtain ⟨C0,hC0⟩:∃ C0,btw (k+r) j=C0:=⟨_,rfl⟩
   have hCb:0<=btw (k+r) j/\btw (k+r) j<=255:=by have:=gi_pos (((k+r) ^^^ j:Nat):Int);unfold btw;omega
   rw [hC0] at hxm hCb
   have HX:=Aside0.mk (And.intro he (And.intro hog (And.intro hgb (And.intro hgl (And.intro hrow (And.intro hrl (And.intro hC0 hCb)))))))
   clear he hog hgb hgl hrow hrl hC0 hCb hc1 hAr hlm hCm em2 em3 hidx hq0
   go_wp2
   go_loopg [31] L (fun kq x wq=>∃ n:Nat,x=.int .i64 n/\n+kq=L/\Aside0 (Kt w wq/\Rh wq B (.slice (some ⟨g,0,none⟩) (k+m) c) hd ow (updF (addA k j L s rows r) (k+r) (mixR L (fun (a:Nat)=>rd (rows (k+r)) (a:Int)) (addF j (k+r) s (rows (k+r))) n))/\Bf (fun x=>k+m<=ow x) wq (.slice (some adm) PL c1) (parL k m)/\Below B w wq))
   case atStart =>
    refine ⟨0,rfl,by omega,⟨HS.out.1,?_,by have h2:=HS.out.2.2.1;rw [HPL.out] at h2;exact h2,HS.out.2.2.2⟩⟩
    rw [mixR_zero,range_rd HX.out.2.2.2.2.2.1,updF_same _ _ HX.out.2.2.2.2.1]
    exact HS.out.2.1
   case round =>
    obtain ⟨n,rfl,hn,HQ⟩:=hrel
    by_cases hnL:n < L
    ·have g3:(n:Int) < (L:Int):=by omega
     have g4:(0:Int)<=n:=by omega
     have gwn:wrap64 ((n:Int)+1)=(n:Int)+1:=w64 _ (by have:=HL.out.1;omega)
     have hil:k+r < hd.length:=by have:=HL.out.2.2.2.1;omega
     have hrw:=HQ.out.2.1.row (k+r) hil
     rw [HX.out.1,encH_mk,updF_at] at hrw
     obtain ⟨cg,hcg⟩:=Kd.R_typed hrw gt rfl
     obtain ⟨x0,f0⟩:=Kd.R_celln 0 hrw (n:Int) g4 g3
     rw [Int.toNat_natCast] at x0 f0
     rw [show rdOf 0 (mixR L (fun (a:Nat)=>rd (rows (k+r)) (a:Int)) (addF j (k+r) s (rows (k+r))) n) (n:Int)=rd (rows (k+r)) (n:Int) from mixR_get _ _ _ _ hnL] at x0
     obtain ⟨D0,hD0⟩:∃ D0,rd (rows (k+r)) (n:Int)=D0:=⟨_,rfl⟩
     rw [hD0] at x0
     have hbq:Below wb.heap.size wb wr:=by rw [HW.out.1];exact HW.out.2.1.trans HQ.out.2.2.2
     obtain ⟨ads,eas,hxs⟩:=Bs.at HW.out.2.2.2.1 n (by rw [HW.out.2.2.2.2.2];exact hnL)
     subst eas
     replace hxs:=cell_of hbq hxs
     have hsb:=byteL_rdn HW.out.2.2.2.2.1 n
     obtain ⟨S0,hS0⟩:∃ S0,rd s (n:Int)=S0:=⟨_,rfl⟩
     rw [hS0] at hxs hsb
     have q4:=cellb (HA.out.step HQ.out.1).cf
     have hm1:=mul_ok (w:=wr.drew) ((HW.out.2.2.1.below hbq).below (below_drew1 (Below.refl _ _))) C0 S0 HX.out.2.2.2.2.2.2.2.1 HX.out.2.2.2.2.2.2.2.2 hsb.1 hsb.2
     have HM1:=Aside0.mk hm1
     have HD:=Aside0.mk (And.intro hD0 (And.intro hS0 (And.intro hcg hil)))
     clear hil hrw hbq hsb hD0 hS0 hm1 hcg
     go_wp2
     go_region_law (first|(go_simp;go_at_call 173;go_loud (refine HM1.out.mono ?_;rintro e1 w5 ⟨rfl,nd,rfl⟩)))
     all_goals
      go_wp2
      go_roundg (L - (n+1))
      case measure=>exact meas hnL hn
      case rel =>
       have hbd:Below wr.heap.size wr (wr.drewN (1+nd)):=pw_below_drewN (Below.refl _ _) _
       have hpk:=(HQ.out.2.1.below hbd).poke HD.out.2.2.2 HX.out.1 n (bits .xor .u8 D0 (gm C0 S0))
       rw [updF_updF] at hpk
       have hnew:(updF (addA k j L s rows r) (k+r) (mixR L (fun (a:Nat)=>rd (rows (k+r)) (a:Int)) (addF j (k+r) s (rows (k+r))) n) (k+r)).set n (bits .xor .u8 D0 (gm C0 S0))=mixR L (fun (a:Nat)=>rd (rows (k+r)) (a:Int)) (addF j (k+r) s (rows (k+r))) (n+1):=by
        rw [<- mixR_set _ _ _ _ hnL,updF_at]
        congr 1
        unfold addF
        rw [HD.out.1,HD.out.2.1,HX.out.2.2.2.2.2.2.1]
        rfl
       rw [hnew] at hpk
       have hcg2:(wr.drewN (1+nd)).heap[gt]?=some (.cells cg 5 (0,0)):=HD.out.2.2.1
       exact ⟨n+1,by simp [gwn],meas2 hnL hn,⟨HQ.out.1.trans ((Kt.below hbd).trans (Kt.set hcg2 (.inr (.inl rfl)) n _)),hpk,(HQ.out.2.2.1.below hbd).set (fun x hx e=>by rw [e,HX.out.2.1] at hx;exact absurd hx (Nat.not_le_of_lt (Nat.add_lt_add_left hrm k))) n _,HQ.out.2.2.2.trans ((hbd.mono (Nat.le_trans HX.out.2.2.1 (Nat.le_of_lt (blk_lt HD.out.2.2.1)))).trans (Below.setCell (Below.refl _ _) HX.out.2.2.1 _))⟩⟩
    ·have g3:¬ (n:Int) < (L:Int):=by omega
     have e1:n=L:=by omega
     subst e1
     go_wp2
     go_roundg (m - (r+1))
     case measure=>omega
     case rel =>
      refine ⟨r+1,by simp [gw'],by omega,⟨HQ.out.1,?_,by rw [HPL.out];exact HQ.out.2.2.1,HQ.out.2.2.2⟩⟩
      have h2:=HQ.out.2.1
      rw [mixR_all,addA_upd] at h2
      exact h2
  ·have g1:¬ (r:Int) < (m:Int):=by omega
   have e1:r=m:=by omega
   subst e1
   go_wp2
   go_end0
   exact ⟨rfl,HS.out.1,HS.out.2.1,HS.out.2.2.1,HS.out.2.2.2⟩
end Go.Proofs.YtmmcbncpnlknbaaGreat.Top
namespace Go.Proofs.YtmmcbncpnlknbaaGreat.Top
open Go Go.RowKit Go.Proofs.YtmmcbncpnlknbaaGreatW.PrintWords Go.Proofs.YtmmcbncpnlknbaaGreatW.PrintLast Go.Proofs.YtmmcbncpnlknbaaGreatW.PrintMore
theorem Rh.rs {w:World} {base:Nat} {g c:Nat} {hd:List (Option Addr×Nat×Nat)} {ow:Nat->Nat} {rows:Nat->List Int} (h:Rh w base (.slice (some ⟨g,0,none⟩) hd.length c) hd ow rows) (hN:hd.length<=1000):Rs w (.slice (some ⟨g,0,none⟩) hd.length c) ((List.range hd.length).map rows):=by
 have hle:=(Kd.R_reads' h.out).2.1
 refine ⟨some ⟨g,0,none⟩,c,by simp,by simpa using hle,?_,?_,fun _=>⟨_,rfl,fun j p hj=>?_⟩⟩
 ·simp
 ·simp [maxLen];omega
 ·obtain ⟨hj1,hj2⟩:=List.getElem?_eq_some_iff.1 hj
  have hjN:j < hd.length:=by simpa using hj1
  have h1:=(Kd.R_celln hd0 h.out (j:Int) (by omega) (by omega)).1
  rw [Int.toNat_natCast,show rdOf hd0 hd (j:Int)=hd.getD j hd0 from by unfold rdOf;rw [Int.toNat_natCast]] at h1
  have h3:=h.row j hjN
  obtain ⟨A,cc,he,hc,hC⟩:=Kd.R_reads h3
  rw [he] at h1
  have e:p=rows j:=by rw [<- hj2];simp
  refine ⟨[_],rfl,⟨A,cc,by rw [e],by rw [e];exact hc,by rw [e];exact hC⟩,fun i u hu=>?_⟩
  cases i with
  | zero =>
   have hu:Value.slice A (rows j).length cc=u:=by simpa using hu
   rw [<- hu,add_plain]
   simpa [show (Kd.slice 5 (Kd.int .u8)).sz=1 from rfl] using h1
  | succ i=>simp at hu
theorem Rh.old {w:World} {base:Nat} {v:Value} {hd:List (Option Addr×Nat×Nat)} {ow:Nat->Nat} {rows:Nat->List Int} (h:Rh w base v hd ow rows) (N:Nat):Rh w base v hd (fun x=>if x < base then N else ow x) rows:=⟨h.out,fun i hi=>Kd.R_mono (Kd.R_bound (h.row i hi)) (fun x hx=>by
 show (if x < base then N else ow x)=i
 rw [if_neg (by omega)]
 exact hx.1)⟩
theorem Rh.push {W w1:World} {base:Nat} {v v1:Value} {hd:List (Option Addr×Nat×Nat)} {ow:Nat->Nat} {rows:Nat->List Int} (h:Rh W base v hd ow rows) {p:Option Addr×Nat×Nat} {l:List Int} (hr:Kd.R (Kd.int .u8) 5 W base (fun k=>ow k=hd.length) (encH p) l) (hl:rows hd.length=l)
  (hg:W.grownBy w1 v.ownBlock) (ho:Kd.R hdK 36 w1 base (fun _=>True) v1 (hd ++ [p])):Rh w1 base v1 (hd ++ [p]) ow rows:=by
 have hty:∀ k,v.ownBlock=some k->∃ cells,W.heap[k]?=some (.cells cells 36 (0,0)):=Kd.R_typed h.out
 refine ⟨ho,fun i hi=>?_⟩
 rw [List.length_append,List.length_singleton] at hi
 by_cases hin:i < hd.length
 ·rw [show (hd ++ [p]).getD i hd0=hd.getD i hd0 from by simp [List.getD,List.getElem?_append_left hin]]
  exact Kd.R_over' (h.row i hin) hty (by decide) hg
 ·have e:i=hd.length:=by omega
  subst e
  rw [show (hd ++ [p]).getD hd.length hd0=p from by simp [List.getD],hl]
  exact Kd.R_over' hr hty (by decide) hg
set_option maxRecDepth 100000 in
set_option maxHeartbeats 1000000 in
theorem adder_ok (w:World) (f k m:Nat) (P A1:Option Addr) (cp c1 PL:Nat) :
  Calls Tryz.prog 147 #[.pointer (some ⟨f,0,none⟩),.agg #[.int .i64 m,.int .i64 k,.slice A1 PL c1],.slice P m cp] w fun e w'=>e=.returned (.func (.func 172) #[] #[.pointer (some ⟨w.heap.size+1+1,0,none⟩),.pointer (some ⟨w.heap.size+1,0,none⟩),.pointer (some ⟨w.heap.size,0,none⟩)])/\w'.heap[w.heap.size+1+1]?=some (.cells #[.slice P m cp] 125 (0,0))/\w'.heap[w.heap.size+1]?=some (.cells #[.int .i64 m,.int .i64 k,.slice A1 PL c1] 241 (0,0))/\w'.heap[w.heap.size]?=some (.cells #[.pointer (some ⟨f,0,none⟩)] 57 (0,0))/\Below w.heap.size w w':=by
 go_enter Tryz.func147,Tryz.ntmps147
 go_wp2
 go_ret
 refine ⟨rfl,?_,?_,?_,below_alloc (below_alloc (below_alloc (Below.refl _ _) _) _) _⟩
 all_goals (simp only [hal,hsz];repeat (first|rw [if_pos trivial]|rw [if_pos (by omega)]|rw [if_neg (by omega)]))
def encA (k m L:Nat) (D:List (List Int)):Nat->Nat->List Int
 | 0=>fun a=>if a < k then D.getD a [] else List.replicate L 0
 | j+1=>addA k j L (D.getD j []) (encA k m L D j) m
theorem encA_len (k m L:Nat) (D:List (List Int)):∀ j a,k<=a->(encA k m L D j a).length=L
 | 0,a,h=>by simp [encA,Nat.not_lt.2 h]
 | j+1,a,h=>by
  rw [encA,addA]
  split
  ·simp
  ·exact encA_len k m L D j a h
theorem encA_data (k m L:Nat) (D:List (List Int)):∀ j a,a < k->encA k m L D j a=D.getD a []
 | 0,a,h=>by simp [encA,h]
 | j+1,a,h=>by rw [encA,addA,if_neg (by omega)];exact encA_data k m L D j a h
end Go.Proofs.YtmmcbncpnlknbaaGreat.Top
