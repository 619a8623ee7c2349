import Derived.Test.YtmmcbncpnlknbaaGreatF18
set_option linter.unusedVariables false
set_option linter.unusedSimpArgs false
namespace Go.Proofs.YtmmcbncpnlknbaaGreat.Top
open Go Go.RowKit Go.Proofs.YtmmcbncpnlknbaaGreatW.PrintWords Go.Proofs.YtmmcbncpnlknbaaGreatW.PrintLast Go.Proofs.YtmmcbncpnlknbaaGreatW.PrintMore
attribute [local go_sem] calloc_old cset_ne
def RsV (b:Nat) (w:World) (v:Value) (l:List (List Int)):Prop:=Kd.V (Kd.slice 5 (Kd.int .u8)) 36 w 0 (fun k=>b<=k) v l
theorem RsV.rs {b:Nat} {w:World} {v:Value} {l:List (List Int)} (h:RsV b w v l):Rs w v l:=by
 obtain ⟨A,c,e,hc,hF⟩:=h
 exact ⟨A,c,e,hc,Kd.F_now hF⟩
theorem RsV.step {b:Nat} {w W:World} {v:Value} {l:List (List Int)} (h:RsV b w v l) (hm:∀ k,b<=k->k < w.heap.size->W.heap[k]?=w.heap[k]?):RsV b W v l:=Kd.V_step h hm
theorem RsV.lower {b b':Nat} {w:World} {v:Value} {l:List (List Int)} (h:RsV b w v l) (hb:b'<=b):RsV b' w v l:=Kd.V_mono h (fun k hk=>Nat.le_trans hb hk)
theorem Rh.rsV {w:World} {base:Nat} {g c:Nat} {hd:List (Option Addr×Nat×Nat)} {ow:Nat->Nat} {rows:Nat->List Int} (h:Rh w base (.slice (some ⟨g,0,none⟩) hd.length c) hd ow rows) (hN:hd.length<=1000):RsV base w (.slice (some ⟨g,0,none⟩) hd.length c) ((List.range hd.length).map rows):=by
 have key:∀ W',(∀ k,base<=k->k < w.heap.size->W'.heap[k]?=w.heap[k]?)->Rs W' (.slice (some ⟨g,0,none⟩) hd.length c) ((List.range hd.length).map rows):=fun W' hW =>
  Rh.rs ⟨Kd.R_mono (Kd.R_step (Kd.R_bound h.out) (fun k hk hlt=>hW k hk.2.1 hlt)) (fun _ hk=>hk.1),fun i hi=>Kd.R_mono (Kd.R_step (Kd.R_bound (h.row i hi)) (fun k hk hlt=>hW k hk.2.1 hlt)) (fun _ hk=>hk.1)⟩ hN
 refine ⟨some ⟨g,0,none⟩,c,by simp,by simpa using (Kd.R_reads' h.out).2.1,fun W' hW=>?_⟩
 obtain ⟨A,c',he,hc,hC⟩:=key W' hW
 injection he with h1 h2 h3
 subst h1
 exact hC
def EncP (w w':World) (v:Value) (R:List (List Int)):Prop:=RsV w.heap.size w' v R/\Below w.heap.size w w'
set_option maxRecDepth 100000 in
set_option maxHeartbeats 2000000 in
theorem encode_ok {w:World} {f:Nat} (h:Fd w f) (k m L:Nat) (hk:1<=k) (hkm:k+m<=7) (v:Value) (D:List (List Int)) (hv:Rs w v D) (hN:D.length=k) (hD:∀ i,i < k->(D.getD i []).length=L) (hL:1<=L/\L<=10000) (hb:∀ i,byteL (D.getD i [])) :
  Calls Tryz.prog 125 #[.pointer (some ⟨f,0,none⟩),.int .i64 k,.int .i64 m,v] w fun e w'=>∃ u,e=.returned (.tuple #[u,.int .i64 0])/\EncP w w' u ((List.range (k+m)).map (encA k m L D k)):=by
 have hck:=checked_ok h k m L hk hkm v D hv hN hD
 have hv':=hv
 obtain ⟨A,cc,rfl,hcc,hC⟩:=hv'
 rw [hN] at hck hC hcc hv ⊢
 have H:=Aside0.mk h
 have HK:=Aside0.mk (And.intro hk hkm)
 have HV:=Aside0.mk (And.intro hv (And.intro hC (And.intro hN (And.intro hD (And.intro hL hb)))))
 have HCK:=Aside0.mk hck
 clear h hv hcc hC hN hD hL hb hk hkm hck
 have hD10:∀ i,(D.getD i []).length<=10000:=fun i=>by
  by_cases hi:i < k
  ·rw [HV.out.2.2.2.1 i hi]
   exact HV.out.2.2.2.2.1.2
  ·rw [List.getD_eq_getElem?_getD,List.getElem?_eq_none (by rw [HV.out.2.2.1];omega)]
   simp
 have HD10:=Aside0.mk hD10
 clear hD10
 go_enter Tryz.func125,Tryz.ntmps125
 go_wp2_with (first|(go_at_call 145;go_loud (refine HCK.out.mono ?_;rintro e1 w1 ⟨A1,c1,rfl,hr1,hb1⟩;have hb2:=below_step hb1 (below_alloc (Below.refl w1.heap.size w1) (.cells #[.int .i64 m,.int .i64 k,.slice A1 (parL k m).length c1] 241));have hx:=heap_alloc_new w1 (.cells #[.int .i64 m,.int .i64 k,.slice A1 (parL k m).length c1] 241);have ho:=own_ok _ _ D (HV.out.1.below hb2) (by rw [HV.out.2.2.1];have:=HK.out;omega) HD10.out;have H1:=Aside0.mk (And.intro hr1 (And.intro hb2 (And.intro ho hx)));clear hr1 hb1 hb2 ho hx))|(go_at_call 146;go_loud (refine H1.out.2.2.1.mono ?_;rintro e1 w3 ⟨u3,rfl,g3,c3,hd3,ow3,rfl,hl3,hR3,hb3⟩;rw [HV.out.2.2.1] at hR3 hl3 ⊢;have H3:=Aside0.mk (And.intro hl3 (And.intro hR3 hb3));clear hl3 hR3 hb3)))
 have h1:=H1.out
 have h3:=H3.out
 obtain ⟨W2,hW2⟩:∃ W2,w1.alloc (.cells #[.int .i64 m,.int .i64 k,.slice A1 (parL k m).length c1] 241)=W2:=⟨_,rfl⟩
 have hr1:=Kd.R_alloc H1.out.1 (.cells #[.int .i64 m,.int .i64 k,.slice A1 (parL k m).length c1] 241)
 rw [hW2] at h1 h3 hr1
 have HQ1:=Aside0.mk (And.intro hr1 (And.intro h1.2.1 h1.2.2.2))
 have HQ3:=Aside0.mk h3
 obtain ⟨PL,hPL⟩:∃ PL,(parL k m).length=PL:=⟨_,rfl⟩
 have HPL:=Aside0.mk hPL
 clear h1 h3 hW2 hr1 hPL
 go_loopg [12,31] m (fun kq x y wr=>∃ (i:Nat) (v:Value) (hd:List (Option Addr×Nat×Nat)) (ow:Nat->Nat),v=x/\y=.int .i64 i/\i+kq=m/\Aside0 (hd.length=k+i/\Rh wr W2.heap.size v hd ow (encA k m L D 0)/\Below W2.heap.size W2 wr))
 case atStart=>exact ⟨0,_,hd3,ow3,rfl,rfl,by omega,⟨HQ3.out.1,HQ3.out.2.1.congr (fun i hi=>by rw [HQ3.out.1] at hi;simp [encA,hi]),HQ3.out.2.2⟩⟩
 case round =>
  obtain ⟨i,v,hd,ow,rfl,rfl,hi,HR⟩:=hrel
  by_cases him:i < m
  ·have g1:(i:Int) < (m:Int):=by omega
   have h7:=HK.out.2
   have gw':wrap64 ((i:Int)+1)=(i:Int)+1:=w64 _ (by omega)
   have gk:(0:Int) < (k:Int):=by have:=HK.out.1;omega
   obtain ⟨ad',v3,ea',hx3,hb3⟩:=Rs.at (by rw [HV.out.2.2.1];exact HV.out.2.1) 0 (by have:=HV.out.2.2.1;have:=HK.out;omega)
   subst ea'
   obtain ⟨A3,c3',rfl,_,_⟩:=hb3
   rw [HV.out.2.2.2.1 0 (by have:=HK.out;omega)] at hx3
   replace hx3:=cell_of (below_step HQ1.out.2.1 HR.out.2.2) hx3
   have hx4:wr.cell? ad'=some (.slice A3 L c3'):=by simpa [Addr.add] using hx3
   go_wp2_with (first|((with_reducible refine gate_dst (N:=38) rfl ?_);go_loud (refine Kd.R_make (Kd.int .u8) (w0:=wr) wr.heap.size 5 rfl (N:=38) rfl 36 _ _ rfl (L:Int) rfl rfl Tryz.underlying36 (.int .u8 0) 1 info5' rfl (by decide) (by decide) 0 (ok:=fun _=>True) (okp:=fun _=>True) rfl (fun _ hk=>hk) trivial (by omega) (by have:=HV.out.2.2.2.2.1;omega) (Below.refl _ _) (Nat.le_refl _) ?_;intro v4 w4 ho4 hb4 hg4 hnew4;rw [Int.toNat_natCast] at ho4;obtain ⟨A4,c4,rfl⟩:=Kd.R_slice ho4;rw [List.length_replicate] at *;have H4:=Aside0.mk (And.intro ho4 hb4);clear ho4 hb4 hg4 hnew4))|((with_reducible refine gate_builtin (b:=.append) (xs:=#[.tmp 33,.tmp 39]) rfl ?_);at_builtin;go_loud (refine Kd.R_append hdK (w0:=w4) (W:=w4) W2.heap.size rfl (.tmp 33) (.tmp 39) 125 36 (.slice none 0 0) 24 rfl Tryz.underlying125 info36' rfl (by decide) (by omega) v hd (A4,L,c4) [.slice A4 L c4] (fun _=>True) (fun _=>False) rfl rfl rfl (fun _ hk=>hk.elim) (fun _ _=>trivial) (Kd.R_below HR.out.2.1.out H4.out.2) (Below.refl _ _) (Nat.le_trans HR.out.2.2.size H4.out.2.size) (by have:=HR.out.1;omega) ?_;intro v5 w5 ho5 hb5 hg5 hat5;have H5:=Aside0.mk (And.intro ho5 (And.intro hb5 hg5));clear ho5 hb5 hg5 hat5)))
   go_roundg (m - (i+1))
   case measure=>omega
   case rel =>
    have hR4:=(HR.out.2.1.fresh hd.length).below H4.out.2
    have hp:=hR4.push (p:=(A4,L,c4)) (l:=List.replicate L 0) (Kd.R_mono (Kd.R_lower (Kd.R_bound H4.out.1) HR.out.2.2.size) (fun x hx=>by show owN ow wr.heap.size hd.length x=hd.length;rw [owN,if_neg (Nat.not_lt.2 hx.2.1)])) (by rw [HR.out.1];simp only [encA];exact if_neg (by omega)) H5.out.2.2 H5.out.1
    exact ⟨i+1,_,_,_,rfl,by simp [gw'],by omega,⟨by rw [List.length_append,List.length_singleton,HR.out.1];omega,hp,HR.out.2.2.trans ((H4.out.2.mono HR.out.2.2.size).trans H5.out.2.1)⟩⟩
  ·have g1:¬ (i:Int) < (m:Int):=by omega
   have e1:i=m:=by omega
   subst e1
   have h7:=HK.out.2
   have hk1:=HK.out.1
   obtain ⟨g,c,ev,gb,gl,_,_⟩:=Kd.R_form HR.out.2.1.out (by rw [HR.out.1];omega)
   subst ev
   have hR:=HR.out.2.1
   rw [HR.out.1] at hR ⊢
   have hcc:=(Kd.R_reads' hR.out).2.1
   have HRr:=Aside0.mk (And.intro HR.out.1 (And.intro (hR.old (k+i)) (And.intro HR.out.2.2 hcc)))
   obtain ⟨P,hP⟩:∃ P,(if c=k then some (⟨g,0,none⟩:Addr) else some ((⟨g,0,none⟩:Addr).add k))=P:=⟨_,rfl⟩
   have hcut:∀ W:World,(Instr.slice 125 (.slice (some ⟨g,0,none⟩) (k+i) c) (some (.int .i64 (k:Int))) none none).run Tryz.prog W=.ok (.slice P i (c - k)) W:=fun W=>by
    obtain ⟨i0,hi0,_,hsz0,_⟩:=info_parts info36'
    have h:=cut_from (P:=Tryz.prog) 125 36 .i64 Tryz.underlying125 hi0 1 hsz0 (some ⟨g,0,none⟩) (k+i) c (k:Int) (by omega) (by omega) W
    rw [Int.toNat_natCast] at h
    rw [h,<- hP,show k+i - k=i by omega,Nat.mul_one]
    split <;> rfl
   have hPm:0 < i->P=some ⟨g,k,none⟩:=fun h0=>by
    rw [<- hP,if_neg (by omega),add_plain]
   have hbox:=(HR.out.2.2.block w1.heap.size (blk_lt HQ1.out.2.2)).trans HQ1.out.2.2
   rw [HPL.out] at hbox
   obtain ⟨x0,x1,x2⟩:wr.cell? ⟨w1.heap.size,0,none⟩=some (.int .i64 i)/\wr.cell? ⟨w1.heap.size,1,none⟩=some (.int .i64 k)/\wr.cell? ⟨w1.heap.size,2,none⟩=some (.slice A1 PL c1):=by simp [World.cell?,hbox]
   have hmat:=Bf.of_R (P:=fun x=>x < W2.heap.size) HQ1.out.1 (fun x _ hx=>hx)
   have HX:=Aside0.mk (And.intro hPm (And.intro hmat hcc))
   have HAD:=Aside0.mk (fun W=>adder_ok W f k i P A1 (c - k) c1 PL)
   clear hR hcc hP hPm hmat hbox
   go_wp2
   go_region_law (first|(go_simp;go_at_call 147;go_loud (refine (HAD.out _).mono ?_;rintro e1 w6 ⟨rfl,ha1,ha2,ha3,hb6⟩;have H6:=Aside0.mk (And.intro ha1 (And.intro ha2 (And.intro ha3 hb6)));clear ha1 ha2 ha3 hb6)))
   all_goals
    have hB6:Below wr.heap.size wr w6:=⟨H6.out.2.2.2.os,H6.out.2.2.2.tape,H6.out.2.2.2.output,H6.out.2.2.2.size,H6.out.2.2.2.block⟩
    have hAd:Ad w6 (wr.heap.size+1+1) (wr.heap.size+1) wr.heap.size f k i P A1 (c - k) c1:=⟨H6.out.1,by rw [HPL.out];exact H6.out.2.1,H6.out.2.2.1⟩
    have hR6:=HRr.out.2.1.below hB6
    have hM6:=((HX.out.2.1.mono (Q:=fun x=>k+i<=(if x < W2.heap.size then k+i else ow x)) (fun x hx=>by rw [if_pos hx];exact Nat.le_refl _)).below HR.out.2.2).below hB6
    have hW6:Below W2.heap.size W2 w6:=below_step HR.out.2.2 hB6
    have HS6:=Aside0.mk (And.intro hAd (And.intro hR6 (And.intro hM6 hW6)))
    clear hB6 hAd hR6 hM6 hW6
    go_wp2
    go_loopg [50] k (fun kq x wq=>∃ j:Nat,x=.int .i64 j/\j+kq=k/\Aside0 (Kt w6 wq/\Rh wq W2.heap.size (.slice (some ⟨g,0,none⟩) (k+i) c) hd (fun x=>if x < W2.heap.size then k+i else ow x) (encA k i L D j)/\Bf (fun x=>k+i<=(if x < W2.heap.size then k+i else ow x)) wq (.slice A1 (parL k i).length c1) (parL k i)/\Below W2.heap.size W2 wq))
    case atStart=>exact ⟨0,rfl,by omega,⟨Kt.refl _,HS6.out.2.1,HS6.out.2.2.1,HS6.out.2.2.2⟩⟩
    case round =>
     obtain ⟨j,rfl,hj,HQ⟩:=hrel
     by_cases hjk:j < k
     ·have g2:(j:Int) < (k:Int):=Int.ofNat_lt.2 hjk
      have g3:(0:Int)<=j:=Int.natCast_nonneg j
      have gwj:wrap64 ((j:Int)+1)=(j:Int)+1:=w64 _ (by have:=HK.out;omega)
      obtain ⟨ad,v2,ea,hx1,hb1⟩:=Rs.at (by rw [HV.out.2.2.1];exact HV.out.2.1) j (by rw [HV.out.2.2.1];exact hjk)
      subst ea
      have hw2:=HQ1.out.2.1
      replace hx1:=cell_of (below_step hw2 HQ.out.2.2.2) hx1
      have hb2:=hb1.below hw2
      obtain ⟨A2,c2,rfl,hc2,hC2⟩:=hb1
      have hcall:=adder1_ok (L:=L) (j:=j) (HS6.out.1.step HQ.out.1) HQ.out.2.1 HRr.out.1 HX.out.1 HQ.out.2.2.1 rfl HQ.out.2.2.2 (H.out.below hw2) _ _ hb2 (HV.out.2.2.2.2.2 j) (HV.out.2.2.2.1 j hjk) HV.out.2.2.2.2.1 HK.out hjk (fun a ha _=>encA_len k i L D j a ha)
      rw [HV.out.2.2.2.1 j hjk] at hx1 hcall
      have HC:=Aside0.mk hcall
      clear hc2 hC2 hb2 hcall hw2
      go_wp2_with (first|(go_at_call 172;go_loud (refine HC.out.mono ?_;rintro e1 w7 ⟨rfl,hk7,hr7,hm7,hb7⟩;have H7:=Aside0.mk (And.intro hk7 (And.intro hr7 (And.intro hm7 hb7)));clear hk7 hr7 hm7 hb7)))
      go_roundg (k - (j+1))
      case measure=>exact meas hjk hj
      case rel=>exact ⟨j+1,by simp [gwj],meas2 hjk hj,⟨HQ.out.1.trans H7.out.1,H7.out.2.1,H7.out.2.2.1,HQ.out.2.2.2.trans H7.out.2.2.2⟩⟩
     ·have g2:¬ (j:Int) < (k:Int):=fun e=>hjk (Int.ofNat_lt.1 e)
      have e1:j=k:=by omega
      subst e1
      go_wp2
      go_ret2
      refine ⟨_,rfl,?_,below_step HQ1.out.2.1 HQ.out.2.2.2⟩
      have h2:=HQ.out.2.1
      have h3:=HRr.out.1
      rw [<- h3] at h2 ⊢
      exact (Rh.rsV h2 (by omega)).lower HQ1.out.2.1.size
end Go.Proofs.YtmmcbncpnlknbaaGreat.Top
namespace Go.Proofs.YtmmcbncpnlknbaaGreat.Top
open Go Go.RowKit Go.Proofs.YtmmcbncpnlknbaaGreatW.PrintWords Go.Proofs.YtmmcbncpnlknbaaGreatW.PrintLast Go.Proofs.YtmmcbncpnlknbaaGreatW.PrintMore
def EB:Nat:=70160881166704368827218703435136616750530459438269794890424969378298545675077208731798828898087927652446353395360628748027273188182808436399538186061104243134188885576122562338679313492324190829158544377810568631194580132524405266702234305646236648896994794467054525044798919765581988418950285252905306116225263236585714808161311289784028762024137133735135393922581566890382566480334369299400480864790538739986285574563168380416343369614948461817839620668187777978661530364712890858126432457562886306102556561631759900551331094983229723298224611133722330829711659991602983068895685602467964643306841827719562658305
def LB:Nat:=1280280666129305506491242481180088866442554547362231281020481580358701154733866488309625975995803819116197753141050798388089235934454355882155688931352126142854390448891823515454322415812333188797835138712414237451015274497135146335612793950700125157310848901987831313779598718555618996575584736512941848386540218789159252811110303610035868940219848586817678377017499259534606727074997524392257737633677286565498708958917864074164318560704460621759142991302926360892411337809451197026850311898867336779097127415111092663223532408816216007425731672065250628178009275297987242579187014394471291884643606450888154213300275160870132769308911457331615672733956798010522398461528257297707223463756032
def exF (i:Nat):Int:=((EB >>> (8*(i % 255))) % 256:Nat)
def lgF (x:Nat):Nat:=(LB >>> (9*x)) % 512
theorem exT:∀ i ∈ List.range 255,exL.getD i 0=(EB >>> (8*i)) % 256:=by unfold exL;decide +kernel
theorem lgT:∀ x ∈ List.range 256,lgL.getD x 0=(LB >>> (9*x)) % 512:=by unfold lgL exL;decide +kernel
theorem lgL_len:lgL.length=256:=by unfold lgL;simp
theorem ex_eq (i:Nat):ex i=exF i:=by
 unfold ex exn exF
 rw [exT (i % 255) (by simp;omega)]
theorem LB_end:LB >>> 2304=0:=by decide +kernel
theorem lg_eq (x:Nat):lg x=lgF x:=by
 unfold lg lgF
 by_cases h:x < 256
 ·exact lgT x (by simpa using h)
 ·rw [List.getD_eq_getElem?_getD,List.getElem?_eq_none (by rw [lgL_len];omega),show 9*x=2304+(9*x - 2304) by omega,Nat.shiftRight_add,LB_end,Nat.zero_shiftRight]
  rfl
def gmF (a b:Int):Int:=if a=0∨b=0 then 0 else exF (lgF a.toNat+lgF b.toNat)
def giF (a:Int):Int:=exF ((lgF a.toNat*254) % 255)
theorem gm_eq:gm=gmF:=by
 funext a b
 unfold gm gmF
 simp only [ex_eq,lg_eq]
theorem gi_eq:gi=giF:=by
 funext a
 unfold gi giF
 simp only [ex_eq,lg_eq]
def B8 (x:Int):Prop:=0<=x/\x<=255
theorem bx_nat (a b:Nat) (ha:a < 256) (hb:b < 256):bx (a:Int) (b:Int)=((a ^^^ b:Nat):Int):=u8_xor_nat a b ha hb
theorem xor_lt {a b:Nat} (ha:a < 256) (hb:b < 256):a ^^^ b < 256:=Nat.xor_lt_two_pow (n:=8) ha hb
theorem B8.nat {x:Int} (h:B8 x):∃ n:Nat,x=n/\n < 256:=⟨x.toNat,by have:=h.1;omega,by have:=h.1;have:=h.2;omega⟩
theorem B8.of {n:Nat} (h:n < 256):B8 (n:Int):=⟨by omega,by omega⟩
theorem B8.bx (a b:Int):B8 (bx a b):=bx_byte a b
theorem B8.gm (a b:Int):B8 (gm a b):=gm_byte a b
theorem B8.zero:B8 0:=⟨by omega,by omega⟩
theorem bx_comm {a b:Int} (ha:B8 a) (hb:B8 b):bx a b=bx b a:=by
 obtain ⟨x,rfl,hx⟩:=ha.nat
 obtain ⟨y,rfl,hy⟩:=hb.nat
 rw [bx_nat x y hx hy,bx_nat y x hy hx,Nat.xor_comm]
theorem bx_assoc {a b c:Int} (ha:B8 a) (hb:B8 b) (hc:B8 c):bx (bx a b) c=bx a (bx b c):=by
 obtain ⟨x,rfl,hx⟩:=ha.nat
 obtain ⟨y,rfl,hy⟩:=hb.nat
 obtain ⟨z,rfl,hz⟩:=hc.nat
 rw [bx_nat x y hx hy,bx_nat y z hy hz,bx_nat _ z (xor_lt hx hy) hz,bx_nat x _ hx (xor_lt hy hz),Nat.xor_assoc]
theorem bx_self {a:Int} (ha:B8 a):bx a a=0:=by
 obtain ⟨x,rfl,hx⟩:=ha.nat
 rw [bx_nat x x hx hx,Nat.xor_self]
 rfl
theorem bx_zero {a:Int} (ha:B8 a):bx a 0=a:=by
 obtain ⟨x,rfl,hx⟩:=ha.nat
 have h:=bx_nat x 0 hx (by omega)
 rw [Nat.xor_zero] at h
 exact h
theorem zero_bx {a:Int} (ha:B8 a):bx 0 a=a:=by rw [bx_comm B8.zero ha,bx_zero ha]
theorem bx_mid {a b c d:Int} (ha:B8 a) (hb:B8 b) (hc:B8 c) (hd:B8 d):bx (bx a b) (bx c d)=bx (bx a c) (bx b d):=by
 rw [bx_assoc ha hb (B8.bx c d),<- bx_assoc hb hc hd,bx_comm hb hc,bx_assoc hc hb hd,<- bx_assoc ha hc (B8.bx b d)]
theorem dbl_xor {x y:Nat} (hx:x < 256) (hy:y < 256):dbl (x ^^^ y)=dbl x ^^^ dbl y:=by
 have h2:∀ z,2*z=z <<< 1:=fun z=>by rw [Nat.shiftLeft_eq];omega
 have hb:∀ z,z < 256->((2*z > 255)↔z.testBit 7=true):=by
  have h:∀ z ∈ List.range 256,((2*z > 255)↔z.testBit 7=true):=by decide +kernel
  exact fun z hz=>h z (by simpa using hz)
 have e:∀ z,z < 256->dbl z=(z <<< 1) ^^^ (if z.testBit 7=true then 285 else 0):=fun z hz=>by
  unfold dbl
  by_cases hc:z.testBit 7=true
  ·rw [if_pos ((hb z hz).2 hc),if_pos hc,h2]
  ·rw [if_neg (fun e=>hc ((hb z hz).1 e)),if_neg hc,h2,Nat.xor_zero]
 rw [e _ (xor_lt hx hy),e x hx,e y hy,Nat.shiftLeft_xor_distrib,Nat.testBit_xor]
 have lc:∀ a b c:Nat,a ^^^ (b ^^^ c)=b ^^^ (a ^^^ c):=fun a b c=>by rw [<- Nat.xor_assoc,Nat.xor_comm a b,Nat.xor_assoc]
 cases x.testBit 7 <;> cases y.testBit 7 <;> simp [Nat.xor_assoc,Nat.xor_comm,lc]
def gN (i:Nat) (b:Nat):Nat:=if b=0 then 0 else exn (i+lg b)
theorem exn_pw (i:Nat):exn i=pw (i % 255):=by unfold exn pw;rfl
theorem pw_end:pw 255=1:=by unfold pw exL;decide +kernel
theorem exn_succ (i:Nat):exn (i+1)=dbl (exn i):=by
 rw [exn_pw,exn_pw]
 have h:=(pw_all (i % 255) (by simp;omega)).2.2.1
 rw [<- h]
 by_cases h2:i % 255=254
 ·rw [h2,show (i+1) % 255=0 by omega,pw_end,pw0]
 ·rw [show (i+1) % 255=i % 255+1 by omega]
theorem exn_lt (i:Nat):exn i < 256:=by
 rw [exn_pw]
 have:=(pw_all (i % 255) (by simp;omega)).2.1
 omega
theorem gN_lt (i b:Nat):gN i b < 256:=by
 unfold gN
 split
 ·omega
 ·exact exn_lt _
theorem dbl_zero:dbl 0=0:=by decide
theorem gN_succ (i b:Nat):gN (i+1) b=dbl (gN i b):=by
 unfold gN
 by_cases h:b=0
 ·rw [if_pos h,if_pos h,dbl_zero]
 ·rw [if_neg h,if_neg h,show i+1+lg b=i+lg b+1 by omega,exn_succ]
theorem gN_zero {b:Nat} (hb:b < 256):gN 0 b=b:=by
 unfold gN
 by_cases h:b=0
 ·rw [if_pos h,h]
 ·rw [if_neg h,Nat.zero_add,exn_pw]
  obtain ⟨h2,h3⟩:=pw_sur b (by simpa using hb) (by omega)
  have e:lg b=lgL.getD b 0:=by unfold lg;rfl
  rw [e,Nat.mod_eq_of_lt h2]
  exact h3
theorem gN_xor {b c:Nat} (hb:b < 256) (hc:c < 256):∀ i,gN i (b ^^^ c)=gN i b ^^^ gN i c
 | 0=>by rw [gN_zero hb,gN_zero hc,gN_zero (xor_lt hb hc)]
 | i+1=>by rw [gN_succ,gN_succ,gN_succ,gN_xor hb hc i,dbl_xor (gN_lt i b) (gN_lt i c)]
theorem gm_gN (a b:Nat) (ha:a≠0):gm (a:Int) (b:Int)=(gN (lg a) b:Int):=by
 unfold gm gN
 by_cases h:b=0
 ·rw [if_pos (.inr (by omega)),if_pos h]
  rfl
 ·rw [if_neg (by omega),if_neg h,Int.toNat_natCast,Int.toNat_natCast]
  unfold ex
  rfl
theorem gm_comm (a b:Int):gm a b=gm b a:=by
 unfold gm
 rw [Nat.add_comm]
 by_cases h:a=0∨b=0
 ·rw [if_pos h,if_pos h.symm]
 ·rw [if_neg h,if_neg (fun e=>h e.symm)]
theorem gm_z (b:Int):gm 0 b=0:=by unfold gm;rw [if_pos (.inl rfl)]
theorem gm_bx {a b c:Int} (ha:B8 a) (hb:B8 b) (hc:B8 c):gm a (bx b c)=bx (gm a b) (gm a c):=by
 obtain ⟨x,rfl,hx⟩:=ha.nat
 obtain ⟨y,rfl,hy⟩:=hb.nat
 obtain ⟨z,rfl,hz⟩:=hc.nat
 rw [bx_nat y z hy hz]
 by_cases h:x=0
 ·subst h
  rw [show ((0:Nat):Int)=0 from rfl,gm_z,gm_z,gm_z,bx_zero B8.zero]
 ·rw [gm_gN x _ h,gm_gN x y h,gm_gN x z h,gN_xor hy hz,bx_nat _ _ (gN_lt _ _) (gN_lt _ _)]
theorem bx_gm {a b c:Int} (ha:B8 a) (hb:B8 b) (hc:B8 c):gm (bx b c) a=bx (gm b a) (gm c a):=by
 rw [gm_comm,gm_bx ha hb hc,gm_comm a b,gm_comm a c]
section
variable (g:Int->Int->Int) (q:Int->Int)
def xpG (x:Int) (i:Nat):Nat->Int
 | 0=>x
 | l+1=>g (xpG x i l) (i:Int)
def wpG (k i:Nat):Nat->Int
 | 0=>1
 | n+1=>if k+n=i then wpG k i n else g (wpG k i n) (((k+n) ^^^ i:Nat):Int)
def acG (k m:Nat) (f:Nat->Int):Nat->Nat->Int
 | 0,_=>0
 | i+1,l=>bx (acG k m f i l) (xpG g (g (f i) (q (wpG g k i m))) i l)
def prG (d:Nat->Int) (i:Nat):Nat->Int
 | 0=>0
 | j+1=>bx (prG d i j) (g (q ((i ^^^ j:Nat):Int)) (d j))
def wcG (k:Nat) (d:Nat->Int) (i:Nat):Int:=if i < k then d i else prG g q d i k
end
def dlt (j:Nat) (x:Int):Nat->Int:=fun a=>if a=j then x else 0
theorem xp_G (x:Int) (i:Nat):∀ l,xpow x i l=xpG gm x i l
 | 0=>rfl
 | l+1=>by rw [xpow,xpG,xp_G x i l]
theorem wp_G (k i:Nat):∀ n,wp k i n=wpG gm k i n
 | 0=>rfl
 | n+1=>by rw [wp,wpG,wp_G k i n]
theorem ac_G (k m:Nat) {word:List Int} {f:Nat->Int} (l:Nat):∀ n:Nat,(∀ i:Nat,i < n->rd word (i:Int)=f i)->acc k m word n l=acG gm gi k m f n l
 | 0,_=>rfl
 | n+1,h=>by rw [acc,acG,ac_G k m l n (fun i hi=>h i (by omega)),h n (by omega),xp_G,wgt,wp_G]
set_option maxRecDepth 100000 in
theorem basis:∀ k ∈ List.range 8,∀ m ∈ List.range 8,1<=k->k+m<=7->∀ l ∈ List.range m,∀ j ∈ List.range k,∀ b ∈ List.range 8,acG gmF giF k m (wcG gmF giF k (dlt j ((2 ^ b:Nat):Int))) (k+m) l=0:=by decide +kernel
def bxF (d e:Nat->Int):Nat->Int:=fun a=>bx (d a) (e a)
def BF (d:Nat->Int):Prop:=∀ a,B8 (d a)
theorem B8.q (a:Int):B8 (gi a):=by have:=gi_pos a;exact ⟨by omega,this.2⟩
theorem B8.nat8 {i:Nat} (h:i < 256):B8 (i:Int):=⟨by omega,by omega⟩
theorem xpG_B (x:Int) (i:Nat) (hx:B8 x):∀ l,B8 (xpG gm x i l)
 | 0=>hx
 | l+1=>B8.gm _ _
theorem xpG_bx {x y:Int} {i:Nat} (hi:i < 256) (hx:B8 x) (hy:B8 y):∀ l,xpG gm (bx x y) i l=bx (xpG gm x i l) (xpG gm y i l)
 | 0=>rfl
 | l+1=>by rw [xpG,xpG,xpG,xpG_bx hi hx hy l,bx_gm (B8.nat8 hi) (xpG_B x i hx l) (xpG_B y i hy l)]
theorem acG_B (k m:Nat) (f:Nat->Int) (l:Nat):∀ n,B8 (acG gm gi k m f n l)
 | 0=>B8.zero
 | n+1=>B8.bx _ _
theorem acG_bx (k m:Nat) {d e:Nat->Int} (hd:BF d) (he:BF e) (l:Nat):∀ n,n<=256->acG gm gi k m (bxF d e) n l=bx (acG gm gi k m d n l) (acG gm gi k m e n l)
 | 0,_=>(bx_zero B8.zero).symm
 | n+1,h=>by
  rw [acG,acG,acG,acG_bx k m hd he l n (by omega)]
  have h1:gm (bxF d e n) (gi (wpG gm k n m))=bx (gm (d n) (gi (wpG gm k n m))) (gm (e n) (gi (wpG gm k n m))):=bx_gm (B8.q _) (hd n) (he n)
  rw [h1,xpG_bx (by omega) (B8.gm _ _) (B8.gm _ _),bx_mid (acG_B k m d l n) (acG_B k m e l n) (xpG_B _ _ (B8.gm _ _) l) (xpG_B _ _ (B8.gm _ _) l)]
theorem prG_B (d:Nat->Int) (i:Nat):∀ j,B8 (prG gm gi d i j)
 | 0=>B8.zero
 | j+1=>B8.bx _ _
theorem prG_bx {d e:Nat->Int} (hd:BF d) (he:BF e) (i:Nat):∀ j,prG gm gi (bxF d e) i j=bx (prG gm gi d i j) (prG gm gi e i j)
 | 0=>(bx_zero B8.zero).symm
 | j+1=>by
  rw [prG,prG,prG,prG_bx hd he i j]
  have h1:gm (gi ((i ^^^ j:Nat):Int)) (bxF d e j)=bx (gm (gi ((i ^^^ j:Nat):Int)) (d j)) (gm (gi ((i ^^^ j:Nat):Int)) (e j)):=gm_bx (B8.q _) (hd j) (he j)
  rw [h1,bx_mid (prG_B d i j) (prG_B e i j) (B8.gm _ _) (B8.gm _ _)]
theorem wcG_B (k:Nat) {d:Nat->Int} (hd:BF d):BF (wcG gm gi k d):=fun i=>by
 unfold wcG
 split
 ·exact hd i
 ·exact prG_B d i k
theorem wcG_bx (k:Nat) {d e:Nat->Int} (hd:BF d) (he:BF e):wcG gm gi k (bxF d e)=bxF (wcG gm gi k d) (wcG gm gi k e):=by
 funext i
 show (if i < k then bxF d e i else prG gm gi (bxF d e) i k)=bx (if i < k then d i else prG gm gi d i k) (if i < k then e i else prG gm gi e i k)
 by_cases h:i < k
 ·rw [if_pos h,if_pos h,if_pos h]
  rfl
 ·rw [if_neg h,if_neg h,if_neg h]
  exact prG_bx hd he i k
def Syn (k m l:Nat) (d:Nat->Int):Int:=acG gm gi k m (wcG gm gi k d) (k+m) l
theorem Syn_bx (k m l:Nat) (h:k+m<=7) {d e:Nat->Int} (hd:BF d) (he:BF e):Syn k m l (bxF d e)=bx (Syn k m l d) (Syn k m l e):=by
 unfold Syn
 rw [wcG_bx k hd he,acG_bx k m (wcG_B k hd) (wcG_B k he) l (k+m) (by omega)]
theorem dlt_B (j:Nat) {x:Int} (hx:B8 x):BF (dlt j x):=fun a=>by
 unfold dlt
 split
 ·exact hx
 ·exact B8.zero
theorem dlt_bx (j:Nat) (x y:Int):dlt j (bx x y)=bxF (dlt j x) (dlt j y):=by
 funext a
 show (if a=j then bx x y else 0)=bx (if a=j then x else 0) (if a=j then y else 0)
 by_cases h:a=j
 ·rw [if_pos h,if_pos h,if_pos h]
 ·rw [if_neg h,if_neg h,if_neg h]
  exact (bx_zero B8.zero).symm
theorem zero_syn (k m l:Nat) (h:k+m<=7) (j:Nat):Syn k m l (dlt j 0)=0:=by
 have e:bx (0:Int) 0=0:=bx_zero B8.zero
 have h2:=Syn_bx k m l h (dlt_B j B8.zero) (dlt_B j B8.zero)
 rw [<- dlt_bx,e] at h2
 have hB:B8 (Syn k m l (dlt j 0)):=acG_B _ _ _ _ _
 rw [bx_self hB] at h2
 exact h2
def xbt (x:Nat):Nat->Nat
 | 0=>0
 | t+1=>if x.testBit t then xbt x t ^^^ 2 ^ t else xbt x t
theorem xbt_all:∀ x ∈ List.range 256,xbt x 8=x:=by decide +kernel
theorem pow_lt:∀ t ∈ List.range 8,2 ^ t < 256:=by decide
theorem xbt_lt (x:Nat):∀ t,t<=8->xbt x t < 256
 | 0,_=>by show 0 < 256;omega
 | t+1,h=>by
  rw [xbt]
  split
  ·exact xor_lt (xbt_lt x t (by omega)) (pow_lt t (by simp;omega))
  ·exact xbt_lt x t (by omega)
theorem byte_syn {k m l j:Nat} (hk:1<=k) (h:k+m<=7) (hl:l < m) (hj:j < k) (x:Nat):∀ t,t<=8->Syn k m l (dlt j ((xbt x t:Nat):Int))=0
 | 0,_=>zero_syn k m l h j
 | t+1,ht=>by
  have ih:=byte_syn hk h hl hj x t (by omega)
  rw [xbt]
  split
  ·have hp:=pow_lt t (by simp;omega)
   rw [<- bx_nat _ _ (xbt_lt x t (by omega)) hp,dlt_bx,Syn_bx k m l h (dlt_B j (B8.of (xbt_lt x t (by omega)))) (dlt_B j (B8.of hp)),ih]
   have hb:=basis k (by simp;omega) m (by simp;omega) hk h l (by simpa using hl) j (by simpa using hj) t (by simp;omega)
   rw [<- gm_eq,<- gi_eq] at hb
   unfold Syn
   rw [hb]
   exact bx_zero B8.zero
  ·exact ih
theorem dlt_syn {k m l j:Nat} (hk:1<=k) (h:k+m<=7) (hl:l < m) (hj:j < k) {x:Int} (hx:B8 x):Syn k m l (dlt j x)=0:=by
 obtain ⟨n,rfl,hn⟩:=hx.nat
 have h2:=byte_syn hk h hl hj n 8 (by omega)
 rw [xbt_all n (by simpa using hn)] at h2
 exact h2
def cut (d:Nat->Int) (t:Nat):Nat->Int:=fun a=>if a < t then d a else 0
theorem cut_B {d:Nat->Int} (hd:BF d) (t:Nat):BF (cut d t):=fun a=>by
 unfold cut
 split
 ·exact hd a
 ·exact B8.zero
theorem cut_succ {d:Nat->Int} (hd:BF d) (t:Nat):cut d (t+1)=bxF (cut d t) (dlt t (d t)):=by
 funext a
 show (if a < t+1 then d a else 0)=bx (if a < t then d a else 0) (if a=t then d t else 0)
 by_cases h:a=t
 ·subst h
  rw [if_pos (by omega),if_neg (by omega),if_pos rfl,zero_bx (hd a)]
 ·rw [if_neg h]
  by_cases h2:a < t
  ·rw [if_pos (by omega),if_pos h2,bx_zero (hd a)]
  ·rw [if_neg (by omega),if_neg h2,bx_zero B8.zero]
theorem cut_syn {k m l:Nat} (hk:1<=k) (h:k+m<=7) (hl:l < m) {d:Nat->Int} (hd:BF d):∀ t,t<=k->Syn k m l (cut d t)=0
 | 0,_=>by
  have e:cut d 0=dlt 0 0:=by
   funext a
   simp [cut,dlt]
  rw [e]
  exact zero_syn k m l h 0
 | t+1,ht=>by
  rw [cut_succ hd,Syn_bx k m l h (cut_B hd t) (dlt_B t (hd t)),cut_syn hk h hl hd t (by omega),dlt_syn hk h hl (by omega) (hd t)]
  exact bx_zero B8.zero
theorem prG_cut (d:Nat->Int) (i t:Nat):∀ j,j<=t->prG gm gi (cut d t) i j=prG gm gi d i j
 | 0,_=>rfl
 | j+1,h=>by rw [prG,prG,prG_cut d i t j (by omega),cut,if_pos (by omega)]
theorem col_syn {k m l:Nat} (hk:1<=k) (h:k+m<=7) (hl:l < m) {d:Nat->Int} (hd:BF d):Syn k m l d=0:=by
 have h2:=cut_syn hk h hl hd k (Nat.le_refl _)
 have e:wcG gm gi k (cut d k)=wcG gm gi k d:=by
  funext i
  unfold wcG
  by_cases hi:i < k
  ·rw [if_pos hi,if_pos hi,cut,if_pos hi]
  ·rw [if_neg hi,if_neg hi,prG_cut d i k k (Nat.le_refl _)]
 unfold Syn at h2 ⊢
 rw [e] at h2
 exact h2
theorem rd_map {N:Nat} (f:Nat->Int) {i:Nat} (h:i < N):rd ((List.range N).map f) (i:Int)=f i:=by simp [rd,List.getD,h]
theorem rb_map {N:Nat} (f:Nat->Bool) {i:Nat} (h:i < N):rb ((List.range N).map f) i=f i:=by simp [rb,List.getD,h]
theorem rb_none {l:List Bool} {i:Nat} (h:l.length<=i):rb l i=false:=by simp [rb,List.getD,List.getElem?_eq_none h]
theorem known_none {miss:List Bool} (h:∀ i,rb miss i=false) (n:Nat):known miss n=[]:=by
 unfold known
 rw [List.filter_eq_nil_iff.2 (fun a _=>by rw [h a];simp)]
 rfl
theorem out0_none {word:List Int} {miss:List Bool} (h:∀ i,rb miss i=false) {N:Nat} (hN:word.length=N) (n:Nat):out0 word miss N n=word:=by
 subst hN
 have e:out0 word miss word.length n=out0 word miss word.length 0:=List.map_congr_left (fun j _=>by rw [h j];simp)
 rw [e]
 exact out0_zero word miss
theorem ev_one (x:Int):evL [1] x=1:=by
 show bx (gm 0 x) 1=1
 rw [gm_z]
 exact zero_bx ⟨by omega,by omega⟩
theorem outs_one (k m:Nat) (out o slope:List Int):∀ i,outs k m out [1] o slope i=out
 | 0=>rfl
 | i+1=>by rw [outs,ev_one,if_neg (by omega),outs_one k m out o slope i]
theorem rts_one:∀ i,rts [1] i=0
 | 0=>rfl
 | i+1=>by rw [rts,ev_one,if_neg (by omega),rts_one i]
theorem f1:PAll.poly_sum.f 100 (mulRows [1] [1] ([1]:List Int).length)=some [1]:=by decide +kernel
theorem f2:∀ m ∈ List.range 7,PAll.poly_sum.f 100 (mulRows [1] (List.replicate m (0:Int)).reverse (List.replicate m (0:Int)).length)=some []:=by decide +kernel
theorem f3:∀ m ∈ List.range 7,PAll.slices_Reverse_byte_byte.f 100 (List.replicate m (0:Int))=some (List.replicate m (0:Int)).reverse:=by decide +kernel
theorem f4:PAll.poly_Norm.f 100 [1]=some [1]:=by decide +kernel
theorem f5:PAll.poly_Norm.f 100 []=some []:=by decide +kernel
theorem f6:PAll.poly_sum.f 100 (mulRows [1] [] ([]:List Int).length)=some []:=by decide +kernel
theorem f7:PAll.poly_Deriv.f 100 [1]=some []:=by decide +kernel
theorem byte_nil:byteL []:=fun x hx=>by simp at hx
theorem byte_one:byteL [1]:=fun x hx=>by
 have:x=1:=by simpa using hx
 omega
theorem byte_rep (m:Nat):byteL (List.replicate m 0):=fun x hx=>by
 have:=(List.mem_replicate.1 hx).2
 omega
theorem sol0 (m:Nat) (hm:m<=6):SolF (List.replicate m 0) [1] [1] [] [] [] [] 0 where
 norm:=f4
 glen:=rfl
 em:=Nat.zero_le _
 rev:=f3 m (by simp;omega)
 prod:=f2 m (by simp;omega)
 hig:=by rw [List.take_nil];exact f5
 hlen:=Nat.le_refl _
 one:=f1
 all:=f6
 top:=by rw [List.drop_nil];exact f5
 bs:=byte_rep m
 bg:=byte_one
 bp:=byte_nil
 ls:=by simp;omega
 lp:=by simp
 lp2:=by simp
 le:=by omega
theorem word0 {k m:Nat} (hk:1<=k) (hkm:k+m<=7) (word:List Int) (miss:List Bool) (hl:word.length=k+m) (hml:miss.length=k+m) (hb:byteL word) (hm:∀ i,rb miss i=false) (hs:∀ l,l < m->acc k m word (k+m) l=0) :
  WordF k m word miss (fun _=>[1]) (List.replicate m 0) [1] [] [] [] [] [1] [] 0 where
 hk:=hk
 hkm:=hkm
 lw:=hl
 lm:=hml
 bw:=hb
 kn:=by rw [known_none hm];simp
 hs:=by rw [out0_none hm hl,acc_zero hs]
 l0:=rfl
 ls:=fun i hi=>by rw [known_none hm] at hi;simp at hi
 lb:=fun i hi=>⟨byte_one,by simp⟩
 sol:=sol0 m (by omega)
 mul:=f1
 der:=f7
 bf:=byte_one
 bo:=byte_nil
 bsl:=byte_nil
 lf:=by simp
 lo:=by simp
 lsl:=by simp
 root:=fun i hi h=>by rw [ev_one] at h;omega
 rtn:=by rw [rts_one];rfl
 fin:=fun l h=>by rw [outs_one,out0_none hm hl];exact hs l h
theorem enc_at {k m L:Nat} (D:List (List Int)) {n:Nat} (hn:n < L) {i:Nat} (hi:k<=i) (hi2:i < k+m):∀ j,rd (encA k m L D j i) (n:Int)=prG gm gi (fun a=>rd (D.getD a []) (n:Int)) i j
 | 0=>by
  show rd (if i < k then D.getD i [] else List.replicate L 0) (n:Int)=0
  rw [if_neg (by omega)]
  simp [rd,List.getD,hn]
 | j+1=>by
  rw [encA,addA,if_pos ⟨hi,hi2⟩,rd_map _ hn,addF,enc_at D hn hi hi2 j,prG]
  rfl
theorem enc_col {k m L:Nat} (D:List (List Int)) {n:Nat} (hn:n < L) {i:Nat} (hi:i < k+m):rd (encA k m L D k i) (n:Int)=wcG gm gi k (fun a=>rd (D.getD a []) (n:Int)) i:=by
 unfold wcG
 by_cases h:i < k
 ·rw [if_pos h,encA_data k m L D k i h]
 ·rw [if_neg h,enc_at D hn (by omega) hi k]
theorem enc_right {k m N L:Nat} (hk:1<=k) (hkm:k+m=N) (hN:N<=7) (D:List (List Int)) (hD:∀ j,byteL (D.getD j [])) (hl:∀ j,j < k->(D.getD j []).length=L) :
  Right k m N L (List.replicate N true) ((List.range N).map (encA k m L D k)) (fun n=>(List.range N).map (wdF (List.replicate N true) ((List.range N).map (encA k m L D k)) n)):=by
 intro n hn
 have hh:∀ i,i < N->rb (List.replicate N true) i=true:=fun i hi=>by simp [rb,List.getD,hi]
 have hw:∀ i,i < N->wdF (List.replicate N true) ((List.range N).map (encA k m L D k)) n i=wcG gm gi k (fun a=>rd (D.getD a []) (n:Int)) i:=fun i hi=>by
  have e:=enc_col (k:=k) (m:=m) (L:=L) D hn (i:=i) (by omega)
  rw [wdF,if_pos (hh i hi),<- e]
  simp [List.getD,hi]
 have hB:BF (fun a=>rd (D.getD a []) (n:Int)):=fun a=>byteL_rd (hD a) n
 have hm:∀ i,rb ((List.range N).map (msF (List.replicate N true))) i=false:=fun i=>by
  by_cases hi:i < N
  ·rw [rb_map _ hi,msF,hh i hi];rfl
  ·exact rb_none (by simp;omega)
 have hb:byteL ((List.range N).map (wdF (List.replicate N true) ((List.range N).map (encA k m L D k)) n)):=fun x hx=>by
  obtain ⟨i,hi,rfl⟩:=List.mem_map.1 hx
  rw [hw i (by simpa using hi)]
  exact wcG_B k hB i
 refine ⟨_,_,_,_,_,_,_,_,_,_,word0 hk (by omega) _ _ (by simp;omega) (by simp;omega) hb hm (fun l hlm=>?_),?_⟩
 ·rw [ac_G k m l (k+m) (f:=wcG gm gi k (fun a=>rd (D.getD a []) (n:Int))) (fun i hi=>by rw [rd_map _ (by omega)];exact hw i (by omega))]
  exact col_syn hk (by omega) hlm hB
 ·rw [outs_one,out0_none hm (by simp;omega)]
theorem enc_same {k m N L:Nat} (hkm:k+m=N) (D:List (List Int)) (hl:∀ j,j < k->(D.getD j []).length=L) :
  (List.range N).map (colR (fun n=>(List.range N).map (wdF (List.replicate N true) ((List.range N).map (encA k m L D k)) n)) L)=(List.range N).map (encA k m L D k):=by
 refine List.map_congr_left (fun i hi=>?_)
 have hi:i < N:=by simpa using hi
 have hh:rb (List.replicate N true) i=true:=by simp [rb,List.getD,hi]
 have hlen:(encA k m L D k i).length=L:=by
  by_cases h:i < k
  ·rw [encA_data k m L D k i h];exact hl i h
  ·exact encA_len k m L D k i (by omega)
 unfold colR
 rw [<- range_rd hlen]
 refine List.map_congr_left (fun n hn=>?_)
 rw [rd_map _ hi,wdF,if_pos hh]
 simp [List.getD,hi,range_rd hlen]
def locA (i:Nat):List Int:=if i=0 then [1] else [0,1]
theorem dB {l:List Int} (h:l.all (fun x=>decide (0<=x) && decide (x<=255))=true):byteL l:=fun x hx=>by
 have h2:=List.all_eq_true.1 h x hx
 rw [Bool.and_eq_true,decide_eq_true_iff,decide_eq_true_iff] at h2
 exact h2
set_option maxRecDepth 100000 in
theorem solA:SolF [7] [0,1] [0,1] [0,7] [] [0,7] [7] 1 where
 norm:=by decide +kernel
 glen:=rfl
 em:=by decide
 rev:=by decide +kernel
 prod:=by decide +kernel
 hig:=by decide +kernel
 hlen:=by decide
 one:=f1
 all:=by decide +kernel
 top:=by decide +kernel
 bs:=dB (by decide)
 bg:=dB (by decide)
 bp:=dB (by decide)
 ls:=by decide
 lp:=by decide
 lp2:=by decide
 le:=by decide
set_option maxRecDepth 100000 in
theorem wordA:WordF 1 1 [0,7] [true,false] locA [7] [0,1] [0,7] [] [0,7] [7] [0,1] [1] 1 where
 hk:=by decide
 hkm:=by decide
 lw:=rfl
 lm:=rfl
 bw:=dB (by decide)
 kn:=by decide
 hs:=by decide +kernel
 l0:=rfl
 ls:=fun i hi=>by
  have hi:i < 1:=hi
  have e:i=0:=by omega
  subst e
  decide +kernel
 lb:=fun i hi=>by
  unfold locA
  split
  ·exact ⟨byte_one,by decide⟩
  ·exact ⟨dB (by decide),by decide⟩
 sol:=solA
 mul:=by decide +kernel
 der:=by decide +kernel
 bf:=dB (by decide)
 bo:=dB (by decide)
 bsl:=dB (by decide)
 lf:=by decide
 lo:=by decide
 lsl:=by decide
 root:=by
  have h:∀ i ∈ List.range 2,evL [0,1] (i:Int)=0->rb [true,false] i=true/\1<=gm (evL [1] (i:Int)) (wgt 1 1 i):=by decide +kernel
  exact fun i hi=>h i (by simpa using hi)
 rtn:=by decide +kernel
 fin:=by
  have h:∀ l ∈ List.range 1,acc 1 1 (outs 1 1 (out0 [0,7] [true,false] (1+1) (1+1)) [0,1] [7] [1] (1+1)) (1+1) l=0:=by decide +kernel
  exact fun l hl=>h l (by simpa using hl)
theorem outA:outs 1 1 (out0 [0,7] [true,false] (1+1) (1+1)) [0,1] [7] [1] (1+1)=[7,7]:=by decide +kernel
theorem rightA (x:List Int):Right 1 1 2 1 [false,true] [x,[7]] (fun _=>[7,7]):=fun n hn=>by
 have e:n=0:=by omega
 subst e
 exact ⟨_,_,_,_,_,_,_,_,_,_,wordA,outA.symm⟩
end Go.Proofs.YtmmcbncpnlknbaaGreat.Top
