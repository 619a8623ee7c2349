import Derived.Test.YtmmcbncpnlknbaaGreatF20
set_option linter.unusedVariables false
set_option linter.unusedSimpArgs false
namespace Go.Proofs.YtmmcbncpnlknbaaGreat.Top
open Go Go.RowKit Go.Proofs.YtmmcbncpnlknbaaGreatW.PrintWords Go.Proofs.YtmmcbncpnlknbaaGreatW.PrintLast Go.Proofs.YtmmcbncpnlknbaaGreatW.PrintMore
theorem pack_ok {w:World} {ad ep:Int} {A:Option Addr} {c:Nat} {l:List Int} (hm:SecA.May ad ep l) (hc:l.length<=c) (hC:(Kd.int .u8).C w A l.length l) :
  Calls Tryz.prog 77 #[.int .i64 ad,.int .i64 ep,.slice A l.length c] w fun e w'=>∃ v,e=.returned (.tuple #[v,.int .i64 0])/\Kd.R (Kd.int .u8) 5 w' w.heap.size (fun _=>True) v (SecA.sect ad ep l)/\Below w.heap.size w w':=by
 obtain ⟨k,hk⟩:=SecA.pack ad ep l
 have e:=hk k (Nat.le_refl _)
 rw [show SecA.packM ad ep l=(SecA.sect ad ep l,0) from if_pos hm] at e
 exact PAll.sector_Pack.calls k ad ep A c l _ _ w hC hc e
theorem ln_cells {w:World} {g a f:Nat} {K M Z T L O st ep:Int} (h:w.heap[g]?=some (.cells (lineC a f K M Z T L O st ep) 208 (0,0))) :
  w.cell? ⟨g,0,none⟩=some (.pointer (some ⟨a,0,none⟩))/\w.cell? ⟨g,1,none⟩=some (.pointer (some ⟨f,0,none⟩))/\w.cell? ⟨g,2,none⟩=some (.int .i64 K)/\w.cell? ⟨g,3,none⟩=some (.int .i64 M)/\w.cell? ⟨g,4,none⟩=some (.int .i64 Z)/\w.cell? ⟨g,5,none⟩=some (.int .i64 T)/\w.cell? ⟨g,6,none⟩=some (.int .i64 L)/\w.cell? ⟨g,7,none⟩=some (.int .i64 O)/\w.cell? ⟨g,8,none⟩=some (.int .i64 st)/\w.cell? ⟨g,9,none⟩=some (.int .i64 ep):=by
 simp [World.cell?,h,lineC]
theorem swrite {B n Tk d:Nat} {w:World} {a:Nat} {S:Nat->Prop} {sec ad ep:Int} {dead:Nat->Bool} {E:Nat->Int->List Int} {cl:Bool} (hx:Ax B w a S sec n Tk dead E cl) (hdn:d < n) (hl:dead d=false) (hT:Tk+1<=1000000) (h0:0<=ad) (hsec:ad < sec) {l:List Int} (hll:l.length<=4096) {v:Value} (hv:Bs w v (SecA.sect ad ep l)) :
  Calls Tryz.prog 51 #[.pointer (some ⟨a,0,none⟩),.int .i64 d,.int .i64 ad,v] w fun e w'=>e=.returned (.int .i64 0)/\Ax B w' a S sec n (Tk+1) dead (updE E d ad (SecA.sect ad ep l)) false/\Gs S w w':=by
 have hlen:=SecA.sect_len ad ep l
 obtain ⟨A1,c1,rfl,hc1,hC1⟩:=hv
 exact hx.write d hdn hl hT ad h0 hsec A1 c1 _ hc1 hC1 (by omega) (by omega)
set_option maxRecDepth 100000 in
set_option maxHeartbeats 4000000 in
theorem lput_ok {K M Z T L O st ep:Int} {B n Tk:Nat} {w:World} {a:Nat} {S:Nat->Prop} {sec:Int} {dead:Nat->Bool} {E:Nat->Int->List Int} {cl:Bool} (hx:Ax B w a S sec n Tk dead E cl) (f:Nat) (hg:LayA.Good K M Z T L O) (hs:0<=st/\st < T)
  (d h:Nat) (hh:(h:Int) < K+M) (hd:((h:Int)+st) % (K+M)=d) (hdn:d < n) (hl:dead d=false) (hT:Tk+1<=1000000) (hsec:5+L+st < sec) (A:Option Addr) (c:Nat) (l:List Int) (hm:SecA.May (5+L+st) ep l) (hc:l.length<=c) (hC:(Kd.int .u8).C w A l.length l) :
  Calls Tryz.prog 126 #[lineV a f K M Z T L O st ep,.int .i64 h,.slice A l.length c] w fun e w'=>e=.returned (.int .i64 0)/\Ax B w' a S sec n (Tk+1) dead (updE E d (5+L+st) (SecA.sect (5+L+st) ep l)) false/\Gs S w w':=by
 have hg':=hg
 unfold LayA.Good at hg'
 have HA:=Aside0.mk (fun W=>lat_ok (O:=O) (Z:=Z) (ep:=ep) a f hg hs W)
 have HD:=Aside0.mk (fun W=>disk_ok (O:=O) (Z:=Z) (h:=h) hg hs ⟨by omega,hh⟩ W)
 rw [hd] at HD
 have HP:=Aside0.mk (fun W (hb:Below w.heap.size w W)=>pack_ok (w:=W) hm hc (Kd.C_below hC hb))
 have HW:=Aside0.mk (fun W (hb:Below w.heap.size w W) (v:Value) (hv:Bs W v (SecA.sect (5+L+st) ep l))=>swrite (hx.below hb) hdn hl hT (show 0<=5+L+st by omega) hsec hm.2.2 hv)
 unfold lineV lineC at HA ⊢
 unfold geoV at HD
 clear hx hg hs hh hd hdn hl hT hsec hm hc hC hg'
 go_enter Tryz.func126,Tryz.ntmps126
 go_wp2
 go_cut [7,8] from 53 to 53 (fun x7 x8 wx=>Bs wx x7 (SecA.sect (5+L+st) ep l)/\x8=.int .i64 0/\wx.heap[w.heap.size]?=some (.cells (lineC a f K M Z T L O st ep) 208 (0,0))/\Below w.heap.size w wx)
 case first =>
  go_region_law (first|(go_simp;go_at_call 77;go_loud (refine (HP.out _ ?qb).mono ?_;(case qb=>exact HB1.out);rintro e2 w2 ⟨v,rfl,hr,hb2⟩;have HV:=Aside0.mk (Bs.of_R hr);have hrc2:=fun p (hp:Addr.block p < _)=>hb2.cell hp;have hrf2:=fun p (hp:Addr.block p < _)=>hb2.frozen hp;have hsz2:=hb2.size;(try simp at hsz2);have hl2:w.heap.size < w2.heap.size:=(by omega);have HK2:=Aside0.mk (show w2.heap[w.heap.size]?=some (.cells (lineC a f K M Z T L O st ep) 208 (0,0)) from (hb2.block _ hl1).trans HK1.out);have HB2:=Aside0.mk (show Below w.heap.size w w2 from below_step HB1.out hb2);clear hr hb2))|(go_simp;go_at_call 148;go_loud (refine (HA.out _).mono ?_;rintro e1 w1 ⟨rfl,hb1⟩;have hrc1:=fun p (hp:Addr.block p < _)=>hb1.cell hp;have hrf1:=fun p (hp:Addr.block p < _)=>hb1.frozen hp;have hsz1:=hb1.size;(try simp at hsz1);have hl1:w.heap.size < w1.heap.size:=(by omega);have HK1:=Aside0.mk (show w1.heap[w.heap.size]?=some (.cells (lineC a f K M Z T L O st ep) 208 (0,0)) from (hb1.block _ (by simp)).trans (heap_alloc_new _ _));have HB1:=Aside0.mk (show Below w.heap.size w w1 from below_step (by (repeat (first|(with_reducible first|exact Below.refl _ _|apply below_alloc|apply pw_below_drewN|apply below_drew1)|exact Below.refl _ _))) hb1);clear hb1)))
  all_goals (go_wp2;go_meet;exact ⟨HV.out,rfl,HK2.out,HB2.out⟩)
 case rest =>
  obtain ⟨hv,rfl,hk,hb⟩:=hcut
  have HV:=Aside0.mk hv
  have HK2:=Aside0.mk hk
  have HB2:=Aside0.mk hb
  have hl2':=(Array.getElem?_eq_some_iff.1 hk).1
  obtain ⟨x0,x1,x2,x3,x4,x5,x6,x7,x8,x9⟩:=ln_cells hk
  clear hk hv hb
  go_wp2
  go_region_law (first|(go_simp;go_at_call 51;go_loud (refine (HW.out _ HB4.out _ (HV.out.below HC4.out)).mono ?_;rintro e5 w5 ⟨rfl,hx5,hg5⟩;have HX:=Aside0.mk (And.intro hx5 ((Gs.of_below HB4.out).trans hg5));clear hx5 hg5))|(go_simp;go_at_call 148;go_loud (refine (HA.out _).mono ?_;rintro e4 w4 ⟨rfl,hb4⟩;have hk4:=((hb4.block w.heap.size hl3).trans HK3.out:w4.heap[w.heap.size]?=some (.cells (lineC a f K M Z T L O st ep) 208 (0,0)));obtain ⟨z0,z1,z2,z3,z4,z5,z6,z7,z8,z9⟩:=ln_cells hk4;clear hk4;have HC4:=Aside0.mk (show Below wc.heap.size wc w4 from below_step (by (repeat (first|(with_reducible first|exact Below.refl _ _|exact HC3.out|apply below_alloc|apply pw_below_drewN|apply below_drew1)|exact Below.refl _ _))) hb4);have HB4:=Aside0.mk (below_step HB2.out HC4.out);clear hb4))|(go_simp;go_at_call 149;go_loud (refine (HD.out _).mono ?_;rintro e3 w3 ⟨rfl,hb3⟩;have hk3:=((hb3.block w.heap.size hl2').trans HK2.out:w3.heap[w.heap.size]?=some (.cells (lineC a f K M Z T L O st ep) 208 (0,0)));have hl3:=(Array.getElem?_eq_some_iff.1 hk3).1;obtain ⟨y0,y1,y2,y3,y4,y5,y6,y7,y8,y9⟩:=ln_cells hk3;have HK3:=Aside0.mk hk3;clear hk3;have HC3:=Aside0.mk (show Below wc.heap.size wc w3 from below_step (by (repeat (first|(with_reducible first|exact Below.refl _ _|apply below_alloc|apply pw_below_drewN|apply below_drew1)|exact Below.refl _ _))) hb3);clear hb3)))
  all_goals (
   go_wp2
   go_ret
   exact ⟨rfl,HX.out.1,HX.out.2⟩)
theorem argued_ok (W:World):Calls Tryz.prog 143 #[.bool true] W fun e w'=>e=.returned (.int .i64 0)/\Below W.heap.size W w':=(PAll.stripeio_argued.calls true 0 W rfl).mono (by rintro e w' ⟨h1,n,rfl⟩;exact ⟨h1,pw_below_drewN (Below.refl _ _) _⟩)
theorem first3 (W:World):Calls Tryz.prog 123 #[.slice (some ⟨W.heap.size,0,none⟩) 3 3] (W.alloc (.cells #[.int .i64 0,.int .i64 0,.int .i64 0] 31)) fun e w'=>e=.returned (.int .i64 0)/\Below (W.alloc (.cells #[.int .i64 0,.int .i64 0,.int .i64 0] 31)).heap.size (W.alloc (.cells #[.int .i64 0,.int .i64 0,.int .i64 0] 31)) w':=by
 have hC:(Kd.int .i64).C (W.alloc (.cells #[.int .i64 0,.int .i64 0,.int .i64 0] 31)) (some ⟨W.heap.size,0,none⟩) ([0,0,0]:List Int).length [0,0,0]:=by
  refine Kd.C_of_reads (d:=0) ⟨rfl,by simp,fun _=>⟨_,rfl,fun j hj=>?_⟩⟩
  rw [add_plain]
  have h:=heap_alloc_new W (Obj.cells #[.int .i64 0,.int .i64 0,.int .i64 0] 31)
  have hj3:j < 3:=by simpa using hj
  match j,hj3 with
  | 0,_=>simp only [World.cell?,h];rfl
  | 1,_=>simp only [World.cell?,h];rfl
  | 2,_=>simp only [World.cell?,h];rfl
 exact (PAll.stripeio_first.calls 100 _ 3 [0,0,0] 0 _ hC (by simp) (by decide +kernel)).mono (by rintro e w' ⟨h1,n,rfl⟩;exact ⟨h1,pw_below_drewN (Below.refl _ _) _⟩)
def Lh (w W:World) (a f:Nat) (K M Z T L O st ep:Int):Prop:=W.heap[w.heap.size]?=some (.cells (lineC a f K M Z T L O st ep) 208 (0,0))/\Below w.heap.size w W
theorem Lh.all {w W:World} {a f:Nat} {K M Z T L O st ep:Int} (h:Lh w W a f K M Z T L O st ep):W.cell? ⟨w.heap.size,0,none⟩=some (.pointer (some ⟨a,0,none⟩))/\W.cell? ⟨w.heap.size,1,none⟩=some (.pointer (some ⟨f,0,none⟩))/\W.cell? ⟨w.heap.size,2,none⟩=some (.int .i64 K)/\W.cell? ⟨w.heap.size,3,none⟩=some (.int .i64 M)/\W.cell? ⟨w.heap.size,4,none⟩=some (.int .i64 Z)/\W.cell? ⟨w.heap.size,5,none⟩=some (.int .i64 T)/\W.cell? ⟨w.heap.size,6,none⟩=some (.int .i64 L)/\W.cell? ⟨w.heap.size,7,none⟩=some (.int .i64 O)/\W.cell? ⟨w.heap.size,8,none⟩=some (.int .i64 st)/\W.cell? ⟨w.heap.size,9,none⟩=some (.int .i64 ep)/\Below w.heap.size w W:=by
 obtain ⟨x0,x1,x2,x3,x4,x5,x6,x7,x8,x9⟩:=ln_cells h.1
 exact ⟨x0,x1,x2,x3,x4,x5,x6,x7,x8,x9,h.2⟩
theorem Lh.step {w W W':World} {a f:Nat} {K M Z T L O st ep:Int} (h:Lh w W a f K M Z T L O st ep) (hb:Below W.heap.size W W'):Lh w W' a f K M Z T L O st ep :=
 ⟨(hb.block _ (Array.getElem?_eq_some_iff.1 h.1).1).trans h.1,below_step h.2 hb⟩
set_option maxRecDepth 100000 in
set_option maxHeartbeats 2000000 in
theorem lcheck_ok {K M Z T L O st ep:Int} (a f:Nat) (hg:LayA.Good K M Z T L O) (hs:0<=st/\st < T) (he:0<=ep/\ep<=2147483647) (w:World) :
  Calls Tryz.prog 122 #[lineV a f K M Z T L O st ep] w fun e w'=>e=.returned (.int .i64 0)/\Below w.heap.size w w':=by
 have HG:=Aside0.mk (fun W=>gcheck_ok hg W)
 obtain ⟨s0,s1⟩:=hs
 obtain ⟨e0,e1⟩:=he
 have HL0:=Aside0.mk (show Lh w (w.alloc (.cells (lineC a f K M Z T L O st ep) 208)).drew a f K M Z T L O st ep from ⟨heap_alloc_new w _,below_drew1 (below_alloc (Below.refl w.heap.size w) _)⟩)
 have HF:=Aside0.mk first3
 unfold geoV at HG
 unfold lineV
 unfold lineC at HL0 ⊢
 clear hg
 go_enter Tryz.func122,Tryz.ntmps122
 go_wp2
 go_region_held3 (fun W=>W.cell? ⟨w.heap.size,0,none⟩=some (.pointer (some ⟨a,0,none⟩))/\W.cell? ⟨w.heap.size,1,none⟩=some (.pointer (some ⟨f,0,none⟩))/\W.cell? ⟨w.heap.size,2,none⟩=some (.int .i64 K)/\W.cell? ⟨w.heap.size,3,none⟩=some (.int .i64 M)/\W.cell? ⟨w.heap.size,4,none⟩=some (.int .i64 Z)/\W.cell? ⟨w.heap.size,5,none⟩=some (.int .i64 T)/\W.cell? ⟨w.heap.size,6,none⟩=some (.int .i64 L)/\W.cell? ⟨w.heap.size,7,none⟩=some (.int .i64 O)/\W.cell? ⟨w.heap.size,8,none⟩=some (.int .i64 st)/\W.cell? ⟨w.heap.size,9,none⟩=some (.int .i64 ep)/\Below w.heap.size w W) (first|exact HL4.out.all|(exact (HL3.out.step (below_alloc (Below.refl _ _) _)).all)|exact HL3.out.all|exact HL2.out.all|exact HL1.out.all|exact HL0.out.all) (first|(go_at_call 123;go_loud (refine (HF.out _).mono ?_;rintro e4 w4 ⟨rfl,hb4⟩;have HL4:=Aside0.mk ((HL3.out.step (below_alloc (Below.refl _ _) _)).step hb4);clear hb4))|(go_at_call 143;refine (argued_ok _).mono ?_;rintro e3 w3 ⟨rfl,hb3⟩;have HL3:=Aside0.mk (HL2.out.step hb3);clear hb3)|(go_at_call 12;go_loud (refine (HG.out _).mono ?_;rintro e2 w2 ⟨rfl,hb2⟩;have HL2:=Aside0.mk (HL1.out.step hb2);clear hb2))|(go_at_call 143;go_loud (refine (argued_ok _).mono ?_;rintro e1 w1 ⟨rfl,hb1⟩;have HL1:=Aside0.mk (HL0.out.step hb1);clear hb1)))
 go_wp2
 go_ret
 exact ⟨rfl,HL4.out.2⟩
set_option maxRecDepth 100000 in
theorem chunk_ok (w:World) (A:Option Addr) (n c:Nat) (Z:Int) (hZ:1<=Z) :
  Calls Tryz.prog 124 #[.slice A n c,.int .i64 Z] w fun e w'=>e=.returned (.func (.func 144) #[] #[.pointer (some ⟨w.heap.size,0,none⟩),.pointer (some ⟨w.heap.size+1,0,none⟩)])/\w'=(w.alloc (.cells #[.slice A n c] 36)).alloc (.cells #[.int .i64 Z] 3):=by
 have h1:¬ Z < 1:=by omega
 go_enter Tryz.func124,Tryz.ntmps124
 go_wp2
 go_ret
 exact ⟨rfl,rfl⟩
theorem appended2 {W w1:World} {n₀ B:Nat} {t e:TypeId} {size:Nat} {v v':Value} {k m:Nat} {xs ys:List Value} {tmp:Obj}
  (hv:Boxed W B t v) (hte:t≠e) (hrow:W.ownsRow n₀ e size v k xs) (hn₀:n₀<=W.heap.size)
  (hown':w1.ownsRow n₀ e size v' m ys) (hgrow:(W.alloc tmp).grownBy w1 v.ownBlock) :
  Boxed w1 B t v/\Boxed (w1.setCell ⟨B,0,none⟩ v') B t v'/\(w1.setCell ⟨B,0,none⟩ v').ownsRow n₀ e size v' m ys/\KeepsOthers W (w1.setCell ⟨B,0,none⟩ v')/\Gs (fun k=>n₀<=k∨k=B) W (w1.setCell ⟨B,0,none⟩ v'):=by
 have hv1:Boxed w1 B t v:=(hv.alloc tmp).kept hgrow (hv.not_row hte hrow)
 refine ⟨hv1,hv1.set v',hown'.kept (grownBy_setCell' w1 B v') (.inr (hv1.not_row hte hown').symm),?_,?_⟩
 ·refine ((KeepsOthers.alloc W tmp).trans (KeepsOthers.of_grownBy hgrow fun j o ej hj=>?_)).trans (KeepsOthers.setCell _ _ _)
  rcases (hrow.alloc tmp).2 with ⟨rfl,_⟩|⟨g,cap,cur,rfl,_,hgb,_⟩
  ·simp [Value.ownBlock] at ej
  ·obtain rfl:g=j:=by simpa [Value.ownBlock] using ej
   rw [hgb] at hj;cases hj;rfl
 ·refine ((Gs.of_below (below_alloc (Below.refl _ W) tmp)).step hgrow (fun j ej=>?_)).step (grownBy_setCell' w1 B v') (fun j ej=>?_)
  ·rcases hrow.2 with ⟨rfl,_⟩|⟨g,cap,cur,rfl,hb,_,_⟩
   ·simp [Value.ownBlock] at ej
   ·obtain rfl:g=j:=by simpa [Value.ownBlock] using ej
    exact .inr (.inl hb)
  ·cases ej
   exact .inr (.inr rfl)
theorem Gs.but {w1 W W':World} {B:Nat} (h:Gs (fun k=>k=B) w1 W) (h2:Gs (fun k=>w1.heap.size<=k∨k=B) W W'):Gs (fun k=>k=B) w1 W' :=
 ⟨h2.os.trans h.os,h2.tape.trans h.tape,h2.output.trans h.output,Nat.le_trans h.size h2.size,fun k hk hn=>(h2.block k (Nat.lt_of_lt_of_le hk h.size) (fun e=>by
  rcases e with e|e
  ·omega
  ·exact hn e)).trans (h.block k hk hn)⟩
theorem ownFrom_gs {β:Type} (S:Nat->Prop) (w1:World):OwnFrom w1.heap.size (fun (_:β) W=>Gs S w1 W):=fun _ _ _ _ hs hg hr=>hs.step hg (fun j e=>.inl (hr j e).1)
def part (l:List Int) (Z i:Nat):List Int:=(l.take (i*Z+Z)).drop (i*Z)
theorem part_len {l:List Int} {K Z i:Nat} (hl:l.length=K*Z) (hi:i < K):(part l Z i).length=Z:=by
 have h:i*Z+Z<=K*Z:=by rw [<- Nat.succ_mul];exact Nat.mul_le_mul_right Z hi
 unfold part
 rw [List.length_drop,List.length_take]
 omega
theorem part_C {w:World} {ad:Addr} {c:Nat} {l:List Int} {K Z i:Nat} (hl:l.length=K*Z) (hi:i < K) (hZ:1<=Z) (hc:l.length<=c) (hC:(Kd.int .u8).C w (some ad) l.length l):(Kd.int .u8).C w (some (ad.add (i*Z))) Z (part l Z i):=by
 have h:i*Z+Z<=K*Z:=by rw [<- Nat.succ_mul];exact Nat.mul_le_mul_right Z hi
 have h1:=Kd.C_mid (c:=c) hC (Nat.le_add_right (i*Z) Z) (by omega) hc
 rw [if_neg (by omega)] at h1
 have h2:=part_len hl hi
 unfold part at h2 ⊢
 rw [h2] at h1
 simpa [show (Kd.int .u8).sz=1 from rfl] using h1
theorem rs_parts {W:World} {base:Nat} {v:Value} {ad:Addr} {c K Z:Nat} {l:List Int} (hl:l.length=K*Z) (hK:1<=K/\K<=1000) (hZ:1<=Z) (hc:l.length<=c) (hC:(Kd.int .u8).C W (some ad) l.length l)
  (hr:W.ownsRow base 36 1 v (List.range K).length ((List.range K).map (fun i=>(encP ad Z i).getD 0 undef))):Rs W v ((List.range K).map (part l Z)):=by
 rw [List.length_range] at hr
 obtain ⟨_,⟨rfl,h0⟩|⟨g,cap,cur,rfl,hg,hh,hcp,_,hs,ht⟩⟩:=hr
 ·omega
 ·refine ⟨some ⟨g,0,none⟩,cap,by simp,by simpa using hcp,?_,?_,fun _=>⟨_,rfl,fun j p hj=>?_⟩⟩
  ·simp
  ·simp [maxLen];omega
  ·obtain ⟨hj1,hj2⟩:=List.getElem?_eq_some_iff.1 hj
   have hjN:j < K:=by simpa using hj1
   have e:p=part l Z j:=by rw [<- hj2];simp
   have hx:cur[j]?=some (.slice (some (ad.add (j*Z))) Z Z):=by
    have h1:((List.range K).map (fun i=>(encP ad Z i).getD 0 undef))[j]?=some (.slice (some (ad.add (j*Z))) Z Z):=by simp [List.getElem?_map,List.getElem?_range hjN,encP]
    rw [<- ht,List.getElem?_take] at h1
    split at h1
    ·simpa using h1
    ·cases h1
   have hp:=part_C hl hjN hZ hc hC
   have hpl:=part_len hl hjN
   refine ⟨[.slice (some (ad.add (j*Z))) Z Z],rfl,⟨some (ad.add (j*Z)),Z,by rw [e,hpl],by rw [e,hpl];exact Nat.le_refl _,by rw [e,hpl];exact hp⟩,fun i u hu=>?_⟩
   cases i with
   | zero =>
    have hu:Value.slice (some (ad.add (j*Z))) Z Z=u:=by simpa using hu
    rw [<- hu,add_plain]
    simp [World.cell?,hh,hx,show (Kd.slice 5 (Kd.int .u8)).sz=1 from rfl]
   | succ i=>simp at hu
def wrE (E:Nat->Int->List Int) (n:Nat) (st ad ep:Int) (rows:Nat->List Int):Nat->Nat->Int->List Int
 | 0=>E
 | i+1=>updE (wrE E n st ad ep rows i) (((i:Int)+st) % n).toNat ad (SecA.sect ad ep (rows i))
theorem Gs.below {S:Nat->Prop} {n:Nat} {w W:World} (h:Gs S w W) (hS:∀ k,S k->n<=k) (hn:n<=w.heap.size):Below n w W :=
 ⟨h.os,h.tape,h.output,h.size,fun k hk=>h.block k (Nat.lt_of_lt_of_le hk hn) (fun e=>Nat.not_le.2 hk (hS k e))⟩
theorem getD_rows {n:Nat} (f:Nat->List Int) {i:Nat} (h:i < n):((List.range n).map f).getD i []=f i:=by simp [h]
theorem RsV.form {b n:Nat} {w:World} {v:Value} {l:List (List Int)} (h:RsV b w v l) (hn:l.length=n):∃ A c,v=.slice A n c:=by
 obtain ⟨A,c,e,_,_⟩:=h
 exact ⟨A,c,by rw [e,hn]⟩
theorem Ax.weak {B n T a:Nat} {w:World} {S:Nat->Prop} {sec:Int} {dead:Nat->Bool} {E:Nat->Int->List Int} {cl:Bool} (h:Ax B w a S sec n T dead E cl):Ax B w a S sec n T dead E false:=by
 obtain ⟨mb,D,C,ha,hS,hC⟩:=h.ex
 exact ⟨⟨mb,D,C,ha,hS,fun i hi=>⟨(hC i hi).1,(hC i hi).2.1,fun e=>by cases e⟩⟩,h.len,h.sec1,h.sec2,h.n32,h.tM⟩
theorem Ax.B_le {B n T a:Nat} {w:World} {S:Nat->Prop} {sec:Int} {dead:Nat->Bool} {E:Nat->Int->List Int} {cl:Bool} (h:Ax B w a S sec n T dead E cl):B<=w.heap.size:=by
 obtain ⟨mb,D,C,ha,hS,hC⟩:=h.ex
 have h1:=h.S_ge ((hS a).2 (.inl rfl))
 omega
theorem dk_mod {K M:Nat} (i:Nat) (st:Int) (hK:1<=K):((i:Int)+st) % ((K:Int)+M)=(((((i:Int)+st) % ((K+M:Nat):Int)).toNat:Nat):Int):=by
 rw [Int.toNat_of_nonneg (Int.emod_nonneg _ (by omega)),Int.natCast_add]
theorem dk_lt {K M:Nat} (i:Nat) (st:Int) (hK:1<=K):(((i:Int)+st) % ((K+M:Nat):Int)).toNat < K+M:=by
 have h1:=Int.emod_lt_of_pos ((i:Int)+st) (show (0:Int) < ((K+M:Nat):Int) by omega)
 have h2:=Int.emod_nonneg ((i:Int)+st) (show ((K+M:Nat):Int)≠0 by omega)
 omega
def geoC (K M Z T L O:Int):Array Value:=#[.int .i64 K,.int .i64 M,.int .i64 Z,.int .i64 T,.int .i64 L,.int .i64 O]
structure Gl (w W:World) (a f:Nat) (K M Z T L O st ep:Int):Prop where
 geo:W.heap[w.heap.size]?=some (.cells (geoC K M Z T L O) 23 (0,0))
 ln:W.heap[w.heap.size+1]?=some (.cells (lineC a f K M Z T L O st ep) 208 (0,0))
 below:Below w.heap.size w W
section
variable {w W W':World} {a f:Nat} {K M Z T L O st ep:Int}
theorem Gl.lt (h:Gl w W a f K M Z T L O st ep):w.heap.size+1 < W.heap.size:=(Array.getElem?_eq_some_iff.1 h.ln).1
theorem Gl.new:Gl w ((w.alloc (.cells (geoC K M Z T L O) 23)).alloc (.cells (lineC a f K M Z T L O st ep) 208)) a f K M Z T L O st ep :=
 ⟨(Below.heap_alloc _ _ _ (by simp)).trans (heap_alloc_new _ _),by have:=heap_alloc_new (w.alloc (.cells (geoC K M Z T L O) 23)) (.cells (lineC a f K M Z T L O st ep) 208);rwa [World.size_alloc] at this,below_alloc (below_alloc (Below.refl _ _) _) _⟩
theorem Gl.step (h:Gl w W a f K M Z T L O st ep) (hb:Below W.heap.size W W'):Gl w W' a f K M Z T L O st ep :=
 ⟨(hb.block _ (by have:=h.lt;omega)).trans h.geo,(hb.block _ h.lt).trans h.ln,below_step h.below hb⟩
theorem Gl.gs (h:Gl w W a f K M Z T L O st ep) {S:Nat->Prop} (hg:Gs S W W') (hS:∀ k,S k->k≠w.heap.size/\k≠w.heap.size+1):W'.heap[w.heap.size]?=some (.cells (geoC K M Z T L O) 23 (0,0))/\W'.heap[w.heap.size+1]?=some (.cells (lineC a f K M Z T L O st ep) 208 (0,0)) :=
 ⟨(hg.block _ (by have:=h.lt;omega) (fun e=>(hS _ e).1 rfl)).trans h.geo,(hg.block _ h.lt (fun e=>(hS _ e).2 rfl)).trans h.ln⟩
theorem geo_cells {g:Nat} (h:W.heap[g]?=some (.cells (geoC K M Z T L O) 23 (0,0))):W.cell? ⟨g,0,none⟩=some (.int .i64 K)/\W.cell? ⟨g,1,none⟩=some (.int .i64 M)/\W.cell? ⟨g,2,none⟩=some (.int .i64 Z)/\W.cell? ⟨g,3,none⟩=some (.int .i64 T)/\W.cell? ⟨g,4,none⟩=some (.int .i64 L)/\W.cell? ⟨g,5,none⟩=some (.int .i64 O):=by
 simp [World.cell?,h,geoC]
end
attribute [local go_sem] calloc_old Oper.semAt_some
set_option maxRecDepth 100000 in
set_option maxHeartbeats 2000000 in
theorem sw_ok {K M Z:Nat} {T L O st ep:Int} {B n Tk:Nat} {w:World} {a f:Nat} {S:Nat->Prop} {sec:Int} {dead:Nat->Bool} {E:Nat->Int->List Int} {cl:Bool} (hx:Ax B w a S sec n Tk dead E cl) (hf:Fd w f) (hg:LayA.Good K M Z T L O)
  (hn:n=K+M) (hn7:K+M<=7) (hZ:Z<=4096) (hs:0<=st/\st < T) (he:0<=ep/\ep<=2147483647) (hd:∀ i,i < n->dead i=false) (hT:Tk+(K+M)<=1000000) (hsec:5+L+st < sec) (ad:Addr) (c:Nat) (l:List Int) (hl:l.length=K*Z) (hc:l.length<=c) (hC:(Kd.int .u8).C w (some ad) l.length l) (hb:byteL l) :
  Calls Tryz.prog 92 #[.pointer (some ⟨a,0,none⟩),.pointer (some ⟨f,0,none⟩),geoV K M Z T L O,.int .i64 st,.int .i64 ep,.slice (some ad) l.length c] w fun e w'=>e=.returned (.int .i64 0)/\Ax B w' a S sec n (Tk+(K+M)) dead (wrE E n st (5+L+st) ep (encA K M Z ((List.range K).map (part l Z)) K) (K+M)) false/\Gs S w w':=by
 have hg':=hg
 unfold LayA.Good at hg'
 have hK1:1<=K:=by omega
 have hZ1:1<=Z:=by omega
 have HLC:=Aside0.mk (fun W=>lcheck_ok (O:=O) a f hg hs he W)
 have g1:((K:Int)*Z)=((l.length:Nat):Int):=by rw [hl];simp
 have g2:wrap64 ((K:Int)*Z)=((l.length:Nat):Int):=by rw [g1];exact w64 _ (by rw [<- g1];have:K*Z<=7*4096:=Nat.mul_le_mul (by omega) hZ;omega)
 have HH:=Aside0.mk (And.intro hx (And.intro hf (And.intro hg (And.intro hn (And.intro hn7 (And.intro hs (And.intro he (And.intro hd (And.intro hT (And.intro hsec (And.intro hl (And.intro hc (And.intro hC (And.intro hb (And.intro hK1 (And.intro hZ1 hZ))))))))))))))))
 unfold geoV
 unfold lineV at HLC
 clear hx hf hg hn hn7 hs he hd hT hsec hl hc hC hb hg' hK1 hZ1 hZ g1
 refine callsIn_wide.1 (callsIn_of_wp_marks (n:=9) Tryz.func92 rfl trivial ?_ rfl)
 refine wpIn_wide.2 ?_
 simp only [Tryz.ntmps92,List.size_toArray,List.length_cons,List.length_nil,Nat.reduceAdd,Nat.reduceSub,Array.replicate_succ,Array.replicate_zero,List.push_toArray,List.append_toArray,List.nil_append,List.cons_append]
 go_wp2_with (first|(go_at_call 122;go_loud (refine (HLC.out _).mono ?_;rintro e1 w1 ⟨rfl,hb1⟩;have h1:=(Gl.new (w:=w) (a:=a) (f:=f) (K:=K) (M:=M) (Z:=Z) (T:=T) (L:=L) (O:=O) (st:=st) (ep:=ep)).step hb1;obtain ⟨y0,y1,y2,y3,y4,y5⟩:=geo_cells h1.geo;have hl1:=h1.lt;have hl0:w.heap.size < w1.heap.size:=(by omega);have HB1:=Aside0.mk h1;clear hb1 h1 hl1))|(go_at_call 124;go_loud (refine (chunk_ok _ (some ad) l.length c (Z:Int) (by have:=HH.out;omega)).mono ?_;rintro e2 w2 ⟨rfl,rfl⟩)))
 have hsz:(((w1.alloc (.cells #[.slice none 0 0] 125)).alloc (.cells #[.slice (some ad) l.length c] 36)).alloc (.cells #[.int .i64 Z] 3)).heap.size=w1.heap.size+3:=by simp
 have hb15:Boxed (((w1.alloc (.cells #[.slice none 0 0] 125)).alloc (.cells #[.slice (some ad) l.length c] 36)).alloc (.cells #[.int .i64 Z] 3)) w1.heap.size 125 (.slice none 0 0):=((Boxed.new w1 125 (.slice none 0 0)).alloc _).alloc _
 have hA0:(((w1.alloc (.cells #[.slice none 0 0] 125)).alloc (.cells #[.slice (some ad) l.length c] 36)).alloc (.cells #[.int .i64 Z] 3)).heap[w1.heap.size+1]?=some (.cells #[.slice (some ad) l.length c] 36):=by
  have h:=Boxed.new (w1.alloc (.cells #[.slice none 0 0] 125)) 36 (.slice (some ad) l.length c)
  rw [World.size_alloc] at h
  exact h.alloc _
 have hZ0:(((w1.alloc (.cells #[.slice none 0 0] 125)).alloc (.cells #[.slice (some ad) l.length c] 36)).alloc (.cells #[.int .i64 Z] 3)).heap[w1.heap.size+2]?=some (.cells #[.int .i64 Z] 3):=by
  have h:=Boxed.new ((w1.alloc (.cells #[.slice none 0 0] 125)).alloc (.cells #[.slice (some ad) l.length c] 36)) 3 (.int .i64 Z)
  rw [World.size_alloc,World.size_alloc] at h
  exact h
 have hbW:Below w1.heap.size w1 (((w1.alloc (.cells #[.slice none 0 0] 125)).alloc (.cells #[.slice (some ad) l.length c] 36)).alloc (.cells #[.int .i64 Z] 3)):=below_alloc (below_alloc (below_alloc (Below.refl _ _) _) _) _
 obtain ⟨W0,hW0⟩:∃ W0,((w1.alloc (.cells #[.slice none 0 0] 125)).alloc (.cells #[.slice (some ad) l.length c] 36)).alloc (.cells #[.int .i64 Z] 3)=W0:=⟨_,rfl⟩
 rw [hW0] at hsz hb15 hA0 hZ0 hbW
 rw [hW0]
 clear hW0
 refine (wpIn_wide (n:=9)).1 ?_
 have hKZ:K*Z<=100000:=by
  have h:=HH.out
  exact Nat.le_trans (Nat.mul_le_mul (show K<=7 by omega) h.2.2.2.2.2.2.2.2.2.2.2.2.2.2.2.2) (by omega)
 have hseq:SeqStopsK Fence.wide (9 - 1) Tryz.prog 144 #[.pointer (some ⟨w1.heap.size+1,0,none⟩),.pointer (some ⟨w1.heap.size+2,0,none⟩)] (encP ad Z) (fun A A'=>A'.heap[w1.heap.size+1]?=A.heap[w1.heap.size+1]?/\A'.heap[w1.heap.size+2]?=A.heap[w1.heap.size+2]?) (fun ys=>ys=List.range K) (fun _=>True) K W0:=fun q J Jx W hW hJ hJx hY h0=>by
  have h:=HH.out
  have hl:=h.2.2.2.2.2.2.2.2.2.2.1
  rw [hl] at hA0
  exact chunk1_in 8 (by omega) q (w1.heap.size+1) (w1.heap.size+2) ad K Z c h.2.2.2.2.2.2.2.2.2.2.2.2.2.2.2.1 hKZ (by rw [<- hl];exact h.2.2.2.2.2.2.2.2.2.2.2.1) J Jx hY W ((hW.block _ (by omega)).trans hA0) ((hW.block _ (by omega)).trans hZ0) h0 hJ hJx
 refine' wpIn_rangeFunc_ownF rfl (by omega:1<=9) (gf:=144) (lb:=#[.pointer (some ⟨w1.heap.size+1,0,none⟩),.pointer (some ⟨w1.heap.size+2,0,none⟩)]) rfl trivial (enters_of Tryz.func144 (by kernel_rfl) rfl) hseq
  (fun h k=>⟨k.1.trans h.1,k.2.trans h.2⟩) (fun W q o o' hq ho _ _=>⟨World.putObj_heap_other (by omega),World.putObj_heap_other (by omega)⟩) (Below.refl _ _) (fun _=>rfl)
  (fun pre W=>(∃ v,Boxed W w1.heap.size 125 v/\W.ownsRow W0.heap.size 36 1 v pre.length (pre.map (fun i=>(encP ad Z i).getD 0 undef))/\True)/\Gs (fun k=>k=w1.heap.size) W0 W)
  (fun _ _ _=>False)
  (OwnFrom.and (Own.from (holdsRow_own W0.heap.size w1.heap.size 125 36 1 (fun pre:List Nat=>pre.length) (fun pre:List Nat=>pre.map (fun i=>(encP ad Z i).getD 0 undef)) (fun (_:List Nat) _=>True)) _) (ownFrom_gs (fun k=>k=w1.heap.size) W0))
  (fun _ _ _ _ _ hs _ _=>hs)
  ⟨⟨_,hb15,World.ownsRow_nil _ _ _ _,trivial⟩,Gs.refl _ _⟩ _ ?assign ?body ?done ?stop
 case assign =>
  intro q x W KK hK
  simp only [encP]
  gi_wp2
  exact hK
 case stop =>
  rintro D cc pre W _ _ h _
  exact h.elim
 case body =>
  rintro q pre x W ⟨⟨v,hv,hrow,_⟩,hG⟩ hlt
  have hcv:=hv.cell
  have hle:=hG.size
  have hK7:K<=7:=by have:=HH.out.2.2.2.2.1;omega
  obtain ⟨i0,hi,hz0,hz1,hz2⟩:=info_parts info36'
  gi_wp2_with (gi_at_builtin;go_loud (refine wpListIn_append_own _ rfl _ _ 125 rfl W0.heap.size 36 i0 (.slice none 0 0) 1 24 Tryz.underlying125 hi hz0 hz1 hz2 rfl (by decide) _ _ _ rfl (hrow.alloc _) ⟨W.heap.size,0,none⟩ 1 1 [.slice (some (ad.add (x*Z))) Z Z] rfl rfl (cell_one_new _ _ _) (by simp [Value.oneCell']) (by simp only [maxLen];omega) (by omega) (by simp;omega) ?_;intro v' w2 hown' hgrow _;obtain ⟨g',cap',rfl⟩:=ownsRow_succ hown';obtain ⟨hv1,hv2,hr2,hk2,hb2⟩:=appended2 hv (by decide) hrow hle hown' hgrow;have hc1:=hv1.cell;have hf1:=hv1.frozen))
  exact ⟨hk2,⟨hb2.block _ (by omega) (by omega),hb2.block _ (by omega) (by omega)⟩,⟨_,hv2,by simpa [encP] using hr2,trivial⟩,hG.but hb2⟩
 case done =>
  rintro D ys W hD rfl ⟨⟨v,hv,hrow,_⟩,hG⟩ hK
  obtain ⟨hx,hf,hg,rfl,hn7,hs,he,hd,hT,hsec,hl,hc,hC,hb,hK1,hZ1,hZ⟩:=HH.out
  have hbAll:Below w1.heap.size w1 W:=hbW.trans (hG.below (fun k e=>by omega) (by omega))
  have hbw:Below w.heap.size w W:=below_step HB1.out.below hbAll
  have hGl:=HB1.out.step hbAll
  have hRs:Rs W v ((List.range K).map (part l Z)):=rs_parts hl ⟨hK1,by omega⟩ hZ1 hc (Kd.C_below hC hbw) hrow
  have hcv:=hv.cell
  have hE:=encode_ok (hf.below hbw) K M Z hK1 hn7 v _ hRs (by simp) (fun i hi=>by rw [getD_rows _ hi];exact part_len hl hi) ⟨hZ1,by omega⟩ (fun i=>by
   by_cases hi:i < K
   ·rw [getD_rows _ hi]
    exact fun x hx=>hb x (List.mem_of_mem_take (List.mem_of_mem_drop hx))
   ·rw [List.getD_eq_getElem?_getD,List.getElem?_eq_none (by simp;omega)]
    exact fun x hx=>by simp at hx)
  obtain ⟨z0,z1,z2,z3,z4,z5⟩:=geo_cells hGl.geo
  have HE:=Aside0.mk (And.intro hE (And.intro hGl (And.intro hbw (And.intro hK hD))))
  clear g2 hE hRs hGl hbw hbAll hx hf hg hn7 hs he hd hT hsec hl hc hC hb hK1 hZ1 hZ hK hD hv hrow hG hbW hA0 hZ0 hb15 hseq hKZ y0 y1 y2 y3 y4 y5
  go_wp2_with (first|(go_at_call 125;go_loud (refine HE.out.1.mono ?_;rintro e4 w4 ⟨u,rfl,hR4,hb4⟩;obtain ⟨A4,c4,rfl⟩:=RsV.form hR4 (by simp:_=K+M);have H4:=Aside0.mk (And.intro hR4 hb4);clear hR4 hb4)))
  obtain ⟨rows,hrows⟩:∃ rows:Nat->List Int,encA K M Z ((List.range K).map (part l Z)) K=rows:=⟨_,rfl⟩
  have hx4:Ax B w4 a S sec (K+M) Tk dead E false:=(HH.out.1.below (below_step HE.out.2.2.1 H4.out.2)).weak
  have hlen:∀ i,i < K+M->(rows i).length=Z:=fun i hi=>by
   have h:=HH.out
   rw [<- hrows]
   by_cases hik:i < K
   ·rw [encA_data _ _ _ _ _ _ hik,getD_rows _ hik]
    exact part_len h.2.2.2.2.2.2.2.2.2.2.1 hik
   ·exact encA_len K M Z _ K i (by omega)
  rw [hrows] at H4
  have HR:=Aside0.mk (And.intro hlen hrows)
  clear hlen hrows
  go_loopg [65] (K+M) (fun kq x wr=>∃ i:Nat,x=.int .i64 i/\i+kq=K+M/\Aside0 (Ax B wr a S sec (K+M) (Tk+i) dead (wrE E (K+M) st (5+L+st) ep rows i) false/\Gs S w4 wr))
  case atStart=>exact ⟨0,rfl,by omega,⟨hx4,Gs.refl _ _⟩⟩
  case round =>
   obtain ⟨i,rfl,hik,HX⟩:=hrel
   have hS:∀ k,S k->k < w.heap.size:=fun k hk=>(HH.out.1.S_ge hk).2.2
   have hwW:=HE.out.2.2.1.size
   have hW4:=H4.out.2.size
   by_cases hiN:i < K+M
   ·have g3:(i:Int) < (K:Int)+M:=by omega
    have g4:(0:Int)<=i:=by omega
    have h7:=HH.out.2.2.2.2.1
    have hst:=HH.out.2.2.2.2.2.1
    have hRi:=H4.out.1.step (W:=wr) (fun k hk hlt=>HX.out.2.block k hlt (fun e=>by have:=hS k e;omega))
    obtain ⟨A',c',he,hc',hC'⟩:=hRi.rs
    rw [List.length_map,List.length_range] at he
    injection he with he1 he2 he3
    subst he1
    subst he3
    clear he2
    obtain ⟨ad',v',ea,hcell,hbs⟩:=Rs.at hC' i (by simpa using hiN)
    subst ea
    rw [getD_rows _ hiN] at hbs
    obtain ⟨A5,c5,rfl,hc5,hC5⟩:=hbs
    have hlr:=HR.out.1 i hiN
    have hmod:=dk_mod (K:=K) (M:=M) i st HH.out.2.2.2.2.2.2.2.2.2.2.2.2.2.2.1
    have hmlt:=dk_lt (K:=K) (M:=M) i st HH.out.2.2.2.2.2.2.2.2.2.2.2.2.2.2.1
    have hg:=HH.out.2.2.1
    have hg':=hg
    unfold LayA.Good at hg'
    have hP:=lput_ok HX.out.1 f hg hst _ i (by omega) hmod hmlt (HH.out.2.2.2.2.2.2.2.1 _ hmlt) (by have:=HH.out.2.2.2.2.2.2.2.2.1;omega) HH.out.2.2.2.2.2.2.2.2.2.1 A5 c5 (rows i) ⟨⟨by omega,by omega⟩,HH.out.2.2.2.2.2.2.1,by rw [hlr];have:=HH.out;omega⟩ hc5 hC5
    obtain ⟨x0,x1,x2,x3,x4,x5,x6,x7,x8,x9⟩:=ln_cells (((HE.out.2.1.step H4.out.2).gs HX.out.2 (fun k hk=>⟨by have:=hS k hk;omega,by have:=hS k hk;omega⟩)).2)
    unfold lineV at hP
    rw [hlr] at hP hcell
    have HP:=Aside0.mk hP
    have gw:wrap64 ((i:Int)+1)=(i:Int)+1:=w64 _ (by omega)
    clear hP hRi hC' hc' hc5 hC5 hmod hmlt hg hg' hst hlr hS
    go_wp2_with (first|(go_at_call 126;go_loud (refine HP.out.mono ?_;rintro e5 w5 ⟨rfl,hx5,hg5⟩;have H5:=Aside0.mk (And.intro hx5 hg5);clear hx5 hg5)))
    go_roundg (K+M - (i+1))
    case measure=>exact meas5 hiN hik
    case rel=>exact ⟨i+1,by simp [gw],meas4 hiN,⟨H5.out.1,HX.out.2.trans H5.out.2⟩⟩
   ·have g3:¬ (i:Int) < (K:Int)+M:=by omega
    have e1:i=K+M:=by omega
    subst e1
    go_wp2
    have hKr:wr.heap[D]?=some (.deferred (some [])):=(HX.out.2.block D (by have:=(Array.getElem?_eq_some_iff.1 HE.out.2.2.2.1).1;omega) (fun e=>by have:=hS D e;have:=HE.out.2.2.2.2;have:=HB1.out.below.size;omega)).trans ((H4.out.2.block D (Array.getElem?_eq_some_iff.1 HE.out.2.2.2.1).1).trans HE.out.2.2.2.1)
    refine ⟨by simp,.inl ⟨_,_,rfl,run_takeDeferred hKr,?_⟩⟩
    refine ⟨_,results_tmp rfl _ _ _,rfl,?_⟩
    have hgp:=grownBy_putObj' wr D (.deferred none)
    have hDw:w.heap.size<=D:=by have h1:=HE.out.2.2.2.2;have h2:=HB1.out.below.size;omega
    rw [HR.out.2]
    refine ⟨HX.out.1.keep (Fr.of_grown hgp (Nat.le_trans HH.out.1.B_le hDw) (fun hz=>by obtain ⟨cs,ty,e1,_⟩:=hz;rw [hKr] at e1;cases e1)) (fun k hk=>hgp.block k (HX.out.1.S_ge hk).2.2 (fun e=>by cases e;have:=hS _ hk;omega)),?_⟩
    exact ((Gs.of_below (below_step HE.out.2.2.1 H4.out.2)).trans HX.out.2).step hgp (fun j e=>by cases e;exact .inl hDw)
end Go.Proofs.YtmmcbncpnlknbaaGreat.Top
namespace Go.Proofs.YtmmcbncpnlknbaaGreat.Top
open Go Go.RowKit Go.Proofs.YtmmcbncpnlknbaaGreatW.PrintWords Go.Proofs.YtmmcbncpnlknbaaGreatW.PrintLast Go.Proofs.YtmmcbncpnlknbaaGreatW.PrintMore
def allE (E:Nat->Int->List Int) (ad:Int) (s:List Int) (i:Nat):Nat->Int->List Int:=fun j y=>if j < i/\y=ad then s else E j y
theorem allE_succ (E:Nat->Int->List Int) (ad:Int) (s:List Int) (i:Nat):updE (allE E ad s i) i ad s=allE E ad s (i+1):=by
 funext j y
 unfold updE allE
 by_cases h1:y=ad
 ·by_cases h2:j=i
  ·simp [h1,h2]
  ·by_cases h3:j < i
   ·simp [h1,h2,h3,show j < i+1 by omega]
   ·simp [h1,h2,h3,show ¬ j < i+1 by omega]
 ·simp [h1]
theorem allE_zero (E:Nat->Int->List Int) (ad:Int) (s:List Int):allE E ad s 0=E:=by
 funext j y
 simp [allE]
theorem bs_gs {w W:World} {base:Nat} {ok:Nat->Prop} {v:Value} {l:List Int} {S:Nat->Prop} (h:Kd.R (Kd.int .u8) 5 w base ok v l) (hg:Gs S w W) (hS:∀ k,S k->k < base):Bs W v l :=
 Bs.of_R (Kd.R_step (Kd.R_bound h) (fun k hk hlt=>hg.block k hlt (fun e=>by have:=hS k e;have:=hk.2.1;omega)))
theorem Bs.pack {w:World} {ad ep:Int} {v:Value} {l:List Int} (h:Bs w v l) (hm:SecA.May ad ep l) :
  Calls Tryz.prog 77 #[.int .i64 ad,.int .i64 ep,v] w fun e w'=>∃ u,e=.returned (.tuple #[u,.int .i64 0])/\Kd.R (Kd.int .u8) 5 w' w.heap.size (fun _=>True) u (SecA.sect ad ep l)/\Below w.heap.size w w':=by
 obtain ⟨A,c,rfl,hc,hC⟩:=h
 exact pack_ok hm hc hC
theorem wtrue_ok (W:World) (i:Int):Calls Tryz.prog 84 #[.int .i64 i] W fun e w'=>e=.returned (.bool true)/\w'=W:=by
 go_enter Tryz.func84,Tryz.ntmps84
 go_wp2
 go_ret
 exact ⟨rfl,rfl⟩
set_option maxRecDepth 100000 in
set_option maxHeartbeats 2000000 in
theorem vput_ok {B n T a:Nat} {w:World} {S:Nat->Prop} {sec:Int} {dead:Nat->Bool} {E:Nat->Int->List Int} {cl:Bool} (h:Ax B w a S sec n T dead E cl) (hd:∀ i,i < n->dead i=false) (hT:T+n<=1000000) (ad ep:Int) (h1:ad < sec) {l:List Int} (hm:SecA.May ad ep l) (hb:byteL l) :
  Calls Tryz.prog 83 #[.pointer (some ⟨a,0,none⟩),.int .i64 ad,.agg #[.int .i64 ep,.string (strOfNums l)],.func (.func 84) #[] #[]] w fun e w'=>e=.returned (.tuple #[.int .i64 n,.int .i64 0])/\Ax B w' a S sec n (T+n) dead (allE E ad (SecA.sect ad ep l) n) false/\Gs S w w':=by
 have hn:=h.n32
 have kb:=fun W=>print_bytes (P:=Tryz.prog) 9 36 5 Tryz.underlying9 Tryz.underlying36 Tryz.underlying5 (strOfNums l) W
 have hl5:l.length<=5000:=by have:=hm.2.2;omega
 have hz1:(w.alloc (.cells #[.int .i64 ep,.string (strOfNums l)] 165)).heap.size=w.heap.size+1:=by simp
 have hbs:=bs_of_str (w.alloc (.cells #[.int .i64 ep,.string (strOfNums l)] 165)) hb hl5 (grownCap_ge (w.alloc (.cells #[.int .i64 ep,.string (strOfNums l)] 165)) (strOfNums l).size 0 5) rfl
 rw [hz1] at hbs
 have hb5:=bytes_below (below_alloc (Below.refl _ w) (.cells #[.int .i64 ep,.string (strOfNums l)] 165)) (below_alloc (Below.refl _ w) (.cells #[.int .i64 ep,.string (strOfNums l)] 165)).size 5 (strOfNums l)
 have hp:=hbs.pack hm
 have HH:=Aside0.mk (And.intro h (And.intro hd (And.intro hT (And.intro h1 (And.intro hm (And.intro hb (And.intro hp hb5)))))))
 clear h hd hT h1 hm hb hl5 hz1 hbs hb5 hp
 go_enter Tryz.func83,Tryz.ntmps83
 go_wp2_with (first|(go_at_call 50;go_loud (refine ((HH.out.1.below H1.out.2).live).mono ?_;rintro e2 w2 ⟨v2,rfl,hv2,hb2⟩;obtain ⟨A2,c2,rfl⟩:=Kd.R_slice hv2;rw [List.length_map,List.length_range];have H2:=Aside0.mk hb2;clear hb2 hv2))|(go_at_call 77;go_loud (refine HH.out.2.2.2.2.2.2.1.mono ?_;rintro e1 w1 ⟨v1,rfl,hr1,hb1⟩;have H1:=Aside0.mk (And.intro hr1 (below_step HH.out.2.2.2.2.2.2.2 hb1));clear hr1 hb1)))
 go_loopg [32,12] n (fun kq x y wr=>∃ i:Nat,x=.int .i64 i/\y=.int .i64 i/\i+kq=n/\Aside0 (Ax B wr a S sec n (T+i) dead (allE E ad (SecA.sect ad ep l) i) false/\Gs S w2 wr))
 case atStart=>exact ⟨0,rfl,rfl,by omega,⟨by rw [allE_zero];exact ((HH.out.1.below H1.out.2).below H2.out).weak,Gs.refl _ _⟩⟩
 case round =>
  obtain ⟨i,rfl,rfl,hik,HX⟩:=hrel
  by_cases hin:i < n
  ·have g1:(i:Int) < (n:Int):=by omega
   have hbs:=bs_gs (Kd.R_below H1.out.1 H2.out) HX.out.2 (fun k hk=>by have:=(HH.out.1.S_ge hk).2.2;have:=HH.out.2.2.2.2.2.2.2.size;omega)
   have hw:=swrite HX.out.1 hin (HH.out.2.1 i hin) (by have:=HH.out.2.2.1;omega) HH.out.2.2.2.2.1.1.1 HH.out.2.2.2.1 HH.out.2.2.2.2.1.2.2 hbs
   have HW:=Aside0.mk hw
   clear hw hbs
   have gw:wrap64 ((i:Int)+1)=(i:Int)+1:=w64 _ (by omega)
   go_wp2_with (first|(go_at_call 51;go_loud (refine HW.out.mono ?_;rintro e3 w3 ⟨rfl,hx3,hg3⟩;have H3:=Aside0.mk (And.intro hx3 hg3);clear hx3 hg3))|(go_at_call 84;go_loud (refine (wtrue_ok _ _).mono ?_;rintro e4 w4 ⟨rfl,rfl⟩)))
   go_roundg (n - (i+1))
   case measure=>exact meas5 hin hik
   case rel=>exact ⟨i+1,by simp [gw],by simp [gw],meas4 hin,⟨by rw [<- allE_succ];exact H3.out.1,HX.out.2.trans H3.out.2⟩⟩
  ·have g1:¬ (i:Int) < (n:Int):=by omega
   have e1:i=n:=by omega
   subst e1
   go_wp2
   go_ret2
   exact ⟨rfl,HX.out.1,(Gs.of_below (below_step H1.out.2 H2.out)).trans HX.out.2⟩
end Go.Proofs.YtmmcbncpnlknbaaGreat.Top
