import Derived.Test.YtmmcbncpnlknbaaGreatF24
set_option linter.unusedVariables false
set_option linter.unusedSimpArgs false
namespace Go.Proofs.YtmmcbncpnlknbaaGreat.RecA
open Go.RowKit Go.Proofs.YtmmcbncpnlknbaaGreat.PAll Go.Proofs.YtmmcbncpnlknbaaGreatW.PrintWords Go.Proofs.YtmmcbncpnlknbaaGreatW.PrintLast Go.Proofs.YtmmcbncpnlknbaaGreatW.PrintMore
section
variable {α β:Type} {g f:Nat->Option α} {r r':α} {c:Prop} [Decidable c]
theorem ev_eq (h:Ev g r) (e:r=r'):Ev g r':=e ▸ h
theorem ev_pos (hc:c) (h:Ev g r):Ev (fun k=>if c then g k else f k) r:=Ev.congr (fun k=>if_pos hc) h
theorem ev_neg (hc:¬ c) (h:Ev f r):Ev (fun k=>if c then g k else f k) r:=Ev.congr (fun k=>if_neg hc) h
end
theorem wrap_in {i:Int} (h0:-9223372036854775808<=i) (h1:i<=9223372036854775807):wrap64 i=i:=by unfold wrap64;omega
def Ok (kd:Int) (key:ByteArray) (len:Int) (st:List Int):Prop :=
 (kd=1∨kd=2)/\(1<=key.size/\key.size<=64)/\(0<=len/\len<=2147483647)/\st.length<=256/\(∀ x ∈ st,0<=x/\x < 256)/\(kd=2->len=0/\st.length=0)
instance (kd:Int) (key:ByteArray) (len:Int) (st:List Int):Decidable (Ok kd key len st):=by unfold Ok;infer_instance
def Late (kd len:Int) (st:List Int) (i:Nat):Prop:=(∀ x ∈ st.drop i,0<=x/\x < 256)/\(kd=2->len=0/\st.length=0)
instance (kd len:Int) (st:List Int) (i:Nat):Decidable (Late kd len st i):=by unfold Late;infer_instance
end Go.Proofs.YtmmcbncpnlknbaaGreat.RecA
namespace Go.Proofs.YtmmcbncpnlknbaaGreat.Top
open Go Go.RowKit Go.Proofs.YtmmcbncpnlknbaaGreatW.PrintWords Go.Proofs.YtmmcbncpnlknbaaGreatW.PrintLast Go.Proofs.YtmmcbncpnlknbaaGreatW.PrintMore
section
set_option maxRecDepth 100000
theorem box160 {w:World} {g:Nat} {kd len:Int} {key:ByteArray} {A:Option Addr} {n c:Nat} (h:w.heap[g]?=some (.cells #[.int .i64 kd,.string key,.int .i64 len,.slice A n c] 160 (0,0))):w.cell? ⟨g,0,none⟩=some (.int .i64 kd)/\w.cell? ⟨g,1,none⟩=some (.string key)/\w.cell? ⟨g,2,none⟩=some (.int .i64 len)/\w.cell? ⟨g,3,none⟩=some (.slice A n c):=by simp [World.cell?,h]
theorem rcheck {kd:Int} {key:ByteArray} {len:Int} {st:List Int} (h:RecA.Ok kd key len st) {A:Option Addr} {c:Nat} {w:World} (hC:Rt w A st) (hc:st.length<=c) :
  Calls Tryz.prog 85 #[.agg #[.int .i64 kd,.string key,.int .i64 len,.slice A st.length c]] w fun e w'=>e=.returned (.int .i64 0)/\Below w.heap.size w w':=by
 have h':=h
 unfold RecA.Ok at h'
 obtain ⟨h1,h2,h3,h4,h5,h6⟩:=h'
 have hR:=Kd.reads_of_C (d:=(0:Int)) hC.1
 have H0:=Aside0.mk (And.intro (heap_alloc_new w (.cells #[.int .i64 kd,.string key,.int .i64 len,.slice A st.length c] 160)) (below_alloc (Below.refl w.heap.size w) (.cells #[.int .i64 kd,.string key,.int .i64 len,.slice A st.length c] 160)))
 obtain ⟨n,hn⟩:∃ n,st.length=n:=⟨_,rfl⟩
 rw [hn] at H0 ⊢
 have HR:=Aside0.mk (And.intro hR (And.intro h5 (And.intro hn h6)))
 have f1:¬ (key.size:Int) < 1:=by omega
 have f2:¬ (64:Int) < (key.size:Int):=by omega
 have f3:¬ len < 0:=by omega
 have f4:¬ (2147483647:Int) < len:=by omega
 have f5:¬ (256:Int) < (n:Int):=by omega
 have HN:=Aside0.mk (show n<=256 by omega)
 clear hR hC hc h h2 h3 h4 h5 hn
 go_enter Tryz.func85,Tryz.ntmps85
 rcases h1 with rfl|rfl
 ·go_wp2
  go_loopg [3,5,45] n (fun kq x3 x5 x45 wr=>∃ i:Nat,x45=.int .i64 i/\i+kq=n/\x3=.bool false/\Aside0 (wr.heap[w.heap.size]?=some (.cells #[.int .i64 1,.string key,.int .i64 len,.slice A n c] 160 (0,0))/\Below w.heap.size w wr))
  case atStart=>exact ⟨0,rfl,by omega,rfl,H0⟩
  case round =>
   obtain ⟨i,rfl,hik,rfl,HX⟩:=hrel
   obtain ⟨p0,p1,p2,p3⟩:=box160 HX.out.1
   by_cases hin:i < n
   ·have g1:(i:Int) < (n:Int):=by omega
    have g0:(0:Int)<=(i:Int):=by omega
    have gw:wrap64 ((i:Int)+1)=(i:Int)+1:=w64 _ (by have:=HN.out;omega)
    obtain ⟨ad,rfl,hx⟩:=HR.out.1.2.2 (by have:=HR.out.2.2.1;omega)
    have hx1:=(HX.out.2.cell (cell_lt' (hx i (by have:=HR.out.2.2.1;omega)))).trans (hx i (by have:=HR.out.2.2.1;omega))
    have hm:=HR.out.2.1 (st.getD i 0) (by rw [List.getD_eq_getElem?_getD,List.getElem?_eq_getElem (by have:=HR.out.2.2.1;omega)];exact List.getElem_mem _)
    generalize st.getD i 0=x at *
    have b1:¬ x < 0:=by omega
    have b2:¬ 256<=x:=by omega
    have HI:=Aside0.mk (And.intro hin hik)
    clear hx hm
    go_wp2
    go_roundg (n - (i+1))
    case measure=>exact meas5 HI.out.1 HI.out.2
    case rel=>exact ⟨i+1,by simp [gw],meas4 HI.out.1,rfl,HX⟩
   ·have g1:¬ (i:Int) < (n:Int):=by omega
    go_wp2
    go_ret
    exact ⟨rfl,HX.out.2⟩
 ·obtain ⟨rfl,h7⟩:=h6 rfl
  have h8:n=0:=by have:=HR.out.2.2.1;omega
  subst h8
  go_wp2
  go_loopg [3,5,45] 0 (fun kq x3 x5 x45 wr=>x45=.int .i64 0/\x3=.bool false/\Aside0 (wr.heap[w.heap.size]?=some (.cells #[.int .i64 2,.string key,.int .i64 0,.slice A 0 c] 160 (0,0))/\Below w.heap.size w wr))
  case atStart=>exact ⟨rfl,rfl,H0⟩
  case round =>
   obtain ⟨rfl,rfl,HX⟩:=hrel
   obtain ⟨p0,p1,p2,p3⟩:=box160 HX.out.1
   go_wp2
   go_ret
   exact ⟨rfl,HX.out.2⟩
end
theorem R_sets {w2 W:World} {base:Nat} {v:Value} {l:List Int} (h:Kd.R (Kd.int .i64) 3 w2 base (fun _=>True) v l) (hm:∀ k,base<=k->k < w2.heap.size->W.heap[k]?=w2.heap[k]?):Kd.R (Kd.int .i64) 3 W base (fun _=>True) v l :=
 Kd.R_mono (Kd.R_step (Kd.R_bound h) (fun k hk hl=>hm k hk.2.1 hl)) (fun _ _=>trivial)
theorem below_of_gs {Q:Nat->Prop} {w w2 W:World} (h:Below w.heap.size w w2) (hg:Gs Q w2 W) (hQ:∀ k,Q k->w.heap.size<=k):Below w.heap.size w W :=
 (gs_new (Q:=fun _=>False) (Gs.of_below h) hg (fun k hk=>.inl (hQ k hk))).bel (Nat.le_refl _) (fun _ hk=>hk.elim)
theorem two1 (w:World) (a b:Obj):((w.alloc a).alloc b).heap[w.heap.size+1]?=some b:=by
 simp only [hal,hsz]
 rw [if_pos trivial]
theorem two0 (w:World) (a b:Obj):((w.alloc a).alloc b).heap[w.heap.size]?=some a:=by
 simp only [hal,hsz]
 rw [if_neg (by omega),if_pos trivial]
section
variable {w:World} {c b1 b2 n:Nat} {K M Z T L O:Int} {S:List Ob} {ad:ByteArray->Value} {m:Int->Bool}
def GetP (S:List Ob) (k:ByteArray) (w w':World) (e:Ending):Prop :=
 ((∃ o A cc,findS S k=some o/\e=.returned (.tuple #[obV o (.slice A o.f3.length cc),.int .i64 0])/\Kd.R (Kd.int .i64) 3 w' w.heap.size (fun _=>True) (.slice A o.f3.length cc) o.f3)∨(findS S k=none/\e=.returned (.tuple #[.agg #[.string ⟨#[]⟩,.int .i64 0,.int .i64 0,.slice none 0 0],.int .i64 193])))/\Below w.heap.size w w'
set_option maxRecDepth 100000 in
set_option maxHeartbeats 2000000 in
theorem cget_ok (h:Cat w c K M Z T L O b1 b2 S ad m n) (k:ByteArray) (hk:k.size<=1000000) (hl:∀ o ∈ S,o.f3.length<=1000) :
  Calls Tryz.prog 97 #[.pointer (some ⟨c,0,none⟩),.string k] w fun e w'=>GetP S k w w' e:=by
 obtain ⟨_,_,_,_,_,_,c6,_⟩:=cat_cells h.box
 have hc:=h.lt
 have ll:=h.objs.look Tryz.underlying134 (zero139 w) hk
 have hL:∀ W:World,W.heap[b1]?=w.heap[b1]?->(Instr.lookup 134 (.map (some b1)) (.string k) true).run Tryz.prog W=.ok (.tuple #[((findS S k).map fun o=>obV o (ad o.f0)).getD (.agg #[.string ⟨#[]⟩,.int .i64 0,.int .i64 0,.slice none 0 0]),.bool (findS S k).isSome]) W:=fun W hW=>(h.objs.keep hW).look Tryz.underlying134 (zero139 W) hk
 have hb1:=h.objs.lt
 have hr:=h.rows
 have HB:=Aside0.mk (Below.refl w.heap.size w)
 cases hf:findS S k with
 | some o =>
  obtain ⟨A,cc,hA,hcc,hR⟩:=hr o (findS_some hf).1
  have ho:=hl o (findS_some hf).1
  have l2:=hL (w.alloc (.cells #[.string ⟨#[]⟩,.int .i64 0,.int .i64 0,.slice none 0 0] 139)) ((below_alloc HB.out _).block b1 hb1)
  rw [hf] at l2
  simp only [Option.map_some,Option.getD_some,Option.isSome_some,obV,hA] at l2
  have HC:=Aside0.mk (fun (W:World) (hb:Below w.heap.size w W)=>clone88 A cc o.f3 W (Kd.C_below hR.1 hb) hcc (by omega))
  have HF:=Aside0.mk hf
  clear hf h hr hL ll hR hcc ho hl
  go_enter Tryz.func97,Tryz.ntmps97
  go_wp2_with (go_at_call 88;go_loud (refine (HC.out _ (below_alloc (below_alloc HB.out _) _)).mono ?_;rintro e2 w2 ⟨v2,rfl,hR2,hb2⟩;obtain ⟨A2,c2,rfl⟩:=Kd.R_slice hR2;have hx1:w2.heap[w.heap.size+1]?=some (.cells (obC o.f0 o.f1 o.f2 A o.f3.length cc) 139 (0,0)):=(hb2.block _ (by simp only [hsz];omega)).trans (two1 w _ _);have hx0:w2.heap[w.heap.size]?=some (.cells (obC ⟨#[]⟩ 0 0 none 0 0) 139 (0,0)):=(hb2.block _ (by simp only [hsz];omega)).trans (two0 w _ _);obtain ⟨q0,q1,q2,q3⟩:=ob_cells hx1;obtain ⟨p0,p1,p2,p3⟩:=ob_cells hx0;have hz1:w2.frozen? ⟨w.heap.size+1,3,none⟩=false:=(by simp [World.frozen?,hx1]);have hz0:∀ j,w2.frozen? ⟨w.heap.size,j,none⟩=false:=(fun j=>by simp [World.frozen?,hx0]);have H2:=Aside0.mk (And.intro hR2 (And.intro hb2 (And.intro hx1 hx0)));clear hR2 hb2 hx1 hx0))
  have hG:=(((((Gs.refl (fun j=>j=w.heap.size∨j=w.heap.size+1) w2).set (.inr (.inr rfl)) 3 (.slice A2 o.f3.length c2)).set (.inr (.inl rfl)) 0 (.string o.f0)).set (.inr (.inl rfl)) 1 (.int .i64 o.f1)).set (.inr (.inl rfl)) 2 (.int .i64 o.f2)).set (.inr (.inl rfl)) 3 (.slice A2 o.f3.length c2)
  refine bodyPost_ret (results_ct rfl _ _ w.heap.size 139 (obC o.f0 o.f1 o.f2 A2 o.f3.length c2) (0,0) _ rfl (set_cells (set_cells (set_cells (set_cells ((Below.heap_setCell w2 ⟨w.heap.size+1,3,none⟩ _ _ (by simp)).trans H2.out.2.2.2) 0 _) 1 _) 2 _) 3 _) Tryz.underlying139 rfl (by kernel_rfl)) rfl ⟨.inl ⟨o,A2,c2,HF.out,rfl,?_⟩,?_⟩
  ·refine Kd.R_lower (R_sets H2.out.1 (fun k hk hl=>hG.block k hl ?_)) (by simp only [hsz];omega)
   simp only [hsz] at hk
   omega
  ·exact below_of_gs (below_step (below_alloc (below_alloc HB.out _) _) H2.out.2.1) hG (fun k hk=>by omega)
 | none =>
  have l2:=hL (w.alloc (.cells #[.string ⟨#[]⟩,.int .i64 0,.int .i64 0,.slice none 0 0] 139)) ((below_alloc HB.out _).block b1 hb1)
  rw [hf] at l2
  simp only [Option.map_none,Option.getD_none,Option.isSome_none] at l2
  have HF:=Aside0.mk hf
  clear hf h hr hL ll hl
  go_enter Tryz.func97,Tryz.ntmps97
  go_wp2
  exact bodyPost_ret (results_ct rfl _ _ w.heap.size 139 (obC ⟨#[]⟩ 0 0 none 0 0) (0,0) _ rfl (two0 w _ _) Tryz.underlying139 rfl (by kernel_rfl)) rfl ⟨.inr ⟨HF.out,rfl⟩,below_alloc (below_alloc HB.out _) _⟩
end
theorem index_no (l:List Int) (x:Int) (hx:x ∉ l) (hl:l.length<=1000):∀ (d i:Nat),i+d=l.length->PAll.slices_Index_int_int.l0 (d+1) l x (l.length:Int) (i:Int)=some (-1)
 | 0,i,h=>by
  unfold PAll.slices_Index_int_int.l0
  rw [if_neg (by omega)]
 | d+1,i,h=>by
  have hi:i < l.length:=by omega
  unfold PAll.slices_Index_int_int.l0
  have e:rd l (i:Int)=l[i]:=by simp [rd,hi]
  rw [if_pos (by omega),if_pos (by omega),if_pos (by omega),if_neg (by rw [e];exact fun h2=>hx (h2 ▸ List.getElem_mem hi)),w64 _ (by omega)]
  exact index_no l x hx hl d (i+1) (by omega)
theorem contains_no (W:World) (A:Option Addr) (l:List Int) (i c:Nat) (hC:Rt W A l) (hi:i<=l.length) (hc:i<=c) (hl:l.length<=1000) (x:Int) (hx:x ∉ l.take i) :
  Calls Tryz.prog 86 #[.slice A i c,.int .i64 x] W fun e w'=>e=.returned (.bool false)/\Drawn0 W w':=by
 have hlen:(l.take i).length=i:=by rw [List.length_take];omega
 have hC':(Kd.int .i64).C W A (l.take i).length (l.take i):=by
  obtain ⟨h1,h2,h3⟩:=Kd.reads_of_C (d:=(0:Int)) hC.1
  refine Kd.C_of_reads (d:=0) ⟨rfl,by rw [hlen];omega,fun hp=>?_⟩
  obtain ⟨a,ha,hj⟩:=h3 (by omega)
  refine ⟨a,ha,fun j hji=>?_⟩
  have e:(l.take i).getD j 0=l.getD j 0:=by
   rw [List.getD_eq_getElem?_getD,List.getD_eq_getElem?_getD,List.getElem?_take,if_pos (by omega)]
  rw [e]
  exact hj j (by omega)
 have h:=PAll.slices_Contains_int_int.calls ((l.take i).length+1) A c (l.take i) x false W hC' (by omega) (by
  unfold PAll.slices_Contains_int_int.f PAll.slices_Index_int_int.f
  rw [show PAll.slices_Index_int_int.l0 ((l.take i).length+1) (l.take i) x ((l.take i).length:Int) 0=some (-1) from index_no (l.take i) x hx (by omega) _ 0 (by omega)]
  rfl)
 rw [hlen] at h
 exact h
def FitP (w w':World) (e:Ending):Prop:=e=.returned (.bool true)/\Below w.heap.size w w'
section
variable {w:World} {c b1 b2 n:Nat} {T L O:Int} {K M Z:Nat} {S:List Ob} {ad:ByteArray->Value} {m:Int->Bool}
structure Fb (w W:World) (g c b1 b2:Nat) (K M Z:Nat) (T L O:Int) (o:Ob) (A:Option Addr) (cc:Nat):Prop where
 bx:W.heap[g]?=some (.cells (obC o.f0 o.f1 o.f2 A o.f3.length cc) 139 (0,0))
 ct:W.heap[c]?=some (.cells (catC K M Z T L O b1 b2) 137 (0,0))
 bl:Below w.heap.size w W
theorem Fb.step {w W W':World} {g c b1 b2:Nat} {K M Z:Nat} {T L O:Int} {o:Ob} {A:Option Addr} {cc:Nat} (h:Fb w W g c b1 b2 K M Z T L O o A cc) (hb:Below W.heap.size W W'):Fb w W' g c b1 b2 K M Z T L O o A cc :=
 ⟨(hb.block _ (blk_lt h.bx)).trans h.bx,(hb.block _ (blk_lt h.ct)).trans h.ct,below_step h.bl hb⟩
theorem Fb.all {w W:World} {g c b1 b2:Nat} {K M Z:Nat} {T L O:Int} {o:Ob} {A:Option Addr} {cc:Nat} (h:Fb w W g c b1 b2 K M Z T L O o A cc) :
  W.cell? ⟨g,1,none⟩=some (.int .i64 o.f1)/\W.cell? ⟨g,2,none⟩=some (.int .i64 o.f2)/\W.cell? ⟨g,3,none⟩=some (.slice A o.f3.length cc)/\W.cell? ⟨c,0,none⟩=some (.int .i64 K)/\W.cell? ⟨c,1,none⟩=some (.int .i64 M)/\W.cell? ⟨c,2,none⟩=some (.int .i64 Z)/\W.cell? ⟨c,3,none⟩=some (.int .i64 T)/\W.cell? ⟨c,4,none⟩=some (.int .i64 L)/\W.cell? ⟨c,5,none⟩=some (.int .i64 O)/\Fb w W g c b1 b2 K M Z T L O o A cc:=by
 obtain ⟨q0,q1,q2,q3⟩:=ob_cells h.bx
 obtain ⟨r0,r1,r2,r3,r4,r5,r6,r7⟩:=cat_cells h.ct
 exact ⟨q1,q2,q3,r0,r1,r2,r3,r4,r5,h⟩
set_option maxRecDepth 100000 in
set_option maxHeartbeats 2000000 in
theorem fits_ok (h:Cat w c K M Z T L O b1 b2 S ad m n) (hg:LayA.Good K M Z T L O) (o:Ob) {A:Option Addr} {cc len:Nat} (hA:Rt w A o.f3) (hcc:o.f3.length<=cc) (hok:RecA.Ok 1 o.f0 o.f1 o.f3) (he:0<=o.f2/\o.f2<=2147483647) (hle:o.f1=len) (hn:o.f3.length=needN (K*Z) len)
  (hm:∀ x ∈ o.f3,m x=false/\x < T) (hN:o.f3.Nodup) :
  Calls Tryz.prog 60 #[.pointer (some ⟨c,0,none⟩),obV o (.slice A o.f3.length cc)] w fun e w'=>FitP w w' e:=by
 have hok':=hok
 unfold RecA.Ok at hok'
 have hb0:=blk_lt h.box
 have H1:=Aside0.mk (show Fb w (w.alloc (.cells (obC o.f0 o.f1 o.f2 A o.f3.length cc) 139)) w.heap.size c b1 b2 K M Z T L O o A cc from ⟨heap_alloc_new w _,((below_alloc (Below.refl w.heap.size w) _).block c hb0).trans h.box,below_alloc (Below.refl w.heap.size w) _⟩)
 have HC:=Aside0.mk (fun (W:World) (hb:Below w.heap.size w W)=>rcheck hok (hA.gs (Gs.of_below (S:=fun _=>False) hb) (fun _ hk=>hk.elim)) hcc)
 have HN:Aside0 (∀ W:World,Calls Tryz.prog 29 #[geoV K M Z T L O,.int .i64 o.f1] W fun e w'=>e=.returned (.int .i64 (o.f3.length:Int))/\Below W.heap.size W w'):=⟨fun W=>by rw [hle,hn];exact needs_ok hg len (by omega) W⟩
 unfold geoV at HN
 have d1:decide (o.f2 < 0)=false:=by simp;omega
 have d2:decide (2147483647 < o.f2)=false:=by simp;omega
 have HH:=Aside0.mk (And.intro h (And.intro hA (And.intro hm (And.intro hN (And.intro hcc (And.intro (show o.f3.length<=256/\(∀ x ∈ o.f3,0<=x/\x < 256) from ⟨hok'.2.2.2.1,hok'.2.2.2.2.1⟩ ) hb0))))))
 have g1:¬ o.f2 < 0:=by omega
 have g2:¬ o.f2 > 2147483647:=by omega
 have g2':¬ 2147483647 < o.f2:=by omega
 have g256:=hok'.2.2.2.1
 unfold obC at H1
 unfold obV
 have HLE:=Aside0.mk hle
 have HNL:=Aside0.mk hn
 clear h hA hm hN hcc hok he hok' hle hn
 go_enter Tryz.func60,Tryz.ntmps60
 go_wp2_with (go_at_call 85;go_loud (refine (HC.out _ H1.out.bl).mono ?_;rintro e2 w2 ⟨rfl,hb2⟩;obtain ⟨q0,q1,q2,q3⟩:=ob_cells (H1.out.step hb2).bx;obtain ⟨r0,r1,r2,r3,r4,r5,r6,r7⟩:=cat_cells (H1.out.step hb2).ct;have H2:=Aside0.mk (H1.out.step hb2);clear hb2))
 have H3:=Aside0.mk (H2.out.step (below_drew1 (Below.refl _ _)))
 go_region_held3 (fun W=>W.cell? ⟨w.heap.size,1,none⟩=some (.int .i64 o.f1)/\W.cell? ⟨w.heap.size,2,none⟩=some (.int .i64 o.f2)/\W.cell? ⟨w.heap.size,3,none⟩=some (.slice A o.f3.length cc)/\W.cell? ⟨c,0,none⟩=some (.int .i64 K)/\W.cell? ⟨c,1,none⟩=some (.int .i64 M)/\W.cell? ⟨c,2,none⟩=some (.int .i64 Z)/\W.cell? ⟨c,3,none⟩=some (.int .i64 T)/\W.cell? ⟨c,4,none⟩=some (.int .i64 L)/\W.cell? ⟨c,5,none⟩=some (.int .i64 O)/\Fb w W w.heap.size c b1 b2 K M Z T L O o A cc) (first|exact H4.out.all|exact H3.out.all|exact H2.out.all) (first|(go_at_call 29;go_loud (refine (HN.out _).mono ?_;rintro e4 w4 ⟨rfl,hb4⟩;have H4:=Aside0.mk (H3.out.step hb4);clear hb4)))
 obtain ⟨q0,q1,q2,q3⟩:=ob_cells H4.out.bx
 go_wp2
 go_loopg [46] o.f3.length (fun kq x wr=>∃ i:Nat,x=.int .i64 i/\i+kq=o.f3.length/\Aside0 (Fb w wr w.heap.size c b1 b2 K M Z T L O o A cc))
 case atStart=>exact ⟨0,rfl,by omega,⟨H4.out⟩⟩
 case round =>
  obtain ⟨i,rfl,hik,HX⟩:=hrel
  obtain ⟨_,_,_,d3,_,_,_,d7⟩:=cat_cells HX.out.ct
  obtain ⟨_,_,_,e3⟩:=ob_cells HX.out.bx
  by_cases hin:i < o.f3.length
  ·have g1:(i:Int) < (o.f3.length:Int):=by omega
   have g3:(0:Int)<=(i:Int):=by omega
   have hRr:=HH.out.2.1.gs (Gs.of_below (S:=fun _=>False) HX.out.bl) (fun _ hk=>hk.elim)
   obtain ⟨a,hA,hc⟩:=(Rw.of_C hRr.1).at_ i hin
   have hmem:o.f3.getD i 0 ∈ o.f3:=by rw [List.getD_eq_getElem?_getD,List.getElem?_eq_getElem hin];exact List.getElem_mem hin
   have hnt:¬ o.f3.getD i 0 ∈ o.f3.take i:=by
    rw [List.getD_eq_getElem?_getD,List.getElem?_eq_getElem hin,Option.getD_some]
    intro hm
    obtain ⟨j,hj,he⟩:=List.mem_take_iff_getElem.1 hm
    have:=(List.getElem_inj HH.out.2.2.2.1).1 he
    omega
   subst hA
   obtain ⟨xv,hxv⟩:∃ xv,o.f3.getD i 0=xv:=⟨_,rfl⟩
   rw [hxv] at hc hmem hnt
   clear hxv
   have hx0:=HH.out.2.2.1 xv hmem
   have hx1:=HH.out.2.2.2.2.2.1.2 xv hmem
   have f1:decide (xv ≥ T)=false:=by simp;omega
   have f2:decide (T<=xv)=false:=by simp;omega
   have hC:=Aside0.mk (contains_no wr (some a) o.f3 i cc hRr (by omega) (by have:=HH.out.2.2.2.2.1;omega) (by omega) xv hnt)
   obtain ⟨vv,hlook⟩:=(HH.out.1.own.keep (HX.out.bl.block b2 HH.out.1.own.lt)).look Tryz.underlying135 (zero9 wr) (i64_of (a:=xv) (by omega) (by omega))
   rw [hx0.1] at hlook
   have gw:wrap64 ((i:Int)+1)=(i:Int)+1:=w64 _ (by omega)
   have g4:i<=cc:=by have:=HH.out.2.2.2.2.1;omega
   have g5:(i:Int)<=(cc:Int):=by omega
   have g6:¬ (cc:Int) < (i:Int):=by omega
   clear hmem hnt hx0 hx1 hRr
   go_wp2_with (go_at_call 86;go_loud (refine hC.out.mono ?_;rintro e5 w5 ⟨rfl,hd5⟩;have H5:=Aside0.mk hd5;clear hd5))
   go_roundg (o.f3.length - (i+1))
   case measure=>exact meas5 hin hik
   case rel=>exact ⟨i+1,by simp [gw],meas4 hin,⟨HX.out.step H5.out.below⟩⟩
  ·have g1:¬ (i:Int) < (o.f3.length:Int):=by omega
   go_wp2
   go_ret
   exact ⟨rfl,HX.out.bl⟩
end
theorem own_slice2 {w:World} {b e size n:Nat} {v:Value} {xs:List Value} (h:w.ownsRow b e size v n xs):∃ A c,v=.slice A n c/\n<=c:=by
 obtain ⟨h1,h2⟩:=h
 rcases h2 with ⟨rfl,h3⟩|⟨g,cap,cur,rfl,hg,hh,r⟩
 ·obtain ⟨rfl,_⟩:=h3
  exact ⟨none,0,rfl,Nat.le_refl _⟩
 ·exact ⟨_,_,rfl,by first|exact r.1|omega⟩
theorem info3:(Tryz.prog.info? 3).map (fun i=>(i.zero,i.size,i.bytes))=some (some (.int .i64 0),1,8):=by kernel_rfl
def planS (m:Int->Bool) (n:Nat) (p:List Int) (s:Int):List Int:=if !m s && decide (p.length < n) then p ++ [s] else p
def PlanP (w:World) (bo B:Nat) (q:List Int) (w':World):Prop:=∃ v',Boxed w' bo 98 v'/\w'.ownsRow B 3 1 v' q.length (q.map (Value.int .i64))/\Gs (fun k=>B<=k∨k=bo) w w'
section
variable {w:World} {c b1 b2 n:Nat} {K M Z T L O:Int} {S:List Ob} {ad:ByteArray->Value} {m:Int->Bool}
set_option maxRecDepth 100000 in
set_option maxHeartbeats 2000000 in
theorem plan1_ok (h:Cat w c K M Z T L O b1 b2 S ad m n) {bc bo bn B n0:Nat} {v:Value} {p:List Int} (hbc:w.cell? ⟨bc,0,none⟩=some (.pointer (some ⟨c,0,none⟩))) (hv:Boxed w bo 98 v) (hrow:w.ownsRow B 3 1 v p.length (p.map (Value.int .i64))) (hB:B<=w.heap.size) (hp:p.length<=1000)
  (hbn:w.cell? ⟨bn,0,none⟩=some (.int .i64 n0)) (s:Int) (hs:I64 s) :
  Calls Tryz.prog 121 #[.int .i64 s,.pointer (some ⟨bc,0,none⟩),.pointer (some ⟨bo,0,none⟩),.pointer (some ⟨bn,0,none⟩)] w fun e w'=>e=.returned (.tuple #[])/\PlanP w bo B (planS m n0 p s) w':=by
 obtain ⟨A,cc,rfl,hcc⟩:=own_slice2 hrow
 have hcv:=hv.cell
 obtain ⟨_,_,_,_,_,_,_,c7⟩:=cat_cells h.box
 obtain ⟨vv,hlook⟩:=h.own.look Tryz.underlying135 (zero9 w) hs
 obtain ⟨pl,hpl⟩:∃ pl,p.length=pl:=⟨_,rfl⟩
 unfold planS
 rw [hpl] at hcv hv hrow hp ⊢
 have HH:=Aside0.mk (And.intro hv (And.intro hrow (And.intro hB hp)))
 clear hv hrow hB h hcc
 have HP:=Aside0.mk hpl
 clear hpl
 cases hm:m s with
 | true =>
  rw [hm] at hlook
  clear hm
  go_enter Tryz.func121,Tryz.ntmps121
  go_wp2
  refine bodyPost_end (results_none rfl _ _ _) rfl ?_
  refine ⟨rfl,_,HH.out.1,?_,Gs.refl _ _⟩
  rw [HP.out]
  exact HH.out.2.1
 | false =>
  rw [hm] at hlook
  clear hm
  by_cases hlt:pl < n0
  ·have g1:(pl:Int) < (n0:Int):=by omega
   have hd:decide (pl < n0)=true:=decide_eq_true hlt
   obtain ⟨i0,hi,hz0,hz1,hz2⟩:=info_parts info3
   have HI:=Aside0.mk hi
   rw [hd]
   simp only [Bool.not_false,Bool.true_and,if_true]
   clear hd
   go_enter Tryz.func121,Tryz.ntmps121
   go_wp2_with (at_builtin;go_loud (refine wpList_append_own _ rfl _ _ 98 rfl B 3 i0 (.int .i64 0) 1 8 Tryz.underlying98 HI.out hz0 hz1 hz2 rfl (by decide) _ _ _ rfl (HH.out.2.1.alloc _) ⟨w.heap.size,0,none⟩ 1 1 [.int .i64 s] rfl rfl (cell_one_new _ _ _) (by simp [Value.oneCell']) (by have:=HH.out.2.2.2;have:=HP.out;simp only [maxLen];omega) (by have:=HH.out.2.2.2;have:=HP.out;omega) (by have:=HH.out.2.2.1;simp;omega) ?_;intro v' w2 hown' hgrow _;obtain ⟨A',c',rfl,_⟩:=own_slice2 hown';obtain ⟨hv1,hv2,hr2,hk2,hb2⟩:=appended2 HH.out.1 (by decide) HH.out.2.1 HH.out.2.2.1 hown' hgrow;have hc1:=hv1.cell;have hf1:=hv1.frozen;have HR:=Aside0.mk (And.intro hv2 (And.intro hr2 hb2));clear hv1 hv2 hr2 hk2 hb2 hown' hgrow))
   refine bodyPost_end (results_none rfl _ _ _) rfl ?_
   exact ⟨rfl,_,HR.out.1,by simpa [HP.out] using HR.out.2.1,HR.out.2.2⟩
  ·have g1:¬ (pl:Int) < (n0:Int):=by omega
   have hd:decide (pl < n0)=false:=decide_eq_false hlt
   rw [hd]
   simp only [Bool.not_false,Bool.true_and,Bool.false_eq_true,if_false]
   clear hd
   go_enter Tryz.func121,Tryz.ntmps121
   go_wp2
   refine bodyPost_end (results_none rfl _ _ _) rfl ?_
   refine ⟨rfl,_,HH.out.1,?_,Gs.refl _ _⟩
   rw [HP.out]
   exact HH.out.2.1
end
def planL (m:Int->Bool) (n:Nat):Nat->List Int
 | 0=>[]
 | s+1=>planS m n (planL m n s) s
theorem key_ne {k:ByteArray} (h:1<=k.size):k.toList.isEmpty=false:=by
 cases e:k.toList.isEmpty
 ·rfl
 ·have e2:=List.isEmpty_iff.1 e
  rw [ByteArray.toList_eq] at e2
  have e3:k.data.toList.length=0:=by rw [e2];rfl
  have e4:k.size=k.data.toList.length:=rfl
  omega
theorem planL_len (m:Int->Bool) (n:Nat):∀ s,(planL m n s).length<=s
 | 0=>by simp [planL]
 | s+1=>by
  have:=planL_len m n s
  unfold planL planS
  split
  ·simp;omega
  ·omega
def PlnP (full:Bool) (m:Int->Bool) (u f t:Nat) (w w':World) (e:Ending):Prop :=
 ((full=true/\e=.returned (.tuple #[.slice none 0 0,.int .i64 191]))∨(full=false/\f < u/\e=.returned (.tuple #[.slice none 0 0,.int .i64 192]))∨(full=false/\u<=f/\∃ v,e=.returned (.tuple #[v,.int .i64 0])/\w'.ownsRow w.heap.size 3 1 v (planL m u t).length ((planL m u t).map (Value.int .i64))))/\Below w.heap.size w w'
section
variable {w:World} {c b1 b2 n:Nat} {M L O:Int} {K Z T:Nat} {S:List Ob} {ad:ByteArray->Value} {m:Int->Bool}
attribute [local go_sem] calloc_old
set_option maxRecDepth 100000 in
set_option maxHeartbeats 2000000 in
theorem cplan_ok {M:Nat} (h:Cat w c K M Z T L O b1 b2 S ad m n) (hg:LayA.Good K M Z T L O) (k:ByteArray) (hk:1<=k.size/\k.size<=64) (len:Nat) (hlen:len<=2147483647) (hn:n<=T) :
  Calls Tryz.prog 90 #[.pointer (some ⟨c,0,none⟩),.string k,.int .i64 len] w fun e w'=>PlnP (!(findS S k).isSome && decide (O<=(S.length:Int))) m (needN (K*Z) len) (T - n) T w w' e:=by
 have hg':=hg
 unfold LayA.Good at hg'
 have HB:=Aside0.mk (Below.refl w.heap.size w)
 have HF:=Aside0.mk (fun (W:World) (hb:Below w.heap.size w W)=>full_ok (h.below hb) k (by omega))
 have HN:=Aside0.mk (fun (W:World)=>needs_ok hg len hlen W)
 have HR:=Aside0.mk (fun (W:World) (hb:Below w.heap.size w W) (q:Nat)=>free_ok (h.below (pw_below_drewN hb q)) (by omega))
 have HP:=Aside0.mk (fun (W:World) (hb:Below w.heap.size w W)=>h.below hb)
 obtain ⟨c0,c1,c2,c3,c4,c5,c6,c7⟩:=cat_cells h.box
 have hc:=h.lt
 have hl:k.size<=64:=hk.2
 have hl2:¬ (64:Int) < (k.size:Int):=by omega
 have hke:=key_ne hk.1
 have g1:¬ (len:Int) < 0:=by omega
 have g2:¬ (2147483647:Int) < (len:Int):=by omega
 have gT:T<=1000:=by omega
 unfold geoV at HN
 clear h hg hg'
 obtain ⟨fu,hfu⟩:∃ fu,(!(findS S k).isSome && decide (O<=(S.length:Int)))=fu:=⟨_,rfl⟩
 obtain ⟨u,hu⟩:∃ u,needN (K*Z) len=u:=⟨_,rfl⟩
 rw [hfu] at HF ⊢
 rw [hu] at HN ⊢
 clear hfu hu
 cases fu with
 | true =>
  go_enter Tryz.func90,Tryz.ntmps90
  go_wp2_with (go_at_call 119;go_loud (refine (HF.out _ (below_alloc HB.out _)).mono ?_;rintro e1 w1 ⟨rfl,hb1⟩;have H1:=Aside0.mk (below_step (below_alloc HB.out _) hb1);clear hb1))
  go_ret2
  exact ⟨.inl ⟨rfl,rfl⟩,H1.out⟩
 | false =>
  by_cases hfr:T - n < u
  ·have g3:(T:Int) - n < (u:Int):=by omega
   have g4:((u:Int) > (T:Int) - n):=by omega
   go_enter Tryz.func90,Tryz.ntmps90
   go_wp2_with (first|(go_at_call 29;go_loud (refine (HN.out _).mono ?_;rintro e2 w2 ⟨rfl,hb2⟩;have hbx2:(w2.alloc (.cells #[.int .i64 u] 3)).heap[w.heap.size]?=some (.cells #[.pointer (some ⟨c,0,none⟩)] 106 (0,0)):=((below_alloc hb2 _).block _ (blk_lt HX.out)).trans HX.out;have e1:(w2.alloc (.cells #[.int .i64 u] 3)).cell? ⟨w.heap.size,0,none⟩=some (.pointer (some ⟨c,0,none⟩)):=(by simp [World.cell?,hbx2]);have hb2':=below_step H1.out hb2;have hb3:=below_alloc hb2' (Obj.cells #[.int .i64 u] 3);have HQ:=Aside0.mk (HR.out (w2.alloc (.cells #[.int .i64 u] 3)) hb3);obtain ⟨_,_,_,k3,_,_,_,_⟩:=cat_cells (HP.out _ hb3).box;have hbn:=heap_alloc_new w2 (Obj.cells #[.int .i64 u] 3);have e2:(w2.alloc (.cells #[.int .i64 u] 3)).cell? ⟨w2.heap.size,0,none⟩=some (.int .i64 u):=Boxed.cell (t:=3) hbn;have s1:=blk_lt hbx2;have s2:=(HP.out _ hb3).lt;have s3:=blk_lt hbn;have H2:=Aside0.mk (And.intro hb3 (And.intro hbx2 (And.intro (hsz w2 (Obj.cells #[.int .i64 u] 3)) hbn)));clear hb2 hb2' hbx2 hb3 hbn))|(go_at_call 119;go_loud (refine (HF.out _ (below_alloc HB.out _)).mono ?_;rintro e1 w1 ⟨rfl,hb1⟩;have hbx:w1.heap[w.heap.size]?=some (.cells #[.pointer (some ⟨c,0,none⟩)] 106 (0,0)):=(hb1.block _ (by simp)).trans (heap_alloc_new w _);have hx1:w1.cell? ⟨w.heap.size,0,none⟩=some (.pointer (some ⟨c,0,none⟩)):=(by simp [World.cell?,hbx]);have hb1':=below_step (below_alloc HB.out _) hb1;obtain ⟨d0,d1,d2,d3,d4,d5,_,_⟩:=cat_cells (HP.out _ hb1').box;have H1:=Aside0.mk hb1';have HX:=Aside0.mk hbx;clear hb1 hb1' hbx)))
   generalize w2.alloc (.cells #[.int .i64 u] 3)=W1 at *
   have r1:∀ q o,((W1.drewN q).alloc o).cell? ⟨w.heap.size,0,none⟩=some (.pointer (some ⟨c,0,none⟩)):=fun q o=>(calloc_old (w:=W1.drewN q) s1).trans e1
   have r3:∀ q o,((W1.drewN q).alloc o).cell? ⟨c,3,none⟩=some (.int .i64 T):=fun q o=>(calloc_old (w:=W1.drewN q) s2).trans k3
   go_quiet ((go_at_call 120;exact quiet_drawn HQ.out))
   go_wp2
   go_ret2
   exact ⟨.inr (.inl ⟨rfl,hfr,rfl⟩),pw_below_drewN H2.out.1 _⟩
  ·have g3:¬ (T:Int) - n < (u:Int):=by omega
   have g4:¬ ((u:Int) > (T:Int) - n):=by omega
   go_enter Tryz.func90,Tryz.ntmps90
   go_wp2_with (first|(go_at_call 29;go_loud (refine (HN.out _).mono ?_;rintro e2 w2 ⟨rfl,hb2⟩;have hbx2:(w2.alloc (.cells #[.int .i64 u] 3)).heap[w.heap.size]?=some (.cells #[.pointer (some ⟨c,0,none⟩)] 106 (0,0)):=((below_alloc hb2 _).block _ (blk_lt HX.out)).trans HX.out;have e1:(w2.alloc (.cells #[.int .i64 u] 3)).cell? ⟨w.heap.size,0,none⟩=some (.pointer (some ⟨c,0,none⟩)):=(by simp [World.cell?,hbx2]);have hb2':=below_step H1.out hb2;have hb3:=below_alloc hb2' (Obj.cells #[.int .i64 u] 3);have HQ:=Aside0.mk (HR.out (w2.alloc (.cells #[.int .i64 u] 3)) hb3);obtain ⟨_,_,_,k3,_,_,_,_⟩:=cat_cells (HP.out _ hb3).box;have hbn:=heap_alloc_new w2 (Obj.cells #[.int .i64 u] 3);have e2:(w2.alloc (.cells #[.int .i64 u] 3)).cell? ⟨w2.heap.size,0,none⟩=some (.int .i64 u):=Boxed.cell (t:=3) hbn;have s1:=blk_lt hbx2;have s2:=(HP.out _ hb3).lt;have s3:=blk_lt hbn;have H2:=Aside0.mk (And.intro hb3 (And.intro hbx2 (And.intro (hsz w2 (Obj.cells #[.int .i64 u] 3)) hbn)));clear hb2 hb2' hbx2 hb3 hbn))|(go_at_call 119;go_loud (refine (HF.out _ (below_alloc HB.out _)).mono ?_;rintro e1 w1 ⟨rfl,hb1⟩;have hbx:w1.heap[w.heap.size]?=some (.cells #[.pointer (some ⟨c,0,none⟩)] 106 (0,0)):=(hb1.block _ (by simp)).trans (heap_alloc_new w _);have hx1:w1.cell? ⟨w.heap.size,0,none⟩=some (.pointer (some ⟨c,0,none⟩)):=(by simp [World.cell?,hbx]);have hb1':=below_step (below_alloc HB.out _) hb1;obtain ⟨d0,d1,d2,d3,d4,d5,_,_⟩:=cat_cells (HP.out _ hb1').box;have H1:=Aside0.mk hb1';have HX:=Aside0.mk hbx;clear hb1 hb1' hbx)))
   generalize w2.alloc (.cells #[.int .i64 u] 3)=W1 at *
   have r1:∀ q o,((W1.drewN q).alloc o).cell? ⟨w.heap.size,0,none⟩=some (.pointer (some ⟨c,0,none⟩)):=fun q o=>(calloc_old (w:=W1.drewN q) s1).trans e1
   have r3:∀ q o,((W1.drewN q).alloc o).cell? ⟨c,3,none⟩=some (.int .i64 T):=fun q o=>(calloc_old (w:=W1.drewN q) s2).trans k3
   go_quiet ((go_at_call 120;exact quiet_drawn HQ.out))
   go_wp2
   have HC1:=Aside0.mk (HP.out _ (below_alloc (pw_below_drewN H2.out.1 nq) (Obj.cells #[.slice none 0 0] 98)))
   have HW:=Aside0.mk (show W1.heap.size=(W1.drewN nq).heap.size from rfl)
   have hS1:((W1.drewN nq).alloc (Obj.cells #[.slice none 0 0] 98)).heap.size=W1.heap.size+1:=hsz _ _
   have HS:=Aside0.mk hS1
   clear hS1
   go_loopg [50] T (fun kq x wr=>∃ i:Nat,x=.int .i64 i/\i+kq=T/\Aside0 (∃ v,Boxed wr W1.heap.size 98 v/\wr.ownsRow (W1.heap.size+1) 3 1 v (planL m u i).length ((planL m u i).map (Value.int .i64)))/\Aside0 (Gs (fun k=>k=W1.heap.size) ((W1.drewN nq).alloc (.cells #[.slice none 0 0] 98)) wr))
   case atStart=>exact ⟨0,rfl,by omega,⟨_,heap_alloc_new (W1.drewN nq) _,by simp [planL],.inl ⟨rfl,by simp [planL]⟩⟩,⟨Gs.refl _ _⟩⟩
   case round =>
    obtain ⟨i,rfl,hik,HX,HG⟩:=hrel
    by_cases hin:i < T
    ·have f1:(i:Int) < (T:Int):=by omega
     have hne:∀ k,k < W1.heap.size->k < ((W1.drewN nq).alloc (Obj.cells #[.slice none 0 0] 98)).heap.size/\¬ k=W1.heap.size:=fun k hk=>⟨by rw [HS.out];omega,by omega⟩
     have hT3:∀ k,k=W1.heap.size->¬ T3 ((W1.drewN nq).alloc (Obj.cells #[.slice none 0 0] 98)) k:=by
      rintro k rfl ⟨cells,hc⟩
      have h98:=heap_alloc_new (W1.drewN nq) (Obj.cells #[.slice none 0 0] 98)
      rw [show (W1.drewN nq).heap.size=W1.heap.size from rfl] at h98
      rw [h98] at hc
      cases hc
     have hb1:=(HP.out _ H2.out.1).objs.lt
     have hb2:=(HP.out _ H2.out.1).own.lt
     obtain ⟨v,hv,hrow⟩:=HX.out
     have hbl:∀ k,k < W1.heap.size->wr.heap[k]?=W1.heap[k]? :=fun k hk=>(HG.out.block k (hne k hk).1 (hne k hk).2).trans ((below_alloc (Below.refl (W1.drewN nq).heap.size (W1.drewN nq)) _).block k hk)
     have hcr:=HC1.out.gs HG.out (by omega) (by omega) (by omega) hT3
     have hbc:wr.cell? ⟨w.heap.size,0,none⟩=some (.pointer (some ⟨c,0,none⟩)):=Boxed.cell (t:=106) ((hbl _ s1).trans H2.out.2.1)
     have hbn:wr.cell? ⟨w2.heap.size,0,none⟩=some (.int .i64 u):=Boxed.cell (t:=3) ((hbl _ s3).trans H2.out.2.2.2)
     have hsz2:W1.heap.size+1<=wr.heap.size:=by rw [<- HS.out];exact HG.out.size
     have hP:=Aside0.mk (plan1_ok hcr hbc hv hrow hsz2 (Nat.le_trans (planL_len m u i) (by omega)) hbn (i:Int) (i64_of (by omega) (by omega)))
     have gw:wrap64 ((i:Int)+1)=(i:Int)+1:=w64 _ (by omega)
     clear hbc hbn hcr hbl hv hrow hne hT3
     go_wp2_with (go_at_call 121;go_loud (refine hP.out.mono ?_;rintro e5 w5 ⟨rfl,v5,hv5,hr5,hg5⟩;have H5:=Aside0.mk (And.intro hv5 (And.intro hr5 hg5));clear hv5 hr5 hg5))
     go_roundg (T - (i+1))
     case measure=>exact meas5 hin hik
     case rel=>exact ⟨i+1,by simp [gw],meas4 hin,⟨v5,H5.out.1,H5.out.2.1⟩,⟨HG.out.but (by rw [HS.out];exact H5.out.2.2)⟩⟩
    ·have f1:¬ (i:Int) < (T:Int):=by omega
     have e0:i=T:=by omega
     subst e0
     obtain ⟨v,hv,hrow⟩:=HX.out
     obtain ⟨A,cc,rfl,hcc⟩:=own_slice2 hrow
     have hcv:=hv.cell
     go_wp2
     go_ret2
     refine ⟨.inr (.inr ⟨rfl,by omega,_,rfl,ownsRow_base_a hrow (by omega)⟩),?_⟩
     exact below_of_gs (below_alloc (pw_below_drewN H2.out.1 nq) _) HG.out (fun k hk=>by omega)
end
end Go.Proofs.YtmmcbncpnlknbaaGreat.Top
