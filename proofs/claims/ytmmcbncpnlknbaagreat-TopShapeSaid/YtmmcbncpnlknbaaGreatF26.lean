import Derived.Test.YtmmcbncpnlknbaaGreatF25
set_option linter.unusedVariables false
set_option linter.unusedSimpArgs false
namespace Go.Proofs.YtmmcbncpnlknbaaGreat.Top
open Go Go.RowKit Go.Proofs.YtmmcbncpnlknbaaGreatW.PrintWords Go.Proofs.YtmmcbncpnlknbaaGreatW.PrintLast Go.Proofs.YtmmcbncpnlknbaaGreatW.PrintMore
def recC (kd:Int) (k:ByteArray) (l:Int) (A:Option Addr) (n c:Nat):Array Value:=#[.int .i64 kd,.string k,.int .i64 l,.slice A n c]
theorem rec_cells {w:World} {g:Nat} {k:ByteArray} {l e:Int} {A:Option Addr} {n c:Nat} (h:w.heap[g]?=some (.cells (recC e k l A n c) 160 (0,0))) :
  w.cell? ⟨g,0,none⟩=some (.int .i64 e)/\w.cell? ⟨g,1,none⟩=some (.string k)/\w.cell? ⟨g,2,none⟩=some (.int .i64 l)/\w.cell? ⟨g,3,none⟩=some (.slice A n c):=by
 simp only [World.cell?,h,recC]
 exact ⟨rfl,rfl,rfl,rfl⟩
section
variable {w:World} {c b1 b2 n:Nat} {K M Z T L O:Int} {S:List Ob} {ad:ByteArray->Value} {m:Int->Bool}
structure Ap (w W:World) (c:Nat) (K M Z T L O:Int) (b1 b2:Nat) (S:List Ob) (ad:ByteArray->Value) (m:Int->Bool) (n:Nat) (kd:Int) (o:Ob) (A:Option Addr) (cc:Nat) (g:Nat):Prop where
 bx:W.heap[w.heap.size]?=some (.cells (recC kd o.f0 o.f1 A o.f3.length cc) 160 (0,0))
 ob:g=w.heap.size∨W.heap[g]?=some (.cells (obC o.f0 o.f1 o.f2 A o.f3.length cc) 139 (0,0))
 ct:Cat W c K M Z T L O b1 b2 S ad m n
 bl:Below w.heap.size w W
theorem Ap.step {W W':World} {kd:Int} {o:Ob} {A:Option Addr} {cc g:Nat} (h:Ap w W c K M Z T L O b1 b2 S ad m n kd o A cc g) (hb:Below W.heap.size W W'):Ap w W' c K M Z T L O b1 b2 S ad m n kd o A cc g :=
 ⟨(hb.block _ (blk_lt h.bx)).trans h.bx,h.ob.imp id (fun h2=>(hb.block _ (blk_lt h2)).trans h2),h.ct.below hb,below_step h.bl hb⟩
def lookV (S:List Ob) (ad:ByteArray->Value) (k:ByteArray):Value:=((findS S k).map fun o=>obV o (ad o.f0)).getD (.agg #[.string ⟨#[]⟩,.int .i64 0,.int .i64 0,.slice none 0 0])
theorem look_ex (h:Cat w c K M Z T L O b1 b2 S ad m n) (k:ByteArray):∃ x0 x1 x2 A a c,lookV S ad k=.agg #[.string x0,.int .i64 x1,.int .i64 x2,.slice A a c]:=by
 unfold lookV
 cases hf:findS S k with
 | none=>exact ⟨_,_,_,_,_,_,rfl⟩
 | some o =>
  obtain ⟨A,cc,hA,_,_⟩:=h.rows o (findS_some hf).1
  simp only [Option.map_some,Option.getD_some,obV,hA]
  exact ⟨_,_,_,_,_,_,rfl⟩
theorem Ap.all {W:World} {kd:Int} {o:Ob} {A:Option Addr} {cc g:Nat} (h:Ap w W c K M Z T L O b1 b2 S ad m n kd o A cc g) (hk:o.f0.size<=1000000) {V:Value} (hV:lookV S ad o.f0=V) {f:Bool} (hf:(findS S o.f0).isSome=f) :
  W.cell? ⟨w.heap.size,1,none⟩=some (.string o.f0)/\W.cell? ⟨c,6,none⟩=some (.map (some b1))/\(Instr.lookup 134 (.map (some b1)) (.string o.f0) true).run Tryz.prog W=.ok (.tuple #[V,.bool f]) W/\Ap w W c K M Z T L O b1 b2 S ad m n kd o A cc g:=by
 obtain ⟨q0,q1,q2,q3⟩:=rec_cells h.bx
 obtain ⟨r0,r1,r2,r3,r4,r5,r6,r7⟩:=cat_cells h.ct.box
 exact ⟨q1,r6,by rw [<- hV,<- hf];exact h.ct.objs.look Tryz.underlying134 (zero139 W) hk,h⟩
set_option maxRecDepth 100000 in
set_option maxHeartbeats 2000000 in
theorem capply_del (h:Cat w c K M Z T L O b1 b2 S ad m n) (k:ByteArray) (hk:1<=k.size/\k.size<=64) (ep:Int) (hf:(findS S k).isSome=true) (hl:(strOf S k).length<=1000) (hI:∀ x ∈ strOf S k,I64 x/\m x=true) (hN:(strOf S k).Nodup) :
  Calls Tryz.prog 107 #[.pointer (some ⟨c,0,none⟩),.agg #[.int .i64 2,.string k,.int .i64 0,.slice none 0 0],.int .i64 ep] w fun e w'=>e=.returned (.int .i64 0)/\Cat w' c K M Z T L O b1 b2 (offS S k) ad (offL m (strOf S k)) (n - (strOf S k).length)/\Gs (fun j=>j=b1∨j=b2) w w':=by
 have H0:=Aside0.mk (show Ap w (w.alloc (.cells (recC 2 k 0 none 0 0) 160)) c K M Z T L O b1 b2 S ad m n 2 ⟨k,0,ep,[]⟩ none 0 w.heap.size from ⟨heap_alloc_new w _,.inl rfl,h.below (below_alloc (Below.refl _ _) _),below_alloc (Below.refl _ _) _⟩)
 have HC:=Aside0.mk (fun (W:World)=>rcheck (kd:=2) (key:=k) (len:=0) (st:=[]) (by unfold RecA.Ok;simp;omega) (A:=none) (c:=0) (w:=W) ⟨Kd.C_nil _ _,fun a ha=>by cases ha⟩ (Nat.le_refl _))
 have HD:=Aside0.mk (fun (W:World) (hc:Cat W c K M Z T L O b1 b2 S ad m n)=>drop_ok hc (k:=k) (by omega) hl hI hN)
 obtain ⟨x0,x1,x2,A9,a9,c9,hV⟩:=look_ex h k
 have HV:=Aside0.mk hV
 have hk2:k.size<=1000000:=by omega
 simp only [List.length_nil] at HC
 have HF:=Aside0.mk hf
 unfold recC at H0
 clear h hl hI hN hV hf
 go_enter Tryz.func107,Tryz.ntmps107
 go_wp2_with (first|(go_at_call 85;go_loud (refine (HC.out _).mono ?_;rintro e1 w1 ⟨rfl,hb1⟩;obtain ⟨q0,q1,q2,q3⟩:=rec_cells (H0.out.step hb1).bx;have H1:=Aside0.mk (H0.out.step hb1);clear hb1)))
 have H3:=Aside0.mk (H1.out.step (below_drew1 (below_alloc (Below.refl _ _) (Obj.cells #[.string k,.int .i64 0,.int .i64 ep,.slice none 0 0] 139))))
 go_region_held3 (fun W=>W.cell? ⟨w.heap.size,1,none⟩=some (.string k)/\W.cell? ⟨c,6,none⟩=some (.map (some b1))/\(Instr.lookup 134 (.map (some b1)) (.string k) true).run Tryz.prog W=.ok (.tuple #[.agg #[.string x0,.int .i64 x1,.int .i64 x2,.slice A9 a9 c9],.bool (findS S k).isSome]) W/\Ap w W c K M Z T L O b1 b2 S ad m n 2 ⟨k,0,ep,[]⟩ none 0 w.heap.size) (first|exact H3.out.all hk2 HV.out rfl|exact (H3.out.step (below_alloc (Below.refl _ _) _)).all hk2 HV.out rfl) (fail)
 all_goals
  have H4:=Aside0.mk (H1.out.step (below_drew1 (below_alloc (below_alloc (Below.refl _ _) (Obj.cells #[.string k,.int .i64 0,.int .i64 ep,.slice none 0 0] 139)) (Obj.cells #[.string x0,.int .i64 x1,.int .i64 x2,.slice A9 a9 c9] 139))))
  obtain ⟨s0,s1,_,_⟩:=rec_cells H4.out.bx
  have hff:=HF.out
  go_wp2_with (go_at_call 87;go_loud (refine (HD.out _ H4.out.ct).mono ?_;rintro e5 w5 ⟨rfl,hc5,hg5⟩;have H5:=Aside0.mk (And.intro hc5 hg5);clear hc5 hg5))
  go_ret
  exact ⟨rfl,H5.out.1,(Gs.of_below H4.out.bl).trans H5.out.2⟩
set_option maxRecDepth 100000 in
set_option maxHeartbeats 2000000 in
theorem capply_put {K M Z:Nat} (h:Cat w c K M Z T L O b1 b2 S ad m n) (hg:LayA.Good K M Z T L O) (o:Ob) {A:Option Addr} {cc len:Nat} (hA:Rt w A o.f3) (hcc:o.f3.length<=cc) (hok:RecA.Ok 1 o.f0 o.f1 o.f3) (he:0<=o.f2/\o.f2<=2147483647) (hle:o.f1=len) (hnd:o.f3.length=needN (K*Z) len)
  (hm:∀ x ∈ o.f3,m x=false/\x < T) (hN:o.f3.Nodup) (hfull:(!(findS S o.f0).isSome && decide (O<=(S.length:Int)))=false)
  (hl:(strOf S o.f0).length<=1000) (hI:∀ x ∈ strOf S o.f0,I64 x/\m x=true) (hSN:(strOf S o.f0).Nodup) (hS:S.length<=1000) (hn:n<=1000) :
  Calls Tryz.prog 107 #[.pointer (some ⟨c,0,none⟩),.agg #[.int .i64 1,.string o.f0,.int .i64 o.f1,.slice A o.f3.length cc],.int .i64 o.f2] w fun e w'=>e=.returned (.int .i64 0)/\(∃ ad',Cat w' c K M Z T L O b1 b2 (putS S o) ad' (orL (offL m (strOf S o.f0)) o.f3) (n - (strOf S o.f0).length+o.f3.length))/\Gs (fun j=>j=b1∨j=b2) w w':=by
 have hok':=hok
 unfold RecA.Ok at hok'
 have H0:=Aside0.mk (show Ap w (w.alloc (.cells (recC 1 o.f0 o.f1 A o.f3.length cc) 160)) c K M Z T L O b1 b2 S ad m n 1 o A cc w.heap.size from ⟨heap_alloc_new w _,.inl rfl,h.below (below_alloc (Below.refl _ _) _),below_alloc (Below.refl _ _) _⟩)
 have hRt:∀ W,Below w.heap.size w W->Rt W A o.f3:=fun W hb=>hA.gs (Gs.of_below (S:=fun _=>False) hb) (fun _ hk=>hk.elim)
 have HC:=Aside0.mk (fun (W:World) (hb:Below w.heap.size w W)=>rcheck hok (hRt W hb) hcc)
 have HU:=Aside0.mk (fun (W:World) (hc:Cat W c K M Z T L O b1 b2 S ad m n)=>full_ok hc o.f0 (by omega))
 have HT:=Aside0.mk (fun (W:World) (hc:Cat W c K M Z T L O b1 b2 S ad m n) (hb:Below w.heap.size w W)=>fits_ok hc hg o (hRt W hb) hcc hok he hle hnd hm hN)
 have HD:=Aside0.mk (fun (W:World) (hc:Cat W c K M Z T L O b1 b2 S ad m n) (hb:Below w.heap.size w W)=>cput_ok hc o (hRt W hb) hcc (by omega) hl hI hSN hS hn (by omega) (fun x hx=>⟨i64_of (by have:=hok'.2.2.2.2.1 x hx;omega) (by have:=hok'.2.2.2.2.1 x hx;omega),by unfold offL;rw [(hm x hx).1];rfl⟩) hN)
 obtain ⟨x0,x1,x2,A9,a9,c9,hV⟩:=look_ex h o.f0
 have HV:=Aside0.mk hV
 have hk2:o.f0.size<=1000000:=by omega
 rw [hfull] at HU
 unfold obV at HT HD
 unfold recC at H0
 obtain ⟨f,hf⟩:∃ f,(findS S o.f0).isSome=f:=⟨_,rfl⟩
 have HF:=Aside0.mk hf
 clear h hl hI hN hSN hV hf hfull hok hok' he hle hnd hm hA hcc hRt hg hS hn
 go_enter Tryz.func107,Tryz.ntmps107
 go_wp2_with (first|(go_at_call 85;go_loud (refine (HC.out _ H0.out.bl).mono ?_;rintro e1 w1 ⟨rfl,hb1⟩;obtain ⟨q0,q1,q2,q3⟩:=rec_cells (H0.out.step hb1).bx;have H1:=Aside0.mk (H0.out.step hb1);clear hb1)))
 have H3:=Aside0.mk (H1.out.step (below_drew1 (below_alloc (Below.refl _ _) (Obj.cells #[.string o.f0,.int .i64 o.f1,.int .i64 o.f2,.slice A o.f3.length cc] 139))))
 go_region_held3 (fun W=>W.cell? ⟨w.heap.size,1,none⟩=some (.string o.f0)/\W.cell? ⟨c,6,none⟩=some (.map (some b1))/\(Instr.lookup 134 (.map (some b1)) (.string o.f0) true).run Tryz.prog W=.ok (.tuple #[.agg #[.string x0,.int .i64 x1,.int .i64 x2,.slice A9 a9 c9],.bool f]) W/\Ap w W c K M Z T L O b1 b2 S ad m n 1 o A cc w.heap.size) (first|exact H3.out.all hk2 HV.out HF.out|exact (H3.out.step (below_alloc (Below.refl _ _) _)).all hk2 HV.out HF.out) (fail)
 all_goals
  have H4:=Aside0.mk (H1.out.step (below_drew1 (below_alloc (below_alloc (Below.refl _ _) (Obj.cells #[.string o.f0,.int .i64 o.f1,.int .i64 o.f2,.slice A o.f3.length cc] 139)) (Obj.cells #[.string x0,.int .i64 x1,.int .i64 x2,.slice A9 a9 c9] 139))))
  obtain ⟨s0,s1,_,_⟩:=rec_cells H4.out.bx
  have HO:=Aside0.mk (two0 w1 (Obj.cells (obC o.f0 o.f1 o.f2 A o.f3.length cc) 139) (Obj.cells #[.string x0,.int .i64 x1,.int .i64 x2,.slice A9 a9 c9] 139))
  go_wp2_with (first|(go_at_call 61;go_loud (refine (HD.out _ H6.out.ct H6.out.bl).mono ?_;rintro e7 w7 ⟨rfl,hc7,hg7⟩;have H7:=Aside0.mk (And.intro hc7 hg7);clear hc7 hg7))|(go_at_call 60;go_loud (refine (HT.out _ H5.out.ct H5.out.bl).mono ?_;rintro e6 w6 ⟨rfl,hb6⟩;obtain ⟨v0,v1,v2,v3⟩:=ob_cells ((hb6.block _ (blk_lt HO5.out)).trans HO5.out);have H6:=Aside0.mk (H5.out.step hb6);clear hb6))|(go_at_call 119;go_loud (refine (HU.out _ H4.out.ct).mono ?_;rintro e5 w5 ⟨rfl,hb5⟩;have HO5:=Aside0.mk ((hb5.block _ (blk_lt (show (((w1.alloc (Obj.cells (obC o.f0 o.f1 o.f2 A o.f3.length cc) 139)).alloc (Obj.cells #[.string x0,.int .i64 x1,.int .i64 x2,.slice A9 a9 c9] 139)).drew).heap[w1.heap.size]?=_ from HO.out))).trans HO.out);obtain ⟨u0,u1,u2,u3⟩:=ob_cells HO5.out;obtain ⟨t0,t1,t2,t3⟩:=rec_cells (H4.out.step hb5).bx;have H5:=Aside0.mk (H4.out.step hb5);clear hb5)))
  go_ret
  exact ⟨rfl,H7.out.1,(Gs.of_below H6.out.bl).trans H7.out.2⟩
end
def NewP (w w':World) (e:Ending) (K M Z T L O:Int):Prop:=∃ c b1 b2,e=.returned (.tuple #[.pointer (some ⟨c,0,none⟩),.int .i64 0])/\Cat w' c K M Z T L O b1 b2 [] (fun _=>.slice none 0 0) (fun _=>false) 0/\w.heap.size<=c/\w.heap.size<=b1/\w.heap.size<=b2/\Below w.heap.size w w'
set_option maxRecDepth 100000 in
set_option maxHeartbeats 2000000 in
theorem cnew_ok {K M Z T L O:Int} (hg:LayA.Good K M Z T L O) (A:Option Addr) (cc:Nat) (w:World) :
  Calls Tryz.prog 41 #[geoV K M Z T L O,.slice A 0 cc] w fun e w'=>NewP w w' e K M Z T L O:=by
 have HG:=Aside0.mk (fun W=>gcheck_ok hg W)
 have hg':=hg
 unfold LayA.Good at hg'
 have g1:¬ (0:Int) > O:=by omega
 have g2:¬ O < (0:Int):=by omega
 have HL0:=Aside0.mk (show Gb w (w.alloc (.cells (geoC K M Z T L O) 23)) w.heap.size K M Z T L O from ⟨heap_alloc_new w _,below_alloc (Below.refl w.heap.size w) _⟩)
 have mk1:∀ W:World,(Instr.makeMap 134 none).run Tryz.prog W=.ok (.map (some W.heap.size)) (W.alloc (.map #[] 0)):=fun W=>by kernel_rfl
 have mk2:∀ W:World,(Instr.makeMap 135 none).run Tryz.prog W=.ok (.map (some W.heap.size)) (W.alloc (.map #[] 0)):=fun W=>by kernel_rfl
 unfold geoV at HG ⊢
 unfold geoC at HL0
 clear hg hg'
 go_enter Tryz.func41,Tryz.ntmps41
 go_wp2_with (go_at_call 12;go_loud (refine (HG.out _).mono ?_;rintro e2 w2 ⟨rfl,hb2⟩;obtain ⟨q0,q1,q2,q3,q4,q5,_⟩:=(HL0.out.step hb2).all;have HL2:=Aside0.mk (HL0.out.step hb2);clear hb2))
 go_loopg [29] 0 (fun kq x wr=>x=.int .i64 0/\Aside0 (Cat wr (w2.heap.size+1+1) K M Z T L O w2.heap.size (w2.heap.size+1) [] (fun _=>.slice none 0 0) (fun _=>false) 0/\Below w.heap.size w wr))
 case atStart =>
  have hs:=HL2.out.2.size
  refine ⟨rfl,⟨⟨?_,?_,?_,(fun o ho=>nomatch ho),by omega⟩,below_alloc (below_alloc (below_alloc HL2.out.2 _) _) _⟩⟩
  ·simp only [hal,hsz]
   rw [if_pos trivial]
   rfl
  ·exact (Ms.made w2 _).keep (by simp only [hal,hsz];rw [if_neg (by omega),if_neg (by omega),if_pos trivial])
  ·have h9:=Mo.made (w2.alloc (.map #[] 0))
   rw [hsz] at h9
   exact h9.keep (by simp only [hal,hsz];rw [if_neg (by omega),if_pos trivial])
 case round =>
  obtain ⟨rfl,HX⟩:=hrel
  go_wp2
  go_ret2
  have hs:=HL2.out.2.size
  exact ⟨_,_,_,rfl,HX.out.1,by omega,by omega,by omega,HX.out.2⟩
end Go.Proofs.YtmmcbncpnlknbaaGreat.Top
namespace Go.Proofs.YtmmcbncpnlknbaaGreat.Top
open Go Go.RowKit Go.Sort Go.Shelf Go.Proofs.YtmmcbncpnlknbaaGreatW.PrintWords Go.Proofs.YtmmcbncpnlknbaaGreatW.PrintLast Go.Proofs.YtmmcbncpnlknbaaGreatW.PrintMore
theorem sortsTop (m:Nat):AnyZ.SortsIn Tryz.prog sortedA_ren Fence.wide m :=
  ⟨fun blk off cap ss W hH hblk hsz=>callsIn_wide.2 (AnyM.slices_Sort_string sortA blk off cap ss W hH hblk hsz),
   fun p cap W=>callsIn_wide.2 (AnyM.slices_Sort_string_none sortA p cap W)⟩
def keysS (S:List Ob):List (List UInt8):=(S.map fun o=>kb o.f0).mergeSort (fun x y=>decide (x<=y))
theorem strKeys_ent (S:List Ob) (ad:ByteArray->Value):strKeys (DataW.map (S.map (entS ad)))=S.map fun o=>kb o.f0:=by
 show (S.map (entS ad)).map (fun p=>Go.strOf p.1)=_
 rw [List.map_map]
 rfl
theorem le_perm {a b:List (List UInt8)} (h:a.Perm b):a.mergeSort (fun x y=>decide (x<=y))=b.mergeSort (fun x y=>decide (x<=y)):=by
 have ht:∀ x y z:List UInt8,decide (x<=y)=true->decide (y<=z)=true->decide (x<=z)=true:=fun x y z h1 h2=>by
  simp only [decide_eq_true_eq] at *
  exact List.le_trans h1 h2
 have hT:∀ x y:List UInt8,(decide (x<=y) || decide (y<=x))=true:=fun x y=>by
  simp only [Bool.or_eq_true,decide_eq_true_eq]
  exact List.le_total x y
 refine List.Perm.eq_of_pairwise (le:=fun x y=>decide (x<=y)=true) (fun x y _ _ h1 h2=>?_) (List.pairwise_mergeSort ht hT a) (List.pairwise_mergeSort ht hT b) (((List.mergeSort_perm a _).trans h).trans (List.mergeSort_perm b _).symm)
 simp only [decide_eq_true_eq] at *
 exact List.le_antisymm h1 h2
theorem sorted_keys {W:World} {b1:Nat} {S:List Ob} {ad:ByteArray->Value} (h:Ms W b1 S ad) (hS:S.length<=1000) :
  Calls Tryz.prog 130 #[.func (.func 156) #[] #[.pointer (some ⟨W.heap.size,0,none⟩)]] (W.alloc (.cells #[.map (some b1)] 134)) fun e w'=>∃ v,e=.returned v/\w'.ownsRow W.heap.size 9 1 v S.length ((keysS S).map encStr)/\Below W.heap.size W w':=by
 refine (callsIn_wide (n:=5)).1 ?_
 have hown:=h.tight
 have hbl:=h.lt
 have hsz:Maps.size (DataW.map (S.map (entS ad)))=S.length:=by simp [Maps.size]
 have hseq:SeqGives Fence.wide 2 Tryz.prog 156 #[.pointer (some ⟨W.heap.size,0,none⟩)] encStr (fun ss=>ss.Perm (strKeys (DataW.map (S.map (entS ad))))) (Maps.size (DataW.map (S.map (entS ad)))) (W.alloc (.cells #[.map (some b1)] 134)) :=
  AnyZ.keys_gives (ρ:=keysA_ren) { keysA with } Fence.wide _ trivial rfl (by omega) W.heap.size b1 S.length (DataW.map (S.map (entS ad))) _ (by simp) (by simp) (by
   obtain ⟨es,clock,hb,Ft,hs,hD⟩:=hown
   exact ⟨es,clock,(Below.heap_alloc _ _ b1 hbl).trans hb,Ft,hs,hD⟩)
 have cS:=AnyZ.sorted_in sortedA Fence.wide 5 trivial trivial trivial trivial rfl (by omega) (sortsTop _) (enters_of Tryz.func155 (by kernel_rfl) rfl) 156 #[.pointer (some ⟨W.heap.size,0,none⟩)] trivial (enters_of Tryz.func156 (by kernel_rfl) rfl) _ _ (by rw [hsz];unfold maxLen;omega) (by rw [hsz];omega) _ hseq
 change CallsIn _ _ Tryz.prog 130 _ _ _ at cS
 refine cS.mono ?_
 rintro e w' ⟨v,ss,rfl,hp,hrow,hnil,hb⟩
 rw [strKeys_ent] at hp
 have hl:ss.length=S.length:=by rw [hp.length_eq,List.length_map]
 refine ⟨v,rfl,?_,((Below.refl _ W).alloc (Nat.le_refl _) _).trans (hb.mono (by simp))⟩
 have h9:=ownsRow_base_a (base':=W.heap.size) hrow (by simp)
 change w'.ownsRow W.heap.size 9 1 v ss.length _ at h9
 rw [hl,le_perm hp] at h9
 exact h9
theorem keys_top (mb:Option Nat) (W:World):Calls Tryz.prog 131 #[.map mb] W fun e w'=>e=.returned (.func (.func 156) #[] #[.pointer (some ⟨W.heap.size,0,none⟩)])/\w'=W.alloc (.cells #[.map mb] 134) :=
 (callsIn_wide (n:=5)).1 (show CallsIn Fence.wide 5 Tryz.prog 131 #[.map mb] W fun e w'=>e=.returned (.func (.func 156) #[] #[.pointer (some ⟨W.heap.size,0,none⟩)])/\w'=W.alloc (.cells #[.map mb] 134) from AnyZ.keys_in keysA Fence.wide 5 trivial rfl mb W)
end Go.Proofs.YtmmcbncpnlknbaaGreat.Top
namespace Go.Proofs.YtmmcbncpnlknbaaGreat.Top
open Go Go.RowKit Go.Proofs.YtmmcbncpnlknbaaGreatW.PrintWords Go.Proofs.YtmmcbncpnlknbaaGreatW.PrintLast Go.Proofs.YtmmcbncpnlknbaaGreatW.PrintMore
def keyB (x:List UInt8):ByteArray:=⟨x.toArray⟩
theorem kb_keyB (x:List UInt8):kb (keyB x)=x:=rfl
theorem keyB_kb (k:ByteArray):keyB (kb k)=k:=kb_inj rfl
def ob0:Ob:=⟨⟨#[]⟩,0,0,[]⟩
def allS (S:List Ob):List Ob:=(keysS S).map fun x=>(findS S (keyB x)).getD ob0
theorem keysS_len (S:List Ob):(keysS S).length=S.length:=by
 unfold keysS
 rw [List.length_mergeSort,List.length_map]
theorem allS_len (S:List Ob):(allS S).length=S.length:=by
 unfold allS
 rw [List.length_map,keysS_len]
theorem keysS_mem {S:List Ob} {x:List UInt8} (h:x ∈ keysS S):∃ o ∈ S,findS S (keyB x)=some o/\kb o.f0=x:=by
 unfold keysS at h
 rw [List.mem_mergeSort,List.mem_map] at h
 obtain ⟨o,ho,rfl⟩:=h
 cases hf:findS S (keyB (kb o.f0)) with
 | none=>exact absurd (keyB_kb o.f0).symm (findS_none hf o ho)
 | some p =>
  obtain ⟨h1,h2⟩:=findS_some hf
  exact ⟨p,h1,rfl,by rw [h2,kb_keyB]⟩
theorem allS_get {S:List Ob} {i:Nat} (hi:i < S.length):∃ x,(keysS S)[i]?=some x/\∃ o,(allS S)[i]?=some o/\o ∈ S/\findS S (keyB x)=some o/\o.f0=keyB x:=by
 have h1:i < (keysS S).length:=by rw [keysS_len];exact hi
 obtain ⟨o,h2,h3,h4⟩:=keysS_mem (List.getElem_mem h1)
 refine ⟨_,List.getElem?_eq_getElem h1,o,?_,h2,h3,?_⟩
 ·unfold allS
  rw [List.getElem?_map,List.getElem?_eq_getElem h1,Option.map_some,h3]
  rfl
 ·exact (findS_some h3).2
section
variable {w:World} {c b1 b2 n:Nat} {K M Z T L O:Int} {S:List Ob} {ad:ByteArray->Value} {m:Int->Bool}
theorem cget_some (h:Cat w c K M Z T L O b1 b2 S ad m n) (k:ByteArray) (hk:k.size<=1000000) (hl:∀ o ∈ S,o.f3.length<=1000) {o:Ob} (ho:findS S k=some o) :
  Calls Tryz.prog 97 #[.pointer (some ⟨c,0,none⟩),.string k] w fun e w'=>∃ A cc,e=.returned (.tuple #[.agg #[.string o.f0,.int .i64 o.f1,.int .i64 o.f2,.slice A o.f3.length cc],.int .i64 0])/\(o.f3.length<=cc/\Rt w' A o.f3)/\Below w.heap.size w w':=by
 refine (cget_ok h k hk hl).mono ?_
 rintro e w' ⟨h1|h1,hb⟩
 ·obtain ⟨o',A,cc,h2,h3,h4⟩:=h1
  rw [ho] at h2
  obtain rfl:=Option.some.inj h2
  exact ⟨A,cc,h3,⟨(Kd.R_reads' h4).2.1,Rt.of_R h4⟩,hb⟩
 ·rw [ho] at h1
  cases h1.1
def obCells (p:Ob×Value):List Value:=[.string p.1.f0,.int .i64 p.1.f1,.int .i64 p.1.f2,p.2]
structure Oz (w:World) (base:Nat) (v:Value) (L:List (Ob×Value)):Prop where
 own:w.ownsRow base 139 4 v L.length (L.flatMap obCells)
 row:∀ p ∈ L,∃ A cc,p.2=.slice A p.1.f3.length cc/\p.1.f3.length<=cc/\Rt w A p.1.f3
def AllP (S:List Ob) (w w':World) (e:Ending):Prop:=∃ v L,e=.returned v/\Oz w' w.heap.size v L/\L.map Prod.fst=allS S/\Below w.heap.size w w'
theorem four_new {W:World} {g:Nat} (hg:g=W.heap.size) (a b c d:Value) (ty:TypeId):∀ j u,[a,b,c,d][j]?=some u->(W.alloc (.cells #[a,b,c,d] ty)).cell? ((⟨g,0,none⟩:Addr).add j)=some u:=by
 subst hg
 intro j u h
 have h9:=heap_alloc_new W (Obj.cells #[a,b,c,d] ty)
 rw [add_plain]
 unfold World.cell?
 simp only [h9]
 simpa using h
theorem info139:(Tryz.prog.info? 139).map (fun i=>(i.zero,i.size,i.bytes))=some (some (.agg #[.string ⟨#[]⟩,.int .i64 0,.int .i64 0,.slice none 0 0]),4,56):=by kernel_rfl
set_option maxRecDepth 100000 in
set_option maxHeartbeats 2000000 in
theorem call_ok (h:Cat w c K M Z T L O b1 b2 S ad m n) (hS:S.length<=1000) (hk:∀ o ∈ S,o.f0.size<=64/\o.f3.length<=1000) :
  Calls Tryz.prog 100 #[.pointer (some ⟨c,0,none⟩)] w fun e w'=>AllP S w w' e:=by
 obtain ⟨_,_,_,_,_,_,c6,_⟩:=cat_cells h.box
 have hc:=h.lt
 have HK:=Aside0.mk keys_top
 have HS:=Aside0.mk (sorted_keys h.objs hS)
 have HH:=Aside0.mk (And.intro h (And.intro hS hk))
 clear h hS hk
 go_enter Tryz.func100,Tryz.ntmps100
 go_wp2_with (first|(go_at_call 130;go_loud (refine HS.out.mono ?_;rintro e2 w2 ⟨v2,rfl,hr2,hb2⟩;obtain ⟨A2,c2,rfl,hc2⟩:=own_slice2 hr2;have H2:=Aside0.mk (And.intro hr2 hb2);clear hr2 hb2))|(go_at_call 131;go_loud (refine (HK.out _ _).mono ?_;rintro e1 w1 ⟨rfl,rfl⟩)))
 go_loopg [2,16] S.length (fun kq x2 x16 wr=>∃ i:Nat,x16=.int .i64 i/\i+kq=S.length/\Aside0 (Below w.heap.size w wr/\wr.ownsRow w.heap.size 9 1 (.slice A2 S.length c2) S.length ((keysS S).map encStr))/\Aside0 (∃ L,Oz wr w.heap.size x2 L/\L.map Prod.fst=(allS S).take i))
 case atStart=>exact ⟨0,rfl,by omega,⟨H2.out.2,H2.out.1⟩,⟨[],⟨⟨by simp,.inl ⟨rfl,rfl⟩⟩,fun p hp=>nomatch hp⟩,by simp⟩⟩
 case round =>
  obtain ⟨i,rfl,hik,HX,HL⟩:=hrel
  obtain ⟨L,hOz,hL⟩:=HL.out
  obtain ⟨A9,c9,rfl,h9⟩:=own_slice2 hOz.own
  by_cases hin:i < S.length
  ·have f1:(i:Int) < (S.length:Int):=by omega
   have f2:(0:Int)<=(i:Int):=by omega
   have hLl:L.length=i:=by
    have:=congrArg List.length hL
    rw [List.length_map,List.length_take,allS_len] at this
    omega
   obtain ⟨x,hx,o,hoA,hoS,hof,hok⟩:=allS_get hin
   obtain ⟨g2,hg2⟩:∃ g2,A2=some ⟨g2,0,none⟩:=by
    rcases HX.out.2.2 with ⟨_,h0⟩|⟨g,cap,cur,he,_⟩
    ·omega
    ·injection he with he1
     exact ⟨g,he1⟩
   subst hg2
   have hcell:wr.cell? ⟨g2,i,none⟩=some (.string o.f0):=by
    rw [HX.out.2.cellAt i (by omega),List.getElem?_map,hx,hok]
    rfl
   have hG:=Aside0.mk (cget_some (HH.out.1.below HX.out.1) o.f0 (by have:=(HH.out.2.2 o hoS).1;omega) (fun p hp=>(HH.out.2.2 p hp).2) (by rw [hok];exact hof))
   have HZ:=Aside0.mk (And.intro hOz (And.intro hL (And.intro hLl (And.intro hoA h9))))
   obtain ⟨i0,hi,hz0,hz1,hz2⟩:=info_parts info139
   have HI:=Aside0.mk hi
   have gw:wrap64 ((i:Int)+1)=(i:Int)+1:=w64 _ (by have:=HH.out.2.1;omega)
   have hSl:=HH.out.2.1
   clear hOz hL hLl hx hoA hoS hof hok h9 hi
   go_wp2_with (first|(go_at_call 97;go_loud (refine hG.out.mono ?_;rintro e3 w3 ⟨A3,c3,rfl,hR3,hb3⟩;have H3:=Aside0.mk (And.intro hR3 hb3);have HO3:Aside0 (∀ a b:Obj,((w3.alloc a).alloc b).ownsRow w.heap.size 139 4 (.slice A9 L.length c9) L.length (L.flatMap obCells)):=⟨fun a b=>own_move HZ.out.1.own (fun k hk=>(below_alloc (below_alloc hb3 a) b).block k (own_lt HZ.out.1.own k hk))⟩;clear hR3 hb3))|(at_builtin;go_loud (refine wpList_append_own _ rfl _ _ 103 rfl w.heap.size 139 i0 (.agg #[.string ⟨#[]⟩,.int .i64 0,.int .i64 0,.slice none 0 0]) 4 56 Tryz.underlying103 HI.out hz0 hz1 hz2 rfl (by decide) _ _ _ rfl (HO3.out _ _) ⟨w3.heap.size+1,0,none⟩ 1 1 [.string o.f0,.int .i64 o.f1,.int .i64 o.f2,.slice A3 o.f3.length c3] rfl rfl (four_new (hsz _ _).symm _ _ _ _ _) (by simp [Value.oneCell']) (by have:=HZ.out.2.2.1;simp only [maxLen];omega) (by have:=HZ.out.2.2.1;omega) (by have:=HX.out.1.size;have:=H3.out.2.size;simp;omega) ?_;intro v' w5 hown' hgrow _;obtain ⟨A5,c5,rfl,_⟩:=own_slice2 hown';have H5:=Aside0.mk (And.intro hown' hgrow);clear hown' hgrow)))
   go_roundg (S.length - (i+1))
   case measure=>exact meas5 hin hik
   case rel =>
    have hbX:Below w.heap.size w ((w3.alloc (Obj.cells #[.string o.f0,.int .i64 o.f1,.int .i64 o.f2,.slice A3 o.f3.length c3] 139)).alloc (Obj.cells #[.string o.f0,.int .i64 o.f1,.int .i64 o.f2,.slice A3 o.f3.length c3] 139)):=below_alloc (below_alloc (below_step HX.out.1 H3.out.2) _) _
    have hX3:Below w3.heap.size w3 ((w3.alloc (Obj.cells #[.string o.f0,.int .i64 o.f1,.int .i64 o.f2,.slice A3 o.f3.length c3] 139)).alloc (Obj.cells #[.string o.f0,.int .i64 o.f1,.int .i64 o.f2,.slice A3 o.f3.length c3] 139)):=below_alloc (below_alloc (Below.refl _ _) _) _
    have hgw:Gs (fun k=>(Value.slice A9 L.length c9).ownBlock=some k) _ w5:=Gs.of_grown H5.out.2 (fun k hk _=>hk)
    have hg3:=(Gs.of_below (S:=fun k=>(Value.slice A9 L.length c9).ownBlock=some k) hX3).trans hgw
    have hgr:=(Gs.of_below (S:=fun k=>(Value.slice A9 L.length c9).ownBlock=some k) H3.out.2).trans hg3
    have hTr:∀ k,(Value.slice A9 L.length c9).ownBlock=some k->∃ cells,wr.heap[k]?=some (.cells cells 139 (0,0)):=fun k hk=>own_typed HZ.out.1.own k hk
    have hnT:∀ W:World,(∀ k,k < wr.heap.size->W.heap[k]?=wr.heap[k]?)->∀ k,(Value.slice A9 L.length c9).ownBlock=some k->¬ T3 W k:=fun W hW k hk ⟨cells,hc⟩=>by
     obtain ⟨cells2,h2⟩:=hTr k hk
     rw [hW k (blk_lt h2),h2] at hc
     cases hc
    refine ⟨i+1,by simp [gw],meas4 hin,⟨?_,?_⟩,⟨L ++ [(o,.slice A3 o.f3.length c3)],⟨?_,?_⟩,?_⟩⟩
    ·exact below_of_gs hbX hgw (fun k hk=>own_base HZ.out.1.own k hk)
    ·refine own_move HX.out.2 (fun k hk=>hgr.block k (own_lt HX.out.2 k hk) (fun hk2=>?_))
     obtain ⟨c9',h9⟩:=own_typed HX.out.2 k hk
     obtain ⟨c8,h8⟩:=hTr k hk2
     rw [h9] at h8
     cases h8
    ·simpa [obCells] using H5.out.1
    ·intro p hp
     rcases List.mem_append.1 hp with hp|hp
     ·obtain ⟨A',cc',q1,q2,q3⟩:=HZ.out.1.row p hp
      exact ⟨A',cc',q1,q2,q3.gs hgr (hnT wr (fun _ _=>rfl))⟩
     ·obtain rfl:=List.mem_singleton.1 hp
      exact ⟨A3,c3,rfl,H3.out.1.1,H3.out.1.2.gs hg3 (hnT w3 (fun k hk=>H3.out.2.block k hk))⟩
    ·rw [List.map_append,HZ.out.2.1,List.take_add_one,HZ.out.2.2.2.1]
     rfl
  ·have f1:¬ (i:Int) < (S.length:Int):=by omega
   have e0:i=S.length:=by omega
   have HE:=Aside0.mk (And.intro hOz (And.intro hL e0))
   clear hOz hL e0
   go_wp2
   go_ret
   exact ⟨_,L,rfl,HE.out.1,by rw [HE.out.2.1,List.take_of_length_le];rw [allS_len,HE.out.2.2];exact Nat.le_refl _,HX.out.1⟩
end
end Go.Proofs.YtmmcbncpnlknbaaGreat.Top
namespace Go.Proofs.YtmmcbncpnlknbaaGreat.PAll
open Go.RowKit Go.Proofs.YtmmcbncpnlknbaaGreatW.PrintWords Go.Proofs.YtmmcbncpnlknbaaGreatW.PrintLast Go.Proofs.YtmmcbncpnlknbaaGreatW.PrintMore
def record_number.l0:Nat->List Int->Int->Int->Option (List Int)
 | 0,_,_,_=>none
 | k+1,x0,x1,x7=>if x7 ≥ 0 then (if 0<=(wrap64 (8*x7)) then (if x0.length < 140737488355328 then (record_number.l0 k (x0 ++ [(shr .i64 x1 (wrap64 (8*x7))) % 256]) x1 (wrap64 (x7 - 1))) else (none)) else (none)) else (some x0)
def record_number.f (k:Nat) (l0:List Int) (a1:Int) (a2:Int):Option (List Int):=record_number.l0 k l0 a1 (wrap64 (a2 - 1))
theorem record_number.mono_l:∀ k,(∀ y0 y1 y2,LeO (record_number.l0 k y0 y1 y2) (record_number.l0 (k+1) y0 y1 y2))
 | 0=>fun _ _ _ r h=>by simp [record_number.l0] at h
 | k+1=>by
  have ih0:=record_number.mono_l k
  ·intro y0 y1 y2
   unfold record_number.l0
   repeat' first
   | (with_reducible exact ih0 _ _ _)
   | (with_reducible exact LeO.refl _)
   | (with_reducible exact LeO.none _)
   | (with_reducible refine LeO.ite ?_ ?_)
   | (with_reducible refine LeO.bind ?_ (fun _=>?_))
   | exact ih0 _ _ _
   | exact LeO.none _
   | refine LeO.ite ?_ ?_
   | refine LeO.bind ?_ (fun _=>?_)
theorem record_number.mono:∀ a0 a1 a2 k,LeO (record_number.f k a0 a1 a2) (record_number.f (k+1) a0 a1 a2):=by
 intro a0 a1 a2 k
 have ih0:=record_number.mono_l k
 unfold record_number.f
 repeat' first
   | (with_reducible exact ih0 _ _ _)
   | (with_reducible exact LeO.refl _)
   | (with_reducible exact LeO.none _)
   | (with_reducible refine LeO.ite ?_ ?_)
   | (with_reducible refine LeO.bind ?_ (fun _=>?_))
   | exact ih0 _ _ _
   | exact LeO.none _
   | refine LeO.ite ?_ ?_
   | refine LeO.bind ?_ (fun _=>?_)
set_option maxHeartbeats 8000000 in
set_option maxRecDepth 100000 in
theorem record_number.calls (k:Nat) (P0_:Nat->Prop) (u9000_:Value) (l0:List Int) (a1:Int) (a2:Int) (r:List Int) (w0 w:World) (hB:Below w0.heap.size w0 w) (ho0:Kd.R (Kd.int .u8) 5 w w0.heap.size P0_ u9000_ l0) (h:record_number.f k l0 a1 a2=some r) :
  Calls Tryz.prog 80 #[u9000_,.int .i64 a1,.int .i64 a2] w fun e w'=>∃ v0_:Value,e=.returned (v0_)/\Kd.R (Kd.int .u8) 5 w' w0.heap.size (fun k_=>(P0_ k_∨w.heap.size<=k_)) v0_ r/\Below w0.heap.size w0 w'/\Kept w w' (fun k_=>P0_ k_):=by
 have HO0:=Aside0.mk (show Kd.R (Kd.int .u8) 5 w w0.heap.size (fun k_=>(P0_ k_∨w.heap.size<=k_)) u9000_ l0 from Kd.R_mono ho0 (fun k_ hk=>(.inl hk)))
 have HK:=Aside0.mk (Kept.refl w (fun k_=>P0_ k_))
 have HW0:=Aside0.mk hB.size
 have HB:=Aside0.mk hB
 clear hB
 have H:(record_number.l0 k l0 a1 (wrap64 (a2 - 1)))=some r:=h
 clear h
 have H':=Aside0.mk H
 clear H
 go_enter Tryz.func80,Tryz.ntmps80
 go_wp2
 go_loopg [0,7] k (fun kq v0 v7 w'=>∃ (x0_1:List Int) (x7_1:Int),v7=.int .i64 x7_1/\Aside0 (record_number.l0 kq x0_1 a1 x7_1=some r)/\Aside0 (kq<=k)/\Aside0 (Kd.R (Kd.int .u8) 5 w' w0.heap.size (fun k_=>(P0_ k_∨w.heap.size<=k_)) v0 x0_1)/\Aside0 (Kept w w' (fun k_=>P0_ k_))/\Aside0 (Below w0.heap.size w0 w'))
 case atStart=>exact ⟨(l0),(wrap64 (a2 - 1)),(by first|rfl|(simp;done)|(simp [*];done)),H',⟨Nat.le_refl _⟩,⟨by (with_reducible repeat (first|apply Kd.R_alloc|apply Kd.R_drewN|apply Kd.R_drew));exact HO0.out⟩,⟨by repeat (first|(with_reducible first|exact HK.out|apply Kept.alloc|apply Kept.drewN|apply Kept.drew)|exact HK.out)⟩,⟨by repeat (first|(with_reducible first|exact HB.out|apply below_alloc|apply pw_below_drewN|apply below_drew1)|exact HB.out)⟩⟩
 case round =>
  clear H'
  try clear p2
  obtain ⟨x0_1,x7_1,rfl,HA,HK1,HO_0,HK,HB⟩:=hrel
  cases gk with
  | zero=>exact absurd HA.out (by simp [record_number.l0])
  | succ k1 =>
   have H:=HA.out
   clear HA
   simp only [record_number.l0] at H
   by_cases c4:x7_1 ≥ 0
   ·rw [if_pos c4] at H
    have c4b0:decide (0<=x7_1)=true:=decide_eq_true c4
    clear c4
    obtain ⟨ji5,hji5⟩:∃ j_:Int,(wrap64 (8*x7_1))=j_:=⟨_,rfl⟩
    replace H:(if 0<=(ji5) then (if x0_1.length < 140737488355328 then (record_number.l0 k1 (x0_1 ++ [(shr .i64 a1 (ji5)) % 256]) a1 (wrap64 (x7_1 - 1))) else (none)) else (none))=some r:=by first|(rw [hji5] at H;exact H)|(simp only [hji5] at H ⊢;exact H)
    have hji5w:(IntKind.i64.wrap (8*x7_1))=ji5:=(i64_w _).trans hji5
    by_cases c6:0<=(ji5)
    ·rw [if_pos c6] at H
     have c6b0:=eq_true c6
     have c6b1:decide (0<=(ji5))=true:=decide_eq_true c6
     clear c6
     obtain ⟨ji7,hji7⟩:∃ j_:Int,(shr .i64 a1 (ji5))=j_:=⟨_,rfl⟩
     replace H:(if x0_1.length < 140737488355328 then (record_number.l0 k1 (x0_1 ++ [(ji7) % 256]) a1 (wrap64 (x7_1 - 1))) else (none))=some r:=by first|(rw [hji7] at H;exact H)|(simp only [hji7] at H ⊢;exact H)
     have hji7_:(a1 / 2 ^ min (ji5).toNat 64)=ji7:=hji7
     have hji7z:(ji5)<=64->(a1 / 2 ^ (ji5).toNat)=ji7:=shr_small hji7
     by_cases c8:x0_1.length < 140737488355328
     ·rw [if_pos c8] at H
      have LMc8:=Aside0.mk c8
      clear c8
      obtain ⟨y140,hy140⟩:∃ y_:List Int,y_=(x0_1 ++ [(ji7) % 256]):=⟨_,rfl⟩
      replace H:(record_number.l0 k1 y140 a1 (wrap64 (x7_1 - 1)))=some r:=by first|(rw [hy140];with_reducible exact H)|(have H2_:=(Option.bind_some _ _).symm.trans H;rw [hy140];with_reducible exact H2_)|(have H2_:=(Option.bind_some _ _).symm.trans H;with_reducible exact H2_)|with_reducible exact H|(rw [hy140];exact H)|exact H
      have Ny140:=Aside0.mk hy140
      clear hy140
      have H':=Aside0.mk H
      clear H
      go_wp2_with (first|((with_reducible refine gate_builtin (b:=.append) (xs:=#[.tmp 14,.tmp 20]) rfl ?_);at_builtin;refine Kd.R_append (Kd.int .u8) (w0:=w0) w0.heap.size rfl (.tmp 14) (.tmp 20) 36 5 (.int .u8 0) 1 rfl Tryz.underlying36 info5 rfl (by decide) (by omega) u0 x0_1 ((ji7) % 256) [.int .u8 ((ji7) % 256)] (fun k_=>(P0_ k_∨w.heap.size<=k_)) (fun _=>False) rfl rfl ?aP (fun _ hk=>hk.elim) ?aF ?aO ?aB ?aS ?aL ?_;(case aP=>exact rfl);(case aB=>exact (by repeat (first|(with_reducible first|exact HB.out|apply below_alloc|apply pw_below_drewN|apply below_drew1)|exact HB.out)));(case aF=>exact (fun k_ hk=>(.inr (Nat.le_trans (by first|exact HK.out.1|exact (show Kept w _ (fun k_=>P0_ k_) from by repeat (first|(with_reducible first|exact HK.out|apply Kept.alloc|apply Kept.drewN|apply Kept.drew)|exact HK.out)).1) hk))));(case aO=>exact (by (with_reducible repeat (first|apply Kd.R_alloc|apply Kd.R_drewN|apply Kd.R_drew));exact HO_0.out));(case aS=>exact (below_size (by repeat (first|(with_reducible first|exact HB.out|apply below_alloc|apply pw_below_drewN|apply below_drew1)|exact HB.out))));(case aL=>have:=LMc8.out;omega);intro v141 w9 ho hb hg hat;rw [<- Ny140.out] at ho;have n0_:=Aside0.mk (hb);have n1_:=Aside0.mk (Kept.of_grown (S:=(fun k_=>P0_ k_)) hg (by repeat (first|(with_reducible first|exact HK.out|apply Kept.alloc|apply Kept.drewN|apply Kept.drew)|exact HK.out)) (fun k_ e_=>(HO_0.out.1 k_ e_)));have n2_:=Aside0.mk (ho);clear HB;clear HK;clear HO_0;have HB:=n0_;have HK:=n1_;have HO142:=n2_;clear n0_ n1_ n2_;clear ho hb hg hat))
      go_roundg k1
      case measure=>have:=HK1.out;omega
      case rel=>exact ⟨(y140),(wrap64 (x7_1 - 1)),(by first|rfl|(simp;done)|(simp [*];done)),H',⟨by have:=HK1.out;omega⟩,⟨by (with_reducible repeat (first|apply Kd.R_alloc|apply Kd.R_drewN|apply Kd.R_drew));exact HO142.out⟩,⟨by repeat (first|(with_reducible first|exact HK.out|apply Kept.alloc|apply Kept.drewN|apply Kept.drew)|exact HK.out)⟩,⟨by repeat (first|(with_reducible first|exact HB.out|apply below_alloc|apply pw_below_drewN|apply below_drew1)|exact HB.out)⟩⟩
     ·rw [if_neg c8] at H
      exact absurd H (by simp)
    ·rw [if_neg c6] at H
     exact absurd H (by simp)
   ·rw [if_neg c4] at H
    have c4b0:decide (0<=x7_1)=false:=decide_eq_false c4
    clear c4
    obtain rfl:=Option.some.inj H
    go_wp2
    go_ret
    exact ⟨_,by first|rfl|(simp [errW_none,errW_some] <;> rfl)|(simp [*,errW_none,errW_some] <;> rfl),by (with_reducible repeat (first|apply Kd.R_alloc|apply Kd.R_drewN|apply Kd.R_drew));exact HO_0.out,by repeat (first|(with_reducible first|exact HB.out|apply below_alloc|apply pw_below_drewN|apply below_drew1)|exact HB.out),by repeat (first|(with_reducible first|exact HK.out|apply Kept.alloc|apply Kept.drewN|apply Kept.drew)|exact HK.out)⟩
end Go.Proofs.YtmmcbncpnlknbaaGreat.PAll
namespace Go.Proofs.YtmmcbncpnlknbaaGreat.RecB
open Go.RowKit Go.Proofs.YtmmcbncpnlknbaaGreat.PAll Go.Proofs.YtmmcbncpnlknbaaGreatW.PrintWords Go.Proofs.YtmmcbncpnlknbaaGreatW.PrintLast Go.Proofs.YtmmcbncpnlknbaaGreatW.PrintMore Go.Proofs.YtmmcbncpnlknbaaGreat.RecA
def two (n:Int):List Int:=[n / 256 % 256,n % 256]
def four (n:Int):List Int:=[n / 16777216 % 256,n / 65536 % 256,n / 256 % 256,n % 256]
theorem sh0 (n:Int):shr .i64 n 0=n:=by
 unfold shr
 rw [show min (0:Int).toNat IntKind.i64.bits=0 from rfl]
 simp
theorem sh8 (n:Int):shr .i64 n 8=n / 256:=by
 unfold shr
 rw [show min (8:Int).toNat IntKind.i64.bits=8 from rfl]
 simp
theorem sh16 (n:Int):shr .i64 n 16=n / 65536:=by
 unfold shr
 rw [show min (16:Int).toNat IntKind.i64.bits=16 from rfl]
 simp
theorem sh24 (n:Int):shr .i64 n 24=n / 16777216:=by
 unfold shr
 rw [show min (24:Int).toNat IntKind.i64.bits=24 from rfl]
 simp
theorem num2 (l:List Int) (n:Int) (hl:l.length<=1000000000):Ev (fun k=>record_number.f k l n 2) (l ++ two n):=by
 unfold record_number.f
 rw [wrap_in (i:=2 - 1) (by omega) (by omega),show (2 - 1:Int)=1 from rfl]
 refine Ev.step (fun k=>by rw [record_number.l0]) (ev_pos (by decide) (ev_pos (by rw [wrap_in (by omega) (by omega)];decide) (ev_pos (by first|omega|(simp;omega)) ?_)))
 rw [wrap_in (i:=1 - 1) (by omega) (by omega),wrap_in (i:=8*1) (by omega) (by omega),show (1 - 1:Int)=0 from rfl,show (8*1:Int)=8 from rfl,sh8]
 refine Ev.step (fun k=>by rw [record_number.l0]) (ev_pos (by decide) (ev_pos (by rw [wrap_in (by omega) (by omega)];decide) (ev_pos (by first|omega|(simp;omega)) ?_)))
 rw [wrap_in (i:=0 - 1) (by omega) (by omega),wrap_in (i:=8*0) (by omega) (by omega),show (0 - 1:Int)=-1 from rfl,show (8*0:Int)=0 from rfl,sh0]
 refine Ev.step (fun k=>by rw [record_number.l0]) (ev_neg (by decide) (ev_eq (Ev.now _) ?_))
 simp only [List.append_assoc]
 rfl
theorem num4 (l:List Int) (n:Int) (hl:l.length<=1000000000):Ev (fun k=>record_number.f k l n 4) (l ++ four n):=by
 unfold record_number.f
 rw [wrap_in (i:=4 - 1) (by omega) (by omega),show (4 - 1:Int)=3 from rfl]
 refine Ev.step (fun k=>by rw [record_number.l0]) (ev_pos (by decide) (ev_pos (by rw [wrap_in (by omega) (by omega)];decide) (ev_pos (by first|omega|(simp;omega)) ?_)))
 rw [wrap_in (i:=3 - 1) (by omega) (by omega),wrap_in (i:=8*3) (by omega) (by omega),show (3 - 1:Int)=2 from rfl,show (8*3:Int)=24 from rfl,sh24]
 refine Ev.step (fun k=>by rw [record_number.l0]) (ev_pos (by decide) (ev_pos (by rw [wrap_in (by omega) (by omega)];decide) (ev_pos (by first|omega|(simp;omega)) ?_)))
 rw [wrap_in (i:=2 - 1) (by omega) (by omega),wrap_in (i:=8*2) (by omega) (by omega),show (2 - 1:Int)=1 from rfl,show (8*2:Int)=16 from rfl,sh16]
 refine Ev.step (fun k=>by rw [record_number.l0]) (ev_pos (by decide) (ev_pos (by rw [wrap_in (by omega) (by omega)];decide) (ev_pos (by first|omega|(simp;omega)) ?_)))
 rw [wrap_in (i:=1 - 1) (by omega) (by omega),wrap_in (i:=8*1) (by omega) (by omega),show (1 - 1:Int)=0 from rfl,show (8*1:Int)=8 from rfl,sh8]
 refine Ev.step (fun k=>by rw [record_number.l0]) (ev_pos (by decide) (ev_pos (by rw [wrap_in (by omega) (by omega)];decide) (ev_pos (by first|omega|(simp;omega)) ?_)))
 rw [wrap_in (i:=0 - 1) (by omega) (by omega),wrap_in (i:=8*0) (by omega) (by omega),show (0 - 1:Int)=-1 from rfl,show (8*0:Int)=0 from rfl,sh0]
 refine Ev.step (fun k=>by rw [record_number.l0]) (ev_neg (by decide) (ev_eq (Ev.now _) ?_))
 simp only [List.append_assoc]
 rfl
theorem two_len (n:Int):(two n).length=2:=rfl
theorem four_len (n:Int):(four n).length=4:=rfl
def Bytes (l:List Int):Prop:=∀ x ∈ l,0<=x/\x<=255
theorem bytes_app {l m:List Int} (h:Bytes l) (h2:Bytes m):Bytes (l ++ m):=fun x hx=>(List.mem_append.1 hx).elim (h x) (h2 x)
theorem bytes_drop {l:List Int} (h:Bytes l) (n:Nat):Bytes (l.drop n):=fun x hx=>h x (List.mem_of_mem_drop hx)
theorem bytes_take {l:List Int} (h:Bytes l) (n:Nat):Bytes (l.take n):=fun x hx=>h x (List.mem_of_mem_take hx)
theorem two_bytes (n:Int):Bytes (two n):=by
 intro x hx
 simp only [two,List.mem_cons,List.not_mem_nil,or_false] at hx
 omega
theorem four_bytes (n:Int):Bytes (four n):=by
 intro x hx
 simp only [four,List.mem_cons,List.not_mem_nil,or_false] at hx
 omega
theorem str_bytes (s:ByteArray):Bytes (bytesOf s):=by
 intro x hx
 unfold bytesOf at hx
 rw [List.mem_map] at hx
 obtain ⟨b,_,rfl⟩:=hx
 have:=b.toNat_lt
 omega
def pairs (st:List Int):List Int:=st.flatMap two
def encL (kd:Int) (key:ByteArray) (len:Int) (st:List Int):List Int:=[kd % 256,(key.size:Int) % 256] ++ bytesOf key ++ four len ++ two st.length ++ pairs st
theorem pairs_len (st:List Int):(pairs st).length=2*st.length:=by
 induction st with
 | nil=>rfl
 | cons x l ih=>unfold pairs at ih ⊢;rw [List.flatMap_cons,List.length_append,ih,two_len,List.length_cons];omega
theorem enc_len (kd:Int) (key:ByteArray) (len:Int) (st:List Int):(encL kd key len st).length=8+key.size+2*st.length:=by
 unfold encL
 simp only [List.length_append,bytesOf_length,four_len,two_len,pairs_len,List.length_cons,List.length_nil]
 omega
theorem pairs_bytes (st:List Int):Bytes (pairs st):=by
 intro x hx
 unfold pairs at hx
 rw [List.mem_flatMap] at hx
 obtain ⟨a,_,h⟩:=hx
 exact two_bytes a x h
theorem enc_bytes (kd:Int) (key:ByteArray) (len:Int) (st:List Int):Bytes (encL kd key len st):=by
 refine bytes_app (bytes_app (bytes_app (bytes_app ?_ (str_bytes key)) (four_bytes _)) (two_bytes _)) (pairs_bytes st)
 intro x hx
 simp only [List.mem_cons,List.not_mem_nil,or_false] at hx
 omega
end Go.Proofs.YtmmcbncpnlknbaaGreat.RecB
