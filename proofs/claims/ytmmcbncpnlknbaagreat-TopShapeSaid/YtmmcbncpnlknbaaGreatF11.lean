import Derived.Test.YtmmcbncpnlknbaaGreatF10
import Derived.Laws.CopyOwn
set_option linter.unusedVariables false
set_option linter.unusedSimpArgs false
namespace Go.Proofs.YtmmcbncpnlknbaaGreat.PAll
open Go.RowKit Go.Proofs.YtmmcbncpnlknbaaGreatW.PrintWords Go.Proofs.YtmmcbncpnlknbaaGreatW.PrintLast Go.Proofs.YtmmcbncpnlknbaaGreatW.PrintMore
set_option maxRecDepth 100000
def fourL (n:Int):List Int:=[n / 16777216 % 256,n / 65536 % 256,n / 256 % 256,n % 256]
def fourV (n:Int):Array Value:=#[.int .u8 (n / 16777216 % 256),.int .u8 (n / 65536 % 256),.int .u8 (n / 256 % 256),.int .u8 (n % 256)]
set_option maxHeartbeats 2000000 in
theorem four_calls (n:Int) (w:World) (h0:0<=n) (h1:n < 4294967296) :
  Calls Tryz.prog 115 #[.int .u32 n] w fun e w'=>e=.returned (.agg (fourV n))/\w'=w.alloc (.cells (fourV n) 199):=by
 have e0:Aside0 (n / 16777216 % 256=n / 16777216):=⟨by omega⟩
 go_enter Tryz.func115,Tryz.ntmps115
 go_wp2
 refine bodyPost_ret (v:=.agg (fourV n)) ?_ rfl ⟨rfl,?_⟩
 ·simp [results,Tryz.results115,go_sem,fourV,e0.out]
 ·simp only [fourV,e0.out]
set_option maxHeartbeats 2000000 in
theorem pack1' (at_ n:Int) (g b:Nat) (xs:List Int) (w:World) (hg:w.heap[g]?=some (.cells #[.slice (some ⟨b,0,none⟩) xs.length xs.length] 36 (0,0))) (hb:w.heap[b]?=some (.cells (xs.map (Value.int .u8)).toArray 5 (0,0)))
  (h0:0<=n) (h1:n < 4294967296) (ha:0<=at_) (hl:at_+4<=xs.length) (hm:xs.length<=100000) :
  Calls Tryz.prog 114 #[.int .i64 at_,.int .u32 n,.pointer (some ⟨g,0,none⟩)] w fun e w'=>e=.returned (.tuple #[])/\w'.heap[b]?=some (.cells ((splice xs at_.toNat (fourL n)).map (Value.int .u8)).toArray 5 (0,0))/\w.grownBy w' (some b):=by
 have hlt:g < w.heap.size:=by
  rcases Nat.lt_or_ge g w.heap.size with h|h
  ·exact h
  ·simp [Array.getElem?_eq_none h] at hg
 have hgc:w.cell? ⟨g,0,none⟩=some (.slice (some ⟨b,0,none⟩) xs.length xs.length):=by simp [World.cell?,hg]
 have HG:=Aside0.mk hg
 have HB:=Aside0.mk hb
 clear hg hb
 obtain ⟨a,rfl⟩:=Int.eq_ofNat_of_zero_le ha
 have e1:a<=xs.length:=by omega
 have e2:¬ xs.length=a:=by omega
 go_enter Tryz.func114,Tryz.ntmps114
 go_wp2_with fail
 refine (four_calls n _ h0 h1).mono ?_
 rintro e w' ⟨rfl,rfl⟩
 simp only [fourV]
 obtain ⟨q3,hq3⟩:∃ q,n / 16777216 % 256=q:=⟨_,rfl⟩
 obtain ⟨q2,hq2⟩:∃ q,n / 65536 % 256=q:=⟨_,rfl⟩
 obtain ⟨q1,hq1⟩:∃ q,n / 256 % 256=q:=⟨_,rfl⟩
 obtain ⟨q0,hq0⟩:∃ q,n % 256=q:=⟨_,rfl⟩
 have HQ:=Aside0.mk (show fourL n=[q3,q2,q1,q0] from by unfold fourL;rw [hq3,hq2,hq1,hq0])
 rw [hq3,hq2,hq1,hq0]
 clear hq3 hq2 hq1 hq0
 go_wp2_with fail
 generalize hW:((w.alloc (Obj.cells #[Value.int IntKind.u8 q3,Value.int IntKind.u8 q2,Value.int IntKind.u8 q1,Value.int IntKind.u8 q0] 199)).alloc (Obj.cells #[Value.int IntKind.u8 q3,Value.int IntKind.u8 q2,Value.int IntKind.u8 q1,Value.int IntKind.u8 q0] 199))=W
 have hg2:W.cell? ⟨g,0,none⟩=some (.slice (some ⟨b,0,none⟩) xs.length xs.length):=by
  rw [<- hW,Lib.cell?_alloc_some _ (Lib.cell?_alloc_some _ hgc)]
 have hb2:W.heap[b]?=some (.cells (xs.map (Value.int .u8)).toArray 5 (0,0)):=by
  have hblt:b < w.heap.size:=(Array.getElem?_eq_some_iff.1 HB.out).1
  rw [<- hW,heap_alloc_old _ _ (by simp;omega),heap_alloc_old _ _ hblt]
  exact HB.out
 have hsz:W.heap.size=w.heap.size+2:=by rw [<- hW];simp
 have hgr:w.grownBy W none:=by
  rw [<- hW]
  exact grown_of_below (below_alloc (below_alloc (Below.refl _ _) _) _) none
 have hcs:∀ j v,[Value.int .u8 q3,.int .u8 q2,.int .u8 q1,.int .u8 q0][j]?=some v->W.drew.cell? ((⟨w.heap.size+1,0,none⟩:Addr).add j)=some v:=by
  intro j v hj
  have:W.drew.cell? ((⟨w.heap.size+1,0,none⟩:Addr).add j)=W.cell? ⟨w.heap.size+1,j,none⟩:=by rw [add_plain];rfl
  rw [this,<- hW]
  have hh:=heap_alloc_new (w.alloc (Obj.cells #[Value.int IntKind.u8 q3,Value.int IntKind.u8 q2,Value.int IntKind.u8 q1,Value.int IntKind.u8 q0] 199)) (Obj.cells #[Value.int IntKind.u8 q3,Value.int IntKind.u8 q2,Value.int IntKind.u8 q1,Value.int IntKind.u8 q0] 199)
  rw [show (w.alloc (Obj.cells #[Value.int IntKind.u8 q3,Value.int IntKind.u8 q2,Value.int IntKind.u8 q1,Value.int IntKind.u8 q0] 199)).heap.size=w.heap.size+1 from by simp] at hh
  simp only [World.cell?,hh]
  simpa using hj
 have hcp:=run_copy_row (P:=Tryz.prog) W.drew 36 36 3 5 b a (xs.length - a) (xs.length - a) ⟨w.heap.size+1,0,none⟩ 4 4 (xs.map (Value.int .u8)).toArray 5 [.int .u8 q3,.int .u8 q2,.int .u8 q1,.int .u8 q0] Tryz.underlying36 (by kernel_rfl) hb2 (by show 4=min 4 (xs.length - a);omega) hcs (by simp;omega) (by simp [Value.oneCell'])
 have HWA:=Aside0.mk hW
 have HBA:=Aside0.mk hb2
 have HSA:=Aside0.mk hsz
 have HGA:=Aside0.mk hgr
 clear hW hb2 hcs hsz hgr
 go_region
 go_end0
 refine ⟨rfl,?_,?_⟩
 ·rw [HQ.out]
  have:=setRow_heap W.drew b _ (List.take a (List.map (Value.int .u8) xs) ++ Value.int .u8 q3 :: Value.int .u8 q2 :: Value.int .u8 q1 :: Value.int .u8 q0 :: List.drop (a+4) (List.map (Value.int .u8) xs)).toArray _ _ HBA.out
  rw [this]
  simp [splice,List.map_append,List.map_take,List.map_drop]
 ·have hgr:=HGA.out
  refine ⟨hgr.os,hgr.tape,hgr.output,?_,fun k hk hne=>?_⟩
  ·have:=hgr.size
   simpa [World.setRow] using this
  ·rw [setRow_other _ _ _ _ (fun e=>hne (by rw [e]))]
   exact hgr.block k hk (by simp)
theorem pack1 (at_ n:Int) (g b N:Nat) (xs:List Int) (w:World) (hN:xs.length=N) (hg:w.heap[g]?=some (.cells #[.slice (some ⟨b,0,none⟩) N N] 36 (0,0))) (hb:w.heap[b]?=some (.cells (xs.map (Value.int .u8)).toArray 5 (0,0)))
  (h0:0<=n) (h1:n < 4294967296) (ha:0<=at_) (hl:at_+4<=N) (hm:N<=100000) :
  Calls Tryz.prog 114 #[.int .i64 at_,.int .u32 n,.pointer (some ⟨g,0,none⟩)] w fun e w'=>e=.returned (.tuple #[])/\w'.heap[b]?=some (.cells ((splice xs at_.toNat (fourL n)).map (Value.int .u8)).toArray 5 (0,0))/\w.grownBy w' (some b):=by
 subst hN
 exact pack1' at_ n g b xs w hg hb h0 h1 ha hl hm
theorem splice_mid {α:Type} (A B C cs:List α) (h:cs.length=B.length):splice (A ++ (B ++ C)) A.length cs=A ++ (cs ++ C):=by
 unfold splice
 rw [List.take_left,<- List.drop_drop,List.drop_left,h,List.drop_left]
theorem C_pre {W:World} {g:Nat} {xs:List Int} {e:TypeId} {fr:Nat×Nat} (h:W.heap[g]?=some (.cells (xs.map (Value.int .u8)).toArray e fr)) (m:Nat) (hm:m<=xs.length) (hx:xs.length<=9223372036854775807) :
  (Kd.int .u8).C W (some ⟨g,0,none⟩) (xs.take m).length (xs.take m):=by
 refine Kd.C_of_reads (d:=0) ⟨rfl,by simp;omega,fun _=>⟨_,rfl,fun j hj=>?_⟩⟩
 rw [add_plain]
 simp only [World.cell?,h]
 have hj2:j < m:=by simp at hj;omega
 have hj3:j < xs.length:=by omega
 simp [hj2,hj3]
structure Making (w:World) (n:Nat) (W:World) (L:List Int):Prop where
 row:W.heap[w.heap.size]?=some (.cells (L.map (Value.int .u8)).toArray 5 (0,0))
 var:W.heap[w.heap.size+1]?=some (.cells #[.slice (some ⟨w.heap.size,0,none⟩) (12+n) (12+n)] 36 (0,0))
 below:Below w.heap.size w W
 len:L.length=12+n
theorem Making.step {w W W':World} {n:Nat} {L L':List Int} (h:Making w n W L) (hr:W'.heap[w.heap.size]?=some (.cells (L'.map (Value.int .u8)).toArray 5 (0,0))) (hg:W.grownBy W' (some w.heap.size)) (hl:L'.length=12+n):Making w n W' L' where
 row:=hr
 var:=by
  have hlt:w.heap.size+1 < W.heap.size:=(Array.getElem?_eq_some_iff.1 h.var).1
  rw [hg.block _ hlt (by simp)]
  exact h.var
 below:=h.below.trans ⟨hg.os,hg.tape,hg.output,hg.size,fun i hi=>hg.block i (Nat.lt_of_lt_of_le hi h.below.size) (by simp;omega)⟩
 len:=hl
theorem Making.cell {w W:World} {n:Nat} {L:List Int} (h:Making w n W L):W.cell? ⟨w.heap.size+1,0,none⟩=some (.slice (some ⟨w.heap.size,0,none⟩) (12+n) (12+n)):=by simp [World.cell?,h.var]
theorem Making.drewN {w W:World} {n:Nat} {L:List Int} (h:Making w n W L) (m:Nat):Making w n (W.drewN m) L where
 row:=by have:=h.row;simpa using this
 var:=by have:=h.var;simpa using this
 below:=pw_below_drewN h.below m
 len:=h.len
def packL (a0 a1:Int) (l:List Int):List Int:=fourL a0 ++ (fourL a1 ++ l)
def sector_Pack.f (k:Nat) (a0:Int) (a1:Int) (l2:List Int):Option (List Int×Int) :=
 if (0<=a0/\a0<=2147483647)/\(0<=a1/\a1<=2147483647)/\l2.length<=4096 then ((crc_Sum.f k (packL a0 a1 l2)).bind fun t=>if 0<=t/\t < 4294967296 then some (packL a0 a1 l2 ++ fourL t,0) else none) else some ([],1)
theorem make_bytes (W:World) (n:Nat) (hn:n<=100000):(Instr.makeSlice 36 (.int .i64 (n:Int)) (.int .i64 (n:Int))).run Tryz.prog W=.ok (.slice (some ⟨W.heap.size,0,none⟩) n n) (W.alloc (.cells ((List.replicate n (0:Int)).map (Value.int .u8)).toArray 5)):=by
 obtain ⟨i0,hi,hz0,hz1,hz2⟩:=info_parts (show (Tryz.prog.info? 5).map (fun i=>(i.zero,i.size,i.bytes))=some (some (.int .u8 0),1,1) from by kernel_rfl)
 have h:=run_make (P:=Tryz.prog) W 36 5 i0 (.int .u8 0) Tryz.underlying36 hi hz0 .i64 .i64 (n:Int) (n:Int) (by omega) (by omega) (by rw [hz2];omega) (by omega)
 rw [h,hz1]
 congr 3
 simp only [Int.toNat_natCast,Nat.mul_one]
 apply Array.ext
 ·simp [size_madeCells]
 ·intro i h1 h2
  simp [madeCells,Value.cells,Nat.mod_one]
theorem copy_into {w W:World} {n:Nat} {A B:List Int} {A2:Option Addr} {c2:Nat} {l2:List Int} (hA:A.length=8) (hm:n<=4096) (hn:l2.length=n) (M:Making w n W (A ++ (List.replicate n 0 ++ B))) (hr:(Kd.int .u8).C w A2 l2.length l2) :
  ∃ W',(Builtin.copy_ #[36,36] 3 #[.slice (some ⟨w.heap.size,8,none⟩) (12+n - 8) (12+n - 8),.slice A2 n c2]).run Tryz.prog W=.ok (.int .i64 (n:Int)) W'/\Making w n W' (A ++ (l2 ++ B)):=by
 by_cases h0:n=0
 ·subst h0
  obtain rfl:l2=[]:=List.eq_nil_of_length_eq_zero hn
  refine ⟨W,?_,M⟩
  have:=run_copy_none (P:=Tryz.prog) W 36 36 3 5 (some ⟨w.heap.size,8,none⟩) A2 (12+0 - 8) (12+0 - 8) 0 c2 Tryz.underlying36 (by kernel_rfl) (by rfl)
  exact this
 ·subst hn
  have hr':=Kd.C_below hr M.below
  obtain ⟨ad,e,_⟩:=Kd.at_int hr' 0 (by omega) (by omega)
  subst e
  have hs:∀ j v,(l2.map (Value.int .u8))[j]?=some v->W.cell? (ad.add j)=some v:=by
   intro j v hj
   have hjl:j < l2.length:=by have:=(List.getElem?_eq_some_iff.1 hj).1;simpa using this
   obtain ⟨ad',e',h⟩:=Kd.at_int hr' (j:Int) (by omega) (by omega)
   obtain rfl:=Option.some.inj e'
   rw [Int.toNat_natCast] at h
   rw [h,<- hj,List.getElem?_map]
   unfold rd
   simp [List.getD_eq_getElem?_getD,hjl]
  have hl:=M.len
  have hrun:=run_copy_row (P:=Tryz.prog) W 36 36 3 5 w.heap.size 8 (12+l2.length - 8) (12+l2.length - 8) ad l2.length c2 _ 5 (l2.map (Value.int .u8)) Tryz.underlying36 (by kernel_rfl) M.row (by rw [List.length_map];show l2.length=min l2.length (12+l2.length - 8);omega) hs (by simp at hl ⊢;omega) (by intro v hv;obtain ⟨x,_,rfl⟩:=List.mem_map.1 hv;rfl)
  refine ⟨_,hrun.trans (by rw [List.length_map];rfl),?_⟩
  have hs8:=splice_mid A (List.replicate l2.length 0) B l2 (by simp)
  rw [hA] at hs8
  refine M.step (L':=A ++ (l2 ++ B)) ?_ ⟨rfl,rfl,rfl,by simp [World.setRow],fun k hk hne=>setRow_other _ _ _ _ (fun e=>hne (by rw [e]))⟩ (by simp at hl ⊢;omega)
  rw [<- hs8]
  rw [setRow_heap W w.heap.size _ _ _ _ M.row]
  simp [splice,List.map_append,List.map_take,List.map_drop]
set_option maxHeartbeats 4000000 in
theorem pack_good (k:Nat) (a0:Int) (a1:Int) (A2:Option Addr) (c2:Nat) (l2:List Int) (t:Int) (w:World) (hr2:Kd.C (Kd.int .u8) w A2 l2.length l2) (hc2:l2.length<=c2)
  (h0:0<=a0/\a0<=2147483647) (h1:0<=a1/\a1<=2147483647) (h2:l2.length<=4096) (ht:crc_Sum.f k (packL a0 a1 l2)=some t) (ht2:0<=t/\t < 4294967296) :
  Calls Tryz.prog 77 #[.int .i64 a0,.int .i64 a1,.slice A2 l2.length c2] w fun e w'=>∃ v0_:Value,e=.returned (.tuple #[v0_,.int .i64 0])/\Kd.R (Kd.int .u8) 5 w' w.heap.size (fun _=>True) v0_ (packL a0 a1 l2 ++ fourL t)/\Below w.heap.size w w':=by
 have HR:=Aside0.mk hr2
 have HT:=Aside0.mk ht
 clear hr2 ht
 obtain ⟨n,hn⟩:∃ n,l2.length=n:=⟨_,rfl⟩
 have HN:=Aside0.mk hn
 rw [hn] at h2 hc2 ⊢
 clear hn
 have f0:sector_fits.f a0=some true:=by unfold sector_fits.f;rw [if_pos (by omega),decide_eq_true (by omega)]
 have f1:sector_fits.f a1=some true:=by unfold sector_fits.f;rw [if_pos (by omega),decide_eq_true (by omega)]
 have F0:=Aside0.mk f0
 have F1:=Aside0.mk f1
 clear f0 f1
 obtain ⟨h0a,h0b⟩:=h0
 obtain ⟨h1a,h1b⟩:=h1
 have hd:decide (4096 < (n:Int))=false:=by simp;omega
 have hmk:∀ W:World,(Instr.makeSlice 36 (.int .i64 (12+(n:Int))) (.int .i64 (12+(n:Int)))).run Tryz.prog W=.ok (.slice (some ⟨W.heap.size,0,none⟩) (12+n) (12+n)) (W.alloc (.cells ((List.replicate (12+n) (0:Int)).map (Value.int .u8)).toArray 5)):=by
  intro W
  have:=make_bytes W (12+n) (by omega)
  simpa using this
 go_enter Tryz.func77,Tryz.ntmps77
 go_wp2_with fail
 refine (sector_fits.calls a0 true _ F0.out).mono ?_
 rintro e w' ⟨rfl,⟨nd0,rfl⟩⟩
 go_wp2_with fail
 refine (sector_fits.calls a1 true _ F1.out).mono ?_
 rintro e w' ⟨rfl,⟨nd1,rfl⟩⟩
 go_wp2_with fail
 have e0:List.replicate (12+n) (0:Int)=[] ++ (List.replicate 4 0 ++ (List.replicate 4 0 ++ (List.replicate n 0 ++ List.replicate 4 0))):=by
  simp only [List.replicate_append_replicate,List.nil_append]
  congr 1;omega
 have M0:Making w n (((w.drewN (nd0+nd1)).alloc (Obj.cells (Array.replicate (12+n) (Value.int IntKind.u8 0)) 5)).alloc (Obj.cells #[Value.slice (some { block:=w.heap.size,off:=0 }) (12+n) (12+n)] 36)) ([] ++ (List.replicate 4 0 ++ (List.replicate 4 0 ++ (List.replicate n 0 ++ List.replicate 4 0)))):=by
  rw [<- e0]
  refine ⟨?_,?_,below_alloc (below_alloc (pw_below_drewN (Below.refl _ _) _) _) _,by simp⟩
  ·rw [heap_alloc_old _ _ (by simp)]
   have:=heap_alloc_new (w.drewN (nd0+nd1)) (Obj.cells (Array.replicate (12+n) (Value.int IntKind.u8 0)) 5)
   simpa using this
  ·have:=heap_alloc_new ((w.drewN (nd0+nd1)).alloc (Obj.cells (Array.replicate (12+n) (Value.int IntKind.u8 0)) 5)) (Obj.cells #[Value.slice (some { block:=w.heap.size,off:=0 }) (12+n) (12+n)] 36)
   simpa using this
 clear e0 hmk
 generalize ((w.drewN (nd0+nd1)).alloc (Obj.cells (Array.replicate (12+n) (Value.int IntKind.u8 0)) 5)).alloc (Obj.cells #[Value.slice (some { block:=w.heap.size,off:=0 }) (12+n) (12+n)] 36)=W0 at M0 ⊢
 refine (pack1 0 a0 (w.heap.size+1) w.heap.size (12+n) _ W0 M0.len M0.var M0.row h0a (by omega) (by omega) (by omega) (by omega)).mono ?_
 rintro e W1 ⟨rfl,hr1,hg1⟩
 have M1:=Aside0.mk (M0.step (L':=[] ++ (fourL a0 ++ (List.replicate 4 0 ++ (List.replicate n 0 ++ List.replicate 4 0)))) (by rw [<- splice_mid [] (List.replicate 4 0) _ (fourL a0) rfl];exact hr1) hg1 (by simp [fourL];omega))
 clear hr1 hg1 M0
 go_wp2_with fail
 refine (pack1 4 a1 (w.heap.size+1) w.heap.size (12+n) _ W1 M1.out.len M1.out.var M1.out.row h1a (by omega) (by omega) (by omega) (by omega)).mono ?_
 rintro e W2 ⟨rfl,hr2,hg2⟩
 have M2:=Aside0.mk (M1.out.step (L':=fourL a0 ++ (fourL a1 ++ (List.replicate n 0 ++ List.replicate 4 0))) (by rw [<- splice_mid (fourL a0) (List.replicate 4 0) _ (fourL a1) rfl];exact hr2) hg2 (by simp [fourL];omega))
 clear hr2 hg2 M1
 have hc2x:=M2.out.cell
 go_wp2_with fail
 obtain ⟨W3,hrun,M3⟩:=copy_into (A:=fourL a0 ++ fourL a1) (B:=List.replicate 4 0) (c2:=c2) rfl h2 HN.out (by rw [List.append_assoc];exact M2.out) HR.out
 rw [hrun]
 have M3':=Aside0.mk M3
 clear hrun hc2x M2 M3
 have hc3x:=M3'.out.cell
 go_wp2_with fail
 have hpl:(packL a0 a1 l2).length=8+n:=by have:=HN.out;simp [packL,fourL];omega
 have htk:(fourL a0 ++ fourL a1 ++ (l2 ++ List.replicate 4 0)).take (8+n)=packL a0 a1 l2:=by
  rw [<- hpl,show fourL a0 ++ fourL a1 ++ (l2 ++ List.replicate 4 0)=packL a0 a1 l2 ++ List.replicate 4 0 from by simp [packL,List.append_assoc],List.take_left]
 have hC:=C_pre M3'.out.row (8+n) (by have:=M3'.out.len;omega) (by have:=M3'.out.len;omega)
 rw [htk] at hC
 have HPL:=Aside0.mk hpl
 clear htk
 refine calls_of_args (args':=#[.slice (some ⟨w.heap.size,0,none⟩) (packL a0 a1 l2).length (12+n)]) (by rw [hpl]) ?_
 refine (crc_Sum.calls k _ _ (packL a0 a1 l2) t _ hC (by omega) HT.out).mono ?_
 clear hC hpl
 rintro e w' ⟨rfl,⟨nd3,rfl⟩⟩
 have M4:=Aside0.mk (M3'.out.drewN nd3)
 clear hc3x M3'
 go_wp2_with fail
 obtain ⟨ht0,ht1⟩:=ht2
 refine (pack1 (8+(n:Int)) t (w.heap.size+1) w.heap.size (12+n) _ _ M4.out.len M4.out.var M4.out.row ht0 ht1 (by omega) (by omega) (by omega)).mono ?_
 rintro e W5 ⟨rfl,hr5,hg5⟩
 have M5:=Aside0.mk (M4.out.step (L':=packL a0 a1 l2 ++ (fourL t ++ [])) (by
  have hs:=splice_mid (packL a0 a1 l2) (List.replicate 4 0) [] (fourL t) rfl
  rw [HPL.out] at hs
  rw [<- hs]
  have e1:(8+(n:Int)).toNat=8+n:=by omega
  rw [e1] at hr5
  rw [show packL a0 a1 l2 ++ (List.replicate 4 0 ++ [])=fourL a0 ++ fourL a1 ++ (l2 ++ List.replicate 4 0) from by simp [packL,List.append_assoc]]
  exact hr5) hg5 (by have:=HPL.out;simp [fourL];omega))
 clear hr5 hg5 M4
 have hc5x:=M5.out.cell
 go_wp2_with fail
 go_ret2
 refine ⟨_,rfl,?_,M5.out.below⟩
 have hlen:(packL a0 a1 l2 ++ fourL t).length=12+n:=by have:=HPL.out;simp [fourL];omega
 refine Kd.R_of_own (h1:=fun _=>rfl) ?_ (fun _ _=>trivial)
 rw [hlen]
 refine ⟨by simp [encs,fourL];have:=HPL.out;omega,.inr ⟨w.heap.size,12+n,_,rfl,Nat.le_refl _,M5.out.row,Nat.le_refl _,by unfold maxLen;omega,?_,?_⟩⟩
 ·have:=M5.out.len
  simp at this ⊢
  omega
 ·rw [List.append_nil,Nat.mul_one,<- hlen]
  simp [encs]
  exact List.take_of_length_le (by simp)
theorem sector_Pack.mono:∀ a0 a1 a2 k,LeO (sector_Pack.f k a0 a1 a2) (sector_Pack.f (k+1) a0 a1 a2):=by
 intro a0 a1 a2 k
 unfold sector_Pack.f
 repeat' first
   | (with_reducible exact crc_Sum.mono _ _)
   | (with_reducible exact LeO.refl _)
   | (with_reducible exact LeO.none _)
   | (with_reducible refine LeO.ite ?_ ?_)
   | (with_reducible refine LeO.bind ?_ (fun _=>?_))
set_option maxHeartbeats 4000000 in
theorem sector_Pack.calls (k:Nat) (a0:Int) (a1:Int) (A2:Option Addr) (c2:Nat) (l2:List Int) (r1:List Int) (r2:Int) (w:World) (hr2:Kd.C (Kd.int .u8) w A2 l2.length l2) (hc2:l2.length<=c2) (h:sector_Pack.f k a0 a1 l2=some (r1,r2)) :
  Calls Tryz.prog 77 #[.int .i64 a0,.int .i64 a1,.slice A2 l2.length c2] w fun e w'=>∃ v0_:Value,e=.returned (.tuple #[v0_,.int .i64 r2])/\Kd.R (Kd.int .u8) 5 w' w.heap.size (fun _=>True) v0_ r1/\Below w.heap.size w w':=by
 unfold sector_Pack.f at h
 by_cases hg:(0<=a0/\a0<=2147483647)/\(0<=a1/\a1<=2147483647)/\l2.length<=4096
 ·rw [if_pos hg] at h
  replace h:=Option.bind_eq_some_iff.mp h
  obtain ⟨t,ht,h⟩:=h
  by_cases ht2:0<=t/\t < 4294967296
  ·rw [if_pos ht2] at h
   simp only [Option.some.injEq,Prod.mk.injEq] at h
   obtain ⟨rfl,rfl⟩:=h
   exact pack_good k a0 a1 A2 c2 l2 t w hr2 hc2 hg.1 hg.2.1 hg.2.2 ht ht2
  ·rw [if_neg ht2] at h;exact absurd h (by simp)
 ·rw [if_neg hg] at h
  simp only [Option.some.injEq,Prod.mk.injEq] at h
  obtain ⟨rfl,rfl⟩:=h
  have fx:∀ a:Int,sector_fits.f a=some (decide (0<=a/\a<=2147483647)):=by
   intro a
   unfold sector_fits.f
   by_cases h:a ≥ 0
   ·rw [if_pos h];congr 1;rw [decide_eq_decide];omega
   ·rw [if_neg h];congr 1;symm;rw [decide_eq_false_iff_not];omega
  clear hr2 hc2
  by_cases h0:0<=a0/\a0<=2147483647
  ·have F0:=Aside0.mk ((fx a0).trans (by rw [decide_eq_true h0]))
   by_cases h1:0<=a1/\a1<=2147483647
   ·have F1:=Aside0.mk ((fx a1).trans (by rw [decide_eq_true h1]))
    have hd:decide (4096 < (l2.length:Int))=true:=by
     rw [decide_eq_true_iff]
     have:¬ l2.length<=4096:=fun hl=>hg ⟨h0,h1,hl⟩
     omega
    clear fx hg h0 h1
    go_enter Tryz.func77,Tryz.ntmps77
    go_wp2_with fail
    refine (sector_fits.calls a0 true _ F0.out).mono ?_
    rintro e w' ⟨rfl,⟨nd0,rfl⟩⟩
    go_wp2_with fail
    refine (sector_fits.calls a1 true _ F1.out).mono ?_
    rintro e w' ⟨rfl,⟨nd1,rfl⟩⟩
    go_wp2_with fail
    go_ret2
    exact ⟨_,rfl,Kd.R_nil _ _ _ _ _,pw_below_drewN (Below.refl _ _) _⟩
   ·have F1:=Aside0.mk ((fx a1).trans (by rw [decide_eq_false h1]))
    clear fx hg h0 h1
    go_enter Tryz.func77,Tryz.ntmps77
    go_wp2_with fail
    refine (sector_fits.calls a0 true _ F0.out).mono ?_
    rintro e w' ⟨rfl,⟨nd0,rfl⟩⟩
    go_wp2_with fail
    refine (sector_fits.calls a1 false _ F1.out).mono ?_
    rintro e w' ⟨rfl,⟨nd1,rfl⟩⟩
    go_wp2_with fail
    go_ret2
    exact ⟨_,rfl,Kd.R_nil _ _ _ _ _,pw_below_drewN (Below.refl _ _) _⟩
  ·have F0:=Aside0.mk ((fx a0).trans (by rw [decide_eq_false h0]))
   clear fx hg h0
   go_enter Tryz.func77,Tryz.ntmps77
   go_wp2_with fail
   refine (sector_fits.calls a0 false _ F0.out).mono ?_
   rintro e w' ⟨rfl,⟨nd0,rfl⟩⟩
   go_wp2_with fail
   go_ret2
   exact ⟨_,rfl,Kd.R_nil _ _ _ _ _,pw_below_drewN (Below.refl _ _) _⟩
def metalog_label.f (k:Nat):Option (List Int):=(sector_Pack.f k 0 0 (([76]:List Int))).bind fun bt121=>(some bt121.1)
theorem metalog_label.mono:∀ k,LeO (metalog_label.f k ) (metalog_label.f (k+1) ):=by
 intro  k
 unfold metalog_label.f
 repeat' first
   | (with_reducible exact sector_Pack.mono _ _ _ _)
   | (with_reducible exact LeO.refl _)
   | (with_reducible exact LeO.none _)
   | (with_reducible refine LeO.ite ?_ ?_)
   | (with_reducible refine LeO.bind ?_ (fun _=>?_))
   | exact sector_Pack.mono _ _ _ _
   | exact LeO.none _
   | refine LeO.ite ?_ ?_
   | refine LeO.bind ?_ (fun _=>?_)
set_option maxHeartbeats 8000000 in
set_option maxRecDepth 100000 in
theorem metalog_label.calls (k:Nat)  (r:List Int) (w:World) (h:metalog_label.f k=some r) :
  Calls Tryz.prog 52 #[] w fun e w'=>∃ v0_:Value,e=.returned (v0_)/\Kd.R (Kd.int .u8) 5 w' w.heap.size (fun _=>True) v0_ r/\Below w.heap.size w w':=by
 have HB:=Aside0.mk (Below.refl w.heap.size w)
 have H:((sector_Pack.f k 0 0 (([76]:List Int))).bind fun bt121=>(some bt121.1))=some r:=h
 clear h
 obtain ⟨y118,hy118⟩:∃ y_:List Int,y_=(([76]:List Int)):=⟨_,rfl⟩
 replace H:((sector_Pack.f k 0 0 y118).bind fun bt121=>(some bt121.1))=some r:=by first|(rw [hy118];with_reducible exact H)|(have H2_:=(Option.bind_some _ _).symm.trans H;rw [hy118];with_reducible exact H2_)|(have H2_:=(Option.bind_some _ _).symm.trans H;with_reducible exact H2_)|with_reducible exact H|(rw [hy118];exact H)|exact H
 have Ny118:=Aside0.mk hy118
 clear hy118
 replace H:=Option.bind_eq_some_iff.mp H
 obtain ⟨⟨t121,t122⟩,A10,H⟩:=H
 replace H:(some t121)=some r:=H
 have A1:=Aside0.mk A10
 clear A10
 obtain rfl:=Option.some.inj H
 go_enter Tryz.func52,Tryz.ntmps52
 go_wp2_with (first|((with_reducible refine gate_dst (N:=4) rfl ?_);refine Kd.R_lit (Kd.int .u8) _ 5 ?hg (N:=4) ?hd (xs:=([76]:List Int)) (inner:=[.int .u8 76]) (ok:=fun _=>True) (okp:=fun _=>True) ?hr ?hp (fun _ hk=>hk) trivial (Below.refl _ _) (Nat.le_refl _) (by simp) ?_;(case hd=>rfl);(case hg=>rfl);(case hr=>first|(go_simp;done)|(go_simp;rfl));(case hp=>exact (Reps.one (show Kd.M (Kd.int .u8) _ _ _ 76 [.int .u8 76] from rfl) (Reps.none _ _)));intro v119 w2 ho3 hb hg_ hnew_;clear hg_ hnew_;(first|rw [<- Ny118.out] at ho3|(simp only [Int.reduceToNat] at ho3;rw [<- Ny118.out] at ho3));have n0_:=Aside0.mk (Kd.R_lower ho3 (below_size (by repeat (first|(with_reducible first|exact HB.out|apply below_alloc|apply pw_below_drewN|apply below_drew1)|exact HB.out))));have n1_:=Aside0.mk (below_step (by repeat (first|(with_reducible first|exact HB.out|apply below_alloc|apply pw_below_drewN|apply below_drew1)|exact HB.out)) hb);clear HB;have HO120:=n0_;have HB:=n1_;clear n0_ n1_;clear hb ho3;obtain ⟨Ao4,co4,eo4⟩:=Kd.R_slice HO120.out;subst eo4)|((with_reducible refine gate_callee (f:=77) rfl ?_);refine goesL_ (some 5) rfl rfl Tryz.func77 (by kernel_rfl) rfl #[.int .i64 0,.int .i64 0,.slice Ao4 y118.length co4] rfl (by (try simp only [List.map_toArray,List.map_cons,List.map_nil]);first|done|rfl|(simp only [List.length_drop,List.length_take];rfl)) ?_;(with_reducible refine (sector_Pack.calls k 0 0 _ _ y118 t121 t122 _ ?side1 ?side2 A1.out).mono ?_);(case side1=>repeat (first|exact (Kd.R_reads' HO120.out).2.2|(with_reducible refine Kd.C_alloc ?_ _)|(with_reducible refine Kd.C_drewN ?_ _)|(with_reducible refine Kd.C_drew ?_)));(case side2=>exact (Kd.R_reads' HO120.out).2.1);rintro e w5 ⟨v123,rfl,ho0,hb⟩;refine ⟨_,rfl,?_⟩;have n0_:=Aside0.mk (Kd.R_elder' (by (with_reducible repeat (first|apply Kd.R_alloc|apply Kd.R_drewN|apply Kd.R_drew));exact HO120.out) (Kd.R_base ho0) hb);have n1_:=Aside0.mk (Kd.R_lower (Kd.R_new' ho0 (Kd.R_lt (by (with_reducible repeat (first|apply Kd.R_alloc|apply Kd.R_drewN|apply Kd.R_drew));exact HO120.out))) (below_size (by repeat (first|(with_reducible first|exact HB.out|apply below_alloc|apply pw_below_drewN|apply below_drew1)|exact HB.out))));have n2_:=Aside0.mk (below_step (by repeat (first|(with_reducible first|exact HB.out|apply below_alloc|apply pw_below_drewN|apply below_drew1)|exact HB.out)) hb);clear HO120;clear HB;have HO120:=n0_;have HO124:=n1_;have HB:=n2_;clear n0_ n1_ n2_;(try clear hb);(try clear hb2);(try clear hk);(try clear hi);(try clear ho0)))
 go_ret
 exact ⟨_,by first|rfl|(simp [errW_none,errW_some] <;> rfl)|(simp [*,errW_none,errW_some] <;> rfl),by (with_reducible repeat (first|apply Kd.R_alloc|apply Kd.R_drewN|apply Kd.R_drew));exact Kd.R_mono HO124.out (fun _ hk=>trivial),by repeat (first|(with_reducible first|exact HB.out|apply below_alloc|apply pw_below_drewN|apply below_drew1)|exact HB.out)⟩
def sector_number.l0:Nat->Int->List Int->Int->Int->Option (Int)
 | 0,_,_,_,_=>none
 | k+1,x3,x6,x7,x8=>if x8 < x7 then (if 0<=x8 then (if x8 < (x6.length:Int) then (sector_number.l0 k (Go.bits .or .u32 ((x3*256) % 4294967296) ((rd x6 x8) % 4294967296)) x6 x7 (wrap64 (x8+1))) else (none)) else (none)) else (some x3)
def sector_number.f (k:Nat) (l0:List Int):Option (Int):=sector_number.l0 k 0 l0 (l0.length:Int) 0
theorem sector_number.mono_l:∀ k,(∀ y0 y1 y2 y3,LeO (sector_number.l0 k y0 y1 y2 y3) (sector_number.l0 (k+1) y0 y1 y2 y3))
 | 0=>fun _ _ _ _ r h=>by simp [sector_number.l0] at h
 | k+1=>by
  have ih0:=sector_number.mono_l k
  ·intro y0 y1 y2 y3
   unfold sector_number.l0
   repeat' first
   | (with_reducible exact ih0 _ _ _ _)
   | (with_reducible exact LeO.refl _)
   | (with_reducible exact LeO.none _)
   | (with_reducible refine LeO.ite ?_ ?_)
   | (with_reducible refine LeO.bind ?_ (fun _=>?_))
   | exact ih0 _ _ _ _
   | exact LeO.none _
   | refine LeO.ite ?_ ?_
   | refine LeO.bind ?_ (fun _=>?_)
theorem sector_number.mono:∀ a0 k,LeO (sector_number.f k a0) (sector_number.f (k+1) a0):=by
 intro a0 k
 have ih0:=sector_number.mono_l k
 unfold sector_number.f
 repeat' first
   | (with_reducible exact ih0 _ _ _ _)
   | (with_reducible exact LeO.refl _)
   | (with_reducible exact LeO.none _)
   | (with_reducible refine LeO.ite ?_ ?_)
   | (with_reducible refine LeO.bind ?_ (fun _=>?_))
   | exact ih0 _ _ _ _
   | exact LeO.none _
   | refine LeO.ite ?_ ?_
   | refine LeO.bind ?_ (fun _=>?_)
set_option maxHeartbeats 8000000 in
set_option maxRecDepth 100000 in
theorem sector_number.calls (k:Nat) (A0:Option Addr) (c0:Nat) (l0:List Int) (r:Int) (w:World) (hr0:Kd.C (Kd.int .u8) w A0 l0.length l0) (hc0:l0.length<=c0) (h:sector_number.f k l0=some r) :
  Calls Tryz.prog 175 #[.slice A0 l0.length c0] w fun e w'=>e=.returned (.int .u32 r)/\Drawn0 w w':=by
 have HR0:=Aside0.mk hr0
 have HC0:=Aside0.mk hc0
 clear hr0 hc0
 have H:(sector_number.l0 k 0 l0 (l0.length:Int) 0)=some r:=h
 clear h
 have H':=Aside0.mk H
 clear H
 go_enter Tryz.func175,Tryz.ntmps175
 go_wp2
 go_loopg [3,8] k (fun kq v3 v8 w'=>∃ (x3_1:Int) (x8_1:Int),v3=.int .u32 x3_1/\v8=.int .i64 x8_1/\Aside0 (sector_number.l0 kq x3_1 l0 (l0.length:Int) x8_1=some r)/\Aside0 (kq<=k)/\Drawn0 w w')
 case atStart=>exact ⟨(0),(0),(by first|rfl|(simp;done)|(simp [*];done)),(by first|rfl|(simp;done)|(simp [*];done)),H',⟨Nat.le_refl _⟩,by repeat (first|exact Drawn0.refl _|apply Drawn0.step)⟩
 case round =>
  clear H'
  try clear c1
  obtain ⟨x3_1,x8_1,rfl,rfl,HA,HK1,⟨m1,rfl⟩⟩:=hrel
  cases gk with
  | zero=>exact absurd HA.out (by simp [sector_number.l0])
  | succ k1 =>
   have H:=HA.out
   clear HA
   simp only [sector_number.l0] at H
   by_cases c2:x8_1 < (l0.length:Int)
   ·rw [if_pos c2] at H
    have c2b0:decide (x8_1 < (l0.length:Int))=true:=decide_eq_true c2
    clear c2
    by_cases c3:0<=x8_1
    ·rw [if_pos c3] at H
     have c3b0:decide (0<=x8_1)=true:=decide_eq_true c3
     clear c3
     by_cases c4:x8_1 < (l0.length:Int)
     ·rw [if_pos c4] at H
      have c4b0:decide (x8_1 < (l0.length:Int))=true:=decide_eq_true c4
      clear c4
      have H':=Aside0.mk H
      clear H
      have p214:0<=(x8_1:Int):=of_decide_eq_true (by first|(with_reducible assumption)|assumption)
      have q214:x8_1 < (l0.length:Int):=of_decide_eq_true (by first|(with_reducible assumption)|assumption)
      obtain ⟨ad214,e214,hx214_0⟩:=Kd.at_int HR0.out x8_1 p214 q214
      cases e214
      replace p214:=eq_true p214
      replace q214:=eq_true q214
      go_wp2
      go_roundg k1
      case measure=>have:=HK1.out;omega
      case rel=>exact ⟨(Go.bits .or .u32 ((x3_1*256) % 4294967296) ((rd l0 x8_1) % 4294967296)),(wrap64 (x8_1+1)),(by first|rfl|(simp;done)|(simp [*];done)),(by first|rfl|(simp;done)|(simp [*];done)),H',⟨by have:=HK1.out;omega⟩,by repeat (first|exact Drawn0.refl _|apply Drawn0.step)⟩
     ·rw [if_neg c4] at H
      exact absurd H (by simp)
    ·rw [if_neg c3] at H
     exact absurd H (by simp)
   ·rw [if_neg c2] at H
    have c2b0:decide (x8_1 < (l0.length:Int))=false:=decide_eq_false c2
    clear c2
    obtain rfl:=Option.some.inj H
    go_wp2
    go_ret
    exact ⟨by first|rfl|(simp;done)|(simp [*];done),by repeat (first|exact Drawn0.refl _|apply Drawn0.step)⟩
def bytes_Clone.f (l0:List Int):Option (List Int):=if l0.length < 140737488355328 then (some l0) else (none)
set_option maxHeartbeats 2000000 in
set_option maxRecDepth 100000 in
theorem bytes_Clone.calls (A0:Option Addr) (c0:Nat) (l0:List Int) (r:List Int) (w:World) (hr0:Kd.C (Kd.int .u8) w A0 l0.length l0) (hc0:l0.length<=c0) (h:bytes_Clone.f l0=some r) :
  Calls Tryz.prog 112 #[.slice A0 l0.length c0] w fun e w'=>∃ v0_:Value,e=.returned (v0_)/\Kd.R (Kd.int .u8) 5 w' w.heap.size (fun _=>True) v0_ r/\Below w.heap.size w w':=by
 unfold bytes_Clone.f at h
 by_cases hbig:l0.length < 140737488355328
 ·rw [if_pos hbig] at h
  obtain rfl:=Option.some.inj h
  clear h
  have q:∀ (w:World) (a:Option Addr) (n c n' c':Nat),(binOp .eql 36 (.slice a n c) (.slice none n' c')).run Tryz.prog w=.ok (.bool a.isNone) w:=fun w a n c n' c'=>Lib.run_eql_slice_nil w _ _ a n c n' c' Tryz.underlying36
  cases A0 with
  | none =>
   have hz:l0=[]:=by
    cases l0 with
    | nil=>rfl
    | cons x t=>obtain ⟨_,_,h3⟩:=hr0;obtain ⟨ad,e,_⟩:=h3 (by simp);cases e
   subst hz
   clear hr0
   go_enter Tryz.func112,Tryz.ntmps112
   go_wp2
   go_ret
   exact ⟨_,rfl,Kd.R_nil _ _ _ _ _,Below.refl _ _⟩
  | some a =>
   obtain ⟨i0,hi,hz0,hz1,hz2⟩:=info_parts (show (Tryz.prog.info? 5).map (fun i=>(i.zero,i.size,i.bytes))=some (some (.int .u8 0),1,1) from by kernel_rfl)
   have hcell:∀ i,i < l0.length->w.cell? (a.add i)=some (.int .u8 (l0.getD i 0)):=by
    intro i hi
    obtain ⟨ad,e,h3⟩:=Kd.at_int hr0 i (by omega) (by omega)
    obtain rfl:=Option.some.inj e
    simpa [rd] using h3
   have A:Aside0 (∀ i,i < l0.length->w.cell? (a.add i)=some (.int .u8 (l0.getD i 0))):=⟨hcell⟩
   clear hcell hr0 hc0
   go_enter Tryz.func112,Tryz.ntmps112
   go_wp2_with (at_builtin;refine wpList_append_own _ rfl _ _ 36 rfl w.heap.size 5 i0 (.int .u8 0) 1 1 Tryz.underlying36 hi hz0 hz1 hz2 rfl (by decide) _ _ _ rfl (World.ownsRow_made w #[] 0 (Nat.le_refl _) (Nat.zero_le _) rfl) a l0.length c0 (l0.map (Value.int .u8)) rfl ?qc1 ?qc2 ?qc3 ?qc4 ?qc5 ?qc6 ?_)
   case qc1=>simp
   case qc2 =>
    intro j u hj
    have hjn:j < l0.length:=by
     have:=(List.getElem?_eq_some_iff.1 hj).1
     simp at this
     omega
    refine Lib.cell?_alloc_some _ ?_
    rw [A.out j hjn]
    have e:(l0.map (Value.int .u8))[j]?=some (Value.int .u8 (l0.getD j 0)):=by simp [List.getD,List.getElem?_eq_getElem (show j < l0.length by omega)]
    rw [e] at hj
    exact hj
   case qc3=>intro u hu;obtain ⟨x,_,rfl⟩:=List.mem_map.1 hu;rfl
   case qc4=>unfold maxLen;omega
   case qc5=>omega
   case qc6=>simp
   intro v' w1 hown hgrow hnil
   go_wp2
   go_ret
   refine ⟨v',rfl,?_,((Below.refl _ w).alloc (Nat.le_refl _) _).grown hgrow (by simp) (by intro k hk;simp [Value.ownBlock] at hk;omega)⟩
   exact Kd.R_of_own (h1:=fun _=>rfl) (by simpa [encs] using hown) (fun _ _=>trivial)
 ·rw [if_neg hbig] at h
  exact absurd h (by simp)
end Go.Proofs.YtmmcbncpnlknbaaGreat.PAll
