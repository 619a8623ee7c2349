import Derived.Test.YtmmcbncpnlknbaaGreatF36
set_option linter.unusedVariables false
set_option linter.unusedSimpArgs false
namespace Go.Proofs.YtmmcbncpnlknbaaGreat.Top.Rd
open Go Go.RowKit Go.Proofs.YtmmcbncpnlknbaaGreatW.PrintWords Go.Proofs.YtmmcbncpnlknbaaGreatW.PrintLast Go.Proofs.YtmmcbncpnlknbaaGreatW.PrintMore
set_option maxRecDepth 100000
section
def failed:List PanicEntry:=[{ v:=.iface 31 (.int .i64 160),recovered:=false }]
theorem grown_cell (w:World) (g o:Nat) (v:Value):w.grownBy (w.setCell ⟨g,o,none⟩ v) (some g):=by
 refine ⟨rfl,rfl,rfl,by simp [World.setCell],fun k hk hne=>?_⟩
 have:g≠k:=fun e=>hne (by rw [e])
 simp [World.setCell,Array.getElem?_modify,this]
structure RdAt (S:World->Prop) (w0 w:World) (g:Nat) (l:List Int) (A:Option Addr) (c:Nat):Prop where
 grown:w0.grownBy w (some g)
 ltg:g < w0.heap.size
 cell:w.heap[g]?=some (.cells #[.slice A l.length c] 273 (0,0))
 room:l.length<=c
 row:∀ W,S W->(Kd.int .u8).C W A l.length l
 imp:∀ W,w0.grownBy W (some g)->S W
theorem RdAt.keep {S:World->Prop} {w0 w W:World} {g:Nat} {l:List Int} {A:Option Addr} {c:Nat} (h:RdAt S w0 w g l A c) (hg:w0.grownBy W (some g)) (hc:W.heap[g]?=w.heap[g]?):RdAt S w0 W g l A c:=⟨hg,h.ltg,by rw [hc];exact h.cell,h.room,h.row,h.imp⟩
theorem RdAt.lt {S:World->Prop} {w0 w:World} {g:Nat} {l:List Int} {A:Option Addr} {c:Nat} (h:RdAt S w0 w g l A c):g < w.heap.size:=(Array.getElem?_eq_some_iff.1 h.cell).1
theorem RdAt.below {S:World->Prop} {w0 w W:World} {g:Nat} {l:List Int} {A:Option Addr} {c:Nat} (h:RdAt S w0 w g l A c) (hb:Below w.heap.size w W):RdAt S w0 W g l A c :=
 h.keep (h.grown.trans ⟨hb.os,hb.tape,hb.output,hb.size,fun k hk _=>hb.block k hk⟩) (hb.block g h.lt)
theorem grown_below {w W:World} (hb:Below w.heap.size w W) (r:Option Nat):w.grownBy W r:=⟨hb.os,hb.tape,hb.output,hb.size,fun k hk _=>hb.block k hk⟩
def beN (l:List Int):Int:=l.foldl (fun n x=>n*256+x) 0
theorem beN_snoc (l:List Int) (x:Int):beN (l ++ [x])=beN l*256+x:=by simp [beN]
theorem beN_aux:∀ (l:List Int) (n:Int) (B:Int),0<=n->n < B->(∀ x ∈ l,0<=x/\x<=255)->0<=l.foldl (fun n x=>n*256+x) n/\l.foldl (fun n x=>n*256+x) n < B*256 ^ l.length
 | [],n,B,h0,h1,_=>by simpa using ⟨h0,h1⟩
 | y :: l,n,B,h0,h1,h=>by
  have hy:=h y (by simp)
  have:=beN_aux l (n*256+y) (B*256) (by omega) (by omega) (fun z hz=>h z (by simp [hz]))
  refine ⟨this.1,?_⟩
  have e:B*256*256 ^ l.length=B*256 ^ (l.length+1):=by rw [Int.pow_succ,Int.mul_assoc,Int.mul_comm 256]
  rw [e] at this
  exact this.2
theorem beN_lt (l:List Int) (h:∀ x ∈ l,0<=x/\x<=255):0<=beN l/\beN l < 256 ^ l.length:=by
 have:=beN_aux l 0 1 (by omega) (by omega) h
 rw [Int.one_mul] at this
 exact this
theorem or_byte (N X:Int) (h0:0<=N) (h1:N < 4294967296) (hx0:0<=X) (hx1:X<=255):bits .or .i64 (wrap64 (N*256)) (wrap64 X)=N*256+X:=by
 have e1:wrap64 (N*256)=N*256:=by unfold wrap64;omega
 have e2:wrap64 X=X:=by unfold wrap64;omega
 rw [e1,e2]
 exact bits_join .i64 63 (by decide) (fun n h0 h1=>by rw [IntKind.wrap_i64];omega) 8 (N*256) X (by omega) (by omega) (by omega) (by omega) (by omega) (by omega)
theorem byte_at {ys:List Int} (h:∀ x ∈ ys,0<=x/\x<=255) {i:Nat} (hi:i < ys.length):0<=rd ys (i:Int)/\rd ys (i:Int)<=255:=by
 have:rd ys (i:Int)=ys[i]:=by simp [rd,hi]
 rw [this]
 exact h _ (List.getElem_mem hi)
theorem take_succ_rd {ys:List Int} {i:Nat} (hi:i < ys.length):ys.take (i+1)=ys.take i ++ [rd ys (i:Int)]:=by
 have:rd ys (i:Int)=ys[i]:=by simp [rd,hi]
 rw [this,List.take_succ_eq_append_getElem hi]
theorem beN_take_lt {ys:List Int} (h:∀ x ∈ ys,0<=x/\x<=255) (i:Nat) (hi:i<=4):0<=beN (ys.take i)/\beN (ys.take i) < 4294967296:=by
 have h1:=beN_lt (ys.take i) (fun x hx=>h x (List.mem_of_mem_take hx))
 have h2:(ys.take i).length<=4:=by rw [List.length_take];omega
 have h3:(256:Int) ^ (ys.take i).length<=256 ^ 4:=by
  generalize (ys.take i).length=z at h2 ⊢
  rcases z with _|_|_|_|_|z
  all_goals first|decide|omega
 omega
def pairsN:Nat->List Int->List Int
 | 0,_=>[]
 | n+1,l=>beN (l.take 2) :: pairsN n (l.drop 2)
theorem pairsN_succ:∀ (n:Nat) (l:List Int),pairsN (n+1) l=pairsN n l ++ [beN ((l.drop (2*n)).take 2)]
 | 0,l=>by simp [pairsN]
 | n+1,l=>by
  rw [pairsN,pairsN_succ n (l.drop 2),List.drop_drop,pairsN,show 2+2*n=2*(n+1) from by omega]
  rfl
theorem pairsN_length:∀ (n:Nat) (l:List Int),(pairsN n l).length=n
 | 0,_=>rfl
 | n+1,l=>by simp [pairsN,pairsN_length n]
def zero160:Obj:=.cells #[.int .i64 0,.string ⟨#[]⟩,.int .i64 0,.slice none 0 0] 160 (0,0)
structure Rec (S:World->Prop) (w0 w W:World) (g b2 b3:Nat) (kd:Int) (key:ByteArray) (len:Int) (v:Value) (st:List Int) (l:List Int):Prop where
 le0:w0.heap.size<=w.heap.size
 grown:w.grownBy W (some g)
 out:W.heap[b3]?=some (.cells #[.int .i64 kd,.string key,.int .i64 len,v] 160 (0,0))
 res:W.heap[b2]?=some zero160
 ge2:w.heap.size<=b2
 ge3:w.heap.size<=b3
 ne:b2≠b3
 own:Kd.R (Kd.int .i64) 3 W w.heap.size (fun _=>True) v st
 rd:∃ A c,RdAt S w0 W g l A c
variable {S:World->Prop} {w0 w W W':World} {g b2 b3:Nat} {kd:Int} {key:ByteArray} {len:Int} {v:Value} {st l l':List Int}
theorem Rec.ltg (h:Rec S w0 w W g b2 b3 kd key len v st l):g < w0.heap.size:=by
 obtain ⟨A,c,hr⟩:=h.rd
 exact hr.ltg
theorem Rec.read (h:Rec S w0 w W g b2 b3 kd key len v st l) (hg:W.grownBy W' (some g)) (hr:∃ A c,RdAt S w0 W' g l' A c):Rec S w0 w W' g b2 b3 kd key len v st l' where
 le0:=h.le0
 grown:=h.grown.trans hg
 out:=by
  have h1:=h.ge3
  have h2:=h.ltg
  have h3:=h.le0
  rw [hg.block b3 (Array.getElem?_eq_some_iff.1 h.out).1 (by simp;omega)]
  exact h.out
 res:=by
  have h1:=h.ge2
  have h2:=h.ltg
  have h3:=h.le0
  rw [hg.block b2 (Array.getElem?_eq_some_iff.1 h.res).1 (by simp;omega)]
  exact h.res
 ge2:=h.ge2
 ge3:=h.ge3
 ne:=h.ne
 own:=by
  have h2:=h.ltg
  have h4:=h.le0
  refine Kd.R_grown2 h.own rfl hg (fun k hk e=>?_)
  have h3:=Kd.R_base h.own k e.symm
  simp at hk
  omega
 rd:=hr
theorem Rec.cells (h:Rec S w0 w W g b2 b3 kd key len v st l) :
  W.cell? ⟨b3,0,none⟩=some (.int .i64 kd)/\W.cell? ⟨b3,1,none⟩=some (.string key)/\W.cell? ⟨b3,2,none⟩=some (.int .i64 len)/\W.cell? ⟨b3,3,none⟩=some v:=by
 simp [World.cell?,h.out]
theorem Rec.free (h:Rec S w0 w W g b2 b3 kd key len v st l) (j:Nat) :
  W.frozen? ⟨b3,j,none⟩=false:=by
 simp [World.frozen?,h.out]
theorem Rec.store (h:Rec S w0 w W g b2 b3 kd key len v st l) (j:Nat) (u:Value) (key':ByteArray) (len':Int) (v':Value)
  (hj:[.int .i64 kd,.string key,.int .i64 len,v].set j u=[.int .i64 kd,.string key',.int .i64 len',v']) (st':List Int) (ho:Kd.R (Kd.int .i64) 3 W w.heap.size (fun _=>True) v' st'):Rec S w0 w (W.setCell ⟨b3,j,none⟩ u) g b2 b3 kd key' len' v' st' l where
 le0:=h.le0
 grown:=by
  have h1:=h.ge3
  have hgr:=grown_cell W b3 j u
  exact ⟨h.grown.os,h.grown.tape,h.grown.output,Nat.le_trans h.grown.size hgr.size,fun k hk hne=>by rw [hgr.block k (Nat.lt_of_lt_of_le hk h.grown.size) (by simp;omega)];exact h.grown.block k hk hne⟩
 out:=by
  simp [World.setCell,Array.getElem?_modify,h.out]
  exact hj
 res:=by
  have:=(grown_cell W b3 j u).block b2 (Array.getElem?_eq_some_iff.1 h.res).1 (by have:=h.ne;simp;omega)
  rw [this]
  exact h.res
 ge2:=h.ge2
 ge3:=h.ge3
 ne:=h.ne
 own:=Kd.R_grown2 ho rfl (grown_cell W b3 j u) (fun k hk e=>by
  cases hk
  exact Kd.R_ne ho h.out (by decide) e)
 rd:=by
  obtain ⟨A,c,hr⟩:=h.rd
  have h1:=h.ge3
  have h2:=h.ltg
  have h3:=h.le0
  have hgr:=grown_cell W b3 j u
  refine ⟨A,c,hr.keep ⟨hr.grown.os,hr.grown.tape,hr.grown.output,Nat.le_trans hr.grown.size hgr.size,fun k hk hne=>by rw [hgr.block k (Nat.lt_of_lt_of_le hk hr.grown.size) (by simp;omega)];exact hr.grown.block k hk hne⟩ (hgr.block g hr.lt (by simp;omega))⟩
theorem Rec.below (h:Rec S w0 w W g b2 b3 kd key len v st l) (hb:Below W.heap.size W W'):Rec S w0 w W' g b2 b3 kd key len v st l:=by
 obtain ⟨A,c,hr⟩:=h.rd
 exact h.read (grown_below hb _) ⟨A,c,hr.below hb⟩
theorem Rec.over (h:Rec S w0 w W g b2 b3 kd key len v st l) (hg:W.grownBy W' v.ownBlock) (v':Value) (st':List Int) (ho:Kd.R (Kd.int .i64) 3 W' w.heap.size (fun _=>True) v' st'):W'.heap[b3]?=W.heap[b3]?/\Rec S w0 w (W'.setCell ⟨b3,3,none⟩ v') g b2 b3 kd key len v' st' l:=by
 have h1:=h.ge3
 have h2:=h.ltg
 have h3:=h.le0
 have hlt3:=(Array.getElem?_eq_some_iff.1 h.out).1
 have hlt2:=(Array.getElem?_eq_some_iff.1 h.res).1
 have e3:W'.heap[b3]?=W.heap[b3]? :=hg.block b3 hlt3 (Kd.R_ne h.own h.out (by decide))
 have e2:W'.heap[b2]?=W.heap[b2]? :=hg.block b2 hlt2 (Kd.R_ne h.own h.res (by decide))
 have hgr:=grown_cell W' b3 3 v'
 have hold:∀ k,k < w.heap.size->W'.heap[k]?=W.heap[k]? :=fun k hk=>hg.block k (Nat.lt_of_lt_of_le hk h.grown.size) (fun e=>by have:=Kd.R_base h.own k e.symm;omega)
 have hmid:∀ k,k < w.heap.size->(W'.setCell ⟨b3,3,none⟩ v').heap[k]?=W.heap[k]? :=fun k hk=>by
  rw [hgr.block k (Nat.lt_of_lt_of_le hk (Nat.le_trans h.grown.size hg.size)) (by simp;omega)]
  exact hold k hk
 refine ⟨e3,h.le0,⟨hg.os.trans h.grown.os,hg.tape.trans h.grown.tape,hg.output.trans h.grown.output,Nat.le_trans h.grown.size (Nat.le_trans hg.size hgr.size),fun k hk hne=>(hmid k hk).trans (h.grown.block k hk hne)⟩,?_,?_,h.ge2,h.ge3,h.ne,?_,?_⟩
 ·have:=h.out
  rw [<- e3] at this
  simp [World.setCell,Array.getElem?_modify,this]
 ·rw [hgr.block b2 (Nat.lt_of_lt_of_le hlt2 hg.size) (by have:=h.ne;simp;omega),e2]
  exact h.res
 ·have ho3:=h.out
  rw [<- e3] at ho3
  exact Kd.R_grown2 ho rfl hgr (fun k hk e=>by
   cases hk
   exact Kd.R_ne ho ho3 (by decide) e)
 ·obtain ⟨A,c,hr⟩:=h.rd
  exact ⟨A,c,hr.keep ⟨hg.os.trans hr.grown.os,hg.tape.trans hr.grown.tape,hg.output.trans hr.grown.output,Nat.le_trans hr.grown.size (Nat.le_trans hg.size hgr.size),fun k hk hne=>(hmid k (Nat.lt_of_lt_of_le hk h3)).trans (hr.grown.block k hk hne)⟩ (hmid g (by omega))⟩
theorem Rec.fin (h:Rec S w0 w W g b2 b3 kd key len v st l) (hg:W.grownBy W' (some b2)):w.grownBy W' (some g)/\Kd.R (Kd.int .i64) 3 W' w.heap.size (fun _=>True) v st/\∃ A c,RdAt S w0 W' g l A c:=by
 have h1:=h.ge2
 have h2:=h.ltg
 have h3:=h.le0
 have hmid:∀ k,k < w.heap.size->W'.heap[k]?=W.heap[k]? :=fun k hk=>hg.block k (Nat.lt_of_lt_of_le hk h.grown.size) (by simp;omega)
 refine ⟨⟨hg.os.trans h.grown.os,hg.tape.trans h.grown.tape,hg.output.trans h.grown.output,Nat.le_trans h.grown.size hg.size,fun k hk hne=>(hmid k hk).trans (h.grown.block k hk hne)⟩,Kd.R_grown2 h.own rfl hg (fun k hk e=>by cases hk;exact Kd.R_ne h.own h.res (by decide) e),?_⟩
 obtain ⟨A,c,hr⟩:=h.rd
 exact ⟨A,c,hr.keep ⟨hg.os.trans hr.grown.os,hg.tape.trans hr.grown.tape,hg.output.trans hr.grown.output,Nat.le_trans hr.grown.size hg.size,fun k hk hne=>(hmid k (Nat.lt_of_lt_of_le hk h3)).trans (hr.grown.block k hk hne)⟩ (hmid g (by omega))⟩
theorem four_cells (W:World) (b:Nat) (x y z u x0 y0 z0 u0:Value) (h:W.heap[b]?=some (.cells #[x0,y0,z0,u0] 160 (0,0))) :
  ((((W.setCell ⟨b,0,none⟩ x).setCell ⟨b,1,none⟩ y).setCell ⟨b,2,none⟩ z).setCell ⟨b,3,none⟩ u).heap[b]?=some (.cells #[x,y,z,u] 160 (0,0)):=by
 simp [World.setCell,Array.getElem?_modify,h]
theorem Rec.made {W2:World} (hle:w0.heap.size<=w.heap.size) (h1:w.grownBy W2 (some g)) (h2:W2.heap[b2]?=some zero160) (h3:w.heap.size<=b2) (hr:∃ A c,RdAt S w0 W2 g l A c) (kd:Int) :
  Rec S w0 w (W2.alloc (.cells #[.int .i64 kd,.string ⟨#[]⟩,.int .i64 0,.slice none 0 0] 160)) g b2 W2.heap.size kd ⟨#[]⟩ 0 (.slice none 0 0) [] l:=by
 have hb:Below W2.heap.size W2 (W2.alloc (.cells #[.int .i64 kd,.string ⟨#[]⟩,.int .i64 0,.slice none 0 0] 160)):=below_alloc (Below.refl _ _) _
 obtain ⟨A,c,hr⟩:=hr
 refine ⟨hle,h1.trans (grown_below hb _),heap_alloc_new _ _,?_,h3,h1.size,?_,Kd.R_nil _ _ _ _ _,⟨A,c,hr.below hb⟩⟩
 ·rw [heap_alloc_old _ _ (Array.getElem?_eq_some_iff.1 h2).1]
  exact h2
 ·have:=(Array.getElem?_eq_some_iff.1 h2).1
  omega
theorem below_cell {B:Nat} (w:World) (g o:Nat) (v:Value) (h:B<=g):Below B w (w.setCell ⟨g,o,none⟩ v):=by
 have:=grown_cell w g o v
 refine ⟨rfl,rfl,rfl,this.size,fun k hk=>?_⟩
 have hne:g≠k:=by omega
 simp [World.setCell,Array.getElem?_modify,hne]
end
set_option maxHeartbeats 2000000 in
theorem take_run (g n c:Nat) (A A1:Option Addr) (j:Int) (w:World) (hg:w.heap[g]?=some (.cells #[.slice A n c] 273 (0,0))) (h0:0<=j) (h1:j<=n) (hc:n<=c) (hA:(if c=j.toNat then A else A.map (·.add (j.toNat*1)))=A1) (n2 c2 n1:Nat) (hn2:n - j.toNat=n2) (hc2:c - j.toNat=c2) (hn1:j.toNat=n1) :
  Calls Tryz.prog 186 #[.pointer (some ⟨g,0,none⟩),.int .i64 j] w fun e w'=>e=.returned (.slice A n1 c)/\w'=w.setCell ⟨g,0,none⟩ (.slice A1 n2 c2):=by
 have hcell:w.cell? ⟨g,0,none⟩=some (.slice A n c):=by simp [World.cell?,hg]
 have hfr:w.frozen? ⟨g,0,none⟩=false:=by simp [World.frozen?,hg]
 obtain ⟨i0,hi0,_,hsz,_⟩:=info_parts info5
 have hcut:=Go.Proofs.YtmmcbncpnlknbaaGreatW.PrintWords.cut_to (P:=Tryz.prog) 36 5 .i64 Tryz.underlying36 hi0 A n c j h0 h1 hc
 have hcut2:=Go.Proofs.YtmmcbncpnlknbaaGreatW.PrintWords.cut_from (P:=Tryz.prog) 36 5 .i64 Tryz.underlying36 hi0 1 hsz A n c j h0 h1
 rw [hA,hn2,hc2] at hcut2
 rw [hn1] at hcut
 have hng:¬ (n:Int) < j:=by omega
 clear hg hA hn2 hc2 hn1
 go_enter Tryz.func186,Tryz.ntmps186
 go_wp2
 exact bodyPost_ret (results_tmp rfl _ _ _) rfl ⟨rfl,rfl⟩
theorem take_ok (g:Nat) (l:List Int) (A:Option Addr) (c:Nat) (j:Int) (w0 w:World) {S:World->Prop} (R:RdAt S w0 w g l A c) (h0:0<=j) (h1:j<=l.length) :
  Calls Tryz.prog 186 #[.pointer (some ⟨g,0,none⟩),.int .i64 j] w fun e w'=>e=.returned (.slice A (l.take j.toNat).length c)/\(l.take j.toNat).length<=c/\w.grownBy w' (some g)/\(∃ A' c',RdAt S w0 w' g (l.drop j.toNat) A' c')/\∀ W,w0.grownBy W (some g)->(Kd.int .u8).C W A (l.take j.toNat).length (l.take j.toNat):=by
 have hl1:(l.take j.toNat).length=j.toNat:=by rw [List.length_take];omega
 have hl2:l.length - j.toNat=(l.drop j.toNat).length:=by rw [List.length_drop]
 have hroom:=R.room
 refine (take_run g l.length c A _ j w R.cell h0 h1 R.room rfl _ _ _ hl2 rfl hl1.symm).mono ?_
 rintro e w' ⟨rfl,rfl⟩
 have hgr:=grown_cell w g 0 (.slice (if c=j.toNat then A else A.map (·.add (j.toNat*1))) (l.drop j.toNat).length (c - j.toNat))
 refine ⟨rfl,by omega,hgr,⟨(if c=j.toNat then A else A.map (·.add (j.toNat*1))),c - j.toNat,R.grown.trans hgr,R.ltg,?_,by omega,fun W hW=>?_,R.imp⟩,fun W hW=>?_⟩
 ·have:=(Array.getElem?_eq_some_iff.1 R.cell).1
  simp [World.setCell,Array.getElem?_modify,R.cell]
 ·exact Kd.C_drop (R.row W hW) (by omega) R.room
 ·exact Kd.C_take (m:=j.toNat) (R.row W (R.imp W hW)) (by omega)
theorem take_no (g:Nat) (l:List Int) (A:Option Addr) (c:Nat) (j:Int) (w0 w:World) {S:World->Prop} (R:RdAt S w0 w g l A c) (h1:l.length < j) :
  Calls Tryz.prog 186 #[.pointer (some ⟨g,0,none⟩),.int .i64 j] w fun e w'=>e=.panicked failed/\w'=w:=by
 obtain ⟨n,hn⟩:∃ n,l.length=n:=⟨_,rfl⟩
 have hg:=R.cell
 rw [hn] at hg h1
 clear R
 have hcell:w.cell? ⟨g,0,none⟩=some (.slice A n c):=by simp [World.cell?,hg]
 have hlt:(n:Int) < j:=h1
 go_enter Tryz.func186,Tryz.ntmps186
 go_wp2
 exact ⟨rfl,rfl,rfl⟩
set_option maxHeartbeats 4000000 in
theorem number_ok (g:Nat) (l:List Int) (A:Option Addr) (c:Nat) (m:Nat) (w0 w:World) {S:World->Prop} (R:RdAt S w0 w g l A c) (h1:m<=l.length) (hm:m<=4) (hb:∀ x ∈ l.take m,0<=x/\x<=255) :
  Calls Tryz.prog 185 #[.pointer (some ⟨g,0,none⟩),.int .i64 m] w fun e w'=>e=.returned (.int .i64 (beN (l.take m)))/\w.grownBy w' (some g)/\(∃ A' c',RdAt S w0 w' g (l.drop m) A' c'):=by
 have HR:=Aside0.mk R
 have HM:=Aside0.mk h1
 have HB:=Aside0.mk hb
 have HM4:=Aside0.mk hm
 clear R h1 hb hm
 go_enter Tryz.func185,Tryz.ntmps185
 go_wp2_with (go_at_call 186;refine (take_ok g l A c (m:Int) w0 _ HR.out (by omega) (by have:=HM.out;omega)).mono ?_;rintro e w1 ⟨rfl,hc1,hg1,hr1,hrow1⟩)
 obtain ⟨ys,hys⟩:∃ ys,l.take m=ys:=⟨_,rfl⟩
 have hm0:(m:Int).toNat=m:=by omega
 have hlen:ys.length=m:=by rw [<- hys,List.length_take];have:=HM.out;omega
 rw [hm0] at hr1 hrow1 hc1
 rw [hys] at hrow1 hc1
 have HBY:=Aside0.mk (show ∀ x ∈ ys,0<=x/\x<=255 from by rw [<- hys];exact HB.out)
 have HLY:=Aside0.mk hlen
 have HM4:=HM4
 have hmin:min m l.length=ys.length:=by rw [<- hys,List.length_take]
 rw [hmin]
 have HROW:=Aside0.mk (hrow1 w1 (HR.out.grown.trans hg1))
 have HR1:=Aside0.mk hr1
 have HG1:=Aside0.mk hg1
 have HC1:=Aside0.mk hc1
 clear hrow1 hr1 hg1 hlen hmin hc1
 go_loopg [5,12] m (fun kq v5 v12 w'=>∃ i:Nat,v5=.int .i64 (beN (ys.take i))/\v12=.int .i64 i/\Aside0 (i+kq=m)/\Aside0 (w'=w1))
 case atStart=>exact ⟨0,rfl,rfl,⟨by omega⟩,⟨rfl⟩⟩
 case round =>
  obtain ⟨i,rfl,rfl,HI,HW⟩:=hrel
  obtain ⟨rfl⟩:=HW
  by_cases hi:i < m
  ·have p:(0:Int)<=(i:Int):=by omega
   have q:(i:Int) < (ys.length:Int):=by have:=HLY.out;omega
   obtain ⟨ad,e1,hx⟩:=Kd.at_int HROW.out (i:Int) p q
   cases e1
   simp only [Int.toNat_natCast] at hx
   have hi2:i < ys.length:=by omega
   obtain ⟨N,hN⟩:∃ N,beN (ys.take i)=N:=⟨_,rfl⟩
   obtain ⟨X,hX⟩:∃ X,rd ys (i:Int)=X:=⟨_,rfl⟩
   rw [hN]
   rw [hX] at hx
   have hbX:0<=X/\X<=255:=by rw [<- hX];exact byte_at HBY.out hi2
   have hbN:0<=N/\N < 4294967296:=by rw [<- hN];exact beN_take_lt HBY.out i (by have:=HM4.out;omega)
   have hor:=or_byte N X hbN.1 hbN.2 hbX.1 hbX.2
   have hsucc:beN (ys.take (i+1))=N*256+X:=by rw [take_succ_rd hi2,beN_snoc,hN,hX]
   have HS:=Aside0.mk hsucc
   have HI2:=Aside0.mk hi2
   clear hsucc hbX hbN hX hN
   go_wp2
   go_roundg (gk - 1)
   case measure=>have:=HI.out;omega
   case rel=>exact ⟨i+1,by rw [HS.out],by have:=HI.out;have:=HM4.out;simp [wrap64];omega,⟨by have:=HI.out;omega⟩,⟨rfl⟩⟩
  ·have hi2:¬ i < ys.length:=by have:=HLY.out;omega
   have hN:beN (ys.take i)=beN ys:=by rw [List.take_of_length_le (by omega)]
   rw [hN]
   obtain ⟨N,hN2⟩:∃ N,beN ys=N:=⟨_,rfl⟩
   rw [hN2]
   have HNN:=Aside0.mk (show beN (l.take m)=N from by rw [hys,hN2])
   clear hN hN2
   go_wp2
   exact bodyPost_ret (results_tmp rfl _ _ _) rfl ⟨by rw [HNN.out];rfl,HG1.out,HR1.out⟩
theorem number_no (g:Nat) (l:List Int) (A:Option Addr) (c:Nat) (m:Nat) (w0 w:World) {S:World->Prop} (R:RdAt S w0 w g l A c) (h1:l.length < m) :
  Calls Tryz.prog 185 #[.pointer (some ⟨g,0,none⟩),.int .i64 m] w fun e w'=>e=.panicked failed/\w'=w:=by
 have HR:=Aside0.mk R
 have HM:=Aside0.mk h1
 clear R h1
 go_enter Tryz.func185,Tryz.ntmps185
 go_wp2_with (go_at_call 186;refine (take_no g l A c (m:Int) w0 _ HR.out (by have:=HM.out;omega)).mono ?_;rintro e w1 ⟨rfl,rfl⟩)
 exact ⟨rfl,rfl,rfl⟩
theorem info3h:(Tryz.prog.info? 3).map (fun i=>(i.zero,i.size,i.bytes))=some (some (.int .i64 0),1,8):=by kernel_rfl
set_option maxHeartbeats 8000000 in
theorem record_reads (g:Nat) (kd sz:Int) (t:List Int) (A:Option Addr) (c:Nat) (w0 w:World) {S:World->Prop} (R:RdAt S w0 w g (kd :: sz :: t) A c) (hb:∀ x ∈ (kd :: sz :: t:List Int),0<=x/\x<=255) (hl:t.length<=1000000)
  (h1:sz.toNat+6<=t.length) (key:ByteArray) (hkey:strOfNums (t.take sz.toNat)=key) (u:List Int) (hu:t.drop sz.toNat=u) (len:Int) (hlen:beN (u.take 4)=len) (cnt:Nat) (hcn:beN ((u.drop 4).take 2)=cnt) (body:List Int) (hbody:u.drop 6=body)
  (h2:2*cnt<=body.length) (hch:RecA.Ok kd key len (pairsN cnt body)) :
  Calls Tryz.prog 168 #[.pointer (some ⟨g,0,none⟩)] w fun e w'=>w.grownBy w' (some g)/\∃ v,e=.returned (.agg #[.int .i64 kd,.string key,.int .i64 len,v]) /\
   Kd.R (Kd.int .i64) 3 w' w.heap.size (fun _=>True) v (pairsN cnt body)/\∃ A' c',RdAt S w0 w' g (body.drop (2*cnt)) A' c':=by
 have HR:=Aside0.mk R
 have HCH:=Aside0.mk hch
 have HB:=Aside0.mk hb
 clear R hch
 have hsz:=hb sz (by simp)
 go_enter Tryz.func168,Tryz.ntmps168
 go_wp2_with fail
 have hb1:=below_alloc (Below.refl w.heap.size w) zero160
 refine (number_ok g _ A c 1 w0 _ (HR.out.below hb1) (by simp) (by omega) (fun x hx=>HB.out x (List.mem_of_mem_take hx))).mono ?_
 rintro e W2 ⟨rfl,hg2,hr2⟩
 have e1:beN (List.take 1 (kd :: sz :: t))=kd:=by simp [beN]
 rw [e1]
 simp only [List.drop_succ_cons,List.drop_zero] at hr2
 have hz2:W2.heap[w.heap.size]?=some zero160:=by
  have h5:=HR.out.ltg
  have h6:=HR.out.grown.size
  rw [hg2.block w.heap.size (by simp) (by simp;omega)]
  exact heap_alloc_new _ _
 have T3:=fun kd=>Rec.made (b2:=w.heap.size) HR.out.grown.size ((grown_below hb1 _).trans hg2) hz2 (Nat.le_refl _) hr2 kd
 obtain ⟨b2,hb2⟩:∃ b2,w.heap.size=b2:=⟨_,rfl⟩
 rw [hb2] at T3 ⊢
 have HT3:=Aside0.mk (T3 kd)
 have HB2:=Aside0.mk hb2
 clear T3 hz2 hr2 hg2 hb1 hb2 e1
 go_wp2_with fail
 obtain ⟨b3,hb3⟩:∃ b3,W2.heap.size=b3:=⟨_,rfl⟩
 obtain ⟨W3,hW3⟩:∃ W3,(W2.alloc (.cells #[.int .i64 kd,.string ⟨#[]⟩,.int .i64 0,.slice none 0 0] 160))=W3:=⟨_,rfl⟩
 have hT3:=HT3.out
 rw [hW3,hb3] at hT3
 rw [hW3,hb3]
 clear HT3 hW3 hb3
 obtain ⟨A3,c3,hr3⟩:=hT3.rd
 refine (number_ok g _ A3 c3 1 w0 _ hr3 (by simp) (by omega) (fun x hx=>HB.out x (List.mem_cons_of_mem _ (List.mem_of_mem_take hx)))).mono ?_
 rintro e W4 ⟨rfl,hg4,hr4⟩
 have e1:beN (List.take 1 (sz :: t))=sz:=by simp [beN]
 rw [e1]
 simp only [List.drop_succ_cons,List.drop_zero] at hr4
 have T4:=hT3.read hg4 hr4
 clear hT3 hr3 hg4 hr4 e1
 have HT4:=Aside0.mk T4
 clear T4
 go_wp2_with fail
 obtain ⟨A4,c4,hr4⟩:=HT4.out.rd
 refine (take_ok g _ A4 c4 sz w0 _ hr4 (by omega) (by omega)).mono ?_
 rintro e W5 ⟨rfl,hc5,hg5,hr5,hrow5⟩
 have T5:=HT4.out.read hg5 hr5
 clear HT4
 have hcv:=Kd.C_string (P:=Tryz.prog) (src:=36) (dst:=9) (e:=5) (c:=c4) Tryz.underlying36 (by kernel_rfl) Tryz.underlying9 (hrow5 W5 (hr4.grown.trans hg5))
 clear hrow5 hr5 hr4 hg5 hc5
 have hcl:=T5.cells.2.1
 have hfr:=T5.free 1
 have HT5:=Aside0.mk T5
 clear T5
 have HCV:=Aside0.mk hcv
 obtain ⟨n5,hn5⟩:∃ n5,(List.take sz.toNat t).length=n5:=⟨_,rfl⟩
 rw [hn5] at hcv ⊢
 go_wp2_with fail
 have T5s:=HT5.out.store 1 (.string (strOfNums (t.take sz.toNat))) (strOfNums (t.take sz.toNat)) 0 (.slice none 0 0) rfl [] (Kd.R_nil _ _ _ _ _)
 have hul:u.length+sz.toNat=t.length:=by rw [<- hu,List.length_drop];omega
 have HBU:=Aside0.mk (show ∀ x ∈ u,0<=x/\x<=255 from fun x hx=>HB.out x (by rw [<- hu] at hx;exact List.mem_cons_of_mem _ (List.mem_cons_of_mem _ (List.mem_of_mem_drop hx))))
 have hch:=HCH.out
 clear HCH HT5 hcv HCV hcl hfr
 rw [hkey] at T5s
 rw [hu] at T5s
 obtain ⟨W6,hW6⟩:∃ W6,W5.setCell ⟨b3,1,none⟩ (.string key)=W6:=⟨_,rfl⟩
 rw [hW6] at T5s ⊢
 obtain ⟨A6,c6,hr6⟩:=T5s.rd
 clear hW6
 refine (number_ok g u A6 c6 4 w0 _ hr6 (by omega) (by omega) (fun x hx=>HBU.out x (List.mem_of_mem_take hx))).mono ?_
 rintro e W7 ⟨rfl,hg7,hr7⟩
 have T7:=T5s.read hg7 hr7
 clear T5s hr6 hg7 hr7
 try rw [hlen]
 have HCH:=Aside0.mk hch
 have hcl:=T7.cells.2.2.1
 have hfr:=T7.free 2
 have HT7:=Aside0.mk T7
 clear T7 hch
 go_wp2_with fail
 have T8:=HT7.out.store 2 (.int .i64 len) key len (.slice none 0 0) rfl [] (Kd.R_nil _ _ _ _ _)
 obtain ⟨W8,hW8⟩:∃ W8,W7.setCell ⟨b3,2,none⟩ (.int .i64 len)=W8:=⟨_,rfl⟩
 rw [hW8] at T8 ⊢
 obtain ⟨A8,c8,hr8⟩:=T8.rd
 clear hW8 HT7 hcl hfr
 refine (number_ok g _ A8 c8 2 w0 _ hr8 (by rw [List.length_drop];omega) (by omega) (fun x hx=>HBU.out x (List.mem_of_mem_drop (List.mem_of_mem_take hx)))).mono ?_
 rintro e W9 ⟨rfl,hg9,hr9⟩
 have T9:=T8.read hg9 hr9
 clear T8 hr8 hg9 hr9
 have hdd:(u.drop 4).drop 2=u.drop 6:=by rw [List.drop_drop]
 rw [hdd] at T9
 have HBB:=Aside0.mk (show ∀ x ∈ body,0<=x/\x<=255 from fun x hx=>HBU.out x (by rw [<- hbody] at hx;exact List.mem_of_mem_drop hx))
 have hch:=HCH.out
 clear HCH
 rw [hbody] at T9
 try rw [hcn]
 have HCH:=Aside0.mk hch
 have HT9:=Aside0.mk T9
 have H2:=Aside0.mk h2
 have HBL:=Aside0.mk (show body.length<=1000000 from by rw [<- hbody,List.length_drop];omega)
 clear hch T9 h2 hdd hcn hlen hkey hu hul hbody h1 hsz hn5
 go_wp2_with fail
 go_loopg [20] cnt (fun kq v20 w'=>∃ (i:Nat) (v:Value),v20=.int .i64 i/\Aside0 (i+kq=cnt)/\Aside0 (Rec S w0 w w' g b2 b3 kd key len v (pairsN i body) (body.drop (2*i))))
 case atStart=>exact ⟨0,_,rfl,⟨by omega⟩,⟨by simpa [pairsN] using HT9.out⟩⟩
 case round =>
  obtain ⟨i,v,rfl,HI,HT⟩:=hrel
  by_cases hi:i < cnt
  ·have hx:=HT.out.cells.2.2.2
   have hfz:=HT.out.free 3
   have hi2:(i:Int) < (cnt:Int):=by omega
   have HI2:=Aside0.mk hi
   clear hi
   go_wp2_with fail
   have TD:=HT.out.below (below_drew1 (Below.refl _ _))
   clear HT
   have HT:=Aside0.mk TD
   clear TD
   obtain ⟨A1,c1,hr1⟩:=HT.out.rd
   have hlb:2<=(body.drop (2*i)).length:=by rw [List.length_drop];have:=H2.out;have:=HI2.out;omega
   have HLB:=Aside0.mk hlb
   have HR1:=Aside0.mk hr1
   obtain ⟨X,hX⟩:∃ X,beN ((body.drop (2*i)).take 2)=X:=⟨_,rfl⟩
   have HX:=Aside0.mk hX
   clear hlb hr1 hX
   have HXX:=Aside0.mk hx
   go_region_law (first
    | (go_simp;go_at_call 185;refine (number_ok g _ A1 c1 2 w0 _ HR1.out HLB.out (by omega) (fun x hx=>HBB.out x (List.mem_of_mem_drop (List.mem_of_mem_take hx)))).mono ?_;rintro e W10 ⟨rfl,hg10,hr10⟩;rw [HX.out];have T10:=HT.out.read hg10 hr10;clear hg10 hr10 hx;have HT10:=Aside0.mk T10;have hx10:=T10.cells.2.2.2;have hx11:∀ o,(W10.alloc o).cell? ⟨b3,3,none⟩=some v:=fun o=>(T10.below (below_alloc (Below.refl _ _) o)).cells.2.2.2;clear T10)
    | (refine Kd.R_append_step (Kd.int .i64) (w0:=W10) w.heap.size (by rfl) (.tmp 23) (.tmp 26) 98 3 (.int .i64 0) 8 rfl Tryz.underlying98 info3h rfl (by decide) (by omega) v (pairsN i body) X [.int .i64 X] (fun _=>True) (fun _=>False) rfl rfl rfl (fun _ h=>h.elim) (fun _ _=>trivial) ?aO (Below.refl _ _) ?aS ?aL ?_;(case aO=>exact HT10.out.own);(case aS=>exact HT10.out.grown.size);(case aL=>rw [pairsN_length];have:=H2.out;have:=HBL.out;have:=HI2.out;omega);intro v12 W12 ho12 hb12 hg12 hat12;obtain ⟨A12,c12,rfl⟩:=Kd.R_slice ho12;have T12:=HT10.out.over hg12 _ _ ho12;have hc12:W12.cell? ⟨b3,3,none⟩=some v:=(World.cell?_of_block (a:=⟨b3,3,none⟩) T12.1).trans HT10.out.cells.2.2.2;have hf12:W12.frozen? ⟨b3,3,none⟩=false:=(World.frozen?_of_block (a:=⟨b3,3,none⟩) T12.1).trans (HT10.out.free 3);have HT12:=Aside0.mk T12.2;clear T12 ho12 hb12 hg12 hat12))
   all_goals
    go_wp2_with fail
    go_roundg (gk - 1)
    case measure=>have:=HI.out;omega
    case rel =>
     have hi1:=HI.out
     have hi3:=HI2.out
     have h9:=HT12.out
     have e12:(pairsN i body ++ [X]).length=(pairsN i body).length+1:=by simp
     rw [e12,<- HX.out,<- pairsN_succ,List.drop_drop,show 2*i+2=2*(i+1) from by omega] at h9
     exact ⟨i+1,.slice A12 ((pairsN i body).length+1) c12,by have:=HBL.out;have:=H2.out;simp [wrap64];omega,⟨by omega⟩,⟨h9⟩⟩
  ·have hi9:i=cnt:=by have:=HI.out;omega
   subst hi9
   have hx:=HT.out.cells
   obtain ⟨A9,c9,rfl⟩:=Kd.R_slice HT.out.own
   have hrd:=Kd.R_reads' HT.out.own
   have HRD:=Aside0.mk hrd
   clear hrd
   obtain ⟨hx0,hx1,hx2,hx3⟩:=hx
   have HN:=Aside0.mk HI.out
   clear HI
   obtain ⟨n9,hn9⟩:∃ n9,(pairsN i body).length=n9:=⟨_,rfl⟩
   have HN9:=Aside0.mk hn9
   rw [hn9] at hx3
   clear hi hn9
   go_wp2_with fail
   have hchk:=rcheck HCH.out (own3_C (Kd.own_of_R HT.out.own)) HRD.out.2.1
   rw [HN9.out] at hchk
   refine hchk.mono ?_
   rintro e W13 ⟨rfl,hb13⟩
   have T13:=HT.out.below hb13
   have hx:=T13.cells
   obtain ⟨hx0,hx1,hx2,hx3⟩:=hx
   rw [HN9.out] at hx3
   have hy0:W13.cell? ⟨b2,0,none⟩=some (.int .i64 0):=by simp [World.cell?,T13.res,zero160]
   have hy1:W13.cell? ⟨b2,1,none⟩=some (.string ⟨#[]⟩):=by simp [World.cell?,T13.res,zero160]
   have hy2:W13.cell? ⟨b2,2,none⟩=some (.int .i64 0):=by simp [World.cell?,T13.res,zero160]
   have hy3:W13.cell? ⟨b2,3,none⟩=some (.slice none 0 0):=by simp [World.cell?,T13.res,zero160]
   have hz:∀ j,W13.frozen? ⟨b2,j,none⟩=false:=by intro j;simp [World.frozen?,T13.res,zero160]
   have hz0:=hz 0
   have hz1:=hz 1
   have hz2:=hz 2
   have hz3:=hz 3
   have HT13:=Aside0.mk T13
   clear T13 HT hz hchk hb13
   go_wp2_with fail
   have F:=HT13.out.fin (((grown_cell W13 b2 0 (.int .i64 kd)).trans (grown_cell _ b2 1 (.string key))).trans ((grown_cell _ b2 2 (.int .i64 len)).trans (grown_cell _ b2 3 (.slice A9 n9 c9))))
   have h4:=four_cells W13 b2 (.int .i64 kd) (.string key) (.int .i64 len) (.slice A9 n9 c9) _ _ _ _ HT13.out.res
   obtain ⟨W14,hW14⟩:∃ W14,((((W13.setCell ⟨b2,0,none⟩ (.int .i64 kd)).setCell ⟨b2,1,none⟩ (.string key)).setCell ⟨b2,2,none⟩ (.int .i64 len)).setCell ⟨b2,3,none⟩ (.slice A9 n9 c9))=W14:=⟨_,rfl⟩
   rw [hW14] at F h4 ⊢
   have q0:W14.cell? ⟨b2,0,none⟩=some (.int .i64 kd):=by simp [World.cell?,h4]
   have q1:W14.cell? ⟨b2,1,none⟩=some (.string key):=by simp [World.cell?,h4]
   have q2:W14.cell? ⟨b2,2,none⟩=some (.int .i64 len):=by simp [World.cell?,h4]
   have q3:W14.cell? ⟨b2,3,none⟩=some (.slice A9 n9 c9):=by simp [World.cell?,h4]
   refine bodyPost_ret (v:=.agg #[.int .i64 kd,.string key,.int .i64 len,.slice A9 n9 c9]) ?_ rfl ⟨F.1,.slice A9 n9 c9,rfl,by have:=F.2.1;rw [HN9.out] at this;exact this,F.2.2⟩
   simp [results,Tryz.results168,go_sem,q0,q1,q2,q3]
end Go.Proofs.YtmmcbncpnlknbaaGreat.Top.Rd
