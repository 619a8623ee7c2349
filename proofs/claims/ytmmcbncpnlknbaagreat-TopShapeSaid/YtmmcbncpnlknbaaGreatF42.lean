import Derived.Test.YtmmcbncpnlknbaaGreatF41
set_option linter.unusedVariables false
set_option linter.unusedSimpArgs false
namespace Go.Proofs.YtmmcbncpnlknbaaGreat.Top
open Go Go.RowKit Go.Proofs.YtmmcbncpnlknbaaGreatW.PrintWords Go.Proofs.YtmmcbncpnlknbaaGreatW.PrintLast Go.Proofs.YtmmcbncpnlknbaaGreatW.PrintMore
set_option maxRecDepth 100000
def RwM (w:World) (ad:Addr) (L:List Mdl):Prop:=∀ j u,(L.flatMap cellM)[j]?=some u->w.cell? (ad.add j)=some u
theorem cellM_get:∀ (L:List Mdl) (j:Nat) (u:Value),(L.flatMap cellM)[j]?=some u->∃ q,L[j / 2]?=some q/\(cellM q)[j % 2]?=some u
 | [],j,u,h=>by simp at h
 | a :: L,j,u,h=>by
  rw [List.flatMap_cons] at h
  by_cases hj:j < 2
  ·rw [List.getElem?_append_left (by simpa [cellM] using hj)] at h
   exact ⟨a,by rw [Nat.div_eq_of_lt hj];rfl,by rw [Nat.mod_eq_of_lt hj];exact h⟩
  ·rw [List.getElem?_append_right (by simp [cellM];omega)] at h
   obtain ⟨q,h1,h2⟩:=cellM_get L _ u h
   refine ⟨q,?_,?_⟩
   ·rw [show j / 2=(j - (cellM a).length) / 2+1 by simp [cellM];omega,List.getElem?_cons_succ]
    exact h1
   ·rw [show j % 2=(j - (cellM a).length) % 2 by simp [cellM];omega]
    exact h2
theorem cellM_len:∀ L:List Mdl,(L.flatMap cellM).length=L.length*2
 | []=>rfl
 | a :: L=>by rw [List.flatMap_cons,List.length_append,cellM_len L,List.length_cons,Nat.succ_mul,Nat.add_comm];rfl
theorem cellM_one (L:List Mdl):∀ u ∈ L.flatMap cellM,u.oneCell'=true:=fun u hu=>by
 obtain ⟨q,_,h⟩:=List.mem_flatMap.1 hu
 simp only [cellM,List.mem_cons,List.not_mem_nil,or_false] at h
 rcases h with rfl|rfl <;> rfl
theorem step_app80 {w W:World} {ops:Array Oper} {o:Oper} {a:Act} {K:Act->World->Prop} {Q:Exit->Act->World->Prop} {E:Prop} (hgd:o.guard=none) (s x:Operand) (ho:o.op=.call { callee:=.builtin .append,args:=#[s,x],argTypes:=#[27,27] }) (L1 L2:List Mdl) {v:Value} {ad:Addr} {m c:Nat}
  (hs:a.eval s=v) (hx:a.eval x=.slice (some ad) m c) (hm:L2.length=m) (HO:W.ownsRow w.heap.size 80 2 v L1.length (L1.flatMap cellM)) (HB:Below w.heap.size w W) (hr:RwM W ad L2) (hl:L1.length+L2.length<=5000)
  (h:∀ v1 w1,w1.ownsRow w.heap.size 80 2 v1 (L1 ++ L2).length ((L1 ++ L2).flatMap cellM)->Below w.heap.size w w1->W.grownBy w1 v.ownBlock->K (a.put o.dst v1) w1) :
  if Region.wanted o (yielded ops a.tmps)=true then Oper.wp Tryz.prog o a W K Q else E:=by
 rw [if_pos (by simp [Region.wanted,hgd])]
 obtain ⟨i0,hi,hzz⟩:=Option.map_eq_some_iff.1 info80
 simp only [Prod.mk.injEq] at hzz
 obtain ⟨hz0,hz1,hz2⟩:=hzz
 obtain ⟨v1,w1,hrn,hown,hg,_⟩:=run_append_own_at (P:=Tryz.prog) W w.heap.size 27 o.type 80 i0 _ 2 40 Tryz.underlying27 hi hz0 hz1 hz2 rfl (by decide) v L1.length _ HO ad m c (L2.flatMap cellM) (by rw [<- hm,cellM_len]) hr (cellM_one L2) (by simp only [maxLen];omega) (by omega) HB.size
 unfold Oper.wp execOp
 simp only [ho,resolve,invoke,builtin,Sem.run_bind,Sem.run_pure,Result.andThen_ok,List.map_toArray,List.map_cons,List.map_nil,hs,hx,hrn]
 refine h v1 w1 ?_ (HB.grown hg HB.size (own_base HO)) hg
 rw [List.length_append,List.flatMap_append,hm]
 exact hown
section
variable {w W:World} {A:Option Addr} {c:Nat} {L:List Mdl}
theorem RwM.box {b c' m:Nat} {k:ByteArray} {B:Option Addr} (h:W.heap[b]?=some (.cells #[.string k,.slice B m c'] 80 (0,0))):RwM W ⟨b,0,none⟩ [(k,B,m,c')]:=fun j u hj=>World.news_of_block h j u hj
theorem box2 {b c' m:Nat} {k:ByteArray} {B:Option Addr} (h:W.heap[b]?=some (.cells #[.string k,.slice B m c'] 80 (0,0))):W.cell? ⟨b,0,none⟩=some (.string k)/\W.cell? ⟨b,1,none⟩=some (.slice B m c'):=by simp [World.cell?,h]
theorem lit_own {g B:Nat} (h:W.heap[g]?=some (.cells #[] 80 (0,0))) (hg:B<=g):W.ownsRow B 80 2 (.slice (some ⟨g,0,none⟩) 0 0) ([]:List Mdl).length (([]:List Mdl).flatMap cellM):=⟨rfl,.inr ⟨g,0,_,rfl,hg,h,Nat.le_refl _,Nat.zero_le _,rfl,rfl⟩⟩
theorem Md.cell {g:Nat} (h:Md w (some ⟨g,0,none⟩) c L) {i:Nat} {q:Mdl} (hq:L[i]?=some q) {j:Nat} {u:Value} (hu:(cellM q)[j]?=some u):w.cell? ⟨g,i*2+j,none⟩=some u:=by
 obtain ⟨g',e,_,h1,h2⟩:=h.row i q hq
 injection e with e
 injection e with e
 subst e
 match j,hu with
 | 0,hu=>simp [cellM] at hu;subst hu;exact h1
 | 1,hu=>simp [cellM] at hu;subst hu;exact h2
theorem Md.rwT {g:Nat} (h:Md w (some ⟨g,0,none⟩) c L) (i:Nat):RwM w ⟨g,0,none⟩ (L.take i):=fun j u hj=>by
 obtain ⟨q,h1,h2⟩:=cellM_get _ j u hj
 rw [List.getElem?_take] at h1
 split at h1
 ·have h3:=h.cell h1 h2
  rw [show j / 2*2+j % 2=j by omega] at h3
  by_cases h0:j=0
  ·subst h0;exact h3
  ·simpa [Addr.add,h0] using h3
 ·simp at h1
theorem Md.rwD {g:Nat} (h:Md w (some ⟨g,0,none⟩) c L) (i:Nat):RwM w ⟨g,i*2,none⟩ (L.drop i):=fun j u hj=>by
 obtain ⟨q,h1,h2⟩:=cellM_get _ j u hj
 rw [List.getElem?_drop] at h1
 have h3:=h.cell h1 h2
 rw [show (i+j / 2)*2+j % 2=i*2+j by omega] at h3
 by_cases h0:j=0
 ·subst h0;exact h3
 ·simpa [Addr.add,h0] using h3
theorem RwM.tail {g o:Nat} {q:Mdl} (h:RwM w ⟨g,o,none⟩ (q :: L)):RwM w ⟨g,o+2,none⟩ L:=fun j u hj=>by
 have h1:=h (j+2) u (by rw [List.flatMap_cons,List.getElem?_append_right (by simp [cellM])];simpa [cellM] using hj)
 by_cases h0:j=0
 ·subst h0;exact h1
 ·simpa [Addr.add,h0,show o+2+j=o+(j+2) by omega] using h1
theorem RwM.below {g o:Nat} (h:RwM w ⟨g,o,none⟩ L) (hg:g < w.heap.size) (hb:Below w.heap.size w W):RwM W ⟨g,o,none⟩ L:=fun j u hj=>by
 rw [<- h j u hj]
 unfold Addr.add
 split <;> exact cell_below hb hg
theorem RwM.nil (ad:Addr):RwM w ad []:=fun j u h=>by simp at h
theorem wou_of {v:Value} {n:Nat} (ho:W.ownsRow w.heap.size 80 2 v L.length (L.flatMap cellM)) (hb:Below w.heap.size w W) (hd:∀ q ∈ L,q.2.2.1<=1000) (hl:L.length<=n):WouP w W (.returned v) n:=by
 obtain ⟨A,c,rfl,_⟩:=own_slice2 ho
 exact ⟨⟨A,c,L,rfl,Md.of_own ho hd,hl⟩,hb⟩
theorem dat_mem {q:Mdl} (h:∀ q ∈ L,q.2.2.1<=1000) (hq:q.2.2.1<=1000) (i j:Nat):∀ p ∈ [] ++ L.take i ++ [q] ++ L.drop j,p.2.2.1<=1000:=fun p hp=>by
 simp only [List.nil_append,List.mem_append,List.mem_cons,List.not_mem_nil,or_false] at hp
 rcases hp with (hp|rfl)|hp
 ·exact h p (List.mem_of_mem_take hp)
 ·exact hq
 ·exact h p (List.mem_of_mem_drop hp)
theorem with1_ok {g:Nat} (h:Md w (some ⟨g,0,none⟩) c L) (hg:g < w.heap.size) (hn:L.length<=1000) (k:ByteArray) (B:Option Addr) (m c':Nat) (hm:m<=1000) :
  Calls Tryz.prog 30 #[.slice (some ⟨g,0,none⟩) L.length c,.agg #[.string k,.slice B m c']] w fun e w'=>WouP w w' e (L.length+1):=by
 obtain ⟨n,hnn⟩:∃ n,L.length=n:=⟨_,rfl⟩
 have HH:=Aside0.mk (And.intro h (And.intro hg (And.intro hn (And.intro hnn hm))))
 have H0:=Aside0.mk (And.intro (heap_alloc_new w (.cells #[.string k,.slice B m c'] 80)) (below_alloc (Below.refl w.heap.size w) (.cells #[.string k,.slice B m c'] 80)))
 rw [hnn]
 clear h hn hnn hg hm
 go_enter Tryz.func30,Tryz.ntmps30
 go_upto_block 0 with fail
 go_cut [5] from 7 to 22 (fun x5 wx=>∃ i:Nat,x5=.int .i64 i/\i<=n/\Aside0 (wx.heap[w.heap.size]?=some (.cells #[.string k,.slice B m c'] 80 (0,0))/\Below w.heap.size w wx))
 case first =>
  go_wp2
  go_loopg [5] n (fun kq x5 wr=>∃ i:Nat,x5=.int .i64 i/\i+kq=n/\Aside0 (wr.heap[w.heap.size]?=some (.cells #[.string k,.slice B m c'] 80 (0,0))/\Below w.heap.size w wr))
  case atStart=>exact ⟨0,rfl,by omega,H0⟩
  case round =>
   obtain ⟨i,rfl,hik,HX⟩:=hrel
   by_cases hin:i < n
   ·have g1:(i:Int) < (n:Int):=by omega
    have g0:(0:Int)<=(i:Int):=by omega
    have gw:wrap64 ((i:Int)+1)=(i:Int)+1:=w64 _ (by have:=HH.out.2;omega)
    have hil:i < L.length:=by have:=HH.out.2;omega
    obtain ⟨g',e9,hg,hx,hy⟩:=(HH.out.1.below HX.out.2).row i _ (List.getElem?_eq_getElem hil)
    injection e9 with e9
    injection e9 with e9
    subst e9
    generalize L[i]=q at hx hy
    obtain ⟨k1,B1,m1,c1⟩:=q
    simp only at hx hy
    have hz:wr.cell? ⟨w.heap.size,0,none⟩=some (.string k):=by simp [World.cell?,HX.out.1]
    have hc:decide ((i:Int) < (n:Int))=true:=decide_eq_true g1
    have HI:=Aside0.mk (And.intro hin hik)
    clear hil hg
    go_wp2
    go_quiet (fail)
    cases hl:Op.bytesLess k1.toList k.toList with
    | true =>
     go_wp2
     go_roundg (n - (i+1))
     case measure=>exact meas5 HI.out.1 HI.out.2
     case rel=>exact ⟨i+1,by simp [gw],meas4 HI.out.1,HX.out.1,below_step HX.out.2 (pw_below_drewN (Below.refl _ _) _)⟩
    | false =>
     go_wp2
     go_meet
     exact ⟨i,rfl,Nat.le_of_lt HI.out.1,HX.out.1,below_step HX.out.2 (pw_below_drewN (Below.refl _ _) _)⟩
   ·have g1:¬ (i:Int) < (n:Int):=by omega
    have hc:decide ((i:Int) < (n:Int))=false:=decide_eq_false g1
    have e1:i=n:=by omega
    subst e1
    go_wp2
    go_quiet (fail)
    go_wp2
    go_meet
    exact ⟨i,rfl,Nat.le_refl _,HX.out.1,below_step HX.out.2 (pw_below_drewN (Below.refl _ _) _)⟩
 case rest =>
  obtain ⟨i,rfl,hin,HX⟩:=hcut
  go_upto_region 4 with fail
  go_cut [0,6] from 23 to 25 (fun x0 x6 wx=>∃ ad cc,x0=.slice (some ⟨g,0,none⟩) n c/\x6=.slice (some ⟨g,ad,none⟩) (n - i) cc/\wx=wc/\Aside0 (RwM w ⟨g,ad,none⟩ (L.drop i)/\n - i<=cc))
  case first =>
   go_wp2
   all_goals go_meet
   ·refine ⟨_,_,by simp_all,rfl,rfl,?_,by have:=HH.out.1.cap;have:=HH.out.2.2.2.1;omega⟩
    rw [List.drop_eq_nil_of_le (by have:=HH.out.1.cap;have:=HH.out.2.2.2.1;omega)]
    exact RwM.nil _
   ·exact ⟨_,_,rfl,rfl,rfl,HH.out.1.rwD i,by have:=HH.out.1.cap;have:=HH.out.2.2.2.1;omega⟩
  case rest =>
   obtain ⟨ad,cc,rfl,rfl,rfl,HR⟩:=hcut
   refine ‹∀ (a:Act) (w:World),Code.wp _ _ _ a w->_› _ _ ?_
   have hcell:=Aside0.mk (fun o=>show wc.cell? ⟨g,o,none⟩=w.cell? ⟨g,o,none⟩ from cell_below HX.out.2 HH.out.2.1)
   apply wp_seq_k
   intro _ _
   go_cut [6] from 26 to 39 (fun x6 wx=>∃ i2 ad2 cc2,x6=.slice (some ⟨g,ad2,none⟩) (n - i2) cc2/\wx.heap=wc.heap/\i<=i2/\Aside0 (RwM w ⟨g,ad2,none⟩ (L.drop i2))/\Aside0 (Below w.heap.size w wx))
   case first =>
    by_cases hp:n - i=0
    ·have hd:decide (0 < n - i)=false:=by simp [hp]
     have hbd:=Aside0.mk (fun nq=>below_step HX.out.2 (pw_below_drewN (Below.refl wc.heap.size wc) nq))
     go_wp2
     go_quiet (fail)
     go_wp2
     go_meet
     exact ⟨i,ad,cc,rfl,rfl,Nat.le_refl _,⟨HR.out.1⟩,⟨hbd.out _⟩⟩
    ·have hd:decide (0 < n - i)=true:=by simp;omega
     have hp0:0 < n - i:=by omega
     have hp1:(0:Int) < ((n - i:Nat):Int):=by omega
     have hp2:(1:Int)<=((n - i:Nat):Int):=by omega
     have hp3:1<=n - i:=by omega
     have hp4:1<=cc:=by have:=HR.out.2;omega
     have hil:i < L.length:=by have:=HH.out.2.2.2.1;omega
     obtain ⟨q,hq⟩:∃ q,L[i]=q:=⟨_,rfl⟩
     have hdr:=List.drop_eq_getElem_cons hil
     rw [hq] at hdr
     obtain ⟨k1,B1,m1,c1⟩:=q
     have hx:wc.cell? ⟨g,ad,none⟩=some (.string k1):=(hcell.out ad).trans (HR.out.1 0 (.string k1) (by rw [hdr];rfl))
     have hz:wc.cell? ⟨w.heap.size,0,none⟩=some (.string k):=by simp [World.cell?,HX.out.1]
     have HT:=Aside0.mk (show RwM w ⟨g,ad+2,none⟩ (L.drop (i+1)) from RwM.tail (by rw [hdr] at HR;exact HR.out.1))
     have HN:=Aside0.mk (And.intro hp (And.intro hil (fun nq=>below_step HX.out.2 (pw_below_drewN (Below.refl wc.heap.size wc) nq))))
     clear hil hq hdr
     go_wp2
     go_quiet (fail)
     cases hk:(k1.toList == k.toList) with
     | false =>
      go_wp2
      go_meet
      exact ⟨i,ad,cc,rfl,rfl,Nat.le_refl _,⟨HR.out.1⟩,⟨HN.out.2.2 _⟩⟩
     | true =>
      go_wp2
      all_goals go_meet
      ·exact ⟨i+1,ad,0,rfl,rfl,Nat.le_succ _,⟨by rw [List.drop_eq_nil_of_le (by have:=HR.out.2;have:=HH.out.2.2.2.1;omega)];exact RwM.nil _⟩,⟨HN.out.2.2 _⟩⟩
      ·exact ⟨i+1,ad+2,cc - 1,rfl,rfl,Nat.le_succ _,⟨HT.out⟩,⟨HN.out.2.2 _⟩⟩
   case rest =>
    obtain ⟨i2,ad2,cc2,rfl,hw,hi2,HR2,HB2⟩:=hcut
    have hz:=(show wc.heap[w.heap.size]?=some (.cells #[.string k,.slice B m c'] 80 (0,0)) by rw [hw];exact HX.out.1)
    have hz0:wc.cell? ⟨w.heap.size,0,none⟩=some (.string k):=by simp [World.cell?,hz]
    have hz1:wc.cell? ⟨w.heap.size,1,none⟩=some (.slice B m c'):=by simp [World.cell?,hz]
    have hic:i<=c:=by have:=HH.out.1.cap;have:=HH.out.2.2.2.1;omega
    have HZ:=Aside0.mk hz
    have hzl:=blk_lt hz
    clear hw hz
    go_wp2
    have F1:=Aside0.mk (And.intro (lit_own (B:=w.heap.size) (show ((wc.alloc (.cells #[] 80)).drew).heap[wc.heap.size]?=_ from heap_alloc_new wc _) HB2.out.size) (show Below w.heap.size w (wc.alloc (.cells #[] 80)).drew from below_drew1 (below_alloc HB2.out _)))
    have F2:=Aside0.mk (And.intro (lit_own (B:=w.heap.size) (show (((wc.alloc (.cells #[] 80)).alloc (.cells #[.string k,.slice B m c'] 80)).drew).heap[wc.heap.size]?=_ from (heap_alloc_old _ _ (by simp)).trans (heap_alloc_new wc _)) HB2.out.size) (And.intro (show Below w.heap.size w ((wc.alloc (.cells #[] 80)).alloc (.cells #[.string k,.slice B m c'] 80)).drew from below_drew1 (below_alloc (below_alloc HB2.out _) _)) (show ((wc.alloc (.cells #[] 80)).alloc (.cells #[.string k,.slice B m c'] 80)).drew.heap[wc.heap.size+1]?=some (.cells #[.string k,.slice B m c'] 80 (0,0)) by have h:=heap_alloc_new (wc.alloc (.cells #[] 80)) (.cells #[.string k,.slice B m c'] 80);rw [hsz] at h;exact h)))
    have F3:=Aside0.mk (And.intro (lit_own (B:=w.heap.size) (show (((wc.alloc (.cells #[.string k,.slice B m c'] 80)).alloc (.cells #[] 80)).drew).heap[wc.heap.size+1]?=_ by have h:=heap_alloc_new (wc.alloc (.cells #[.string k,.slice B m c'] 80)) (.cells #[] 80);rw [hsz] at h;exact h) (Nat.le_trans HB2.out.size (Nat.le_succ _))) (And.intro (show Below w.heap.size w ((wc.alloc (.cells #[.string k,.slice B m c'] 80)).alloc (.cells #[] 80)).drew from below_drew1 (below_alloc (below_alloc HB2.out _) _)) (show ((wc.alloc (.cells #[.string k,.slice B m c'] 80)).alloc (.cells #[] 80)).drew.heap[wc.heap.size]?=some (.cells #[.string k,.slice B m c'] 80 (0,0)) from (heap_alloc_old _ _ (by simp)).trans (heap_alloc_new wc _))))
    have HT:=Aside0.mk (show (L.take i).length=i by rw [List.length_take];have:=HH.out.2.2.2.1;omega)
    have HD:=Aside0.mk (show (L.drop i2).length=n - i2 by rw [List.length_drop];have:=HH.out.2.2.2.1;omega)
    have HI:=Aside0.mk (show i<=1000/\n - i2<=1000/\i+(n - i2)<=n by have:=HH.out.2.2;omega)
    have HL:=Aside0.mk (show ([] ++ L.take i).length+1<=5000/\([] ++ L.take i ++ [(k,B,m,c')]).length+(L.drop i2).length<=5000 by rw [List.nil_append,List.length_append,HT.out,HD.out];have:=HI.out;simp only [List.length_cons,List.length_nil];omega)
    go_region_law (first
     | (refine step_app80 (w:=w) rfl (.tmp 40) (.tmp 43) rfl [] (L.take i) rfl rfl HT.out F1.out.1 F1.out.2 (RwM.below (HH.out.1.rwT i) HH.out.2.1 F1.out.2) (by have:=HT.out;have:=HI.out;simp;omega) ?_;intro v1 w1 ho1 hb1 hg1;obtain ⟨y0,y1⟩:=box2 (((hg1.block w.heap.size (Nat.lt_of_lt_of_le hzl (by simp)) (fun e=>Nat.ne_of_lt hzl (Option.some.inj e))).trans (heap_alloc_old _ _ hzl)).trans HZ.out);have H1:=Aside0.mk (And.intro ho1 hb1);clear ho1 hb1 hg1)
     | (refine step_app80 (w:=w) rfl (.tmp 40) (.tmp 43) rfl [] (L.take i) rfl rfl HT.out F2.out.1 F2.out.2.1 (RwM.below (HH.out.1.rwT i) HH.out.2.1 F2.out.2.1) (by have:=HT.out;have:=HI.out;simp;omega) ?_;intro v1 w1 ho1 hb1 hg1;have H1b:=Aside0.mk (And.intro ho1 (And.intro hb1 ((hg1.block (wc.heap.size+1) (by simp) (fun e=>Nat.succ_ne_self _ (Option.some.inj e))).trans F2.out.2.2)));clear ho1 hb1 hg1)
     | (refine step_app80 (w:=w) rfl (.tmp 40) (.tmp 43) rfl [] (L.take i) rfl rfl HT.out F3.out.1 F3.out.2.1 (RwM.below (HH.out.1.rwT i) HH.out.2.1 F3.out.2.1) (by have:=HT.out;have:=HI.out;simp;omega) ?_;intro v1 w1 ho1 hb1 hg1;have H1b:=Aside0.mk (And.intro ho1 (And.intro hb1 ((hg1.block wc.heap.size (by simp;omega) (fun e=>Nat.succ_ne_self _ (Option.some.inj e).symm)).trans F3.out.2.2)));clear ho1 hb1 hg1)
     | (refine step_app80 (w:=w) rfl (.tmp 44) (.tmp 46) rfl ([] ++ L.take i) [(k,B,m,c')] rfl rfl rfl (H1.out.1.alloc _) (below_alloc H1.out.2 _) (RwM.box (heap_alloc_new _ _)) HL.out.1 ?_;intro v2 w2 ho2 hb2 hg2;have H2:=Aside0.mk (And.intro ho2 hb2);clear ho2 hb2 hg2)
     | (refine step_app80 (w:=w) rfl (.tmp 44) (.tmp 46) rfl ([] ++ L.take i) [(k,B,m,c')] rfl rfl rfl H1b.out.1 H1b.out.2.1 (RwM.box H1b.out.2.2) HL.out.1 ?_;intro v2 w2 ho2 hb2 hg2;have H2:=Aside0.mk (And.intro ho2 hb2);clear ho2 hb2 hg2)
     | (refine step_app80 (w:=w) rfl (.tmp 47) (.tmp 48) rfl ([] ++ L.take i ++ [(k,B,m,c')]) (L.drop i2) rfl rfl HD.out H2.out.1 H2.out.2 (RwM.below HR2.out HH.out.2.1 H2.out.2) HL.out.2 ?_;intro v3 w3 ho3 hb3 hg3;have H3:=Aside0.mk (And.intro ho3 hb3);clear ho3 hb3 hg3))
    all_goals (
     go_wp2
     go_ret
     exact wou_of H3.out.1 H3.out.2 (dat_mem HH.out.1.dat HH.out.2.2.2.2 (q:=(k,B,m,c')) i i2) (by have:=HT.out;have:=HD.out;have:=HI.out;simp only [List.nil_append,List.length_append,List.length_cons,List.length_nil];omega))
theorem step_app0 {ops:Array Oper} {o:Oper} {a:Act} {K:Act->World->Prop} {Q:Exit->Act->World->Prop} {E:Prop} (hgd:o.guard=none) (s x:Operand) (ho:o.op=.call { callee:=.builtin .append,args:=#[s,x],argTypes:=#[27,27] }) (L1:List Mdl) {v:Value}
  (hs:a.eval s=v) (hx:a.eval x=.slice none 0 0) (HO:W.ownsRow w.heap.size 80 2 v L1.length (L1.flatMap cellM)) (h:K (a.put o.dst v) W) :
  if Region.wanted o (yielded ops a.tmps)=true then Oper.wp Tryz.prog o a W K Q else E:=by
 rw [if_pos (by simp [Region.wanted,hgd])]
 obtain ⟨i0,hi,hzz⟩:=Option.map_eq_some_iff.1 info80
 simp only [Prod.mk.injEq] at hzz
 obtain ⟨hz0,hz1,hz2⟩:=hzz
 have hrn:=run_append_owned_none (P:=Tryz.prog) (w:=W) w.heap.size 27 o.type 80 i0 2 Tryz.underlying27 hi v _ _ HO
 unfold Oper.wp execOp
 simp only [ho,resolve,invoke,builtin,Sem.run_bind,Sem.run_pure,Result.andThen_ok,List.map_toArray,List.map_cons,List.map_nil,hs,hx,hrn]
 exact h
theorem with0_ok (k:ByteArray) (B:Option Addr) (m c':Nat) (hm:m<=1000) :
  Calls Tryz.prog 30 #[.slice none 0 0,.agg #[.string k,.slice B m c']] w fun e w'=>WouP w w' e 1:=by
 have H0:=Aside0.mk (And.intro (heap_alloc_new w (.cells #[.string k,.slice B m c'] 80)) (below_alloc (Below.refl w.heap.size w) (.cells #[.string k,.slice B m c'] 80)))
 have HM:=Aside0.mk hm
 clear hm
 go_enter Tryz.func30,Tryz.ntmps30
 go_wp2
 go_loopg [5] 0 (fun kq x5 wr=>x5=.int .i64 (0:Nat)/\kq=0/\Aside0 (wr.heap[w.heap.size]?=some (.cells #[.string k,.slice B m c'] 80 (0,0))/\Below w.heap.size w wr))
 case atStart=>exact ⟨rfl,rfl,H0⟩
 case round =>
  obtain ⟨rfl,hik,HX⟩:=hrel
  go_wp2
  go_quiet (fail)
  have HX1:=Aside0.mk (And.intro (show (wr.drewN nq).heap[w.heap.size]?=_ from HX.out.1) (below_step HX.out.2 (pw_below_drewN (Below.refl wr.heap.size wr) nq)))
  clear HX
  generalize wr.drewN nq=wa at *
  go_wp2
  go_quiet (fail)
  have hz:=(show (wa.drewN nq).heap[w.heap.size]?=_ from HX1.out.1)
  have HB2:=Aside0.mk (below_step HX1.out.2 (pw_below_drewN (Below.refl wa.heap.size wa) nq))
  clear HX1
  generalize wa.drewN nq=wc at *
  have hz0:wc.cell? ⟨w.heap.size,0,none⟩=some (.string k):=by simp [World.cell?,hz]
  have hz1:wc.cell? ⟨w.heap.size,1,none⟩=some (.slice B m c'):=by simp [World.cell?,hz]
  have F1:=Aside0.mk (And.intro (lit_own (B:=w.heap.size) (show ((wc.alloc (.cells #[] 80)).drew).heap[wc.heap.size]?=_ from heap_alloc_new wc _) HB2.out.size) (show Below w.heap.size w (wc.alloc (.cells #[] 80)).drew from below_drew1 (below_alloc HB2.out _)))
  have F2:=Aside0.mk (And.intro (lit_own (B:=w.heap.size) (show (((wc.alloc (.cells #[] 80)).alloc (.cells #[.string k,.slice B m c'] 80)).drew).heap[wc.heap.size]?=_ from (heap_alloc_old _ _ (by simp)).trans (heap_alloc_new wc _)) HB2.out.size) (And.intro (show Below w.heap.size w ((wc.alloc (.cells #[] 80)).alloc (.cells #[.string k,.slice B m c'] 80)).drew from below_drew1 (below_alloc (below_alloc HB2.out _) _)) (show ((wc.alloc (.cells #[] 80)).alloc (.cells #[.string k,.slice B m c'] 80)).drew.heap[wc.heap.size+1]?=some (.cells #[.string k,.slice B m c'] 80 (0,0)) by have h:=heap_alloc_new (wc.alloc (.cells #[] 80)) (.cells #[.string k,.slice B m c'] 80);rw [hsz] at h;exact h)))
  have F3:=Aside0.mk (And.intro (lit_own (B:=w.heap.size) (show (((wc.alloc (.cells #[.string k,.slice B m c'] 80)).alloc (.cells #[] 80)).drew).heap[wc.heap.size+1]?=_ by have h:=heap_alloc_new (wc.alloc (.cells #[.string k,.slice B m c'] 80)) (.cells #[] 80);rw [hsz] at h;exact h) (Nat.le_trans HB2.out.size (Nat.le_succ _))) (And.intro (show Below w.heap.size w ((wc.alloc (.cells #[.string k,.slice B m c'] 80)).alloc (.cells #[] 80)).drew from below_drew1 (below_alloc (below_alloc HB2.out _) _)) (show ((wc.alloc (.cells #[.string k,.slice B m c'] 80)).alloc (.cells #[] 80)).drew.heap[wc.heap.size]?=some (.cells #[.string k,.slice B m c'] 80 (0,0)) from (heap_alloc_old _ _ (by simp)).trans (heap_alloc_new wc _))))
  obtain ⟨y0,y1⟩:=box2 (show (wc.alloc (.cells #[] 80)).heap[w.heap.size]?=_ from (heap_alloc_old _ _ (blk_lt hz)).trans hz)
  clear hz
  go_wp2
  go_region_law (first
   | (refine step_app0 (w:=w) rfl (.tmp 40) (.tmp 43) rfl [] rfl rfl F1.out.1 ?_)
   | (refine step_app0 (w:=w) rfl (.tmp 40) (.tmp 43) rfl [] rfl rfl F2.out.1 ?_)
   | (refine step_app0 (w:=w) rfl (.tmp 40) (.tmp 43) rfl [] rfl rfl F3.out.1 ?_)
   | (refine step_app80 (w:=w) rfl (.tmp 44) (.tmp 46) rfl [] [(k,B,m,c')] rfl rfl rfl F2.out.1 F2.out.2.1 (RwM.box F2.out.2.2) (by simp) ?_;intro v2 w2 ho2 hb2 hg2;have H2:=Aside0.mk (And.intro ho2 hb2);clear ho2 hb2 hg2)
   | (refine step_app80 (w:=w) rfl (.tmp 44) (.tmp 46) rfl [] [(k,B,m,c')] rfl rfl rfl F3.out.1 F3.out.2.1 (RwM.box F3.out.2.2) (by simp) ?_;intro v2 w2 ho2 hb2 hg2;have H2:=Aside0.mk (And.intro ho2 hb2);clear ho2 hb2 hg2)
   | (refine step_app0 (w:=w) rfl (.tmp 47) (.tmp 48) rfl ([] ++ [(k,B,m,c')]) rfl rfl H2.out.1 ?_))
  all_goals (
   go_wp2
   go_ret
   exact wou_of H2.out.1 H2.out.2 (by intro q hq;simp at hq;subst hq;exact HM.out) (by simp))
theorem with_ok (h:Md w A c L) (hn:L.length<=1000) (k:ByteArray) (B:Option Addr) (m c':Nat) (hm:m<=1000) :
  Calls Tryz.prog 30 #[.slice A L.length c,.agg #[.string k,.slice B m c']] w fun e w'=>WouP w w' e (L.length+1):=by
 rcases h.sh with ⟨rfl,rfl,rfl⟩|⟨g,cs,rfl,hg⟩
 ·exact with0_ok k B m c' hm
 ·exact with1_ok h (blk_lt hg) hn k B m c' hm
end
section
variable {w W:World} {A:Option Addr} {c:Nat} {L:List Mdl}
def ShP (w w':World) (e:Ending) (n:Nat):Prop:=(∃ x A c L,e=.returned (.tuple #[.int .i64 x,.slice A (List.length L) c])/\Md w' A c L/\L.length<=n)/\Below w.heap.size w w'
theorem sh_of {n:Nat} {x:Int} (h:Md w A c L) (hn:L.length=n) (hb:Below w.heap.size w W):ShP w W (.returned (.tuple #[.int .i64 x,.slice A n c])) (n+1):=by
 subst hn
 exact ⟨⟨x,A,c,L,rfl,h.below hb,Nat.le_succ _⟩,hb⟩
theorem sh_w {n:Nat} {x:Int} (h:Md W A c L) (hn:L.length<=n) (hb:Below w.heap.size w W):ShP w W (.returned (.tuple #[.int .i64 x,.slice A L.length c])) n:=⟨⟨x,A,c,L,rfl,h,hn⟩,hb⟩
theorem box54 {b:Nat} {kd:Int} {k:ByteArray} {B:Option Addr} {m c':Nat} (h:W.heap[b]?=some (.cells (calC kd k B m c') 54 (0,0))):W.cell? ⟨b,0,none⟩=some (.int .i64 kd)/\W.cell? ⟨b,1,none⟩=some (.string k)/\W.cell? ⟨b,2,none⟩=some (.slice B m c'):=by
 unfold calC at h
 simp [World.cell?,h]
abbrev Gx (w W:World) (K M Z T Lx O kd:Int) (k:ByteArray) (B:Option Addr) (m c':Nat):Prop:=W.cell? ⟨w.heap.size,0,none⟩=some (.int .i64 K)/\W.cell? ⟨w.heap.size,1,none⟩=some (.int .i64 M)/\W.cell? ⟨w.heap.size,2,none⟩=some (.int .i64 Z)/\W.cell? ⟨w.heap.size,3,none⟩=some (.int .i64 T)/\W.cell? ⟨w.heap.size,4,none⟩=some (.int .i64 Lx)/\W.cell? ⟨w.heap.size,5,none⟩=some (.int .i64 O)/\W.cell? ⟨w.heap.size+1,0,none⟩=some (.int .i64 kd)/\W.cell? ⟨w.heap.size+1,1,none⟩=some (.string k)/\W.cell? ⟨w.heap.size+1,2,none⟩=some (.slice B m c')
theorem gx_of {K M Z T Lx O kd:Int} {k:ByteArray} {B:Option Addr} {m c':Nat} (hg:Gb w W w.heap.size K M Z T Lx O) (h:W.heap[w.heap.size+1]?=some (.cells (calC kd k B m c') 54 (0,0))):Gx w W K M Z T Lx O kd k B m c' :=
 ⟨hg.all.1,hg.all.2.1,hg.all.2.2.1,hg.all.2.2.2.1,hg.all.2.2.2.2.1,hg.all.2.2.2.2.2.1,(box54 h).1,(box54 h).2.1,(box54 h).2.2⟩
theorem should_ok {K M Z:Nat} {T Lx O:Int} (hgo:LayA.Good K M Z T Lx O) (h:Md w A c L) (hn:L.length<=500) (kd:Int) (k:ByteArray) (B:Option Addr) (m c':Nat) (hm:m<=1000) :
  Calls Tryz.prog 15 #[geoV K M Z T Lx O,.slice A L.length c,.agg (calC kd k B m c')] w fun e w'=>ShP w w' e (L.length+1):=by
 have H0:=Aside0.mk (show Gb w ((w.alloc (.cells (geoC K M Z T Lx O) 23)).alloc (.cells (calC kd k B m c') 54)) w.heap.size K M Z T Lx O from ⟨(heap_alloc_old _ _ (by simp)).trans (heap_alloc_new w _),below_alloc (below_alloc (Below.refl _ _) _) _⟩)
 have HX0:=Aside0.mk (show ((w.alloc (.cells (geoC K M Z T Lx O) 23)).alloc (.cells (calC kd k B m c') 54)).heap[w.heap.size+1]?=some (.cells (calC kd k B m c') 54 (0,0)) by have h:=heap_alloc_new (w.alloc (.cells (geoC K M Z T Lx O) 23)) (.cells (calC kd k B m c') 54);rw [hsz] at h;exact h)
 have HF:=Aside0.mk (fun W (hb:Below w.heap.size w W)=>find_ok (h.below hb) (by omega) k)
 have HU:=Aside0.mk (fun W (hb:Below w.heap.size w W)=>used_ok hgo (h.below hb) (by omega))
 have HN:=Aside0.mk (fun W=>needs_ok hgo m (by omega) W)
 have HW:=Aside0.mk (fun W (hb:Below w.heap.size w W)=>with_ok (h.below hb) (by omega) k B m c' hm)
 have HO:=Aside0.mk (fun W (hb:Below w.heap.size w W)=>without_ok (h.below hb) (by omega) k)
 have HH:=Aside0.mk (And.intro h (And.intro hn hm))
 obtain ⟨n,hnn⟩:∃ n,L.length=n:=⟨_,rfl⟩
 rw [hnn] at HF HU HW HO HH ⊢
 have HNn:=Aside0.mk hnn
 obtain ⟨d,hd⟩:∃ d,needN (K*Z) m=d:=⟨_,rfl⟩
 have HD:=Aside0.mk (show d<=1000 by rw [<- hd];exact need_le hm)
 rw [hd] at HN
 unfold geoV at HN HU ⊢
 unfold calC at HX0 H0 ⊢
 unfold geoC at HX0 H0
 clear h hn hm hgo hnn hd
 go_enter Tryz.func15,Tryz.ntmps15
 by_cases h5:kd=5
 ·subst h5
  go_wp2
  go_ret2
  exact sh_of HH.out.1 HNn.out H0.out.2
 ·go_upto_region 9 with (first|(go_at_call 27;go_loud (refine (HF.out _ H0.out.2).mono ?_;rintro e1 w1 ⟨⟨B1,m1,c1,b1,rfl⟩,hb1⟩;have H1:=Aside0.mk (And.intro (H0.out.step hb1) ((hb1.block _ (blk_lt HX0.out)).trans HX0.out));obtain ⟨q0,q1,q2⟩:=box54 H1.out.2;obtain ⟨s0,s1,s2,s3,s4,s5,_⟩:=H1.out.1.all;clear hb1))|(go_at_call 31;go_loud (refine (HO.out _ H1.out.1.2).mono ?_;rintro e2 w2 hp2;obtain ⟨⟨A2,c2,L2,rfl,hm2,hl2⟩,hb2⟩:=hp2;have H2:=Aside0.mk (And.intro hm2 (And.intro hl2 (below_step H1.out.1.2 hb2)));clear hm2 hl2 hb2)))
  all_goals first|(go_ret2;first|exact sh_of HH.out.1 HNn.out H1.out.1.2|exact sh_of HH.out.1 HNn.out H0.out.2|exact sh_w H2.out.1 (Nat.le_succ_of_le H2.out.2.1) H2.out.2.2)|skip
  all_goals (
   have G1:=Aside0.mk (And.intro (H1.out.1.step (below_drew1 (Below.refl _ _))) (show w1.drew.heap[w.heap.size+1]?=_ from H1.out.2))
   go_region_held3 (fun W=>W.cell? ⟨w.heap.size,0,none⟩=some (.int .i64 K)/\W.cell? ⟨w.heap.size,1,none⟩=some (.int .i64 M)/\W.cell? ⟨w.heap.size,2,none⟩=some (.int .i64 Z)/\W.cell? ⟨w.heap.size,3,none⟩=some (.int .i64 T)/\W.cell? ⟨w.heap.size,4,none⟩=some (.int .i64 Lx)/\W.cell? ⟨w.heap.size,5,none⟩=some (.int .i64 O)/\W.cell? ⟨w.heap.size+1,0,none⟩=some (.int .i64 kd)/\W.cell? ⟨w.heap.size+1,1,none⟩=some (.string k)/\W.cell? ⟨w.heap.size+1,2,none⟩=some (.slice B m c')) (first|exact gx_of GD.out.1 GD.out.2|exact gx_of GA.out.1 GA.out.2|exact gx_of GB.out.1 GB.out.2|exact gx_of G1.out.1 G1.out.2) (first
    | (go_at_call 28;refine (HU.out _ GB.out.1.2).mono ?_;rintro e3 w3 hp3;obtain ⟨⟨r3,rfl,hr3⟩,hb3⟩:=hp3;have GD:=Aside0.mk (And.intro (GB.out.1.step hb3) ((hb3.block _ (blk_lt GB.out.2)).trans GB.out.2));clear hb3 hr3)
    | (go_at_call 28;refine (HU.out _ G1.out.1.2).mono ?_;rintro e3 w3 hp3;obtain ⟨⟨r3,rfl,hr3⟩,hb3⟩:=hp3;have GA:=Aside0.mk (And.intro (G1.out.1.step hb3) ((hb3.block _ (blk_lt G1.out.2)).trans G1.out.2));clear hb3 hr3)
    | (go_at_call 29;refine (HN.out _).mono ?_;rintro e4 w4 ⟨rfl,hb4⟩;have GD:=Aside0.mk (And.intro (GA.out.1.step hb4) ((hb4.block _ (blk_lt GA.out.2)).trans GA.out.2));clear hb4)
    | (go_at_call 29;refine (HN.out _).mono ?_;rintro e4 w4 ⟨rfl,hb4⟩;have GB:=Aside0.mk (And.intro (G1.out.1.step hb4) ((hb4.block _ (blk_lt G1.out.2)).trans G1.out.2));clear hb4))
   all_goals (
    obtain ⟨q0,q1,q2⟩:=box54 GD.out.2
    obtain ⟨s0,s1,s2,s3,s4,s5,_⟩:=GD.out.1.all
    go_wp2_with (first|(go_at_call 30;go_loud (refine (HW.out _ GD.out.1.2).mono ?_;rintro e5 w5 hp5;obtain ⟨⟨A5,c5,L5,rfl,hm5,hl5⟩,hb5⟩:=hp5;have H5:=Aside0.mk (And.intro hm5 (And.intro hl5 (below_step GD.out.1.2 hb5)));clear hm5 hl5 hb5)))
    all_goals (go_ret2;first|exact sh_w H5.out.1 H5.out.2.1 H5.out.2.2|exact sh_of HH.out.1 HNn.out GD.out.1.2)))
end
section
variable {w W:World}
def smaC (k:ByteArray) (B:Option Addr) (m c':Nat) (Kp:Option Addr) (nk ck:Nat):Array Value:=#[.int .i64 0,.string k,.slice B m c',.slice Kp nk ck,.int .i64 0,.int .i64 0,.int .i64 0,.int .i64 0,.int .u8 0,.slice none 0 0,.slice none 0 0]
def SmP (w w':World) (e:Ending) (m:Nat):Prop:=(∃ b,e=.returned (.bool b)/\(b=true->m<=100))/\Below w.heap.size w w'
def KpR (w:World) (Kp:Option Addr) (nk:Nat):Prop:=∀ j,j < nk->∃ ad A n c,Kp=some ad/\w.cell? (ad.add j)=some (.slice A n c)
theorem msmall_ok (k:ByteArray) (B:Option Addr) (m c':Nat) (Kp:Option Addr) (nk ck:Nat) (hk:∀ W,Below w.heap.size w W->KpR W Kp nk) :
  Calls Tryz.prog 26 #[.agg (smaC k B m c' Kp nk ck)] w fun e w'=>SmP w w' e m:=by
 have HK:=Aside0.mk hk
 have H0:=Aside0.mk (And.intro (heap_alloc_new w (.cells (smaC k B m c' Kp nk ck) 54)) (below_alloc (Below.refl w.heap.size w) (.cells (smaC k B m c' Kp nk ck) 54)))
 unfold smaC at H0 ⊢
 clear hk
 go_enter Tryz.func26,Tryz.ntmps26
 by_cases hm:m<=100
 ·have g1:¬ (100:Int) < (m:Int):=by omega
  by_cases hkk:k.size<=100
  ·have g2:¬ (100:Int) < (k.size:Int):=by omega
   by_cases hn:nk<=10
   ·have g3:¬ (10:Int) < (nk:Int):=by omega
    go_wp2
    go_loopg [3] nk (fun kq x3 wr=>∃ i:Nat,x3=.int .i64 i/\i+kq=nk/\Aside0 (wr.heap[w.heap.size]?=some (.cells (smaC k B m c' Kp nk ck) 54 (0,0))/\Below w.heap.size w wr))
    case atStart=>exact ⟨0,rfl,by omega,H0⟩
    case round =>
     obtain ⟨i,rfl,hik,HX⟩:=hrel
     have hy:wr.cell? ⟨w.heap.size,3,none⟩=some (.slice Kp nk ck):=by simp [World.cell?,HX.out.1,smaC]
     by_cases hin:i < nk
     ·have f1:(i:Int) < (nk:Int):=by omega
      have f0:(0:Int)<=(i:Int):=by omega
      have gw:wrap64 ((i:Int)+1)=(i:Int)+1:=w64 _ (by omega)
      obtain ⟨ad,A5,n5,c5,rfl,hx⟩:=HK.out _ HX.out.2 i hin
      have HI:=Aside0.mk (And.intro hin hik)
      go_wp2
      ·go_ret
       exact ⟨⟨_,rfl,fun h=>by cases h⟩,HX.out.2⟩
      ·go_roundg (nk - (i+1))
       case measure=>exact meas5 HI.out.1 HI.out.2
       case rel=>exact ⟨i+1,by simp [gw],meas4 HI.out.1,HX⟩
     ·have f1:¬ (i:Int) < (nk:Int):=by omega
      go_wp2
      go_ret
      exact ⟨⟨_,rfl,fun _=>hm⟩,HX.out.2⟩
   ·have g3:(10:Int) < (nk:Int):=by omega
    go_wp2
    go_ret
    exact ⟨⟨_,rfl,fun h=>by cases h⟩,H0.out.2⟩
  ·have g2:(100:Int) < (k.size:Int):=by omega
   go_wp2
   go_ret
   exact ⟨⟨_,rfl,fun h=>by cases h⟩,H0.out.2⟩
 ·have g1:(100:Int) < (m:Int):=by omega
  go_wp2
  go_ret
  exact ⟨⟨_,rfl,fun h=>by cases h⟩,H0.out.2⟩
end
end Go.Proofs.YtmmcbncpnlknbaaGreat.Top
