import Derived.Test.YtmmcbncpnlknbaaGreatF13
set_option linter.unusedVariables false
set_option linter.unusedSimpArgs false
namespace Go.Proofs.YtmmcbncpnlknbaaGreat.PAll
open Go.RowKit Go.Proofs.YtmmcbncpnlknbaaGreatW.PrintWords Go.Proofs.YtmmcbncpnlknbaaGreatW.PrintLast Go.Proofs.YtmmcbncpnlknbaaGreatW.PrintMore
def slices_Reverse_byte_byte.l0:Nat->List Int->Int->Int->Option (List Int)
 | 0,_,_,_=>none
 | k+1,x0,x2,x3=>if x2 < x3 then (if 0<=x3 then (if x3 < (x0.length:Int) then (if 0<=x2 then (if x2 < (x0.length:Int) then (slices_Reverse_byte_byte.l0 k ((x0.set (x2:Int).toNat (rd x0 x3)).set (x3:Int).toNat (rd x0 x2)) (wrap64 (x2+1)) (wrap64 (x3 - 1))) else (none)) else (none)) else (none)) else (none)) else (some x0)
def slices_Reverse_byte_byte.f (k:Nat) (l0:List Int):Option (List Int):=slices_Reverse_byte_byte.l0 k l0 0 (wrap64 ((l0.length:Int) - 1))
theorem slices_Reverse_byte_byte.mono_l:∀ k,(∀ y0 y1 y2,LeO (slices_Reverse_byte_byte.l0 k y0 y1 y2) (slices_Reverse_byte_byte.l0 (k+1) y0 y1 y2))
 | 0=>fun _ _ _ r h=>by simp [slices_Reverse_byte_byte.l0] at h
 | k+1=>by
  have ih0:=slices_Reverse_byte_byte.mono_l k
  ·intro y0 y1 y2
   unfold slices_Reverse_byte_byte.l0
   repeat' first
   | (with_reducible exact ih0 _ _ _)
   | (with_reducible exact LeO.refl _)
   | (with_reducible exact LeO.none _)
   | (with_reducible refine LeO.ite ?_ ?_)
   | (with_reducible refine LeO.bind ?_ (fun _=>?_))
   | exact ih0 _ _ _
   | exact LeO.none _
   | refine LeO.ite ?_ ?_
   | refine LeO.bind ?_ (fun _=>?_)
theorem slices_Reverse_byte_byte.mono:∀ a0 k,LeO (slices_Reverse_byte_byte.f k a0) (slices_Reverse_byte_byte.f (k+1) a0):=by
 intro a0 k
 have ih0:=slices_Reverse_byte_byte.mono_l k
 unfold slices_Reverse_byte_byte.f
 repeat' first
   | (with_reducible exact ih0 _ _ _)
   | (with_reducible exact LeO.refl _)
   | (with_reducible exact LeO.none _)
   | (with_reducible refine LeO.ite ?_ ?_)
   | (with_reducible refine LeO.bind ?_ (fun _=>?_))
   | exact ih0 _ _ _
   | exact LeO.none _
   | refine LeO.ite ?_ ?_
   | refine LeO.bind ?_ (fun _=>?_)
def slices_Reverse_byte_byte.T3:Bool×List (List Nat×List Nat):=(true,[([],[]),([],[]),([],[]),([],[]),([],[]),([],[]),([4,5],[4,5]),([6],[6]),([],[]),([],[]),([8,9],[8,9]),([10],[10]),([0,1,0,1,4,5,6,7,11],[0,1]),([12,7,0,1,4,5,6,7,11],[7,12]),([2,3,0,1,2,3,4,5,6,7,8,9,10,11,12,13],[2,3]),([14,11,13,0,1,2,3,4,5,6,7,8,9,10,11,12,13],[11,14])])
def slices_Reverse_byte_byte.B3:List Nat:=[0,0,0,0,0,0,48,112,0,0,768,1792,4083,8179,16383,32767]
theorem slices_Reverse_byte_byte.tab3:rtab .any (opsOf Tryz.f215 3)=slices_Reverse_byte_byte.T3:=by kernel_rfl
theorem slices_Reverse_byte_byte.bits3:waitsOk slices_Reverse_byte_byte.T3.2 slices_Reverse_byte_byte.B3=true:=by kernel_rfl
set_option maxHeartbeats 8000000 in
set_option maxRecDepth 100000 in
theorem slices_Reverse_byte_byte.calls (k:Nat) (P0_:Nat->Prop) (u9000_:Value) (l0:List Int) (r:List Int) (w0 w:World) (hB:Below w0.heap.size w0 w) (ho0:Kd.R (Kd.int .u8) 5 w w0.heap.size P0_ u9000_ l0) (h:slices_Reverse_byte_byte.f k l0=some r) :
  Calls Tryz.prog 215 #[u9000_] w fun e w'=>e=.returned (.tuple #[])/\Kd.R (Kd.int .u8) 5 w' w0.heap.size (fun k_=>(P0_ k_∨w.heap.size<=k_)) u9000_ r/\Below w0.heap.size w0 w'/\Kept w w' (fun k_=>P0_ k_):=by
 have HO0:=Aside0.mk (show Kd.R (Kd.int .u8) 5 w w0.heap.size (fun k_=>(P0_ k_∨w.heap.size<=k_)) u9000_ l0 from Kd.R_mono ho0 (fun k_ hk=>(.inl hk)))
 have HK:=Aside0.mk (Kept.refl w (fun k_=>P0_ k_))
 have HW0:=Aside0.mk hB.size
 have HB:=Aside0.mk hB
 clear hB
 have H:(slices_Reverse_byte_byte.l0 k l0 0 (wrap64 ((l0.length:Int) - 1)))=some r:=h
 clear h
 have H':=Aside0.mk H
 clear H
 obtain ⟨Ao2,co2,eo2⟩:=Kd.R_slice HO0.out
 subst eo2
 go_enter Tryz.func215,Tryz.ntmps215
 go_wp2
 go_loopg [2,3] k (fun kq v2 v3 w'=>∃ (x0_1:List Int) (x2_1:Int) (x3_1:Int),v2=.int .i64 x2_1/\v3=.int .i64 x3_1/\Aside0 (slices_Reverse_byte_byte.l0 kq x0_1 x2_1 x3_1=some r)/\Aside0 (kq<=k)/\Aside0 (Kd.R (Kd.int .u8) 5 w' w0.heap.size (fun k_=>(P0_ k_∨w.heap.size<=k_)) (.slice Ao2 l0.length co2) x0_1)/\Aside0 (Kept w w' (fun k_=>P0_ k_))/\Aside0 (Below w0.heap.size w0 w'))
 case atStart=>exact ⟨(l0),(0),(wrap64 ((l0.length:Int) - 1)),(by first|rfl|(simp;done)|(simp [*];done)),(by first|rfl|(simp;done)|(simp [*];done)),H',⟨Nat.le_refl _⟩,⟨by (with_reducible repeat (first|apply Kd.R_alloc|apply Kd.R_drewN|apply Kd.R_drew));exact HO0.out⟩,⟨by repeat (first|(with_reducible first|exact HK.out|apply Kept.alloc|apply Kept.drewN|apply Kept.drew)|exact HK.out)⟩,⟨by repeat (first|(with_reducible first|exact HB.out|apply below_alloc|apply pw_below_drewN|apply below_drew1)|exact HB.out)⟩⟩
 case round =>
  clear H'
  try clear c2
  try clear p2
  obtain ⟨x0_1,x2_1,x3_1,rfl,rfl,HA,HK1,HO_0,HK,HB⟩:=hrel
  have hl0_1:=(Kd.R_reads' HO_0.out).1
  rw [hl0_1] at HO_0
  (try simp only [hl0_1])
  cases gk with
  | zero=>exact absurd HA.out (by simp [slices_Reverse_byte_byte.l0])
  | succ k1 =>
   have H:=HA.out
   clear HA
   simp only [slices_Reverse_byte_byte.l0] at H
   by_cases c3:x2_1 < x3_1
   ·rw [if_pos c3] at H
    have c3b0:decide (x2_1 < x3_1)=true:=decide_eq_true c3
    clear c3
    by_cases c4:0<=x3_1
    ·rw [if_pos c4] at H
     have c4b0:decide (0<=x3_1)=true:=decide_eq_true c4
     clear c4
     by_cases c5:x3_1 < (x0_1.length:Int)
     ·rw [if_pos c5] at H
      have c5b0:decide (x3_1 < (x0_1.length:Int))=true:=decide_eq_true c5
      clear c5
      by_cases c6:0<=x2_1
      ·rw [if_pos c6] at H
       have c6b0:decide (0<=x2_1)=true:=decide_eq_true c6
       clear c6
       by_cases c7:x2_1 < (x0_1.length:Int)
       ·rw [if_pos c7] at H
        have c7b0:decide (x2_1 < (x0_1.length:Int))=true:=decide_eq_true c7
        clear c7
        obtain ⟨y249,hy249⟩:∃ y_:List Int,y_=(x0_1.set (x2_1:Int).toNat (rd x0_1 x3_1)):=⟨_,rfl⟩
        replace H:(slices_Reverse_byte_byte.l0 k1 (y249.set (x3_1:Int).toNat (rd x0_1 x2_1)) (wrap64 (x2_1+1)) (wrap64 (x3_1 - 1)))=some r:=by first|(rw [hy249];with_reducible exact H)|(have H2_:=(Option.bind_some _ _).symm.trans H;rw [hy249];with_reducible exact H2_)|(have H2_:=(Option.bind_some _ _).symm.trans H;with_reducible exact H2_)|with_reducible exact H|(rw [hy249];exact H)|exact H
        have Ny249:=Aside0.mk hy249
        clear hy249
        obtain ⟨y250,hy250⟩:∃ y_:List Int,y_=(y249.set (x3_1:Int).toNat (rd x0_1 x2_1)):=⟨_,rfl⟩
        replace H:(slices_Reverse_byte_byte.l0 k1 y250 (wrap64 (x2_1+1)) (wrap64 (x3_1 - 1)))=some r:=by first|(rw [hy250];with_reducible exact H)|(have H2_:=(Option.bind_some _ _).symm.trans H;rw [hy250];with_reducible exact H2_)|(have H2_:=(Option.bind_some _ _).symm.trans H;with_reducible exact H2_)|with_reducible exact H|(rw [hy250];exact H)|exact H
        have Ny250:=Aside0.mk hy250
        clear hy250
        have H':=Aside0.mk H
        clear H
        try go_wp2
        have n0_:=Aside0.mk (Kd.R_drew HO_0.out)
        have n1_:=Aside0.mk (Kept.drew HK.out)
        have n2_:=Aside0.mk (below_drew1 HB.out)
        clear HO_0
        clear HK
        clear HB
        have HO_0:=n0_
        have HK:=n1_
        have HB:=n2_
        clear n0_ n1_ n2_
        have p247:0<=(x3_1:Int):=of_decide_eq_true (by first|(with_reducible assumption)|assumption)
        have q247:x3_1 < (x0_1.length:Int):=of_decide_eq_true (by first|(with_reducible assumption)|assumption)
        obtain ⟨ad247,e247,hx247_0⟩:=Kd.at_int (Kd.R_reads' HO_0.out).2.2 x3_1 p247 q247
        cases e247
        replace p247:=eq_true p247
        replace q247:=eq_true q247
        have p248:0<=(x2_1:Int):=of_decide_eq_true (by first|(with_reducible assumption)|assumption)
        have q248:x2_1 < (x0_1.length:Int):=of_decide_eq_true (by first|(with_reducible assumption)|assumption)
        obtain ⟨ad248,e248,hx248_0⟩:=Kd.at_int (Kd.R_reads' HO_0.out).2.2 x2_1 p248 q248
        obtain rfl:ad247=ad248:=(by injection e248)
        replace p248:=eq_true p248
        replace q248:=eq_true q248
        have p8:0<=(x2_1:Int):=of_decide_eq_true (by first|(with_reducible assumption)|assumption)
        have q8:(x2_1:Int) < ((x0_1.length:Int):Int):=of_decide_eq_true (by first|(with_reducible assumption)|assumption)
        obtain ⟨go8,co8,eo8,gb8,gl8,cl8,HG8⟩:=Kd.R_form HO_0.out (by omega)
        (first|cases eo8|(injection eo8 with ea_ en_ ec_;(first|subst ea_|(injection ea_ with ea_;subst ea_));subst ec_;clear en_))
        have GB8:=Aside0.mk gb8
        have GG8:=Aside0.mk HG8
        clear gb8 gl8 HG8
        have HMgo8:=Aside0.mk (show (P0_ go8∨w.heap.size<=go8) from (HO_0.out.1 _ rfl))
        (first|simp only [add_plain] at hx247_0|skip)
        (first|simp only [add_plain] at hx248_0|skip)
        obtain ⟨hx8_0,hf8_0⟩:=Kd.R_celln 0 HO_0.out (x2_1:Int) p8 q8
        replace p8:=eq_true p8
        replace q8:=eq_true q8
        have HP11:=Kd.R_putn HO_0.out (x2_1:Int) (rd x0_1 x3_1)
        rw [<- Ny249.out] at HP11
        have HQ11:=Aside0.mk HP11
        clear HP11
        have p9:0<=(x3_1:Int):=of_decide_eq_true (by first|(with_reducible assumption)|assumption)
        have q9:(x3_1:Int) < ((x0_1.length:Int):Int):=of_decide_eq_true (by first|(with_reducible assumption)|assumption)
        obtain ⟨hx9_0,hf9_0⟩:=Kd.R_celln 0 HQ11.out (x3_1:Int) p9 q9
        replace p9:=eq_true p9
        replace q9:=eq_true q9
        have HP12:=Kd.R_putn HQ11.out (x3_1:Int) (rd x0_1 x2_1)
        rw [<- Ny250.out] at HP12
        have HQ12:=Aside0.mk HP12
        clear HP12
        refine start_ (n:=16) (S:=fun w'=>w'.cell? ⟨go8,(x3_1).toNat,none⟩=some (.int .u8 (rd x0_1 x3_1))/\w'.cell? ⟨go8,(x2_1).toNat,none⟩=some (.int .u8 (rd x0_1 x2_1))) (ds:=[13,15]) #[false,false,false,false,false,false,false,false,false,false,false,false,false,false,false,false] (by kernel_rfl) rfl rfl ⟨hx247_0,hx248_0⟩ (fun hHeld=>?_);refine with_tabW slices_Reverse_byte_byte.tab3 slices_Reverse_byte_byte.bits3 (fun HT_ HW_=>?_)
        generalize wr.drew=w10 at HO_0 HK HB GG8 HQ11 HQ12 hf8_0 hf9_0 hx247_0 hx248_0 hx8_0 hx9_0 hHeld ⊢
        refine pure_ (i:=0) (N:=some 14) (v:=?_) (a':=?_) #[true,false,false,false,false,false,false,false,false,false,false,false,false,false,false,false] rfl rfl (any_of HT_.out (by kernel_rfl)) (fun _ _ _ h=>h) (Or.inl ⟨by rfl,?_⟩) ?_ ?_
        rotate_left
        ·intro w'
         go_simp
         with_reducible rfl
        rotate_left
        ·simp only [Act.put,List.setIfInBounds_toArray,List.set_cons_zero,List.set_cons_succ,i64_w,i32_w]
         rfl
        refine pure_ (i:=1) (N:=some 15) (v:=?_) (a':=?_) #[true,true,false,false,false,false,false,false,false,false,false,false,false,false,false,false] rfl rfl (any_of HT_.out (by kernel_rfl)) (fun _ _ _ h=>h) (Or.inl ⟨by rfl,?_⟩) ?_ ?_
        rotate_left
        ·intro w'
         go_simp
         with_reducible rfl
        rotate_left
        ·simp only [Act.put,List.setIfInBounds_toArray,List.set_cons_zero,List.set_cons_succ,i64_w,i32_w]
         rfl
        refine pure_ (i:=2) (N:=some 16) (v:=?_) (a':=?_) #[true,true,true,false,false,false,false,false,false,false,false,false,false,false,false,false] rfl rfl (any_of HT_.out (by kernel_rfl)) (fun _ _ _ h=>h) (Or.inl ⟨by rfl,?_⟩) ?_ ?_
        rotate_left
        ·intro w'
         go_simp
         with_reducible rfl
        rotate_left
        ·simp only [Act.put,List.setIfInBounds_toArray,List.set_cons_zero,List.set_cons_succ,i64_w,i32_w]
         rfl
        refine pure_ (i:=3) (N:=some 17) (v:=?_) (a':=?_) #[true,true,true,true,false,false,false,false,false,false,false,false,false,false,false,false] rfl rfl (any_of HT_.out (by kernel_rfl)) (fun _ _ _ h=>h) (Or.inl ⟨by rfl,?_⟩) ?_ ?_
        rotate_left
        ·intro w'
         go_simp
         with_reducible rfl
        rotate_left
        ·simp only [Act.put,List.setIfInBounds_toArray,List.set_cons_zero,List.set_cons_succ,i64_w,i32_w]
         rfl
        refine pure_ (i:=4) (N:=some 18) (v:=?_) (a':=?_) #[true,true,true,true,true,false,false,false,false,false,false,false,false,false,false,false] rfl rfl (any_of HT_.out (by kernel_rfl)) (fun _ _ _ h=>h) (Or.inl ⟨by rfl,?_⟩) ?_ ?_
        rotate_left
        ·intro w'
         go_simp
         with_reducible rfl
        rotate_left
        ·simp only [Act.put,List.setIfInBounds_toArray,List.set_cons_zero,List.set_cons_succ,i64_w,i32_w]
         rfl
        refine pure_ (i:=5) (N:=some 19) (v:=?_) (a':=?_) #[true,true,true,true,true,true,false,false,false,false,false,false,false,false,false,false] rfl rfl (any_of HT_.out (by kernel_rfl)) (fun _ _ _ h=>h) (Or.inl ⟨by rfl,?_⟩) ?_ ?_
        rotate_left
        ·intro w'
         go_simp
         with_reducible rfl
        rotate_left
        ·simp only [Act.put,List.setIfInBounds_toArray,List.set_cons_zero,List.set_cons_succ,i64_w,i32_w]
         rfl
        refine pure_ (i:=6) (N:=some 20) (v:=?_) (a':=?_) #[true,true,true,true,true,true,true,false,false,false,false,false,false,false,false,false] rfl rfl (any_of HT_.out (by kernel_rfl)) (fun _ _ _ h=>h) (Or.inl ⟨by rfl,?_⟩) ?_ ?_
        rotate_left
        ·intro w'
         go_simp
         with_reducible rfl
        rotate_left
        ·simp only [Act.put,List.setIfInBounds_toArray,List.set_cons_zero,List.set_cons_succ,i64_w,i32_w]
         rfl
        refine pure_ (i:=8) (N:=some 22) (v:=?_) (a':=?_) #[true,true,true,true,true,true,true,false,true,false,false,false,false,false,false,false] rfl rfl (any_of HT_.out (by kernel_rfl)) (fun _ _ _ h=>h) (Or.inl ⟨by rfl,?_⟩) ?_ ?_
        rotate_left
        ·intro w'
         go_simp
         with_reducible rfl
        rotate_left
        ·simp only [Act.put,List.setIfInBounds_toArray,List.set_cons_zero,List.set_cons_succ,i64_w,i32_w]
         rfl
        refine pure_ (i:=9) (N:=some 23) (v:=?_) (a':=?_) #[true,true,true,true,true,true,true,false,true,true,false,false,false,false,false,false] rfl rfl (any_of HT_.out (by kernel_rfl)) (fun _ _ _ h=>h) (Or.inl ⟨by rfl,?_⟩) ?_ ?_
        rotate_left
        ·intro w'
         go_simp
         with_reducible rfl
        rotate_left
        ·simp only [Act.put,List.setIfInBounds_toArray,List.set_cons_zero,List.set_cons_succ,i64_w,i32_w]
         rfl
        refine pure_ (i:=10) (N:=some 24) (v:=?_) (a':=?_) #[true,true,true,true,true,true,true,false,true,true,true,false,false,false,false,false] rfl rfl (any_of HT_.out (by kernel_rfl)) (fun _ _ _ h=>h) (Or.inl ⟨by rfl,?_⟩) ?_ ?_
        rotate_left
        ·intro w'
         go_simp
         with_reducible rfl
        rotate_left
        ·simp only [Act.put,List.setIfInBounds_toArray,List.set_cons_zero,List.set_cons_succ,i64_w,i32_w]
         rfl
        refine take_ (i:=7) (N:=some 21) (v:=?_) (a':=?_) #[true,true,true,true,true,true,true,true,true,true,true,false,false,false,false,false] rfl rfl (take_ofW HT_.out HW_.out (by kernel_rfl)) (fun _ _ _ h=>h) (Or.inl ⟨by rfl,?_⟩) hHeld ?_ ?_
        rotate_left
        ·rintro w' ⟨s0,s1⟩
         go_simp
         with_reducible rfl
        rotate_left
        ·simp only [Act.put,List.setIfInBounds_toArray,List.set_cons_zero,List.set_cons_succ,i64_w,i32_w]
         rfl
        refine take_ (i:=11) (N:=some 25) (v:=?_) (a':=?_) #[true,true,true,true,true,true,true,true,true,true,true,true,false,false,false,false] rfl rfl (take_ofW HT_.out HW_.out (by kernel_rfl)) (fun _ _ _ h=>h) (Or.inl ⟨by rfl,?_⟩) hHeld ?_ ?_
        rotate_left
        ·rintro w' ⟨s0,s1⟩
         go_simp
         with_reducible rfl
        rotate_left
        ·simp only [Act.put,List.setIfInBounds_toArray,List.set_cons_zero,List.set_cons_succ,i64_w,i32_w]
         rfl
        refine pure_ (i:=12) (N:=some 26) (v:=?_) (a':=?_) #[true,true,true,true,true,true,true,true,true,true,true,true,true,false,false,false] rfl rfl (any_of HT_.out (by kernel_rfl)) (fun _ _ _ h=>h) (Or.inl ⟨by rfl,?_⟩) ?_ ?_
        rotate_left
        ·intro w'
         go_simp
         with_reducible rfl
        rotate_left
        ·simp only [Act.put,List.setIfInBounds_toArray,List.set_cons_zero,List.set_cons_succ,i64_w,i32_w]
         rfl
        refine last_ (i:=13) (N:=none) #[true,true,true,true,true,true,true,true,true,true,true,true,true,true,false,false] rfl rfl (one_of HT_.out (by kernel_rfl)) (by decide) (fun K hK=>?_)
        refine skip_ (w1:=?_) (by rfl) rfl ?_ ?_
        rotate_left
        ·go_simp
         rfl
        refine hK.out _ _ ?_
        clear hK K
        refine pure_ (i:=14) (N:=some 27) (v:=?_) (a':=?_) #[true,true,true,true,true,true,true,true,true,true,true,true,true,true,true,false] rfl rfl (any_of HT_.out (by kernel_rfl)) (fun _ _ _ h=>h) (Or.inl ⟨by rfl,?_⟩) ?_ ?_
        rotate_left
        ·intro w'
         go_simp
         with_reducible rfl
        rotate_left
        ·simp only [Act.put,List.setIfInBounds_toArray,List.set_cons_zero,List.set_cons_succ,i64_w,i32_w]
         rfl
        refine last_ (i:=15) (N:=none) #[true,true,true,true,true,true,true,true,true,true,true,true,true,true,true,true] rfl rfl (one_of HT_.out (by kernel_rfl)) (by decide) (fun K hK=>?_)
        refine skip_ (w1:=?_) (by rfl) rfl ?_ ?_
        rotate_left
        ·go_simp
         rfl
        refine hK.out _ _ ?_
        clear hK K
        refine done_ (done_of HT_.out (by kernel_rfl)) ?_
        try go_wp2
        (try simp only [<- hl0_1])
        go_roundg k1
        case measure=>have:=HK1.out;omega
        case rel=>exact ⟨(y250),(wrap64 (x2_1+1)),(wrap64 (x3_1 - 1)),(by first|rfl|(simp;done)|(simp [*];done)),(by first|rfl|(simp;done)|(simp [*];done)),H',⟨by have:=HK1.out;omega⟩,⟨by (try simp only [hl0_1]);(with_reducible repeat (first|apply Kd.R_alloc|apply Kd.R_drewN|apply Kd.R_drew));exact HQ12.out⟩,⟨by repeat (first|(with_reducible first|exact HK.out|apply Kept.alloc|apply Kept.drewN|apply Kept.drew|refine Kept.setCell ?_ HMgo8.out _|refine Kept.setCell ?_ HMgo8.out _)|exact HK.out)⟩,⟨by repeat (first|(with_reducible first|exact HB.out|apply below_alloc|apply pw_below_drewN|apply below_drew1|refine below_set ?_ GB8.out|refine below_set ?_ GB8.out)|exact HB.out)⟩⟩
       ·rw [if_neg c7] at H
        exact absurd H (by simp)
      ·rw [if_neg c6] at H
       exact absurd H (by simp)
     ·rw [if_neg c5] at H
      exact absurd H (by simp)
    ·rw [if_neg c4] at H
     exact absurd H (by simp)
   ·rw [if_neg c3] at H
    have c3b0:decide (x2_1 < x3_1)=false:=decide_eq_false c3
    clear c3
    obtain rfl:=Option.some.inj H
    go_wp2
    first|go_end0|((try simp only [Exit.inBlock,Exit.then]);refine bodyPost_ret (results_none rfl _ _ _) rfl ?_)
    exact ⟨by first|rfl|(simp [errW_none,errW_some] <;> rfl)|(simp [*,errW_none,errW_some] <;> rfl),(by first|exact (by (with_reducible repeat (first|apply Kd.R_alloc|apply Kd.R_drewN|apply Kd.R_drew));exact HO_0.out)|(simp only [hl0_1];exact (by (with_reducible repeat (first|apply Kd.R_alloc|apply Kd.R_drewN|apply Kd.R_drew));exact HO_0.out))),by repeat (first|(with_reducible first|exact HB.out|apply below_alloc|apply pw_below_drewN|apply below_drew1)|exact HB.out),by repeat (first|(with_reducible first|exact HK.out|apply Kept.alloc|apply Kept.drewN|apply Kept.drew)|exact HK.out)⟩
def poly_Deriv.l0:Nat->List Int->List Int->Int->Option (List Int)
 | 0,_,_,_=>none
 | k+1,x0,x3,x4=>if x4 < (x0.length:Int) then (if 0<=x4 then (if 0<=(wrap64 (x4 - 1)) then (if (wrap64 (x4 - 1)) < (x3.length:Int) then (poly_Deriv.l0 k x0 (x3.set ((wrap64 (x4 - 1)):Int).toNat (rd x0 x4)) (wrap64 (x4+2))) else (none)) else (none)) else (none)) else ((poly_Norm.f k x3).bind fun t262=>(some t262))
def poly_Deriv.f (k:Nat) (l0:List Int):Option (List Int):=if 0<=(l0.length:Int) then (if ((l0.length:Int):Int).toNat<=281474976710656 then (poly_Deriv.l0 k l0 (List.replicate ((l0.length:Int):Int).toNat 0) 1) else (none)) else (none)
theorem poly_Deriv.mono_l:∀ k,(∀ y0 y1 y2,LeO (poly_Deriv.l0 k y0 y1 y2) (poly_Deriv.l0 (k+1) y0 y1 y2))
 | 0=>fun _ _ _ r h=>by simp [poly_Deriv.l0] at h
 | k+1=>by
  have ih0:=poly_Deriv.mono_l k
  ·intro y0 y1 y2
   unfold poly_Deriv.l0
   repeat' first
   | (with_reducible exact ih0 _ _ _)
   | (with_reducible exact poly_Norm.mono _ _)
   | (with_reducible exact LeO.refl _)
   | (with_reducible exact LeO.none _)
   | (with_reducible refine LeO.ite ?_ ?_)
   | (with_reducible refine LeO.bind ?_ (fun _=>?_))
   | exact ih0 _ _ _
   | exact poly_Norm.mono _ _
   | exact LeO.none _
   | refine LeO.ite ?_ ?_
   | refine LeO.bind ?_ (fun _=>?_)
theorem poly_Deriv.mono:∀ a0 k,LeO (poly_Deriv.f k a0) (poly_Deriv.f (k+1) a0):=by
 intro a0 k
 have ih0:=poly_Deriv.mono_l k
 unfold poly_Deriv.f
 repeat' first
   | (with_reducible exact ih0 _ _ _)
   | (with_reducible exact poly_Norm.mono _ _)
   | (with_reducible exact LeO.refl _)
   | (with_reducible exact LeO.none _)
   | (with_reducible refine LeO.ite ?_ ?_)
   | (with_reducible refine LeO.bind ?_ (fun _=>?_))
   | exact ih0 _ _ _
   | exact poly_Norm.mono _ _
   | exact LeO.none _
   | refine LeO.ite ?_ ?_
   | refine LeO.bind ?_ (fun _=>?_)
set_option maxHeartbeats 8000000 in
set_option maxRecDepth 100000 in
theorem poly_Deriv.calls (k:Nat) (A0:Option Addr) (c0:Nat) (l0:List Int) (r:List Int) (w:World) (hr0:Kd.C (Kd.int .u8) w A0 l0.length l0) (hc0:l0.length<=c0) (h:poly_Deriv.f k l0=some r) :
  Calls Tryz.prog 195 #[.slice A0 l0.length c0] w fun e w'=>∃ v0_:Value,e=.returned (v0_)/\Kd.R (Kd.int .u8) 5 w' w.heap.size (fun _=>True) v0_ r/\Below w.heap.size w w':=by
 have HR0:=Aside0.mk hr0
 have HC0:=Aside0.mk hc0
 clear hr0 hc0
 have HB:=Aside0.mk (Below.refl w.heap.size w)
 have H:(if 0<=(l0.length:Int) then (if ((l0.length:Int):Int).toNat<=281474976710656 then (poly_Deriv.l0 k l0 (List.replicate ((l0.length:Int):Int).toNat 0) 1) else (none)) else (none))=some r:=h
 clear h
 by_cases c2:0<=(l0.length:Int)
 ·rw [if_pos c2] at H
  have c2b0:=eq_true c2
  have c2b1:decide (0<=(l0.length:Int))=true:=decide_eq_true c2
  clear c2
  by_cases c3:((l0.length:Int):Int).toNat<=281474976710656
  ·rw [if_pos c3] at H
   have c3b0:=eq_true c3
   have c3b1:decide (((l0.length:Int):Int).toNat<=281474976710656)=true:=decide_eq_true c3
   clear c3
   obtain ⟨y257,hy257⟩:∃ y_:List Int,y_=(List.replicate ((l0.length:Int):Int).toNat 0):=⟨_,rfl⟩
   replace H:(poly_Deriv.l0 k l0 y257 1)=some r:=by first|(rw [hy257];with_reducible exact H)|(have H2_:=(Option.bind_some _ _).symm.trans H;rw [hy257];with_reducible exact H2_)|(have H2_:=(Option.bind_some _ _).symm.trans H;with_reducible exact H2_)|with_reducible exact H|(rw [hy257];exact H)|exact H
   have Ny257:=Aside0.mk hy257
   clear hy257
   have H':=Aside0.mk H
   clear H
   go_enter Tryz.func195,Tryz.ntmps195
   go_wp2_with (first|((with_reducible refine gate_dst (N:=7) rfl ?_);refine Kd.R_make (Kd.int .u8) _ 5 rfl (N:=7) rfl 36 _ _ rfl (l0.length:Int) rfl rfl Tryz.underlying36 (.int .u8 0) 1 info5 rfl (by decide) (by omega) 0 (ok:=fun _=>True) (okp:=fun _=>True) rfl (fun _ hk=>hk) trivial (of_decide_eq_true (by first|(with_reducible assumption)|assumption)) (Nat.le_trans (Nat.mul_le_mul_right _ (of_decide_eq_true (by first|(with_reducible assumption)|assumption):(l0.length:Int).toNat<=281474976710656)) (by omega)) (Below.refl _ _) (Nat.le_refl _) ?_;intro v258 w4 ho5 hb hg_ hnew_;clear hg_ hnew_;(first|rw [<- Ny257.out] at ho5|(simp only [Int.reduceToNat] at ho5;rw [<- Ny257.out] at ho5));have n0_:=Aside0.mk (Kd.R_lower ho5 (below_size (by repeat (first|(with_reducible first|exact HB.out|apply below_alloc|apply pw_below_drewN|apply below_drew1)|exact HB.out))));have n1_:=Aside0.mk (below_step (by repeat (first|(with_reducible first|exact HB.out|apply below_alloc|apply pw_below_drewN|apply below_drew1)|exact HB.out)) hb);clear HB;have HO259:=n0_;have HB:=n1_;clear n0_ n1_;clear hb ho5))
   go_loopg [4] k (fun kq v4 w'=>∃ (x3_1:List Int) (x4_1:Int),v4=.int .i64 x4_1/\Aside0 (poly_Deriv.l0 kq l0 x3_1 x4_1=some r)/\Aside0 (kq<=k)/\Aside0 (Kd.R (Kd.int .u8) 5 w' w.heap.size (fun _=>True) v258 x3_1)/\Aside0 (Below w.heap.size w w'))
   case atStart=>exact ⟨(y257),(1),(by first|rfl|(simp;done)|(simp [*];done)),H',⟨Nat.le_refl _⟩,⟨by (with_reducible repeat (first|apply Kd.R_alloc|apply Kd.R_drewN|apply Kd.R_drew));exact HO259.out⟩,⟨by repeat (first|(with_reducible first|exact HB.out|apply below_alloc|apply pw_below_drewN|apply below_drew1)|exact HB.out)⟩⟩
   case round =>
    clear H'
    try clear c1
    try clear c2
    try clear p2
    try clear c3
    obtain ⟨x3_1,x4_1,rfl,HA,HK1,HO_3,HB⟩:=hrel
    cases gk with
    | zero=>exact absurd HA.out (by simp [poly_Deriv.l0])
    | succ k1 =>
     have H:=HA.out
     clear HA
     simp only [poly_Deriv.l0] at H
     by_cases c6:x4_1 < (l0.length:Int)
     ·rw [if_pos c6] at H
      have c6b0:decide (x4_1 < (l0.length:Int))=true:=decide_eq_true c6
      clear c6
      by_cases c7:0<=x4_1
      ·rw [if_pos c7] at H
       have c7b0:decide (0<=x4_1)=true:=decide_eq_true c7
       clear c7
       obtain ⟨ji8,hji8⟩:∃ j_:Int,(wrap64 (x4_1 - 1))=j_:=⟨_,rfl⟩
       replace H:(if 0<=(ji8) then (if (ji8) < (x3_1.length:Int) then (poly_Deriv.l0 k1 l0 (x3_1.set ((ji8):Int).toNat (rd l0 x4_1)) (wrap64 (x4_1+2))) else (none)) else (none))=some r:=by first|(rw [hji8] at H;exact H)|(simp only [hji8] at H ⊢;exact H)
       have hji8w:(IntKind.i64.wrap (x4_1 - 1))=ji8:=(i64_w _).trans hji8
       by_cases c9:0<=(ji8)
       ·rw [if_pos c9] at H
        have c9b0:decide (0<=(ji8))=true:=decide_eq_true c9
        clear c9
        by_cases c10:(ji8) < (x3_1.length:Int)
        ·rw [if_pos c10] at H
         have c10b0:decide ((ji8) < (x3_1.length:Int))=true:=decide_eq_true c10
         clear c10
         obtain ⟨y261,hy261⟩:∃ y_:List Int,y_=(x3_1.set ((ji8):Int).toNat (rd l0 x4_1)):=⟨_,rfl⟩
         replace H:(poly_Deriv.l0 k1 l0 y261 (wrap64 (x4_1+2)))=some r:=by first|(rw [hy261];with_reducible exact H)|(have H2_:=(Option.bind_some _ _).symm.trans H;rw [hy261];with_reducible exact H2_)|(have H2_:=(Option.bind_some _ _).symm.trans H;with_reducible exact H2_)|with_reducible exact H|(rw [hy261];exact H)|exact H
         have Ny261:=Aside0.mk hy261
         clear hy261
         have H':=Aside0.mk H
         clear H
         have p260:0<=(x4_1:Int):=of_decide_eq_true (by first|(with_reducible assumption)|assumption)
         have q260:x4_1 < (l0.length:Int):=of_decide_eq_true (by first|(with_reducible assumption)|assumption)
         obtain ⟨ad260,e260,hx260_0⟩:=Kd.at_int HR0.out x4_1 p260 q260
         cases e260
         replace hx260_0:=(HB.out.cell (World.block_lt_of_cell? w _ hx260_0)).trans hx260_0
         replace p260:=eq_true p260
         replace q260:=eq_true q260
         have p11:0<=((ji8):Int):=of_decide_eq_true (by first|(with_reducible assumption)|assumption)
         have q11:((ji8):Int) < ((x3_1.length:Int):Int):=of_decide_eq_true (by first|(with_reducible assumption)|assumption)
         obtain ⟨go11,co11,eo11,gb11,gl11,cl11,HG11⟩:=Kd.R_form HO_3.out (by omega)
         (first|cases eo11|(injection eo11 with ea_ en_ ec_;(first|subst ea_|(injection ea_ with ea_;subst ea_));subst ec_;clear en_))
         have GB11:=Aside0.mk gb11
         have GG11:=Aside0.mk HG11
         clear gb11 gl11 HG11
         obtain ⟨hx11_0,hf11_0⟩:=Kd.R_celln 0 HO_3.out ((ji8):Int) p11 q11
         replace p11:=eq_true p11
         replace q11:=eq_true q11
         have HP12:=Kd.R_putg HO_3.out ((ji8):Int) (rd l0 x4_1)
         go_wp2_with (first|((with_reducible refine gate_store (t:=5) (p:=21) rfl ?_);refine store_event (t:=5) (p:=21) (v:=?vo_w13) (w1:=(wr.setCell ⟨go11,((ji8):Int).toNat,none⟩ (.int .u8 (rd l0 x4_1)))) ?hg ?ho ?hn ?hr ?_;(case ho=>rfl);(case hg=>rfl);(case hn=>rfl);(case hr=>first|(go_simp;done)|(go_simp;rfl));intro w13 hw;have hg:wr.grownBy w13 (some go11):=(by rw [hw];exact HP12.2);have hp_:Kd.R (Kd.int .u8) 5 w13 w.heap.size (fun _=>True) (.slice (some ⟨go11,0,none⟩) x3_1.length co11) y261:=(by rw [hw,Ny261.out];exact HP12.1);clear HP12;have n0_:=Aside0.mk (hp_);have n1_:=Aside0.mk ((by rw [hw];exact below_set (HB.out) GB11.out:Below w.heap.size w w13));clear HO_3;clear HB;have HO_3:=n0_;have HB:=n1_;clear n0_ n1_;clear hg hw hp_))
         go_roundg k1
         case measure=>have:=HK1.out;omega
         case rel=>exact ⟨(y261),(wrap64 (x4_1+2)),(by first|rfl|(simp;done)|(simp [*];done)),H',⟨by have:=HK1.out;omega⟩,⟨by (with_reducible repeat (first|apply Kd.R_alloc|apply Kd.R_drewN|apply Kd.R_drew));exact HO_3.out⟩,⟨by repeat (first|(with_reducible first|exact HB.out|apply below_alloc|apply pw_below_drewN|apply below_drew1)|exact HB.out)⟩⟩
        ·rw [if_neg c10] at H
         exact absurd H (by simp)
       ·rw [if_neg c9] at H
        exact absurd H (by simp)
      ·rw [if_neg c7] at H
       exact absurd H (by simp)
     ·rw [if_neg c6] at H
      have c6b0:decide (x4_1 < (l0.length:Int))=false:=decide_eq_false c6
      clear c6
      replace H:=Option.bind_eq_some_iff.mp H
      obtain ⟨t262,A140,H⟩:=H
      replace H:(some t262)=some r:=H
      have A14:=Aside0.mk A140
      clear A140
      obtain rfl:=Option.some.inj H
      obtain ⟨Ao15,co15,eo15⟩:=Kd.R_slice HO_3.out
      subst eo15
      go_wp2_with (first|((with_reducible refine gate_callee (f:=214) rfl ?_);refine goesL_ (some 23) rfl rfl Tryz.func214 (by kernel_rfl) rfl #[.slice Ao15 x3_1.length co15] rfl (by (try simp only [List.map_toArray,List.map_cons,List.map_nil]);first|done|rfl|(simp only [List.length_drop,List.length_take];rfl)) ?_;(with_reducible refine (poly_Norm.calls k1 (fun k_=>some k_=(.slice Ao15 x3_1.length co15:Value).ownBlock) _ _ x3_1 t262 _ ?side1 A14.out).mono ?_);(case side1=>exact Kd.R_V (Kd.R_tight rfl (HO_3.out)));rintro e w16 ⟨v263,rfl,ho0,hb⟩;refine ⟨_,rfl,?_⟩;have n0_:=Aside0.mk (Kd.R_elder' (by (with_reducible repeat (first|apply Kd.R_alloc|apply Kd.R_drewN|apply Kd.R_drew));exact HO_3.out) (Kd.R_base ho0) hb);have n1_:=Aside0.mk (Kd.R_lower (Kd.R_new' (Kd.R_mono (ok':=fun k_=>True) ho0 (fun _ hk_=>trivial)) (Kd.R_lt (by (with_reducible repeat (first|apply Kd.R_alloc|apply Kd.R_drewN|apply Kd.R_drew));exact HO_3.out))) (below_size (by repeat (first|(with_reducible first|exact HB.out|apply below_alloc|apply pw_below_drewN|apply below_drew1)|exact HB.out))));have n2_:=Aside0.mk (below_step (by repeat (first|(with_reducible first|exact HB.out|apply below_alloc|apply pw_below_drewN|apply below_drew1)|exact HB.out)) hb);clear HO_3;clear HB;have HO_3:=n0_;have HO264:=n1_;have HB:=n2_;clear n0_ n1_ n2_;(try clear hb);(try clear hb2);(try clear hk);(try clear hi);(try clear ho0)))
      go_ret
      exact ⟨_,by first|rfl|(simp [errW_none,errW_some] <;> rfl)|(simp [*,errW_none,errW_some] <;> rfl),by (with_reducible repeat (first|apply Kd.R_alloc|apply Kd.R_drewN|apply Kd.R_drew));exact Kd.R_mono HO264.out (fun _ hk=>trivial),by repeat (first|(with_reducible first|exact HB.out|apply below_alloc|apply pw_below_drewN|apply below_drew1)|exact HB.out)⟩
  ·rw [if_neg c3] at H
   exact absurd H (by simp)
 ·rw [if_neg c2] at H
  exact absurd H (by simp)
def errdec_Word_1.f (a0:Int):Option (Bool):=some (a0 != 0)
set_option maxHeartbeats 8000000 in
set_option maxRecDepth 100000 in
theorem errdec_Word_1.calls (a0:Int) (r:Bool) (w:World) (h:errdec_Word_1.f a0=some r) :
  Calls Tryz.prog 199 #[.int .u8 a0] w fun e w'=>e=.returned (.bool r)/\Drawn0 w w':=by
 have H:(some (a0 != 0))=some r:=h
 clear h
 obtain rfl:=Option.some.inj H
 go_enter Tryz.func199,Tryz.ntmps199
 go_wp2
 go_ret
 exact ⟨by first|rfl|(simp;done)|(simp [*];done),by repeat (first|exact Drawn0.refl _|apply Drawn0.step)⟩
end Go.Proofs.YtmmcbncpnlknbaaGreat.PAll
namespace Go.Proofs.YtmmcbncpnlknbaaGreat.Top
open Go Go.RowKit Go.Proofs.YtmmcbncpnlknbaaGreatW.PrintWords Go.Proofs.YtmmcbncpnlknbaaGreatW.PrintLast Go.Proofs.YtmmcbncpnlknbaaGreatW.PrintMore
set_option maxHeartbeats 2000000 in
set_option maxRecDepth 100000 in
theorem clone171 (A0:Option Addr) (c0:Nat) (l0:List Int) (w:World) (hr0:Kd.C (Kd.int .u8) w A0 l0.length l0) (hc0:l0.length<=c0) (hbig:l0.length < 140737488355328) :
  Calls Tryz.prog 171 #[.slice A0 l0.length c0] w fun e w'=>∃ v0_:Value,e=.returned (v0_)/\Kd.R (Kd.int .u8) 5 w' w.heap.size (fun _=>True) v0_ l0/\Below w.heap.size w w':=by
 ·skip
  have q:∀ (w:World) (a:Option Addr) (n c n' c':Nat),(binOp .eql 36 (.slice a n c) (.slice none n' c')).run Tryz.prog w=.ok (.bool a.isNone) w:=fun w a n c n' c'=>Lib.run_eql_slice_nil w _ _ a n c n' c' Tryz.underlying36
  cases A0 with
  | none =>
   have hz:l0=[]:=by
    cases l0 with
    | nil=>rfl
    | cons x t=>obtain ⟨_,_,h3⟩:=hr0;obtain ⟨ad,e,_⟩:=h3 (by simp);cases e
   subst hz
   clear hr0
   go_enter Tryz.func171,Tryz.ntmps171
   go_wp2
   go_ret
   exact ⟨_,rfl,Kd.R_nil _ _ _ _ _,Below.refl _ _⟩
  | some a =>
   obtain ⟨i0,hi,hz0,hz1,hz2⟩:=info_parts (show (Tryz.prog.info? 5).map (fun i=>(i.zero,i.size,i.bytes))=some (some (.int .u8 0),1,1) from by kernel_rfl)
   have hcell:∀ i,i < l0.length->w.cell? (a.add i)=some (.int .u8 (l0.getD i 0)):=by
    intro i hi
    obtain ⟨ad,e,h3⟩:=Kd.at_int hr0 i (by omega) (by omega)
    obtain rfl:=Option.some.inj e
    simpa [rd] using h3
   have A:Aside0 (∀ i,i < l0.length->w.cell? (a.add i)=some (.int .u8 (l0.getD i 0))):=⟨hcell⟩
   clear hcell hr0 hc0
   go_enter Tryz.func171,Tryz.ntmps171
   go_wp2_with (at_builtin;refine wpList_append_own _ rfl _ _ 36 rfl w.heap.size 5 i0 (.int .u8 0) 1 1 Tryz.underlying36 hi hz0 hz1 hz2 rfl (by decide) _ _ _ rfl (World.ownsRow_made w #[] 0 (Nat.le_refl _) (Nat.zero_le _) rfl) a l0.length c0 (l0.map (Value.int .u8)) rfl ?qc1 ?qc2 ?qc3 ?qc4 ?qc5 ?qc6 ?_)
   case qc1=>simp
   case qc2 =>
    intro j u hj
    have hjn:j < l0.length:=by
     have:=(List.getElem?_eq_some_iff.1 hj).1
     simp at this
     omega
    refine Lib.cell?_alloc_some _ ?_
    rw [A.out j hjn]
    have e:(l0.map (Value.int .u8))[j]?=some (Value.int .u8 (l0.getD j 0)):=by simp [List.getD,List.getElem?_eq_getElem (show j < l0.length by omega)]
    rw [e] at hj
    exact hj
   case qc3=>intro u hu;obtain ⟨x,_,rfl⟩:=List.mem_map.1 hu;rfl
   case qc4=>unfold maxLen;omega
   case qc5=>omega
   case qc6=>simp
   intro v' w1 hown hgrow hnil
   go_wp2
   go_ret
   refine ⟨v',rfl,?_,((Below.refl _ w).alloc (Nat.le_refl _) _).grown hgrow (by simp) (by intro k hk;simp [Value.ownBlock] at hk;omega)⟩
   exact Kd.R_of_own (h1:=fun _=>rfl) (by simpa [encs] using hown) (fun _ _=>trivial)
theorem Bs.clone {w:World} {v:Value} {l:List Int} (h:Bs w v l) (hl:l.length<=10000):Calls Tryz.prog 171 #[v] w fun e w'=>∃ u,e=.returned u/\Kd.R (Kd.int .u8) 5 w' w.heap.size (fun _=>True) u l/\Below w.heap.size w w':=by
 obtain ⟨A,c,rfl,hc,hC⟩:=h
 exact clone171 A c l w hC hc (by omega)
theorem Bs.V {w:World} {v:Value} {l:List Int} (h:Bs w v l):Kd.V (Kd.int .u8) 5 w w.heap.size (fun _=>True) v l:=by
 obtain ⟨A,c,rfl,hc,hC⟩:=h
 exact ⟨A,c,rfl,hc,fun W hW=>Kd.Heap.C (Kd.heap_int .u8) (fun k hk=>hW k trivial hk) hC⟩
def Bf (P:Nat->Prop) (w:World) (v:Value) (l:List Int):Prop:=Kd.V (Kd.int .u8) 5 w 0 P v l
theorem Bf.bs {P:Nat->Prop} {w:World} {v:Value} {l:List Int} (h:Bf P w v l):Bs w v l:=by
 obtain ⟨A,c,h1,h2,h3⟩:=h
 exact ⟨A,c,h1,h2,Kd.F_now h3⟩
theorem Bf.below {P:Nat->Prop} {w W:World} {v:Value} {l:List Int} (h:Bf P w v l) (hb:Below w.heap.size w W):Bf P W v l:=Kd.V_below h hb
theorem Bf.mono {P Q:Nat->Prop} {w:World} {v:Value} {l:List Int} (h:Bf P w v l) (hq:∀ k,P k->Q k):Bf Q w v l:=Kd.V_mono h hq
theorem Bf.set {P:Nat->Prop} {g:Nat} {w:World} {v:Value} {l:List Int} (h:Bf P w v l) (hP:∀ k,P k->k≠g) (i:Nat) (u:Value):Bf P (w.setCell ⟨g,i,none⟩ u) v l:=Kd.V_far (p:=⟨g,i,none⟩) h hP u
theorem Bf.of_R {P:Nat->Prop} {base:Nat} {ok:Nat->Prop} {w:World} {v:Value} {l:List Int} (h:Kd.R (Kd.int .u8) 5 w base ok v l) (hne:∀ k,base<=k->k < w.heap.size->P k):Bf P w v l:=Kd.V_mono (Kd.R_V (base':=0) (Kd.R_bound h)) (fun k hk=>hne k hk.2.1 hk.2.2.1)
theorem norm_ok {w:World} {v:Value} {l r:List Int} (h:Bs w v l) (hr:PAll.poly_Norm.f 100 l=some r):Calls Tryz.prog 214 #[v] w fun e w'=>∃ u,e=.returned u/\Kd.R (Kd.int .u8) 5 w' w.heap.size (fun _=>True) u r/\Below w.heap.size w w':=by
 have h2:=h.V
 obtain ⟨A,c,rfl,hc,hC⟩:=h
 refine (PAll.poly_Norm.calls 100 _ A c l r w h2 hr).mono ?_
 rintro e w' ⟨u,rfl,h3,h4⟩
 exact ⟨u,rfl,Kd.R_mono h3 (fun _ _=>trivial),h4⟩
theorem R_lit1 (w:World) (x:Int):Kd.R (Kd.int .u8) 5 (w.alloc (.cells #[.int .u8 x] 5)) w.heap.size (fun _=>True) (.slice (some ⟨w.heap.size,0,none⟩) 1 1) [x]:=Kd.R_of_own (h1:=fun _=>rfl) (own_lit w w.heap.size 5 .u8 [x] (Nat.le_refl _) (by simp)) (fun _ _=>trivial)
theorem R_lit2 (w:World) (x y:Int):Kd.R (Kd.int .u8) 5 (w.alloc (.cells #[.int .u8 x,.int .u8 y] 5)) w.heap.size (fun _=>True) (.slice (some ⟨w.heap.size,0,none⟩) 2 2) [x,y]:=Kd.R_of_own (h1:=fun _=>rfl) (own_lit w w.heap.size 5 .u8 [x,y] (Nat.le_refl _) (by simp)) (fun _ _=>trivial)
set_option maxRecDepth 100000 in
set_option maxHeartbeats 4000000 in
theorem loc_ok {w:World} {f:Nat} (h:Fd w f) (v:Value) (p:List Int) (hp:Bs w v p) (hb:byteL p) (o:Nat->List Int) (h0:o 0=[1]) (hs:∀ i,i < p.length->PAll.poly_sum.f 100 (mulRows (o i) [rd p (i:Int),1] 2)=some (o (i+1))) (ho:∀ i,i<=p.length->byteL (o i)/\(o i).length<=100) (hl:p.length<=100) :
  Calls Tryz.prog 192 #[.pointer (some ⟨f,0,none⟩),v] w fun e w'=>∃ x,e=.returned x/\Kd.R (Kd.int .u8) 5 w' w.heap.size (fun _=>True) x (o p.length)/\Below w.heap.size w w':=by
 obtain ⟨A,cc,rfl,hcc,hC⟩:=hp
 have H:=Aside0.mk h
 have HC:=Aside0.mk (And.intro hC (And.intro hb (And.intro hs (And.intro ho h0))))
 obtain ⟨L,hL⟩:∃ L,p.length=L:=⟨_,rfl⟩
 have HL:=Aside0.mk hL
 rw [hL] at hl ⊢
 clear h hcc hC hb hs ho h0 hL
 go_enter Tryz.func192,Tryz.ntmps192
 go_wp2
 go_loopg [5,13] L (fun kq x y wr=>∃ (i:Nat) (v:Value),v=x/\y=.int .i64 i/\i+kq=L/\Aside0 (Kd.R (Kd.int .u8) 5 wr w.heap.size (fun _=>True) v (o i))/\Aside0 (Below w.heap.size w wr))
 case atStart =>
  exact ⟨0,_,rfl,rfl,by omega,⟨by rw [HC.out.2.2.2.2];exact R_lit1 w 1⟩,⟨below_alloc (Below.refl _ _) _⟩⟩
 case round =>
  obtain ⟨i,v,rfl,rfl,hi,HV,HW⟩:=hrel
  by_cases hin:i < L
  ·have g1:(i:Int) < (L:Int):=by omega
   have g0:(0:Int)<=i:=by omega
   obtain ⟨ad,ea2,hx0⟩:=Bs.at HC.out.1 i (by have:=HL.out;omega)
   subst ea2
   replace hx0:=cell_of HW.out hx0
   have hB:=byteL_rdn HC.out.2.1 i
   obtain ⟨B0,hB0⟩:∃ B0,rd p (i:Int)=B0:=⟨_,rfl⟩
   rw [hB0] at hx0 hB
   have hst:=HC.out.2.2.1 i (by have:=HL.out;omega)
   rw [hB0] at hst
   have hoo:=HC.out.2.2.2.1 i (by have:=HL.out;omega)
   have ba:Below wr.heap.size wr (wr.alloc (.cells #[.int .u8 B0,.int .u8 1] 5)):=below_alloc (Below.refl _ _) _
   have hcall:=pmul_ok (w:=wr.alloc (.cells #[.int .u8 B0,.int .u8 1] 5)) (H.out.below (below_step HW.out ba)) v _ (o i) [B0,1] (o (i+1)) ((Bs.of_R HV.out).below ba) (Bs.of_R (R_lit2 wr B0 1)) hoo.1 (by intro x hx;simp at hx;rcases hx with rfl|rfl <;> omega) hoo.2 (by simp) hst
   have HX:=Aside0.mk (And.intro hcall ba)
   clear hB hB0 hst hoo hcall ba
   go_wp2_with (first|(go_at_call 194;go_loud (refine HX.out.1.mono ?_;rintro e w1 ⟨x1,rfl,hr1,hb1⟩;have H1:=Aside0.mk (And.intro hr1 hb1);clear hr1 hb1)))
   go_roundg (L - (i+1))
   case measure=>omega
   case rel =>
    have h2:=below_step HW.out HX.out.2
    exact ⟨i+1,_,rfl,by simp [w64 _ (show -9223372036854775808<=(i:Int)+1/\(i:Int)+1<=9223372036854775807 from by omega)],by omega,⟨Kd.R_lower H1.out.1 h2.size⟩,⟨below_step h2 H1.out.2⟩⟩
  ·have g1:¬ (i:Int) < (L:Int):=by omega
   have e:i=L:=by omega
   subst e
   go_wp2
   go_ret
   exact ⟨_,rfl,HV.out,HW.out⟩
end Go.Proofs.YtmmcbncpnlknbaaGreat.Top
