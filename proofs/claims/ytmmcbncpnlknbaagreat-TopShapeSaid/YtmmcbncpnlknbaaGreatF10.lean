import Derived.Test.YtmmcbncpnlknbaaGreatF09
set_option linter.unusedVariables false
set_option linter.unusedSimpArgs false
namespace Go.Proofs.YtmmcbncpnlknbaaGreat.Top
open Go Go.RowKit Go.Proofs.YtmmcbncpnlknbaaGreatW.PrintWords Go.Proofs.YtmmcbncpnlknbaaGreatW.PrintLast Go.Proofs.YtmmcbncpnlknbaaGreatW.PrintMore
def Bs (w:World) (v:Value) (l:List Int):Prop:=∃ A c,v=.slice A l.length c/\l.length<=c/\(Kd.int .u8).C w A l.length l
theorem Bs.below {w W:World} {v:Value} {l:List Int} (h:Bs w v l) (hb:Below w.heap.size w W):Bs W v l:=by
 obtain ⟨A,c,h1,h2,h3⟩:=h
 exact ⟨A,c,h1,h2,Kd.C_below h3 hb⟩
theorem Bs.of_R {w:World} {base:Nat} {ok:Nat->Prop} {v:Value} {l:List Int} (h:Kd.R (Kd.int .u8) 5 w base ok v l):Bs w v l:=by
 obtain ⟨A,c,h1,h2,h3⟩:=Kd.R_reads h
 exact ⟨A,c,h1,h2,h3⟩
theorem Bs.nil (w:World):Bs w (.slice none 0 0) []:=⟨none,0,rfl,by simp,Kd.C_nil _ _⟩
theorem Bs.at {w:World} {A:Option Addr} {l:List Int} (h:(Kd.int .u8).C w A l.length l) (i:Nat) (hi:i < l.length):∃ ad,A=some ad/\w.cell? (ad.add i)=some (.int .u8 (rd l i)):=by
 obtain ⟨ad,e,h2⟩:=Kd.at_int h (i:Int) (by omega) (by omega)
 rw [Int.toNat_natCast] at h2
 exact ⟨ad,e,h2⟩
theorem byteL_rdn {l:List Int} (h:byteL l) (i:Nat):0<=rd l i/\rd l i<=255:=byteL_rd h i
theorem cell_of {w W:World} (hb:Below w.heap.size w W) {a:Addr} {v:Value} (h:w.cell? a=some v):W.cell? a=some v:=(hb.cell (World.block_lt_of_cell? w _ h)).trans h
def sclF (p:List Int) (c:Int) (s:Nat) (j:Nat):Int:=if j < s then 0 else gm (rd p ((j - s:Nat):Int)) c
def sclL (p:List Int) (c:Int) (s:Nat):List Int:=(List.range (s+p.length)).map (sclF p c s)
theorem fillR_start (p:List Int) (c:Int) (s N:Nat) (h:s<=N):fillR (sclF p c s) N s=List.replicate N 0:=by
 unfold fillR
 rw [show (List.range s).map (sclF p c s)=List.replicate s 0 from by
  apply List.ext_getElem
  ·simp
  ·intro i h1 h2
   have:i < s:=by simpa using h1
   simp [sclF,this],List.replicate_append_replicate]
 congr 1
 omega
set_option maxRecDepth 100000 in
set_option maxHeartbeats 4000000 in
theorem scaled_ok {w:World} {f:Nat} (h:Fd w f) (v:Value) (p:List Int) (hp:Bs w v p) (hb:byteL p) (c:Int) (c0:0<=c) (c1:c<=255) (s:Nat) (hs:s<=100) (hl:p.length<=100) :
  Calls Tryz.prog 219 #[.pointer (some ⟨f,0,none⟩),v,.int .u8 c,.int .i64 s] w fun e w'=>∃ u,e=.returned u/\Kd.R (Kd.int .u8) 5 w' w.heap.size (fun _=>True) u (sclL p c s)/\Below w.heap.size w w':=by
 obtain ⟨A,cc,rfl,hcc,hC⟩:=hp
 have H:=Aside0.mk h
 have HC:=Aside0.mk (And.intro hcc (And.intro hC hb))
 have HS:=Aside0.mk (And.intro hs hl)
 obtain ⟨N,hN⟩:∃ N,s+p.length=N:=⟨_,rfl⟩
 obtain ⟨L,hL⟩:∃ L,p.length=L:=⟨_,rfl⟩
 have gN:wrap64 ((s:Int)+L)=(N:Int):=by rw [w64 _ (by omega)];omega
 have HN:=Aside0.mk (And.intro hN hL)
 rw [hL]
 clear h hcc hC hb hs hl hN hL
 go_enter Tryz.func219,Tryz.ntmps219
 go_wp2_with (first|((with_reducible refine gate_dst (N:=15) rfl ?_);go_loud (refine Kd.R_make (Kd.int .u8) (w0:=w) w.heap.size 5 rfl (N:=15) rfl 36 _ _ rfl (N:Int) (congrArg (Value.int .i64) gN) (congrArg (Value.int .i64) gN) Tryz.underlying36 (.int .u8 0) 1 info5' rfl (by decide) (by decide) 0 (ok:=fun _=>True) (okp:=fun _=>True) rfl (fun _ hk=>hk) trivial (by omega) (by have:=HS.out;have:=HN.out;omega) (Below.refl _ _) (Nat.le_refl _) ?_;intro v4 w4 ho4 hb4 hg4 hnew4;rw [Int.toNat_natCast,<- fillR_start p c s N (by have:=HN.out;omega)] at ho4;obtain ⟨A4,c4,rfl⟩:=Kd.R_slice ho4;rw [fillR_len _ (show s<=N by have:=HN.out;omega)] at ho4;have HO4:=Aside0.mk ho4;have HB4:=Aside0.mk hb4;clear ho4 hb4 hg4 hnew4)))
 simp only [fillR_len _ (show s<=N by have:=HN.out;omega)]
 go_loopg [18] L (fun kq x wr=>∃ i:Nat,x=.int .i64 i/\i+kq=L/\Aside0 (Kd.R (Kd.int .u8) 5 wr w.heap.size (fun _=>True) (.slice A4 N c4) (fillR (sclF p c s) N (s+i)))/\Aside0 (Below w.heap.size w wr))
 case atStart =>
  exact ⟨0,rfl,by omega,HO4,HB4⟩
 case round =>
  obtain ⟨i,rfl,hi,HR,HB⟩:=hrel
  by_cases hin:i < L
  ·have g1:(i:Int) < (L:Int):=by omega
   have g0:(0:Int)<=i:=by omega
   obtain ⟨j,hj⟩:∃ j,s+i=j:=⟨_,rfl⟩
   have gj:wrap64 ((s:Int)+i)=(j:Int):=by rw [w64 _ (by have:=HS.out;have:=HN.out;omega)];omega
   have g2:(j:Int) < (N:Int):=by have:=HN.out;omega
   have g3:(0:Int)<=j:=by omega
   have hl:(fillR (sclF p c s) N (s+i)).length=N:=fillR_len _ (by have:=HN.out;omega)
   obtain ⟨go,co,eo,gb,gl,cl,HG⟩:=Kd.R_form HR.out (by rw [hl];have:=HN.out;omega)
   injection eo with ea en ec
   subst ea
   subst ec
   obtain ⟨ad,ea2,hx0⟩:=Bs.at HC.out.2.1 i (by have:=HN.out;omega)
   subst ea2
   replace hx0:=cell_of HB.out hx0
   have hB:=byteL_rdn HC.out.2.2 i
   obtain ⟨B0,hB0⟩:∃ B0,rd p (i:Int)=B0:=⟨_,rfl⟩
   rw [hB0] at hx0 hB
   obtain ⟨x0,f0⟩:=Kd.R_celln 0 HR.out (j:Int) g3 g2
   rw [Int.toNat_natCast] at x0 f0
   have hF:=(H.out.below HB.out)
   have HF:=Aside0.mk hF
   have HX:=Aside0.mk (And.intro hB (And.intro hB0 (And.intro hj gb)))
   clear hl HG gl en hB hB0 hj gb
   go_wp2_with (first|(go_at_call 173;go_loud (refine (mul_ok HF.out B0 c HX.out.1.1 HX.out.1.2 c0 c1).mono ?_;rintro e w1 ⟨rfl,nd2,rfl⟩)))
   go_roundg (L - (i+1))
   case measure=>omega
   case rel =>
    refine ⟨i+1,by simp [w64 _ (show -9223372036854775808<=(i:Int)+1/\(i:Int)+1<=9223372036854775807 from by have:=HS.out;have:=HN.out;omega)],by omega,⟨?_⟩,⟨?_⟩⟩
    ·have h2:=(Kd.R_putg (Kd.R_below HR.out (pw_below_drewN (Below.refl _ _) nd2)) (j:Int) (gm B0 c)).1
     have e:gm B0 c=sclF p c s (s+i):=by unfold sclF;rw [if_neg (by omega),show s+i - s=i by omega,HX.out.2.1]
     rw [Int.toNat_natCast] at h2
     rw [show s+(i+1)=s+i+1 by omega,<- fillR_set _ (by have:=HN.out;omega),<- e,HX.out.2.2.1]
     rw [HX.out.2.2.1] at h2
     exact h2
    ·exact below_set (pw_below_drewN HB.out _) HX.out.2.2.2
  ·have g1:¬ (i:Int) < (L:Int):=by omega
   have e:i=L:=by omega
   go_wp2
   go_ret
   refine ⟨_,rfl,?_,HB.out⟩
   have h2:=HR.out
   rw [e,HN.out.2.symm,HN.out.1] at h2
   rw [sclL,HN.out.1,<- fillR_all]
   exact h2
end Go.Proofs.YtmmcbncpnlknbaaGreat.Top
namespace Go.Proofs.YtmmcbncpnlknbaaGreat.PAll
open Go.RowKit Go.Proofs.YtmmcbncpnlknbaaGreatW.PrintWords Go.Proofs.YtmmcbncpnlknbaaGreatW.PrintLast Go.Proofs.YtmmcbncpnlknbaaGreatW.PrintMore
def sector_fits.f (a0:Int):Option (Bool):=if a0 ≥ 0 then (some (decide (a0<=2147483647))) else (some false)
set_option maxHeartbeats 8000000 in
set_option maxRecDepth 100000 in
theorem sector_fits.calls (a0:Int) (r:Bool) (w:World) (h:sector_fits.f a0=some r) :
  Calls Tryz.prog 113 #[.int .i64 a0] w fun e w'=>e=.returned (.bool r)/\Drawn0 w w':=by
 have H:(if a0 ≥ 0 then (some (decide (a0<=2147483647))) else (some false))=some r:=h
 clear h
 by_cases c2:a0 ≥ 0
 ·rw [if_pos c2] at H
  have c2b0:decide (0<=a0)=true:=decide_eq_true c2
  clear c2
  obtain rfl:=Option.some.inj H
  go_enter Tryz.func113,Tryz.ntmps113
  go_wp2
  go_ret
  exact ⟨by first|rfl|(simp;done)|(simp [*];done),by repeat (first|exact Drawn0.refl _|apply Drawn0.step)⟩
 ·rw [if_neg c2] at H
  have c2b0:decide (0<=a0)=false:=decide_eq_false c2
  clear c2
  obtain rfl:=Option.some.inj H
  go_enter Tryz.func113,Tryz.ntmps113
  go_wp2
  go_ret
  exact ⟨by first|rfl|(simp;done)|(simp [*];done),by repeat (first|exact Drawn0.refl _|apply Drawn0.step)⟩
mutual
def crc_More.l0:Nat->Int->List Int->Int->Int->Option (Int)
 | 0,_,_,_,_=>none
 | k+1,x5,x10,x11,x12=>if x12 < x11 then (if 0<=x12 then (if x12 < (x10.length:Int) then (if (Go.bits .and .u32 (Go.bits .xor .u32 x5 ((rd x10 x12) % 4294967296)) 255)=0 then (crc_More.l0 k ((Go.bits .xor .u32 x5 ((rd x10 x12) % 4294967296)) / 256) x10 x11 (wrap64 (x12+1))) else (crc_More.l1 k (Go.bits .xor .u32 x5 ((rd x10 x12) % 4294967296)) x10 x11 x12 0)) else (none)) else (none)) else (some (Go.bits .xor .u32 4294967295 x5))
def crc_More.l1:Nat->Int->List Int->Int->Int->Int->Option (Int)
 | 0,_,_,_,_,_=>none
 | k+1,x5,x10,x11,x12,x25=>if x25 < 8 then (crc_More.l1 k (Go.bits .xor .u32 (x5 / 2) (Go.bits .and .u32 2197175160 ((-(Go.bits .and .u32 x5 1)) % 4294967296))) x10 x11 x12 (wrap64 (x25+1))) else (crc_More.l0 k x5 x10 x11 (wrap64 (x12+1)))
end
def crc_More.f (k:Nat) (a0:Int) (l1:List Int):Option (Int):=crc_More.l0 k (Go.bits .xor .u32 4294967295 a0) l1 (l1.length:Int) 0
theorem crc_More.mono_l:∀ k,(∀ y0 y1 y2 y3,LeO (crc_More.l0 k y0 y1 y2 y3) (crc_More.l0 (k+1) y0 y1 y2 y3))/\(∀ y0 y1 y2 y3 y4,LeO (crc_More.l1 k y0 y1 y2 y3 y4) (crc_More.l1 (k+1) y0 y1 y2 y3 y4))
 | 0=>⟨fun _ _ _ _ r h=>by simp [crc_More.l0] at h,fun _ _ _ _ _ r h=>by simp [crc_More.l1] at h⟩
 | k+1=>by
  obtain ⟨ih0,ih1⟩:=crc_More.mono_l k
  refine ⟨?_,?_⟩
  ·intro y0 y1 y2 y3
   unfold crc_More.l0
   repeat' first
   | (with_reducible exact ih0 _ _ _ _)
   | (with_reducible exact ih1 _ _ _ _ _)
   | (with_reducible exact LeO.refl _)
   | (with_reducible exact LeO.none _)
   | (with_reducible refine LeO.ite ?_ ?_)
   | (with_reducible refine LeO.bind ?_ (fun _=>?_))
   | exact ih0 _ _ _ _
   | exact ih1 _ _ _ _ _
   | exact LeO.none _
   | refine LeO.ite ?_ ?_
   | refine LeO.bind ?_ (fun _=>?_)
  ·intro y0 y1 y2 y3 y4
   unfold crc_More.l1
   repeat' first
   | (with_reducible exact ih0 _ _ _ _)
   | (with_reducible exact ih1 _ _ _ _ _)
   | (with_reducible exact LeO.refl _)
   | (with_reducible exact LeO.none _)
   | (with_reducible refine LeO.ite ?_ ?_)
   | (with_reducible refine LeO.bind ?_ (fun _=>?_))
   | exact ih0 _ _ _ _
   | exact ih1 _ _ _ _ _
   | exact LeO.none _
   | refine LeO.ite ?_ ?_
   | refine LeO.bind ?_ (fun _=>?_)
theorem crc_More.mono:∀ a0 a1 k,LeO (crc_More.f k a0 a1) (crc_More.f (k+1) a0 a1):=by
 intro a0 a1 k
 obtain ⟨ih0,ih1⟩:=crc_More.mono_l k
 unfold crc_More.f
 repeat' first
   | (with_reducible exact ih0 _ _ _ _)
   | (with_reducible exact ih1 _ _ _ _ _)
   | (with_reducible exact LeO.refl _)
   | (with_reducible exact LeO.none _)
   | (with_reducible refine LeO.ite ?_ ?_)
   | (with_reducible refine LeO.bind ?_ (fun _=>?_))
   | exact ih0 _ _ _ _
   | exact ih1 _ _ _ _ _
   | exact LeO.none _
   | refine LeO.ite ?_ ?_
   | refine LeO.bind ?_ (fun _=>?_)
set_option maxHeartbeats 8000000 in
set_option maxRecDepth 100000 in
theorem crc_More.calls (k:Nat) (a0:Int) (A1:Option Addr) (c1:Nat) (l1:List Int) (r:Int) (w:World) (hr1:Kd.C (Kd.int .u8) w A1 l1.length l1) (hc1:l1.length<=c1) (h:crc_More.f k a0 l1=some r) :
  Calls Tryz.prog 142 #[.int .u32 a0,.slice A1 l1.length c1] w fun e w'=>e=.returned (.int .u32 r)/\Drawn0 w w':=by
 have HR1:=Aside0.mk hr1
 have HC1:=Aside0.mk hc1
 clear hr1 hc1
 have H:(crc_More.l0 k (Go.bits .xor .u32 4294967295 a0) l1 (l1.length:Int) 0)=some r:=h
 clear h
 have H':=Aside0.mk H
 clear H
 go_enter Tryz.func142,Tryz.ntmps142
 go_wp2
 go_step3
 go_wp2
 go_step3
 go_wp2
 go_wp2
 go_loopg [5,12] k (fun kq v5 v12 w'=>∃ (x5_1:Int) (x12_1:Int),v5=.int .u32 x5_1/\v12=.int .i64 x12_1/\Aside0 (crc_More.l0 kq x5_1 l1 (l1.length:Int) x12_1=some r)/\Aside0 (kq<=k)/\Drawn0 w w')
 case atStart=>exact ⟨(Go.bits .xor .u32 4294967295 a0),(0),(by first|rfl|(simp;done)|(simp [*];done)),(by first|rfl|(simp;done)|(simp [*];done)),H',⟨Nat.le_refl _⟩,by repeat (first|exact Drawn0.refl _|apply Drawn0.step)⟩
 case round =>
  clear H'
  try clear c1
  try clear p2
  obtain ⟨x5_1,x12_1,rfl,rfl,HA,HK1,⟨m1,rfl⟩⟩:=hrel
  cases gk with
  | zero=>exact absurd HA.out (by simp [crc_More.l0])
  | succ k1 =>
   have H:=HA.out
   clear HA
   simp only [crc_More.l0] at H
   by_cases c3:x12_1 < (l1.length:Int)
   ·rw [if_pos c3] at H
    have c3b0:decide (x12_1 < (l1.length:Int))=true:=decide_eq_true c3
    clear c3
    by_cases c4:0<=x12_1
    ·rw [if_pos c4] at H
     have c4b0:decide (0<=x12_1)=true:=decide_eq_true c4
     clear c4
     by_cases c5:x12_1 < (l1.length:Int)
     ·rw [if_pos c5] at H
      have c5b0:decide (x12_1 < (l1.length:Int))=true:=decide_eq_true c5
      clear c5
      by_cases c6:(Go.bits .and .u32 (Go.bits .xor .u32 x5_1 ((rd l1 x12_1) % 4294967296)) 255)=0
      ·rw [if_pos c6] at H
       have c6b0:((Go.bits .and .u32 (Go.bits .xor .u32 x5_1 ((rd l1 x12_1) % 4294967296)) 255) == 0)=true:=beq_iff_eq.mpr c6
       have c6b1:((Go.bits .and .u32 (Go.bits .xor .u32 x5_1 ((rd l1 x12_1) % 4294967296)) 255) != 0)=false:=bne_eq_false_iff_eq.mpr c6
       clear c6
       have H':=Aside0.mk H
       clear H
       have p116:0<=(x12_1:Int):=of_decide_eq_true (by first|(with_reducible assumption)|assumption)
       have q116:x12_1 < (l1.length:Int):=of_decide_eq_true (by first|(with_reducible assumption)|assumption)
       obtain ⟨ad116,e116,hx116_0⟩:=Kd.at_int HR1.out x12_1 p116 q116
       cases e116
       replace p116:=eq_true p116
       replace q116:=eq_true q116
       go_wp2
       go_roundg k1
       case measure=>have:=HK1.out;omega
       case rel=>exact ⟨((Go.bits .xor .u32 x5_1 ((rd l1 x12_1) % 4294967296)) / 256),(wrap64 (x12_1+1)),(by first|rfl|(simp;done)|(simp [*];done)),(by first|rfl|(simp;done)|(simp [*];done)),H',⟨by have:=HK1.out;omega⟩,by repeat (first|exact Drawn0.refl _|apply Drawn0.step)⟩
      ·rw [if_neg c6] at H
       have c6b0:((Go.bits .and .u32 (Go.bits .xor .u32 x5_1 ((rd l1 x12_1) % 4294967296)) 255) == 0)=false:=beq_eq_false_iff_ne.mpr c6
       have c6b1:((Go.bits .and .u32 (Go.bits .xor .u32 x5_1 ((rd l1 x12_1) % 4294967296)) 255) != 0)=true:=bne_iff_ne.mpr c6
       have H':=Aside0.mk H
       clear H
       have p116:0<=(x12_1:Int):=of_decide_eq_true (by first|(with_reducible assumption)|assumption)
       have q116:x12_1 < (l1.length:Int):=of_decide_eq_true (by first|(with_reducible assumption)|assumption)
       obtain ⟨ad116,e116,hx116_0⟩:=Kd.at_int HR1.out x12_1 p116 q116
       cases e116
       replace p116:=eq_true p116
       replace q116:=eq_true q116
       go_wp2
       go_loopg [5,25] k1 (fun kq v5 v25 w'=>∃ (x5_2:Int) (x25_2:Int),v5=.int .u32 x5_2/\v25=.int .i64 x25_2/\Aside0 (crc_More.l1 kq x5_2 l1 (l1.length:Int) x12_1 x25_2=some r)/\Aside0 (kq<=k1)/\Drawn0 w w')
       case atStart=>exact ⟨(Go.bits .xor .u32 x5_1 ((rd l1 x12_1) % 4294967296)),(0),(by first|rfl|(simp;done)|(simp [*];done)),(by first|rfl|(simp;done)|(simp [*];done)),H',⟨Nat.le_refl _⟩,by repeat (first|exact Drawn0.refl _|apply Drawn0.step)⟩
       case round =>
        clear H'
        try clear c1
        try clear p1
        try clear q1
        try clear hx1
        try clear p2
        try clear c3
        try clear p3
        try clear c4
        try clear c5
        try clear c6
        try clear p6
        try clear hx116_0
        try clear p116
        try clear p2
        try clear q116
        obtain ⟨x5_2,x25_2,rfl,rfl,HA,HK2,⟨m2,rfl⟩⟩:=hrel
        cases gk with
        | zero=>exact absurd HA.out (by simp [crc_More.l1])
        | succ k2 =>
         have H:=HA.out
         clear HA
         simp only [crc_More.l1] at H
         by_cases c7:x25_2 < 8
         ·rw [if_pos c7] at H
          have c7b0:decide (x25_2 < 8)=true:=decide_eq_true c7
          clear c7
          have H':=Aside0.mk H
          clear H
          go_wp2
          go_roundg k2
          case measure=>have:=HK1.out;have:=HK2.out;omega
          case rel=>exact ⟨(Go.bits .xor .u32 (x5_2 / 2) (Go.bits .and .u32 2197175160 ((-(Go.bits .and .u32 x5_2 1)) % 4294967296))),(wrap64 (x25_2+1)),(by first|rfl|(simp;done)|(simp [*];done)),(by first|rfl|(simp;done)|(simp [*];done)),H',⟨by have:=HK1.out;have:=HK2.out;omega⟩,by repeat (first|exact Drawn0.refl _|apply Drawn0.step)⟩
         ·rw [if_neg c7] at H
          have c7b0:decide (x25_2 < 8)=false:=decide_eq_false c7
          clear c7
          have H':=Aside0.mk H
          clear H
          go_wp2
          go_roundg k2
          case measure=>have:=HK1.out;have:=HK2.out;omega
          case rel=>exact ⟨(x5_2),(wrap64 (x12_1+1)),(by first|rfl|(simp;done)|(simp [*];done)),(by first|rfl|(simp;done)|(simp [*];done)),H',⟨by have:=HK1.out;have:=HK2.out;omega⟩,by repeat (first|exact Drawn0.refl _|apply Drawn0.step)⟩
     ·rw [if_neg c5] at H
      exact absurd H (by simp)
    ·rw [if_neg c4] at H
     exact absurd H (by simp)
   ·rw [if_neg c3] at H
    have c3b0:decide (x12_1 < (l1.length:Int))=false:=decide_eq_false c3
    clear c3
    obtain rfl:=Option.some.inj H
    go_wp2
    first|go_ret|(rw [Exit.noGoto_ret];go_ret)
    exact ⟨by first|rfl|(simp;done)|(simp [*];done),by repeat (first|exact Drawn0.refl _|apply Drawn0.step)⟩
def crc_Sum.f (k:Nat) (l0:List Int):Option (Int):=(crc_More.f k 0 l0).bind fun t117=>(some t117)
theorem crc_Sum.mono:∀ a0 k,LeO (crc_Sum.f k a0) (crc_Sum.f (k+1) a0):=by
 intro a0 k
 unfold crc_Sum.f
 repeat' first
   | (with_reducible exact crc_More.mono _ _ _)
   | (with_reducible exact LeO.refl _)
   | (with_reducible exact LeO.none _)
   | (with_reducible refine LeO.ite ?_ ?_)
   | (with_reducible refine LeO.bind ?_ (fun _=>?_))
   | exact crc_More.mono _ _ _
   | exact LeO.none _
   | refine LeO.ite ?_ ?_
   | refine LeO.bind ?_ (fun _=>?_)
set_option maxHeartbeats 8000000 in
set_option maxRecDepth 100000 in
theorem crc_Sum.calls (k:Nat) (A0:Option Addr) (c0:Nat) (l0:List Int) (r:Int) (w:World) (hr0:Kd.C (Kd.int .u8) w A0 l0.length l0) (hc0:l0.length<=c0) (h:crc_Sum.f k l0=some r) :
  Calls Tryz.prog 116 #[.slice A0 l0.length c0] w fun e w'=>e=.returned (.int .u32 r)/\Drawn0 w w':=by
 have HR0:=Aside0.mk hr0
 have HC0:=Aside0.mk hc0
 clear hr0 hc0
 have H:((crc_More.f k 0 l0).bind fun t117=>(some t117))=some r:=h
 clear h
 replace H:=Option.bind_eq_some_iff.mp H
 obtain ⟨t117,A20,H⟩:=H
 replace H:(some t117)=some r:=H
 have A2:=Aside0.mk A20
 clear A20
 obtain rfl:=Option.some.inj H
 go_enter Tryz.func116,Tryz.ntmps116
 go_wp2_with (first|((with_reducible refine gate_callee (f:=142) rfl ?_);refine goesL_ (some 4) rfl rfl Tryz.func142 (by kernel_rfl) rfl #[.int .u32 0,.slice A0 l0.length c0] rfl (by (try simp only [List.map_toArray,List.map_cons,List.map_nil]);first|done|rfl|(simp only [List.length_drop,List.length_take];rfl)) ?_;(with_reducible refine (crc_More.calls k 0 _ _ l0 t117 _ ?side1 ?side2 A2.out).mono ?_);(case side1=>repeat (first|exact HR0.out|(with_reducible refine Kd.C_alloc ?_ _)|(with_reducible refine Kd.C_drewN ?_ _)|(with_reducible refine Kd.C_drew ?_)));(case side2=>exact HC0.out);rintro e w' ⟨rfl,⟨nd,rfl⟩⟩;refine ⟨_,rfl,?_⟩))
 go_ret
 exact ⟨by first|rfl|(simp;done)|(simp [*];done),by repeat (first|exact Drawn0.refl _|apply Drawn0.step)⟩
def record_put.f (a0_0:ByteArray) (a0_1:Int) (a0_2:Int) (l0_3:List Int):Option (Int×ByteArray×Int×List Int):=some (1,a0_0,a0_1,l0_3)
set_option maxHeartbeats 8000000 in
set_option maxRecDepth 100000 in
theorem record_put.calls (a0_0:ByteArray) (a0_1:Int) (a0_2:Int) (P0_3_:Nat->Prop) (A0_3:Option Addr) (c0_3:Nat) (l0_3:List Int) (r1:Int) (r2:ByteArray) (r3:Int) (r4:List Int) (w:World) (hs0_3:Kd.V (Kd.int .i64) 3 w w.heap.size (fun k_=>P0_3_ k_) (.slice A0_3 l0_3.length c0_3) l0_3) (h:record_put.f a0_0 a0_1 a0_2 l0_3=some (r1,r2,r3,r4)) :
  Calls Tryz.prog 82 #[.agg #[.string a0_0,.int .i64 a0_1,.int .i64 a0_2,.slice A0_3 l0_3.length c0_3]] w fun e w'=>∃ v3_:Value,e=.returned (.agg #[.int .i64 r1,.string r2,.int .i64 r3,v3_])/\Kd.V (Kd.int .i64) 3 w' w.heap.size (fun k_=>(P0_3_ k_∨w.heap.size<=k_)) v3_ r4/\Below w.heap.size w w':=by
 have hu139:=Tryz.underlying139
 have hu160:=Tryz.underlying160
 have HO0_3:=Aside0.mk (show Kd.V (Kd.int .i64) 3 w w.heap.size (fun k_=>(P0_3_ k_∨w.heap.size<=k_)) (.slice A0_3 l0_3.length c0_3) l0_3 from Kd.V_mono hs0_3 (fun k_ hk=>.inl hk))
 have HB:=Aside0.mk (Below.refl w.heap.size w)
 have H:(some (1,a0_0,a0_1,l0_3))=some (r1,r2,r3,r4):=h
 clear h
 simp only [Option.some.injEq,Prod.mk.injEq] at H
 obtain ⟨rfl,rfl,rfl,rfl⟩:=H
 go_enter Tryz.func82,Tryz.ntmps82
 go_wp2_with (first|((with_reducible refine gate_dst (N:=1) rfl ?_);refine box_event ?hg (N:=1) ?hd (cs:=#[.string a0_0,.int .i64 a0_1,.int .i64 a0_2,.slice A0_3 l0_3.length c0_3]) (t:=139) ?hr ?_;(case hd=>rfl);(case hg=>rfl);(case hr=>first|(go_simp;done)|(go_simp;rfl));intro gb126 hg w2 hbox hb;have n0_:=Aside0.mk (Kd.V_below (Kd.V_elderB (by (with_reducible repeat (first|apply Kd.V_alloc|apply Kd.V_drewN|apply Kd.V_drew));exact HO0_3.out) gb126 (Nat.le_of_eq hg.symm)) hb);have n1_:=Aside0.mk (below_step (by repeat (first|(with_reducible first|exact HB.out|apply below_alloc|apply pw_below_drewN|apply below_drew1)|exact HB.out)) hb);have n2_:=Aside0.mk (hbox);have n3_:=Aside0.mk ((by rw [hg];exact (below_size (by repeat (first|(with_reducible first|exact HB.out|apply below_alloc|apply pw_below_drewN|apply below_drew1)|exact HB.out))):w.heap.size<=gb126));have n4_:=Aside0.mk ((by rw [hg];exact (below_size (by repeat (first|(with_reducible first|exact HB.out|apply below_alloc|apply pw_below_drewN|apply below_drew1)|exact HB.out))):w.heap.size<=gb126));clear HO0_3;clear HB;have HO0_3:=n0_;have HB:=n1_;have BK126:=n2_;have GW126:=n3_;have GE126:=n4_;clear n0_ n1_ n2_ n3_ n4_;clear hb hbox hg)|((with_reducible refine gate_dst (N:=2) rfl ?_);refine box_event ?hg (N:=2) ?hd (cs:=#[.int .i64 0,.string (⟨#[]⟩:ByteArray),.int .i64 0,.slice none 0 0]) (t:=160) ?hr ?_;(case hd=>rfl);(case hg=>rfl);(case hr=>first|(go_simp;done)|(go_simp;rfl));intro gb127 hg w3 hbox hb;have n0_:=Aside0.mk (Kd.V_below (Kd.V_elderB (by (with_reducible repeat (first|apply Kd.V_alloc|apply Kd.V_drewN|apply Kd.V_drew));exact HO0_3.out) gb127 (Nat.le_of_eq hg.symm)) hb);have n1_:=Aside0.mk (blk_below (g:=gb126) (o:=.cells #[.string a0_0,.int .i64 a0_1,.int .i64 a0_2,.slice A0_3 l0_3.length c0_3] 139 (0,0)) (by (with_reducible repeat (first|refine blk_drewN ?_ _|refine blk_drew ?_|refine blk_alloc ?_ _));exact BK126.out) hb);have n2_:=Aside0.mk (below_step (by repeat (first|(with_reducible first|exact HB.out|apply below_alloc|apply pw_below_drewN|apply below_drew1|refine below_set ?_ GE126.out)|exact HB.out)) hb);have n3_:=Aside0.mk (hbox);have n4_:=Aside0.mk ((by rw [hg];exact (below_size (by repeat (first|(with_reducible first|exact HB.out|apply below_alloc|apply pw_below_drewN|apply below_drew1|refine below_set ?_ GE126.out)|exact HB.out))):w.heap.size<=gb127));have n5_:=Aside0.mk ((by rw [hg];exact (below_size (by repeat (first|(with_reducible first|exact HB.out|apply below_alloc|apply pw_below_drewN|apply below_drew1|refine below_set ?_ GE126.out)|exact HB.out))):w.heap.size<=gb127));have n6_:=Aside0.mk ((by rw [hg];exact Nat.ne_of_lt (blk_lt (g:=gb126) (o:=.cells #[.string a0_0,.int .i64 a0_1,.int .i64 a0_2,.slice A0_3 l0_3.length c0_3] 139 (0,0)) (by (with_reducible repeat (first|refine blk_drewN ?_ _|refine blk_drew ?_|refine blk_alloc ?_ _));exact BK126.out)):gb126≠gb127));have n7_:=Aside0.mk ((by rw [hg];exact Nat.ne_of_gt (blk_lt (g:=gb126) (o:=.cells #[.string a0_0,.int .i64 a0_1,.int .i64 a0_2,.slice A0_3 l0_3.length c0_3] 139 (0,0)) (by (with_reducible repeat (first|refine blk_drewN ?_ _|refine blk_drew ?_|refine blk_alloc ?_ _));exact BK126.out)):gb127≠gb126));clear HO0_3;clear BK126;clear HB;have HO0_3:=n0_;have BK126:=n1_;have HB:=n2_;have BK127:=n3_;have GW127:=n4_;have GE127:=n5_;have NB126_127:=n6_;have NB127_126:=n7_;clear n0_ n1_ n2_ n3_ n4_ n5_ n6_ n7_;clear hb hbox hg;have hnb4:=NB126_127.out;have hnc4:=NB127_126.out;have hcz5_0:w3.cell? ⟨gb126,0,none⟩=some (.string a0_0):=(blk_cell BK126.out 0).trans rfl;have hcz5_1:w3.cell? ⟨gb126,1,none⟩=some (.int .i64 a0_1):=(blk_cell BK126.out 1).trans rfl;have hcz5_2:w3.cell? ⟨gb126,2,none⟩=some (.int .i64 a0_2):=(blk_cell BK126.out 2).trans rfl;have hcz5_3:w3.cell? ⟨gb126,3,none⟩=some (.slice A0_3 l0_3.length c0_3):=(blk_cell BK126.out 3).trans rfl;have hfz5_0:=blk_frozen BK126.out 0;have hfz5_1:=blk_frozen BK126.out 1;have hfz5_2:=blk_frozen BK126.out 2;have hfz5_3:=blk_frozen BK126.out 3;have hcz6_0:w3.cell? ⟨gb127,0,none⟩=some (.int .i64 0):=(blk_cell BK127.out 0).trans rfl;have hcz6_1:w3.cell? ⟨gb127,1,none⟩=some (.string (⟨#[]⟩:ByteArray)):=(blk_cell BK127.out 1).trans rfl;have hcz6_2:w3.cell? ⟨gb127,2,none⟩=some (.int .i64 0):=(blk_cell BK127.out 2).trans rfl;have hcz6_3:w3.cell? ⟨gb127,3,none⟩=some (.slice none 0 0):=(blk_cell BK127.out 3).trans rfl;have hfz6_0:=blk_frozen BK127.out 0;have hfz6_1:=blk_frozen BK127.out 1;have hfz6_2:=blk_frozen BK127.out 2;have hfz6_3:=blk_frozen BK127.out 3))
 refine bodyPost_ret (results_cell_row rfl _ _ gb127 160 #[.int .i64 1,.string a0_0,.int .i64 a0_1,.slice A0_3 l0_3.length c0_3] (0,0) _ rfl (by (with_reducible repeat (first|refine blk_drewN ?_ _|refine blk_drew ?_|refine blk_alloc ?_ _));refine blk_put (cs:=#[.int .i64 1,.string a0_0,.int .i64 a0_1,.slice none 0 0]) ?_ 3 _ rfl;(with_reducible repeat (first|refine blk_drewN ?_ _|refine blk_drew ?_|refine blk_alloc ?_ _));refine blk_put (cs:=#[.int .i64 1,.string a0_0,.int .i64 0,.slice none 0 0]) ?_ 2 _ rfl;(with_reducible repeat (first|refine blk_drewN ?_ _|refine blk_drew ?_|refine blk_alloc ?_ _));refine blk_put (cs:=#[.int .i64 1,.string (⟨#[]⟩:ByteArray),.int .i64 0,.slice none 0 0]) ?_ 1 _ rfl;(with_reducible repeat (first|refine blk_drewN ?_ _|refine blk_drew ?_|refine blk_alloc ?_ _));refine blk_put (cs:=#[.int .i64 0,.string (⟨#[]⟩:ByteArray),.int .i64 0,.slice none 0 0]) ?_ 0 _ rfl;(with_reducible repeat (first|refine blk_drewN ?_ _|refine blk_drew ?_|refine blk_alloc ?_ _));exact BK127.out) Tryz.underlying160 rfl (by kernel_rfl)) rfl ?_
 exact ⟨_,by first|rfl|(simp [errW_none,errW_some] <;> rfl)|(simp [*,errW_none,errW_some] <;> rfl),by (with_reducible repeat (first|apply Kd.V_alloc|apply Kd.V_drewN|apply Kd.V_drew));exact Kd.V_mono (Kd.V_far (p:=⟨gb127,3,none⟩) (Kd.V_far (p:=⟨gb127,2,none⟩) (Kd.V_far (p:=⟨gb127,1,none⟩) (Kd.V_far (p:=⟨gb127,0,none⟩) (Kd.V_mono HO0_3.out (fun k_ hk=>(⟨hk,hk.2⟩:_/\k_≠gb127))) (fun _ hk=>hk.2) (.int .i64 1)) (fun _ hk=>hk.2) (.string a0_0)) (fun _ hk=>hk.2) (.int .i64 a0_1)) (fun _ hk=>hk.2) (.slice A0_3 l0_3.length c0_3)) (fun _ hk=>hk.1.1.1),by repeat (first|(with_reducible first|exact HB.out|apply below_alloc|apply pw_below_drewN|apply below_drew1|refine below_set ?_ GE126.out|refine below_set ?_ GE127.out)|exact HB.out)⟩
end Go.Proofs.YtmmcbncpnlknbaaGreat.PAll
