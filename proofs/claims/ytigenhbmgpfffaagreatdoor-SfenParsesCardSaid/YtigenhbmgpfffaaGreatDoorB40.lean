import Derived.Test.YtigenhbmgpfffaaGreatDoorB38
set_option maxRecDepth 100000
set_option maxHeartbeats 16000000
namespace Go.Proofs.YtigenhbmgpfffaaGreatDoor.Pa
open Go.RowKit Go.Proofs.YtigenhbmgpfffaaGreatDoorW.PrintWords Go.Proofs.YtigenhbmgpfffaaGreatDoorW.PrintLast Go.Proofs.YtigenhbmgpfffaaGreatDoorW.PrintMore
attribute [local go_sem] yE yC yM yL zo zn yD yB
set_option linter.unusedVariables false
set_option linter.unusedSimpArgs false
mutual
def jM.j0:Nat->ByteArray->Bool->Option (Int)
 | 0,_,_=>none
 | k+1,x0,x17=>if x17=true then(some 0) else(jM.l0 k x0 0 0)
def jM.l0:Nat->ByteArray->Int->Int->Option (Int)
 | 0,_,_,_=>none
 | k+1,x0,x3,x4=>if x4<(x0.size:Int) then(if 0<=x4 then(if(bt x0 x4)<48 then(some 0) else(if(bt x0 x4)>57 then(some 0) else(jM.l0 k x0 (wrap64 ((wrap64 (10*x3))+(((bt x0 x4)-48)%256))) (wrap64 (x4+1))))) else(none)) else(some x3)
end
def jM.f (k:Nat) (a0:ByteArray):Option (Int):=if(a0.size:Int)<1 then(jM.j0 k a0 true) else(if(a0.size:Int)>4 then(jM.j0 k a0 true) else(if 0<(a0.size:Int) then(jM.j0 k a0 ((bt a0 0)==48)) else(none)))
theorem jM.mono_l:∀k,(∀y0 y1,LeO (jM.j0 k y0 y1) (jM.j0 (k+1) y0 y1))/\(∀y0 y1 y2,LeO (jM.l0 k y0 y1 y2) (jM.l0 (k+1) y0 y1 y2))
 | 0=>⟨λ_ _ r h=>by simp [jM.j0] at h,λ_ _ _ r h=>by simp [jM.l0] at h⟩
 | k+1=>by
  obtain⟨ih0,ih1⟩:=jM.mono_l k;refine⟨?_,?_⟩
  ·intro y0 y1
   unfold jM.j0
   repeat' first
   | (with_reducible exact ih0 _ _)
   | (with_reducible exact ih1 _ _ _)
   | (with_reducible exact LeO.refl _)
   | (with_reducible exact LeO.none _)
   | (with_reducible refine LeO.ite ?_ ?_)
   | (with_reducible refine LeO.bind ?_ (λ_=>?_))
   | exact ih0 _ _
   | exact ih1 _ _ _
   | exact LeO.none _
   | refine LeO.ite ?_ ?_
   | refine LeO.bind ?_ (λ_=>?_)
  ·intro y0 y1 y2
   unfold jM.l0
   repeat' first
   | (with_reducible exact ih0 _ _)
   | (with_reducible exact ih1 _ _ _)
   | (with_reducible exact LeO.refl _)
   | (with_reducible exact LeO.none _)
   | (with_reducible refine LeO.ite ?_ ?_)
   | (with_reducible refine LeO.bind ?_ (λ_=>?_))
   | exact ih0 _ _
   | exact ih1 _ _ _
   | exact LeO.none _
   | refine LeO.ite ?_ ?_
   | refine LeO.bind ?_ (λ_=>?_)
theorem jM.mono:∀a0 k,LeO (jM.f k a0) (jM.f (k+1) a0):=by
 intro a0 k;obtain⟨ih0,ih1⟩:=jM.mono_l k;unfold jM.f
 repeat' first
   | (with_reducible exact ih0 _ _)
   | (with_reducible exact ih1 _ _ _)
   | (with_reducible exact LeO.refl _)
   | (with_reducible exact LeO.none _)
   | (with_reducible refine LeO.ite ?_ ?_)
   | (with_reducible refine LeO.bind ?_ (λ_=>?_))
   | exact ih0 _ _
   | exact ih1 _ _ _
   | exact LeO.none _
   | refine LeO.ite ?_ ?_
   | refine LeO.bind ?_ (λ_=>?_)
theorem jM.calls (k:Nat) (a0:ByteArray) (r:Int) (w:World) (h:jM.f k a0=some r):
  Calls Tryz.prog 37 #[.string a0] w λe w'=>e=.returned (.int .i64 r)/\Drawn0 w w':=by
 have H:(if(a0.size:Int)<1 then(jM.j0 k a0 true) else(if(a0.size:Int)>4 then(jM.j0 k a0 true) else(if 0<(a0.size:Int) then(jM.j0 k a0 ((bt a0 0)==48)) else(none))))=some r:=h;clear h;have HC2:=qA H;clear H;go_enter Tryz.func37,Tryz.ntmps37;go_upto_region 1 with(fail);go_cut [17] (λv17 wc=>∃(kq:Nat) (x17_1:Bool),v17=.bool x17_1/\Aside0 (jM.j0 kq a0 x17_1=some r)/\Aside0 (kq<=k)/\Drawn0 w wc)
 case first=>
  have H:=HC2.out;clear HC2
  by_cases c3:(a0.size:Int)<1
  ·rw[if_pos c3] at H
   have c3b0:decide ((a0.size:Int)<1)=true:=decide_eq_true c3;have c3b1:decide (a0.size<1)=true:=decide_eq_true (by omega);clear c3
   (first|rw[c3b0]|(simp only[zP,zd];rw[c3b0])|skip)
   have H':=qA H;clear H;go_wp2;go_meet
   case rel=>exact⟨_,(true),(by first|rfl|(simp;done)|(simp [*];done)),H',⟨by first|omega|exact Nat.le_refl _⟩,by repeat (first|exact Drawn0.refl _|apply Drawn0.step)⟩
  ·rw[if_neg c3] at H
   have c3b0:decide ((a0.size:Int)<1)=false:=decide_eq_false c3;have c3b1:decide (a0.size<1)=false:=decide_eq_false (by omega);clear c3
   (first|rw[c3b0]|(simp only[zP,zd];rw[c3b0])|skip)
   by_cases c4:(a0.size:Int)>4
   ·rw[if_pos c4] at H
    have c4b0:decide (4<(a0.size:Int))=true:=decide_eq_true c4;have c4b1:decide (4<a0.size)=true:=decide_eq_true (by omega);clear c4;have H':=qA H;clear H;go_wp2;go_meet
    case rel=>exact⟨_,(true),(by first|rfl|(simp;done)|(simp [*];done)),H',⟨by first|omega|exact Nat.le_refl _⟩,by repeat (first|exact Drawn0.refl _|apply Drawn0.step)⟩
   ·rw[if_neg c4] at H
    have c4b0:decide (4<(a0.size:Int))=false:=decide_eq_false c4;have c4b1:decide (4<a0.size)=false:=decide_eq_false (by omega);clear c4
    by_cases c5:0<(a0.size:Int)
    ·rw[if_pos c5] at H
     have c5b0:decide (0<(a0.size:Int))=true:=decide_eq_true c5;have c5b1:decide (0<a0.size)=true:=decide_eq_true (by omega);clear c5;have H':=qA H;clear H
     have p6:0<=(0:Int):=(by omega)
     have q6:0<a0.size:=(by have:(0:Int)<(a0.size:Int):=of_decide_eq_true (by first|(with_reducible assumption)|assumption);omega)
     have hx6:∀h:0<a0.size,((a0[0]'h).toNat:Int)=bt a0 0:=jA6 a0 0;clear p6;have qi6:(0<(a0.size:Int))=True:=eq_true (of_decide_eq_true (by first|(with_reducible assumption)|assumption));replace q6:=eq_true q6;go_wp2;go_meet
     case rel=>exact⟨_,(((bt a0 0)==48)),(by first|rfl|(simp;done)|(simp [*];done)),H',⟨by first|omega|exact Nat.le_refl _⟩,by repeat (first|exact Drawn0.refl _|apply Drawn0.step)⟩
    ·rw[if_neg c5] at H
     exact absurd H (by simp)
 case rest=>
  clear HC2
  try clear p2
  try clear c3
  try clear c3b0
  try clear c3b1
  try clear c4
  try clear c4b0
  try clear c4b1
  try clear c5
  try clear c5b0
  try clear c5b1
  try clear p6
  try clear q6
  try clear hx6
  try clear qi6
  try clear p6
  try clear q6
  obtain⟨kq,x17_1,rfl,HA,HJ1,⟨mc1,rfl⟩⟩:=hcut
  cases kq with
  | zero=>exact absurd HA.out (by simp [jM.j0])
  | succ kj1=>
   have H:=HA.out;clear HA;simp only[jM.j0] at H
   by_cases c7:x17_1=true
   ·subst c7
    have H1:(some 0)=some r:=by rw[if_pos rfl] at H;exact H
    clear H;have H:=H1;clear H1;obtain rfl:=Option.some.inj H;go_wp2;go_ret;exact⟨by first|rfl|(simp;done)|(simp [*];done),by repeat (first|exact Drawn0.refl _|apply Drawn0.step)⟩
   ·replace c7:=Bool.eq_false_iff.mpr c7
    subst c7
    have H1:(jM.l0 kj1 a0 0 0)=some r:=by rw[if_neg (show ¬(false=true) by decide)] at H;exact H
    clear H;have H:=H1;clear H1;have H':=qA H;clear H;go_wp2
    go_loopg [3,4] kj1 (λkq v3 v4 w'=>∃(x3_2:Int) (x4_2:Int),v3=.int .i64 x3_2/\v4=.int .i64 x4_2/\Aside0 (jM.l0 kq a0 x3_2 x4_2=some r)/\Aside0 (kq<=kj1)/\Drawn0 w w')
    case atStart=>exact⟨(0),(0),(by first|rfl|(simp;done)|(simp [*];done)),(by first|rfl|(simp;done)|(simp [*];done)),H',⟨Nat.le_refl _⟩,by repeat (first|exact Drawn0.refl _|apply Drawn0.step)⟩
    case round=>
     clear H'
     try clear c1
     try clear p2
     try clear c3
     try clear c3b0
     try clear c3b1
     try clear c4
     try clear c4b0
     try clear c4b1
     try clear c5
     try clear c5b0
     try clear c5b1
     try clear p6
     try clear q6
     try clear hx6
     try clear qi6
     try clear c7
     try clear p2
     try clear p6
     try clear q6
     obtain⟨x3_2,x4_2,rfl,rfl,HA,HK2,⟨m2,rfl⟩⟩:=hrel
     cases gk with
     | zero=>exact absurd HA.out (by simp [jM.l0])
     | succ k2=>
      have H:=HA.out;clear HA;simp only[jM.l0] at H
      by_cases c8:x4_2<(a0.size:Int)
      ·rw[if_pos c8] at H
       have c8b0:decide (x4_2<(a0.size:Int))=true:=decide_eq_true c8;clear c8
       by_cases c9:0<=x4_2
       ·rw[if_pos c9] at H
        have c9b0:decide (0<=x4_2)=true:=decide_eq_true c9;clear c9
        by_cases c11:(bt a0 x4_2)<48
        ·rw[if_pos c11] at H
         have c11b0:decide ((bt a0 x4_2)<48)=true:=decide_eq_true c11;clear c11;obtain rfl:=Option.some.inj H;have p10:0<=(x4_2:Int):=of_decide_eq_true (by first|(with_reducible assumption)|assumption);have q10:x4_2<(a0.size:Int):=of_decide_eq_true (by first|(with_reducible assumption)|assumption);have hx10:=jA6 a0 x4_2;replace p10:=eq_true p10;replace q10:=eq_true q10;go_wp2;go_ret;exact⟨by first|rfl|(simp;done)|(simp [*];done),by repeat (first|exact Drawn0.refl _|apply Drawn0.step)⟩
        ·rw[if_neg c11] at H
         have c11b0:decide ((bt a0 x4_2)<48)=false:=decide_eq_false c11;clear c11
         by_cases c13:(bt a0 x4_2)>57
         ·rw[if_pos c13] at H
          have c13b0:decide (57<(bt a0 x4_2))=true:=decide_eq_true c13;clear c13;obtain rfl:=Option.some.inj H;have p10:0<=(x4_2:Int):=of_decide_eq_true (by first|(with_reducible assumption)|assumption);have q10:x4_2<(a0.size:Int):=of_decide_eq_true (by first|(with_reducible assumption)|assumption);have hx10:=jA6 a0 x4_2;replace p10:=eq_true p10;replace q10:=eq_true q10;have p12:0<=(x4_2:Int):=of_decide_eq_true (by first|(with_reducible assumption)|assumption);have q12:x4_2<(a0.size:Int):=of_decide_eq_true (by first|(with_reducible assumption)|assumption);have hx12:=jA6 a0 x4_2;replace p12:=eq_true p12;replace q12:=eq_true q12;go_wp2;go_ret;exact⟨by first|rfl|(simp;done)|(simp [*];done),by repeat (first|exact Drawn0.refl _|apply Drawn0.step)⟩
         ·rw[if_neg c13] at H
          have c13b0:decide (57<(bt a0 x4_2))=false:=decide_eq_false c13;clear c13;have H':=qA H;clear H;have p10:0<=(x4_2:Int):=of_decide_eq_true (by first|(with_reducible assumption)|assumption);have q10:x4_2<(a0.size:Int):=of_decide_eq_true (by first|(with_reducible assumption)|assumption);have hx10:=jA6 a0 x4_2;replace p10:=eq_true p10;replace q10:=eq_true q10;have p12:0<=(x4_2:Int):=of_decide_eq_true (by first|(with_reducible assumption)|assumption);have q12:x4_2<(a0.size:Int):=of_decide_eq_true (by first|(with_reducible assumption)|assumption);have hx12:=jA6 a0 x4_2;replace p12:=eq_true p12;replace q12:=eq_true q12;have p14:0<=(x4_2:Int):=of_decide_eq_true (by first|(with_reducible assumption)|assumption);have q14:x4_2<(a0.size:Int):=of_decide_eq_true (by first|(with_reducible assumption)|assumption);have hx14:=jA6 a0 x4_2;replace p14:=eq_true p14;replace q14:=eq_true q14;go_wp2
          go_roundg k2
          case measure=>have:=HJ1.out;have:=HK2.out;omega
          case rel=>exact⟨(wrap64 ((wrap64 (10*x3_2))+(((bt a0 x4_2)-48)%256))),(wrap64 (x4_2+1)),(by first|rfl|(simp;done)|(simp [*];done)),(by first|rfl|(simp;done)|(simp [*];done)),H',⟨by have:=HJ1.out;have:=HK2.out;omega⟩,by repeat (first|exact Drawn0.refl _|apply Drawn0.step)⟩
       ·rw[if_neg c9] at H
        exact absurd H (by simp)
      ·rw[if_neg c8] at H
       have c8b0:decide (x4_2<(a0.size:Int))=false:=decide_eq_false c8;clear c8;obtain rfl:=Option.some.inj H;go_wp2;go_ret;exact⟨by first|rfl|(simp;done)|(simp [*];done),by repeat (first|exact Drawn0.refl _|apply Drawn0.step)⟩
def jZ.l0:Nat->ByteArray->Int->Option (Int)
 | 0,_,_=>none
 | k+1,x0,x3=>if x3<32 then((jU.f k x3).bind λt293=>(if t293.toList=x0.toList then(if x0.toList=([]:List UInt8) then(jZ.l0 k x0 (wrap64 (x3+1))) else(some x3)) else(jZ.l0 k x0 (wrap64 (x3+1))))) else(some 0)
def jZ.f (k:Nat) (a0:ByteArray):Option (Int):=jZ.l0 k a0 1
theorem jZ.mono_l:∀k,(∀y0 y1,LeO (jZ.l0 k y0 y1) (jZ.l0 (k+1) y0 y1))
 | 0=>λ_ _ r h=>by simp [jZ.l0] at h
 | k+1=>by
  have ih0:=jZ.mono_l k
  ·intro y0 y1
   unfold jZ.l0
   repeat' first
   | (with_reducible exact ih0 _ _)
   | (with_reducible exact jU.mono _ _)
   | (with_reducible exact LeO.refl _)
   | (with_reducible exact LeO.none _)
   | (with_reducible refine LeO.ite ?_ ?_)
   | (with_reducible refine LeO.bind ?_ (λ_=>?_))
   | exact ih0 _ _
   | exact jU.mono _ _
   | exact LeO.none _
   | refine LeO.ite ?_ ?_
   | refine LeO.bind ?_ (λ_=>?_)
theorem jZ.mono:∀a0 k,LeO (jZ.f k a0) (jZ.f (k+1) a0):=by
 intro a0 k;have ih0:=jZ.mono_l k;unfold jZ.f
 repeat' first
   | (with_reducible exact ih0 _ _)
   | (with_reducible exact jU.mono _ _)
   | (with_reducible exact LeO.refl _)
   | (with_reducible exact LeO.none _)
   | (with_reducible refine LeO.ite ?_ ?_)
   | (with_reducible refine LeO.bind ?_ (λ_=>?_))
   | exact ih0 _ _
   | exact jU.mono _ _
   | exact LeO.none _
   | refine LeO.ite ?_ ?_
   | refine LeO.bind ?_ (λ_=>?_)
theorem jZ.calls (k:Nat) (a0:ByteArray) (r:Int) (w:World) (h:jZ.f k a0=some r):
  Calls Tryz.prog 56 #[.string a0] w λe w'=>e=.returned (.int .i64 r)/\Below w.heap.size w w':=by
 have HB:=qA (Below.refl w.heap.size w);have H:(jZ.l0 k a0 1)=some r:=h;clear h;have H':=qA H;clear H;go_enter Tryz.func56,Tryz.ntmps56;go_wp2
 go_loopg [3] k (λkq v3 w'=>∃(x3_1:Int),v3=.int .i64 x3_1/\Aside0 (jZ.l0 kq a0 x3_1=some r)/\Aside0 (kq<=k)/\Aside0 (Below w.heap.size w w'))
 case atStart=>exact⟨(1),(by first|rfl|(simp;done)|(simp [*];done)),H',⟨Nat.le_refl _⟩,⟨qH HB⟩⟩
 case round=>
  clear H';obtain⟨x3_1,rfl,HA,HK1,HB⟩:=hrel
  cases gk with
  | zero=>exact absurd HA.out (by simp [jZ.l0])
  | succ k1=>
   have H:=HA.out;clear HA;simp only[jZ.l0] at H
   by_cases c2:x3_1<32
   ·rw[if_pos c2] at H
    have c2b0:decide (x3_1<32)=true:=decide_eq_true c2;clear c2;replace H:=Option.bind_eq_some_iff.mp H;obtain⟨t293,A30,H⟩:=H;replace H:(if t293.toList=a0.toList then(if a0.toList=([]:List UInt8) then(jZ.l0 k1 a0 (wrap64 (x3_1+1))) else(some x3_1)) else(jZ.l0 k1 a0 (wrap64 (x3_1+1))))=some r:=H;have A3:=qA A30;clear A30
    by_cases c4:t293.toList=a0.toList
    ·rw[if_pos c4] at H
     have c4b0:(t293.toList==a0.toList)=true:=beq_iff_eq.mpr c4;have c4b1:(t293.toList != a0.toList)=false:=bne_eq_false_iff_eq.mpr c4;clear c4
     by_cases c5:a0.toList=([]:List UInt8)
     ·rw[if_pos c5] at H
      have c5b0:(a0.toList==([]:List UInt8))=true:=beq_iff_eq.mpr c5;have c5b1:(a0.toList != ([]:List UInt8))=false:=bne_eq_false_iff_eq.mpr c5;clear c5;have H':=qA H;clear H
      go_wp2_with (first|((with_reducible refine jV (f:=53) rfl ?_);refine zB (some 9) rfl rfl Tryz.func53 (by kernel_rfl) rfl #[.int .i64 x3_1] rfl (by (try simp only[List.map_toArray,List.map_cons,List.map_nil]);first|done|rfl|(simp only[List.length_drop,List.length_take];rfl)) ?_;(with_reducible refine(jU.calls k1 x3_1 t293 _ A3.out).mono ?_);rintro e w6 ⟨rfl,hb⟩;refine⟨_,rfl,?_⟩;replace HB:=qA (jX (qH HB) hb);(try clear hb);(try clear hb2);(try clear hk);(try clear hi)))
      go_roundg k1
      case measure=>have:=HK1.out;omega
      case rel=>exact⟨(wrap64 (x3_1+1)),(by first|rfl|(simp;done)|(simp [*];done)),H',⟨by have:=HK1.out;omega⟩,⟨qH HB⟩⟩
     ·rw[if_neg c5] at H
      have c5b0:(a0.toList==([]:List UInt8))=false:=beq_eq_false_iff_ne.mpr c5;have c5b1:(a0.toList != ([]:List UInt8))=true:=bne_iff_ne.mpr c5;obtain rfl:=Option.some.inj H
      go_wp2_with (first|((with_reducible refine jV (f:=53) rfl ?_);refine zB (some 9) rfl rfl Tryz.func53 (by kernel_rfl) rfl #[.int .i64 x3_1] rfl (by (try simp only[List.map_toArray,List.map_cons,List.map_nil]);first|done|rfl|(simp only[List.length_drop,List.length_take];rfl)) ?_;(with_reducible refine(jU.calls k1 x3_1 t293 _ A3.out).mono ?_);rintro e w7 ⟨rfl,hb⟩;refine⟨_,rfl,?_⟩;replace HB:=qA (jX (qH HB) hb);(try clear hb);(try clear hb2);(try clear hk);(try clear hi)))
      go_ret;exact⟨by first|rfl|(simp [jL,jK]<;>rfl)|(simp [*,jL,jK]<;>rfl)|(simp [*,jL,jK];generalize ByteArray.toList _=q_;cases q_<;>rfl),qH HB⟩
    ·rw[if_neg c4] at H
     have c4b0:(t293.toList==a0.toList)=false:=beq_eq_false_iff_ne.mpr c4;have c4b1:(t293.toList != a0.toList)=true:=bne_iff_ne.mpr c4;have H':=qA H;clear H
     go_wp2_with (first|((with_reducible refine jV (f:=53) rfl ?_);refine zB (some 9) rfl rfl Tryz.func53 (by kernel_rfl) rfl #[.int .i64 x3_1] rfl (by (try simp only[List.map_toArray,List.map_cons,List.map_nil]);first|done|rfl|(simp only[List.length_drop,List.length_take];rfl)) ?_;(with_reducible refine(jU.calls k1 x3_1 t293 _ A3.out).mono ?_);rintro e w8 ⟨rfl,hb⟩;refine⟨_,rfl,?_⟩;replace HB:=qA (jX (qH HB) hb);(try clear hb);(try clear hb2);(try clear hk);(try clear hi)))
     go_roundg k1
     case measure=>have:=HK1.out;omega
     case rel=>exact⟨(wrap64 (x3_1+1)),(by first|rfl|(simp;done)|(simp [*];done)),H',⟨by have:=HK1.out;omega⟩,⟨qH HB⟩⟩
   ·rw[if_neg c2] at H
    have c2b0:decide (x3_1<32)=false:=decide_eq_false c2;clear c2;obtain rfl:=Option.some.inj H;go_wp2;go_ret;exact⟨by first|rfl|(simp [jL,jK]<;>rfl)|(simp [*,jL,jK]<;>rfl)|(simp [*,jL,jK];generalize ByteArray.toList _=q_;cases q_<;>rfl),qH HB⟩
def jAE (x:ByteArray):Int:=(jZ.f 60 x).getD 0
def jO.z9:List Int:=[0,0,0,0,0,0,0,0,0]
theorem yS:(Tryz.prog.info? 72).map (·.size)=some 9:=by kernel_rfl
theorem yw {ops:Array Oper} {rest:List Oper} {o:Oper} {a:Act} {Q:Exit->Act->World->Prop} {W:World} (hgd:o.guard=none) (x y:Operand) (ho:o.op=.store 72 x y) {g:Nat} {t:TypeId} {l:List Int} {C:Array Value} (hx:a.eval x=.pointer (some ⟨g,0,none⟩)) (hy:a.eval y=.agg (iv l)) (hb:W.heap[g]?=some (.cells C t (0,0))) (hC:C.size=9) (hl:l.length=9)
  (h:∀W',W'.heap[g]?=some (.cells (iv l) t (0,0))->(∀B w0,B<=g->Below B w0 W->Below B w0 W')->(∀k,k≠g->W'.heap[k]?=W.heap[k]?)->wpList Tryz.prog ops Q rest (a.put o.dst undef) W'):wpList Tryz.prog ops Q (o::rest) a W:=by
 have hsz:(iv l).size=9:=by rw[yU,hl]
 have hone:(iv l).all (·.oneCell')=true:=all_oneCell_toArray (λv hv=>by
  obtain⟨b,_,rfl⟩:=List.mem_map.1 hv
  rfl)
 refine wpList_plain hgd λ_ hK=>wp_store_mid _ x y ho g 0 (iv l) hx hy (jA.thr hb _ (by omega)) (by rw[yS,hsz]) hone (hK _ _ ?_);obtain⟨cur',h1,h2,h3⟩:=yl (iv l).toList 0 W C hb (by rw[Array.length_toList];omega)
 have e:cur'=iv l:=by
  apply Array.toList_inj.1
  rw[h3];simp only[List.take_zero,List.nil_append,Nat.zero_add];rw[List.drop_of_length_le (by rw[Array.length_toList,Array.length_toList];omega),List.append_nil]
 rw[e] at h1;exact h _ h1 (λB w0 hB hb0=>below_setCells hB _ 0 W hb0) (λk hk=>yT _ 0 k hk)
def jO.two (s:ByteArray) (i:Nat):Nat:=if bt s i=43/\i+1<s.size then 1 else 0
def jO.go (s:ByteArray):Nat->Nat->Int->List Int->List Int×Bool
 | 0,_,f,out=>(out,f == -1)
 | n+1,i,f,out=>if i<s.size then
   (if 49<=bt s i/\bt s i<=57 then
    (if f-(bt s i-48) < -1\/(0<i/\49<=bt s ((i-1:Nat):Int)/\bt s ((i-1:Nat):Int)<=57) then(out,false) else jO.go s n (i+1) (f-(bt s i-48)) out)
   else if jAE (s.extract i (i+1+jO.two s i))=0\/f<0 then(out,false) else jO.go s n (i+jO.two s i+1) (f-1) (out.set f.toNat (jAE (s.extract i (i+1+jO.two s i)))))
  else(out,f == -1)
def jO.f (s:ByteArray):List Int×Bool:=jO.go s s.size 0 8 jO.z9
theorem jO.one_calls (s:ByteArray) (R:List Int) (ok:Bool) (w:World) (hsz:s.size<=1000) (hNm:∀x:ByteArray,jZ.f 60 x=some (jAE x)) (h:jO.f s=(R,ok)):
  Calls Tryz.prog 38 #[.string s] w λe w'=>e=.returned (.tuple #[.agg (iv R),.bool ok])/\R.length=9/\Below w.heap.size w w':=by
 have HNA:=qA hNm;have HR:=qA h;clear hNm h;have hz:=jAO (t:=72) (c:=iv jO.z9) (by kernel_rfl);have B2:(w.alloc (Obj.cells (iv jO.z9) 72)).heap[w.heap.size]?=some (.cells (iv jO.z9) 72 (0,0)):=zJ w _;have BB:Below w.heap.size w (w.alloc (Obj.cells (iv jO.z9) 72)):=ji (Below.refl _ _) _
 have hsz1:(w.alloc (Obj.cells (iv jO.z9) 72)).heap.size=w.heap.size+1:=by simp [go_sem]
 have HZB:Aside0 (∀W,(Instr.build 72 #[]).run Tryz.prog W=.ok (.agg (iv jO.z9)) W):=⟨λW=>run_build W 72 _ _ (by kernel_rfl)⟩
 have hzb:=HZB.out;go_enter Tryz.func38,Tryz.ntmps38;go_upto_region 1 with(fail);generalize (w.alloc (Obj.cells (iv jO.z9) 72))=W at *
 have B3:(W.alloc (Obj.cells (iv jO.z9) 72)).heap[w.heap.size+1]?=some (.cells (iv jO.z9) 72 (0,0)):=by
  have e:=zJ W (Obj.cells (iv jO.z9) 72);rw[hsz1] at e;exact e
 go_upto_region 2 with(first|((with_reducible refine jW (t:=72) (p:=4) (v:=.tmp 8) rfl ?_);refine yw rfl (.tmp 4) (.tmp 8) rfl rfl rfl B3 (by rw[yU];rfl) rfl ?_;intro W3 s1 s2 s3))
 obtain⟨g,hg⟩:∃g,g=w.heap.size+1:=⟨_,rfl⟩
 rw[<- hg] at s1 s2 s3 ⊢;have K2:=qA ((s3 w.heap.size (by omega)).trans (jI B2 (Obj.cells (iv jO.z9) 72)));have K4:=qA s1;have KB:=qA (s2 w.heap.size w (by omega) (ji BB (Obj.cells (iv jO.z9) 72)));have HG:=qA (show w.heap.size<g by omega);clear B2 B3 BB s1 s2 s3 hz hzb hg hsz1 HZB;go_wp2
 go_loopg [5,6] (s.size+1) (λgf s5 s6 wx=>∃(f:Int) (i n:Nat) (out:List Int),s5=.int .i64 f/\s6=.int .i64 (i:Int)/\-1<=f/\f<=8/\i<=s.size/\s.size<=i+n/\Aside0 (out.length=9)/\Aside0 (jO.go s n i f out=(R,ok))/\Aside0 (wx.heap[w.heap.size]?=some (.cells (iv jO.z9) 72 (0,0)))/\Aside0 (wx.heap[g]?=some (.cells (iv out) 72 (0,0)))/\Aside0 (Below w.heap.size w wx)/\s.size+1<=gf+i)
 case atStart=>exact⟨8,0,s.size,jO.z9,rfl,rfl,by omega,by omega,by omega,by omega,⟨rfl⟩,HR,K2,K4,KB,by omega⟩
 case round=>
  clear K2 K4 KB HR;obtain⟨f,i,n,out,rfl,rfl,hf0,hf8,his,hin,HOL,HR,K2,K4,KB,hgf⟩:=hrel
  obtain⟨g',rfl⟩:∃g',gk=g'+1:=⟨gk-1,by omega⟩
  by_cases hend:i=s.size
  ·have e:(out,f == -1)=(R,ok):=by
    have e:=HR.out
    cases n with
    | zero=>exact e
    | succ n=>
     unfold jO.go at e;rw[if_neg (by omega)] at e;exact e
   obtain⟨rfl,rfl⟩:=Prod.mk.inj e;have b0:decide ((i:Int)<(s.size:Int))=false:=decide_eq_false (by omega);have b1:((i:Int)<(s.size:Int))=False:=eq_false (by omega);have b2:(i<s.size)=False:=eq_false (by omega);clear e HR
   go_wp2_with (first|((with_reducible refine jG (N:=90) rfl ?_);refine jA3 rfl 72 (.tmp 4) rfl rfl K4.out Tryz.underlying72 rfl (by rw[yS,HOL.out]) ?_)|((with_reducible refine jW (t:=72) (p:=2) (v:=.tmp 90) rfl ?_);refine yw rfl (.tmp 2) (.tmp 90) rfl rfl rfl K2.out (by rw[yU];rfl) HOL.out ?_;intro W3 s1 s2 s3;have S1:=qA s1;have S2:=qA (s2 _ _ (Nat.le_refl _) KB.out);clear s1 s2 s3))
   refine bodyPost_ret (jy (p:=2) (u:=3) (ty:=72) rfl _ _ w.heap.size 72 (iv out) (0,0) _ rfl S1.out Tryz.underlying72 rfl (by rw[yS,yU,HOL.out])) rfl ?_;exact⟨rfl,HOL.out,S2.out⟩
  ·obtain⟨n,rfl⟩:∃m,n=m+1:=⟨n-1,by omega⟩
   have hlt:i<s.size:=by omega
   have e:=HR.out;unfold jO.go at e;rw[if_pos hlt] at e;have b0:decide ((i:Int)<(s.size:Int))=true:=decide_eq_true (by omega);have b1:((i:Int)<(s.size:Int))=True:=eq_true (by omega);have b2:(i<s.size)=True:=eq_true hlt;have b3:(0<=(i:Int))=True:=eq_true (by omega);have hbx:∀h:i<s.size,((s[i]'h).toNat:Int)=bt s i:=jA6 s i;have hbr:=bt_range s i
   obtain⟨c,hc⟩:∃c,c=bt s i:=⟨_,rfl⟩
   rw[<- hc] at e hbx hbr;have ew:IntKind.i64.wrap ((i:Int)+1)=(i:Int)+1:=IntWalk.i64_in _ (by omega);clear HR
   by_cases hd:49<=c/\c<=57
   ·rw[if_pos hd] at e
    have t1:decide (49<=c)=true:=decide_eq_true hd.1;have t2:decide (c<=57)=true:=decide_eq_true hd.2;have t3:(49<=c)=True:=eq_true hd.1;have t4:(c<=57)=True:=eq_true hd.2
    obtain⟨f2,hf2⟩:∃f2,f2=f-(c-48):=⟨_,rfl⟩
    have q1:IntKind.u8.wrap (c-48)=c-48:=by rw[IntKind.wrap_u8];omega
    have q2:IntKind.i64.wrap (c-48)=c-48:=IntWalk.i64_in _ (by omega)
    have q3:IntKind.i64.wrap (f-(c-48))=f2:=by rw[IntWalk.i64_in _ (by omega),hf2]
    rw[<- hf2] at e
    have hfb:-10<=f2/\f2<=8:=by omega
    have HF:=qA hf2;have HC:=qA hc;clear hf2 hc;go_upto_region 8 with(fail);have hret:∀X:List Int×Bool,(if f2 < -1\/(0<i/\49<=bt s ((i-1:Nat):Int)/\bt s ((i-1:Nat):Int)<=57) then(out,false) else X)=if f2 < -1\/(0<i/\49<=bt s ((i-1:Nat):Int)/\bt s ((i-1:Nat):Int)<=57) then(out,false) else X:=λ_=>rfl;clear hret
    by_cases h1:f2 < -1
    ·rw[if_pos (.inl h1)] at e
     obtain⟨rfl,rfl⟩:=Prod.mk.inj e;have u1:decide (f2 < -1)=true:=decide_eq_true h1;have u2:(f2 < -1)=True:=eq_true h1;clear e
     go_wp2_with (first|((with_reducible refine jG (N:=52) rfl ?_);refine jA3 rfl 72 (.tmp 4) rfl rfl K4.out Tryz.underlying72 rfl (by rw[yS,HOL.out]) ?_)|((with_reducible refine jW (t:=72) (p:=2) (v:=.tmp 52) rfl ?_);refine yw rfl (.tmp 2) (.tmp 52) rfl rfl rfl K2.out (by rw[yU];rfl) HOL.out ?_;intro W3 s1 s2 s3;have S1:=qA s1;have S2:=qA (s2 _ _ (Nat.le_refl _) KB.out);clear s1 s2 s3))
     refine bodyPost_ret (jy (p:=2) (u:=3) (ty:=72) rfl _ _ w.heap.size 72 (iv out) (0,0) _ rfl S1.out Tryz.underlying72 rfl (by rw[yS,yU,HOL.out])) rfl ?_;exact⟨rfl,HOL.out,S2.out⟩
    ·have u1:decide (f2 < -1)=false:=decide_eq_false h1
     have u2:(f2 < -1)=False:=eq_false h1
     by_cases hi0:i=0
     ·rw[if_neg (by omega)] at e
      have HE:=qA e;have v1:decide (0<(i:Int))=false:=decide_eq_false (by omega);have v2:(0<(i:Int))=False:=eq_false (by omega);have v3:(0<i)=False:=eq_false (by omega);clear e;go_wp2
      go_roundg g'
      case measure=>omega
      case rel=>exact⟨f2,i+1,n,out,rfl,by first|(simp;done)|(simp [*];done),by omega,by omega,by omega,by omega,HOL,HE,K2,K4,KB,by omega⟩
     ·have v1:decide (0<(i:Int))=true:=decide_eq_true (by omega)
      have v2:(0<(i:Int))=True:=eq_true (by omega);have v3:(0<i)=True:=eq_true (by omega)
      obtain⟨j,hj⟩:∃j:Nat,j=i-1:=⟨_,rfl⟩
      rw[<- hj] at e
      have w1:IntKind.i64.wrap ((i:Int)-1)=(j:Int):=by rw[IntWalk.i64_in _ (by omega)];omega
      have w2:(j<s.size)=True:=eq_true (by omega);have w3:(0<=(j:Int))=True:=eq_true (by omega);have w4:((j:Int)<(s.size:Int))=True:=eq_true (by omega);have hby:∀h:j<s.size,((s[j]'h).toNat:Int)=bt s j:=jA6 s j;have hbz:=bt_range s j;generalize bt s (j:Int)=y at e hby hbz;have HJ:=qA hj;clear hj
      by_cases y1:49<=y
      ·have x1:decide (49<=y)=true:=decide_eq_true y1
       have x2:(49<=y)=True:=eq_true y1
       by_cases y2:y<=57
       ·have x3:decide (y<=57)=true:=decide_eq_true y2
        have x4:(y<=57)=True:=eq_true y2;rw[if_pos (.inr ⟨by omega,y1,y2⟩)] at e;obtain⟨rfl,rfl⟩:=Prod.mk.inj e;clear e
        go_wp2_with (first|((with_reducible refine jG (N:=52) rfl ?_);refine jA3 rfl 72 (.tmp 4) rfl rfl K4.out Tryz.underlying72 rfl (by rw[yS,HOL.out]) ?_)|((with_reducible refine jW (t:=72) (p:=2) (v:=.tmp 52) rfl ?_);refine yw rfl (.tmp 2) (.tmp 52) rfl rfl rfl K2.out (by rw[yU];rfl) HOL.out ?_;intro W3 s1 s2 s3;have S1:=qA s1;have S2:=qA (s2 _ _ (Nat.le_refl _) KB.out);clear s1 s2 s3))
        refine bodyPost_ret (jy (p:=2) (u:=3) (ty:=72) rfl _ _ w.heap.size 72 (iv out) (0,0) _ rfl S1.out Tryz.underlying72 rfl (by rw[yS,yU,HOL.out])) rfl ?_;exact⟨rfl,HOL.out,S2.out⟩
       ·have x3:decide (y<=57)=false:=decide_eq_false y2
        have x4:(y<=57)=False:=eq_false y2;rw[if_neg (by omega)] at e;have HE:=qA e;clear e;go_wp2
        go_roundg g'
        case measure=>omega
        case rel=>exact⟨f2,i+1,n,out,rfl,by first|(simp;done)|(simp [*];done),by omega,by omega,by omega,by omega,HOL,HE,K2,K4,KB,by omega⟩
      ·have x1:decide (49<=y)=false:=decide_eq_false y1
       have x2:(49<=y)=False:=eq_false y1;rw[if_neg (by omega)] at e;have HE:=qA e;clear e;go_wp2
       go_roundg g'
       case measure=>omega
       case rel=>exact⟨f2,i+1,n,out,rfl,by first|(simp;done)|(simp [*];done),by omega,by omega,by omega,by omega,HOL,HE,K2,K4,KB,by omega⟩
   ·rw[if_neg hd] at e
    -- the name
    obtain⟨e2,he2⟩:∃e2,e2=jO.two s i:=⟨_,rfl⟩
    rw[<- he2] at e
    have he01:e2=0\/e2=1:=by rw[he2];unfold jO.two;split<;>simp
    obtain⟨j,hj⟩:∃j:Nat,j=i+e2:=⟨_,rfl⟩
    obtain⟨U,hU⟩:∃U,U=s.extract i (i+1+e2):=⟨_,rfl⟩
    obtain⟨V,hV⟩:∃V,V=s.extract i (i+1):=⟨_,rfl⟩
    rw[<- hU,<- hj] at e;have HNM:=qA (HNA.out U);generalize jAE U=v at HNM e;have ew2:IntKind.i64.wrap ((i:Int)+2)=(i:Int)+2:=IntWalk.i64_in _ (by omega)
    have hsV:∀W,(Instr.slice 9 (.string s) (some (.int .i64 (i:Int))) (some (.int .i64 ((i:Int)+1))) none).run Tryz.prog W=.ok (.string V) W:=λW=>by
     rw[run_slice_string W 9 _ .i64 .i64 _ _ Tryz.underlying9 (by omega) (by omega) (by show(i:Int)+1<=s.size;omega),Int.toNat_natCast,show((i:Int)+1).toNat=i+1 by omega,<- hV]
    have hj2:i<=j/\j<=i+1/\(e2=1->i+1<s.size):=by
     refine⟨by omega,by omega,λh=>?_⟩;rw[he2] at h;unfold jO.two at h
     by_cases hh:bt s i=43/\i+1<s.size
     ·exact hh.2
     ·rw[if_neg hh] at h;omega
    have ewj:IntKind.i64.wrap ((j:Int)+1)=(j:Int)+1:=IntWalk.i64_in _ (by omega);have HE:=qA e;clear e
    have hnd:(49<=c)=False\/(49<=c)=True/\(c<=57)=False:=by
     by_cases h1:49<=c
     ·exact .inr ⟨eq_true h1,eq_false (by omega)⟩
     ·exact .inl (eq_false h1)
    have HUJ:(c=43/\i+1<s.size/\e2=1)\/(c=43/\¬i+1<s.size/\e2=0)\/(c≠43/\e2=0):=by
     rw[he2,hc];unfold jO.two
     by_cases h1:bt s i=43
     ·by_cases h2:i+1<s.size
      ·exact .inl ⟨h1,h2,if_pos ⟨h1,h2⟩⟩
      ·exact .inr (.inl ⟨h1,h2,if_neg λz=>h2 z.2⟩)
     ·exact .inr (.inr ⟨h1,if_neg λz=>h1 z.1⟩)
    have HH:=qA he2;have HC:=qA hc;clear he2 hc hd
    rcases hnd with n1|⟨n1,n2⟩
    all_goals (
     rcases HUJ with⟨c43,hsz2,rfl⟩|⟨c43,hsz2,rfl⟩|⟨c43,rfl⟩
     ·subst c43
      have hsU:∀W,(Instr.slice 9 (.string s) (some (.int .i64 (i:Int))) (some (.int .i64 ((i:Int)+2))) none).run Tryz.prog W=.ok (.string U) W:=λW=>by
       rw[run_slice_string W 9 _ .i64 .i64 _ _ Tryz.underlying9 (by omega) (by omega) (by show(i:Int)+2<=s.size;omega),Int.toNat_natCast,show((i:Int)+2).toNat=i+1+1 by omega,<- hU]
      have m1:decide ((i:Int)+1<(s.size:Int))=true:=decide_eq_true (by omega);have m2:((i:Int)+1<(s.size:Int))=True:=eq_true (by omega);have m3:(i+1<s.size)=True:=eq_true hsz2
      have m4:IntKind.i64.wrap ((i:Int)+1)=(j:Int):=by rw[IntWalk.i64_in _ (by omega)];omega
      have hij:(i:Int)+1=(j:Int):=by omega
      rw[hij] at hsV m1 m2;have m5:(j<s.size)=True:=eq_true (by omega);clear hj ew hU hV hij m3;go_upto_region 14 with(fail)
      by_cases hv:v=0
      ·have q1:(v==0)=true:=beq_iff_eq.mpr hv
       have e:=HE.out;rw[if_pos (.inl hv)] at e;obtain⟨rfl,rfl⟩:=Prod.mk.inj e;clear e
       go_wp2_with (first|(go_at_call 56;(with_reducible refine(jZ.calls 60 _ _ _ HNM.out).mono ?_);rintro e_ w7 ⟨rfl,hb⟩;replace K2:=qB K2 hb;replace K4:=qB K4 hb;replace KB:=qS KB hb;clear hb)|((with_reducible refine jG (N:=83) rfl ?_);refine jA3 rfl 72 (.tmp 4) rfl rfl K4.out Tryz.underlying72 rfl (by rw[yS,HOL.out]) ?_)|((with_reducible refine jW (t:=72) (p:=2) (v:=.tmp 83) rfl ?_);refine yw rfl (.tmp 2) (.tmp 83) rfl rfl rfl K2.out (by rw[yU];rfl) HOL.out ?_;intro W3 s1 s2 s3;have S1:=qA s1;have S2:=qA (s2 _ _ (Nat.le_refl _) KB.out);clear s1 s2 s3))
       refine bodyPost_ret (jy (p:=2) (u:=3) (ty:=72) rfl _ _ w.heap.size 72 (iv out) (0,0) _ rfl S1.out Tryz.underlying72 rfl (by rw[yS,yU,HOL.out])) rfl ?_;exact⟨rfl,HOL.out,S2.out⟩
      ·have q1:(v==0)=false:=beq_eq_false_iff_ne.mpr hv
       by_cases hf:f<0
       ·have q2:decide (f<0)=true:=decide_eq_true hf
        have q3:(f<0)=True:=eq_true hf;have e:=HE.out;rw[if_pos (.inr hf)] at e;obtain⟨rfl,rfl⟩:=Prod.mk.inj e;clear e
        go_wp2_with (first|(go_at_call 56;(with_reducible refine(jZ.calls 60 _ _ _ HNM.out).mono ?_);rintro e_ w7 ⟨rfl,hb⟩;replace K2:=qB K2 hb;replace K4:=qB K4 hb;replace KB:=qS KB hb;clear hb)|((with_reducible refine jG (N:=83) rfl ?_);refine jA3 rfl 72 (.tmp 4) rfl rfl K4.out Tryz.underlying72 rfl (by rw[yS,HOL.out]) ?_)|((with_reducible refine jW (t:=72) (p:=2) (v:=.tmp 83) rfl ?_);refine yw rfl (.tmp 2) (.tmp 83) rfl rfl rfl K2.out (by rw[yU];rfl) HOL.out ?_;intro W3 s1 s2 s3;have S1:=qA s1;have S2:=qA (s2 _ _ (Nat.le_refl _) KB.out);clear s1 s2 s3))
        refine bodyPost_ret (jy (p:=2) (u:=3) (ty:=72) rfl _ _ w.heap.size 72 (iv out) (0,0) _ rfl S1.out Tryz.underlying72 rfl (by rw[yS,yU,HOL.out])) rfl ?_;exact⟨rfl,HOL.out,S2.out⟩
       ·have q2:decide (f<0)=false:=decide_eq_false hf
        have q3:(f<0)=False:=eq_false hf
        obtain⟨k,rfl⟩:∃k:Nat,f=k:=⟨f.toNat,by omega⟩
        have e:=HE.out;rw[if_neg (by omega),Int.toNat_natCast] at e;have HE2:=qA e;clear e HE;have r1:(0<=(k:Int)/\(k:Int)<9)=True:=eq_true (by omega);have r2:((k:Int)<9)=True:=eq_true (by omega);have r3:IntKind.i64.wrap ((k:Int)-1)=(k:Int)-1:=IntWalk.i64_in _ (by omega);go_upto_region 16 with(first|(go_at_call 56;(with_reducible refine(jZ.calls 60 _ _ _ HNM.out).mono ?_);rintro e_ w7 ⟨rfl,hb⟩;replace K2:=qB K2 hb;replace K4:=qB K4 hb;replace KB:=qS KB hb;clear hb));go_upto_region 17 with(first|(go_at_call 56;(with_reducible refine(jZ.calls 60 _ _ _ HNM.out).mono ?_);rintro e_ w7 ⟨rfl,hb⟩;replace K2:=qB K2 hb;replace K4:=qB K4 hb;replace KB:=qS KB hb;clear hb;have cG:w7.cell? ⟨g,k,none⟩=some (.int .i64 (out.getD k 0)):=(jB K4.out k).trans (jA4 out k (by have:=HOL.out;omega));have fG:=jH K4.out k) );have B2:=jp K2.out (p:=⟨g,k,none⟩) (by show w.heap.size≠g;have:=HG.out;omega) (.int .i64 v);have B4:=(zQ K4.out k (.int .i64 v)).trans (by rw[iv_set]);have BB:=KB.out.setCell (p:=⟨g,k,none⟩) (by show w.heap.size<=g;have:=HG.out;omega) (.int .i64 v);generalize w7.setCell ⟨g,k,none⟩ (.int .i64 v)=W2 at *;clear K2 K4 KB;have K2:=qA B2
        have K4:=qA B4;have KB:=qA BB;clear B2 B4 BB;go_wp2
        go_roundg g'
        case measure=>omega
        case rel=>exact⟨(k:Int)-1,j+1,n,out.set k v,rfl,by simp,by omega,by omega,by omega,by omega,⟨by rw[List.length_set];exact HOL.out⟩,HE2,K2,K4,KB,by omega⟩
     ·subst c43
      have m1:decide ((i:Int)+1<(s.size:Int))=false:=decide_eq_false (by omega);have m2:((i:Int)+1<(s.size:Int))=False:=eq_false (by omega);have m3:(i+1<s.size)=False:=eq_false hsz2;obtain rfl:j=i:=hj
      obtain rfl:V=U:=by rw[hU,hV]
      clear hU hV;go_upto_region 14 with(fail)
      by_cases hv:v=0
      ·have q1:(v==0)=true:=beq_iff_eq.mpr hv
       have e:=HE.out;rw[if_pos (.inl hv)] at e;obtain⟨rfl,rfl⟩:=Prod.mk.inj e;clear e
       go_wp2_with (first|(go_at_call 56;(with_reducible refine(jZ.calls 60 _ _ _ HNM.out).mono ?_);rintro e_ w7 ⟨rfl,hb⟩;replace K2:=qB K2 hb;replace K4:=qB K4 hb;replace KB:=qS KB hb;clear hb)|((with_reducible refine jG (N:=83) rfl ?_);refine jA3 rfl 72 (.tmp 4) rfl rfl K4.out Tryz.underlying72 rfl (by rw[yS,HOL.out]) ?_)|((with_reducible refine jW (t:=72) (p:=2) (v:=.tmp 83) rfl ?_);refine yw rfl (.tmp 2) (.tmp 83) rfl rfl rfl K2.out (by rw[yU];rfl) HOL.out ?_;intro W3 s1 s2 s3;have S1:=qA s1;have S2:=qA (s2 _ _ (Nat.le_refl _) KB.out);clear s1 s2 s3))
       refine bodyPost_ret (jy (p:=2) (u:=3) (ty:=72) rfl _ _ w.heap.size 72 (iv out) (0,0) _ rfl S1.out Tryz.underlying72 rfl (by rw[yS,yU,HOL.out])) rfl ?_;exact⟨rfl,HOL.out,S2.out⟩
      ·have q1:(v==0)=false:=beq_eq_false_iff_ne.mpr hv
       by_cases hf:f<0
       ·have q2:decide (f<0)=true:=decide_eq_true hf
        have q3:(f<0)=True:=eq_true hf;have e:=HE.out;rw[if_pos (.inr hf)] at e;obtain⟨rfl,rfl⟩:=Prod.mk.inj e;clear e
        go_wp2_with (first|(go_at_call 56;(with_reducible refine(jZ.calls 60 _ _ _ HNM.out).mono ?_);rintro e_ w7 ⟨rfl,hb⟩;replace K2:=qB K2 hb;replace K4:=qB K4 hb;replace KB:=qS KB hb;clear hb)|((with_reducible refine jG (N:=83) rfl ?_);refine jA3 rfl 72 (.tmp 4) rfl rfl K4.out Tryz.underlying72 rfl (by rw[yS,HOL.out]) ?_)|((with_reducible refine jW (t:=72) (p:=2) (v:=.tmp 83) rfl ?_);refine yw rfl (.tmp 2) (.tmp 83) rfl rfl rfl K2.out (by rw[yU];rfl) HOL.out ?_;intro W3 s1 s2 s3;have S1:=qA s1;have S2:=qA (s2 _ _ (Nat.le_refl _) KB.out);clear s1 s2 s3))
        refine bodyPost_ret (jy (p:=2) (u:=3) (ty:=72) rfl _ _ w.heap.size 72 (iv out) (0,0) _ rfl S1.out Tryz.underlying72 rfl (by rw[yS,yU,HOL.out])) rfl ?_;exact⟨rfl,HOL.out,S2.out⟩
       ·have q2:decide (f<0)=false:=decide_eq_false hf
        have q3:(f<0)=False:=eq_false hf
        obtain⟨k,rfl⟩:∃k:Nat,f=k:=⟨f.toNat,by omega⟩
        have e:=HE.out;rw[if_neg (by omega),Int.toNat_natCast] at e;have HE2:=qA e;clear e HE;have r1:(0<=(k:Int)/\(k:Int)<9)=True:=eq_true (by omega);have r2:((k:Int)<9)=True:=eq_true (by omega);have r3:IntKind.i64.wrap ((k:Int)-1)=(k:Int)-1:=IntWalk.i64_in _ (by omega);go_upto_region 16 with(first|(go_at_call 56;(with_reducible refine(jZ.calls 60 _ _ _ HNM.out).mono ?_);rintro e_ w7 ⟨rfl,hb⟩;replace K2:=qB K2 hb;replace K4:=qB K4 hb;replace KB:=qS KB hb;clear hb));go_upto_region 17 with(first|(go_at_call 56;(with_reducible refine(jZ.calls 60 _ _ _ HNM.out).mono ?_);rintro e_ w7 ⟨rfl,hb⟩;replace K2:=qB K2 hb;replace K4:=qB K4 hb;replace KB:=qS KB hb;clear hb;have cG:w7.cell? ⟨g,k,none⟩=some (.int .i64 (out.getD k 0)):=(jB K4.out k).trans (jA4 out k (by have:=HOL.out;omega));have fG:=jH K4.out k) );have B2:=jp K2.out (p:=⟨g,k,none⟩) (by show w.heap.size≠g;have:=HG.out;omega) (.int .i64 v);have B4:=(zQ K4.out k (.int .i64 v)).trans (by rw[iv_set]);have BB:=KB.out.setCell (p:=⟨g,k,none⟩) (by show w.heap.size<=g;have:=HG.out;omega) (.int .i64 v);generalize w7.setCell ⟨g,k,none⟩ (.int .i64 v)=W2 at *;clear K2 K4 KB;have K2:=qA B2
        have K4:=qA B4;have KB:=qA BB;clear B2 B4 BB;go_wp2
        go_roundg g'
        case measure=>omega
        case rel=>exact⟨(k:Int)-1,j+1,n,out.set k v,rfl,by simp,by omega,by omega,by omega,by omega,⟨by rw[List.length_set];exact HOL.out⟩,HE2,K2,K4,KB,by omega⟩
     ·have m1:(c==43)=false:=beq_eq_false_iff_ne.mpr c43
      obtain rfl:j=i:=hj
      obtain rfl:V=U:=by rw[hU,hV]
      clear hU hV;go_upto_region 14 with(fail)
      by_cases hv:v=0
      ·have q1:(v==0)=true:=beq_iff_eq.mpr hv
       have e:=HE.out;rw[if_pos (.inl hv)] at e;obtain⟨rfl,rfl⟩:=Prod.mk.inj e;clear e
       go_wp2_with (first|(go_at_call 56;(with_reducible refine(jZ.calls 60 _ _ _ HNM.out).mono ?_);rintro e_ w7 ⟨rfl,hb⟩;replace K2:=qB K2 hb;replace K4:=qB K4 hb;replace KB:=qS KB hb;clear hb)|((with_reducible refine jG (N:=83) rfl ?_);refine jA3 rfl 72 (.tmp 4) rfl rfl K4.out Tryz.underlying72 rfl (by rw[yS,HOL.out]) ?_)|((with_reducible refine jW (t:=72) (p:=2) (v:=.tmp 83) rfl ?_);refine yw rfl (.tmp 2) (.tmp 83) rfl rfl rfl K2.out (by rw[yU];rfl) HOL.out ?_;intro W3 s1 s2 s3;have S1:=qA s1;have S2:=qA (s2 _ _ (Nat.le_refl _) KB.out);clear s1 s2 s3))
       refine bodyPost_ret (jy (p:=2) (u:=3) (ty:=72) rfl _ _ w.heap.size 72 (iv out) (0,0) _ rfl S1.out Tryz.underlying72 rfl (by rw[yS,yU,HOL.out])) rfl ?_;exact⟨rfl,HOL.out,S2.out⟩
      ·have q1:(v==0)=false:=beq_eq_false_iff_ne.mpr hv
       by_cases hf:f<0
       ·have q2:decide (f<0)=true:=decide_eq_true hf
        have q3:(f<0)=True:=eq_true hf;have e:=HE.out;rw[if_pos (.inr hf)] at e;obtain⟨rfl,rfl⟩:=Prod.mk.inj e;clear e
        go_wp2_with (first|(go_at_call 56;(with_reducible refine(jZ.calls 60 _ _ _ HNM.out).mono ?_);rintro e_ w7 ⟨rfl,hb⟩;replace K2:=qB K2 hb;replace K4:=qB K4 hb;replace KB:=qS KB hb;clear hb)|((with_reducible refine jG (N:=83) rfl ?_);refine jA3 rfl 72 (.tmp 4) rfl rfl K4.out Tryz.underlying72 rfl (by rw[yS,HOL.out]) ?_)|((with_reducible refine jW (t:=72) (p:=2) (v:=.tmp 83) rfl ?_);refine yw rfl (.tmp 2) (.tmp 83) rfl rfl rfl K2.out (by rw[yU];rfl) HOL.out ?_;intro W3 s1 s2 s3;have S1:=qA s1;have S2:=qA (s2 _ _ (Nat.le_refl _) KB.out);clear s1 s2 s3))
        refine bodyPost_ret (jy (p:=2) (u:=3) (ty:=72) rfl _ _ w.heap.size 72 (iv out) (0,0) _ rfl S1.out Tryz.underlying72 rfl (by rw[yS,yU,HOL.out])) rfl ?_;exact⟨rfl,HOL.out,S2.out⟩
       ·have q2:decide (f<0)=false:=decide_eq_false hf
        have q3:(f<0)=False:=eq_false hf
        obtain⟨k,rfl⟩:∃k:Nat,f=k:=⟨f.toNat,by omega⟩
        have e:=HE.out;rw[if_neg (by omega),Int.toNat_natCast] at e;have HE2:=qA e;clear e HE;have r1:(0<=(k:Int)/\(k:Int)<9)=True:=eq_true (by omega);have r2:((k:Int)<9)=True:=eq_true (by omega);have r3:IntKind.i64.wrap ((k:Int)-1)=(k:Int)-1:=IntWalk.i64_in _ (by omega);go_upto_region 16 with(first|(go_at_call 56;(with_reducible refine(jZ.calls 60 _ _ _ HNM.out).mono ?_);rintro e_ w7 ⟨rfl,hb⟩;replace K2:=qB K2 hb;replace K4:=qB K4 hb;replace KB:=qS KB hb;clear hb));go_upto_region 17 with(first|(go_at_call 56;(with_reducible refine(jZ.calls 60 _ _ _ HNM.out).mono ?_);rintro e_ w7 ⟨rfl,hb⟩;replace K2:=qB K2 hb;replace K4:=qB K4 hb;replace KB:=qS KB hb;clear hb;have cG:w7.cell? ⟨g,k,none⟩=some (.int .i64 (out.getD k 0)):=(jB K4.out k).trans (jA4 out k (by have:=HOL.out;omega));have fG:=jH K4.out k) );have B2:=jp K2.out (p:=⟨g,k,none⟩) (by show w.heap.size≠g;have:=HG.out;omega) (.int .i64 v);have B4:=(zQ K4.out k (.int .i64 v)).trans (by rw[iv_set]);have BB:=KB.out.setCell (p:=⟨g,k,none⟩) (by show w.heap.size<=g;have:=HG.out;omega) (.int .i64 v);generalize w7.setCell ⟨g,k,none⟩ (.int .i64 v)=W2 at *;clear K2 K4 KB;have K2:=qA B2
        have K4:=qA B4;have KB:=qA BB;clear B2 B4 BB;go_wp2
        go_roundg g'
        case measure=>omega
        case rel=>exact⟨(k:Int)-1,j+1,n,out.set k v,rfl,by simp,by omega,by omega,by omega,by omega,⟨by rw[List.length_set];exact HOL.out⟩,HE2,K2,K4,KB,by omega⟩)
end Go.Proofs.YtigenhbmgpfffaaGreatDoor.Pa
