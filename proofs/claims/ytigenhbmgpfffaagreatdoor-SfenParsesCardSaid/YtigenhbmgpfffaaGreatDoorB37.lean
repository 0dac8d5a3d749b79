import Derived.Test.YtigenhbmgpfffaaGreatDoorB35
import Derived.Test.YtigenhbmgpfffaaGreatDoorB36
set_option maxRecDepth 100000
set_option maxHeartbeats 16000000
namespace Go.Proofs.YtigenhbmgpfffaaGreatDoor.Pa
open Go.RowKit Go.Proofs.YtigenhbmgpfffaaGreatDoorW.PrintWords Go.Proofs.YtigenhbmgpfffaaGreatDoorW.PrintLast Go.Proofs.YtigenhbmgpfffaaGreatDoorW.PrintMore
attribute [local go_sem] yE yC yM yL zo zn yD yB
set_option linter.unusedVariables false
set_option linter.unusedSimpArgs false
mutual
def jT.j0:Nat->Int->Int->Bool->Option (Int)
 | 0,_,_,_=>none
 | k+1,x0,x1,x25=>if x25=true then(some 0) else(if(wrap64 ((wrap64 (Int.tdiv x1 9))-(wrap64 (Int.tdiv x0 9))))=0 then(jT.j1 k (wrap64 ((wrap64 (Int.tdiv x1 9))-(wrap64 (Int.tdiv x0 9)))) (wrap64 ((Int.tmod x1 9)-(Int.tmod x0 9))) true) else(jT.j1 k (wrap64 ((wrap64 (Int.tdiv x1 9))-(wrap64 (Int.tdiv x0 9)))) (wrap64 ((Int.tmod x1 9)-(Int.tmod x0 9))) ((wrap64 ((Int.tmod x1 9)-(Int.tmod x0 9)))==0)))
def jT.j1:Nat->Int->Int->Bool->Option (Int)
 | 0,_,_,_=>none
 | k+1,x5,x6,x41=>if x41=true then(some 1) else(if x5=x6 then(some 2) else(if x5=(wrap64 (-x6)) then(some 2) else(some 0)))
end
def jT.f (k:Nat) (a0:Int) (a1:Int):Option (Int):=if a0<0 then(jT.j0 k a0 a1 true) else(if a0>80 then(jT.j0 k a0 a1 true) else(if a1<0 then(jT.j0 k a0 a1 true) else(if a1>80 then(jT.j0 k a0 a1 true) else(jT.j0 k a0 a1 (a0==a1)))))
theorem jT.mono_l:∀k,(∀y0 y1 y2,LeO (jT.j0 k y0 y1 y2) (jT.j0 (k+1) y0 y1 y2))/\(∀y0 y1 y2,LeO (jT.j1 k y0 y1 y2) (jT.j1 (k+1) y0 y1 y2))
 | 0=>⟨λ_ _ _ r h=>by simp [jT.j0] at h,λ_ _ _ r h=>by simp [jT.j1] at h⟩
 | k+1=>by
  obtain⟨ih0,ih1⟩:=jT.mono_l k;refine⟨?_,?_⟩
  ·intro y0 y1 y2
   unfold jT.j0
   repeat' first
   | (with_reducible exact ih0 _ _ _)
   | (with_reducible exact ih1 _ _ _)
   | (with_reducible exact LeO.refl _)
   | (with_reducible exact LeO.none _)
   | (with_reducible refine LeO.ite ?_ ?_)
   | (with_reducible refine LeO.bind ?_ (λ_=>?_))
   | exact ih0 _ _ _
   | exact ih1 _ _ _
   | exact LeO.none _
   | refine LeO.ite ?_ ?_
   | refine LeO.bind ?_ (λ_=>?_)
  ·intro y0 y1 y2
   unfold jT.j1
   repeat' first
   | (with_reducible exact ih0 _ _ _)
   | (with_reducible exact ih1 _ _ _)
   | (with_reducible exact LeO.refl _)
   | (with_reducible exact LeO.none _)
   | (with_reducible refine LeO.ite ?_ ?_)
   | (with_reducible refine LeO.bind ?_ (λ_=>?_))
   | exact ih0 _ _ _
   | exact ih1 _ _ _
   | exact LeO.none _
   | refine LeO.ite ?_ ?_
   | refine LeO.bind ?_ (λ_=>?_)
theorem jT.mono:∀a0 a1 k,LeO (jT.f k a0 a1) (jT.f (k+1) a0 a1):=by
 intro a0 a1 k;obtain⟨ih0,ih1⟩:=jT.mono_l k;unfold jT.f
 repeat' first
   | (with_reducible exact ih0 _ _ _)
   | (with_reducible exact ih1 _ _ _)
   | (with_reducible exact LeO.refl _)
   | (with_reducible exact LeO.none _)
   | (with_reducible refine LeO.ite ?_ ?_)
   | (with_reducible refine LeO.bind ?_ (λ_=>?_))
   | exact ih0 _ _ _
   | exact ih1 _ _ _
   | exact LeO.none _
   | refine LeO.ite ?_ ?_
   | refine LeO.bind ?_ (λ_=>?_)
theorem jT.calls (k:Nat) (a0:Int) (a1:Int) (r:Int) (w:World) (h:jT.f k a0 a1=some r):
  Calls Tryz.prog 107 #[.int .i64 a0,.int .i64 a1] w λe w'=>e=.returned (.int .i64 r)/\Drawn0 w w':=by
 have H:(if a0<0 then(jT.j0 k a0 a1 true) else(if a0>80 then(jT.j0 k a0 a1 true) else(if a1<0 then(jT.j0 k a0 a1 true) else(if a1>80 then(jT.j0 k a0 a1 true) else(jT.j0 k a0 a1 (a0==a1))))))=some r:=h;clear h;have HC3:=qA H;clear H;go_enter Tryz.func107,Tryz.ntmps107;go_upto_region 1 with(fail);go_cut [25] (λv25 wc=>∃(kq:Nat) (x25_2:Bool),v25=.bool x25_2/\Aside0 (jT.j0 kq a0 a1 x25_2=some r)/\Aside0 (kq<=k)/\Drawn0 w wc)
 case first=>
  have H:=HC3.out;clear HC3
  by_cases c4:a0<0
  ·rw[if_pos c4] at H
   have c4b0:decide (a0<0)=true:=decide_eq_true c4;clear c4
   (first|rw[c4b0]|(simp only[zP,zd];rw[c4b0])|skip)
   have H':=qA H;clear H;go_wp2;go_meet
   case rel=>exact⟨_,(true),(by first|rfl|(simp;done)|(simp [*];done)),H',⟨by first|omega|exact Nat.le_refl _⟩,by repeat (first|exact Drawn0.refl _|apply Drawn0.step)⟩
  ·rw[if_neg c4] at H
   have c4b0:decide (a0<0)=false:=decide_eq_false c4;clear c4
   (first|rw[c4b0]|(simp only[zP,zd];rw[c4b0])|skip)
   by_cases c5:a0>80
   ·rw[if_pos c5] at H
    have c5b0:decide (80<a0)=true:=decide_eq_true c5;clear c5;have H':=qA H;clear H;go_wp2;go_meet
    case rel=>exact⟨_,(true),(by first|rfl|(simp;done)|(simp [*];done)),H',⟨by first|omega|exact Nat.le_refl _⟩,by repeat (first|exact Drawn0.refl _|apply Drawn0.step)⟩
   ·rw[if_neg c5] at H
    have c5b0:decide (80<a0)=false:=decide_eq_false c5;clear c5
    by_cases c6:a1<0
    ·rw[if_pos c6] at H
     have c6b0:decide (a1<0)=true:=decide_eq_true c6;clear c6;have H':=qA H;clear H;go_wp2;go_meet
     case rel=>exact⟨_,(true),(by first|rfl|(simp;done)|(simp [*];done)),H',⟨by first|omega|exact Nat.le_refl _⟩,by repeat (first|exact Drawn0.refl _|apply Drawn0.step)⟩
    ·rw[if_neg c6] at H
     have c6b0:decide (a1<0)=false:=decide_eq_false c6;clear c6
     by_cases c7:a1>80
     ·rw[if_pos c7] at H
      have c7b0:decide (80<a1)=true:=decide_eq_true c7;clear c7;have H':=qA H;clear H;go_wp2;go_meet
      case rel=>exact⟨_,(true),(by first|rfl|(simp;done)|(simp [*];done)),H',⟨by first|omega|exact Nat.le_refl _⟩,by repeat (first|exact Drawn0.refl _|apply Drawn0.step)⟩
     ·rw[if_neg c7] at H
      have c7b0:decide (80<a1)=false:=decide_eq_false c7;clear c7;have H':=qA H;clear H;go_wp2;go_meet
      case rel=>exact⟨_,((a0==a1)),(by first|rfl|(simp;done)|(simp [*];done)),H',⟨by first|omega|exact Nat.le_refl _⟩,by repeat (first|exact Drawn0.refl _|apply Drawn0.step)⟩
 case rest=>
  clear HC3
  try clear c1
  try clear p2
  try clear c4
  try clear c4b0
  try clear c5
  try clear c5b0
  try clear c6
  try clear c6b0
  try clear c7
  try clear c7b0
  obtain⟨kq,x25_2,rfl,HA,HJ2,⟨mc2,rfl⟩⟩:=hcut
  cases kq with
  | zero=>exact absurd HA.out (by simp [jT.j0])
  | succ kj2=>
   have H:=HA.out;clear HA;simp only[jT.j0] at H
   by_cases c8:x25_2=true
   ·subst c8
    have H1:(some 0)=some r:=by rw[if_pos rfl] at H;exact H
    clear H;have H:=H1;clear H1;obtain rfl:=Option.some.inj H;go_wp2;go_ret;exact⟨by first|rfl|(simp;done)|(simp [*];done),by repeat (first|exact Drawn0.refl _|apply Drawn0.step)⟩
   ·replace c8:=Bool.eq_false_iff.mpr c8
    subst c8
    have H1:(if(wrap64 ((wrap64 (Int.tdiv a1 9))-(wrap64 (Int.tdiv a0 9))))=0 then(jT.j1 kj2 (wrap64 ((wrap64 (Int.tdiv a1 9))-(wrap64 (Int.tdiv a0 9)))) (wrap64 ((Int.tmod a1 9)-(Int.tmod a0 9))) true) else(jT.j1 kj2 (wrap64 ((wrap64 (Int.tdiv a1 9))-(wrap64 (Int.tdiv a0 9)))) (wrap64 ((Int.tmod a1 9)-(Int.tmod a0 9))) ((wrap64 ((Int.tmod a1 9)-(Int.tmod a0 9)))==0)))=some r:=by rw[if_neg (show ¬(false=true) by decide)] at H;exact H
    clear H;have H:=H1;clear H1;have HC9:=qA H;clear H;go_upto_region 4 with(fail);go_cut [41] (λv41 wc=>∃(kq:Nat) (x41_8:Bool),v41=.bool x41_8/\Aside0 (jT.j1 kq (wrap64 ((wrap64 (Int.tdiv a1 9))-(wrap64 (Int.tdiv a0 9)))) (wrap64 ((Int.tmod a1 9)-(Int.tmod a0 9))) x41_8=some r)/\Aside0 (kq<=kj2)/\Drawn0 w wc)
    case first=>
     have H:=HC9.out;clear HC9
     by_cases c10:(wrap64 ((wrap64 (Int.tdiv a1 9))-(wrap64 (Int.tdiv a0 9))))=0
     ·rw[if_pos c10] at H
      have c10b0:((wrap64 ((wrap64 (Int.tdiv a1 9))-(wrap64 (Int.tdiv a0 9))))==0)=true:=beq_iff_eq.mpr c10;have c10b1:((wrap64 ((wrap64 (Int.tdiv a1 9))-(wrap64 (Int.tdiv a0 9)))) != 0)=false:=bne_eq_false_iff_eq.mpr c10;clear c10
      (first|rw[c10b0]|(simp only[zP,zd];rw[c10b0])|skip)
      have H':=qA H;clear H;go_wp2;go_meet
      case rel=>exact⟨_,(true),(by first|rfl|(simp;done)|(simp [*];done)),H',⟨by have:=HJ2.out;first|omega|exact Nat.le_refl _⟩,by repeat (first|exact Drawn0.refl _|apply Drawn0.step)⟩
     ·rw[if_neg c10] at H
      have c10b0:((wrap64 ((wrap64 (Int.tdiv a1 9))-(wrap64 (Int.tdiv a0 9))))==0)=false:=beq_eq_false_iff_ne.mpr c10;have c10b1:((wrap64 ((wrap64 (Int.tdiv a1 9))-(wrap64 (Int.tdiv a0 9)))) != 0)=true:=bne_iff_ne.mpr c10
      (first|rw[c10b0]|(simp only[zP,zd];rw[c10b0])|skip)
      have H':=qA H;clear H;go_wp2;go_meet
      case rel=>exact⟨_,(((wrap64 ((Int.tmod a1 9)-(Int.tmod a0 9)))==0)),(by first|rfl|(simp;done)|(simp [*];done)),H',⟨by have:=HJ2.out;first|omega|exact Nat.le_refl _⟩,by repeat (first|exact Drawn0.refl _|apply Drawn0.step)⟩
    case rest=>
     clear HC9
     try clear c1
     try clear c2
     try clear p2
     try clear c4
     try clear c4b0
     try clear c5
     try clear c5b0
     try clear c6
     try clear c6b0
     try clear p6
     try clear c7
     try clear c7b0
     try clear c8
     try clear c10
     try clear c10b0
     try clear c10b1
     try clear p2
     obtain⟨kq,x41_8,rfl,HA,HJ8,⟨mc8,rfl⟩⟩:=hcut
     cases kq with
     | zero=>exact absurd HA.out (by simp [jT.j1])
     | succ kj8=>
      have H:=HA.out;clear HA;simp only[jT.j1] at H
      by_cases c11:x41_8=true
      ·subst c11
       have H1:(some 1)=some r:=by rw[if_pos rfl] at H;exact H
       clear H;have H:=H1;clear H1;obtain rfl:=Option.some.inj H;go_wp2;go_ret;exact⟨by first|rfl|(simp;done)|(simp [*];done),by repeat (first|exact Drawn0.refl _|apply Drawn0.step)⟩
      ·replace c11:=Bool.eq_false_iff.mpr c11
       subst c11
       have H1:(if(wrap64 ((wrap64 (Int.tdiv a1 9))-(wrap64 (Int.tdiv a0 9))))=(wrap64 ((Int.tmod a1 9)-(Int.tmod a0 9))) then(some 2) else(if(wrap64 ((wrap64 (Int.tdiv a1 9))-(wrap64 (Int.tdiv a0 9))))=(wrap64 (-(wrap64 ((Int.tmod a1 9)-(Int.tmod a0 9))))) then(some 2) else(some 0)))=some r:=by rw[if_neg (show ¬(false=true) by decide)] at H;exact H
       clear H;have H:=H1;clear H1
       by_cases c12:(wrap64 ((wrap64 (Int.tdiv a1 9))-(wrap64 (Int.tdiv a0 9))))=(wrap64 ((Int.tmod a1 9)-(Int.tmod a0 9)))
       ·rw[if_pos c12] at H
        have c12b0:((wrap64 ((wrap64 (Int.tdiv a1 9))-(wrap64 (Int.tdiv a0 9))))==(wrap64 ((Int.tmod a1 9)-(Int.tmod a0 9))))=true:=beq_iff_eq.mpr c12;have c12b1:((wrap64 ((wrap64 (Int.tdiv a1 9))-(wrap64 (Int.tdiv a0 9)))) != (wrap64 ((Int.tmod a1 9)-(Int.tmod a0 9))))=false:=bne_eq_false_iff_eq.mpr c12;clear c12;obtain rfl:=Option.some.inj H;go_wp2;go_ret;exact⟨by first|rfl|(simp;done)|(simp [*];done),by repeat (first|exact Drawn0.refl _|apply Drawn0.step)⟩
       ·rw[if_neg c12] at H
        have c12b0:((wrap64 ((wrap64 (Int.tdiv a1 9))-(wrap64 (Int.tdiv a0 9))))==(wrap64 ((Int.tmod a1 9)-(Int.tmod a0 9))))=false:=beq_eq_false_iff_ne.mpr c12;have c12b1:((wrap64 ((wrap64 (Int.tdiv a1 9))-(wrap64 (Int.tdiv a0 9)))) != (wrap64 ((Int.tmod a1 9)-(Int.tmod a0 9))))=true:=bne_iff_ne.mpr c12
        by_cases c13:(wrap64 ((wrap64 (Int.tdiv a1 9))-(wrap64 (Int.tdiv a0 9))))=(wrap64 (-(wrap64 ((Int.tmod a1 9)-(Int.tmod a0 9)))))
        ·rw[if_pos c13] at H
         have c13b0:((wrap64 ((wrap64 (Int.tdiv a1 9))-(wrap64 (Int.tdiv a0 9))))==(wrap64 (-(wrap64 ((Int.tmod a1 9)-(Int.tmod a0 9))))))=true:=beq_iff_eq.mpr c13;have c13b1:((wrap64 ((wrap64 (Int.tdiv a1 9))-(wrap64 (Int.tdiv a0 9)))) != (wrap64 (-(wrap64 ((Int.tmod a1 9)-(Int.tmod a0 9))))))=false:=bne_eq_false_iff_eq.mpr c13;clear c13;obtain rfl:=Option.some.inj H;go_wp2;go_ret;exact⟨by first|rfl|(simp;done)|(simp [*];done),by repeat (first|exact Drawn0.refl _|apply Drawn0.step)⟩
        ·rw[if_neg c13] at H
         have c13b0:((wrap64 ((wrap64 (Int.tdiv a1 9))-(wrap64 (Int.tdiv a0 9))))==(wrap64 (-(wrap64 ((Int.tmod a1 9)-(Int.tmod a0 9))))))=false:=beq_eq_false_iff_ne.mpr c13;have c13b1:((wrap64 ((wrap64 (Int.tdiv a1 9))-(wrap64 (Int.tdiv a0 9)))) != (wrap64 (-(wrap64 ((Int.tmod a1 9)-(Int.tmod a0 9))))))=true:=bne_iff_ne.mpr c13;obtain rfl:=Option.some.inj H;go_wp2;go_ret;exact⟨by first|rfl|(simp;done)|(simp [*];done),by repeat (first|exact Drawn0.refl _|apply Drawn0.step)⟩
def z7.f (a0:Int):Option (Int):=if a0<0 then(some (-1)) else(if a0>0 then(some 1) else(some 0))
theorem z7.calls (a0:Int) (r:Int) (w:World) (h:z7.f a0=some r):
  Calls Tryz.prog 142 #[.int .i64 a0] w λe w'=>e=.returned (.int .i64 r)/\Drawn0 w w':=by
 have H:(if a0<0 then(some (-1)) else(if a0>0 then(some 1) else(some 0)))=some r:=h;clear h
 by_cases c2:a0<0
 ·rw[if_pos c2] at H
  have c2b0:decide (a0<0)=true:=decide_eq_true c2;clear c2;obtain rfl:=Option.some.inj H;go_enter Tryz.func142,Tryz.ntmps142;go_wp2;go_ret;exact⟨by first|rfl|(simp;done)|(simp [*];done),by repeat (first|exact Drawn0.refl _|apply Drawn0.step)⟩
 ·rw[if_neg c2] at H
  have c2b0:decide (a0<0)=false:=decide_eq_false c2;clear c2
  by_cases c3:a0>0
  ·rw[if_pos c3] at H
   have c3b0:decide (0<a0)=true:=decide_eq_true c3;clear c3;obtain rfl:=Option.some.inj H;go_enter Tryz.func142,Tryz.ntmps142;go_wp2;go_ret;exact⟨by first|rfl|(simp;done)|(simp [*];done),by repeat (first|exact Drawn0.refl _|apply Drawn0.step)⟩
  ·rw[if_neg c3] at H
   have c3b0:decide (0<a0)=false:=decide_eq_false c3;clear c3;obtain rfl:=Option.some.inj H;go_enter Tryz.func142,Tryz.ntmps142;go_wp2;go_ret;exact⟨by first|rfl|(simp;done)|(simp [*];done),by repeat (first|exact Drawn0.refl _|apply Drawn0.step)⟩
def jo.l0:Nat->Int->List Int->Int->Int->Option (List Int)
 | 0,_,_,_,_=>none
 | k+1,x1,x5,x6,x7=>if x7=x1 then(some x5) else(if x5.length<17592186044416 then(jo.l0 k x1 (x5++[x7]) x6 (wrap64 (x7+x6))) else(none))
def jo.f (k:Nat) (a0:Int) (a1:Int):Option (List Int):=(jT.f k a0 a1).bind λt257=>(if t257=0 then(some ([]:List Int)) else((z7.f (wrap64 ((wrap64 (Int.tdiv a1 9))-(wrap64 (Int.tdiv a0 9))))).bind λt258=>((z7.f (wrap64 ((Int.tmod a1 9)-(Int.tmod a0 9)))).bind λt259=>(jo.l0 k a1 ([]:List Int) (wrap64 ((wrap64 (9*t258))+t259)) (wrap64 (a0+(wrap64 ((wrap64 (9*t258))+t259))))))))
theorem jo.mono_l:∀k,(∀y0 y1 y2 y3,LeO (jo.l0 k y0 y1 y2 y3) (jo.l0 (k+1) y0 y1 y2 y3))
 | 0=>λ_ _ _ _ r h=>by simp [jo.l0] at h
 | k+1=>by
  have ih0:=jo.mono_l k
  ·intro y0 y1 y2 y3
   unfold jo.l0
   repeat' first
   | (with_reducible exact ih0 _ _ _ _)
   | (with_reducible exact jT.mono _ _ _)
   | (with_reducible exact LeO.refl _)
   | (with_reducible exact LeO.none _)
   | (with_reducible refine LeO.ite ?_ ?_)
   | (with_reducible refine LeO.bind ?_ (λ_=>?_))
   | exact ih0 _ _ _ _
   | exact jT.mono _ _ _
   | exact LeO.none _
   | refine LeO.ite ?_ ?_
   | refine LeO.bind ?_ (λ_=>?_)
theorem jo.mono:∀a0 a1 k,LeO (jo.f k a0 a1) (jo.f (k+1) a0 a1):=by
 intro a0 a1 k;have ih0:=jo.mono_l k;unfold jo.f
 repeat' first
   | (with_reducible exact ih0 _ _ _ _)
   | (with_reducible exact jT.mono _ _ _)
   | (with_reducible exact LeO.refl _)
   | (with_reducible exact LeO.none _)
   | (with_reducible refine LeO.ite ?_ ?_)
   | (with_reducible refine LeO.bind ?_ (λ_=>?_))
   | exact ih0 _ _ _ _
   | exact jT.mono _ _ _
   | exact LeO.none _
   | refine LeO.ite ?_ ?_
   | refine LeO.bind ?_ (λ_=>?_)
theorem jo.calls (k:Nat) (a0:Int) (a1:Int) (r:List Int) (w:World) (h:jo.f k a0 a1=some r):
  Calls Tryz.prog 130 #[.int .i64 a0,.int .i64 a1] w λe w'=>∃v0_:Value,e=.returned (v0_)/\Kd.R (Kd.int .i64) 3 w' w.heap.size (λ_=>True) v0_ r/\Below w.heap.size w w':=by
 have HB:=qA (Below.refl w.heap.size w);have H:((jT.f k a0 a1).bind λt257=>(if t257=0 then(some ([]:List Int)) else((z7.f (wrap64 ((wrap64 (Int.tdiv a1 9))-(wrap64 (Int.tdiv a0 9))))).bind λt258=>((z7.f (wrap64 ((Int.tmod a1 9)-(Int.tmod a0 9)))).bind λt259=>(jo.l0 k a1 ([]:List Int) (wrap64 ((wrap64 (9*t258))+t259)) (wrap64 (a0+(wrap64 ((wrap64 (9*t258))+t259)))))))))=some r:=h;clear h;replace H:=Option.bind_eq_some_iff.mp H;obtain⟨t257,A30,H⟩:=H;replace H:(if t257=0 then(some ([]:List Int)) else((z7.f (wrap64 ((wrap64 (Int.tdiv a1 9))-(wrap64 (Int.tdiv a0 9))))).bind λt258=>((z7.f (wrap64 ((Int.tmod a1 9)-(Int.tmod a0 9)))).bind λt259=>(jo.l0 k a1 ([]:List Int) (wrap64 ((wrap64 (9*t258))+t259)) (wrap64 (a0+(wrap64 ((wrap64 (9*t258))+t259))))))))=some r:=H;have A3:=qA A30;clear A30
 by_cases c4:t257=0
 ·rw[if_pos c4] at H
  have c4b0:(t257==0)=true:=beq_iff_eq.mpr c4;have c4b1:(t257 != 0)=false:=bne_eq_false_iff_eq.mpr c4;clear c4;obtain rfl:=Option.some.inj H;go_enter Tryz.func130,Tryz.ntmps130
  go_wp2_with (first|((with_reducible refine jV (f:=107) rfl ?_);refine zB (some 10) rfl rfl Tryz.func107 (by kernel_rfl) rfl #[.int .i64 a0,.int .i64 a1] rfl (by (try simp only[List.map_toArray,List.map_cons,List.map_nil]);first|done|rfl|(simp only[List.length_drop,List.length_take];rfl)) ?_;(with_reducible refine(jT.calls k a0 a1 t257 _ A3.out).mono ?_);rintro e w' ⟨rfl,⟨nd,rfl⟩⟩;refine⟨_,rfl,?_⟩))
  go_ret;exact⟨_,by first|rfl|(simp [jL,jK]<;>rfl)|(simp [*,jL,jK]<;>rfl),by first|exact Kd.R_nil _ _ _ _ _|exact Kd.N_nil _ _ _ _ _|exact Kd.V_nil _ _ _ _ _|exact Kd.Q_nil _ _ _ _ _|exact Kd.S_nil _ _ _ _ _,qH HB⟩
 ·rw[if_neg c4] at H
  have c4b0:(t257==0)=false:=beq_eq_false_iff_ne.mpr c4;have c4b1:(t257 != 0)=true:=bne_iff_ne.mpr c4;replace H:=Option.bind_eq_some_iff.mp H;obtain⟨t258,A50,H⟩:=H;replace H:((z7.f (wrap64 ((Int.tmod a1 9)-(Int.tmod a0 9)))).bind λt259=>(jo.l0 k a1 ([]:List Int) (wrap64 ((wrap64 (9*t258))+t259)) (wrap64 (a0+(wrap64 ((wrap64 (9*t258))+t259))))))=some r:=H;have A5:=qA A50;clear A50;replace H:=Option.bind_eq_some_iff.mp H;obtain⟨t259,A60,H⟩:=H;replace H:(jo.l0 k a1 ([]:List Int) (wrap64 ((wrap64 (9*t258))+t259)) (wrap64 (a0+(wrap64 ((wrap64 (9*t258))+t259)))))=some r:=H;have A6:=qA A60;clear A60;have H':=qA H;clear H;go_enter Tryz.func130,Tryz.ntmps130
  go_wp2_with (first|((with_reducible refine jV (f:=107) rfl ?_);refine zB (some 10) rfl rfl Tryz.func107 (by kernel_rfl) rfl #[.int .i64 a0,.int .i64 a1] rfl (by (try simp only[List.map_toArray,List.map_cons,List.map_nil]);first|done|rfl|(simp only[List.length_drop,List.length_take];rfl)) ?_;(with_reducible refine(jT.calls k a0 a1 t257 _ A3.out).mono ?_);rintro e w' ⟨rfl,⟨nd,rfl⟩⟩;refine⟨_,rfl,?_⟩)|((with_reducible refine jV (f:=142) rfl ?_);refine zB (some 18) rfl rfl Tryz.func142 (by kernel_rfl) rfl #[.int .i64 (wrap64 ((wrap64 (Int.tdiv a1 9))-(wrap64 (Int.tdiv a0 9))))] rfl (by (try simp only[List.map_toArray,List.map_cons,List.map_nil]);first|done|rfl|(simp only[List.length_drop,List.length_take];rfl)) ?_;(with_reducible refine(z7.calls (wrap64 ((wrap64 (Int.tdiv a1 9))-(wrap64 (Int.tdiv a0 9)))) t258 _ A5.out).mono ?_);rintro e w' ⟨rfl,⟨nd,rfl⟩⟩;refine⟨_,rfl,?_⟩)|((with_reducible refine jV (f:=142) rfl ?_);refine zB (some 25) rfl rfl Tryz.func142 (by kernel_rfl) rfl #[.int .i64 (wrap64 ((Int.tmod a1 9)-(Int.tmod a0 9)))] rfl (by (try simp only[List.map_toArray,List.map_cons,List.map_nil]);first|done|rfl|(simp only[List.length_drop,List.length_take];rfl)) ?_;(with_reducible refine(z7.calls (wrap64 ((Int.tmod a1 9)-(Int.tmod a0 9))) t259 _ A6.out).mono ?_);rintro e w' ⟨rfl,⟨nd,rfl⟩⟩;refine⟨_,rfl,?_⟩))
  go_loopg [5,7] k (λkq v5 v7 w'=>∃(x5_1:List Int) (x7_1:Int),v7=.int .i64 x7_1/\Aside0 (jo.l0 kq a1 x5_1 (wrap64 ((wrap64 (9*t258))+t259)) x7_1=some r)/\Aside0 (kq<=k)/\Aside0 (Kd.R (Kd.int .i64) 3 w' w.heap.size (λ_=>True) v5 x5_1)/\Aside0 (Below w.heap.size w w'))
  case atStart=>exact⟨(([]:List Int)),(wrap64 (a0+(wrap64 ((wrap64 (9*t258))+t259)))),(by first|rfl|(simp;done)|(simp [*];done)),H',⟨Nat.le_refl _⟩,⟨by first|exact Kd.R_nil _ _ _ _ _|exact Kd.N_nil _ _ _ _ _|exact Kd.V_nil _ _ _ _ _|exact Kd.Q_nil _ _ _ _ _|exact Kd.S_nil _ _ _ _ _⟩,⟨qH HB⟩⟩
  case round=>
   clear H'
   try clear c1
   try clear p2
   try clear c4
   try clear c4b0
   try clear c4b1
   try clear p6
   obtain⟨x5_1,x7_1,rfl,HA,HK1,HO_5,HB⟩:=hrel
   cases gk with
   | zero=>exact absurd HA.out (by simp [jo.l0])
   | succ k1=>
    have H:=HA.out;clear HA;simp only[jo.l0] at H
    by_cases c7:x7_1=a1
    ·rw[if_pos c7] at H
     have c7b0:(x7_1==a1)=true:=beq_iff_eq.mpr c7;have c7b1:(x7_1 != a1)=false:=bne_eq_false_iff_eq.mpr c7;clear c7;obtain rfl:=Option.some.inj H;go_wp2;go_ret;exact⟨_,by first|rfl|(simp [jL,jK]<;>rfl)|(simp [*,jL,jK]<;>rfl),by (with_reducible repeat (first|apply Kd.R_alloc|apply Kd.R_drewN|apply Kd.R_drew));exact HO_5.out,qH HB⟩
    ·rw[if_neg c7] at H
     have c7b0:(x7_1==a1)=false:=beq_eq_false_iff_ne.mpr c7;have c7b1:(x7_1 != a1)=true:=bne_iff_ne.mpr c7
     by_cases c8:x5_1.length<17592186044416
     ·rw[if_pos c8] at H
      have LMc8:=qA c8;clear c8
      obtain⟨y260,hy260⟩:∃y_:List Int,y_=(x5_1++[x7_1]):=⟨_,rfl⟩
      replace H:(jo.l0 k1 a1 y260 (wrap64 ((wrap64 (9*t258))+t259)) (wrap64 (x7_1+(wrap64 ((wrap64 (9*t258))+t259)))))=some r:=by first|(rw[hy260];with_reducible exact H)|(have H2_:=(Option.bind_some _ _).symm.trans H;rw[hy260];with_reducible exact H2_)|(have H2_:=(Option.bind_some _ _).symm.trans H;with_reducible exact H2_)|with_reducible exact H|(rw[hy260];exact H)|exact H
      have Ny260:=qA hy260;clear hy260;have H':=qA H;clear H
      go_wp2_with (first|((with_reducible refine jBJ (b:=.append) (xs:=#[.tmp 36,.tmp 38]) rfl ?_);at_builtin;refine Kd.R_append (Kd.int .i64) (w0:=w) w.heap.size rfl (.tmp 36) (.tmp 38) 43 3 (.int .i64 0) 8 rfl Tryz.underlying43 info3 rfl (by decide) (by omega) u5 x5_1 x7_1 [.int .i64 x7_1] (λ_=>True) (λ_=>False) rfl rfl ?aP (λ_ hk=>hk.elim) ?aF ?aO ?aB ?aS ?aL ?_;(case aP=>exact rfl);(case aB=>exact(qH HB));(case aF=>exact(λ_ _=>trivial));(case aO=>exact(by (with_reducible repeat (first|apply Kd.R_alloc|apply Kd.R_drewN|apply Kd.R_drew));exact HO_5.out));(case aS=>exact(jP (qH HB)));(case aL=>have:=LMc8.out;omega);intro v261 w9 ho hb hg hat;rw[<- Ny260.out] at ho;have n0_:=qA (hb);have n1_:=qA (ho);clear HB;clear HO_5;have HB:=n0_;have HO262:=n1_;clear n0_ n1_;clear ho hb hg hat))
      go_roundg k1
      case measure=>have:=HK1.out;omega
      case rel=>exact⟨(y260),(wrap64 (x7_1+(wrap64 ((wrap64 (9*t258))+t259)))),(by first|rfl|(simp;done)|(simp [*];done)),H',⟨by have:=HK1.out;omega⟩,⟨by (with_reducible repeat (first|apply Kd.R_alloc|apply Kd.R_drewN|apply Kd.R_drew));exact HO262.out⟩,⟨qH HB⟩⟩
     ·rw[if_neg c8] at H
      exact absurd H (by simp)
def j9.ok (ts:List Bool) (x:Int):Bool:=!(ts.getD x.toNat false)
theorem j9.free_calls (a b:Int) (ts:List Bool) (l:List Int) (r:Bool) (w:World) (hts:ts.length=81) (h:jo.f 20 a b=some l) (hl:∀x ∈ l,0<=x/\x<81) (h9:l.length<=81) (hr:l.all (j9.ok ts)=r):
  Calls Tryz.prog 108 #[.int .i64 a,.int .i64 b,.agg (bv ts)] w λe w'=>e=.returned (.bool r)/\Below w.heap.size w w':=by
 subst hr;have B1:(w.alloc (Obj.cells (bv ts) 101)).heap[w.heap.size]?=some (.cells (bv ts) 101 (0,0)):=zJ w _;have BB:Below w.heap.size w (w.alloc (Obj.cells (bv ts) 101)):=ji (Below.refl _ _) _;have H1:=qA h;have HL:=qA hl;clear h hl;go_enter Tryz.func108,Tryz.ntmps108;go_upto_region 1 with(fail);generalize w.alloc (Obj.cells (bv ts) 101)=W at *;have K1:=qA B1;have KB:=qA BB;clear B1 BB;go_upto_region 2 with(first|(go_at_call 130;(with_reducible refine(jo.calls 20 a b l _ H1.out).mono ?_);rintro e w7 ⟨v0,rfl,hR,hb⟩;obtain⟨Aq,cq,eq⟩:=Kd.R_slice hR;subst eq;have HC:=qA (Kd.R_reads' hR).2.2;replace K1:=qB K1 hb;replace KB:=qS KB hb;clear hb hR));go_wp2
 go_loopg [8] (l.length+1) (λgf s8 wx=>∃(n:Nat),s8=.int .i64 n/\n<=l.length/\Aside0 ((l.drop n).all (j9.ok ts)=l.all (j9.ok ts))/\Aside0 (Kd.C (Kd.int .i64) wx Aq l.length l)/\Aside0 (wx.heap[w.heap.size]?=some (.cells (bv ts) 101 (0,0)))/\Aside0 (Below w.heap.size w wx)/\l.length+1<=gf+n)
 case atStart=>exact⟨0,rfl,by omega,⟨rfl⟩,HC,K1,KB,by omega⟩
 case round=>
  clear K1 KB HC;obtain⟨n,rfl,hn,HA,HC,K1,KB,hgf⟩:=hrel
  by_cases hend:n=l.length
  ·have b0:decide ((n:Int)<(l.length:Int))=false:=decide_eq_false (by omega)
   go_wp2;go_ret;exact⟨by rw[<- HA.out,hend,List.drop_length];rfl,KB.out⟩
  ·have hlt:n<l.length:=by omega
   have b0:decide ((n:Int)<(l.length:Int))=true:=decide_eq_true (by omega);have b1:(0<=(n:Int)/\(n:Int)<(l.length:Int))=True:=eq_true (by omega);have b2:((n:Int)<(l.length:Int))=True:=eq_true (by omega);have b3:(n<l.length)=True:=eq_true (by omega);obtain⟨ad,rfl,hc⟩:=Kd.at_int HC.out (n:Int) (by omega) (by omega)
   obtain⟨x0,hx0⟩:∃x,l[n]=x:=⟨_,rfl⟩
   have hrd:rd l (n:Int)=x0:=by
    unfold rd;rw[Int.toNat_natCast,List.getD_eq_getElem?_getD,List.getElem?_eq_getElem hlt,hx0];rfl
   have hx:0<=x0/\x0<81:=by rw[<- hx0];exact HL.out _ (List.getElem_mem hlt)
   obtain⟨q,rfl⟩:∃q:Nat,x0=q:=⟨x0.toNat,by omega⟩
   rw[hrd,Int.toNat_natCast] at hc
   have hdrop:(l.drop n).all (j9.ok ts)=(!(ts.getD q false)&&(l.drop (n+1)).all (j9.ok ts)):=by
    rw[List.drop_eq_getElem_cons hlt,List.all_cons,hx0];unfold j9.ok;rw[Int.toNat_natCast]
   have d1:(0<=(q:Int)/\(q:Int)<81)=True:=eq_true (by omega);have d2:((q:Int)<81)=True:=eq_true (by omega);have cB:wr.cell? ⟨w.heap.size,q,none⟩=some (.bool (ts.getD q false)):=(jB K1.out q).trans (bv_get ts q (by omega));have ew:IntKind.i64.wrap ((n:Int)+1)=(n:Int)+1:=IntWalk.i64_in _ (by omega)
   obtain⟨g',rfl⟩:∃g',gk=g'+1:=⟨gk-1,by omega⟩
   have HD:=qA hdrop;clear hdrop hx hrd hx0
   cases hb:ts.getD q false
   ·rw[hb] at cB
    go_wp2
    go_roundg g'
    case measure=>omega
    case rel=>exact⟨n+1,by simp,by omega,⟨by rw[<- HA.out,HD.out,hb];rfl⟩,HC,K1,KB,by omega⟩
   ·rw[hb] at cB
    go_wp2;go_ret;exact⟨by rw[<- HA.out,HD.out,hb];rfl,KB.out⟩
def jJ.up (sd:Int) (fr tq:Nat):Int:=if sd=1 then((tq%9:Nat):Int)-((fr%9:Nat):Int) else((fr%9:Nat):Int)-((tq%9:Nat):Int)
def jJ.sl (ln sd kd:Int) (fr tq:Nat):Bool:=
 if kd=2 then ln==1&&fr/9==tq/9&&decide (0<jJ.up sd fr tq) else if kd=6\/kd=14 then ln==2 else if kd=7\/kd=15 then ln==1 else false
theorem jJ.reaches_calls (x:Int) (fr tq:Nat) (ts:List Bool) (st:Bool) (ln sd kd:Int) (l:List Int) (w:World) (hfr:fr<81) (htq:tq<81) (hts:ts.length=81)
  (h1:jF.f 20 x (fr:Int) (tq:Int)=some st) (h2:jT.f 20 (fr:Int) (tq:Int)=some ln) (h3:jm.f x=some sd) (h4:jc.f x=some kd) (h5:jo.f 20 (fr:Int) (tq:Int)=some l) (h6:∀x ∈ l,0<=x/\x<81) (h7:l.length<=81):
  Calls Tryz.prog 77 #[.int .i64 x,.int .i64 (fr:Int),.int .i64 (tq:Int),.agg (bv ts)] w λe w'=>e=.returned (.bool (st||(jJ.sl ln sd kd fr tq&&l.all (j9.ok ts))))/\Below w.heap.size w w':=by
 have B1:(w.alloc (Obj.cells (bv ts) 101)).heap[w.heap.size]?=some (.cells (bv ts) 101 (0,0)):=zJ w _;have BB:Below w.heap.size w (w.alloc (Obj.cells (bv ts) 101)):=ji (Below.refl _ _) _;have H1:=qA h1;have H2:=qA h2;have H3:=qA h3;have H4:=qA h4;have H5:=qA h5;have H6:=qA h6;have H7:=qA h7;clear h1 h2 h3 h4 h5 h6 h7;go_enter Tryz.func77,Tryz.ntmps77;go_upto_region 1 with(fail);generalize w.alloc (Obj.cells (bv ts) 101)=W at *;have K1:=qA B1;have KB:=qA BB;clear B1 BB
 cases st
 case true=>
  go_wp2_with (first|(go_at_call 106;(with_reducible refine(jF.calls 20 x (fr:Int) (tq:Int) _ _ H1.out).mono ?_);rintro e w7 ⟨rfl,hd⟩;have hb:=hd.below;clear hd;replace K1:=qB K1 hb;replace KB:=qS KB hb;clear hb))
  go_ret;exact⟨rfl,KB.out⟩
 case false=>
  go_upto_region 4 with(first|(go_at_call 106;(with_reducible refine(jF.calls 20 x (fr:Int) (tq:Int) _ _ H1.out).mono ?_);rintro e w7 ⟨rfl,hd⟩;have hb:=hd.below;clear hd;replace K1:=qB K1 hb;replace KB:=qS KB hb;clear hb)|(go_at_call 107;(with_reducible refine(jT.calls 20 (fr:Int) (tq:Int) ln _ H2.out).mono ?_);rintro e w7 ⟨rfl,hd⟩;have hb:=hd.below;clear hd;replace K1:=qB K1 hb;replace KB:=qS KB hb;clear hb));go_upto_region 5 with(fail)
  obtain⟨u,hu⟩:∃u:Int,u=(fr:Int)%9-(tq:Int)%9:=⟨_,rfl⟩
  have hub:-8<=u/\u<=8:=by omega
  have hup:jJ.up sd fr tq=if sd=1 then -u else u:=by
   unfold jJ.up
   split<;>omega
  rw[<- hu];have HUP:=qA hup;clear hu hup
  by_cases hsd:sd=1
  ·subst hsd
   obtain⟨v,hv⟩:∃v:Int,v = -u:=⟨_,rfl⟩
   have q4:IntKind.i64.wrap (-u)=v:=by rw[IntWalk.i64_in _ (by omega),hv]
   have HU2:Aside0 (jJ.up 1 fr tq=v):=⟨by rw[HUP.out,if_pos rfl,hv]⟩
   clear HUP hv hub;go_upto_region 9 with(first|(go_at_call 58;(with_reducible refine(jm.calls x _ _ H3.out).mono ?_);rintro e w7 ⟨rfl,hd⟩;have hb:=hd.below;clear hd;replace K1:=qB K1 hb;replace KB:=qS KB hb;clear hb)|(go_at_call 57;(with_reducible refine(jc.calls x kd _ H4.out).mono ?_);rintro e w7 ⟨rfl,hd⟩;have hb:=hd.below;clear hd;replace K1:=qB K1 hb;replace KB:=qS KB hb;clear hb))
   rcases(show kd=2\/kd=6\/kd=14\/kd=7\/kd=15\/(kd≠2/\kd≠6/\kd≠14/\kd≠7/\kd≠15) by omega) with rfl|rfl|rfl|rfl|rfl|⟨k1,k2,k3,k4,k5⟩
   ·cases t1:(ln==1)
    ·have HS:Aside0 (jJ.sl ln 1 2 fr tq=false):=⟨by simp [jJ.sl,HU2.out,t1]⟩
     go_wp2;go_ret;exact⟨by rw[HS.out];rfl,KB.out⟩
    ·by_cases hq:(fr:Int)/9=(tq:Int)/9
     ·have hn:fr/9=tq/9:=by omega
      by_cases h0:0<v
      ·have t2:decide (0<v)=true:=decide_eq_true h0
       have HS:Aside0 (jJ.sl ln 1 2 fr tq=true):=⟨by simp [jJ.sl,HU2.out,t1,hn,h0]⟩
       go_wp2_with (first|((with_reducible refine jG (N:=60) rfl ?_);(try (refine zw (by rfl) ?_;dsimp only));refine jA5 rfl (.tmp 7) rfl rfl K1.out hts ?_)|(go_at_call 108;(with_reducible refine(j9.free_calls (fr:Int) (tq:Int) ts l _ _ hts H5.out H6.out H7.out rfl).mono ?_);rintro e_ w7 ⟨rfl,hb⟩;replace K1:=qB K1 hb;replace KB:=qS KB hb;clear hb))
       go_ret;exact⟨by rw[HS.out];rfl,KB.out⟩
      ·have t2:decide (0<v)=false:=decide_eq_false h0
       have HS:Aside0 (jJ.sl ln 1 2 fr tq=false):=⟨by simp [jJ.sl,HU2.out,t1,hn,h0]⟩
       go_wp2;go_ret;exact⟨by rw[HS.out];rfl,KB.out⟩
     ·have hn:¬fr/9=tq/9:=by omega
      have t2:((fr:Int)/9==(tq:Int)/9)=false:=beq_eq_false_iff_ne.mpr hq
      have HS:Aside0 (jJ.sl ln 1 2 fr tq=false):=⟨by simp [jJ.sl,HU2.out,t1,hn]⟩
      go_wp2;go_ret;exact⟨by rw[HS.out];rfl,KB.out⟩
   ·cases t1:(ln==2)
    ·have HS:Aside0 (jJ.sl ln 1 6 fr tq=false):=⟨by simp [jJ.sl,HU2.out,t1]⟩
     go_wp2;go_ret;exact⟨by rw[HS.out];rfl,KB.out⟩
    ·have HS:Aside0 (jJ.sl ln 1 6 fr tq=true):=⟨by simp [jJ.sl,HU2.out,t1]⟩
     go_wp2_with (first|((with_reducible refine jG (N:=60) rfl ?_);(try (refine zw (by rfl) ?_;dsimp only));refine jA5 rfl (.tmp 7) rfl rfl K1.out hts ?_)|(go_at_call 108;(with_reducible refine(j9.free_calls (fr:Int) (tq:Int) ts l _ _ hts H5.out H6.out H7.out rfl).mono ?_);rintro e_ w7 ⟨rfl,hb⟩;replace K1:=qB K1 hb;replace KB:=qS KB hb;clear hb))
     go_ret;exact⟨by rw[HS.out];rfl,KB.out⟩
   ·cases t1:(ln==2)
    ·have HS:Aside0 (jJ.sl ln 1 14 fr tq=false):=⟨by simp [jJ.sl,HU2.out,t1]⟩
     go_wp2;go_ret;exact⟨by rw[HS.out];rfl,KB.out⟩
    ·have HS:Aside0 (jJ.sl ln 1 14 fr tq=true):=⟨by simp [jJ.sl,HU2.out,t1]⟩
     go_wp2_with (first|((with_reducible refine jG (N:=60) rfl ?_);(try (refine zw (by rfl) ?_;dsimp only));refine jA5 rfl (.tmp 7) rfl rfl K1.out hts ?_)|(go_at_call 108;(with_reducible refine(j9.free_calls (fr:Int) (tq:Int) ts l _ _ hts H5.out H6.out H7.out rfl).mono ?_);rintro e_ w7 ⟨rfl,hb⟩;replace K1:=qB K1 hb;replace KB:=qS KB hb;clear hb))
     go_ret;exact⟨by rw[HS.out];rfl,KB.out⟩
   ·cases t1:(ln==1)
    ·have HS:Aside0 (jJ.sl ln 1 7 fr tq=false):=⟨by simp [jJ.sl,HU2.out,t1]⟩
     go_wp2;go_ret;exact⟨by rw[HS.out];rfl,KB.out⟩
    ·have HS:Aside0 (jJ.sl ln 1 7 fr tq=true):=⟨by simp [jJ.sl,HU2.out,t1]⟩
     go_wp2_with (first|((with_reducible refine jG (N:=60) rfl ?_);(try (refine zw (by rfl) ?_;dsimp only));refine jA5 rfl (.tmp 7) rfl rfl K1.out hts ?_)|(go_at_call 108;(with_reducible refine(j9.free_calls (fr:Int) (tq:Int) ts l _ _ hts H5.out H6.out H7.out rfl).mono ?_);rintro e_ w7 ⟨rfl,hb⟩;replace K1:=qB K1 hb;replace KB:=qS KB hb;clear hb))
     go_ret;exact⟨by rw[HS.out];rfl,KB.out⟩
   ·cases t1:(ln==1)
    ·have HS:Aside0 (jJ.sl ln 1 15 fr tq=false):=⟨by simp [jJ.sl,HU2.out,t1]⟩
     go_wp2;go_ret;exact⟨by rw[HS.out];rfl,KB.out⟩
    ·have HS:Aside0 (jJ.sl ln 1 15 fr tq=true):=⟨by simp [jJ.sl,HU2.out,t1]⟩
     go_wp2_with (first|((with_reducible refine jG (N:=60) rfl ?_);(try (refine zw (by rfl) ?_;dsimp only));refine jA5 rfl (.tmp 7) rfl rfl K1.out hts ?_)|(go_at_call 108;(with_reducible refine(j9.free_calls (fr:Int) (tq:Int) ts l _ _ hts H5.out H6.out H7.out rfl).mono ?_);rintro e_ w7 ⟨rfl,hb⟩;replace K1:=qB K1 hb;replace KB:=qS KB hb;clear hb))
     go_ret;exact⟨by rw[HS.out];rfl,KB.out⟩
   ·have n1:(kd==2)=false:=beq_eq_false_iff_ne.mpr k1
    have n2:(kd==6)=false:=beq_eq_false_iff_ne.mpr k2;have n3:(kd==14)=false:=beq_eq_false_iff_ne.mpr k3;have n4:(kd==7)=false:=beq_eq_false_iff_ne.mpr k4;have n5:(kd==15)=false:=beq_eq_false_iff_ne.mpr k5
    have HS:Aside0 (jJ.sl ln 1 kd fr tq=false):=⟨by simp [jJ.sl,HU2.out,k1,k2,k3,k4,k5]⟩
    go_wp2;go_ret;exact⟨by rw[HS.out];rfl,KB.out⟩
  ·have c:(sd==1)=false:=by simpa using hsd
   have HU2:Aside0 (jJ.up sd fr tq=u):=⟨by rw[HUP.out,if_neg hsd]⟩
   clear HUP hub;go_upto_region 9 with(first|(go_at_call 58;(with_reducible refine(jm.calls x _ _ H3.out).mono ?_);rintro e w7 ⟨rfl,hd⟩;have hb:=hd.below;clear hd;replace K1:=qB K1 hb;replace KB:=qS KB hb;clear hb)|(go_at_call 57;(with_reducible refine(jc.calls x kd _ H4.out).mono ?_);rintro e w7 ⟨rfl,hd⟩;have hb:=hd.below;clear hd;replace K1:=qB K1 hb;replace KB:=qS KB hb;clear hb))
   rcases(show kd=2\/kd=6\/kd=14\/kd=7\/kd=15\/(kd≠2/\kd≠6/\kd≠14/\kd≠7/\kd≠15) by omega) with rfl|rfl|rfl|rfl|rfl|⟨k1,k2,k3,k4,k5⟩
   ·cases t1:(ln==1)
    ·have HS:Aside0 (jJ.sl ln sd 2 fr tq=false):=⟨by simp [jJ.sl,HU2.out,t1]⟩
     go_wp2;go_ret;exact⟨by rw[HS.out];rfl,KB.out⟩
    ·by_cases hq:(fr:Int)/9=(tq:Int)/9
     ·have hn:fr/9=tq/9:=by omega
      by_cases h0:0<u
      ·have t2:decide (0<u)=true:=decide_eq_true h0
       have HS:Aside0 (jJ.sl ln sd 2 fr tq=true):=⟨by simp [jJ.sl,HU2.out,t1,hn,h0]⟩
       go_wp2_with (first|((with_reducible refine jG (N:=60) rfl ?_);(try (refine zw (by rfl) ?_;dsimp only));refine jA5 rfl (.tmp 7) rfl rfl K1.out hts ?_)|(go_at_call 108;(with_reducible refine(j9.free_calls (fr:Int) (tq:Int) ts l _ _ hts H5.out H6.out H7.out rfl).mono ?_);rintro e_ w7 ⟨rfl,hb⟩;replace K1:=qB K1 hb;replace KB:=qS KB hb;clear hb))
       go_ret;exact⟨by rw[HS.out];rfl,KB.out⟩
      ·have t2:decide (0<u)=false:=decide_eq_false h0
       have HS:Aside0 (jJ.sl ln sd 2 fr tq=false):=⟨by simp [jJ.sl,HU2.out,t1,hn,h0]⟩
       go_wp2;go_ret;exact⟨by rw[HS.out];rfl,KB.out⟩
     ·have hn:¬fr/9=tq/9:=by omega
      have t2:((fr:Int)/9==(tq:Int)/9)=false:=beq_eq_false_iff_ne.mpr hq
      have HS:Aside0 (jJ.sl ln sd 2 fr tq=false):=⟨by simp [jJ.sl,HU2.out,t1,hn]⟩
      go_wp2;go_ret;exact⟨by rw[HS.out];rfl,KB.out⟩
   ·cases t1:(ln==2)
    ·have HS:Aside0 (jJ.sl ln sd 6 fr tq=false):=⟨by simp [jJ.sl,HU2.out,t1]⟩
     go_wp2;go_ret;exact⟨by rw[HS.out];rfl,KB.out⟩
    ·have HS:Aside0 (jJ.sl ln sd 6 fr tq=true):=⟨by simp [jJ.sl,HU2.out,t1]⟩
     go_wp2_with (first|((with_reducible refine jG (N:=60) rfl ?_);(try (refine zw (by rfl) ?_;dsimp only));refine jA5 rfl (.tmp 7) rfl rfl K1.out hts ?_)|(go_at_call 108;(with_reducible refine(j9.free_calls (fr:Int) (tq:Int) ts l _ _ hts H5.out H6.out H7.out rfl).mono ?_);rintro e_ w7 ⟨rfl,hb⟩;replace K1:=qB K1 hb;replace KB:=qS KB hb;clear hb))
     go_ret;exact⟨by rw[HS.out];rfl,KB.out⟩
   ·cases t1:(ln==2)
    ·have HS:Aside0 (jJ.sl ln sd 14 fr tq=false):=⟨by simp [jJ.sl,HU2.out,t1]⟩
     go_wp2;go_ret;exact⟨by rw[HS.out];rfl,KB.out⟩
    ·have HS:Aside0 (jJ.sl ln sd 14 fr tq=true):=⟨by simp [jJ.sl,HU2.out,t1]⟩
     go_wp2_with (first|((with_reducible refine jG (N:=60) rfl ?_);(try (refine zw (by rfl) ?_;dsimp only));refine jA5 rfl (.tmp 7) rfl rfl K1.out hts ?_)|(go_at_call 108;(with_reducible refine(j9.free_calls (fr:Int) (tq:Int) ts l _ _ hts H5.out H6.out H7.out rfl).mono ?_);rintro e_ w7 ⟨rfl,hb⟩;replace K1:=qB K1 hb;replace KB:=qS KB hb;clear hb))
     go_ret;exact⟨by rw[HS.out];rfl,KB.out⟩
   ·cases t1:(ln==1)
    ·have HS:Aside0 (jJ.sl ln sd 7 fr tq=false):=⟨by simp [jJ.sl,HU2.out,t1]⟩
     go_wp2;go_ret;exact⟨by rw[HS.out];rfl,KB.out⟩
    ·have HS:Aside0 (jJ.sl ln sd 7 fr tq=true):=⟨by simp [jJ.sl,HU2.out,t1]⟩
     go_wp2_with (first|((with_reducible refine jG (N:=60) rfl ?_);(try (refine zw (by rfl) ?_;dsimp only));refine jA5 rfl (.tmp 7) rfl rfl K1.out hts ?_)|(go_at_call 108;(with_reducible refine(j9.free_calls (fr:Int) (tq:Int) ts l _ _ hts H5.out H6.out H7.out rfl).mono ?_);rintro e_ w7 ⟨rfl,hb⟩;replace K1:=qB K1 hb;replace KB:=qS KB hb;clear hb))
     go_ret;exact⟨by rw[HS.out];rfl,KB.out⟩
   ·cases t1:(ln==1)
    ·have HS:Aside0 (jJ.sl ln sd 15 fr tq=false):=⟨by simp [jJ.sl,HU2.out,t1]⟩
     go_wp2;go_ret;exact⟨by rw[HS.out];rfl,KB.out⟩
    ·have HS:Aside0 (jJ.sl ln sd 15 fr tq=true):=⟨by simp [jJ.sl,HU2.out,t1]⟩
     go_wp2_with (first|((with_reducible refine jG (N:=60) rfl ?_);(try (refine zw (by rfl) ?_;dsimp only));refine jA5 rfl (.tmp 7) rfl rfl K1.out hts ?_)|(go_at_call 108;(with_reducible refine(j9.free_calls (fr:Int) (tq:Int) ts l _ _ hts H5.out H6.out H7.out rfl).mono ?_);rintro e_ w7 ⟨rfl,hb⟩;replace K1:=qB K1 hb;replace KB:=qS KB hb;clear hb))
     go_ret;exact⟨by rw[HS.out];rfl,KB.out⟩
   ·have n1:(kd==2)=false:=beq_eq_false_iff_ne.mpr k1
    have n2:(kd==6)=false:=beq_eq_false_iff_ne.mpr k2;have n3:(kd==14)=false:=beq_eq_false_iff_ne.mpr k3;have n4:(kd==7)=false:=beq_eq_false_iff_ne.mpr k4;have n5:(kd==15)=false:=beq_eq_false_iff_ne.mpr k5
    have HS:Aside0 (jJ.sl ln sd kd fr tq=false):=⟨by simp [jJ.sl,HU2.out,k1,k2,k3,k4,k5]⟩
    go_wp2;go_ret;exact⟨by rw[HS.out];rfl,KB.out⟩
end Go.Proofs.YtigenhbmgpfffaaGreatDoor.Pa
