import Derived.Test.YtigenhbmgpfffaaGreatDoorB15
set_option maxRecDepth 100000
set_option maxHeartbeats 16000000
namespace Go.Proofs.YtigenhbmgpfffaaGreatDoor.Pa
open Go.RowKit Go.Proofs.YtigenhbmgpfffaaGreatDoorW.PrintWords Go.Proofs.YtigenhbmgpfffaaGreatDoorW.PrintLast Go.Proofs.YtigenhbmgpfffaaGreatDoorW.PrintMore
attribute [local go_sem] yE yC yM yL zo zn yD yB
set_option linter.unusedVariables false
set_option linter.unusedSimpArgs false
def jS.j0:Nat->Int->Int->Bool->Option (Int)
 | 0,_,_,_=>none
 | k+1,x0,x3,x20=>if x20=true then(if x0=8 then(some 8) else(if x0=24 then(some 8) else(some 0))) else(some x3)
def jS.f (k:Nat) (a0:Int):Option (Int):=if a0<=0 then(jS.j0 k a0 (Go.bits .and .i64 (wrap64 (a0)) 15) true) else(if a0>31 then(jS.j0 k a0 (Go.bits .and .i64 (wrap64 (a0)) 15) true) else(if(Go.bits .and .i64 (wrap64 (a0)) 15)=0 then(jS.j0 k a0 (Go.bits .and .i64 (wrap64 (a0)) 15) true) else(jS.j0 k a0 (Go.bits .and .i64 (wrap64 (a0)) 15) ((Go.bits .and .i64 (wrap64 (a0)) 15)==13))))
theorem jS.mono_l:∀k,(∀y0 y1 y2,LeO (jS.j0 k y0 y1 y2) (jS.j0 (k+1) y0 y1 y2))
 | 0=>λ_ _ _ r h=>by simp [jS.j0] at h
 | k+1=>by
  have ih0:=jS.mono_l k
  ·intro y0 y1 y2
   unfold jS.j0
   repeat' first
   | (with_reducible exact ih0 _ _ _)
   | (with_reducible exact LeO.refl _)
   | (with_reducible exact LeO.none _)
   | (with_reducible refine LeO.ite ?_ ?_)
   | (with_reducible refine LeO.bind ?_ (λ_=>?_))
   | exact ih0 _ _ _
   | exact LeO.none _
   | refine LeO.ite ?_ ?_
   | refine LeO.bind ?_ (λ_=>?_)
theorem jS.mono:∀a0 k,LeO (jS.f k a0) (jS.f (k+1) a0):=by
 intro a0 k;have ih0:=jS.mono_l k;unfold jS.f
 repeat' first
   | (with_reducible exact ih0 _ _ _)
   | (with_reducible exact LeO.refl _)
   | (with_reducible exact LeO.none _)
   | (with_reducible refine LeO.ite ?_ ?_)
   | (with_reducible refine LeO.bind ?_ (λ_=>?_))
   | exact ih0 _ _ _
   | exact LeO.none _
   | refine LeO.ite ?_ ?_
   | refine LeO.bind ?_ (λ_=>?_)
theorem jS.calls (k:Nat) (a0:Int) (r:Int) (w:World) (h:jS.f k a0=some r):
  Calls Tryz.prog 24 #[.int .i8 a0] w λe w'=>e=.returned (.int .i64 r)/\Drawn0 w w':=by
 have H:(if a0<=0 then(jS.j0 k a0 (Go.bits .and .i64 (wrap64 (a0)) 15) true) else(if a0>31 then(jS.j0 k a0 (Go.bits .and .i64 (wrap64 (a0)) 15) true) else(if(Go.bits .and .i64 (wrap64 (a0)) 15)=0 then(jS.j0 k a0 (Go.bits .and .i64 (wrap64 (a0)) 15) true) else(jS.j0 k a0 (Go.bits .and .i64 (wrap64 (a0)) 15) ((Go.bits .and .i64 (wrap64 (a0)) 15)==13)))))=some r:=h;clear h;have HC2:=qA H;clear H;go_enter Tryz.func24,Tryz.ntmps24;go_upto_region 2 with(fail);go_cut [20] (λv20 wc=>∃(kq:Nat) (x20_1:Bool),v20=.bool x20_1/\Aside0 (jS.j0 kq a0 (Go.bits .and .i64 (wrap64 (a0)) 15) x20_1=some r)/\Aside0 (kq<=k)/\Drawn0 w wc)
 case first=>
  have H:=HC2.out;clear HC2
  by_cases c3:a0<=0
  ·rw[if_pos c3] at H
   have c3b0:decide (a0<=0)=true:=decide_eq_true c3;clear c3
   (first|rw[c3b0]|(simp only[zP,zd];rw[c3b0])|skip)
   have H':=qA H;clear H;go_wp2;go_meet
   case rel=>exact⟨_,(true),(by first|rfl|(simp;done)|(simp [*];done)),H',⟨by first|omega|exact Nat.le_refl _⟩,by repeat (first|exact Drawn0.refl _|apply Drawn0.step)⟩
  ·rw[if_neg c3] at H
   have c3b0:decide (a0<=0)=false:=decide_eq_false c3;clear c3
   (first|rw[c3b0]|(simp only[zP,zd];rw[c3b0])|skip)
   by_cases c4:a0>31
   ·rw[if_pos c4] at H
    have c4b0:decide (31<a0)=true:=decide_eq_true c4;clear c4;have H':=qA H;clear H;go_wp2;go_meet
    case rel=>exact⟨_,(true),(by first|rfl|(simp;done)|(simp [*];done)),H',⟨by first|omega|exact Nat.le_refl _⟩,by repeat (first|exact Drawn0.refl _|apply Drawn0.step)⟩
   ·rw[if_neg c4] at H
    have c4b0:decide (31<a0)=false:=decide_eq_false c4;clear c4
    by_cases c5:(Go.bits .and .i64 (wrap64 (a0)) 15)=0
    ·rw[if_pos c5] at H
     have c5b0:((Go.bits .and .i64 (wrap64 (a0)) 15)==0)=true:=beq_iff_eq.mpr c5;have c5b1:((Go.bits .and .i64 (wrap64 (a0)) 15) != 0)=false:=bne_eq_false_iff_eq.mpr c5;clear c5;have H':=qA H;clear H;go_wp2;go_meet
     case rel=>exact⟨_,(true),(by first|rfl|(simp;done)|(simp [*];done)),H',⟨by first|omega|exact Nat.le_refl _⟩,by repeat (first|exact Drawn0.refl _|apply Drawn0.step)⟩
    ·rw[if_neg c5] at H
     have c5b0:((Go.bits .and .i64 (wrap64 (a0)) 15)==0)=false:=beq_eq_false_iff_ne.mpr c5;have c5b1:((Go.bits .and .i64 (wrap64 (a0)) 15) != 0)=true:=bne_iff_ne.mpr c5;have H':=qA H;clear H;go_wp2;go_meet
     case rel=>exact⟨_,(((Go.bits .and .i64 (wrap64 (a0)) 15)==13)),(by first|rfl|(simp;done)|(simp [*];done)),H',⟨by first|omega|exact Nat.le_refl _⟩,by repeat (first|exact Drawn0.refl _|apply Drawn0.step)⟩
 case rest=>
  clear HC2
  try clear c2
  try clear p2
  try clear c3
  try clear c3b0
  try clear c4
  try clear c4b0
  try clear c5
  try clear c5b0
  try clear c5b1
  obtain⟨kq,x20_1,rfl,HA,HJ1,⟨mc1,rfl⟩⟩:=hcut
  cases kq with
  | zero=>exact absurd HA.out (by simp [jS.j0])
  | succ kj1=>
   have H:=HA.out;clear HA;simp only[jS.j0] at H
   by_cases c6:x20_1=true
   ·subst c6
    have H1:(if a0=8 then(some 8) else(if a0=24 then(some 8) else(some 0)))=some r:=by rw[if_pos rfl] at H;exact H
    clear H;have H:=H1;clear H1
    by_cases c7:a0=8
    ·rw[if_pos c7] at H
     have c7b0:(a0==8)=true:=beq_iff_eq.mpr c7;have c7b1:(a0 != 8)=false:=bne_eq_false_iff_eq.mpr c7;clear c7;obtain rfl:=Option.some.inj H;go_wp2;go_ret;exact⟨by first|rfl|(simp;done)|(simp [*];done),by repeat (first|exact Drawn0.refl _|apply Drawn0.step)⟩
    ·rw[if_neg c7] at H
     have c7b0:(a0==8)=false:=beq_eq_false_iff_ne.mpr c7;have c7b1:(a0 != 8)=true:=bne_iff_ne.mpr c7
     by_cases c8:a0=24
     ·rw[if_pos c8] at H
      have c8b0:(a0==24)=true:=beq_iff_eq.mpr c8;have c8b1:(a0 != 24)=false:=bne_eq_false_iff_eq.mpr c8;clear c8;obtain rfl:=Option.some.inj H;go_wp2;go_ret;exact⟨by first|rfl|(simp;done)|(simp [*];done),by repeat (first|exact Drawn0.refl _|apply Drawn0.step)⟩
     ·rw[if_neg c8] at H
      have c8b0:(a0==24)=false:=beq_eq_false_iff_ne.mpr c8;have c8b1:(a0 != 24)=true:=bne_iff_ne.mpr c8;obtain rfl:=Option.some.inj H;go_wp2;go_ret;exact⟨by first|rfl|(simp;done)|(simp [*];done),by repeat (first|exact Drawn0.refl _|apply Drawn0.step)⟩
   ·replace c6:=Bool.eq_false_iff.mpr c6
    subst c6
    have H1:(some (Go.bits .and .i64 (wrap64 (a0)) 15))=some r:=by rw[if_neg (show ¬(false=true) by decide)] at H;exact H
    clear H;have H:=H1;clear H1;obtain rfl:=Option.some.inj H;go_wp2;go_ret;exact⟨by first|rfl|(simp;done)|(simp [*];done),by repeat (first|exact Drawn0.refl _|apply Drawn0.step)⟩
def zU.f (a0:Int) (a1:Int):Option (Int):=if a0=0 then(if a1<1 then(some 0) else(if a1>15 then(some 0) else(if a1=13 then(some 0) else(some (IntKind.i8.wrap (wrap64 ((wrap64 (16*a0))+a1))))))) else(if a0=1 then(if a1<1 then(some 0) else(if a1>15 then(some 0) else(if a1=13 then(some 0) else(some (IntKind.i8.wrap (wrap64 ((wrap64 (16*a0))+a1))))))) else(some 0))
theorem zU.calls (a0:Int) (a1:Int) (r:Int) (w:World) (h:zU.f a0 a1=some r):
  Calls Tryz.prog 27 #[.int .i64 a0,.int .i64 a1] w λe w'=>e=.returned (.int .i8 r)/\Drawn0 w w':=by
 have H:(if a0=0 then(if a1<1 then(some 0) else(if a1>15 then(some 0) else(if a1=13 then(some 0) else(some (IntKind.i8.wrap (wrap64 ((wrap64 (16*a0))+a1))))))) else(if a0=1 then(if a1<1 then(some 0) else(if a1>15 then(some 0) else(if a1=13 then(some 0) else(some (IntKind.i8.wrap (wrap64 ((wrap64 (16*a0))+a1))))))) else(some 0)))=some r:=h;clear h
 by_cases c3:a0=0
 ·rw[if_pos c3] at H
  have c3b0:(a0==0)=true:=beq_iff_eq.mpr c3;have c3b1:(a0 != 0)=false:=bne_eq_false_iff_eq.mpr c3;clear c3
  by_cases c4:a1<1
  ·rw[if_pos c4] at H
   have c4b0:decide (a1<1)=true:=decide_eq_true c4;clear c4;obtain rfl:=Option.some.inj H;go_enter Tryz.func27,Tryz.ntmps27;go_wp2;go_ret;exact⟨by first|rfl|(simp;done)|(simp [*];done),by repeat (first|exact Drawn0.refl _|apply Drawn0.step)⟩
  ·rw[if_neg c4] at H
   have c4b0:decide (a1<1)=false:=decide_eq_false c4;clear c4
   by_cases c5:a1>15
   ·rw[if_pos c5] at H
    have c5b0:decide (15<a1)=true:=decide_eq_true c5;clear c5;obtain rfl:=Option.some.inj H;go_enter Tryz.func27,Tryz.ntmps27;go_wp2;go_ret;exact⟨by first|rfl|(simp;done)|(simp [*];done),by repeat (first|exact Drawn0.refl _|apply Drawn0.step)⟩
   ·rw[if_neg c5] at H
    have c5b0:decide (15<a1)=false:=decide_eq_false c5;clear c5
    by_cases c6:a1=13
    ·rw[if_pos c6] at H
     have c6b0:(a1==13)=true:=beq_iff_eq.mpr c6;have c6b1:(a1 != 13)=false:=bne_eq_false_iff_eq.mpr c6;clear c6;obtain rfl:=Option.some.inj H;go_enter Tryz.func27,Tryz.ntmps27;go_wp2;go_ret;exact⟨by first|rfl|(simp;done)|(simp [*];done),by repeat (first|exact Drawn0.refl _|apply Drawn0.step)⟩
    ·rw[if_neg c6] at H
     have c6b0:(a1==13)=false:=beq_eq_false_iff_ne.mpr c6;have c6b1:(a1 != 13)=true:=bne_iff_ne.mpr c6;obtain rfl:=Option.some.inj H;go_enter Tryz.func27,Tryz.ntmps27;go_wp2;go_ret;exact⟨by first|rfl|(simp;done)|(simp [*];done),by repeat (first|exact Drawn0.refl _|apply Drawn0.step)⟩
 ·rw[if_neg c3] at H
  have c3b0:(a0==0)=false:=beq_eq_false_iff_ne.mpr c3;have c3b1:(a0 != 0)=true:=bne_iff_ne.mpr c3
  by_cases c7:a0=1
  ·rw[if_pos c7] at H
   have c7b0:(a0==1)=true:=beq_iff_eq.mpr c7;have c7b1:(a0 != 1)=false:=bne_eq_false_iff_eq.mpr c7;clear c7
   by_cases c8:a1<1
   ·rw[if_pos c8] at H
    have c8b0:decide (a1<1)=true:=decide_eq_true c8;clear c8;obtain rfl:=Option.some.inj H;go_enter Tryz.func27,Tryz.ntmps27;go_wp2;go_ret;exact⟨by first|rfl|(simp;done)|(simp [*];done),by repeat (first|exact Drawn0.refl _|apply Drawn0.step)⟩
   ·rw[if_neg c8] at H
    have c8b0:decide (a1<1)=false:=decide_eq_false c8;clear c8
    by_cases c9:a1>15
    ·rw[if_pos c9] at H
     have c9b0:decide (15<a1)=true:=decide_eq_true c9;clear c9;obtain rfl:=Option.some.inj H;go_enter Tryz.func27,Tryz.ntmps27;go_wp2;go_ret;exact⟨by first|rfl|(simp;done)|(simp [*];done),by repeat (first|exact Drawn0.refl _|apply Drawn0.step)⟩
    ·rw[if_neg c9] at H
     have c9b0:decide (15<a1)=false:=decide_eq_false c9;clear c9
     by_cases c10:a1=13
     ·rw[if_pos c10] at H
      have c10b0:(a1==13)=true:=beq_iff_eq.mpr c10;have c10b1:(a1 != 13)=false:=bne_eq_false_iff_eq.mpr c10;clear c10;obtain rfl:=Option.some.inj H;go_enter Tryz.func27,Tryz.ntmps27;go_wp2;go_ret;exact⟨by first|rfl|(simp;done)|(simp [*];done),by repeat (first|exact Drawn0.refl _|apply Drawn0.step)⟩
     ·rw[if_neg c10] at H
      have c10b0:(a1==13)=false:=beq_eq_false_iff_ne.mpr c10;have c10b1:(a1 != 13)=true:=bne_iff_ne.mpr c10;obtain rfl:=Option.some.inj H;go_enter Tryz.func27,Tryz.ntmps27;go_wp2;go_ret;exact⟨by first|rfl|(simp;done)|(simp [*];done),by repeat (first|exact Drawn0.refl _|apply Drawn0.step)⟩
  ·rw[if_neg c7] at H
   have c7b0:(a0==1)=false:=beq_eq_false_iff_ne.mpr c7;have c7b1:(a0 != 1)=true:=bne_iff_ne.mpr c7;obtain rfl:=Option.some.inj H;go_enter Tryz.func27,Tryz.ntmps27;go_wp2;go_ret;exact⟨by first|rfl|(simp;done)|(simp [*];done),by repeat (first|exact Drawn0.refl _|apply Drawn0.step)⟩
def yX.f (a0:Int):Option (Int):=(zU.f 0 a0).bind λt101=>(if t101=0 then(some 0) else(if a0>8 then(some (wrap64 (a0-8))) else(some a0)))
theorem yX.calls (a0:Int) (r:Int) (w:World) (h:yX.f a0=some r):
  Calls Tryz.prog 47 #[.int .i64 a0] w λe w'=>e=.returned (.int .i64 r)/\Drawn0 w w':=by
 have H:((zU.f 0 a0).bind λt101=>(if t101=0 then(some 0) else(if a0>8 then(some (wrap64 (a0-8))) else(some a0))))=some r:=h;clear h;replace H:=Option.bind_eq_some_iff.mp H;obtain⟨t101,A20,H⟩:=H;replace H:(if t101=0 then(some 0) else(if a0>8 then(some (wrap64 (a0-8))) else(some a0)))=some r:=H;have A2:=qA A20;clear A20
 by_cases c3:t101=0
 ·rw[if_pos c3] at H
  have c3b0:(t101==0)=true:=beq_iff_eq.mpr c3;have c3b1:(t101 != 0)=false:=bne_eq_false_iff_eq.mpr c3;clear c3;obtain rfl:=Option.some.inj H;go_enter Tryz.func47,Tryz.ntmps47
  go_wp2_with (first|((with_reducible refine jV (f:=27) rfl ?_);refine zB (some 5) rfl rfl Tryz.func27 (by kernel_rfl) rfl #[.int .i64 0,.int .i64 a0] rfl (by (try simp only[List.map_toArray,List.map_cons,List.map_nil]);first|done|rfl|(simp only[List.length_drop,List.length_take];rfl)) ?_;(with_reducible refine(zU.calls 0 a0 t101 _ A2.out).mono ?_);rintro e w' ⟨rfl,⟨nd,rfl⟩⟩;refine⟨_,rfl,?_⟩))
  go_ret;exact⟨by first|rfl|(simp;done)|(simp [*];done),by repeat (first|exact Drawn0.refl _|apply Drawn0.step)⟩
 ·rw[if_neg c3] at H
  have c3b0:(t101==0)=false:=beq_eq_false_iff_ne.mpr c3;have c3b1:(t101 != 0)=true:=bne_iff_ne.mpr c3
  by_cases c4:a0>8
  ·rw[if_pos c4] at H
   have c4b0:decide (8<a0)=true:=decide_eq_true c4;clear c4;obtain rfl:=Option.some.inj H;go_enter Tryz.func47,Tryz.ntmps47
   go_wp2_with (first|((with_reducible refine jV (f:=27) rfl ?_);refine zB (some 5) rfl rfl Tryz.func27 (by kernel_rfl) rfl #[.int .i64 0,.int .i64 a0] rfl (by (try simp only[List.map_toArray,List.map_cons,List.map_nil]);first|done|rfl|(simp only[List.length_drop,List.length_take];rfl)) ?_;(with_reducible refine(zU.calls 0 a0 t101 _ A2.out).mono ?_);rintro e w' ⟨rfl,⟨nd,rfl⟩⟩;refine⟨_,rfl,?_⟩))
   go_ret;exact⟨by first|rfl|(simp;done)|(simp [*];done),by repeat (first|exact Drawn0.refl _|apply Drawn0.step)⟩
  ·rw[if_neg c4] at H
   have c4b0:decide (8<a0)=false:=decide_eq_false c4;clear c4;obtain rfl:=Option.some.inj H;go_enter Tryz.func47,Tryz.ntmps47
   go_wp2_with (first|((with_reducible refine jV (f:=27) rfl ?_);refine zB (some 5) rfl rfl Tryz.func27 (by kernel_rfl) rfl #[.int .i64 0,.int .i64 a0] rfl (by (try simp only[List.map_toArray,List.map_cons,List.map_nil]);first|done|rfl|(simp only[List.length_drop,List.length_take];rfl)) ?_;(with_reducible refine(zU.calls 0 a0 t101 _ A2.out).mono ?_);rintro e w' ⟨rfl,⟨nd,rfl⟩⟩;refine⟨_,rfl,?_⟩))
   go_ret;exact⟨by first|rfl|(simp;done)|(simp [*];done),by repeat (first|exact Drawn0.refl _|apply Drawn0.step)⟩
def jv.f (k:Nat) (a0:Int):Option (Int):=(jS.f k a0).bind λt102=>(if t102=0 then(some (-1)) else(if a0<16 then(some 0) else(some 1)))
theorem jv.mono:∀a0 k,LeO (jv.f k a0) (jv.f (k+1) a0):=by
 intro a0 k;unfold jv.f
 repeat' first
   | (with_reducible exact jS.mono _ _)
   | (with_reducible exact LeO.refl _)
   | (with_reducible exact LeO.none _)
   | (with_reducible refine LeO.ite ?_ ?_)
   | (with_reducible refine LeO.bind ?_ (λ_=>?_))
   | exact jS.mono _ _
   | exact LeO.none _
   | refine LeO.ite ?_ ?_
   | refine LeO.bind ?_ (λ_=>?_)
theorem jv.calls (k:Nat) (a0:Int) (r:Int) (w:World) (h:jv.f k a0=some r):
  Calls Tryz.prog 48 #[.int .i8 a0] w λe w'=>e=.returned (.int .i64 r)/\Drawn0 w w':=by
 have H:((jS.f k a0).bind λt102=>(if t102=0 then(some (-1)) else(if a0<16 then(some 0) else(some 1))))=some r:=h;clear h;replace H:=Option.bind_eq_some_iff.mp H;obtain⟨t102,A20,H⟩:=H;replace H:(if t102=0 then(some (-1)) else(if a0<16 then(some 0) else(some 1)))=some r:=H;have A2:=qA A20;clear A20
 by_cases c3:t102=0
 ·rw[if_pos c3] at H
  have c3b0:(t102==0)=true:=beq_iff_eq.mpr c3;have c3b1:(t102 != 0)=false:=bne_eq_false_iff_eq.mpr c3;clear c3;obtain rfl:=Option.some.inj H;go_enter Tryz.func48,Tryz.ntmps48
  go_wp2_with (first|((with_reducible refine jV (f:=24) rfl ?_);refine zB (some 5) rfl rfl Tryz.func24 (by kernel_rfl) rfl #[.int .i8 a0] rfl (by (try simp only[List.map_toArray,List.map_cons,List.map_nil]);first|done|rfl|(simp only[List.length_drop,List.length_take];rfl)) ?_;(with_reducible refine(jS.calls k a0 t102 _ A2.out).mono ?_);rintro e w' ⟨rfl,⟨nd,rfl⟩⟩;refine⟨_,rfl,?_⟩))
  go_ret;exact⟨by first|rfl|(simp;done)|(simp [*];done),by repeat (first|exact Drawn0.refl _|apply Drawn0.step)⟩
 ·rw[if_neg c3] at H
  have c3b0:(t102==0)=false:=beq_eq_false_iff_ne.mpr c3;have c3b1:(t102 != 0)=true:=bne_iff_ne.mpr c3
  by_cases c4:a0<16
  ·rw[if_pos c4] at H
   have c4b0:decide (a0<16)=true:=decide_eq_true c4;clear c4;obtain rfl:=Option.some.inj H;go_enter Tryz.func48,Tryz.ntmps48
   go_wp2_with (first|((with_reducible refine jV (f:=24) rfl ?_);refine zB (some 5) rfl rfl Tryz.func24 (by kernel_rfl) rfl #[.int .i8 a0] rfl (by (try simp only[List.map_toArray,List.map_cons,List.map_nil]);first|done|rfl|(simp only[List.length_drop,List.length_take];rfl)) ?_;(with_reducible refine(jS.calls k a0 t102 _ A2.out).mono ?_);rintro e w' ⟨rfl,⟨nd,rfl⟩⟩;refine⟨_,rfl,?_⟩))
   go_ret;exact⟨by first|rfl|(simp;done)|(simp [*];done),by repeat (first|exact Drawn0.refl _|apply Drawn0.step)⟩
  ·rw[if_neg c4] at H
   have c4b0:decide (a0<16)=false:=decide_eq_false c4;clear c4;obtain rfl:=Option.some.inj H;go_enter Tryz.func48,Tryz.ntmps48
   go_wp2_with (first|((with_reducible refine jV (f:=24) rfl ?_);refine zB (some 5) rfl rfl Tryz.func24 (by kernel_rfl) rfl #[.int .i8 a0] rfl (by (try simp only[List.map_toArray,List.map_cons,List.map_nil]);first|done|rfl|(simp only[List.length_drop,List.length_take];rfl)) ?_;(with_reducible refine(jS.calls k a0 t102 _ A2.out).mono ?_);rintro e w' ⟨rfl,⟨nd,rfl⟩⟩;refine⟨_,rfl,?_⟩))
   go_ret;exact⟨by first|rfl|(simp;done)|(simp [*];done),by repeat (first|exact Drawn0.refl _|apply Drawn0.step)⟩
def zK.j0:Nat->Int->Bool->Option (Int)
 | 0,_,_=>none
 | k+1,x3,x6=>if x6=true then(some 4) else(if x3=6 then(some 2) else(if x3=7 then(some 2) else(if x3=8 then(some 2) else(some 0))))
def zK.f (k:Nat) (a0:Int):Option (Int):=if a0=1 then(some 18) else(if a0=2 then(zK.j0 k a0 (a0==2)) else(if a0=3 then(zK.j0 k a0 (a0==3)) else(if a0=4 then(zK.j0 k a0 (a0==4)) else(zK.j0 k a0 (a0==5)))))
theorem zK.mono_l:∀k,(∀y0 y1,LeO (zK.j0 k y0 y1) (zK.j0 (k+1) y0 y1))
 | 0=>λ_ _ r h=>by simp [zK.j0] at h
 | k+1=>by
  have ih0:=zK.mono_l k
  ·intro y0 y1
   unfold zK.j0
   repeat' first
   | (with_reducible exact ih0 _ _)
   | (with_reducible exact LeO.refl _)
   | (with_reducible exact LeO.none _)
   | (with_reducible refine LeO.ite ?_ ?_)
   | (with_reducible refine LeO.bind ?_ (λ_=>?_))
   | exact ih0 _ _
   | exact LeO.none _
   | refine LeO.ite ?_ ?_
   | refine LeO.bind ?_ (λ_=>?_)
theorem zK.mono:∀a0 k,LeO (zK.f k a0) (zK.f (k+1) a0):=by
 intro a0 k;have ih0:=zK.mono_l k;unfold zK.f
 repeat' first
   | (with_reducible exact ih0 _ _)
   | (with_reducible exact LeO.refl _)
   | (with_reducible exact LeO.none _)
   | (with_reducible refine LeO.ite ?_ ?_)
   | (with_reducible refine LeO.bind ?_ (λ_=>?_))
   | exact ih0 _ _
   | exact LeO.none _
   | refine LeO.ite ?_ ?_
   | refine LeO.bind ?_ (λ_=>?_)
theorem zK.calls (k:Nat) (a0:Int) (r:Int) (w:World) (h:zK.f k a0=some r):
  Calls Tryz.prog 63 #[.int .i64 a0] w λe w'=>e=.returned (.int .i64 r)/\Drawn0 w w':=by
 have H:(if a0=1 then(some 18) else(if a0=2 then(zK.j0 k a0 (a0==2)) else(if a0=3 then(zK.j0 k a0 (a0==3)) else(if a0=4 then(zK.j0 k a0 (a0==4)) else(zK.j0 k a0 (a0==5))))))=some r:=h;clear h
 by_cases c2:a0=1
 ·rw[if_pos c2] at H
  have c2b0:(a0==1)=true:=beq_iff_eq.mpr c2;have c2b1:(a0 != 1)=false:=bne_eq_false_iff_eq.mpr c2;clear c2;obtain rfl:=Option.some.inj H;go_enter Tryz.func63,Tryz.ntmps63;go_wp2;go_ret;exact⟨by first|rfl|(simp;done)|(simp [*];done),by repeat (first|exact Drawn0.refl _|apply Drawn0.step)⟩
 ·rw[if_neg c2] at H
  have c2b0:(a0==1)=false:=beq_eq_false_iff_ne.mpr c2;have c2b1:(a0 != 1)=true:=bne_iff_ne.mpr c2;have HC3:=qA H;clear H;go_enter Tryz.func63,Tryz.ntmps63
  go_upto_if 6 with(fail)
  go_cut [6] (λv6 wc=>∃(kq:Nat) (x6_2:Bool),v6=.bool x6_2/\Aside0 (zK.j0 kq a0 x6_2=some r)/\Aside0 (kq<=k)/\Drawn0 w wc)
  case first=>
   have H:=HC3.out;clear HC3
   by_cases c4:a0=2
   ·rw[if_pos c4] at H
    have c4b0:(a0==2)=true:=beq_iff_eq.mpr c4;have c4b1:(a0 != 2)=false:=bne_eq_false_iff_eq.mpr c4;clear c4
    (first|rw[c4b0]|(simp only[zP,zd];rw[c4b0])|skip)
    have H':=qA H;clear H;go_wp2;go_meet
    case rel=>exact⟨_,((a0==2)),(by first|rfl|(simp;done)|(simp [*];done)),H',⟨by first|omega|exact Nat.le_refl _⟩,by repeat (first|exact Drawn0.refl _|apply Drawn0.step)⟩
   ·rw[if_neg c4] at H
    have c4b0:(a0==2)=false:=beq_eq_false_iff_ne.mpr c4;have c4b1:(a0 != 2)=true:=bne_iff_ne.mpr c4
    (first|rw[c4b0]|(simp only[zP,zd];rw[c4b0])|skip)
    by_cases c5:a0=3
    ·rw[if_pos c5] at H
     have c5b0:(a0==3)=true:=beq_iff_eq.mpr c5;have c5b1:(a0 != 3)=false:=bne_eq_false_iff_eq.mpr c5;clear c5;have H':=qA H;clear H;go_wp2;go_meet
     case rel=>exact⟨_,((a0==3)),(by first|rfl|(simp;done)|(simp [*];done)),H',⟨by first|omega|exact Nat.le_refl _⟩,by repeat (first|exact Drawn0.refl _|apply Drawn0.step)⟩
    ·rw[if_neg c5] at H
     have c5b0:(a0==3)=false:=beq_eq_false_iff_ne.mpr c5;have c5b1:(a0 != 3)=true:=bne_iff_ne.mpr c5
     by_cases c6:a0=4
     ·rw[if_pos c6] at H
      have c6b0:(a0==4)=true:=beq_iff_eq.mpr c6;have c6b1:(a0 != 4)=false:=bne_eq_false_iff_eq.mpr c6;clear c6;have H':=qA H;clear H;go_wp2;go_meet
      case rel=>exact⟨_,((a0==4)),(by first|rfl|(simp;done)|(simp [*];done)),H',⟨by first|omega|exact Nat.le_refl _⟩,by repeat (first|exact Drawn0.refl _|apply Drawn0.step)⟩
     ·rw[if_neg c6] at H
      have c6b0:(a0==4)=false:=beq_eq_false_iff_ne.mpr c6;have c6b1:(a0 != 4)=true:=bne_iff_ne.mpr c6;have H':=qA H;clear H;go_wp2;go_meet
      case rel=>exact⟨_,((a0==5)),(by first|rfl|(simp;done)|(simp [*];done)),H',⟨by first|omega|exact Nat.le_refl _⟩,by repeat (first|exact Drawn0.refl _|apply Drawn0.step)⟩
  case rest=>
   clear HC3
   try clear c2
   try clear c2b0
   try clear c2b1
   try clear p2
   try clear c4
   try clear c4b0
   try clear c4b1
   try clear c5
   try clear c5b0
   try clear c5b1
   try clear c6
   try clear c6b0
   try clear c6b1
   obtain⟨kq,x6_2,rfl,HA,HJ2,⟨mc2,rfl⟩⟩:=hcut
   cases kq with
   | zero=>exact absurd HA.out (by simp [zK.j0])
   | succ kj2=>
    have H:=HA.out;clear HA;simp only[zK.j0] at H
    by_cases c7:x6_2=true
    ·subst c7
     have H1:(some 4)=some r:=by rw[if_pos rfl] at H;exact H
     clear H;have H:=H1;clear H1;obtain rfl:=Option.some.inj H;go_wp2;go_ret;exact⟨by first|rfl|(simp;done)|(simp [*];done),by repeat (first|exact Drawn0.refl _|apply Drawn0.step)⟩
    ·replace c7:=Bool.eq_false_iff.mpr c7
     subst c7
     have H1:(if a0=6 then(some 2) else(if a0=7 then(some 2) else(if a0=8 then(some 2) else(some 0))))=some r:=by rw[if_neg (show ¬(false=true) by decide)] at H;exact H
     clear H;have H:=H1;clear H1
     by_cases c8:a0=6
     ·rw[if_pos c8] at H
      have c8b0:(a0==6)=true:=beq_iff_eq.mpr c8;have c8b1:(a0 != 6)=false:=bne_eq_false_iff_eq.mpr c8;clear c8;obtain rfl:=Option.some.inj H;go_wp2;go_ret;exact⟨by first|rfl|(simp;done)|(simp [*];done),by repeat (first|exact Drawn0.refl _|apply Drawn0.step)⟩
     ·rw[if_neg c8] at H
      have c8b0:(a0==6)=false:=beq_eq_false_iff_ne.mpr c8;have c8b1:(a0 != 6)=true:=bne_iff_ne.mpr c8
      by_cases c9:a0=7
      ·rw[if_pos c9] at H
       have c9b0:(a0==7)=true:=beq_iff_eq.mpr c9;have c9b1:(a0 != 7)=false:=bne_eq_false_iff_eq.mpr c9;clear c9;obtain rfl:=Option.some.inj H;go_wp2;go_ret;exact⟨by first|rfl|(simp;done)|(simp [*];done),by repeat (first|exact Drawn0.refl _|apply Drawn0.step)⟩
      ·rw[if_neg c9] at H
       have c9b0:(a0==7)=false:=beq_eq_false_iff_ne.mpr c9;have c9b1:(a0 != 7)=true:=bne_iff_ne.mpr c9
       by_cases c10:a0=8
       ·rw[if_pos c10] at H
        have c10b0:(a0==8)=true:=beq_iff_eq.mpr c10;have c10b1:(a0 != 8)=false:=bne_eq_false_iff_eq.mpr c10;clear c10;obtain rfl:=Option.some.inj H;go_wp2;go_ret;exact⟨by first|rfl|(simp;done)|(simp [*];done),by repeat (first|exact Drawn0.refl _|apply Drawn0.step)⟩
       ·rw[if_neg c10] at H
        have c10b0:(a0==8)=false:=beq_eq_false_iff_ne.mpr c10;have c10b1:(a0 != 8)=true:=bne_iff_ne.mpr c10;obtain rfl:=Option.some.inj H;go_wp2;go_ret;exact⟨by first|rfl|(simp;done)|(simp [*];done),by repeat (first|exact Drawn0.refl _|apply Drawn0.step)⟩
def jAD.f (a0_0:Int) (a0_1:Int) (a1_0:Int) (a1_1:Int):Option (Int×Int):=some (Go.bits .andNot .u64 a0_0 a1_0,Go.bits .andNot .u64 a0_1 a1_1)
theorem jAD.calls (a0_0:Int) (a0_1:Int) (a1_0:Int) (a1_1:Int) (r1:Int) (r2:Int) (w:World) (h:jAD.f a0_0 a0_1 a1_0 a1_1=some (r1,r2)):
  Calls Tryz.prog 122 #[.agg #[.int .u64 a0_0,.int .u64 a0_1],.agg #[.int .u64 a1_0,.int .u64 a1_1]] w λe w'=>e=.returned (.agg #[.int .u64 r1,.int .u64 r2])/\Below w.heap.size w w':=by
 have hu88:=Tryz.underlying88;have HB:=qA (Below.refl w.heap.size w);have H:(some (Go.bits .andNot .u64 a0_0 a1_0,Go.bits .andNot .u64 a0_1 a1_1))=some (r1,r2):=h;clear h;simp only[Option.some.injEq,Prod.mk.injEq] at H;obtain⟨rfl,rfl⟩:=H;go_enter Tryz.func122,Tryz.ntmps122
 go_wp2_with (first|((with_reducible refine jG (N:=2) rfl ?_);refine zI ?hg (N:=2) ?hd (cs:=#[.int .u64 a0_0,.int .u64 a0_1]) (t:=88) ?hr ?_;(case hd=>rfl);(case hg=>rfl);(case hr=>first|(go_simp;done)|(go_simp;rfl));intro gb103 hg w3 hbox hb;have n0_:=qA (jX (qH HB) hb);have n1_:=qA (hbox);have n2_:=qA ((by rw[hg];exact(jP (qH HB)):w.heap.size<=gb103));have n3_:=qA ((by rw[hg];exact(jP (qH HB)):w.heap.size<=gb103));clear HB;have HB:=n0_;have BK103:=n1_;have GW103:=n2_;have GE103:=n3_;clear n0_ n1_ n2_ n3_;clear hb hbox hg)|((with_reducible refine jG (N:=3) rfl ?_);refine zI ?hg (N:=3) ?hd (cs:=#[.int .u64 a1_0,.int .u64 a1_1]) (t:=88) ?hr ?_;(case hd=>rfl);(case hg=>rfl);(case hr=>first|(go_simp;done)|(go_simp;rfl));intro gb104 hg w4 hbox hb;have n0_:=qA (jd (g:=gb103) (o:=.cells #[.int .u64 a0_0,.int .u64 a0_1] 88 (0,0)) (qK BK103) hb);have n1_:=qA (jX (qH HB) hb);have n2_:=qA (hbox);have n3_:=qA ((by rw[hg];exact(jP (qH HB)):w.heap.size<=gb104));have n4_:=qA ((by rw[hg];exact(jP (qH HB)):w.heap.size<=gb104));have n5_:=qA ((by rw[hg];exact Nat.ne_of_lt (ju (g:=gb103) (o:=.cells #[.int .u64 a0_0,.int .u64 a0_1] 88 (0,0)) (qK BK103)):gb103≠gb104));have n6_:=qA ((by rw[hg];exact Nat.ne_of_gt (ju (g:=gb103) (o:=.cells #[.int .u64 a0_0,.int .u64 a0_1] 88 (0,0)) (qK BK103)):gb104≠gb103));clear BK103;clear HB;have BK103:=n0_;have HB:=n1_;have BK104:=n2_;have GW104:=n3_;have GE104:=n4_;have NB103_104:=n5_;have NB104_103:=n6_;clear n0_ n1_ n2_ n3_ n4_ n5_ n6_;clear hb hbox hg)|((with_reducible refine jG (N:=4) rfl ?_);refine zI ?hg (N:=4) ?hd (cs:=#[.int .u64 0,.int .u64 0]) (t:=88) ?hr ?_;(case hd=>rfl);(case hg=>rfl);(case hr=>first|(go_simp;done)|(go_simp;rfl));intro gb105 hg w5 hbox hb;have n0_:=qA (jd (g:=gb103) (o:=.cells #[.int .u64 a0_0,.int .u64 a0_1] 88 (0,0)) (qK BK103) hb);have n1_:=qA (jd (g:=gb104) (o:=.cells #[.int .u64 a1_0,.int .u64 a1_1] 88 (0,0)) (qK BK104) hb);have n2_:=qA (jX (qH HB) hb);have n3_:=qA (hbox);have n4_:=qA ((by rw[hg];exact(jP (qH HB)):w.heap.size<=gb105));have n5_:=qA ((by rw[hg];exact(jP (qH HB)):w.heap.size<=gb105));have n6_:=qA ((by rw[hg];exact Nat.ne_of_lt (ju (g:=gb103) (o:=.cells #[.int .u64 a0_0,.int .u64 a0_1] 88 (0,0)) (qK BK103)):gb103≠gb105));have n7_:=qA ((by rw[hg];exact Nat.ne_of_gt (ju (g:=gb103) (o:=.cells #[.int .u64 a0_0,.int .u64 a0_1] 88 (0,0)) (qK BK103)):gb105≠gb103));have n8_:=qA ((by rw[hg];exact Nat.ne_of_lt (ju (g:=gb104) (o:=.cells #[.int .u64 a1_0,.int .u64 a1_1] 88 (0,0)) (qK BK104)):gb104≠gb105));have n9_:=qA ((by rw[hg];exact Nat.ne_of_gt (ju (g:=gb104) (o:=.cells #[.int .u64 a1_0,.int .u64 a1_1] 88 (0,0)) (qK BK104)):gb105≠gb104));clear BK103;clear BK104;clear HB;have BK103:=n0_;have BK104:=n1_;have HB:=n2_;have BK105:=n3_;have GW105:=n4_;have GE105:=n5_;have NB103_105:=n6_;have NB105_103:=n7_;have NB104_105:=n8_;have NB105_104:=n9_;clear n0_ n1_ n2_ n3_ n4_ n5_ n6_ n7_ n8_ n9_;clear hb hbox hg;have hnb6:=NB103_104.out;have hnc6:=NB104_103.out;have hnb7:=NB103_105.out;have hnc7:=NB105_103.out;have hcz8_0:w5.cell? ⟨gb103,0,none⟩=some (.int .u64 a0_0):=(jB BK103.out 0).trans rfl;have hcz8_1:w5.cell? ⟨gb103,1,none⟩=some (.int .u64 a0_1):=(jB BK103.out 1).trans rfl;have hfz8_0:=jH BK103.out 0;have hfz8_1:=jH BK103.out 1;have hnb9:=NB104_105.out;have hnc9:=NB105_104.out;have hcz10_0:w5.cell? ⟨gb104,0,none⟩=some (.int .u64 a1_0):=(jB BK104.out 0).trans rfl;have hcz10_1:w5.cell? ⟨gb104,1,none⟩=some (.int .u64 a1_1):=(jB BK104.out 1).trans rfl;have hfz10_0:=jH BK104.out 0;have hfz10_1:=jH BK104.out 1;have hcz11_0:w5.cell? ⟨gb105,0,none⟩=some (.int .u64 0):=(jB BK105.out 0).trans rfl;have hcz11_1:w5.cell? ⟨gb105,1,none⟩=some (.int .u64 0):=(jB BK105.out 1).trans rfl;have hfz11_0:=jH BK105.out 0;have hfz11_1:=jH BK105.out 1))
 refine bodyPost_ret (results_cell_row rfl _ _ gb105 88 #[.int .u64 (Go.bits .andNot .u64 a0_0 a1_0),.int .u64 (Go.bits .andNot .u64 a0_1 a1_1)] (0,0) _ rfl (by (with_reducible repeat (first|refine jQ ?_ _|refine jY ?_|refine jI ?_ _));refine zS (cs:=#[.int .u64 (Go.bits .andNot .u64 a0_0 a1_0),.int .u64 0]) ?_ 1 _ (by first|rfl|(simp [*];done));(with_reducible repeat (first|refine jQ ?_ _|refine jY ?_|refine jI ?_ _));refine zS (cs:=#[.int .u64 0,.int .u64 0]) ?_ 0 _ (by first|rfl|(simp [*];done));(with_reducible repeat (first|refine jQ ?_ _|refine jY ?_|refine jI ?_ _));exact BK105.out) Tryz.underlying88 rfl (by kernel_rfl)) rfl ?_;exact⟨by first|rfl|(simp [jL,jK]<;>rfl)|(simp [*,jL,jK]<;>rfl)|(simp [*,jL,jK];generalize ByteArray.toList _=q_;cases q_<;>rfl),qH HB⟩
def zY.j0:Nat->Int->Bool->Option (Int×Int)
 | 0,_,_=>none
 | k+1,x0,x3=>if x3=true then(some (0,0)) else(if x0<63 then(if 0<=x0 then(some (shl .u64 1 x0,0)) else(none)) else(if 0<=(wrap64 (x0-63)) then(some (0,shl .u64 1 (wrap64 (x0-63)))) else(none)))
def zY.f (k:Nat) (a0:Int):Option (Int×Int):=if a0<0 then(zY.j0 k a0 true) else(zY.j0 k a0 (decide (a0>=81)))
theorem zY.mono_l:∀k,(∀y0 y1,LeO (zY.j0 k y0 y1) (zY.j0 (k+1) y0 y1))
 | 0=>λ_ _ r h=>by simp [zY.j0] at h
 | k+1=>by
  have ih0:=zY.mono_l k
  ·intro y0 y1
   unfold zY.j0
   repeat' first
   | (with_reducible exact ih0 _ _)
   | (with_reducible exact LeO.refl _)
   | (with_reducible exact LeO.none _)
   | (with_reducible refine LeO.ite ?_ ?_)
   | (with_reducible refine LeO.bind ?_ (λ_=>?_))
   | exact ih0 _ _
   | exact LeO.none _
   | refine LeO.ite ?_ ?_
   | refine LeO.bind ?_ (λ_=>?_)
theorem zY.mono:∀a0 k,LeO (zY.f k a0) (zY.f (k+1) a0):=by
 intro a0 k;have ih0:=zY.mono_l k;unfold zY.f
 repeat' first
   | (with_reducible exact ih0 _ _)
   | (with_reducible exact LeO.refl _)
   | (with_reducible exact LeO.none _)
   | (with_reducible refine LeO.ite ?_ ?_)
   | (with_reducible refine LeO.bind ?_ (λ_=>?_))
   | exact ih0 _ _
   | exact LeO.none _
   | refine LeO.ite ?_ ?_
   | refine LeO.bind ?_ (λ_=>?_)
theorem zY.calls (k:Nat) (a0:Int) (r1:Int) (r2:Int) (w:World) (h:zY.f k a0=some (r1,r2)):
  Calls Tryz.prog 123 #[.int .i64 a0] w λe w'=>e=.returned (.agg #[.int .u64 r1,.int .u64 r2])/\Below w.heap.size w w':=by
 have hu88:=Tryz.underlying88;have HB:=qA (Below.refl w.heap.size w);have H:(if a0<0 then(zY.j0 k a0 true) else(zY.j0 k a0 (decide (a0>=81))))=some (r1,r2):=h;clear h;have HC2:=qA H;clear H;go_enter Tryz.func123,Tryz.ntmps123;go_upto_region 1 with(first|((with_reducible refine jG (N:=2) rfl ?_);refine zI ?hg (N:=2) ?hd (cs:=#[.int .u64 0,.int .u64 0]) (t:=88) ?hr ?_;(case hd=>rfl);(case hg=>rfl);(case hr=>first|(go_simp;done)|(go_simp;rfl));intro gb106 hg w3 hbox hb;have n0_:=qA (jX (qH HB) hb);have n1_:=qA (hbox);have n2_:=qA ((by rw[hg];exact(jP (qH HB)):w.heap.size<=gb106));have n3_:=qA ((by rw[hg];exact(jP (qH HB)):w.heap.size<=gb106));clear HB;have HB:=n0_;have BK106:=n1_;have GW106:=n2_;have GE106:=n3_;clear n0_ n1_ n2_ n3_;clear hb hbox hg))
 (try simp only[Act.put,List.setIfInBounds_toArray,List.set_cons_zero,List.set_cons_succ])
 go_cut [3] (λv3 wc=>∃(kq:Nat) (x3_1:Bool),v3=.bool x3_1/\Aside0 (zY.j0 kq a0 x3_1=some (r1,r2))/\Aside0 (kq<=k)/\Aside0 (wc.heap[gb106]?=some (.cells #[.int .u64 0,.int .u64 0] 88 (0,0)))/\Aside0 (Below w.heap.size w wc))
 case first=>
  have H:=HC2.out;clear HC2
  by_cases c4:a0<0
  ·rw[if_pos c4] at H
   have c4b0:decide (a0<0)=true:=decide_eq_true c4;clear c4
   (first|rw[c4b0]|(simp only[zP,zd];rw[c4b0])|skip)
   have H':=qA H;clear H;go_wp2;go_meet
   case rel=>exact⟨_,(true),(by first|rfl|(simp;done)|(simp [*];done)),H',⟨by first|omega|exact Nat.le_refl _⟩,⟨qK BK106⟩,⟨qH HB⟩⟩
  ·rw[if_neg c4] at H
   have c4b0:decide (a0<0)=false:=decide_eq_false c4;clear c4
   (first|rw[c4b0]|(simp only[zP,zd];rw[c4b0])|skip)
   have H':=qA H;clear H;go_wp2;go_meet
   case rel=>exact⟨_,(decide (a0>=81)),(by first|rfl|(simp;done)|(simp [*];done)),H',⟨by first|omega|exact Nat.le_refl _⟩,⟨qK BK106⟩,⟨qH HB⟩⟩
 case rest=>
  clear HC2
  try clear c1
  try clear p2
  try clear c4
  try clear c4b0
  obtain⟨kq,x3_1,rfl,HA,HJ1,BK106,HB⟩:=hcut
  cases kq with
  | zero=>exact absurd HA.out (by simp [zY.j0])
  | succ kj1=>
   have H:=HA.out;clear HA;simp only[zY.j0] at H
   by_cases c5:x3_1=true
   ·subst c5
    have H1:(some (0,0))=some (r1,r2):=by rw[if_pos rfl] at H;exact H
    clear H;have H:=H1;clear H1;simp only[Option.some.injEq,Prod.mk.injEq] at H;obtain⟨rfl,rfl⟩:=H;have hcz6_0:wc.cell? ⟨gb106,0,none⟩=some (.int .u64 0):=(jB BK106.out 0).trans rfl;have hcz6_1:wc.cell? ⟨gb106,1,none⟩=some (.int .u64 0):=(jB BK106.out 1).trans rfl;have hfz6_0:=jH BK106.out 0;have hfz6_1:=jH BK106.out 1;go_wp2;refine bodyPost_ret (results_cell_row rfl _ _ gb106 88 #[.int .u64 0,.int .u64 0] (0,0) _ rfl (by (with_reducible repeat (first|refine jQ ?_ _|refine jY ?_|refine jI ?_ _));refine zS (cs:=#[.int .u64 0,.int .u64 0]) ?_ 1 _ (by first|rfl|(simp [*];done));(with_reducible repeat (first|refine jQ ?_ _|refine jY ?_|refine jI ?_ _));refine zS (cs:=#[.int .u64 0,.int .u64 0]) ?_ 0 _ (by first|rfl|(simp [*];done));(with_reducible repeat (first|refine jQ ?_ _|refine jY ?_|refine jI ?_ _));exact BK106.out) Tryz.underlying88 rfl (by kernel_rfl)) rfl ?_;exact⟨by first|rfl|(simp [jL,jK]<;>rfl)|(simp [*,jL,jK]<;>rfl)|(simp [*,jL,jK];generalize ByteArray.toList _=q_;cases q_<;>rfl),qH HB⟩
   ·replace c5:=Bool.eq_false_iff.mpr c5
    subst c5
    have H1:(if a0<63 then(if 0<=a0 then(some (shl .u64 1 a0,0)) else(none)) else(if 0<=(wrap64 (a0-63)) then(some (0,shl .u64 1 (wrap64 (a0-63)))) else(none)))=some (r1,r2):=by rw[if_neg (show ¬(false=true) by decide)] at H;exact H
    clear H;have H:=H1;clear H1
    by_cases c7:a0<63
    ·rw[if_pos c7] at H
     have c7b0:decide (a0<63)=true:=decide_eq_true c7;clear c7
     by_cases c8:0<=a0
     ·rw[if_pos c8] at H
      have c8b0:=eq_true c8;have c8b1:decide (0<=a0)=true:=decide_eq_true c8;clear c8
      obtain⟨ji9,hji9⟩:∃j_:Int,(shl .u64 1 a0)=j_:=⟨_,rfl⟩
      replace H:(some (ji9,0))=some (r1,r2):=by first|(rw[hji9] at H;exact H)|(simp only[hji9] at H ⊢;exact H)
      have hji9_:(IntKind.u64.wrap (1*2^min a0.toNat 64))=ji9:=hji9;have hji9z:a0<=64->(IntKind.u64.wrap (1*2^a0.toNat))=ji9:=shl_small hji9
      have hji9u:(IntKind.u64.wrap (2^min a0.toNat 64))=ji9:=by have h_:=hji9_;rw[Int.one_mul] at h_;exact h_
      have hji9v:a0<=64->(IntKind.u64.wrap (2^a0.toNat))=ji9:=λhle_=>by have h_:=hji9z hle_;rw[Int.one_mul] at h_;exact h_
      simp only[Option.some.injEq,Prod.mk.injEq] at H;obtain⟨rfl,rfl⟩:=H;have hcz10_0:wc.cell? ⟨gb106,0,none⟩=some (.int .u64 0):=(jB BK106.out 0).trans rfl;have hcz10_1:wc.cell? ⟨gb106,1,none⟩=some (.int .u64 0):=(jB BK106.out 1).trans rfl;have hfz10_0:=jH BK106.out 0;have hfz10_1:=jH BK106.out 1;go_wp2;refine bodyPost_ret (results_cell_row rfl _ _ gb106 88 #[.int .u64 ji9,.int .u64 0] (0,0) _ rfl (by (with_reducible repeat (first|refine jQ ?_ _|refine jY ?_|refine jI ?_ _));refine zS (cs:=#[.int .u64 ji9,.int .u64 0]) ?_ 1 _ (by first|rfl|(simp [*];done));(with_reducible repeat (first|refine jQ ?_ _|refine jY ?_|refine jI ?_ _));refine zS (cs:=#[.int .u64 0,.int .u64 0]) ?_ 0 _ (by first|rfl|(simp [*];done));(with_reducible repeat (first|refine jQ ?_ _|refine jY ?_|refine jI ?_ _));exact BK106.out) Tryz.underlying88 rfl (by kernel_rfl)) rfl ?_;exact⟨by first|rfl|(simp [jL,jK]<;>rfl)|(simp only[<- hji9];first|rfl|(simp [jL,jK]<;>rfl))|(simp [*,jL,jK]<;>rfl)|(simp [*,jL,jK];generalize ByteArray.toList _=q_;cases q_<;>rfl),qH HB⟩
     ·rw[if_neg c8] at H
      exact absurd H (by simp)
    ·rw[if_neg c7] at H
     have c7b0:decide (a0<63)=false:=decide_eq_false c7;clear c7
     obtain⟨ji11,hji11⟩:∃j_:Int,(wrap64 (a0-63))=j_:=⟨_,rfl⟩
     replace H:(if 0<=(ji11) then(some (0,shl .u64 1 (ji11))) else(none))=some (r1,r2):=by first|(rw[hji11] at H;exact H)|(simp only[hji11] at H ⊢;exact H)
     have hji11w:(IntKind.i64.wrap (a0-63))=ji11:=(zP _).trans hji11
     by_cases c12:0<=(ji11)
     ·rw[if_pos c12] at H
      have c12b0:=eq_true c12;have c12b1:decide (0<=(ji11))=true:=decide_eq_true c12;clear c12
      obtain⟨ji13,hji13⟩:∃j_:Int,(shl .u64 1 (ji11))=j_:=⟨_,rfl⟩
      replace H:(some (0,ji13))=some (r1,r2):=by first|(rw[hji13] at H;exact H)|(simp only[hji13] at H ⊢;exact H)
      have hji13_:(IntKind.u64.wrap (1*2^min (ji11).toNat 64))=ji13:=hji13;have hji13z:(ji11)<=64->(IntKind.u64.wrap (1*2^(ji11).toNat))=ji13:=shl_small hji13
      have hji13u:(IntKind.u64.wrap (2^min (ji11).toNat 64))=ji13:=by have h_:=hji13_;rw[Int.one_mul] at h_;exact h_
      have hji13v:(ji11)<=64->(IntKind.u64.wrap (2^(ji11).toNat))=ji13:=λhle_=>by have h_:=hji13z hle_;rw[Int.one_mul] at h_;exact h_
      simp only[Option.some.injEq,Prod.mk.injEq] at H;obtain⟨rfl,rfl⟩:=H;have hcz14_0:wc.cell? ⟨gb106,0,none⟩=some (.int .u64 0):=(jB BK106.out 0).trans rfl;have hcz14_1:wc.cell? ⟨gb106,1,none⟩=some (.int .u64 0):=(jB BK106.out 1).trans rfl;have hfz14_0:=jH BK106.out 0;have hfz14_1:=jH BK106.out 1;go_wp2;refine bodyPost_ret (results_cell_row rfl _ _ gb106 88 #[.int .u64 0,.int .u64 ji13] (0,0) _ rfl (by (with_reducible repeat (first|refine jQ ?_ _|refine jY ?_|refine jI ?_ _));refine zS (cs:=#[.int .u64 0,.int .u64 0]) ?_ 1 _ (by first|rfl|(simp [*];done));(with_reducible repeat (first|refine jQ ?_ _|refine jY ?_|refine jI ?_ _));refine zS (cs:=#[.int .u64 0,.int .u64 0]) ?_ 0 _ (by first|rfl|(simp [*];done));(with_reducible repeat (first|refine jQ ?_ _|refine jY ?_|refine jI ?_ _));exact BK106.out) Tryz.underlying88 rfl (by kernel_rfl)) rfl ?_;exact⟨by first|rfl|(simp [jL,jK]<;>rfl)|(simp only[<- hji11,<- hji13];first|rfl|(simp [jL,jK]<;>rfl))|(simp [*,jL,jK]<;>rfl)|(simp [*,jL,jK];generalize ByteArray.toList _=q_;cases q_<;>rfl),qH HB⟩
     ·rw[if_neg c12] at H
      exact absurd H (by simp)
def yP.f (k:Nat) (a0_0:Int) (a0_1:Int) (a1:Int):Option (Int×Int):=(zY.f k a1).bind λbt109=>((jAD.f a0_0 a0_1 bt109.1 bt109.2).bind λbt111=>(some (bt111.1,bt111.2)))
theorem yP.mono:∀a0 a1 a2 k,LeO (yP.f k a0 a1 a2) (yP.f (k+1) a0 a1 a2):=by
 intro a0 a1 a2 k;unfold yP.f
 repeat' first
   | (with_reducible exact zY.mono _ _)
   | (with_reducible exact LeO.refl _)
   | (with_reducible exact LeO.none _)
   | (with_reducible refine LeO.ite ?_ ?_)
   | (with_reducible refine LeO.bind ?_ (λ_=>?_))
   | exact zY.mono _ _
   | exact LeO.none _
   | refine LeO.ite ?_ ?_
   | refine LeO.bind ?_ (λ_=>?_)
theorem yP.calls (k:Nat) (a0_0:Int) (a0_1:Int) (a1:Int) (r1:Int) (r2:Int) (w:World) (h:yP.f k a0_0 a0_1 a1=some (r1,r2)):
  Calls Tryz.prog 98 #[.agg #[.int .u64 a0_0,.int .u64 a0_1],.int .i64 a1] w λe w'=>e=.returned (.agg #[.int .u64 r1,.int .u64 r2])/\Below w.heap.size w w':=by
 have hu88:=Tryz.underlying88;have HB:=qA (Below.refl w.heap.size w);have H:((zY.f k a1).bind λbt109=>((jAD.f a0_0 a0_1 bt109.1 bt109.2).bind λbt111=>(some (bt111.1,bt111.2))))=some (r1,r2):=h;clear h;replace H:=Option.bind_eq_some_iff.mp H;obtain⟨⟨t109,t110⟩,A30,H⟩:=H;replace H:((jAD.f a0_0 a0_1 t109 t110).bind λbt111=>(some (bt111.1,bt111.2)))=some (r1,r2):=H;have A3:=qA A30;clear A30;replace H:=Option.bind_eq_some_iff.mp H;obtain⟨⟨t111,t112⟩,A40,H⟩:=H;replace H:(some (t111,t112))=some (r1,r2):=H;have A4:=qA A40;clear A40;simp only[Option.some.injEq,Prod.mk.injEq] at H;obtain⟨rfl,rfl⟩:=H;go_enter Tryz.func98,Tryz.ntmps98
 try go_wp2_with (first|((with_reducible refine jG (N:=2) rfl ?_);refine zI ?hg (N:=2) ?hd (cs:=#[.int .u64 a0_0,.int .u64 a0_1]) (t:=88) ?hr ?_;(case hd=>rfl);(case hg=>rfl);(case hr=>first|(go_simp;done)|(go_simp;rfl));intro gb107 hg w5 hbox hb;have n0_:=qA (jX (qH HB) hb);have n1_:=qA (hbox);have n2_:=qA ((by rw[hg];exact(jP (qH HB)):w.heap.size<=gb107));have n3_:=qA ((by rw[hg];exact(jP (qH HB)):w.heap.size<=gb107));clear HB;have HB:=n0_;have BK107:=n1_;have GW107:=n2_;have GE107:=n3_;clear n0_ n1_ n2_ n3_;clear hb hbox hg)|((with_reducible refine jG (N:=4) rfl ?_);refine zI ?hg (N:=4) ?hd (cs:=#[.int .u64 0,.int .u64 0]) (t:=88) ?hr ?_;(case hd=>rfl);(case hg=>rfl);(case hr=>first|(go_simp;done)|(go_simp;rfl));intro gb108 hg w6 hbox hb;have n0_:=qA (jd (g:=gb107) (o:=.cells #[.int .u64 a0_0,.int .u64 a0_1] 88 (0,0)) (qK BK107) hb);have n1_:=qA (jX (qH HB) hb);have n2_:=qA (hbox);have n3_:=qA ((by rw[hg];exact(jP (qH HB)):w.heap.size<=gb108));have n4_:=qA ((by rw[hg];exact(jP (qH HB)):w.heap.size<=gb108));have n5_:=qA ((by rw[hg];exact Nat.ne_of_lt (ju (g:=gb107) (o:=.cells #[.int .u64 a0_0,.int .u64 a0_1] 88 (0,0)) (qK BK107)):gb107≠gb108));have n6_:=qA ((by rw[hg];exact Nat.ne_of_gt (ju (g:=gb107) (o:=.cells #[.int .u64 a0_0,.int .u64 a0_1] 88 (0,0)) (qK BK107)):gb108≠gb107));clear BK107;clear HB;have BK107:=n0_;have HB:=n1_;have BK108:=n2_;have GW108:=n3_;have GE108:=n4_;have NB107_108:=n5_;have NB108_107:=n6_;clear n0_ n1_ n2_ n3_ n4_ n5_ n6_;clear hb hbox hg))
 have n0_:=qD BK107;have n1_:=qD BK108;have n2_:=qA (jAN HB.out);clear BK107;clear BK108;clear HB;have BK107:=n0_;have BK108:=n1_;have HB:=n2_;clear n0_ n1_ n2_;refine start_ (n:=5) (S:=λw'=>w'.cell? ⟨gb107,0,none⟩=some (.int .u64 a0_0)/\w'.cell? ⟨gb107,1,none⟩=some (.int .u64 a0_1)) (ds:=[]) #[false,false,false,false,false] (by kernel_rfl) rfl rfl ⟨(jB BK107.out 0).trans rfl,(jB BK107.out 1).trans rfl⟩ (λhHeld=>?_);generalize w6.drew=w7 at BK107 BK108 HB hHeld ⊢;refine pure_ (i:=1) (N:=some 6) (v:=?_) (a':=?_) #[false,true,false,false,false] rfl rfl (by kernel_rfl) (λ_ _ _ h=>h) (Or.inl ⟨by rfl,?_⟩) ?_ ?_
 rotate_left
 ·intro w'
  go_simp
  with_reducible rfl
 rotate_left
 ·simp only[Act.put,List.setIfInBounds_toArray,List.set_cons_zero,List.set_cons_succ,zP,zd]
  rfl
 refine take_ (i:=0) (N:=some 5) (v:=?_) (a':=?_) #[true,true,false,false,false] rfl rfl (by kernel_rfl) (λ_ _ _ h=>h) (Or.inl ⟨by rfl,?_⟩) hHeld ?_ ?_
 rotate_left
 ·rintro w' ⟨s0,s1⟩
  go_simp
  with_reducible rfl
 rotate_left
 ·simp only[Act.put,List.setIfInBounds_toArray,List.set_cons_zero,List.set_cons_succ,zP,zd]
  rfl
 refine one_ (i:=2) (N:=some 7) #[true,true,true,false,false] rfl rfl (by kernel_rfl) (by decide) (λK hK=>?_);refine jBF Tryz.func123 (by kernel_rfl) rfl #[.int .i64 a1] (by rfl) rfl rfl (by (try simp only[List.map_toArray,List.map_cons,List.map_nil]);first|done|rfl|(simp only[List.length_drop,List.length_take];rfl)) ?_
 with_reducible refine(zY.calls k a1 t109 t110 _ A3.out).mono ?_
 rintro e w8 ⟨rfl,hb⟩;refine⟨_,rfl,?_⟩;have n0_:=qA (jd (g:=gb107) (o:=.cells #[.int .u64 a0_0,.int .u64 a0_1] 88 (0,0)) (qK BK107) hb);have n1_:=qA (jd (g:=gb108) (o:=.cells #[.int .u64 0,.int .u64 0] 88 (0,0)) (qK BK108) hb);have n2_:=qA (jX (qH HB) hb);clear BK107;clear BK108;clear HB;have BK107:=n0_;have BK108:=n1_;have HB:=n2_;clear n0_ n1_ n2_
 (try clear hb)
 (try clear hb2)
 (try clear hk)
 (try clear hi)
 refine hK.out _ _ ⟨(jB BK107.out 0).trans rfl,(jB BK107.out 1).trans rfl⟩ (λhHeld=>?_);clear hK K;refine jBD (a':=?_) ?_ ?_
 rotate_left
 ·show Act.put _ (some 7) _=_
  simp only[Act.put,List.setIfInBounds_toArray,List.set_cons_zero,List.set_cons_succ,zP,zd]
  rfl
 refine one_ (i:=3) (N:=some 8) #[true,true,true,true,false] rfl rfl (by kernel_rfl) (by decide) (λK hK=>?_);refine jBF Tryz.func122 (by kernel_rfl) rfl #[.agg #[.int .u64 a0_0,.int .u64 a0_1],.agg #[.int .u64 t109,.int .u64 t110]] (by rfl) rfl rfl (by (try simp only[List.map_toArray,List.map_cons,List.map_nil]);first|done|rfl|(simp only[List.length_drop,List.length_take];rfl)) ?_
 with_reducible refine(jAD.calls a0_0 a0_1 t109 t110 t111 t112 _ A4.out).mono ?_
 rintro e w9 ⟨rfl,hb⟩;refine⟨_,rfl,?_⟩;have n0_:=qA (jd (g:=gb107) (o:=.cells #[.int .u64 a0_0,.int .u64 a0_1] 88 (0,0)) (qK BK107) hb);have n1_:=qA (jd (g:=gb108) (o:=.cells #[.int .u64 0,.int .u64 0] 88 (0,0)) (qK BK108) hb);have n2_:=qA (jX (qH HB) hb);clear BK107;clear BK108;clear HB;have BK107:=n0_;have BK108:=n1_;have HB:=n2_;clear n0_ n1_ n2_
 (try clear hb)
 (try clear hb2)
 (try clear hk)
 (try clear hi)
 refine hK.out _ _ ⟨(jB BK107.out 0).trans rfl,(jB BK107.out 1).trans rfl⟩ (λhHeld=>?_);clear hK K;refine jBD (a':=?_) ?_ ?_
 rotate_left
 ·show Act.put _ (some 8) _=_
  simp only[Act.put,List.setIfInBounds_toArray,List.set_cons_zero,List.set_cons_succ,zP,zd]
  rfl
 refine one_ (i:=4) (N:=none) #[true,true,true,true,true] rfl rfl (by kernel_rfl) (by decide) (λK hK=>?_);have hs10:w9.cell? ⟨gb108,0,none⟩=some (.int .u64 0):=(jB BK108.out 0).trans rfl;have hfs10:=jH BK108.out 0;have hns10_0:=NB107_108.out;have hms10_0:=NB108_107.out;have hs11:w9.cell? ⟨gb108,1,none⟩=some (.int .u64 0):=(jB BK108.out 1).trans rfl;have hfs11:=jH BK108.out 1;have hns11_0:=NB107_108.out;have hms11_0:=NB108_107.out;refine skip_ (w1:=?_) (by rfl) rfl ?_ ?_
 rotate_left
 ·go_simp
  rfl
 refine hK.out _ _ ⟨((jBG (p:=⟨gb108,_,none⟩) NB107_108.out _).trans (((jBG (p:=⟨gb108,_,none⟩) NB107_108.out _).trans (hHeld.1)))),((jBG (p:=⟨gb108,_,none⟩) NB107_108.out _).trans (((jBG (p:=⟨gb108,_,none⟩) NB107_108.out _).trans (hHeld.2))))⟩ (λhHeld=>?_);clear hK K;refine done_ (by kernel_rfl) ?_
 try go_wp2
 refine bodyPost_ret (results_cell_row rfl _ _ gb108 88 #[.int .u64 t111,.int .u64 t112] (0,0) _ rfl (by (with_reducible repeat (first|refine jQ ?_ _|refine jY ?_|refine jI ?_ _));refine zS (cs:=#[.int .u64 t111,.int .u64 0]) ?_ 1 _ (by first|rfl|(simp [*];done));(with_reducible repeat (first|refine jQ ?_ _|refine jY ?_|refine jI ?_ _));refine zS (cs:=#[.int .u64 0,.int .u64 0]) ?_ 0 _ (by first|rfl|(simp [*];done));(with_reducible repeat (first|refine jQ ?_ _|refine jY ?_|refine jI ?_ _));exact BK108.out) Tryz.underlying88 rfl (by kernel_rfl)) rfl ?_;exact⟨by first|rfl|(simp [jL,jK]<;>rfl)|(simp [*,jL,jK]<;>rfl)|(simp [*,jL,jK];generalize ByteArray.toList _=q_;cases q_<;>rfl),qH HB⟩
def zj.f (a0_0:Int) (a0_1:Int) (a1_0:Int) (a1_1:Int):Option (Int×Int):=some (Go.bits .or .u64 a0_0 a1_0,Go.bits .or .u64 a0_1 a1_1)
theorem zj.calls (a0_0:Int) (a0_1:Int) (a1_0:Int) (a1_1:Int) (r1:Int) (r2:Int) (w:World) (h:zj.f a0_0 a0_1 a1_0 a1_1=some (r1,r2)):
  Calls Tryz.prog 119 #[.agg #[.int .u64 a0_0,.int .u64 a0_1],.agg #[.int .u64 a1_0,.int .u64 a1_1]] w λe w'=>e=.returned (.agg #[.int .u64 r1,.int .u64 r2])/\Below w.heap.size w w':=by
 have hu88:=Tryz.underlying88;have HB:=qA (Below.refl w.heap.size w);have H:(some (Go.bits .or .u64 a0_0 a1_0,Go.bits .or .u64 a0_1 a1_1))=some (r1,r2):=h;clear h;simp only[Option.some.injEq,Prod.mk.injEq] at H;obtain⟨rfl,rfl⟩:=H;go_enter Tryz.func119,Tryz.ntmps119
 go_wp2_with (first|((with_reducible refine jG (N:=2) rfl ?_);refine zI ?hg (N:=2) ?hd (cs:=#[.int .u64 a0_0,.int .u64 a0_1]) (t:=88) ?hr ?_;(case hd=>rfl);(case hg=>rfl);(case hr=>first|(go_simp;done)|(go_simp;rfl));intro gb113 hg w3 hbox hb;have n0_:=qA (jX (qH HB) hb);have n1_:=qA (hbox);have n2_:=qA ((by rw[hg];exact(jP (qH HB)):w.heap.size<=gb113));have n3_:=qA ((by rw[hg];exact(jP (qH HB)):w.heap.size<=gb113));clear HB;have HB:=n0_;have BK113:=n1_;have GW113:=n2_;have GE113:=n3_;clear n0_ n1_ n2_ n3_;clear hb hbox hg)|((with_reducible refine jG (N:=3) rfl ?_);refine zI ?hg (N:=3) ?hd (cs:=#[.int .u64 a1_0,.int .u64 a1_1]) (t:=88) ?hr ?_;(case hd=>rfl);(case hg=>rfl);(case hr=>first|(go_simp;done)|(go_simp;rfl));intro gb114 hg w4 hbox hb;have n0_:=qA (jd (g:=gb113) (o:=.cells #[.int .u64 a0_0,.int .u64 a0_1] 88 (0,0)) (qK BK113) hb);have n1_:=qA (jX (qH HB) hb);have n2_:=qA (hbox);have n3_:=qA ((by rw[hg];exact(jP (qH HB)):w.heap.size<=gb114));have n4_:=qA ((by rw[hg];exact(jP (qH HB)):w.heap.size<=gb114));have n5_:=qA ((by rw[hg];exact Nat.ne_of_lt (ju (g:=gb113) (o:=.cells #[.int .u64 a0_0,.int .u64 a0_1] 88 (0,0)) (qK BK113)):gb113≠gb114));have n6_:=qA ((by rw[hg];exact Nat.ne_of_gt (ju (g:=gb113) (o:=.cells #[.int .u64 a0_0,.int .u64 a0_1] 88 (0,0)) (qK BK113)):gb114≠gb113));clear BK113;clear HB;have BK113:=n0_;have HB:=n1_;have BK114:=n2_;have GW114:=n3_;have GE114:=n4_;have NB113_114:=n5_;have NB114_113:=n6_;clear n0_ n1_ n2_ n3_ n4_ n5_ n6_;clear hb hbox hg)|((with_reducible refine jG (N:=4) rfl ?_);refine zI ?hg (N:=4) ?hd (cs:=#[.int .u64 0,.int .u64 0]) (t:=88) ?hr ?_;(case hd=>rfl);(case hg=>rfl);(case hr=>first|(go_simp;done)|(go_simp;rfl));intro gb115 hg w5 hbox hb;have n0_:=qA (jd (g:=gb113) (o:=.cells #[.int .u64 a0_0,.int .u64 a0_1] 88 (0,0)) (qK BK113) hb);have n1_:=qA (jd (g:=gb114) (o:=.cells #[.int .u64 a1_0,.int .u64 a1_1] 88 (0,0)) (qK BK114) hb);have n2_:=qA (jX (qH HB) hb);have n3_:=qA (hbox);have n4_:=qA ((by rw[hg];exact(jP (qH HB)):w.heap.size<=gb115));have n5_:=qA ((by rw[hg];exact(jP (qH HB)):w.heap.size<=gb115));have n6_:=qA ((by rw[hg];exact Nat.ne_of_lt (ju (g:=gb113) (o:=.cells #[.int .u64 a0_0,.int .u64 a0_1] 88 (0,0)) (qK BK113)):gb113≠gb115));have n7_:=qA ((by rw[hg];exact Nat.ne_of_gt (ju (g:=gb113) (o:=.cells #[.int .u64 a0_0,.int .u64 a0_1] 88 (0,0)) (qK BK113)):gb115≠gb113));have n8_:=qA ((by rw[hg];exact Nat.ne_of_lt (ju (g:=gb114) (o:=.cells #[.int .u64 a1_0,.int .u64 a1_1] 88 (0,0)) (qK BK114)):gb114≠gb115));have n9_:=qA ((by rw[hg];exact Nat.ne_of_gt (ju (g:=gb114) (o:=.cells #[.int .u64 a1_0,.int .u64 a1_1] 88 (0,0)) (qK BK114)):gb115≠gb114));clear BK113;clear BK114;clear HB;have BK113:=n0_;have BK114:=n1_;have HB:=n2_;have BK115:=n3_;have GW115:=n4_;have GE115:=n5_;have NB113_115:=n6_;have NB115_113:=n7_;have NB114_115:=n8_;have NB115_114:=n9_;clear n0_ n1_ n2_ n3_ n4_ n5_ n6_ n7_ n8_ n9_;clear hb hbox hg;have hnb6:=NB113_114.out;have hnc6:=NB114_113.out;have hnb7:=NB113_115.out;have hnc7:=NB115_113.out;have hcz8_0:w5.cell? ⟨gb113,0,none⟩=some (.int .u64 a0_0):=(jB BK113.out 0).trans rfl;have hcz8_1:w5.cell? ⟨gb113,1,none⟩=some (.int .u64 a0_1):=(jB BK113.out 1).trans rfl;have hfz8_0:=jH BK113.out 0;have hfz8_1:=jH BK113.out 1;have hnb9:=NB114_115.out;have hnc9:=NB115_114.out;have hcz10_0:w5.cell? ⟨gb114,0,none⟩=some (.int .u64 a1_0):=(jB BK114.out 0).trans rfl;have hcz10_1:w5.cell? ⟨gb114,1,none⟩=some (.int .u64 a1_1):=(jB BK114.out 1).trans rfl;have hfz10_0:=jH BK114.out 0;have hfz10_1:=jH BK114.out 1;have hcz11_0:w5.cell? ⟨gb115,0,none⟩=some (.int .u64 0):=(jB BK115.out 0).trans rfl;have hcz11_1:w5.cell? ⟨gb115,1,none⟩=some (.int .u64 0):=(jB BK115.out 1).trans rfl;have hfz11_0:=jH BK115.out 0;have hfz11_1:=jH BK115.out 1))
 refine bodyPost_ret (results_cell_row rfl _ _ gb115 88 #[.int .u64 (Go.bits .or .u64 a0_0 a1_0),.int .u64 (Go.bits .or .u64 a0_1 a1_1)] (0,0) _ rfl (by (with_reducible repeat (first|refine jQ ?_ _|refine jY ?_|refine jI ?_ _));refine zS (cs:=#[.int .u64 (Go.bits .or .u64 a0_0 a1_0),.int .u64 0]) ?_ 1 _ (by first|rfl|(simp [*];done));(with_reducible repeat (first|refine jQ ?_ _|refine jY ?_|refine jI ?_ _));refine zS (cs:=#[.int .u64 0,.int .u64 0]) ?_ 0 _ (by first|rfl|(simp [*];done));(with_reducible repeat (first|refine jQ ?_ _|refine jY ?_|refine jI ?_ _));exact BK115.out) Tryz.underlying88 rfl (by kernel_rfl)) rfl ?_;exact⟨by first|rfl|(simp [jL,jK]<;>rfl)|(simp [*,jL,jK]<;>rfl)|(simp [*,jL,jK];generalize ByteArray.toList _=q_;cases q_<;>rfl),qH HB⟩
end Go.Proofs.YtigenhbmgpfffaaGreatDoor.Pa
