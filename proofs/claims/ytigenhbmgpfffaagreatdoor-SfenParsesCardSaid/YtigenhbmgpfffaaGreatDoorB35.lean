import Derived.Test.YtigenhbmgpfffaaGreatDoorB34
set_option maxRecDepth 100000
set_option maxHeartbeats 16000000
namespace Go.Proofs.YtigenhbmgpfffaaGreatDoor.Pa
open Go.RowKit Go.Proofs.YtigenhbmgpfffaaGreatDoorW.PrintWords Go.Proofs.YtigenhbmgpfffaaGreatDoorW.PrintLast Go.Proofs.YtigenhbmgpfffaaGreatDoorW.PrintMore
attribute [local go_sem] yE yC yM yL zo zn yD yB
set_option linter.unusedVariables false
set_option linter.unusedSimpArgs false
def jh.j0:Nat->Int->Int->Bool->Option (Int)
 | 0,_,_,_=>none
 | k+1,x0,x1,x18=>if x18=true then(some (-1)) else(if x0=0 then(some (Int.tmod x1 9)) else(some (wrap64 (8-(Int.tmod x1 9)))))
def jh.f (k:Nat) (a0:Int) (a1:Int):Option (Int):=if a1<0 then(jh.j0 k a0 a1 true) else(if a1>80 then(jh.j0 k a0 a1 true) else(if a0<0 then(jh.j0 k a0 a1 true) else(jh.j0 k a0 a1 (decide (a0>1)))))
theorem jh.mono_l:∀k,(∀y0 y1 y2,LeO (jh.j0 k y0 y1 y2) (jh.j0 (k+1) y0 y1 y2))
 | 0=>λ_ _ _ r h=>by simp [jh.j0] at h
 | k+1=>by
  have ih0:=jh.mono_l k
  ·intro y0 y1 y2
   unfold jh.j0
   repeat' first
   | (with_reducible exact ih0 _ _ _)
   | (with_reducible exact LeO.refl _)
   | (with_reducible exact LeO.none _)
   | (with_reducible refine LeO.ite ?_ ?_)
   | (with_reducible refine LeO.bind ?_ (λ_=>?_))
   | exact ih0 _ _ _
   | exact LeO.none _
   | refine LeO.ite ?_ ?_
   | refine LeO.bind ?_ (λ_=>?_)
theorem jh.mono:∀a0 a1 k,LeO (jh.f k a0 a1) (jh.f (k+1) a0 a1):=by
 intro a0 a1 k;have ih0:=jh.mono_l k;unfold jh.f
 repeat' first
   | (with_reducible exact ih0 _ _ _)
   | (with_reducible exact LeO.refl _)
   | (with_reducible exact LeO.none _)
   | (with_reducible refine LeO.ite ?_ ?_)
   | (with_reducible refine LeO.bind ?_ (λ_=>?_))
   | exact ih0 _ _ _
   | exact LeO.none _
   | refine LeO.ite ?_ ?_
   | refine LeO.bind ?_ (λ_=>?_)
theorem jh.calls (k:Nat) (a0:Int) (a1:Int) (r:Int) (w:World) (h:jh.f k a0 a1=some r):
  Calls Tryz.prog 105 #[.int .i64 a0,.int .i64 a1] w λe w'=>e=.returned (.int .i64 r)/\Drawn0 w w':=by
 have H:(if a1<0 then(jh.j0 k a0 a1 true) else(if a1>80 then(jh.j0 k a0 a1 true) else(if a0<0 then(jh.j0 k a0 a1 true) else(jh.j0 k a0 a1 (decide (a0>1))))))=some r:=h;clear h;have HC3:=qA H;clear H;go_enter Tryz.func105,Tryz.ntmps105;go_upto_region 1 with(fail);go_cut [18] (λv18 wc=>∃(kq:Nat) (x18_2:Bool),v18=.bool x18_2/\Aside0 (jh.j0 kq a0 a1 x18_2=some r)/\Aside0 (kq<=k)/\Drawn0 w wc)
 case first=>
  have H:=HC3.out;clear HC3
  by_cases c4:a1<0
  ·rw[if_pos c4] at H
   have c4b0:decide (a1<0)=true:=decide_eq_true c4;clear c4
   (first|rw[c4b0]|(simp only[zP,zd];rw[c4b0])|skip)
   have H':=qA H;clear H;go_wp2;go_meet
   case rel=>exact⟨_,(true),(by first|rfl|(simp;done)|(simp [*];done)),H',⟨by first|omega|exact Nat.le_refl _⟩,by repeat (first|exact Drawn0.refl _|apply Drawn0.step)⟩
  ·rw[if_neg c4] at H
   have c4b0:decide (a1<0)=false:=decide_eq_false c4;clear c4
   (first|rw[c4b0]|(simp only[zP,zd];rw[c4b0])|skip)
   by_cases c5:a1>80
   ·rw[if_pos c5] at H
    have c5b0:decide (80<a1)=true:=decide_eq_true c5;clear c5;have H':=qA H;clear H;go_wp2;go_meet
    case rel=>exact⟨_,(true),(by first|rfl|(simp;done)|(simp [*];done)),H',⟨by first|omega|exact Nat.le_refl _⟩,by repeat (first|exact Drawn0.refl _|apply Drawn0.step)⟩
   ·rw[if_neg c5] at H
    have c5b0:decide (80<a1)=false:=decide_eq_false c5;clear c5
    by_cases c6:a0<0
    ·rw[if_pos c6] at H
     have c6b0:decide (a0<0)=true:=decide_eq_true c6;clear c6;have H':=qA H;clear H;go_wp2;go_meet
     case rel=>exact⟨_,(true),(by first|rfl|(simp;done)|(simp [*];done)),H',⟨by first|omega|exact Nat.le_refl _⟩,by repeat (first|exact Drawn0.refl _|apply Drawn0.step)⟩
    ·rw[if_neg c6] at H
     have c6b0:decide (a0<0)=false:=decide_eq_false c6;clear c6;have H':=qA H;clear H;go_wp2;go_meet
     case rel=>exact⟨_,(decide (a0>1)),(by first|rfl|(simp;done)|(simp [*];done)),H',⟨by first|omega|exact Nat.le_refl _⟩,by repeat (first|exact Drawn0.refl _|apply Drawn0.step)⟩
 case rest=>
  clear HC3
  try clear c1
  try clear p2
  try clear c4
  try clear c4b0
  try clear c5
  try clear c5b0
  try clear c6
  try clear c6b0
  obtain⟨kq,x18_2,rfl,HA,HJ2,⟨mc2,rfl⟩⟩:=hcut
  cases kq with
  | zero=>exact absurd HA.out (by simp [jh.j0])
  | succ kj2=>
   have H:=HA.out;clear HA;simp only[jh.j0] at H
   by_cases c7:x18_2=true
   ·subst c7
    have H1:(some (-1))=some r:=by rw[if_pos rfl] at H;exact H
    clear H;have H:=H1;clear H1;obtain rfl:=Option.some.inj H;go_wp2;go_ret;exact⟨by first|rfl|(simp;done)|(simp [*];done),by repeat (first|exact Drawn0.refl _|apply Drawn0.step)⟩
   ·replace c7:=Bool.eq_false_iff.mpr c7
    subst c7
    have H1:(if a0=0 then(some (Int.tmod a1 9)) else(some (wrap64 (8-(Int.tmod a1 9)))))=some r:=by rw[if_neg (show ¬(false=true) by decide)] at H;exact H
    clear H;have H:=H1;clear H1
    by_cases c8:a0=0
    ·rw[if_pos c8] at H
     have c8b0:(a0==0)=true:=beq_iff_eq.mpr c8;have c8b1:(a0 != 0)=false:=bne_eq_false_iff_eq.mpr c8;clear c8;obtain rfl:=Option.some.inj H;go_wp2;go_ret;exact⟨by first|rfl|(simp;done)|(simp [*];done),by repeat (first|exact Drawn0.refl _|apply Drawn0.step)⟩
    ·rw[if_neg c8] at H
     have c8b0:(a0==0)=false:=beq_eq_false_iff_ne.mpr c8;have c8b1:(a0 != 0)=true:=bne_iff_ne.mpr c8;obtain rfl:=Option.some.inj H;go_wp2;go_ret;exact⟨by first|rfl|(simp;done)|(simp [*];done),by repeat (first|exact Drawn0.refl _|apply Drawn0.step)⟩
def zW.f (k:Nat) (a0:Int) (a1:Int):Option (Bool):=(jm.f a0).bind λt250=>((jh.f k t250 a1).bind λt251=>((jc.f a0).bind λt252=>(if t252=1 then(if t251=0 then(some true) else(if t252=3 then(some (t251==1)) else(some false))) else(if t252=2 then(if t251=0 then(some true) else(if t252=3 then(some (t251==1)) else(some false))) else(if t252=3 then(if t251=0 then(some true) else(some (t251==1))) else(some false))))))
theorem zW.mono:∀a0 a1 k,LeO (zW.f k a0 a1) (zW.f (k+1) a0 a1):=by
 intro a0 a1 k;unfold zW.f
 repeat' first
   | (with_reducible exact jh.mono _ _ _)
   | (with_reducible exact LeO.refl _)
   | (with_reducible exact LeO.none _)
   | (with_reducible refine LeO.ite ?_ ?_)
   | (with_reducible refine LeO.bind ?_ (λ_=>?_))
   | exact jh.mono _ _ _
   | exact LeO.none _
   | refine LeO.ite ?_ ?_
   | refine LeO.bind ?_ (λ_=>?_)
theorem zW.calls (k:Nat) (a0:Int) (a1:Int) (r:Bool) (w:World) (h:zW.f k a0 a1=some r):
  Calls Tryz.prog 73 #[.int .i64 a0,.int .i64 a1] w λe w'=>e=.returned (.bool r)/\Drawn0 w w':=by
 have H:((jm.f a0).bind λt250=>((jh.f k t250 a1).bind λt251=>((jc.f a0).bind λt252=>(if t252=1 then(if t251=0 then(some true) else(if t252=3 then(some (t251==1)) else(some false))) else(if t252=2 then(if t251=0 then(some true) else(if t252=3 then(some (t251==1)) else(some false))) else(if t252=3 then(if t251=0 then(some true) else(some (t251==1))) else(some false)))))))=some r:=h;clear h;replace H:=Option.bind_eq_some_iff.mp H;obtain⟨t250,A30,H⟩:=H;replace H:((jh.f k t250 a1).bind λt251=>((jc.f a0).bind λt252=>(if t252=1 then(if t251=0 then(some true) else(if t252=3 then(some (t251==1)) else(some false))) else(if t252=2 then(if t251=0 then(some true) else(if t252=3 then(some (t251==1)) else(some false))) else(if t252=3 then(if t251=0 then(some true) else(some (t251==1))) else(some false))))))=some r:=H;have A3:=qA A30;clear A30;replace H:=Option.bind_eq_some_iff.mp H;obtain⟨t251,A40,H⟩:=H;replace H:((jc.f a0).bind λt252=>(if t252=1 then(if t251=0 then(some true) else(if t252=3 then(some (t251==1)) else(some false))) else(if t252=2 then(if t251=0 then(some true) else(if t252=3 then(some (t251==1)) else(some false))) else(if t252=3 then(if t251=0 then(some true) else(some (t251==1))) else(some false)))))=some r:=H
 have A4:=qA A40;clear A40;replace H:=Option.bind_eq_some_iff.mp H;obtain⟨t252,A50,H⟩:=H;replace H:(if t252=1 then(if t251=0 then(some true) else(if t252=3 then(some (t251==1)) else(some false))) else(if t252=2 then(if t251=0 then(some true) else(if t252=3 then(some (t251==1)) else(some false))) else(if t252=3 then(if t251=0 then(some true) else(some (t251==1))) else(some false))))=some r:=H;have A5:=qA A50;clear A50
 by_cases c6:t252=1
 ·rw[if_pos c6] at H
  have c6b0:(t252==1)=true:=beq_iff_eq.mpr c6;have c6b1:(t252 != 1)=false:=bne_eq_false_iff_eq.mpr c6;clear c6
  by_cases c7:t251=0
  ·rw[if_pos c7] at H
   have c7b0:(t251==0)=true:=beq_iff_eq.mpr c7;have c7b1:(t251 != 0)=false:=bne_eq_false_iff_eq.mpr c7;clear c7;obtain rfl:=Option.some.inj H;go_enter Tryz.func73,Tryz.ntmps73
   go_wp2_with (first|((with_reducible refine jV (f:=58) rfl ?_);refine zB (some 8) rfl rfl Tryz.func58 (by kernel_rfl) rfl #[.int .i64 a0] rfl (by (try simp only[List.map_toArray,List.map_cons,List.map_nil]);first|done|rfl|(simp only[List.length_drop,List.length_take];rfl)) ?_;(with_reducible refine(jm.calls a0 t250 _ A3.out).mono ?_);rintro e w' ⟨rfl,⟨nd,rfl⟩⟩;refine⟨_,rfl,?_⟩)|((with_reducible refine jV (f:=105) rfl ?_);refine zB (some 10) rfl rfl Tryz.func105 (by kernel_rfl) rfl #[.int .i64 t250,.int .i64 a1] rfl (by (try simp only[List.map_toArray,List.map_cons,List.map_nil]);first|done|rfl|(simp only[List.length_drop,List.length_take];rfl)) ?_;(with_reducible refine(jh.calls k t250 a1 t251 _ A4.out).mono ?_);rintro e w' ⟨rfl,⟨nd,rfl⟩⟩;refine⟨_,rfl,?_⟩)|((with_reducible refine jV (f:=57) rfl ?_);refine zB (some 12) rfl rfl Tryz.func57 (by kernel_rfl) rfl #[.int .i64 a0] rfl (by (try simp only[List.map_toArray,List.map_cons,List.map_nil]);first|done|rfl|(simp only[List.length_drop,List.length_take];rfl)) ?_;(with_reducible refine(jc.calls a0 t252 _ A5.out).mono ?_);rintro e w' ⟨rfl,⟨nd,rfl⟩⟩;refine⟨_,rfl,?_⟩))
   go_ret;exact⟨by first|rfl|(simp;done)|(simp [*];done),by repeat (first|exact Drawn0.refl _|apply Drawn0.step)⟩
  ·rw[if_neg c7] at H
   have c7b0:(t251==0)=false:=beq_eq_false_iff_ne.mpr c7;have c7b1:(t251 != 0)=true:=bne_iff_ne.mpr c7
   by_cases c8:t252=3
   ·rw[if_pos c8] at H
    have c8b0:(t252==3)=true:=beq_iff_eq.mpr c8;have c8b1:(t252 != 3)=false:=bne_eq_false_iff_eq.mpr c8;clear c8;obtain rfl:=Option.some.inj H;go_enter Tryz.func73,Tryz.ntmps73
    go_wp2_with (first|((with_reducible refine jV (f:=58) rfl ?_);refine zB (some 8) rfl rfl Tryz.func58 (by kernel_rfl) rfl #[.int .i64 a0] rfl (by (try simp only[List.map_toArray,List.map_cons,List.map_nil]);first|done|rfl|(simp only[List.length_drop,List.length_take];rfl)) ?_;(with_reducible refine(jm.calls a0 t250 _ A3.out).mono ?_);rintro e w' ⟨rfl,⟨nd,rfl⟩⟩;refine⟨_,rfl,?_⟩)|((with_reducible refine jV (f:=105) rfl ?_);refine zB (some 10) rfl rfl Tryz.func105 (by kernel_rfl) rfl #[.int .i64 t250,.int .i64 a1] rfl (by (try simp only[List.map_toArray,List.map_cons,List.map_nil]);first|done|rfl|(simp only[List.length_drop,List.length_take];rfl)) ?_;(with_reducible refine(jh.calls k t250 a1 t251 _ A4.out).mono ?_);rintro e w' ⟨rfl,⟨nd,rfl⟩⟩;refine⟨_,rfl,?_⟩)|((with_reducible refine jV (f:=57) rfl ?_);refine zB (some 12) rfl rfl Tryz.func57 (by kernel_rfl) rfl #[.int .i64 a0] rfl (by (try simp only[List.map_toArray,List.map_cons,List.map_nil]);first|done|rfl|(simp only[List.length_drop,List.length_take];rfl)) ?_;(with_reducible refine(jc.calls a0 t252 _ A5.out).mono ?_);rintro e w' ⟨rfl,⟨nd,rfl⟩⟩;refine⟨_,rfl,?_⟩))
    go_ret;exact⟨by first|rfl|(simp;done)|(simp [*];done),by repeat (first|exact Drawn0.refl _|apply Drawn0.step)⟩
   ·rw[if_neg c8] at H
    have c8b0:(t252==3)=false:=beq_eq_false_iff_ne.mpr c8;have c8b1:(t252 != 3)=true:=bne_iff_ne.mpr c8;obtain rfl:=Option.some.inj H;go_enter Tryz.func73,Tryz.ntmps73
    go_wp2_with (first|((with_reducible refine jV (f:=58) rfl ?_);refine zB (some 8) rfl rfl Tryz.func58 (by kernel_rfl) rfl #[.int .i64 a0] rfl (by (try simp only[List.map_toArray,List.map_cons,List.map_nil]);first|done|rfl|(simp only[List.length_drop,List.length_take];rfl)) ?_;(with_reducible refine(jm.calls a0 t250 _ A3.out).mono ?_);rintro e w' ⟨rfl,⟨nd,rfl⟩⟩;refine⟨_,rfl,?_⟩)|((with_reducible refine jV (f:=105) rfl ?_);refine zB (some 10) rfl rfl Tryz.func105 (by kernel_rfl) rfl #[.int .i64 t250,.int .i64 a1] rfl (by (try simp only[List.map_toArray,List.map_cons,List.map_nil]);first|done|rfl|(simp only[List.length_drop,List.length_take];rfl)) ?_;(with_reducible refine(jh.calls k t250 a1 t251 _ A4.out).mono ?_);rintro e w' ⟨rfl,⟨nd,rfl⟩⟩;refine⟨_,rfl,?_⟩)|((with_reducible refine jV (f:=57) rfl ?_);refine zB (some 12) rfl rfl Tryz.func57 (by kernel_rfl) rfl #[.int .i64 a0] rfl (by (try simp only[List.map_toArray,List.map_cons,List.map_nil]);first|done|rfl|(simp only[List.length_drop,List.length_take];rfl)) ?_;(with_reducible refine(jc.calls a0 t252 _ A5.out).mono ?_);rintro e w' ⟨rfl,⟨nd,rfl⟩⟩;refine⟨_,rfl,?_⟩))
    go_ret;exact⟨by first|rfl|(simp;done)|(simp [*];done),by repeat (first|exact Drawn0.refl _|apply Drawn0.step)⟩
 ·rw[if_neg c6] at H
  have c6b0:(t252==1)=false:=beq_eq_false_iff_ne.mpr c6;have c6b1:(t252 != 1)=true:=bne_iff_ne.mpr c6
  by_cases c9:t252=2
  ·rw[if_pos c9] at H
   have c9b0:(t252==2)=true:=beq_iff_eq.mpr c9;have c9b1:(t252 != 2)=false:=bne_eq_false_iff_eq.mpr c9;clear c9
   by_cases c10:t251=0
   ·rw[if_pos c10] at H
    have c10b0:(t251==0)=true:=beq_iff_eq.mpr c10;have c10b1:(t251 != 0)=false:=bne_eq_false_iff_eq.mpr c10;clear c10;obtain rfl:=Option.some.inj H;go_enter Tryz.func73,Tryz.ntmps73
    go_wp2_with (first|((with_reducible refine jV (f:=58) rfl ?_);refine zB (some 8) rfl rfl Tryz.func58 (by kernel_rfl) rfl #[.int .i64 a0] rfl (by (try simp only[List.map_toArray,List.map_cons,List.map_nil]);first|done|rfl|(simp only[List.length_drop,List.length_take];rfl)) ?_;(with_reducible refine(jm.calls a0 t250 _ A3.out).mono ?_);rintro e w' ⟨rfl,⟨nd,rfl⟩⟩;refine⟨_,rfl,?_⟩)|((with_reducible refine jV (f:=105) rfl ?_);refine zB (some 10) rfl rfl Tryz.func105 (by kernel_rfl) rfl #[.int .i64 t250,.int .i64 a1] rfl (by (try simp only[List.map_toArray,List.map_cons,List.map_nil]);first|done|rfl|(simp only[List.length_drop,List.length_take];rfl)) ?_;(with_reducible refine(jh.calls k t250 a1 t251 _ A4.out).mono ?_);rintro e w' ⟨rfl,⟨nd,rfl⟩⟩;refine⟨_,rfl,?_⟩)|((with_reducible refine jV (f:=57) rfl ?_);refine zB (some 12) rfl rfl Tryz.func57 (by kernel_rfl) rfl #[.int .i64 a0] rfl (by (try simp only[List.map_toArray,List.map_cons,List.map_nil]);first|done|rfl|(simp only[List.length_drop,List.length_take];rfl)) ?_;(with_reducible refine(jc.calls a0 t252 _ A5.out).mono ?_);rintro e w' ⟨rfl,⟨nd,rfl⟩⟩;refine⟨_,rfl,?_⟩))
    go_ret;exact⟨by first|rfl|(simp;done)|(simp [*];done),by repeat (first|exact Drawn0.refl _|apply Drawn0.step)⟩
   ·rw[if_neg c10] at H
    have c10b0:(t251==0)=false:=beq_eq_false_iff_ne.mpr c10;have c10b1:(t251 != 0)=true:=bne_iff_ne.mpr c10
    by_cases c11:t252=3
    ·rw[if_pos c11] at H
     have c11b0:(t252==3)=true:=beq_iff_eq.mpr c11;have c11b1:(t252 != 3)=false:=bne_eq_false_iff_eq.mpr c11;clear c11;obtain rfl:=Option.some.inj H;go_enter Tryz.func73,Tryz.ntmps73
     go_wp2_with (first|((with_reducible refine jV (f:=58) rfl ?_);refine zB (some 8) rfl rfl Tryz.func58 (by kernel_rfl) rfl #[.int .i64 a0] rfl (by (try simp only[List.map_toArray,List.map_cons,List.map_nil]);first|done|rfl|(simp only[List.length_drop,List.length_take];rfl)) ?_;(with_reducible refine(jm.calls a0 t250 _ A3.out).mono ?_);rintro e w' ⟨rfl,⟨nd,rfl⟩⟩;refine⟨_,rfl,?_⟩)|((with_reducible refine jV (f:=105) rfl ?_);refine zB (some 10) rfl rfl Tryz.func105 (by kernel_rfl) rfl #[.int .i64 t250,.int .i64 a1] rfl (by (try simp only[List.map_toArray,List.map_cons,List.map_nil]);first|done|rfl|(simp only[List.length_drop,List.length_take];rfl)) ?_;(with_reducible refine(jh.calls k t250 a1 t251 _ A4.out).mono ?_);rintro e w' ⟨rfl,⟨nd,rfl⟩⟩;refine⟨_,rfl,?_⟩)|((with_reducible refine jV (f:=57) rfl ?_);refine zB (some 12) rfl rfl Tryz.func57 (by kernel_rfl) rfl #[.int .i64 a0] rfl (by (try simp only[List.map_toArray,List.map_cons,List.map_nil]);first|done|rfl|(simp only[List.length_drop,List.length_take];rfl)) ?_;(with_reducible refine(jc.calls a0 t252 _ A5.out).mono ?_);rintro e w' ⟨rfl,⟨nd,rfl⟩⟩;refine⟨_,rfl,?_⟩))
     go_ret;exact⟨by first|rfl|(simp;done)|(simp [*];done),by repeat (first|exact Drawn0.refl _|apply Drawn0.step)⟩
    ·rw[if_neg c11] at H
     have c11b0:(t252==3)=false:=beq_eq_false_iff_ne.mpr c11;have c11b1:(t252 != 3)=true:=bne_iff_ne.mpr c11;obtain rfl:=Option.some.inj H;go_enter Tryz.func73,Tryz.ntmps73
     go_wp2_with (first|((with_reducible refine jV (f:=58) rfl ?_);refine zB (some 8) rfl rfl Tryz.func58 (by kernel_rfl) rfl #[.int .i64 a0] rfl (by (try simp only[List.map_toArray,List.map_cons,List.map_nil]);first|done|rfl|(simp only[List.length_drop,List.length_take];rfl)) ?_;(with_reducible refine(jm.calls a0 t250 _ A3.out).mono ?_);rintro e w' ⟨rfl,⟨nd,rfl⟩⟩;refine⟨_,rfl,?_⟩)|((with_reducible refine jV (f:=105) rfl ?_);refine zB (some 10) rfl rfl Tryz.func105 (by kernel_rfl) rfl #[.int .i64 t250,.int .i64 a1] rfl (by (try simp only[List.map_toArray,List.map_cons,List.map_nil]);first|done|rfl|(simp only[List.length_drop,List.length_take];rfl)) ?_;(with_reducible refine(jh.calls k t250 a1 t251 _ A4.out).mono ?_);rintro e w' ⟨rfl,⟨nd,rfl⟩⟩;refine⟨_,rfl,?_⟩)|((with_reducible refine jV (f:=57) rfl ?_);refine zB (some 12) rfl rfl Tryz.func57 (by kernel_rfl) rfl #[.int .i64 a0] rfl (by (try simp only[List.map_toArray,List.map_cons,List.map_nil]);first|done|rfl|(simp only[List.length_drop,List.length_take];rfl)) ?_;(with_reducible refine(jc.calls a0 t252 _ A5.out).mono ?_);rintro e w' ⟨rfl,⟨nd,rfl⟩⟩;refine⟨_,rfl,?_⟩))
     go_ret;exact⟨by first|rfl|(simp;done)|(simp [*];done),by repeat (first|exact Drawn0.refl _|apply Drawn0.step)⟩
  ·rw[if_neg c9] at H
   have c9b0:(t252==2)=false:=beq_eq_false_iff_ne.mpr c9;have c9b1:(t252 != 2)=true:=bne_iff_ne.mpr c9
   by_cases c12:t252=3
   ·rw[if_pos c12] at H
    have c12b0:(t252==3)=true:=beq_iff_eq.mpr c12;have c12b1:(t252 != 3)=false:=bne_eq_false_iff_eq.mpr c12;clear c12
    by_cases c13:t251=0
    ·rw[if_pos c13] at H
     have c13b0:(t251==0)=true:=beq_iff_eq.mpr c13;have c13b1:(t251 != 0)=false:=bne_eq_false_iff_eq.mpr c13;clear c13;obtain rfl:=Option.some.inj H;go_enter Tryz.func73,Tryz.ntmps73
     go_wp2_with (first|((with_reducible refine jV (f:=58) rfl ?_);refine zB (some 8) rfl rfl Tryz.func58 (by kernel_rfl) rfl #[.int .i64 a0] rfl (by (try simp only[List.map_toArray,List.map_cons,List.map_nil]);first|done|rfl|(simp only[List.length_drop,List.length_take];rfl)) ?_;(with_reducible refine(jm.calls a0 t250 _ A3.out).mono ?_);rintro e w' ⟨rfl,⟨nd,rfl⟩⟩;refine⟨_,rfl,?_⟩)|((with_reducible refine jV (f:=105) rfl ?_);refine zB (some 10) rfl rfl Tryz.func105 (by kernel_rfl) rfl #[.int .i64 t250,.int .i64 a1] rfl (by (try simp only[List.map_toArray,List.map_cons,List.map_nil]);first|done|rfl|(simp only[List.length_drop,List.length_take];rfl)) ?_;(with_reducible refine(jh.calls k t250 a1 t251 _ A4.out).mono ?_);rintro e w' ⟨rfl,⟨nd,rfl⟩⟩;refine⟨_,rfl,?_⟩)|((with_reducible refine jV (f:=57) rfl ?_);refine zB (some 12) rfl rfl Tryz.func57 (by kernel_rfl) rfl #[.int .i64 a0] rfl (by (try simp only[List.map_toArray,List.map_cons,List.map_nil]);first|done|rfl|(simp only[List.length_drop,List.length_take];rfl)) ?_;(with_reducible refine(jc.calls a0 t252 _ A5.out).mono ?_);rintro e w' ⟨rfl,⟨nd,rfl⟩⟩;refine⟨_,rfl,?_⟩))
     go_ret;exact⟨by first|rfl|(simp;done)|(simp [*];done),by repeat (first|exact Drawn0.refl _|apply Drawn0.step)⟩
    ·rw[if_neg c13] at H
     have c13b0:(t251==0)=false:=beq_eq_false_iff_ne.mpr c13;have c13b1:(t251 != 0)=true:=bne_iff_ne.mpr c13;obtain rfl:=Option.some.inj H;go_enter Tryz.func73,Tryz.ntmps73
     go_wp2_with (first|((with_reducible refine jV (f:=58) rfl ?_);refine zB (some 8) rfl rfl Tryz.func58 (by kernel_rfl) rfl #[.int .i64 a0] rfl (by (try simp only[List.map_toArray,List.map_cons,List.map_nil]);first|done|rfl|(simp only[List.length_drop,List.length_take];rfl)) ?_;(with_reducible refine(jm.calls a0 t250 _ A3.out).mono ?_);rintro e w' ⟨rfl,⟨nd,rfl⟩⟩;refine⟨_,rfl,?_⟩)|((with_reducible refine jV (f:=105) rfl ?_);refine zB (some 10) rfl rfl Tryz.func105 (by kernel_rfl) rfl #[.int .i64 t250,.int .i64 a1] rfl (by (try simp only[List.map_toArray,List.map_cons,List.map_nil]);first|done|rfl|(simp only[List.length_drop,List.length_take];rfl)) ?_;(with_reducible refine(jh.calls k t250 a1 t251 _ A4.out).mono ?_);rintro e w' ⟨rfl,⟨nd,rfl⟩⟩;refine⟨_,rfl,?_⟩)|((with_reducible refine jV (f:=57) rfl ?_);refine zB (some 12) rfl rfl Tryz.func57 (by kernel_rfl) rfl #[.int .i64 a0] rfl (by (try simp only[List.map_toArray,List.map_cons,List.map_nil]);first|done|rfl|(simp only[List.length_drop,List.length_take];rfl)) ?_;(with_reducible refine(jc.calls a0 t252 _ A5.out).mono ?_);rintro e w' ⟨rfl,⟨nd,rfl⟩⟩;refine⟨_,rfl,?_⟩))
     go_ret;exact⟨by first|rfl|(simp;done)|(simp [*];done),by repeat (first|exact Drawn0.refl _|apply Drawn0.step)⟩
   ·rw[if_neg c12] at H
    have c12b0:(t252==3)=false:=beq_eq_false_iff_ne.mpr c12;have c12b1:(t252 != 3)=true:=bne_iff_ne.mpr c12;obtain rfl:=Option.some.inj H;go_enter Tryz.func73,Tryz.ntmps73
    go_wp2_with (first|((with_reducible refine jV (f:=58) rfl ?_);refine zB (some 8) rfl rfl Tryz.func58 (by kernel_rfl) rfl #[.int .i64 a0] rfl (by (try simp only[List.map_toArray,List.map_cons,List.map_nil]);first|done|rfl|(simp only[List.length_drop,List.length_take];rfl)) ?_;(with_reducible refine(jm.calls a0 t250 _ A3.out).mono ?_);rintro e w' ⟨rfl,⟨nd,rfl⟩⟩;refine⟨_,rfl,?_⟩)|((with_reducible refine jV (f:=105) rfl ?_);refine zB (some 10) rfl rfl Tryz.func105 (by kernel_rfl) rfl #[.int .i64 t250,.int .i64 a1] rfl (by (try simp only[List.map_toArray,List.map_cons,List.map_nil]);first|done|rfl|(simp only[List.length_drop,List.length_take];rfl)) ?_;(with_reducible refine(jh.calls k t250 a1 t251 _ A4.out).mono ?_);rintro e w' ⟨rfl,⟨nd,rfl⟩⟩;refine⟨_,rfl,?_⟩)|((with_reducible refine jV (f:=57) rfl ?_);refine zB (some 12) rfl rfl Tryz.func57 (by kernel_rfl) rfl #[.int .i64 a0] rfl (by (try simp only[List.map_toArray,List.map_cons,List.map_nil]);first|done|rfl|(simp only[List.length_drop,List.length_take];rfl)) ?_;(with_reducible refine(jc.calls a0 t252 _ A5.out).mono ?_);rintro e w' ⟨rfl,⟨nd,rfl⟩⟩;refine⟨_,rfl,?_⟩))
    go_ret;exact⟨by first|rfl|(simp;done)|(simp [*];done),by repeat (first|exact Drawn0.refl _|apply Drawn0.step)⟩
def rdead (x:Int) (q:Nat):Bool:=(zW.f 9 x (q:Int)).getD false
theorem rdead_is (x:Int) (q:Nat) (hq:q<81):zW.f 9 x (q:Int)=some (rdead x q):=by
 have h:∃r,zW.f 9 x (q:Int)=some r:=by
  have hs:∃s,jm.f x=some s:=by
   unfold jm.f;rw[ym,Option.bind_some]
   split
   all_goals exact⟨_,rfl⟩
  obtain⟨s,hs⟩:=hs
  have hf:∃f,jh.f 9 s (q:Int)=some f:=by
   simp only[jh.f,jh.j0]
   repeat' split
   all_goals exact⟨_,rfl⟩
  obtain⟨f,hf⟩:=hf;unfold zW.f;rw[hs,Option.bind_some,hf,Option.bind_some,ym,Option.bind_some]
  repeat' split
  all_goals exact⟨_,rfl⟩
 obtain⟨r,hr⟩:=h;unfold rdead;rw[hr];rfl
def rtot (k:Nat):Int:=(yR.f (k:Int)).getD 0
theorem rtot_is (k:Nat) (hk:k<8):yR.f (k:Int)=some (rtot k):=by
 have h:∀k:Fin 8,yR.f (k.1:Int)=some (rtot k.1):=by decide +kernel
 exact h ⟨k,hk⟩
def badh (v:Int) (k:Nat):Bool:=decide (v<0)||(decide (k=0)&&v != 0)
def jC.l6 (cs:List Int):Nat->Nat->Int
 | _,0=>0
 | n,d+1=>if(decide (1<((jt.f cs 1 n:Nat):Int))||decide (1<((jt.f cs 17 n:Nat):Int)))=true then 53 else jC.l6 cs (n+1) d
def jC.l5 (cs:List Int):Nat->Nat->Int
 | _,0=>jC.l6 cs 0 9
 | n,d+1=>if rdead (wrap64 (cs.getD n 0)) n=true then 52 else jC.l5 cs (n+1) d
def jC.l4 (cs:List Int):Nat->Nat->Int
 | _,0=>jC.l5 cs 0 81
 | n,d+1=>if decide (rtot n<zH.f cs n)=true then 51 else jC.l4 cs (n+1) d
def jC.l3 (cs:List Int):Int:=if(((j7.f cs 8 9:Nat):Int) != 1||((j7.f cs 24 9:Nat):Int) != 1)=true then 50 else jC.l4 cs 1 7
def jC.l2 (cs:List Int):Nat->Nat->Int
 | _,0=>jC.l3 cs
 | n,d+1=>if badh (cs.getD (81+n) 0) n=true then 55 else if badh (cs.getD (89+n) 0) n=true then 55 else jC.l2 cs (n+1) d
def jC.l2s (cs:List Int) (n:Nat):Nat->Nat->Int
 | 0,_=>if badh (cs.getD (81+n) 0) n=true then 55 else if badh (cs.getD (89+n) 0) n=true then 55 else jC.l2 cs (n+1) (7-n)
 | 1,_=>if badh (cs.getD (89+n) 0) n=true then 55 else jC.l2 cs (n+1) (7-n)
 | _,_=>jC.l2 cs (n+1) (7-n)
def jC.l1 (cs:List Int):Nat->Nat->Int
 | _,0=>jC.l2 cs 0 8
 | n,d+1=>if(cs.getD n 0 != 0&&yu (wrap64 (cs.getD n 0))==0)=true then 55 else jC.l1 cs (n+1) d
def jC.f (cs:List Int):Int:=if cs.getD 97 0=0\/cs.getD 97 0=1 then jC.l1 cs 0 81 else 1
theorem jC.side0 (cs:List Int) (h:jC.f cs=0):cs.getD 97 0=0\/cs.getD 97 0=1:=by
 unfold jC.f at h
 by_cases hs:cs.getD 97 0=0\/cs.getD 97 0=1
 ·exact hs
 ·rw[if_neg hs] at h
  exact absurd h (by decide)
theorem jC.check_calls (cs:List Int) (r:Int) (w:World) (hl:cs.length=98) (h:jC.f cs=r):
  Calls Tryz.prog 51 #[.agg (jA.pv cs)] w λe w'=>e=.returned (.int .i64 r)/\Below w.heap.size w w':=by
 subst h;have B1:(w.alloc (Obj.cells (jA.pv cs) 28)).heap[w.heap.size]?=some (.cells (jA.pv cs) 28 (0,0)):=zJ w _;have BB:Below w.heap.size w (w.alloc (Obj.cells (jA.pv cs) 28)):=ji (Below.refl _ _) _;go_enter Tryz.func51,Tryz.ntmps51;go_upto_region 1 with(fail);generalize w.alloc (Obj.cells (jA.pv cs) 28)=W at *;have c97:W.cell? ⟨w.heap.size,97,none⟩=some (.int .i8 (cs.getD 97 0)):=(jB B1 97).trans (jA.pv_get cs 97 (by omega));have K1:=qA B1;have KB:=qA BB;clear B1 BB
 by_cases hS:cs.getD 97 0=0\/cs.getD 97 0=1
 ·have HR:Aside0 (jC.l1 cs 0 81=jC.f cs):=⟨by unfold jC.f;rw[if_pos hS]⟩
  generalize cs.getD 97 0=sd at c97 hS
  rcases hS with rfl|rfl
  all_goals (
   go_upto_region 3 with(fail);clear c97;go_wp2
   go_loopg [3] 82 (λgf s3 wx=>∃(n:Nat),s3=.int .i64 n/\0<=n/\n<=81/\Aside0 (jC.l1 cs n (81-n)=jC.f cs)/\Aside0 (wx.heap[w.heap.size]?=some (.cells (jA.pv cs) 28 (0,0)))/\Aside0 (Below w.heap.size w wx)/\82<=gf+n)
   case atStart=>exact⟨0,rfl,by omega,by omega,HR,K1,KB,by omega⟩
   case round=>
    clear K1 KB HR;obtain⟨n,rfl,hlon,hnn,HR,K1,KB,hgf⟩:=hrel
    by_cases hend:n=81
    ·subst hend
     have HQ:=qA (show jC.l2 cs 0 8=jC.f cs from HR.out);clear HR;have HR:=HQ;clear HQ;go_wp2
     go_loopg [4] 9 (λgf s4 wx=>∃(n:Nat),s4=.int .i64 n/\0<=n/\n<=8/\Aside0 (jC.l2 cs n (8-n)=jC.f cs)/\Aside0 (wx.heap[w.heap.size]?=some (.cells (jA.pv cs) 28 (0,0)))/\Aside0 (Below w.heap.size w wx)/\9<=gf+n)
     case atStart=>exact⟨0,rfl,by omega,by omega,HR,K1,KB,by omega⟩
     case round=>
      clear K1 KB HR;obtain⟨n,rfl,hlon,hnn,HR,K1,KB,hgf⟩:=hrel
      by_cases hend:n=8
      ·subst hend
       have HQ:=qA (show jC.l3 cs=jC.f cs from HR.out);clear HR;have HR:=HQ;clear HQ;have e:=HR.out;replace e:(if(((j7.f cs 8 9:Nat):Int) != 1||((j7.f cs 24 9:Nat):Int) != 1)=true then(50:Int) else jC.l4 cs 1 7)=jC.f cs:=e;clear HR
       obtain⟨r1,h1⟩:∃r,j7.f cs 8 9=r:=⟨_,rfl⟩
       obtain⟨r2,h2⟩:∃r,j7.f cs 24 9=r:=⟨_,rfl⟩
       rw[h1,h2] at e;have H1:=qA h1;have H2:=qA h2;clear h1 h2
       cases t1:((r1:Int) != 1)
       ·cases t2:((r2:Int) != 1)
        ·rw[t1,t2] at e
         have HR:=qA (show jC.l4 cs 1 7=jC.f cs from e);clear e
         go_wp2_with (first|((with_reducible refine jG (N:=60) rfl ?_);refine jA.load rfl 28 (.tmp 1) rfl rfl K1.out Tryz.underlying28 rfl jA.infoP (by omega) ?_;rw[show(cs.drop 0).take 98=cs by rw[List.drop_zero,List.take_of_length_le (by omega)]])|(go_at_call 70;(with_reducible refine(j7.all_calls cs _ r1 _ hl H1.out).mono ?_);rintro e_ w7 ⟨rfl,hb⟩;replace K1:=qB K1 hb;replace KB:=qS KB hb;clear hb)|((with_reducible refine jG (N:=64) rfl ?_);(try (refine zw (by rfl) ?_;dsimp only));refine jA.load rfl 28 (.tmp 1) rfl rfl K1.out Tryz.underlying28 rfl jA.infoP (by omega) ?_;rw[show(cs.drop 0).take 98=cs by rw[List.drop_zero,List.take_of_length_le (by omega)]])|(go_at_call 70;(with_reducible refine(j7.all_calls cs _ r2 _ hl H2.out).mono ?_);rintro e_ w7 ⟨rfl,hb⟩;replace K1:=qB K1 hb;replace KB:=qS KB hb;clear hb))
         clear t1 t2 H1 H2
         go_loopg [7] 9 (λgf s7 wx=>∃(n:Nat),s7=.int .i64 n/\1<=n/\n<=8/\Aside0 (jC.l4 cs n (8-n)=jC.f cs)/\Aside0 (wx.heap[w.heap.size]?=some (.cells (jA.pv cs) 28 (0,0)))/\Aside0 (Below w.heap.size w wx)/\9<=gf+n)
         case atStart=>exact⟨1,rfl,by omega,by omega,HR,K1,KB,by omega⟩
         case round=>
          clear K1 KB HR;obtain⟨n,rfl,hlon,hnn,HR,K1,KB,hgf⟩:=hrel
          by_cases hend:n=8
          ·subst hend
           have HQ:=qA (show jC.l5 cs 0 81=jC.f cs from HR.out);clear HR;have HR:=HQ;clear HQ;go_wp2
           go_loopg [8] 82 (λgf s8 wx=>∃(n:Nat),s8=.int .i64 n/\0<=n/\n<=81/\Aside0 (jC.l5 cs n (81-n)=jC.f cs)/\Aside0 (wx.heap[w.heap.size]?=some (.cells (jA.pv cs) 28 (0,0)))/\Aside0 (Below w.heap.size w wx)/\82<=gf+n)
           case atStart=>exact⟨0,rfl,by omega,by omega,HR,K1,KB,by omega⟩
           case round=>
            clear K1 KB HR;obtain⟨n,rfl,hlon,hnn,HR,K1,KB,hgf⟩:=hrel
            by_cases hend:n=81
            ·subst hend
             have HQ:=qA (show jC.l6 cs 0 9=jC.f cs from HR.out);clear HR;have HR:=HQ;clear HQ;go_wp2
             go_loopg [9] 10 (λgf s9 wx=>∃(n:Nat),s9=.int .i64 n/\0<=n/\n<=9/\Aside0 (jC.l6 cs n (9-n)=jC.f cs)/\Aside0 (wx.heap[w.heap.size]?=some (.cells (jA.pv cs) 28 (0,0)))/\Aside0 (Below w.heap.size w wx)/\10<=gf+n)
             case atStart=>exact⟨0,rfl,by omega,by omega,HR,K1,KB,by omega⟩
             case round=>
              clear K1 KB HR;obtain⟨n,rfl,hlon,hnn,HR,K1,KB,hgf⟩:=hrel
              by_cases hend:n=9
              ·subst hend
               have HQ:=qA (show(0:Int)=jC.f cs from HR.out);clear HR;have HR:=HQ;clear HQ;go_wp2;go_ret;exact⟨by rw[<- HR.out];rfl,KB.out⟩
              ·have b0:decide ((n:Int)<9)=true:=decide_eq_true (by omega)
               have b1:(0<=(n:Int)/\(n:Int)<9)=True:=eq_true (by omega);have b3:((n:Int)<9)=True:=eq_true (by omega);have ew:IntKind.i64.wrap ((n:Int)+1)=(n:Int)+1:=IntWalk.i64_in _ (by omega)
               obtain⟨g',rfl⟩:∃g',gk=g'+1:=⟨gk-1,by omega⟩
               obtain⟨d,hd⟩:∃d,9-n=d+1:=⟨9-1-n,by omega⟩
               have e:=HR.out;rw[hd] at e
               have hd2:d=9-(n+1):=by omega
               replace e:(if(decide (1<((jt.f cs 1 n:Nat):Int))||decide (1<((jt.f cs 17 n:Nat):Int)))=true then(53:Int) else jC.l6 cs (n+1) d)=jC.f cs:=e;rw[hd2] at e;clear HR hd hd2;have HN9:=qA (show n<9 by omega)
               obtain⟨r1,h1⟩:∃r,jt.f cs 1 n=r:=⟨_,rfl⟩
               obtain⟨r2,h2⟩:∃r,jt.f cs 17 n=r:=⟨_,rfl⟩
               rw[h1,h2] at e;have H1:=qA h1;have H2:=qA h2;clear h1 h2
               cases t1:decide (1<(r1:Int))
               ·cases t2:decide (1<(r2:Int))
                ·rw[t1,t2] at e
                 have HE:=qA (show jC.l6 cs (n+1) (9-(n+1))=jC.f cs from e);clear e
                 go_wp2_with (first|((with_reducible refine jG (N:=93) rfl ?_);refine jA.load rfl 28 (.tmp 1) rfl rfl K1.out Tryz.underlying28 rfl jA.infoP (by omega) ?_;rw[show(cs.drop 0).take 98=cs by rw[List.drop_zero,List.take_of_length_le (by omega)]])|(go_at_call 74;(with_reducible refine(jt.on_calls cs _ n r1 _ hl HN9.out H1.out).mono ?_);rintro e_ w7 ⟨rfl,hb⟩;replace K1:=qB K1 hb;replace KB:=qS KB hb;clear hb)|((with_reducible refine jG (N:=98) rfl ?_);(try (refine zw (by rfl) ?_;dsimp only));refine jA.load rfl 28 (.tmp 1) rfl rfl K1.out Tryz.underlying28 rfl jA.infoP (by omega) ?_;rw[show(cs.drop 0).take 98=cs by rw[List.drop_zero,List.take_of_length_le (by omega)]])|(go_at_call 74;(with_reducible refine(jt.on_calls cs _ n r2 _ hl HN9.out H2.out).mono ?_);rintro e_ w7 ⟨rfl,hb⟩;replace K1:=qB K1 hb;replace KB:=qS KB hb;clear hb))
                 go_roundg g'
                 case measure=>omega
                 case rel=>exact⟨n+1,by simp,by omega,by omega,HE,K1,KB,by omega⟩
                ·rw[t1,t2] at e
                 have HE:=qA (show(53:Int)=jC.f cs from e);clear e
                 go_wp2_with (first|((with_reducible refine jG (N:=93) rfl ?_);refine jA.load rfl 28 (.tmp 1) rfl rfl K1.out Tryz.underlying28 rfl jA.infoP (by omega) ?_;rw[show(cs.drop 0).take 98=cs by rw[List.drop_zero,List.take_of_length_le (by omega)]])|(go_at_call 74;(with_reducible refine(jt.on_calls cs _ n r1 _ hl HN9.out H1.out).mono ?_);rintro e_ w7 ⟨rfl,hb⟩;replace K1:=qB K1 hb;replace KB:=qS KB hb;clear hb)|((with_reducible refine jG (N:=98) rfl ?_);(try (refine zw (by rfl) ?_;dsimp only));refine jA.load rfl 28 (.tmp 1) rfl rfl K1.out Tryz.underlying28 rfl jA.infoP (by omega) ?_;rw[show(cs.drop 0).take 98=cs by rw[List.drop_zero,List.take_of_length_le (by omega)]])|(go_at_call 74;(with_reducible refine(jt.on_calls cs _ n r2 _ hl HN9.out H2.out).mono ?_);rintro e_ w7 ⟨rfl,hb⟩;replace K1:=qB K1 hb;replace KB:=qS KB hb;clear hb))
                 go_ret;exact⟨by rw[<- HE.out];rfl,KB.out⟩
               ·rw[t1] at e
                have HE:=qA (show(53:Int)=jC.f cs from e);clear e
                go_wp2_with (first|((with_reducible refine jG (N:=93) rfl ?_);refine jA.load rfl 28 (.tmp 1) rfl rfl K1.out Tryz.underlying28 rfl jA.infoP (by omega) ?_;rw[show(cs.drop 0).take 98=cs by rw[List.drop_zero,List.take_of_length_le (by omega)]])|(go_at_call 74;(with_reducible refine(jt.on_calls cs _ n r1 _ hl HN9.out H1.out).mono ?_);rintro e_ w7 ⟨rfl,hb⟩;replace K1:=qB K1 hb;replace KB:=qS KB hb;clear hb))
                go_ret;exact⟨by rw[<- HE.out];rfl,KB.out⟩
            ·have b0:decide ((n:Int)<81)=true:=decide_eq_true (by omega)
             have b1:(0<=(n:Int)/\(n:Int)<81)=True:=eq_true (by omega);have b3:((n:Int)<81)=True:=eq_true (by omega);have ew:IntKind.i64.wrap ((n:Int)+1)=(n:Int)+1:=IntWalk.i64_in _ (by omega)
             obtain⟨g',rfl⟩:∃g',gk=g'+1:=⟨gk-1,by omega⟩
             obtain⟨d,hd⟩:∃d,81-n=d+1:=⟨81-1-n,by omega⟩
             have e:=HR.out;rw[hd] at e
             have hd2:d=81-(n+1):=by omega
             replace e:(if(rdead (wrap64 (cs.getD n 0)) n)=true then(52:Int) else jC.l5 cs (n+1) d)=jC.f cs:=e;rw[hd2] at e;clear HR hd hd2;have cN:wr.cell? ⟨w.heap.size,n,none⟩=some (.int .i8 (cs.getD (n) 0)):=(jB K1.out (n)).trans (jA.pv_get cs (n) (by omega));generalize cs.getD (n) 0=v at cN e;have HD:=qA (rdead_is (wrap64 v) n (by omega));generalize rdead (wrap64 v) n=dd at HD e
             cases dd
             ·have HE:=qA (show jC.l5 cs (n+1) (81-(n+1))=jC.f cs from e)
              clear e
              go_wp2_with (first|(go_at_call 73;(with_reducible refine(zW.calls _ _ _ _ _ HD.out).mono ?_);rintro e_ w7 ⟨rfl,hd_⟩;have hb:=hd_.below;clear hd_;replace K1:=qB K1 hb;replace KB:=qS KB hb;clear hb))
              go_roundg g'
              case measure=>omega
              case rel=>exact⟨n+1,by simp,by omega,by omega,HE,K1,KB,by omega⟩
             ·have HE:=qA (show(52:Int)=jC.f cs from e)
              clear e
              go_wp2_with (first|(go_at_call 73;(with_reducible refine(zW.calls _ _ _ _ _ HD.out).mono ?_);rintro e_ w7 ⟨rfl,hd_⟩;have hb:=hd_.below;clear hd_;replace K1:=qB K1 hb;replace KB:=qS KB hb;clear hb))
              go_ret;exact⟨by rw[<- HE.out];rfl,KB.out⟩
          ·have b0:decide ((n:Int)<8)=true:=decide_eq_true (by omega)
           have b1:(0<=(n:Int)/\(n:Int)<8)=True:=eq_true (by omega);have b3:((n:Int)<8)=True:=eq_true (by omega);have ew:IntKind.i64.wrap ((n:Int)+1)=(n:Int)+1:=IntWalk.i64_in _ (by omega)
           obtain⟨g',rfl⟩:∃g',gk=g'+1:=⟨gk-1,by omega⟩
           obtain⟨d,hd⟩:∃d,8-n=d+1:=⟨8-1-n,by omega⟩
           have e:=HR.out;rw[hd] at e
           have hd2:d=8-(n+1):=by omega
           replace e:(if(decide (rtot n<zH.f cs n))=true then(51:Int) else jC.l4 cs (n+1) d)=jC.f cs:=e;rw[hd2] at e;clear HR hd hd2;have HN8:=qA (show n<8 by omega);have HT:=qA (rtot_is n (by omega))
           obtain⟨r1,h1⟩:∃r,zH.f cs n=r:=⟨_,rfl⟩
           rw[h1] at e;generalize rtot n=tt at HT e;have H1:=qA h1;clear h1
           cases t1:decide (tt<r1)
           ·rw[t1] at e
            have HE:=qA (show jC.l4 cs (n+1) (8-(n+1))=jC.f cs from e);clear e
            go_wp2_with (first|((with_reducible refine jG (N:=72) rfl ?_);refine jA.load rfl 28 (.tmp 1) rfl rfl K1.out Tryz.underlying28 rfl jA.infoP (by omega) ?_;rw[show(cs.drop 0).take 98=cs by rw[List.drop_zero,List.take_of_length_le (by omega)]])|(go_at_call 71;(with_reducible refine(zH.count_calls cs n r1 _ hl HN8.out H1.out).mono ?_);rintro e_ w7 ⟨rfl,hb⟩;replace K1:=qB K1 hb;replace KB:=qS KB hb;clear hb)|(go_at_call 72;(with_reducible refine(yR.calls _ _ _ HT.out).mono ?_);rintro e_ w7 ⟨rfl,hb⟩;replace K1:=qB K1 hb;replace KB:=qS KB hb;clear hb))
            go_roundg g'
            case measure=>omega
            case rel=>exact⟨n+1,by simp,by omega,by omega,HE,K1,KB,by omega⟩
           ·rw[t1] at e
            have HE:=qA (show(51:Int)=jC.f cs from e);clear e
            go_wp2_with (first|((with_reducible refine jG (N:=72) rfl ?_);refine jA.load rfl 28 (.tmp 1) rfl rfl K1.out Tryz.underlying28 rfl jA.infoP (by omega) ?_;rw[show(cs.drop 0).take 98=cs by rw[List.drop_zero,List.take_of_length_le (by omega)]])|(go_at_call 71;(with_reducible refine(zH.count_calls cs n r1 _ hl HN8.out H1.out).mono ?_);rintro e_ w7 ⟨rfl,hb⟩;replace K1:=qB K1 hb;replace KB:=qS KB hb;clear hb)|(go_at_call 72;(with_reducible refine(yR.calls _ _ _ HT.out).mono ?_);rintro e_ w7 ⟨rfl,hb⟩;replace K1:=qB K1 hb;replace KB:=qS KB hb;clear hb))
            go_ret;exact⟨by rw[<- HE.out];rfl,KB.out⟩
        ·rw[t1,t2] at e
         have HE:=qA (show(50:Int)=jC.f cs from e);clear e
         go_wp2_with (first|((with_reducible refine jG (N:=60) rfl ?_);refine jA.load rfl 28 (.tmp 1) rfl rfl K1.out Tryz.underlying28 rfl jA.infoP (by omega) ?_;rw[show(cs.drop 0).take 98=cs by rw[List.drop_zero,List.take_of_length_le (by omega)]])|(go_at_call 70;(with_reducible refine(j7.all_calls cs _ r1 _ hl H1.out).mono ?_);rintro e_ w7 ⟨rfl,hb⟩;replace K1:=qB K1 hb;replace KB:=qS KB hb;clear hb)|((with_reducible refine jG (N:=64) rfl ?_);(try (refine zw (by rfl) ?_;dsimp only));refine jA.load rfl 28 (.tmp 1) rfl rfl K1.out Tryz.underlying28 rfl jA.infoP (by omega) ?_;rw[show(cs.drop 0).take 98=cs by rw[List.drop_zero,List.take_of_length_le (by omega)]])|(go_at_call 70;(with_reducible refine(j7.all_calls cs _ r2 _ hl H2.out).mono ?_);rintro e_ w7 ⟨rfl,hb⟩;replace K1:=qB K1 hb;replace KB:=qS KB hb;clear hb))
         go_ret;exact⟨by rw[<- HE.out];rfl,KB.out⟩
       ·rw[t1] at e
        have HE:=qA (show(50:Int)=jC.f cs from e);clear e
        go_wp2_with (first|((with_reducible refine jG (N:=60) rfl ?_);refine jA.load rfl 28 (.tmp 1) rfl rfl K1.out Tryz.underlying28 rfl jA.infoP (by omega) ?_;rw[show(cs.drop 0).take 98=cs by rw[List.drop_zero,List.take_of_length_le (by omega)]])|(go_at_call 70;(with_reducible refine(j7.all_calls cs _ r1 _ hl H1.out).mono ?_);rintro e_ w7 ⟨rfl,hb⟩;replace K1:=qB K1 hb;replace KB:=qS KB hb;clear hb))
        go_ret;exact⟨by rw[<- HE.out];rfl,KB.out⟩
      ·have b0:decide ((n:Int)<8)=true:=decide_eq_true (by omega)
       have b1:(0<=(n:Int)/\(n:Int)<8)=True:=eq_true (by omega);have b3:((n:Int)<8)=True:=eq_true (by omega);have ew:IntKind.i64.wrap ((n:Int)+1)=(n:Int)+1:=IntWalk.i64_in _ (by omega)
       obtain⟨g',rfl⟩:∃g',gk=g'+1:=⟨gk-1,by omega⟩
       obtain⟨d,hd⟩:∃d,8-n=d+1:=⟨8-1-n,by omega⟩
       have e:=HR.out;rw[hd] at e
       replace e:jC.l2s cs n 0 2=jC.f cs:=by
        have hx:d=7-n:=by omega
        subst hx;exact e
       clear HR hd;have e2:jC.l2s cs n 0 2=jC.f cs:=e;have HR:=qA e2;clear e e2;go_wp2
       go_loopg [5] 3 (λgf s5 wx=>∃(m:Nat),s5=.int .i64 m/\0<=m/\m<=2/\Aside0 (jC.l2s cs n m (2-m)=jC.f cs)/\Aside0 (wx.heap[w.heap.size]?=some (.cells (jA.pv cs) 28 (0,0)))/\Aside0 (Below w.heap.size w wx)/\3<=gf+m)
       case atStart=>exact⟨0,rfl,by omega,by omega,HR,K1,KB,by omega⟩
       case round=>
        clear K1 KB HR;obtain⟨m,rfl,hlom,hnm,HR,K1,KB,hgfm⟩:=hrel
        by_cases hend2:m=2
        ·subst hend2
         have HE:=qA (show jC.l2 cs (n+1) (7-n)=jC.f cs from HR.out)
         have HE2:Aside0 (jC.l2 cs (n+1) (8-(n+1))=jC.f cs):=⟨by rw[show 8-(n+1)=7-n by omega];exact HE.out⟩
         clear HR HE;have HE:=HE2;clear HE2;go_wp2
         go_roundg g'
         case measure=>omega
         case rel=>exact⟨n+1,by simp,by omega,by omega,HE,K1,KB,by omega⟩
        ·have b0m:decide ((m:Int)<2)=true:=decide_eq_true (by omega)
         have b1m:(0<=(m:Int)/\(m:Int)<2)=True:=eq_true (by omega);have b3m:((m:Int)<2)=True:=eq_true (by omega);have ewm:IntKind.i64.wrap ((m:Int)+1)=(m:Int)+1:=IntWalk.i64_in _ (by omega)
         obtain⟨g3,rfl⟩:∃g3,gk=g3+1:=⟨gk-1,by omega⟩
         have e:=HR.out;clear HR
         obtain rfl|rfl:m=0\/m=1:=by omega
         ·replace e:(if badh (cs.getD (81+n) 0) n=true then(55:Int) else jC.l2s cs n 1 1)=jC.f cs:=e
          have cA:wr.cell? ⟨w.heap.size,81+n,none⟩=some (.int .i8 (cs.getD (81+n) 0)):=(jB K1.out (81+n)).trans (jA.pv_get cs (81+n) (by omega));generalize cs.getD (81+n) 0=v at cA e
          cases h1:decide (v<0)
          ·by_cases hn0:n=0
           ·subst hn0
            cases h3:(v != 0)
            ·rw[show badh v 0=false by unfold badh;rw[h1,h3];rfl] at e
             have HE:=qA (show jC.l2s cs 0 1 1=jC.f cs from e);clear e;go_wp2
             go_roundg g3
             case measure=>omega
             case rel=>exact⟨1,by first|rfl|simp,by omega,by omega,HE,K1,KB,by omega⟩
            ·rw[show badh v 0=true by unfold badh;rw[h1,h3];rfl] at e
             have HE:=qA (show(55:Int)=jC.f cs from e);clear e;go_wp2;go_ret;exact⟨by rw[<- HE.out];rfl,KB.out⟩
           ·have h2:((n:Int)==0)=false:=by simp;omega
            rw[show badh v n=false by unfold badh;rw[h1,decide_eq_false hn0];rfl] at e;have HE:=qA (show jC.l2s cs n 1 1=jC.f cs from e);clear e;go_wp2
            go_roundg g3
            case measure=>omega
            case rel=>exact⟨1,by first|rfl|simp,by omega,by omega,HE,K1,KB,by omega⟩
          ·rw[show badh v n=true by unfold badh;rw[h1];rfl] at e
           have HE:=qA (show(55:Int)=jC.f cs from e);clear e;go_wp2;go_ret;exact⟨by rw[<- HE.out];rfl,KB.out⟩
         ·replace e:(if badh (cs.getD (89+n) 0) n=true then(55:Int) else jC.l2s cs n 2 0)=jC.f cs:=e
          have cA:wr.cell? ⟨w.heap.size,89+n,none⟩=some (.int .i8 (cs.getD (89+n) 0)):=(jB K1.out (89+n)).trans (jA.pv_get cs (89+n) (by omega));generalize cs.getD (89+n) 0=v at cA e
          cases h1:decide (v<0)
          ·by_cases hn0:n=0
           ·subst hn0
            cases h3:(v != 0)
            ·rw[show badh v 0=false by unfold badh;rw[h1,h3];rfl] at e
             have HE:=qA (show jC.l2s cs 0 2 0=jC.f cs from e);clear e;go_wp2
             go_roundg g3
             case measure=>omega
             case rel=>exact⟨2,by first|rfl|simp,by omega,by omega,HE,K1,KB,by omega⟩
            ·rw[show badh v 0=true by unfold badh;rw[h1,h3];rfl] at e
             have HE:=qA (show(55:Int)=jC.f cs from e);clear e;go_wp2;go_ret;exact⟨by rw[<- HE.out];rfl,KB.out⟩
           ·have h2:((n:Int)==0)=false:=by simp;omega
            rw[show badh v n=false by unfold badh;rw[h1,decide_eq_false hn0];rfl] at e;have HE:=qA (show jC.l2s cs n 2 0=jC.f cs from e);clear e;go_wp2
            go_roundg g3
            case measure=>omega
            case rel=>exact⟨2,by first|rfl|simp,by omega,by omega,HE,K1,KB,by omega⟩
          ·rw[show badh v n=true by unfold badh;rw[h1];rfl] at e
           have HE:=qA (show(55:Int)=jC.f cs from e);clear e;go_wp2;go_ret;exact⟨by rw[<- HE.out];rfl,KB.out⟩
    ·have b0:decide ((n:Int)<81)=true:=decide_eq_true (by omega)
     have b1:(0<=(n:Int)/\(n:Int)<81)=True:=eq_true (by omega);have b3:((n:Int)<81)=True:=eq_true (by omega);have ew:IntKind.i64.wrap ((n:Int)+1)=(n:Int)+1:=IntWalk.i64_in _ (by omega)
     obtain⟨g',rfl⟩:∃g',gk=g'+1:=⟨gk-1,by omega⟩
     obtain⟨d,hd⟩:∃d,81-n=d+1:=⟨81-1-n,by omega⟩
     have e:=HR.out;rw[hd] at e
     have hd2:d=81-(n+1):=by omega
     replace e:(if(cs.getD n 0 != 0&&yu (wrap64 (cs.getD n 0))==0)=true then(55:Int) else jC.l1 cs (n+1) d)=jC.f cs:=e;rw[hd2] at e;clear HR hd hd2;have cN:wr.cell? ⟨w.heap.size,n,none⟩=some (.int .i8 (cs.getD (n) 0)):=(jB K1.out (n)).trans (jA.pv_get cs (n) (by omega));generalize cs.getD (n) 0=v at cN e;have HK:=qA (ym (wrap64 v));generalize yu (wrap64 v)=k at HK e
     cases h1:(v != 0)
     ·rw[h1] at e
      have HE:=qA (show jC.l1 cs (n+1) (81-(n+1))=jC.f cs from e);clear e;go_wp2
      go_roundg g'
      case measure=>omega
      case rel=>exact⟨n+1,by simp,by omega,by omega,HE,K1,KB,by omega⟩
     ·cases h2:(k==0)
      ·rw[h1,h2] at e
       have HE:=qA (show jC.l1 cs (n+1) (81-(n+1))=jC.f cs from e);clear e
       go_wp2_with (first|(go_at_call 57;(with_reducible refine(jc.calls _ _ _ HK.out).mono ?_);rintro e_ w7 ⟨rfl,hd_⟩;have hb:=hd_.below;clear hd_;replace K1:=qB K1 hb;replace KB:=qS KB hb;clear hb))
       go_roundg g'
       case measure=>omega
       case rel=>exact⟨n+1,by simp,by omega,by omega,HE,K1,KB,by omega⟩
      ·rw[h1,h2] at e
       have HE:=qA (show(55:Int)=jC.f cs from e);clear e
       go_wp2_with (first|(go_at_call 57;(with_reducible refine(jc.calls _ _ _ HK.out).mono ?_);rintro e_ w7 ⟨rfl,hd_⟩;have hb:=hd_.below;clear hd_;replace K1:=qB K1 hb;replace KB:=qS KB hb;clear hb))
       go_ret;exact⟨by rw[<- HE.out];rfl,KB.out⟩
  )
 ·have h0:(cs.getD 97 0 != 0)=true:=by simp at hS ⊢;exact hS.1
  have h1:(cs.getD 97 0 != 1)=true:=by simp at hS ⊢;exact hS.2
  have HE:Aside0 ((1:Int)=jC.f cs):=⟨by unfold jC.f;rw[if_neg hS]⟩
  generalize cs.getD 97 0=sd at c97 h0 h1;clear hS;go_wp2;go_ret;exact⟨by rw[<- HE.out];rfl,KB.out⟩
def bv (l:List Bool):Array Value:=(l.map Value.bool).toArray
theorem bv_size (l:List Bool):(bv l).size=l.length:=by simp [bv]
theorem bv_one (l:List Bool):(bv l).all (·.oneCell')=true:=all_oneCell_toArray (λv hv=>by
 obtain⟨b,_,rfl⟩:=List.mem_map.1 hv
 rfl)
theorem bv_get (l:List Bool) (i:Nat) (h:i<l.length):(bv l)[i]?=some (.bool (l.getD i false)):=by
 simp [bv,List.getD_eq_getElem?_getD,List.getElem?_eq_getElem h]
theorem bv_set (l:List Bool) (i:Nat) (b:Bool):(bv l).setIfInBounds i (.bool b)=bv (l.set i b):=by
 simp [bv,List.map_set]
theorem bv_rng {W:World} {g:Nat} {l:List Bool} {t:TypeId} (h:W.heap[g]?=some (.cells (bv l) t (0,0))):W.rangeAt g 0 (l.map Value.bool):=λj v hj=>by
 rw[jB h (0+j)]
 simpa [bv] using hj
theorem bv_info:(Tryz.prog.info? 101).map (·.size)=some 81:=by kernel_rfl
def b81:List Bool:=List.replicate 81 false
theorem b81_zero (w:World):(zeroValue 101).run Tryz.prog w=.ok (.agg (bv b81)) w:=by
 have h:((Tryz.prog.info? 101).map (·.zero))=some (some (.agg (bv b81))):=by kernel_rfl
 cases hi:Tryz.prog.info? 101 with
 | none=>rw[hi] at h;cases h
 | some i=>
  rw[hi] at h
  have hz:i.zero=some (.agg (bv b81)):=by simpa using h
  simp [zeroValue,typeInfo,hi,hz]
section
variable {ops:Array Oper} {rest:List Oper} {o:Oper} {a:Act} {Q:Exit->Act->World->Prop} {W:World} {K:Act->World->Prop}
theorem bv_wp_load (x:Operand) (ho:o.op=.load 101 x) {g:Nat} {t:TypeId} {l:List Bool} (hx:a.eval x=.pointer (some ⟨g,0,none⟩)) (hb:W.heap[g]?=some (.cells (bv l) t (0,0))) (hl:l.length=81)
  (h:K (a.put o.dst (.agg (bv l))) W):Oper.wp Tryz.prog o a W K Q:=
 wp_load_mid 101 x ho g 0 hx (l.map Value.bool) _ (bv_rng hb) Tryz.underlying101 rfl (by rw[bv_info,List.length_map,hl]) h
theorem jA5 (hgd:o.guard=none) (x:Operand) (ho:o.op=.load 101 x) {g:Nat} {t:TypeId} {l:List Bool} (hx:a.eval x=.pointer (some ⟨g,0,none⟩)) (hb:W.heap[g]?=some (.cells (bv l) t (0,0))) (hl:l.length=81)
  (h:wpList Tryz.prog ops Q rest (a.put o.dst (.agg (bv l))) W):wpList Tryz.prog ops Q (o::rest) a W:=
 wpList_plain hgd λ_ hK=>bv_wp_load x ho hx hb hl (hK _ _ h)
theorem bv_store (hgd:o.guard=none) (x y:Operand) (ho:o.op=.store 101 x y) {g:Nat} {t:TypeId} {l:List Bool} {C:Array Value} (hx:a.eval x=.pointer (some ⟨g,0,none⟩)) (hy:a.eval y=.agg (bv l)) (hb:W.heap[g]?=some (.cells C t (0,0))) (hC:C.size=81) (hl:l.length=81)
  (h:∀W',W'.heap[g]?=some (.cells (bv l) t (0,0))->(∀B w0,B<=g->Below B w0 W->Below B w0 W')->(∀k,k≠g->W'.heap[k]?=W.heap[k]?)->wpList Tryz.prog ops Q rest (a.put o.dst undef) W'):wpList Tryz.prog ops Q (o::rest) a W:=by
 have hsz:(bv l).size=81:=by rw[bv_size,hl]
 refine wpList_plain hgd λ_ hK=>wp_store_mid _ x y ho g 0 (bv l) hx hy (jA.thr hb _ (by omega)) (by rw[bv_info,hsz]) (bv_one l) (hK _ _ ?_);obtain⟨cur',h1,h2,h3⟩:=yl (bv l).toList 0 W C hb (by rw[Array.length_toList];omega)
 have e:cur'=bv l:=by
  apply Array.toList_inj.1
  rw[h3];simp only[List.take_zero,List.nil_append,Nat.zero_add];rw[List.drop_of_length_le (by rw[Array.length_toList,Array.length_toList];omega),List.append_nil]
 rw[e] at h1;exact h _ h1 (λB w0 hB hb0=>below_setCells hB _ 0 W hb0) (λk hk=>yT _ 0 k hk)
end
def jb.go (cs:List Int):Nat->List Bool
 | 0=>b81
 | n+1=>(jb.go cs n).set n (cs.getD n 0 != 0)
theorem jb.len (cs:List Int):∀n,(jb.go cs n).length=81
 | 0=>rfl
 | n+1=>by unfold jb.go;rw[List.length_set,jb.len cs n]
theorem jb.get (cs:List Int) (q:Nat) (hq:q<81):∀n, (jb.go cs n).getD q false=if q<n then cs.getD q 0 != 0 else false
 | 0=>by
  have:∀q:Fin 81,b81.getD q.1 false=false:=by decide
  rw[if_neg (by omega)];exact this ⟨q,hq⟩
 | n+1=>by
  have h:=jb.get cs q hq n;have hl:=jb.len cs n;unfold jb.go;rw[List.getD_eq_getElem?_getD,List.getElem?_set]
  by_cases e:n=q
  ·subst e;rw[if_pos rfl,if_pos (by omega),if_pos (by omega)];rfl
  ·rw[if_neg e,<- List.getD_eq_getElem?_getD,h]
   by_cases e2:q<n
   ·rw[if_pos e2,if_pos (by omega)]
   ·rw[if_neg e2,if_neg (by omega)]
def jb.f (cs:List Int):List Bool:=jb.go cs 81
theorem jb.taken_calls (cs:List Int) (w:World) (hl:cs.length=98):
  Calls Tryz.prog 75 #[.agg (jA.pv cs)] w λe w'=>e=.returned (.agg (bv (jb.f cs)))/\Below w.heap.size w w':=by
 have hz:=b81_zero;have B1:((w.alloc (Obj.cells (jA.pv cs) 28)).alloc (Obj.cells (bv b81) 101)).heap[w.heap.size]?=some (.cells (jA.pv cs) 28 (0,0)):=jI (zJ w _) _
 have hsz:(w.alloc (Obj.cells (jA.pv cs) 28)).heap.size=w.heap.size+1:=by simp [go_sem]
 have B2:((w.alloc (Obj.cells (jA.pv cs) 28)).alloc (Obj.cells (bv b81) 101)).heap[w.heap.size+1]?=some (.cells (bv b81) 101 (0,0)):=by
  have e:=zJ (w.alloc (Obj.cells (jA.pv cs) 28)) (Obj.cells (bv b81) 101);rw[hsz] at e;exact e
 have BB:Below w.heap.size w ((w.alloc (Obj.cells (jA.pv cs) 28)).alloc (Obj.cells (bv b81) 101)):=ji (ji (Below.refl _ _) _) _
 have hsz2:((w.alloc (Obj.cells (jA.pv cs) 28)).alloc (Obj.cells (bv b81) 101)).heap.size=w.heap.size+2:=by simp [go_sem]
 go_enter Tryz.func75,Tryz.ntmps75;go_upto_region 1 with(fail);generalize ((w.alloc (Obj.cells (jA.pv cs) 28)).alloc (Obj.cells (bv b81) 101))=W at *
 have B3:(W.alloc (Obj.cells (bv b81) 101)).heap[w.heap.size+2]?=some (.cells (bv b81) 101 (0,0)):=by
  have e:=zJ W (Obj.cells (bv b81) 101);rw[hsz2] at e;exact e
 have HZB:Aside0 (∀W,(Instr.build 101 #[]).run Tryz.prog W=.ok (.agg (bv b81)) W):=⟨λW=>run_build W 101 _ _ (by kernel_rfl)⟩
 have hzb:=HZB.out;go_upto_region 2 with(first|((with_reducible refine jW (t:=101) (p:=3) (v:=.tmp 5) rfl ?_);refine bv_store rfl (.tmp 3) (.tmp 5) rfl rfl rfl B3 (by rw[bv_size];rfl) rfl ?_;intro W3 s1 s2 s3))
 obtain⟨g,hg⟩:∃g,g=w.heap.size+2:=⟨_,rfl⟩
 rw[<- hg] at s1 s2 s3 ⊢;have K1:=qA ((s3 w.heap.size (by omega)).trans (jI B1 (Obj.cells (bv b81) 101)));have K2:=qA ((s3 (w.heap.size+1) (by omega)).trans (jI B2 (Obj.cells (bv b81) 101)));have K3:=qA s1;have KB:=qA (s2 w.heap.size w (by omega) (ji BB (Obj.cells (bv b81) 101)));have HG:=qA hg;clear B1 B2 B3 BB s1 s2 s3 hz hzb hg hsz hsz2;go_wp2
 go_loopg [4] 82 (λgf s4 wx=>∃(n:Nat),s4=.int .i64 n/\n<=81/\Aside0 (wx.heap[w.heap.size]?=some (.cells (jA.pv cs) 28 (0,0)))/\Aside0 (wx.heap[w.heap.size+1]?=some (.cells (bv b81) 101 (0,0)))/\Aside0 (wx.heap[g]?=some (.cells (bv (jb.go cs n)) 101 (0,0)))/\Aside0 (Below w.heap.size w wx)/\82<=gf+n)
 case atStart=>exact⟨0,rfl,by omega,K1,K2,K3,KB,by omega⟩
 case round=>
  clear K1 K2 K3 KB;obtain⟨n,rfl,hn,K1,K2,K3,KB,hgf⟩:=hrel
  by_cases hend:n=81
  ·subst hend
   go_wp2_with (first|((with_reducible refine jG (N:=17) rfl ?_);refine jA5 rfl (.tmp 3) rfl rfl K3.out (jb.len cs 81) ?_)|((with_reducible refine jW (t:=101) (p:=2) (v:=.tmp 17) rfl ?_);refine bv_store rfl (.tmp 2) (.tmp 17) rfl rfl rfl K2.out (by rw[bv_size];rfl) (jb.len cs 81) ?_;intro W3 s1 s2 s3;have S1:=qA s1;have S2:=qA (s2 _ _ (Nat.le_succ _) KB.out);clear s1 s2 s3))
   refine bodyPost_ret (results_cell_row (p:=2) (ty:=101) rfl _ _ (w.heap.size+1) 101 (bv (jb.go cs 81)) (0,0) _ rfl S1.out Tryz.underlying101 rfl (by rw[bv_info,bv_size,jb.len])) rfl ?_;exact⟨rfl,S2.out⟩
  ·have b0:decide ((n:Int)<81)=true:=decide_eq_true (by omega)
   have b1:(0<=(n:Int)/\(n:Int)<81)=True:=eq_true (by omega);have b3:((n:Int)<81)=True:=eq_true (by omega);have cN:wr.cell? ⟨w.heap.size,n,none⟩=some (.int .i8 (cs.getD n 0)):=(jB K1.out n).trans (jA.pv_get cs n (by omega));have cG:wr.cell? ⟨g,n,none⟩=some (.bool ((jb.go cs n).getD n false)):=(jB K3.out n).trans (bv_get _ n (by rw[jb.len];omega));have fN:=jH K3.out n;have hgo:jb.go cs (n+1)=(jb.go cs n).set n (cs.getD n 0 != 0):=rfl;have HGO:=qA hgo;generalize (jb.go cs n).getD n false=ob at cG;clear hgo
   obtain⟨v,hv⟩:∃v,v=cs.getD n 0:=⟨_,rfl⟩
   rw[<- hv] at cN;have HV:=qA hv;have ew:IntKind.i64.wrap ((n:Int)+1)=(n:Int)+1:=IntWalk.i64_in _ (by omega)
   obtain⟨g',rfl⟩:∃g',gk=g'+1:=⟨gk-1,by omega⟩
   clear hv;go_upto_region 4 with(fail);have B1:=jp K1.out (p:=⟨g,n,none⟩) (by show w.heap.size≠g;have:=HG.out;omega) (.bool (v != 0));have B2:=jp K2.out (p:=⟨g,n,none⟩) (by show w.heap.size+1≠g;have:=HG.out;omega) (.bool (v != 0));have B3:=(zQ K3.out n (.bool (v != 0))).trans (by rw[bv_set,HV.out,<- HGO.out]);have BB:=KB.out.setCell (p:=⟨g,n,none⟩) (by show w.heap.size<=g;have:=HG.out;omega) (.bool (v != 0));generalize wr.setCell ⟨g,n,none⟩ (.bool (v != 0))=W2 at *;clear K1 K2 K3 KB cN cG fN;have K1:=qA B1;have K2:=qA B2;have K3:=qA B3;have KB:=qA BB;clear B1 B2 B3 BB;go_wp2
   go_roundg g'
   case measure=>omega
   case rel=>exact⟨n+1,by simp,by omega,K1,K2,K3,KB,by omega⟩
end Go.Proofs.YtigenhbmgpfffaaGreatDoor.Pa
