import Derived.Test.YtigenhbmgpfffaaGreatDoorB34
set_option maxRecDepth 100000
set_option maxHeartbeats 16000000
namespace Go.Proofs.YtigenhbmgpfffaaGreatDoor.Pa
open Go.RowKit Go.Proofs.YtigenhbmgpfffaaGreatDoorW.PrintWords Go.Proofs.YtigenhbmgpfffaaGreatDoorW.PrintLast Go.Proofs.YtigenhbmgpfffaaGreatDoorW.PrintMore
attribute [local go_sem] yE yC yM yL zo zn yD yB
set_option linter.unusedVariables false
set_option linter.unusedSimpArgs false
def zC.go (cs:List Int) (side:Int):Nat->Nat->Int
 | _,0=>-1
 | n,d+1=>if wrap64 (cs.getD n 0)=16*side+8 then(n:Int) else zC.go cs side (n+1) d
def zC.f (cs:List Int) (side:Int):Int:=zC.go cs side 0 81
theorem zC.king_calls (cs:List Int) (side r:Int) (w:World) (hl:cs.length=98) (hs:side=0\/side=1) (h:zC.f cs side=r):
  Calls Tryz.prog 76 #[.agg (jA.pv cs),.int .i64 side] w λe w'=>e=.returned (.int .i64 r)/\Below w.heap.size w w':=by
 subst h;have e1:IntKind.i64.wrap (16*side)=16*side:=IntWalk.i64_in _ (by omega);have e2:IntKind.i64.wrap (16*side+8)=16*side+8:=IntWalk.i64_in _ (by omega);have B1:(w.alloc (Obj.cells (jA.pv cs) 28)).heap[w.heap.size]?=some (.cells (jA.pv cs) 28 (0,0)):=zJ w _;have BB:Below w.heap.size w (w.alloc (Obj.cells (jA.pv cs) 28)):=ji (Below.refl _ _) _;go_enter Tryz.func76,Tryz.ntmps76;go_upto_region 1 with(fail);generalize w.alloc (Obj.cells (jA.pv cs) 28)=W at *;have K1:=qA B1;have KB:=qA BB;clear B1 BB;go_wp2
 go_loopg [5] 82 (λgf s5 wx=>∃(n:Nat),s5=.int .i64 n/\n<=81/\Aside0 (zC.go cs side n (81-n)=zC.f cs side)/\Aside0 (wx.heap[w.heap.size]?=some (.cells (jA.pv cs) 28 (0,0)))/\Aside0 (Below w.heap.size w wx)/\82<=gf+n)
 case atStart=>exact⟨0,rfl,by omega,⟨rfl⟩,K1,KB,by omega⟩
 case round=>
  clear K1 KB;obtain⟨n,rfl,hn,HR,K1,KB,hgf⟩:=hrel
  by_cases hend:n=81
  ·subst hend
   go_wp2;go_ret;exact⟨by rw[<- HR.out];rfl,KB.out⟩
  ·obtain⟨d,hd⟩:∃d,81-n=d+1:=⟨80-n,by omega⟩
   have e:=HR.out;rw[hd] at e;unfold zC.go at e
   have hd2:d=81-(n+1):=by omega
   rw[hd2] at e;have b0:decide ((n:Int)<81)=true:=decide_eq_true (by omega);have b1:(0<=(n:Int)/\(n:Int)<81)=True:=eq_true (by omega);have b3:((n:Int)<81)=True:=eq_true (by omega);have cN:wr.cell? ⟨w.heap.size,n,none⟩=some (.int .i8 (cs.getD n 0)):=(jB K1.out n).trans (jA.pv_get cs n (by omega));generalize cs.getD n 0=v at cN e;have ew:IntKind.i64.wrap ((n:Int)+1)=(n:Int)+1:=IntWalk.i64_in _ (by omega)
   obtain⟨g',rfl⟩:∃g',gk=g'+1:=⟨gk-1,by omega⟩
   clear hd hd2 HR hs
   by_cases hb:wrap64 v=16*side+8
   ·have b4:(wrap64 v==16*side+8)=true:=beq_iff_eq.mpr hb
    rw[if_pos hb] at e;have HE:=qA e;clear e hb;go_wp2;go_ret;exact⟨by rw[<- HE.out];rfl,KB.out⟩
   ·have b4:(wrap64 v==16*side+8)=false:=beq_eq_false_iff_ne.mpr hb
    rw[if_neg hb] at e;have HE:=qA e;clear e hb;go_wp2
    go_roundg g'
    case measure=>omega
    case rel=>exact⟨n+1,by simp,by omega,HE,K1,KB,by omega⟩
def yA.f (a0:Int):Option (Int):=if a0<0 then(some (wrap64 (-a0))) else(some a0)
theorem yA.calls (a0:Int) (r:Int) (w:World) (h:yA.f a0=some r):
  Calls Tryz.prog 129 #[.int .i64 a0] w λe w'=>e=.returned (.int .i64 r)/\Drawn0 w w':=by
 have H:(if a0<0 then(some (wrap64 (-a0))) else(some a0))=some r:=h;clear h
 by_cases c2:a0<0
 ·rw[if_pos c2] at H
  have c2b0:decide (a0<0)=true:=decide_eq_true c2;clear c2;obtain rfl:=Option.some.inj H;go_enter Tryz.func129,Tryz.ntmps129;go_wp2;go_ret;exact⟨by first|rfl|(simp;done)|(simp [*];done),by repeat (first|exact Drawn0.refl _|apply Drawn0.step)⟩
 ·rw[if_neg c2] at H
  have c2b0:decide (a0<0)=false:=decide_eq_false c2;clear c2;obtain rfl:=Option.some.inj H;go_enter Tryz.func129,Tryz.ntmps129;go_wp2;go_ret;exact⟨by first|rfl|(simp;done)|(simp [*];done),by repeat (first|exact Drawn0.refl _|apply Drawn0.step)⟩
mutual
def jF.j0:Nat->Int->Int->Int->Bool->Option (Bool)
 | 0,_,_,_,_=>none
 | k+1,x0,x1,x2,x28=>if x28=true then(some false) else((yA.f (wrap64 ((wrap64 (Int.tdiv x2 9))-(wrap64 (Int.tdiv x1 9))))).bind λt253=>((jm.f x0).bind λt254=>(if t254=1 then(jF.j1 k x0 t253 (wrap64 (-(wrap64 ((Int.tmod x1 9)-(Int.tmod x2 9)))))) else(jF.j1 k x0 t253 (wrap64 ((Int.tmod x1 9)-(Int.tmod x2 9)))))))
def jF.j1:Nat->Int->Int->Int->Option (Bool)
 | 0,_,_,_=>none
 | k+1,x0,x7,x8=>if x7<=1 then((yA.f x8).bind λt255=>(jF.j2 k x0 x7 x8 (decide (t255<=1)))) else(jF.j2 k x0 x7 x8 false)
def jF.j2:Nat->Int->Int->Int->Bool->Option (Bool)
 | 0,_,_,_,_=>none
 | k+1,x0,x7,x8,x9=>(jc.f x0).bind λt256=>(if t256=1 then(if x7=0 then(some (x8==1)) else(some false)) else(if t256=3 then(if x7=1 then(some (x8==2)) else(some false)) else(if t256=4 then(if x9=true then(if x8=1 then(some true) else(if x7=1 then(some (x8==(-1))) else(some false))) else(some false)) else(if t256=5 then(jF.j3 k x7 x8 x9 t256 (t256==5)) else(if t256=9 then(jF.j3 k x7 x8 x9 t256 (t256==9)) else(if t256=10 then(jF.j3 k x7 x8 x9 t256 (t256==10)) else(if t256=11 then(jF.j3 k x7 x8 x9 t256 (t256==11)) else(jF.j3 k x7 x8 x9 t256 (t256==12)))))))))
def jF.j3:Nat->Int->Int->Bool->Int->Bool->Option (Bool)
 | 0,_,_,_,_,_=>none
 | k+1,x7,x8,x9,x53,x85=>if x85=true then(if x9=true then(if x8>=0 then(some true) else(some (x7==0))) else(some false)) else(if x53=8 then(some x9) else(if x53=14 then(if x9=true then(if x7=0 then(some true) else(some (x8==0))) else(some false)) else(if x53=15 then(if x9=true then(if x7=1 then(some (x8 != 0)) else(some false)) else(some false)) else(some false))))
end
def jF.f (k:Nat) (a0:Int) (a1:Int) (a2:Int):Option (Bool):=if a1<0 then(jF.j0 k a0 a1 a2 true) else(if a1>80 then(jF.j0 k a0 a1 a2 true) else(if a2<0 then(jF.j0 k a0 a1 a2 true) else(if a2>80 then(jF.j0 k a0 a1 a2 true) else(jF.j0 k a0 a1 a2 (a1==a2)))))
theorem jF.mono_l:∀k,(∀y0 y1 y2 y3,LeO (jF.j0 k y0 y1 y2 y3) (jF.j0 (k+1) y0 y1 y2 y3))/\(∀y0 y1 y2,LeO (jF.j1 k y0 y1 y2) (jF.j1 (k+1) y0 y1 y2))/\(∀y0 y1 y2 y3,LeO (jF.j2 k y0 y1 y2 y3) (jF.j2 (k+1) y0 y1 y2 y3))/\(∀y0 y1 y2 y3 y4,LeO (jF.j3 k y0 y1 y2 y3 y4) (jF.j3 (k+1) y0 y1 y2 y3 y4))
 | 0=>⟨λ_ _ _ _ r h=>by simp [jF.j0] at h,λ_ _ _ r h=>by simp [jF.j1] at h,λ_ _ _ _ r h=>by simp [jF.j2] at h,λ_ _ _ _ _ r h=>by simp [jF.j3] at h⟩
 | k+1=>by
  obtain⟨ih0,ih1,ih2,ih3⟩:=jF.mono_l k;refine⟨?_,?_,?_,?_⟩
  ·intro y0 y1 y2 y3
   unfold jF.j0
   repeat' first
   | (with_reducible exact ih0 _ _ _ _)
   | (with_reducible exact ih1 _ _ _)
   | (with_reducible exact ih2 _ _ _ _)
   | (with_reducible exact ih3 _ _ _ _ _)
   | (with_reducible exact LeO.refl _)
   | (with_reducible exact LeO.none _)
   | (with_reducible refine LeO.ite ?_ ?_)
   | (with_reducible refine LeO.bind ?_ (λ_=>?_))
   | exact ih0 _ _ _ _
   | exact ih1 _ _ _
   | exact ih2 _ _ _ _
   | exact ih3 _ _ _ _ _
   | exact LeO.none _
   | refine LeO.ite ?_ ?_
   | refine LeO.bind ?_ (λ_=>?_)
  ·intro y0 y1 y2
   unfold jF.j1
   repeat' first
   | (with_reducible exact ih0 _ _ _ _)
   | (with_reducible exact ih1 _ _ _)
   | (with_reducible exact ih2 _ _ _ _)
   | (with_reducible exact ih3 _ _ _ _ _)
   | (with_reducible exact LeO.refl _)
   | (with_reducible exact LeO.none _)
   | (with_reducible refine LeO.ite ?_ ?_)
   | (with_reducible refine LeO.bind ?_ (λ_=>?_))
   | exact ih0 _ _ _ _
   | exact ih1 _ _ _
   | exact ih2 _ _ _ _
   | exact ih3 _ _ _ _ _
   | exact LeO.none _
   | refine LeO.ite ?_ ?_
   | refine LeO.bind ?_ (λ_=>?_)
  ·intro y0 y1 y2 y3
   unfold jF.j2
   repeat' first
   | (with_reducible exact ih0 _ _ _ _)
   | (with_reducible exact ih1 _ _ _)
   | (with_reducible exact ih2 _ _ _ _)
   | (with_reducible exact ih3 _ _ _ _ _)
   | (with_reducible exact LeO.refl _)
   | (with_reducible exact LeO.none _)
   | (with_reducible refine LeO.ite ?_ ?_)
   | (with_reducible refine LeO.bind ?_ (λ_=>?_))
   | exact ih0 _ _ _ _
   | exact ih1 _ _ _
   | exact ih2 _ _ _ _
   | exact ih3 _ _ _ _ _
   | exact LeO.none _
   | refine LeO.ite ?_ ?_
   | refine LeO.bind ?_ (λ_=>?_)
  ·intro y0 y1 y2 y3 y4
   unfold jF.j3
   repeat' first
   | (with_reducible exact ih0 _ _ _ _)
   | (with_reducible exact ih1 _ _ _)
   | (with_reducible exact ih2 _ _ _ _)
   | (with_reducible exact ih3 _ _ _ _ _)
   | (with_reducible exact LeO.refl _)
   | (with_reducible exact LeO.none _)
   | (with_reducible refine LeO.ite ?_ ?_)
   | (with_reducible refine LeO.bind ?_ (λ_=>?_))
   | exact ih0 _ _ _ _
   | exact ih1 _ _ _
   | exact ih2 _ _ _ _
   | exact ih3 _ _ _ _ _
   | exact LeO.none _
   | refine LeO.ite ?_ ?_
   | refine LeO.bind ?_ (λ_=>?_)
theorem jF.mono:∀a0 a1 a2 k,LeO (jF.f k a0 a1 a2) (jF.f (k+1) a0 a1 a2):=by
 intro a0 a1 a2 k;obtain⟨ih0,ih1,ih2,ih3⟩:=jF.mono_l k;unfold jF.f
 repeat' first
   | (with_reducible exact ih0 _ _ _ _)
   | (with_reducible exact ih1 _ _ _)
   | (with_reducible exact ih2 _ _ _ _)
   | (with_reducible exact ih3 _ _ _ _ _)
   | (with_reducible exact LeO.refl _)
   | (with_reducible exact LeO.none _)
   | (with_reducible refine LeO.ite ?_ ?_)
   | (with_reducible refine LeO.bind ?_ (λ_=>?_))
   | exact ih0 _ _ _ _
   | exact ih1 _ _ _
   | exact ih2 _ _ _ _
   | exact ih3 _ _ _ _ _
   | exact LeO.none _
   | refine LeO.ite ?_ ?_
   | refine LeO.bind ?_ (λ_=>?_)
theorem jF.calls (k:Nat) (a0:Int) (a1:Int) (a2:Int) (r:Bool) (w:World) (h:jF.f k a0 a1 a2=some r):
  Calls Tryz.prog 106 #[.int .i64 a0,.int .i64 a1,.int .i64 a2] w λe w'=>e=.returned (.bool r)/\Drawn0 w w':=by
 have H:(if a1<0 then(jF.j0 k a0 a1 a2 true) else(if a1>80 then(jF.j0 k a0 a1 a2 true) else(if a2<0 then(jF.j0 k a0 a1 a2 true) else(if a2>80 then(jF.j0 k a0 a1 a2 true) else(jF.j0 k a0 a1 a2 (a1==a2))))))=some r:=h;clear h;have HC4:=qA H;clear H;go_enter Tryz.func106,Tryz.ntmps106;go_upto_region 1 with(fail);go_cut [28] (λv28 wc=>∃(kq:Nat) (x28_3:Bool),v28=.bool x28_3/\Aside0 (jF.j0 kq a0 a1 a2 x28_3=some r)/\Aside0 (kq<=k)/\Drawn0 w wc)
 case first=>
  have H:=HC4.out;clear HC4
  by_cases c5:a1<0
  ·rw[if_pos c5] at H
   have c5b0:decide (a1<0)=true:=decide_eq_true c5;clear c5
   (first|rw[c5b0]|(simp only[zP,zd];rw[c5b0])|skip)
   have H':=qA H;clear H;go_wp2;go_meet
   case rel=>exact⟨_,(true),(by first|rfl|(simp;done)|(simp [*];done)),H',⟨by first|omega|exact Nat.le_refl _⟩,by repeat (first|exact Drawn0.refl _|apply Drawn0.step)⟩
  ·rw[if_neg c5] at H
   have c5b0:decide (a1<0)=false:=decide_eq_false c5;clear c5
   (first|rw[c5b0]|(simp only[zP,zd];rw[c5b0])|skip)
   by_cases c6:a1>80
   ·rw[if_pos c6] at H
    have c6b0:decide (80<a1)=true:=decide_eq_true c6;clear c6;have H':=qA H;clear H;go_wp2;go_meet
    case rel=>exact⟨_,(true),(by first|rfl|(simp;done)|(simp [*];done)),H',⟨by first|omega|exact Nat.le_refl _⟩,by repeat (first|exact Drawn0.refl _|apply Drawn0.step)⟩
   ·rw[if_neg c6] at H
    have c6b0:decide (80<a1)=false:=decide_eq_false c6;clear c6
    by_cases c7:a2<0
    ·rw[if_pos c7] at H
     have c7b0:decide (a2<0)=true:=decide_eq_true c7;clear c7;have H':=qA H;clear H;go_wp2;go_meet
     case rel=>exact⟨_,(true),(by first|rfl|(simp;done)|(simp [*];done)),H',⟨by first|omega|exact Nat.le_refl _⟩,by repeat (first|exact Drawn0.refl _|apply Drawn0.step)⟩
    ·rw[if_neg c7] at H
     have c7b0:decide (a2<0)=false:=decide_eq_false c7;clear c7
     by_cases c8:a2>80
     ·rw[if_pos c8] at H
      have c8b0:decide (80<a2)=true:=decide_eq_true c8;clear c8;have H':=qA H;clear H;go_wp2;go_meet
      case rel=>exact⟨_,(true),(by first|rfl|(simp;done)|(simp [*];done)),H',⟨by first|omega|exact Nat.le_refl _⟩,by repeat (first|exact Drawn0.refl _|apply Drawn0.step)⟩
     ·rw[if_neg c8] at H
      have c8b0:decide (80<a2)=false:=decide_eq_false c8;clear c8;have H':=qA H;clear H;go_wp2;go_meet
      case rel=>exact⟨_,((a1==a2)),(by first|rfl|(simp;done)|(simp [*];done)),H',⟨by first|omega|exact Nat.le_refl _⟩,by repeat (first|exact Drawn0.refl _|apply Drawn0.step)⟩
 case rest=>
  clear HC4
  try clear c1
  try clear p2
  try clear c5
  try clear c5b0
  try clear c6
  try clear c6b0
  try clear c7
  try clear c7b0
  try clear c8
  try clear c8b0
  obtain⟨kq,x28_3,rfl,HA,HJ3,⟨mc3,rfl⟩⟩:=hcut
  cases kq with
  | zero=>exact absurd HA.out (by simp [jF.j0])
  | succ kj3=>
   have H:=HA.out;clear HA;simp only[jF.j0] at H
   by_cases c9:x28_3=true
   ·subst c9
    have H1:(some false)=some r:=by rw[if_pos rfl] at H;exact H
    clear H;have H:=H1;clear H1;obtain rfl:=Option.some.inj H;go_wp2;go_ret;exact⟨by first|rfl|(simp;done)|(simp [*];done),by repeat (first|exact Drawn0.refl _|apply Drawn0.step)⟩
   ·replace c9:=Bool.eq_false_iff.mpr c9
    subst c9
    have H1:((yA.f (wrap64 ((wrap64 (Int.tdiv a2 9))-(wrap64 (Int.tdiv a1 9))))).bind λt253=>((jm.f a0).bind λt254=>(if t254=1 then(jF.j1 kj3 a0 t253 (wrap64 (-(wrap64 ((Int.tmod a1 9)-(Int.tmod a2 9)))))) else(jF.j1 kj3 a0 t253 (wrap64 ((Int.tmod a1 9)-(Int.tmod a2 9)))))))=some r:=by rw[if_neg (show ¬(false=true) by decide)] at H;exact H
    clear H;have H:=H1;clear H1;replace H:=Option.bind_eq_some_iff.mp H;obtain⟨t253,A100,H⟩:=H;replace H:((jm.f a0).bind λt254=>(if t254=1 then(jF.j1 kj3 a0 t253 (wrap64 (-(wrap64 ((Int.tmod a1 9)-(Int.tmod a2 9)))))) else(jF.j1 kj3 a0 t253 (wrap64 ((Int.tmod a1 9)-(Int.tmod a2 9))))))=some r:=H;have A10:=qA A100;clear A100;replace H:=Option.bind_eq_some_iff.mp H;obtain⟨t254,A110,H⟩:=H;replace H:(if t254=1 then(jF.j1 kj3 a0 t253 (wrap64 (-(wrap64 ((Int.tmod a1 9)-(Int.tmod a2 9)))))) else(jF.j1 kj3 a0 t253 (wrap64 ((Int.tmod a1 9)-(Int.tmod a2 9)))))=some r:=H;have A11:=qA A110;clear A110;have HC12:=qA H;clear H
    go_upto_if 42 with(first|((with_reducible refine jV (f:=129) rfl ?_);refine zB (some 34) rfl rfl Tryz.func129 (by kernel_rfl) rfl #[.int .i64 (wrap64 ((wrap64 (Int.tdiv a2 9))-(wrap64 (Int.tdiv a1 9))))] rfl (by (try simp only[List.map_toArray,List.map_cons,List.map_nil]);first|done|rfl|(simp only[List.length_drop,List.length_take];rfl)) ?_;(with_reducible refine(yA.calls (wrap64 ((wrap64 (Int.tdiv a2 9))-(wrap64 (Int.tdiv a1 9)))) t253 _ A10.out).mono ?_);rintro e w' ⟨rfl,⟨nd,rfl⟩⟩;refine⟨_,rfl,?_⟩)|((with_reducible refine jV (f:=58) rfl ?_);refine zB (some 41) rfl rfl Tryz.func58 (by kernel_rfl) rfl #[.int .i64 a0] rfl (by (try simp only[List.map_toArray,List.map_cons,List.map_nil]);first|done|rfl|(simp only[List.length_drop,List.length_take];rfl)) ?_;(with_reducible refine(jm.calls a0 t254 _ A11.out).mono ?_);rintro e w' ⟨rfl,⟨nd,rfl⟩⟩;refine⟨_,rfl,?_⟩))
    (try simp only[Act.put,List.setIfInBounds_toArray,List.set_cons_zero,List.set_cons_succ])
    go_cut [8] (λv8 wc=>∃(kq:Nat) (x8_11:Int),v8=.int .i64 x8_11/\Aside0 (jF.j1 kq a0 t253 x8_11=some r)/\Aside0 (kq<=kj3)/\Drawn0 w wc)
    case first=>
     have H:=HC12.out;clear HC12
     by_cases c13:t254=1
     ·rw[if_pos c13] at H
      have c13b0:(t254==1)=true:=beq_iff_eq.mpr c13;have c13b1:(t254 != 1)=false:=bne_eq_false_iff_eq.mpr c13;clear c13
      (first|rw[c13b0]|(simp only[zP,zd];rw[c13b0])|skip)
      have H':=qA H;clear H;go_wp2;go_meet
      case rel=>exact⟨_,(wrap64 (-(wrap64 ((Int.tmod a1 9)-(Int.tmod a2 9))))),(by first|rfl|(simp;done)|(simp [*];done)),H',⟨by have:=HJ3.out;first|omega|exact Nat.le_refl _⟩,by repeat (first|exact Drawn0.refl _|apply Drawn0.step)⟩
     ·rw[if_neg c13] at H
      have c13b0:(t254==1)=false:=beq_eq_false_iff_ne.mpr c13;have c13b1:(t254 != 1)=true:=bne_iff_ne.mpr c13
      (first|rw[c13b0]|(simp only[zP,zd];rw[c13b0])|skip)
      have H':=qA H;clear H;go_wp2;go_meet
      case rel=>exact⟨_,(wrap64 ((Int.tmod a1 9)-(Int.tmod a2 9))),(by first|rfl|(simp;done)|(simp [*];done)),H',⟨by have:=HJ3.out;first|omega|exact Nat.le_refl _⟩,by repeat (first|exact Drawn0.refl _|apply Drawn0.step)⟩
    case rest=>
     clear HC12
     try clear c1
     try clear p2
     try clear c3
     try clear c5
     try clear c5b0
     try clear c6
     try clear c6b0
     try clear p6
     try clear c7
     try clear c7b0
     try clear c8
     try clear c8b0
     try clear c9
     try clear c10
     try clear c12
     try clear c13
     try clear c13b0
     try clear c13b1
     try clear p2
     obtain⟨kq,x8_11,rfl,HA,HJ11,⟨mc11,rfl⟩⟩:=hcut
     cases kq with
     | zero=>exact absurd HA.out (by simp [jF.j1])
     | succ kj11=>
      have H:=HA.out;clear HA;simp only[jF.j1] at H;have HC14:=qA H;clear H;go_upto_region 7 with(fail);go_cut [9] (λv9 wc=>∃(kq:Nat) (x9_13:Bool),v9=.bool x9_13/\Aside0 (jF.j2 kq a0 t253 x8_11 x9_13=some r)/\Aside0 (kq<=kj11)/\Drawn0 w wc)
      case first=>
       have H:=HC14.out;clear HC14
       by_cases c15:t253<=1
       ·rw[if_pos c15] at H
        have c15b0:decide (t253<=1)=true:=decide_eq_true c15;clear c15
        (first|rw[c15b0]|(simp only[zP,zd];rw[c15b0])|skip)
        replace H:=Option.bind_eq_some_iff.mp H;obtain⟨t255,A160,H⟩:=H;replace H:(jF.j2 kj11 a0 t253 x8_11 (decide (t255<=1)))=some r:=H;have A16:=qA A160;clear A160;have H':=qA H;clear H
        go_wp2_with (first|(go_at_call 129;(with_reducible refine(yA.calls x8_11 t255 _ A16.out).mono ?_);rintro e w' ⟨rfl,⟨nd,rfl⟩⟩))
        go_meet
        case rel=>exact⟨_,(decide (t255<=1)),(by first|rfl|(simp;done)|(simp [*];done)),H',⟨by have:=HJ3.out;have:=HJ11.out;first|omega|exact Nat.le_refl _⟩,by repeat (first|exact Drawn0.refl _|apply Drawn0.step)⟩
       ·rw[if_neg c15] at H
        have c15b0:decide (t253<=1)=false:=decide_eq_false c15;clear c15
        (first|rw[c15b0]|(simp only[zP,zd];rw[c15b0])|skip)
        have H':=qA H;clear H;go_wp2;go_meet
        case rel=>exact⟨_,(false),(by first|rfl|(simp;done)|(simp [*];done)),H',⟨by have:=HJ3.out;have:=HJ11.out;first|omega|exact Nat.le_refl _⟩,by repeat (first|exact Drawn0.refl _|apply Drawn0.step)⟩
      case rest=>
       clear HC14
       try clear c1
       try clear p2
       try clear c3
       try clear c5
       try clear c5b0
       try clear c6
       try clear c6b0
       try clear p6
       try clear c7
       try clear c7b0
       try clear c8
       try clear c8b0
       try clear c9
       try clear c10
       try clear c11
       try clear c12
       try clear c13
       try clear c13b0
       try clear c13b1
       try clear c15
       try clear c15b0
       try clear p2
       try clear p6
       obtain⟨kq,x9_13,rfl,HA,HJ13,⟨mc13,rfl⟩⟩:=hcut
       cases kq with
       | zero=>exact absurd HA.out (by simp [jF.j2])
       | succ kj13=>
        have H:=HA.out;clear HA;simp only[jF.j2] at H;replace H:=Option.bind_eq_some_iff.mp H;obtain⟨t256,A170,H⟩:=H;replace H:(if t256=1 then(if t253=0 then(some (x8_11==1)) else(some false)) else(if t256=3 then(if t253=1 then(some (x8_11==2)) else(some false)) else(if t256=4 then(if x9_13=true then(if x8_11=1 then(some true) else(if t253=1 then(some (x8_11==(-1))) else(some false))) else(some false)) else(if t256=5 then(jF.j3 kj13 t253 x8_11 x9_13 t256 (t256==5)) else(if t256=9 then(jF.j3 kj13 t253 x8_11 x9_13 t256 (t256==9)) else(if t256=10 then(jF.j3 kj13 t253 x8_11 x9_13 t256 (t256==10)) else(if t256=11 then(jF.j3 kj13 t253 x8_11 x9_13 t256 (t256==11)) else(jF.j3 kj13 t253 x8_11 x9_13 t256 (t256==12)))))))))=some r:=H;have A17:=qA A170;clear A170
        by_cases c18:t256=1
        ·rw[if_pos c18] at H
         have c18b0:(t256==1)=true:=beq_iff_eq.mpr c18;have c18b1:(t256 != 1)=false:=bne_eq_false_iff_eq.mpr c18;clear c18
         by_cases c19:t253=0
         ·rw[if_pos c19] at H
          have c19b0:(t253==0)=true:=beq_iff_eq.mpr c19;have c19b1:(t253 != 0)=false:=bne_eq_false_iff_eq.mpr c19;clear c19;obtain rfl:=Option.some.inj H
          go_wp2_with (first|((with_reducible refine jV (f:=57) rfl ?_);refine zB (some 53) rfl rfl Tryz.func57 (by kernel_rfl) rfl #[.int .i64 a0] rfl (by (try simp only[List.map_toArray,List.map_cons,List.map_nil]);first|done|rfl|(simp only[List.length_drop,List.length_take];rfl)) ?_;(with_reducible refine(jc.calls a0 t256 _ A17.out).mono ?_);rintro e w' ⟨rfl,⟨nd,rfl⟩⟩;refine⟨_,rfl,?_⟩))
          go_ret;exact⟨by first|rfl|(simp;done)|(simp [*];done),by repeat (first|exact Drawn0.refl _|apply Drawn0.step)⟩
         ·rw[if_neg c19] at H
          have c19b0:(t253==0)=false:=beq_eq_false_iff_ne.mpr c19;have c19b1:(t253 != 0)=true:=bne_iff_ne.mpr c19;obtain rfl:=Option.some.inj H
          go_wp2_with (first|((with_reducible refine jV (f:=57) rfl ?_);refine zB (some 53) rfl rfl Tryz.func57 (by kernel_rfl) rfl #[.int .i64 a0] rfl (by (try simp only[List.map_toArray,List.map_cons,List.map_nil]);first|done|rfl|(simp only[List.length_drop,List.length_take];rfl)) ?_;(with_reducible refine(jc.calls a0 t256 _ A17.out).mono ?_);rintro e w' ⟨rfl,⟨nd,rfl⟩⟩;refine⟨_,rfl,?_⟩))
          go_ret;exact⟨by first|rfl|(simp;done)|(simp [*];done),by repeat (first|exact Drawn0.refl _|apply Drawn0.step)⟩
        ·rw[if_neg c18] at H
         have c18b0:(t256==1)=false:=beq_eq_false_iff_ne.mpr c18;have c18b1:(t256 != 1)=true:=bne_iff_ne.mpr c18
         by_cases c20:t256=3
         ·rw[if_pos c20] at H
          have c20b0:(t256==3)=true:=beq_iff_eq.mpr c20;have c20b1:(t256 != 3)=false:=bne_eq_false_iff_eq.mpr c20;clear c20
          by_cases c21:t253=1
          ·rw[if_pos c21] at H
           have c21b0:(t253==1)=true:=beq_iff_eq.mpr c21;have c21b1:(t253 != 1)=false:=bne_eq_false_iff_eq.mpr c21;clear c21;obtain rfl:=Option.some.inj H
           go_wp2_with (first|((with_reducible refine jV (f:=57) rfl ?_);refine zB (some 53) rfl rfl Tryz.func57 (by kernel_rfl) rfl #[.int .i64 a0] rfl (by (try simp only[List.map_toArray,List.map_cons,List.map_nil]);first|done|rfl|(simp only[List.length_drop,List.length_take];rfl)) ?_;(with_reducible refine(jc.calls a0 t256 _ A17.out).mono ?_);rintro e w' ⟨rfl,⟨nd,rfl⟩⟩;refine⟨_,rfl,?_⟩))
           go_ret;exact⟨by first|rfl|(simp;done)|(simp [*];done),by repeat (first|exact Drawn0.refl _|apply Drawn0.step)⟩
          ·rw[if_neg c21] at H
           have c21b0:(t253==1)=false:=beq_eq_false_iff_ne.mpr c21;have c21b1:(t253 != 1)=true:=bne_iff_ne.mpr c21;obtain rfl:=Option.some.inj H
           go_wp2_with (first|((with_reducible refine jV (f:=57) rfl ?_);refine zB (some 53) rfl rfl Tryz.func57 (by kernel_rfl) rfl #[.int .i64 a0] rfl (by (try simp only[List.map_toArray,List.map_cons,List.map_nil]);first|done|rfl|(simp only[List.length_drop,List.length_take];rfl)) ?_;(with_reducible refine(jc.calls a0 t256 _ A17.out).mono ?_);rintro e w' ⟨rfl,⟨nd,rfl⟩⟩;refine⟨_,rfl,?_⟩))
           go_ret;exact⟨by first|rfl|(simp;done)|(simp [*];done),by repeat (first|exact Drawn0.refl _|apply Drawn0.step)⟩
         ·rw[if_neg c20] at H
          have c20b0:(t256==3)=false:=beq_eq_false_iff_ne.mpr c20;have c20b1:(t256 != 3)=true:=bne_iff_ne.mpr c20
          by_cases c22:t256=4
          ·rw[if_pos c22] at H
           have c22b0:(t256==4)=true:=beq_iff_eq.mpr c22;have c22b1:(t256 != 4)=false:=bne_eq_false_iff_eq.mpr c22;clear c22
           by_cases c23:x9_13=true
           ·subst c23
            have H1:(if x8_11=1 then(some true) else(if t253=1 then(some (x8_11==(-1))) else(some false)))=some r:=by rw[if_pos rfl] at H;exact H
            clear H;have H:=H1;clear H1
            by_cases c24:x8_11=1
            ·rw[if_pos c24] at H
             have c24b0:(x8_11==1)=true:=beq_iff_eq.mpr c24;have c24b1:(x8_11 != 1)=false:=bne_eq_false_iff_eq.mpr c24;clear c24;obtain rfl:=Option.some.inj H
             go_wp2_with (first|((with_reducible refine jV (f:=57) rfl ?_);refine zB (some 53) rfl rfl Tryz.func57 (by kernel_rfl) rfl #[.int .i64 a0] rfl (by (try simp only[List.map_toArray,List.map_cons,List.map_nil]);first|done|rfl|(simp only[List.length_drop,List.length_take];rfl)) ?_;(with_reducible refine(jc.calls a0 t256 _ A17.out).mono ?_);rintro e w' ⟨rfl,⟨nd,rfl⟩⟩;refine⟨_,rfl,?_⟩))
             go_ret;exact⟨by first|rfl|(simp;done)|(simp [*];done),by repeat (first|exact Drawn0.refl _|apply Drawn0.step)⟩
            ·rw[if_neg c24] at H
             have c24b0:(x8_11==1)=false:=beq_eq_false_iff_ne.mpr c24;have c24b1:(x8_11 != 1)=true:=bne_iff_ne.mpr c24
             by_cases c25:t253=1
             ·rw[if_pos c25] at H
              have c25b0:(t253==1)=true:=beq_iff_eq.mpr c25;have c25b1:(t253 != 1)=false:=bne_eq_false_iff_eq.mpr c25;clear c25;obtain rfl:=Option.some.inj H
              go_wp2_with (first|((with_reducible refine jV (f:=57) rfl ?_);refine zB (some 53) rfl rfl Tryz.func57 (by kernel_rfl) rfl #[.int .i64 a0] rfl (by (try simp only[List.map_toArray,List.map_cons,List.map_nil]);first|done|rfl|(simp only[List.length_drop,List.length_take];rfl)) ?_;(with_reducible refine(jc.calls a0 t256 _ A17.out).mono ?_);rintro e w' ⟨rfl,⟨nd,rfl⟩⟩;refine⟨_,rfl,?_⟩))
              go_ret;exact⟨by first|rfl|(simp;done)|(simp [*];done),by repeat (first|exact Drawn0.refl _|apply Drawn0.step)⟩
             ·rw[if_neg c25] at H
              have c25b0:(t253==1)=false:=beq_eq_false_iff_ne.mpr c25;have c25b1:(t253 != 1)=true:=bne_iff_ne.mpr c25;obtain rfl:=Option.some.inj H
              go_wp2_with (first|((with_reducible refine jV (f:=57) rfl ?_);refine zB (some 53) rfl rfl Tryz.func57 (by kernel_rfl) rfl #[.int .i64 a0] rfl (by (try simp only[List.map_toArray,List.map_cons,List.map_nil]);first|done|rfl|(simp only[List.length_drop,List.length_take];rfl)) ?_;(with_reducible refine(jc.calls a0 t256 _ A17.out).mono ?_);rintro e w' ⟨rfl,⟨nd,rfl⟩⟩;refine⟨_,rfl,?_⟩))
              go_ret;exact⟨by first|rfl|(simp;done)|(simp [*];done),by repeat (first|exact Drawn0.refl _|apply Drawn0.step)⟩
           ·replace c23:=Bool.eq_false_iff.mpr c23
            subst c23
            have H1:(some false)=some r:=by rw[if_neg (show ¬(false=true) by decide)] at H;exact H
            clear H;have H:=H1;clear H1;obtain rfl:=Option.some.inj H
            go_wp2_with (first|((with_reducible refine jV (f:=57) rfl ?_);refine zB (some 53) rfl rfl Tryz.func57 (by kernel_rfl) rfl #[.int .i64 a0] rfl (by (try simp only[List.map_toArray,List.map_cons,List.map_nil]);first|done|rfl|(simp only[List.length_drop,List.length_take];rfl)) ?_;(with_reducible refine(jc.calls a0 t256 _ A17.out).mono ?_);rintro e w' ⟨rfl,⟨nd,rfl⟩⟩;refine⟨_,rfl,?_⟩))
            go_ret;exact⟨by first|rfl|(simp;done)|(simp [*];done),by repeat (first|exact Drawn0.refl _|apply Drawn0.step)⟩
          ·rw[if_neg c22] at H
           have c22b0:(t256==4)=false:=beq_eq_false_iff_ne.mpr c22;have c22b1:(t256 != 4)=true:=bne_iff_ne.mpr c22;have HC26:=qA H;clear H
           go_upto_if 85 with(first|((with_reducible refine jV (f:=57) rfl ?_);refine zB (some 53) rfl rfl Tryz.func57 (by kernel_rfl) rfl #[.int .i64 a0] rfl (by (try simp only[List.map_toArray,List.map_cons,List.map_nil]);first|done|rfl|(simp only[List.length_drop,List.length_take];rfl)) ?_;(with_reducible refine(jc.calls a0 t256 _ A17.out).mono ?_);rintro e w' ⟨rfl,⟨nd,rfl⟩⟩;refine⟨_,rfl,?_⟩))
           (try simp only[Act.put,List.setIfInBounds_toArray,List.set_cons_zero,List.set_cons_succ])
           go_cut [85] (λv85 wc=>∃(kq:Nat) (x85_25:Bool),v85=.bool x85_25/\Aside0 (jF.j3 kq t253 x8_11 x9_13 t256 x85_25=some r)/\Aside0 (kq<=kj13)/\Drawn0 w wc)
           case first=>
            have H:=HC26.out;clear HC26
            by_cases c27:t256=5
            ·rw[if_pos c27] at H
             have c27b0:(t256==5)=true:=beq_iff_eq.mpr c27;have c27b1:(t256 != 5)=false:=bne_eq_false_iff_eq.mpr c27;clear c27
             (first|rw[c27b0]|(simp only[zP,zd];rw[c27b0])|skip)
             have H':=qA H;clear H;go_wp2;go_meet
             case rel=>exact⟨_,((t256==5)),(by first|rfl|(simp;done)|(simp [*];done)),H',⟨by have:=HJ3.out;have:=HJ11.out;have:=HJ13.out;first|omega|exact Nat.le_refl _⟩,by repeat (first|exact Drawn0.refl _|apply Drawn0.step)⟩
            ·rw[if_neg c27] at H
             have c27b0:(t256==5)=false:=beq_eq_false_iff_ne.mpr c27;have c27b1:(t256 != 5)=true:=bne_iff_ne.mpr c27
             (first|rw[c27b0]|(simp only[zP,zd];rw[c27b0])|skip)
             by_cases c28:t256=9
             ·rw[if_pos c28] at H
              have c28b0:(t256==9)=true:=beq_iff_eq.mpr c28;have c28b1:(t256 != 9)=false:=bne_eq_false_iff_eq.mpr c28;clear c28;have H':=qA H;clear H;go_wp2;go_meet
              case rel=>exact⟨_,((t256==9)),(by first|rfl|(simp;done)|(simp [*];done)),H',⟨by have:=HJ3.out;have:=HJ11.out;have:=HJ13.out;first|omega|exact Nat.le_refl _⟩,by repeat (first|exact Drawn0.refl _|apply Drawn0.step)⟩
             ·rw[if_neg c28] at H
              have c28b0:(t256==9)=false:=beq_eq_false_iff_ne.mpr c28;have c28b1:(t256 != 9)=true:=bne_iff_ne.mpr c28
              by_cases c29:t256=10
              ·rw[if_pos c29] at H
               have c29b0:(t256==10)=true:=beq_iff_eq.mpr c29;have c29b1:(t256 != 10)=false:=bne_eq_false_iff_eq.mpr c29;clear c29;have H':=qA H;clear H;go_wp2;go_meet
               case rel=>exact⟨_,((t256==10)),(by first|rfl|(simp;done)|(simp [*];done)),H',⟨by have:=HJ3.out;have:=HJ11.out;have:=HJ13.out;first|omega|exact Nat.le_refl _⟩,by repeat (first|exact Drawn0.refl _|apply Drawn0.step)⟩
              ·rw[if_neg c29] at H
               have c29b0:(t256==10)=false:=beq_eq_false_iff_ne.mpr c29;have c29b1:(t256 != 10)=true:=bne_iff_ne.mpr c29
               by_cases c30:t256=11
               ·rw[if_pos c30] at H
                have c30b0:(t256==11)=true:=beq_iff_eq.mpr c30;have c30b1:(t256 != 11)=false:=bne_eq_false_iff_eq.mpr c30;clear c30;have H':=qA H;clear H;go_wp2;go_meet
                case rel=>exact⟨_,((t256==11)),(by first|rfl|(simp;done)|(simp [*];done)),H',⟨by have:=HJ3.out;have:=HJ11.out;have:=HJ13.out;first|omega|exact Nat.le_refl _⟩,by repeat (first|exact Drawn0.refl _|apply Drawn0.step)⟩
               ·rw[if_neg c30] at H
                have c30b0:(t256==11)=false:=beq_eq_false_iff_ne.mpr c30;have c30b1:(t256 != 11)=true:=bne_iff_ne.mpr c30;have H':=qA H;clear H;go_wp2;go_meet
                case rel=>exact⟨_,((t256==12)),(by first|rfl|(simp;done)|(simp [*];done)),H',⟨by have:=HJ3.out;have:=HJ11.out;have:=HJ13.out;first|omega|exact Nat.le_refl _⟩,by repeat (first|exact Drawn0.refl _|apply Drawn0.step)⟩
           case rest=>
            clear HC26
            try clear c1
            try clear c2
            try clear p2
            try clear c3
            try clear c5
            try clear c5b0
            try clear c6
            try clear c6b0
            try clear p6
            try clear c7
            try clear c7b0
            try clear c8
            try clear c8b0
            try clear c9
            try clear c10
            try clear c11
            try clear c12
            try clear c13
            try clear c13b0
            try clear c13b1
            try clear c15
            try clear c15b0
            try clear c18
            try clear c18b0
            try clear c18b1
            try clear c19
            try clear c19b0
            try clear c19b1
            try clear c20
            try clear c20b0
            try clear c20b1
            try clear c21
            try clear c21b0
            try clear c21b1
            try clear c22
            try clear c22b0
            try clear c22b1
            try clear c23
            try clear c24
            try clear c24b0
            try clear c24b1
            try clear c25
            try clear c25b0
            try clear c25b1
            try clear c27
            try clear c27b0
            try clear c27b1
            try clear c28
            try clear c28b0
            try clear c28b1
            try clear c29
            try clear c29b0
            try clear c29b1
            try clear c30
            try clear c30b0
            try clear c30b1
            try clear p2
            try clear p6
            obtain⟨kq,x85_25,rfl,HA,HJ25,⟨mc25,rfl⟩⟩:=hcut
            cases kq with
            | zero=>exact absurd HA.out (by simp [jF.j3])
            | succ kj25=>
             have H:=HA.out;clear HA;simp only[jF.j3] at H
             by_cases c31:x85_25=true
             ·subst c31
              have H1:(if x9_13=true then(if x8_11>=0 then(some true) else(some (t253==0))) else(some false))=some r:=by rw[if_pos rfl] at H;exact H
              clear H;have H:=H1;clear H1
              by_cases c32:x9_13=true
              ·subst c32
               have H1:(if x8_11>=0 then(some true) else(some (t253==0)))=some r:=by rw[if_pos rfl] at H;exact H
               clear H;have H:=H1;clear H1
               by_cases c33:x8_11>=0
               ·rw[if_pos c33] at H
                have c33b0:decide (0<=x8_11)=true:=decide_eq_true c33;clear c33;obtain rfl:=Option.some.inj H;go_wp2;go_ret;exact⟨by first|rfl|(simp;done)|(simp [*];done),by repeat (first|exact Drawn0.refl _|apply Drawn0.step)⟩
               ·rw[if_neg c33] at H
                have c33b0:decide (0<=x8_11)=false:=decide_eq_false c33;clear c33;obtain rfl:=Option.some.inj H;go_wp2;go_ret;exact⟨by first|rfl|(simp;done)|(simp [*];done),by repeat (first|exact Drawn0.refl _|apply Drawn0.step)⟩
              ·replace c32:=Bool.eq_false_iff.mpr c32
               subst c32
               have H1:(some false)=some r:=by rw[if_neg (show ¬(false=true) by decide)] at H;exact H
               clear H;have H:=H1;clear H1;obtain rfl:=Option.some.inj H;go_wp2;go_ret;exact⟨by first|rfl|(simp;done)|(simp [*];done),by repeat (first|exact Drawn0.refl _|apply Drawn0.step)⟩
             ·replace c31:=Bool.eq_false_iff.mpr c31
              subst c31
              have H1:(if t256=8 then(some x9_13) else(if t256=14 then(if x9_13=true then(if t253=0 then(some true) else(some (x8_11==0))) else(some false)) else(if t256=15 then(if x9_13=true then(if t253=1 then(some (x8_11 != 0)) else(some false)) else(some false)) else(some false))))=some r:=by rw[if_neg (show ¬(false=true) by decide)] at H;exact H
              clear H;have H:=H1;clear H1
              by_cases c34:t256=8
              ·rw[if_pos c34] at H
               have c34b0:(t256==8)=true:=beq_iff_eq.mpr c34;have c34b1:(t256 != 8)=false:=bne_eq_false_iff_eq.mpr c34;clear c34;obtain rfl:=Option.some.inj H;go_wp2;go_ret;exact⟨by first|rfl|(simp;done)|(simp [*];done),by repeat (first|exact Drawn0.refl _|apply Drawn0.step)⟩
              ·rw[if_neg c34] at H
               have c34b0:(t256==8)=false:=beq_eq_false_iff_ne.mpr c34;have c34b1:(t256 != 8)=true:=bne_iff_ne.mpr c34
               by_cases c35:t256=14
               ·rw[if_pos c35] at H
                have c35b0:(t256==14)=true:=beq_iff_eq.mpr c35;have c35b1:(t256 != 14)=false:=bne_eq_false_iff_eq.mpr c35;clear c35
                by_cases c36:x9_13=true
                ·subst c36
                 have H1:(if t253=0 then(some true) else(some (x8_11==0)))=some r:=by rw[if_pos rfl] at H;exact H
                 clear H;have H:=H1;clear H1
                 by_cases c37:t253=0
                 ·rw[if_pos c37] at H
                  have c37b0:(t253==0)=true:=beq_iff_eq.mpr c37;have c37b1:(t253 != 0)=false:=bne_eq_false_iff_eq.mpr c37;clear c37;obtain rfl:=Option.some.inj H;go_wp2;go_ret;exact⟨by first|rfl|(simp;done)|(simp [*];done),by repeat (first|exact Drawn0.refl _|apply Drawn0.step)⟩
                 ·rw[if_neg c37] at H
                  have c37b0:(t253==0)=false:=beq_eq_false_iff_ne.mpr c37;have c37b1:(t253 != 0)=true:=bne_iff_ne.mpr c37;obtain rfl:=Option.some.inj H;go_wp2;go_ret;exact⟨by first|rfl|(simp;done)|(simp [*];done),by repeat (first|exact Drawn0.refl _|apply Drawn0.step)⟩
                ·replace c36:=Bool.eq_false_iff.mpr c36
                 subst c36
                 have H1:(some false)=some r:=by rw[if_neg (show ¬(false=true) by decide)] at H;exact H
                 clear H;have H:=H1;clear H1;obtain rfl:=Option.some.inj H;go_wp2;go_ret;exact⟨by first|rfl|(simp;done)|(simp [*];done),by repeat (first|exact Drawn0.refl _|apply Drawn0.step)⟩
               ·rw[if_neg c35] at H
                have c35b0:(t256==14)=false:=beq_eq_false_iff_ne.mpr c35;have c35b1:(t256 != 14)=true:=bne_iff_ne.mpr c35
                by_cases c38:t256=15
                ·rw[if_pos c38] at H
                 have c38b0:(t256==15)=true:=beq_iff_eq.mpr c38;have c38b1:(t256 != 15)=false:=bne_eq_false_iff_eq.mpr c38;clear c38
                 by_cases c39:x9_13=true
                 ·subst c39
                  have H1:(if t253=1 then(some (x8_11 != 0)) else(some false))=some r:=by rw[if_pos rfl] at H;exact H
                  clear H;have H:=H1;clear H1
                  by_cases c40:t253=1
                  ·rw[if_pos c40] at H
                   have c40b0:(t253==1)=true:=beq_iff_eq.mpr c40;have c40b1:(t253 != 1)=false:=bne_eq_false_iff_eq.mpr c40;clear c40;obtain rfl:=Option.some.inj H;go_wp2;go_ret;exact⟨by first|rfl|(simp;done)|(simp [*];done),by repeat (first|exact Drawn0.refl _|apply Drawn0.step)⟩
                  ·rw[if_neg c40] at H
                   have c40b0:(t253==1)=false:=beq_eq_false_iff_ne.mpr c40;have c40b1:(t253 != 1)=true:=bne_iff_ne.mpr c40;obtain rfl:=Option.some.inj H;go_wp2;go_ret;exact⟨by first|rfl|(simp;done)|(simp [*];done),by repeat (first|exact Drawn0.refl _|apply Drawn0.step)⟩
                 ·replace c39:=Bool.eq_false_iff.mpr c39
                  subst c39
                  have H1:(some false)=some r:=by rw[if_neg (show ¬(false=true) by decide)] at H;exact H
                  clear H;have H:=H1;clear H1;obtain rfl:=Option.some.inj H;go_wp2;go_ret;exact⟨by first|rfl|(simp;done)|(simp [*];done),by repeat (first|exact Drawn0.refl _|apply Drawn0.step)⟩
                ·rw[if_neg c38] at H
                 have c38b0:(t256==15)=false:=beq_eq_false_iff_ne.mpr c38;have c38b1:(t256 != 15)=true:=bne_iff_ne.mpr c38;obtain rfl:=Option.some.inj H;go_wp2;go_ret;exact⟨by first|rfl|(simp;done)|(simp [*];done),by repeat (first|exact Drawn0.refl _|apply Drawn0.step)⟩
end Go.Proofs.YtigenhbmgpfffaaGreatDoor.Pa
