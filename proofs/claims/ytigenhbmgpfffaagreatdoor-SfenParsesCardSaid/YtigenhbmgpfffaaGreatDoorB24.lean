import Derived.Test.YtigenhbmgpfffaaGreatDoorB22
import Derived.Test.YtigenhbmgpfffaaGreatDoorB23
import Derived.Test.YtigenhbmgpfffaaGreatDoorB21
set_option maxRecDepth 100000
set_option maxHeartbeats 16000000
namespace Go.Proofs.YtigenhbmgpfffaaGreatDoor.Pa
open Go.RowKit Go.Proofs.YtigenhbmgpfffaaGreatDoorW.PrintWords Go.Proofs.YtigenhbmgpfffaaGreatDoorW.PrintLast Go.Proofs.YtigenhbmgpfffaaGreatDoorW.PrintMore
attribute [local go_sem] yE yC yM yL zo zn yD yB
set_option linter.unusedVariables false
set_option linter.unusedSimpArgs false
attribute [local go_sem high] eqA88 eqA158
def zr.j0:Nat->Int->Bool->Option ((List (S158)))
 | 0,_,_=>none
 | k+1,x3,x8=>if x8=true then(some (([(⟨(-1),(-1)⟩:S158),(⟨1,(-1)⟩:S158),(⟨(-1),1⟩:S158),(⟨1,1⟩:S158)]:List (S158)))) else(if x3=7 then(some (([(⟨0,(-1)⟩:S158),(⟨(-1),0⟩:S158),(⟨1,0⟩:S158),(⟨0,1⟩:S158)]:List (S158)))) else(if x3=15 then(some (([(⟨0,(-1)⟩:S158),(⟨(-1),0⟩:S158),(⟨1,0⟩:S158),(⟨0,1⟩:S158)]:List (S158)))) else(some ([]:List (S158)))))
def zr.f (k:Nat) (a0:Int):Option ((List (S158))):=if a0=2 then(some (([(⟨0,(-1)⟩:S158)]:List (S158)))) else(if a0=6 then(zr.j0 k a0 (a0==6)) else(zr.j0 k a0 (a0==14)))
theorem zr.mono_l:∀k,(∀y0 y1,LeO (zr.j0 k y0 y1) (zr.j0 (k+1) y0 y1))
 | 0=>λ_ _ r h=>by simp [zr.j0] at h
 | k+1=>by
  have ih0:=zr.mono_l k
  ·intro y0 y1
   unfold zr.j0
   repeat' first
   | (with_reducible exact ih0 _ _)
   | (with_reducible exact LeO.refl _)
   | (with_reducible exact LeO.none _)
   | (with_reducible refine LeO.ite ?_ ?_)
   | (with_reducible refine LeO.bind ?_ (λ_=>?_))
   | exact ih0 _ _
   | exact LeO.none _
   | refine LeO.ite ?_ ?_
   | refine LeO.bind ?_ (λ_=>?_)
theorem zr.mono:∀a0 k,LeO (zr.f k a0) (zr.f (k+1) a0):=by
 intro a0 k;have ih0:=zr.mono_l k;unfold zr.f
 repeat' first
   | (with_reducible exact ih0 _ _)
   | (with_reducible exact LeO.refl _)
   | (with_reducible exact LeO.none _)
   | (with_reducible refine LeO.ite ?_ ?_)
   | (with_reducible refine LeO.bind ?_ (λ_=>?_))
   | exact ih0 _ _
   | exact LeO.none _
   | refine LeO.ite ?_ ?_
   | refine LeO.bind ?_ (λ_=>?_)
theorem zr.calls (k:Nat) (a0:Int) (r:List (S158)) (w:World) (h:zr.f k a0=some r):
  Calls Tryz.prog 137 #[.int .i64 a0] w λe w'=>∃v0_:Value,e=.returned (v0_)/\Kd.R k158 158 w' w.heap.size (λ_=>True) v0_ r/\Below w.heap.size w w':=by
 have hu158:=Tryz.underlying158;have HB:=qA (Below.refl w.heap.size w);have H:(if a0=2 then(some (([(⟨0,(-1)⟩:S158)]:List (S158)))) else(if a0=6 then(zr.j0 k a0 (a0==6)) else(zr.j0 k a0 (a0==14))))=some r:=h;clear h
 by_cases c2:a0=2
 ·rw[if_pos c2] at H
  have c2b0:(a0==2)=true:=beq_iff_eq.mpr c2;have c2b1:(a0 != 2)=false:=bne_eq_false_iff_eq.mpr c2;clear c2
  obtain⟨y181,hy181⟩:∃y_:List (S158),y_=(([(⟨0,(-1)⟩:S158)]:List (S158))):=⟨_,rfl⟩
  replace H:(some y181)=some r:=by first|(rw[hy181];with_reducible exact H)|(have H2_:=(Option.bind_some _ _).symm.trans H;rw[hy181];with_reducible exact H2_)|(have H2_:=(Option.bind_some _ _).symm.trans H;with_reducible exact H2_)|with_reducible exact H|(rw[hy181];exact H)|exact H
  have Ny181:=qA hy181;clear hy181;obtain rfl:=Option.some.inj H;go_enter Tryz.func137,Tryz.ntmps137
  go_wp2_with (first|((with_reducible refine jG (N:=7) rfl ?_);refine Kd.R_lit k158 _ 158 ?hg (N:=7) ?hd (xs:=([(⟨0,(-1)⟩:S158)]:List (S158))) (inner:=[.int .i64 0,.int .i64 (-1)]) (ok:=λ_=>True) (okp:=λ_=>True) ?hr ?hp (λ_ hk=>hk) trivial (Below.refl _ _) (Nat.le_refl _) (by simp) ?_;(case hd=>rfl);(case hg=>rfl);(case hr=>first|(go_simp;done)|(go_simp;rfl));(case hp=>exact(Reps.c2 (show Kd.M k158 _ _ _ (⟨0,(-1)⟩:S158) [.int .i64 0,.int .i64 (-1)] from(zV _ _ _ (⟨0,(-1)⟩:S158) )) (Reps.none _ _)));intro v182 w3 ho4 hb hg_ hnew_;clear hg_ hnew_;(first|rw[<- Ny181.out] at ho4|(simp only[Int.reduceToNat] at ho4;rw[<- Ny181.out] at ho4));have n0_:=qA (Kd.R_lower ho4 (jP (qH HB)));have n1_:=qA (jX (qH HB) hb);clear HB;have HO183:=n0_;have HB:=n1_;clear n0_ n1_;clear hb ho4))
  go_ret;exact⟨_,by first|rfl|(simp [jL,jK]<;>rfl)|(simp [*,jL,jK]<;>rfl),by (with_reducible repeat (first|apply Kd.R_alloc|apply Kd.R_drewN|apply Kd.R_drew));exact HO183.out,qH HB⟩
 ·rw[if_neg c2] at H
  have c2b0:(a0==2)=false:=beq_eq_false_iff_ne.mpr c2;have c2b1:(a0 != 2)=true:=bne_iff_ne.mpr c2;have HC5:=qA H;clear H;go_enter Tryz.func137,Tryz.ntmps137
  go_upto_if 8 with(fail)
  go_cut [8] (λv8 wc=>∃(kq:Nat) (x8_4:Bool),v8=.bool x8_4/\Aside0 (zr.j0 kq a0 x8_4=some r)/\Aside0 (kq<=k)/\Aside0 (Below w.heap.size w wc))
  case first=>
   have H:=HC5.out;clear HC5
   by_cases c6:a0=6
   ·rw[if_pos c6] at H
    have c6b0:(a0==6)=true:=beq_iff_eq.mpr c6;have c6b1:(a0 != 6)=false:=bne_eq_false_iff_eq.mpr c6;clear c6
    (first|rw[c6b0]|(simp only[zP,zd];rw[c6b0])|skip)
    have H':=qA H;clear H;go_wp2;go_meet
    case rel=>exact⟨_,((a0==6)),(by first|rfl|(simp;done)|(simp [*];done)),H',⟨by first|omega|exact Nat.le_refl _⟩,⟨qH HB⟩⟩
   ·rw[if_neg c6] at H
    have c6b0:(a0==6)=false:=beq_eq_false_iff_ne.mpr c6;have c6b1:(a0 != 6)=true:=bne_iff_ne.mpr c6
    (first|rw[c6b0]|(simp only[zP,zd];rw[c6b0])|skip)
    have H':=qA H;clear H;go_wp2;go_meet
    case rel=>exact⟨_,((a0==14)),(by first|rfl|(simp;done)|(simp [*];done)),H',⟨by first|omega|exact Nat.le_refl _⟩,⟨qH HB⟩⟩
  case rest=>
   clear HC5
   try clear c1
   try clear c2
   try clear c2b0
   try clear c2b1
   try clear p2
   try clear c6
   try clear c6b0
   try clear c6b1
   obtain⟨kq,x8_4,rfl,HA,HJ4,HB⟩:=hcut
   cases kq with
   | zero=>exact absurd HA.out (by simp [zr.j0])
   | succ kj4=>
    have H:=HA.out;clear HA;simp only[zr.j0] at H
    by_cases c7:x8_4=true
    ·subst c7
     have H1:(some (([(⟨(-1),(-1)⟩:S158),(⟨1,(-1)⟩:S158),(⟨(-1),1⟩:S158),(⟨1,1⟩:S158)]:List (S158))))=some r:=by rw[if_pos rfl] at H;exact H
     clear H;have H:=H1;clear H1
     obtain⟨y184,hy184⟩:∃y_:List (S158),y_=(([(⟨(-1),(-1)⟩:S158),(⟨1,(-1)⟩:S158),(⟨(-1),1⟩:S158),(⟨1,1⟩:S158)]:List (S158))):=⟨_,rfl⟩
     replace H:(some y184)=some r:=by first|(rw[hy184];with_reducible exact H)|(have H2_:=(Option.bind_some _ _).symm.trans H;rw[hy184];with_reducible exact H2_)|(have H2_:=(Option.bind_some _ _).symm.trans H;with_reducible exact H2_)|with_reducible exact H|(rw[hy184];exact H)|exact H
     have Ny184:=qA hy184;clear hy184;obtain rfl:=Option.some.inj H
     go_wp2_with (first|((with_reducible refine jG (N:=15) rfl ?_);refine Kd.R_lit k158 _ 158 ?hg (N:=15) ?hd (xs:=([(⟨(-1),(-1)⟩:S158),(⟨1,(-1)⟩:S158),(⟨(-1),1⟩:S158),(⟨1,1⟩:S158)]:List (S158))) (inner:=[.int .i64 (-1),.int .i64 (-1),.int .i64 1,.int .i64 (-1),.int .i64 (-1),.int .i64 1,.int .i64 1,.int .i64 1]) (ok:=λ_=>True) (okp:=λ_=>True) ?hr ?hp (λ_ hk=>hk) trivial (Below.refl _ _) (Nat.le_refl _) (by simp) ?_;(case hd=>rfl);(case hg=>rfl);(case hr=>first|(go_simp;done)|(go_simp;rfl));(case hp=>exact(Reps.c2 (show Kd.M k158 _ _ _ (⟨(-1),(-1)⟩:S158) [.int .i64 (-1),.int .i64 (-1)] from(zV _ _ _ (⟨(-1),(-1)⟩:S158) )) (Reps.c2 (show Kd.M k158 _ _ _ (⟨1,(-1)⟩:S158) [.int .i64 1,.int .i64 (-1)] from(zV _ _ _ (⟨1,(-1)⟩:S158) )) (Reps.c2 (show Kd.M k158 _ _ _ (⟨(-1),1⟩:S158) [.int .i64 (-1),.int .i64 1] from(zV _ _ _ (⟨(-1),1⟩:S158) )) (Reps.c2 (show Kd.M k158 _ _ _ (⟨1,1⟩:S158) [.int .i64 1,.int .i64 1] from(zV _ _ _ (⟨1,1⟩:S158) )) (Reps.none _ _))))));intro v185 w8 ho9 hb hg_ hnew_;clear hg_ hnew_;(first|rw[<- Ny184.out] at ho9|(simp only[Int.reduceToNat] at ho9;rw[<- Ny184.out] at ho9));have n0_:=qA (Kd.R_lower ho9 (jP (qH HB)));have n1_:=qA (jX (qH HB) hb);clear HB;have HO186:=n0_;have HB:=n1_;clear n0_ n1_;clear hb ho9))
     go_ret;exact⟨_,by first|rfl|(simp [jL,jK]<;>rfl)|(simp [*,jL,jK]<;>rfl),by (with_reducible repeat (first|apply Kd.R_alloc|apply Kd.R_drewN|apply Kd.R_drew));exact HO186.out,qH HB⟩
    ·replace c7:=Bool.eq_false_iff.mpr c7
     subst c7
     have H1:(if a0=7 then(some (([(⟨0,(-1)⟩:S158),(⟨(-1),0⟩:S158),(⟨1,0⟩:S158),(⟨0,1⟩:S158)]:List (S158)))) else(if a0=15 then(some (([(⟨0,(-1)⟩:S158),(⟨(-1),0⟩:S158),(⟨1,0⟩:S158),(⟨0,1⟩:S158)]:List (S158)))) else(some ([]:List (S158)))))=some r:=by rw[if_neg (show ¬(false=true) by decide)] at H;exact H
     clear H;have H:=H1;clear H1
     by_cases c10:a0=7
     ·rw[if_pos c10] at H
      have c10b0:(a0==7)=true:=beq_iff_eq.mpr c10;have c10b1:(a0 != 7)=false:=bne_eq_false_iff_eq.mpr c10;clear c10
      obtain⟨y187,hy187⟩:∃y_:List (S158),y_=(([(⟨0,(-1)⟩:S158),(⟨(-1),0⟩:S158),(⟨1,0⟩:S158),(⟨0,1⟩:S158)]:List (S158))):=⟨_,rfl⟩
      replace H:(some y187)=some r:=by first|(rw[hy187];with_reducible exact H)|(have H2_:=(Option.bind_some _ _).symm.trans H;rw[hy187];with_reducible exact H2_)|(have H2_:=(Option.bind_some _ _).symm.trans H;with_reducible exact H2_)|with_reducible exact H|(rw[hy187];exact H)|exact H
      have Ny187:=qA hy187;clear hy187;obtain rfl:=Option.some.inj H
      go_wp2_with (first|((with_reducible refine jG (N:=23) rfl ?_);refine Kd.R_lit k158 _ 158 ?hg (N:=23) ?hd (xs:=([(⟨0,(-1)⟩:S158),(⟨(-1),0⟩:S158),(⟨1,0⟩:S158),(⟨0,1⟩:S158)]:List (S158))) (inner:=[.int .i64 0,.int .i64 (-1),.int .i64 (-1),.int .i64 0,.int .i64 1,.int .i64 0,.int .i64 0,.int .i64 1]) (ok:=λ_=>True) (okp:=λ_=>True) ?hr ?hp (λ_ hk=>hk) trivial (Below.refl _ _) (Nat.le_refl _) (by simp) ?_;(case hd=>rfl);(case hg=>rfl);(case hr=>first|(go_simp;done)|(go_simp;rfl));(case hp=>exact(Reps.c2 (show Kd.M k158 _ _ _ (⟨0,(-1)⟩:S158) [.int .i64 0,.int .i64 (-1)] from(zV _ _ _ (⟨0,(-1)⟩:S158) )) (Reps.c2 (show Kd.M k158 _ _ _ (⟨(-1),0⟩:S158) [.int .i64 (-1),.int .i64 0] from(zV _ _ _ (⟨(-1),0⟩:S158) )) (Reps.c2 (show Kd.M k158 _ _ _ (⟨1,0⟩:S158) [.int .i64 1,.int .i64 0] from(zV _ _ _ (⟨1,0⟩:S158) )) (Reps.c2 (show Kd.M k158 _ _ _ (⟨0,1⟩:S158) [.int .i64 0,.int .i64 1] from(zV _ _ _ (⟨0,1⟩:S158) )) (Reps.none _ _))))));intro v188 w11 ho12 hb hg_ hnew_;clear hg_ hnew_;(first|rw[<- Ny187.out] at ho12|(simp only[Int.reduceToNat] at ho12;rw[<- Ny187.out] at ho12));have n0_:=qA (Kd.R_lower ho12 (jP (qH HB)));have n1_:=qA (jX (qH HB) hb);clear HB;have HO189:=n0_;have HB:=n1_;clear n0_ n1_;clear hb ho12))
      go_ret;exact⟨_,by first|rfl|(simp [jL,jK]<;>rfl)|(simp [*,jL,jK]<;>rfl),by (with_reducible repeat (first|apply Kd.R_alloc|apply Kd.R_drewN|apply Kd.R_drew));exact HO189.out,qH HB⟩
     ·rw[if_neg c10] at H
      have c10b0:(a0==7)=false:=beq_eq_false_iff_ne.mpr c10;have c10b1:(a0 != 7)=true:=bne_iff_ne.mpr c10
      by_cases c13:a0=15
      ·rw[if_pos c13] at H
       have c13b0:(a0==15)=true:=beq_iff_eq.mpr c13;have c13b1:(a0 != 15)=false:=bne_eq_false_iff_eq.mpr c13;clear c13
       obtain⟨y190,hy190⟩:∃y_:List (S158),y_=(([(⟨0,(-1)⟩:S158),(⟨(-1),0⟩:S158),(⟨1,0⟩:S158),(⟨0,1⟩:S158)]:List (S158))):=⟨_,rfl⟩
       replace H:(some y190)=some r:=by first|(rw[hy190];with_reducible exact H)|(have H2_:=(Option.bind_some _ _).symm.trans H;rw[hy190];with_reducible exact H2_)|(have H2_:=(Option.bind_some _ _).symm.trans H;with_reducible exact H2_)|with_reducible exact H|(rw[hy190];exact H)|exact H
       have Ny190:=qA hy190;clear hy190;obtain rfl:=Option.some.inj H
       go_wp2_with (first|((with_reducible refine jG (N:=23) rfl ?_);refine Kd.R_lit k158 _ 158 ?hg (N:=23) ?hd (xs:=([(⟨0,(-1)⟩:S158),(⟨(-1),0⟩:S158),(⟨1,0⟩:S158),(⟨0,1⟩:S158)]:List (S158))) (inner:=[.int .i64 0,.int .i64 (-1),.int .i64 (-1),.int .i64 0,.int .i64 1,.int .i64 0,.int .i64 0,.int .i64 1]) (ok:=λ_=>True) (okp:=λ_=>True) ?hr ?hp (λ_ hk=>hk) trivial (Below.refl _ _) (Nat.le_refl _) (by simp) ?_;(case hd=>rfl);(case hg=>rfl);(case hr=>first|(go_simp;done)|(go_simp;rfl));(case hp=>exact(Reps.c2 (show Kd.M k158 _ _ _ (⟨0,(-1)⟩:S158) [.int .i64 0,.int .i64 (-1)] from(zV _ _ _ (⟨0,(-1)⟩:S158) )) (Reps.c2 (show Kd.M k158 _ _ _ (⟨(-1),0⟩:S158) [.int .i64 (-1),.int .i64 0] from(zV _ _ _ (⟨(-1),0⟩:S158) )) (Reps.c2 (show Kd.M k158 _ _ _ (⟨1,0⟩:S158) [.int .i64 1,.int .i64 0] from(zV _ _ _ (⟨1,0⟩:S158) )) (Reps.c2 (show Kd.M k158 _ _ _ (⟨0,1⟩:S158) [.int .i64 0,.int .i64 1] from(zV _ _ _ (⟨0,1⟩:S158) )) (Reps.none _ _))))));intro v191 w14 ho15 hb hg_ hnew_;clear hg_ hnew_;(first|rw[<- Ny190.out] at ho15|(simp only[Int.reduceToNat] at ho15;rw[<- Ny190.out] at ho15));have n0_:=qA (Kd.R_lower ho15 (jP (qH HB)));have n1_:=qA (jX (qH HB) hb);clear HB;have HO192:=n0_;have HB:=n1_;clear n0_ n1_;clear hb ho15))
       go_ret;exact⟨_,by first|rfl|(simp [jL,jK]<;>rfl)|(simp [*,jL,jK]<;>rfl),by (with_reducible repeat (first|apply Kd.R_alloc|apply Kd.R_drewN|apply Kd.R_drew));exact HO192.out,qH HB⟩
      ·rw[if_neg c13] at H
       have c13b0:(a0==15)=false:=beq_eq_false_iff_ne.mpr c13;have c13b1:(a0 != 15)=true:=bne_iff_ne.mpr c13;obtain rfl:=Option.some.inj H;go_wp2;go_ret;exact⟨_,by first|rfl|(simp [jL,jK]<;>rfl)|(simp [*,jL,jK]<;>rfl),by first|exact Kd.R_nil _ _ _ _ _|exact Kd.N_nil _ _ _ _ _|exact Kd.V_nil _ _ _ _ _|exact Kd.Q_nil _ _ _ _ _|exact Kd.S_nil _ _ _ _ _,qH HB⟩
def yF.f (a0_0:Int) (a0_1:Int):Option (Bool):=some (a0_0==0&&(a0_1==0))
theorem yF.calls (a0_0:Int) (a0_1:Int) (r:Bool) (w:World) (h:yF.f a0_0 a0_1=some r):
  Calls Tryz.prog 66 #[.agg #[.int .u64 a0_0,.int .u64 a0_1]] w λe w'=>e=.returned (.bool r)/\Below w.heap.size w w':=by
 have hu88:=Tryz.underlying88;have HB:=qA (Below.refl w.heap.size w);have H:(some (a0_0==0&&(a0_1==0)))=some r:=h;clear h;obtain rfl:=Option.some.inj H;go_enter Tryz.func66,Tryz.ntmps66
 go_wp2_with (first|((with_reducible refine jG (N:=1) rfl ?_);refine zI ?hg (N:=1) ?hd (cs:=#[.int .u64 a0_0,.int .u64 a0_1]) (t:=88) ?hr ?_;(case hd=>rfl);(case hg=>rfl);(case hr=>first|(go_simp;done)|(go_simp;rfl));intro gb193 hg w2 hbox hb;have n0_:=qA (jX (qH HB) hb);have n1_:=qA (hbox);have n2_:=qA ((by rw[hg];exact(jP (qH HB)):w.heap.size<=gb193));have n3_:=qA ((by rw[hg];exact(jP (qH HB)):w.heap.size<=gb193));clear HB;have HB:=n0_;have BK193:=n1_;have GW193:=n2_;have GE193:=n3_;clear n0_ n1_ n2_ n3_;clear hb hbox hg;have hcz3_0:w2.cell? ⟨gb193,0,none⟩=some (.int .u64 a0_0):=(jB BK193.out 0).trans rfl;have hcz3_1:w2.cell? ⟨gb193,1,none⟩=some (.int .u64 a0_1):=(jB BK193.out 1).trans rfl;have hfz3_0:=jH BK193.out 0;have hfz3_1:=jH BK193.out 1))
 go_ret;exact⟨by first|rfl|(simp [jL,jK]<;>rfl)|(simp [*,jL,jK]<;>rfl)|(simp [*,jL,jK];generalize ByteArray.toList _=q_;cases q_<;>rfl),qH HB⟩
def zy.f (k:Nat) (a0_0:Int) (a0_1:Int) (a1:Int):Option (Bool):=(zY.f k a1).bind λbt195=>((z6.f a0_0 a0_1 bt195.1 bt195.2).bind λbt197=>((yF.f bt197.1 bt197.2).bind λt199=>(some (!t199))))
theorem zy.mono:∀a0 a1 a2 k,LeO (zy.f k a0 a1 a2) (zy.f (k+1) a0 a1 a2):=by
 intro a0 a1 a2 k;unfold zy.f
 repeat' first
   | (with_reducible exact zY.mono _ _)
   | (with_reducible exact LeO.refl _)
   | (with_reducible exact LeO.none _)
   | (with_reducible refine LeO.ite ?_ ?_)
   | (with_reducible refine LeO.bind ?_ (λ_=>?_))
   | exact zY.mono _ _
   | exact LeO.none _
   | refine LeO.ite ?_ ?_
   | refine LeO.bind ?_ (λ_=>?_)
theorem zy.calls (k:Nat) (a0_0:Int) (a0_1:Int) (a1:Int) (r:Bool) (w:World) (h:zy.f k a0_0 a0_1 a1=some r):
  Calls Tryz.prog 145 #[.agg #[.int .u64 a0_0,.int .u64 a0_1],.int .i64 a1] w λe w'=>e=.returned (.bool r)/\Below w.heap.size w w':=by
 have hu88:=Tryz.underlying88;have HB:=qA (Below.refl w.heap.size w);have H:((zY.f k a1).bind λbt195=>((z6.f a0_0 a0_1 bt195.1 bt195.2).bind λbt197=>((yF.f bt197.1 bt197.2).bind λt199=>(some (!t199)))))=some r:=h;clear h;replace H:=Option.bind_eq_some_iff.mp H;obtain⟨⟨t195,t196⟩,A30,H⟩:=H;replace H:((z6.f a0_0 a0_1 t195 t196).bind λbt197=>((yF.f bt197.1 bt197.2).bind λt199=>(some (!t199))))=some r:=H;have A3:=qA A30;clear A30;replace H:=Option.bind_eq_some_iff.mp H;obtain⟨⟨t197,t198⟩,A40,H⟩:=H;replace H:((yF.f t197 t198).bind λt199=>(some (!t199)))=some r:=H;have A4:=qA A40;clear A40;replace H:=Option.bind_eq_some_iff.mp H;obtain⟨t199,A50,H⟩:=H;replace H:(some (!t199))=some r:=H;have A5:=qA A50;clear A50;obtain rfl:=Option.some.inj H;go_enter Tryz.func145,Tryz.ntmps145
 try go_wp2_with (first|((with_reducible refine jG (N:=2) rfl ?_);refine zI ?hg (N:=2) ?hd (cs:=#[.int .u64 a0_0,.int .u64 a0_1]) (t:=88) ?hr ?_;(case hd=>rfl);(case hg=>rfl);(case hr=>first|(go_simp;done)|(go_simp;rfl));intro gb194 hg w6 hbox hb;have n0_:=qA (jX (qH HB) hb);have n1_:=qA (hbox);have n2_:=qA ((by rw[hg];exact(jP (qH HB)):w.heap.size<=gb194));have n3_:=qA ((by rw[hg];exact(jP (qH HB)):w.heap.size<=gb194));clear HB;have HB:=n0_;have BK194:=n1_;have GW194:=n2_;have GE194:=n3_;clear n0_ n1_ n2_ n3_;clear hb hbox hg))
 have n0_:=qD BK194;have n1_:=qA (jAN HB.out);clear BK194;clear HB;have BK194:=n0_;have HB:=n1_;clear n0_ n1_;refine start_ (n:=7) (S:=λw'=>w'.cell? ⟨gb194,0,none⟩=some (.int .u64 a0_0)/\w'.cell? ⟨gb194,1,none⟩=some (.int .u64 a0_1)) (ds:=[]) #[false,false,false,false,false,false,false] (by kernel_rfl) rfl rfl ⟨(jB BK194.out 0).trans rfl,(jB BK194.out 1).trans rfl⟩ (λhHeld=>?_);generalize w6.drew=w7 at BK194 HB hHeld ⊢;refine pure_ (i:=1) (N:=some 6) (v:=?_) (a':=?_) #[false,true,false,false,false,false,false] rfl rfl (by kernel_rfl) (λ_ _ _ h=>h) (Or.inl ⟨by rfl,?_⟩) ?_ ?_
 rotate_left
 ·intro w'
  go_simp
  with_reducible rfl
 rotate_left
 ·simp only[Act.put,List.setIfInBounds_toArray,List.set_cons_zero,List.set_cons_succ,zP,zd]
  rfl
 refine take_ (i:=0) (N:=some 5) (v:=?_) (a':=?_) #[true,true,false,false,false,false,false] rfl rfl (by kernel_rfl) (λ_ _ _ h=>h) (Or.inl ⟨by rfl,?_⟩) hHeld ?_ ?_
 rotate_left
 ·rintro w' ⟨s0,s1⟩
  go_simp
  with_reducible rfl
 rotate_left
 ·simp only[Act.put,List.setIfInBounds_toArray,List.set_cons_zero,List.set_cons_succ,zP,zd]
  rfl
 refine one_ (i:=2) (N:=some 7) #[true,true,true,false,false,false,false] rfl rfl (by kernel_rfl) (by decide) (λK hK=>?_);refine jBF Tryz.func123 (by kernel_rfl) rfl #[.int .i64 a1] (by rfl) rfl rfl (by (try simp only[List.map_toArray,List.map_cons,List.map_nil]);first|done|rfl|(simp only[List.length_drop,List.length_take];rfl)) ?_
 with_reducible refine(zY.calls k a1 t195 t196 _ A3.out).mono ?_
 rintro e w8 ⟨rfl,hb⟩;refine⟨_,rfl,?_⟩;have n0_:=qA (jd (g:=gb194) (o:=.cells #[.int .u64 a0_0,.int .u64 a0_1] 88 (0,0)) (qK BK194) hb);have n1_:=qA (jX (qH HB) hb);clear BK194;clear HB;have BK194:=n0_;have HB:=n1_;clear n0_ n1_
 (try clear hb)
 (try clear hb2)
 (try clear hk)
 (try clear hi)
 refine hK.out _ _ ⟨(jB BK194.out 0).trans rfl,(jB BK194.out 1).trans rfl⟩ (λhHeld=>?_);clear hK K;refine jBD (a':=?_) ?_ ?_
 rotate_left
 ·show Act.put _ (some 7) _=_
  simp only[Act.put,List.setIfInBounds_toArray,List.set_cons_zero,List.set_cons_succ,zP,zd]
  rfl
 refine one_ (i:=3) (N:=some 8) #[true,true,true,true,false,false,false] rfl rfl (by kernel_rfl) (by decide) (λK hK=>?_);refine jBF Tryz.func92 (by kernel_rfl) rfl #[.agg #[.int .u64 a0_0,.int .u64 a0_1],.agg #[.int .u64 t195,.int .u64 t196]] (by rfl) rfl rfl (by (try simp only[List.map_toArray,List.map_cons,List.map_nil]);first|done|rfl|(simp only[List.length_drop,List.length_take];rfl)) ?_
 with_reducible refine(z6.calls a0_0 a0_1 t195 t196 t197 t198 _ A4.out).mono ?_
 rintro e w9 ⟨rfl,hb⟩;refine⟨_,rfl,?_⟩;have n0_:=qA (jd (g:=gb194) (o:=.cells #[.int .u64 a0_0,.int .u64 a0_1] 88 (0,0)) (qK BK194) hb);have n1_:=qA (jX (qH HB) hb);clear BK194;clear HB;have BK194:=n0_;have HB:=n1_;clear n0_ n1_
 (try clear hb)
 (try clear hb2)
 (try clear hk)
 (try clear hi)
 refine hK.out _ _ ⟨(jB BK194.out 0).trans rfl,(jB BK194.out 1).trans rfl⟩ (λhHeld=>?_);clear hK K;refine jBD (a':=?_) ?_ ?_
 rotate_left
 ·show Act.put _ (some 8) _=_
  simp only[Act.put,List.setIfInBounds_toArray,List.set_cons_zero,List.set_cons_succ,zP,zd]
  rfl
 refine one_ (i:=4) (N:=some 9) #[true,true,true,true,true,false,false] rfl rfl (by kernel_rfl) (by decide) (λK hK=>?_);refine jBF Tryz.func66 (by kernel_rfl) rfl #[.agg #[.int .u64 t197,.int .u64 t198]] (by rfl) rfl rfl (by (try simp only[List.map_toArray,List.map_cons,List.map_nil]);first|done|rfl|(simp only[List.length_drop,List.length_take];rfl)) ?_
 with_reducible refine(yF.calls t197 t198 t199 _ A5.out).mono ?_
 rintro e w10 ⟨rfl,hb⟩;refine⟨_,rfl,?_⟩;have n0_:=qA (jd (g:=gb194) (o:=.cells #[.int .u64 a0_0,.int .u64 a0_1] 88 (0,0)) (qK BK194) hb);have n1_:=qA (jX (qH HB) hb);clear BK194;clear HB;have BK194:=n0_;have HB:=n1_;clear n0_ n1_
 (try clear hb)
 (try clear hb2)
 (try clear hk)
 (try clear hi)
 refine hK.out _ _ ⟨(jB BK194.out 0).trans rfl,(jB BK194.out 1).trans rfl⟩ (λhHeld=>?_);clear hK K;refine jBD (a':=?_) ?_ ?_
 rotate_left
 ·show Act.put _ (some 9) _=_
  simp only[Act.put,List.setIfInBounds_toArray,List.set_cons_zero,List.set_cons_succ,zP,zd]
  rfl
 refine pure_ (i:=5) (N:=some 10) (v:=?_) (a':=?_) #[true,true,true,true,true,true,false] rfl rfl (by kernel_rfl) (λ_ _ _ h=>h) (Or.inl ⟨by rfl,?_⟩) ?_ ?_
 rotate_left
 ·intro w'
  go_simp
  with_reducible rfl
 rotate_left
 ·simp only[Act.put,List.setIfInBounds_toArray,List.set_cons_zero,List.set_cons_succ,zP,zd]
  rfl
 refine pure_ (i:=6) (N:=some 4) (v:=?_) (a':=?_) #[true,true,true,true,true,true,true] rfl rfl (by kernel_rfl) (λ_ _ _ h=>h) (Or.inl ⟨by rfl,?_⟩) ?_ ?_
 rotate_left
 ·intro w'
  go_simp
  with_reducible rfl
 rotate_left
 ·simp only[Act.put,List.setIfInBounds_toArray,List.set_cons_zero,List.set_cons_succ,zP,zd]
  rfl
 refine done_ (by kernel_rfl) ?_
 try go_wp2
 go_ret;exact⟨by first|rfl|(simp [jL,jK]<;>rfl)|(simp [*,jL,jK]<;>rfl)|(simp [*,jL,jK];generalize ByteArray.toList _=q_;cases q_<;>rfl),qH HB⟩
def zq.l0:Nat->Int->Int->Int->Int->Int->Int->Int->Option (Int×Int)
 | 0,_,_,_,_,_,_,_=>none
 | k+1,x0,x201000,x201001,x202000,x202001,x204000,x204001=>if x0>=0 then((jz.f k x204000 x204001 x0).bind λbt205=>((zy.f k x202000 x202001 x0).bind λt207=>(if t207=true then(some (bt205.1,bt205.2)) else((zm.f x201000 x201001 x0).bind λt208=>(zq.l0 k t208 x201000 x201001 x202000 x202001 bt205.1 bt205.2))))) else(some (x204000,x204001))
def zq.f (k:Nat) (a0:Int) (a1_0:Int) (a1_1:Int) (a2_0:Int) (a2_1:Int):Option (Int×Int):=if(a1_0==0&&(a1_1==0))=true then(some (0,0)) else((zm.f a1_0 a1_1 a0).bind λt204=>(zq.l0 k t204 a1_0 a1_1 a2_0 a2_1 0 0))
theorem zq.mono_l:∀k,(∀y0 y1 y2 y3 y4 y5 y6,LeO (zq.l0 k y0 y1 y2 y3 y4 y5 y6) (zq.l0 (k+1) y0 y1 y2 y3 y4 y5 y6))
 | 0=>λ_ _ _ _ _ _ _ r h=>by simp [zq.l0] at h
 | k+1=>by
  have ih0:=zq.mono_l k
  ·intro y0 y1 y2 y3 y4 y5 y6
   unfold zq.l0
   repeat' first
   | (with_reducible exact ih0 _ _ _ _ _ _ _)
   | (with_reducible exact zy.mono _ _ _ _)
   | (with_reducible exact jz.mono _ _ _ _)
   | (with_reducible exact LeO.refl _)
   | (with_reducible exact LeO.none _)
   | (with_reducible refine LeO.ite ?_ ?_)
   | (with_reducible refine LeO.bind ?_ (λ_=>?_))
   | exact ih0 _ _ _ _ _ _ _
   | exact zy.mono _ _ _ _
   | exact jz.mono _ _ _ _
   | exact LeO.none _
   | refine LeO.ite ?_ ?_
   | refine LeO.bind ?_ (λ_=>?_)
theorem zq.mono:∀a0 a1 a2 a3 a4 k,LeO (zq.f k a0 a1 a2 a3 a4) (zq.f (k+1) a0 a1 a2 a3 a4):=by
 intro a0 a1 a2 a3 a4 k;have ih0:=zq.mono_l k;unfold zq.f
 repeat' first
   | (with_reducible exact ih0 _ _ _ _ _ _ _)
   | (with_reducible exact zy.mono _ _ _ _)
   | (with_reducible exact jz.mono _ _ _ _)
   | (with_reducible exact LeO.refl _)
   | (with_reducible exact LeO.none _)
   | (with_reducible refine LeO.ite ?_ ?_)
   | (with_reducible refine LeO.bind ?_ (λ_=>?_))
   | exact ih0 _ _ _ _ _ _ _
   | exact zy.mono _ _ _ _
   | exact jz.mono _ _ _ _
   | exact LeO.none _
   | refine LeO.ite ?_ ?_
   | refine LeO.bind ?_ (λ_=>?_)
theorem zq.calls (k:Nat) (a0:Int) (a1_0:Int) (a1_1:Int) (a2_0:Int) (a2_1:Int) (r1:Int) (r2:Int) (w:World) (h:zq.f k a0 a1_0 a1_1 a2_0 a2_1=some (r1,r2)):
  Calls Tryz.prog 138 #[.int .i64 a0,.agg #[.int .i64 a1_0,.int .i64 a1_1],.agg #[.int .u64 a2_0,.int .u64 a2_1]] w λe w'=>e=.returned (.agg #[.int .u64 r1,.int .u64 r2])/\Below w.heap.size w w':=by
 have hu158:=Tryz.underlying158;have hu88:=Tryz.underlying88;have HB:=qA (Below.refl w.heap.size w);have H:(if(a1_0==0&&(a1_1==0))=true then(some (0,0)) else((zm.f a1_0 a1_1 a0).bind λt204=>(zq.l0 k t204 a1_0 a1_1 a2_0 a2_1 0 0)))=some (r1,r2):=h;clear h
 by_cases c4:(a1_0==0&&(a1_1==0))=true
 ·rw[if_pos c4] at H
  have c4b0:(a1_0==0&&(a1_1==0))=true:=c4
  (try (have c4b1:decide (a1_0=0&&(a1_1==0))=true:=by simpa using c4))
  (try (have c4b2:(a1_0==0&&(a1_1==0))=true:=by simpa using c4))
  clear c4;simp only[Option.some.injEq,Prod.mk.injEq] at H;obtain⟨rfl,rfl⟩:=H;go_enter Tryz.func138,Tryz.ntmps138
  go_wp2_with (first|((with_reducible refine jG (N:=4) rfl ?_);refine zI ?hg (N:=4) ?hd (cs:=#[.int .i64 a1_0,.int .i64 a1_1]) (t:=158) ?hr ?_;(case hd=>rfl);(case hg=>rfl);(case hr=>first|(go_simp;done)|(go_simp;rfl));intro gb200 hg w5 hbox hb;have n0_:=qA (jX (qH HB) hb);have n1_:=qA (hbox);have n2_:=qA ((by rw[hg];exact(jP (qH HB)):w.heap.size<=gb200));have n3_:=qA ((by rw[hg];exact(jP (qH HB)):w.heap.size<=gb200));clear HB;have HB:=n0_;have BK200:=n1_;have GW200:=n2_;have GE200:=n3_;clear n0_ n1_ n2_ n3_;clear hb hbox hg)|((with_reducible refine jG (N:=5) rfl ?_);refine zI ?hg (N:=5) ?hd (cs:=#[.int .u64 a2_0,.int .u64 a2_1]) (t:=88) ?hr ?_;(case hd=>rfl);(case hg=>rfl);(case hr=>first|(go_simp;done)|(go_simp;rfl));intro gb201 hg w6 hbox hb;have n0_:=qA (jd (g:=gb200) (o:=.cells #[.int .i64 a1_0,.int .i64 a1_1] 158 (0,0)) (qK BK200) hb);have n1_:=qA (jX (qH HB) hb);have n2_:=qA (hbox);have n3_:=qA ((by rw[hg];exact(jP (qH HB)):w.heap.size<=gb201));have n4_:=qA ((by rw[hg];exact(jP (qH HB)):w.heap.size<=gb201));have n5_:=qA ((by rw[hg];exact Nat.ne_of_lt (ju (g:=gb200) (o:=.cells #[.int .i64 a1_0,.int .i64 a1_1] 158 (0,0)) (qK BK200)):gb200≠gb201));have n6_:=qA ((by rw[hg];exact Nat.ne_of_gt (ju (g:=gb200) (o:=.cells #[.int .i64 a1_0,.int .i64 a1_1] 158 (0,0)) (qK BK200)):gb201≠gb200));clear BK200;clear HB;have BK200:=n0_;have HB:=n1_;have BK201:=n2_;have GW201:=n3_;have GE201:=n4_;have NB200_201:=n5_;have NB201_200:=n6_;clear n0_ n1_ n2_ n3_ n4_ n5_ n6_;clear hb hbox hg)|((with_reducible refine jG (N:=6) rfl ?_);refine zI ?hg (N:=6) ?hd (cs:=#[.int .u64 0,.int .u64 0]) (t:=88) ?hr ?_;(case hd=>rfl);(case hg=>rfl);(case hr=>first|(go_simp;done)|(go_simp;rfl));intro gb202 hg w7 hbox hb;have n0_:=qA (jd (g:=gb200) (o:=.cells #[.int .i64 a1_0,.int .i64 a1_1] 158 (0,0)) (qK BK200) hb);have n1_:=qA (jd (g:=gb201) (o:=.cells #[.int .u64 a2_0,.int .u64 a2_1] 88 (0,0)) (qK BK201) hb);have n2_:=qA (jX (qH HB) hb);have n3_:=qA (hbox);have n4_:=qA ((by rw[hg];exact(jP (qH HB)):w.heap.size<=gb202));have n5_:=qA ((by rw[hg];exact(jP (qH HB)):w.heap.size<=gb202));have n6_:=qA ((by rw[hg];exact Nat.ne_of_lt (ju (g:=gb200) (o:=.cells #[.int .i64 a1_0,.int .i64 a1_1] 158 (0,0)) (qK BK200)):gb200≠gb202));have n7_:=qA ((by rw[hg];exact Nat.ne_of_gt (ju (g:=gb200) (o:=.cells #[.int .i64 a1_0,.int .i64 a1_1] 158 (0,0)) (qK BK200)):gb202≠gb200));have n8_:=qA ((by rw[hg];exact Nat.ne_of_lt (ju (g:=gb201) (o:=.cells #[.int .u64 a2_0,.int .u64 a2_1] 88 (0,0)) (qK BK201)):gb201≠gb202));have n9_:=qA ((by rw[hg];exact Nat.ne_of_gt (ju (g:=gb201) (o:=.cells #[.int .u64 a2_0,.int .u64 a2_1] 88 (0,0)) (qK BK201)):gb202≠gb201));clear BK200;clear BK201;clear HB;have BK200:=n0_;have BK201:=n1_;have HB:=n2_;have BK202:=n3_;have GW202:=n4_;have GE202:=n5_;have NB200_202:=n6_;have NB202_200:=n7_;have NB201_202:=n8_;have NB202_201:=n9_;clear n0_ n1_ n2_ n3_ n4_ n5_ n6_ n7_ n8_ n9_;clear hb hbox hg)|((with_reducible refine jG (N:=7) rfl ?_);refine zI ?hg (N:=7) ?hd (cs:=#[.int .u64 0,.int .u64 0]) (t:=88) ?hr ?_;(case hd=>rfl);(case hg=>rfl);(case hr=>first|(go_simp;done)|(go_simp;rfl));intro gb203 hg w8 hbox hb;have n0_:=qA (jd (g:=gb200) (o:=.cells #[.int .i64 a1_0,.int .i64 a1_1] 158 (0,0)) (qK BK200) hb);have n1_:=qA (jd (g:=gb201) (o:=.cells #[.int .u64 a2_0,.int .u64 a2_1] 88 (0,0)) (qK BK201) hb);have n2_:=qA (jd (g:=gb202) (o:=.cells #[.int .u64 0,.int .u64 0] 88 (0,0)) (qK BK202) hb);have n3_:=qA (jX (qH HB) hb);have n4_:=qA (hbox);have n5_:=qA ((by rw[hg];exact(jP (qH HB)):w.heap.size<=gb203));have n6_:=qA ((by rw[hg];exact(jP (qH HB)):w.heap.size<=gb203));have n7_:=qA ((by rw[hg];exact Nat.ne_of_lt (ju (g:=gb200) (o:=.cells #[.int .i64 a1_0,.int .i64 a1_1] 158 (0,0)) (qK BK200)):gb200≠gb203));have n8_:=qA ((by rw[hg];exact Nat.ne_of_gt (ju (g:=gb200) (o:=.cells #[.int .i64 a1_0,.int .i64 a1_1] 158 (0,0)) (qK BK200)):gb203≠gb200));have n9_:=qA ((by rw[hg];exact Nat.ne_of_lt (ju (g:=gb201) (o:=.cells #[.int .u64 a2_0,.int .u64 a2_1] 88 (0,0)) (qK BK201)):gb201≠gb203));have n10_:=qA ((by rw[hg];exact Nat.ne_of_gt (ju (g:=gb201) (o:=.cells #[.int .u64 a2_0,.int .u64 a2_1] 88 (0,0)) (qK BK201)):gb203≠gb201));have n11_:=qA ((by rw[hg];exact Nat.ne_of_lt (ju (g:=gb202) (o:=.cells #[.int .u64 0,.int .u64 0] 88 (0,0)) (qK BK202)):gb202≠gb203));have n12_:=qA ((by rw[hg];exact Nat.ne_of_gt (ju (g:=gb202) (o:=.cells #[.int .u64 0,.int .u64 0] 88 (0,0)) (qK BK202)):gb203≠gb202));clear BK200;clear BK201;clear BK202;clear HB;have BK200:=n0_;have BK201:=n1_;have BK202:=n2_;have HB:=n3_;have BK203:=n4_;have GW203:=n5_;have GE203:=n6_;have NB200_203:=n7_;have NB203_200:=n8_;have NB201_203:=n9_;have NB203_201:=n10_;have NB202_203:=n11_;have NB203_202:=n12_;clear n0_ n1_ n2_ n3_ n4_ n5_ n6_ n7_ n8_ n9_ n10_ n11_ n12_;clear hb hbox hg;have hnb9:=NB200_201.out;have hnc9:=NB201_200.out;have hnb10:=NB200_202.out;have hnc10:=NB202_200.out;have hnb11:=NB200_203.out;have hnc11:=NB203_200.out;have hcz12_0:w8.cell? ⟨gb200,0,none⟩=some (.int .i64 a1_0):=(jB BK200.out 0).trans rfl;have hcz12_1:w8.cell? ⟨gb200,1,none⟩=some (.int .i64 a1_1):=(jB BK200.out 1).trans rfl;have hfz12_0:=jH BK200.out 0;have hfz12_1:=jH BK200.out 1;have hnb13:=NB203_201.out;have hnc13:=NB201_203.out;have hnb14:=NB203_202.out;have hnc14:=NB202_203.out;have hcz15_0:w8.cell? ⟨gb203,0,none⟩=some (.int .u64 0):=(jB BK203.out 0).trans rfl;have hcz15_1:w8.cell? ⟨gb203,1,none⟩=some (.int .u64 0):=(jB BK203.out 1).trans rfl;have hfz15_0:=jH BK203.out 0;have hfz15_1:=jH BK203.out 1;have hnb16:=NB202_201.out;have hnc16:=NB201_202.out;have hcz17_0:w8.cell? ⟨gb202,0,none⟩=some (.int .u64 0):=(jB BK202.out 0).trans rfl;have hcz17_1:w8.cell? ⟨gb202,1,none⟩=some (.int .u64 0):=(jB BK202.out 1).trans rfl;have hfz17_0:=jH BK202.out 0;have hfz17_1:=jH BK202.out 1))
  refine bodyPost_ret (results_cell_row rfl _ _ gb202 88 #[.int .u64 0,.int .u64 0] (0,0) _ rfl (by (with_reducible repeat (first|refine jQ ?_ _|refine jY ?_|refine jI ?_ _));refine zS (cs:=#[.int .u64 0,.int .u64 0]) ?_ 1 _ (by first|rfl|(simp [*];done));(with_reducible repeat (first|refine jQ ?_ _|refine jY ?_|refine jI ?_ _));refine zS (cs:=#[.int .u64 0,.int .u64 0]) ?_ 0 _ (by first|rfl|(simp [*];done));(with_reducible repeat (first|refine jQ ?_ _|refine jY ?_|refine jI ?_ _));exact BK202.out) Tryz.underlying88 rfl (by kernel_rfl)) rfl ?_;exact⟨by first|rfl|(simp [jL,jK]<;>rfl)|(simp [*,jL,jK]<;>rfl)|(simp [*,jL,jK];generalize ByteArray.toList _=q_;cases q_<;>rfl),qH HB⟩
 ·rw[if_neg c4] at H
  have c4b0:(a1_0==0&&(a1_1==0))=false:=by simpa using c4
  (try (have c4b1:decide (a1_0=0&&(a1_1==0))=false:=by simpa using c4))
  (try (have c4b2:(a1_0==0&&(a1_1==0))=false:=by simpa using c4))
  (try (have c4b3:¬(a1_0=0&&(a1_1==0)):=by simpa using c4))
  clear c4;replace H:=Option.bind_eq_some_iff.mp H;obtain⟨t204,A180,H⟩:=H;replace H:(zq.l0 k t204 a1_0 a1_1 a2_0 a2_1 0 0)=some (r1,r2):=H;have A18:=qA A180;clear A180;have H':=qA H;clear H;go_enter Tryz.func138,Tryz.ntmps138
  go_wp2_with (first|((with_reducible refine jG (N:=4) rfl ?_);refine zI ?hg (N:=4) ?hd (cs:=#[.int .i64 a1_0,.int .i64 a1_1]) (t:=158) ?hr ?_;(case hd=>rfl);(case hg=>rfl);(case hr=>first|(go_simp;done)|(go_simp;rfl));intro gb200 hg w19 hbox hb;have n0_:=qA (jX (qH HB) hb);have n1_:=qA (hbox);have n2_:=qA ((by rw[hg];exact(jP (qH HB)):w.heap.size<=gb200));have n3_:=qA ((by rw[hg];exact(jP (qH HB)):w.heap.size<=gb200));clear HB;have HB:=n0_;have BK200:=n1_;have GW200:=n2_;have GE200:=n3_;clear n0_ n1_ n2_ n3_;clear hb hbox hg)|((with_reducible refine jG (N:=5) rfl ?_);refine zI ?hg (N:=5) ?hd (cs:=#[.int .u64 a2_0,.int .u64 a2_1]) (t:=88) ?hr ?_;(case hd=>rfl);(case hg=>rfl);(case hr=>first|(go_simp;done)|(go_simp;rfl));intro gb201 hg w20 hbox hb;have n0_:=qA (jd (g:=gb200) (o:=.cells #[.int .i64 a1_0,.int .i64 a1_1] 158 (0,0)) (qK BK200) hb);have n1_:=qA (jX (qH HB) hb);have n2_:=qA (hbox);have n3_:=qA ((by rw[hg];exact(jP (qH HB)):w.heap.size<=gb201));have n4_:=qA ((by rw[hg];exact(jP (qH HB)):w.heap.size<=gb201));have n5_:=qA ((by rw[hg];exact Nat.ne_of_lt (ju (g:=gb200) (o:=.cells #[.int .i64 a1_0,.int .i64 a1_1] 158 (0,0)) (qK BK200)):gb200≠gb201));have n6_:=qA ((by rw[hg];exact Nat.ne_of_gt (ju (g:=gb200) (o:=.cells #[.int .i64 a1_0,.int .i64 a1_1] 158 (0,0)) (qK BK200)):gb201≠gb200));clear BK200;clear HB;have BK200:=n0_;have HB:=n1_;have BK201:=n2_;have GW201:=n3_;have GE201:=n4_;have NB200_201:=n5_;have NB201_200:=n6_;clear n0_ n1_ n2_ n3_ n4_ n5_ n6_;clear hb hbox hg)|((with_reducible refine jG (N:=6) rfl ?_);refine zI ?hg (N:=6) ?hd (cs:=#[.int .u64 0,.int .u64 0]) (t:=88) ?hr ?_;(case hd=>rfl);(case hg=>rfl);(case hr=>first|(go_simp;done)|(go_simp;rfl));intro gb202 hg w21 hbox hb;have n0_:=qA (jd (g:=gb200) (o:=.cells #[.int .i64 a1_0,.int .i64 a1_1] 158 (0,0)) (qK BK200) hb);have n1_:=qA (jd (g:=gb201) (o:=.cells #[.int .u64 a2_0,.int .u64 a2_1] 88 (0,0)) (qK BK201) hb);have n2_:=qA (jX (qH HB) hb);have n3_:=qA (hbox);have n4_:=qA ((by rw[hg];exact(jP (qH HB)):w.heap.size<=gb202));have n5_:=qA ((by rw[hg];exact(jP (qH HB)):w.heap.size<=gb202));have n6_:=qA ((by rw[hg];exact Nat.ne_of_lt (ju (g:=gb200) (o:=.cells #[.int .i64 a1_0,.int .i64 a1_1] 158 (0,0)) (qK BK200)):gb200≠gb202));have n7_:=qA ((by rw[hg];exact Nat.ne_of_gt (ju (g:=gb200) (o:=.cells #[.int .i64 a1_0,.int .i64 a1_1] 158 (0,0)) (qK BK200)):gb202≠gb200));have n8_:=qA ((by rw[hg];exact Nat.ne_of_lt (ju (g:=gb201) (o:=.cells #[.int .u64 a2_0,.int .u64 a2_1] 88 (0,0)) (qK BK201)):gb201≠gb202));have n9_:=qA ((by rw[hg];exact Nat.ne_of_gt (ju (g:=gb201) (o:=.cells #[.int .u64 a2_0,.int .u64 a2_1] 88 (0,0)) (qK BK201)):gb202≠gb201));clear BK200;clear BK201;clear HB;have BK200:=n0_;have BK201:=n1_;have HB:=n2_;have BK202:=n3_;have GW202:=n4_;have GE202:=n5_;have NB200_202:=n6_;have NB202_200:=n7_;have NB201_202:=n8_;have NB202_201:=n9_;clear n0_ n1_ n2_ n3_ n4_ n5_ n6_ n7_ n8_ n9_;clear hb hbox hg)|((with_reducible refine jG (N:=7) rfl ?_);refine zI ?hg (N:=7) ?hd (cs:=#[.int .u64 0,.int .u64 0]) (t:=88) ?hr ?_;(case hd=>rfl);(case hg=>rfl);(case hr=>first|(go_simp;done)|(go_simp;rfl));intro gb203 hg w22 hbox hb;have n0_:=qA (jd (g:=gb200) (o:=.cells #[.int .i64 a1_0,.int .i64 a1_1] 158 (0,0)) (qK BK200) hb);have n1_:=qA (jd (g:=gb201) (o:=.cells #[.int .u64 a2_0,.int .u64 a2_1] 88 (0,0)) (qK BK201) hb);have n2_:=qA (jd (g:=gb202) (o:=.cells #[.int .u64 0,.int .u64 0] 88 (0,0)) (qK BK202) hb);have n3_:=qA (jX (qH HB) hb);have n4_:=qA (hbox);have n5_:=qA ((by rw[hg];exact(jP (qH HB)):w.heap.size<=gb203));have n6_:=qA ((by rw[hg];exact(jP (qH HB)):w.heap.size<=gb203));have n7_:=qA ((by rw[hg];exact Nat.ne_of_lt (ju (g:=gb200) (o:=.cells #[.int .i64 a1_0,.int .i64 a1_1] 158 (0,0)) (qK BK200)):gb200≠gb203));have n8_:=qA ((by rw[hg];exact Nat.ne_of_gt (ju (g:=gb200) (o:=.cells #[.int .i64 a1_0,.int .i64 a1_1] 158 (0,0)) (qK BK200)):gb203≠gb200));have n9_:=qA ((by rw[hg];exact Nat.ne_of_lt (ju (g:=gb201) (o:=.cells #[.int .u64 a2_0,.int .u64 a2_1] 88 (0,0)) (qK BK201)):gb201≠gb203));have n10_:=qA ((by rw[hg];exact Nat.ne_of_gt (ju (g:=gb201) (o:=.cells #[.int .u64 a2_0,.int .u64 a2_1] 88 (0,0)) (qK BK201)):gb203≠gb201));have n11_:=qA ((by rw[hg];exact Nat.ne_of_lt (ju (g:=gb202) (o:=.cells #[.int .u64 0,.int .u64 0] 88 (0,0)) (qK BK202)):gb202≠gb203));have n12_:=qA ((by rw[hg];exact Nat.ne_of_gt (ju (g:=gb202) (o:=.cells #[.int .u64 0,.int .u64 0] 88 (0,0)) (qK BK202)):gb203≠gb202));clear BK200;clear BK201;clear BK202;clear HB;have BK200:=n0_;have BK201:=n1_;have BK202:=n2_;have HB:=n3_;have BK203:=n4_;have GW203:=n5_;have GE203:=n6_;have NB200_203:=n7_;have NB203_200:=n8_;have NB201_203:=n9_;have NB203_201:=n10_;have NB202_203:=n11_;have NB203_202:=n12_;clear n0_ n1_ n2_ n3_ n4_ n5_ n6_ n7_ n8_ n9_ n10_ n11_ n12_;clear hb hbox hg;have hnb23:=NB200_201.out;have hnc23:=NB201_200.out;have hnb24:=NB200_202.out;have hnc24:=NB202_200.out;have hnb25:=NB200_203.out;have hnc25:=NB203_200.out;have hcz26_0:w22.cell? ⟨gb200,0,none⟩=some (.int .i64 a1_0):=(jB BK200.out 0).trans rfl;have hcz26_1:w22.cell? ⟨gb200,1,none⟩=some (.int .i64 a1_1):=(jB BK200.out 1).trans rfl;have hfz26_0:=jH BK200.out 0;have hfz26_1:=jH BK200.out 1)|((with_reducible refine jV (f:=144) rfl ?_);refine zB (some 14) rfl rfl Tryz.func144 (by kernel_rfl) rfl #[.agg #[.int .i64 a1_0,.int .i64 a1_1],.int .i64 a0] rfl (by (try simp only[List.map_toArray,List.map_cons,List.map_nil]);first|done|rfl|(simp only[List.length_drop,List.length_take];rfl)) ?_;(with_reducible refine(zm.calls a1_0 a1_1 a0 t204 _ A18.out).mono ?_);rintro e w27 ⟨rfl,hb⟩;refine⟨_,rfl,?_⟩;have n0_:=qA (jd (g:=gb200) (o:=.cells #[.int .i64 a1_0,.int .i64 a1_1] 158 (0,0)) (qK BK200) hb);have n1_:=qA (jd (g:=gb201) (o:=.cells #[.int .u64 a2_0,.int .u64 a2_1] 88 (0,0)) (qK BK201) hb);have n2_:=qA (jd (g:=gb202) (o:=.cells #[.int .u64 0,.int .u64 0] 88 (0,0)) (qK BK202) hb);have n3_:=qA (jd (g:=gb203) (o:=.cells #[.int .u64 0,.int .u64 0] 88 (0,0)) (qK BK203) hb);have n4_:=qA (jX (qH HB) hb);clear BK200;clear BK201;clear BK202;clear BK203;clear HB;have BK200:=n0_;have BK201:=n1_;have BK202:=n2_;have BK203:=n3_;have HB:=n4_;clear n0_ n1_ n2_ n3_ n4_;(try clear hb);(try clear hb2);(try clear hk);(try clear hi)))
  go_loopg [0] k (λkq v0 w'=>∃(x0_1:Int) (x204000_1:Int) (x204001_1:Int),v0=.int .i64 x0_1/\Aside0 (zq.l0 kq x0_1 a1_0 a1_1 a2_0 a2_1 x204000_1 x204001_1=some (r1,r2))/\Aside0 (kq<=k)/\Aside0 (w'.heap[gb200]?=some (.cells #[.int .i64 a1_0,.int .i64 a1_1] 158 (0,0)))/\Aside0 (w'.heap[gb201]?=some (.cells #[.int .u64 a2_0,.int .u64 a2_1] 88 (0,0)))/\Aside0 (w'.heap[gb202]?=some (.cells #[.int .u64 0,.int .u64 0] 88 (0,0)))/\Aside0 (w'.heap[gb203]?=some (.cells #[.int .u64 x204000_1,.int .u64 x204001_1] 88 (0,0)))/\Aside0 (Below w.heap.size w w'))
  case atStart=>exact⟨(t204),(0),(0),(by first|rfl|(simp;done)|(simp [*];done)),H',⟨Nat.le_refl _⟩,⟨qK BK200⟩,⟨qK BK201⟩,⟨qK BK202⟩,⟨qK BK203⟩,⟨qH HB⟩⟩
  case round=>
   clear H'
   try clear c1
   try clear c2
   try clear p2
   try clear c4
   try clear c4b0
   try clear c4b1
   try clear c4b2
   try clear c9
   try clear c10
   try clear c11
   try clear c13
   try clear c14
   try clear c16
   try clear c23
   try clear c24
   try clear c25
   try clear hcz12_0
   try clear hcz12_1
   try clear hcz15_0
   try clear hcz15_1
   try clear hcz17_0
   try clear hcz17_1
   try clear hcz26_0
   try clear hcz26_1
   try clear hfz12_0
   try clear hfz12_1
   try clear hfz15_0
   try clear hfz15_1
   try clear hfz17_0
   try clear hfz17_1
   try clear hfz26_0
   try clear hfz26_1
   obtain⟨x0_1,x204000_1,x204001_1,rfl,HA,HK1,BK200,BK201,BK202,BK203,HB⟩:=hrel
   cases gk with
   | zero=>exact absurd HA.out (by simp [zq.l0])
   | succ k1=>
    have H:=HA.out;clear HA;simp only[zq.l0] at H
    by_cases c28:x0_1>=0
    ·rw[if_pos c28] at H
     have c28b0:decide (0<=x0_1)=true:=decide_eq_true c28;clear c28;replace H:=Option.bind_eq_some_iff.mp H;obtain⟨⟨t205,t206⟩,A290,H⟩:=H;replace H:((zy.f k1 a2_0 a2_1 x0_1).bind λt207=>(if t207=true then(some (t205,t206)) else((zm.f a1_0 a1_1 x0_1).bind λt208=>(zq.l0 k1 t208 a1_0 a1_1 a2_0 a2_1 t205 t206))))=some (r1,r2):=H;have A29:=qA A290;clear A290;replace H:=Option.bind_eq_some_iff.mp H;obtain⟨t207,A300,H⟩:=H;replace H:(if t207=true then(some (t205,t206)) else((zm.f a1_0 a1_1 x0_1).bind λt208=>(zq.l0 k1 t208 a1_0 a1_1 a2_0 a2_1 t205 t206)))=some (r1,r2):=H;have A30:=qA A300;clear A300
     by_cases c31:t207=true
     ·subst c31
      have H1:(some (t205,t206))=some (r1,r2):=by rw[if_pos rfl] at H;exact H
      clear H;have H:=H1;clear H1;simp only[Option.some.injEq,Prod.mk.injEq] at H;obtain⟨rfl,rfl⟩:=H;have hnb32:=NB203_200.out;have hnc32:=NB200_203.out;have hnb33:=NB203_201.out;have hnc33:=NB201_203.out;have hnb34:=NB203_202.out;have hnc34:=NB202_203.out;have hcz35_0:wr.cell? ⟨gb203,0,none⟩=some (.int .u64 x204000_1):=(jB BK203.out 0).trans rfl;have hcz35_1:wr.cell? ⟨gb203,1,none⟩=some (.int .u64 x204001_1):=(jB BK203.out 1).trans rfl;have hfz35_0:=jH BK203.out 0;have hfz35_1:=jH BK203.out 1
      go_wp2_with (first|((with_reducible refine jV (f:=99) rfl ?_);refine zB (some 22) rfl rfl Tryz.func99 (by kernel_rfl) rfl #[.agg #[.int .u64 x204000_1,.int .u64 x204001_1],.int .i64 x0_1] rfl (by (try simp only[List.map_toArray,List.map_cons,List.map_nil]);first|done|rfl|(simp only[List.length_drop,List.length_take];rfl)) ?_;(with_reducible refine(jz.calls k1 x204000_1 x204001_1 x0_1 t205 t206 _ A29.out).mono ?_);rintro e w36 ⟨rfl,hb⟩;refine⟨_,rfl,?_⟩;have n0_:=qA (jd (g:=gb200) (o:=.cells #[.int .i64 a1_0,.int .i64 a1_1] 158 (0,0)) (qK BK200) hb);have n1_:=qA (jd (g:=gb201) (o:=.cells #[.int .u64 a2_0,.int .u64 a2_1] 88 (0,0)) (qK BK201) hb);have n2_:=qA (jd (g:=gb202) (o:=.cells #[.int .u64 0,.int .u64 0] 88 (0,0)) (qK BK202) hb);have n3_:=qA (jd (g:=gb203) (o:=.cells #[.int .u64 x204000_1,.int .u64 x204001_1] 88 (0,0)) (qK BK203) hb);have n4_:=qA (jX (qH HB) hb);clear BK200;clear BK201;clear BK202;clear BK203;clear HB;have BK200:=n0_;have BK201:=n1_;have BK202:=n2_;have BK203:=n3_;have HB:=n4_;clear n0_ n1_ n2_ n3_ n4_;(try clear hb);(try clear hb2);(try clear hk);(try clear hi);have hcz37_0:w36.cell? ⟨gb203,0,none⟩=some (.int .u64 x204000_1):=(jB BK203.out 0).trans rfl;have hcz37_1:w36.cell? ⟨gb203,1,none⟩=some (.int .u64 x204001_1):=(jB BK203.out 1).trans rfl;have hfz37_0:=jH BK203.out 0;have hfz37_1:=jH BK203.out 1;have hnb38:=NB201_200.out;have hnc38:=NB200_201.out;have hnb39:=NB201_202.out;have hnc39:=NB202_201.out;have hcz40_0:w36.cell? ⟨gb201,0,none⟩=some (.int .u64 a2_0):=(jB BK201.out 0).trans rfl;have hcz40_1:w36.cell? ⟨gb201,1,none⟩=some (.int .u64 a2_1):=(jB BK201.out 1).trans rfl;have hfz40_0:=jH BK201.out 0;have hfz40_1:=jH BK201.out 1)|((with_reducible refine jV (f:=145) rfl ?_);refine zB (some 25) rfl rfl Tryz.func145 (by kernel_rfl) rfl #[.agg #[.int .u64 a2_0,.int .u64 a2_1],.int .i64 x0_1] rfl (by (try simp only[List.map_toArray,List.map_cons,List.map_nil]);first|done|rfl|(simp only[List.length_drop,List.length_take];rfl)) ?_;(with_reducible refine(zy.calls k1 a2_0 a2_1 x0_1 true _ A30.out).mono ?_);rintro e w41 ⟨rfl,hb⟩;refine⟨_,rfl,?_⟩;have n0_:=qA (jd (g:=gb200) (o:=.cells #[.int .i64 a1_0,.int .i64 a1_1] 158 (0,0)) (by (with_reducible repeat (first|refine jQ ?_ _|refine jY ?_|refine jI ?_ _));refine jp ?_ NB200_203.out _;(with_reducible repeat (first|refine jQ ?_ _|refine jY ?_|refine jI ?_ _));refine jp ?_ NB200_203.out _;(with_reducible repeat (first|refine jQ ?_ _|refine jY ?_|refine jI ?_ _));exact BK200.out) hb);have n1_:=qA (jd (g:=gb201) (o:=.cells #[.int .u64 a2_0,.int .u64 a2_1] 88 (0,0)) (by (with_reducible repeat (first|refine jQ ?_ _|refine jY ?_|refine jI ?_ _));refine jp ?_ NB201_203.out _;(with_reducible repeat (first|refine jQ ?_ _|refine jY ?_|refine jI ?_ _));refine jp ?_ NB201_203.out _;(with_reducible repeat (first|refine jQ ?_ _|refine jY ?_|refine jI ?_ _));exact BK201.out) hb);have n2_:=qA (jd (g:=gb202) (o:=.cells #[.int .u64 0,.int .u64 0] 88 (0,0)) (by (with_reducible repeat (first|refine jQ ?_ _|refine jY ?_|refine jI ?_ _));refine jp ?_ NB202_203.out _;(with_reducible repeat (first|refine jQ ?_ _|refine jY ?_|refine jI ?_ _));refine jp ?_ NB202_203.out _;(with_reducible repeat (first|refine jQ ?_ _|refine jY ?_|refine jI ?_ _));exact BK202.out) hb);have n3_:=qA (jd (g:=gb203) (o:=.cells #[.int .u64 t205,.int .u64 t206] 88 (0,0)) (by (with_reducible repeat (first|refine jQ ?_ _|refine jY ?_|refine jI ?_ _));refine zS (cs:=#[.int .u64 t205,.int .u64 x204001_1]) ?_ 1 _ (by first|rfl|(simp [*];done));(with_reducible repeat (first|refine jQ ?_ _|refine jY ?_|refine jI ?_ _));refine zS (cs:=#[.int .u64 x204000_1,.int .u64 x204001_1]) ?_ 0 _ (by first|rfl|(simp [*];done));(with_reducible repeat (first|refine jQ ?_ _|refine jY ?_|refine jI ?_ _));exact BK203.out) hb);have n4_:=qA (jX (qH HB) hb);clear BK200;clear BK201;clear BK202;clear BK203;clear HB;have BK200:=n0_;have BK201:=n1_;have BK202:=n2_;have BK203:=n3_;have HB:=n4_;clear n0_ n1_ n2_ n3_ n4_;(try clear hb);(try clear hb2);(try clear hk);(try clear hi);have hcz42_0:w41.cell? ⟨gb203,0,none⟩=some (.int .u64 t205):=(jB BK203.out 0).trans rfl;have hcz42_1:w41.cell? ⟨gb203,1,none⟩=some (.int .u64 t206):=(jB BK203.out 1).trans rfl;have hfz42_0:=jH BK203.out 0;have hfz42_1:=jH BK203.out 1;have hnb43:=NB202_200.out;have hnc43:=NB200_202.out;have hcz44_0:w41.cell? ⟨gb202,0,none⟩=some (.int .u64 0):=(jB BK202.out 0).trans rfl;have hcz44_1:w41.cell? ⟨gb202,1,none⟩=some (.int .u64 0):=(jB BK202.out 1).trans rfl;have hfz44_0:=jH BK202.out 0;have hfz44_1:=jH BK202.out 1))
      refine bodyPost_ret (results_cell_row rfl _ _ gb202 88 #[.int .u64 t205,.int .u64 t206] (0,0) _ rfl (by (with_reducible repeat (first|refine jQ ?_ _|refine jY ?_|refine jI ?_ _));refine zS (cs:=#[.int .u64 t205,.int .u64 0]) ?_ 1 _ (by first|rfl|(simp [*];done));(with_reducible repeat (first|refine jQ ?_ _|refine jY ?_|refine jI ?_ _));refine zS (cs:=#[.int .u64 0,.int .u64 0]) ?_ 0 _ (by first|rfl|(simp [*];done));(with_reducible repeat (first|refine jQ ?_ _|refine jY ?_|refine jI ?_ _));exact BK202.out) Tryz.underlying88 rfl (by kernel_rfl)) rfl ?_;exact⟨by first|rfl|(simp [jL,jK]<;>rfl)|(simp [*,jL,jK]<;>rfl)|(simp [*,jL,jK];generalize ByteArray.toList _=q_;cases q_<;>rfl),qH HB⟩
     ·replace c31:=Bool.eq_false_iff.mpr c31
      subst c31
      have H1:((zm.f a1_0 a1_1 x0_1).bind λt208=>(zq.l0 k1 t208 a1_0 a1_1 a2_0 a2_1 t205 t206))=some (r1,r2):=by rw[if_neg (show ¬(false=true) by decide)] at H;exact H
      clear H;have H:=H1;clear H1;replace H:=Option.bind_eq_some_iff.mp H;obtain⟨t208,A450,H⟩:=H;replace H:(zq.l0 k1 t208 a1_0 a1_1 a2_0 a2_1 t205 t206)=some (r1,r2):=H;have A45:=qA A450;clear A450;have H':=qA H;clear H;have hnb46:=NB203_200.out;have hnc46:=NB200_203.out;have hnb47:=NB203_201.out;have hnc47:=NB201_203.out;have hnb48:=NB203_202.out;have hnc48:=NB202_203.out;have hcz49_0:wr.cell? ⟨gb203,0,none⟩=some (.int .u64 x204000_1):=(jB BK203.out 0).trans rfl;have hcz49_1:wr.cell? ⟨gb203,1,none⟩=some (.int .u64 x204001_1):=(jB BK203.out 1).trans rfl;have hfz49_0:=jH BK203.out 0;have hfz49_1:=jH BK203.out 1
      go_wp2_with (first|((with_reducible refine jV (f:=99) rfl ?_);refine zB (some 22) rfl rfl Tryz.func99 (by kernel_rfl) rfl #[.agg #[.int .u64 x204000_1,.int .u64 x204001_1],.int .i64 x0_1] rfl (by (try simp only[List.map_toArray,List.map_cons,List.map_nil]);first|done|rfl|(simp only[List.length_drop,List.length_take];rfl)) ?_;(with_reducible refine(jz.calls k1 x204000_1 x204001_1 x0_1 t205 t206 _ A29.out).mono ?_);rintro e w50 ⟨rfl,hb⟩;refine⟨_,rfl,?_⟩;have n0_:=qA (jd (g:=gb200) (o:=.cells #[.int .i64 a1_0,.int .i64 a1_1] 158 (0,0)) (qK BK200) hb);have n1_:=qA (jd (g:=gb201) (o:=.cells #[.int .u64 a2_0,.int .u64 a2_1] 88 (0,0)) (qK BK201) hb);have n2_:=qA (jd (g:=gb202) (o:=.cells #[.int .u64 0,.int .u64 0] 88 (0,0)) (qK BK202) hb);have n3_:=qA (jd (g:=gb203) (o:=.cells #[.int .u64 x204000_1,.int .u64 x204001_1] 88 (0,0)) (qK BK203) hb);have n4_:=qA (jX (qH HB) hb);clear BK200;clear BK201;clear BK202;clear BK203;clear HB;have BK200:=n0_;have BK201:=n1_;have BK202:=n2_;have BK203:=n3_;have HB:=n4_;clear n0_ n1_ n2_ n3_ n4_;(try clear hb);(try clear hb2);(try clear hk);(try clear hi);have hcz51_0:w50.cell? ⟨gb203,0,none⟩=some (.int .u64 x204000_1):=(jB BK203.out 0).trans rfl;have hcz51_1:w50.cell? ⟨gb203,1,none⟩=some (.int .u64 x204001_1):=(jB BK203.out 1).trans rfl;have hfz51_0:=jH BK203.out 0;have hfz51_1:=jH BK203.out 1;have hnb52:=NB201_200.out;have hnc52:=NB200_201.out;have hnb53:=NB201_202.out;have hnc53:=NB202_201.out;have hcz54_0:w50.cell? ⟨gb201,0,none⟩=some (.int .u64 a2_0):=(jB BK201.out 0).trans rfl;have hcz54_1:w50.cell? ⟨gb201,1,none⟩=some (.int .u64 a2_1):=(jB BK201.out 1).trans rfl;have hfz54_0:=jH BK201.out 0;have hfz54_1:=jH BK201.out 1)|((with_reducible refine jV (f:=145) rfl ?_);refine zB (some 25) rfl rfl Tryz.func145 (by kernel_rfl) rfl #[.agg #[.int .u64 a2_0,.int .u64 a2_1],.int .i64 x0_1] rfl (by (try simp only[List.map_toArray,List.map_cons,List.map_nil]);first|done|rfl|(simp only[List.length_drop,List.length_take];rfl)) ?_;(with_reducible refine(zy.calls k1 a2_0 a2_1 x0_1 false _ A30.out).mono ?_);rintro e w55 ⟨rfl,hb⟩;refine⟨_,rfl,?_⟩;have n0_:=qA (jd (g:=gb200) (o:=.cells #[.int .i64 a1_0,.int .i64 a1_1] 158 (0,0)) (by (with_reducible repeat (first|refine jQ ?_ _|refine jY ?_|refine jI ?_ _));refine jp ?_ NB200_203.out _;(with_reducible repeat (first|refine jQ ?_ _|refine jY ?_|refine jI ?_ _));refine jp ?_ NB200_203.out _;(with_reducible repeat (first|refine jQ ?_ _|refine jY ?_|refine jI ?_ _));exact BK200.out) hb);have n1_:=qA (jd (g:=gb201) (o:=.cells #[.int .u64 a2_0,.int .u64 a2_1] 88 (0,0)) (by (with_reducible repeat (first|refine jQ ?_ _|refine jY ?_|refine jI ?_ _));refine jp ?_ NB201_203.out _;(with_reducible repeat (first|refine jQ ?_ _|refine jY ?_|refine jI ?_ _));refine jp ?_ NB201_203.out _;(with_reducible repeat (first|refine jQ ?_ _|refine jY ?_|refine jI ?_ _));exact BK201.out) hb);have n2_:=qA (jd (g:=gb202) (o:=.cells #[.int .u64 0,.int .u64 0] 88 (0,0)) (by (with_reducible repeat (first|refine jQ ?_ _|refine jY ?_|refine jI ?_ _));refine jp ?_ NB202_203.out _;(with_reducible repeat (first|refine jQ ?_ _|refine jY ?_|refine jI ?_ _));refine jp ?_ NB202_203.out _;(with_reducible repeat (first|refine jQ ?_ _|refine jY ?_|refine jI ?_ _));exact BK202.out) hb);have n3_:=qA (jd (g:=gb203) (o:=.cells #[.int .u64 t205,.int .u64 t206] 88 (0,0)) (by (with_reducible repeat (first|refine jQ ?_ _|refine jY ?_|refine jI ?_ _));refine zS (cs:=#[.int .u64 t205,.int .u64 x204001_1]) ?_ 1 _ (by first|rfl|(simp [*];done));(with_reducible repeat (first|refine jQ ?_ _|refine jY ?_|refine jI ?_ _));refine zS (cs:=#[.int .u64 x204000_1,.int .u64 x204001_1]) ?_ 0 _ (by first|rfl|(simp [*];done));(with_reducible repeat (first|refine jQ ?_ _|refine jY ?_|refine jI ?_ _));exact BK203.out) hb);have n4_:=qA (jX (qH HB) hb);clear BK200;clear BK201;clear BK202;clear BK203;clear HB;have BK200:=n0_;have BK201:=n1_;have BK202:=n2_;have BK203:=n3_;have HB:=n4_;clear n0_ n1_ n2_ n3_ n4_;(try clear hb);(try clear hb2);(try clear hk);(try clear hi);have hnb56:=NB200_202.out;have hnc56:=NB202_200.out;have hcz57_0:w55.cell? ⟨gb200,0,none⟩=some (.int .i64 a1_0):=(jB BK200.out 0).trans rfl;have hcz57_1:w55.cell? ⟨gb200,1,none⟩=some (.int .i64 a1_1):=(jB BK200.out 1).trans rfl;have hfz57_0:=jH BK200.out 0;have hfz57_1:=jH BK200.out 1)|((with_reducible refine jV (f:=144) rfl ?_);refine zB (some 19) rfl rfl Tryz.func144 (by kernel_rfl) rfl #[.agg #[.int .i64 a1_0,.int .i64 a1_1],.int .i64 x0_1] rfl (by (try simp only[List.map_toArray,List.map_cons,List.map_nil]);first|done|rfl|(simp only[List.length_drop,List.length_take];rfl)) ?_;(with_reducible refine(zm.calls a1_0 a1_1 x0_1 t208 _ A45.out).mono ?_);rintro e w58 ⟨rfl,hb⟩;refine⟨_,rfl,?_⟩;have n0_:=qA (jd (g:=gb200) (o:=.cells #[.int .i64 a1_0,.int .i64 a1_1] 158 (0,0)) (qK BK200) hb);have n1_:=qA (jd (g:=gb201) (o:=.cells #[.int .u64 a2_0,.int .u64 a2_1] 88 (0,0)) (qK BK201) hb);have n2_:=qA (jd (g:=gb202) (o:=.cells #[.int .u64 0,.int .u64 0] 88 (0,0)) (qK BK202) hb);have n3_:=qA (jd (g:=gb203) (o:=.cells #[.int .u64 t205,.int .u64 t206] 88 (0,0)) (qK BK203) hb);have n4_:=qA (jX (qH HB) hb);clear BK200;clear BK201;clear BK202;clear BK203;clear HB;have BK200:=n0_;have BK201:=n1_;have BK202:=n2_;have BK203:=n3_;have HB:=n4_;clear n0_ n1_ n2_ n3_ n4_;(try clear hb);(try clear hb2);(try clear hk);(try clear hi)))
      go_roundg k1
      case measure=>have:=HK1.out;omega
      case rel=>exact⟨(t208),(t205),(t206),(by first|rfl|(simp;done)|(simp [*];done)),H',⟨by have:=HK1.out;omega⟩,⟨qK BK200⟩,⟨qK BK201⟩,⟨qK BK202⟩,⟨qK BK203⟩,⟨qH HB⟩⟩
    ·rw[if_neg c28] at H
     have c28b0:decide (0<=x0_1)=false:=decide_eq_false c28;clear c28;simp only[Option.some.injEq,Prod.mk.injEq] at H;obtain⟨rfl,rfl⟩:=H;have hnb59:=NB203_200.out;have hnc59:=NB200_203.out;have hnb60:=NB203_201.out;have hnc60:=NB201_203.out;have hnb61:=NB203_202.out;have hnc61:=NB202_203.out;have hcz62_0:wr.cell? ⟨gb203,0,none⟩=some (.int .u64 x204000_1):=(jB BK203.out 0).trans rfl;have hcz62_1:wr.cell? ⟨gb203,1,none⟩=some (.int .u64 x204001_1):=(jB BK203.out 1).trans rfl;have hfz62_0:=jH BK203.out 0;have hfz62_1:=jH BK203.out 1;have hnb63:=NB202_200.out;have hnc63:=NB200_202.out;have hnb64:=NB202_201.out;have hnc64:=NB201_202.out;have hcz65_0:wr.cell? ⟨gb202,0,none⟩=some (.int .u64 0):=(jB BK202.out 0).trans rfl;have hcz65_1:wr.cell? ⟨gb202,1,none⟩=some (.int .u64 0):=(jB BK202.out 1).trans rfl;have hfz65_0:=jH BK202.out 0;have hfz65_1:=jH BK202.out 1;go_wp2;refine bodyPost_ret (results_cell_row rfl _ _ gb202 88 #[.int .u64 x204000_1,.int .u64 x204001_1] (0,0) _ rfl (by (with_reducible repeat (first|refine jQ ?_ _|refine jY ?_|refine jI ?_ _));refine zS (cs:=#[.int .u64 x204000_1,.int .u64 0]) ?_ 1 _ (by first|rfl|(simp [*];done));(with_reducible repeat (first|refine jQ ?_ _|refine jY ?_|refine jI ?_ _));refine zS (cs:=#[.int .u64 0,.int .u64 0]) ?_ 0 _ (by first|rfl|(simp [*];done));(with_reducible repeat (first|refine jQ ?_ _|refine jY ?_|refine jI ?_ _));exact BK202.out) Tryz.underlying88 rfl (by kernel_rfl)) rfl ?_
     exact⟨by first|rfl|(simp [jL,jK]<;>rfl)|(simp [*,jL,jK]<;>rfl)|(simp [*,jL,jK];generalize ByteArray.toList _=q_;cases q_<;>rfl),qH HB⟩
end Go.Proofs.YtigenhbmgpfffaaGreatDoor.Pa
