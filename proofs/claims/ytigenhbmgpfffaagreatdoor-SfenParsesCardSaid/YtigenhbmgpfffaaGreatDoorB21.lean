import Derived.Test.YtigenhbmgpfffaaGreatDoorB20
set_option maxRecDepth 100000
set_option maxHeartbeats 16000000
namespace Go.Proofs.YtigenhbmgpfffaaGreatDoor.Pa
open Go.RowKit Go.Proofs.YtigenhbmgpfffaaGreatDoorW.PrintWords Go.Proofs.YtigenhbmgpfffaaGreatDoorW.PrintLast Go.Proofs.YtigenhbmgpfffaaGreatDoorW.PrintMore
attribute [local go_sem] yE yC yM yL zo zn yD yB
set_option linter.unusedVariables false
set_option linter.unusedSimpArgs false
mutual
def zF.j0:Nat->List (S158)->Int->Bool->Option ((List (S158)))
 | 0,_,_,_=>none
 | k+1,x3,x4,x22=>if x22=true then(some (([(⟨(-1),(-1)⟩:S158),(⟨0,(-1)⟩:S158),(⟨1,(-1)⟩:S158),(⟨(-1),0⟩:S158),(⟨1,0⟩:S158),(⟨0,1⟩:S158)]:List (S158)))) else(if x4=8 then((zF.f k 5).bind λt152=>((some (([(⟨(-1),1⟩:S158),(⟨1,1⟩:S158)]:List (S158)):List (S158))).bind λy155=>(if t152.length+y155.length<8796093022208 then(some (t152++y155)) else(none)))) else(if x4=14 then(some (([(⟨0,(-1)⟩:S158),(⟨(-1),0⟩:S158),(⟨1,0⟩:S158),(⟨0,1⟩:S158)]:List (S158)))) else(if x4=15 then(some (([(⟨(-1),(-1)⟩:S158),(⟨1,(-1)⟩:S158),(⟨(-1),1⟩:S158),(⟨1,1⟩:S158)]:List (S158)))) else(some x3))))
def zF.f:Nat->Int->Option ((List (S158)))
 | 0,_=>none
 | k+1,a0=>if a0=1 then(some (([(⟨0,(-1)⟩:S158)]:List (S158)))) else(if a0=3 then(some (([(⟨(-1),(-2)⟩:S158),(⟨1,(-2)⟩:S158)]:List (S158)))) else(if a0=4 then(some (([(⟨(-1),(-1)⟩:S158),(⟨0,(-1)⟩:S158),(⟨1,(-1)⟩:S158),(⟨(-1),1⟩:S158),(⟨1,1⟩:S158)]:List (S158)))) else(if a0=5 then(zF.j0 k ([]:List (S158)) a0 (a0==5)) else(if a0=9 then(zF.j0 k ([]:List (S158)) a0 (a0==9)) else(if a0=10 then(zF.j0 k ([]:List (S158)) a0 (a0==10)) else(if a0=11 then(zF.j0 k ([]:List (S158)) a0 (a0==11)) else(zF.j0 k ([]:List (S158)) a0 (a0==12))))))))
end
theorem zF.mono_l:∀k,(∀y0,LeO (zF.f k y0) (zF.f (k+1) y0))/\(∀y0 y1 y2,LeO (zF.j0 k y0 y1 y2) (zF.j0 (k+1) y0 y1 y2))
 | 0=>⟨λ_ r h=>by simp [zF.f] at h,λ_ _ _ r h=>by simp [zF.j0] at h⟩
 | k+1=>by
  obtain⟨ih0,ih1⟩:=zF.mono_l k;refine⟨?_,?_⟩
  ·intro y0
   unfold zF.f
   repeat' first
   | (with_reducible exact ih0 _)
   | (with_reducible exact ih1 _ _ _)
   | (with_reducible exact LeO.refl _)
   | (with_reducible exact LeO.none _)
   | (with_reducible refine LeO.ite ?_ ?_)
   | (with_reducible refine LeO.bind ?_ (λ_=>?_))
   | exact ih0 _
   | exact ih1 _ _ _
   | exact LeO.none _
   | refine LeO.ite ?_ ?_
   | refine LeO.bind ?_ (λ_=>?_)
  ·intro y0 y1 y2
   unfold zF.j0
   repeat' first
   | (with_reducible exact ih0 _)
   | (with_reducible exact ih1 _ _ _)
   | (with_reducible exact LeO.refl _)
   | (with_reducible exact LeO.none _)
   | (with_reducible refine LeO.ite ?_ ?_)
   | (with_reducible refine LeO.bind ?_ (λ_=>?_))
   | exact ih0 _
   | exact ih1 _ _ _
   | exact LeO.none _
   | refine LeO.ite ?_ ?_
   | refine LeO.bind ?_ (λ_=>?_)
theorem zF.mono:∀a0 k,LeO (zF.f k a0) (zF.f (k+1) a0):=by
 intro a0 k;obtain⟨ih0,ih1⟩:=zF.mono_l k;exact ih0 a0
theorem zF.calls (k:Nat):∀(a0:Int) (r:List (S158)) (w:World) (h:zF.f k a0=some r),
  Calls Tryz.prog 143 #[.int .i64 a0] w λe w'=>∃v0_:Value,e=.returned (v0_)/\Kd.R k158 158 w' w.heap.size (λ_=>True) v0_ r/\Below w.heap.size w w':=by
 induction k using Nat.strongRecOn with
 | _ k ih=>
 intro a0 r w h
 cases k with
 | zero=>exact absurd h (by simp [zF.f])
 | succ k=>
 simp only[zF.f] at h;have hu158:=Tryz.underlying158;have HB:=qA (Below.refl w.heap.size w);have H:(if a0=1 then(some (([(⟨0,(-1)⟩:S158)]:List (S158)))) else(if a0=3 then(some (([(⟨(-1),(-2)⟩:S158),(⟨1,(-2)⟩:S158)]:List (S158)))) else(if a0=4 then(some (([(⟨(-1),(-1)⟩:S158),(⟨0,(-1)⟩:S158),(⟨1,(-1)⟩:S158),(⟨(-1),1⟩:S158),(⟨1,1⟩:S158)]:List (S158)))) else(if a0=5 then(zF.j0 k ([]:List (S158)) a0 (a0==5)) else(if a0=9 then(zF.j0 k ([]:List (S158)) a0 (a0==9)) else(if a0=10 then(zF.j0 k ([]:List (S158)) a0 (a0==10)) else(if a0=11 then(zF.j0 k ([]:List (S158)) a0 (a0==11)) else(zF.j0 k ([]:List (S158)) a0 (a0==12)))))))))=some r:=h;clear h
 by_cases c2:a0=1
 ·rw[if_pos c2] at H
  have c2b0:(a0==1)=true:=beq_iff_eq.mpr c2;have c2b1:(a0 != 1)=false:=bne_eq_false_iff_eq.mpr c2;clear c2
  obtain⟨y140,hy140⟩:∃y_:List (S158),y_=(([(⟨0,(-1)⟩:S158)]:List (S158))):=⟨_,rfl⟩
  replace H:(some y140)=some r:=by first|(rw[hy140];with_reducible exact H)|(have H2_:=(Option.bind_some _ _).symm.trans H;rw[hy140];with_reducible exact H2_)|(have H2_:=(Option.bind_some _ _).symm.trans H;with_reducible exact H2_)|with_reducible exact H|(rw[hy140];exact H)|exact H
  have Ny140:=qA hy140;clear hy140;obtain rfl:=Option.some.inj H;go_enter Tryz.func143,Tryz.ntmps143
  go_wp2_with (first|((with_reducible refine jG (N:=8) rfl ?_);refine Kd.R_lit k158 _ 158 ?hg (N:=8) ?hd (xs:=([(⟨0,(-1)⟩:S158)]:List (S158))) (inner:=[.int .i64 0,.int .i64 (-1)]) (ok:=λ_=>True) (okp:=λ_=>True) ?hr ?hp (λ_ hk=>hk) trivial (Below.refl _ _) (Nat.le_refl _) (by simp) ?_;(case hd=>rfl);(case hg=>rfl);(case hr=>first|(go_simp;done)|(go_simp;rfl));(case hp=>exact(Reps.c2 (show Kd.M k158 _ _ _ (⟨0,(-1)⟩:S158) [.int .i64 0,.int .i64 (-1)] from(zV _ _ _ (⟨0,(-1)⟩:S158) )) (Reps.none _ _)));intro v141 w3 ho4 hb hg_ hnew_;clear hg_ hnew_;(first|rw[<- Ny140.out] at ho4|(simp only[Int.reduceToNat] at ho4;rw[<- Ny140.out] at ho4));have n0_:=qA (Kd.R_lower ho4 (jP (qH HB)));have n1_:=qA (jX (qH HB) hb);clear HB;have HO142:=n0_;have HB:=n1_;clear n0_ n1_;clear hb ho4))
  go_ret;exact⟨_,by first|rfl|(simp [jL,jK]<;>rfl)|(simp [*,jL,jK]<;>rfl),by (with_reducible repeat (first|apply Kd.R_alloc|apply Kd.R_drewN|apply Kd.R_drew));exact HO142.out,qH HB⟩
 ·rw[if_neg c2] at H
  have c2b0:(a0==1)=false:=beq_eq_false_iff_ne.mpr c2;have c2b1:(a0 != 1)=true:=bne_iff_ne.mpr c2
  by_cases c5:a0=3
  ·rw[if_pos c5] at H
   have c5b0:(a0==3)=true:=beq_iff_eq.mpr c5;have c5b1:(a0 != 3)=false:=bne_eq_false_iff_eq.mpr c5;clear c5
   obtain⟨y143,hy143⟩:∃y_:List (S158),y_=(([(⟨(-1),(-2)⟩:S158),(⟨1,(-2)⟩:S158)]:List (S158))):=⟨_,rfl⟩
   replace H:(some y143)=some r:=by first|(rw[hy143];with_reducible exact H)|(have H2_:=(Option.bind_some _ _).symm.trans H;rw[hy143];with_reducible exact H2_)|(have H2_:=(Option.bind_some _ _).symm.trans H;with_reducible exact H2_)|with_reducible exact H|(rw[hy143];exact H)|exact H
   have Ny143:=qA hy143;clear hy143;obtain rfl:=Option.some.inj H;go_enter Tryz.func143,Tryz.ntmps143
   go_wp2_with (first|((with_reducible refine jG (N:=13) rfl ?_);refine Kd.R_lit k158 _ 158 ?hg (N:=13) ?hd (xs:=([(⟨(-1),(-2)⟩:S158),(⟨1,(-2)⟩:S158)]:List (S158))) (inner:=[.int .i64 (-1),.int .i64 (-2),.int .i64 1,.int .i64 (-2)]) (ok:=λ_=>True) (okp:=λ_=>True) ?hr ?hp (λ_ hk=>hk) trivial (Below.refl _ _) (Nat.le_refl _) (by simp) ?_;(case hd=>rfl);(case hg=>rfl);(case hr=>first|(go_simp;done)|(go_simp;rfl));(case hp=>exact(Reps.c2 (show Kd.M k158 _ _ _ (⟨(-1),(-2)⟩:S158) [.int .i64 (-1),.int .i64 (-2)] from(zV _ _ _ (⟨(-1),(-2)⟩:S158) )) (Reps.c2 (show Kd.M k158 _ _ _ (⟨1,(-2)⟩:S158) [.int .i64 1,.int .i64 (-2)] from(zV _ _ _ (⟨1,(-2)⟩:S158) )) (Reps.none _ _))));intro v144 w6 ho7 hb hg_ hnew_;clear hg_ hnew_;(first|rw[<- Ny143.out] at ho7|(simp only[Int.reduceToNat] at ho7;rw[<- Ny143.out] at ho7));have n0_:=qA (Kd.R_lower ho7 (jP (qH HB)));have n1_:=qA (jX (qH HB) hb);clear HB;have HO145:=n0_;have HB:=n1_;clear n0_ n1_;clear hb ho7))
   go_ret;exact⟨_,by first|rfl|(simp [jL,jK]<;>rfl)|(simp [*,jL,jK]<;>rfl),by (with_reducible repeat (first|apply Kd.R_alloc|apply Kd.R_drewN|apply Kd.R_drew));exact HO145.out,qH HB⟩
  ·rw[if_neg c5] at H
   have c5b0:(a0==3)=false:=beq_eq_false_iff_ne.mpr c5;have c5b1:(a0 != 3)=true:=bne_iff_ne.mpr c5
   by_cases c8:a0=4
   ·rw[if_pos c8] at H
    have c8b0:(a0==4)=true:=beq_iff_eq.mpr c8;have c8b1:(a0 != 4)=false:=bne_eq_false_iff_eq.mpr c8;clear c8
    obtain⟨y146,hy146⟩:∃y_:List (S158),y_=(([(⟨(-1),(-1)⟩:S158),(⟨0,(-1)⟩:S158),(⟨1,(-1)⟩:S158),(⟨(-1),1⟩:S158),(⟨1,1⟩:S158)]:List (S158))):=⟨_,rfl⟩
    replace H:(some y146)=some r:=by first|(rw[hy146];with_reducible exact H)|(have H2_:=(Option.bind_some _ _).symm.trans H;rw[hy146];with_reducible exact H2_)|(have H2_:=(Option.bind_some _ _).symm.trans H;with_reducible exact H2_)|with_reducible exact H|(rw[hy146];exact H)|exact H
    have Ny146:=qA hy146;clear hy146;obtain rfl:=Option.some.inj H;go_enter Tryz.func143,Tryz.ntmps143
    go_wp2_with (first|((with_reducible refine jG (N:=21) rfl ?_);refine Kd.R_lit k158 _ 158 ?hg (N:=21) ?hd (xs:=([(⟨(-1),(-1)⟩:S158),(⟨0,(-1)⟩:S158),(⟨1,(-1)⟩:S158),(⟨(-1),1⟩:S158),(⟨1,1⟩:S158)]:List (S158))) (inner:=[.int .i64 (-1),.int .i64 (-1),.int .i64 0,.int .i64 (-1),.int .i64 1,.int .i64 (-1),.int .i64 (-1),.int .i64 1,.int .i64 1,.int .i64 1]) (ok:=λ_=>True) (okp:=λ_=>True) ?hr ?hp (λ_ hk=>hk) trivial (Below.refl _ _) (Nat.le_refl _) (by simp) ?_;(case hd=>rfl);(case hg=>rfl);(case hr=>first|(go_simp;done)|(go_simp;rfl));(case hp=>exact(Reps.c2 (show Kd.M k158 _ _ _ (⟨(-1),(-1)⟩:S158) [.int .i64 (-1),.int .i64 (-1)] from(zV _ _ _ (⟨(-1),(-1)⟩:S158) )) (Reps.c2 (show Kd.M k158 _ _ _ (⟨0,(-1)⟩:S158) [.int .i64 0,.int .i64 (-1)] from(zV _ _ _ (⟨0,(-1)⟩:S158) )) (Reps.c2 (show Kd.M k158 _ _ _ (⟨1,(-1)⟩:S158) [.int .i64 1,.int .i64 (-1)] from(zV _ _ _ (⟨1,(-1)⟩:S158) )) (Reps.c2 (show Kd.M k158 _ _ _ (⟨(-1),1⟩:S158) [.int .i64 (-1),.int .i64 1] from(zV _ _ _ (⟨(-1),1⟩:S158) )) (Reps.c2 (show Kd.M k158 _ _ _ (⟨1,1⟩:S158) [.int .i64 1,.int .i64 1] from(zV _ _ _ (⟨1,1⟩:S158) )) (Reps.none _ _)))))));intro v147 w9 ho10 hb hg_ hnew_;clear hg_ hnew_;(first|rw[<- Ny146.out] at ho10|(simp only[Int.reduceToNat] at ho10;rw[<- Ny146.out] at ho10));have n0_:=qA (Kd.R_lower ho10 (jP (qH HB)));have n1_:=qA (jX (qH HB) hb);clear HB;have HO148:=n0_;have HB:=n1_;clear n0_ n1_;clear hb ho10))
    go_ret;exact⟨_,by first|rfl|(simp [jL,jK]<;>rfl)|(simp [*,jL,jK]<;>rfl),by (with_reducible repeat (first|apply Kd.R_alloc|apply Kd.R_drewN|apply Kd.R_drew));exact HO148.out,qH HB⟩
   ·rw[if_neg c8] at H
    have c8b0:(a0==4)=false:=beq_eq_false_iff_ne.mpr c8;have c8b1:(a0 != 4)=true:=bne_iff_ne.mpr c8;have HC11:=qA H;clear H;go_enter Tryz.func143,Tryz.ntmps143
    go_upto_if 22 with(fail)
    go_cut [22] (λv22 wc=>∃(kq:Nat) (x22_10:Bool),v22=.bool x22_10/\Aside0 (zF.j0 kq ([]:List (S158)) a0 x22_10=some r)/\Aside0 (kq<=k)/\Aside0 (Kd.R k158 158 wc w.heap.size (λ_=>True) (.slice none 0 0) ([]:List (S158)))/\Aside0 (Below w.heap.size w wc))
    case first=>
     have H:=HC11.out;clear HC11
     by_cases c12:a0=5
     ·rw[if_pos c12] at H
      have c12b0:(a0==5)=true:=beq_iff_eq.mpr c12;have c12b1:(a0 != 5)=false:=bne_eq_false_iff_eq.mpr c12;clear c12
      (first|rw[c12b0]|(simp only[zP,zd];rw[c12b0])|skip)
      have H':=qA H;clear H;go_wp2;go_meet
      case rel=>exact⟨_,((a0==5)),(by first|rfl|(simp;done)|(simp [*];done)),H',⟨by first|omega|exact Nat.le_refl _⟩,⟨by first|exact Kd.R_nil _ _ _ _ _|exact Kd.N_nil _ _ _ _ _|exact Kd.V_nil _ _ _ _ _|exact Kd.Q_nil _ _ _ _ _|exact Kd.S_nil _ _ _ _ _⟩,⟨qH HB⟩⟩
     ·rw[if_neg c12] at H
      have c12b0:(a0==5)=false:=beq_eq_false_iff_ne.mpr c12;have c12b1:(a0 != 5)=true:=bne_iff_ne.mpr c12
      (first|rw[c12b0]|(simp only[zP,zd];rw[c12b0])|skip)
      by_cases c13:a0=9
      ·rw[if_pos c13] at H
       have c13b0:(a0==9)=true:=beq_iff_eq.mpr c13;have c13b1:(a0 != 9)=false:=bne_eq_false_iff_eq.mpr c13;clear c13;have H':=qA H;clear H;go_wp2;go_meet
       case rel=>exact⟨_,((a0==9)),(by first|rfl|(simp;done)|(simp [*];done)),H',⟨by first|omega|exact Nat.le_refl _⟩,⟨by first|exact Kd.R_nil _ _ _ _ _|exact Kd.N_nil _ _ _ _ _|exact Kd.V_nil _ _ _ _ _|exact Kd.Q_nil _ _ _ _ _|exact Kd.S_nil _ _ _ _ _⟩,⟨qH HB⟩⟩
      ·rw[if_neg c13] at H
       have c13b0:(a0==9)=false:=beq_eq_false_iff_ne.mpr c13;have c13b1:(a0 != 9)=true:=bne_iff_ne.mpr c13
       by_cases c14:a0=10
       ·rw[if_pos c14] at H
        have c14b0:(a0==10)=true:=beq_iff_eq.mpr c14;have c14b1:(a0 != 10)=false:=bne_eq_false_iff_eq.mpr c14;clear c14;have H':=qA H;clear H;go_wp2;go_meet
        case rel=>exact⟨_,((a0==10)),(by first|rfl|(simp;done)|(simp [*];done)),H',⟨by first|omega|exact Nat.le_refl _⟩,⟨by first|exact Kd.R_nil _ _ _ _ _|exact Kd.N_nil _ _ _ _ _|exact Kd.V_nil _ _ _ _ _|exact Kd.Q_nil _ _ _ _ _|exact Kd.S_nil _ _ _ _ _⟩,⟨qH HB⟩⟩
       ·rw[if_neg c14] at H
        have c14b0:(a0==10)=false:=beq_eq_false_iff_ne.mpr c14;have c14b1:(a0 != 10)=true:=bne_iff_ne.mpr c14
        by_cases c15:a0=11
        ·rw[if_pos c15] at H
         have c15b0:(a0==11)=true:=beq_iff_eq.mpr c15;have c15b1:(a0 != 11)=false:=bne_eq_false_iff_eq.mpr c15;clear c15;have H':=qA H;clear H;go_wp2;go_meet
         case rel=>exact⟨_,((a0==11)),(by first|rfl|(simp;done)|(simp [*];done)),H',⟨by first|omega|exact Nat.le_refl _⟩,⟨by first|exact Kd.R_nil _ _ _ _ _|exact Kd.N_nil _ _ _ _ _|exact Kd.V_nil _ _ _ _ _|exact Kd.Q_nil _ _ _ _ _|exact Kd.S_nil _ _ _ _ _⟩,⟨qH HB⟩⟩
        ·rw[if_neg c15] at H
         have c15b0:(a0==11)=false:=beq_eq_false_iff_ne.mpr c15;have c15b1:(a0 != 11)=true:=bne_iff_ne.mpr c15;have H':=qA H;clear H;go_wp2;go_meet
         case rel=>exact⟨_,((a0==12)),(by first|rfl|(simp;done)|(simp [*];done)),H',⟨by first|omega|exact Nat.le_refl _⟩,⟨by first|exact Kd.R_nil _ _ _ _ _|exact Kd.N_nil _ _ _ _ _|exact Kd.V_nil _ _ _ _ _|exact Kd.Q_nil _ _ _ _ _|exact Kd.S_nil _ _ _ _ _⟩,⟨qH HB⟩⟩
    case rest=>
     clear HC11
     try clear c1
     try clear c2
     try clear c2b0
     try clear c2b1
     try clear p2
     try clear c5
     try clear c5b0
     try clear c5b1
     try clear c8
     try clear c8b0
     try clear c8b1
     try clear c12
     try clear c12b0
     try clear c12b1
     try clear c13
     try clear c13b0
     try clear c13b1
     try clear c14
     try clear c14b0
     try clear c14b1
     try clear c15
     try clear c15b0
     try clear c15b1
     obtain⟨kq,x22_10,rfl,HA,HJ10,HO_3,HB⟩:=hcut
     cases kq with
     | zero=>exact absurd HA.out (by simp [zF.j0])
     | succ kj10=>
      have H:=HA.out;clear HA;simp only[zF.j0] at H
      by_cases c16:x22_10=true
      ·subst c16
       have H1:(some (([(⟨(-1),(-1)⟩:S158),(⟨0,(-1)⟩:S158),(⟨1,(-1)⟩:S158),(⟨(-1),0⟩:S158),(⟨1,0⟩:S158),(⟨0,1⟩:S158)]:List (S158))))=some r:=by rw[if_pos rfl] at H;exact H
       clear H;have H:=H1;clear H1
       obtain⟨y149,hy149⟩:∃y_:List (S158),y_=(([(⟨(-1),(-1)⟩:S158),(⟨0,(-1)⟩:S158),(⟨1,(-1)⟩:S158),(⟨(-1),0⟩:S158),(⟨1,0⟩:S158),(⟨0,1⟩:S158)]:List (S158))):=⟨_,rfl⟩
       replace H:(some y149)=some r:=by first|(rw[hy149];with_reducible exact H)|(have H2_:=(Option.bind_some _ _).symm.trans H;rw[hy149];with_reducible exact H2_)|(have H2_:=(Option.bind_some _ _).symm.trans H;with_reducible exact H2_)|with_reducible exact H|(rw[hy149];exact H)|exact H
       have Ny149:=qA hy149;clear hy149;obtain rfl:=Option.some.inj H
       go_wp2_with (first|((with_reducible refine jG (N:=34) rfl ?_);refine Kd.R_lit k158 _ 158 ?hg (N:=34) ?hd (xs:=([(⟨(-1),(-1)⟩:S158),(⟨0,(-1)⟩:S158),(⟨1,(-1)⟩:S158),(⟨(-1),0⟩:S158),(⟨1,0⟩:S158),(⟨0,1⟩:S158)]:List (S158))) (inner:=[.int .i64 (-1),.int .i64 (-1),.int .i64 0,.int .i64 (-1),.int .i64 1,.int .i64 (-1),.int .i64 (-1),.int .i64 0,.int .i64 1,.int .i64 0,.int .i64 0,.int .i64 1]) (ok:=λ_=>True) (okp:=λ_=>True) ?hr ?hp (λ_ hk=>hk) trivial (Below.refl _ _) (Nat.le_refl _) (by simp) ?_;(case hd=>rfl);(case hg=>rfl);(case hr=>first|(go_simp;done)|(go_simp;rfl));(case hp=>exact(Reps.c2 (show Kd.M k158 _ _ _ (⟨(-1),(-1)⟩:S158) [.int .i64 (-1),.int .i64 (-1)] from(zV _ _ _ (⟨(-1),(-1)⟩:S158) )) (Reps.c2 (show Kd.M k158 _ _ _ (⟨0,(-1)⟩:S158) [.int .i64 0,.int .i64 (-1)] from(zV _ _ _ (⟨0,(-1)⟩:S158) )) (Reps.c2 (show Kd.M k158 _ _ _ (⟨1,(-1)⟩:S158) [.int .i64 1,.int .i64 (-1)] from(zV _ _ _ (⟨1,(-1)⟩:S158) )) (Reps.c2 (show Kd.M k158 _ _ _ (⟨(-1),0⟩:S158) [.int .i64 (-1),.int .i64 0] from(zV _ _ _ (⟨(-1),0⟩:S158) )) (Reps.c2 (show Kd.M k158 _ _ _ (⟨1,0⟩:S158) [.int .i64 1,.int .i64 0] from(zV _ _ _ (⟨1,0⟩:S158) )) (Reps.c2 (show Kd.M k158 _ _ _ (⟨0,1⟩:S158) [.int .i64 0,.int .i64 1] from(zV _ _ _ (⟨0,1⟩:S158) )) (Reps.none _ _))))))));intro v150 w17 ho18 hb hg_ hnew_;clear hg_ hnew_;(first|rw[<- Ny149.out] at ho18|(simp only[Int.reduceToNat] at ho18;rw[<- Ny149.out] at ho18));have n0_:=qA (Kd.R_elder' (by (with_reducible repeat (first|apply Kd.R_alloc|apply Kd.R_drewN|apply Kd.R_drew));exact HO_3.out) (Kd.R_base ho18) hb);have n1_:=qA (Kd.R_lower (Kd.R_new' ho18 (Kd.R_lt (by (with_reducible repeat (first|apply Kd.R_alloc|apply Kd.R_drewN|apply Kd.R_drew));exact HO_3.out))) (jP (qH HB)));have n2_:=qA (jX (qH HB) hb);clear HO_3;clear HB;have HO_3:=n0_;have HO151:=n1_;have HB:=n2_;clear n0_ n1_ n2_;clear hb ho18))
       go_ret;exact⟨_,by first|rfl|(simp [jL,jK]<;>rfl)|(simp [*,jL,jK]<;>rfl),by (with_reducible repeat (first|apply Kd.R_alloc|apply Kd.R_drewN|apply Kd.R_drew));exact Kd.R_mono HO151.out (λ_ hk=>trivial),qH HB⟩
      ·replace c16:=Bool.eq_false_iff.mpr c16
       subst c16
       have H1:(if a0=8 then((zF.f kj10 5).bind λt152=>((some (([(⟨(-1),1⟩:S158),(⟨1,1⟩:S158)]:List (S158)):List (S158))).bind λy155=>(if t152.length+y155.length<8796093022208 then(some (t152++y155)) else(none)))) else(if a0=14 then(some (([(⟨0,(-1)⟩:S158),(⟨(-1),0⟩:S158),(⟨1,0⟩:S158),(⟨0,1⟩:S158)]:List (S158)))) else(if a0=15 then(some (([(⟨(-1),(-1)⟩:S158),(⟨1,(-1)⟩:S158),(⟨(-1),1⟩:S158),(⟨1,1⟩:S158)]:List (S158)))) else(some ([]:List (S158))))))=some r:=by rw[if_neg (show ¬(false=true) by decide)] at H;exact H
       clear H;have H:=H1;clear H1
       by_cases c19:a0=8
       ·rw[if_pos c19] at H
        have c19b0:(a0==8)=true:=beq_iff_eq.mpr c19;have c19b1:(a0 != 8)=false:=bne_eq_false_iff_eq.mpr c19;clear c19;replace H:=Option.bind_eq_some_iff.mp H;obtain⟨t152,A200,H⟩:=H;replace H:((some (([(⟨(-1),1⟩:S158),(⟨1,1⟩:S158)]:List (S158)):List (S158))).bind λy155=>(if t152.length+y155.length<8796093022208 then(some (t152++y155)) else(none)))=some r:=H;have A20:=qA A200;clear A200
        obtain⟨y155,hy155⟩:∃y_:List (S158),y_=(([(⟨(-1),1⟩:S158),(⟨1,1⟩:S158)]:List (S158))):=⟨_,rfl⟩
        replace H:(if t152.length+y155.length<8796093022208 then(some (t152++y155)) else(none))=some r:=by first|(rw[hy155];with_reducible exact H)|(have H2_:=(Option.bind_some _ _).symm.trans H;rw[hy155];with_reducible exact H2_)|(have H2_:=(Option.bind_some _ _).symm.trans H;with_reducible exact H2_)|with_reducible exact H|(rw[hy155];exact H)|exact H
        have Ny155:=qA hy155;clear hy155
        by_cases c21:t152.length+y155.length<8796093022208
        ·rw[if_pos c21] at H
         have LMc21:=qA c21;clear c21
         obtain⟨y158,hy158⟩:∃y_:List (S158),y_=(t152++y155):=⟨_,rfl⟩
         replace H:(some y158)=some r:=by first|(rw[hy158];with_reducible exact H)|(have H2_:=(Option.bind_some _ _).symm.trans H;rw[hy158];with_reducible exact H2_)|(have H2_:=(Option.bind_some _ _).symm.trans H;with_reducible exact H2_)|with_reducible exact H|(rw[hy158];exact H)|exact H
         have Ny158:=qA hy158;clear hy158;obtain rfl:=Option.some.inj H
         go_wp2_with (first|((with_reducible refine jV (f:=143) rfl ?_);refine zB (some 37) rfl rfl Tryz.func143 (by kernel_rfl) rfl #[.int .i64 5] rfl (by (try simp only[List.map_toArray,List.map_cons,List.map_nil]);first|done|rfl|(simp only[List.length_drop,List.length_take];rfl)) ?_;(with_reducible refine(ih kj10 (by have:=HJ10.out;omega) 5 t152 _ A20.out).mono ?_);rintro e w22 ⟨v153,rfl,ho0,hb⟩;refine⟨_,rfl,?_⟩;have n0_:=qA (Kd.R_elder' (by (with_reducible repeat (first|apply Kd.R_alloc|apply Kd.R_drewN|apply Kd.R_drew));exact HO_3.out) (Kd.R_base ho0) hb);have n1_:=qA (Kd.R_lower (Kd.R_new' ho0 (Kd.R_lt (by (with_reducible repeat (first|apply Kd.R_alloc|apply Kd.R_drewN|apply Kd.R_drew));exact HO_3.out))) (jP (qH HB)));have n2_:=qA (jX (qH HB) hb);clear HO_3;clear HB;have HO_3:=n0_;have HO154:=n1_;have HB:=n2_;clear n0_ n1_ n2_;(try clear hb);(try clear hb2);(try clear hk);(try clear hi);(try clear ho0))|((with_reducible refine jG (N:=40) rfl ?_);refine Kd.R_lit k158 _ 158 ?hg (N:=40) ?hd (xs:=([(⟨(-1),1⟩:S158),(⟨1,1⟩:S158)]:List (S158))) (inner:=[.int .i64 (-1),.int .i64 1,.int .i64 1,.int .i64 1]) (ok:=λ_=>True) (okp:=λ_=>True) ?hr ?hp (λ_ hk=>hk) trivial (Below.refl _ _) (Nat.le_refl _) (by simp) ?_;(case hd=>rfl);(case hg=>rfl);(case hr=>first|(go_simp;done)|(go_simp;rfl));(case hp=>exact(Reps.c2 (show Kd.M k158 _ _ _ (⟨(-1),1⟩:S158) [.int .i64 (-1),.int .i64 1] from(zV _ _ _ (⟨(-1),1⟩:S158) )) (Reps.c2 (show Kd.M k158 _ _ _ (⟨1,1⟩:S158) [.int .i64 1,.int .i64 1] from(zV _ _ _ (⟨1,1⟩:S158) )) (Reps.none _ _))));intro v156 w23 ho24 hb hg_ hnew_;clear hg_ hnew_;(first|rw[<- Ny155.out] at ho24|(simp only[Int.reduceToNat] at ho24;rw[<- Ny155.out] at ho24));have n0_:=qA (Kd.R_elder' (by (with_reducible repeat (first|apply Kd.R_alloc|apply Kd.R_drewN|apply Kd.R_drew));exact HO_3.out) (Kd.R_base ho24) hb);have n1_:=qA (Kd.R_elder' (by (with_reducible repeat (first|apply Kd.R_alloc|apply Kd.R_drewN|apply Kd.R_drew));exact HO154.out) (Kd.R_base ho24) hb);have n2_:=qA (Kd.R_lower (Kd.R_new' (Kd.R_new' ho24 (Kd.R_lt (by (with_reducible repeat (first|apply Kd.R_alloc|apply Kd.R_drewN|apply Kd.R_drew));exact HO_3.out))) (Kd.R_lt (by (with_reducible repeat (first|apply Kd.R_alloc|apply Kd.R_drewN|apply Kd.R_drew));exact HO154.out))) (jP (qH HB)));have n3_:=qA (jX (qH HB) hb);clear HO_3;clear HO154;clear HB;have HO_3:=n0_;have HO154:=n1_;have HO157:=n2_;have HB:=n3_;clear n0_ n1_ n2_ n3_;clear hb ho24;obtain⟨Ao26,co26,eo26⟩:=Kd.R_slice HO157.out;subst eo26)|((with_reducible refine jBJ (b:=.append) (xs:=#[.tmp 37,.tmp 40]) rfl ?_);at_builtin;refine Kd.R_append_rows k158 (w0:=w) w.heap.size rfl (.tmp 37) (.tmp 40) 155 158 (.agg #[(.int .i64 0),(.int .i64 0)]) 16 rfl Tryz.underlying155 info158 rfl (by decide) (by omega) v153 t152 y155 _ _ _ (λk_=>some k_≠(.slice none 0 0:Value).ownBlock/\some k_≠(.slice Ao26 y155.length co26:Value).ownBlock) (λ_=>False) rfl rfl ?aO ?aR (λ_ _ h=>h) (λ_ h=>h.elim) ?aF ?aB ?aS ?aL ?_;(case aR=>repeat (first|exact(Kd.R_reads' HO157.out).2.2|(with_reducible refine Kd.C_alloc ?_ _)|(with_reducible refine Kd.C_drewN ?_ _)|(with_reducible refine Kd.C_drew ?_)));(case aB=>exact(qH HB));(case aF=>exact(λk_ hk=>⟨Kd.fresh' (Kd.R_lt (by (with_reducible repeat (first|apply Kd.R_alloc|apply Kd.R_drewN|apply Kd.R_drew));exact HO_3.out)) k_ hk,Kd.fresh' (Kd.R_lt (by (with_reducible repeat (first|apply Kd.R_alloc|apply Kd.R_drewN|apply Kd.R_drew));exact HO157.out)) k_ hk⟩));(case aO=>exact(by (with_reducible repeat (first|apply Kd.R_alloc|apply Kd.R_drewN|apply Kd.R_drew));exact Kd.R_mono HO154.out (λ_ hk=>⟨hk.1.2,hk.2⟩)));(case aS=>exact(jP (qH HB)));(case aL=>have:=LMc21.out;omega);intro v159 w25 ho hb hg hat;rw[<- Ny158.out] at ho;have n0_:=qA (Kd.R_after (ok:=(λk_=>some k_≠(.slice Ao26 y155.length co26:Value).ownBlock)) (by (with_reducible repeat (first|apply Kd.R_alloc|apply Kd.R_drewN|apply Kd.R_drew));exact Kd.R_mono HO_3.out (λ_ hk=>⟨hk.2,hk.1.2⟩)) hg hat);have n1_:=qA (Kd.R_after (ok:=(λk_=>some k_≠(.slice none 0 0:Value).ownBlock)) (by (with_reducible repeat (first|apply Kd.R_alloc|apply Kd.R_drewN|apply Kd.R_drew));exact Kd.R_mono HO157.out (λ_ hk=>⟨hk.1.2,hk.2⟩)) hg hat);have n2_:=qA (hb);have n3_:=qA (ho);clear HO_3;clear HO157;clear HB;clear HO154;have HO_3:=n0_;have HO157:=n1_;have HB:=n2_;have HO160:=n3_;clear n0_ n1_ n2_ n3_;clear ho hb hg hat))
         go_ret;exact⟨_,by first|rfl|(simp [jL,jK]<;>rfl)|(simp [*,jL,jK]<;>rfl),by (with_reducible repeat (first|apply Kd.R_alloc|apply Kd.R_drewN|apply Kd.R_drew));exact Kd.R_mono HO160.out (λ_ hk=>trivial),qH HB⟩
        ·rw[if_neg c21] at H
         exact absurd H (by simp)
       ·rw[if_neg c19] at H
        have c19b0:(a0==8)=false:=beq_eq_false_iff_ne.mpr c19;have c19b1:(a0 != 8)=true:=bne_iff_ne.mpr c19
        by_cases c27:a0=14
        ·rw[if_pos c27] at H
         have c27b0:(a0==14)=true:=beq_iff_eq.mpr c27;have c27b1:(a0 != 14)=false:=bne_eq_false_iff_eq.mpr c27;clear c27
         obtain⟨y161,hy161⟩:∃y_:List (S158),y_=(([(⟨0,(-1)⟩:S158),(⟨(-1),0⟩:S158),(⟨1,0⟩:S158),(⟨0,1⟩:S158)]:List (S158))):=⟨_,rfl⟩
         replace H:(some y161)=some r:=by first|(rw[hy161];with_reducible exact H)|(have H2_:=(Option.bind_some _ _).symm.trans H;rw[hy161];with_reducible exact H2_)|(have H2_:=(Option.bind_some _ _).symm.trans H;with_reducible exact H2_)|with_reducible exact H|(rw[hy161];exact H)|exact H
         have Ny161:=qA hy161;clear hy161;obtain rfl:=Option.some.inj H
         go_wp2_with (first|((with_reducible refine jG (N:=48) rfl ?_);refine Kd.R_lit k158 _ 158 ?hg (N:=48) ?hd (xs:=([(⟨0,(-1)⟩:S158),(⟨(-1),0⟩:S158),(⟨1,0⟩:S158),(⟨0,1⟩:S158)]:List (S158))) (inner:=[.int .i64 0,.int .i64 (-1),.int .i64 (-1),.int .i64 0,.int .i64 1,.int .i64 0,.int .i64 0,.int .i64 1]) (ok:=λ_=>True) (okp:=λ_=>True) ?hr ?hp (λ_ hk=>hk) trivial (Below.refl _ _) (Nat.le_refl _) (by simp) ?_;(case hd=>rfl);(case hg=>rfl);(case hr=>first|(go_simp;done)|(go_simp;rfl));(case hp=>exact(Reps.c2 (show Kd.M k158 _ _ _ (⟨0,(-1)⟩:S158) [.int .i64 0,.int .i64 (-1)] from(zV _ _ _ (⟨0,(-1)⟩:S158) )) (Reps.c2 (show Kd.M k158 _ _ _ (⟨(-1),0⟩:S158) [.int .i64 (-1),.int .i64 0] from(zV _ _ _ (⟨(-1),0⟩:S158) )) (Reps.c2 (show Kd.M k158 _ _ _ (⟨1,0⟩:S158) [.int .i64 1,.int .i64 0] from(zV _ _ _ (⟨1,0⟩:S158) )) (Reps.c2 (show Kd.M k158 _ _ _ (⟨0,1⟩:S158) [.int .i64 0,.int .i64 1] from(zV _ _ _ (⟨0,1⟩:S158) )) (Reps.none _ _))))));intro v162 w28 ho29 hb hg_ hnew_;clear hg_ hnew_;(first|rw[<- Ny161.out] at ho29|(simp only[Int.reduceToNat] at ho29;rw[<- Ny161.out] at ho29));have n0_:=qA (Kd.R_elder' (by (with_reducible repeat (first|apply Kd.R_alloc|apply Kd.R_drewN|apply Kd.R_drew));exact HO_3.out) (Kd.R_base ho29) hb);have n1_:=qA (Kd.R_lower (Kd.R_new' ho29 (Kd.R_lt (by (with_reducible repeat (first|apply Kd.R_alloc|apply Kd.R_drewN|apply Kd.R_drew));exact HO_3.out))) (jP (qH HB)));have n2_:=qA (jX (qH HB) hb);clear HO_3;clear HB;have HO_3:=n0_;have HO163:=n1_;have HB:=n2_;clear n0_ n1_ n2_;clear hb ho29))
         go_ret;exact⟨_,by first|rfl|(simp [jL,jK]<;>rfl)|(simp [*,jL,jK]<;>rfl),by (with_reducible repeat (first|apply Kd.R_alloc|apply Kd.R_drewN|apply Kd.R_drew));exact Kd.R_mono HO163.out (λ_ hk=>trivial),qH HB⟩
        ·rw[if_neg c27] at H
         have c27b0:(a0==14)=false:=beq_eq_false_iff_ne.mpr c27;have c27b1:(a0 != 14)=true:=bne_iff_ne.mpr c27
         by_cases c30:a0=15
         ·rw[if_pos c30] at H
          have c30b0:(a0==15)=true:=beq_iff_eq.mpr c30;have c30b1:(a0 != 15)=false:=bne_eq_false_iff_eq.mpr c30;clear c30
          obtain⟨y164,hy164⟩:∃y_:List (S158),y_=(([(⟨(-1),(-1)⟩:S158),(⟨1,(-1)⟩:S158),(⟨(-1),1⟩:S158),(⟨1,1⟩:S158)]:List (S158))):=⟨_,rfl⟩
          replace H:(some y164)=some r:=by first|(rw[hy164];with_reducible exact H)|(have H2_:=(Option.bind_some _ _).symm.trans H;rw[hy164];with_reducible exact H2_)|(have H2_:=(Option.bind_some _ _).symm.trans H;with_reducible exact H2_)|with_reducible exact H|(rw[hy164];exact H)|exact H
          have Ny164:=qA hy164;clear hy164;obtain rfl:=Option.some.inj H
          go_wp2_with (first|((with_reducible refine jG (N:=55) rfl ?_);refine Kd.R_lit k158 _ 158 ?hg (N:=55) ?hd (xs:=([(⟨(-1),(-1)⟩:S158),(⟨1,(-1)⟩:S158),(⟨(-1),1⟩:S158),(⟨1,1⟩:S158)]:List (S158))) (inner:=[.int .i64 (-1),.int .i64 (-1),.int .i64 1,.int .i64 (-1),.int .i64 (-1),.int .i64 1,.int .i64 1,.int .i64 1]) (ok:=λ_=>True) (okp:=λ_=>True) ?hr ?hp (λ_ hk=>hk) trivial (Below.refl _ _) (Nat.le_refl _) (by simp) ?_;(case hd=>rfl);(case hg=>rfl);(case hr=>first|(go_simp;done)|(go_simp;rfl));(case hp=>exact(Reps.c2 (show Kd.M k158 _ _ _ (⟨(-1),(-1)⟩:S158) [.int .i64 (-1),.int .i64 (-1)] from(zV _ _ _ (⟨(-1),(-1)⟩:S158) )) (Reps.c2 (show Kd.M k158 _ _ _ (⟨1,(-1)⟩:S158) [.int .i64 1,.int .i64 (-1)] from(zV _ _ _ (⟨1,(-1)⟩:S158) )) (Reps.c2 (show Kd.M k158 _ _ _ (⟨(-1),1⟩:S158) [.int .i64 (-1),.int .i64 1] from(zV _ _ _ (⟨(-1),1⟩:S158) )) (Reps.c2 (show Kd.M k158 _ _ _ (⟨1,1⟩:S158) [.int .i64 1,.int .i64 1] from(zV _ _ _ (⟨1,1⟩:S158) )) (Reps.none _ _))))));intro v165 w31 ho32 hb hg_ hnew_;clear hg_ hnew_;(first|rw[<- Ny164.out] at ho32|(simp only[Int.reduceToNat] at ho32;rw[<- Ny164.out] at ho32));have n0_:=qA (Kd.R_elder' (by (with_reducible repeat (first|apply Kd.R_alloc|apply Kd.R_drewN|apply Kd.R_drew));exact HO_3.out) (Kd.R_base ho32) hb);have n1_:=qA (Kd.R_lower (Kd.R_new' ho32 (Kd.R_lt (by (with_reducible repeat (first|apply Kd.R_alloc|apply Kd.R_drewN|apply Kd.R_drew));exact HO_3.out))) (jP (qH HB)));have n2_:=qA (jX (qH HB) hb);clear HO_3;clear HB;have HO_3:=n0_;have HO166:=n1_;have HB:=n2_;clear n0_ n1_ n2_;clear hb ho32))
          go_ret;exact⟨_,by first|rfl|(simp [jL,jK]<;>rfl)|(simp [*,jL,jK]<;>rfl),by (with_reducible repeat (first|apply Kd.R_alloc|apply Kd.R_drewN|apply Kd.R_drew));exact Kd.R_mono HO166.out (λ_ hk=>trivial),qH HB⟩
         ·rw[if_neg c30] at H
          have c30b0:(a0==15)=false:=beq_eq_false_iff_ne.mpr c30;have c30b1:(a0 != 15)=true:=bne_iff_ne.mpr c30;obtain rfl:=Option.some.inj H;go_wp2;go_ret;exact⟨_,by first|rfl|(simp [jL,jK]<;>rfl)|(simp [*,jL,jK]<;>rfl),by (with_reducible repeat (first|apply Kd.R_alloc|apply Kd.R_drewN|apply Kd.R_drew));exact HO_3.out,qH HB⟩
def set_File.f (a0:Int):Option (Int):=some (wrap64 (Int.tdiv a0 9))
theorem set_File.calls (a0:Int) (r:Int) (w:World) (h:set_File.f a0=some r):
  Calls Tryz.prog 146 #[.int .i64 a0] w λe w'=>e=.returned (.int .i64 r)/\Drawn0 w w':=by
 have H:(some (wrap64 (Int.tdiv a0 9)))=some r:=h;clear h;obtain rfl:=Option.some.inj H;go_enter Tryz.func146,Tryz.ntmps146;go_wp2;go_ret;exact⟨by first|rfl|(simp;done)|(simp [*];done),by repeat (first|exact Drawn0.refl _|apply Drawn0.step)⟩
def zm.f (a0_0:Int) (a0_1:Int) (a1:Int):Option Int:=
 if a1<0 then some (-1) else if a1>=81 then some (-1) else if a0_0 < -8 then some (-1) else if a0_0>8 then some (-1) else if a0_1 < -8 then some (-1) else if a0_1>8 then some (-1)
 else zM.f (a1/9+a0_0) (a1%9+a0_1)
theorem zm.calls (a0_0:Int) (a0_1:Int) (a1:Int) (r:Int) (w:World) (h:zm.f a0_0 a0_1 a1=some r):
  Calls Tryz.prog 144 #[.agg #[.int .i64 a0_0,.int .i64 a0_1],.int .i64 a1] w λe w'=>e=.returned (.int .i64 r)/\Below w.heap.size w w':=by
 have hu:=Tryz.underlying158;unfold zm.f at h
 by_cases h1:a1<0
 ·rw[if_pos h1] at h
  obtain rfl:=Option.some.inj h;clear h;have b1:decide (a1<0)=true:=decide_eq_true h1;go_enter Tryz.func144,Tryz.ntmps144;go_wp2;go_ret;exact⟨rfl,(Below.refl _ w).alloc (Nat.le_refl _) _⟩
 rw[if_neg h1] at h;have b1:decide (a1<0)=false:=decide_eq_false h1
 by_cases h2:a1>=81
 ·rw[if_pos h2] at h
  obtain rfl:=Option.some.inj h;clear h;have b2:decide (81<=a1)=true:=decide_eq_true h2;go_enter Tryz.func144,Tryz.ntmps144;go_wp2;go_ret;exact⟨rfl,(Below.refl _ w).alloc (Nat.le_refl _) _⟩
 rw[if_neg h2] at h;have b2:decide (81<=a1)=false:=decide_eq_false h2
 by_cases h3:a0_0 < -8
 ·rw[if_pos h3] at h
  obtain rfl:=Option.some.inj h;clear h;have b3:decide (a0_0 < -8)=true:=decide_eq_true h3;go_enter Tryz.func144,Tryz.ntmps144;go_wp2;go_ret;exact⟨rfl,(Below.refl _ w).alloc (Nat.le_refl _) _⟩
 rw[if_neg h3] at h;have b3:decide (a0_0 < -8)=false:=decide_eq_false h3
 by_cases h4:a0_0>8
 ·rw[if_pos h4] at h
  obtain rfl:=Option.some.inj h;clear h;have b4:decide (8<a0_0)=true:=decide_eq_true h4;go_enter Tryz.func144,Tryz.ntmps144;go_wp2;go_ret;exact⟨rfl,(Below.refl _ w).alloc (Nat.le_refl _) _⟩
 rw[if_neg h4] at h;have b4:decide (8<a0_0)=false:=decide_eq_false h4
 by_cases h5:a0_1 < -8
 ·rw[if_pos h5] at h
  obtain rfl:=Option.some.inj h;clear h;have b5:decide (a0_1 < -8)=true:=decide_eq_true h5;go_enter Tryz.func144,Tryz.ntmps144;go_wp2;go_ret;exact⟨rfl,(Below.refl _ w).alloc (Nat.le_refl _) _⟩
 rw[if_neg h5] at h;have b5:decide (a0_1 < -8)=false:=decide_eq_false h5
 by_cases h6:a0_1>8
 ·rw[if_pos h6] at h
  obtain rfl:=Option.some.inj h;clear h;have b6:decide (8<a0_1)=true:=decide_eq_true h6;go_enter Tryz.func144,Tryz.ntmps144;go_wp2;go_ret;exact⟨rfl,(Below.refl _ w).alloc (Nat.le_refl _) _⟩
 rw[if_neg h6] at h;have b6:decide (8<a0_1)=false:=decide_eq_false h6
 obtain⟨x,hx⟩:∃x,a1/9=x:=⟨_,rfl⟩
 obtain⟨y,hy⟩:∃y,a1%9=y:=⟨_,rfl⟩
 have hx0:0<=x:=by omega
 have hx9:x<9:=by omega
 have hy0:0<=y:=by omega
 have hy9:y<9:=by omega
 have c1:set_File.f a1=some x:=by
  unfold set_File.f;rw[Int.tdiv_eq_ediv_of_nonneg (by omega),hx,show wrap64 x=x by unfold wrap64;omega]
 have c2:jAJ.f a1=some y:=by
  unfold jAJ.f;rw[Int.tmod_eq_emod_of_nonneg (by omega),hy]
 rw[hx,hy] at h;have HX:=Lib.hid hx;clear hx;have HY:=Lib.hid hy;clear hy;have C1:=Lib.hid c1;clear c1;have C2:=Lib.hid c2;clear c2;have HS:=Lib.hid h;clear h;have e1:IntKind.i64.wrap (x+a0_0)=x+a0_0:=IntWalk.i64_in _ (by omega);have e2:IntKind.i64.wrap (y+a0_1)=y+a0_1:=IntWalk.i64_in _ (by omega);go_enter Tryz.func144,Tryz.ntmps144;go_wp2
 go_quiet (first|(go_at_call 146;refine(set_File.calls _ _ _ C1.out).mono ?_;rintro e w' ⟨rfl,⟨nd,rfl⟩⟩;first|exact⟨rfl,_,World.drewN_drewN _ _ _⟩|exact⟨rfl,_,rfl⟩)|(go_at_call 135;refine(jAJ.calls _ _ _ C2.out).mono ?_;rintro e w' ⟨rfl,⟨nd,rfl⟩⟩;first|exact⟨rfl,_,World.drewN_drewN _ _ _⟩|exact⟨rfl,_,rfl⟩)|(go_at_call 20;refine(zM.calls _ _ _ _ HS.out).mono ?_;rintro e w' ⟨rfl,⟨nd,rfl⟩⟩;first|exact⟨rfl,_,World.drewN_drewN _ _ _⟩|exact⟨rfl,_,rfl⟩))
 go_wp2;go_ret;exact⟨rfl,zi ((Below.refl _ w).alloc (Nat.le_refl _) _) _⟩
def zT.l0:Nat->Int->Int->List (S158)->Int->Int->Int->Int->Option (Int×Int)
 | 0,_,_,_,_,_,_,_=>none
 | k+1,x0,x1,x10,x11,x12,x169000,x169001=>if x12<x11 then(if 0<=x12 then(if x12<(x10.length:Int) then((jv.f k x0).bind λt175=>((yK.f ((j8 x10 x12).f0) ((j8 x10 x12).f1) t175).bind λbt176=>((zm.f bt176.1 bt176.2 x1).bind λt178=>((jz.f k x169000 x169001 t178).bind λbt179=>(zT.l0 k x0 x1 x10 x11 (wrap64 (x12+1)) bt179.1 bt179.2))))) else(none)) else(none)) else(some (x169000,x169001))
def zT.f (k:Nat) (a0:Int) (a1:Int):Option (Int×Int):=(jS.f k a0).bind λt169=>((zF.f k t169).bind λt170=>(zT.l0 k a0 a1 t170 (t170.length:Int) 0 0 0))
theorem zT.mono_l:∀k,(∀y0 y1 y2 y3 y4 y5 y6,LeO (zT.l0 k y0 y1 y2 y3 y4 y5 y6) (zT.l0 (k+1) y0 y1 y2 y3 y4 y5 y6))
 | 0=>λ_ _ _ _ _ _ _ r h=>by simp [zT.l0] at h
 | k+1=>by
  have ih0:=zT.mono_l k
  ·intro y0 y1 y2 y3 y4 y5 y6
   unfold zT.l0
   repeat' first
   | (with_reducible exact ih0 _ _ _ _ _ _ _)
   | (with_reducible exact jS.mono _ _)
   | (with_reducible exact jv.mono _ _)
   | (with_reducible exact jz.mono _ _ _ _)
   | (with_reducible exact zF.mono _ _)
   | (with_reducible exact LeO.refl _)
   | (with_reducible exact LeO.none _)
   | (with_reducible refine LeO.ite ?_ ?_)
   | (with_reducible refine LeO.bind ?_ (λ_=>?_))
   | exact ih0 _ _ _ _ _ _ _
   | exact jS.mono _ _
   | exact jv.mono _ _
   | exact jz.mono _ _ _ _
   | exact zF.mono _ _
   | exact LeO.none _
   | refine LeO.ite ?_ ?_
   | refine LeO.bind ?_ (λ_=>?_)
theorem zT.mono:∀a0 a1 k,LeO (zT.f k a0 a1) (zT.f (k+1) a0 a1):=by
 intro a0 a1 k;have ih0:=zT.mono_l k;unfold zT.f
 repeat' first
   | (with_reducible exact ih0 _ _ _ _ _ _ _)
   | (with_reducible exact jS.mono _ _)
   | (with_reducible exact jv.mono _ _)
   | (with_reducible exact jz.mono _ _ _ _)
   | (with_reducible exact zF.mono _ _)
   | (with_reducible exact LeO.refl _)
   | (with_reducible exact LeO.none _)
   | (with_reducible refine LeO.ite ?_ ?_)
   | (with_reducible refine LeO.bind ?_ (λ_=>?_))
   | exact ih0 _ _ _ _ _ _ _
   | exact jS.mono _ _
   | exact jv.mono _ _
   | exact jz.mono _ _ _ _
   | exact zF.mono _ _
   | exact LeO.none _
   | refine LeO.ite ?_ ?_
   | refine LeO.bind ?_ (λ_=>?_)
def zT.T5:Bool×List (List Nat×List Nat):=(true,[([],[]),([],[]),([],[]),([2],[2]),([1,3,3],[1,3]),([],[]),([4,5,4],[4,5]),([0,6,6],[0,6]),([7,7,0,1,2,3,4,5,6,7],[7])])
def zT.B5:List Nat:=[0,0,0,4,14,0,62,127,255]
theorem zT.tab5:rtab .any (opsOf Tryz.f136 5)=zT.T5:=by kernel_rfl
theorem zT.bits5:waitsOk zT.T5.2 zT.B5=true:=by kernel_rfl
theorem zT.calls (k:Nat) (a0:Int) (a1:Int) (r1:Int) (r2:Int) (w:World) (h:zT.f k a0 a1=some (r1,r2)):
  Calls Tryz.prog 136 #[.int .i8 a0,.int .i64 a1] w λe w'=>e=.returned (.agg #[.int .u64 r1,.int .u64 r2])/\Below w.heap.size w w':=by
 have hu88:=Tryz.underlying88;have hu158:=Tryz.underlying158;have HB:=qA (Below.refl w.heap.size w);have H:((jS.f k a0).bind λt169=>((zF.f k t169).bind λt170=>(zT.l0 k a0 a1 t170 (t170.length:Int) 0 0 0)))=some (r1,r2):=h;clear h;replace H:=Option.bind_eq_some_iff.mp H;obtain⟨t169,A30,H⟩:=H;replace H:((zF.f k t169).bind λt170=>(zT.l0 k a0 a1 t170 (t170.length:Int) 0 0 0))=some (r1,r2):=H;have A3:=qA A30;clear A30;replace H:=Option.bind_eq_some_iff.mp H;obtain⟨t170,A40,H⟩:=H;replace H:(zT.l0 k a0 a1 t170 (t170.length:Int) 0 0 0)=some (r1,r2):=H;have A4:=qA A40;clear A40;have H':=qA H;clear H;go_enter Tryz.func136,Tryz.ntmps136
 go_wp2_with (first|((with_reducible refine jG (N:=4) rfl ?_);refine zI ?hg (N:=4) ?hd (cs:=#[.int .u64 0,.int .u64 0]) (t:=88) ?hr ?_;(case hd=>rfl);(case hg=>rfl);(case hr=>first|(go_simp;done)|(go_simp;rfl));intro gb167 hg w5 hbox hb;have n0_:=qA (jX (qH HB) hb);have n1_:=qA (hbox);have n2_:=qA ((by rw[hg];exact(jP (qH HB)):w.heap.size<=gb167));have n3_:=qA ((by rw[hg];exact(jP (qH HB)):w.heap.size<=gb167));clear HB;have HB:=n0_;have BK167:=n1_;have GW167:=n2_;have GE167:=n3_;clear n0_ n1_ n2_ n3_;clear hb hbox hg)|((with_reducible refine jG (N:=5) rfl ?_);refine zI ?hg (N:=5) ?hd (cs:=#[.int .u64 0,.int .u64 0]) (t:=88) ?hr ?_;(case hd=>rfl);(case hg=>rfl);(case hr=>first|(go_simp;done)|(go_simp;rfl));intro gb168 hg w6 hbox hb;have n0_:=qA (jd (g:=gb167) (o:=.cells #[.int .u64 0,.int .u64 0] 88 (0,0)) (qK BK167) hb);have n1_:=qA (jX (qH HB) hb);have n2_:=qA (hbox);have n3_:=qA ((by rw[hg];exact(jP (qH HB)):w.heap.size<=gb168));have n4_:=qA ((by rw[hg];exact(jP (qH HB)):w.heap.size<=gb168));have n5_:=qA ((by rw[hg];exact Nat.ne_of_lt (ju (g:=gb167) (o:=.cells #[.int .u64 0,.int .u64 0] 88 (0,0)) (qK BK167)):gb167≠gb168));have n6_:=qA ((by rw[hg];exact Nat.ne_of_gt (ju (g:=gb167) (o:=.cells #[.int .u64 0,.int .u64 0] 88 (0,0)) (qK BK167)):gb168≠gb167));clear BK167;clear HB;have BK167:=n0_;have HB:=n1_;have BK168:=n2_;have GW168:=n3_;have GE168:=n4_;have NB167_168:=n5_;have NB168_167:=n6_;clear n0_ n1_ n2_ n3_ n4_ n5_ n6_;clear hb hbox hg)|((with_reducible refine jV (f:=24) rfl ?_);refine zB (some 9) rfl rfl Tryz.func24 (by kernel_rfl) rfl #[.int .i8 a0] rfl (by (try simp only[List.map_toArray,List.map_cons,List.map_nil]);first|done|rfl|(simp only[List.length_drop,List.length_take];rfl)) ?_;(with_reducible refine(jS.calls k a0 t169 _ A3.out).mono ?_);rintro e w' ⟨rfl,⟨nd,rfl⟩⟩;refine⟨_,rfl,?_⟩)|((with_reducible refine jV (f:=143) rfl ?_);refine zB (some 10) rfl rfl Tryz.func143 (by kernel_rfl) rfl #[.int .i64 t169] rfl (by (try simp only[List.map_toArray,List.map_cons,List.map_nil]);first|done|rfl|(simp only[List.length_drop,List.length_take];rfl)) ?_;(with_reducible refine(zF.calls k t169 t170 _ A4.out).mono ?_);rintro e w7 ⟨v171,rfl,ho0,hb⟩;refine⟨_,rfl,?_⟩;have n0_:=qA (Kd.R_lower ho0 (jP (qH HB)));have n1_:=qA (jd (g:=gb167) (o:=.cells #[.int .u64 0,.int .u64 0] 88 (0,0)) (qK BK167) hb);have n2_:=qA (jd (g:=gb168) (o:=.cells #[.int .u64 0,.int .u64 0] 88 (0,0)) (qK BK168) hb);have n3_:=qA (jX (qH HB) hb);clear BK167;clear BK168;clear HB;have HO172:=n0_;have BK167:=n1_;have BK168:=n2_;have HB:=n3_;clear n0_ n1_ n2_ n3_;(try clear hb);(try clear hb2);(try clear hk);(try clear hi);(try clear ho0);obtain⟨Ao8,co8,eo8⟩:=Kd.R_slice HO172.out;subst eo8))
 go_loopg [12] k (λkq v12 w'=>∃(x12_1:Int) (x169000_1:Int) (x169001_1:Int),v12=.int .i64 x12_1/\Aside0 (zT.l0 kq a0 a1 t170 (t170.length:Int) x12_1 x169000_1 x169001_1=some (r1,r2))/\Aside0 (kq<=k)/\Aside0 (Kd.R k158 158 w' w.heap.size (λ_=>True) (.slice Ao8 t170.length co8) t170)/\Aside0 (w'.heap[gb167]?=some (.cells #[.int .u64 0,.int .u64 0] 88 (0,0)))/\Aside0 (w'.heap[gb168]?=some (.cells #[.int .u64 x169000_1,.int .u64 x169001_1] 88 (0,0)))/\Aside0 (Below w.heap.size w w'))
 case atStart=>exact⟨(0),(0),(0),(by first|rfl|(simp;done)|(simp [*];done)),H',⟨Nat.le_refl _⟩,⟨by (with_reducible repeat (first|apply Kd.R_alloc|apply Kd.R_drewN|apply Kd.R_drew));exact HO172.out⟩,⟨qK BK167⟩,⟨qK BK168⟩,⟨qH HB⟩⟩
 case round=>
  clear H'
  try clear c1
  try clear c2
  try clear p2
  obtain⟨x12_1,x169000_1,x169001_1,rfl,HA,HK1,HO_10,BK167,BK168,HB⟩:=hrel
  cases gk with
  | zero=>exact absurd HA.out (by simp [zT.l0])
  | succ k1=>
   have H:=HA.out;clear HA;simp only[zT.l0] at H
   by_cases c9:x12_1<(t170.length:Int)
   ·rw[if_pos c9] at H
    have c9b0:decide (x12_1<(t170.length:Int))=true:=decide_eq_true c9;clear c9
    by_cases c10:0<=x12_1
    ·rw[if_pos c10] at H
     have c10b0:decide (0<=x12_1)=true:=decide_eq_true c10;clear c10
     by_cases c11:x12_1<(t170.length:Int)
     ·rw[if_pos c11] at H
      have c11b0:decide (x12_1<(t170.length:Int))=true:=decide_eq_true c11;clear c11;replace H:=Option.bind_eq_some_iff.mp H;obtain⟨t175,A120,H⟩:=H;replace H:((yK.f ((j8 t170 x12_1).f0) ((j8 t170 x12_1).f1) t175).bind λbt176=>((zm.f bt176.1 bt176.2 a1).bind λt178=>((jz.f k1 x169000_1 x169001_1 t178).bind λbt179=>(zT.l0 k1 a0 a1 t170 (t170.length:Int) (wrap64 (x12_1+1)) bt179.1 bt179.2))))=some (r1,r2):=H;have A12:=qA A120;clear A120;replace H:=Option.bind_eq_some_iff.mp H;obtain⟨⟨t176,t177⟩,A130,H⟩:=H;replace H:((zm.f t176 t177 a1).bind λt178=>((jz.f k1 x169000_1 x169001_1 t178).bind λbt179=>(zT.l0 k1 a0 a1 t170 (t170.length:Int) (wrap64 (x12_1+1)) bt179.1 bt179.2)))=some (r1,r2):=H;have A13:=qA A130;clear A130;replace H:=Option.bind_eq_some_iff.mp H;obtain⟨t178,A140,H⟩:=H;replace H:((jz.f k1 x169000_1 x169001_1 t178).bind λbt179=>(zT.l0 k1 a0 a1 t170 (t170.length:Int) (wrap64 (x12_1+1)) bt179.1 bt179.2))=some (r1,r2):=H;have A14:=qA A140;clear A140;replace H:=Option.bind_eq_some_iff.mp H;obtain⟨⟨t179,t180⟩,A150,H⟩:=H;replace H:(zT.l0 k1 a0 a1 t170 (t170.length:Int) (wrap64 (x12_1+1)) t179 t180)=some (r1,r2):=H;have A15:=qA A150;clear A150;have H':=qA H;clear H;have p173:0<=(x12_1:Int):=of_decide_eq_true (by first|(with_reducible assumption)|assumption)
      have q173:x12_1<(t170.length:Int):=of_decide_eq_true (by first|(with_reducible assumption)|assumption);obtain⟨ad173,e173,hx173_0,hx173_1⟩:=at_T158 (Kd.R_reads' HO_10.out).2.2 x12_1 p173 q173
      cases e173
      replace p173:=eq_true p173;replace q173:=eq_true q173
      try go_wp2_with (first|((with_reducible refine jG (N:=7) rfl ?_);refine zI ?hg (N:=7) ?hd (cs:=#[.int .i64 0,.int .i64 0]) (t:=158) ?hr ?_;(case hd=>rfl);(case hg=>rfl);(case hr=>first|(go_simp;done)|(go_simp;rfl));intro gb174 hg w16 hbox hb;have n0_:=qA (Kd.R_below (Kd.R_elderB (by (with_reducible repeat (first|apply Kd.R_alloc|apply Kd.R_drewN|apply Kd.R_drew));exact HO_10.out) gb174 (Nat.le_of_eq hg.symm)) hb);have n1_:=qA (jd (g:=gb167) (o:=.cells #[.int .u64 0,.int .u64 0] 88 (0,0)) (qK BK167) hb);have n2_:=qA (jd (g:=gb168) (o:=.cells #[.int .u64 x169000_1,.int .u64 x169001_1] 88 (0,0)) (qK BK168) hb);have n3_:=qA (jX (qH HB) hb);have n4_:=qA (hbox);have n5_:=qA ((by rw[hg];exact(jP (qH HB)):w.heap.size<=gb174));have n6_:=qA ((by rw[hg];exact(jP (qH HB)):w.heap.size<=gb174));have n7_:=qA ((by rw[hg];exact Nat.ne_of_lt (ju (g:=gb167) (o:=.cells #[.int .u64 0,.int .u64 0] 88 (0,0)) (qK BK167)):gb167≠gb174));have n8_:=qA ((by rw[hg];exact Nat.ne_of_gt (ju (g:=gb167) (o:=.cells #[.int .u64 0,.int .u64 0] 88 (0,0)) (qK BK167)):gb174≠gb167));have n9_:=qA ((by rw[hg];exact Nat.ne_of_lt (ju (g:=gb168) (o:=.cells #[.int .u64 x169000_1,.int .u64 x169001_1] 88 (0,0)) (qK BK168)):gb168≠gb174));have n10_:=qA ((by rw[hg];exact Nat.ne_of_gt (ju (g:=gb168) (o:=.cells #[.int .u64 x169000_1,.int .u64 x169001_1] 88 (0,0)) (qK BK168)):gb174≠gb168));clear HO_10;clear BK167;clear BK168;clear HB;have HO_10:=n0_;have BK167:=n1_;have BK168:=n2_;have HB:=n3_;have BK174:=n4_;have GW174:=n5_;have GE174:=n6_;have NB167_174:=n7_;have NB174_167:=n8_;have NB168_174:=n9_;have NB174_168:=n10_;clear n0_ n1_ n2_ n3_ n4_ n5_ n6_ n7_ n8_ n9_ n10_;clear hb hbox hg;have hnb17:=NB174_167.out;have hnc17:=NB167_174.out;have hnb18:=NB174_168.out;have hnc18:=NB168_174.out;have hcz19_0:w16.cell? ⟨gb174,0,none⟩=some (.int .i64 0):=(jB BK174.out 0).trans rfl;have hcz19_1:w16.cell? ⟨gb174,1,none⟩=some (.int .i64 0):=(jB BK174.out 1).trans rfl;have hfz19_0:=jH BK174.out 0;have hfz19_1:=jH BK174.out 1))
      have n0_:Aside0 (Kd.R k158 158 ((w16.setCell ⟨gb174,0,none⟩ (.int .i64 ((j8 t170 x12_1).f0))).setCell ⟨gb174,1,none⟩ (.int .i64 ((j8 t170 x12_1).f1))) w.heap.size (λk_=>k_≠gb174) (.slice (some ad173) t170.length co8) t170):=⟨by (with_reducible repeat (first|apply Kd.R_alloc|apply Kd.R_drewN|apply Kd.R_drew));exact Kd.R_mono (Kd.R_far (p:=⟨gb174,1,none⟩) (Kd.R_far (p:=⟨gb174,0,none⟩) (Kd.R_mono HO_10.out (λk_ hk=>(⟨hk,hk.2⟩:_/\k_≠gb174))) (λ_ hk=>hk.2) (.int .i64 ((j8 t170 x12_1).f0))) (λ_ hk=>hk.2) (.int .i64 ((j8 t170 x12_1).f1))) (λ_ hk=>hk.1.2)⟩
      have n1_:Aside0 (((w16.setCell ⟨gb174,0,none⟩ (.int .i64 ((j8 t170 x12_1).f0))).setCell ⟨gb174,1,none⟩ (.int .i64 ((j8 t170 x12_1).f1))).heap[gb167]?=some (.cells #[.int .u64 0,.int .u64 0] 88 (0,0))):=⟨by (with_reducible repeat (first|refine jQ ?_ _|refine jY ?_|refine jI ?_ _));refine jp ?_ NB167_174.out _;(with_reducible repeat (first|refine jQ ?_ _|refine jY ?_|refine jI ?_ _));refine jp ?_ NB167_174.out _;(with_reducible repeat (first|refine jQ ?_ _|refine jY ?_|refine jI ?_ _));exact BK167.out⟩
      have n2_:Aside0 (((w16.setCell ⟨gb174,0,none⟩ (.int .i64 ((j8 t170 x12_1).f0))).setCell ⟨gb174,1,none⟩ (.int .i64 ((j8 t170 x12_1).f1))).heap[gb168]?=some (.cells #[.int .u64 x169000_1,.int .u64 x169001_1] 88 (0,0))):=⟨by (with_reducible repeat (first|refine jQ ?_ _|refine jY ?_|refine jI ?_ _));refine jp ?_ NB168_174.out _;(with_reducible repeat (first|refine jQ ?_ _|refine jY ?_|refine jI ?_ _));refine jp ?_ NB168_174.out _;(with_reducible repeat (first|refine jQ ?_ _|refine jY ?_|refine jI ?_ _));exact BK168.out⟩
      have n3_:Aside0 (((w16.setCell ⟨gb174,0,none⟩ (.int .i64 ((j8 t170 x12_1).f0))).setCell ⟨gb174,1,none⟩ (.int .i64 ((j8 t170 x12_1).f1))).heap[gb174]?=some (.cells #[.int .i64 ((j8 t170 x12_1).f0),.int .i64 ((j8 t170 x12_1).f1)] 158 (0,0))):=⟨by (with_reducible repeat (first|refine jQ ?_ _|refine jY ?_|refine jI ?_ _));refine zS (cs:=#[.int .i64 ((j8 t170 x12_1).f0),.int .i64 0]) ?_ 1 _ (by first|rfl|(simp [*];done));(with_reducible repeat (first|refine jQ ?_ _|refine jY ?_|refine jI ?_ _));refine zS (cs:=#[.int .i64 0,.int .i64 0]) ?_ 0 _ (by first|rfl|(simp [*];done));(with_reducible repeat (first|refine jQ ?_ _|refine jY ?_|refine jI ?_ _));exact BK174.out⟩
      have n4_:Aside0 (Below w.heap.size w ((w16.setCell ⟨gb174,0,none⟩ (.int .i64 ((j8 t170 x12_1).f0))).setCell ⟨gb174,1,none⟩ (.int .i64 ((j8 t170 x12_1).f1)))):=⟨qH HB⟩
      (try clear HO_10)
      (try clear BK167)
      (try clear BK168)
      (try clear BK174)
      (try clear HB)
      generalize ((w16.setCell ⟨gb174,0,none⟩ (.int .i64 ((j8 t170 x12_1).f0))).setCell ⟨gb174,1,none⟩ (.int .i64 ((j8 t170 x12_1).f1)))=w20 at n0_ n1_ n2_ n3_ n4_ ⊢;have HO_10:=n0_;have BK167:=n1_;have BK168:=n2_;have BK174:=n3_;have HB:=n4_;clear n0_ n1_ n2_ n3_ n4_;have n0_:=qA (Kd.R_drew HO_10.out);have n1_:=qD BK167;have n2_:=qD BK168;have n3_:=qD BK174;have n4_:=qA (jAN HB.out);clear HO_10;clear BK167;clear BK168;clear BK174;clear HB;have HO_10:=n0_;have BK167:=n1_;have BK168:=n2_;have BK174:=n3_;have HB:=n4_;clear n0_ n1_ n2_ n3_ n4_;refine start_ (n:=9) (S:=λw'=>w'.cell? ⟨gb168,0,none⟩=some (.int .u64 x169000_1)/\w'.cell? ⟨gb168,1,none⟩=some (.int .u64 x169001_1)/\w'.cell? ⟨gb174,0,none⟩=some (.int .i64 ((j8 t170 x12_1).f0))/\w'.cell? ⟨gb174,1,none⟩=some (.int .i64 ((j8 t170 x12_1).f1))) (ds:=[8]) #[false,false,false,false,false,false,false,false,false] (by kernel_rfl) rfl rfl ⟨(jB BK168.out 0).trans rfl,(jB BK168.out 1).trans rfl,(jB BK174.out 0).trans rfl,(jB BK174.out 1).trans rfl⟩ (λhHeld=>?_);refine with_tabW zT.tab5 zT.bits5 (λHT_ HW_=>?_);generalize w20.drew=w21 at HO_10 BK167 BK168 BK174 HB hHeld ⊢;refine pure_ (i:=2) (N:=some 18) (v:=?_) (a':=?_) #[false,false,true,false,false,false,false,false,false] rfl rfl (any_of HT_.out (by kernel_rfl)) (λ_ _ _ h=>h) (Or.inl ⟨by rfl,?_⟩) ?_ ?_
      rotate_left
      ·intro w'
       go_simp
       with_reducible rfl
      rotate_left
      ·simp only[Act.put,List.setIfInBounds_toArray,List.set_cons_zero,List.set_cons_succ,zP,zd]
       rfl
      refine pure_ (i:=5) (N:=some 21) (v:=?_) (a':=?_) #[false,false,true,false,false,true,false,false,false] rfl rfl (any_of HT_.out (by kernel_rfl)) (λ_ _ _ h=>h) (Or.inl ⟨by rfl,?_⟩) ?_ ?_
      rotate_left
      ·intro w'
       go_simp
       with_reducible rfl
      rotate_left
      ·simp only[Act.put,List.setIfInBounds_toArray,List.set_cons_zero,List.set_cons_succ,zP,zd]
       rfl
      refine take_ (i:=0) (N:=some 16) (v:=?_) (a':=?_) #[true,false,true,false,false,true,false,false,false] rfl rfl (take_ofW HT_.out HW_.out (by kernel_rfl)) (λ_ _ _ h=>h) (Or.inl ⟨by rfl,?_⟩) hHeld ?_ ?_
      rotate_left
      ·rintro w' ⟨s0,s1,s2,s3⟩
       go_simp
       with_reducible rfl
      rotate_left
      ·simp only[Act.put,List.setIfInBounds_toArray,List.set_cons_zero,List.set_cons_succ,zP,zd]
       rfl
      refine take_ (i:=1) (N:=some 17) (v:=?_) (a':=?_) #[true,true,true,false,false,true,false,false,false] rfl rfl (take_ofW HT_.out HW_.out (by kernel_rfl)) (λ_ _ _ h=>h) (Or.inl ⟨by rfl,?_⟩) hHeld ?_ ?_
      rotate_left
      ·rintro w' ⟨s0,s1,s2,s3⟩
       go_simp
       with_reducible rfl
      rotate_left
      ·simp only[Act.put,List.setIfInBounds_toArray,List.set_cons_zero,List.set_cons_succ,zP,zd]
       rfl
      refine one_ (i:=3) (N:=some 19) #[true,true,true,true,false,true,false,false,false] rfl rfl (jBZ HT_.out (by kernel_rfl)) (by decide) (λK hK=>?_);refine jBF Tryz.func48 (by kernel_rfl) rfl #[.int .i8 a0] (by rfl) rfl rfl (by (try simp only[List.map_toArray,List.map_cons,List.map_nil]);first|done|rfl|(simp only[List.length_drop,List.length_take];rfl)) ?_
      with_reducible refine(jv.calls k1 a0 t175 _ A12.out).mono ?_
      rintro e w' ⟨rfl,⟨nd,rfl⟩⟩;refine⟨_,rfl,?_⟩;refine hK.out _ _ ⟨(jB BK168.out 0).trans rfl,(jB BK168.out 1).trans rfl,(jB BK174.out 0).trans rfl,(jB BK174.out 1).trans rfl⟩ (λhHeld=>?_);clear hK K;refine jBD (a':=?_) ?_ ?_
      rotate_left
      ·show Act.put _ (some 19) _=_
       simp only[Act.put,List.setIfInBounds_toArray,List.set_cons_zero,List.set_cons_succ,zP,zd]
       rfl
      refine one_ (i:=4) (N:=some 20) #[true,true,true,true,true,true,false,false,false] rfl rfl (jBZ HT_.out (by kernel_rfl)) (by decide) (λK hK=>?_);refine jBF Tryz.func139 (by kernel_rfl) rfl #[.agg #[.int .i64 ((j8 t170 x12_1).f0),.int .i64 ((j8 t170 x12_1).f1)],.int .i64 t175] (by rfl) rfl rfl (by (try simp only[List.map_toArray,List.map_cons,List.map_nil]);first|done|rfl|(simp only[List.length_drop,List.length_take];rfl)) ?_
      with_reducible refine(yK.calls ((j8 t170 x12_1).f0) ((j8 t170 x12_1).f1) t175 t176 t177 _ A13.out).mono ?_
      rintro e w22 ⟨rfl,hb⟩;refine⟨_,rfl,?_⟩;have n0_:=qA (Kd.R_below (by (with_reducible repeat (first|apply Kd.R_alloc|apply Kd.R_drewN|apply Kd.R_drew));exact HO_10.out) hb);have n1_:=qA (jd (g:=gb167) (o:=.cells #[.int .u64 0,.int .u64 0] 88 (0,0)) (qK BK167) hb);have n2_:=qA (jd (g:=gb168) (o:=.cells #[.int .u64 x169000_1,.int .u64 x169001_1] 88 (0,0)) (qK BK168) hb);have n3_:=qA (jd (g:=gb174) (o:=.cells #[.int .i64 ((j8 t170 x12_1).f0),.int .i64 ((j8 t170 x12_1).f1)] 158 (0,0)) (qK BK174) hb);have n4_:=qA (jX (qH HB) hb);clear HO_10;clear BK167;clear BK168;clear BK174;clear HB;have HO_10:=n0_;have BK167:=n1_;have BK168:=n2_;have BK174:=n3_;have HB:=n4_;clear n0_ n1_ n2_ n3_ n4_
      (try clear hb)
      (try clear hb2)
      (try clear hk)
      (try clear hi)
      refine hK.out _ _ ⟨(jB BK168.out 0).trans rfl,(jB BK168.out 1).trans rfl,(jB BK174.out 0).trans rfl,(jB BK174.out 1).trans rfl⟩ (λhHeld=>?_);clear hK K;refine jBD (a':=?_) ?_ ?_
      rotate_left
      ·show Act.put _ (some 20) _=_
       simp only[Act.put,List.setIfInBounds_toArray,List.set_cons_zero,List.set_cons_succ,zP,zd]
       rfl
      refine one_ (i:=6) (N:=some 22) #[true,true,true,true,true,true,true,false,false] rfl rfl (jBZ HT_.out (by kernel_rfl)) (by decide) (λK hK=>?_);refine jBF Tryz.func144 (by kernel_rfl) rfl #[.agg #[.int .i64 t176,.int .i64 t177],.int .i64 a1] (by rfl) rfl rfl (by (try simp only[List.map_toArray,List.map_cons,List.map_nil]);first|done|rfl|(simp only[List.length_drop,List.length_take];rfl)) ?_
      with_reducible refine(zm.calls t176 t177 a1 t178 _ A14.out).mono ?_
      rintro e w23 ⟨rfl,hb⟩;refine⟨_,rfl,?_⟩;have n0_:=qA (Kd.R_below (by (with_reducible repeat (first|apply Kd.R_alloc|apply Kd.R_drewN|apply Kd.R_drew));exact HO_10.out) hb);have n1_:=qA (jd (g:=gb167) (o:=.cells #[.int .u64 0,.int .u64 0] 88 (0,0)) (qK BK167) hb);have n2_:=qA (jd (g:=gb168) (o:=.cells #[.int .u64 x169000_1,.int .u64 x169001_1] 88 (0,0)) (qK BK168) hb);have n3_:=qA (jd (g:=gb174) (o:=.cells #[.int .i64 ((j8 t170 x12_1).f0),.int .i64 ((j8 t170 x12_1).f1)] 158 (0,0)) (qK BK174) hb);have n4_:=qA (jX (qH HB) hb);clear HO_10;clear BK167;clear BK168;clear BK174;clear HB;have HO_10:=n0_;have BK167:=n1_;have BK168:=n2_;have BK174:=n3_;have HB:=n4_;clear n0_ n1_ n2_ n3_ n4_
      (try clear hb)
      (try clear hb2)
      (try clear hk)
      (try clear hi)
      refine hK.out _ _ ⟨(jB BK168.out 0).trans rfl,(jB BK168.out 1).trans rfl,(jB BK174.out 0).trans rfl,(jB BK174.out 1).trans rfl⟩ (λhHeld=>?_);clear hK K;refine jBD (a':=?_) ?_ ?_
      rotate_left
      ·show Act.put _ (some 22) _=_
       simp only[Act.put,List.setIfInBounds_toArray,List.set_cons_zero,List.set_cons_succ,zP,zd]
       rfl
      refine one_ (i:=7) (N:=some 23) #[true,true,true,true,true,true,true,true,false] rfl rfl (jBZ HT_.out (by kernel_rfl)) (by decide) (λK hK=>?_);refine jBF Tryz.func99 (by kernel_rfl) rfl #[.agg #[.int .u64 x169000_1,.int .u64 x169001_1],.int .i64 t178] (by rfl) rfl rfl (by (try simp only[List.map_toArray,List.map_cons,List.map_nil]);first|done|rfl|(simp only[List.length_drop,List.length_take];rfl)) ?_
      with_reducible refine(jz.calls k1 x169000_1 x169001_1 t178 t179 t180 _ A15.out).mono ?_
      rintro e w24 ⟨rfl,hb⟩;refine⟨_,rfl,?_⟩;have n0_:=qA (Kd.R_below (by (with_reducible repeat (first|apply Kd.R_alloc|apply Kd.R_drewN|apply Kd.R_drew));exact HO_10.out) hb);have n1_:=qA (jd (g:=gb167) (o:=.cells #[.int .u64 0,.int .u64 0] 88 (0,0)) (qK BK167) hb);have n2_:=qA (jd (g:=gb168) (o:=.cells #[.int .u64 x169000_1,.int .u64 x169001_1] 88 (0,0)) (qK BK168) hb);have n3_:=qA (jd (g:=gb174) (o:=.cells #[.int .i64 ((j8 t170 x12_1).f0),.int .i64 ((j8 t170 x12_1).f1)] 158 (0,0)) (qK BK174) hb);have n4_:=qA (jX (qH HB) hb);clear HO_10;clear BK167;clear BK168;clear BK174;clear HB;have HO_10:=n0_;have BK167:=n1_;have BK168:=n2_;have BK174:=n3_;have HB:=n4_;clear n0_ n1_ n2_ n3_ n4_
      (try clear hb)
      (try clear hb2)
      (try clear hk)
      (try clear hi)
      refine hK.out _ _ ⟨(jB BK168.out 0).trans rfl,(jB BK168.out 1).trans rfl,(jB BK174.out 0).trans rfl,(jB BK174.out 1).trans rfl⟩ (λhHeld=>?_);clear hK K;refine jBD (a':=?_) ?_ ?_
      rotate_left
      ·show Act.put _ (some 23) _=_
       simp only[Act.put,List.setIfInBounds_toArray,List.set_cons_zero,List.set_cons_succ,zP,zd]
       rfl
      refine last_ (i:=8) (N:=none) #[true,true,true,true,true,true,true,true,true] rfl rfl (jBZ HT_.out (by kernel_rfl)) (by decide) (λK hK=>?_);have hs25:w24.cell? ⟨gb168,0,none⟩=some (.int .u64 x169000_1):=(jB BK168.out 0).trans rfl;have hfs25:=jH BK168.out 0;have hns25_0:=NB167_168.out;have hns25_2:=NB174_168.out;have hms25_0:=NB168_167.out;have hms25_2:=NB168_174.out;have hs26:w24.cell? ⟨gb168,1,none⟩=some (.int .u64 x169001_1):=(jB BK168.out 1).trans rfl;have hfs26:=jH BK168.out 1;have hns26_0:=NB167_168.out;have hns26_2:=NB174_168.out;have hms26_0:=NB168_167.out;have hms26_2:=NB168_174.out;refine skip_ (w1:=?_) (by rfl) rfl ?_ ?_
      rotate_left
      ·go_simp
       rfl
      refine hK.out _ _ ?_;clear hK K;refine done_ (done_of HT_.out (by kernel_rfl)) ?_
      try go_wp2
      go_roundg k1
      case measure=>have:=HK1.out;omega
      case rel=>exact⟨(wrap64 (x12_1+1)),(t179),(t180),(by first|rfl|(simp;done)|(simp [*];done)),H',⟨by have:=HK1.out;omega⟩,⟨by (with_reducible repeat (first|apply Kd.R_alloc|apply Kd.R_drewN|apply Kd.R_drew));exact Kd.R_mono (Kd.R_far (p:=⟨gb168,1,none⟩) (Kd.R_far (p:=⟨gb168,0,none⟩) (Kd.R_types HO_10.out BK168.out (by decide)) (λ_ hk=>hk.2) (.int .u64 t179)) (λ_ hk=>hk.2) (.int .u64 t180)) (λ_ hk=>trivial)⟩,⟨by (with_reducible repeat (first|refine jQ ?_ _|refine jY ?_|refine jI ?_ _));refine jp ?_ NB167_168.out _;(with_reducible repeat (first|refine jQ ?_ _|refine jY ?_|refine jI ?_ _));refine jp ?_ NB167_168.out _;(with_reducible repeat (first|refine jQ ?_ _|refine jY ?_|refine jI ?_ _));exact BK167.out⟩,⟨by (with_reducible repeat (first|refine jQ ?_ _|refine jY ?_|refine jI ?_ _));refine zS (cs:=#[.int .u64 t179,.int .u64 x169001_1]) ?_ 1 _ (by first|rfl|(simp [*];done));(with_reducible repeat (first|refine jQ ?_ _|refine jY ?_|refine jI ?_ _));refine zS (cs:=#[.int .u64 x169000_1,.int .u64 x169001_1]) ?_ 0 _ (by first|rfl|(simp [*];done));(with_reducible repeat (first|refine jQ ?_ _|refine jY ?_|refine jI ?_ _));exact BK168.out⟩,⟨qH HB⟩⟩
     ·rw[if_neg c11] at H
      exact absurd H (by simp)
    ·rw[if_neg c10] at H
     exact absurd H (by simp)
   ·rw[if_neg c9] at H
    have c9b0:decide (x12_1<(t170.length:Int))=false:=decide_eq_false c9;clear c9;simp only[Option.some.injEq,Prod.mk.injEq] at H;obtain⟨rfl,rfl⟩:=H;have hnb27:=NB168_167.out;have hnc27:=NB167_168.out;have hcz28_0:wr.cell? ⟨gb168,0,none⟩=some (.int .u64 x169000_1):=(jB BK168.out 0).trans rfl;have hcz28_1:wr.cell? ⟨gb168,1,none⟩=some (.int .u64 x169001_1):=(jB BK168.out 1).trans rfl;have hfz28_0:=jH BK168.out 0;have hfz28_1:=jH BK168.out 1;have hcz29_0:wr.cell? ⟨gb167,0,none⟩=some (.int .u64 0):=(jB BK167.out 0).trans rfl;have hcz29_1:wr.cell? ⟨gb167,1,none⟩=some (.int .u64 0):=(jB BK167.out 1).trans rfl;have hfz29_0:=jH BK167.out 0;have hfz29_1:=jH BK167.out 1;go_wp2;refine bodyPost_ret (results_cell_row rfl _ _ gb167 88 #[.int .u64 x169000_1,.int .u64 x169001_1] (0,0) _ rfl (by (with_reducible repeat (first|refine jQ ?_ _|refine jY ?_|refine jI ?_ _));refine zS (cs:=#[.int .u64 x169000_1,.int .u64 0]) ?_ 1 _ (by first|rfl|(simp [*];done));(with_reducible repeat (first|refine jQ ?_ _|refine jY ?_|refine jI ?_ _));refine zS (cs:=#[.int .u64 0,.int .u64 0]) ?_ 0 _ (by first|rfl|(simp [*];done));(with_reducible repeat (first|refine jQ ?_ _|refine jY ?_|refine jI ?_ _));exact BK167.out) Tryz.underlying88 rfl (by kernel_rfl)) rfl ?_;exact⟨by first|rfl|(simp [jL,jK]<;>rfl)|(simp [*,jL,jK]<;>rfl)|(simp [*,jL,jK];generalize ByteArray.toList _=q_;cases q_<;>rfl),qH HB⟩
end Go.Proofs.YtigenhbmgpfffaaGreatDoor.Pa
