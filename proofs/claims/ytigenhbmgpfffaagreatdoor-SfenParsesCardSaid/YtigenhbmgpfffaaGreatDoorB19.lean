import Derived.Test.YtigenhbmgpfffaaGreatDoorB18
set_option maxRecDepth 100000
set_option maxHeartbeats 16000000
namespace Go.Proofs.YtigenhbmgpfffaaGreatDoor.Pa
open Go.RowKit Go.Proofs.YtigenhbmgpfffaaGreatDoorW.PrintWords Go.Proofs.YtigenhbmgpfffaaGreatDoorW.PrintLast Go.Proofs.YtigenhbmgpfffaaGreatDoorW.PrintMore
attribute [local go_sem] yE yC yM yL zo zn yD yB
set_option linter.unusedVariables false
set_option linter.unusedSimpArgs false
def zX.l0:Nat->Int->Int->Int->Int->Option (Int×Int)
 | 0,_,_,_,_=>none
 | k+1,x0,x5,x132000,x132001=>if x5<9 then((zM.f x0 x5).bind λt132=>((jz.f k x132000 x132001 t132).bind λbt133=>(zX.l0 k x0 (wrap64 (x5+1)) bt133.1 bt133.2))) else(some (x132000,x132001))
def zX.f (k:Nat) (a0:Int):Option (Int×Int):=zX.l0 k a0 0 0 0
theorem zX.mono_l:∀k,(∀y0 y1 y2 y3,LeO (zX.l0 k y0 y1 y2 y3) (zX.l0 (k+1) y0 y1 y2 y3))
 | 0=>λ_ _ _ _ r h=>by simp [zX.l0] at h
 | k+1=>by
  have ih0:=zX.mono_l k
  ·intro y0 y1 y2 y3
   unfold zX.l0
   repeat' first
   | (with_reducible exact ih0 _ _ _ _)
   | (with_reducible exact jz.mono _ _ _ _)
   | (with_reducible exact LeO.refl _)
   | (with_reducible exact LeO.none _)
   | (with_reducible refine LeO.ite ?_ ?_)
   | (with_reducible refine LeO.bind ?_ (λ_=>?_))
   | exact ih0 _ _ _ _
   | exact jz.mono _ _ _ _
   | exact LeO.none _
   | refine LeO.ite ?_ ?_
   | refine LeO.bind ?_ (λ_=>?_)
theorem zX.mono:∀a0 k,LeO (zX.f k a0) (zX.f (k+1) a0):=by
 intro a0 k;have ih0:=zX.mono_l k;unfold zX.f
 repeat' first
   | (with_reducible exact ih0 _ _ _ _)
   | (with_reducible exact jz.mono _ _ _ _)
   | (with_reducible exact LeO.refl _)
   | (with_reducible exact LeO.none _)
   | (with_reducible refine LeO.ite ?_ ?_)
   | (with_reducible refine LeO.bind ?_ (λ_=>?_))
   | exact ih0 _ _ _ _
   | exact jz.mono _ _ _ _
   | exact LeO.none _
   | refine LeO.ite ?_ ?_
   | refine LeO.bind ?_ (λ_=>?_)
theorem zX.calls (k:Nat) (a0:Int) (r1:Int) (r2:Int) (w:World) (h:zX.f k a0=some (r1,r2)):
  Calls Tryz.prog 93 #[.int .i64 a0] w λe w'=>e=.returned (.agg #[.int .u64 r1,.int .u64 r2])/\Below w.heap.size w w':=by
 have hu88:=Tryz.underlying88;have HB:=qA (Below.refl w.heap.size w);have H:(zX.l0 k a0 0 0 0)=some (r1,r2):=h;clear h;have H':=qA H;clear H;go_enter Tryz.func93,Tryz.ntmps93
 go_wp2_with (first|((with_reducible refine jG (N:=2) rfl ?_);refine zI ?hg (N:=2) ?hd (cs:=#[.int .u64 0,.int .u64 0]) (t:=88) ?hr ?_;(case hd=>rfl);(case hg=>rfl);(case hr=>first|(go_simp;done)|(go_simp;rfl));intro gb130 hg w2 hbox hb;have n0_:=qA (jX (qH HB) hb);have n1_:=qA (hbox);have n2_:=qA ((by rw[hg];exact(jP (qH HB)):w.heap.size<=gb130));have n3_:=qA ((by rw[hg];exact(jP (qH HB)):w.heap.size<=gb130));clear HB;have HB:=n0_;have BK130:=n1_;have GW130:=n2_;have GE130:=n3_;clear n0_ n1_ n2_ n3_;clear hb hbox hg)|((with_reducible refine jG (N:=3) rfl ?_);refine zI ?hg (N:=3) ?hd (cs:=#[.int .u64 0,.int .u64 0]) (t:=88) ?hr ?_;(case hd=>rfl);(case hg=>rfl);(case hr=>first|(go_simp;done)|(go_simp;rfl));intro gb131 hg w3 hbox hb;have n0_:=qA (jd (g:=gb130) (o:=.cells #[.int .u64 0,.int .u64 0] 88 (0,0)) (qK BK130) hb);have n1_:=qA (jX (qH HB) hb);have n2_:=qA (hbox);have n3_:=qA ((by rw[hg];exact(jP (qH HB)):w.heap.size<=gb131));have n4_:=qA ((by rw[hg];exact(jP (qH HB)):w.heap.size<=gb131));have n5_:=qA ((by rw[hg];exact Nat.ne_of_lt (ju (g:=gb130) (o:=.cells #[.int .u64 0,.int .u64 0] 88 (0,0)) (qK BK130)):gb130≠gb131));have n6_:=qA ((by rw[hg];exact Nat.ne_of_gt (ju (g:=gb130) (o:=.cells #[.int .u64 0,.int .u64 0] 88 (0,0)) (qK BK130)):gb131≠gb130));clear BK130;clear HB;have BK130:=n0_;have HB:=n1_;have BK131:=n2_;have GW131:=n3_;have GE131:=n4_;have NB130_131:=n5_;have NB131_130:=n6_;clear n0_ n1_ n2_ n3_ n4_ n5_ n6_;clear hb hbox hg))
 go_loopg [5] k (λkq v5 w'=>∃(x5_1:Int) (x132000_1:Int) (x132001_1:Int),v5=.int .i64 x5_1/\Aside0 (zX.l0 kq a0 x5_1 x132000_1 x132001_1=some (r1,r2))/\Aside0 (kq<=k)/\Aside0 (w'.heap[gb130]?=some (.cells #[.int .u64 0,.int .u64 0] 88 (0,0)))/\Aside0 (w'.heap[gb131]?=some (.cells #[.int .u64 x132000_1,.int .u64 x132001_1] 88 (0,0)))/\Aside0 (Below w.heap.size w w'))
 case atStart=>exact⟨(0),(0),(0),(by first|rfl|(simp;done)|(simp [*];done)),H',⟨Nat.le_refl _⟩,⟨qK BK130⟩,⟨qK BK131⟩,⟨qH HB⟩⟩
 case round=>
  clear H'
  try clear p2
  obtain⟨x5_1,x132000_1,x132001_1,rfl,HA,HK1,BK130,BK131,HB⟩:=hrel
  cases gk with
  | zero=>exact absurd HA.out (by simp [zX.l0])
  | succ k1=>
   have H:=HA.out;clear HA;simp only[zX.l0] at H
   by_cases c4:x5_1<9
   ·rw[if_pos c4] at H
    have c4b0:decide (x5_1<9)=true:=decide_eq_true c4;clear c4;replace H:=Option.bind_eq_some_iff.mp H;obtain⟨t132,A50,H⟩:=H;replace H:((jz.f k1 x132000_1 x132001_1 t132).bind λbt133=>(zX.l0 k1 a0 (wrap64 (x5_1+1)) bt133.1 bt133.2))=some (r1,r2):=H;have A5:=qA A50;clear A50;replace H:=Option.bind_eq_some_iff.mp H;obtain⟨⟨t133,t134⟩,A60,H⟩:=H;replace H:(zX.l0 k1 a0 (wrap64 (x5_1+1)) t133 t134)=some (r1,r2):=H;have A6:=qA A60;clear A60;have H':=qA H;clear H
    try go_wp2
    have n0_:=qD BK130;have n1_:=qD BK131;have n2_:=qA (jAN HB.out);clear BK130;clear BK131;clear HB;have BK130:=n0_;have BK131:=n1_;have HB:=n2_;clear n0_ n1_ n2_;refine start_ (n:=6) (S:=λw'=>w'.cell? ⟨gb131,0,none⟩=some (.int .u64 x132000_1)/\w'.cell? ⟨gb131,1,none⟩=some (.int .u64 x132001_1)) (ds:=[5]) #[false,false,false,false,false,false] (by kernel_rfl) rfl rfl ⟨(jB BK131.out 0).trans rfl,(jB BK131.out 1).trans rfl⟩ (λhHeld=>?_);generalize wr.drew=w7 at BK130 BK131 HB hHeld ⊢;refine pure_ (i:=1) (N:=some 9) (v:=?_) (a':=?_) #[false,true,false,false,false,false] rfl rfl (by kernel_rfl) (λ_ _ _ h=>h) (Or.inl ⟨by rfl,?_⟩) ?_ ?_
    rotate_left
    ·intro w'
     go_simp
     with_reducible rfl
    rotate_left
    ·simp only[Act.put,List.setIfInBounds_toArray,List.set_cons_zero,List.set_cons_succ,zP,zd]
     rfl
    refine pure_ (i:=2) (N:=some 10) (v:=?_) (a':=?_) #[false,true,true,false,false,false] rfl rfl (by kernel_rfl) (λ_ _ _ h=>h) (Or.inl ⟨by rfl,?_⟩) ?_ ?_
    rotate_left
    ·intro w'
     go_simp
     with_reducible rfl
    rotate_left
    ·simp only[Act.put,List.setIfInBounds_toArray,List.set_cons_zero,List.set_cons_succ,zP,zd]
     rfl
    refine take_ (i:=0) (N:=some 8) (v:=?_) (a':=?_) #[true,true,true,false,false,false] rfl rfl (by kernel_rfl) (λ_ _ _ h=>h) (Or.inl ⟨by rfl,?_⟩) hHeld ?_ ?_
    rotate_left
    ·rintro w' ⟨s0,s1⟩
     go_simp
     with_reducible rfl
    rotate_left
    ·simp only[Act.put,List.setIfInBounds_toArray,List.set_cons_zero,List.set_cons_succ,zP,zd]
     rfl
    refine one_ (i:=3) (N:=some 11) #[true,true,true,true,false,false] rfl rfl (by kernel_rfl) (by decide) (λK hK=>?_);refine jBF Tryz.func20 (by kernel_rfl) rfl #[.int .i64 a0,.int .i64 x5_1] (by rfl) rfl rfl (by (try simp only[List.map_toArray,List.map_cons,List.map_nil]);first|done|rfl|(simp only[List.length_drop,List.length_take];rfl)) ?_
    with_reducible refine(zM.calls a0 x5_1 t132 _ A5.out).mono ?_
    rintro e w' ⟨rfl,⟨nd,rfl⟩⟩;refine⟨_,rfl,?_⟩;refine hK.out _ _ ⟨(jB BK131.out 0).trans rfl,(jB BK131.out 1).trans rfl⟩ (λhHeld=>?_);clear hK K;refine jBD (a':=?_) ?_ ?_
    rotate_left
    ·show Act.put _ (some 11) _=_
     simp only[Act.put,List.setIfInBounds_toArray,List.set_cons_zero,List.set_cons_succ,zP,zd]
     rfl
    refine one_ (i:=4) (N:=some 12) #[true,true,true,true,true,false] rfl rfl (by kernel_rfl) (by decide) (λK hK=>?_);refine jBF Tryz.func99 (by kernel_rfl) rfl #[.agg #[.int .u64 x132000_1,.int .u64 x132001_1],.int .i64 t132] (by rfl) rfl rfl (by (try simp only[List.map_toArray,List.map_cons,List.map_nil]);first|done|rfl|(simp only[List.length_drop,List.length_take];rfl)) ?_
    with_reducible refine(jz.calls k1 x132000_1 x132001_1 t132 t133 t134 _ A6.out).mono ?_
    rintro e w8 ⟨rfl,hb⟩;refine⟨_,rfl,?_⟩;have n0_:=qA (jd (g:=gb130) (o:=.cells #[.int .u64 0,.int .u64 0] 88 (0,0)) (qK BK130) hb);have n1_:=qA (jd (g:=gb131) (o:=.cells #[.int .u64 x132000_1,.int .u64 x132001_1] 88 (0,0)) (qK BK131) hb);have n2_:=qA (jX (qH HB) hb);clear BK130;clear BK131;clear HB;have BK130:=n0_;have BK131:=n1_;have HB:=n2_;clear n0_ n1_ n2_
    (try clear hb)
    (try clear hb2)
    (try clear hk)
    (try clear hi)
    refine hK.out _ _ ⟨(jB BK131.out 0).trans rfl,(jB BK131.out 1).trans rfl⟩ (λhHeld=>?_);clear hK K;refine jBD (a':=?_) ?_ ?_
    rotate_left
    ·show Act.put _ (some 12) _=_
     simp only[Act.put,List.setIfInBounds_toArray,List.set_cons_zero,List.set_cons_succ,zP,zd]
     rfl
    refine last_ (i:=5) (N:=none) #[true,true,true,true,true,true] rfl rfl (by kernel_rfl) (by decide) (λK hK=>?_);have hs9:w8.cell? ⟨gb131,0,none⟩=some (.int .u64 x132000_1):=(jB BK131.out 0).trans rfl;have hfs9:=jH BK131.out 0;have hns9_0:=NB130_131.out;have hms9_0:=NB131_130.out;have hs10:w8.cell? ⟨gb131,1,none⟩=some (.int .u64 x132001_1):=(jB BK131.out 1).trans rfl;have hfs10:=jH BK131.out 1;have hns10_0:=NB130_131.out;have hms10_0:=NB131_130.out;refine skip_ (w1:=?_) (by rfl) rfl ?_ ?_
    rotate_left
    ·go_simp
     rfl
    refine hK.out _ _ ?_;clear hK K;refine done_ (by kernel_rfl) ?_
    try go_wp2
    go_roundg k1
    case measure=>have:=HK1.out;omega
    case rel=>exact⟨(wrap64 (x5_1+1)),(t133),(t134),(by first|rfl|(simp;done)|(simp [*];done)),H',⟨by have:=HK1.out;omega⟩,⟨by (with_reducible repeat (first|refine jQ ?_ _|refine jY ?_|refine jI ?_ _));refine jp ?_ NB130_131.out _;(with_reducible repeat (first|refine jQ ?_ _|refine jY ?_|refine jI ?_ _));refine jp ?_ NB130_131.out _;(with_reducible repeat (first|refine jQ ?_ _|refine jY ?_|refine jI ?_ _));exact BK130.out⟩,⟨by (with_reducible repeat (first|refine jQ ?_ _|refine jY ?_|refine jI ?_ _));refine zS (cs:=#[.int .u64 t133,.int .u64 x132001_1]) ?_ 1 _ (by first|rfl|(simp [*];done));(with_reducible repeat (first|refine jQ ?_ _|refine jY ?_|refine jI ?_ _));refine zS (cs:=#[.int .u64 x132000_1,.int .u64 x132001_1]) ?_ 0 _ (by first|rfl|(simp [*];done));(with_reducible repeat (first|refine jQ ?_ _|refine jY ?_|refine jI ?_ _));exact BK131.out⟩,⟨qH HB⟩⟩
   ·rw[if_neg c4] at H
    have c4b0:decide (x5_1<9)=false:=decide_eq_false c4;clear c4;simp only[Option.some.injEq,Prod.mk.injEq] at H;obtain⟨rfl,rfl⟩:=H;have hnb11:=NB131_130.out;have hnc11:=NB130_131.out;have hcz12_0:wr.cell? ⟨gb131,0,none⟩=some (.int .u64 x132000_1):=(jB BK131.out 0).trans rfl;have hcz12_1:wr.cell? ⟨gb131,1,none⟩=some (.int .u64 x132001_1):=(jB BK131.out 1).trans rfl;have hfz12_0:=jH BK131.out 0;have hfz12_1:=jH BK131.out 1;have hcz13_0:wr.cell? ⟨gb130,0,none⟩=some (.int .u64 0):=(jB BK130.out 0).trans rfl;have hcz13_1:wr.cell? ⟨gb130,1,none⟩=some (.int .u64 0):=(jB BK130.out 1).trans rfl;have hfz13_0:=jH BK130.out 0;have hfz13_1:=jH BK130.out 1;go_wp2;refine bodyPost_ret (results_cell_row rfl _ _ gb130 88 #[.int .u64 x132000_1,.int .u64 x132001_1] (0,0) _ rfl (by (with_reducible repeat (first|refine jQ ?_ _|refine jY ?_|refine jI ?_ _));refine zS (cs:=#[.int .u64 x132000_1,.int .u64 0]) ?_ 1 _ (by first|rfl|(simp [*];done));(with_reducible repeat (first|refine jQ ?_ _|refine jY ?_|refine jI ?_ _));refine zS (cs:=#[.int .u64 0,.int .u64 0]) ?_ 0 _ (by first|rfl|(simp [*];done));(with_reducible repeat (first|refine jQ ?_ _|refine jY ?_|refine jI ?_ _));exact BK130.out) Tryz.underlying88 rfl (by kernel_rfl)) rfl ?_;exact⟨by first|rfl|(simp [jL,jK]<;>rfl)|(simp [*,jL,jK]<;>rfl)|(simp [*,jL,jK];generalize ByteArray.toList _=q_;cases q_<;>rfl),qH HB⟩
def zp.f (a0:Int):Option (Int):=some (Go.bits .and .i64 (wrap64 (IntKind.u64.wrap ((IntKind.u64.wrap ((IntKind.u64.wrap ((Go.bits .and .u64 (IntKind.u64.wrap (((IntKind.u64.wrap ((Go.bits .and .u64 ((IntKind.u64.wrap ((Go.bits .and .u64 (a0/2) 6148914691236517205)+(Go.bits .and .u64 a0 6148914691236517205)))/4) 3689348814741910323)+(Go.bits .and .u64 (IntKind.u64.wrap ((Go.bits .and .u64 (a0/2) 6148914691236517205)+(Go.bits .and .u64 a0 6148914691236517205))) 3689348814741910323)))/16)+(IntKind.u64.wrap ((Go.bits .and .u64 ((IntKind.u64.wrap ((Go.bits .and .u64 (a0/2) 6148914691236517205)+(Go.bits .and .u64 a0 6148914691236517205)))/4) 3689348814741910323)+(Go.bits .and .u64 (IntKind.u64.wrap ((Go.bits .and .u64 (a0/2) 6148914691236517205)+(Go.bits .and .u64 a0 6148914691236517205))) 3689348814741910323))))) 1085102592571150095)+((Go.bits .and .u64 (IntKind.u64.wrap (((IntKind.u64.wrap ((Go.bits .and .u64 ((IntKind.u64.wrap ((Go.bits .and .u64 (a0/2) 6148914691236517205)+(Go.bits .and .u64 a0 6148914691236517205)))/4) 3689348814741910323)+(Go.bits .and .u64 (IntKind.u64.wrap ((Go.bits .and .u64 (a0/2) 6148914691236517205)+(Go.bits .and .u64 a0 6148914691236517205))) 3689348814741910323)))/16)+(IntKind.u64.wrap ((Go.bits .and .u64 ((IntKind.u64.wrap ((Go.bits .and .u64 (a0/2) 6148914691236517205)+(Go.bits .and .u64 a0 6148914691236517205)))/4) 3689348814741910323)+(Go.bits .and .u64 (IntKind.u64.wrap ((Go.bits .and .u64 (a0/2) 6148914691236517205)+(Go.bits .and .u64 a0 6148914691236517205))) 3689348814741910323))))) 1085102592571150095)/256)))+((IntKind.u64.wrap ((Go.bits .and .u64 (IntKind.u64.wrap (((IntKind.u64.wrap ((Go.bits .and .u64 ((IntKind.u64.wrap ((Go.bits .and .u64 (a0/2) 6148914691236517205)+(Go.bits .and .u64 a0 6148914691236517205)))/4) 3689348814741910323)+(Go.bits .and .u64 (IntKind.u64.wrap ((Go.bits .and .u64 (a0/2) 6148914691236517205)+(Go.bits .and .u64 a0 6148914691236517205))) 3689348814741910323)))/16)+(IntKind.u64.wrap ((Go.bits .and .u64 ((IntKind.u64.wrap ((Go.bits .and .u64 (a0/2) 6148914691236517205)+(Go.bits .and .u64 a0 6148914691236517205)))/4) 3689348814741910323)+(Go.bits .and .u64 (IntKind.u64.wrap ((Go.bits .and .u64 (a0/2) 6148914691236517205)+(Go.bits .and .u64 a0 6148914691236517205))) 3689348814741910323))))) 1085102592571150095)+((Go.bits .and .u64 (IntKind.u64.wrap (((IntKind.u64.wrap ((Go.bits .and .u64 ((IntKind.u64.wrap ((Go.bits .and .u64 (a0/2) 6148914691236517205)+(Go.bits .and .u64 a0 6148914691236517205)))/4) 3689348814741910323)+(Go.bits .and .u64 (IntKind.u64.wrap ((Go.bits .and .u64 (a0/2) 6148914691236517205)+(Go.bits .and .u64 a0 6148914691236517205))) 3689348814741910323)))/16)+(IntKind.u64.wrap ((Go.bits .and .u64 ((IntKind.u64.wrap ((Go.bits .and .u64 (a0/2) 6148914691236517205)+(Go.bits .and .u64 a0 6148914691236517205)))/4) 3689348814741910323)+(Go.bits .and .u64 (IntKind.u64.wrap ((Go.bits .and .u64 (a0/2) 6148914691236517205)+(Go.bits .and .u64 a0 6148914691236517205))) 3689348814741910323))))) 1085102592571150095)/256)))/65536)))+((IntKind.u64.wrap ((IntKind.u64.wrap ((Go.bits .and .u64 (IntKind.u64.wrap (((IntKind.u64.wrap ((Go.bits .and .u64 ((IntKind.u64.wrap ((Go.bits .and .u64 (a0/2) 6148914691236517205)+(Go.bits .and .u64 a0 6148914691236517205)))/4) 3689348814741910323)+(Go.bits .and .u64 (IntKind.u64.wrap ((Go.bits .and .u64 (a0/2) 6148914691236517205)+(Go.bits .and .u64 a0 6148914691236517205))) 3689348814741910323)))/16)+(IntKind.u64.wrap ((Go.bits .and .u64 ((IntKind.u64.wrap ((Go.bits .and .u64 (a0/2) 6148914691236517205)+(Go.bits .and .u64 a0 6148914691236517205)))/4) 3689348814741910323)+(Go.bits .and .u64 (IntKind.u64.wrap ((Go.bits .and .u64 (a0/2) 6148914691236517205)+(Go.bits .and .u64 a0 6148914691236517205))) 3689348814741910323))))) 1085102592571150095)+((Go.bits .and .u64 (IntKind.u64.wrap (((IntKind.u64.wrap ((Go.bits .and .u64 ((IntKind.u64.wrap ((Go.bits .and .u64 (a0/2) 6148914691236517205)+(Go.bits .and .u64 a0 6148914691236517205)))/4) 3689348814741910323)+(Go.bits .and .u64 (IntKind.u64.wrap ((Go.bits .and .u64 (a0/2) 6148914691236517205)+(Go.bits .and .u64 a0 6148914691236517205))) 3689348814741910323)))/16)+(IntKind.u64.wrap ((Go.bits .and .u64 ((IntKind.u64.wrap ((Go.bits .and .u64 (a0/2) 6148914691236517205)+(Go.bits .and .u64 a0 6148914691236517205)))/4) 3689348814741910323)+(Go.bits .and .u64 (IntKind.u64.wrap ((Go.bits .and .u64 (a0/2) 6148914691236517205)+(Go.bits .and .u64 a0 6148914691236517205))) 3689348814741910323))))) 1085102592571150095)/256)))+((IntKind.u64.wrap ((Go.bits .and .u64 (IntKind.u64.wrap (((IntKind.u64.wrap ((Go.bits .and .u64 ((IntKind.u64.wrap ((Go.bits .and .u64 (a0/2) 6148914691236517205)+(Go.bits .and .u64 a0 6148914691236517205)))/4) 3689348814741910323)+(Go.bits .and .u64 (IntKind.u64.wrap ((Go.bits .and .u64 (a0/2) 6148914691236517205)+(Go.bits .and .u64 a0 6148914691236517205))) 3689348814741910323)))/16)+(IntKind.u64.wrap ((Go.bits .and .u64 ((IntKind.u64.wrap ((Go.bits .and .u64 (a0/2) 6148914691236517205)+(Go.bits .and .u64 a0 6148914691236517205)))/4) 3689348814741910323)+(Go.bits .and .u64 (IntKind.u64.wrap ((Go.bits .and .u64 (a0/2) 6148914691236517205)+(Go.bits .and .u64 a0 6148914691236517205))) 3689348814741910323))))) 1085102592571150095)+((Go.bits .and .u64 (IntKind.u64.wrap (((IntKind.u64.wrap ((Go.bits .and .u64 ((IntKind.u64.wrap ((Go.bits .and .u64 (a0/2) 6148914691236517205)+(Go.bits .and .u64 a0 6148914691236517205)))/4) 3689348814741910323)+(Go.bits .and .u64 (IntKind.u64.wrap ((Go.bits .and .u64 (a0/2) 6148914691236517205)+(Go.bits .and .u64 a0 6148914691236517205))) 3689348814741910323)))/16)+(IntKind.u64.wrap ((Go.bits .and .u64 ((IntKind.u64.wrap ((Go.bits .and .u64 (a0/2) 6148914691236517205)+(Go.bits .and .u64 a0 6148914691236517205)))/4) 3689348814741910323)+(Go.bits .and .u64 (IntKind.u64.wrap ((Go.bits .and .u64 (a0/2) 6148914691236517205)+(Go.bits .and .u64 a0 6148914691236517205))) 3689348814741910323))))) 1085102592571150095)/256)))/65536)))/4294967296)))) 127)
theorem zp.calls (a0:Int) (r:Int) (w:World) (h:zp.f a0=some r):
  Calls Tryz.prog 118 #[.int .u64 a0] w λe w'=>e=.returned (.int .i64 r)/\Drawn0 w w':=by
 have H:(some (Go.bits .and .i64 (wrap64 (IntKind.u64.wrap ((IntKind.u64.wrap ((IntKind.u64.wrap ((Go.bits .and .u64 (IntKind.u64.wrap (((IntKind.u64.wrap ((Go.bits .and .u64 ((IntKind.u64.wrap ((Go.bits .and .u64 (a0/2) 6148914691236517205)+(Go.bits .and .u64 a0 6148914691236517205)))/4) 3689348814741910323)+(Go.bits .and .u64 (IntKind.u64.wrap ((Go.bits .and .u64 (a0/2) 6148914691236517205)+(Go.bits .and .u64 a0 6148914691236517205))) 3689348814741910323)))/16)+(IntKind.u64.wrap ((Go.bits .and .u64 ((IntKind.u64.wrap ((Go.bits .and .u64 (a0/2) 6148914691236517205)+(Go.bits .and .u64 a0 6148914691236517205)))/4) 3689348814741910323)+(Go.bits .and .u64 (IntKind.u64.wrap ((Go.bits .and .u64 (a0/2) 6148914691236517205)+(Go.bits .and .u64 a0 6148914691236517205))) 3689348814741910323))))) 1085102592571150095)+((Go.bits .and .u64 (IntKind.u64.wrap (((IntKind.u64.wrap ((Go.bits .and .u64 ((IntKind.u64.wrap ((Go.bits .and .u64 (a0/2) 6148914691236517205)+(Go.bits .and .u64 a0 6148914691236517205)))/4) 3689348814741910323)+(Go.bits .and .u64 (IntKind.u64.wrap ((Go.bits .and .u64 (a0/2) 6148914691236517205)+(Go.bits .and .u64 a0 6148914691236517205))) 3689348814741910323)))/16)+(IntKind.u64.wrap ((Go.bits .and .u64 ((IntKind.u64.wrap ((Go.bits .and .u64 (a0/2) 6148914691236517205)+(Go.bits .and .u64 a0 6148914691236517205)))/4) 3689348814741910323)+(Go.bits .and .u64 (IntKind.u64.wrap ((Go.bits .and .u64 (a0/2) 6148914691236517205)+(Go.bits .and .u64 a0 6148914691236517205))) 3689348814741910323))))) 1085102592571150095)/256)))+((IntKind.u64.wrap ((Go.bits .and .u64 (IntKind.u64.wrap (((IntKind.u64.wrap ((Go.bits .and .u64 ((IntKind.u64.wrap ((Go.bits .and .u64 (a0/2) 6148914691236517205)+(Go.bits .and .u64 a0 6148914691236517205)))/4) 3689348814741910323)+(Go.bits .and .u64 (IntKind.u64.wrap ((Go.bits .and .u64 (a0/2) 6148914691236517205)+(Go.bits .and .u64 a0 6148914691236517205))) 3689348814741910323)))/16)+(IntKind.u64.wrap ((Go.bits .and .u64 ((IntKind.u64.wrap ((Go.bits .and .u64 (a0/2) 6148914691236517205)+(Go.bits .and .u64 a0 6148914691236517205)))/4) 3689348814741910323)+(Go.bits .and .u64 (IntKind.u64.wrap ((Go.bits .and .u64 (a0/2) 6148914691236517205)+(Go.bits .and .u64 a0 6148914691236517205))) 3689348814741910323))))) 1085102592571150095)+((Go.bits .and .u64 (IntKind.u64.wrap (((IntKind.u64.wrap ((Go.bits .and .u64 ((IntKind.u64.wrap ((Go.bits .and .u64 (a0/2) 6148914691236517205)+(Go.bits .and .u64 a0 6148914691236517205)))/4) 3689348814741910323)+(Go.bits .and .u64 (IntKind.u64.wrap ((Go.bits .and .u64 (a0/2) 6148914691236517205)+(Go.bits .and .u64 a0 6148914691236517205))) 3689348814741910323)))/16)+(IntKind.u64.wrap ((Go.bits .and .u64 ((IntKind.u64.wrap ((Go.bits .and .u64 (a0/2) 6148914691236517205)+(Go.bits .and .u64 a0 6148914691236517205)))/4) 3689348814741910323)+(Go.bits .and .u64 (IntKind.u64.wrap ((Go.bits .and .u64 (a0/2) 6148914691236517205)+(Go.bits .and .u64 a0 6148914691236517205))) 3689348814741910323))))) 1085102592571150095)/256)))/65536)))+((IntKind.u64.wrap ((IntKind.u64.wrap ((Go.bits .and .u64 (IntKind.u64.wrap (((IntKind.u64.wrap ((Go.bits .and .u64 ((IntKind.u64.wrap ((Go.bits .and .u64 (a0/2) 6148914691236517205)+(Go.bits .and .u64 a0 6148914691236517205)))/4) 3689348814741910323)+(Go.bits .and .u64 (IntKind.u64.wrap ((Go.bits .and .u64 (a0/2) 6148914691236517205)+(Go.bits .and .u64 a0 6148914691236517205))) 3689348814741910323)))/16)+(IntKind.u64.wrap ((Go.bits .and .u64 ((IntKind.u64.wrap ((Go.bits .and .u64 (a0/2) 6148914691236517205)+(Go.bits .and .u64 a0 6148914691236517205)))/4) 3689348814741910323)+(Go.bits .and .u64 (IntKind.u64.wrap ((Go.bits .and .u64 (a0/2) 6148914691236517205)+(Go.bits .and .u64 a0 6148914691236517205))) 3689348814741910323))))) 1085102592571150095)+((Go.bits .and .u64 (IntKind.u64.wrap (((IntKind.u64.wrap ((Go.bits .and .u64 ((IntKind.u64.wrap ((Go.bits .and .u64 (a0/2) 6148914691236517205)+(Go.bits .and .u64 a0 6148914691236517205)))/4) 3689348814741910323)+(Go.bits .and .u64 (IntKind.u64.wrap ((Go.bits .and .u64 (a0/2) 6148914691236517205)+(Go.bits .and .u64 a0 6148914691236517205))) 3689348814741910323)))/16)+(IntKind.u64.wrap ((Go.bits .and .u64 ((IntKind.u64.wrap ((Go.bits .and .u64 (a0/2) 6148914691236517205)+(Go.bits .and .u64 a0 6148914691236517205)))/4) 3689348814741910323)+(Go.bits .and .u64 (IntKind.u64.wrap ((Go.bits .and .u64 (a0/2) 6148914691236517205)+(Go.bits .and .u64 a0 6148914691236517205))) 3689348814741910323))))) 1085102592571150095)/256)))+((IntKind.u64.wrap ((Go.bits .and .u64 (IntKind.u64.wrap (((IntKind.u64.wrap ((Go.bits .and .u64 ((IntKind.u64.wrap ((Go.bits .and .u64 (a0/2) 6148914691236517205)+(Go.bits .and .u64 a0 6148914691236517205)))/4) 3689348814741910323)+(Go.bits .and .u64 (IntKind.u64.wrap ((Go.bits .and .u64 (a0/2) 6148914691236517205)+(Go.bits .and .u64 a0 6148914691236517205))) 3689348814741910323)))/16)+(IntKind.u64.wrap ((Go.bits .and .u64 ((IntKind.u64.wrap ((Go.bits .and .u64 (a0/2) 6148914691236517205)+(Go.bits .and .u64 a0 6148914691236517205)))/4) 3689348814741910323)+(Go.bits .and .u64 (IntKind.u64.wrap ((Go.bits .and .u64 (a0/2) 6148914691236517205)+(Go.bits .and .u64 a0 6148914691236517205))) 3689348814741910323))))) 1085102592571150095)+((Go.bits .and .u64 (IntKind.u64.wrap (((IntKind.u64.wrap ((Go.bits .and .u64 ((IntKind.u64.wrap ((Go.bits .and .u64 (a0/2) 6148914691236517205)+(Go.bits .and .u64 a0 6148914691236517205)))/4) 3689348814741910323)+(Go.bits .and .u64 (IntKind.u64.wrap ((Go.bits .and .u64 (a0/2) 6148914691236517205)+(Go.bits .and .u64 a0 6148914691236517205))) 3689348814741910323)))/16)+(IntKind.u64.wrap ((Go.bits .and .u64 ((IntKind.u64.wrap ((Go.bits .and .u64 (a0/2) 6148914691236517205)+(Go.bits .and .u64 a0 6148914691236517205)))/4) 3689348814741910323)+(Go.bits .and .u64 (IntKind.u64.wrap ((Go.bits .and .u64 (a0/2) 6148914691236517205)+(Go.bits .and .u64 a0 6148914691236517205))) 3689348814741910323))))) 1085102592571150095)/256)))/65536)))/4294967296)))) 127))=some r:=h
 clear h;obtain rfl:=Option.some.inj H;go_enter Tryz.func118,Tryz.ntmps118;go_wp2;go_ret;exact⟨by first|rfl|(simp;done)|(simp [*];done),by repeat (first|exact Drawn0.refl _|apply Drawn0.step)⟩
def ye.f (a0_0:Int) (a0_1:Int):Option (Int):=(zp.f a0_0).bind λt136=>((zp.f a0_1).bind λt137=>(some (wrap64 (t136+t137))))
theorem ye.calls (a0_0:Int) (a0_1:Int) (r:Int) (w:World) (h:ye.f a0_0 a0_1=some r):
  Calls Tryz.prog 94 #[.agg #[.int .u64 a0_0,.int .u64 a0_1]] w λe w'=>e=.returned (.int .i64 r)/\Below w.heap.size w w':=by
 have hu88:=Tryz.underlying88;have HB:=qA (Below.refl w.heap.size w);have H:((zp.f a0_0).bind λt136=>((zp.f a0_1).bind λt137=>(some (wrap64 (t136+t137)))))=some r:=h;clear h;replace H:=Option.bind_eq_some_iff.mp H;obtain⟨t136,A20,H⟩:=H;replace H:((zp.f a0_1).bind λt137=>(some (wrap64 (t136+t137))))=some r:=H;have A2:=qA A20;clear A20;replace H:=Option.bind_eq_some_iff.mp H;obtain⟨t137,A30,H⟩:=H;replace H:(some (wrap64 (t136+t137)))=some r:=H;have A3:=qA A30;clear A30;obtain rfl:=Option.some.inj H;go_enter Tryz.func94,Tryz.ntmps94
 go_wp2_with (first|((with_reducible refine jG (N:=1) rfl ?_);refine zI ?hg (N:=1) ?hd (cs:=#[.int .u64 a0_0,.int .u64 a0_1]) (t:=88) ?hr ?_;(case hd=>rfl);(case hg=>rfl);(case hr=>first|(go_simp;done)|(go_simp;rfl));intro gb135 hg w4 hbox hb;have n0_:=qA (jX (qH HB) hb);have n1_:=qA (hbox);have n2_:=qA ((by rw[hg];exact(jP (qH HB)):w.heap.size<=gb135));have n3_:=qA ((by rw[hg];exact(jP (qH HB)):w.heap.size<=gb135));clear HB;have HB:=n0_;have BK135:=n1_;have GW135:=n2_;have GE135:=n3_;clear n0_ n1_ n2_ n3_;clear hb hbox hg;have hcz5_0:w4.cell? ⟨gb135,0,none⟩=some (.int .u64 a0_0):=(jB BK135.out 0).trans rfl;have hcz5_1:w4.cell? ⟨gb135,1,none⟩=some (.int .u64 a0_1):=(jB BK135.out 1).trans rfl;have hfz5_0:=jH BK135.out 0;have hfz5_1:=jH BK135.out 1)|(go_at_call 118;(with_reducible refine(zp.calls a0_0 t136 _ A2.out).mono ?_);rintro e w' ⟨rfl,⟨nd,rfl⟩⟩;(try first|exact⟨rfl,_,World.drewN_drewN _ _ _⟩|exact⟨rfl,_,Eq.trans (World.drewN_drewN _ _ _) (congrArg (World.drewN _) (Nat.add_assoc _ _ _))⟩))|(go_at_call 118;(with_reducible refine(zp.calls a0_1 t137 _ A3.out).mono ?_);rintro e w' ⟨rfl,⟨nd,rfl⟩⟩;(try first|exact⟨rfl,_,World.drewN_drewN _ _ _⟩|exact⟨rfl,_,Eq.trans (World.drewN_drewN _ _ _) (congrArg (World.drewN _) (Nat.add_assoc _ _ _))⟩)))
 repeat (go_quiet (first|((with_reducible refine jG (N:=1) rfl ?_);refine zI ?hg (N:=1) ?hd (cs:=#[.int .u64 a0_0,.int .u64 a0_1]) (t:=88) ?hr ?_;(case hd=>rfl);(case hg=>rfl);(case hr=>first|(go_simp;done)|(go_simp;rfl));intro gb135 hg w4 hbox hb;have n0_:=qA (jX (qH HB) hb);have n1_:=qA (hbox);have n2_:=qA ((by rw[hg];exact(jP (qH HB)):w.heap.size<=gb135));have n3_:=qA ((by rw[hg];exact(jP (qH HB)):w.heap.size<=gb135));clear HB;have HB:=n0_;have BK135:=n1_;have GW135:=n2_;have GE135:=n3_;clear n0_ n1_ n2_ n3_;clear hb hbox hg;have hcz5_0:w4.cell? ⟨gb135,0,none⟩=some (.int .u64 a0_0):=(jB BK135.out 0).trans rfl;have hcz5_1:w4.cell? ⟨gb135,1,none⟩=some (.int .u64 a0_1):=(jB BK135.out 1).trans rfl;have hfz5_0:=jH BK135.out 0;have hfz5_1:=jH BK135.out 1)|(go_at_call 118;(with_reducible refine(zp.calls a0_0 t136 _ A2.out).mono ?_);rintro e w' ⟨rfl,⟨nd,rfl⟩⟩;(try first|exact⟨rfl,_,World.drewN_drewN _ _ _⟩|exact⟨rfl,_,Eq.trans (World.drewN_drewN _ _ _) (congrArg (World.drewN _) (Nat.add_assoc _ _ _))⟩))|(go_at_call 118;(with_reducible refine(zp.calls a0_1 t137 _ A3.out).mono ?_);rintro e w' ⟨rfl,⟨nd,rfl⟩⟩;(try first|exact⟨rfl,_,World.drewN_drewN _ _ _⟩|exact⟨rfl,_,Eq.trans (World.drewN_drewN _ _ _) (congrArg (World.drewN _) (Nat.add_assoc _ _ _))⟩)));try go_wp2_with (first|((with_reducible refine jG (N:=1) rfl ?_);refine zI ?hg (N:=1) ?hd (cs:=#[.int .u64 a0_0,.int .u64 a0_1]) (t:=88) ?hr ?_;(case hd=>rfl);(case hg=>rfl);(case hr=>first|(go_simp;done)|(go_simp;rfl));intro gb135 hg w4 hbox hb;have n0_:=qA (jX (qH HB) hb);have n1_:=qA (hbox);have n2_:=qA ((by rw[hg];exact(jP (qH HB)):w.heap.size<=gb135));have n3_:=qA ((by rw[hg];exact(jP (qH HB)):w.heap.size<=gb135));clear HB;have HB:=n0_;have BK135:=n1_;have GW135:=n2_;have GE135:=n3_;clear n0_ n1_ n2_ n3_;clear hb hbox hg;have hcz5_0:w4.cell? ⟨gb135,0,none⟩=some (.int .u64 a0_0):=(jB BK135.out 0).trans rfl;have hcz5_1:w4.cell? ⟨gb135,1,none⟩=some (.int .u64 a0_1):=(jB BK135.out 1).trans rfl;have hfz5_0:=jH BK135.out 0;have hfz5_1:=jH BK135.out 1)|(go_at_call 118;(with_reducible refine(zp.calls a0_0 t136 _ A2.out).mono ?_);rintro e w' ⟨rfl,⟨nd,rfl⟩⟩;(try first|exact⟨rfl,_,World.drewN_drewN _ _ _⟩|exact⟨rfl,_,Eq.trans (World.drewN_drewN _ _ _) (congrArg (World.drewN _) (Nat.add_assoc _ _ _))⟩))|(go_at_call 118;(with_reducible refine(zp.calls a0_1 t137 _ A3.out).mono ?_);rintro e w' ⟨rfl,⟨nd,rfl⟩⟩;(try first|exact⟨rfl,_,World.drewN_drewN _ _ _⟩|exact⟨rfl,_,Eq.trans (World.drewN_drewN _ _ _) (congrArg (World.drewN _) (Nat.add_assoc _ _ _))⟩))))
 go_ret;exact⟨by first|rfl|(simp [jL,jK]<;>rfl)|(simp [*,jL,jK]<;>rfl)|(simp [*,jL,jK];generalize ByteArray.toList _=q_;cases q_<;>rfl),qH HB⟩
def zL.dead (cs:List Int):Nat->Nat->Option Bool
 | _,0=>some false
 | n,d+1=>(zN.f 20 (cs.getD n 0) (n:Int)).bind λb=>if b=true then some true else zL.dead cs (n+1) d
def zL.inner (us:List Int) (f:Nat):Nat->Nat->Option Bool
 | _,0=>some false
 | s,d+1=>(ze.f (s:Int) 1 us).bind λo=>(zX.f 30 (f:Int)).bind λi=>(z6.f o.1 o.2 i.1 i.2).bind λa=>(ye.f a.1 a.2).bind λc=>if 1<c then some true else zL.inner us f (s+1) d
def zL.outer (us:List Int):Nat->Nat->Option Bool
 | _,0=>some false
 | f,d+1=>(zL.inner us f 0 2).bind λb=>if b=true then some true else zL.outer us (f+1) d
def zL.f (cs:List Int):Option Int:=(zL.dead cs 0 81).bind λb=>if b=true then some 52 else(jj.f cs).bind λr=>(zL.outer r.2 0 9).bind λc=>some (if c=true then 53 else 0)
theorem zL.files_calls (cs:List Int) (r:Int) (w:World) (hl:cs.length=98) (h:zL.f cs=some r):
  Calls Tryz.prog 64 #[.agg (jA.pv cs)] w λe w'=>e=.returned (.int .i64 r)/\Below w.heap.size w w':=by
 unfold zL.f at h;obtain⟨db,h1,h2⟩:=Option.bind_eq_some_iff.mp h;have H1:=qA h1;have H2:=qA h2;clear h h1 h2;have B1:(w.alloc (Obj.cells (jA.pv cs) 28)).heap[w.heap.size]?=some (.cells (jA.pv cs) 28 (0,0)):=zJ w _;have BB:Below w.heap.size w (w.alloc (Obj.cells (jA.pv cs) 28)):=ji (Below.refl _ _) _;go_enter Tryz.func64,Tryz.ntmps64;go_upto_region 1 with(fail);generalize w.alloc (Obj.cells (jA.pv cs) 28)=W at *;have K1:=qA B1;have KB:=qA BB;clear B1 BB
 obtain⟨bs,hbs⟩:∃bs,bs=(cs.drop 0).take 81:=⟨_,rfl⟩
 have hbl:bs.length=81:=by rw[hbs];simp;omega
 have HBG:Aside0 (∀n,n<81->bs.getD n 0=cs.getD n 0):=⟨λn hn=>by rw[hbs,List.drop_zero];simp only[List.getD_eq_getElem?_getD,List.getElem?_take_of_lt hn]⟩
 have HBS:=qA hbs;clear hbs
 go_wp2_with (first|((with_reducible refine jG (N:=9) rfl ?_);refine jA.load rfl 24 (.tmp 8) rfl rfl K1.out Tryz.underlying24 rfl jA.infoB (by omega) ?_;rw[<- HBS.out]))
 clear HBS
 go_loopg [10] 82 (λgf s10 wx=>∃(n:Nat),s10=.int .i64 n/\n<=81/\Aside0 (zL.dead cs n (81-n)=some db)/\Aside0 (wx.heap[w.heap.size]?=some (.cells (jA.pv cs) 28 (0,0)))/\Aside0 (Below w.heap.size w wx)/\82<=gf+n)
 case atStart=>exact⟨0,rfl,by omega,H1,K1,KB,by omega⟩
 case round=>
  clear K1 KB H1;obtain⟨n,rfl,hn,HR,K1,KB,hgf⟩:=hrel
  by_cases hend:n=81
  ·subst hend
   have er:false=db:=Option.some.inj HR.out;subst er;clear HR;have e2:=H2.out;rw[if_neg (by decide)] at e2;obtain⟨⟨C,U⟩,h3,h4⟩:=Option.bind_eq_some_iff.mp e2;obtain⟨c,h5,h6⟩:=Option.bind_eq_some_iff.mp h4;have HN:=qA h3;have HO:=qA h5;have H6:=qA (Option.some.inj h6);clear e2 h3 h4 h5 h6 H2
   go_wp2_with (first|((with_reducible refine jG (N:=18) rfl ?_);refine jA.load rfl 28 (.tmp 1) rfl rfl K1.out Tryz.underlying28 rfl jA.infoP (by omega) ?_;rw[show(cs.drop 0).take 98=cs by rw[List.drop_zero,List.take_of_length_le (by omega)]])|(go_at_call 45;refine(jj.new_calls cs C U _ hl HN.out).mono ?_;rintro e w7 ⟨g,rfl,hgg,hk2,hC,hU,hb⟩;have HC:=qA hC;have HU:=qA hU;have K2:=qA hk2;have HGG:=qA (Nat.le_trans KB.out.size hgg);clear hk2 hC hU hgg;replace K1:=qB K1 hb;replace KB:=qS KB hb;clear hb))
   clear K1 HN;have hi:=HU.out
   go_loopg [20] 10 (λgf s20 wx=>∃(f:Nat),s20=.int .i64 f/\f<=9/\Aside0 (zL.outer U f (9-f)=some c)/\Aside0 (wx.heap[g]?=some (.cells (bd C U) 93 (0,0)))/\Aside0 (Below w.heap.size w wx)/\10<=gf+f)
   case atStart=>exact⟨0,rfl,by omega,HO,K2,KB,by omega⟩
   case round=>
    clear K2 KB HO;obtain⟨f,rfl,hf,HR,K2,KB,hgff⟩:=hrel
    by_cases hend2:f=9
    ·subst hend2
     have er:false=c:=Option.some.inj HR.out;subst er;have e6:=H6.out;rw[if_neg (by decide)] at e6;subst e6;clear HR H6;go_wp2;go_ret;exact⟨rfl,KB.out⟩
    ·obtain⟨d,hd⟩:∃d,9-f=d+1:=⟨8-f,by omega⟩
     have e:=HR.out;rw[hd] at e;unfold zL.outer at e;obtain⟨ib,hi1,e2⟩:=Option.bind_eq_some_iff.mp e;have HI:=qA hi1;have b0:decide ((f:Int)<9)=true:=decide_eq_true (by omega);have b3:((f:Int)<9)=True:=eq_true (by omega);have ewf:IntKind.i64.wrap ((f:Int)+1)=(f:Int)+1:=IntWalk.i64_in _ (by omega)
     have hd2:d=9-(f+1):=by omega
     rw[hd2] at e2;have HE:=qA e2
     obtain⟨g',rfl⟩:∃g',gk=g'+1:=⟨gk-1,by omega⟩
     clear e hi1 e2 HR hd hd2;go_wp2
     go_loopg [23] 3 (λgf s23 wx=>∃(s:Nat),s23=.int .i64 s/\s<=2/\Aside0 (zL.inner U f s (2-s)=some ib)/\Aside0 (wx.heap[g]?=some (.cells (bd C U) 93 (0,0)))/\Aside0 (Below w.heap.size w wx)/\3<=gf+s)
     case atStart=>exact⟨0,rfl,by omega,HI,K2,KB,by omega⟩
     case round=>
      clear K2 KB HI;obtain⟨s,rfl,hs,HR,K2,KB,hgs⟩:=hrel
      by_cases hend3:s=2
      ·subst hend3
       have er:false=ib:=Option.some.inj HR.out;subst er;have e2:=HE.out;rw[if_neg (by decide)] at e2;have HE2:=qA e2;clear HR e2 HE;go_wp2
       go_roundg g'
       case measure=>omega
       case rel=>exact⟨f+1,by simp,by omega,HE2,K2,KB,by omega⟩
      ·obtain⟨d,hd⟩:∃d,2-s=d+1:=⟨1-s,by omega⟩
       have e:=HR.out;rw[hd] at e;unfold zL.inner at e;obtain⟨⟨oa,ob⟩,hA,e2⟩:=Option.bind_eq_some_iff.mp e;obtain⟨⟨ia,ib2⟩,hB,e3⟩:=Option.bind_eq_some_iff.mp e2;obtain⟨⟨aa,ab⟩,hC,e4⟩:=Option.bind_eq_some_iff.mp e3;obtain⟨cn,hD,e5⟩:=Option.bind_eq_some_iff.mp e4;have HA:=qA hA;have HB:=qA hB;have HCC:=qA hC;have HDD:=qA hD;have c0:decide ((s:Int)<2)=true:=decide_eq_true (by omega);have c3:((s:Int)<2)=True:=eq_true (by omega);have ews:IntKind.i64.wrap ((s:Int)+1)=(s:Int)+1:=IntWalk.i64_in _ (by omega)
       have hd2:d=2-(s+1):=by omega
       rw[hd2] at e5;clear e e2 e3 e4 hA hB hC hD HR hd hd2
       obtain⟨g2,rfl⟩:∃g2,gk=g2+1:=⟨gk-1,by omega⟩
       by_cases hc:1<cn
       ·rw[if_pos hc] at e5
        have e6:=(Option.some.inj e5).symm;subst e6;have t0:decide (1<cn)=true:=decide_eq_true hc;have t00:(1<cn)=True:=eq_true hc;have e7:=HE.out;rw[if_pos rfl] at e7;have e8:=(Option.some.inj e7).symm;subst e8;have e9:=H6.out;rw[if_pos rfl] at e9;subst e9;clear e5 e7 HE H6 hc
        go_wp2_with (first|(go_at_call 91;refine(ze.of_calls C U s 1 oa ob g _ HC.out HU.out K2.out HA.out).mono ?_;rintro e w7 ⟨rfl,hb⟩;replace K2:=qB K2 hb;replace KB:=qS KB hb;clear hb)|(go_at_call 93;refine(zX.calls _ _ _ _ _ HB.out).mono ?_;rintro e w7 ⟨rfl,hb⟩;replace K2:=qB K2 hb;replace KB:=qS KB hb;clear hb)|(go_at_call 92;refine(z6.calls _ _ _ _ _ _ _ HCC.out).mono ?_;rintro e w7 ⟨rfl,hb⟩;replace K2:=qB K2 hb;replace KB:=qS KB hb;clear hb)|(go_at_call 94;refine(ye.calls _ _ _ _ HDD.out).mono ?_;rintro e w7 ⟨rfl,hb⟩;replace K2:=qB K2 hb;replace KB:=qS KB hb;clear hb))
        go_ret;exact⟨rfl,KB.out⟩
       ·rw[if_neg hc] at e5
        have HE5:=qA e5;have t0:decide (1<cn)=false:=decide_eq_false hc;have t00:(1<cn)=False:=eq_false hc;clear e5 hc
        go_wp2_with (first|(go_at_call 91;refine(ze.of_calls C U s 1 oa ob g _ HC.out HU.out K2.out HA.out).mono ?_;rintro e w7 ⟨rfl,hb⟩;replace K2:=qB K2 hb;replace KB:=qS KB hb;clear hb)|(go_at_call 93;refine(zX.calls _ _ _ _ _ HB.out).mono ?_;rintro e w7 ⟨rfl,hb⟩;replace K2:=qB K2 hb;replace KB:=qS KB hb;clear hb)|(go_at_call 92;refine(z6.calls _ _ _ _ _ _ _ HCC.out).mono ?_;rintro e w7 ⟨rfl,hb⟩;replace K2:=qB K2 hb;replace KB:=qS KB hb;clear hb)|(go_at_call 94;refine(ye.calls _ _ _ _ HDD.out).mono ?_;rintro e w7 ⟨rfl,hb⟩;replace K2:=qB K2 hb;replace KB:=qS KB hb;clear hb))
        go_roundg g2
        case measure=>omega
        case rel=>exact⟨s+1,by simp,by omega,HE5,K2,KB,by omega⟩
  ·obtain⟨d,hd⟩:∃d,81-n=d+1:=⟨80-n,by omega⟩
   have e:=HR.out;rw[hd] at e;unfold zL.dead at e;obtain⟨x,hx,e2⟩:=Option.bind_eq_some_iff.mp e
   have hn81:n<81:=by omega
   rw[<- HBG.out n hn81] at hx;have b0:decide ((n:Int)<81)=true:=decide_eq_true (by omega);have b1:(0<=(n:Int)/\(n:Int)<81)=True:=eq_true (by omega);have b3:((n:Int)<81)=True:=eq_true (by omega);have hix:∀W,(Instr.index 24 (.agg (jA.pv bs)) (.int .i64 (n:Int))).run Tryz.prog W=.ok (.int .i8 (bs.getD n 0)) W:=λW=>jA.index 24 23 81 n bs W Tryz.underlying24 (by kernel_rfl) (by kernel_rfl) (by kernel_rfl) (by omega) (by omega);generalize bs.getD n 0=y at hix hx;have HD:=qA hx;have ew:IntKind.i64.wrap ((n:Int)+1)=(n:Int)+1:=IntWalk.i64_in _ (by omega)
   have hd2:d=81-(n+1):=by omega
   rw[hd2] at e2
   obtain⟨g',rfl⟩:∃g',gk=g'+1:=⟨gk-1,by omega⟩
   clear e hx HR hd hd2
   cases x with
   | true=>
    rw[if_pos rfl] at e2;have e3:=(Option.some.inj e2).symm;subst e3;have e4:=H2.out;rw[if_pos rfl] at e4;have e5:=(Option.some.inj e4).symm;subst e5;clear e2 e4 H2
    go_wp2_with (first|(go_at_call 90;(with_reducible refine(zN.calls _ _ _ _ _ HD.out).mono ?_);rintro e w7 ⟨rfl,hd⟩;have hb:=hd.below;clear hd;replace K1:=qB K1 hb;replace KB:=qS KB hb;clear hb))
    go_ret;exact⟨rfl,KB.out⟩
   | false=>
    rw[if_neg (by decide)] at e2;have HE:=qA e2;clear e2
    go_wp2_with (first|(go_at_call 90;(with_reducible refine(zN.calls _ _ _ _ _ HD.out).mono ?_);rintro e w7 ⟨rfl,hd⟩;have hb:=hd.below;clear hd;replace K1:=qB K1 hb;replace KB:=qS KB hb;clear hb))
    go_roundg g'
    case measure=>omega
    case rel=>exact⟨n+1,by simp,by omega,HE,K1,KB,by omega⟩
end Go.Proofs.YtigenhbmgpfffaaGreatDoor.Pa
