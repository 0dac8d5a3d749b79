import Derived.Test.YtigenhbmgpfffaaGreatDoorB24
set_option maxRecDepth 100000
set_option maxHeartbeats 16000000
namespace Go.Proofs.YtigenhbmgpfffaaGreatDoor.Pa
open Go.RowKit Go.Proofs.YtigenhbmgpfffaaGreatDoorW.PrintWords Go.Proofs.YtigenhbmgpfffaaGreatDoorW.PrintLast Go.Proofs.YtigenhbmgpfffaaGreatDoorW.PrintMore
attribute [local go_sem] yE yC yM yL zo zn yD yB
set_option linter.unusedVariables false
set_option linter.unusedSimpArgs false
def zv.l0:Nat->Int->Int->List (S158)->Int->Int->Int->Int->Int->Int->Option (Int×Int)
 | 0,_,_,_,_,_,_,_,_,_=>none
 | k+1,x0,x1,x15,x16,x17,x210000,x210001,x214000,x214001=>if x17<x16 then(if 0<=x17 then(if x17<(x15.length:Int) then((jv.f k x0).bind λt220=>((yK.f ((j8 x15 x17).f0) ((j8 x15 x17).f1) t220).bind λbt221=>((zq.f k x1 bt221.1 bt221.2 x210000 x210001).bind λbt223=>((zj.f x214000 x214001 bt223.1 bt223.2).bind λbt225=>(zv.l0 k x0 x1 x15 x16 (wrap64 (x17+1)) x210000 x210001 bt225.1 bt225.2))))) else(none)) else(none)) else(some (x214000,x214001))
def zv.f (k:Nat) (a0:Int) (a1:Int) (a2_0:Int) (a2_1:Int):Option (Int×Int):=(zT.f k a0 a1).bind λbt211=>((jS.f k a0).bind λt214=>((zr.f k t214).bind λt215=>(zv.l0 k a0 a1 t215 (t215.length:Int) 0 a2_0 a2_1 bt211.1 bt211.2)))
theorem zv.mono_l:∀k,(∀y0 y1 y2 y3 y4 y5 y6 y7 y8,LeO (zv.l0 k y0 y1 y2 y3 y4 y5 y6 y7 y8) (zv.l0 (k+1) y0 y1 y2 y3 y4 y5 y6 y7 y8))
 | 0=>λ_ _ _ _ _ _ _ _ _ r h=>by simp [zv.l0] at h
 | k+1=>by
  have ih0:=zv.mono_l k
  ·intro y0 y1 y2 y3 y4 y5 y6 y7 y8
   unfold zv.l0
   repeat' first
   | (with_reducible exact ih0 _ _ _ _ _ _ _ _ _)
   | (with_reducible exact jS.mono _ _)
   | (with_reducible exact jv.mono _ _)
   | (with_reducible exact zr.mono _ _)
   | (with_reducible exact zq.mono _ _ _ _ _ _)
   | (with_reducible exact zT.mono _ _ _)
   | (with_reducible exact LeO.refl _)
   | (with_reducible exact LeO.none _)
   | (with_reducible refine LeO.ite ?_ ?_)
   | (with_reducible refine LeO.bind ?_ (λ_=>?_))
   | exact ih0 _ _ _ _ _ _ _ _ _
   | exact jS.mono _ _
   | exact jv.mono _ _
   | exact zr.mono _ _
   | exact zq.mono _ _ _ _ _ _
   | exact zT.mono _ _ _
   | exact LeO.none _
   | refine LeO.ite ?_ ?_
   | refine LeO.bind ?_ (λ_=>?_)
theorem zv.mono:∀a0 a1 a2 a3 k,LeO (zv.f k a0 a1 a2 a3) (zv.f (k+1) a0 a1 a2 a3):=by
 intro a0 a1 a2 a3 k;have ih0:=zv.mono_l k;unfold zv.f
 repeat' first
   | (with_reducible exact ih0 _ _ _ _ _ _ _ _ _)
   | (with_reducible exact jS.mono _ _)
   | (with_reducible exact jv.mono _ _)
   | (with_reducible exact zr.mono _ _)
   | (with_reducible exact zq.mono _ _ _ _ _ _)
   | (with_reducible exact zT.mono _ _ _)
   | (with_reducible exact LeO.refl _)
   | (with_reducible exact LeO.none _)
   | (with_reducible refine LeO.ite ?_ ?_)
   | (with_reducible refine LeO.bind ?_ (λ_=>?_))
   | exact ih0 _ _ _ _ _ _ _ _ _
   | exact jS.mono _ _
   | exact jv.mono _ _
   | exact zr.mono _ _
   | exact zq.mono _ _ _ _ _ _
   | exact zT.mono _ _ _
   | exact LeO.none _
   | refine LeO.ite ?_ ?_
   | refine LeO.bind ?_ (λ_=>?_)
def zv.T5:Bool×List (List Nat×List Nat):=(true,[([],[]),([],[]),([],[]),([],[]),([3],[3]),([2,4,4],[2,4]),([],[]),([1,5,6,5],[1,5,6]),([0,7,7],[0,7]),([8,8,0,1,2,3,4,5,6,7,8],[8])])
def zv.B5:List Nat:=[0,0,0,0,8,28,0,126,255,511]
theorem zv.tab5:rtab .any (opsOf Tryz.f120 5)=zv.T5:=by kernel_rfl
theorem zv.bits5:waitsOk zv.T5.2 zv.B5=true:=by kernel_rfl
theorem zv.calls (k:Nat) (a0:Int) (a1:Int) (a2_0:Int) (a2_1:Int) (r1:Int) (r2:Int) (w:World) (h:zv.f k a0 a1 a2_0 a2_1=some (r1,r2)):
  Calls Tryz.prog 120 #[.int .i8 a0,.int .i64 a1,.agg #[.int .u64 a2_0,.int .u64 a2_1]] w λe w'=>e=.returned (.agg #[.int .u64 r1,.int .u64 r2])/\Below w.heap.size w w':=by
 have hu88:=Tryz.underlying88;have hu158:=Tryz.underlying158;have HB:=qA (Below.refl w.heap.size w);have H:((zT.f k a0 a1).bind λbt211=>((jS.f k a0).bind λt214=>((zr.f k t214).bind λt215=>(zv.l0 k a0 a1 t215 (t215.length:Int) 0 a2_0 a2_1 bt211.1 bt211.2))))=some (r1,r2):=h;clear h;replace H:=Option.bind_eq_some_iff.mp H;obtain⟨⟨t211,t212⟩,A40,H⟩:=H;replace H:((jS.f k a0).bind λt214=>((zr.f k t214).bind λt215=>(zv.l0 k a0 a1 t215 (t215.length:Int) 0 a2_0 a2_1 t211 t212)))=some (r1,r2):=H;have A4:=qA A40;clear A40;replace H:=Option.bind_eq_some_iff.mp H;obtain⟨t214,A50,H⟩:=H;replace H:((zr.f k t214).bind λt215=>(zv.l0 k a0 a1 t215 (t215.length:Int) 0 a2_0 a2_1 t211 t212))=some (r1,r2):=H;have A5:=qA A50;clear A50;replace H:=Option.bind_eq_some_iff.mp H;obtain⟨t215,A60,H⟩:=H;replace H:(zv.l0 k a0 a1 t215 (t215.length:Int) 0 a2_0 a2_1 t211 t212)=some (r1,r2):=H;have A6:=qA A60;clear A60;have H':=qA H;clear H;go_enter Tryz.func120,Tryz.ntmps120
 go_wp2_with (first|((with_reducible refine jG (N:=5) rfl ?_);refine zI ?hg (N:=5) ?hd (cs:=#[.int .u64 a2_0,.int .u64 a2_1]) (t:=88) ?hr ?_;(case hd=>rfl);(case hg=>rfl);(case hr=>first|(go_simp;done)|(go_simp;rfl));intro gb209 hg w7 hbox hb;have n0_:=qA (jX (qH HB) hb);have n1_:=qA (hbox);have n2_:=qA ((by rw[hg];exact(jP (qH HB)):w.heap.size<=gb209));have n3_:=qA ((by rw[hg];exact(jP (qH HB)):w.heap.size<=gb209));clear HB;have HB:=n0_;have BK209:=n1_;have GW209:=n2_;have GE209:=n3_;clear n0_ n1_ n2_ n3_;clear hb hbox hg)|((with_reducible refine jG (N:=6) rfl ?_);refine zI ?hg (N:=6) ?hd (cs:=#[.int .u64 0,.int .u64 0]) (t:=88) ?hr ?_;(case hd=>rfl);(case hg=>rfl);(case hr=>first|(go_simp;done)|(go_simp;rfl));intro gb210 hg w8 hbox hb;have n0_:=qA (jd (g:=gb209) (o:=.cells #[.int .u64 a2_0,.int .u64 a2_1] 88 (0,0)) (qK BK209) hb);have n1_:=qA (jX (qH HB) hb);have n2_:=qA (hbox);have n3_:=qA ((by rw[hg];exact(jP (qH HB)):w.heap.size<=gb210));have n4_:=qA ((by rw[hg];exact(jP (qH HB)):w.heap.size<=gb210));have n5_:=qA ((by rw[hg];exact Nat.ne_of_lt (ju (g:=gb209) (o:=.cells #[.int .u64 a2_0,.int .u64 a2_1] 88 (0,0)) (qK BK209)):gb209≠gb210));have n6_:=qA ((by rw[hg];exact Nat.ne_of_gt (ju (g:=gb209) (o:=.cells #[.int .u64 a2_0,.int .u64 a2_1] 88 (0,0)) (qK BK209)):gb210≠gb209));clear BK209;clear HB;have BK209:=n0_;have HB:=n1_;have BK210:=n2_;have GW210:=n3_;have GE210:=n4_;have NB209_210:=n5_;have NB210_209:=n6_;clear n0_ n1_ n2_ n3_ n4_ n5_ n6_;clear hb hbox hg)|((with_reducible refine jV (f:=136) rfl ?_);refine zB (some 12) rfl rfl Tryz.func136 (by kernel_rfl) rfl #[.int .i8 a0,.int .i64 a1] rfl (by (try simp only[List.map_toArray,List.map_cons,List.map_nil]);first|done|rfl|(simp only[List.length_drop,List.length_take];rfl)) ?_;(with_reducible refine(zT.calls k a0 a1 t211 t212 _ A4.out).mono ?_);rintro e w9 ⟨rfl,hb⟩;refine⟨_,rfl,?_⟩;have n0_:=qA (jd (g:=gb209) (o:=.cells #[.int .u64 a2_0,.int .u64 a2_1] 88 (0,0)) (qK BK209) hb);have n1_:=qA (jd (g:=gb210) (o:=.cells #[.int .u64 0,.int .u64 0] 88 (0,0)) (qK BK210) hb);have n2_:=qA (jX (qH HB) hb);clear BK209;clear BK210;clear HB;have BK209:=n0_;have BK210:=n1_;have HB:=n2_;clear n0_ n1_ n2_;(try clear hb);(try clear hb2);(try clear hk);(try clear hi))|((with_reducible refine jG (N:=7) rfl ?_);refine zI ?hg (N:=7) ?hd (cs:=#[.int .u64 0,.int .u64 0]) (t:=88) ?hr ?_;(case hd=>rfl);(case hg=>rfl);(case hr=>first|(go_simp;done)|(go_simp;rfl));intro gb213 hg w10 hbox hb;have n0_:=qA (jd (g:=gb209) (o:=.cells #[.int .u64 a2_0,.int .u64 a2_1] 88 (0,0)) (qK BK209) hb);have n1_:=qA (jd (g:=gb210) (o:=.cells #[.int .u64 0,.int .u64 0] 88 (0,0)) (qK BK210) hb);have n2_:=qA (jX (qH HB) hb);have n3_:=qA (hbox);have n4_:=qA ((by rw[hg];exact(jP (qH HB)):w.heap.size<=gb213));have n5_:=qA ((by rw[hg];exact(jP (qH HB)):w.heap.size<=gb213));have n6_:=qA ((by rw[hg];exact Nat.ne_of_lt (ju (g:=gb209) (o:=.cells #[.int .u64 a2_0,.int .u64 a2_1] 88 (0,0)) (qK BK209)):gb209≠gb213));have n7_:=qA ((by rw[hg];exact Nat.ne_of_gt (ju (g:=gb209) (o:=.cells #[.int .u64 a2_0,.int .u64 a2_1] 88 (0,0)) (qK BK209)):gb213≠gb209));have n8_:=qA ((by rw[hg];exact Nat.ne_of_lt (ju (g:=gb210) (o:=.cells #[.int .u64 0,.int .u64 0] 88 (0,0)) (qK BK210)):gb210≠gb213));have n9_:=qA ((by rw[hg];exact Nat.ne_of_gt (ju (g:=gb210) (o:=.cells #[.int .u64 0,.int .u64 0] 88 (0,0)) (qK BK210)):gb213≠gb210));clear BK209;clear BK210;clear HB;have BK209:=n0_;have BK210:=n1_;have HB:=n2_;have BK213:=n3_;have GW213:=n4_;have GE213:=n5_;have NB209_213:=n6_;have NB213_209:=n7_;have NB210_213:=n8_;have NB213_210:=n9_;clear n0_ n1_ n2_ n3_ n4_ n5_ n6_ n7_ n8_ n9_;clear hb hbox hg;have hnb11:=NB213_209.out;have hnc11:=NB209_213.out;have hnb12:=NB213_210.out;have hnc12:=NB210_213.out;have hcz13_0:w10.cell? ⟨gb213,0,none⟩=some (.int .u64 0):=(jB BK213.out 0).trans rfl;have hcz13_1:w10.cell? ⟨gb213,1,none⟩=some (.int .u64 0):=(jB BK213.out 1).trans rfl;have hfz13_0:=jH BK213.out 0;have hfz13_1:=jH BK213.out 1)|((with_reducible refine jV (f:=24) rfl ?_);refine zB (some 14) rfl rfl Tryz.func24 (by kernel_rfl) rfl #[.int .i8 a0] rfl (by (try simp only[List.map_toArray,List.map_cons,List.map_nil]);first|done|rfl|(simp only[List.length_drop,List.length_take];rfl)) ?_;(with_reducible refine(jS.calls k a0 t214 _ A5.out).mono ?_);rintro e w' ⟨rfl,⟨nd,rfl⟩⟩;refine⟨_,rfl,?_⟩)|((with_reducible refine jV (f:=137) rfl ?_);refine zB (some 15) rfl rfl Tryz.func137 (by kernel_rfl) rfl #[.int .i64 t214] rfl (by (try simp only[List.map_toArray,List.map_cons,List.map_nil]);first|done|rfl|(simp only[List.length_drop,List.length_take];rfl)) ?_;(with_reducible refine(zr.calls k t214 t215 _ A6.out).mono ?_);rintro e w14 ⟨v216,rfl,ho0,hb⟩;refine⟨_,rfl,?_⟩;have n0_:=qA (Kd.R_lower ho0 (jP (qH HB)));have n1_:=qA (jd (g:=gb209) (o:=.cells #[.int .u64 a2_0,.int .u64 a2_1] 88 (0,0)) (by (with_reducible repeat (first|refine jQ ?_ _|refine jY ?_|refine jI ?_ _));refine jp ?_ NB209_213.out _;(with_reducible repeat (first|refine jQ ?_ _|refine jY ?_|refine jI ?_ _));refine jp ?_ NB209_213.out _;(with_reducible repeat (first|refine jQ ?_ _|refine jY ?_|refine jI ?_ _));exact BK209.out) hb);have n2_:=qA (jd (g:=gb210) (o:=.cells #[.int .u64 0,.int .u64 0] 88 (0,0)) (by (with_reducible repeat (first|refine jQ ?_ _|refine jY ?_|refine jI ?_ _));refine jp ?_ NB210_213.out _;(with_reducible repeat (first|refine jQ ?_ _|refine jY ?_|refine jI ?_ _));refine jp ?_ NB210_213.out _;(with_reducible repeat (first|refine jQ ?_ _|refine jY ?_|refine jI ?_ _));exact BK210.out) hb);have n3_:=qA (jd (g:=gb213) (o:=.cells #[.int .u64 t211,.int .u64 t212] 88 (0,0)) (by (with_reducible repeat (first|refine jQ ?_ _|refine jY ?_|refine jI ?_ _));refine zS (cs:=#[.int .u64 t211,.int .u64 0]) ?_ 1 _ (by first|rfl|(simp [*];done));(with_reducible repeat (first|refine jQ ?_ _|refine jY ?_|refine jI ?_ _));refine zS (cs:=#[.int .u64 0,.int .u64 0]) ?_ 0 _ (by first|rfl|(simp [*];done));(with_reducible repeat (first|refine jQ ?_ _|refine jY ?_|refine jI ?_ _));exact BK213.out) hb);have n4_:=qA (jX (qH HB) hb);clear BK209;clear BK210;clear BK213;clear HB;have HO217:=n0_;have BK209:=n1_;have BK210:=n2_;have BK213:=n3_;have HB:=n4_;clear n0_ n1_ n2_ n3_ n4_;(try clear hb);(try clear hb2);(try clear hk);(try clear hi);(try clear ho0);obtain⟨Ao15,co15,eo15⟩:=Kd.R_slice HO217.out;subst eo15))
 go_loopg [17] k (λkq v17 w'=>∃(x17_1:Int) (x214000_1:Int) (x214001_1:Int),v17=.int .i64 x17_1/\Aside0 (zv.l0 kq a0 a1 t215 (t215.length:Int) x17_1 a2_0 a2_1 x214000_1 x214001_1=some (r1,r2))/\Aside0 (kq<=k)/\Aside0 (Kd.R k158 158 w' w.heap.size (λ_=>True) (.slice Ao15 t215.length co15) t215)/\Aside0 (w'.heap[gb209]?=some (.cells #[.int .u64 a2_0,.int .u64 a2_1] 88 (0,0)))/\Aside0 (w'.heap[gb210]?=some (.cells #[.int .u64 0,.int .u64 0] 88 (0,0)))/\Aside0 (w'.heap[gb213]?=some (.cells #[.int .u64 x214000_1,.int .u64 x214001_1] 88 (0,0)))/\Aside0 (Below w.heap.size w w'))
 case atStart=>exact⟨(0),(t211),(t212),(by first|rfl|(simp;done)|(simp [*];done)),H',⟨Nat.le_refl _⟩,⟨by (with_reducible repeat (first|apply Kd.R_alloc|apply Kd.R_drewN|apply Kd.R_drew));exact HO217.out⟩,⟨qK BK209⟩,⟨qK BK210⟩,⟨qK BK213⟩,⟨qH HB⟩⟩
 case round=>
  clear H'
  try clear c1
  try clear c2
  try clear p2
  try clear c11
  try clear c12
  try clear c13
  try clear hcz13_0
  try clear hcz13_1
  try clear hfz13_0
  try clear hfz13_1
  obtain⟨x17_1,x214000_1,x214001_1,rfl,HA,HK1,HO_15,BK209,BK210,BK213,HB⟩:=hrel
  cases gk with
  | zero=>exact absurd HA.out (by simp [zv.l0])
  | succ k1=>
   have H:=HA.out;clear HA;simp only[zv.l0] at H
   by_cases c16:x17_1<(t215.length:Int)
   ·rw[if_pos c16] at H
    have c16b0:decide (x17_1<(t215.length:Int))=true:=decide_eq_true c16;clear c16
    by_cases c17:0<=x17_1
    ·rw[if_pos c17] at H
     have c17b0:decide (0<=x17_1)=true:=decide_eq_true c17;clear c17
     by_cases c18:x17_1<(t215.length:Int)
     ·rw[if_pos c18] at H
      have c18b0:decide (x17_1<(t215.length:Int))=true:=decide_eq_true c18;clear c18;replace H:=Option.bind_eq_some_iff.mp H;obtain⟨t220,A190,H⟩:=H;replace H:((yK.f ((j8 t215 x17_1).f0) ((j8 t215 x17_1).f1) t220).bind λbt221=>((zq.f k1 a1 bt221.1 bt221.2 a2_0 a2_1).bind λbt223=>((zj.f x214000_1 x214001_1 bt223.1 bt223.2).bind λbt225=>(zv.l0 k1 a0 a1 t215 (t215.length:Int) (wrap64 (x17_1+1)) a2_0 a2_1 bt225.1 bt225.2))))=some (r1,r2):=H;have A19:=qA A190;clear A190;replace H:=Option.bind_eq_some_iff.mp H;obtain⟨⟨t221,t222⟩,A200,H⟩:=H;replace H:((zq.f k1 a1 t221 t222 a2_0 a2_1).bind λbt223=>((zj.f x214000_1 x214001_1 bt223.1 bt223.2).bind λbt225=>(zv.l0 k1 a0 a1 t215 (t215.length:Int) (wrap64 (x17_1+1)) a2_0 a2_1 bt225.1 bt225.2)))=some (r1,r2):=H;have A20:=qA A200;clear A200;replace H:=Option.bind_eq_some_iff.mp H;obtain⟨⟨t223,t224⟩,A210,H⟩:=H;replace H:((zj.f x214000_1 x214001_1 t223 t224).bind λbt225=>(zv.l0 k1 a0 a1 t215 (t215.length:Int) (wrap64 (x17_1+1)) a2_0 a2_1 bt225.1 bt225.2))=some (r1,r2):=H;have A21:=qA A210;clear A210;replace H:=Option.bind_eq_some_iff.mp H;obtain⟨⟨t225,t226⟩,A220,H⟩:=H;replace H:(zv.l0 k1 a0 a1 t215 (t215.length:Int) (wrap64 (x17_1+1)) a2_0 a2_1 t225 t226)=some (r1,r2):=H;have A22:=qA A220;clear A220;have H':=qA H
      clear H;have p218:0<=(x17_1:Int):=of_decide_eq_true (by first|(with_reducible assumption)|assumption);have q218:x17_1<(t215.length:Int):=of_decide_eq_true (by first|(with_reducible assumption)|assumption);obtain⟨ad218,e218,hx218_0,hx218_1⟩:=at_T158 (Kd.R_reads' HO_15.out).2.2 x17_1 p218 q218
      cases e218
      replace p218:=eq_true p218;replace q218:=eq_true q218
      try go_wp2_with (first|((with_reducible refine jG (N:=9) rfl ?_);refine zI ?hg (N:=9) ?hd (cs:=#[.int .i64 0,.int .i64 0]) (t:=158) ?hr ?_;(case hd=>rfl);(case hg=>rfl);(case hr=>first|(go_simp;done)|(go_simp;rfl));intro gb219 hg w23 hbox hb;have n0_:=qA (Kd.R_below (Kd.R_elderB (by (with_reducible repeat (first|apply Kd.R_alloc|apply Kd.R_drewN|apply Kd.R_drew));exact HO_15.out) gb219 (Nat.le_of_eq hg.symm)) hb);have n1_:=qA (jd (g:=gb209) (o:=.cells #[.int .u64 a2_0,.int .u64 a2_1] 88 (0,0)) (qK BK209) hb);have n2_:=qA (jd (g:=gb210) (o:=.cells #[.int .u64 0,.int .u64 0] 88 (0,0)) (qK BK210) hb);have n3_:=qA (jd (g:=gb213) (o:=.cells #[.int .u64 x214000_1,.int .u64 x214001_1] 88 (0,0)) (qK BK213) hb);have n4_:=qA (jX (qH HB) hb);have n5_:=qA (hbox);have n6_:=qA ((by rw[hg];exact(jP (qH HB)):w.heap.size<=gb219));have n7_:=qA ((by rw[hg];exact(jP (qH HB)):w.heap.size<=gb219));have n8_:=qA ((by rw[hg];exact Nat.ne_of_lt (ju (g:=gb209) (o:=.cells #[.int .u64 a2_0,.int .u64 a2_1] 88 (0,0)) (qK BK209)):gb209≠gb219));have n9_:=qA ((by rw[hg];exact Nat.ne_of_gt (ju (g:=gb209) (o:=.cells #[.int .u64 a2_0,.int .u64 a2_1] 88 (0,0)) (qK BK209)):gb219≠gb209));have n10_:=qA ((by rw[hg];exact Nat.ne_of_lt (ju (g:=gb210) (o:=.cells #[.int .u64 0,.int .u64 0] 88 (0,0)) (qK BK210)):gb210≠gb219));have n11_:=qA ((by rw[hg];exact Nat.ne_of_gt (ju (g:=gb210) (o:=.cells #[.int .u64 0,.int .u64 0] 88 (0,0)) (qK BK210)):gb219≠gb210));have n12_:=qA ((by rw[hg];exact Nat.ne_of_lt (ju (g:=gb213) (o:=.cells #[.int .u64 x214000_1,.int .u64 x214001_1] 88 (0,0)) (qK BK213)):gb213≠gb219));have n13_:=qA ((by rw[hg];exact Nat.ne_of_gt (ju (g:=gb213) (o:=.cells #[.int .u64 x214000_1,.int .u64 x214001_1] 88 (0,0)) (qK BK213)):gb219≠gb213));clear HO_15;clear BK209;clear BK210;clear BK213;clear HB;have HO_15:=n0_;have BK209:=n1_;have BK210:=n2_;have BK213:=n3_;have HB:=n4_;have BK219:=n5_;have GW219:=n6_;have GE219:=n7_;have NB209_219:=n8_;have NB219_209:=n9_;have NB210_219:=n10_;have NB219_210:=n11_;have NB213_219:=n12_;have NB219_213:=n13_;clear n0_ n1_ n2_ n3_ n4_ n5_ n6_ n7_ n8_ n9_ n10_ n11_ n12_ n13_;clear hb hbox hg;have hnb24:=NB219_209.out;have hnc24:=NB209_219.out;have hnb25:=NB219_210.out;have hnc25:=NB210_219.out;have hnb26:=NB219_213.out;have hnc26:=NB213_219.out;have hcz27_0:w23.cell? ⟨gb219,0,none⟩=some (.int .i64 0):=(jB BK219.out 0).trans rfl;have hcz27_1:w23.cell? ⟨gb219,1,none⟩=some (.int .i64 0):=(jB BK219.out 1).trans rfl;have hfz27_0:=jH BK219.out 0;have hfz27_1:=jH BK219.out 1))
      have n0_:Aside0 (Kd.R k158 158 ((w23.setCell ⟨gb219,0,none⟩ (.int .i64 ((j8 t215 x17_1).f0))).setCell ⟨gb219,1,none⟩ (.int .i64 ((j8 t215 x17_1).f1))) w.heap.size (λk_=>k_≠gb219) (.slice (some ad218) t215.length co15) t215):=⟨by (with_reducible repeat (first|apply Kd.R_alloc|apply Kd.R_drewN|apply Kd.R_drew));exact Kd.R_mono (Kd.R_far (p:=⟨gb219,1,none⟩) (Kd.R_far (p:=⟨gb219,0,none⟩) (Kd.R_mono HO_15.out (λk_ hk=>(⟨hk,hk.2⟩:_/\k_≠gb219))) (λ_ hk=>hk.2) (.int .i64 ((j8 t215 x17_1).f0))) (λ_ hk=>hk.2) (.int .i64 ((j8 t215 x17_1).f1))) (λ_ hk=>hk.1.2)⟩
      have n1_:Aside0 (((w23.setCell ⟨gb219,0,none⟩ (.int .i64 ((j8 t215 x17_1).f0))).setCell ⟨gb219,1,none⟩ (.int .i64 ((j8 t215 x17_1).f1))).heap[gb209]?=some (.cells #[.int .u64 a2_0,.int .u64 a2_1] 88 (0,0))):=⟨by (with_reducible repeat (first|refine jQ ?_ _|refine jY ?_|refine jI ?_ _));refine jp ?_ NB209_219.out _;(with_reducible repeat (first|refine jQ ?_ _|refine jY ?_|refine jI ?_ _));refine jp ?_ NB209_219.out _;(with_reducible repeat (first|refine jQ ?_ _|refine jY ?_|refine jI ?_ _));exact BK209.out⟩
      have n2_:Aside0 (((w23.setCell ⟨gb219,0,none⟩ (.int .i64 ((j8 t215 x17_1).f0))).setCell ⟨gb219,1,none⟩ (.int .i64 ((j8 t215 x17_1).f1))).heap[gb210]?=some (.cells #[.int .u64 0,.int .u64 0] 88 (0,0))):=⟨by (with_reducible repeat (first|refine jQ ?_ _|refine jY ?_|refine jI ?_ _));refine jp ?_ NB210_219.out _;(with_reducible repeat (first|refine jQ ?_ _|refine jY ?_|refine jI ?_ _));refine jp ?_ NB210_219.out _;(with_reducible repeat (first|refine jQ ?_ _|refine jY ?_|refine jI ?_ _));exact BK210.out⟩
      have n3_:Aside0 (((w23.setCell ⟨gb219,0,none⟩ (.int .i64 ((j8 t215 x17_1).f0))).setCell ⟨gb219,1,none⟩ (.int .i64 ((j8 t215 x17_1).f1))).heap[gb213]?=some (.cells #[.int .u64 x214000_1,.int .u64 x214001_1] 88 (0,0))):=⟨by (with_reducible repeat (first|refine jQ ?_ _|refine jY ?_|refine jI ?_ _));refine jp ?_ NB213_219.out _;(with_reducible repeat (first|refine jQ ?_ _|refine jY ?_|refine jI ?_ _));refine jp ?_ NB213_219.out _;(with_reducible repeat (first|refine jQ ?_ _|refine jY ?_|refine jI ?_ _));exact BK213.out⟩
      have n4_:Aside0 (((w23.setCell ⟨gb219,0,none⟩ (.int .i64 ((j8 t215 x17_1).f0))).setCell ⟨gb219,1,none⟩ (.int .i64 ((j8 t215 x17_1).f1))).heap[gb219]?=some (.cells #[.int .i64 ((j8 t215 x17_1).f0),.int .i64 ((j8 t215 x17_1).f1)] 158 (0,0))):=⟨by (with_reducible repeat (first|refine jQ ?_ _|refine jY ?_|refine jI ?_ _));refine zS (cs:=#[.int .i64 ((j8 t215 x17_1).f0),.int .i64 0]) ?_ 1 _ (by first|rfl|(simp [*];done));(with_reducible repeat (first|refine jQ ?_ _|refine jY ?_|refine jI ?_ _));refine zS (cs:=#[.int .i64 0,.int .i64 0]) ?_ 0 _ (by first|rfl|(simp [*];done));(with_reducible repeat (first|refine jQ ?_ _|refine jY ?_|refine jI ?_ _));exact BK219.out⟩
      have n5_:Aside0 (Below w.heap.size w ((w23.setCell ⟨gb219,0,none⟩ (.int .i64 ((j8 t215 x17_1).f0))).setCell ⟨gb219,1,none⟩ (.int .i64 ((j8 t215 x17_1).f1)))):=⟨qH HB⟩
      (try clear HO_15)
      (try clear BK209)
      (try clear BK210)
      (try clear BK213)
      (try clear BK219)
      (try clear HB)
      generalize ((w23.setCell ⟨gb219,0,none⟩ (.int .i64 ((j8 t215 x17_1).f0))).setCell ⟨gb219,1,none⟩ (.int .i64 ((j8 t215 x17_1).f1)))=w28 at n0_ n1_ n2_ n3_ n4_ n5_ ⊢;have HO_15:=n0_;have BK209:=n1_;have BK210:=n2_;have BK213:=n3_;have BK219:=n4_;have HB:=n5_;clear n0_ n1_ n2_ n3_ n4_ n5_;have n0_:=qA (Kd.R_drew HO_15.out);have n1_:=qD BK209;have n2_:=qD BK210;have n3_:=qD BK213;have n4_:=qD BK219;have n5_:=qA (jAN HB.out);clear HO_15;clear BK209;clear BK210;clear BK213;clear BK219;clear HB;have HO_15:=n0_;have BK209:=n1_;have BK210:=n2_;have BK213:=n3_;have BK219:=n4_;have HB:=n5_;clear n0_ n1_ n2_ n3_ n4_ n5_;refine start_ (n:=10) (S:=λw'=>w'.cell? ⟨gb213,0,none⟩=some (.int .u64 x214000_1)/\w'.cell? ⟨gb213,1,none⟩=some (.int .u64 x214001_1)/\w'.cell? ⟨gb219,0,none⟩=some (.int .i64 ((j8 t215 x17_1).f0))/\w'.cell? ⟨gb219,1,none⟩=some (.int .i64 ((j8 t215 x17_1).f1))/\w'.cell? ⟨gb209,0,none⟩=some (.int .u64 a2_0)/\w'.cell? ⟨gb209,1,none⟩=some (.int .u64 a2_1)) (ds:=[9]) #[false,false,false,false,false,false,false,false,false,false] (by kernel_rfl) rfl rfl ⟨(jB BK213.out 0).trans rfl,(jB BK213.out 1).trans rfl,(jB BK219.out 0).trans rfl,(jB BK219.out 1).trans rfl,(jB BK209.out 0).trans rfl,(jB BK209.out 1).trans rfl⟩ (λhHeld=>?_);refine with_tabW zv.tab5 zv.bits5 (λHT_ HW_=>?_)
      generalize w28.drew=w29 at HO_15 BK209 BK210 BK213 BK219 HB hHeld ⊢;refine pure_ (i:=1) (N:=some 22) (v:=?_) (a':=?_) #[false,true,false,false,false,false,false,false,false,false] rfl rfl (any_of HT_.out (by kernel_rfl)) (λ_ _ _ h=>h) (Or.inl ⟨by rfl,?_⟩) ?_ ?_
      rotate_left
      ·intro w'
       go_simp
       with_reducible rfl
      rotate_left
      ·simp only[Act.put,List.setIfInBounds_toArray,List.set_cons_zero,List.set_cons_succ,zP,zd]
       rfl
      refine pure_ (i:=3) (N:=some 24) (v:=?_) (a':=?_) #[false,true,false,true,false,false,false,false,false,false] rfl rfl (any_of HT_.out (by kernel_rfl)) (λ_ _ _ h=>h) (Or.inl ⟨by rfl,?_⟩) ?_ ?_
      rotate_left
      ·intro w'
       go_simp
       with_reducible rfl
      rotate_left
      ·simp only[Act.put,List.setIfInBounds_toArray,List.set_cons_zero,List.set_cons_succ,zP,zd]
       rfl
      refine take_ (i:=0) (N:=some 21) (v:=?_) (a':=?_) #[true,true,false,true,false,false,false,false,false,false] rfl rfl (take_ofW HT_.out HW_.out (by kernel_rfl)) (λ_ _ _ h=>h) (Or.inl ⟨by rfl,?_⟩) hHeld ?_ ?_
      rotate_left
      ·rintro w' ⟨s0,s1,s2,s3,s4,s5⟩
       go_simp
       with_reducible rfl
      rotate_left
      ·simp only[Act.put,List.setIfInBounds_toArray,List.set_cons_zero,List.set_cons_succ,zP,zd]
       rfl
      refine take_ (i:=2) (N:=some 23) (v:=?_) (a':=?_) #[true,true,true,true,false,false,false,false,false,false] rfl rfl (take_ofW HT_.out HW_.out (by kernel_rfl)) (λ_ _ _ h=>h) (Or.inl ⟨by rfl,?_⟩) hHeld ?_ ?_
      rotate_left
      ·rintro w' ⟨s0,s1,s2,s3,s4,s5⟩
       go_simp
       with_reducible rfl
      rotate_left
      ·simp only[Act.put,List.setIfInBounds_toArray,List.set_cons_zero,List.set_cons_succ,zP,zd]
       rfl
      refine take_ (i:=6) (N:=some 27) (v:=?_) (a':=?_) #[true,true,true,true,false,false,true,false,false,false] rfl rfl (take_ofW HT_.out HW_.out (by kernel_rfl)) (λ_ _ _ h=>h) (Or.inl ⟨by rfl,?_⟩) hHeld ?_ ?_
      rotate_left
      ·rintro w' ⟨s0,s1,s2,s3,s4,s5⟩
       go_simp
       with_reducible rfl
      rotate_left
      ·simp only[Act.put,List.setIfInBounds_toArray,List.set_cons_zero,List.set_cons_succ,zP,zd]
       rfl
      refine one_ (i:=4) (N:=some 25) #[true,true,true,true,true,false,true,false,false,false] rfl rfl (jBZ HT_.out (by kernel_rfl)) (by decide) (λK hK=>?_);refine jBF Tryz.func48 (by kernel_rfl) rfl #[.int .i8 a0] (by rfl) rfl rfl (by (try simp only[List.map_toArray,List.map_cons,List.map_nil]);first|done|rfl|(simp only[List.length_drop,List.length_take];rfl)) ?_
      with_reducible refine(jv.calls k1 a0 t220 _ A19.out).mono ?_
      rintro e w' ⟨rfl,⟨nd,rfl⟩⟩;refine⟨_,rfl,?_⟩;refine hK.out _ _ ⟨(jB BK213.out 0).trans rfl,(jB BK213.out 1).trans rfl,(jB BK219.out 0).trans rfl,(jB BK219.out 1).trans rfl,(jB BK209.out 0).trans rfl,(jB BK209.out 1).trans rfl⟩ (λhHeld=>?_);clear hK K;refine jBD (a':=?_) ?_ ?_
      rotate_left
      ·show Act.put _ (some 25) _=_
       simp only[Act.put,List.setIfInBounds_toArray,List.set_cons_zero,List.set_cons_succ,zP,zd]
       rfl
      refine one_ (i:=5) (N:=some 26) #[true,true,true,true,true,true,true,false,false,false] rfl rfl (jBZ HT_.out (by kernel_rfl)) (by decide) (λK hK=>?_);refine jBF Tryz.func139 (by kernel_rfl) rfl #[.agg #[.int .i64 ((j8 t215 x17_1).f0),.int .i64 ((j8 t215 x17_1).f1)],.int .i64 t220] (by rfl) rfl rfl (by (try simp only[List.map_toArray,List.map_cons,List.map_nil]);first|done|rfl|(simp only[List.length_drop,List.length_take];rfl)) ?_
      with_reducible refine(yK.calls ((j8 t215 x17_1).f0) ((j8 t215 x17_1).f1) t220 t221 t222 _ A20.out).mono ?_
      rintro e w30 ⟨rfl,hb⟩;refine⟨_,rfl,?_⟩;have n0_:=qA (Kd.R_below (by (with_reducible repeat (first|apply Kd.R_alloc|apply Kd.R_drewN|apply Kd.R_drew));exact HO_15.out) hb);have n1_:=qA (jd (g:=gb209) (o:=.cells #[.int .u64 a2_0,.int .u64 a2_1] 88 (0,0)) (qK BK209) hb);have n2_:=qA (jd (g:=gb210) (o:=.cells #[.int .u64 0,.int .u64 0] 88 (0,0)) (qK BK210) hb);have n3_:=qA (jd (g:=gb213) (o:=.cells #[.int .u64 x214000_1,.int .u64 x214001_1] 88 (0,0)) (qK BK213) hb);have n4_:=qA (jd (g:=gb219) (o:=.cells #[.int .i64 ((j8 t215 x17_1).f0),.int .i64 ((j8 t215 x17_1).f1)] 158 (0,0)) (qK BK219) hb);have n5_:=qA (jX (qH HB) hb);clear HO_15;clear BK209
      clear BK210;clear BK213;clear BK219;clear HB;have HO_15:=n0_;have BK209:=n1_;have BK210:=n2_;have BK213:=n3_;have BK219:=n4_;have HB:=n5_;clear n0_ n1_ n2_ n3_ n4_ n5_
      (try clear hb)
      (try clear hb2)
      (try clear hk)
      (try clear hi)
      refine hK.out _ _ ⟨(jB BK213.out 0).trans rfl,(jB BK213.out 1).trans rfl,(jB BK219.out 0).trans rfl,(jB BK219.out 1).trans rfl,(jB BK209.out 0).trans rfl,(jB BK209.out 1).trans rfl⟩ (λhHeld=>?_);clear hK K;refine jBD (a':=?_) ?_ ?_
      rotate_left
      ·show Act.put _ (some 26) _=_
       simp only[Act.put,List.setIfInBounds_toArray,List.set_cons_zero,List.set_cons_succ,zP,zd]
       rfl
      refine one_ (i:=7) (N:=some 28) #[true,true,true,true,true,true,true,true,false,false] rfl rfl (jBZ HT_.out (by kernel_rfl)) (by decide) (λK hK=>?_);refine jBF Tryz.func138 (by kernel_rfl) rfl #[.int .i64 a1,.agg #[.int .i64 t221,.int .i64 t222],.agg #[.int .u64 a2_0,.int .u64 a2_1]] (by rfl) rfl rfl (by (try simp only[List.map_toArray,List.map_cons,List.map_nil]);first|done|rfl|(simp only[List.length_drop,List.length_take];rfl)) ?_
      with_reducible refine(zq.calls k1 a1 t221 t222 a2_0 a2_1 t223 t224 _ A21.out).mono ?_
      rintro e w31 ⟨rfl,hb⟩;refine⟨_,rfl,?_⟩;have n0_:=qA (Kd.R_below (by (with_reducible repeat (first|apply Kd.R_alloc|apply Kd.R_drewN|apply Kd.R_drew));exact HO_15.out) hb);have n1_:=qA (jd (g:=gb209) (o:=.cells #[.int .u64 a2_0,.int .u64 a2_1] 88 (0,0)) (qK BK209) hb);have n2_:=qA (jd (g:=gb210) (o:=.cells #[.int .u64 0,.int .u64 0] 88 (0,0)) (qK BK210) hb);have n3_:=qA (jd (g:=gb213) (o:=.cells #[.int .u64 x214000_1,.int .u64 x214001_1] 88 (0,0)) (qK BK213) hb);have n4_:=qA (jd (g:=gb219) (o:=.cells #[.int .i64 ((j8 t215 x17_1).f0),.int .i64 ((j8 t215 x17_1).f1)] 158 (0,0)) (qK BK219) hb);have n5_:=qA (jX (qH HB) hb);clear HO_15;clear BK209
      clear BK210;clear BK213;clear BK219;clear HB;have HO_15:=n0_;have BK209:=n1_;have BK210:=n2_;have BK213:=n3_;have BK219:=n4_;have HB:=n5_;clear n0_ n1_ n2_ n3_ n4_ n5_
      (try clear hb)
      (try clear hb2)
      (try clear hk)
      (try clear hi)
      refine hK.out _ _ ⟨(jB BK213.out 0).trans rfl,(jB BK213.out 1).trans rfl,(jB BK219.out 0).trans rfl,(jB BK219.out 1).trans rfl,(jB BK209.out 0).trans rfl,(jB BK209.out 1).trans rfl⟩ (λhHeld=>?_);clear hK K;refine jBD (a':=?_) ?_ ?_
      rotate_left
      ·show Act.put _ (some 28) _=_
       simp only[Act.put,List.setIfInBounds_toArray,List.set_cons_zero,List.set_cons_succ,zP,zd]
       rfl
      refine one_ (i:=8) (N:=some 29) #[true,true,true,true,true,true,true,true,true,false] rfl rfl (jBZ HT_.out (by kernel_rfl)) (by decide) (λK hK=>?_);refine jBF Tryz.func119 (by kernel_rfl) rfl #[.agg #[.int .u64 x214000_1,.int .u64 x214001_1],.agg #[.int .u64 t223,.int .u64 t224]] (by rfl) rfl rfl (by (try simp only[List.map_toArray,List.map_cons,List.map_nil]);first|done|rfl|(simp only[List.length_drop,List.length_take];rfl)) ?_
      with_reducible refine(zj.calls x214000_1 x214001_1 t223 t224 t225 t226 _ A22.out).mono ?_
      rintro e w32 ⟨rfl,hb⟩;refine⟨_,rfl,?_⟩;have n0_:=qA (Kd.R_below (by (with_reducible repeat (first|apply Kd.R_alloc|apply Kd.R_drewN|apply Kd.R_drew));exact HO_15.out) hb);have n1_:=qA (jd (g:=gb209) (o:=.cells #[.int .u64 a2_0,.int .u64 a2_1] 88 (0,0)) (qK BK209) hb);have n2_:=qA (jd (g:=gb210) (o:=.cells #[.int .u64 0,.int .u64 0] 88 (0,0)) (qK BK210) hb);have n3_:=qA (jd (g:=gb213) (o:=.cells #[.int .u64 x214000_1,.int .u64 x214001_1] 88 (0,0)) (qK BK213) hb);have n4_:=qA (jd (g:=gb219) (o:=.cells #[.int .i64 ((j8 t215 x17_1).f0),.int .i64 ((j8 t215 x17_1).f1)] 158 (0,0)) (qK BK219) hb);have n5_:=qA (jX (qH HB) hb);clear HO_15;clear BK209
      clear BK210;clear BK213;clear BK219;clear HB;have HO_15:=n0_;have BK209:=n1_;have BK210:=n2_;have BK213:=n3_;have BK219:=n4_;have HB:=n5_;clear n0_ n1_ n2_ n3_ n4_ n5_
      (try clear hb)
      (try clear hb2)
      (try clear hk)
      (try clear hi)
      refine hK.out _ _ ⟨(jB BK213.out 0).trans rfl,(jB BK213.out 1).trans rfl,(jB BK219.out 0).trans rfl,(jB BK219.out 1).trans rfl,(jB BK209.out 0).trans rfl,(jB BK209.out 1).trans rfl⟩ (λhHeld=>?_);clear hK K;refine jBD (a':=?_) ?_ ?_
      rotate_left
      ·show Act.put _ (some 29) _=_
       simp only[Act.put,List.setIfInBounds_toArray,List.set_cons_zero,List.set_cons_succ,zP,zd]
       rfl
      refine last_ (i:=9) (N:=none) #[true,true,true,true,true,true,true,true,true,true] rfl rfl (jBZ HT_.out (by kernel_rfl)) (by decide) (λK hK=>?_);have hs33:w32.cell? ⟨gb213,0,none⟩=some (.int .u64 x214000_1):=(jB BK213.out 0).trans rfl;have hfs33:=jH BK213.out 0;have hns33_0:=NB209_213.out;have hns33_1:=NB210_213.out;have hns33_3:=NB219_213.out;have hms33_0:=NB213_209.out;have hms33_1:=NB213_210.out;have hms33_3:=NB213_219.out;have hs34:w32.cell? ⟨gb213,1,none⟩=some (.int .u64 x214001_1):=(jB BK213.out 1).trans rfl;have hfs34:=jH BK213.out 1;have hns34_0:=NB209_213.out;have hns34_1:=NB210_213.out;have hns34_3:=NB219_213.out;have hms34_0:=NB213_209.out;have hms34_1:=NB213_210.out;have hms34_3:=NB213_219.out;refine skip_ (w1:=?_) (by rfl) rfl ?_ ?_
      rotate_left
      ·go_simp
       rfl
      refine hK.out _ _ ?_;clear hK K;refine done_ (done_of HT_.out (by kernel_rfl)) ?_
      try go_wp2
      go_roundg k1
      case measure=>have:=HK1.out;omega
      case rel=>exact⟨(wrap64 (x17_1+1)),(t225),(t226),(by first|rfl|(simp;done)|(simp [*];done)),H',⟨by have:=HK1.out;omega⟩,⟨by (with_reducible repeat (first|apply Kd.R_alloc|apply Kd.R_drewN|apply Kd.R_drew));exact Kd.R_mono (Kd.R_far (p:=⟨gb213,1,none⟩) (Kd.R_far (p:=⟨gb213,0,none⟩) (Kd.R_types HO_15.out BK213.out (by decide)) (λ_ hk=>hk.2) (.int .u64 t225)) (λ_ hk=>hk.2) (.int .u64 t226)) (λ_ hk=>trivial)⟩,⟨by (with_reducible repeat (first|refine jQ ?_ _|refine jY ?_|refine jI ?_ _));refine jp ?_ NB209_213.out _;(with_reducible repeat (first|refine jQ ?_ _|refine jY ?_|refine jI ?_ _));refine jp ?_ NB209_213.out _;(with_reducible repeat (first|refine jQ ?_ _|refine jY ?_|refine jI ?_ _));exact BK209.out⟩,⟨by (with_reducible repeat (first|refine jQ ?_ _|refine jY ?_|refine jI ?_ _));refine jp ?_ NB210_213.out _;(with_reducible repeat (first|refine jQ ?_ _|refine jY ?_|refine jI ?_ _));refine jp ?_ NB210_213.out _;(with_reducible repeat (first|refine jQ ?_ _|refine jY ?_|refine jI ?_ _));exact BK210.out⟩,⟨by (with_reducible repeat (first|refine jQ ?_ _|refine jY ?_|refine jI ?_ _));refine zS (cs:=#[.int .u64 t225,.int .u64 x214001_1]) ?_ 1 _ (by first|rfl|(simp [*];done));(with_reducible repeat (first|refine jQ ?_ _|refine jY ?_|refine jI ?_ _));refine zS (cs:=#[.int .u64 x214000_1,.int .u64 x214001_1]) ?_ 0 _ (by first|rfl|(simp [*];done));(with_reducible repeat (first|refine jQ ?_ _|refine jY ?_|refine jI ?_ _));exact BK213.out⟩,⟨qH HB⟩⟩
     ·rw[if_neg c18] at H
      exact absurd H (by simp)
    ·rw[if_neg c17] at H
     exact absurd H (by simp)
   ·rw[if_neg c16] at H
    have c16b0:decide (x17_1<(t215.length:Int))=false:=decide_eq_false c16;clear c16;simp only[Option.some.injEq,Prod.mk.injEq] at H;obtain⟨rfl,rfl⟩:=H;have hnb35:=NB213_209.out;have hnc35:=NB209_213.out;have hnb36:=NB213_210.out;have hnc36:=NB210_213.out;have hcz37_0:wr.cell? ⟨gb213,0,none⟩=some (.int .u64 x214000_1):=(jB BK213.out 0).trans rfl;have hcz37_1:wr.cell? ⟨gb213,1,none⟩=some (.int .u64 x214001_1):=(jB BK213.out 1).trans rfl;have hfz37_0:=jH BK213.out 0;have hfz37_1:=jH BK213.out 1;have hnb38:=NB210_209.out;have hnc38:=NB209_210.out;have hcz39_0:wr.cell? ⟨gb210,0,none⟩=some (.int .u64 0):=(jB BK210.out 0).trans rfl;have hcz39_1:wr.cell? ⟨gb210,1,none⟩=some (.int .u64 0):=(jB BK210.out 1).trans rfl;have hfz39_0:=jH BK210.out 0;have hfz39_1:=jH BK210.out 1;go_wp2;refine bodyPost_ret (results_cell_row rfl _ _ gb210 88 #[.int .u64 x214000_1,.int .u64 x214001_1] (0,0) _ rfl (by (with_reducible repeat (first|refine jQ ?_ _|refine jY ?_|refine jI ?_ _));refine zS (cs:=#[.int .u64 x214000_1,.int .u64 0]) ?_ 1 _ (by first|rfl|(simp [*];done));(with_reducible repeat (first|refine jQ ?_ _|refine jY ?_|refine jI ?_ _));refine zS (cs:=#[.int .u64 0,.int .u64 0]) ?_ 0 _ (by first|rfl|(simp [*];done));(with_reducible repeat (first|refine jQ ?_ _|refine jY ?_|refine jI ?_ _));exact BK210.out) Tryz.underlying88 rfl (by kernel_rfl)) rfl ?_
    exact⟨by first|rfl|(simp [jL,jK]<;>rfl)|(simp [*,jL,jK]<;>rfl)|(simp [*,jL,jK];generalize ByteArray.toList _=q_;cases q_<;>rfl),qH HB⟩
end Go.Proofs.YtigenhbmgpfffaaGreatDoor.Pa
