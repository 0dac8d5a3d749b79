import Derived.Test.YtigenhbmgpfffaaGreatDoorB16
set_option maxRecDepth 100000
set_option maxHeartbeats 16000000
namespace Go.Proofs.YtigenhbmgpfffaaGreatDoor.Pa
open Go.RowKit Go.Proofs.YtigenhbmgpfffaaGreatDoorW.PrintWords Go.Proofs.YtigenhbmgpfffaaGreatDoorW.PrintLast Go.Proofs.YtigenhbmgpfffaaGreatDoorW.PrintMore
attribute [local go_sem] yE yC yM yL zo zn yD yB
set_option linter.unusedVariables false
set_option linter.unusedSimpArgs false
def jz.f (k:Nat) (a0_0:Int) (a0_1:Int) (a1:Int):Option (Int×Int):=(zY.f k a1).bind λbt118=>((zj.f a0_0 a0_1 bt118.1 bt118.2).bind λbt120=>(some (bt120.1,bt120.2)))
theorem jz.mono:∀a0 a1 a2 k,LeO (jz.f k a0 a1 a2) (jz.f (k+1) a0 a1 a2):=by
 intro a0 a1 a2 k;unfold jz.f
 repeat' first
   | (with_reducible exact zY.mono _ _)
   | (with_reducible exact LeO.refl _)
   | (with_reducible exact LeO.none _)
   | (with_reducible refine LeO.ite ?_ ?_)
   | (with_reducible refine LeO.bind ?_ (λ_=>?_))
   | exact zY.mono _ _
   | exact LeO.none _
   | refine LeO.ite ?_ ?_
   | refine LeO.bind ?_ (λ_=>?_)
theorem jz.calls (k:Nat) (a0_0:Int) (a0_1:Int) (a1:Int) (r1:Int) (r2:Int) (w:World) (h:jz.f k a0_0 a0_1 a1=some (r1,r2)):
  Calls Tryz.prog 99 #[.agg #[.int .u64 a0_0,.int .u64 a0_1],.int .i64 a1] w λe w'=>e=.returned (.agg #[.int .u64 r1,.int .u64 r2])/\Below w.heap.size w w':=by
 have hu88:=Tryz.underlying88;have HB:=qA (Below.refl w.heap.size w);have H:((zY.f k a1).bind λbt118=>((zj.f a0_0 a0_1 bt118.1 bt118.2).bind λbt120=>(some (bt120.1,bt120.2))))=some (r1,r2):=h;clear h;replace H:=Option.bind_eq_some_iff.mp H;obtain⟨⟨t118,t119⟩,A30,H⟩:=H;replace H:((zj.f a0_0 a0_1 t118 t119).bind λbt120=>(some (bt120.1,bt120.2)))=some (r1,r2):=H;have A3:=qA A30;clear A30;replace H:=Option.bind_eq_some_iff.mp H;obtain⟨⟨t120,t121⟩,A40,H⟩:=H;replace H:(some (t120,t121))=some (r1,r2):=H;have A4:=qA A40;clear A40;simp only[Option.some.injEq,Prod.mk.injEq] at H;obtain⟨rfl,rfl⟩:=H;go_enter Tryz.func99,Tryz.ntmps99
 try go_wp2_with (first|((with_reducible refine jG (N:=2) rfl ?_);refine zI ?hg (N:=2) ?hd (cs:=#[.int .u64 a0_0,.int .u64 a0_1]) (t:=88) ?hr ?_;(case hd=>rfl);(case hg=>rfl);(case hr=>first|(go_simp;done)|(go_simp;rfl));intro gb116 hg w5 hbox hb;have n0_:=qA (jX (qH HB) hb);have n1_:=qA (hbox);have n2_:=qA ((by rw[hg];exact(jP (qH HB)):w.heap.size<=gb116));have n3_:=qA ((by rw[hg];exact(jP (qH HB)):w.heap.size<=gb116));clear HB;have HB:=n0_;have BK116:=n1_;have GW116:=n2_;have GE116:=n3_;clear n0_ n1_ n2_ n3_;clear hb hbox hg)|((with_reducible refine jG (N:=4) rfl ?_);refine zI ?hg (N:=4) ?hd (cs:=#[.int .u64 0,.int .u64 0]) (t:=88) ?hr ?_;(case hd=>rfl);(case hg=>rfl);(case hr=>first|(go_simp;done)|(go_simp;rfl));intro gb117 hg w6 hbox hb;have n0_:=qA (jd (g:=gb116) (o:=.cells #[.int .u64 a0_0,.int .u64 a0_1] 88 (0,0)) (qK BK116) hb);have n1_:=qA (jX (qH HB) hb);have n2_:=qA (hbox);have n3_:=qA ((by rw[hg];exact(jP (qH HB)):w.heap.size<=gb117));have n4_:=qA ((by rw[hg];exact(jP (qH HB)):w.heap.size<=gb117));have n5_:=qA ((by rw[hg];exact Nat.ne_of_lt (ju (g:=gb116) (o:=.cells #[.int .u64 a0_0,.int .u64 a0_1] 88 (0,0)) (qK BK116)):gb116≠gb117));have n6_:=qA ((by rw[hg];exact Nat.ne_of_gt (ju (g:=gb116) (o:=.cells #[.int .u64 a0_0,.int .u64 a0_1] 88 (0,0)) (qK BK116)):gb117≠gb116));clear BK116;clear HB;have BK116:=n0_;have HB:=n1_;have BK117:=n2_;have GW117:=n3_;have GE117:=n4_;have NB116_117:=n5_;have NB117_116:=n6_;clear n0_ n1_ n2_ n3_ n4_ n5_ n6_;clear hb hbox hg))
 have n0_:=qD BK116;have n1_:=qD BK117;have n2_:=qA (jAN HB.out);clear BK116;clear BK117;clear HB;have BK116:=n0_;have BK117:=n1_;have HB:=n2_;clear n0_ n1_ n2_;refine start_ (n:=5) (S:=λw'=>w'.cell? ⟨gb116,0,none⟩=some (.int .u64 a0_0)/\w'.cell? ⟨gb116,1,none⟩=some (.int .u64 a0_1)) (ds:=[]) #[false,false,false,false,false] (by kernel_rfl) rfl rfl ⟨(jB BK116.out 0).trans rfl,(jB BK116.out 1).trans rfl⟩ (λhHeld=>?_);generalize w6.drew=w7 at BK116 BK117 HB hHeld ⊢;refine pure_ (i:=1) (N:=some 6) (v:=?_) (a':=?_) #[false,true,false,false,false] rfl rfl (by kernel_rfl) (λ_ _ _ h=>h) (Or.inl ⟨by rfl,?_⟩) ?_ ?_
 rotate_left
 ·intro w'
  go_simp
  with_reducible rfl
 rotate_left
 ·simp only[Act.put,List.setIfInBounds_toArray,List.set_cons_zero,List.set_cons_succ,zP,zd]
  rfl
 refine take_ (i:=0) (N:=some 5) (v:=?_) (a':=?_) #[true,true,false,false,false] rfl rfl (by kernel_rfl) (λ_ _ _ h=>h) (Or.inl ⟨by rfl,?_⟩) hHeld ?_ ?_
 rotate_left
 ·rintro w' ⟨s0,s1⟩
  go_simp
  with_reducible rfl
 rotate_left
 ·simp only[Act.put,List.setIfInBounds_toArray,List.set_cons_zero,List.set_cons_succ,zP,zd]
  rfl
 refine one_ (i:=2) (N:=some 7) #[true,true,true,false,false] rfl rfl (by kernel_rfl) (by decide) (λK hK=>?_);refine jBF Tryz.func123 (by kernel_rfl) rfl #[.int .i64 a1] (by rfl) rfl rfl (by (try simp only[List.map_toArray,List.map_cons,List.map_nil]);first|done|rfl|(simp only[List.length_drop,List.length_take];rfl)) ?_
 with_reducible refine(zY.calls k a1 t118 t119 _ A3.out).mono ?_
 rintro e w8 ⟨rfl,hb⟩;refine⟨_,rfl,?_⟩;have n0_:=qA (jd (g:=gb116) (o:=.cells #[.int .u64 a0_0,.int .u64 a0_1] 88 (0,0)) (qK BK116) hb);have n1_:=qA (jd (g:=gb117) (o:=.cells #[.int .u64 0,.int .u64 0] 88 (0,0)) (qK BK117) hb);have n2_:=qA (jX (qH HB) hb);clear BK116;clear BK117;clear HB;have BK116:=n0_;have BK117:=n1_;have HB:=n2_;clear n0_ n1_ n2_
 (try clear hb)
 (try clear hb2)
 (try clear hk)
 (try clear hi)
 refine hK.out _ _ ⟨(jB BK116.out 0).trans rfl,(jB BK116.out 1).trans rfl⟩ (λhHeld=>?_);clear hK K;refine jBD (a':=?_) ?_ ?_
 rotate_left
 ·show Act.put _ (some 7) _=_
  simp only[Act.put,List.setIfInBounds_toArray,List.set_cons_zero,List.set_cons_succ,zP,zd]
  rfl
 refine one_ (i:=3) (N:=some 8) #[true,true,true,true,false] rfl rfl (by kernel_rfl) (by decide) (λK hK=>?_);refine jBF Tryz.func119 (by kernel_rfl) rfl #[.agg #[.int .u64 a0_0,.int .u64 a0_1],.agg #[.int .u64 t118,.int .u64 t119]] (by rfl) rfl rfl (by (try simp only[List.map_toArray,List.map_cons,List.map_nil]);first|done|rfl|(simp only[List.length_drop,List.length_take];rfl)) ?_
 with_reducible refine(zj.calls a0_0 a0_1 t118 t119 t120 t121 _ A4.out).mono ?_
 rintro e w9 ⟨rfl,hb⟩;refine⟨_,rfl,?_⟩;have n0_:=qA (jd (g:=gb116) (o:=.cells #[.int .u64 a0_0,.int .u64 a0_1] 88 (0,0)) (qK BK116) hb);have n1_:=qA (jd (g:=gb117) (o:=.cells #[.int .u64 0,.int .u64 0] 88 (0,0)) (qK BK117) hb);have n2_:=qA (jX (qH HB) hb);clear BK116;clear BK117;clear HB;have BK116:=n0_;have BK117:=n1_;have HB:=n2_;clear n0_ n1_ n2_
 (try clear hb)
 (try clear hb2)
 (try clear hk)
 (try clear hi)
 refine hK.out _ _ ⟨(jB BK116.out 0).trans rfl,(jB BK116.out 1).trans rfl⟩ (λhHeld=>?_);clear hK K;refine jBD (a':=?_) ?_ ?_
 rotate_left
 ·show Act.put _ (some 8) _=_
  simp only[Act.put,List.setIfInBounds_toArray,List.set_cons_zero,List.set_cons_succ,zP,zd]
  rfl
 refine one_ (i:=4) (N:=none) #[true,true,true,true,true] rfl rfl (by kernel_rfl) (by decide) (λK hK=>?_);have hs10:w9.cell? ⟨gb117,0,none⟩=some (.int .u64 0):=(jB BK117.out 0).trans rfl;have hfs10:=jH BK117.out 0;have hns10_0:=NB116_117.out;have hms10_0:=NB117_116.out;have hs11:w9.cell? ⟨gb117,1,none⟩=some (.int .u64 0):=(jB BK117.out 1).trans rfl;have hfs11:=jH BK117.out 1;have hns11_0:=NB116_117.out;have hms11_0:=NB117_116.out;refine skip_ (w1:=?_) (by rfl) rfl ?_ ?_
 rotate_left
 ·go_simp
  rfl
 refine hK.out _ _ ⟨((jBG (p:=⟨gb117,_,none⟩) NB116_117.out _).trans (((jBG (p:=⟨gb117,_,none⟩) NB116_117.out _).trans (hHeld.1)))),((jBG (p:=⟨gb117,_,none⟩) NB116_117.out _).trans (((jBG (p:=⟨gb117,_,none⟩) NB116_117.out _).trans (hHeld.2))))⟩ (λhHeld=>?_);clear hK K;refine done_ (by kernel_rfl) ?_
 try go_wp2
 refine bodyPost_ret (results_cell_row rfl _ _ gb117 88 #[.int .u64 t120,.int .u64 t121] (0,0) _ rfl (by (with_reducible repeat (first|refine jQ ?_ _|refine jY ?_|refine jI ?_ _));refine zS (cs:=#[.int .u64 t120,.int .u64 0]) ?_ 1 _ (by first|rfl|(simp [*];done));(with_reducible repeat (first|refine jQ ?_ _|refine jY ?_|refine jI ?_ _));refine zS (cs:=#[.int .u64 0,.int .u64 0]) ?_ 0 _ (by first|rfl|(simp [*];done));(with_reducible repeat (first|refine jQ ?_ _|refine jY ?_|refine jI ?_ _));exact BK117.out) Tryz.underlying88 rfl (by kernel_rfl)) rfl ?_;exact⟨by first|rfl|(simp [jL,jK]<;>rfl)|(simp [*,jL,jK]<;>rfl)|(simp [*,jL,jK];generalize ByteArray.toList _=q_;cases q_<;>rfl),qH HB⟩
theorem Ch.set {g:Nat} (w:World) (i:Nat) (v:Value):Ch g w (w.setCell ⟨g,i,none⟩ v):=by
 refine⟨λk hk _=>?_,λB w0 hB hb=>hb.setCell (p:=⟨g,i,none⟩) hB v,((Below.refl 0 w).setCell (p:=⟨g,i,none⟩) (Nat.zero_le g) v).size⟩;show(w.setCells g i [v]).heap[k]?=_;exact yT _ _ k hk
def zf.upd (F:Int->Int->Int->Option (Int×Int)) (q:Int) (v:Int) (us:List Int):Option (List Int):=
 if 0<v/\v<32 then(F (bget us v.toNat).1 (bget us v.toNat).2 q).bind λr=>(jv.f 9 v).bind λs=>if s=0\/s=1 then(F (bget (bput us v.toNat r) (32+s.toNat)).1 (bget (bput us v.toNat r) (32+s.toNat)).2 q).bind λr2=>some (bput (bput us v.toNat r) (32+s.toNat) r2) else none else none
def zf.f (q:Nat) (x:Int) (cs us:List Int):Option (List Int×List Int):=
 (if cs.getD q 0=0 then some us else zf.upd (yP.f 9) (q:Int) (cs.getD q 0) us).bind λus1=>(jS.f 9 x).bind λkd=>(if(if kd=0 then 0 else x)=0 then some us1 else zf.upd (jz.f 9) (q:Int) (if kd=0 then 0 else x) us1).bind λus2=>some (cs.set q (if kd=0 then 0 else x),us2)
theorem zf.put_calls (cs us cs' us':List Int) (q g:Nat) (x:Int) (w:World) (hl:cs.length=98) (hul:us.length=68) (hq:q<81) (hb:w.heap[g]?=some (.cells (bd cs us) 93 (0,0))) (h:zf.f q x cs us=some (cs',us')):
  Calls Tryz.prog 67 #[.pointer (some ⟨g,0,none⟩),.int .i64 (q:Int),.int .i8 x] w λe w'=>e=.returned (.tuple #[])/\w'.heap[g]?=some (.cells (bd cs' us') 93 (0,0))/\cs'.length=98/\us'.length=68/\Ch g w w':=by
 unfold zf.f at h;obtain⟨us1,h1,h2⟩:=Option.bind_eq_some_iff.mp h;obtain⟨kd,h3,h4⟩:=Option.bind_eq_some_iff.mp h2;obtain⟨us2,h5,h6⟩:=Option.bind_eq_some_iff.mp h4;clear h h2 h4;have K1:=qA hb;have HC:=qA (Ch.refl g w);have hgl:=qA (ju hb);have H6:=qA h6;have H5:=qA h5;have H3:=qA h3;clear hb h3 h5 h6;have b0:decide ((q:Int)<0)=false:=decide_eq_false (by omega);have b1:decide ((q:Int)>=81)=false:=decide_eq_false (by omega);have b2:decide (81<=(q:Int))=false:=decide_eq_false (by omega);have b3:(0<=(q:Int)/\(q:Int)<81)=True:=eq_true (by omega);have cN:w.cell? ⟨g,q,none⟩=some (.int .i8 (cs.getD q 0)):=(jB K1.out q).trans (jBX cs us q (by omega))
 obtain⟨old,hold⟩:∃old,old=cs.getD q 0:=⟨_,rfl⟩
 rw[<- hold] at cN h1;have H1:=qA h1;clear h1 hold;go_enter Tryz.func67,Tryz.ntmps67
 by_cases h0:old=0
 ·have e1:=H1.out
  rw[if_pos h0] at e1;have hu1:=Option.some.inj e1;subst hu1
  have c0:(old != 0)=false:=by simpa using h0
  clear e1 H1;have hUl:us.length=68:=hul;have e5:=H5.out;have e6:=H6.out;clear H5 H6
  by_cases hk:kd=0
  ·rw[if_pos hk,if_pos rfl] at e5
   rw[if_pos hk] at e6;have hu2:=Option.some.inj e5;have he:=Option.some.inj e6;simp only[Prod.mk.injEq] at he;obtain⟨rfl,rfl⟩:=he;clear e5 e6
   have ck:(kd==0)=true:=by simpa using hk
   have fN:=jH K1.out q;have dN:=(jB K1.out q).trans (jBX cs us q (by omega));go_upto_region 8 with(first|(go_at_call 24;(with_reducible refine(jS.calls _ _ _ _ H3.out).mono ?_);rintro e w7 ⟨rfl,⟨n1,rfl⟩⟩;have m1:=qA (jQ K1.out n1);have mC:=qA (HC.out.trans (Ch.below (ju K1.out) (zi (Below.refl _ _) n1)));clear K1 HC;have K1:=m1;have HC:=mC;clear m1 mC));subst hu2;have B1:=(zQ K1.out q (.int .i8 0)).trans (by rw[jCA cs us q 0 (by omega)]);have nC:=HC.out.trans (Ch.set _ q (.int .i8 0));generalize (World.setCell _ ⟨g,q,none⟩ (.int .i8 0))=W5 at *;clear K1 HC cN fN;have K1:=qA B1;have HC:=qA nC;clear B1 nC;go_wp2;refine bodyPost_end (results_none rfl _ _ _) rfl ?_;exact⟨rfl,K1.out,by rw[List.length_set];exact hl,hUl,HC.out⟩
  ·rw[if_neg hk] at e5 e6
   have he:=Option.some.inj e6;simp only[Prod.mk.injEq] at he;obtain⟨rfl,rfl⟩:=he;clear e6
   have ck:(kd==0)=false:=by simpa using hk
   have fN:=jH K1.out q;have dN:=(jB K1.out q).trans (jBX cs us q (by omega));go_upto_region 8 with(first|(go_at_call 24;(with_reducible refine(jS.calls _ _ _ _ H3.out).mono ?_);rintro e w7 ⟨rfl,⟨n1,rfl⟩⟩;have m1:=qA (jQ K1.out n1);have mC:=qA (HC.out.trans (Ch.below (ju K1.out) (zi (Below.refl _ _) n1)));clear K1 HC;have K1:=m1;have HC:=mC;clear m1 mC));have B1:=(zQ K1.out q (.int .i8 x)).trans (by rw[jCA cs us q x (by omega)]);have nC:=HC.out.trans (Ch.set _ q (.int .i8 x));generalize (World.setCell _ ⟨g,q,none⟩ (.int .i8 x))=W5 at *;clear K1 HC cN fN;have K1:=qA B1;have HC:=qA nC;clear B1 nC
   by_cases hx:x=0
   ·rw[if_pos hx] at e5
    have hu2:=Option.some.inj e5;clear e5
    have cx:(x != 0)=false:=by simpa using hx
    subst hu2;go_wp2;refine bodyPost_end (results_none rfl _ _ _) rfl ?_;exact⟨rfl,K1.out,by rw[List.length_set];exact hl,by omega,HC.out⟩
   ·rw[if_neg hx] at e5
    have H5b:=qA e5;clear e5
    have cx:(x != 0)=true:=by simpa using hx
    clear ck;generalize hcx:cs.set q x=cs2 at *
    have hl2:cs2.length=98:=by rw[<- hcx,List.length_set];exact hl
    have e1:=H5b.out;unfold zf.upd at e1
    by_cases hv:0<x/\x<32
    case neg=>rw[if_neg hv] at e1;cases e1
    rw[if_pos hv] at e1
    obtain⟨i,hi⟩:∃i:Nat,x=(i:Int):=⟨x.toNat,by omega⟩
    subst hi;rw[Int.toNat_natCast] at e1;obtain⟨⟨ra,rb⟩,e2,e3⟩:=Option.bind_eq_some_iff.mp e1;obtain⟨sv0,e4,e5⟩:=Option.bind_eq_some_iff.mp e3
    have hs01:sv0=0\/sv0=1:=by
     by_cases hs:sv0=0\/sv0=1
     ·exact hs
     ·rw[if_neg hs] at e5;cases e5
    rw[if_pos hs01] at e5
    obtain⟨n,hn⟩:∃n:Nat,sv0=(n:Int):=⟨sv0.toNat,by omega⟩
    subst hn;rw[Int.toNat_natCast] at e5
    have hn2:n<2:=by omega
    have bn:(0<=(n:Int)/\(n:Int)<2)=True:=eq_true (by omega);have bn2:((n:Int)<2)=True:=eq_true (by omega);clear hs01;obtain⟨⟨rc,rd⟩,e6,e7⟩:=Option.bind_eq_some_iff.mp e5;have hres:=Option.some.inj e7;clear e1 e3 e5 e7;have HA:=qA e2;have HS:=qA e4;have HB:=qA e6;have HRES:=qA hres;clear e2 e4 e6 hres
    have hi32:i<32:=by omega
    have bi:(0<=(i:Int)/\(i:Int)<32)=True:=eq_true (by omega);have bi2:((i:Int)<32)=True:=eq_true (by omega)
    have hbl:(bput us i (ra,rb)).length=68:=by rw[jAW];omega
    go_upto_region 9 with(fail);go_cut [] (λwx=>Aside0 (wx.heap[g]?=some (.cells (bd cs2 (bput us i (ra,rb))) 93 (0,0)))/\Aside0 (Ch g w wx))
    case first=>
     refine wp_region_held_drew (S:=λ_=>True) (by kernel_rfl) trivial (λ_=>?_);have n1:=qD K1;have nC:=qA (HC.out.trans (Ch.below (ju K1.out) (zD (Below.refl _ _))));clear K1 HC;have K1:=n1;have HC:=nC;clear n1 nC;refine tk 0 ?_;refine tk 1 ?_;refine tk 2 ?_;refine tk 3 ?_;refine tk 4 ?_;refine tk 5 ?_;refine tk 6 ?_;refine tk 8 ?_;refine tk 10 ?_;refine tk 11 ?_;refine on1 7 (λK hK=>?_);show(if Region.wanted ⟨some 69,.load 88 (.tmp 68),_,_,_,none⟩ _=true then Oper.wp _ ⟨some 69,.load 88 (.tmp 68),_,_,_,none⟩ _ _ _ _ else _);rw[if_pos (by rfl)];refine yh (.tmp 68) rfl (i:=i) (by show Value.pointer (some ⟨g,98+i*2,none⟩)=Value.pointer (some ⟨g,98+2*(i),none⟩);congr 3;omega) hl2 K1.out (by omega) ?_;refine ko hK ?_;clear hK K;refine on1 9 (λK hK=>?_);show(if Region.wanted ⟨some 71,.call _,_,_,_,none⟩ _=true then Oper.wp _ ⟨some 71,.call _,_,_,_,none⟩ _ _ _ _ else _);go_simp;refine(jz.calls _ _ _ _ _ _ _ HA.out).mono ?_;rintro e w7 ⟨rfl,hd⟩;have hb:=hd;clear hd;have n1:=qB K1 hb;have nC:=qA (HC.out.trans (Ch.below (ju K1.out) hb));clear K1 HC hb;have K1:=n1;have HC:=nC;clear n1 nC;refine ko hK ?_;clear hK K;refine tk 12 ?_;refine on1 13 (λK hK=>?_);show(if Region.wanted ⟨none,.store 88 (.tmp 74) (.tmp 71),_,_,_,none⟩ _=true then Oper.wp _ ⟨none,.store 88 (.tmp 74) (.tmp 71),_,_,_,none⟩ _ _ _ _ else _)
     rw[if_pos (by rfl)];refine jA1 (.tmp 74) (.tmp 71) rfl (i:=i) (by show Value.pointer (some ⟨g,98+i*2,none⟩)=Value.pointer (some ⟨g,98+2*(i),none⟩);congr 3;omega) rfl hl2 K1.out (by omega) ?_;intro W3 s1 s2;replace K1:=qA s1;replace HC:=qA (HC.out.trans s2);clear s1 s2;refine ko hK ?_;clear hK K;refine wpAnyH_done (by kernel_rfl) ?_ _;go_wp2;go_meet;exact⟨K1,HC⟩
    case rest=>
     clear K1 HC HA;obtain⟨K1,HC⟩:=hcut;have HBL:=qA hbl;clear hbl;generalize hub:bput us i (ra,rb)=ub at *;have hbl:=HBL.out;go_upto_region 10 with(fail);refine wp_region_held_drew (S:=λ_=>True) (by kernel_rfl) trivial (λ_=>?_);have n1:=qD K1;have nC:=qA (HC.out.trans (Ch.below (ju K1.out) (zD (Below.refl _ _))));clear K1 HC;have K1:=n1;have HC:=nC;clear n1 nC;refine tk 0 ?_;refine tk 1 ?_;refine tk 3 ?_;refine tk 4 ?_;refine tk 6 ?_;refine tk 7 ?_;refine tk 10 ?_;refine tk 12 ?_;refine tk 13 ?_;refine on1 2 (λK hK=>?_);show(if Region.wanted ⟨some 77,.call _,_,_,_,none⟩ _=true then Oper.wp _ ⟨some 77,.call _,_,_,_,none⟩ _ _ _ _ else _);go_simp;refine(jv.calls _ _ _ _ HS.out).mono ?_;rintro e w7 ⟨rfl,hd⟩;have hb:=hd.below;clear hd;have n1:=qB K1 hb;have nC:=qA (HC.out.trans (Ch.below (ju K1.out) hb));clear K1 HC hb;have K1:=n1;have HC:=nC;clear n1 nC;refine ko hK ?_;clear hK K;refine on1 5 (λK hK=>?_);show(if Region.wanted ⟨some 80,.call _,_,_,_,none⟩ _=true then Oper.wp _ ⟨some 80,.call _,_,_,_,none⟩ _ _ _ _ else _);go_simp;refine(jv.calls _ _ _ _ HS.out).mono ?_;rintro e w7 ⟨rfl,hd⟩;have hb:=hd.below;clear hd;have n1:=qB K1 hb;have nC:=qA (HC.out.trans (Ch.below (ju K1.out) hb));clear K1 HC hb;have K1:=n1
     have HC:=nC;clear n1 nC;refine ko hK ?_;clear hK K;refine tk 8 ?_;refine on1 9 (λK hK=>?_);show(if Region.wanted ⟨some 84,.load 88 (.tmp 83),_,_,_,none⟩ _=true then Oper.wp _ ⟨some 84,.load 88 (.tmp 83),_,_,_,none⟩ _ _ _ _ else _);rw[if_pos (by rfl)];refine yh (.tmp 83) rfl (i:=32+n) (by show Value.pointer (some ⟨g,162+n*2,none⟩)=Value.pointer (some ⟨g,98+2*(32+n),none⟩);congr 3;omega) hl2 K1.out (by omega) ?_;refine ko hK ?_;clear hK K;refine on1 11 (λK hK=>?_);show(if Region.wanted ⟨some 86,.call _,_,_,_,none⟩ _=true then Oper.wp _ ⟨some 86,.call _,_,_,_,none⟩ _ _ _ _ else _);go_simp;refine(jz.calls _ _ _ _ _ _ _ HB.out).mono ?_;rintro e w7 ⟨rfl,hd⟩;have hb:=hd;clear hd;have n1:=qB K1 hb;have nC:=qA (HC.out.trans (Ch.below (ju K1.out) hb));clear K1 HC hb;have K1:=n1;have HC:=nC;clear n1 nC;refine ko hK ?_;clear hK K;refine tk 14 ?_;refine on1 15 (λK hK=>?_);show(if Region.wanted ⟨none,.store 88 (.tmp 89) (.tmp 86),_,_,_,none⟩ _=true then Oper.wp _ ⟨none,.store 88 (.tmp 89) (.tmp 86),_,_,_,none⟩ _ _ _ _ else _);rw[if_pos (by rfl)];refine jA1 (.tmp 89) (.tmp 86) rfl (i:=32+n) (by show Value.pointer (some ⟨g,162+n*2,none⟩)=Value.pointer (some ⟨g,98+2*(32+n),none⟩);congr 3;omega) rfl hl2 K1.out (by omega) ?_;intro W3 s1 s2;replace K1:=qA s1;replace HC:=qA (HC.out.trans s2)
     clear s1 s2;refine ko hK ?_;clear hK K;refine wpAnyH_done (by kernel_rfl) ?_ _;have e0:=K1.out;rw[HRES.out] at e0;clear K1 HB HS;have K1:=qA e0;clear e0;go_wp2;refine bodyPost_end (results_none rfl _ _ _) rfl ?_;exact⟨rfl,by rw[hcx];exact K1.out,by rw[hcx];exact hl2,by rw[<- HRES.out,jAW];exact HBL.out,HC.out⟩
 ·have H1b:=qA ((if_neg h0).symm.trans H1.out)
  clear H1
  have c0:(old != 0)=true:=by simpa using h0
  have e1:=H1b.out;unfold zf.upd at e1
  by_cases hv:0<old/\old<32
  case neg=>rw[if_neg hv] at e1;cases e1
  rw[if_pos hv] at e1
  obtain⟨i,hi⟩:∃i:Nat,old=(i:Int):=⟨old.toNat,by omega⟩
  subst hi;rw[Int.toNat_natCast] at e1;obtain⟨⟨ra,rb⟩,e2,e3⟩:=Option.bind_eq_some_iff.mp e1;obtain⟨sv0,e4,e5⟩:=Option.bind_eq_some_iff.mp e3
  have hs01:sv0=0\/sv0=1:=by
   by_cases hs:sv0=0\/sv0=1
   ·exact hs
   ·rw[if_neg hs] at e5;cases e5
  rw[if_pos hs01] at e5
  obtain⟨n,hn⟩:∃n:Nat,sv0=(n:Int):=⟨sv0.toNat,by omega⟩
  subst hn;rw[Int.toNat_natCast] at e5
  have hn2:n<2:=by omega
  have bn:(0<=(n:Int)/\(n:Int)<2)=True:=eq_true (by omega);have bn2:((n:Int)<2)=True:=eq_true (by omega);clear hs01;obtain⟨⟨rc,rd⟩,e6,e7⟩:=Option.bind_eq_some_iff.mp e5;have hres:=Option.some.inj e7;clear e1 e3 e5 e7;have HA:=qA e2;have HS:=qA e4;have HB:=qA e6;have HRES:=qA hres;clear e2 e4 e6 hres
  have hi32:i<32:=by omega
  have bi:(0<=(i:Int)/\(i:Int)<32)=True:=eq_true (by omega);have bi2:((i:Int)<32)=True:=eq_true (by omega)
  have hbl:(bput us i (ra,rb)).length=68:=by rw[jAW];omega
  go_upto_region 3 with(fail);go_cut [] (λwx=>Aside0 (wx.heap[g]?=some (.cells (bd cs (bput us i (ra,rb))) 93 (0,0)))/\Aside0 (Ch g w wx))
  case first=>
   refine wp_region_held_drew (S:=λ_=>True) (by kernel_rfl) trivial (λ_=>?_);have n1:=qD K1;have nC:=qA (HC.out.trans (Ch.below (ju K1.out) (zD (Below.refl _ _))));clear K1 HC;have K1:=n1;have HC:=nC;clear n1 nC;refine tk 0 ?_;refine tk 1 ?_;refine tk 2 ?_;refine tk 3 ?_;refine tk 4 ?_;refine tk 5 ?_;refine tk 6 ?_;refine tk 8 ?_;refine tk 10 ?_;refine tk 11 ?_;refine on1 7 (λK hK=>?_);show(if Region.wanted ⟨some 29,.load 88 (.tmp 28),_,_,_,none⟩ _=true then Oper.wp _ ⟨some 29,.load 88 (.tmp 28),_,_,_,none⟩ _ _ _ _ else _);rw[if_pos (by rfl)];refine yh (.tmp 28) rfl (i:=i) (by show Value.pointer (some ⟨g,98+i*2,none⟩)=Value.pointer (some ⟨g,98+2*(i),none⟩);congr 3;omega) hl K1.out (by omega) ?_;refine ko hK ?_;clear hK K;refine on1 9 (λK hK=>?_);show(if Region.wanted ⟨some 31,.call _,_,_,_,none⟩ _=true then Oper.wp _ ⟨some 31,.call _,_,_,_,none⟩ _ _ _ _ else _);go_simp;refine(yP.calls _ _ _ _ _ _ _ HA.out).mono ?_;rintro e w7 ⟨rfl,hd⟩;have hb:=hd;clear hd;have n1:=qB K1 hb;have nC:=qA (HC.out.trans (Ch.below (ju K1.out) hb));clear K1 HC hb;have K1:=n1;have HC:=nC;clear n1 nC;refine ko hK ?_;clear hK K;refine tk 12 ?_;refine on1 13 (λK hK=>?_);show(if Region.wanted ⟨none,.store 88 (.tmp 34) (.tmp 31),_,_,_,none⟩ _=true then Oper.wp _ ⟨none,.store 88 (.tmp 34) (.tmp 31),_,_,_,none⟩ _ _ _ _ else _)
   rw[if_pos (by rfl)];refine jA1 (.tmp 34) (.tmp 31) rfl (i:=i) (by show Value.pointer (some ⟨g,98+i*2,none⟩)=Value.pointer (some ⟨g,98+2*(i),none⟩);congr 3;omega) rfl hl K1.out (by omega) ?_;intro W3 s1 s2;replace K1:=qA s1;replace HC:=qA (HC.out.trans s2);clear s1 s2;refine ko hK ?_;clear hK K;refine wpAnyH_done (by kernel_rfl) ?_ _;go_wp2;go_meet;exact⟨K1,HC⟩
  case rest=>
   clear K1 HC HA;obtain⟨K1,HC⟩:=hcut;have HBL:=qA hbl;clear hbl;generalize hub:bput us i (ra,rb)=ub at *;have hbl:=HBL.out;go_upto_region 4 with(fail);refine wp_region_held_drew (S:=λ_=>True) (by kernel_rfl) trivial (λ_=>?_);have n1:=qD K1;have nC:=qA (HC.out.trans (Ch.below (ju K1.out) (zD (Below.refl _ _))));clear K1 HC;have K1:=n1;have HC:=nC;clear n1 nC;refine tk 0 ?_;refine tk 1 ?_;refine tk 3 ?_;refine tk 4 ?_;refine tk 6 ?_;refine tk 7 ?_;refine tk 10 ?_;refine tk 12 ?_;refine tk 13 ?_;refine on1 2 (λK hK=>?_);show(if Region.wanted ⟨some 37,.call _,_,_,_,none⟩ _=true then Oper.wp _ ⟨some 37,.call _,_,_,_,none⟩ _ _ _ _ else _);go_simp;refine(jv.calls _ _ _ _ HS.out).mono ?_;rintro e w7 ⟨rfl,hd⟩;have hb:=hd.below;clear hd;have n1:=qB K1 hb;have nC:=qA (HC.out.trans (Ch.below (ju K1.out) hb));clear K1 HC hb;have K1:=n1;have HC:=nC;clear n1 nC;refine ko hK ?_;clear hK K;refine on1 5 (λK hK=>?_);show(if Region.wanted ⟨some 40,.call _,_,_,_,none⟩ _=true then Oper.wp _ ⟨some 40,.call _,_,_,_,none⟩ _ _ _ _ else _);go_simp;refine(jv.calls _ _ _ _ HS.out).mono ?_;rintro e w7 ⟨rfl,hd⟩;have hb:=hd.below;clear hd;have n1:=qB K1 hb;have nC:=qA (HC.out.trans (Ch.below (ju K1.out) hb));clear K1 HC hb;have K1:=n1;have HC:=nC
   clear n1 nC;refine ko hK ?_;clear hK K;refine tk 8 ?_;refine on1 9 (λK hK=>?_);show(if Region.wanted ⟨some 44,.load 88 (.tmp 43),_,_,_,none⟩ _=true then Oper.wp _ ⟨some 44,.load 88 (.tmp 43),_,_,_,none⟩ _ _ _ _ else _);rw[if_pos (by rfl)];refine yh (.tmp 43) rfl (i:=32+n) (by show Value.pointer (some ⟨g,162+n*2,none⟩)=Value.pointer (some ⟨g,98+2*(32+n),none⟩);congr 3;omega) hl K1.out (by omega) ?_;refine ko hK ?_;clear hK K;refine on1 11 (λK hK=>?_);show(if Region.wanted ⟨some 46,.call _,_,_,_,none⟩ _=true then Oper.wp _ ⟨some 46,.call _,_,_,_,none⟩ _ _ _ _ else _);go_simp;refine(yP.calls _ _ _ _ _ _ _ HB.out).mono ?_;rintro e w7 ⟨rfl,hd⟩;have hb:=hd;clear hd;have n1:=qB K1 hb;have nC:=qA (HC.out.trans (Ch.below (ju K1.out) hb));clear K1 HC hb;have K1:=n1;have HC:=nC;clear n1 nC;refine ko hK ?_;clear hK K;refine tk 14 ?_;refine on1 15 (λK hK=>?_);show(if Region.wanted ⟨none,.store 88 (.tmp 49) (.tmp 46),_,_,_,none⟩ _=true then Oper.wp _ ⟨none,.store 88 (.tmp 49) (.tmp 46),_,_,_,none⟩ _ _ _ _ else _);rw[if_pos (by rfl)];refine jA1 (.tmp 49) (.tmp 46) rfl (i:=32+n) (by show Value.pointer (some ⟨g,162+n*2,none⟩)=Value.pointer (some ⟨g,98+2*(32+n),none⟩);congr 3;omega) rfl hl K1.out (by omega) ?_;intro W3 s1 s2;replace K1:=qA s1;replace HC:=qA (HC.out.trans s2)
   clear s1 s2;refine ko hK ?_;clear hK K;refine wpAnyH_done (by kernel_rfl) ?_ _;have e0:=K1.out;rw[HRES.out] at e0;clear K1 HB HS;have K1:=qA e0;clear e0
   have hUl:us1.length=68:=by rw[<- HRES.out,jAW];exact HBL.out
   have e5:=H5.out;have e6:=H6.out;clear H5 H6
   by_cases hk:kd=0
   ·rw[if_pos hk,if_pos rfl] at e5
    rw[if_pos hk] at e6;have hu2:=Option.some.inj e5;have he:=Option.some.inj e6;simp only[Prod.mk.injEq] at he;obtain⟨rfl,rfl⟩:=he;clear e5 e6
    have ck:(kd==0)=true:=by simpa using hk
    have fN:=jH K1.out q;have dN:=(jB K1.out q).trans (jBX cs us1 q (by omega));go_upto_region 8 with(first|(go_at_call 24;(with_reducible refine(jS.calls _ _ _ _ H3.out).mono ?_);rintro e w7 ⟨rfl,⟨n1,rfl⟩⟩;have m1:=qA (jQ K1.out n1);have mC:=qA (HC.out.trans (Ch.below (ju K1.out) (zi (Below.refl _ _) n1)));clear K1 HC;have K1:=m1;have HC:=mC;clear m1 mC));subst hu2;have B1:=(zQ K1.out q (.int .i8 0)).trans (by rw[jCA cs us1 q 0 (by omega)]);have nC:=HC.out.trans (Ch.set _ q (.int .i8 0));generalize (World.setCell _ ⟨g,q,none⟩ (.int .i8 0))=W5 at *;clear K1 HC cN fN;have K1:=qA B1;have HC:=qA nC;clear B1 nC;go_wp2;refine bodyPost_end (results_none rfl _ _ _) rfl ?_;exact⟨rfl,K1.out,by rw[List.length_set];exact hl,hUl,HC.out⟩
   ·rw[if_neg hk] at e5 e6
    have he:=Option.some.inj e6;simp only[Prod.mk.injEq] at he;obtain⟨rfl,rfl⟩:=he;clear e6
    have ck:(kd==0)=false:=by simpa using hk
    have fN:=jH K1.out q;have dN:=(jB K1.out q).trans (jBX cs us1 q (by omega));go_upto_region 8 with(first|(go_at_call 24;(with_reducible refine(jS.calls _ _ _ _ H3.out).mono ?_);rintro e w7 ⟨rfl,⟨n1,rfl⟩⟩;have m1:=qA (jQ K1.out n1);have mC:=qA (HC.out.trans (Ch.below (ju K1.out) (zi (Below.refl _ _) n1)));clear K1 HC;have K1:=m1;have HC:=mC;clear m1 mC));have B1:=(zQ K1.out q (.int .i8 x)).trans (by rw[jCA cs us1 q x (by omega)]);have nC:=HC.out.trans (Ch.set _ q (.int .i8 x));generalize (World.setCell _ ⟨g,q,none⟩ (.int .i8 x))=W5 at *;clear K1 HC cN fN;have K1:=qA B1;have HC:=qA nC;clear B1 nC
    by_cases hx:x=0
    ·rw[if_pos hx] at e5
     have hu2:=Option.some.inj e5;clear e5
     have cx:(x != 0)=false:=by simpa using hx
     subst hu2;go_wp2;refine bodyPost_end (results_none rfl _ _ _) rfl ?_;exact⟨rfl,K1.out,by rw[List.length_set];exact hl,by omega,HC.out⟩
    ·rw[if_neg hx] at e5
     have H5b:=qA e5;clear e5
     have cx:(x != 0)=true:=by simpa using hx
     clear ck;generalize hcx:cs.set q x=cs2 at *
     have hl2:cs2.length=98:=by rw[<- hcx,List.length_set];exact hl
     have e1:=H5b.out;unfold zf.upd at e1
     by_cases hv:0<x/\x<32
     case neg=>rw[if_neg hv] at e1;cases e1
     rw[if_pos hv] at e1
     obtain⟨i,hi⟩:∃i:Nat,x=(i:Int):=⟨x.toNat,by omega⟩
     subst hi;rw[Int.toNat_natCast] at e1;obtain⟨⟨ra,rb⟩,e2,e3⟩:=Option.bind_eq_some_iff.mp e1;obtain⟨sv0,e4,e5⟩:=Option.bind_eq_some_iff.mp e3
     have hs01:sv0=0\/sv0=1:=by
      by_cases hs:sv0=0\/sv0=1
      ·exact hs
      ·rw[if_neg hs] at e5;cases e5
     rw[if_pos hs01] at e5
     obtain⟨n,hn⟩:∃n:Nat,sv0=(n:Int):=⟨sv0.toNat,by omega⟩
     subst hn;rw[Int.toNat_natCast] at e5
     have hn2:n<2:=by omega
     have bn:(0<=(n:Int)/\(n:Int)<2)=True:=eq_true (by omega);have bn2:((n:Int)<2)=True:=eq_true (by omega);clear hs01;obtain⟨⟨rc,rd⟩,e6,e7⟩:=Option.bind_eq_some_iff.mp e5;have hres:=Option.some.inj e7;clear e1 e3 e5 e7;have HA:=qA e2;have HS:=qA e4;have HB:=qA e6;have HRES:=qA hres;clear e2 e4 e6 hres
     have hi32:i<32:=by omega
     have bi:(0<=(i:Int)/\(i:Int)<32)=True:=eq_true (by omega);have bi2:((i:Int)<32)=True:=eq_true (by omega)
     have hbl:(bput us1 i (ra,rb)).length=68:=by rw[jAW];omega
     go_upto_region 9 with(fail);go_cut [] (λwx=>Aside0 (wx.heap[g]?=some (.cells (bd cs2 (bput us1 i (ra,rb))) 93 (0,0)))/\Aside0 (Ch g w wx))
     case first=>
      refine wp_region_held_drew (S:=λ_=>True) (by kernel_rfl) trivial (λ_=>?_);have n1:=qD K1;have nC:=qA (HC.out.trans (Ch.below (ju K1.out) (zD (Below.refl _ _))));clear K1 HC;have K1:=n1;have HC:=nC;clear n1 nC;refine tk 0 ?_;refine tk 1 ?_;refine tk 2 ?_;refine tk 3 ?_;refine tk 4 ?_;refine tk 5 ?_;refine tk 6 ?_;refine tk 8 ?_;refine tk 10 ?_;refine tk 11 ?_;refine on1 7 (λK hK=>?_);show(if Region.wanted ⟨some 69,.load 88 (.tmp 68),_,_,_,none⟩ _=true then Oper.wp _ ⟨some 69,.load 88 (.tmp 68),_,_,_,none⟩ _ _ _ _ else _);rw[if_pos (by rfl)];refine yh (.tmp 68) rfl (i:=i) (by show Value.pointer (some ⟨g,98+i*2,none⟩)=Value.pointer (some ⟨g,98+2*(i),none⟩);congr 3;omega) hl2 K1.out (by omega) ?_;refine ko hK ?_;clear hK K;refine on1 9 (λK hK=>?_);show(if Region.wanted ⟨some 71,.call _,_,_,_,none⟩ _=true then Oper.wp _ ⟨some 71,.call _,_,_,_,none⟩ _ _ _ _ else _);go_simp;refine(jz.calls _ _ _ _ _ _ _ HA.out).mono ?_;rintro e w7 ⟨rfl,hd⟩;have hb:=hd;clear hd;have n1:=qB K1 hb;have nC:=qA (HC.out.trans (Ch.below (ju K1.out) hb));clear K1 HC hb;have K1:=n1;have HC:=nC;clear n1 nC;refine ko hK ?_;clear hK K;refine tk 12 ?_;refine on1 13 (λK hK=>?_);show(if Region.wanted ⟨none,.store 88 (.tmp 74) (.tmp 71),_,_,_,none⟩ _=true then Oper.wp _ ⟨none,.store 88 (.tmp 74) (.tmp 71),_,_,_,none⟩ _ _ _ _ else _)
      rw[if_pos (by rfl)];refine jA1 (.tmp 74) (.tmp 71) rfl (i:=i) (by show Value.pointer (some ⟨g,98+i*2,none⟩)=Value.pointer (some ⟨g,98+2*(i),none⟩);congr 3;omega) rfl hl2 K1.out (by omega) ?_;intro W3 s1 s2;replace K1:=qA s1;replace HC:=qA (HC.out.trans s2);clear s1 s2;refine ko hK ?_;clear hK K;refine wpAnyH_done (by kernel_rfl) ?_ _;go_wp2;go_meet;exact⟨K1,HC⟩
     case rest=>
      clear K1 HC HA;obtain⟨K1,HC⟩:=hcut;have HBL:=qA hbl;clear hbl;generalize hub:bput us1 i (ra,rb)=ub at *;have hbl:=HBL.out;go_upto_region 10 with(fail);refine wp_region_held_drew (S:=λ_=>True) (by kernel_rfl) trivial (λ_=>?_);have n1:=qD K1;have nC:=qA (HC.out.trans (Ch.below (ju K1.out) (zD (Below.refl _ _))));clear K1 HC;have K1:=n1;have HC:=nC;clear n1 nC;refine tk 0 ?_;refine tk 1 ?_;refine tk 3 ?_;refine tk 4 ?_;refine tk 6 ?_;refine tk 7 ?_;refine tk 10 ?_;refine tk 12 ?_;refine tk 13 ?_;refine on1 2 (λK hK=>?_);show(if Region.wanted ⟨some 77,.call _,_,_,_,none⟩ _=true then Oper.wp _ ⟨some 77,.call _,_,_,_,none⟩ _ _ _ _ else _);go_simp;refine(jv.calls _ _ _ _ HS.out).mono ?_;rintro e w7 ⟨rfl,hd⟩;have hb:=hd.below;clear hd;have n1:=qB K1 hb;have nC:=qA (HC.out.trans (Ch.below (ju K1.out) hb));clear K1 HC hb;have K1:=n1;have HC:=nC;clear n1 nC;refine ko hK ?_;clear hK K;refine on1 5 (λK hK=>?_);show(if Region.wanted ⟨some 80,.call _,_,_,_,none⟩ _=true then Oper.wp _ ⟨some 80,.call _,_,_,_,none⟩ _ _ _ _ else _);go_simp;refine(jv.calls _ _ _ _ HS.out).mono ?_;rintro e w7 ⟨rfl,hd⟩;have hb:=hd.below;clear hd;have n1:=qB K1 hb;have nC:=qA (HC.out.trans (Ch.below (ju K1.out) hb));clear K1 HC hb;have K1:=n1
      have HC:=nC;clear n1 nC;refine ko hK ?_;clear hK K;refine tk 8 ?_;refine on1 9 (λK hK=>?_);show(if Region.wanted ⟨some 84,.load 88 (.tmp 83),_,_,_,none⟩ _=true then Oper.wp _ ⟨some 84,.load 88 (.tmp 83),_,_,_,none⟩ _ _ _ _ else _);rw[if_pos (by rfl)];refine yh (.tmp 83) rfl (i:=32+n) (by show Value.pointer (some ⟨g,162+n*2,none⟩)=Value.pointer (some ⟨g,98+2*(32+n),none⟩);congr 3;omega) hl2 K1.out (by omega) ?_;refine ko hK ?_;clear hK K;refine on1 11 (λK hK=>?_);show(if Region.wanted ⟨some 86,.call _,_,_,_,none⟩ _=true then Oper.wp _ ⟨some 86,.call _,_,_,_,none⟩ _ _ _ _ else _);go_simp;refine(jz.calls _ _ _ _ _ _ _ HB.out).mono ?_;rintro e w7 ⟨rfl,hd⟩;have hb:=hd;clear hd;have n1:=qB K1 hb;have nC:=qA (HC.out.trans (Ch.below (ju K1.out) hb));clear K1 HC hb;have K1:=n1;have HC:=nC;clear n1 nC;refine ko hK ?_;clear hK K;refine tk 14 ?_;refine on1 15 (λK hK=>?_);show(if Region.wanted ⟨none,.store 88 (.tmp 89) (.tmp 86),_,_,_,none⟩ _=true then Oper.wp _ ⟨none,.store 88 (.tmp 89) (.tmp 86),_,_,_,none⟩ _ _ _ _ else _);rw[if_pos (by rfl)];refine jA1 (.tmp 89) (.tmp 86) rfl (i:=32+n) (by show Value.pointer (some ⟨g,162+n*2,none⟩)=Value.pointer (some ⟨g,98+2*(32+n),none⟩);congr 3;omega) rfl hl2 K1.out (by omega) ?_;intro W3 s1 s2;replace K1:=qA s1;replace HC:=qA (HC.out.trans s2)
      clear s1 s2;refine ko hK ?_;clear hK K;refine wpAnyH_done (by kernel_rfl) ?_ _;have e0:=K1.out;rw[HRES.out] at e0;clear K1 HB HS;have K1:=qA e0;clear e0;go_wp2;refine bodyPost_end (results_none rfl _ _ _) rfl ?_;exact⟨rfl,by rw[hcx];exact K1.out,by rw[hcx];exact hl2,by rw[<- HRES.out,jAW];exact HBL.out,HC.out⟩
end Go.Proofs.YtigenhbmgpfffaaGreatDoor.Pa
