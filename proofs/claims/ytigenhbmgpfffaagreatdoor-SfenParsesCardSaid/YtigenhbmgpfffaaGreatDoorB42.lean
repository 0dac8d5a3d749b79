import Derived.Test.YtigenhbmgpfffaaGreatDoorB39
import Derived.Test.YtigenhbmgpfffaaGreatDoorB41
set_option maxRecDepth 100000
set_option maxHeartbeats 16000000
namespace Go.Proofs.YtigenhbmgpfffaaGreatDoor.Pa
open Go.RowKit Go.Proofs.YtigenhbmgpfffaaGreatDoorW.PrintWords Go.Proofs.YtigenhbmgpfffaaGreatDoorW.PrintLast Go.Proofs.YtigenhbmgpfffaaGreatDoorW.PrintMore
attribute [local go_sem] yE yC yM yL zo zn yD yB
set_option linter.unusedVariables false
set_option linter.unusedSimpArgs false
def sg (l:List ByteArray) (i:Nat):ByteArray:=rdOf ByteArray.empty l (i:Int)
def yc (W:World) (ad:Addr) (l:List ByteArray):Prop:=∀i,i<l.length->W.cell? (ad.add i)=some (.string (sg l i))
theorem add_block (a:Addr) (n:Nat):(a.add n).block=a.block:=by unfold Addr.add;split<;>rfl
theorem yc.below {W W':World} {ad:Addr} {l:List ByteArray} (h:yc W ad l) (hb:Below W.heap.size W W'):yc W' ad l:=λi hi=>jB9 (h i hi) hb
theorem yc.kept {W W':World} {ad:Addr} {l:List ByteArray} (h:yc W ad l) (hb:W'.heap[ad.block]?=W.heap[ad.block]?):yc W' ad l:=λi hi=>by
 rw[<- h i hi];unfold World.cell?;rw[add_block,hb]
theorem yc.lt {W:World} {ad:Addr} {l:List ByteArray} (h:yc W ad l) (h0:0<l.length):ad.block<W.heap.size:=by
 have:=World.block_lt_of_cell? W _ (h 0 h0)
 rwa [add_block] at this
theorem yc.far {W:World} {ad:Addr} {l:List ByteArray} (h:yc W ad l) (h0:0<l.length) {p:Addr} (hne:ad.block≠p.block) (v:Value):yc (W.setCell p v) ad l:=h.kept (Below.heap_setCell W p v ad.block hne)
theorem yc.ch {W W':World} {ad:Addr} {l:List ByteArray} (h:yc W ad l) (h0:0<l.length) {g:Nat} (hne:ad.block≠g) (c:Ch g W W'):yc W' ad l:=h.kept (c.1 _ hne (h.lt h0))
theorem yc.of {W:World} {A:Option Addr} {l:List ByteArray} (h:Kd.C Kd.string W A l.length l) (h0:0<l.length):∃ad,A=some ad/\yc W ad l:=by
 obtain⟨ad,ha,_⟩:=Kd.at_string h 0 (by omega) (by omega);refine⟨ad,ha,λi hi=>?_⟩;obtain⟨ad2,ha2,hc⟩:=Kd.at_string h (i:Int) (by omega) (by omega);rw[ha] at ha2;obtain rfl:=Option.some.inj ha2;rw[Int.toNat_natCast] at hc;exact hc
theorem pos_wp_store {o:Oper} {a:Act} {W:World} {K:Act->World->Prop} {Q:Exit->Act->World->Prop} (x y:Operand) (ho:o.op=.store 28 x y) {g:Nat} {t:TypeId} {l:List Int} {C:Array Value} (hx:a.eval x=.pointer (some ⟨g,0,none⟩)) (hy:a.eval y=.agg (jA.pv l)) (hb:W.heap[g]?=some (.cells C t (0,0))) (hC:C.size=98) (hl:l.length=98)
  (h:∀W',W'.heap[g]?=some (.cells (jA.pv l) t (0,0))->(∀B w0,B<=g->Below B w0 W->Below B w0 W')->(∀k,k≠g->W'.heap[k]?=W.heap[k]?)->K (a.put o.dst undef) W'):Oper.wp Tryz.prog o a W K Q:=by
 have hsz:(jA.pv l).size=98:=by rw[jA.pv_size,hl]
 refine wp_store_mid _ x y ho g 0 (jA.pv l) hx hy (jA.thr hb _ (by omega)) (by rw[jA.infoP,hsz]) (jA.pv_one l) ?_;obtain⟨cur',h1,h2,h3⟩:=yl (jA.pv l).toList 0 W C hb (by rw[Array.length_toList];omega)
 have e:cur'=jA.pv l:=by
  apply Array.toList_inj.1
  rw[h3];simp only[List.take_zero,List.nil_append,Nat.zero_add];rw[List.drop_of_length_le (by rw[Array.length_toList,Array.length_toList];omega),List.append_nil]
 rw[e] at h1;exact h _ h1 (λB w0 hB hb0=>below_setCells hB _ 0 W hb0) (λk hk=>yT _ 0 k hk)
theorem run_load98 (W:World) (g:Nat) (z:List Int) {t:TypeId} (hz:z.length=98) (h:W.heap[g]?=some (.cells (jA.pv z) t (0,0))):(Instr.loadAt 28 (.pointer (some ⟨g,0,none⟩))).run Tryz.prog W=.ok (.agg (jA.pv z)) W:=by
 have e:=run_loadAt_mid (P:=Tryz.prog) W g 0 28 _ _ (jA.rng h 0 98) Tryz.underlying28 rfl (by rw[jA.infoP,List.length_map,List.length_take,List.length_drop,hz];rfl);rw[List.drop_zero,List.take_of_length_le (by omega)] at e;exact e
theorem exec_load98 {oi:Oper} {a:Act} (W:World) (g:Nat) (z:List Int) {t:TypeId} (x:Operand) (ho:oi.op=.load 28 x) (hx:a.eval x=.pointer (some ⟨g,0,none⟩)) (hz:z.length=98) (h:W.heap[g]?=some (.cells (jA.pv z) t (0,0))):(execOp a.eval oi).run Tryz.prog W=.ok (.value (.agg (jA.pv z))) W:=by
 unfold execOp;simp only[ho,hx,Sem.run_bind,run_load98 W g z hz h,Result.andThen_ok,Sem.run_pure]
def yq (x:ByteArray) (b:Int):List ByteArray:=(jq.f 300 x b).getD []
def jD.zl:List Int:=List.replicate 98 0
theorem zl_len:jD.zl.length=98:=List.length_replicate
def jD.putL (r:Nat) (l:List Int):Nat->Nat->List Int->List Int
 | _,0,x=>x
 | f,d+1,x=>jD.putL r l (f+1) d (x.set (9*f+r) (IntKind.i8.wrap (l.getD f 0)))
def jD.rows (rk:List ByteArray):Nat->Nat->List Int->Option (List Int)
 | _,0,x=>some x
 | r,d+1,x=>if(jO.f (sg rk r)).2=true then jD.rows rk (r+1) d (jD.putL r (jO.f (sg rk r)).1 0 9 x) else none
def jD.fin (x held:List Int) (white:Bool):List Int:=if white=true then(x.take 81++held++x.drop 97).set 97 1 else x.take 81++held++x.drop 97
def jD.bad (P:List ByteArray):Bool:=((yq (sg P 0) 47).length:Int) != 9||(((sg P 1).toList != [98]&&(sg P 1).toList != [119])||jAP (sg P 3)==0)
def jD.last (P:List ByteArray) (y:List Int):List Int×Int×Int:=if zG.f y=0 then(y,jAP (sg P 3),0) else(jD.zl,0,zG.f y)
def jD.held (P:List ByteArray) (x:List Int):List Int×Int×Int:=if(jE.f (sg P 2)).2=true then jD.last P (jD.fin x (jE.f (sg P 2)).1 ((sg P 1).toList==[119])) else(jD.zl,0,70)
def jD.f (s:ByteArray):List Int×Int×Int:=if 200<s.size then(jD.zl,0,2) else if(yq s 32).length=4 then(if jD.bad (yq s 32)=true then(jD.zl,0,70) else match jD.rows (yq (sg (yq s 32) 0) 47) 0 9 jD.zl with|none=>(jD.zl,0,70)|some x=>jD.held (yq s 32) x) else(jD.zl,0,70)
theorem jD.parse_calls (s:ByteArray) (R:List Int) (number code:Int) (w:World) (hNm:∀x:ByteArray,jZ.f 60 x=some (jAE x)) (hNu:∀x:ByteArray,jM.f 60 x=some (jAP x))
  (hSp:∀(x:ByteArray) (b:Int),x.size<=200->b=32\/b=47->jq.f 300 x b=some (yq x b)/\∀i,(sg (yq x b) i).size<=200) (h:jD.f s=(R,number,code)):
  Calls Tryz.prog 13 #[.string s] w λe w'=>e=.returned (.tuple #[.agg (jA.pv R),.int .i64 number,.int .i64 code])/\R.length=98/\Below w.heap.size w w':=by
 have HNA:=qA hNm;have HNB:=qA hNu;have HSP:=qA hSp;have HR:=qA h;clear hNm hNu hSp h;have hz:=jAO (t:=28) (c:=jA.pv jD.zl) (by kernel_rfl)
 have HZB:Aside0 (∀W,(Instr.build 28 #[]).run Tryz.prog W=.ok (.agg (jA.pv jD.zl)) W):=⟨λW=>run_build W 28 _ _ (by kernel_rfl)⟩
 have hzb:=HZB.out;have B2:(w.alloc (Obj.cells (jA.pv jD.zl) 28)).heap[w.heap.size]?=some (.cells (jA.pv jD.zl) 28 (0,0)):=zJ w _;have BB:Below w.heap.size w (w.alloc (Obj.cells (jA.pv jD.zl) 28)):=ji (Below.refl _ _) _;unfold jD.f at HR;go_enter Tryz.func13,Tryz.ntmps13;go_upto_region 1 with(fail);generalize (w.alloc (Obj.cells (jA.pv jD.zl) 28))=W at *;have K2:=qA B2;have KB:=qA BB;clear B2 BB
 by_cases h200:200<s.size
 ·have b0:decide (200<(s.size:Int))=true:=decide_eq_true (by omega)
  have b1:(200<(s.size:Int))=True:=eq_true (by omega);have b2:(200<s.size)=True:=eq_true h200;have e:=HR.out;rw[if_pos h200] at e;obtain⟨rfl,e1_⟩:=Prod.mk.inj e;obtain⟨rfl,rfl⟩:=Prod.mk.inj e1_;clear e e1_
  go_wp2_with (first|((with_reducible refine jW (t:=28) (p:=2) (v:=.tmp 18) rfl ?_);refine jA.store (n:=98) rfl 28 (.tmp 2) (.tmp 18) rfl rfl rfl K2.out (by rw[jA.pv_size,zl_len]) zl_len jA.infoP ?_;intro W3 s1 s2 s3;have S1:=qA s1;have S2:=qA (s2 _ _ (Nat.le_refl _) KB.out);clear s1 s2 s3))
  refine bodyPost_ret (zO (p:=2) (u:=3) (v:=4) (ty:=28) rfl _ _ w.heap.size 28 (jA.pv jD.zl) (0,0) _ rfl S1.out Tryz.underlying28 rfl (by rw[jA.infoP,jA.pv_size,zl_len])) rfl ?_;exact⟨rfl,zl_len,S2.out⟩
 have b0:decide (200<(s.size:Int))=false:=decide_eq_false (by omega);have b1:(200<(s.size:Int))=False:=eq_false (by omega);have b2:(200<s.size)=False:=eq_false h200;have e:=HR.out;rw[if_neg h200] at e;obtain⟨hs1,hs2⟩:=HSP.out s 32 (by omega) (.inl rfl)
 obtain⟨P,hP⟩:∃P,yq s 32=P:=⟨_,rfl⟩
 rw[hP] at e hs1 hs2;have HS1:=qA hs1;have HPZ:=qA hs2;have HE:=qA e;clear e hs1 hs2 hP HR;go_upto_region 4 with(first|(go_at_call 36;(with_reducible refine(jq.calls 300 s 32 _ _ HS1.out).mono ?_);rintro e_ w7 ⟨v0_,rfl,hR_,hb⟩;obtain⟨A5,cA5,eq_⟩:=Kd.R_slice hR_;subst eq_;have HCA5:=qA (Kd.R_reads' hR_).2.2;clear hR_;replace K2:=qB K2 hb;replace KB:=qS KB hb;clear hb));clear b0 b1 b2;have e:=HE.out
 by_cases hl4:P.length=4
 case neg=>
  have b0:((P.length:Int) != 4)=true:=by rw[bne_iff_ne];omega
  have b1:((P.length:Int)==4)=false:=by rw[beq_eq_false_iff_ne];omega
  rw[if_neg hl4] at e;obtain⟨rfl,e1_⟩:=Prod.mk.inj e;obtain⟨rfl,rfl⟩:=Prod.mk.inj e1_;clear e e1_
  go_wp2_with (first|((with_reducible refine jW (t:=28) (p:=2) (v:=.tmp 24) rfl ?_);refine jA.store (n:=98) rfl 28 (.tmp 2) (.tmp 24) rfl rfl rfl K2.out (by rw[jA.pv_size,zl_len]) zl_len jA.infoP ?_;intro W3 s1 s2 s3;have S1:=qA s1;have S2:=qA (s2 _ _ (Nat.le_refl _) KB.out);clear s1 s2 s3))
  refine bodyPost_ret (zO (p:=2) (u:=3) (v:=4) (ty:=28) rfl _ _ w.heap.size 28 (jA.pv jD.zl) (0,0) _ rfl S1.out Tryz.underlying28 rfl (by rw[jA.infoP,jA.pv_size,zl_len])) rfl ?_;exact⟨rfl,zl_len,S2.out⟩
 case pos=>
  rw[if_pos hl4] at e;obtain⟨ad,rfl,hP5⟩:=yc.of HCA5.out (by omega);have P5:=qA hP5;have HAD:=qA (hP5.lt (by omega));clear HCA5 hP5;rw[hl4];go_upto_region 6 with(fail)
  have hb4:∀i,i<4->i<P.length:=λi h=>by omega
  have HB4:=qA hb4;clear hb4
  obtain⟨rk,hrk⟩:∃rk,yq (sg P 0) 47=rk:=⟨_,rfl⟩
  obtain⟨hs3,hs4⟩:=HSP.out (sg P 0) 47 (HPZ.out 0) (.inr rfl);unfold jD.bad at e;rw[hrk] at e hs3 hs4;have HS3:=qA hs3;have HRZ:=qA hs4;have HE2:=qA e;clear e hs3 hs4 hrk HE;have c0:w7.cell? ad=some (.string (sg P 0)):=P5.out 0 (HB4.out 0 (by omega));go_upto_region 7 with(first|(go_at_call 36;(with_reducible refine(jq.calls 300 (sg P 0) 47 _ _ HS3.out).mono ?_);rintro e_ w7 ⟨v0_,rfl,hR_,hb⟩;obtain⟨A6,cA6,eq_⟩:=Kd.R_slice hR_;subst eq_;have HCA6:=qA (Kd.R_reads' hR_).2.2;clear hR_;replace K2:=qB K2 hb;replace P5:=qA (P5.out.below hb);replace KB:=qS KB hb;clear hb));clear c0
  by_cases h9:rk.length=9
  case neg=>
   have b0:((rk.length:Int) != 9)=true:=by rw[bne_iff_ne];omega
   have b1:((rk.length:Int)==9)=false:=by rw[beq_eq_false_iff_ne];omega
   have e:=HE2.out;rw[b0] at e;replace e:(jD.zl,(0:Int),(70:Int))=(R,number,code):=e;obtain⟨rfl,e1_⟩:=Prod.mk.inj e;obtain⟨rfl,rfl⟩:=Prod.mk.inj e1_;clear e e1_
   go_wp2_with (first|((with_reducible refine jW (t:=28) (p:=2) (v:=.tmp 51) rfl ?_);refine jA.store (n:=98) rfl 28 (.tmp 2) (.tmp 51) rfl rfl rfl K2.out (by rw[jA.pv_size,zl_len]) zl_len jA.infoP ?_;intro W3 s1 s2 s3;have S1:=qA s1;have S2:=qA (s2 _ _ (Nat.le_refl _) KB.out);clear s1 s2 s3))
   refine bodyPost_ret (zO (p:=2) (u:=3) (v:=4) (ty:=28) rfl _ _ w.heap.size 28 (jA.pv jD.zl) (0,0) _ rfl S1.out Tryz.underlying28 rfl (by rw[jA.infoP,jA.pv_size,zl_len])) rfl ?_;exact⟨rfl,zl_len,S2.out⟩
  case pos=>
   obtain⟨ad6,rfl,hP6⟩:=yc.of HCA6.out (by omega);have P6:=qA hP6;have HAD6:=qA (hP6.lt (by omega));clear HCA6 hP6;rw[h9]
   obtain⟨bd,hbd⟩:∃bd,(((sg P 1).toList != [98]&&(sg P 1).toList != [119])||jAP (sg P 3)==0)=bd:=⟨_,rfl⟩
   have e:=HE2.out;rw[hbd,h9] at e;replace e:(if bd=true then(jD.zl,(0:Int),(70:Int)) else match jD.rows rk 0 9 jD.zl with|none=>(jD.zl,0,70)|some x=>jD.held P x)=(R,number,code):=e;have HE:=qA e;have HBD:=qA hbd;have H9:=qA h9;clear e hbd HE2;go_cut [50] (λs50 wx=>s50=.bool bd/\Aside0 (wx.heap[w.heap.size]?=some (.cells (jA.pv jD.zl) 28 (0,0)))/\Aside0 (yc wx ad P)/\Aside0 (yc wx ad6 rk)/\Aside0 (ad.block<wx.heap.size)/\Aside0 (ad6.block<wx.heap.size)/\Aside0 (Below w.heap.size w wx))
   case first=>
    have c1:w7.cell? ⟨ad.block,ad.off+1,none⟩=some (.string (sg P 1)):=P5.out 1 (HB4.out 1 (by omega));have c3:w7.cell? ⟨ad.block,ad.off+3,none⟩=some (.string (sg P 3)):=P5.out 3 (HB4.out 3 (by omega));have HNU:=qA (HNB.out (sg P 3));have hb:=HBD.out;generalize jAP (sg P 3)=n at hb HNU
    cases t2:((sg P 1).toList==[98])
    ·have t2':((sg P 1).toList != [98])=true:=by unfold bne;rw[t2];rfl
     cases t3:((sg P 1).toList==[119])
     ·have t3':((sg P 1).toList != [119])=true:=by unfold bne;rw[t3];rfl
      rw[t2',t3'] at hb;have hb2:=qA (show true=bd from hb);clear hb;go_wp2;go_meet;exact⟨by rw[<- hb2.out],K2,P5,P6,⟨P5.out.lt (HB4.out 0 (by omega))⟩,⟨P6.out.lt (by rw[H9.out];omega)⟩,KB⟩
     ·have t3':((sg P 1).toList != [119])=false:=by unfold bne;rw[t3];rfl
      rw[t2',t3'] at hb
      cases t4:(n==0)
      ·rw[t4] at hb
       have hb2:=qA (show false=bd from hb);clear hb
       go_wp2_with (first|(go_at_call 37;(with_reducible refine(jM.calls 60 _ _ _ HNU.out).mono ?_);rintro e_ w7 ⟨rfl,hd_⟩;have hb:=hd_.below;clear hd_;replace K2:=qB K2 hb;replace P5:=qA (P5.out.below hb);replace P6:=qA (P6.out.below hb);replace KB:=qS KB hb;clear hb))
       go_meet;exact⟨by rw[<- hb2.out],K2,P5,P6,⟨P5.out.lt (HB4.out 0 (by omega))⟩,⟨P6.out.lt (by rw[H9.out];omega)⟩,KB⟩
      ·rw[t4] at hb
       have hb2:=qA (show true=bd from hb);clear hb
       go_wp2_with (first|(go_at_call 37;(with_reducible refine(jM.calls 60 _ _ _ HNU.out).mono ?_);rintro e_ w7 ⟨rfl,hd_⟩;have hb:=hd_.below;clear hd_;replace K2:=qB K2 hb;replace P5:=qA (P5.out.below hb);replace P6:=qA (P6.out.below hb);replace KB:=qS KB hb;clear hb))
       go_meet;exact⟨by rw[<- hb2.out],K2,P5,P6,⟨P5.out.lt (HB4.out 0 (by omega))⟩,⟨P6.out.lt (by rw[H9.out];omega)⟩,KB⟩
    ·have t2':((sg P 1).toList != [98])=false:=by unfold bne;rw[t2];rfl
     rw[t2'] at hb
     cases t4:(n==0)
     ·rw[t4] at hb
      have hb2:=qA (show false=bd from hb);clear hb
      go_wp2_with (first|(go_at_call 37;(with_reducible refine(jM.calls 60 _ _ _ HNU.out).mono ?_);rintro e_ w7 ⟨rfl,hd_⟩;have hb:=hd_.below;clear hd_;replace K2:=qB K2 hb;replace P5:=qA (P5.out.below hb);replace P6:=qA (P6.out.below hb);replace KB:=qS KB hb;clear hb))
      go_meet;exact⟨by rw[<- hb2.out],K2,P5,P6,⟨P5.out.lt (HB4.out 0 (by omega))⟩,⟨P6.out.lt (by rw[H9.out];omega)⟩,KB⟩
     ·rw[t4] at hb
      have hb2:=qA (show true=bd from hb);clear hb
      go_wp2_with (first|(go_at_call 37;(with_reducible refine(jM.calls 60 _ _ _ HNU.out).mono ?_);rintro e_ w7 ⟨rfl,hd_⟩;have hb:=hd_.below;clear hd_;replace K2:=qB K2 hb;replace P5:=qA (P5.out.below hb);replace P6:=qA (P6.out.below hb);replace KB:=qS KB hb;clear hb))
      go_meet;exact⟨by rw[<- hb2.out],K2,P5,P6,⟨P5.out.lt (HB4.out 0 (by omega))⟩,⟨P6.out.lt (by rw[H9.out];omega)⟩,KB⟩
   case rest=>
    clear K2 P5 P6 KB HAD HAD6;obtain⟨rfl,K2,P5,P6,HAD,HAD6,KB⟩:=hcut;have e:=HE.out
    cases bd
    case true=>
     replace e:(jD.zl,(0:Int),(70:Int))=(R,number,code):=e;obtain⟨rfl,e1_⟩:=Prod.mk.inj e;obtain⟨rfl,rfl⟩:=Prod.mk.inj e1_;clear e e1_
     go_wp2_with (first|((with_reducible refine jW (t:=28) (p:=2) (v:=.tmp 51) rfl ?_);refine jA.store (n:=98) rfl 28 (.tmp 2) (.tmp 51) rfl rfl rfl K2.out (by rw[jA.pv_size,zl_len]) zl_len jA.infoP ?_;intro W3 s1 s2 s3;have S1:=qA s1;have S2:=qA (s2 _ _ (Nat.le_refl _) KB.out);clear s1 s2 s3))
     refine bodyPost_ret (zO (p:=2) (u:=3) (v:=4) (ty:=28) rfl _ _ w.heap.size 28 (jA.pv jD.zl) (0,0) _ rfl S1.out Tryz.underlying28 rfl (by rw[jA.infoP,jA.pv_size,zl_len])) rfl ?_;exact⟨rfl,zl_len,S2.out⟩
    case false=>
     have HE2:=qA (show(match jD.rows rk 0 9 jD.zl with|none=>(jD.zl,0,70)|some x=>jD.held P x)=(R,number,code) from e);clear e HE HBD;go_upto_region 9 with(fail);go_upto_region 10 with(first|((with_reducible refine jW (t:=28) (p:=7) (v:=.tmp 52) rfl ?_);refine jA.store (n:=98) rfl 28 (.tmp 7) (.tmp 52) rfl rfl rfl (zJ _ _) (by rw[jA.pv_size,zl_len]) zl_len jA.infoP ?_;intro W3 s1 s2 s3;have K7:=qA s1;have hg7lt:=ju K2.out;have hb:=s2 _ _ (Nat.le_refl _) (ji (Below.refl _ _) _);clear s1 s2 s3;replace K2:=qB K2 hb;replace P5:=qA (P5.out.below hb);replace P6:=qA (P6.out.below hb);replace KB:=qS KB hb;clear hb));generalize wc.heap.size=g7 at *;have HG7:=qA (show w.heap.size<g7 by have:=ju K2.out;have:=ju K7.out;exact hg7lt);clear hg7lt;clear hz hzb;have hz9:=jAO (t:=72) (c:=iv jO.z9) (by kernel_rfl);have HZ9:=qA hz9;clear hz9;have HPL:=qA hl4;clear hl4
     have HXL:Aside0 (jD.zl.length=98):=⟨zl_len⟩
     go_wp2
     go_loopg [8] 10 (λgf s8 wx=>∃(r:Nat) (x:List Int),s8=.int .i64 (r:Int)/\r<=9/\Aside0 (x.length=98)/\Aside0 ((match jD.rows rk r (9-r) x with|none=>(jD.zl,0,70)|some x=>jD.held P x)=(R,number,code))/\Aside0 (wx.heap[w.heap.size]?=some (.cells (jA.pv jD.zl) 28 (0,0)))/\Aside0 (wx.heap[g7]?=some (.cells (jA.pv x) 28 (0,0)))/\Aside0 (yc wx ad P)/\Aside0 (yc wx ad6 rk)/\Aside0 (Below w.heap.size w wx)/\10<=gf+r)
     case atStart=>exact⟨0,jD.zl,rfl,by omega,HXL,HE2,K2,K7,P5,P6,KB,by omega⟩
     case round=>
      clear K2 K7 P5 P6 KB HE2 HXL;obtain⟨r,x,rfl,hr9,HXL,HE,K2,K7,P5,P6,KB,hgf⟩:=hrel
      obtain⟨g',rfl⟩:∃g',gk=g'+1:=⟨gk-1,by omega⟩
      by_cases hend:r=9
      ·subst hend
       have HE2:=qA (show jD.held P x=(R,number,code) from HE.out);clear HE P6
       obtain⟨held,ok,hho⟩:∃h ok,jE.f (sg P 2)=(h,ok):=⟨_,_,rfl⟩
       have e:=HE2.out;unfold jD.held at e;rw[hho] at e;dsimp only at e;have HHO:=qA hho;have HE3:=qA e;clear e hho HE2;have c2:wr.cell? ⟨ad.block,ad.off+2,none⟩=some (.string (sg P 2)):=P5.out 2 (HB4.out 2 (by omega));have hz16:=jAO (t:=26) (c:=jA.pv jE.z16) (by kernel_rfl);go_upto_region 21 with(first|(go_at_call 39;(with_reducible refine(jE.hands_calls (sg P 2) _ _ _ (by have:=HPZ.out 2;omega) HNA.out HNB.out HHO.out).mono ?_);rintro e_ w7 ⟨rfl,hhl,hb⟩;replace K2:=qB K2 hb;replace K7:=qB K7 hb;replace P5:=qA (P5.out.below hb);replace KB:=qS KB hb;clear hb)|((with_reducible refine jW (t:=26) (p:=12) (v:=.tmp 87) rfl ?_);refine jA.store (n:=16) rfl 26 (.tmp 12) (.tmp 87) rfl rfl rfl (zJ _ _) (by rw[jA.pv_size];rfl) hhl jA.infoH ?_;intro W3 s1 s2 s3;have K12:=qA s1;have hg12lt:=qA (ju K7.out);have hb:=s2 _ _ (Nat.le_refl _) (ji (Below.refl _ _) _);clear s1 s2 s3;replace K2:=qB K2 hb;replace K7:=qB K7 hb;replace P5:=qA (P5.out.below hb);replace KB:=qS KB hb;clear hb));clear c2 hz16;have hz:=jAO (t:=28) (c:=jA.pv jD.zl) (by kernel_rfl);have hzb:=HZB.out;generalize w7.heap.size=g12 at *
       have HHL:=qA hhl;have HG12:=hg12lt;clear hhl hg12lt;have e:=HE3.out
       cases ok
       case false=>
        replace e:(jD.zl,(0:Int),(70:Int))=(R,number,code):=e;obtain⟨rfl,e1_⟩:=Prod.mk.inj e;obtain⟨rfl,rfl⟩:=Prod.mk.inj e1_;clear e e1_
        go_wp2_with (first|((with_reducible refine jW (t:=28) (p:=2) (v:=.tmp 91) rfl ?_);refine jA.store (n:=98) rfl 28 (.tmp 2) (.tmp 91) rfl rfl rfl K2.out (by rw[jA.pv_size,zl_len]) zl_len jA.infoP ?_;intro W3 s1 s2 s3;have S1:=qA s1;have S2:=qA (s2 _ _ (Nat.le_refl _) KB.out);clear s1 s2 s3))
        refine bodyPost_ret (zO (p:=2) (u:=3) (v:=4) (ty:=28) rfl _ _ w.heap.size 28 (jA.pv jD.zl) (0,0) _ rfl S1.out Tryz.underlying28 rfl (by rw[jA.infoP,jA.pv_size,zl_len])) rfl ?_;exact⟨rfl,zl_len,S2.out⟩
       case true=>
        obtain⟨wh,hwh⟩:∃wh,((sg P 1).toList==[119])=wh:=⟨_,rfl⟩
        rw[hwh] at e;have HE2:=qA (show jD.last P (jD.fin x held wh)=(R,number,code) from e);clear e HE3 HHO;have hx1:x.length=98:=HXL.out;have hh1:held.length=16:=HHL.out;go_upto_region 24 with(first|((with_reducible refine jG (N:=92) rfl ?_);refine jA.load rfl 26 (.tmp 12) rfl rfl K12.out Tryz.underlying26 rfl jA.infoH (by omega) ?_;rw[show(held.drop 0).take 16=held by rw[List.drop_zero,List.take_of_length_le (by omega)]])|((with_reducible refine jW (t:=26) (p:=93) (v:=.tmp 92) rfl ?_);refine pv_store (n:=16) (off:=81) rfl 26 (.tmp 93) (.tmp 92) rfl rfl rfl (by omega) hh1 jA.infoH K7.out ?_;intro W4 s1 s2;have n2:=qA (s2.blk (Nat.ne_of_lt HG7.out) K2.out);have n5:=qA (P5.out.ch (HB4.out 0 (by omega)) (Nat.ne_of_lt HAD.out) s2);have nB:=qA (s2.2.1 _ _ (Nat.le_of_lt HG7.out) KB.out);clear K2 K7 P5 KB;have K2:=n2;have K7:=qA s1;have P5:=n5;have KB:=nB;clear n2 n5 nB s1 s2))
        obtain⟨y,hy⟩:∃y,x.take 81++held++x.drop 97=y:=⟨_,rfl⟩
        have hyl:y.length=98:=by rw[<- hy,List.length_append,List.length_append,List.length_take,List.length_drop,hx1,hh1];omega
        have K7y:Aside0 (W4.heap[g7]?=some (.cells (jA.pv y) 28 (0,0))):=⟨by rw[<- hy];exact K7.out⟩
        clear K7 K12;have K7:=K7y;clear K7y hh1 hx1;have c1:W4.cell? ⟨ad.block,ad.off+1,none⟩=some (.string (sg P 1)):=P5.out 1 (HB4.out 1 (by omega))
        obtain⟨z,hzz⟩:∃z,jD.fin x held wh=z:=⟨_,rfl⟩
        have e:=HE2.out;rw[hzz] at e;unfold jD.fin at hzz;rw[hy] at hzz;have HE3:=qA e
        have hzl:z.length=98:=by
         rw[<- hzz]
         split
         ·rw[List.length_set];exact hyl
         ·exact hyl
        clear e HE2;have cS:W4.cell? ⟨g7,97,none⟩=some (.int .i8 (y.getD 97 0)):=(jB K7.out 97).trans (jA.pv_get y 97 (by omega));have fS:=jH K7.out 97;generalize y.getD 97 0=os at cS;have HWH:=qA hwh;go_upto_region 24 with(fail)
        cases wh
        case true=>
         have f1:((sg P 1).toList==[119])=true:=HWH.out;have hyz:y.set 97 1=z:=hzz;go_upto_region 26 with(fail);have B2:=jp K2.out (p:=⟨g7,97,none⟩) (by show w.heap.size≠g7;have:=HG7.out;omega) (.int .i8 1);have B7:=(zQ K7.out 97 (.int .i8 1)).trans (by rw[jA.pv_set,hyz]);have B5:=P5.out.far (HB4.out 0 (by omega)) (p:=⟨g7,97,none⟩) (by show ad.block≠g7;have:=HAD.out;omega) (.int .i8 1);have BB:=KB.out.setCell (p:=⟨g7,97,none⟩) (by show w.heap.size<=g7;have:=HG7.out;omega) (.int .i8 1);generalize W4.setCell ⟨g7,97,none⟩ (.int .i8 1)=W5 at *;clear K2 K7 P5 KB cS fS c1;have K2:=qA B2;have K7:=qA B7;have P5:=qA B5;have KB:=qA BB;clear B2 B5 B7 BB f1 hyz hzz;have e:=HE3.out;unfold jD.last at e
         obtain⟨ec,hec⟩:∃ec,zG.f z=ec:=⟨_,rfl⟩
         rw[hec] at e;have HEC:=qA hec;clear HE3 hec
         by_cases hc0:ec=0
         ·have f0:(ec != 0)=false:=by rw[hc0];rfl
          rw[if_pos hc0] at e;have HE4:=qA e;clear e;obtain⟨rfl,e1_⟩:=Prod.mk.inj HE4.out;obtain⟨rfl,rfl⟩:=Prod.mk.inj e1_;clear e1_ HE4;go_upto_region 29 with(first|((with_reducible refine jG (N:=99) rfl ?_);refine jA.load rfl 28 (.tmp 7) rfl rfl K7.out Tryz.underlying28 rfl jA.infoP (by omega) ?_;rw[show(z.drop 0).take 98=z by rw[List.drop_zero,List.take_of_length_le (by omega)]])|(go_at_call 29;(with_reducible refine(zG.check_calls z _ _ hzl HEC.out).mono ?_);rintro e_ w7 ⟨rfl,hb⟩;replace K2:=qB K2 hb;replace K7:=qB K7 hb;replace P5:=qA (P5.out.below hb);replace KB:=qS KB hb;clear hb));clear f0;have HNU:=qA (HNB.out (sg P 3))
          obtain⟨num,hnum⟩:∃num,jAP (sg P 3)=num:=⟨_,rfl⟩
          rw[hnum] at HNU;have HNN:=qA hnum;clear hnum;have HZL:=qA hzl;refine wp_region_held_drew (S:=λW=>W.heap[g7]?=some (.cells (jA.pv z) 28 (0,0))) (by kernel_rfl) (jY K7.out) (λ_=>?_);replace K2:=qD K2;replace K7:=qD K7;replace P5:=qA (P5.out.below (zD (Below.refl _ _)));replace KB:=qA (zD KB.out);refine tkW 1 K7.out ?_;refine tkW 2 K7.out ?_;refine tkW 0 K7.out ?_ (hv:=λW h=>exec_load98 W g7 z (.tmp 7) rfl rfl HZL.out h);have c3:=P5.out 3 (HB4.out 3 (by omega));replace c3:_=some (Value.string (sg P 3)):=c3;refine on1W 3 (λK hK=>?_);show(if Region.wanted ⟨some 108,.load _ _,_,_,_,none⟩ _=true then Oper.wp _ ⟨some 108,.load _ _,_,_,_,none⟩ _ _ _ _ else _);have c3':World.cell? _ ⟨ad.block,ad.off+3,none⟩=some (Value.string (sg P 3)):=c3;go_simp;refine koW hK K7.out ?_;clear hK K c3 c3';refine on1W 4 (λK hK=>?_);show(if Region.wanted ⟨some 109,.call _,_,_,_,none⟩ _=true then Oper.wp _ ⟨some 109,.call _,_,_,_,none⟩ _ _ _ _ else _);go_simp;refine(jM.calls 60 _ _ _ HNU.out).mono ?_;rintro e_ w7 ⟨rfl,hd_⟩;have hb:=hd_.below;clear hd_;replace K2:=qB K2 hb;replace K7:=qB K7 hb;replace P5:=qA (P5.out.below hb);replace KB:=qS KB hb;clear hb;refine koW hK K7.out ?_
          clear hK K;refine on1W 5 (λK hK=>?_);show(if Region.wanted ⟨none,.store 28 (.tmp 2) (.tmp 105),_,_,_,none⟩ _=true then Oper.wp _ ⟨none,.store 28 (.tmp 2) (.tmp 105),_,_,_,none⟩ _ _ _ _ else _);rw[if_pos (by rfl)];refine pos_wp_store (.tmp 2) (.tmp 105) rfl rfl rfl K2.out (by rw[jA.pv_size,zl_len]) HZL.out ?_;intro W6 s1 s2 s3;have S1:=qA s1;have S2:=qA (s2 w.heap.size w (Nat.le_refl _) KB.out);have n7:=qA ((s3 g7 (Nat.ne_of_gt HG7.out)).trans K7.out);clear K2 K7 P5 KB s1 s2 s3;refine koW hK n7.out ?_;clear hK K;refine tkW 6 n7.out ?_;refine tkW 7 n7.out ?_;refine wpAnyH_done (by kernel_rfl) ?_ _;go_wp2;refine bodyPost_ret (zO (p:=2) (u:=3) (v:=4) (ty:=28) rfl _ _ w.heap.size 28 (jA.pv z) (0,0) _ rfl S1.out Tryz.underlying28 rfl (by rw[jA.infoP,jA.pv_size,HZL.out])) rfl ?_;exact⟨by rw[HNN.out];rfl,HZL.out,S2.out⟩
         ·have f0:(ec != 0)=true:=by simpa using hc0
          rw[if_neg hc0] at e;obtain⟨rfl,e1_⟩:=Prod.mk.inj e;obtain⟨rfl,rfl⟩:=Prod.mk.inj e1_;clear e e1_;go_upto_region 28 with(first|((with_reducible refine jG (N:=99) rfl ?_);refine jA.load rfl 28 (.tmp 7) rfl rfl K7.out Tryz.underlying28 rfl jA.infoP (by omega) ?_;rw[show(z.drop 0).take 98=z by rw[List.drop_zero,List.take_of_length_le (by omega)]])|(go_at_call 29;(with_reducible refine(zG.check_calls z _ _ hzl HEC.out).mono ?_);rintro e_ w7 ⟨rfl,hb⟩;replace K2:=qB K2 hb;replace K7:=qB K7 hb;replace P5:=qA (P5.out.below hb);replace KB:=qS KB hb;clear hb))
          go_wp2_with (first|((with_reducible refine jW (t:=28) (p:=2) (v:=.tmp 103) rfl ?_);refine jA.store (n:=98) rfl 28 (.tmp 2) (.tmp 103) rfl rfl rfl K2.out (by rw[jA.pv_size,zl_len]) zl_len jA.infoP ?_;intro W3 s1 s2 s3;have S1:=qA s1;have S2:=qA (s2 _ _ (Nat.le_refl _) KB.out);clear s1 s2 s3))
          refine bodyPost_ret (zO (p:=2) (u:=3) (v:=4) (ty:=28) rfl _ _ w.heap.size 28 (jA.pv jD.zl) (0,0) _ rfl S1.out Tryz.underlying28 rfl (by rw[jA.infoP,jA.pv_size,zl_len])) rfl ?_;exact⟨rfl,zl_len,S2.out⟩
        case false=>
         have f1:((sg P 1).toList==[119])=false:=HWH.out;obtain rfl:y=z:=hzz;go_upto_region 26 with(fail)
         obtain⟨W5,hW5⟩:∃W5,W5=W4:=⟨_,rfl⟩
         rw[<- hW5] at K2 K7 P5 KB ⊢;clear hW5 f1 c1 cS fS
         obtain⟨z,hz9⟩:∃z,z=y:=⟨_,rfl⟩
         rw[<- hz9] at K7 HE3 hzl;clear hz9;have e:=HE3.out;unfold jD.last at e
         obtain⟨ec,hec⟩:∃ec,zG.f z=ec:=⟨_,rfl⟩
         rw[hec] at e;have HEC:=qA hec;clear HE3 hec
         by_cases hc0:ec=0
         ·have f0:(ec != 0)=false:=by rw[hc0];rfl
          rw[if_pos hc0] at e;have HE4:=qA e;clear e;obtain⟨rfl,e1_⟩:=Prod.mk.inj HE4.out;obtain⟨rfl,rfl⟩:=Prod.mk.inj e1_;clear e1_ HE4;go_upto_region 29 with(first|((with_reducible refine jG (N:=99) rfl ?_);refine jA.load rfl 28 (.tmp 7) rfl rfl K7.out Tryz.underlying28 rfl jA.infoP (by omega) ?_;rw[show(z.drop 0).take 98=z by rw[List.drop_zero,List.take_of_length_le (by omega)]])|(go_at_call 29;(with_reducible refine(zG.check_calls z _ _ hzl HEC.out).mono ?_);rintro e_ w7 ⟨rfl,hb⟩;replace K2:=qB K2 hb;replace K7:=qB K7 hb;replace P5:=qA (P5.out.below hb);replace KB:=qS KB hb;clear hb));clear f0;have HNU:=qA (HNB.out (sg P 3))
          obtain⟨num,hnum⟩:∃num,jAP (sg P 3)=num:=⟨_,rfl⟩
          rw[hnum] at HNU;have HNN:=qA hnum;clear hnum;have HZL:=qA hzl;refine wp_region_held_drew (S:=λW=>W.heap[g7]?=some (.cells (jA.pv z) 28 (0,0))) (by kernel_rfl) (jY K7.out) (λ_=>?_);replace K2:=qD K2;replace K7:=qD K7;replace P5:=qA (P5.out.below (zD (Below.refl _ _)));replace KB:=qA (zD KB.out);refine tkW 1 K7.out ?_;refine tkW 2 K7.out ?_;refine tkW 0 K7.out ?_ (hv:=λW h=>exec_load98 W g7 z (.tmp 7) rfl rfl HZL.out h);have c3:=P5.out 3 (HB4.out 3 (by omega));replace c3:_=some (Value.string (sg P 3)):=c3;refine on1W 3 (λK hK=>?_);show(if Region.wanted ⟨some 108,.load _ _,_,_,_,none⟩ _=true then Oper.wp _ ⟨some 108,.load _ _,_,_,_,none⟩ _ _ _ _ else _);have c3':World.cell? _ ⟨ad.block,ad.off+3,none⟩=some (Value.string (sg P 3)):=c3;go_simp;refine koW hK K7.out ?_;clear hK K c3 c3';refine on1W 4 (λK hK=>?_);show(if Region.wanted ⟨some 109,.call _,_,_,_,none⟩ _=true then Oper.wp _ ⟨some 109,.call _,_,_,_,none⟩ _ _ _ _ else _);go_simp;refine(jM.calls 60 _ _ _ HNU.out).mono ?_;rintro e_ w7 ⟨rfl,hd_⟩;have hb:=hd_.below;clear hd_;replace K2:=qB K2 hb;replace K7:=qB K7 hb;replace P5:=qA (P5.out.below hb);replace KB:=qS KB hb;clear hb;refine koW hK K7.out ?_
          clear hK K;refine on1W 5 (λK hK=>?_);show(if Region.wanted ⟨none,.store 28 (.tmp 2) (.tmp 105),_,_,_,none⟩ _=true then Oper.wp _ ⟨none,.store 28 (.tmp 2) (.tmp 105),_,_,_,none⟩ _ _ _ _ else _);rw[if_pos (by rfl)];refine pos_wp_store (.tmp 2) (.tmp 105) rfl rfl rfl K2.out (by rw[jA.pv_size,zl_len]) HZL.out ?_;intro W6 s1 s2 s3;have S1:=qA s1;have S2:=qA (s2 w.heap.size w (Nat.le_refl _) KB.out);have n7:=qA ((s3 g7 (Nat.ne_of_gt HG7.out)).trans K7.out);clear K2 K7 P5 KB s1 s2 s3;refine koW hK n7.out ?_;clear hK K;refine tkW 6 n7.out ?_;refine tkW 7 n7.out ?_;refine wpAnyH_done (by kernel_rfl) ?_ _;go_wp2;refine bodyPost_ret (zO (p:=2) (u:=3) (v:=4) (ty:=28) rfl _ _ w.heap.size 28 (jA.pv z) (0,0) _ rfl S1.out Tryz.underlying28 rfl (by rw[jA.infoP,jA.pv_size,HZL.out])) rfl ?_;exact⟨by rw[HNN.out];rfl,HZL.out,S2.out⟩
         ·have f0:(ec != 0)=true:=by simpa using hc0
          rw[if_neg hc0] at e;obtain⟨rfl,e1_⟩:=Prod.mk.inj e;obtain⟨rfl,rfl⟩:=Prod.mk.inj e1_;clear e e1_;go_upto_region 28 with(first|((with_reducible refine jG (N:=99) rfl ?_);refine jA.load rfl 28 (.tmp 7) rfl rfl K7.out Tryz.underlying28 rfl jA.infoP (by omega) ?_;rw[show(z.drop 0).take 98=z by rw[List.drop_zero,List.take_of_length_le (by omega)]])|(go_at_call 29;(with_reducible refine(zG.check_calls z _ _ hzl HEC.out).mono ?_);rintro e_ w7 ⟨rfl,hb⟩;replace K2:=qB K2 hb;replace K7:=qB K7 hb;replace P5:=qA (P5.out.below hb);replace KB:=qS KB hb;clear hb))
          go_wp2_with (first|((with_reducible refine jW (t:=28) (p:=2) (v:=.tmp 103) rfl ?_);refine jA.store (n:=98) rfl 28 (.tmp 2) (.tmp 103) rfl rfl rfl K2.out (by rw[jA.pv_size,zl_len]) zl_len jA.infoP ?_;intro W3 s1 s2 s3;have S1:=qA s1;have S2:=qA (s2 _ _ (Nat.le_refl _) KB.out);clear s1 s2 s3))
          refine bodyPost_ret (zO (p:=2) (u:=3) (v:=4) (ty:=28) rfl _ _ w.heap.size 28 (jA.pv jD.zl) (0,0) _ rfl S1.out Tryz.underlying28 rfl (by rw[jA.infoP,jA.pv_size,zl_len])) rfl ?_;exact⟨rfl,zl_len,S2.out⟩
      have b0:decide ((r:Int)<9)=true:=decide_eq_true (by omega);have b1:(0<=(r:Int)/\(r:Int)<9)=True:=eq_true (by omega);have b3:((r:Int)<9)=True:=eq_true (by omega);have b4:(r<9)=True:=eq_true (by omega);have ew:IntKind.i64.wrap ((r:Int)+1)=(r:Int)+1:=IntWalk.i64_in _ (by omega)
      obtain⟨l,ok,hlo⟩:∃l ok,jO.f (sg rk r)=(l,ok):=⟨_,_,rfl⟩
      have e:=HE.out;rw[show 9-r=(9-(r+1))+1 by omega] at e;unfold jD.rows at e;rw[hlo] at e;dsimp only at e;have HLO:=qA hlo;have HE2:=qA e;have HRB:=qA (show r<9 by omega);clear e hlo HE;have cR:wr.cell? (ad6.add r)=some (.string (sg rk r)):=P6.out r (by rw[H9.out];omega);have hz9:=HZ9.out;go_upto_region 14 with(first|(go_at_call 38;(with_reducible refine(jO.one_calls (sg rk r) _ _ _ (by have:=HRZ.out r;omega) HNA.out HLO.out).mono ?_);rintro e_ w7 ⟨rfl,hol,hb⟩;replace K2:=qB K2 hb;replace K7:=qB K7 hb;replace P5:=qA (P5.out.below hb);replace P6:=qA (P6.out.below hb);replace KB:=qS KB hb;clear hb)|((with_reducible refine jW (t:=72) (p:=9) (v:=.tmp 63) rfl ?_);refine yw rfl (.tmp 9) (.tmp 63) rfl rfl rfl (zJ _ _) (by rw[yU];rfl) hol ?_;intro W3 s1 s2 s3;have K9:=qA s1;have hg9lt:=qA (ju K7.out);have hb:=s2 _ _ (Nat.le_refl _) (ji (Below.refl _ _) _);clear s1 s2 s3;replace K2:=qB K2 hb;replace K7:=qB K7 hb;replace P5:=qA (P5.out.below hb);replace P6:=qA (P6.out.below hb);replace KB:=qS KB hb;clear hb));clear cR hz9;generalize w7.heap.size=g9 at *;have HOL:=qA hol;have HG9:=hg9lt;clear hol hg9lt
      have e:=HE2.out
      cases ok
      case false=>
       replace e:(jD.zl,(0:Int),(70:Int))=(R,number,code):=e;obtain⟨rfl,e1_⟩:=Prod.mk.inj e;obtain⟨rfl,rfl⟩:=Prod.mk.inj e1_;clear e e1_
       go_wp2_with (first|((with_reducible refine jW (t:=28) (p:=2) (v:=.tmp 67) rfl ?_);refine jA.store (n:=98) rfl 28 (.tmp 2) (.tmp 67) rfl rfl rfl K2.out (by rw[jA.pv_size,zl_len]) zl_len jA.infoP ?_;intro W3 s1 s2 s3;have S1:=qA s1;have S2:=qA (s2 _ _ (Nat.le_refl _) KB.out);clear s1 s2 s3))
       refine bodyPost_ret (zO (p:=2) (u:=3) (v:=4) (ty:=28) rfl _ _ w.heap.size 28 (jA.pv jD.zl) (0,0) _ rfl S1.out Tryz.underlying28 rfl (by rw[jA.infoP,jA.pv_size,zl_len])) rfl ?_;exact⟨rfl,zl_len,S2.out⟩
      case true=>
       obtain⟨Y,hY⟩:∃Y,jD.putL r l 0 9 x=Y:=⟨_,rfl⟩
       rw[hY] at e;have HE3:=qA (show(match jD.rows rk (r+1) (9-(r+1)) Y with|none=>(jD.zl,0,70)|some x=>jD.held P x)=(R,number,code) from e);have HY:=qA hY;clear e HE2 hY HLO;go_wp2
       go_loopg [11] 10 (λgf s11 wx=>∃(f:Nat) (x:List Int),s11=.int .i64 (f:Int)/\f<=9/\Aside0 (x.length=98)/\Aside0 (jD.putL r l f (9-f) x=Y)/\Aside0 (wx.heap[w.heap.size]?=some (.cells (jA.pv jD.zl) 28 (0,0)))/\Aside0 (wx.heap[g7]?=some (.cells (jA.pv x) 28 (0,0)))/\Aside0 (wx.heap[g9]?=some (.cells (iv l) 72 (0,0)))/\Aside0 (yc wx ad P)/\Aside0 (yc wx ad6 rk)/\Aside0 (Below w.heap.size w wx)/\10<=gf+f)
       case atStart=>exact⟨0,x,rfl,by omega,HXL,HY,K2,K7,K9,P5,P6,KB,by omega⟩
       case round=>
        clear K2 K7 K9 P5 P6 KB HY HXL;clear x;obtain⟨f,x,rfl,hf9,HXL,HY,K2,K7,K9,P5,P6,KB,hgf2⟩:=hrel
        obtain⟨g2,rfl⟩:∃g2,gk=g2+1:=⟨gk-1,by omega⟩
        by_cases hend2:f=9
        ·subst hend2
         obtain rfl:x=Y:=HY.out;clear HY;go_wp2
         go_roundg g'
         case measure=>omega
         case rel=>exact⟨r+1,x,by simp,by omega,HXL,HE3,K2,K7,P5,P6,KB,by omega⟩
        ·have c0:decide ((f:Int)<9)=true:=decide_eq_true (by omega)
         have c1:(0<=(f:Int)/\(f:Int)<9)=True:=eq_true (by omega);have c3:((f:Int)<9)=True:=eq_true (by omega);have c4:(f<9)=True:=eq_true (by omega);have ef:IntKind.i64.wrap ((f:Int)+1)=(f:Int)+1:=IntWalk.i64_in _ (by omega)
         obtain⟨m9,hm9⟩:∃m9:Nat,m9=9*f:=⟨_,rfl⟩
         obtain⟨q,hq⟩:∃q:Nat,q=m9+r:=⟨_,rfl⟩
         have e1:IntKind.i64.wrap (9*(f:Int))=(m9:Int):=by rw[IntWalk.i64_in _ (by omega)];omega
         have e2:IntKind.i64.wrap ((m9:Int)+(r:Int))=(q:Int):=by rw[IntWalk.i64_in _ (by omega)];omega
         have d1:(0<=(q:Int)/\(q:Int)<81)=True:=eq_true (by omega);have d3:((q:Int)<81)=True:=eq_true (by omega);have cL:wr.cell? ⟨g9,f,none⟩=some (.int .i64 (l.getD f 0)):=(jB K9.out f).trans (jA4 l f (by have:=HOL.out;omega));have cX:wr.cell? ⟨g7,q,none⟩=some (.int .i8 (x.getD q 0)):=(jB K7.out q).trans (jA.pv_get x q (by have:=HXL.out;omega));have fX:=jH K7.out q;have e:=HY.out;rw[show 9-f=(9-(f+1))+1 by omega] at e;unfold jD.putL at e;rw[<- hm9,<- hq] at e;generalize l.getD f 0=v at cL e
         obtain⟨u,hu⟩:∃u,IntKind.i8.wrap v=u:=⟨_,rfl⟩
         rw[hu] at e;generalize x.getD q 0=ox at cX;have HY2:=qA e;have HM:=qA hm9;have HQ:=qA hq;clear e HY hm9 hq;go_upto_region 18 with(fail);have B2:=jp K2.out (p:=⟨g7,q,none⟩) (by show w.heap.size≠g7;have:=HG7.out;omega) (.int .i8 u);have B9:=jp K9.out (p:=⟨g7,q,none⟩) (by show g9≠g7;have:=HG9.out;omega) (.int .i8 u);have B7:=(zQ K7.out q (.int .i8 u)).trans (by rw[jA.pv_set]);have B5:=P5.out.far (HB4.out 0 (by omega)) (p:=⟨g7,q,none⟩) (by show ad.block≠g7;have:=HAD.out;omega) (.int .i8 u);have B6:=P6.out.far (by rw[H9.out];omega) (p:=⟨g7,q,none⟩) (by show ad6.block≠g7;have:=HAD6.out;omega) (.int .i8 u);have BB:=KB.out.setCell (p:=⟨g7,q,none⟩) (by show w.heap.size<=g7;have:=HG7.out;omega) (.int .i8 u);generalize wr.setCell ⟨g7,q,none⟩ (.int .i8 u)=W4 at *;clear K2 K7 K9 P5 P6 KB cL cX fX;have K2:=qA B2;have K7:=qA B7;have K9:=qA B9;have P5:=qA B5;have P6:=qA B6;have KB:=qA BB;clear B2 B5 B6 B7 B9 BB;go_wp2
         go_roundg g2
         case measure=>omega
         case rel=>exact⟨f+1,x.set q u,by simp,by omega,⟨by rw[List.length_set];exact HXL.out⟩,HY2,K2,K7,K9,P5,P6,KB,by omega⟩
theorem kakugyolaw13_SfenParses.calls (s:ByteArray) (cs:List Int) (n e:Int) (w:World) (henv:Env w) (hD:∀n:Nat,n<=9999->jg.f 20 (n:Int)=some (rdig n)/\(rdig n).size<=4) (hN:∀x:Int,-128<=x->x<=127->jU.f 40 x=some (yt x)/\(yt x).size<=2) (hNm:∀x:ByteArray,jZ.f 60 x=some (jAE x)) (hNu:∀x:ByteArray,jM.f 60 x=some (jAP x)) (hSp:∀(x:ByteArray) (b:Int),x.size<=200->b=32\/b=47->jq.f 300 x b=some (yq x b)/\∀i,(sg (yq x b) i).size<=200) (hp:jk.f s=some (cs,n,e)) (hr:jD.f s=(cs,n,e)) (hcl:cs.length=98)
  (hlaw:e=0->∃x,jf.f cs n=some x/\jk.f x=some (cs,n,0)/\zA.f cs n=x/\∀i:Nat,-128<=cs.getD i 0/\cs.getD i 0<=127):
  Calls Tryz.prog 4 #[.string s] w λe w'=>e=.returned (.bool true)/\Below w.heap.size w w':=by
 have hz:=jN.zero
 have HZ:Aside0 ((jA.pv jN.zl).size=98):=⟨by rw[jA.pv_size,jN.zl_len]⟩
 have EP:=qA hp;have HRP:=qA hr;have HLAW:=qA hlaw;have HD:=qA hD;have HN:=qA hN;have HNM:=qA hNm;have HNU:=qA hNu;have HSP:=qA hSp;have HCL:=qA hcl;have KE:=qA henv
 have KB:Aside0 (Below w.heap.size w w):=⟨Below.refl _ _⟩
 have heq:∀W,(Op.equalIn 10000 28 (.agg (jA.pv cs)) (.agg (jA.pv cs))).run Tryz.prog W=.ok true W:=λW=>(eqpos cs cs W hcl hcl).trans (by rw[decide_eq_true rfl]);clear hp hlaw henv hD hN hr hNm hNu hSp hcl;have hcl:=HCL.out;go_enter Tryz.func4,Tryz.ntmps4;go_upto_region 3 with(first|(go_at_call 9;(with_reducible refine(yb.calls _ KE.out).mono ?_);rintro e w7 ⟨rfl,hb⟩;replace KB:=qS KB hb;replace KE:=qA (KE.out.below hb);clear hb));go_upto_region 4 with(first|(go_at_call 12;(with_reducible refine(jk.parse_calls _ _ _ _ _ KE.out atoi_range EP.out).mono ?_);rintro e w7 ⟨rfl,hlc,hb⟩;replace KB:=qS KB hb;replace KE:=qA (KE.out.below hb);clear hb)|((with_reducible refine jW (t:=28) (p:=3) (v:=.tmp 18) rfl ?_);refine jA.store rfl 28 (.tmp 3) (.tmp 18) rfl rfl rfl (zJ _ _) HZ.out hcl jA.infoP ?_;intro W3 s1 s2 s3;have K3:=qA s1;replace KB:=qA (s2 w.heap.size w KB.out.size (ji KB.out _));replace KE:=qA (KE.out.below (s2 _ _ (Nat.le_refl _) (ji (Below.refl _ _) _)));clear s1 s2 s3));go_upto_region 5 with(first|(go_at_call 13;(with_reducible refine(jD.parse_calls s _ _ _ _ HNM.out HNU.out HSP.out HRP.out).mono ?_);rintro e w7 ⟨rfl,hlc2,hb⟩;replace K3:=qB K3 hb;replace KB:=qS KB hb;replace KE:=qA (KE.out.below hb);clear hb)|((with_reducible refine jW (t:=28) (p:=6) (v:=.tmp 24) rfl ?_);refine jA.store rfl 28 (.tmp 6) (.tmp 24) rfl rfl rfl (zJ _ _) HZ.out hcl jA.infoP ?_;intro W3 s1 s2 s3;have K6:=qA s1;replace K3:=qA ((s3 _ (Nat.ne_of_lt (ju K3.out))).trans (jI K3.out _));replace KB:=qA (s2 w.heap.size w KB.out.size (ji KB.out _));replace KE:=qA (KE.out.below (s2 _ _ (Nat.le_refl _) (ji (Below.refl _ _) _)));clear s1 s2 s3))
 have a1:(e != e)=false:=bne_self_eq_false _;have a2:(n != n)=false:=bne_self_eq_false _;have a3:(e==e)=true:=beq_self_eq_true _;have a4:(n==n)=true:=beq_self_eq_true _
 by_cases he:e=0
 ·obtain⟨x,hx,hpx,hrx,hbd⟩:=HLAW.out he
  subst he;have EX:=qA hx;have EPX:=qA hpx;have HRX:=qA hrx;have HBD:=qA hbd;clear HLAW hx hpx hrx hbd EP HRP;have a5:(x.toList==x.toList)=true:=beq_self_eq_true _;go_upto_region 9 with(first|((with_reducible refine jG (N:=31) rfl ?_);(try (refine zw (by rfl) ?_;dsimp only));refine jA.load rfl 28 (.tmp 3) rfl rfl K3.out Tryz.underlying28 rfl jA.infoP (by omega) ?_;rw[show(cs.drop 0).take 98=cs by rw[List.drop_zero,List.take_of_length_le (by omega)]])|((with_reducible refine jG (N:=32) rfl ?_);(try (refine zw (by rfl) ?_;dsimp only));refine jA.load rfl 28 (.tmp 6) rfl rfl K6.out Tryz.underlying28 rfl jA.infoP (by omega) ?_;rw[show(cs.drop 0).take 98=cs by rw[List.drop_zero,List.take_of_length_le (by omega)]]));go_upto_region 10 with(first|((with_reducible refine jG (N:=42) rfl ?_);refine jA.load rfl 28 (.tmp 3) rfl rfl K3.out Tryz.underlying28 rfl jA.infoP (by omega) ?_;rw[show(cs.drop 0).take 98=cs by rw[List.drop_zero,List.take_of_length_le (by omega)]])|(go_at_call 10;(with_reducible refine(jf.print_calls cs n _ _ KE.out.tab KE.out.pow HCL.out name_le2 EX.out).mono ?_);rintro e w7 ⟨rfl,hb⟩;replace K3:=qB K3 hb;replace K6:=qB K6 hb;replace KB:=qS KB hb;replace KE:=qA (KE.out.below hb);clear hb));go_upto_region 11 with(first|(go_at_call 12;(with_reducible refine(jk.parse_calls _ _ _ _ _ KE.out atoi_range EPX.out).mono ?_);rintro e w7 ⟨rfl,hlc,hb⟩;replace K3:=qB K3 hb;replace K6:=qB K6 hb;replace KB:=qS KB hb;replace KE:=qA (KE.out.below hb);clear hb)|((with_reducible refine jW (t:=28) (p:=10) (v:=.tmp 48) rfl ?_);refine jA.store rfl 28 (.tmp 10) (.tmp 48) rfl rfl rfl (zJ _ _) HZ.out hcl jA.infoP ?_;intro W3 s1 s2 s3;have K10:=qA s1;replace K3:=qA ((s3 _ (Nat.ne_of_lt (ju K3.out))).trans (jI K3.out _));replace K6:=qA ((s3 _ (Nat.ne_of_lt (ju K6.out))).trans (jI K6.out _));replace KB:=qA (s2 w.heap.size w KB.out.size (ji KB.out _));replace KE:=qA (KE.out.below (s2 _ _ (Nat.le_refl _) (ji (Below.refl _ _) _)));clear s1 s2 s3))
  go_wp2_with (first|((with_reducible refine jG (N:=54) rfl ?_);(try (refine zw (by rfl) ?_;dsimp only));refine jA.load rfl 28 (.tmp 10) rfl rfl K10.out Tryz.underlying28 rfl jA.infoP (by omega) ?_;rw[show(cs.drop 0).take 98=cs by rw[List.drop_zero,List.take_of_length_le (by omega)]])|((with_reducible refine jG (N:=55) rfl ?_);(try (refine zw (by rfl) ?_;dsimp only));refine jA.load rfl 28 (.tmp 3) rfl rfl K3.out Tryz.underlying28 rfl jA.infoP (by omega) ?_;rw[show(cs.drop 0).take 98=cs by rw[List.drop_zero,List.take_of_length_le (by omega)]])|((with_reducible refine jG (N:=64) rfl ?_);(try (refine zw (by rfl) ?_;dsimp only));refine jA.load rfl 28 (.tmp 10) rfl rfl K10.out Tryz.underlying28 rfl jA.infoP (by omega) ?_;rw[show(cs.drop 0).take 98=cs by rw[List.drop_zero,List.take_of_length_le (by omega)]])|(go_at_call 10;(with_reducible refine(jf.print_calls cs n _ _ KE.out.tab KE.out.pow HCL.out name_le2 EX.out).mono ?_);rintro e w7 ⟨rfl,hb⟩;replace K3:=qB K3 hb;replace K6:=qB K6 hb;replace K10:=qB K10 hb;replace KB:=qS KB hb;replace KE:=qA (KE.out.below hb);clear hb)|((with_reducible refine jG (N:=72) rfl ?_);(try (refine zw (by rfl) ?_;dsimp only));refine jA.load rfl 28 (.tmp 6) rfl rfl K6.out Tryz.underlying28 rfl jA.infoP (by omega) ?_;rw[show(cs.drop 0).take 98=cs by rw[List.drop_zero,List.take_of_length_le (by omega)]])|(go_at_call 11;(with_reducible refine(zA.print_calls cs n _ _ HCL.out HD.out HN.out HBD.out HRX.out).mono ?_);rintro e w7 ⟨rfl,hb⟩;replace K3:=qB K3 hb;replace K6:=qB K6 hb;replace K10:=qB K10 hb;replace KB:=qS KB hb;replace KE:=qA (KE.out.below hb);clear hb))
  go_ret;exact⟨rfl,KB.out⟩
 ·have b1:(e != 0)=true:=by simpa using he
  have b2:(e==0)=false:=by simpa using he
  go_wp2_with (first|((with_reducible refine jG (N:=31) rfl ?_);(try (refine zw (by rfl) ?_;dsimp only));refine jA.load rfl 28 (.tmp 3) rfl rfl K3.out Tryz.underlying28 rfl jA.infoP (by omega) ?_;rw[show(cs.drop 0).take 98=cs by rw[List.drop_zero,List.take_of_length_le (by omega)]])|((with_reducible refine jG (N:=32) rfl ?_);(try (refine zw (by rfl) ?_;dsimp only));refine jA.load rfl 28 (.tmp 6) rfl rfl K6.out Tryz.underlying28 rfl jA.infoP (by omega) ?_;rw[show(cs.drop 0).take 98=cs by rw[List.drop_zero,List.take_of_length_le (by omega)]]))
  go_ret;exact⟨rfl,KB.out⟩
end Go.Proofs.YtigenhbmgpfffaaGreatDoor.Pa
