import Derived.Test.YtigenhbmgpfffaaGreatDoorB29
set_option maxRecDepth 100000
set_option maxHeartbeats 16000000
namespace Go.Proofs.YtigenhbmgpfffaaGreatDoor.Pa
open Go.RowKit Go.Proofs.YtigenhbmgpfffaaGreatDoorW.PrintWords Go.Proofs.YtigenhbmgpfffaaGreatDoorW.PrintLast Go.Proofs.YtigenhbmgpfffaaGreatDoorW.PrintMore
attribute [local go_sem] yE yC yM yL zo zn yD yB
set_option linter.unusedVariables false
set_option linter.unusedSimpArgs false
def js.z16:List Int:=List.replicate 16 0
def js.go (s:ByteArray):Nat->Nat->Int->Int->List Int->Option (List Int×Bool)
 | 0,pos,n,dg,b=>if pos<s.size then none else some (b,(dg==0) && !(s.toList==[]))
 | k+1,pos,n,dg,b=>if pos<s.size then
   (if 48<=((Utf8.decode s pos).1:Int)/\((Utf8.decode s pos).1:Int)<=57 then
    (if dg=2\/10*n+(((Utf8.decode s pos).1:Int)-48)=0 then some (b,false) else js.go s k (pos+(Utf8.decode s pos).2) (10*n+(((Utf8.decode s pos).1:Int)-48)) (dg+1) b)
   else(ja.f ((Utf8.decode s pos).1:Int) false).bind λp=>(jS.f 20 p).bind λkd=>
    if kd=0\/kd=8\/(0<dg/\18<n) then some (b,false) else(jv.f 20 p).bind λsd=>if 0<=sd/\sd<2/\0<=kd/\kd<8 then
     (if b.getD (sd.toNat*8+kd.toNat) 0≠0 then some (b,false) else js.go s k (pos+(Utf8.decode s pos).2) 0 0 (b.set (sd.toNat*8+kd.toNat) (max 1 n))) else none)
  else some (b,(dg==0) && !(s.toList==[]))
def js.f (s:ByteArray):Option (List Int×Bool):=if(s.toList==[45])=true then some (js.z16,true) else js.go s s.size 0 0 0 js.z16
theorem js.hands_calls (s:ByteArray) (B:List Int) (ok:Bool) (w:World) (h:js.f s=some (B,ok)):
  Calls Tryz.prog 34 #[.string s] w λe w'=>e=.returned (.tuple #[.agg (jA.pv B),.bool ok])/\B.length=16/\Below w.heap.size w w':=by
 have H1:=qA h;have hz:=jAO (t:=26) (c:=jA.pv js.z16) (by kernel_rfl)
 have z1:(w.alloc (Obj.cells (jA.pv js.z16) 26)).heap.size=w.heap.size+1:=by simp [go_sem]
 have z2:((w.alloc (Obj.cells (jA.pv js.z16) 26)).alloc (Obj.cells (jA.pv js.z16) 26)).heap.size=w.heap.size+1+1:=by simp [go_sem]
 have i2:(((w.alloc (Obj.cells (jA.pv js.z16) 26)).alloc (Obj.cells (jA.pv js.z16) 26))).heap[w.heap.size]?=some (.cells (jA.pv js.z16) 26 (0,0)):=jI (zJ w _) _
 have i4:(((w.alloc (Obj.cells (jA.pv js.z16) 26)).alloc (Obj.cells (jA.pv js.z16) 26))).heap[w.heap.size+1]?=some (.cells (jA.pv js.z16) 26 (0,0)):=by
  have e:=zJ (w.alloc (Obj.cells (jA.pv js.z16) 26)) (Obj.cells (jA.pv js.z16) 26);rw[z1] at e;exact e
 have i5:Below w.heap.size w (((w.alloc (Obj.cells (jA.pv js.z16) 26)).alloc (Obj.cells (jA.pv js.z16) 26))):=ji (ji (Below.refl _ _) _) _;have K2:=qA i2;have K4:=qA i4;have KB:=qA i5;have Z2:=qA z2;clear h i2 i4 i5 z1 z2;go_enter Tryz.func34,Tryz.ntmps34;go_upto_region 2 with(fail);generalize ((w.alloc (Obj.cells (jA.pv js.z16) 26)).alloc (Obj.cells (jA.pv js.z16) 26))=W at *
 have HZL:Aside0 (js.z16.length=16):=⟨by decide⟩
 have e1:=H1.out;unfold js.f at e1;clear H1 hz;generalize js.z16=zl at *;have hzl:=HZL.out
 by_cases hdash:(s.toList==[45])=true
 ·rw[if_pos hdash] at e1
  have er:=Option.some.inj e1;simp only[Prod.mk.injEq] at er;obtain⟨rfl,rfl⟩:=er;clear e1;have hbl:=hzl
  obtain⟨b,hb0⟩:∃b,b=zl:=⟨_,rfl⟩
  rw[<- hb0] at K4 hbl
  go_wp2_with (first|((with_reducible refine jG (N:=13) rfl ?_);refine jA.load rfl 26 (.tmp 4) rfl rfl K4.out Tryz.underlying26 rfl jA.infoH (by omega) ?_;rw[show(b.drop 0).take 16=b by rw[List.drop_zero,List.take_of_length_le (by omega)]])|((with_reducible refine jW (t:=26) (p:=2) (v:=.tmp 13) rfl ?_);refine jA.store rfl 26 (.tmp 2) (.tmp 13) rfl rfl rfl K2.out (by rw[jA.pv_size];exact hzl) hbl jA.infoH ?_;intro W4 s1 s2 s3;replace K2:=qA s1;replace KB:=qA (s2 w.heap.size w (Nat.le_refl _) KB.out);clear K4 s1 s2 s3))
  refine bodyPost_ret (jy (p:=2) (u:=3) (ty:=26) rfl _ _ w.heap.size 26 (jA.pv b) (0,0) _ rfl K2.out Tryz.underlying26 rfl (by rw[jA.infoH,jA.pv_size,hbl])) rfl ?_;exact⟨by rw[<- hb0];rfl,hzl,KB.out⟩
 ·rw[if_neg hdash] at e1
  have H2:=qA e1
  have hdf:(s.toList==[45])=false:=by simpa using hdash
  clear e1 hdash;go_upto_region 5 with(fail);clear hdf;have i1:=World.iter_heap W s 0;rw[Z2.out] at i1;have i2:(W.iter s 0).heap[w.heap.size]?=some (.cells (jA.pv zl) 26 (0,0)):=jI K2.out _;have i4:(W.iter s 0).heap[w.heap.size+1]?=some (.cells (jA.pv zl) 26 (0,0)):=jI K4.out _;have i5:Below w.heap.size w (W.iter s 0):=ji KB.out _;have zz:=Z2.out;go_wp2;clear zz;generalize W.iter s 0=W2 at *;clear K2 K4 KB Z2;have KI:=qA i1;have K2:=qA i2;have K4:=qA i4;have KB:=qA i5;clear i1 i2 i4 i5
  go_loopg [5,6] (s.size+2) (λgf s5 s6 wx=>∃(k pos:Nat) (n dg:Int) (b:List Int),s5=.int .i64 n/\s6=.int .i64 dg/\0<=dg/\dg<=2/\0<=n/\n<=99/\(dg<=1->n<=9)/\(b.length=16/\(dg=0->n=0)/\(0<dg->1<=n))/\s.size<=pos+k/\Aside0 (js.go s k pos n dg b=some (B,ok))/\Aside0 (wx.heap[w.heap.size+1+1]?=some (.stringIter s pos))/\Aside0 (wx.heap[w.heap.size]?=some (.cells (jA.pv zl) 26 (0,0)))/\Aside0 (wx.heap[w.heap.size+1]?=some (.cells (jA.pv b) 26 (0,0)))/\Aside0 (Below w.heap.size w wx)/\k+2<=gf)
  case atStart=>exact⟨s.size,0,0,0,zl,rfl,rfl,by omega,by omega,by omega,by omega,by omega,⟨hzl,by omega,by omega⟩,by omega,H2,KI,K2,K4,KB,by omega⟩
  case round=>
   clear KI K2 K4 KB H2;obtain⟨k,pos,n,dg,b,rfl,rfl,hd0,hd2,hn0,hn9,hdn,⟨hbl,hdn0,hdn1⟩,hsz,HR,KI,K2,K4,KB,hgf⟩:=hrel
   by_cases hp:pos<s.size
   ·obtain⟨k,rfl⟩:∃k',k=k'+1:=⟨k-1,by omega⟩
    have e:=HR.out;unfold js.go at e;rw[if_pos hp] at e;have hnx:∀ty,(Instr.next (.pointer (some ⟨w.heap.size+1+1,0,none⟩)) true ty).run Tryz.prog wr=_:=λty=>Lib.run_next_any_at wr (w.heap.size+1+1) s pos ty KI.out hp;have j1:=Lib.iterAt_heap wr (w.heap.size+1+1) s pos (pos+(Utf8.decode s pos).2) KI.out;have j2:=(Lib.iterAt_other wr (w.heap.size+1+1) w.heap.size s (pos+(Utf8.decode s pos).2) (by omega)).trans K2.out;have j4:=(Lib.iterAt_other wr (w.heap.size+1+1) (w.heap.size+1) s (pos+(Utf8.decode s pos).2) (by omega)).trans K4.out;have j5:=Lib.below_iterAt KB.out (show w.heap.size<=w.heap.size+1+1 by omega) s (pos+(Utf8.decode s pos).2);have hd1:=dec_pos s pos hp;have hd3:=decode_le s pos
    obtain⟨np,hnp⟩:∃np,np=pos+(Utf8.decode s pos).2:=⟨_,rfl⟩
    obtain⟨x,hx⟩:∃x:Int,x=((Utf8.decode s pos).1:Int):=⟨_,rfl⟩
    rw[<- hnp,<- hx] at e;rw[<- hnp] at hnx j1 j2 j4 j5
    have hx0:0<=x:=by omega
    have hxm:x<=2147483647:=by omega
    have hsz2:s.size<=np+k:=by omega
    try dsimp only at hnx
    rw[<- hx] at hnx
    obtain⟨W3,hW3⟩:∃W3,wr.iterAt (w.heap.size+1+1) s np=W3:=⟨_,rfl⟩
    rw[hW3] at hnx j1 j2 j4 j5;have HE:=qA e;clear KI K2 K4 KB HR hd1 hd3 hnp hx hW3 e;have KI:=qA j1;have K2:=qA j2;have K4:=qA j4;have KB:=qA j5;clear j1 j2 j4 j5
    obtain⟨g2,rfl⟩:∃g2,gk=g2+1:=⟨gk-1,by omega⟩
    by_cases hdg:48<=x/\x<=57
    ·have ea:=HE.out
     rw[if_pos hdg] at ea;clear HE;have t48:decide (48<=x)=true:=decide_eq_true (by omega);have t48':(48<=x)=True:=eq_true (by omega);have t57:decide (x<=57)=true:=decide_eq_true (by omega);have t57':(x<=57)=True:=eq_true (by omega)
     obtain⟨y,hy⟩:∃y,y=10*n+(x-48):=⟨_,rfl⟩
     rw[<- hy] at ea;have HE:=qA ea;clear ea;have ew1:IntKind.i32.wrap (x-48)=x-48:=IntWalk.i32_in _ (by omega)
     have ew1b:wrap32 (x-48)=x-48:=by unfold wrap32;omega
     have ew2:IntKind.i64.wrap (x-48)=x-48:=IntWalk.i64_in _ (by omega)
     have ew2b:wrap64 (x-48)=x-48:=by unfold wrap64;omega
     have ew4:IntKind.i64.wrap (10*n)=10*n:=IntWalk.i64_in _ (by omega)
     have ew4b:wrap64 (10*n)=10*n:=by unfold wrap64;omega
     have ew3:IntKind.i64.wrap (10*n+(x-48))=y:=(IntWalk.i64_in _ (by omega)).trans (by omega)
     have ew3b:wrap64 (10*n+(x-48))=y:=by unfold wrap64;omega
     have hy0:0<=y:=by omega
     have hy1:dg<=1->y<=99:=by omega
     have hy2:dg=0->y<=9:=by omega
     have ewd:IntKind.i64.wrap (dg+1)=dg+1:=IntWalk.i64_in _ (by omega);clear hy
     by_cases hd2b:dg=2
     ·have td2:(dg==2)=true:=beq_iff_eq.2 (by omega)
      have e:=HE.out;rw[if_pos (.inl hd2b)] at e;have er:=Option.some.inj e;simp only[Prod.mk.injEq] at er;obtain⟨rfl,rfl⟩:=er;clear e HE
      go_wp2_with (first|((with_reducible refine jG (N:=37) rfl ?_);refine jA.load rfl 26 (.tmp 4) rfl rfl K4.out Tryz.underlying26 rfl jA.infoH (by omega) ?_;rw[show(b.drop 0).take 16=b by rw[List.drop_zero,List.take_of_length_le (by omega)]])|((with_reducible refine jW (t:=26) (p:=2) (v:=.tmp 37) rfl ?_);refine jA.store rfl 26 (.tmp 2) (.tmp 37) rfl rfl rfl K2.out (by rw[jA.pv_size];exact hzl) hbl jA.infoH ?_;intro W4 s1 s2 s3;replace K2:=qA s1;replace KB:=qA (s2 w.heap.size w (Nat.le_refl _) KB.out);clear K4 s1 s2 s3))
      refine bodyPost_ret (jy (p:=2) (u:=3) (ty:=26) rfl _ _ w.heap.size 26 (jA.pv b) (0,0) _ rfl K2.out Tryz.underlying26 rfl (by rw[jA.infoH,jA.pv_size,hbl])) rfl ?_
      first|exact⟨rfl,hbl,KB.out⟩|exact⟨rfl,KB.out⟩
     ·have td2:(dg==2)=false:=beq_eq_false_iff_ne.2 (by omega)
      by_cases hy00:y=0
      ·have ty0:(y==0)=true:=beq_iff_eq.2 (by omega)
       have e:=HE.out;rw[if_pos (.inr hy00)] at e;have er:=Option.some.inj e;simp only[Prod.mk.injEq] at er;obtain⟨rfl,rfl⟩:=er;clear e HE
       go_wp2_with (first|((with_reducible refine jG (N:=37) rfl ?_);refine jA.load rfl 26 (.tmp 4) rfl rfl K4.out Tryz.underlying26 rfl jA.infoH (by omega) ?_;rw[show(b.drop 0).take 16=b by rw[List.drop_zero,List.take_of_length_le (by omega)]])|((with_reducible refine jW (t:=26) (p:=2) (v:=.tmp 37) rfl ?_);refine jA.store rfl 26 (.tmp 2) (.tmp 37) rfl rfl rfl K2.out (by rw[jA.pv_size];exact hzl) hbl jA.infoH ?_;intro W4 s1 s2 s3;replace K2:=qA s1;replace KB:=qA (s2 w.heap.size w (Nat.le_refl _) KB.out);clear K4 s1 s2 s3))
       refine bodyPost_ret (jy (p:=2) (u:=3) (ty:=26) rfl _ _ w.heap.size 26 (jA.pv b) (0,0) _ rfl K2.out Tryz.underlying26 rfl (by rw[jA.infoH,jA.pv_size,hbl])) rfl ?_
       first|exact⟨rfl,hbl,KB.out⟩|exact⟨rfl,KB.out⟩
      ·have ty0:(y==0)=false:=beq_eq_false_iff_ne.2 (by omega)
       have e:=HE.out;rw[if_neg (by omega)] at e;have HE2:=qA e;clear e HE;go_wp2
       go_roundg g2
       case measure=>omega
       case rel=>exact⟨k,np,y,dg+1,b,rfl,rfl,by omega,by omega,by omega,by omega,by omega,⟨hbl,by omega,by omega⟩,hsz2,HE2,KI,K2,K4,KB,by omega⟩
    ·by_cases h48:48<=x
     ·have t48:decide (48<=x)=true:=decide_eq_true (by omega)
      have t48':(48<=x)=True:=eq_true (by omega);have t57:decide (x<=57)=false:=decide_eq_false (by omega);have t57':(x<=57)=False:=eq_false (by omega);have e3:=HE.out;rw[if_neg hdg] at e3;obtain⟨p,hpp,e4⟩:=Option.bind_eq_some_iff.mp e3;obtain⟨kd,hpk,e5⟩:=Option.bind_eq_some_iff.mp e4;have HPP:=qA hpp;have HPK:=qA hpk;clear HE;have HE:=qA e5;clear e3 e4 e5 hpp hpk
      by_cases hk0:kd=0
      ·have tk0:(kd==0)=true:=beq_iff_eq.2 (by omega)
       have e:=HE.out;rw[if_pos (.inl hk0)] at e;have er:=Option.some.inj e;simp only[Prod.mk.injEq] at er;obtain⟨rfl,rfl⟩:=er;clear e HE
       go_wp2_with (first|(go_at_call 25;(with_reducible refine(ja.calls _ _ _ _ HPP.out).mono ?_);rintro e w7 ⟨rfl,hb⟩;replace KI:=qB KI hb;replace K2:=qB K2 hb;replace K4:=qB K4 hb;replace KB:=qS KB hb;clear hb)|(go_at_call 24;(with_reducible refine(jS.calls _ _ _ _ HPK.out).mono ?_);rintro e w7 ⟨rfl,hd⟩;have hb:=hd.below;clear hd;replace KI:=qB KI hb;replace K2:=qB K2 hb;replace K4:=qB K4 hb;replace KB:=qS KB hb;clear hb)|((with_reducible refine jG (N:=67) rfl ?_);refine jA.load rfl 26 (.tmp 4) rfl rfl K4.out Tryz.underlying26 rfl jA.infoH (by omega) ?_;rw[show(b.drop 0).take 16=b by rw[List.drop_zero,List.take_of_length_le (by omega)]])|((with_reducible refine jW (t:=26) (p:=2) (v:=.tmp 67) rfl ?_);refine jA.store rfl 26 (.tmp 2) (.tmp 67) rfl rfl rfl K2.out (by rw[jA.pv_size];exact hzl) hbl jA.infoH ?_;intro W4 s1 s2 s3;replace K2:=qA s1;replace KB:=qA (s2 w.heap.size w (Nat.le_refl _) KB.out);clear K4 s1 s2 s3))
       refine bodyPost_ret (jy (p:=2) (u:=3) (ty:=26) rfl _ _ w.heap.size 26 (jA.pv b) (0,0) _ rfl K2.out Tryz.underlying26 rfl (by rw[jA.infoH,jA.pv_size,hbl])) rfl ?_
       first|exact⟨rfl,hbl,KB.out⟩|exact⟨rfl,KB.out⟩
      ·have tk0:(kd==0)=false:=beq_eq_false_iff_ne.2 (by omega)
       by_cases hk8:kd=8
       ·have tk8:(kd==8)=true:=beq_iff_eq.2 (by omega)
        have e:=HE.out;rw[if_pos (.inr (.inl hk8))] at e;have er:=Option.some.inj e;simp only[Prod.mk.injEq] at er;obtain⟨rfl,rfl⟩:=er;clear e HE
        go_wp2_with (first|(go_at_call 25;(with_reducible refine(ja.calls _ _ _ _ HPP.out).mono ?_);rintro e w7 ⟨rfl,hb⟩;replace KI:=qB KI hb;replace K2:=qB K2 hb;replace K4:=qB K4 hb;replace KB:=qS KB hb;clear hb)|(go_at_call 24;(with_reducible refine(jS.calls _ _ _ _ HPK.out).mono ?_);rintro e w7 ⟨rfl,hd⟩;have hb:=hd.below;clear hd;replace KI:=qB KI hb;replace K2:=qB K2 hb;replace K4:=qB K4 hb;replace KB:=qS KB hb;clear hb)|((with_reducible refine jG (N:=67) rfl ?_);refine jA.load rfl 26 (.tmp 4) rfl rfl K4.out Tryz.underlying26 rfl jA.infoH (by omega) ?_;rw[show(b.drop 0).take 16=b by rw[List.drop_zero,List.take_of_length_le (by omega)]])|((with_reducible refine jW (t:=26) (p:=2) (v:=.tmp 67) rfl ?_);refine jA.store rfl 26 (.tmp 2) (.tmp 67) rfl rfl rfl K2.out (by rw[jA.pv_size];exact hzl) hbl jA.infoH ?_;intro W4 s1 s2 s3;replace K2:=qA s1;replace KB:=qA (s2 w.heap.size w (Nat.le_refl _) KB.out);clear K4 s1 s2 s3))
        refine bodyPost_ret (jy (p:=2) (u:=3) (ty:=26) rfl _ _ w.heap.size 26 (jA.pv b) (0,0) _ rfl K2.out Tryz.underlying26 rfl (by rw[jA.infoH,jA.pv_size,hbl])) rfl ?_
        first|exact⟨rfl,hbl,KB.out⟩|exact⟨rfl,KB.out⟩
       ·have tk8:(kd==8)=false:=beq_eq_false_iff_ne.2 (by omega)
        by_cases hdp:0<dg
        ·have tdp:decide (0<dg)=true:=decide_eq_true (by omega)
         have tdp':(0<dg)=True:=eq_true (by omega)
         by_cases hn18:18<n
         ·have tn18:decide (18<n)=true:=decide_eq_true (by omega)
          have tn18':(18<n)=True:=eq_true (by omega);have e:=HE.out;rw[if_pos (.inr (.inr ⟨hdp,hn18⟩))] at e;have er:=Option.some.inj e;simp only[Prod.mk.injEq] at er;obtain⟨rfl,rfl⟩:=er;clear e HE
          go_wp2_with (first|(go_at_call 25;(with_reducible refine(ja.calls _ _ _ _ HPP.out).mono ?_);rintro e w7 ⟨rfl,hb⟩;replace KI:=qB KI hb;replace K2:=qB K2 hb;replace K4:=qB K4 hb;replace KB:=qS KB hb;clear hb)|(go_at_call 24;(with_reducible refine(jS.calls _ _ _ _ HPK.out).mono ?_);rintro e w7 ⟨rfl,hd⟩;have hb:=hd.below;clear hd;replace KI:=qB KI hb;replace K2:=qB K2 hb;replace K4:=qB K4 hb;replace KB:=qS KB hb;clear hb)|((with_reducible refine jG (N:=67) rfl ?_);refine jA.load rfl 26 (.tmp 4) rfl rfl K4.out Tryz.underlying26 rfl jA.infoH (by omega) ?_;rw[show(b.drop 0).take 16=b by rw[List.drop_zero,List.take_of_length_le (by omega)]])|((with_reducible refine jW (t:=26) (p:=2) (v:=.tmp 67) rfl ?_);refine jA.store rfl 26 (.tmp 2) (.tmp 67) rfl rfl rfl K2.out (by rw[jA.pv_size];exact hzl) hbl jA.infoH ?_;intro W4 s1 s2 s3;replace K2:=qA s1;replace KB:=qA (s2 w.heap.size w (Nat.le_refl _) KB.out);clear K4 s1 s2 s3))
          refine bodyPost_ret (jy (p:=2) (u:=3) (ty:=26) rfl _ _ w.heap.size 26 (jA.pv b) (0,0) _ rfl K2.out Tryz.underlying26 rfl (by rw[jA.infoH,jA.pv_size,hbl])) rfl ?_
          first|exact⟨rfl,hbl,KB.out⟩|exact⟨rfl,KB.out⟩
         ·have tn18:decide (18<n)=false:=decide_eq_false (by omega)
          have tn18':(18<n)=False:=eq_false (by omega);have e:=HE.out;rw[if_neg (by omega)] at e;obtain⟨sd,hps,e6⟩:=Option.bind_eq_some_iff.mp e
          by_cases hb2:0<=sd/\sd<2/\0<=kd/\kd<8
          case neg=>rw[if_neg hb2] at e6;cases e6
          rw[if_pos hb2] at e6
          obtain⟨sn,hsn⟩:∃m:Nat,sd=(m:Int):=⟨sd.toNat,by omega⟩
          obtain⟨kn,hkn⟩:∃m:Nat,kd=(m:Int):=⟨kd.toNat,by omega⟩
          subst hsn;subst hkn;rw[Int.toNat_natCast,Int.toNat_natCast] at e6;have HPS:=qA hps
          have hsn2:sn<2:=by omega
          have hkn8:kn<8:=by omega
          have bs1:(0<=(sn:Int)/\(sn:Int)<2)=True:=eq_true (by omega);have bs2:((sn:Int)<2)=True:=eq_true (by omega);have bk1:(0<=(kn:Int)/\(kn:Int)<8)=True:=eq_true (by omega);have bk2:((kn:Int)<8)=True:=eq_true (by omega)
          obtain⟨y,hy⟩:∃y,y=b.getD (sn*8+kn) 0:=⟨_,rfl⟩
          rw[<- hy] at e6;have HY:=qA hy;clear HE;have HE:=qA e6;clear e e6 hps hy hb2
          by_cases hy0:y=0
          ·have ty0:(y != 0)=false:=bne_eq_false_iff_eq.2 hy0
           have e:=HE.out;rw[if_neg (by omega)] at e
           have hmx:(if 1<n then n else 1)=n:=by split<;>omega
           rw[show max 1 n=n by omega] at e;have ewz:IntKind.i8.wrap n=n:=IntWalk.i8_in _ (by omega);have HE2:=qA e;clear e HE hy0;go_upto_region 18 with(first|(go_at_call 25;(with_reducible refine(ja.calls _ _ _ _ HPP.out).mono ?_);rintro e w7 ⟨rfl,hb⟩;replace KI:=qB KI hb;replace K2:=qB K2 hb;replace K4:=qB K4 hb;replace KB:=qS KB hb;clear hb)|(go_at_call 24;(with_reducible refine(jS.calls _ _ _ _ HPK.out).mono ?_);rintro e w7 ⟨rfl,hd⟩;have hb:=hd.below;clear hd;replace KI:=qB KI hb;replace K2:=qB K2 hb;replace K4:=qB K4 hb;replace KB:=qS KB hb;clear hb)|(go_at_call 48;(with_reducible refine(jv.calls _ _ _ _ HPS.out).mono ?_);rintro e w7 ⟨rfl,hd⟩;have hb:=hd.below;clear hd;replace KI:=qB KI hb;replace K2:=qB K2 hb;replace K4:=qB K4 hb;replace KB:=qS KB hb;clear hb;have d4:w7.cell? ⟨w.heap.size+1,sn*8+kn,none⟩=some (.int .i8 y):=(jB K4.out _).trans ((jA.pv_get b _ (by omega)).trans (by rw[HY.out]));have f4:=jH K4.out (sn*8+kn)));have B4:=(zQ K4.out (sn*8+kn) (.int .i8 n)).trans (by rw[jA.pv_set]);have hc:=Ch.set_of K4.out (sn*8+kn) (.int .i8 n)
           have BI:=hc.blk (show w.heap.size+1+1≠w.heap.size+1 by omega) KI.out;have B2:=hc.blk (show w.heap.size≠w.heap.size+1 by omega) K2.out;have BB:=hc.2.1 _ _ (show w.heap.size<=w.heap.size+1 by omega) KB.out;generalize World.setCell _ ⟨w.heap.size+1,sn*8+kn,none⟩ (.int .i8 n)=W6 at *;clear KI K2 K4 KB hc d4 f4;have KI:=qA BI;have K2:=qA B2;have K4:=qA B4;have KB:=qA BB;clear BI B2 B4 BB;go_wp2
           go_roundg g2
           case measure=>omega
           case rel=>exact⟨k,np,0,0,b.set (sn*8+kn) n,rfl,rfl,by omega,by omega,by omega,by omega,by omega,⟨by rw[List.length_set];exact hbl,by omega,by omega⟩,hsz2,HE2,KI,K2,K4,KB,by omega⟩
          ·have ty0:(y != 0)=true:=bne_iff_ne.2 hy0
           have e:=HE.out;rw[if_pos hy0] at e;have er:=Option.some.inj e;simp only[Prod.mk.injEq] at er;obtain⟨rfl,rfl⟩:=er;clear e HE
           go_wp2_with (first|(go_at_call 25;(with_reducible refine(ja.calls _ _ _ _ HPP.out).mono ?_);rintro e w7 ⟨rfl,hb⟩;replace KI:=qB KI hb;replace K2:=qB K2 hb;replace K4:=qB K4 hb;replace KB:=qS KB hb;clear hb)|(go_at_call 24;(with_reducible refine(jS.calls _ _ _ _ HPK.out).mono ?_);rintro e w7 ⟨rfl,hd⟩;have hb:=hd.below;clear hd;replace KI:=qB KI hb;replace K2:=qB K2 hb;replace K4:=qB K4 hb;replace KB:=qS KB hb;clear hb)|(go_at_call 48;(with_reducible refine(jv.calls _ _ _ _ HPS.out).mono ?_);rintro e w7 ⟨rfl,hd⟩;have hb:=hd.below;clear hd;replace KI:=qB KI hb;replace K2:=qB K2 hb;replace K4:=qB K4 hb;replace KB:=qS KB hb;clear hb;have d4:w7.cell? ⟨w.heap.size+1,sn*8+kn,none⟩=some (.int .i8 y):=(jB K4.out _).trans ((jA.pv_get b _ (by omega)).trans (by rw[HY.out]));have f4:=jH K4.out (sn*8+kn))|((with_reducible refine jG (N:=67) rfl ?_);refine jA.load rfl 26 (.tmp 4) rfl rfl K4.out Tryz.underlying26 rfl jA.infoH (by omega) ?_;rw[show(b.drop 0).take 16=b by rw[List.drop_zero,List.take_of_length_le (by omega)]])|((with_reducible refine jW (t:=26) (p:=2) (v:=.tmp 67) rfl ?_);refine jA.store rfl 26 (.tmp 2) (.tmp 67) rfl rfl rfl K2.out (by rw[jA.pv_size];exact hzl) hbl jA.infoH ?_;intro W4 s1 s2 s3;replace K2:=qA s1;replace KB:=qA (s2 w.heap.size w (Nat.le_refl _) KB.out);clear K4 s1 s2 s3))
           refine bodyPost_ret (jy (p:=2) (u:=3) (ty:=26) rfl _ _ w.heap.size 26 (jA.pv b) (0,0) _ rfl K2.out Tryz.underlying26 rfl (by rw[jA.infoH,jA.pv_size,hbl])) rfl ?_
           first|exact⟨rfl,hbl,KB.out⟩|exact⟨rfl,KB.out⟩
        ·have tdp:decide (0<dg)=false:=decide_eq_false (by omega)
         have tdp':(0<dg)=False:=eq_false (by omega)
         have hn00:n=0:=by omega
         subst hn00;have e:=HE.out;rw[if_neg (by omega)] at e;obtain⟨sd,hps,e6⟩:=Option.bind_eq_some_iff.mp e
         by_cases hb2:0<=sd/\sd<2/\0<=kd/\kd<8
         case neg=>rw[if_neg hb2] at e6;cases e6
         rw[if_pos hb2] at e6
         obtain⟨sn,hsn⟩:∃m:Nat,sd=(m:Int):=⟨sd.toNat,by omega⟩
         obtain⟨kn,hkn⟩:∃m:Nat,kd=(m:Int):=⟨kd.toNat,by omega⟩
         subst hsn;subst hkn;rw[Int.toNat_natCast,Int.toNat_natCast] at e6;have HPS:=qA hps
         have hsn2:sn<2:=by omega
         have hkn8:kn<8:=by omega
         have bs1:(0<=(sn:Int)/\(sn:Int)<2)=True:=eq_true (by omega);have bs2:((sn:Int)<2)=True:=eq_true (by omega);have bk1:(0<=(kn:Int)/\(kn:Int)<8)=True:=eq_true (by omega);have bk2:((kn:Int)<8)=True:=eq_true (by omega)
         obtain⟨y,hy⟩:∃y,y=b.getD (sn*8+kn) 0:=⟨_,rfl⟩
         rw[<- hy] at e6;have HY:=qA hy;clear HE;have HE:=qA e6;clear e e6 hps hy hb2
         by_cases hy0:y=0
         ·have ty0:(y != 0)=false:=bne_eq_false_iff_eq.2 hy0
          have e:=HE.out;rw[if_neg (by omega)] at e;rw[show max 1 (0:Int)=1 by decide] at e;have HE2:=qA e;clear e HE hy0;go_upto_region 18 with(first|(go_at_call 25;(with_reducible refine(ja.calls _ _ _ _ HPP.out).mono ?_);rintro e w7 ⟨rfl,hb⟩;replace KI:=qB KI hb;replace K2:=qB K2 hb;replace K4:=qB K4 hb;replace KB:=qS KB hb;clear hb)|(go_at_call 24;(with_reducible refine(jS.calls _ _ _ _ HPK.out).mono ?_);rintro e w7 ⟨rfl,hd⟩;have hb:=hd.below;clear hd;replace KI:=qB KI hb;replace K2:=qB K2 hb;replace K4:=qB K4 hb;replace KB:=qS KB hb;clear hb)|(go_at_call 48;(with_reducible refine(jv.calls _ _ _ _ HPS.out).mono ?_);rintro e w7 ⟨rfl,hd⟩;have hb:=hd.below;clear hd;replace KI:=qB KI hb;replace K2:=qB K2 hb;replace K4:=qB K4 hb;replace KB:=qS KB hb;clear hb;have d4:w7.cell? ⟨w.heap.size+1,sn*8+kn,none⟩=some (.int .i8 y):=(jB K4.out _).trans ((jA.pv_get b _ (by omega)).trans (by rw[HY.out]));have f4:=jH K4.out (sn*8+kn)));have B4:=(zQ K4.out (sn*8+kn) (.int .i8 1)).trans (by rw[jA.pv_set]);have hc:=Ch.set_of K4.out (sn*8+kn) (.int .i8 1)
          have BI:=hc.blk (show w.heap.size+1+1≠w.heap.size+1 by omega) KI.out;have B2:=hc.blk (show w.heap.size≠w.heap.size+1 by omega) K2.out;have BB:=hc.2.1 _ _ (show w.heap.size<=w.heap.size+1 by omega) KB.out;generalize World.setCell _ ⟨w.heap.size+1,sn*8+kn,none⟩ (.int .i8 1)=W6 at *;clear KI K2 K4 KB hc d4 f4;have KI:=qA BI;have K2:=qA B2;have K4:=qA B4;have KB:=qA BB;clear BI B2 B4 BB;go_wp2
          go_roundg g2
          case measure=>omega
          case rel=>exact⟨k,np,0,0,b.set (sn*8+kn) 1,rfl,rfl,by omega,by omega,by omega,by omega,by omega,⟨by rw[List.length_set];exact hbl,by omega,by omega⟩,hsz2,HE2,KI,K2,K4,KB,by omega⟩
         ·have ty0:(y != 0)=true:=bne_iff_ne.2 hy0
          have e:=HE.out;rw[if_pos hy0] at e;have er:=Option.some.inj e;simp only[Prod.mk.injEq] at er;obtain⟨rfl,rfl⟩:=er;clear e HE
          go_wp2_with (first|(go_at_call 25;(with_reducible refine(ja.calls _ _ _ _ HPP.out).mono ?_);rintro e w7 ⟨rfl,hb⟩;replace KI:=qB KI hb;replace K2:=qB K2 hb;replace K4:=qB K4 hb;replace KB:=qS KB hb;clear hb)|(go_at_call 24;(with_reducible refine(jS.calls _ _ _ _ HPK.out).mono ?_);rintro e w7 ⟨rfl,hd⟩;have hb:=hd.below;clear hd;replace KI:=qB KI hb;replace K2:=qB K2 hb;replace K4:=qB K4 hb;replace KB:=qS KB hb;clear hb)|(go_at_call 48;(with_reducible refine(jv.calls _ _ _ _ HPS.out).mono ?_);rintro e w7 ⟨rfl,hd⟩;have hb:=hd.below;clear hd;replace KI:=qB KI hb;replace K2:=qB K2 hb;replace K4:=qB K4 hb;replace KB:=qS KB hb;clear hb;have d4:w7.cell? ⟨w.heap.size+1,sn*8+kn,none⟩=some (.int .i8 y):=(jB K4.out _).trans ((jA.pv_get b _ (by omega)).trans (by rw[HY.out]));have f4:=jH K4.out (sn*8+kn))|((with_reducible refine jG (N:=67) rfl ?_);refine jA.load rfl 26 (.tmp 4) rfl rfl K4.out Tryz.underlying26 rfl jA.infoH (by omega) ?_;rw[show(b.drop 0).take 16=b by rw[List.drop_zero,List.take_of_length_le (by omega)]])|((with_reducible refine jW (t:=26) (p:=2) (v:=.tmp 67) rfl ?_);refine jA.store rfl 26 (.tmp 2) (.tmp 67) rfl rfl rfl K2.out (by rw[jA.pv_size];exact hzl) hbl jA.infoH ?_;intro W4 s1 s2 s3;replace K2:=qA s1;replace KB:=qA (s2 w.heap.size w (Nat.le_refl _) KB.out);clear K4 s1 s2 s3))
          refine bodyPost_ret (jy (p:=2) (u:=3) (ty:=26) rfl _ _ w.heap.size 26 (jA.pv b) (0,0) _ rfl K2.out Tryz.underlying26 rfl (by rw[jA.infoH,jA.pv_size,hbl])) rfl ?_
          first|exact⟨rfl,hbl,KB.out⟩|exact⟨rfl,KB.out⟩
     ·have t48:decide (48<=x)=false:=decide_eq_false (by omega)
      have t48':(48<=x)=False:=eq_false (by omega);have e3:=HE.out;rw[if_neg hdg] at e3;obtain⟨p,hpp,e4⟩:=Option.bind_eq_some_iff.mp e3;obtain⟨kd,hpk,e5⟩:=Option.bind_eq_some_iff.mp e4;have HPP:=qA hpp;have HPK:=qA hpk;clear HE;have HE:=qA e5;clear e3 e4 e5 hpp hpk
      by_cases hk0:kd=0
      ·have tk0:(kd==0)=true:=beq_iff_eq.2 (by omega)
       have e:=HE.out;rw[if_pos (.inl hk0)] at e;have er:=Option.some.inj e;simp only[Prod.mk.injEq] at er;obtain⟨rfl,rfl⟩:=er;clear e HE
       go_wp2_with (first|(go_at_call 25;(with_reducible refine(ja.calls _ _ _ _ HPP.out).mono ?_);rintro e w7 ⟨rfl,hb⟩;replace KI:=qB KI hb;replace K2:=qB K2 hb;replace K4:=qB K4 hb;replace KB:=qS KB hb;clear hb)|(go_at_call 24;(with_reducible refine(jS.calls _ _ _ _ HPK.out).mono ?_);rintro e w7 ⟨rfl,hd⟩;have hb:=hd.below;clear hd;replace KI:=qB KI hb;replace K2:=qB K2 hb;replace K4:=qB K4 hb;replace KB:=qS KB hb;clear hb)|((with_reducible refine jG (N:=67) rfl ?_);refine jA.load rfl 26 (.tmp 4) rfl rfl K4.out Tryz.underlying26 rfl jA.infoH (by omega) ?_;rw[show(b.drop 0).take 16=b by rw[List.drop_zero,List.take_of_length_le (by omega)]])|((with_reducible refine jW (t:=26) (p:=2) (v:=.tmp 67) rfl ?_);refine jA.store rfl 26 (.tmp 2) (.tmp 67) rfl rfl rfl K2.out (by rw[jA.pv_size];exact hzl) hbl jA.infoH ?_;intro W4 s1 s2 s3;replace K2:=qA s1;replace KB:=qA (s2 w.heap.size w (Nat.le_refl _) KB.out);clear K4 s1 s2 s3))
       refine bodyPost_ret (jy (p:=2) (u:=3) (ty:=26) rfl _ _ w.heap.size 26 (jA.pv b) (0,0) _ rfl K2.out Tryz.underlying26 rfl (by rw[jA.infoH,jA.pv_size,hbl])) rfl ?_
       first|exact⟨rfl,hbl,KB.out⟩|exact⟨rfl,KB.out⟩
      ·have tk0:(kd==0)=false:=beq_eq_false_iff_ne.2 (by omega)
       by_cases hk8:kd=8
       ·have tk8:(kd==8)=true:=beq_iff_eq.2 (by omega)
        have e:=HE.out;rw[if_pos (.inr (.inl hk8))] at e;have er:=Option.some.inj e;simp only[Prod.mk.injEq] at er;obtain⟨rfl,rfl⟩:=er;clear e HE
        go_wp2_with (first|(go_at_call 25;(with_reducible refine(ja.calls _ _ _ _ HPP.out).mono ?_);rintro e w7 ⟨rfl,hb⟩;replace KI:=qB KI hb;replace K2:=qB K2 hb;replace K4:=qB K4 hb;replace KB:=qS KB hb;clear hb)|(go_at_call 24;(with_reducible refine(jS.calls _ _ _ _ HPK.out).mono ?_);rintro e w7 ⟨rfl,hd⟩;have hb:=hd.below;clear hd;replace KI:=qB KI hb;replace K2:=qB K2 hb;replace K4:=qB K4 hb;replace KB:=qS KB hb;clear hb)|((with_reducible refine jG (N:=67) rfl ?_);refine jA.load rfl 26 (.tmp 4) rfl rfl K4.out Tryz.underlying26 rfl jA.infoH (by omega) ?_;rw[show(b.drop 0).take 16=b by rw[List.drop_zero,List.take_of_length_le (by omega)]])|((with_reducible refine jW (t:=26) (p:=2) (v:=.tmp 67) rfl ?_);refine jA.store rfl 26 (.tmp 2) (.tmp 67) rfl rfl rfl K2.out (by rw[jA.pv_size];exact hzl) hbl jA.infoH ?_;intro W4 s1 s2 s3;replace K2:=qA s1;replace KB:=qA (s2 w.heap.size w (Nat.le_refl _) KB.out);clear K4 s1 s2 s3))
        refine bodyPost_ret (jy (p:=2) (u:=3) (ty:=26) rfl _ _ w.heap.size 26 (jA.pv b) (0,0) _ rfl K2.out Tryz.underlying26 rfl (by rw[jA.infoH,jA.pv_size,hbl])) rfl ?_
        first|exact⟨rfl,hbl,KB.out⟩|exact⟨rfl,KB.out⟩
       ·have tk8:(kd==8)=false:=beq_eq_false_iff_ne.2 (by omega)
        by_cases hdp:0<dg
        ·have tdp:decide (0<dg)=true:=decide_eq_true (by omega)
         have tdp':(0<dg)=True:=eq_true (by omega)
         by_cases hn18:18<n
         ·have tn18:decide (18<n)=true:=decide_eq_true (by omega)
          have tn18':(18<n)=True:=eq_true (by omega);have e:=HE.out;rw[if_pos (.inr (.inr ⟨hdp,hn18⟩))] at e;have er:=Option.some.inj e;simp only[Prod.mk.injEq] at er;obtain⟨rfl,rfl⟩:=er;clear e HE
          go_wp2_with (first|(go_at_call 25;(with_reducible refine(ja.calls _ _ _ _ HPP.out).mono ?_);rintro e w7 ⟨rfl,hb⟩;replace KI:=qB KI hb;replace K2:=qB K2 hb;replace K4:=qB K4 hb;replace KB:=qS KB hb;clear hb)|(go_at_call 24;(with_reducible refine(jS.calls _ _ _ _ HPK.out).mono ?_);rintro e w7 ⟨rfl,hd⟩;have hb:=hd.below;clear hd;replace KI:=qB KI hb;replace K2:=qB K2 hb;replace K4:=qB K4 hb;replace KB:=qS KB hb;clear hb)|((with_reducible refine jG (N:=67) rfl ?_);refine jA.load rfl 26 (.tmp 4) rfl rfl K4.out Tryz.underlying26 rfl jA.infoH (by omega) ?_;rw[show(b.drop 0).take 16=b by rw[List.drop_zero,List.take_of_length_le (by omega)]])|((with_reducible refine jW (t:=26) (p:=2) (v:=.tmp 67) rfl ?_);refine jA.store rfl 26 (.tmp 2) (.tmp 67) rfl rfl rfl K2.out (by rw[jA.pv_size];exact hzl) hbl jA.infoH ?_;intro W4 s1 s2 s3;replace K2:=qA s1;replace KB:=qA (s2 w.heap.size w (Nat.le_refl _) KB.out);clear K4 s1 s2 s3))
          refine bodyPost_ret (jy (p:=2) (u:=3) (ty:=26) rfl _ _ w.heap.size 26 (jA.pv b) (0,0) _ rfl K2.out Tryz.underlying26 rfl (by rw[jA.infoH,jA.pv_size,hbl])) rfl ?_
          first|exact⟨rfl,hbl,KB.out⟩|exact⟨rfl,KB.out⟩
         ·have tn18:decide (18<n)=false:=decide_eq_false (by omega)
          have tn18':(18<n)=False:=eq_false (by omega);have e:=HE.out;rw[if_neg (by omega)] at e;obtain⟨sd,hps,e6⟩:=Option.bind_eq_some_iff.mp e
          by_cases hb2:0<=sd/\sd<2/\0<=kd/\kd<8
          case neg=>rw[if_neg hb2] at e6;cases e6
          rw[if_pos hb2] at e6
          obtain⟨sn,hsn⟩:∃m:Nat,sd=(m:Int):=⟨sd.toNat,by omega⟩
          obtain⟨kn,hkn⟩:∃m:Nat,kd=(m:Int):=⟨kd.toNat,by omega⟩
          subst hsn;subst hkn;rw[Int.toNat_natCast,Int.toNat_natCast] at e6;have HPS:=qA hps
          have hsn2:sn<2:=by omega
          have hkn8:kn<8:=by omega
          have bs1:(0<=(sn:Int)/\(sn:Int)<2)=True:=eq_true (by omega);have bs2:((sn:Int)<2)=True:=eq_true (by omega);have bk1:(0<=(kn:Int)/\(kn:Int)<8)=True:=eq_true (by omega);have bk2:((kn:Int)<8)=True:=eq_true (by omega)
          obtain⟨y,hy⟩:∃y,y=b.getD (sn*8+kn) 0:=⟨_,rfl⟩
          rw[<- hy] at e6;have HY:=qA hy;clear HE;have HE:=qA e6;clear e e6 hps hy hb2
          by_cases hy0:y=0
          ·have ty0:(y != 0)=false:=bne_eq_false_iff_eq.2 hy0
           have e:=HE.out;rw[if_neg (by omega)] at e
           have hmx:(if 1<n then n else 1)=n:=by split<;>omega
           rw[show max 1 n=n by omega] at e;have ewz:IntKind.i8.wrap n=n:=IntWalk.i8_in _ (by omega);have HE2:=qA e;clear e HE hy0;go_upto_region 18 with(first|(go_at_call 25;(with_reducible refine(ja.calls _ _ _ _ HPP.out).mono ?_);rintro e w7 ⟨rfl,hb⟩;replace KI:=qB KI hb;replace K2:=qB K2 hb;replace K4:=qB K4 hb;replace KB:=qS KB hb;clear hb)|(go_at_call 24;(with_reducible refine(jS.calls _ _ _ _ HPK.out).mono ?_);rintro e w7 ⟨rfl,hd⟩;have hb:=hd.below;clear hd;replace KI:=qB KI hb;replace K2:=qB K2 hb;replace K4:=qB K4 hb;replace KB:=qS KB hb;clear hb)|(go_at_call 48;(with_reducible refine(jv.calls _ _ _ _ HPS.out).mono ?_);rintro e w7 ⟨rfl,hd⟩;have hb:=hd.below;clear hd;replace KI:=qB KI hb;replace K2:=qB K2 hb;replace K4:=qB K4 hb;replace KB:=qS KB hb;clear hb;have d4:w7.cell? ⟨w.heap.size+1,sn*8+kn,none⟩=some (.int .i8 y):=(jB K4.out _).trans ((jA.pv_get b _ (by omega)).trans (by rw[HY.out]));have f4:=jH K4.out (sn*8+kn)));have B4:=(zQ K4.out (sn*8+kn) (.int .i8 n)).trans (by rw[jA.pv_set]);have hc:=Ch.set_of K4.out (sn*8+kn) (.int .i8 n)
           have BI:=hc.blk (show w.heap.size+1+1≠w.heap.size+1 by omega) KI.out;have B2:=hc.blk (show w.heap.size≠w.heap.size+1 by omega) K2.out;have BB:=hc.2.1 _ _ (show w.heap.size<=w.heap.size+1 by omega) KB.out;generalize World.setCell _ ⟨w.heap.size+1,sn*8+kn,none⟩ (.int .i8 n)=W6 at *;clear KI K2 K4 KB hc d4 f4;have KI:=qA BI;have K2:=qA B2;have K4:=qA B4;have KB:=qA BB;clear BI B2 B4 BB;go_wp2
           go_roundg g2
           case measure=>omega
           case rel=>exact⟨k,np,0,0,b.set (sn*8+kn) n,rfl,rfl,by omega,by omega,by omega,by omega,by omega,⟨by rw[List.length_set];exact hbl,by omega,by omega⟩,hsz2,HE2,KI,K2,K4,KB,by omega⟩
          ·have ty0:(y != 0)=true:=bne_iff_ne.2 hy0
           have e:=HE.out;rw[if_pos hy0] at e;have er:=Option.some.inj e;simp only[Prod.mk.injEq] at er;obtain⟨rfl,rfl⟩:=er;clear e HE
           go_wp2_with (first|(go_at_call 25;(with_reducible refine(ja.calls _ _ _ _ HPP.out).mono ?_);rintro e w7 ⟨rfl,hb⟩;replace KI:=qB KI hb;replace K2:=qB K2 hb;replace K4:=qB K4 hb;replace KB:=qS KB hb;clear hb)|(go_at_call 24;(with_reducible refine(jS.calls _ _ _ _ HPK.out).mono ?_);rintro e w7 ⟨rfl,hd⟩;have hb:=hd.below;clear hd;replace KI:=qB KI hb;replace K2:=qB K2 hb;replace K4:=qB K4 hb;replace KB:=qS KB hb;clear hb)|(go_at_call 48;(with_reducible refine(jv.calls _ _ _ _ HPS.out).mono ?_);rintro e w7 ⟨rfl,hd⟩;have hb:=hd.below;clear hd;replace KI:=qB KI hb;replace K2:=qB K2 hb;replace K4:=qB K4 hb;replace KB:=qS KB hb;clear hb;have d4:w7.cell? ⟨w.heap.size+1,sn*8+kn,none⟩=some (.int .i8 y):=(jB K4.out _).trans ((jA.pv_get b _ (by omega)).trans (by rw[HY.out]));have f4:=jH K4.out (sn*8+kn))|((with_reducible refine jG (N:=67) rfl ?_);refine jA.load rfl 26 (.tmp 4) rfl rfl K4.out Tryz.underlying26 rfl jA.infoH (by omega) ?_;rw[show(b.drop 0).take 16=b by rw[List.drop_zero,List.take_of_length_le (by omega)]])|((with_reducible refine jW (t:=26) (p:=2) (v:=.tmp 67) rfl ?_);refine jA.store rfl 26 (.tmp 2) (.tmp 67) rfl rfl rfl K2.out (by rw[jA.pv_size];exact hzl) hbl jA.infoH ?_;intro W4 s1 s2 s3;replace K2:=qA s1;replace KB:=qA (s2 w.heap.size w (Nat.le_refl _) KB.out);clear K4 s1 s2 s3))
           refine bodyPost_ret (jy (p:=2) (u:=3) (ty:=26) rfl _ _ w.heap.size 26 (jA.pv b) (0,0) _ rfl K2.out Tryz.underlying26 rfl (by rw[jA.infoH,jA.pv_size,hbl])) rfl ?_
           first|exact⟨rfl,hbl,KB.out⟩|exact⟨rfl,KB.out⟩
        ·have tdp:decide (0<dg)=false:=decide_eq_false (by omega)
         have tdp':(0<dg)=False:=eq_false (by omega)
         have hn00:n=0:=by omega
         subst hn00;have e:=HE.out;rw[if_neg (by omega)] at e;obtain⟨sd,hps,e6⟩:=Option.bind_eq_some_iff.mp e
         by_cases hb2:0<=sd/\sd<2/\0<=kd/\kd<8
         case neg=>rw[if_neg hb2] at e6;cases e6
         rw[if_pos hb2] at e6
         obtain⟨sn,hsn⟩:∃m:Nat,sd=(m:Int):=⟨sd.toNat,by omega⟩
         obtain⟨kn,hkn⟩:∃m:Nat,kd=(m:Int):=⟨kd.toNat,by omega⟩
         subst hsn;subst hkn;rw[Int.toNat_natCast,Int.toNat_natCast] at e6;have HPS:=qA hps
         have hsn2:sn<2:=by omega
         have hkn8:kn<8:=by omega
         have bs1:(0<=(sn:Int)/\(sn:Int)<2)=True:=eq_true (by omega);have bs2:((sn:Int)<2)=True:=eq_true (by omega);have bk1:(0<=(kn:Int)/\(kn:Int)<8)=True:=eq_true (by omega);have bk2:((kn:Int)<8)=True:=eq_true (by omega)
         obtain⟨y,hy⟩:∃y,y=b.getD (sn*8+kn) 0:=⟨_,rfl⟩
         rw[<- hy] at e6;have HY:=qA hy;clear HE;have HE:=qA e6;clear e e6 hps hy hb2
         by_cases hy0:y=0
         ·have ty0:(y != 0)=false:=bne_eq_false_iff_eq.2 hy0
          have e:=HE.out;rw[if_neg (by omega)] at e;rw[show max 1 (0:Int)=1 by decide] at e;have HE2:=qA e;clear e HE hy0;go_upto_region 18 with(first|(go_at_call 25;(with_reducible refine(ja.calls _ _ _ _ HPP.out).mono ?_);rintro e w7 ⟨rfl,hb⟩;replace KI:=qB KI hb;replace K2:=qB K2 hb;replace K4:=qB K4 hb;replace KB:=qS KB hb;clear hb)|(go_at_call 24;(with_reducible refine(jS.calls _ _ _ _ HPK.out).mono ?_);rintro e w7 ⟨rfl,hd⟩;have hb:=hd.below;clear hd;replace KI:=qB KI hb;replace K2:=qB K2 hb;replace K4:=qB K4 hb;replace KB:=qS KB hb;clear hb)|(go_at_call 48;(with_reducible refine(jv.calls _ _ _ _ HPS.out).mono ?_);rintro e w7 ⟨rfl,hd⟩;have hb:=hd.below;clear hd;replace KI:=qB KI hb;replace K2:=qB K2 hb;replace K4:=qB K4 hb;replace KB:=qS KB hb;clear hb;have d4:w7.cell? ⟨w.heap.size+1,sn*8+kn,none⟩=some (.int .i8 y):=(jB K4.out _).trans ((jA.pv_get b _ (by omega)).trans (by rw[HY.out]));have f4:=jH K4.out (sn*8+kn)));have B4:=(zQ K4.out (sn*8+kn) (.int .i8 1)).trans (by rw[jA.pv_set]);have hc:=Ch.set_of K4.out (sn*8+kn) (.int .i8 1)
          have BI:=hc.blk (show w.heap.size+1+1≠w.heap.size+1 by omega) KI.out;have B2:=hc.blk (show w.heap.size≠w.heap.size+1 by omega) K2.out;have BB:=hc.2.1 _ _ (show w.heap.size<=w.heap.size+1 by omega) KB.out;generalize World.setCell _ ⟨w.heap.size+1,sn*8+kn,none⟩ (.int .i8 1)=W6 at *;clear KI K2 K4 KB hc d4 f4;have KI:=qA BI;have K2:=qA B2;have K4:=qA B4;have KB:=qA BB;clear BI B2 B4 BB;go_wp2
          go_roundg g2
          case measure=>omega
          case rel=>exact⟨k,np,0,0,b.set (sn*8+kn) 1,rfl,rfl,by omega,by omega,by omega,by omega,by omega,⟨by rw[List.length_set];exact hbl,by omega,by omega⟩,hsz2,HE2,KI,K2,K4,KB,by omega⟩
         ·have ty0:(y != 0)=true:=bne_iff_ne.2 hy0
          have e:=HE.out;rw[if_pos hy0] at e;have er:=Option.some.inj e;simp only[Prod.mk.injEq] at er;obtain⟨rfl,rfl⟩:=er;clear e HE
          go_wp2_with (first|(go_at_call 25;(with_reducible refine(ja.calls _ _ _ _ HPP.out).mono ?_);rintro e w7 ⟨rfl,hb⟩;replace KI:=qB KI hb;replace K2:=qB K2 hb;replace K4:=qB K4 hb;replace KB:=qS KB hb;clear hb)|(go_at_call 24;(with_reducible refine(jS.calls _ _ _ _ HPK.out).mono ?_);rintro e w7 ⟨rfl,hd⟩;have hb:=hd.below;clear hd;replace KI:=qB KI hb;replace K2:=qB K2 hb;replace K4:=qB K4 hb;replace KB:=qS KB hb;clear hb)|(go_at_call 48;(with_reducible refine(jv.calls _ _ _ _ HPS.out).mono ?_);rintro e w7 ⟨rfl,hd⟩;have hb:=hd.below;clear hd;replace KI:=qB KI hb;replace K2:=qB K2 hb;replace K4:=qB K4 hb;replace KB:=qS KB hb;clear hb;have d4:w7.cell? ⟨w.heap.size+1,sn*8+kn,none⟩=some (.int .i8 y):=(jB K4.out _).trans ((jA.pv_get b _ (by omega)).trans (by rw[HY.out]));have f4:=jH K4.out (sn*8+kn))|((with_reducible refine jG (N:=67) rfl ?_);refine jA.load rfl 26 (.tmp 4) rfl rfl K4.out Tryz.underlying26 rfl jA.infoH (by omega) ?_;rw[show(b.drop 0).take 16=b by rw[List.drop_zero,List.take_of_length_le (by omega)]])|((with_reducible refine jW (t:=26) (p:=2) (v:=.tmp 67) rfl ?_);refine jA.store rfl 26 (.tmp 2) (.tmp 67) rfl rfl rfl K2.out (by rw[jA.pv_size];exact hzl) hbl jA.infoH ?_;intro W4 s1 s2 s3;replace K2:=qA s1;replace KB:=qA (s2 w.heap.size w (Nat.le_refl _) KB.out);clear K4 s1 s2 s3))
          refine bodyPost_ret (jy (p:=2) (u:=3) (ty:=26) rfl _ _ w.heap.size 26 (jA.pv b) (0,0) _ rfl K2.out Tryz.underlying26 rfl (by rw[jA.infoH,jA.pv_size,hbl])) rfl ?_
          first|exact⟨rfl,hbl,KB.out⟩|exact⟨rfl,KB.out⟩
   ·have e:some (b,(dg==0) && !(s.toList==[]))=some (B,ok):=by
     have e:=HR.out
     cases k
     ·unfold js.go at e
      rw[if_neg hp] at e;exact e
     ·unfold js.go at e
      rw[if_neg hp] at e;exact e
    have e2:=Option.some.inj e;simp only[Prod.mk.injEq] at e2;obtain⟨rfl,hok⟩:=e2;have hnx:∀ty,(Instr.next (.pointer (some ⟨w.heap.size+1+1,0,none⟩)) true ty).run Tryz.prog wr=_:=λty=>Lib.run_next_end_at wr (w.heap.size+1+1) s pos ty KI.out hp;clear HR e
    have tA:∃c,c=(dg==0):=⟨_,rfl⟩
    obtain⟨cA,hA⟩:=tA
    have tB:∃c,c=(s.toList==[]):=⟨_,rfl⟩
    obtain⟨cB,hB⟩:=tB;rw[<- hA,<- hB] at hok;have tA':=hA.symm;have tB':=hB.symm
    have tC':(s.toList != [])=!cB:=by rw[hB];rfl
    clear hA hB
    cases cA<;>cases cB<;>simp only[Bool.false_and,Bool.true_and,Bool.not_true,Bool.not_false] at hok tC'<;>subst hok
    all_goals (
     go_wp2_with (first|((with_reducible refine jG (N:=76) rfl ?_);refine jA.load rfl 26 (.tmp 4) rfl rfl K4.out Tryz.underlying26 rfl jA.infoH (by omega) ?_;rw[show(b.drop 0).take 16=b by rw[List.drop_zero,List.take_of_length_le (by omega)]])|((with_reducible refine jW (t:=26) (p:=2) (v:=.tmp 76) rfl ?_);refine jA.store rfl 26 (.tmp 2) (.tmp 76) rfl rfl rfl K2.out (by rw[jA.pv_size];exact hzl) hbl jA.infoH ?_;intro W4 s1 s2 s3;replace K2:=qA s1;replace KB:=qA (s2 w.heap.size w (Nat.le_refl _) KB.out);clear K4 s1 s2 s3))
     refine bodyPost_ret (jy (p:=2) (u:=3) (ty:=26) rfl _ _ w.heap.size 26 (jA.pv b) (0,0) _ rfl K2.out Tryz.underlying26 rfl (by rw[jA.infoH,jA.pv_size,hbl])) rfl ?_
     first|exact⟨rfl,hbl,KB.out⟩|exact⟨rfl,KB.out⟩)
end Go.Proofs.YtigenhbmgpfffaaGreatDoor.Pa
