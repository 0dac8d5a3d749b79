import Derived.Test.YtigenhbmgpfffaaGreatDoorB28
set_option maxRecDepth 100000
set_option maxHeartbeats 16000000
namespace Go.Proofs.YtigenhbmgpfffaaGreatDoor.Pa
open Go.RowKit Go.Proofs.YtigenhbmgpfffaaGreatDoorW.PrintWords Go.Proofs.YtigenhbmgpfffaaGreatDoorW.PrintLast Go.Proofs.YtigenhbmgpfffaaGreatDoorW.PrintMore
attribute [local go_sem] yE yC yM yL zo zn yD yB
set_option linter.unusedVariables false
set_option linter.unusedSimpArgs false
theorem dec_pos (s:ByteArray) (i:Nat) (h:i<s.size):1<=(Utf8.decode s i).2:=by
 by_cases ha:(s[i]'h).toNat<128
 ·rw[decode_ascii s i h ha]
  exact Nat.le_refl _
 ·exact(decode_high s i h (by omega)).2
def jl.z81:List Int:=List.replicate 81 0
def jl.done (file rank:Int) (plus:Bool) (b:List Int):List Int×Bool:=(b,(file == -1)&&((rank==8) && !plus))
def jl.go (s:ByteArray):Nat->Nat->Int->Int->Bool->Int->List Int->Option (List Int×Bool)
 | 0,pos,file,rank,plus,last,b=>if pos<s.size then none else some (jl.done file rank plus b)
 | k+1,pos,file,rank,plus,last,b=>if pos<s.size then
   (if((Utf8.decode s pos).1:Int)=47 then(if file≠-1\/plus=true\/rank=8 then some (b,false) else jl.go s k (pos+(Utf8.decode s pos).2) 8 (rank+1) plus ((Utf8.decode s pos).1:Int) b)
   else if 49<=((Utf8.decode s pos).1:Int)/\((Utf8.decode s pos).1:Int)<=57 then(if plus=true\/file-(((Utf8.decode s pos).1:Int)-48) < -1\/(49<=last/\last<=57) then some (b,false) else jl.go s k (pos+(Utf8.decode s pos).2) (file-(((Utf8.decode s pos).1:Int)-48)) rank plus ((Utf8.decode s pos).1:Int) b)
   else if((Utf8.decode s pos).1:Int)=43 then(if plus=true then some (b,false) else jl.go s k (pos+(Utf8.decode s pos).2) file rank true ((Utf8.decode s pos).1:Int) b)
   else(ja.f ((Utf8.decode s pos).1:Int) plus).bind λp=>if p=0\/file<0 then some (b,false) else jl.go s k (pos+(Utf8.decode s pos).2) (file-1) rank false ((Utf8.decode s pos).1:Int) (b.set (9*file+rank).toNat p))
  else some (jl.done file rank plus b)
def jl.f (s:ByteArray):Option (List Int×Bool):=jl.go s s.size 0 8 0 false 32 jl.z81
theorem jl.sq_is (k r:Nat) (hk:k<9) (hr:r<9):zM.f (k:Int) (r:Int)=some ((9*k+r:Nat):Int):=by
 have h:∀k r:Fin 9,zM.f (k.1:Int) (r.1:Int)=some ((9*k.1+r.1:Nat):Int):=by decide +kernel
 exact h ⟨k,hk⟩ ⟨r,hr⟩
theorem jl.ranks_calls (s:ByteArray) (B:List Int) (ok:Bool) (w:World) (h:jl.f s=some (B,ok)):
  Calls Tryz.prog 33 #[.string s] w λe w'=>e=.returned (.tuple #[.agg (jA.pv B),.bool ok])/\B.length=81/\Below w.heap.size w w':=by
 have H1:=qA h;have hz:=jAO (t:=24) (c:=jA.pv jl.z81) (by kernel_rfl)
 have z1:(w.alloc (Obj.cells (jA.pv jl.z81) 24)).heap.size=w.heap.size+1:=by simp [go_sem]
 have z2:((w.alloc (Obj.cells (jA.pv jl.z81) 24)).alloc (Obj.cells (jA.pv jl.z81) 24)).heap.size=w.heap.size+1+1:=by simp [go_sem]
 have i1:=World.iter_heap ((w.alloc (Obj.cells (jA.pv jl.z81) 24)).alloc (Obj.cells (jA.pv jl.z81) 24)) s 0;rw[z2] at i1;have i2:(((w.alloc (Obj.cells (jA.pv jl.z81) 24)).alloc (Obj.cells (jA.pv jl.z81) 24)).iter s 0).heap[w.heap.size]?=some (.cells (jA.pv jl.z81) 24 (0,0)):=jI (jI (zJ w _) _) _
 have i4:(((w.alloc (Obj.cells (jA.pv jl.z81) 24)).alloc (Obj.cells (jA.pv jl.z81) 24)).iter s 0).heap[w.heap.size+1]?=some (.cells (jA.pv jl.z81) 24 (0,0)):=by
  have e:=zJ (w.alloc (Obj.cells (jA.pv jl.z81) 24)) (Obj.cells (jA.pv jl.z81) 24);rw[z1] at e;exact jI e _
 have i5:Below w.heap.size w (((w.alloc (Obj.cells (jA.pv jl.z81) 24)).alloc (Obj.cells (jA.pv jl.z81) 24)).iter s 0):=ji (ji (ji (Below.refl _ _) _) _) _;have KI:=qA i1;have K2:=qA i2;have K4:=qA i4;have KB:=qA i5;clear h i1 i2 i4 i5 z1 z2;go_enter Tryz.func33,Tryz.ntmps33;go_wp2;generalize ((w.alloc (Obj.cells (jA.pv jl.z81) 24)).alloc (Obj.cells (jA.pv jl.z81) 24)).iter s 0=W at *
 have HZL:Aside0 (jl.z81.length=81):=⟨by decide⟩
 have e1:=H1.out;unfold jl.f at e1;have H2:=qA e1;clear H1 e1 hz;generalize jl.z81=zl at *;have hzl:=HZL.out
 go_loopg [5,6,7,8] (s.size+2) (λgf s5 s6 s7 s8 wx=>∃(k pos:Nat) (file rank last:Int) (plus:Bool) (b:List Int),s5=.int .i64 file/\s6=.int .i64 rank/\s7=.bool plus/\s8=.int .i32 last/\-1<=file/\file<=8/\0<=rank/\rank<=8/\b.length=81/\s.size<=pos+k/\Aside0 (jl.go s k pos file rank plus last b=some (B,ok))/\Aside0 (wx.heap[w.heap.size+1+1]?=some (.stringIter s pos))/\Aside0 (wx.heap[w.heap.size]?=some (.cells (jA.pv zl) 24 (0,0)))/\Aside0 (wx.heap[w.heap.size+1]?=some (.cells (jA.pv b) 24 (0,0)))/\Aside0 (Below w.heap.size w wx)/\k+2<=gf)
 case atStart=>exact⟨s.size,0,8,0,32,false,zl,rfl,rfl,rfl,rfl,by omega,by omega,by omega,by omega,hzl,by omega,H2,KI,K2,K4,KB,by omega⟩
 case round=>
  clear KI K2 K4 KB H2;obtain⟨k,pos,file,rank,last,plus,b,rfl,rfl,rfl,rfl,hf1,hf2,hr1,hr2,hbl,hsz,HR,KI,K2,K4,KB,hgf⟩:=hrel
  by_cases hp:pos<s.size
  ·obtain⟨k,rfl⟩:∃k',k=k'+1:=⟨k-1,by omega⟩
   have e:=HR.out;unfold jl.go at e;rw[if_pos hp] at e;have hnx:∀ty,(Instr.next (.pointer (some ⟨w.heap.size+1+1,0,none⟩)) true ty).run Tryz.prog wr=_:=λty=>Lib.run_next_any_at wr (w.heap.size+1+1) s pos ty KI.out hp;have j1:=Lib.iterAt_heap wr (w.heap.size+1+1) s pos (pos+(Utf8.decode s pos).2) KI.out;have j2:=(Lib.iterAt_other wr (w.heap.size+1+1) w.heap.size s (pos+(Utf8.decode s pos).2) (by omega)).trans K2.out;have j4:=(Lib.iterAt_other wr (w.heap.size+1+1) (w.heap.size+1) s (pos+(Utf8.decode s pos).2) (by omega)).trans K4.out;have j5:=Lib.below_iterAt KB.out (show w.heap.size<=w.heap.size+1+1 by omega) s (pos+(Utf8.decode s pos).2);have hd1:=dec_pos s pos hp;have hd2:=decode_le s pos
   obtain⟨np,hnp⟩:∃np,np=pos+(Utf8.decode s pos).2:=⟨_,rfl⟩
   obtain⟨x,hx⟩:∃x:Int,x=((Utf8.decode s pos).1:Int):=⟨_,rfl⟩
   rw[<- hnp,<- hx] at e;rw[<- hnp] at hnx j1 j2 j4 j5
   have hx0:0<=x:=by omega
   have hxm:x<=2147483647:=by omega
   have hsz2:s.size<=np+k:=by omega
   try dsimp only at hnx
   rw[<- hx] at hnx
   obtain⟨W3,hW3⟩:∃W3,wr.iterAt (w.heap.size+1+1) s np=W3:=⟨_,rfl⟩
   rw[hW3] at hnx j1 j2 j4 j5;have HE:=qA e;clear KI K2 K4 KB HR hd1 hd2 hnp hx hW3 e;have KI:=qA j1;have K2:=qA j2;have K4:=qA j4;have KB:=qA j5;clear j1 j2 j4 j5
   obtain⟨g2,rfl⟩:∃g2,gk=g2+1:=⟨gk-1,by omega⟩
   by_cases h47:x=47
   ·subst h47
    have ea:=HE.out;rw[if_pos rfl] at ea;clear HE;have HE:=qA ea;clear ea
    by_cases hfm:file = -1
    ·have tfm:(file != -1)=false:=bne_eq_false_iff_eq.2 (by omega)
     cases plus with
     | true=>
      have e:=HE.out;rw[if_pos (.inr (.inl rfl))] at e;have er:=Option.some.inj e;simp only[Prod.mk.injEq] at er;obtain⟨rfl,rfl⟩:=er;clear e HE
      go_wp2_with (first|((with_reducible refine jG (N:=46) rfl ?_);refine jA.load rfl 24 (.tmp 4) rfl rfl K4.out Tryz.underlying24 rfl jA.infoB (by omega) ?_;rw[show(b.drop 0).take 81=b by rw[List.drop_zero,List.take_of_length_le (by omega)]])|((with_reducible refine jW (t:=24) (p:=2) (v:=.tmp 46) rfl ?_);refine jA.store rfl 24 (.tmp 2) (.tmp 46) rfl rfl rfl K2.out (by rw[jA.pv_size];exact hzl) hbl jA.infoB ?_;intro W4 s1 s2 s3;replace K2:=qA s1;replace KB:=qA (s2 w.heap.size w (Nat.le_refl _) KB.out);clear KI K4 s1 s2 s3))
      refine bodyPost_ret (jy (p:=2) (u:=3) (ty:=24) rfl _ _ w.heap.size 24 (jA.pv b) (0,0) _ rfl K2.out Tryz.underlying24 rfl (by rw[jA.infoB,jA.pv_size,hbl])) rfl ?_
      first|exact⟨rfl,hbl,KB.out⟩|exact⟨rfl,KB.out⟩
     | false=>
      by_cases hr8:rank=8
      ·have tr8:(rank==8)=true:=beq_iff_eq.2 (by omega)
       have e:=HE.out;rw[if_pos (.inr (.inr hr8))] at e;have er:=Option.some.inj e;simp only[Prod.mk.injEq] at er;obtain⟨rfl,rfl⟩:=er;clear e HE
       go_wp2_with (first|((with_reducible refine jG (N:=46) rfl ?_);refine jA.load rfl 24 (.tmp 4) rfl rfl K4.out Tryz.underlying24 rfl jA.infoB (by omega) ?_;rw[show(b.drop 0).take 81=b by rw[List.drop_zero,List.take_of_length_le (by omega)]])|((with_reducible refine jW (t:=24) (p:=2) (v:=.tmp 46) rfl ?_);refine jA.store rfl 24 (.tmp 2) (.tmp 46) rfl rfl rfl K2.out (by rw[jA.pv_size];exact hzl) hbl jA.infoB ?_;intro W4 s1 s2 s3;replace K2:=qA s1;replace KB:=qA (s2 w.heap.size w (Nat.le_refl _) KB.out);clear KI K4 s1 s2 s3))
       refine bodyPost_ret (jy (p:=2) (u:=3) (ty:=24) rfl _ _ w.heap.size 24 (jA.pv b) (0,0) _ rfl K2.out Tryz.underlying24 rfl (by rw[jA.infoB,jA.pv_size,hbl])) rfl ?_
       first|exact⟨rfl,hbl,KB.out⟩|exact⟨rfl,KB.out⟩
      ·have tr8:(rank==8)=false:=beq_eq_false_iff_ne.2 (by omega)
       have ewr:IntKind.i64.wrap (rank+1)=rank+1:=IntWalk.i64_in _ (by omega);have e:=HE.out;rw[if_neg (by simp [hfm,hr8])] at e;have HE2:=qA e;clear e HE;go_wp2
       go_roundg g2
       case measure=>omega
       case rel=>exact⟨k,np,8,rank+1,47,false,b,rfl,rfl,rfl,rfl,by omega,by omega,by omega,by omega,hbl,hsz2,HE2,KI,K2,K4,KB,by omega⟩
    ·have tfm:(file != -1)=true:=bne_iff_ne.2 (by omega)
     have e:=HE.out;rw[if_pos (.inl hfm)] at e;have er:=Option.some.inj e;simp only[Prod.mk.injEq] at er;obtain⟨rfl,rfl⟩:=er;clear e HE
     go_wp2_with (first|((with_reducible refine jG (N:=46) rfl ?_);refine jA.load rfl 24 (.tmp 4) rfl rfl K4.out Tryz.underlying24 rfl jA.infoB (by omega) ?_;rw[show(b.drop 0).take 81=b by rw[List.drop_zero,List.take_of_length_le (by omega)]])|((with_reducible refine jW (t:=24) (p:=2) (v:=.tmp 46) rfl ?_);refine jA.store rfl 24 (.tmp 2) (.tmp 46) rfl rfl rfl K2.out (by rw[jA.pv_size];exact hzl) hbl jA.infoB ?_;intro W4 s1 s2 s3;replace K2:=qA s1;replace KB:=qA (s2 w.heap.size w (Nat.le_refl _) KB.out);clear KI K4 s1 s2 s3))
     refine bodyPost_ret (jy (p:=2) (u:=3) (ty:=24) rfl _ _ w.heap.size 24 (jA.pv b) (0,0) _ rfl K2.out Tryz.underlying24 rfl (by rw[jA.infoB,jA.pv_size,hbl])) rfl ?_
     first|exact⟨rfl,hbl,KB.out⟩|exact⟨rfl,KB.out⟩
   ·have t47:(x==47)=false:=beq_eq_false_iff_ne.2 (by omega)
    have ea:=HE.out;rw[if_neg h47] at ea;clear HE
    by_cases hdg:49<=x/\x<=57
    ·rw[if_pos hdg] at ea
     have HE:=qA ea;clear ea;have t49:decide (49<=x)=true:=decide_eq_true (by omega);have t49':(49<=x)=True:=eq_true (by omega);have t57:decide (x<=57)=true:=decide_eq_true (by omega);have t57':(x<=57)=True:=eq_true (by omega);have ew1:IntKind.i32.wrap (x-48)=x-48:=IntWalk.i32_in _ (by omega)
     have ew1b:wrap32 (x-48)=x-48:=by unfold wrap32;omega
     have ew2:IntKind.i64.wrap (x-48)=x-48:=IntWalk.i64_in _ (by omega)
     have ew2b:wrap64 (x-48)=x-48:=by unfold wrap64;omega
     obtain⟨y,hy⟩:∃y,y=file-(x-48):=⟨_,rfl⟩
     have ew3:IntKind.i64.wrap (file-(x-48))=y:=(IntWalk.i64_in _ (by omega)).trans (by omega)
     have ew3b:wrap64 (file-(x-48))=y:=by unfold wrap64;omega
     rw[<- hy] at HE
     have hy1:y<=8:=by omega
     clear hy
     cases plus with
     | true=>
      have e:=HE.out;rw[if_pos (.inl rfl)] at e;have er:=Option.some.inj e;simp only[Prod.mk.injEq] at er;obtain⟨rfl,rfl⟩:=er;clear e HE
      go_wp2_with (first|((with_reducible refine jG (N:=74) rfl ?_);refine jA.load rfl 24 (.tmp 4) rfl rfl K4.out Tryz.underlying24 rfl jA.infoB (by omega) ?_;rw[show(b.drop 0).take 81=b by rw[List.drop_zero,List.take_of_length_le (by omega)]])|((with_reducible refine jW (t:=24) (p:=2) (v:=.tmp 74) rfl ?_);refine jA.store rfl 24 (.tmp 2) (.tmp 74) rfl rfl rfl K2.out (by rw[jA.pv_size];exact hzl) hbl jA.infoB ?_;intro W4 s1 s2 s3;replace K2:=qA s1;replace KB:=qA (s2 w.heap.size w (Nat.le_refl _) KB.out);clear KI K4 s1 s2 s3))
      refine bodyPost_ret (jy (p:=2) (u:=3) (ty:=24) rfl _ _ w.heap.size 24 (jA.pv b) (0,0) _ rfl K2.out Tryz.underlying24 rfl (by rw[jA.infoB,jA.pv_size,hbl])) rfl ?_
      first|exact⟨rfl,hbl,KB.out⟩|exact⟨rfl,KB.out⟩
     | false=>
      by_cases hym:y < -1
      ·have tym:decide (y < -1)=true:=decide_eq_true (by omega)
       have tym':(y < -1)=True:=eq_true (by omega);have e:=HE.out;rw[if_pos (.inr (.inl hym))] at e;have er:=Option.some.inj e;simp only[Prod.mk.injEq] at er;obtain⟨rfl,rfl⟩:=er;clear e HE
       go_wp2_with (first|((with_reducible refine jG (N:=74) rfl ?_);refine jA.load rfl 24 (.tmp 4) rfl rfl K4.out Tryz.underlying24 rfl jA.infoB (by omega) ?_;rw[show(b.drop 0).take 81=b by rw[List.drop_zero,List.take_of_length_le (by omega)]])|((with_reducible refine jW (t:=24) (p:=2) (v:=.tmp 74) rfl ?_);refine jA.store rfl 24 (.tmp 2) (.tmp 74) rfl rfl rfl K2.out (by rw[jA.pv_size];exact hzl) hbl jA.infoB ?_;intro W4 s1 s2 s3;replace K2:=qA s1;replace KB:=qA (s2 w.heap.size w (Nat.le_refl _) KB.out);clear KI K4 s1 s2 s3))
       refine bodyPost_ret (jy (p:=2) (u:=3) (ty:=24) rfl _ _ w.heap.size 24 (jA.pv b) (0,0) _ rfl K2.out Tryz.underlying24 rfl (by rw[jA.infoB,jA.pv_size,hbl])) rfl ?_
       first|exact⟨rfl,hbl,KB.out⟩|exact⟨rfl,KB.out⟩
      ·have tym:decide (y < -1)=false:=decide_eq_false (by omega)
       have tym':(y < -1)=False:=eq_false (by omega)
       by_cases hl1:49<=last
       ·by_cases hl2:last<=57
        ·have tl1:decide (49<=last)=true:=decide_eq_true (by omega)
         have tl1':(49<=last)=True:=eq_true (by omega);have tl2:decide (last<=57)=true:=decide_eq_true (by omega);have tl2':(last<=57)=True:=eq_true (by omega);have e:=HE.out;rw[if_pos (.inr (.inr ⟨hl1,hl2⟩))] at e;have er:=Option.some.inj e;simp only[Prod.mk.injEq] at er;obtain⟨rfl,rfl⟩:=er;clear e HE
         go_wp2_with (first|((with_reducible refine jG (N:=74) rfl ?_);refine jA.load rfl 24 (.tmp 4) rfl rfl K4.out Tryz.underlying24 rfl jA.infoB (by omega) ?_;rw[show(b.drop 0).take 81=b by rw[List.drop_zero,List.take_of_length_le (by omega)]])|((with_reducible refine jW (t:=24) (p:=2) (v:=.tmp 74) rfl ?_);refine jA.store rfl 24 (.tmp 2) (.tmp 74) rfl rfl rfl K2.out (by rw[jA.pv_size];exact hzl) hbl jA.infoB ?_;intro W4 s1 s2 s3;replace K2:=qA s1;replace KB:=qA (s2 w.heap.size w (Nat.le_refl _) KB.out);clear KI K4 s1 s2 s3))
         refine bodyPost_ret (jy (p:=2) (u:=3) (ty:=24) rfl _ _ w.heap.size 24 (jA.pv b) (0,0) _ rfl K2.out Tryz.underlying24 rfl (by rw[jA.infoB,jA.pv_size,hbl])) rfl ?_
         first|exact⟨rfl,hbl,KB.out⟩|exact⟨rfl,KB.out⟩
        ·have tl1:decide (49<=last)=true:=decide_eq_true (by omega)
         have tl1':(49<=last)=True:=eq_true (by omega);have tl2:decide (last<=57)=false:=decide_eq_false (by omega);have tl2':(last<=57)=False:=eq_false (by omega);have e:=HE.out;rw[if_neg (by simp;omega)] at e;have HE2:=qA e;clear e HE;go_wp2
         go_roundg g2
         case measure=>omega
         case rel=>exact⟨k,np,y,rank,x,false,b,rfl,rfl,rfl,rfl,by omega,by omega,by omega,by omega,hbl,hsz2,HE2,KI,K2,K4,KB,by omega⟩
       ·have tl1:decide (49<=last)=false:=decide_eq_false (by omega)
        have tl1':(49<=last)=False:=eq_false (by omega);have e:=HE.out;rw[if_neg (by simp;omega)] at e;have HE2:=qA e;clear e HE;go_wp2
        go_roundg g2
        case measure=>omega
        case rel=>exact⟨k,np,y,rank,x,false,b,rfl,rfl,rfl,rfl,by omega,by omega,by omega,by omega,hbl,hsz2,HE2,KI,K2,K4,KB,by omega⟩
    ·rw[if_neg hdg] at ea
     have HE:=qA ea;clear ea
     by_cases h49:49<=x
     ·have t49:decide (49<=x)=true:=decide_eq_true (by omega)
      have t49':(49<=x)=True:=eq_true (by omega);have t57:decide (x<=57)=false:=decide_eq_false (by omega);have t57':(x<=57)=False:=eq_false (by omega)
      by_cases h43:x=43
      ·subst h43
       cases plus with
       | true=>
        have e:=HE.out;rw[if_pos rfl,if_pos rfl] at e;have er:=Option.some.inj e;simp only[Prod.mk.injEq] at er;obtain⟨rfl,rfl⟩:=er;clear e HE
        go_wp2_with (first|((with_reducible refine jG (N:=79) rfl ?_);refine jA.load rfl 24 (.tmp 4) rfl rfl K4.out Tryz.underlying24 rfl jA.infoB (by omega) ?_;rw[show(b.drop 0).take 81=b by rw[List.drop_zero,List.take_of_length_le (by omega)]])|((with_reducible refine jW (t:=24) (p:=2) (v:=.tmp 79) rfl ?_);refine jA.store rfl 24 (.tmp 2) (.tmp 79) rfl rfl rfl K2.out (by rw[jA.pv_size];exact hzl) hbl jA.infoB ?_;intro W4 s1 s2 s3;replace K2:=qA s1;replace KB:=qA (s2 w.heap.size w (Nat.le_refl _) KB.out);clear KI K4 s1 s2 s3))
        refine bodyPost_ret (jy (p:=2) (u:=3) (ty:=24) rfl _ _ w.heap.size 24 (jA.pv b) (0,0) _ rfl K2.out Tryz.underlying24 rfl (by rw[jA.infoB,jA.pv_size,hbl])) rfl ?_
        first|exact⟨rfl,hbl,KB.out⟩|exact⟨rfl,KB.out⟩
       | false=>
        have e:=HE.out;rw[if_pos rfl,if_neg (by decide)] at e;have HE2:=qA e;clear e HE;go_wp2
        go_roundg g2
        case measure=>omega
        case rel=>exact⟨k,np,file,rank,43,true,b,rfl,rfl,rfl,rfl,by omega,by omega,by omega,by omega,hbl,hsz2,HE2,KI,K2,K4,KB,by omega⟩
      ·have t43:(x==43)=false:=beq_eq_false_iff_ne.2 (by omega)
       have e3:=HE.out;rw[if_neg h43] at e3;obtain⟨p,hpp,e4⟩:=Option.bind_eq_some_iff.mp e3;have HPP:=qA hpp;clear HE;have HE:=qA e4;clear e3 e4 hpp
       by_cases hp0:p=0
       ·have tp0:(p==0)=true:=beq_iff_eq.2 (by omega)
        have e:=HE.out;rw[if_pos (.inl hp0)] at e;have er:=Option.some.inj e;simp only[Prod.mk.injEq] at er;obtain⟨rfl,rfl⟩:=er;clear e HE
        go_wp2_with (first|(go_at_call 25;(with_reducible refine(ja.calls _ _ _ _ HPP.out).mono ?_);rintro e w7 ⟨rfl,hb⟩;replace KI:=qB KI hb;replace K2:=qB K2 hb;replace K4:=qB K4 hb;replace KB:=qS KB hb;clear hb)|((with_reducible refine jG (N:=26) rfl ?_);refine jA.load rfl 24 (.tmp 4) rfl rfl K4.out Tryz.underlying24 rfl jA.infoB (by omega) ?_;rw[show(b.drop 0).take 81=b by rw[List.drop_zero,List.take_of_length_le (by omega)]])|((with_reducible refine jW (t:=24) (p:=2) (v:=.tmp 26) rfl ?_);refine jA.store rfl 24 (.tmp 2) (.tmp 26) rfl rfl rfl K2.out (by rw[jA.pv_size];exact hzl) hbl jA.infoB ?_;intro W4 s1 s2 s3;replace K2:=qA s1;replace KB:=qA (s2 w.heap.size w (Nat.le_refl _) KB.out);clear KI K4 s1 s2 s3))
        refine bodyPost_ret (jy (p:=2) (u:=3) (ty:=24) rfl _ _ w.heap.size 24 (jA.pv b) (0,0) _ rfl K2.out Tryz.underlying24 rfl (by rw[jA.infoB,jA.pv_size,hbl])) rfl ?_
        first|exact⟨rfl,hbl,KB.out⟩|exact⟨rfl,KB.out⟩
       ·have tp0:(p==0)=false:=beq_eq_false_iff_ne.2 (by omega)
        by_cases hfn:file<0
        ·have tfn:decide (file<0)=true:=decide_eq_true (by omega)
         have tfn':(file<0)=True:=eq_true (by omega);have e:=HE.out;rw[if_pos (.inr hfn)] at e;have er:=Option.some.inj e;simp only[Prod.mk.injEq] at er;obtain⟨rfl,rfl⟩:=er;clear e HE
         go_wp2_with (first|(go_at_call 25;(with_reducible refine(ja.calls _ _ _ _ HPP.out).mono ?_);rintro e w7 ⟨rfl,hb⟩;replace KI:=qB KI hb;replace K2:=qB K2 hb;replace K4:=qB K4 hb;replace KB:=qS KB hb;clear hb)|((with_reducible refine jG (N:=26) rfl ?_);refine jA.load rfl 24 (.tmp 4) rfl rfl K4.out Tryz.underlying24 rfl jA.infoB (by omega) ?_;rw[show(b.drop 0).take 81=b by rw[List.drop_zero,List.take_of_length_le (by omega)]])|((with_reducible refine jW (t:=24) (p:=2) (v:=.tmp 26) rfl ?_);refine jA.store rfl 24 (.tmp 2) (.tmp 26) rfl rfl rfl K2.out (by rw[jA.pv_size];exact hzl) hbl jA.infoB ?_;intro W4 s1 s2 s3;replace K2:=qA s1;replace KB:=qA (s2 w.heap.size w (Nat.le_refl _) KB.out);clear KI K4 s1 s2 s3))
         refine bodyPost_ret (jy (p:=2) (u:=3) (ty:=24) rfl _ _ w.heap.size 24 (jA.pv b) (0,0) _ rfl K2.out Tryz.underlying24 rfl (by rw[jA.infoB,jA.pv_size,hbl])) rfl ?_
         first|exact⟨rfl,hbl,KB.out⟩|exact⟨rfl,KB.out⟩
        ·have tfn:decide (file<0)=false:=decide_eq_false (by omega)
         have tfn':(file<0)=False:=eq_false (by omega);have e:=HE.out;rw[if_neg (by omega)] at e
         obtain⟨fl,hfl⟩:∃n:Nat,file=(n:Int):=⟨file.toNat,by omega⟩
         obtain⟨rk,hrk⟩:∃n:Nat,rank=(n:Int):=⟨rank.toNat,by omega⟩
         subst hfl;subst hrk
         obtain⟨q,hq⟩:∃q,q=9*fl+rk:=⟨_,rfl⟩
         have hq81:q<81:=by omega
         have hsq:zM.f (fl:Int) (rk:Int)=some (q:Int):=by rw[hq];exact jl.sq_is fl rk (by omega) (by omega)
         have HSQ:=qA hsq;rw[show(9*(fl:Int)+(rk:Int)).toNat=q by omega] at e;have HE2:=qA e;have bq:(0<=(q:Int)/\(q:Int)<81)=True:=eq_true (by omega);have bq2:((q:Int)<81)=True:=eq_true (by omega);have ewf:IntKind.i64.wrap ((fl:Int)-1)=(fl:Int)-1:=IntWalk.i64_in _ (by omega);clear e HE hq hsq;go_upto_region 12 with(first|(go_at_call 25;(with_reducible refine(ja.calls _ _ _ _ HPP.out).mono ?_);rintro e w7 ⟨rfl,hb⟩;replace KI:=qB KI hb;replace K2:=qB K2 hb;replace K4:=qB K4 hb;replace KB:=qS KB hb;clear hb)|(go_at_call 20;(with_reducible refine(zM.calls _ _ _ _ HSQ.out).mono ?_);rintro e w7 ⟨rfl,hd⟩;have hb:=hd.below;clear hd;replace KI:=qB KI hb;replace K2:=qB K2 hb;replace K4:=qB K4 hb;replace KB:=qS KB hb;clear hb;have d4:w7.cell? ⟨w.heap.size+1,q,none⟩=some (.int .i8 (b.getD q 0)):=(jB K4.out q).trans (jA.pv_get b q (by omega));have f4:=jH K4.out q));have B4:=(zQ K4.out q (.int .i8 p)).trans (by rw[jA.pv_set]);have hc:=Ch.set_of K4.out q (.int .i8 p);have BI:=hc.blk (show w.heap.size+1+1≠w.heap.size+1 by omega) KI.out;have B2:=hc.blk (show w.heap.size≠w.heap.size+1 by omega) K2.out
         have BB:=hc.2.1 _ _ (show w.heap.size<=w.heap.size+1 by omega) KB.out;generalize World.setCell _ ⟨w.heap.size+1,q,none⟩ (.int .i8 p)=W6 at *;clear KI K2 K4 KB hc d4 f4;have KI:=qA BI;have K2:=qA B2;have K4:=qA B4;have KB:=qA BB;clear BI B2 B4 BB;go_wp2
         go_roundg g2
         case measure=>omega
         case rel=>exact⟨k,np,(fl:Int)-1,(rk:Int),x,false,b.set q p,rfl,rfl,rfl,rfl,by omega,by omega,by omega,by omega,by rw[List.length_set];exact hbl,hsz2,HE2,KI,K2,K4,KB,by omega⟩
     ·have t49:decide (49<=x)=false:=decide_eq_false (by omega)
      have t49':(49<=x)=False:=eq_false (by omega)
      by_cases h43:x=43
      ·subst h43
       cases plus with
       | true=>
        have e:=HE.out;rw[if_pos rfl,if_pos rfl] at e;have er:=Option.some.inj e;simp only[Prod.mk.injEq] at er;obtain⟨rfl,rfl⟩:=er;clear e HE
        go_wp2_with (first|((with_reducible refine jG (N:=79) rfl ?_);refine jA.load rfl 24 (.tmp 4) rfl rfl K4.out Tryz.underlying24 rfl jA.infoB (by omega) ?_;rw[show(b.drop 0).take 81=b by rw[List.drop_zero,List.take_of_length_le (by omega)]])|((with_reducible refine jW (t:=24) (p:=2) (v:=.tmp 79) rfl ?_);refine jA.store rfl 24 (.tmp 2) (.tmp 79) rfl rfl rfl K2.out (by rw[jA.pv_size];exact hzl) hbl jA.infoB ?_;intro W4 s1 s2 s3;replace K2:=qA s1;replace KB:=qA (s2 w.heap.size w (Nat.le_refl _) KB.out);clear KI K4 s1 s2 s3))
        refine bodyPost_ret (jy (p:=2) (u:=3) (ty:=24) rfl _ _ w.heap.size 24 (jA.pv b) (0,0) _ rfl K2.out Tryz.underlying24 rfl (by rw[jA.infoB,jA.pv_size,hbl])) rfl ?_
        first|exact⟨rfl,hbl,KB.out⟩|exact⟨rfl,KB.out⟩
       | false=>
        have e:=HE.out;rw[if_pos rfl,if_neg (by decide)] at e;have HE2:=qA e;clear e HE;go_wp2
        go_roundg g2
        case measure=>omega
        case rel=>exact⟨k,np,file,rank,43,true,b,rfl,rfl,rfl,rfl,by omega,by omega,by omega,by omega,hbl,hsz2,HE2,KI,K2,K4,KB,by omega⟩
      ·have t43:(x==43)=false:=beq_eq_false_iff_ne.2 (by omega)
       have e3:=HE.out;rw[if_neg h43] at e3;obtain⟨p,hpp,e4⟩:=Option.bind_eq_some_iff.mp e3;have HPP:=qA hpp;clear HE;have HE:=qA e4;clear e3 e4 hpp
       by_cases hp0:p=0
       ·have tp0:(p==0)=true:=beq_iff_eq.2 (by omega)
        have e:=HE.out;rw[if_pos (.inl hp0)] at e;have er:=Option.some.inj e;simp only[Prod.mk.injEq] at er;obtain⟨rfl,rfl⟩:=er;clear e HE
        go_wp2_with (first|(go_at_call 25;(with_reducible refine(ja.calls _ _ _ _ HPP.out).mono ?_);rintro e w7 ⟨rfl,hb⟩;replace KI:=qB KI hb;replace K2:=qB K2 hb;replace K4:=qB K4 hb;replace KB:=qS KB hb;clear hb)|((with_reducible refine jG (N:=26) rfl ?_);refine jA.load rfl 24 (.tmp 4) rfl rfl K4.out Tryz.underlying24 rfl jA.infoB (by omega) ?_;rw[show(b.drop 0).take 81=b by rw[List.drop_zero,List.take_of_length_le (by omega)]])|((with_reducible refine jW (t:=24) (p:=2) (v:=.tmp 26) rfl ?_);refine jA.store rfl 24 (.tmp 2) (.tmp 26) rfl rfl rfl K2.out (by rw[jA.pv_size];exact hzl) hbl jA.infoB ?_;intro W4 s1 s2 s3;replace K2:=qA s1;replace KB:=qA (s2 w.heap.size w (Nat.le_refl _) KB.out);clear KI K4 s1 s2 s3))
        refine bodyPost_ret (jy (p:=2) (u:=3) (ty:=24) rfl _ _ w.heap.size 24 (jA.pv b) (0,0) _ rfl K2.out Tryz.underlying24 rfl (by rw[jA.infoB,jA.pv_size,hbl])) rfl ?_
        first|exact⟨rfl,hbl,KB.out⟩|exact⟨rfl,KB.out⟩
       ·have tp0:(p==0)=false:=beq_eq_false_iff_ne.2 (by omega)
        by_cases hfn:file<0
        ·have tfn:decide (file<0)=true:=decide_eq_true (by omega)
         have tfn':(file<0)=True:=eq_true (by omega);have e:=HE.out;rw[if_pos (.inr hfn)] at e;have er:=Option.some.inj e;simp only[Prod.mk.injEq] at er;obtain⟨rfl,rfl⟩:=er;clear e HE
         go_wp2_with (first|(go_at_call 25;(with_reducible refine(ja.calls _ _ _ _ HPP.out).mono ?_);rintro e w7 ⟨rfl,hb⟩;replace KI:=qB KI hb;replace K2:=qB K2 hb;replace K4:=qB K4 hb;replace KB:=qS KB hb;clear hb)|((with_reducible refine jG (N:=26) rfl ?_);refine jA.load rfl 24 (.tmp 4) rfl rfl K4.out Tryz.underlying24 rfl jA.infoB (by omega) ?_;rw[show(b.drop 0).take 81=b by rw[List.drop_zero,List.take_of_length_le (by omega)]])|((with_reducible refine jW (t:=24) (p:=2) (v:=.tmp 26) rfl ?_);refine jA.store rfl 24 (.tmp 2) (.tmp 26) rfl rfl rfl K2.out (by rw[jA.pv_size];exact hzl) hbl jA.infoB ?_;intro W4 s1 s2 s3;replace K2:=qA s1;replace KB:=qA (s2 w.heap.size w (Nat.le_refl _) KB.out);clear KI K4 s1 s2 s3))
         refine bodyPost_ret (jy (p:=2) (u:=3) (ty:=24) rfl _ _ w.heap.size 24 (jA.pv b) (0,0) _ rfl K2.out Tryz.underlying24 rfl (by rw[jA.infoB,jA.pv_size,hbl])) rfl ?_
         first|exact⟨rfl,hbl,KB.out⟩|exact⟨rfl,KB.out⟩
        ·have tfn:decide (file<0)=false:=decide_eq_false (by omega)
         have tfn':(file<0)=False:=eq_false (by omega);have e:=HE.out;rw[if_neg (by omega)] at e
         obtain⟨fl,hfl⟩:∃n:Nat,file=(n:Int):=⟨file.toNat,by omega⟩
         obtain⟨rk,hrk⟩:∃n:Nat,rank=(n:Int):=⟨rank.toNat,by omega⟩
         subst hfl;subst hrk
         obtain⟨q,hq⟩:∃q,q=9*fl+rk:=⟨_,rfl⟩
         have hq81:q<81:=by omega
         have hsq:zM.f (fl:Int) (rk:Int)=some (q:Int):=by rw[hq];exact jl.sq_is fl rk (by omega) (by omega)
         have HSQ:=qA hsq;rw[show(9*(fl:Int)+(rk:Int)).toNat=q by omega] at e;have HE2:=qA e;have bq:(0<=(q:Int)/\(q:Int)<81)=True:=eq_true (by omega);have bq2:((q:Int)<81)=True:=eq_true (by omega);have ewf:IntKind.i64.wrap ((fl:Int)-1)=(fl:Int)-1:=IntWalk.i64_in _ (by omega);clear e HE hq hsq;go_upto_region 12 with(first|(go_at_call 25;(with_reducible refine(ja.calls _ _ _ _ HPP.out).mono ?_);rintro e w7 ⟨rfl,hb⟩;replace KI:=qB KI hb;replace K2:=qB K2 hb;replace K4:=qB K4 hb;replace KB:=qS KB hb;clear hb)|(go_at_call 20;(with_reducible refine(zM.calls _ _ _ _ HSQ.out).mono ?_);rintro e w7 ⟨rfl,hd⟩;have hb:=hd.below;clear hd;replace KI:=qB KI hb;replace K2:=qB K2 hb;replace K4:=qB K4 hb;replace KB:=qS KB hb;clear hb;have d4:w7.cell? ⟨w.heap.size+1,q,none⟩=some (.int .i8 (b.getD q 0)):=(jB K4.out q).trans (jA.pv_get b q (by omega));have f4:=jH K4.out q));have B4:=(zQ K4.out q (.int .i8 p)).trans (by rw[jA.pv_set]);have hc:=Ch.set_of K4.out q (.int .i8 p);have BI:=hc.blk (show w.heap.size+1+1≠w.heap.size+1 by omega) KI.out;have B2:=hc.blk (show w.heap.size≠w.heap.size+1 by omega) K2.out
         have BB:=hc.2.1 _ _ (show w.heap.size<=w.heap.size+1 by omega) KB.out;generalize World.setCell _ ⟨w.heap.size+1,q,none⟩ (.int .i8 p)=W6 at *;clear KI K2 K4 KB hc d4 f4;have KI:=qA BI;have K2:=qA B2;have K4:=qA B4;have KB:=qA BB;clear BI B2 B4 BB;go_wp2
         go_roundg g2
         case measure=>omega
         case rel=>exact⟨k,np,(fl:Int)-1,(rk:Int),x,false,b.set q p,rfl,rfl,rfl,rfl,by omega,by omega,by omega,by omega,by rw[List.length_set];exact hbl,hsz2,HE2,KI,K2,K4,KB,by omega⟩
  ·have e:some (jl.done file rank plus b)=some (B,ok):=by
    have e:=HR.out
    cases k
    ·unfold jl.go at e
     rw[if_neg hp] at e;exact e
    ·unfold jl.go at e
     rw[if_neg hp] at e;exact e
   have e2:=Option.some.inj e;unfold jl.done at e2;simp only[Prod.mk.injEq] at e2;obtain⟨rfl,hok⟩:=e2;have hnx:∀ty,(Instr.next (.pointer (some ⟨w.heap.size+1+1,0,none⟩)) true ty).run Tryz.prog wr=_:=λty=>Lib.run_next_end_at wr (w.heap.size+1+1) s pos ty KI.out hp;clear HR e;have HOK:=qA hok;clear hok
   have tA:∃c,c=(file == -1):=⟨_,rfl⟩
   obtain⟨cA,hA⟩:=tA
   have tB:∃c,c=(rank==8):=⟨_,rfl⟩
   obtain⟨cB,hB⟩:=tB;have hok:=HOK.out;rw[<- hA,<- hB] at hok;have HA:=qA hA.symm;have HB:=qA hB.symm;have tA':=HA.out;have tB':=HB.out;clear HOK hA hB
   cases cA<;>cases cB<;>cases plus<;>simp only[Bool.false_and,Bool.true_and,Bool.not_true,Bool.not_false] at hok<;>subst hok
   all_goals (
    go_wp2_with (first|((with_reducible refine jG (N:=81) rfl ?_);refine jA.load rfl 24 (.tmp 4) rfl rfl K4.out Tryz.underlying24 rfl jA.infoB (by omega) ?_;rw[show(b.drop 0).take 81=b by rw[List.drop_zero,List.take_of_length_le (by omega)]])|((with_reducible refine jW (t:=24) (p:=2) (v:=.tmp 81) rfl ?_);refine jA.store rfl 24 (.tmp 2) (.tmp 81) rfl rfl rfl K2.out (by rw[jA.pv_size];exact hzl) hbl jA.infoB ?_;intro W4 s1 s2 s3;replace K2:=qA s1;replace KB:=qA (s2 w.heap.size w (Nat.le_refl _) KB.out);clear KI K4 s1 s2 s3))
    refine bodyPost_ret (jy (p:=2) (u:=3) (ty:=24) rfl _ _ w.heap.size 24 (jA.pv b) (0,0) _ rfl K2.out Tryz.underlying24 rfl (by rw[jA.infoB,jA.pv_size,hbl])) rfl ?_
    first|exact⟨rfl,hbl,KB.out⟩|exact⟨rfl,KB.out⟩)
end Go.Proofs.YtigenhbmgpfffaaGreatDoor.Pa
