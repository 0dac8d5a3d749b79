import Derived.Test.YtigenhbmgpfffaaGreatDoorB40
set_option maxRecDepth 100000
set_option maxHeartbeats 16000000
namespace Go.Proofs.YtigenhbmgpfffaaGreatDoor.Pa
open Go.RowKit Go.Proofs.YtigenhbmgpfffaaGreatDoorW.PrintWords Go.Proofs.YtigenhbmgpfffaaGreatDoorW.PrintLast Go.Proofs.YtigenhbmgpfffaaGreatDoorW.PrintMore
attribute [local go_sem] yE yC yM yL zo zn yD yB
set_option linter.unusedVariables false
set_option linter.unusedSimpArgs false
def jAP (x:ByteArray):Int:=(jM.f 60 x).getD 0
def jE.z16:List Int:=[0,0,0,0,0,0,0,0,0,0,0,0,0,0,0,0]
def jE.dend (s:ByteArray):Nat->Nat->Nat
 | 0,i=>i
 | d+1,i=>if i<s.size/\48<=bt s i/\bt s i<=57 then jE.dend s d (i+1) else i
theorem jE.dend_le (s:ByteArray):∀d i,i<=s.size->i<=jE.dend s d i/\jE.dend s d i<=s.size
 | 0,i,h=>⟨Nat.le_refl _,h⟩
 | d+1,i,h=>by
  unfold jE.dend
  split
  ·rename_i hh
   have:=jE.dend_le s d (i+1) (by omega);omega
  ·exact⟨Nat.le_refl _,h⟩
def jE.num (s:ByteArray) (i:Nat):Int:=if i<jE.dend s s.size i then jAP (s.extract i (jE.dend s s.size i)) else 1
def jE.at (x:Int):Nat:=8*(jBH x).toNat+(yu x).toNat
def jE.go (s:ByteArray):Nat->Nat->List Int->List Int×Bool
 | 0,_,out=>(out,true)
 | n+1,i,out=>if i<s.size then
   (if jE.dend s s.size i=s.size\/jE.num s i<1\/18<jE.num s i then(out,false)
   else if yu (jAE (s.extract (jE.dend s s.size i) (jE.dend s s.size i+1)))<1\/7<yu (jAE (s.extract (jE.dend s s.size i) (jE.dend s s.size i+1)))\/out.getD (jE.at (jAE (s.extract (jE.dend s s.size i) (jE.dend s s.size i+1)))) 0≠0 then(out,false)
   else jE.go s n (jE.dend s s.size i+1) (out.set (jE.at (jAE (s.extract (jE.dend s s.size i) (jE.dend s s.size i+1)))) (jE.num s i)))
  else(out,true)
def jE.f (s:ByteArray):List Int×Bool:=if s.toList=[45] then(jE.z16,true) else if s.toList=[] then(jE.z16,false) else jE.go s s.size 0 jE.z16
theorem rside_01 (x:Int) (h:1<=yu x):jBH x=0\/jBH x=1:=by
 have hk:=ym x;have hs:=jA2 x;unfold jm.f at hs;rw[hk,Option.bind_some,if_neg (by omega)] at hs;have e:=Option.some.inj hs
 have hr:1<=x/\x<=31:=by
  unfold jc.f at hk
  by_cases h1:x<1
  ·rw[if_pos h1] at hk
   have:=Option.some.inj hk;omega
  ·rw[if_neg h1] at hk
   by_cases h2:x>31
   ·rw[if_pos h2] at hk
    have:=Option.some.inj hk;omega
   ·omega
 rw[<- e,Int.tdiv_eq_ediv_of_nonneg (by omega)];unfold wrap64;omega
theorem jE.hands_calls (s:ByteArray) (R:List Int) (ok:Bool) (w:World) (hsz:s.size<=1000) (hNm:∀x:ByteArray,jZ.f 60 x=some (jAE x)) (hNu:∀x:ByteArray,jM.f 60 x=some (jAP x)) (h:jE.f s=(R,ok)):
  Calls Tryz.prog 39 #[.string s] w λe w'=>e=.returned (.tuple #[.agg (jA.pv R),.bool ok])/\R.length=16/\Below w.heap.size w w':=by
 have HNA:=qA hNm;have HNB:=qA hNu;have HR:=qA h;clear hNm hNu h;have hz:=jAO (t:=26) (c:=jA.pv jE.z16) (by kernel_rfl);have B2:(w.alloc (Obj.cells (jA.pv jE.z16) 26)).heap[w.heap.size]?=some (.cells (jA.pv jE.z16) 26 (0,0)):=zJ w _;have BB:Below w.heap.size w (w.alloc (Obj.cells (jA.pv jE.z16) 26)):=ji (Below.refl _ _) _
 have hsz1:(w.alloc (Obj.cells (jA.pv jE.z16) 26)).heap.size=w.heap.size+1:=by simp [go_sem]
 have HZB:Aside0 (∀W,(Instr.build 26 #[]).run Tryz.prog W=.ok (.agg (jA.pv jE.z16)) W):=⟨λW=>run_build W 26 _ _ (by kernel_rfl)⟩
 have hzb:=HZB.out;go_enter Tryz.func39,Tryz.ntmps39;go_upto_region 1 with(fail);generalize (w.alloc (Obj.cells (jA.pv jE.z16) 26))=W at *
 have B3:(W.alloc (Obj.cells (jA.pv jE.z16) 26)).heap[w.heap.size+1]?=some (.cells (jA.pv jE.z16) 26 (0,0)):=by
  have e:=zJ W (Obj.cells (jA.pv jE.z16) 26);rw[hsz1] at e;exact e
 go_upto_region 2 with(first|((with_reducible refine jW (t:=26) (p:=4) (v:=.tmp 10) rfl ?_);refine jA.store (n:=16) rfl 26 (.tmp 4) (.tmp 10) rfl rfl rfl B3 (by rw[jA.pv_size];rfl) rfl jA.infoH ?_;intro W3 s1 s2 s3))
 obtain⟨g,hg⟩:∃g,g=w.heap.size+1:=⟨_,rfl⟩
 rw[<- hg] at s1 s2 s3 ⊢;have K2:=qA ((s3 w.heap.size (by omega)).trans (jI B2 (Obj.cells (jA.pv jE.z16) 26)));have K4:=qA s1;have KB:=qA (s2 w.heap.size w (by omega) (ji BB (Obj.cells (jA.pv jE.z16) 26)));have HG:=qA (show w.heap.size<g by omega);clear B2 B3 BB s1 s2 s3 hz hzb hg hsz1 HZB
 obtain⟨out,hout⟩:∃out,out=jE.z16:=⟨_,rfl⟩
 have HOL:Aside0 (out.length=16):=⟨by rw[hout];rfl⟩
 rw[<- hout] at K4;unfold jE.f at HR
 by_cases h45:s.toList=[45]
 ·have f0:(s.toList==[45])=true:=by rw[h45];rfl
  have e:=HR.out;rw[if_pos h45,<- hout] at e;obtain⟨rfl,rfl⟩:=Prod.mk.inj e;clear e h45
  go_wp2_with (first|((with_reducible refine jG (N:=13) rfl ?_);refine jA.load rfl 26 (.tmp 4) rfl rfl K4.out Tryz.underlying26 rfl jA.infoH (by have:=HOL.out;omega) ?_;rw[show(out.drop 0).take 16=out by rw[List.drop_zero,List.take_of_length_le (by rw[HOL.out];omega)]])|((with_reducible refine jW (t:=26) (p:=2) (v:=.tmp 13) rfl ?_);refine jA.store (n:=16) rfl 26 (.tmp 2) (.tmp 13) rfl rfl rfl K2.out (by rw[jA.pv_size];rfl) HOL.out jA.infoH ?_;intro W3 s1 s2 s3;have S1:=qA s1;have S2:=qA (s2 _ _ (Nat.le_refl _) KB.out);clear s1 s2 s3))
  refine bodyPost_ret (jy (p:=2) (u:=3) (ty:=26) rfl _ _ w.heap.size 26 (jA.pv out) (0,0) _ rfl S1.out Tryz.underlying26 rfl (by rw[jA.infoH,jA.pv_size,HOL.out])) rfl ?_;exact⟨rfl,HOL.out,S2.out⟩
 have f0:(s.toList==[45])=false:=by rw[beq_eq_false_iff_ne];exact h45
 by_cases h0:s.toList=[]
 ·have f1:(s.toList==[])=true:=by rw[h0];rfl
  have e:=HR.out;rw[if_neg h45,if_pos h0,<- hout] at e;obtain⟨rfl,rfl⟩:=Prod.mk.inj e;clear e h45 h0
  go_wp2_with (first|((with_reducible refine jG (N:=16) rfl ?_);refine jA.load rfl 26 (.tmp 4) rfl rfl K4.out Tryz.underlying26 rfl jA.infoH (by have:=HOL.out;omega) ?_;rw[show(out.drop 0).take 16=out by rw[List.drop_zero,List.take_of_length_le (by rw[HOL.out];omega)]])|((with_reducible refine jW (t:=26) (p:=2) (v:=.tmp 16) rfl ?_);refine jA.store (n:=16) rfl 26 (.tmp 2) (.tmp 16) rfl rfl rfl K2.out (by rw[jA.pv_size];rfl) HOL.out jA.infoH ?_;intro W3 s1 s2 s3;have S1:=qA s1;have S2:=qA (s2 _ _ (Nat.le_refl _) KB.out);clear s1 s2 s3))
  refine bodyPost_ret (jy (p:=2) (u:=3) (ty:=26) rfl _ _ w.heap.size 26 (jA.pv out) (0,0) _ rfl S1.out Tryz.underlying26 rfl (by rw[jA.infoH,jA.pv_size,HOL.out])) rfl ?_;exact⟨rfl,HOL.out,S2.out⟩
 have f1:(s.toList==[])=false:=by rw[beq_eq_false_iff_ne];exact h0
 have HR2:Aside0 (jE.go s s.size 0 out=(R,ok)):=⟨by
  have e:=HR.out;rw[if_neg h45,if_neg h0,<- hout] at e
  exact e⟩
 clear HR h45 h0 hout;go_wp2;clear f0 f1
 go_loopg [5] (s.size+1) (λgf s5 wx=>∃(i n:Nat) (out:List Int),s5=.int .i64 (i:Int)/\i<=s.size/\s.size<=i+n/\Aside0 (out.length=16)/\Aside0 (jE.go s n i out=(R,ok))/\Aside0 (wx.heap[w.heap.size]?=some (.cells (jA.pv jE.z16) 26 (0,0)))/\Aside0 (wx.heap[g]?=some (.cells (jA.pv out) 26 (0,0)))/\Aside0 (Below w.heap.size w wx)/\s.size+1<=gf+i)
 case atStart=>exact⟨0,s.size,out,rfl,by omega,by omega,HOL,HR2,K2,K4,KB,by omega⟩
 case round=>
  clear K2 K4 KB HR2 HOL;clear out;obtain⟨i,n,out,rfl,his,hin,HOL,HR,K2,K4,KB,hgf⟩:=hrel
  obtain⟨g',rfl⟩:∃g',gk=g'+1:=⟨gk-1,by omega⟩
  by_cases hend:i=s.size
  ·have e:(out,true)=(R,ok):=by
    have e:=HR.out
    cases n with
    | zero=>exact e
    | succ n=>
     unfold jE.go at e;rw[if_neg (by omega)] at e;exact e
   obtain⟨rfl,rfl⟩:=Prod.mk.inj e;have b0:decide ((i:Int)<(s.size:Int))=false:=decide_eq_false (by omega);have b1:((i:Int)<(s.size:Int))=False:=eq_false (by omega);have b2:(i<s.size)=False:=eq_false (by omega);clear e HR
   go_wp2_with (first|((with_reducible refine jG (N:=94) rfl ?_);refine jA.load rfl 26 (.tmp 4) rfl rfl K4.out Tryz.underlying26 rfl jA.infoH (by have:=HOL.out;omega) ?_;rw[show(out.drop 0).take 16=out by rw[List.drop_zero,List.take_of_length_le (by rw[HOL.out];omega)]])|((with_reducible refine jW (t:=26) (p:=2) (v:=.tmp 94) rfl ?_);refine jA.store (n:=16) rfl 26 (.tmp 2) (.tmp 94) rfl rfl rfl K2.out (by rw[jA.pv_size];rfl) HOL.out jA.infoH ?_;intro W3 s1 s2 s3;have S1:=qA s1;have S2:=qA (s2 _ _ (Nat.le_refl _) KB.out);clear s1 s2 s3))
   refine bodyPost_ret (jy (p:=2) (u:=3) (ty:=26) rfl _ _ w.heap.size 26 (jA.pv out) (0,0) _ rfl S1.out Tryz.underlying26 rfl (by rw[jA.infoH,jA.pv_size,HOL.out])) rfl ?_;exact⟨rfl,HOL.out,S2.out⟩
  obtain⟨n,rfl⟩:∃m,n=m+1:=⟨n-1,by omega⟩
  have hlt:i<s.size:=by omega
  have e:=HR.out;unfold jE.go at e;rw[if_pos hlt] at e
  obtain⟨j,hj⟩:∃j,jE.dend s s.size i=j:=⟨_,rfl⟩
  have hjb:=jE.dend_le s s.size i his
  obtain⟨v,hv⟩:∃v,jE.num s i=v:=⟨_,rfl⟩
  rw[hj,hv] at e;rw[hj] at hjb;unfold jE.num at hv;rw[hj] at hv;have HJ:=qA hj;have HV:=qA hv;have HE:=qA e;have b0:decide ((i:Int)<(s.size:Int))=true:=decide_eq_true (by omega);have b1:((i:Int)<(s.size:Int))=True:=eq_true (by omega);have b2:(i<s.size)=True:=eq_true hlt;clear e hj hv HR
  go_upto_block 2 with(fail)
  clear b0 b1 b2;go_cut [5] (λs5 wx=>s5=.int .i64 (j:Int)/\Aside0 (wx.heap[w.heap.size]?=some (.cells (jA.pv jE.z16) 26 (0,0)))/\Aside0 (wx.heap[g]?=some (.cells (jA.pv out) 26 (0,0)))/\Aside0 (Below w.heap.size w wx))
  case first=>
   go_wp2
   go_loopg [5] (s.size+1) (λgf s5 wx=>∃(m d:Nat),s5=.int .i64 (m:Int)/\m<=s.size/\s.size<=m+d/\Aside0 (jE.dend s d m=j)/\Aside0 (wx.heap[w.heap.size]?=some (.cells (jA.pv jE.z16) 26 (0,0)))/\Aside0 (wx.heap[g]?=some (.cells (jA.pv out) 26 (0,0)))/\Aside0 (Below w.heap.size w wx)/\s.size+1<=gf+m)
   case atStart=>exact⟨i,s.size,rfl,by omega,by omega,HJ,K2,K4,KB,by omega⟩
   case round=>
    clear K2 K4 KB;obtain⟨m,d,rfl,hms,hmd,HM,K2,K4,KB,hgm⟩:=hrel
    obtain⟨g2,rfl⟩:∃g2,gk=g2+1:=⟨gk-1,by omega⟩
    by_cases hme:m=s.size
    ·have ej:m=j:=by
      have e:=HM.out
      cases d with
      | zero=>exact e
      | succ d=>
       unfold jE.dend at e;rw[if_neg (by omega)] at e;exact e
     have b0:decide ((m:Int)<(s.size:Int))=false:=decide_eq_false (by omega);have b1:((m:Int)<(s.size:Int))=False:=eq_false (by omega);have b2:(m<s.size)=False:=eq_false (by omega);go_wp2;go_meet;exact⟨by rw[ej],K2,K4,KB⟩
    ·obtain⟨d,rfl⟩:∃x,d=x+1:=⟨d-1,by omega⟩
     have e:=HM.out;unfold jE.dend at e;have b0:decide ((m:Int)<(s.size:Int))=true:=decide_eq_true (by omega);have b1:((m:Int)<(s.size:Int))=True:=eq_true (by omega);have b2:(m<s.size)=True:=eq_true (by omega);have b3:(0<=(m:Int))=True:=eq_true (by omega);have hbx:∀h:m<s.size,((s[m]'h).toNat:Int)=bt s m:=jA6 s m;generalize bt s (m:Int)=c at e hbx;have ew:IntKind.i64.wrap ((m:Int)+1)=(m:Int)+1:=IntWalk.i64_in _ (by omega);clear HM
     by_cases c1:48<=c
     ·have t1:decide (48<=c)=true:=decide_eq_true c1
      have t2:(48<=c)=True:=eq_true c1
      by_cases c2:c<=57
      ·have t3:decide (c<=57)=true:=decide_eq_true c2
       have t4:(c<=57)=True:=eq_true c2;rw[if_pos ⟨by omega,c1,c2⟩] at e;have HM:=qA e;clear e;go_wp2
       go_roundg g2
       case measure=>omega
       case rel=>exact⟨m+1,d,by simp,by omega,by omega,HM,K2,K4,KB,by omega⟩
      ·have t3:decide (c<=57)=false:=decide_eq_false c2
       have t4:(c<=57)=False:=eq_false c2;rw[if_neg (by omega)] at e;have HX:=qA e;clear e;go_wp2;go_meet;exact⟨by rw[HX.out],K2,K4,KB⟩
     ·have t1:decide (48<=c)=false:=decide_eq_false c1
      have t2:(48<=c)=False:=eq_false c1;rw[if_neg (by omega)] at e;have HX:=qA e;clear e;go_wp2;go_meet;exact⟨by rw[HX.out],K2,K4,KB⟩
  case rest=>
   clear K2 K4 KB;obtain⟨rfl,K2,K4,KB⟩:=hcut;have hv:=HV.out
   by_cases hij:i<j
   ·have a1:decide ((i:Int)<(j:Int))=true:=decide_eq_true (by omega)
    have a2:((i:Int)<(j:Int))=True:=eq_true (by omega);have a3:(i<j)=True:=eq_true hij;rw[if_pos hij] at hv
    obtain⟨U,hU⟩:∃U,U=s.extract i j:=⟨_,rfl⟩
    rw[<- hU] at hv;have HNU:=qA (HNB.out U);rw[hv] at HNU
    have hsU:∀W,(Instr.slice 9 (.string s) (some (.int .i64 (i:Int))) (some (.int .i64 (j:Int))) none).run Tryz.prog W=.ok (.string U) W:=λW=>by
     rw[run_slice_string W 9 _ .i64 .i64 _ _ Tryz.underlying9 (by omega) (by omega) (by show(j:Int)<=s.size;omega),Int.toNat_natCast,Int.toNat_natCast,<- hU]
    clear hU hv HV;go_upto_region 14 with(first|(go_at_call 37;(with_reducible refine(jM.calls 60 _ _ _ HNU.out).mono ?_);rintro e_ w7 ⟨rfl,hd_⟩;have hb:=hd_.below;clear hd_;replace K2:=qB K2 hb;replace K4:=qB K4 hb;replace KB:=qS KB hb;clear hb));clear a1 a2 a3;have e:=HE.out
    by_cases hjs:j=s.size
    ·have f1:((j:Int)==(s.size:Int))=true:=beq_iff_eq.mpr (by omega)
     have f2:((j:Int)=(s.size:Int))=True:=eq_true (by omega);have f3:(j=s.size)=True:=eq_true hjs;rw[if_pos (.inl hjs)] at e;obtain⟨rfl,rfl⟩:=Prod.mk.inj e;clear e HE
     go_wp2_with (first|((with_reducible refine jG (N:=60) rfl ?_);refine jA.load rfl 26 (.tmp 4) rfl rfl K4.out Tryz.underlying26 rfl jA.infoH (by have:=HOL.out;omega) ?_;rw[show(out.drop 0).take 16=out by rw[List.drop_zero,List.take_of_length_le (by rw[HOL.out];omega)]])|((with_reducible refine jW (t:=26) (p:=2) (v:=.tmp 60) rfl ?_);refine jA.store (n:=16) rfl 26 (.tmp 2) (.tmp 60) rfl rfl rfl K2.out (by rw[jA.pv_size];rfl) HOL.out jA.infoH ?_;intro W3 s1 s2 s3;have S1:=qA s1;have S2:=qA (s2 _ _ (Nat.le_refl _) KB.out);clear s1 s2 s3))
     refine bodyPost_ret (jy (p:=2) (u:=3) (ty:=26) rfl _ _ w.heap.size 26 (jA.pv out) (0,0) _ rfl S1.out Tryz.underlying26 rfl (by rw[jA.infoH,jA.pv_size,HOL.out])) rfl ?_;exact⟨rfl,HOL.out,S2.out⟩
    have f1:((j:Int)==(s.size:Int))=false:=beq_eq_false_iff_ne.mpr (by omega);have f2:((j:Int)=(s.size:Int))=False:=eq_false (by omega);have f3:(j=s.size)=False:=eq_false hjs
    by_cases hv1:v<1
    ·have h1:decide (v<1)=true:=decide_eq_true hv1
     have h2:(v<1)=True:=eq_true hv1;rw[if_pos (.inr (.inl hv1))] at e;obtain⟨rfl,rfl⟩:=Prod.mk.inj e;clear e HE
     go_wp2_with (first|((with_reducible refine jG (N:=60) rfl ?_);refine jA.load rfl 26 (.tmp 4) rfl rfl K4.out Tryz.underlying26 rfl jA.infoH (by have:=HOL.out;omega) ?_;rw[show(out.drop 0).take 16=out by rw[List.drop_zero,List.take_of_length_le (by rw[HOL.out];omega)]])|((with_reducible refine jW (t:=26) (p:=2) (v:=.tmp 60) rfl ?_);refine jA.store (n:=16) rfl 26 (.tmp 2) (.tmp 60) rfl rfl rfl K2.out (by rw[jA.pv_size];rfl) HOL.out jA.infoH ?_;intro W3 s1 s2 s3;have S1:=qA s1;have S2:=qA (s2 _ _ (Nat.le_refl _) KB.out);clear s1 s2 s3))
     refine bodyPost_ret (jy (p:=2) (u:=3) (ty:=26) rfl _ _ w.heap.size 26 (jA.pv out) (0,0) _ rfl S1.out Tryz.underlying26 rfl (by rw[jA.infoH,jA.pv_size,HOL.out])) rfl ?_;exact⟨rfl,HOL.out,S2.out⟩
    have h1:decide (v<1)=false:=decide_eq_false hv1;have h2:(v<1)=False:=eq_false hv1
    by_cases hv18:18<v
    ·have h3:decide (18<v)=true:=decide_eq_true hv18
     have h4:(18<v)=True:=eq_true hv18;rw[if_pos (.inr (.inr hv18))] at e;obtain⟨rfl,rfl⟩:=Prod.mk.inj e;clear e HE
     go_wp2_with (first|((with_reducible refine jG (N:=60) rfl ?_);refine jA.load rfl 26 (.tmp 4) rfl rfl K4.out Tryz.underlying26 rfl jA.infoH (by have:=HOL.out;omega) ?_;rw[show(out.drop 0).take 16=out by rw[List.drop_zero,List.take_of_length_le (by rw[HOL.out];omega)]])|((with_reducible refine jW (t:=26) (p:=2) (v:=.tmp 60) rfl ?_);refine jA.store (n:=16) rfl 26 (.tmp 2) (.tmp 60) rfl rfl rfl K2.out (by rw[jA.pv_size];rfl) HOL.out jA.infoH ?_;intro W3 s1 s2 s3;have S1:=qA s1;have S2:=qA (s2 _ _ (Nat.le_refl _) KB.out);clear s1 s2 s3))
     refine bodyPost_ret (jy (p:=2) (u:=3) (ty:=26) rfl _ _ w.heap.size 26 (jA.pv out) (0,0) _ rfl S1.out Tryz.underlying26 rfl (by rw[jA.infoH,jA.pv_size,HOL.out])) rfl ?_;exact⟨rfl,HOL.out,S2.out⟩
    have h3:decide (18<v)=false:=decide_eq_false hv18;have h4:(18<v)=False:=eq_false hv18;rw[if_neg (by omega)] at e
    obtain⟨U2,hU2⟩:∃U,U=s.extract j (j+1):=⟨_,rfl⟩
    rw[<- hU2] at e;have ewj:IntKind.i64.wrap ((j:Int)+1)=(j:Int)+1:=IntWalk.i64_in _ (by omega)
    have hsU2:∀W,(Instr.slice 9 (.string s) (some (.int .i64 (j:Int))) (some (.int .i64 ((j:Int)+1))) none).run Tryz.prog W=.ok (.string U2) W:=λW=>by
     rw[run_slice_string W 9 _ .i64 .i64 _ _ Tryz.underlying9 (by omega) (by omega) (by show(j:Int)+1<=s.size;omega),Int.toNat_natCast,show((j:Int)+1).toNat=j+1 by omega,<- hU2]
    have HNM:=qA (HNA.out U2);generalize jAE U2=x at HNM e;have HKD:=qA (ym x);have HSD:=qA (jA2 x);have hs01:=rside_01 x;have hat:jE.at x=8*(jBH x).toNat+(yu x).toNat:=rfl;generalize jE.at x=at2 at e hat;generalize yu x=k at HKD e hs01 hat;generalize jBH x=sd at HSD hs01 hat;have HE2:=qA e;have HAT:=qA hat;clear e HE hU2 hat;go_upto_region 18 with(first|(go_at_call 56;(with_reducible refine(jZ.calls 60 _ _ _ HNM.out).mono ?_);rintro e_ w7 ⟨rfl,hb⟩;replace K2:=qB K2 hb;replace K4:=qB K4 hb;replace KB:=qS KB hb;clear hb)|(go_at_call 57;(with_reducible refine(jc.calls _ _ _ HKD.out).mono ?_);rintro e_ w7 ⟨rfl,hd_⟩;have hb:=hd_.below;clear hd_;replace K2:=qB K2 hb;replace K4:=qB K4 hb;replace KB:=qS KB hb;clear hb));have e:=HE2.out
    by_cases k1:k<1
    ·have p1:decide (k<1)=true:=decide_eq_true k1
     have p2:(k<1)=True:=eq_true k1;rw[if_pos (.inl k1)] at e;obtain⟨rfl,rfl⟩:=Prod.mk.inj e;clear e HE2
     go_wp2_with (first|((with_reducible refine jG (N:=84) rfl ?_);refine jA.load rfl 26 (.tmp 4) rfl rfl K4.out Tryz.underlying26 rfl jA.infoH (by have:=HOL.out;omega) ?_;rw[show(out.drop 0).take 16=out by rw[List.drop_zero,List.take_of_length_le (by rw[HOL.out];omega)]])|((with_reducible refine jW (t:=26) (p:=2) (v:=.tmp 84) rfl ?_);refine jA.store (n:=16) rfl 26 (.tmp 2) (.tmp 84) rfl rfl rfl K2.out (by rw[jA.pv_size];rfl) HOL.out jA.infoH ?_;intro W3 s1 s2 s3;have S1:=qA s1;have S2:=qA (s2 _ _ (Nat.le_refl _) KB.out);clear s1 s2 s3))
     refine bodyPost_ret (jy (p:=2) (u:=3) (ty:=26) rfl _ _ w.heap.size 26 (jA.pv out) (0,0) _ rfl S1.out Tryz.underlying26 rfl (by rw[jA.infoH,jA.pv_size,HOL.out])) rfl ?_;exact⟨rfl,HOL.out,S2.out⟩
    have p1:decide (k<1)=false:=decide_eq_false k1;have p2:(k<1)=False:=eq_false k1
    by_cases k7:7<k
    ·have p3:decide (7<k)=true:=decide_eq_true k7
     have p4:(7<k)=True:=eq_true k7;rw[if_pos (.inr (.inl k7))] at e;obtain⟨rfl,rfl⟩:=Prod.mk.inj e;clear e HE2
     go_wp2_with (first|((with_reducible refine jG (N:=84) rfl ?_);refine jA.load rfl 26 (.tmp 4) rfl rfl K4.out Tryz.underlying26 rfl jA.infoH (by have:=HOL.out;omega) ?_;rw[show(out.drop 0).take 16=out by rw[List.drop_zero,List.take_of_length_le (by rw[HOL.out];omega)]])|((with_reducible refine jW (t:=26) (p:=2) (v:=.tmp 84) rfl ?_);refine jA.store (n:=16) rfl 26 (.tmp 2) (.tmp 84) rfl rfl rfl K2.out (by rw[jA.pv_size];rfl) HOL.out jA.infoH ?_;intro W3 s1 s2 s3;have S1:=qA s1;have S2:=qA (s2 _ _ (Nat.le_refl _) KB.out);clear s1 s2 s3))
     refine bodyPost_ret (jy (p:=2) (u:=3) (ty:=26) rfl _ _ w.heap.size 26 (jA.pv out) (0,0) _ rfl S1.out Tryz.underlying26 rfl (by rw[jA.infoH,jA.pv_size,HOL.out])) rfl ?_;exact⟨rfl,HOL.out,S2.out⟩
    have p3:decide (7<k)=false:=decide_eq_false k7;have p4:(7<k)=False:=eq_false k7;have hs2:=hs01 (by omega)
    obtain⟨kn,rfl⟩:∃n:Nat,k=n:=⟨k.toNat,by omega⟩
    obtain⟨sn,rfl⟩:∃n:Nat,sd=n:=⟨sd.toNat,by omega⟩
    have hat:=HAT.out;rw[Int.toNat_natCast,Int.toNat_natCast,Nat.mul_comm 8 sn] at hat;subst hat;clear HAT hs01;have r1:(0<=(sn:Int)/\(sn:Int)<2)=True:=eq_true (by omega);have r2:((sn:Int)<2)=True:=eq_true (by omega);have r3:(0<=(kn:Int)/\(kn:Int)<8)=True:=eq_true (by omega);have r4:((kn:Int)<8)=True:=eq_true (by omega)
    obtain⟨ov,hov⟩:∃ov,out.getD (sn*8+kn) 0=ov:=⟨_,rfl⟩
    have hpv:(jA.pv out)[sn*8+kn]?=some (.int .i8 ov):=(jA.pv_get out _ (by have:=HOL.out;omega)).trans (by rw[hov]);have HPV:=qA hpv;rw[hov] at e;clear hov hpv HE2
    by_cases o0:ov=0
    ·have q1:(ov != 0)=false:=by rw[o0];rfl
     have q2:(ov==0)=true:=beq_iff_eq.mpr o0;rw[if_neg (by omega)] at e;have HE3:=qA e
     have q3:IntKind.i8.wrap v=v:=by simp only[IntKind.wrap,IntKind.bits,IntKind.signed];simp;omega
     clear e o0;go_upto_region 20 with(first|(go_at_call 58;(with_reducible refine(jm.calls _ _ _ HSD.out).mono ?_);rintro e_ w7 ⟨rfl,hd_⟩;have hb:=hd_.below;clear hd_;replace K2:=qB K2 hb;replace K4:=qB K4 hb;replace KB:=qS KB hb;clear hb;have cO:w7.cell? ⟨g,sn*8+kn,none⟩=some (.int .i8 ov):=(jB K4.out _).trans HPV.out;have fO:=jH K4.out (sn*8+kn)));go_upto_region 21 with(first|(go_at_call 58;(with_reducible refine(jm.calls _ _ _ HSD.out).mono ?_);rintro e_ w7 ⟨rfl,hd_⟩;have hb:=hd_.below;clear hd_;replace K2:=qB K2 hb;replace K4:=qB K4 hb;replace KB:=qS KB hb;clear hb;have cO:w7.cell? ⟨g,sn*8+kn,none⟩=some (.int .i8 ov):=(jB K4.out _).trans HPV.out;have fO:=jH K4.out (sn*8+kn)));have B2:=jp K2.out (p:=⟨g,sn*8+kn,none⟩) (by show w.heap.size≠g;have:=HG.out;omega) (.int .i8 v);have B4:=(zQ K4.out (sn*8+kn) (.int .i8 v)).trans (by rw[jA.pv_set]);have BB:=KB.out.setCell (p:=⟨g,sn*8+kn,none⟩) (by show w.heap.size<=g;have:=HG.out;omega) (.int .i8 v);generalize w7.setCell ⟨g,sn*8+kn,none⟩ (.int .i8 v)=W2 at *;clear K2 K4 KB;have K2:=qA B2;have K4:=qA B4;have KB:=qA BB;clear B2 B4 BB cO fO;go_wp2
     go_roundg g'
     case measure=>omega
     case rel=>exact⟨j+1,n,out.set (sn*8+kn) v,by simp,by omega,by omega,⟨by rw[List.length_set];exact HOL.out⟩,HE3,K2,K4,KB,by omega⟩
    ·have q1:(ov != 0)=true:=by simpa using o0
     have q2:(ov==0)=false:=beq_eq_false_iff_ne.mpr o0;rw[if_pos (.inr (.inr o0))] at e;obtain⟨rfl,rfl⟩:=Prod.mk.inj e;clear e
     go_wp2_with (first|(go_at_call 58;(with_reducible refine(jm.calls _ _ _ HSD.out).mono ?_);rintro e_ w7 ⟨rfl,hd_⟩;have hb:=hd_.below;clear hd_;replace K2:=qB K2 hb;replace K4:=qB K4 hb;replace KB:=qS KB hb;clear hb;have cO:w7.cell? ⟨g,sn*8+kn,none⟩=some (.int .i8 ov):=(jB K4.out _).trans HPV.out;have fO:=jH K4.out (sn*8+kn))|((with_reducible refine jG (N:=84) rfl ?_);refine jA.load rfl 26 (.tmp 4) rfl rfl K4.out Tryz.underlying26 rfl jA.infoH (by have:=HOL.out;omega) ?_;rw[show(out.drop 0).take 16=out by rw[List.drop_zero,List.take_of_length_le (by rw[HOL.out];omega)]])|((with_reducible refine jW (t:=26) (p:=2) (v:=.tmp 84) rfl ?_);refine jA.store (n:=16) rfl 26 (.tmp 2) (.tmp 84) rfl rfl rfl K2.out (by rw[jA.pv_size];rfl) HOL.out jA.infoH ?_;intro W3 s1 s2 s3;have S1:=qA s1;have S2:=qA (s2 _ _ (Nat.le_refl _) KB.out);clear s1 s2 s3))
     refine bodyPost_ret (jy (p:=2) (u:=3) (ty:=26) rfl _ _ w.heap.size 26 (jA.pv out) (0,0) _ rfl S1.out Tryz.underlying26 rfl (by rw[jA.infoH,jA.pv_size,HOL.out])) rfl ?_;exact⟨rfl,HOL.out,S2.out⟩
   ·have a1:decide ((i:Int)<(j:Int))=false:=decide_eq_false (by omega)
    have a2:((i:Int)<(j:Int))=False:=eq_false (by omega);have a3:(i<j)=False:=eq_false hij;rw[if_neg hij] at hv;subst hv;clear HV;go_upto_region 14 with(fail);clear a1 a2 a3;have e:=HE.out
    by_cases hjs:j=s.size
    ·have f1:((j:Int)==(s.size:Int))=true:=beq_iff_eq.mpr (by omega)
     have f2:((j:Int)=(s.size:Int))=True:=eq_true (by omega);have f3:(j=s.size)=True:=eq_true hjs;rw[if_pos (.inl hjs)] at e;obtain⟨rfl,rfl⟩:=Prod.mk.inj e;clear e HE
     go_wp2_with (first|((with_reducible refine jG (N:=60) rfl ?_);refine jA.load rfl 26 (.tmp 4) rfl rfl K4.out Tryz.underlying26 rfl jA.infoH (by have:=HOL.out;omega) ?_;rw[show(out.drop 0).take 16=out by rw[List.drop_zero,List.take_of_length_le (by rw[HOL.out];omega)]])|((with_reducible refine jW (t:=26) (p:=2) (v:=.tmp 60) rfl ?_);refine jA.store (n:=16) rfl 26 (.tmp 2) (.tmp 60) rfl rfl rfl K2.out (by rw[jA.pv_size];rfl) HOL.out jA.infoH ?_;intro W3 s1 s2 s3;have S1:=qA s1;have S2:=qA (s2 _ _ (Nat.le_refl _) KB.out);clear s1 s2 s3))
     refine bodyPost_ret (jy (p:=2) (u:=3) (ty:=26) rfl _ _ w.heap.size 26 (jA.pv out) (0,0) _ rfl S1.out Tryz.underlying26 rfl (by rw[jA.infoH,jA.pv_size,HOL.out])) rfl ?_;exact⟨rfl,HOL.out,S2.out⟩
    have f1:((j:Int)==(s.size:Int))=false:=beq_eq_false_iff_ne.mpr (by omega);have f2:((j:Int)=(s.size:Int))=False:=eq_false (by omega);have f3:(j=s.size)=False:=eq_false hjs;rw[if_neg (by omega)] at e
    obtain⟨U2,hU2⟩:∃U,U=s.extract j (j+1):=⟨_,rfl⟩
    rw[<- hU2] at e;have ewj:IntKind.i64.wrap ((j:Int)+1)=(j:Int)+1:=IntWalk.i64_in _ (by omega)
    have hsU2:∀W,(Instr.slice 9 (.string s) (some (.int .i64 (j:Int))) (some (.int .i64 ((j:Int)+1))) none).run Tryz.prog W=.ok (.string U2) W:=λW=>by
     rw[run_slice_string W 9 _ .i64 .i64 _ _ Tryz.underlying9 (by omega) (by omega) (by show(j:Int)+1<=s.size;omega),Int.toNat_natCast,show((j:Int)+1).toNat=j+1 by omega,<- hU2]
    have HNM:=qA (HNA.out U2);generalize jAE U2=x at HNM e;have HKD:=qA (ym x);have HSD:=qA (jA2 x);have hs01:=rside_01 x;have hat:jE.at x=8*(jBH x).toNat+(yu x).toNat:=rfl;generalize jE.at x=at2 at e hat;generalize yu x=k at HKD e hs01 hat;generalize jBH x=sd at HSD hs01 hat;have HE2:=qA e;have HAT:=qA hat;clear e HE hU2 hat;go_upto_region 18 with(first|(go_at_call 56;(with_reducible refine(jZ.calls 60 _ _ _ HNM.out).mono ?_);rintro e_ w7 ⟨rfl,hb⟩;replace K2:=qB K2 hb;replace K4:=qB K4 hb;replace KB:=qS KB hb;clear hb)|(go_at_call 57;(with_reducible refine(jc.calls _ _ _ HKD.out).mono ?_);rintro e_ w7 ⟨rfl,hd_⟩;have hb:=hd_.below;clear hd_;replace K2:=qB K2 hb;replace K4:=qB K4 hb;replace KB:=qS KB hb;clear hb));have e:=HE2.out
    by_cases k1:k<1
    ·have p1:decide (k<1)=true:=decide_eq_true k1
     have p2:(k<1)=True:=eq_true k1;rw[if_pos (.inl k1)] at e;obtain⟨rfl,rfl⟩:=Prod.mk.inj e;clear e HE2
     go_wp2_with (first|((with_reducible refine jG (N:=84) rfl ?_);refine jA.load rfl 26 (.tmp 4) rfl rfl K4.out Tryz.underlying26 rfl jA.infoH (by have:=HOL.out;omega) ?_;rw[show(out.drop 0).take 16=out by rw[List.drop_zero,List.take_of_length_le (by rw[HOL.out];omega)]])|((with_reducible refine jW (t:=26) (p:=2) (v:=.tmp 84) rfl ?_);refine jA.store (n:=16) rfl 26 (.tmp 2) (.tmp 84) rfl rfl rfl K2.out (by rw[jA.pv_size];rfl) HOL.out jA.infoH ?_;intro W3 s1 s2 s3;have S1:=qA s1;have S2:=qA (s2 _ _ (Nat.le_refl _) KB.out);clear s1 s2 s3))
     refine bodyPost_ret (jy (p:=2) (u:=3) (ty:=26) rfl _ _ w.heap.size 26 (jA.pv out) (0,0) _ rfl S1.out Tryz.underlying26 rfl (by rw[jA.infoH,jA.pv_size,HOL.out])) rfl ?_;exact⟨rfl,HOL.out,S2.out⟩
    have p1:decide (k<1)=false:=decide_eq_false k1;have p2:(k<1)=False:=eq_false k1
    by_cases k7:7<k
    ·have p3:decide (7<k)=true:=decide_eq_true k7
     have p4:(7<k)=True:=eq_true k7;rw[if_pos (.inr (.inl k7))] at e;obtain⟨rfl,rfl⟩:=Prod.mk.inj e;clear e HE2
     go_wp2_with (first|((with_reducible refine jG (N:=84) rfl ?_);refine jA.load rfl 26 (.tmp 4) rfl rfl K4.out Tryz.underlying26 rfl jA.infoH (by have:=HOL.out;omega) ?_;rw[show(out.drop 0).take 16=out by rw[List.drop_zero,List.take_of_length_le (by rw[HOL.out];omega)]])|((with_reducible refine jW (t:=26) (p:=2) (v:=.tmp 84) rfl ?_);refine jA.store (n:=16) rfl 26 (.tmp 2) (.tmp 84) rfl rfl rfl K2.out (by rw[jA.pv_size];rfl) HOL.out jA.infoH ?_;intro W3 s1 s2 s3;have S1:=qA s1;have S2:=qA (s2 _ _ (Nat.le_refl _) KB.out);clear s1 s2 s3))
     refine bodyPost_ret (jy (p:=2) (u:=3) (ty:=26) rfl _ _ w.heap.size 26 (jA.pv out) (0,0) _ rfl S1.out Tryz.underlying26 rfl (by rw[jA.infoH,jA.pv_size,HOL.out])) rfl ?_;exact⟨rfl,HOL.out,S2.out⟩
    have p3:decide (7<k)=false:=decide_eq_false k7;have p4:(7<k)=False:=eq_false k7;have hs2:=hs01 (by omega)
    obtain⟨kn,rfl⟩:∃n:Nat,k=n:=⟨k.toNat,by omega⟩
    obtain⟨sn,rfl⟩:∃n:Nat,sd=n:=⟨sd.toNat,by omega⟩
    have hat:=HAT.out;rw[Int.toNat_natCast,Int.toNat_natCast,Nat.mul_comm 8 sn] at hat;subst hat;clear HAT hs01;have r1:(0<=(sn:Int)/\(sn:Int)<2)=True:=eq_true (by omega);have r2:((sn:Int)<2)=True:=eq_true (by omega);have r3:(0<=(kn:Int)/\(kn:Int)<8)=True:=eq_true (by omega);have r4:((kn:Int)<8)=True:=eq_true (by omega)
    obtain⟨ov,hov⟩:∃ov,out.getD (sn*8+kn) 0=ov:=⟨_,rfl⟩
    have hpv:(jA.pv out)[sn*8+kn]?=some (.int .i8 ov):=(jA.pv_get out _ (by have:=HOL.out;omega)).trans (by rw[hov]);have HPV:=qA hpv;rw[hov] at e;clear hov hpv HE2
    by_cases o0:ov=0
    ·have q1:(ov != 0)=false:=by rw[o0];rfl
     have q2:(ov==0)=true:=beq_iff_eq.mpr o0;rw[if_neg (by omega)] at e;have HE3:=qA e
     have q3:IntKind.i8.wrap 1=1:=by decide +kernel
     clear e o0;go_upto_region 20 with(first|(go_at_call 58;(with_reducible refine(jm.calls _ _ _ HSD.out).mono ?_);rintro e_ w7 ⟨rfl,hd_⟩;have hb:=hd_.below;clear hd_;replace K2:=qB K2 hb;replace K4:=qB K4 hb;replace KB:=qS KB hb;clear hb;have cO:w7.cell? ⟨g,sn*8+kn,none⟩=some (.int .i8 ov):=(jB K4.out _).trans HPV.out;have fO:=jH K4.out (sn*8+kn)));go_upto_region 21 with(first|(go_at_call 58;(with_reducible refine(jm.calls _ _ _ HSD.out).mono ?_);rintro e_ w7 ⟨rfl,hd_⟩;have hb:=hd_.below;clear hd_;replace K2:=qB K2 hb;replace K4:=qB K4 hb;replace KB:=qS KB hb;clear hb;have cO:w7.cell? ⟨g,sn*8+kn,none⟩=some (.int .i8 ov):=(jB K4.out _).trans HPV.out;have fO:=jH K4.out (sn*8+kn)));have B2:=jp K2.out (p:=⟨g,sn*8+kn,none⟩) (by show w.heap.size≠g;have:=HG.out;omega) (.int .i8 1);have B4:=(zQ K4.out (sn*8+kn) (.int .i8 1)).trans (by rw[jA.pv_set]);have BB:=KB.out.setCell (p:=⟨g,sn*8+kn,none⟩) (by show w.heap.size<=g;have:=HG.out;omega) (.int .i8 1);generalize w7.setCell ⟨g,sn*8+kn,none⟩ (.int .i8 1)=W2 at *;clear K2 K4 KB;have K2:=qA B2;have K4:=qA B4;have KB:=qA BB;clear B2 B4 BB cO fO;go_wp2
     go_roundg g'
     case measure=>omega
     case rel=>exact⟨j+1,n,out.set (sn*8+kn) 1,by simp,by omega,by omega,⟨by rw[List.length_set];exact HOL.out⟩,HE3,K2,K4,KB,by omega⟩
    ·have q1:(ov != 0)=true:=by simpa using o0
     have q2:(ov==0)=false:=beq_eq_false_iff_ne.mpr o0;rw[if_pos (.inr (.inr o0))] at e;obtain⟨rfl,rfl⟩:=Prod.mk.inj e;clear e
     go_wp2_with (first|(go_at_call 58;(with_reducible refine(jm.calls _ _ _ HSD.out).mono ?_);rintro e_ w7 ⟨rfl,hd_⟩;have hb:=hd_.below;clear hd_;replace K2:=qB K2 hb;replace K4:=qB K4 hb;replace KB:=qS KB hb;clear hb;have cO:w7.cell? ⟨g,sn*8+kn,none⟩=some (.int .i8 ov):=(jB K4.out _).trans HPV.out;have fO:=jH K4.out (sn*8+kn))|((with_reducible refine jG (N:=84) rfl ?_);refine jA.load rfl 26 (.tmp 4) rfl rfl K4.out Tryz.underlying26 rfl jA.infoH (by have:=HOL.out;omega) ?_;rw[show(out.drop 0).take 16=out by rw[List.drop_zero,List.take_of_length_le (by rw[HOL.out];omega)]])|((with_reducible refine jW (t:=26) (p:=2) (v:=.tmp 84) rfl ?_);refine jA.store (n:=16) rfl 26 (.tmp 2) (.tmp 84) rfl rfl rfl K2.out (by rw[jA.pv_size];rfl) HOL.out jA.infoH ?_;intro W3 s1 s2 s3;have S1:=qA s1;have S2:=qA (s2 _ _ (Nat.le_refl _) KB.out);clear s1 s2 s3))
     refine bodyPost_ret (jy (p:=2) (u:=3) (ty:=26) rfl _ _ w.heap.size 26 (jA.pv out) (0,0) _ rfl S1.out Tryz.underlying26 rfl (by rw[jA.infoH,jA.pv_size,HOL.out])) rfl ?_;exact⟨rfl,HOL.out,S2.out⟩
end Go.Proofs.YtigenhbmgpfffaaGreatDoor.Pa
