import Derived.Test.YtigenhbmgpfffaaGreatDoorB38
set_option maxRecDepth 100000
set_option maxHeartbeats 16000000
namespace Go.Proofs.YtigenhbmgpfffaaGreatDoor.Pa
open Go.RowKit Go.Proofs.YtigenhbmgpfffaaGreatDoorW.PrintWords Go.Proofs.YtigenhbmgpfffaaGreatDoorW.PrintLast Go.Proofs.YtigenhbmgpfffaaGreatDoorW.PrintMore
attribute [local go_sem] yE yC yM yL zo zn yD yB
set_option linter.unusedVariables false
set_option linter.unusedSimpArgs false
def rdig (n:Nat):ByteArray:=(jg.f 20 (n:Int)).getD ⟨#[]⟩
def yt (x:Int):ByteArray:=(jU.f 40 x).getD ⟨#[]⟩
def jx.go (cs:List Int) (r:Nat):Nat->Nat->ByteArray->ByteArray
 | 0,free,s=>if 0<free then s++rdig free else s
 | d+1,free,s=>if wrap64 (cs.getD (9*d+r) 0)=0 then jx.go cs r d (free+1) s else jx.go cs r d 0 ((if 0<free then s++rdig free else s)++yt (wrap64 (cs.getD (9*d+r) 0)))
def jx.f (cs:List Int) (r:Nat):ByteArray:=jx.go cs r 9 0 ⟨#[]⟩
theorem jx.rank_calls (cs:List Int) (r:Nat) (R:ByteArray) (w:World) (hl:cs.length=98) (hr:r<9) (hD:∀n:Nat,n<=127->jg.f 20 (n:Int)=some (rdig n)/\(rdig n).size<=4) (hN:∀x:Int,-128<=x->x<=127->jU.f 40 x=some (yt x)/\(yt x).size<=2) (hp:∀i:Nat,-128<=cs.getD i 0/\cs.getD i 0<=127) (h:jx.f cs r=R):
  Calls Tryz.prog 30 #[.agg (jA.pv cs),.int .i64 (r:Int)] w λe w'=>e=.returned (.string R)/\Below w.heap.size w w':=by
 have HD:=qA hD;have HN:=qA hN;have HR:=qA h;clear hD hN h;have B1:(w.alloc (Obj.cells (jA.pv cs) 28)).heap[w.heap.size]?=some (.cells (jA.pv cs) 28 (0,0)):=zJ w _;have BB:Below w.heap.size w (w.alloc (Obj.cells (jA.pv cs) 28)):=ji (Below.refl _ _) _;go_enter Tryz.func30,Tryz.ntmps30;go_upto_region 1 with(fail);generalize w.alloc (Obj.cells (jA.pv cs) 28)=W at *;have K1:=qA B1;have KB:=qA BB;clear B1 BB;go_wp2
 go_loopg [5,6,7] 10 (λgf s5 s6 s7 wx=>∃(s:ByteArray) (fr d:Nat) (m:Int),s5=.string s/\s6=.int .i64 (fr:Int)/\s7=.int .i64 m/\m+1=(d:Int)/\fr+d<=9/\s.size+6*d<=60/\Aside0 (jx.go cs r d fr s=R)/\Aside0 (wx.heap[w.heap.size]?=some (.cells (jA.pv cs) 28 (0,0)))/\Aside0 (Below w.heap.size w wx)/\d+1<=gf)
 case atStart=>exact⟨⟨#[]⟩,0,9,8,rfl,rfl,rfl,rfl,by omega,by decide,HR,K1,KB,by omega⟩
 case round=>
  clear K1 KB HR;obtain⟨s,fr,d,m,rfl,rfl,rfl,hm,hfd,hss,HR,K1,KB,hgf⟩:=hrel;obtain⟨hdg,hdz⟩:=HD.out fr (by omega);have HDG:=qA hdg;clear hdg
  obtain⟨g',rfl⟩:∃g',gk=g'+1:=⟨gk-1,by omega⟩
  cases d with
  | zero=>
   obtain rfl:m = -1:=by omega
   have e:=HR.out;unfold jx.go at e;generalize rdig fr=dg at HDG hdz e
   by_cases hf:0<fr
   ·have b1:decide (0<(fr:Int))=true:=decide_eq_true (by omega)
    have b2:decide (0<fr)=true:=decide_eq_true hf;have b3:(0<fr)=True:=eq_true hf;rw[if_pos hf] at e;have HE:=qA e;clear e HR;have u1:(9223372036854775807<s.size+dg.size)=False:=eq_false (by omega);have v1:(s.size+dg.size<=9223372036854775807)=True:=eq_true (by omega)
    go_wp2_with (first|(go_at_call 32;(with_reducible refine(jg.calls 20 _ _ _ HDG.out).mono ?_);rintro e_ w7 ⟨rfl,hb⟩;replace K1:=qB K1 hb;replace KB:=qS KB hb;clear hb))
    go_ret;exact⟨by rw[<- HE.out];rfl,KB.out⟩
   ·have b1:decide (0<(fr:Int))=false:=decide_eq_false (by omega)
    have b2:decide (0<fr)=false:=decide_eq_false hf;have b3:(0<fr)=False:=eq_false hf;rw[if_neg hf] at e;have HE:=qA e;clear e HR;go_wp2;go_ret;exact⟨by rw[<- HE.out];rfl,KB.out⟩
  | succ d=>
   obtain rfl:m=(d:Int):=by omega
   obtain⟨q,hq⟩:∃q:Nat,q=9*d+r:=⟨_,rfl⟩
   obtain⟨m9,hm9⟩:∃m9:Nat,m9=9*d:=⟨_,rfl⟩
   have e0:decide (0<=(d:Int))=true:=decide_eq_true (by omega)
   have e1:IntKind.i64.wrap (9*(d:Int))=(m9:Int):=by rw[IntWalk.i64_in _ (by omega)];omega
   have e2:IntKind.i64.wrap ((m9:Int)+(r:Int))=(q:Int):=by rw[IntWalk.i64_in _ (by omega)];omega
   have e4:IntKind.i64.wrap ((d:Int)-1)=(d:Int)-1:=IntWalk.i64_in _ (by omega);have e5:IntKind.i64.wrap ((fr:Int)+1)=(fr:Int)+1:=IntWalk.i64_in _ (by omega);have a1:(0<=(q:Int)/\(q:Int)<81)=True:=eq_true (by omega);have a3:((q:Int)<81)=True:=eq_true (by omega);have cN:wr.cell? ⟨w.heap.size,q,none⟩=some (.int .i8 (cs.getD q 0)):=(jB K1.out q).trans (jA.pv_get cs q (by omega));have e:=HR.out;unfold jx.go at e;rw[<- hq] at e;have hwv:=hp q;generalize cs.getD q 0=v at cN e hwv;have hw2:wrap64 v=v:=IntWalk.wrap64_in v (by omega);obtain⟨hnm,hnz⟩:=HN.out v (by omega) (by omega);rw[hw2] at e;have HNM:=qA hnm;have HQ:=qA hq;have HM:=qA hm9;clear hnm hq hm9 HR hw2;generalize yt v=nm at HNM hnz e;generalize rdig fr=dg at HDG hdz e
   by_cases hy:v=0
   ·have b1:(v==0)=true:=beq_iff_eq.mpr hy
    rw[if_pos hy] at e;have HE:=qA e;clear e hy HNM;go_wp2
    go_roundg g'
    case measure=>omega
    case rel=>exact⟨s,fr+1,d,(d:Int)-1,rfl,by simp,rfl,by omega,by omega,by omega,HE,K1,KB,by omega⟩
   ·have b1:(v==0)=false:=beq_eq_false_iff_ne.mpr hy
    rw[if_neg hy] at e
    by_cases hf:0<fr
    ·have b2:decide (0<(fr:Int))=true:=decide_eq_true (by omega)
     have b3:decide (0<fr)=true:=decide_eq_true hf;have b4:(0<fr)=True:=eq_true hf;rw[if_pos hf] at e;have HE:=qA e;clear e hy;have hz2:(s++dg).size=s.size+dg.size:=ByteArray.size_append;have u1:(9223372036854775807<s.size+dg.size)=False:=eq_false (by omega);have v1:(s.size+dg.size<=9223372036854775807)=True:=eq_true (by omega);have u2:(9223372036854775807<(s++dg).size+nm.size)=False:=eq_false (by omega);have v2:((s++dg).size+nm.size<=9223372036854775807)=True:=eq_true (by omega);have u3:(9223372036854775807<(s.size+dg.size)+nm.size)=False:=eq_false (by omega);have v3:((s.size+dg.size)+nm.size<=9223372036854775807)=True:=eq_true (by omega)
     go_wp2_with (first|(go_at_call 32;(with_reducible refine(jg.calls 20 _ _ _ HDG.out).mono ?_);rintro e_ w7 ⟨rfl,hb⟩;replace K1:=qB K1 hb;replace KB:=qS KB hb;clear hb)|(go_at_call 53;(with_reducible refine(jU.calls 40 _ _ _ HNM.out).mono ?_);rintro e_ w7 ⟨rfl,hb⟩;replace K1:=qB K1 hb;replace KB:=qS KB hb;clear hb))
     go_roundg g'
     case measure=>omega
     case rel=>exact⟨_,0,d,(d:Int)-1,rfl,rfl,rfl,by omega,by omega,by rw[ByteArray.size_append,ByteArray.size_append];omega,HE,K1,KB,by omega⟩
    ·have b2:decide (0<(fr:Int))=false:=decide_eq_false (by omega)
     have b3:decide (0<fr)=false:=decide_eq_false hf;have b4:(0<fr)=False:=eq_false hf;rw[if_neg hf] at e;have HE:=qA e
     obtain rfl:fr=0:=by omega
     clear e hy;have u2:(9223372036854775807<s.size+nm.size)=False:=eq_false (by omega);have v2:(s.size+nm.size<=9223372036854775807)=True:=eq_true (by omega)
     go_wp2_with (first|(go_at_call 53;(with_reducible refine(jU.calls 40 _ _ _ HNM.out).mono ?_);rintro e_ w7 ⟨rfl,hb⟩;replace K1:=qB K1 hb;replace KB:=qS KB hb;clear hb))
     go_roundg g'
     case measure=>omega
     case rel=>exact⟨_,0,d,(d:Int)-1,rfl,rfl,rfl,by omega,by omega,by rw[ByteArray.size_append];omega,HE,K1,KB,by omega⟩
def rkey (cs:List Int) (s i:Nat):Int:=cs.getD (81+8*s+(7-i)) 0
def jR.add (cs:List Int) (s i:Nat) (t:ByteArray):ByteArray:=
 if 0<rkey cs s i then(if 1<rkey cs s i then t++rdig (rkey cs s i).toNat else t)++yt ((16*s+(7-i):Nat):Int) else t
def jR.inner (cs:List Int) (s:Nat):Nat->Nat->ByteArray->ByteArray
 | _,0,t=>t
 | i,d+1,t=>jR.inner cs s (i+1) d (jR.add cs s i t)
def jR.outer (cs:List Int):Nat->Nat->ByteArray->ByteArray
 | _,0,t=>t
 | s,d+1,t=>jR.outer cs (s+1) d (jR.inner cs s 0 7 t)
def jR.f (cs:List Int):ByteArray:=if(jR.outer cs 0 2 ⟨#[]⟩).toList=[] then⟨#[45]⟩ else jR.outer cs 0 2 ⟨#[]⟩
theorem jR.hand_calls (cs:List Int) (R:ByteArray) (w:World) (hl:cs.length=98) (hD:∀n:Nat,n<=127->jg.f 20 (n:Int)=some (rdig n)/\(rdig n).size<=4) (hN:∀x:Int,-128<=x->x<=127->jU.f 40 x=some (yt x)/\(yt x).size<=2) (hp:∀i:Nat,-128<=cs.getD i 0/\cs.getD i 0<=127) (h:jR.f cs=R):
  Calls Tryz.prog 31 #[.agg (jA.pv cs)] w λe w'=>e=.returned (.string R)/\Below w.heap.size w w':=by
 have HD:=qA hD;have HN:=qA hN;have HF:=qA h
 obtain⟨F,hF⟩:∃F,jR.outer cs 0 2 ⟨#[]⟩=F:=⟨_,rfl⟩
 have HR:=qA hF;have HFF:=qA hF;clear hD hN h hF;have B1:(w.alloc (Obj.cells (jA.pv cs) 28)).heap[w.heap.size]?=some (.cells (jA.pv cs) 28 (0,0)):=zJ w _;have BB:Below w.heap.size w (w.alloc (Obj.cells (jA.pv cs) 28)):=ji (Below.refl _ _) _;go_enter Tryz.func31,Tryz.ntmps31;go_upto_region 1 with(fail);generalize w.alloc (Obj.cells (jA.pv cs) 28)=W at *;have K1:=qA B1;have KB:=qA BB;clear B1 BB
 have hord:∀i:Nat,i<7->(#[Value.int IntKind.i64 7,Value.int IntKind.i64 6,Value.int IntKind.i64 5,Value.int IntKind.i64 4,Value.int IntKind.i64 3,Value.int IntKind.i64 2,Value.int IntKind.i64 1]:Array Value)[i]?=some (.int .i64 ((7-i:Nat):Int)):=λi hi=>by
  obtain rfl|rfl|rfl|rfl|rfl|rfl|rfl:i=0\/i=1\/i=2\/i=3\/i=4\/i=5\/i=6:=by omega
  all_goals rfl
 go_upto_region 3 with(fail);have BO:=zJ W (Obj.cells #[Value.int IntKind.i64 7,Value.int IntKind.i64 6,Value.int IntKind.i64 5,Value.int IntKind.i64 4,Value.int IntKind.i64 3,Value.int IntKind.i64 2,Value.int IntKind.i64 1] 3);have BK:=jI K1.out (Obj.cells #[Value.int IntKind.i64 7,Value.int IntKind.i64 6,Value.int IntKind.i64 5,Value.int IntKind.i64 4,Value.int IntKind.i64 3,Value.int IntKind.i64 2,Value.int IntKind.i64 1] 3);have BB:=ji KB.out (Obj.cells #[Value.int IntKind.i64 7,Value.int IntKind.i64 6,Value.int IntKind.i64 5,Value.int IntKind.i64 4,Value.int IntKind.i64 3,Value.int IntKind.i64 2,Value.int IntKind.i64 1] 3);generalize (W.alloc (Obj.cells #[Value.int IntKind.i64 7,Value.int IntKind.i64 6,Value.int IntKind.i64 5,Value.int IntKind.i64 4,Value.int IntKind.i64 3,Value.int IntKind.i64 2,Value.int IntKind.i64 1] 3))=W2 at *;generalize W.heap.size=g at *;generalize (#[Value.int IntKind.i64 7,Value.int IntKind.i64 6,Value.int IntKind.i64 5,Value.int IntKind.i64 4,Value.int IntKind.i64 3,Value.int IntKind.i64 2,Value.int IntKind.i64 1]:Array Value)=OA at *;clear K1 KB;have HOD:=qA hord;have KO:=qA BO;have K1:=qA BK;have KB:=qA BB;clear BO BK BB hord;go_wp2
 go_loopg [3,5] 3 (λgf s3 s5 wx=>∃(t:ByteArray) (sd:Nat),s3=.string t/\s5=.int .i64 (sd:Int)/\sd<=2/\t.size<=42*sd/\Aside0 (jR.outer cs sd (2-sd) t=F)/\Aside0 (wx.heap[g]?=some (.cells OA 3 (0,0)))/\Aside0 (wx.heap[w.heap.size]?=some (.cells (jA.pv cs) 28 (0,0)))/\Aside0 (Below w.heap.size w wx)/\3<=gf+sd)
 case atStart=>exact⟨⟨#[]⟩,0,rfl,rfl,by omega,by decide,HR,KO,K1,KB,by omega⟩
 case round=>
  clear KO K1 KB HR;obtain⟨t,sd,rfl,rfl,hsd,hts,HR,KO,K1,KB,hgf⟩:=hrel
  obtain⟨g',rfl⟩:∃g',gk=g'+1:=⟨gk-1,by omega⟩
  by_cases hend:sd=2
  ·subst hend
   obtain rfl:t=F:=HR.out;have e:=HF.out;unfold jR.f at e;rw[HFF.out] at e
   by_cases hz:t.toList=[]
   ·have f0:(t.toList==[])=true:=by rw[hz];rfl
    rw[if_pos hz] at e;have HE:=qA e;clear e hz HF HR;go_wp2;go_ret;exact⟨by rw[<- HE.out];rfl,KB.out⟩
   ·have f0:(t.toList==[])=false:=by rw[beq_eq_false_iff_ne];exact hz
    rw[if_neg hz] at e;have HE:=qA e;clear e hz HF HR;go_wp2;go_ret;exact⟨by rw[<- HE.out];rfl,KB.out⟩
  ·have b0:decide ((sd:Int)<2)=true:=decide_eq_true (by omega)
   have b1:(0<=(sd:Int)/\(sd:Int)<2)=True:=eq_true (by omega);have b3:((sd:Int)<2)=True:=eq_true (by omega);have ew:IntKind.i64.wrap ((sd:Int)+1)=(sd:Int)+1:=IntWalk.i64_in _ (by omega)
   have HR1:Aside0 (jR.outer cs (sd+1) (1-sd) (jR.inner cs sd 0 7 t)=F):=⟨by
    have e:=HR.out;rw[show 2-sd=(1-sd)+1 by omega] at e
    exact e⟩
   clear HR;go_wp2
   go_loopg [3,6] 8 (λgf s3 s6 wx=>∃(t:ByteArray) (i:Nat),s3=.string t/\s6=.int .i64 (i:Int)/\i<=7/\t.size<=42*sd+6*i/\Aside0 (jR.outer cs (sd+1) (1-sd) (jR.inner cs sd i (7-i) t)=F)/\Aside0 (wx.heap[g]?=some (.cells OA 3 (0,0)))/\Aside0 (wx.heap[w.heap.size]?=some (.cells (jA.pv cs) 28 (0,0)))/\Aside0 (Below w.heap.size w wx)/\8<=gf+i)
   case atStart=>exact⟨t,0,rfl,rfl,by omega,by omega,HR1,KO,K1,KB,by omega⟩
   case round=>
    clear KO K1 KB HR1 hts;clear t;obtain⟨t,i,rfl,rfl,hi,hts,HR,KO,K1,KB,hgi⟩:=hrel
    obtain⟨g2,rfl⟩:∃g2,gk=g2+1:=⟨gk-1,by omega⟩
    by_cases hend2:i=7
    ·subst hend2
     have HE:Aside0 (jR.outer cs (sd+1) (2-(sd+1)) t=F):=⟨by rw[show 2-(sd+1)=1-sd by omega];exact HR.out⟩
     clear HR;go_wp2
     go_roundg g'
     case measure=>omega
     case rel=>exact⟨t,sd+1,rfl,by simp,by omega,by omega,HE,KO,K1,KB,by omega⟩
    ·have c0:decide ((i:Int)<7)=true:=decide_eq_true (by omega)
     have c1:(0<=(i:Int)/\(i:Int)<7)=True:=eq_true (by omega);have c3:((i:Int)<7)=True:=eq_true (by omega);have c4:(i<7)=True:=eq_true (by omega);have ei:IntKind.i64.wrap ((i:Int)+1)=(i:Int)+1:=IntWalk.i64_in _ (by omega);have cO:wr.cell? ⟨g,i,none⟩=some (.int .i64 ((7-i:Nat):Int)):=(jB KO.out i).trans (HOD.out i (by omega))
     obtain⟨k,hk⟩:∃k,k=7-i:=⟨_,rfl⟩
     rw[<- hk] at cO;have d1:(0<=(k:Int)/\(k:Int)<8)=True:=eq_true (by omega);have d3:((k:Int)<8)=True:=eq_true (by omega);have cc:wr.cell? ⟨w.heap.size,81+sd*8+k,none⟩=some (.int .i8 (cs.getD (81+sd*8+k) 0)):=(jB K1.out _).trans (jA.pv_get cs _ (by omega));have hv:=hp (81+sd*8+k)
     have hkey:rkey cs sd i=cs.getD (81+sd*8+k) 0:=by unfold rkey;rw[hk,Nat.mul_comm 8 sd]
     have e:=HR.out;rw[show 7-i=(7-(i+1))+1 by omega] at e;replace e:jR.outer cs (sd+1) (1-sd) (jR.inner cs sd (i+1) (7-(i+1)) (jR.add cs sd i t))=F:=e;have hadd:jR.add cs sd i t=if 0<rkey cs sd i then(if 1<rkey cs sd i then t++rdig (rkey cs sd i).toNat else t)++yt ((16*sd+(7-i):Nat):Int) else t:=rfl;rw[hkey,<- hk] at hadd;generalize cs.getD (81+sd*8+k) 0=v at cc hv hadd;have ev:IntKind.i64.wrap v=v:=IntWalk.i64_in _ (by omega)
     obtain⟨c,hc⟩:∃c:Nat,c=16*sd+k:=⟨_,rfl⟩
     rw[<- hc] at hadd;have f1:IntKind.i64.wrap (16*(sd:Int))=16*(sd:Int):=IntWalk.i64_in _ (by omega)
     have f2:IntKind.i64.wrap (16*(sd:Int)+(k:Int))=(c:Int):=by rw[IntWalk.i64_in _ (by omega)];omega
     obtain⟨hnm,hnz⟩:=HN.out (c:Int) (by omega) (by omega);have HNM:=qA hnm;generalize yt (c:Int)=nm at HNM hnz hadd;have HK:=qA hk;have HC:=qA hc;clear hnm hk hc HR hkey
     by_cases h0:0<v
     ·have t0:decide (0<v)=true:=decide_eq_true h0
      have t1:(0<v)=True:=eq_true h0
      obtain⟨nn,rfl⟩:∃nn:Nat,v=nn:=⟨v.toNat,by omega⟩
      rw[if_pos h0,Int.toNat_natCast] at hadd
      by_cases h1:1<(nn:Int)
      ·have t2:decide (1<(nn:Int))=true:=decide_eq_true h1
       have t3:(1<nn)=True:=eq_true (by omega);have t5:(0<nn)=True:=eq_true (by omega);rw[if_pos h1] at hadd;obtain⟨hdg,hdz⟩:=HD.out nn (by omega);have HDG:=qA hdg;generalize rdig nn=dg at HDG hdz hadd;rw[hadd] at e;have HE:=qA e;clear e hadd hdg;have hz2:(t++dg).size=t.size+dg.size:=ByteArray.size_append;have u1:(9223372036854775807<t.size+dg.size)=False:=eq_false (by omega);have v1:(t.size+dg.size<=9223372036854775807)=True:=eq_true (by omega);have u2:(9223372036854775807<(t++dg).size+nm.size)=False:=eq_false (by omega);have v2:((t++dg).size+nm.size<=9223372036854775807)=True:=eq_true (by omega);have u3:(9223372036854775807<(t.size+dg.size)+nm.size)=False:=eq_false (by omega);have v3:((t.size+dg.size)+nm.size<=9223372036854775807)=True:=eq_true (by omega);go_upto_region 9 with(fail)
       go_quiet (fail)
       clear cO cc;have n1:=qA (jQ K1.out nq);have nO:=qA (jQ KO.out nq);have nB:=qA (zi KB.out nq);generalize wr.drewN nq=W3 at *;clear K1 KO KB;have K1:=n1;have KO:=nO;have KB:=nB;clear n1 nO nB;go_upto_region 13 with(first|(go_at_call 32;(with_reducible refine(jg.calls 20 _ _ _ HDG.out).mono ?_);rintro e_ w7 ⟨rfl,hb⟩;replace K1:=qB K1 hb;replace KO:=qB KO hb;replace KB:=qS KB hb;clear hb));have cO:w7.cell? ⟨g,i,none⟩=some (.int .i64 (k:Int)):=(jB KO.out i).trans ((HOD.out i (by omega)).trans (by rw[HK.out]))
       go_wp2_with (first|(go_at_call 53;(with_reducible refine(jU.calls 40 _ _ _ HNM.out).mono ?_);rintro e_ w7 ⟨rfl,hb⟩;replace K1:=qB K1 hb;replace KO:=qB KO hb;replace KB:=qS KB hb;clear hb))
       go_roundg g2
       case measure=>omega
       case rel=>exact⟨_,i+1,rfl,by simp,by omega,by rw[ByteArray.size_append,ByteArray.size_append];omega,HE,KO,K1,KB,by omega⟩
      ·have t2:decide (1<(nn:Int))=false:=decide_eq_false h1
       have t3:(1<nn)=False:=eq_false (by omega);have t5:(0<nn)=True:=eq_true (by omega);rw[if_neg h1] at hadd;rw[hadd] at e;have HE:=qA e;clear e hadd;have u2:(9223372036854775807<t.size+nm.size)=False:=eq_false (by omega);have v2:(t.size+nm.size<=9223372036854775807)=True:=eq_true (by omega);go_upto_region 9 with(fail)
       go_quiet (fail)
       clear cO cc;have n1:=qA (jQ K1.out nq);have nO:=qA (jQ KO.out nq);have nB:=qA (zi KB.out nq);generalize wr.drewN nq=W3 at *;clear K1 KO KB;have K1:=n1;have KO:=nO;have KB:=nB;clear n1 nO nB;go_upto_region 13 with(fail);have cO:W3.cell? ⟨g,i,none⟩=some (.int .i64 (k:Int)):=(jB KO.out i).trans ((HOD.out i (by omega)).trans (by rw[HK.out]))
       go_wp2_with (first|(go_at_call 53;(with_reducible refine(jU.calls 40 _ _ _ HNM.out).mono ?_);rintro e_ w7 ⟨rfl,hb⟩;replace K1:=qB K1 hb;replace KO:=qB KO hb;replace KB:=qS KB hb;clear hb))
       go_roundg g2
       case measure=>omega
       case rel=>exact⟨_,i+1,rfl,by simp,by omega,by rw[ByteArray.size_append];omega,HE,KO,K1,KB,by omega⟩
     ·have t0:decide (0<v)=false:=decide_eq_false h0
      have t1:(0<v)=False:=eq_false h0;have t2:decide (1<v)=false:=decide_eq_false (by omega);have t3:(1<v)=False:=eq_false (by omega);rw[if_neg h0] at hadd;rw[hadd] at e;have HE:=qA e;clear e hadd;go_upto_region 9 with(fail)
      go_quiet (fail)
      go_wp2
      go_roundg g2
      case measure=>omega
      case rel=>exact⟨t,i+1,rfl,by simp,by omega,by omega,HE,⟨KO.out⟩,⟨K1.out⟩,⟨zi KB.out _⟩,by omega⟩
theorem jx.size (cs:List Int) (r:Nat) (hD:∀n:Nat,n<=127->jg.f 20 (n:Int)=some (rdig n)/\(rdig n).size<=4) (hN:∀x:Int,-128<=x->x<=127->jU.f 40 x=some (yt x)/\(yt x).size<=2) (hp:∀i:Nat,-128<=cs.getD i 0/\cs.getD i 0<=127):∀(d fr:Nat) (s:ByteArray),fr+d<=9->(jx.go cs r d fr s).size<=s.size+6*d+4
 | 0,fr,s,h=>by
  have:=(hD fr (by omega)).2;unfold jx.go
  split
  ·rw[ByteArray.size_append];omega
  ·omega
 | d+1,fr,s,h=>by
  have h1:=(hD fr (by omega)).2;have h3:=hp (9*d+r);have hw:wrap64 (cs.getD (9*d+r) 0)=cs.getD (9*d+r) 0:=IntWalk.wrap64_in _ (by omega);have h2:=(hN (cs.getD (9*d+r) 0) (by omega) (by omega)).2;unfold jx.go;rw[hw]
  split
  ·have:=jx.size cs r hD hN hp d (fr+1) s (by omega)
   omega
  ·obtain⟨T,hT⟩:∃T,(if 0<fr then s++rdig fr else s)=T:=⟨_,rfl⟩
   have hz:T.size<=s.size+4:=by
    rw[<- hT]
    split
    ·rw[ByteArray.size_append];omega
    ·omega
   rw[hT];have:=jx.size cs r hD hN hp d 0 (T++yt (cs.getD (9*d+r) 0)) (by omega);rw[ByteArray.size_append] at this;omega
theorem jR.size_in (cs:List Int) (s:Nat) (hs:s<2) (hD:∀n:Nat,n<=127->jg.f 20 (n:Int)=some (rdig n)/\(rdig n).size<=4) (hN:∀x:Int,-128<=x->x<=127->jU.f 40 x=some (yt x)/\(yt x).size<=2) (hp:∀i:Nat,-128<=cs.getD i 0/\cs.getD i 0<=127):∀(d i:Nat) (t:ByteArray),(jR.inner cs s i d t).size<=t.size+6*d
 | 0,i,t=>Nat.le_refl _
 | d+1,i,t=>by
  have h:=jR.size_in cs s hs hD hN hp d (i+1) (jR.add cs s i t)
  have ha:(jR.add cs s i t).size<=t.size+6:=by
   unfold jR.add;have h3:=hp (81+8*s+(7-i));have h2:=(hN ((16*s+(7-i):Nat):Int) (by omega) (by omega)).2;have h1:=(hD (rkey cs s i).toNat (by unfold rkey;omega)).2
   split
   ·rw[ByteArray.size_append]
    split
    ·rw[ByteArray.size_append];omega
    ·omega
   ·omega
  show(jR.inner cs s (i+1) d (jR.add cs s i t)).size<=_;omega
theorem jR.size (cs:List Int) (hD:∀n:Nat,n<=127->jg.f 20 (n:Int)=some (rdig n)/\(rdig n).size<=4) (hN:∀x:Int,-128<=x->x<=127->jU.f 40 x=some (yt x)/\(yt x).size<=2) (hp:∀i:Nat,-128<=cs.getD i 0/\cs.getD i 0<=127):(jR.f cs).size<=100:=by
 have h1:=jR.size_in cs 0 (by omega) hD hN hp 7 0 ⟨#[]⟩;have h2:=jR.size_in cs 1 (by omega) hD hN hp 7 0 (jR.inner cs 0 0 7 ⟨#[]⟩);have hz:(⟨#[]⟩:ByteArray).size=0:=rfl;unfold jR.f
 split
 ·decide
 ·show(jR.inner cs 1 0 7 (jR.inner cs 0 0 7 ⟨#[]⟩)).size<=100
  omega
def zA.rows (cs:List Int):Nat->Nat->ByteArray->ByteArray
 | _,0,s=>s
 | r,d+1,s=>zA.rows cs (r+1) d ((if 0<r then s++⟨#[47]⟩ else s)++jx.f cs r)
def zA.text (cs:List Int) (number:Int):ByteArray:=(((zA.rows cs 0 9 ⟨#[]⟩++(if cs.getD 97 0=1 then⟨#[32,119,32]⟩ else⟨#[32,98,32]⟩))++jR.f cs)++⟨#[32]⟩)++rdig number.toNat
def zA.f (cs:List Int) (number:Int):ByteArray:=if zG.f cs≠0\/number<1\/9999<number then⟨#[]⟩ else zA.text cs number
theorem zA.print_calls (cs:List Int) (number:Int) (R:ByteArray) (w:World) (hl:cs.length=98) (hD:∀n:Nat,n<=9999->jg.f 20 (n:Int)=some (rdig n)/\(rdig n).size<=4) (hN:∀x:Int,-128<=x->x<=127->jU.f 40 x=some (yt x)/\(yt x).size<=2) (hp:∀i:Nat,-128<=cs.getD i 0/\cs.getD i 0<=127) (h:zA.f cs number=R):
  Calls Tryz.prog 11 #[.agg (jA.pv cs),.int .i64 number] w λe w'=>e=.returned (.string R)/\Below w.heap.size w w':=by
 unfold zA.f at h
 obtain⟨e0,he0⟩:∃e0,zG.f cs=e0:=⟨_,rfl⟩
 rw[he0] at h;have hks:=jx.size cs;have hhs:=jR.size cs (λn hn=>hD n (by omega)) hN hp
 have HKS:Aside0 (∀r:Nat,(jx.f cs r).size<=58):=⟨λr=>hks r (λn hn=>hD n (by omega)) hN hp 9 0 ⟨#[]⟩ (by omega)⟩
 have HHS:=qA hhs;have H0:=qA he0;have HD:=qA hD;have HN:=qA hN;clear hD hN he0 hks hhs;have B1:(w.alloc (Obj.cells (jA.pv cs) 28)).heap[w.heap.size]?=some (.cells (jA.pv cs) 28 (0,0)):=zJ w _;have BB:Below w.heap.size w (w.alloc (Obj.cells (jA.pv cs) 28)):=ji (Below.refl _ _) _;go_enter Tryz.func11,Tryz.ntmps11;go_upto_region 1 with(fail);generalize w.alloc (Obj.cells (jA.pv cs) 28)=W at *;have K1:=qA B1;have KB:=qA BB;clear B1 BB
 by_cases hbad:e0≠0\/number<1\/9999<number
 ·rw[if_pos hbad] at h
  subst h
  by_cases he:e0=0
  ·have f0:(e0 != 0)=false:=by rw[he];rfl
   by_cases hn:number<1
   ·have f1:decide (number<1)=true:=decide_eq_true hn
    have f11:(number<1)=True:=eq_true hn;clear hbad he hn
    go_wp2_with (first|((with_reducible refine jG (N:=8) rfl ?_);refine jA.load rfl 28 (.tmp 2) rfl rfl K1.out Tryz.underlying28 rfl jA.infoP (by omega) ?_;rw[show(cs.drop 0).take 98=cs by rw[List.drop_zero,List.take_of_length_le (by omega)]])|(go_at_call 29;(with_reducible refine(zG.check_calls cs _ _ hl H0.out).mono ?_);rintro e_ w7 ⟨rfl,hb⟩;replace K1:=qB K1 hb;replace KB:=qS KB hb;clear hb))
    go_ret;exact⟨rfl,KB.out⟩
   ·have f1:decide (number<1)=false:=decide_eq_false hn
    have f11:(number<1)=False:=eq_false hn
    have hn2:9999<number:=by omega
    have f2:decide (9999<number)=true:=decide_eq_true hn2;have f22:(9999<number)=True:=eq_true hn2;clear hbad he hn hn2
    go_wp2_with (first|((with_reducible refine jG (N:=8) rfl ?_);refine jA.load rfl 28 (.tmp 2) rfl rfl K1.out Tryz.underlying28 rfl jA.infoP (by omega) ?_;rw[show(cs.drop 0).take 98=cs by rw[List.drop_zero,List.take_of_length_le (by omega)]])|(go_at_call 29;(with_reducible refine(zG.check_calls cs _ _ hl H0.out).mono ?_);rintro e_ w7 ⟨rfl,hb⟩;replace K1:=qB K1 hb;replace KB:=qS KB hb;clear hb))
    go_ret;exact⟨rfl,KB.out⟩
  ·have f0:(e0 != 0)=true:=by simpa using he
   clear hbad he
   go_wp2_with (first|((with_reducible refine jG (N:=8) rfl ?_);refine jA.load rfl 28 (.tmp 2) rfl rfl K1.out Tryz.underlying28 rfl jA.infoP (by omega) ?_;rw[show(cs.drop 0).take 98=cs by rw[List.drop_zero,List.take_of_length_le (by omega)]])|(go_at_call 29;(with_reducible refine(zG.check_calls cs _ _ hl H0.out).mono ?_);rintro e_ w7 ⟨rfl,hb⟩;replace K1:=qB K1 hb;replace KB:=qS KB hb;clear hb))
   go_ret;exact⟨rfl,KB.out⟩
 ·rw[if_neg hbad] at h
  have he:e0=0:=by
   by_cases he:e0=0
   ·exact he
   ·exact absurd (.inl he) hbad
  subst he;have f1:decide (number<1)=false:=decide_eq_false (by omega);have f11:(number<1)=False:=eq_false (by omega);have f2:decide (9999<number)=false:=decide_eq_false (by omega);have f22:(9999<number)=False:=eq_false (by omega)
  obtain⟨nn,rfl⟩:∃nn:Nat,number=nn:=⟨number.toNat,by omega⟩
  have HNB:=qA (show nn<=9999 by omega);unfold zA.text at h;rw[Int.toNat_natCast] at h
  obtain⟨F,hF⟩:∃F,zA.rows cs 0 9 ⟨#[]⟩=F:=⟨_,rfl⟩
  rw[hF] at h;have HR:=qA hF;have HF:=qA h;clear hbad hF h;go_upto_region 4 with(first|((with_reducible refine jG (N:=8) rfl ?_);refine jA.load rfl 28 (.tmp 2) rfl rfl K1.out Tryz.underlying28 rfl jA.infoP (by omega) ?_;rw[show(cs.drop 0).take 98=cs by rw[List.drop_zero,List.take_of_length_le (by omega)]])|(go_at_call 29;(with_reducible refine(zG.check_calls cs _ _ hl H0.out).mono ?_);rintro e_ w7 ⟨rfl,hb⟩;replace K1:=qB K1 hb;replace KB:=qS KB hb;clear hb));clear f1 f11 f2 f22;go_wp2
  go_loopg [5,6] 10 (λgf s5 s6 wx=>∃(s:ByteArray) (r:Nat),s5=.string s/\s6=.int .i64 (r:Int)/\r<=9/\s.size<=60*r/\Aside0 (zA.rows cs r (9-r) s=F)/\Aside0 (wx.heap[w.heap.size]?=some (.cells (jA.pv cs) 28 (0,0)))/\Aside0 (Below w.heap.size w wx)/\10<=gf+r)
  case atStart=>exact⟨⟨#[]⟩,0,rfl,rfl,by omega,by decide,HR,K1,KB,by omega⟩
  case round=>
   clear K1 KB HR;obtain⟨s,r,rfl,rfl,hr,hss,HR,K1,KB,hgf⟩:=hrel
   by_cases hend:r=9
   ·subst hend
    obtain rfl:s=F:=HR.out;have c97:wr.cell? ⟨w.heap.size,97,none⟩=some (.int .i8 (cs.getD 97 0)):=(jB K1.out 97).trans (jA.pv_get cs 97 (by omega));obtain⟨hdn,hdz⟩:=HD.out nn HNB.out;have HDN:=qA hdn;have e:=HF.out;have hhs:=HHS.out
    obtain⟨hh,hhe⟩:∃hh,jR.f cs=hh:=⟨_,rfl⟩
    rw[hhe] at e hhs;have HHD:=qA hhe;generalize rdig nn=dg at HDN hdz e;generalize cs.getD 97 0=sd at c97 e;have HSS:=qA (show s.size<=540 by omega);clear hdn hhe HF HR HHS HKS hss hgf hr;have hss:=HSS.out;clear HSS
    by_cases h1:sd=1
    ·have b1:(sd==1)=true:=beq_iff_eq.mpr h1
     rw[if_pos h1] at e;have HE:=qA e;clear e h1;have z1:(s++(⟨#[32,119,32]⟩:ByteArray)).size=s.size+3:=ByteArray.size_append
     have z2:((s++(⟨#[32,119,32]⟩:ByteArray))++hh).size=s.size+3+hh.size:=by rw[ByteArray.size_append,z1]
     have z3:(((s++(⟨#[32,119,32]⟩:ByteArray))++hh)++(⟨#[32]⟩:ByteArray)).size=s.size+3+hh.size+1:=by rw[ByteArray.size_append,z2];rfl
     have x0:(9223372036854775807<s.size+3)=False:=eq_false (by omega);have y0:(s.size+3<=9223372036854775807)=True:=eq_true (by omega);have x1:(9223372036854775807<s.size+3+hh.size)=False:=eq_false (by omega);have y1:(s.size+3+hh.size<=9223372036854775807)=True:=eq_true (by omega);have x2:(9223372036854775807<s.size+3+hh.size+1)=False:=eq_false (by omega);have y2:(s.size+3+hh.size+1<=9223372036854775807)=True:=eq_true (by omega);have x3:(9223372036854775807<s.size+3+hh.size+1+dg.size)=False:=eq_false (by omega);have y3:(s.size+3+hh.size+1+dg.size<=9223372036854775807)=True:=eq_true (by omega)
     go_wp2_with (first|((with_reducible refine jG (N:=38) rfl ?_);refine jA.load rfl 28 (.tmp 2) rfl rfl K1.out Tryz.underlying28 rfl jA.infoP (by omega) ?_;rw[show(cs.drop 0).take 98=cs by rw[List.drop_zero,List.take_of_length_le (by omega)]])|(go_at_call 31;(with_reducible refine(jR.hand_calls cs _ _ hl (λn hn=>HD.out n (by omega)) HN.out hp HHD.out).mono ?_);rintro e_ w7 ⟨rfl,hb⟩;replace K1:=qB K1 hb;replace KB:=qS KB hb;clear hb)|(go_at_call 32;(with_reducible refine(jg.calls 20 _ _ _ HDN.out).mono ?_);rintro e_ w7 ⟨rfl,hb⟩;replace K1:=qB K1 hb;replace KB:=qS KB hb;clear hb))
     go_ret;exact⟨by rw[<- HE.out];rfl,KB.out⟩
    ·have b1:(sd==1)=false:=beq_eq_false_iff_ne.mpr h1
     rw[if_neg h1] at e;have HE:=qA e;clear e h1;have z1:(s++(⟨#[32,98,32]⟩:ByteArray)).size=s.size+3:=ByteArray.size_append
     have z2:((s++(⟨#[32,98,32]⟩:ByteArray))++hh).size=s.size+3+hh.size:=by rw[ByteArray.size_append,z1]
     have z3:(((s++(⟨#[32,98,32]⟩:ByteArray))++hh)++(⟨#[32]⟩:ByteArray)).size=s.size+3+hh.size+1:=by rw[ByteArray.size_append,z2];rfl
     have x0:(9223372036854775807<s.size+3)=False:=eq_false (by omega);have y0:(s.size+3<=9223372036854775807)=True:=eq_true (by omega);have x1:(9223372036854775807<s.size+3+hh.size)=False:=eq_false (by omega);have y1:(s.size+3+hh.size<=9223372036854775807)=True:=eq_true (by omega);have x2:(9223372036854775807<s.size+3+hh.size+1)=False:=eq_false (by omega);have y2:(s.size+3+hh.size+1<=9223372036854775807)=True:=eq_true (by omega);have x3:(9223372036854775807<s.size+3+hh.size+1+dg.size)=False:=eq_false (by omega);have y3:(s.size+3+hh.size+1+dg.size<=9223372036854775807)=True:=eq_true (by omega)
     go_wp2_with (first|((with_reducible refine jG (N:=38) rfl ?_);refine jA.load rfl 28 (.tmp 2) rfl rfl K1.out Tryz.underlying28 rfl jA.infoP (by omega) ?_;rw[show(cs.drop 0).take 98=cs by rw[List.drop_zero,List.take_of_length_le (by omega)]])|(go_at_call 31;(with_reducible refine(jR.hand_calls cs _ _ hl (λn hn=>HD.out n (by omega)) HN.out hp HHD.out).mono ?_);rintro e_ w7 ⟨rfl,hb⟩;replace K1:=qB K1 hb;replace KB:=qS KB hb;clear hb)|(go_at_call 32;(with_reducible refine(jg.calls 20 _ _ _ HDN.out).mono ?_);rintro e_ w7 ⟨rfl,hb⟩;replace K1:=qB K1 hb;replace KB:=qS KB hb;clear hb))
     go_ret;exact⟨by rw[<- HE.out];rfl,KB.out⟩
   ·have b0:decide ((r:Int)<9)=true:=decide_eq_true (by omega)
    have ew:IntKind.i64.wrap ((r:Int)+1)=(r:Int)+1:=IntWalk.i64_in _ (by omega);have HR9:=qA (show r<9 by omega)
    obtain⟨g',rfl⟩:∃g',gk=g'+1:=⟨gk-1,by omega⟩
    have e:=HR.out;rw[show 9-r=(9-(r+1))+1 by omega] at e;replace e:zA.rows cs (r+1) (9-(r+1)) ((if 0<r then s++⟨#[47]⟩ else s)++jx.f cs r)=F:=e;have hkz:=HKS.out r
    obtain⟨k,hk⟩:∃k,jx.f cs r=k:=⟨_,rfl⟩
    rw[hk] at e hkz;have HRK:=qA hk;clear hk HR
    by_cases h0:0<r
    ·have b1:decide (0<(r:Int))=true:=decide_eq_true (by omega)
     have b2:decide (0<r)=true:=decide_eq_true h0;have b3:(0<r)=True:=eq_true h0;rw[if_pos h0] at e;have HE:=qA e;have hz1:(s++(⟨#[47]⟩:ByteArray)).size=s.size+1:=ByteArray.size_append;clear e;have x0:(9223372036854775807<s.size+1)=False:=eq_false (by omega);have y0:(s.size+1<=9223372036854775807)=True:=eq_true (by omega);have x1:(9223372036854775807<s.size+1+k.size)=False:=eq_false (by omega);have y1:(s.size+1+k.size<=9223372036854775807)=True:=eq_true (by omega)
     go_wp2_with (first|((with_reducible refine jG (N:=28) rfl ?_);refine jA.load rfl 28 (.tmp 2) rfl rfl K1.out Tryz.underlying28 rfl jA.infoP (by omega) ?_;rw[show(cs.drop 0).take 98=cs by rw[List.drop_zero,List.take_of_length_le (by omega)]])|(go_at_call 30;(with_reducible refine(jx.rank_calls cs r _ _ hl HR9.out (λn hn=>HD.out n (by omega)) HN.out hp HRK.out).mono ?_);rintro e_ w7 ⟨rfl,hb⟩;replace K1:=qB K1 hb;replace KB:=qS KB hb;clear hb))
     go_roundg g'
     case measure=>omega
     case rel=>exact⟨_,r+1,rfl,by simp,by omega,by rw[ByteArray.size_append,hz1];omega,HE,K1,KB,by omega⟩
    ·have b1:decide (0<(r:Int))=false:=decide_eq_false (by omega)
     have b2:decide (0<r)=false:=decide_eq_false h0;have b3:(0<r)=False:=eq_false h0;rw[if_neg h0] at e;have HE:=qA e;clear e;have x0:(9223372036854775807<s.size+k.size)=False:=eq_false (by omega);have y0:(s.size+k.size<=9223372036854775807)=True:=eq_true (by omega)
     go_wp2_with (first|((with_reducible refine jG (N:=28) rfl ?_);refine jA.load rfl 28 (.tmp 2) rfl rfl K1.out Tryz.underlying28 rfl jA.infoP (by omega) ?_;rw[show(cs.drop 0).take 98=cs by rw[List.drop_zero,List.take_of_length_le (by omega)]])|(go_at_call 30;(with_reducible refine(jx.rank_calls cs r _ _ hl HR9.out (λn hn=>HD.out n (by omega)) HN.out hp HRK.out).mono ?_);rintro e_ w7 ⟨rfl,hb⟩;replace K1:=qB K1 hb;replace KB:=qS KB hb;clear hb))
     go_roundg g'
     case measure=>omega
     case rel=>exact⟨_,r+1,rfl,by simp,by omega,by rw[ByteArray.size_append];omega,HE,K1,KB,by omega⟩
def jq.l0:Nat->ByteArray->Int->List ByteArray->Int->Int->Option (List ByteArray)
 | 0,_,_,_,_,_=>none
 | k+1,x0,x1,x5,x6,x7=>if x7<(x0.size:Int) then(if 0<=x7 then(if(bt x0 x7)=x1 then(if 0<=x6 then(if x6<=x7 then(if x7<=(x0.size:Int) then(if x5.length<8796093022208 then(jq.l0 k x0 x1 (x5++[x0.extract (x6:Int).toNat (x7:Int).toNat]) (wrap64 (x7+1)) (wrap64 (x7+1))) else(none)) else(none)) else(none)) else(none)) else(jq.l0 k x0 x1 x5 x6 (wrap64 (x7+1)))) else(none)) else(if 0<=x6 then(if x6<=(x0.size:Int) then(if x5.length<8796093022208 then(some (x5++[x0.extract (x6:Int).toNat x0.size])) else(none)) else(none)) else(none))
def jq.f (k:Nat) (a0:ByteArray) (a1:Int):Option (List ByteArray):=jq.l0 k a0 a1 ([]:List ByteArray) 0 0
theorem jq.mono_l:∀k,(∀y0 y1 y2 y3 y4,LeO (jq.l0 k y0 y1 y2 y3 y4) (jq.l0 (k+1) y0 y1 y2 y3 y4))
 | 0=>λ_ _ _ _ _ r h=>by simp [jq.l0] at h
 | k+1=>by
  have ih0:=jq.mono_l k
  ·intro y0 y1 y2 y3 y4
   unfold jq.l0
   repeat' first
   | (with_reducible exact ih0 _ _ _ _ _)
   | (with_reducible exact LeO.refl _)
   | (with_reducible exact LeO.none _)
   | (with_reducible refine LeO.ite ?_ ?_)
   | (with_reducible refine LeO.bind ?_ (λ_=>?_))
   | exact ih0 _ _ _ _ _
   | exact LeO.none _
   | refine LeO.ite ?_ ?_
   | refine LeO.bind ?_ (λ_=>?_)
theorem jq.mono:∀a0 a1 k,LeO (jq.f k a0 a1) (jq.f (k+1) a0 a1):=by
 intro a0 a1 k;have ih0:=jq.mono_l k;unfold jq.f
 repeat' first
   | (with_reducible exact ih0 _ _ _ _ _)
   | (with_reducible exact LeO.refl _)
   | (with_reducible exact LeO.none _)
   | (with_reducible refine LeO.ite ?_ ?_)
   | (with_reducible refine LeO.bind ?_ (λ_=>?_))
   | exact ih0 _ _ _ _ _
   | exact LeO.none _
   | refine LeO.ite ?_ ?_
   | refine LeO.bind ?_ (λ_=>?_)
theorem jq.calls (k:Nat) (a0:ByteArray) (a1:Int) (r:List ByteArray) (w:World) (h:jq.f k a0 a1=some r):
  Calls Tryz.prog 36 #[.string a0,.int .u8 a1] w λe w'=>∃v0_:Value,e=.returned (v0_)/\Kd.R Kd.string 9 w' w.heap.size (λ_=>True) v0_ r/\Below w.heap.size w w':=by
 have HB:=qA (Below.refl w.heap.size w);have H:(jq.l0 k a0 a1 ([]:List ByteArray) 0 0)=some r:=h;clear h;have H':=qA H;clear H;go_enter Tryz.func36,Tryz.ntmps36;go_wp2
 go_loopg [5,6,7] k (λkq v5 v6 v7 w'=>∃(x5_1:List ByteArray) (x6_1:Int) (x7_1:Int),v6=.int .i64 x6_1/\v7=.int .i64 x7_1/\Aside0 (jq.l0 kq a0 a1 x5_1 x6_1 x7_1=some r)/\Aside0 (kq<=k)/\Aside0 (Kd.R Kd.string 9 w' w.heap.size (λ_=>True) v5 x5_1)/\Aside0 (Below w.heap.size w w'))
 case atStart=>exact⟨(([]:List ByteArray)),(0),(0),(by first|rfl|(simp;done)|(simp [*];done)),(by first|rfl|(simp;done)|(simp [*];done)),H',⟨Nat.le_refl _⟩,⟨by first|exact Kd.R_nil _ _ _ _ _|exact Kd.N_nil _ _ _ _ _|exact Kd.V_nil _ _ _ _ _|exact Kd.Q_nil _ _ _ _ _|exact Kd.S_nil _ _ _ _ _⟩,⟨qH HB⟩⟩
 case round=>
  clear H'
  try clear p2
  obtain⟨x5_1,x6_1,x7_1,rfl,rfl,HA,HK1,HO_5,HB⟩:=hrel
  cases gk with
  | zero=>exact absurd HA.out (by simp [jq.l0])
  | succ k1=>
   have H:=HA.out;clear HA;simp only[jq.l0] at H
   by_cases c3:x7_1<(a0.size:Int)
   ·rw[if_pos c3] at H
    have c3b0:decide (x7_1<(a0.size:Int))=true:=decide_eq_true c3;clear c3
    by_cases c4:0<=x7_1
    ·rw[if_pos c4] at H
     have c4b0:decide (0<=x7_1)=true:=decide_eq_true c4;clear c4
     by_cases c6:(bt a0 x7_1)=a1
     ·rw[if_pos c6] at H
      have c6b0:((bt a0 x7_1)==a1)=true:=beq_iff_eq.mpr c6;have c6b1:((bt a0 x7_1) != a1)=false:=bne_eq_false_iff_eq.mpr c6;clear c6
      by_cases c7:0<=x6_1
      ·rw[if_pos c7] at H
       have c7b0:=eq_true c7;have c7b1:decide (0<=x6_1)=true:=decide_eq_true c7;clear c7
       by_cases c8:x6_1<=x7_1
       ·rw[if_pos c8] at H
        have c8b0:=eq_true c8;have c8b1:decide (x6_1<=x7_1)=true:=decide_eq_true c8;clear c8
        by_cases c9:x7_1<=(a0.size:Int)
        ·rw[if_pos c9] at H
         have c9b0:=eq_true c9;have c9b1:decide (x7_1<=(a0.size:Int))=true:=decide_eq_true c9;clear c9
         by_cases c10:x5_1.length<8796093022208
         ·rw[if_pos c10] at H
          have LMc10:=qA c10;clear c10
          obtain⟨y287,hy287⟩:∃y_:List ByteArray,y_=(x5_1++[a0.extract (x6_1:Int).toNat (x7_1:Int).toNat]):=⟨_,rfl⟩
          replace H:(jq.l0 k1 a0 a1 y287 (wrap64 (x7_1+1)) (wrap64 (x7_1+1)))=some r:=by first|(rw[hy287];with_reducible exact H)|(have H2_:=(Option.bind_some _ _).symm.trans H;rw[hy287];with_reducible exact H2_)|(have H2_:=(Option.bind_some _ _).symm.trans H;with_reducible exact H2_)|with_reducible exact H|(rw[hy287];exact H)|exact H
          have Ny287:=qA hy287;clear hy287;have H':=qA H;clear H;have p5:0<=(x7_1:Int):=of_decide_eq_true (by first|(with_reducible assumption)|assumption);have q5:x7_1<(a0.size:Int):=of_decide_eq_true (by first|(with_reducible assumption)|assumption);have hx5:=jA6 a0 x7_1;replace p5:=eq_true p5;replace q5:=eq_true q5
          go_wp2_with (first|((with_reducible refine jBJ (b:=.append) (xs:=#[.tmp 19,.tmp 24]) rfl ?_);at_builtin;refine Kd.R_append Kd.string (w0:=w) w.heap.size rfl (.tmp 19) (.tmp 24) 44 9 (.string ⟨#[]⟩) 16 rfl Tryz.underlying44 info9 rfl (by decide) (by omega) u5 x5_1 (a0.extract (x6_1:Int).toNat (x7_1:Int).toNat) [.string (a0.extract (x6_1:Int).toNat (x7_1:Int).toNat)] (λ_=>True) (λ_=>False) rfl rfl ?aP (λ_ hk=>hk.elim) ?aF ?aO ?aB ?aS ?aL ?_;(case aP=>exact rfl);(case aB=>exact(qH HB));(case aF=>exact(λ_ _=>trivial));(case aO=>exact(by (with_reducible repeat (first|apply Kd.R_alloc|apply Kd.R_drewN|apply Kd.R_drew));exact HO_5.out));(case aS=>exact(jP (qH HB)));(case aL=>have:=LMc10.out;omega);intro v288 w11 ho hb hg hat;rw[<- Ny287.out] at ho;have n0_:=qA (hb);have n1_:=qA (ho);clear HB;clear HO_5;have HB:=n0_;have HO289:=n1_;clear n0_ n1_;clear ho hb hg hat))
          go_roundg k1
          case measure=>have:=HK1.out;omega
          case rel=>exact⟨(y287),(wrap64 (x7_1+1)),(wrap64 (x7_1+1)),(by first|rfl|(simp;done)|(simp [*];done)),(by first|rfl|(simp;done)|(simp [*];done)),H',⟨by have:=HK1.out;omega⟩,⟨by (with_reducible repeat (first|apply Kd.R_alloc|apply Kd.R_drewN|apply Kd.R_drew));exact HO289.out⟩,⟨qH HB⟩⟩
         ·rw[if_neg c10] at H
          exact absurd H (by simp)
        ·rw[if_neg c9] at H
         exact absurd H (by simp)
       ·rw[if_neg c8] at H
        exact absurd H (by simp)
      ·rw[if_neg c7] at H
       exact absurd H (by simp)
     ·rw[if_neg c6] at H
      have c6b0:((bt a0 x7_1)==a1)=false:=beq_eq_false_iff_ne.mpr c6;have c6b1:((bt a0 x7_1) != a1)=true:=bne_iff_ne.mpr c6;have H':=qA H;clear H;have p5:0<=(x7_1:Int):=of_decide_eq_true (by first|(with_reducible assumption)|assumption);have q5:x7_1<(a0.size:Int):=of_decide_eq_true (by first|(with_reducible assumption)|assumption);have hx5:=jA6 a0 x7_1;replace p5:=eq_true p5;replace q5:=eq_true q5;go_wp2
      go_roundg k1
      case measure=>have:=HK1.out;omega
      case rel=>exact⟨(x5_1),(x6_1),(wrap64 (x7_1+1)),(by first|rfl|(simp;done)|(simp [*];done)),(by first|rfl|(simp;done)|(simp [*];done)),H',⟨by have:=HK1.out;omega⟩,⟨by (with_reducible repeat (first|apply Kd.R_alloc|apply Kd.R_drewN|apply Kd.R_drew));exact HO_5.out⟩,⟨qH HB⟩⟩
    ·rw[if_neg c4] at H
     exact absurd H (by simp)
   ·rw[if_neg c3] at H
    have c3b0:decide (x7_1<(a0.size:Int))=false:=decide_eq_false c3;clear c3
    by_cases c12:0<=x6_1
    ·rw[if_pos c12] at H
     have c12b0:=eq_true c12;have c12b1:decide (0<=x6_1)=true:=decide_eq_true c12;clear c12
     by_cases c13:x6_1<=(a0.size:Int)
     ·rw[if_pos c13] at H
      have c13b0:=eq_true c13;have c13b1:decide (x6_1<=(a0.size:Int))=true:=decide_eq_true c13;clear c13
      by_cases c14:x5_1.length<8796093022208
      ·rw[if_pos c14] at H
       have LMc14:=qA c14;clear c14
       obtain⟨y290,hy290⟩:∃y_:List ByteArray,y_=(x5_1++[a0.extract (x6_1:Int).toNat a0.size]):=⟨_,rfl⟩
       replace H:(some y290)=some r:=by first|(rw[hy290];with_reducible exact H)|(have H2_:=(Option.bind_some _ _).symm.trans H;rw[hy290];with_reducible exact H2_)|(have H2_:=(Option.bind_some _ _).symm.trans H;with_reducible exact H2_)|with_reducible exact H|(rw[hy290];exact H)|exact H
       have Ny290:=qA hy290;clear hy290;obtain rfl:=Option.some.inj H
       go_wp2_with (first|((with_reducible refine jBJ (b:=.append) (xs:=#[.tmp 28,.tmp 32]) rfl ?_);at_builtin;refine Kd.R_append Kd.string (w0:=w) w.heap.size rfl (.tmp 28) (.tmp 32) 44 9 (.string ⟨#[]⟩) 16 rfl Tryz.underlying44 info9 rfl (by decide) (by omega) u5 x5_1 (a0.extract (x6_1:Int).toNat a0.size) [.string (a0.extract (x6_1:Int).toNat a0.size)] (λ_=>True) (λ_=>False) rfl rfl ?aP (λ_ hk=>hk.elim) ?aF ?aO ?aB ?aS ?aL ?_;(case aP=>exact rfl);(case aB=>exact(qH HB));(case aF=>exact(λ_ _=>trivial));(case aO=>exact(by (with_reducible repeat (first|apply Kd.R_alloc|apply Kd.R_drewN|apply Kd.R_drew));exact HO_5.out));(case aS=>exact(jP (qH HB)));(case aL=>have:=LMc14.out;omega);intro v291 w15 ho hb hg hat;rw[<- Ny290.out] at ho;have n0_:=qA (hb);have n1_:=qA (ho);clear HB;clear HO_5;have HB:=n0_;have HO292:=n1_;clear n0_ n1_;clear ho hb hg hat))
       go_ret;exact⟨_,by first|rfl|(simp [jL,jK]<;>rfl)|(simp [*,jL,jK]<;>rfl),by (with_reducible repeat (first|apply Kd.R_alloc|apply Kd.R_drewN|apply Kd.R_drew));exact HO292.out,qH HB⟩
      ·rw[if_neg c14] at H
       exact absurd H (by simp)
     ·rw[if_neg c13] at H
      exact absurd H (by simp)
    ·rw[if_neg c12] at H
     exact absurd H (by simp)
end Go.Proofs.YtigenhbmgpfffaaGreatDoor.Pa
