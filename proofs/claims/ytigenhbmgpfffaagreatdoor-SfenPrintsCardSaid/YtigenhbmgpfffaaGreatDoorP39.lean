import Derived.Test.YtigenhbmgpfffaaGreatDoorP15
import Derived.Test.YtigenhbmgpfffaaGreatDoorP28
import Derived.Test.YtigenhbmgpfffaaGreatDoorP31
import Derived.Test.YtigenhbmgpfffaaGreatDoorP33
import Derived.Test.YtigenhbmgpfffaaGreatDoorP34
import Derived.Test.YtigenhbmgpfffaaGreatDoorP38
namespace Go.Proofs.YtigenhbmgpfffaaGreatDoor.Pa
open Go.RowKit Go.Proofs.YtigenhbmgpfffaaGreatDoorW.PrintWords Go.Proofs.YtigenhbmgpfffaaGreatDoorW.PrintLast Go.Proofs.YtigenhbmgpfffaaGreatDoorW.PrintMore
attribute [local go_sem] z7 zy yJ yI zq zp z6 zx
set_option linter.unusedVariables false
set_option linter.unusedSimpArgs false
def rdig (n:Nat):ByteArray:=(jb.f 20 (n:Int)).getD ⟨#[]⟩
def ym (x:Int):ByteArray:=(jh.f 40 x).getD ⟨#[]⟩
def js.go (cs:List Int) (r:Nat):Nat→Nat→ByteArray→ByteArray
  | 0,free,s=>if 0 < free then s ++ rdig free else s
  | d+1,free,s=>if wrap64 (cs.getD (9 * d+r) 0)=0 then js.go cs r d (free+1) s else js.go cs r d 0 ((if 0 < free then s ++ rdig free else s) ++ ym (wrap64 (cs.getD (9 * d+r) 0)))
def js.f (cs:List Int) (r:Nat):ByteArray:=js.go cs r 9 0 ⟨#[]⟩
set_option maxRecDepth 100000 in
set_option maxHeartbeats 8000000 in
theorem js.rank_calls (cs:List Int) (r:Nat) (R:ByteArray) (w:World) (hl:cs.length=98) (hr:r < 9) (hD:∀ n:Nat,n≤127→jb.f 20 (n:Int)=some (rdig n)∧(rdig n).size≤4) (hN:∀ x:Int,-128≤x→x≤127→jh.f 40 x=some (ym x)∧(ym x).size≤2) (hp:∀ i:Nat,-128≤cs.getD i 0∧cs.getD i 0≤127) (h:js.f cs r=R):
    Calls Tryz.prog 30 #[.agg (jA.pv cs),.int .i64 (r:Int)] w fun e w'=>e=.returned (.string R)∧Below w.heap.size w w':=by
  have HD:=Aside0.mk hD;have HN:=Aside0.mk hN;have HR:=Aside0.mk h;clear hD hN h;have B1:(w.alloc (Obj.cells (jA.pv cs) 28)).heap[w.heap.size]?=some (.cells (jA.pv cs) 28 (0,0)):=zG w _;have BB:Below w.heap.size w (w.alloc (Obj.cells (jA.pv cs) 28)):=jD (Below.refl _ _) _;go_enter Tryz.func30,Tryz.ntmps30;go_upto_region 1 with (fail);generalize w.alloc (Obj.cells (jA.pv cs) 28)=W at *;have K1:=Aside0.mk B1;have KB:=Aside0.mk BB;clear B1 BB;go_wp2
  go_loopg [5,6,7] 10 (fun gf s5 s6 s7 wx=>∃ (s:ByteArray) (fr d:Nat) (m:Int),s5=.string s∧s6=.int .i64 (fr:Int)∧s7=.int .i64 m∧m+1=(d:Int)∧fr+d≤9∧s.size+6 * d≤60∧Aside0 (js.go cs r d fr s=R)∧Aside0 (wx.heap[w.heap.size]?=some (.cells (jA.pv cs) 28 (0,0)))∧Aside0 (Below w.heap.size w wx)∧d+1≤gf)
  case atStart=>exact ⟨⟨#[]⟩,0,9,8,rfl,rfl,rfl,rfl,by omega,by decide,HR,K1,KB,by omega⟩
  case round=>
    clear K1 KB HR;obtain ⟨s,fr,d,m,rfl,rfl,rfl,hm,hfd,hss,HR,K1,KB,hgf⟩:=hrel;obtain ⟨hdg,hdz⟩:=HD.out fr (by omega);have HDG:=Aside0.mk hdg;clear hdg
    obtain ⟨g',rfl⟩:∃ g',gk=g'+1:=⟨gk - 1,by omega⟩
    cases d with
    | zero=>
      obtain rfl:m = -1:=by omega
      have e:=HR.out;unfold js.go at e;generalize rdig fr=dg at HDG hdz e
      by_cases hf:0 < fr
      · have b1:decide (0 < (fr:Int))=true:=decide_eq_true (by omega)
        have b2:decide (0 < fr)=true:=decide_eq_true hf;have b3:(0 < fr)=True:=eq_true hf;rw [if_pos hf] at e;have HE:=Aside0.mk e;clear e HR;have u1:(9223372036854775807 < s.size+dg.size)=False:=eq_false (by omega);have v1:(s.size+dg.size≤9223372036854775807)=True:=eq_true (by omega)
        go_wp2_with (first|(go_at_call 32;(with_reducible refine (jb.calls 20 _ _ _ HDG.out).mono ?_);rintro e_ w7 ⟨rfl,hb⟩;have n1:=Aside0.mk (jB K1.out hb);have nB:=Aside0.mk (jE KB.out hb);clear K1 KB hb;have K1:=n1;have KB:=nB;clear n1 nB))
        go_ret;exact ⟨by rw [← HE.out];rfl,KB.out⟩
      · have b1:decide (0 < (fr:Int))=false:=decide_eq_false (by omega)
        have b2:decide (0 < fr)=false:=decide_eq_false hf;have b3:(0 < fr)=False:=eq_false hf;rw [if_neg hf] at e;have HE:=Aside0.mk e;clear e HR;go_wp2;go_ret;exact ⟨by rw [← HE.out];rfl,KB.out⟩
    | succ d=>
      obtain rfl:m=(d:Int):=by omega
      obtain ⟨q,hq⟩:∃ q:Nat,q=9 * d+r:=⟨_,rfl⟩
      obtain ⟨m9,hm9⟩:∃ m9:Nat,m9=9 * d:=⟨_,rfl⟩
      have e0:decide (0≤(d:Int))=true:=decide_eq_true (by omega)
      have e1:IntKind.i64.wrap (9 * (d:Int))=(m9:Int):=by rw [IntWalk.i64_in _ (by omega)];omega
      have e2:IntKind.i64.wrap ((m9:Int)+(r:Int))=(q:Int):=by rw [IntWalk.i64_in _ (by omega)];omega
      have e4:IntKind.i64.wrap ((d:Int) - 1)=(d:Int) - 1:=IntWalk.i64_in _ (by omega);have e5:IntKind.i64.wrap ((fr:Int)+1)=(fr:Int)+1:=IntWalk.i64_in _ (by omega);have a1:(0≤(q:Int)∧(q:Int) < 81)=True:=eq_true (by omega);have a3:((q:Int) < 81)=True:=eq_true (by omega);have cN:wr.cell? ⟨w.heap.size,q,none⟩=some (.int .i8 (cs.getD q 0)):=(jK K1.out q).trans (jA.pv_get cs q (by omega));have e:=HR.out;unfold js.go at e;rw [← hq] at e;have hwv:=hp q;generalize cs.getD q 0=v at cN e hwv;have hw2:wrap64 v=v:=IntWalk.wrap64_in v (by omega);obtain ⟨hnm,hnz⟩:=HN.out v (by omega) (by omega);rw [hw2] at e;have HNM:=Aside0.mk hnm;have HQ:=Aside0.mk hq;have HM:=Aside0.mk hm9;clear hnm hq hm9 HR hw2;generalize ym v=nm at HNM hnz e;generalize rdig fr=dg at HDG hdz e
      by_cases hy:v=0
      · have b1:(v==0)=true:=beq_iff_eq.mpr hy
        rw [if_pos hy] at e;have HE:=Aside0.mk e;clear e hy HNM;go_wp2
        go_roundg g'
        case measure=>omega
        case rel=>exact ⟨s,fr+1,d,(d:Int) - 1,rfl,by simp,rfl,by omega,by omega,by omega,HE,K1,KB,by omega⟩
      · have b1:(v==0)=false:=beq_eq_false_iff_ne.mpr hy
        rw [if_neg hy] at e
        by_cases hf:0 < fr
        · have b2:decide (0 < (fr:Int))=true:=decide_eq_true (by omega)
          have b3:decide (0 < fr)=true:=decide_eq_true hf;have b4:(0 < fr)=True:=eq_true hf;rw [if_pos hf] at e;have HE:=Aside0.mk e;clear e hy;have hz2:(s ++ dg).size=s.size+dg.size:=ByteArray.size_append;have u1:(9223372036854775807 < s.size+dg.size)=False:=eq_false (by omega);have v1:(s.size+dg.size≤9223372036854775807)=True:=eq_true (by omega);have u2:(9223372036854775807 < (s ++ dg).size+nm.size)=False:=eq_false (by omega);have v2:((s ++ dg).size+nm.size≤9223372036854775807)=True:=eq_true (by omega);have u3:(9223372036854775807 < (s.size+dg.size)+nm.size)=False:=eq_false (by omega);have v3:((s.size+dg.size)+nm.size≤9223372036854775807)=True:=eq_true (by omega)
          go_wp2_with (first|(go_at_call 32;(with_reducible refine (jb.calls 20 _ _ _ HDG.out).mono ?_);rintro e_ w7 ⟨rfl,hb⟩;have n1:=Aside0.mk (jB K1.out hb);have nB:=Aside0.mk (jE KB.out hb);clear K1 KB hb;have K1:=n1;have KB:=nB;clear n1 nB)|(go_at_call 53;(with_reducible refine (jh.calls 40 _ _ _ HNM.out).mono ?_);rintro e_ w7 ⟨rfl,hb⟩;have n1:=Aside0.mk (jB K1.out hb);have nB:=Aside0.mk (jE KB.out hb);clear K1 KB hb;have K1:=n1;have KB:=nB;clear n1 nB))
          go_roundg g'
          case measure=>omega
          case rel=>exact ⟨_,0,d,(d:Int) - 1,rfl,rfl,rfl,by omega,by omega,by rw [ByteArray.size_append,ByteArray.size_append];omega,HE,K1,KB,by omega⟩
        · have b2:decide (0 < (fr:Int))=false:=decide_eq_false (by omega)
          have b3:decide (0 < fr)=false:=decide_eq_false hf;have b4:(0 < fr)=False:=eq_false hf;rw [if_neg hf] at e;have HE:=Aside0.mk e
          obtain rfl:fr=0:=by omega
          clear e hy;have u2:(9223372036854775807 < s.size+nm.size)=False:=eq_false (by omega);have v2:(s.size+nm.size≤9223372036854775807)=True:=eq_true (by omega)
          go_wp2_with (first|(go_at_call 53;(with_reducible refine (jh.calls 40 _ _ _ HNM.out).mono ?_);rintro e_ w7 ⟨rfl,hb⟩;have n1:=Aside0.mk (jB K1.out hb);have nB:=Aside0.mk (jE KB.out hb);clear K1 KB hb;have K1:=n1;have KB:=nB;clear n1 nB))
          go_roundg g'
          case measure=>omega
          case rel=>exact ⟨_,0,d,(d:Int) - 1,rfl,rfl,rfl,by omega,by omega,by rw [ByteArray.size_append];omega,HE,K1,KB,by omega⟩
def rkey (cs:List Int) (s i:Nat):Int:=cs.getD (81+8 * s+(7 - i)) 0
def jU.add (cs:List Int) (s i:Nat) (t:ByteArray):ByteArray:=
  if 0 < rkey cs s i then (if 1 < rkey cs s i then t ++ rdig (rkey cs s i).toNat else t) ++ ym ((16 * s+(7 - i):Nat):Int) else t
def jU.inner (cs:List Int) (s:Nat):Nat→Nat→ByteArray→ByteArray
  | _,0,t=>t
  | i,d+1,t=>jU.inner cs s (i+1) d (jU.add cs s i t)
def jU.outer (cs:List Int):Nat→Nat→ByteArray→ByteArray
  | _,0,t=>t
  | s,d+1,t=>jU.outer cs (s+1) d (jU.inner cs s 0 7 t)
def jU.f (cs:List Int):ByteArray:=if (jU.outer cs 0 2 ⟨#[]⟩).toList=[] then ⟨#[45]⟩ else jU.outer cs 0 2 ⟨#[]⟩
set_option maxRecDepth 100000 in
set_option maxHeartbeats 8000000 in
theorem jU.hand_calls (cs:List Int) (R:ByteArray) (w:World) (hl:cs.length=98) (hD:∀ n:Nat,n≤127→jb.f 20 (n:Int)=some (rdig n)∧(rdig n).size≤4) (hN:∀ x:Int,-128≤x→x≤127→jh.f 40 x=some (ym x)∧(ym x).size≤2) (hp:∀ i:Nat,-128≤cs.getD i 0∧cs.getD i 0≤127) (h:jU.f cs=R):
    Calls Tryz.prog 31 #[.agg (jA.pv cs)] w fun e w'=>e=.returned (.string R)∧Below w.heap.size w w':=by
  have HD:=Aside0.mk hD;have HN:=Aside0.mk hN;have HF:=Aside0.mk h
  obtain ⟨F,hF⟩:∃ F,jU.outer cs 0 2 ⟨#[]⟩=F:=⟨_,rfl⟩
  have HR:=Aside0.mk hF;have HFF:=Aside0.mk hF;clear hD hN h hF;have B1:(w.alloc (Obj.cells (jA.pv cs) 28)).heap[w.heap.size]?=some (.cells (jA.pv cs) 28 (0,0)):=zG w _;have BB:Below w.heap.size w (w.alloc (Obj.cells (jA.pv cs) 28)):=jD (Below.refl _ _) _;go_enter Tryz.func31,Tryz.ntmps31;go_upto_region 1 with (fail);generalize w.alloc (Obj.cells (jA.pv cs) 28)=W at *;have K1:=Aside0.mk B1;have KB:=Aside0.mk BB;clear B1 BB
  have hord:∀ i:Nat,i < 7→(#[Value.int IntKind.i64 7,Value.int IntKind.i64 6,Value.int IntKind.i64 5,Value.int IntKind.i64 4,Value.int IntKind.i64 3,Value.int IntKind.i64 2,Value.int IntKind.i64 1]:Array Value)[i]?=some (.int .i64 ((7 - i:Nat):Int)):=fun i hi=>by
    obtain rfl|rfl|rfl|rfl|rfl|rfl|rfl:i=0∨i=1∨i=2∨i=3∨i=4∨i=5∨i=6:=by omega
    all_goals rfl
  go_upto_region 3 with (fail);have BO:=zG W (Obj.cells #[Value.int IntKind.i64 7,Value.int IntKind.i64 6,Value.int IntKind.i64 5,Value.int IntKind.i64 4,Value.int IntKind.i64 3,Value.int IntKind.i64 2,Value.int IntKind.i64 1] 3);have BK:=jG K1.out (Obj.cells #[Value.int IntKind.i64 7,Value.int IntKind.i64 6,Value.int IntKind.i64 5,Value.int IntKind.i64 4,Value.int IntKind.i64 3,Value.int IntKind.i64 2,Value.int IntKind.i64 1] 3);have BB:=jD KB.out (Obj.cells #[Value.int IntKind.i64 7,Value.int IntKind.i64 6,Value.int IntKind.i64 5,Value.int IntKind.i64 4,Value.int IntKind.i64 3,Value.int IntKind.i64 2,Value.int IntKind.i64 1] 3);generalize (W.alloc (Obj.cells #[Value.int IntKind.i64 7,Value.int IntKind.i64 6,Value.int IntKind.i64 5,Value.int IntKind.i64 4,Value.int IntKind.i64 3,Value.int IntKind.i64 2,Value.int IntKind.i64 1] 3))=W2 at *;generalize W.heap.size=g at *;generalize (#[Value.int IntKind.i64 7,Value.int IntKind.i64 6,Value.int IntKind.i64 5,Value.int IntKind.i64 4,Value.int IntKind.i64 3,Value.int IntKind.i64 2,Value.int IntKind.i64 1]:Array Value)=OA at *;clear K1 KB;have HOD:=Aside0.mk hord;have KO:=Aside0.mk BO;have K1:=Aside0.mk BK;have KB:=Aside0.mk BB;clear BO BK BB hord;go_wp2
  go_loopg [3,5] 3 (fun gf s3 s5 wx=>∃ (t:ByteArray) (sd:Nat),s3=.string t∧s5=.int .i64 (sd:Int)∧sd≤2∧t.size≤42 * sd∧Aside0 (jU.outer cs sd (2 - sd) t=F)∧Aside0 (wx.heap[g]?=some (.cells OA 3 (0,0)))∧Aside0 (wx.heap[w.heap.size]?=some (.cells (jA.pv cs) 28 (0,0)))∧Aside0 (Below w.heap.size w wx)∧3≤gf+sd)
  case atStart=>exact ⟨⟨#[]⟩,0,rfl,rfl,by omega,by decide,HR,KO,K1,KB,by omega⟩
  case round=>
    clear KO K1 KB HR;obtain ⟨t,sd,rfl,rfl,hsd,hts,HR,KO,K1,KB,hgf⟩:=hrel
    obtain ⟨g',rfl⟩:∃ g',gk=g'+1:=⟨gk - 1,by omega⟩
    by_cases hend:sd=2
    · subst hend
      obtain rfl:t=F:=HR.out;have e:=HF.out;unfold jU.f at e;rw [HFF.out] at e
      by_cases hz:t.toList=[]
      · have f0:(t.toList==[])=true:=by rw [hz];rfl
        rw [if_pos hz] at e;have HE:=Aside0.mk e;clear e hz HF HR;go_wp2;go_ret;exact ⟨by rw [← HE.out];rfl,KB.out⟩
      · have f0:(t.toList==[])=false:=by rw [beq_eq_false_iff_ne];exact hz
        rw [if_neg hz] at e;have HE:=Aside0.mk e;clear e hz HF HR;go_wp2;go_ret;exact ⟨by rw [← HE.out];rfl,KB.out⟩
    · have b0:decide ((sd:Int) < 2)=true:=decide_eq_true (by omega)
      have b1:(0≤(sd:Int)∧(sd:Int) < 2)=True:=eq_true (by omega);have b3:((sd:Int) < 2)=True:=eq_true (by omega);have ew:IntKind.i64.wrap ((sd:Int)+1)=(sd:Int)+1:=IntWalk.i64_in _ (by omega)
      have HR1:Aside0 (jU.outer cs (sd+1) (1 - sd) (jU.inner cs sd 0 7 t)=F):=⟨by
        have e:=HR.out;rw [show 2 - sd=(1 - sd)+1 by omega] at e
        exact e⟩
      clear HR;go_wp2
      go_loopg [3,6] 8 (fun gf s3 s6 wx=>∃ (t:ByteArray) (i:Nat),s3=.string t∧s6=.int .i64 (i:Int)∧i≤7∧t.size≤42 * sd+6 * i∧Aside0 (jU.outer cs (sd+1) (1 - sd) (jU.inner cs sd i (7 - i) t)=F)∧Aside0 (wx.heap[g]?=some (.cells OA 3 (0,0)))∧Aside0 (wx.heap[w.heap.size]?=some (.cells (jA.pv cs) 28 (0,0)))∧Aside0 (Below w.heap.size w wx)∧8≤gf+i)
      case atStart=>exact ⟨t,0,rfl,rfl,by omega,by omega,HR1,KO,K1,KB,by omega⟩
      case round=>
        clear KO K1 KB HR1 hts;clear t;obtain ⟨t,i,rfl,rfl,hi,hts,HR,KO,K1,KB,hgi⟩:=hrel
        obtain ⟨g2,rfl⟩:∃ g2,gk=g2+1:=⟨gk - 1,by omega⟩
        by_cases hend2:i=7
        · subst hend2
          have HE:Aside0 (jU.outer cs (sd+1) (2 - (sd+1)) t=F):=⟨by rw [show 2 - (sd+1)=1 - sd by omega];exact HR.out⟩
          clear HR;go_wp2
          go_roundg g'
          case measure=>omega
          case rel=>exact ⟨t,sd+1,rfl,by simp,by omega,by omega,HE,KO,K1,KB,by omega⟩
        · have c0:decide ((i:Int) < 7)=true:=decide_eq_true (by omega)
          have c1:(0≤(i:Int)∧(i:Int) < 7)=True:=eq_true (by omega);have c3:((i:Int) < 7)=True:=eq_true (by omega);have c4:(i < 7)=True:=eq_true (by omega);have ei:IntKind.i64.wrap ((i:Int)+1)=(i:Int)+1:=IntWalk.i64_in _ (by omega);have cO:wr.cell? ⟨g,i,none⟩=some (.int .i64 ((7 - i:Nat):Int)):=(jK KO.out i).trans (HOD.out i (by omega))
          obtain ⟨k,hk⟩:∃ k,k=7 - i:=⟨_,rfl⟩
          rw [← hk] at cO;have d1:(0≤(k:Int)∧(k:Int) < 8)=True:=eq_true (by omega);have d3:((k:Int) < 8)=True:=eq_true (by omega);have cc:wr.cell? ⟨w.heap.size,81+sd * 8+k,none⟩=some (.int .i8 (cs.getD (81+sd * 8+k) 0)):=(jK K1.out _).trans (jA.pv_get cs _ (by omega));have hv:=hp (81+sd * 8+k)
          have hkey:rkey cs sd i=cs.getD (81+sd * 8+k) 0:=by unfold rkey;rw [hk,Nat.mul_comm 8 sd]
          have e:=HR.out;rw [show 7 - i=(7 - (i+1))+1 by omega] at e;replace e:jU.outer cs (sd+1) (1 - sd) (jU.inner cs sd (i+1) (7 - (i+1)) (jU.add cs sd i t))=F:=e;have hadd:jU.add cs sd i t=if 0 < rkey cs sd i then (if 1 < rkey cs sd i then t ++ rdig (rkey cs sd i).toNat else t) ++ ym ((16 * sd+(7 - i):Nat):Int) else t:=rfl;rw [hkey,← hk] at hadd;generalize cs.getD (81+sd * 8+k) 0=v at cc hv hadd;have ev:IntKind.i64.wrap v=v:=IntWalk.i64_in _ (by omega)
          obtain ⟨c,hc⟩:∃ c:Nat,c=16 * sd+k:=⟨_,rfl⟩
          rw [← hc] at hadd;have f1:IntKind.i64.wrap (16 * (sd:Int))=16 * (sd:Int):=IntWalk.i64_in _ (by omega)
          have f2:IntKind.i64.wrap (16 * (sd:Int)+(k:Int))=(c:Int):=by rw [IntWalk.i64_in _ (by omega)];omega
          obtain ⟨hnm,hnz⟩:=HN.out (c:Int) (by omega) (by omega);have HNM:=Aside0.mk hnm;generalize ym (c:Int)=nm at HNM hnz hadd;have HK:=Aside0.mk hk;have HC:=Aside0.mk hc;clear hnm hk hc HR hkey
          by_cases h0:0 < v
          · have t0:decide (0 < v)=true:=decide_eq_true h0
            have t1:(0 < v)=True:=eq_true h0
            obtain ⟨nn,rfl⟩:∃ nn:Nat,v=nn:=⟨v.toNat,by omega⟩
            rw [if_pos h0,Int.toNat_natCast] at hadd
            by_cases h1:1 < (nn:Int)
            · have t2:decide (1 < (nn:Int))=true:=decide_eq_true h1
              have t3:(1 < nn)=True:=eq_true (by omega);have t5:(0 < nn)=True:=eq_true (by omega);rw [if_pos h1] at hadd;obtain ⟨hdg,hdz⟩:=HD.out nn (by omega);have HDG:=Aside0.mk hdg;generalize rdig nn=dg at HDG hdz hadd;rw [hadd] at e;have HE:=Aside0.mk e;clear e hadd hdg;have hz2:(t ++ dg).size=t.size+dg.size:=ByteArray.size_append;have u1:(9223372036854775807 < t.size+dg.size)=False:=eq_false (by omega);have v1:(t.size+dg.size≤9223372036854775807)=True:=eq_true (by omega);have u2:(9223372036854775807 < (t ++ dg).size+nm.size)=False:=eq_false (by omega);have v2:((t ++ dg).size+nm.size≤9223372036854775807)=True:=eq_true (by omega);have u3:(9223372036854775807 < (t.size+dg.size)+nm.size)=False:=eq_false (by omega);have v3:((t.size+dg.size)+nm.size≤9223372036854775807)=True:=eq_true (by omega);go_upto_region 9 with (fail)
              go_quiet (fail)
              clear cO cc;have n1:=Aside0.mk (jI K1.out nq);have nO:=Aside0.mk (jI KO.out nq);have nB:=Aside0.mk (jC KB.out nq);generalize wr.drewN nq=W3 at *;clear K1 KO KB;have K1:=n1;have KO:=nO;have KB:=nB;clear n1 nO nB;go_upto_region 13 with (first|(go_at_call 32;(with_reducible refine (jb.calls 20 _ _ _ HDG.out).mono ?_);rintro e_ w7 ⟨rfl,hb⟩;have n1:=Aside0.mk (jB K1.out hb);have nO:=Aside0.mk (jB KO.out hb);have nB:=Aside0.mk (jE KB.out hb);clear K1 KO KB hb;have K1:=n1;have KO:=nO;have KB:=nB;clear n1 nO nB));have cO:w7.cell? ⟨g,i,none⟩=some (.int .i64 (k:Int)):=(jK KO.out i).trans ((HOD.out i (by omega)).trans (by rw [HK.out]))
              go_wp2_with (first|(go_at_call 53;(with_reducible refine (jh.calls 40 _ _ _ HNM.out).mono ?_);rintro e_ w7 ⟨rfl,hb⟩;have n1:=Aside0.mk (jB K1.out hb);have nO:=Aside0.mk (jB KO.out hb);have nB:=Aside0.mk (jE KB.out hb);clear K1 KO KB hb;have K1:=n1;have KO:=nO;have KB:=nB;clear n1 nO nB))
              go_roundg g2
              case measure=>omega
              case rel=>exact ⟨_,i+1,rfl,by simp,by omega,by rw [ByteArray.size_append,ByteArray.size_append];omega,HE,KO,K1,KB,by omega⟩
            · have t2:decide (1 < (nn:Int))=false:=decide_eq_false h1
              have t3:(1 < nn)=False:=eq_false (by omega);have t5:(0 < nn)=True:=eq_true (by omega);rw [if_neg h1] at hadd;rw [hadd] at e;have HE:=Aside0.mk e;clear e hadd;have u2:(9223372036854775807 < t.size+nm.size)=False:=eq_false (by omega);have v2:(t.size+nm.size≤9223372036854775807)=True:=eq_true (by omega);go_upto_region 9 with (fail)
              go_quiet (fail)
              clear cO cc;have n1:=Aside0.mk (jI K1.out nq);have nO:=Aside0.mk (jI KO.out nq);have nB:=Aside0.mk (jC KB.out nq);generalize wr.drewN nq=W3 at *;clear K1 KO KB;have K1:=n1;have KO:=nO;have KB:=nB;clear n1 nO nB;go_upto_region 13 with (fail);have cO:W3.cell? ⟨g,i,none⟩=some (.int .i64 (k:Int)):=(jK KO.out i).trans ((HOD.out i (by omega)).trans (by rw [HK.out]))
              go_wp2_with (first|(go_at_call 53;(with_reducible refine (jh.calls 40 _ _ _ HNM.out).mono ?_);rintro e_ w7 ⟨rfl,hb⟩;have n1:=Aside0.mk (jB K1.out hb);have nO:=Aside0.mk (jB KO.out hb);have nB:=Aside0.mk (jE KB.out hb);clear K1 KO KB hb;have K1:=n1;have KO:=nO;have KB:=nB;clear n1 nO nB))
              go_roundg g2
              case measure=>omega
              case rel=>exact ⟨_,i+1,rfl,by simp,by omega,by rw [ByteArray.size_append];omega,HE,KO,K1,KB,by omega⟩
          · have t0:decide (0 < v)=false:=decide_eq_false h0
            have t1:(0 < v)=False:=eq_false h0;have t2:decide (1 < v)=false:=decide_eq_false (by omega);have t3:(1 < v)=False:=eq_false (by omega);rw [if_neg h0] at hadd;rw [hadd] at e;have HE:=Aside0.mk e;clear e hadd;go_upto_region 9 with (fail)
            go_quiet (fail)
            go_wp2
            go_roundg g2
            case measure=>omega
            case rel=>exact ⟨t,i+1,rfl,by simp,by omega,by omega,HE,⟨KO.out⟩,⟨K1.out⟩,⟨jC KB.out _⟩,by omega⟩
theorem js.size (cs:List Int) (r:Nat) (hD:∀ n:Nat,n≤127→jb.f 20 (n:Int)=some (rdig n)∧(rdig n).size≤4) (hN:∀ x:Int,-128≤x→x≤127→jh.f 40 x=some (ym x)∧(ym x).size≤2) (hp:∀ i:Nat,-128≤cs.getD i 0∧cs.getD i 0≤127):∀ (d fr:Nat) (s:ByteArray),fr+d≤9→(js.go cs r d fr s).size≤s.size+6 * d+4
  | 0,fr,s,h=>by
    have:=(hD fr (by omega)).2;unfold js.go
    split
    · rw [ByteArray.size_append];omega
    · omega
  | d+1,fr,s,h=>by
    have h1:=(hD fr (by omega)).2;have h3:=hp (9 * d+r);have hw:wrap64 (cs.getD (9 * d+r) 0)=cs.getD (9 * d+r) 0:=IntWalk.wrap64_in _ (by omega);have h2:=(hN (cs.getD (9 * d+r) 0) (by omega) (by omega)).2;unfold js.go;rw [hw]
    split
    · have:=js.size cs r hD hN hp d (fr+1) s (by omega)
      omega
    · obtain ⟨T,hT⟩:∃ T,(if 0 < fr then s ++ rdig fr else s)=T:=⟨_,rfl⟩
      have hz:T.size≤s.size+4:=by
        rw [← hT]
        split
        · rw [ByteArray.size_append];omega
        · omega
      rw [hT];have:=js.size cs r hD hN hp d 0 (T ++ ym (cs.getD (9 * d+r) 0)) (by omega);rw [ByteArray.size_append] at this;omega
theorem jU.size_in (cs:List Int) (s:Nat) (hs:s < 2) (hD:∀ n:Nat,n≤127→jb.f 20 (n:Int)=some (rdig n)∧(rdig n).size≤4) (hN:∀ x:Int,-128≤x→x≤127→jh.f 40 x=some (ym x)∧(ym x).size≤2) (hp:∀ i:Nat,-128≤cs.getD i 0∧cs.getD i 0≤127):∀ (d i:Nat) (t:ByteArray),(jU.inner cs s i d t).size≤t.size+6 * d
  | 0,i,t=>Nat.le_refl _
  | d+1,i,t=>by
    have h:=jU.size_in cs s hs hD hN hp d (i+1) (jU.add cs s i t)
    have ha:(jU.add cs s i t).size≤t.size+6:=by
      unfold jU.add;have h3:=hp (81+8 * s+(7 - i));have h2:=(hN ((16 * s+(7 - i):Nat):Int) (by omega) (by omega)).2;have h1:=(hD (rkey cs s i).toNat (by unfold rkey;omega)).2
      split
      · rw [ByteArray.size_append]
        split
        · rw [ByteArray.size_append];omega
        · omega
      · omega
    show (jU.inner cs s (i+1) d (jU.add cs s i t)).size≤_;omega
theorem jU.size (cs:List Int) (hD:∀ n:Nat,n≤127→jb.f 20 (n:Int)=some (rdig n)∧(rdig n).size≤4) (hN:∀ x:Int,-128≤x→x≤127→jh.f 40 x=some (ym x)∧(ym x).size≤2) (hp:∀ i:Nat,-128≤cs.getD i 0∧cs.getD i 0≤127):(jU.f cs).size≤100:=by
  have h1:=jU.size_in cs 0 (by omega) hD hN hp 7 0 ⟨#[]⟩;have h2:=jU.size_in cs 1 (by omega) hD hN hp 7 0 (jU.inner cs 0 0 7 ⟨#[]⟩);have hz:(⟨#[]⟩:ByteArray).size=0:=rfl;unfold jU.f
  split
  · decide
  · show (jU.inner cs 1 0 7 (jU.inner cs 0 0 7 ⟨#[]⟩)).size≤100
    omega
def jy.rows (cs:List Int):Nat→Nat→ByteArray→ByteArray
  | _,0,s=>s
  | r,d+1,s=>jy.rows cs (r+1) d ((if 0 < r then s ++ ⟨#[47]⟩ else s) ++ js.f cs r)
def jy.text (cs:List Int) (number:Int):ByteArray:=(((jy.rows cs 0 9 ⟨#[]⟩ ++ (if cs.getD 97 0=1 then ⟨#[32,119,32]⟩ else ⟨#[32,98,32]⟩)) ++ jU.f cs) ++ ⟨#[32]⟩) ++ rdig number.toNat
def jy.f (cs:List Int) (number:Int):ByteArray:=if zh.f cs≠0∨number < 1∨9999 < number then ⟨#[]⟩ else jy.text cs number
set_option maxRecDepth 100000 in
set_option maxHeartbeats 8000000 in
theorem jy.print_calls (cs:List Int) (number:Int) (R:ByteArray) (w:World) (hl:cs.length=98) (hD:∀ n:Nat,n≤9999→jb.f 20 (n:Int)=some (rdig n)∧(rdig n).size≤4) (hN:∀ x:Int,-128≤x→x≤127→jh.f 40 x=some (ym x)∧(ym x).size≤2) (hp:∀ i:Nat,-128≤cs.getD i 0∧cs.getD i 0≤127) (h:jy.f cs number=R):
    Calls Tryz.prog 11 #[.agg (jA.pv cs),.int .i64 number] w fun e w'=>e=.returned (.string R)∧Below w.heap.size w w':=by
  unfold jy.f at h
  obtain ⟨e0,he0⟩:∃ e0,zh.f cs=e0:=⟨_,rfl⟩
  rw [he0] at h;have hks:=js.size cs;have hhs:=jU.size cs (fun n hn=>hD n (by omega)) hN hp
  have HKS:Aside0 (∀ r:Nat,(js.f cs r).size≤58):=⟨fun r=>hks r (fun n hn=>hD n (by omega)) hN hp 9 0 ⟨#[]⟩ (by omega)⟩
  have HHS:=Aside0.mk hhs;have H0:=Aside0.mk he0;have HD:=Aside0.mk hD;have HN:=Aside0.mk hN;clear hD hN he0 hks hhs;have B1:(w.alloc (Obj.cells (jA.pv cs) 28)).heap[w.heap.size]?=some (.cells (jA.pv cs) 28 (0,0)):=zG w _;have BB:Below w.heap.size w (w.alloc (Obj.cells (jA.pv cs) 28)):=jD (Below.refl _ _) _;go_enter Tryz.func11,Tryz.ntmps11;go_upto_region 1 with (fail);generalize w.alloc (Obj.cells (jA.pv cs) 28)=W at *;have K1:=Aside0.mk B1;have KB:=Aside0.mk BB;clear B1 BB
  by_cases hbad:e0≠0∨number < 1∨9999 < number
  · rw [if_pos hbad] at h
    subst h
    by_cases he:e0=0
    · have f0:(e0 != 0)=false:=by rw [he];rfl
      by_cases hn:number < 1
      · have f1:decide (number < 1)=true:=decide_eq_true hn
        have f11:(number < 1)=True:=eq_true hn;clear hbad he hn
        go_wp2_with (first|((with_reducible refine jP (N:=8) rfl ?_);refine jA.load rfl 28 (.tmp 2) rfl rfl K1.out Tryz.underlying28 rfl jA.infoP (by omega) ?_;rw [show (cs.drop 0).take 98=cs by rw [List.drop_zero,List.take_of_length_le (by omega)]])|(go_at_call 29;(with_reducible refine (zh.check_calls cs _ _ hl H0.out).mono ?_);rintro e_ w7 ⟨rfl,hb⟩;have n1:=Aside0.mk (jB K1.out hb);have nB:=Aside0.mk (jE KB.out hb);clear K1 KB hb;have K1:=n1;have KB:=nB;clear n1 nB))
        go_ret;exact ⟨rfl,KB.out⟩
      · have f1:decide (number < 1)=false:=decide_eq_false hn
        have f11:(number < 1)=False:=eq_false hn
        have hn2:9999 < number:=by omega
        have f2:decide (9999 < number)=true:=decide_eq_true hn2;have f22:(9999 < number)=True:=eq_true hn2;clear hbad he hn hn2
        go_wp2_with (first|((with_reducible refine jP (N:=8) rfl ?_);refine jA.load rfl 28 (.tmp 2) rfl rfl K1.out Tryz.underlying28 rfl jA.infoP (by omega) ?_;rw [show (cs.drop 0).take 98=cs by rw [List.drop_zero,List.take_of_length_le (by omega)]])|(go_at_call 29;(with_reducible refine (zh.check_calls cs _ _ hl H0.out).mono ?_);rintro e_ w7 ⟨rfl,hb⟩;have n1:=Aside0.mk (jB K1.out hb);have nB:=Aside0.mk (jE KB.out hb);clear K1 KB hb;have K1:=n1;have KB:=nB;clear n1 nB))
        go_ret;exact ⟨rfl,KB.out⟩
    · have f0:(e0 != 0)=true:=by simpa using he
      clear hbad he
      go_wp2_with (first|((with_reducible refine jP (N:=8) rfl ?_);refine jA.load rfl 28 (.tmp 2) rfl rfl K1.out Tryz.underlying28 rfl jA.infoP (by omega) ?_;rw [show (cs.drop 0).take 98=cs by rw [List.drop_zero,List.take_of_length_le (by omega)]])|(go_at_call 29;(with_reducible refine (zh.check_calls cs _ _ hl H0.out).mono ?_);rintro e_ w7 ⟨rfl,hb⟩;have n1:=Aside0.mk (jB K1.out hb);have nB:=Aside0.mk (jE KB.out hb);clear K1 KB hb;have K1:=n1;have KB:=nB;clear n1 nB))
      go_ret;exact ⟨rfl,KB.out⟩
  · rw [if_neg hbad] at h
    have he:e0=0:=by
      by_cases he:e0=0
      · exact he
      · exact absurd (.inl he) hbad
    subst he;have f1:decide (number < 1)=false:=decide_eq_false (by omega);have f11:(number < 1)=False:=eq_false (by omega);have f2:decide (9999 < number)=false:=decide_eq_false (by omega);have f22:(9999 < number)=False:=eq_false (by omega)
    obtain ⟨nn,rfl⟩:∃ nn:Nat,number=nn:=⟨number.toNat,by omega⟩
    have HNB:=Aside0.mk (show nn≤9999 by omega);unfold jy.text at h;rw [Int.toNat_natCast] at h
    obtain ⟨F,hF⟩:∃ F,jy.rows cs 0 9 ⟨#[]⟩=F:=⟨_,rfl⟩
    rw [hF] at h;have HR:=Aside0.mk hF;have HF:=Aside0.mk h;clear hbad hF h;go_upto_region 4 with (first|((with_reducible refine jP (N:=8) rfl ?_);refine jA.load rfl 28 (.tmp 2) rfl rfl K1.out Tryz.underlying28 rfl jA.infoP (by omega) ?_;rw [show (cs.drop 0).take 98=cs by rw [List.drop_zero,List.take_of_length_le (by omega)]])|(go_at_call 29;(with_reducible refine (zh.check_calls cs _ _ hl H0.out).mono ?_);rintro e_ w7 ⟨rfl,hb⟩;have n1:=Aside0.mk (jB K1.out hb);have nB:=Aside0.mk (jE KB.out hb);clear K1 KB hb;have K1:=n1;have KB:=nB;clear n1 nB));clear f1 f11 f2 f22;go_wp2
    go_loopg [5,6] 10 (fun gf s5 s6 wx=>∃ (s:ByteArray) (r:Nat),s5=.string s∧s6=.int .i64 (r:Int)∧r≤9∧s.size≤60 * r∧Aside0 (jy.rows cs r (9 - r) s=F)∧Aside0 (wx.heap[w.heap.size]?=some (.cells (jA.pv cs) 28 (0,0)))∧Aside0 (Below w.heap.size w wx)∧10≤gf+r)
    case atStart=>exact ⟨⟨#[]⟩,0,rfl,rfl,by omega,by decide,HR,K1,KB,by omega⟩
    case round=>
      clear K1 KB HR;obtain ⟨s,r,rfl,rfl,hr,hss,HR,K1,KB,hgf⟩:=hrel
      by_cases hend:r=9
      · subst hend
        obtain rfl:s=F:=HR.out;have c97:wr.cell? ⟨w.heap.size,97,none⟩=some (.int .i8 (cs.getD 97 0)):=(jK K1.out 97).trans (jA.pv_get cs 97 (by omega));obtain ⟨hdn,hdz⟩:=HD.out nn HNB.out;have HDN:=Aside0.mk hdn;have e:=HF.out;have hhs:=HHS.out
        obtain ⟨hh,hhe⟩:∃ hh,jU.f cs=hh:=⟨_,rfl⟩
        rw [hhe] at e hhs;have HHD:=Aside0.mk hhe;generalize rdig nn=dg at HDN hdz e;generalize cs.getD 97 0=sd at c97 e;have HSS:=Aside0.mk (show s.size≤540 by omega);clear hdn hhe HF HR HHS HKS hss hgf hr;have hss:=HSS.out;clear HSS
        by_cases h1:sd=1
        · have b1:(sd==1)=true:=beq_iff_eq.mpr h1
          rw [if_pos h1] at e;have HE:=Aside0.mk e;clear e h1;have z1:(s ++ (⟨#[32,119,32]⟩:ByteArray)).size=s.size+3:=ByteArray.size_append
          have z2:((s ++ (⟨#[32,119,32]⟩:ByteArray)) ++ hh).size=s.size+3+hh.size:=by rw [ByteArray.size_append,z1]
          have z3:(((s ++ (⟨#[32,119,32]⟩:ByteArray)) ++ hh) ++ (⟨#[32]⟩:ByteArray)).size=s.size+3+hh.size+1:=by rw [ByteArray.size_append,z2];rfl
          have x0:(9223372036854775807 < s.size+3)=False:=eq_false (by omega);have y0:(s.size+3≤9223372036854775807)=True:=eq_true (by omega);have x1:(9223372036854775807 < s.size+3+hh.size)=False:=eq_false (by omega);have y1:(s.size+3+hh.size≤9223372036854775807)=True:=eq_true (by omega);have x2:(9223372036854775807 < s.size+3+hh.size+1)=False:=eq_false (by omega);have y2:(s.size+3+hh.size+1≤9223372036854775807)=True:=eq_true (by omega);have x3:(9223372036854775807 < s.size+3+hh.size+1+dg.size)=False:=eq_false (by omega);have y3:(s.size+3+hh.size+1+dg.size≤9223372036854775807)=True:=eq_true (by omega)
          go_wp2_with (first|((with_reducible refine jP (N:=38) rfl ?_);refine jA.load rfl 28 (.tmp 2) rfl rfl K1.out Tryz.underlying28 rfl jA.infoP (by omega) ?_;rw [show (cs.drop 0).take 98=cs by rw [List.drop_zero,List.take_of_length_le (by omega)]])|(go_at_call 31;(with_reducible refine (jU.hand_calls cs _ _ hl (fun n hn=>HD.out n (by omega)) HN.out hp HHD.out).mono ?_);rintro e_ w7 ⟨rfl,hb⟩;have n1:=Aside0.mk (jB K1.out hb);have nB:=Aside0.mk (jE KB.out hb);clear K1 KB hb;have K1:=n1;have KB:=nB;clear n1 nB)|(go_at_call 32;(with_reducible refine (jb.calls 20 _ _ _ HDN.out).mono ?_);rintro e_ w7 ⟨rfl,hb⟩;have n1:=Aside0.mk (jB K1.out hb);have nB:=Aside0.mk (jE KB.out hb);clear K1 KB hb;have K1:=n1;have KB:=nB;clear n1 nB))
          go_ret;exact ⟨by rw [← HE.out];rfl,KB.out⟩
        · have b1:(sd==1)=false:=beq_eq_false_iff_ne.mpr h1
          rw [if_neg h1] at e;have HE:=Aside0.mk e;clear e h1;have z1:(s ++ (⟨#[32,98,32]⟩:ByteArray)).size=s.size+3:=ByteArray.size_append
          have z2:((s ++ (⟨#[32,98,32]⟩:ByteArray)) ++ hh).size=s.size+3+hh.size:=by rw [ByteArray.size_append,z1]
          have z3:(((s ++ (⟨#[32,98,32]⟩:ByteArray)) ++ hh) ++ (⟨#[32]⟩:ByteArray)).size=s.size+3+hh.size+1:=by rw [ByteArray.size_append,z2];rfl
          have x0:(9223372036854775807 < s.size+3)=False:=eq_false (by omega);have y0:(s.size+3≤9223372036854775807)=True:=eq_true (by omega);have x1:(9223372036854775807 < s.size+3+hh.size)=False:=eq_false (by omega);have y1:(s.size+3+hh.size≤9223372036854775807)=True:=eq_true (by omega);have x2:(9223372036854775807 < s.size+3+hh.size+1)=False:=eq_false (by omega);have y2:(s.size+3+hh.size+1≤9223372036854775807)=True:=eq_true (by omega);have x3:(9223372036854775807 < s.size+3+hh.size+1+dg.size)=False:=eq_false (by omega);have y3:(s.size+3+hh.size+1+dg.size≤9223372036854775807)=True:=eq_true (by omega)
          go_wp2_with (first|((with_reducible refine jP (N:=38) rfl ?_);refine jA.load rfl 28 (.tmp 2) rfl rfl K1.out Tryz.underlying28 rfl jA.infoP (by omega) ?_;rw [show (cs.drop 0).take 98=cs by rw [List.drop_zero,List.take_of_length_le (by omega)]])|(go_at_call 31;(with_reducible refine (jU.hand_calls cs _ _ hl (fun n hn=>HD.out n (by omega)) HN.out hp HHD.out).mono ?_);rintro e_ w7 ⟨rfl,hb⟩;have n1:=Aside0.mk (jB K1.out hb);have nB:=Aside0.mk (jE KB.out hb);clear K1 KB hb;have K1:=n1;have KB:=nB;clear n1 nB)|(go_at_call 32;(with_reducible refine (jb.calls 20 _ _ _ HDN.out).mono ?_);rintro e_ w7 ⟨rfl,hb⟩;have n1:=Aside0.mk (jB K1.out hb);have nB:=Aside0.mk (jE KB.out hb);clear K1 KB hb;have K1:=n1;have KB:=nB;clear n1 nB))
          go_ret;exact ⟨by rw [← HE.out];rfl,KB.out⟩
      · have b0:decide ((r:Int) < 9)=true:=decide_eq_true (by omega)
        have ew:IntKind.i64.wrap ((r:Int)+1)=(r:Int)+1:=IntWalk.i64_in _ (by omega);have HR9:=Aside0.mk (show r < 9 by omega)
        obtain ⟨g',rfl⟩:∃ g',gk=g'+1:=⟨gk - 1,by omega⟩
        have e:=HR.out;rw [show 9 - r=(9 - (r+1))+1 by omega] at e;replace e:jy.rows cs (r+1) (9 - (r+1)) ((if 0 < r then s ++ ⟨#[47]⟩ else s) ++ js.f cs r)=F:=e;have hkz:=HKS.out r
        obtain ⟨k,hk⟩:∃ k,js.f cs r=k:=⟨_,rfl⟩
        rw [hk] at e hkz;have HRK:=Aside0.mk hk;clear hk HR
        by_cases h0:0 < r
        · have b1:decide (0 < (r:Int))=true:=decide_eq_true (by omega)
          have b2:decide (0 < r)=true:=decide_eq_true h0;have b3:(0 < r)=True:=eq_true h0;rw [if_pos h0] at e;have HE:=Aside0.mk e;have hz1:(s ++ (⟨#[47]⟩:ByteArray)).size=s.size+1:=ByteArray.size_append;clear e;have x0:(9223372036854775807 < s.size+1)=False:=eq_false (by omega);have y0:(s.size+1≤9223372036854775807)=True:=eq_true (by omega);have x1:(9223372036854775807 < s.size+1+k.size)=False:=eq_false (by omega);have y1:(s.size+1+k.size≤9223372036854775807)=True:=eq_true (by omega)
          go_wp2_with (first|((with_reducible refine jP (N:=28) rfl ?_);refine jA.load rfl 28 (.tmp 2) rfl rfl K1.out Tryz.underlying28 rfl jA.infoP (by omega) ?_;rw [show (cs.drop 0).take 98=cs by rw [List.drop_zero,List.take_of_length_le (by omega)]])|(go_at_call 30;(with_reducible refine (js.rank_calls cs r _ _ hl HR9.out (fun n hn=>HD.out n (by omega)) HN.out hp HRK.out).mono ?_);rintro e_ w7 ⟨rfl,hb⟩;have n1:=Aside0.mk (jB K1.out hb);have nB:=Aside0.mk (jE KB.out hb);clear K1 KB hb;have K1:=n1;have KB:=nB;clear n1 nB))
          go_roundg g'
          case measure=>omega
          case rel=>exact ⟨_,r+1,rfl,by simp,by omega,by rw [ByteArray.size_append,hz1];omega,HE,K1,KB,by omega⟩
        · have b1:decide (0 < (r:Int))=false:=decide_eq_false (by omega)
          have b2:decide (0 < r)=false:=decide_eq_false h0;have b3:(0 < r)=False:=eq_false h0;rw [if_neg h0] at e;have HE:=Aside0.mk e;clear e;have x0:(9223372036854775807 < s.size+k.size)=False:=eq_false (by omega);have y0:(s.size+k.size≤9223372036854775807)=True:=eq_true (by omega)
          go_wp2_with (first|((with_reducible refine jP (N:=28) rfl ?_);refine jA.load rfl 28 (.tmp 2) rfl rfl K1.out Tryz.underlying28 rfl jA.infoP (by omega) ?_;rw [show (cs.drop 0).take 98=cs by rw [List.drop_zero,List.take_of_length_le (by omega)]])|(go_at_call 30;(with_reducible refine (js.rank_calls cs r _ _ hl HR9.out (fun n hn=>HD.out n (by omega)) HN.out hp HRK.out).mono ?_);rintro e_ w7 ⟨rfl,hb⟩;have n1:=Aside0.mk (jB K1.out hb);have nB:=Aside0.mk (jE KB.out hb);clear K1 KB hb;have K1:=n1;have KB:=nB;clear n1 nB))
          go_roundg g'
          case measure=>omega
          case rel=>exact ⟨_,r+1,rfl,by simp,by omega,by rw [ByteArray.size_append];omega,HE,K1,KB,by omega⟩
set_option maxRecDepth 100000 in
set_option maxHeartbeats 16000000 in
theorem kakugyolaw13_SfenPrints.calls (a:List Int) (n:Int) (x:ByteArray) (w:World) (henv:Env w) (hla:a.length=98) (hD:∀ n:Nat,n≤9999→jb.f 20 (n:Int)=some (rdig n)∧(rdig n).size≤4) (hN:∀ x:Int,-128≤x→x≤127→jh.f 40 x=some (ym x)∧(ym x).size≤2) (hp:∀ i:Nat,-128≤a.getD i 0∧a.getD i 0≤127) (hx:je.f a n=some x) (hr:jy.f a n=x)
    (hlaw:x.toList≠[]→jm.f x=some (a,n,0)∧x.size≤200):
    Calls Tryz.prog 3 #[.agg (jA.pv a),.int .i64 n] w fun e w'=>e=.returned (.bool true)∧Below w.heap.size w w':=by
  have hz:=jS.zero
  have HZ:Aside0 ((jA.pv jS.zl).size=98):=⟨by rw [jA.pv_size,jS.zl_len]⟩
  have EX:=Aside0.mk hx;have HRP:=Aside0.mk hr;have HLAW:=Aside0.mk hlaw;have HD:=Aside0.mk hD;have HN:=Aside0.mk hN;have B1:(w.alloc (Obj.cells (jA.pv a) 28)).heap[w.heap.size]?=some (.cells (jA.pv a) 28 (0,0)):=zG w _;have BB:Below w.heap.size w (w.alloc (Obj.cells (jA.pv a) 28)):=jD (Below.refl _ _) _;have BE:=henv.below BB;have heq:∀ W,(Op.equalIn 10000 28 (.agg (jA.pv a)) (.agg (jA.pv a))).run Tryz.prog W=.ok true W:=fun W=>(eqpos a a W hla hla).trans (by rw [decide_eq_true rfl]);clear hx hlaw henv hD hN hr;go_enter Tryz.func3,Tryz.ntmps3;go_upto_region 1 with (fail);generalize w.alloc (Obj.cells (jA.pv a) 28)=W at *;have K1:=Aside0.mk B1;have KB:=Aside0.mk BB;have KE:=Aside0.mk BE;clear B1 BB BE;go_upto_region 3 with (first|(go_at_call 9;(with_reducible refine (yR.calls _ KE.out).mono ?_);rintro e w7 ⟨rfl,hb⟩;have nK1:=Aside0.mk (jB K1.out hb);have nB:=Aside0.mk (jE KB.out hb);have nE:=Aside0.mk (KE.out.below hb);clear K1 KB KE hb;have K1:=nK1;have KB:=nB;have KE:=nE;clear nK1 nB nE));have f9:(x.toList != x.toList)=false:=bne_self_eq_false _
  by_cases hx0:x.toList=[]
  · have f0:(x.toList==[])=true:=by rw [hx0];rfl
    go_upto_region 4 with (first|((with_reducible refine jP (N:=11) rfl ?_);refine jA.load rfl 28 (.tmp 2) rfl rfl K1.out Tryz.underlying28 rfl jA.infoP (by omega) ?_;rw [show (a.drop 0).take 98=a by rw [List.drop_zero,List.take_of_length_le (by omega)]])|(go_at_call 10;(with_reducible refine (je.print_calls a n _ _ KE.out.tab KE.out.pow hla name_le2 EX.out).mono ?_);rintro e w7 ⟨rfl,hb⟩;have nK1:=Aside0.mk (jB K1.out hb);have nB:=Aside0.mk (jE KB.out hb);have nE:=Aside0.mk (KE.out.below hb);clear K1 KB KE hb;have K1:=nK1;have KB:=nB;have KE:=nE;clear nK1 nB nE))
    go_wp2_with (first|((with_reducible refine jP (N:=15) rfl ?_);refine jA.load rfl 28 (.tmp 2) rfl rfl K1.out Tryz.underlying28 rfl jA.infoP (by omega) ?_;rw [show (a.drop 0).take 98=a by rw [List.drop_zero,List.take_of_length_le (by omega)]])|(go_at_call 11;(with_reducible refine (jy.print_calls a n _ _ hla HD.out HN.out hp HRP.out).mono ?_);rintro e w7 ⟨rfl,hb⟩;have nK1:=Aside0.mk (jB K1.out hb);have nB:=Aside0.mk (jE KB.out hb);have nE:=Aside0.mk (KE.out.below hb);clear K1 KB KE hb;have K1:=nK1;have KB:=nB;have KE:=nE;clear nK1 nB nE))
    go_ret;exact ⟨rfl,KB.out⟩
  · have f0:(x.toList==[])=false:=by rw [beq_eq_false_iff_ne];exact hx0
    obtain ⟨hpa,hsz⟩:=HLAW.out hx0;have EP:=Aside0.mk hpa;have u1:decide ((x.size:Int)≤200)=true:=decide_eq_true (by omega);have u1':((x.size:Int)≤200)=True:=eq_true (by omega);have u1n:(x.size≤200)=True:=eq_true (by omega);have u4:(n==n)=true:=beq_self_eq_true n;clear HLAW hpa hx0 hsz;go_upto_region 4 with (first|((with_reducible refine jP (N:=11) rfl ?_);refine jA.load rfl 28 (.tmp 2) rfl rfl K1.out Tryz.underlying28 rfl jA.infoP (by omega) ?_;rw [show (a.drop 0).take 98=a by rw [List.drop_zero,List.take_of_length_le (by omega)]])|(go_at_call 10;(with_reducible refine (je.print_calls a n _ _ KE.out.tab KE.out.pow hla name_le2 EX.out).mono ?_);rintro e w7 ⟨rfl,hb⟩;have nK1:=Aside0.mk (jB K1.out hb);have nB:=Aside0.mk (jE KB.out hb);have nE:=Aside0.mk (KE.out.below hb);clear K1 KB KE hb;have K1:=nK1;have KB:=nB;have KE:=nE;clear nK1 nB nE));go_upto_region 8 with (first|((with_reducible refine jP (N:=15) rfl ?_);refine jA.load rfl 28 (.tmp 2) rfl rfl K1.out Tryz.underlying28 rfl jA.infoP (by omega) ?_;rw [show (a.drop 0).take 98=a by rw [List.drop_zero,List.take_of_length_le (by omega)]])|(go_at_call 11;(with_reducible refine (jy.print_calls a n _ _ hla HD.out HN.out hp HRP.out).mono ?_);rintro e w7 ⟨rfl,hb⟩;have nK1:=Aside0.mk (jB K1.out hb);have nB:=Aside0.mk (jE KB.out hb);have nE:=Aside0.mk (KE.out.below hb);clear K1 KB KE hb;have K1:=nK1;have KB:=nB;have KE:=nE;clear nK1 nB nE))
    clear EX HRP HD HN;go_upto_region 9 with (first|(go_at_call 12;(with_reducible refine (jm.parse_calls _ _ _ _ _ KE.out atoi_range EP.out).mono ?_);rintro e w7 ⟨rfl,hlen,hb⟩;have nK1:=Aside0.mk (jB K1.out hb);have nB:=Aside0.mk (jE KB.out hb);have nE:=Aside0.mk (KE.out.below hb);clear K1 KB KE hb;have K1:=nK1;have KB:=nB;have KE:=nE;clear nK1 nB nE)|((with_reducible refine jp (t:=28) (p:=6) (v:=.tmp 24) rfl ?_);refine jA.store rfl 28 (.tmp 6) (.tmp 24) rfl rfl rfl (zG _ _) HZ.out hla jA.infoP ?_;intro W3 s1 s2 s3;have K6:=Aside0.mk s1;have nK1:=Aside0.mk ((s3 _ (Nat.ne_of_lt (jq K1.out))).trans (jG K1.out _));have nB:=Aside0.mk (s2 w.heap.size w KB.out.size (jD KB.out _));have nE:=Aside0.mk (KE.out.below (s2 _ _ (Nat.le_refl _) (jD (Below.refl _ _) _)));clear KB KE s1 s2 s3 K1;have K1:=nK1;have KB:=nB;have KE:=nE;clear nB nE nK1))
    go_wp2_with (fail)
    ((with_reducible show Oper.wp _ ⟨some 30,_,_,_,_,_⟩ _ _ _ _);refine jA.wp_load 28 (.tmp 6) rfl rfl K6.out Tryz.underlying28 rfl jA.infoP (by omega) ?_;rw [show (a.drop 0).take 98=a by rw [List.drop_zero,List.take_of_length_le (by omega)]])
    go_wp2_with (fail)
    ((with_reducible show Oper.wp _ ⟨some 31,_,_,_,_,_⟩ _ _ _ _);refine jA.wp_load 28 (.tmp 2) rfl rfl K1.out Tryz.underlying28 rfl jA.infoP (by omega) ?_;rw [show (a.drop 0).take 98=a by rw [List.drop_zero,List.take_of_length_le (by omega)]])
    go_wp2;go_ret;exact ⟨rfl,KB.out⟩
end Go.Proofs.YtigenhbmgpfffaaGreatDoor.Pa
