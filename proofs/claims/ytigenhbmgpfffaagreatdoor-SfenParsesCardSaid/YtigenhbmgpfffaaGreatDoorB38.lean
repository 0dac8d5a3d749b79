import Derived.Test.YtigenhbmgpfffaaGreatDoorB37
set_option maxRecDepth 100000
set_option maxHeartbeats 16000000
namespace Go.Proofs.YtigenhbmgpfffaaGreatDoor.Pa
open Go.RowKit Go.Proofs.YtigenhbmgpfffaaGreatDoorW.PrintWords Go.Proofs.YtigenhbmgpfffaaGreatDoorW.PrintLast Go.Proofs.YtigenhbmgpfffaaGreatDoorW.PrintMore
attribute [local go_sem] yE yC yM yL zo zn yD yB
set_option linter.unusedVariables false
set_option linter.unusedSimpArgs false
section
variable {P:Program} {ops:Array Oper} {Q:Exit->Act->World->Prop} {md:Region.Mode} {S:World->Prop}
theorem tkW (i:Nat) {oi:Oper} {v:Value} {d:Nat} {fuel:Nat} {listed:Array Bool} {tm tm':Array Value} {df:List Deferred} {w:World} (hS:S w)
  (h:wpAnyH P md ops Q S fuel (listed.setIfInBounds i true) ⟨tm',df⟩ w)
  (hi:ops[i]?=some oi:=by rfl) (hs:Region.noSelect ops=true:=by kernel_rfl) (hf:Region.free md ops listed i=true:=by kernel_rfl) (hr:(Region.ready md ops listed).contains i=true:=by kernel_rfl)
  (hd:oi.dst=some d:=by rfl) (hw:Region.wanted oi (yielded ops tm)=true:=by rfl) (hv:∀w,S w->(execOp (Act.eval ⟨tm,df⟩) oi).run P w=.ok (.value v) w:=by (intro w _;go_simp;try with_reducible rfl))
  (hQ:∀c a w,Q (.panic c) (a.put oi.dst v) w->Q (.panic c) a w:=by exact λ_ _ _ h=>h)
  (ha:tm.setIfInBounds d v=tm':=by (first|(simp only[List.setIfInBounds_toArray,List.set_cons_zero,List.set_cons_succ];done)|(simp only[List.setIfInBounds_toArray,List.set_cons_zero,List.set_cons_succ];rfl))):
  wpAnyH P md ops Q S (fuel+1) listed ⟨tm,df⟩ w:=by
 refine wpAnyH_take hi hs hf hr hQ (Or.inl ⟨hw,hv⟩) hS ?_;rw[hd];show wpAnyH P md ops Q S fuel (listed.setIfInBounds i true) ⟨tm.setIfInBounds d v,df⟩ w;rw[ha];exact h
theorem tk0W (i:Nat) {oi:Oper} {d:Nat} {fuel:Nat} {listed:Array Bool} {tm tm':Array Value} {df:List Deferred} {w:World} (hS:S w)
  (h:wpAnyH P md ops Q S fuel (listed.setIfInBounds i true) ⟨tm',df⟩ w)
  (hi:ops[i]?=some oi:=by rfl) (hs:Region.noSelect ops=true:=by kernel_rfl) (hf:Region.free md ops listed i=true:=by kernel_rfl) (hr:(Region.ready md ops listed).contains i=true:=by kernel_rfl)
  (hd:oi.dst=some d:=by rfl) (hw:Region.wanted oi (yielded ops tm)=false:=by rfl)
  (hQ:∀c a w,Q (.panic c) (a.put oi.dst undef) w->Q (.panic c) a w:=by exact λ_ _ _ h=>h)
  (ha:tm.setIfInBounds d undef=tm':=by (first|(simp only[List.setIfInBounds_toArray,List.set_cons_zero,List.set_cons_succ];done)|(simp only[List.setIfInBounds_toArray,List.set_cons_zero,List.set_cons_succ];rfl))):
  wpAnyH P md ops Q S (fuel+1) listed ⟨tm,df⟩ w:=by
 refine wpAnyH_take hi hs hf hr hQ (Or.inr ⟨hw,rfl⟩) hS ?_;rw[hd];show wpAnyH P md ops Q S fuel (listed.setIfInBounds i true) ⟨tm.setIfInBounds d undef,df⟩ w;rw[ha];exact h
theorem on1W (i:Nat) {o:Oper} {fuel:Nat} {listed:Array Bool} {a:Act} {w:World}
  (h:∀K':Act->World->Prop,Shut (∀a w,S w->(S w->wpAnyH P md ops Q S fuel (listed.setIfInBounds i true) a w)->K' a w)->if Region.wanted o (yielded ops a.tmps)=true then Oper.wp P o a w K' Q else K' (a.put o.dst undef) w)
  (hr:Region.ready md ops listed=[i]:=by kernel_rfl) (ho:ops[i]?=some o:=by rfl):wpAnyH P md ops Q S (fuel+1) listed a w:=wpAnyH_ready hr (by simp) (AllReadyH.cons ho h AllReadyH.nil)
variable {X K':Act->World->Prop}
theorem koW {b a':Act} {w:World} (hK:Shut (∀a w,S w->(S w->X a w)->K' a w)) (hS:S w) (h:X a' w)
  (ha:b=a':=by (first|(simp only[Act.put,List.setIfInBounds_toArray,List.set_cons_zero,List.set_cons_succ];done)|(simp only[Act.put,List.setIfInBounds_toArray,List.set_cons_zero,List.set_cons_succ];rfl)|rfl)):K' b w:=by
 rw[ha];exact hK.out _ _ hS (λ_=>h)
end
def jBH (x:Int):Int:=(jm.f x).getD 0
theorem jA2 (x:Int):jm.f x=some (jBH x):=by
 have h:∃r,jm.f x=some r:=by
  unfold jm.f;rw[ym,Option.bind_some]
  split
  all_goals exact⟨_,rfl⟩
 obtain⟨r,hr⟩:=h;unfold jBH;rw[hr];rfl
def rline (fr tq:Nat):Int:=(jT.f 20 (fr:Int) (tq:Int)).getD 0
def jB2 (fr tq:Nat):List Int:=(jo.f 20 (fr:Int) (tq:Int)).getD []
theorem rline_all:∀a b:Fin 81,(jT.f 20 (a.1:Int) (b.1:Int)).isSome=true:=by decide +kernel
theorem rbetw_all:∀a b:Fin 81,(match jo.f 20 (a.1:Int) (b.1:Int) with|some l=>l.all (λx=>decide (0<=x)&&decide (x<81))&&decide (l.length<=81)|none=>false)=true:=by decide +kernel
theorem rline_is (fr tq:Nat) (hf:fr<81) (ht:tq<81):jT.f 20 (fr:Int) (tq:Int)=some (rline fr tq):=by
 obtain⟨r,hr⟩:=Option.isSome_iff_exists.1 (rline_all ⟨fr,hf⟩ ⟨tq,ht⟩);have e:jT.f 20 (fr:Int) (tq:Int)=some r:=hr;unfold rline;rw[e];rfl
theorem rbetw_is (fr tq:Nat) (hf:fr<81) (ht:tq<81):jo.f 20 (fr:Int) (tq:Int)=some (jB2 fr tq)/\(∀x ∈ jB2 fr tq,0<=x/\x<81)/\(jB2 fr tq).length<=81:=by
 have h:=rbetw_all ⟨fr,hf⟩ ⟨tq,ht⟩;dsimp only at h;unfold jB2
 cases e:jo.f 20 (fr:Int) (tq:Int) with
 | none=>rw[e] at h;exact absurd h (by decide)
 | some l=>
  rw[e] at h;simp only[Bool.and_eq_true,List.all_eq_true,decide_eq_true_eq] at h;exact⟨rfl,h.1,h.2⟩
def rstep (x:Int) (fr tq:Nat):Bool:=(jF.f 20 x (fr:Int) (tq:Int)).getD false
theorem rsize_some (x:Int):∃r,yA.f x=some r:=by
 unfold yA.f
 split
 all_goals exact⟨_,rfl⟩
theorem rstep_is (x:Int) (fr tq:Nat):jF.f 20 x (fr:Int) (tq:Int)=some (rstep x fr tq):=by
 have j3:∀k a b c d e,∃r,jF.j3 (k+1) a b c d e=some r:=λk a b c d e=>by
  simp only[jF.j3]
  repeat' split
  all_goals exact⟨_,rfl⟩
 have j2:∀k y a b c,∃r,jF.j2 (k+2) y a b c=some r:=λk y a b c=>by
  simp only[jF.j2];rw[ym,Option.bind_some]
  repeat' split
  all_goals first|exact⟨_,rfl⟩|exact j3 _ _ _ _ _ _
 have j1:∀k y a b,∃r,jF.j1 (k+3) y a b=some r:=λk y a b=>by
  simp only[jF.j1]
  split
  ·obtain⟨s,hs⟩:=rsize_some b
   rw[hs,Option.bind_some];exact j2 _ _ _ _ _
  ·exact j2 _ _ _ _ _
 have j0:∀k y a b c,∃r,jF.j0 (k+4) y a b c=some r:=λk y a b c=>by
  simp only[jF.j0]
  split
  ·exact⟨_,rfl⟩
  ·obtain⟨s,hs⟩:=rsize_some (wrap64 (wrap64 (Int.tdiv b 9)-wrap64 (Int.tdiv a 9)))
   rw[hs,Option.bind_some,jA2,Option.bind_some]
   split
   ·exact j1 _ _ _ _
   ·exact j1 _ _ _ _
 have h:∃r,jF.f 20 x (fr:Int) (tq:Int)=some r:=by
  unfold jF.f
  repeat' split
  all_goals exact j0 16 _ _ _ _
 obtain⟨r,hr⟩:=h;unfold rstep;rw[hr];rfl
def reach (x:Int) (fr tq:Nat) (ts:List Bool):Bool:=rstep x fr tq||(jJ.sl (rline fr tq) (jBH x) (yu x) fr tq&&(jB2 fr tq).all (j9.ok ts))
theorem reach_calls (x:Int) (fr tq:Nat) (ts:List Bool) (r:Bool) (w:World) (hfr:fr<81) (htq:tq<81) (hts:ts.length=81) (h:reach x fr tq ts=r):
  Calls Tryz.prog 77 #[.int .i64 x,.int .i64 (fr:Int),.int .i64 (tq:Int),.agg (bv ts)] w λe w'=>e=.returned (.bool r)/\Below w.heap.size w w':=by
 obtain⟨b1,b2,b3⟩:=rbetw_is fr tq hfr htq;subst h;exact jJ.reaches_calls x fr tq ts _ _ _ _ _ w hfr htq hts (rstep_is x fr tq) (rline_is fr tq hfr htq) (jA2 x) (ym x) b1 b2 b3
theorem zC.range (cs:List Int) (side:Int):∀d n,n+d=81->zC.go cs side n d = -1\/(0<=zC.go cs side n d/\zC.go cs side n d<81)
 | 0,n,_=>.inl rfl
 | d+1,n,h=>by
  unfold zC.go
  split
  ·exact .inr ⟨by omega,by omega⟩
  ·exact zC.range cs side d (n+1) (by omega)
def zE.go (cs:List Int) (side:Int) (k:Nat) (ts:List Bool):Nat->Nat->Bool
 | _,0=>false
 | n,d+1=>if(jBH (wrap64 (cs.getD n 0))==1-side&&reach (wrap64 (cs.getD n 0)) n k ts)=true then true else zE.go cs side k ts (n+1) d
def zE.f (cs:List Int) (side:Int):Bool:=if zC.f cs side<0 then false else zE.go cs side (zC.f cs side).toNat (jb.f cs) 0 81
theorem zE.incheck_calls (cs:List Int) (side:Int) (r:Bool) (w:World) (hl:cs.length=98) (hs:side=0\/side=1) (h:zE.f cs side=r):
  Calls Tryz.prog 52 #[.agg (jA.pv cs),.int .i64 side] w λe w'=>e=.returned (.bool r)/\Below w.heap.size w w':=by
 have e1:IntKind.i64.wrap (1-side)=1-side:=IntWalk.i64_in _ (by omega);have hz:=b81_zero;have hkr:=zC.range cs side 81 0 rfl
 obtain⟨kk,hkk⟩:∃kk,zC.f cs side=kk:=⟨_,rfl⟩
 unfold zE.f at h;rw[hkk] at h
 replace hkr:kk = -1\/(0<=kk/\kk<81):=by rw[<- hkk];exact hkr
 have HKK:=qA hkk;have HR:=qA h;have HS:=qA hs;clear h hkk hs;have B1:(w.alloc (Obj.cells (jA.pv cs) 28)).heap[w.heap.size]?=some (.cells (jA.pv cs) 28 (0,0)):=zJ w _;have BB:Below w.heap.size w (w.alloc (Obj.cells (jA.pv cs) 28)):=ji (Below.refl _ _) _;go_enter Tryz.func52,Tryz.ntmps52;go_upto_region 1 with(fail);generalize w.alloc (Obj.cells (jA.pv cs) 28)=W at *;have K1:=qA B1;have KB:=qA BB;clear B1 BB;go_upto_region 2 with(first|((with_reducible refine jG (N:=8) rfl ?_);refine jA.load rfl 28 (.tmp 2) rfl rfl K1.out Tryz.underlying28 rfl jA.infoP (by omega) ?_;rw[show(cs.drop 0).take 98=cs by rw[List.drop_zero,List.take_of_length_le (by omega)]])|(go_at_call 75;(with_reducible refine(jb.taken_calls cs _ hl).mono ?_);rintro e_ w7 ⟨rfl,hb⟩;replace K1:=qB K1 hb;replace KB:=qS KB hb;clear hb)|((with_reducible refine jW (t:=101) (p:=5) (v:=.tmp 9) rfl ?_);refine bv_store rfl (.tmp 5) (.tmp 9) rfl rfl rfl (zJ _ _) (by rw[bv_size];rfl) (jb.len cs 81) ?_;intro W3 s1 s2 s3;have K5:=qA s1;have nK:=qA ((s3 _ (Nat.ne_of_lt (ju K1.out))).trans (jI K1.out _));have nB:=qA (s2 w.heap.size w (Nat.le_of_lt (ju K1.out)) (ji KB.out _));clear K1 KB s1 s2 s3;have K1:=nK;have KB:=nB;clear nK nB))
 generalize w7.heap.size=g at *;clear hz;go_upto_region 3 with(first|((with_reducible refine jG (N:=10) rfl ?_);refine jA.load rfl 28 (.tmp 2) rfl rfl K1.out Tryz.underlying28 rfl jA.infoP (by omega) ?_;rw[show(cs.drop 0).take 98=cs by rw[List.drop_zero,List.take_of_length_le (by omega)]])|(go_at_call 76;(with_reducible refine(zC.king_calls cs side _ _ hl HS.out HKK.out).mono ?_);rintro e_ w7 ⟨rfl,hb⟩;replace K5:=qB K5 hb;replace K1:=qB K1 hb;replace KB:=qS KB hb;clear hb))
 by_cases hneg:kk<0
 ·have b0:decide (kk<0)=true:=decide_eq_true hneg
  rw[if_pos hneg] at HR;obtain rfl:=HR.out;go_wp2;go_ret;exact⟨rfl,KB.out⟩
 ·have b0:decide (kk<0)=false:=decide_eq_false hneg
  obtain⟨k,rfl⟩:∃k:Nat,kk=k:=⟨kk.toNat,by omega⟩
  have hr2:=HR.out;rw[if_neg hneg,Int.toNat_natCast] at hr2;have HKB:=qA (show k<81 by omega);have HR2:=qA hr2;clear HR hr2 hkr hneg HKK;go_wp2
  go_loopg [7] 82 (λgf s7 wx=>∃(n:Nat),s7=.int .i64 n/\n<=81/\Aside0 (zE.go cs side k (jb.f cs) n (81-n)=r)/\Aside0 (wx.heap[g]?=some (.cells (bv (jb.f cs)) 101 (0,0)))/\Aside0 (wx.heap[w.heap.size]?=some (.cells (jA.pv cs) 28 (0,0)))/\Aside0 (Below w.heap.size w wx)/\82<=gf+n)
  case atStart=>exact⟨0,rfl,by omega,HR2,K5,K1,KB,by omega⟩
  case round=>
   clear K1 K5 KB HR2;obtain⟨n,rfl,hn,HR,K5,K1,KB,hgf⟩:=hrel
   by_cases hend:n=81
   ·subst hend
    obtain rfl:false=r:=HR.out;go_wp2;go_ret;exact⟨rfl,KB.out⟩
   ·obtain⟨d,hd⟩:∃d,81-n=d+1:=⟨80-n,by omega⟩
    have e:=HR.out;rw[hd] at e;replace e:(if(jBH (wrap64 (cs.getD n 0))==1-side&&reach (wrap64 (cs.getD n 0)) n k (jb.f cs))=true then true else zE.go cs side k (jb.f cs) (n+1) d)=r:=e
    have hd2:d=81-(n+1):=by omega
    rw[hd2] at e;have b1:decide ((n:Int)<81)=true:=decide_eq_true (by omega);have b2:(0<=(n:Int)/\(n:Int)<81)=True:=eq_true (by omega);have b3:((n:Int)<81)=True:=eq_true (by omega);have hcv:(jA.pv cs)[n]?=some (.int .i8 (cs.getD n 0)):=jA.pv_get cs n (by omega);generalize cs.getD n 0=v at hcv e;have HCV:=qA hcv;have HN:=qA (show n<81 by omega);have HSD:=qA (jA2 (wrap64 v));have ew:IntKind.i64.wrap ((n:Int)+1)=(n:Int)+1:=IntWalk.i64_in _ (by omega)
    obtain⟨g',rfl⟩:∃g',gk=g'+1:=⟨gk-1,by omega⟩
    generalize jBH (wrap64 v)=sd at e HSD;have hlt:(jb.f cs).length=81:=jb.len cs 81
    obtain⟨rc,hrc⟩:∃rc,reach (wrap64 v) n k (jb.f cs)=rc:=⟨_,rfl⟩
    rw[hrc] at e;have HRC:=qA hrc;have HLT:=qA hlt;clear hcv hd hd2 HR hrc hlt;go_upto_region 8 with(fail)
    cases t1:(sd==1-side)
    ·rw[t1] at e
     have HE:=qA (show zE.go cs side k (jb.f cs) (n+1) (81-(n+1))=r from e);clear e HRC HLT;go_cut [38] (λs38 wx=>s38=.bool false/\Aside0 (wx.heap[g]?=some (.cells (bv (jb.f cs)) 101 (0,0)))/\Aside0 (wx.heap[w.heap.size]?=some (.cells (jA.pv cs) 28 (0,0)))/\Aside0 (Below w.heap.size w wx))
     case first=>
      refine wp_region_held_drew (S:=λW=>W.heap[w.heap.size]?=some (.cells (jA.pv cs) 28 (0,0))) (by kernel_rfl) (jY K1.out) (λ_=>?_);replace K1:=qD K1;replace K5:=qD K5;replace KB:=qA (zD KB.out);refine tkW 0 K1.out ?_;refine tkW 1 K1.out ?_;refine tkW 2 K1.out ?_;refine tkW 3 K1.out ?_ (hv:=λW h=>by have hc:W.cell? ⟨w.heap.size,n,none⟩=some (.int .i8 v):=(jB h n).trans HCV.out;go_simp;try with_reducible rfl);refine tkW 4 K1.out ?_ (v:=.int .i64 (wrap64 v)) (hv:=λW h=>by go_simp;simp only[zP]);refine tkW 6 K1.out ?_;refine tkW 7 K1.out ?_;refine on1W 5 (λK hK=>?_);show(if Region.wanted ⟨some 24,.call _,_,_,_,none⟩ _=true then Oper.wp _ ⟨some 24,.call _,_,_,_,none⟩ _ _ _ _ else _);go_simp;refine(jm.calls _ _ _ HSD.out).mono ?_;rintro e_ w7 ⟨rfl,hd_⟩;have hb:=hd_.below;clear hd_;replace K1:=qB K1 hb;replace K5:=qB K5 hb;replace KB:=qS KB hb;clear hb;refine koW hK K1.out ?_;clear hK K;refine tkW 8 K1.out ?_;refine tkW 9 K1.out ?_;refine tk0W 10 K1.out ?_;refine tk0W 11 K1.out ?_;refine tk0W 12 K1.out ?_;refine tk0W 13 K1.out ?_;refine tk0W 14 K1.out ?_;refine tk0W 15 K1.out ?_;refine tk0W 16 K1.out ?_;refine tk0W 17 K1.out ?_;refine tk0W 18 K1.out ?_;refine tkW 19 K1.out ?_;refine wpAnyH_done (by kernel_rfl) ?_ _
      go_wp2;go_meet;exact⟨rfl,K5,K1,KB⟩
     case rest=>
      clear K1 K5 KB;obtain⟨rfl,K5,K1,KB⟩:=hcut;go_wp2
      go_roundg g'
      case measure=>omega
      case rel=>exact⟨n+1,by simp,by omega,HE,K5,K1,KB,by omega⟩
    ·rw[t1] at e
     have HEE:=qA e;clear e;go_cut [38] (λs38 wx=>s38=.bool rc/\Aside0 (wx.heap[g]?=some (.cells (bv (jb.f cs)) 101 (0,0)))/\Aside0 (wx.heap[w.heap.size]?=some (.cells (jA.pv cs) 28 (0,0)))/\Aside0 (Below w.heap.size w wx))
     case first=>
      refine wp_region_held_drew (S:=λW=>W.heap[w.heap.size]?=some (.cells (jA.pv cs) 28 (0,0))) (by kernel_rfl) (jY K1.out) (λ_=>?_);replace K1:=qD K1;replace K5:=qD K5;replace KB:=qA (zD KB.out);refine tkW 0 K1.out ?_;refine tkW 1 K1.out ?_;refine tkW 2 K1.out ?_;refine tkW 3 K1.out ?_ (hv:=λW h=>by have hc:W.cell? ⟨w.heap.size,n,none⟩=some (.int .i8 v):=(jB h n).trans HCV.out;go_simp;try with_reducible rfl);refine tkW 4 K1.out ?_ (v:=.int .i64 (wrap64 v)) (hv:=λW h=>by go_simp;simp only[zP]);refine tkW 6 K1.out ?_;refine tkW 7 K1.out ?_;refine on1W 5 (λK hK=>?_);show(if Region.wanted ⟨some 24,.call _,_,_,_,none⟩ _=true then Oper.wp _ ⟨some 24,.call _,_,_,_,none⟩ _ _ _ _ else _);go_simp;refine(jm.calls _ _ _ HSD.out).mono ?_;rintro e_ w7 ⟨rfl,hd_⟩;have hb:=hd_.below;clear hd_;replace K1:=qB K1 hb;replace K5:=qB K5 hb;replace KB:=qS KB hb;clear hb;refine koW hK K1.out ?_;clear hK K;refine tkW 8 K1.out ?_;refine tkW 9 K1.out ?_;refine tkW 10 K1.out ?_;refine tkW 11 K1.out ?_;refine tkW 12 K1.out ?_;refine tkW 13 K1.out ?_ (hv:=λW h=>by have hc:W.cell? ⟨w.heap.size,n,none⟩=some (.int .i8 v):=(jB h n).trans HCV.out;go_simp;try with_reducible rfl);refine tkW 14 K1.out ?_ (v:=.int .i64 (wrap64 v)) (hv:=λW h=>by go_simp;simp only[zP])
      refine tkW 15 K1.out ?_;refine tkW 16 K1.out ?_;refine on1W 17 (λK hK=>?_);show(if Region.wanted ⟨some 36,.load 101 (.tmp 5),_,_,_,some (9,true)⟩ _=true then Oper.wp _ ⟨some 36,.load 101 (.tmp 5),_,_,_,some (9,true)⟩ _ _ _ _ else _);rw[if_pos (by rfl)];refine bv_wp_load (.tmp 5) rfl rfl K5.out HLT.out ?_;refine koW hK K1.out ?_;clear hK K;refine on1W 18 (λK hK=>?_);show(if Region.wanted ⟨some 37,.call _,_,_,_,some (9,true)⟩ _=true then Oper.wp _ ⟨some 37,.call _,_,_,_,some (9,true)⟩ _ _ _ _ else _);rw[if_pos (by rfl)];go_simp;refine(reach_calls _ n k _ _ _ HN.out HKB.out HLT.out HRC.out).mono ?_;rintro e_ w7 ⟨rfl,hb⟩;replace K1:=qB K1 hb;replace K5:=qB K5 hb;replace KB:=qS KB hb;clear hb;refine koW hK K1.out ?_;clear hK K;refine tkW 19 K1.out ?_;refine wpAnyH_done (by kernel_rfl) ?_ _;go_wp2;go_meet;exact⟨rfl,K5,K1,KB⟩
     case rest=>
      clear K1 K5 KB;obtain⟨rfl,K5,K1,KB⟩:=hcut;have e:=HEE.out;clear HEE
      cases rc
      ·have HE:=qA (show zE.go cs side k (jb.f cs) (n+1) (81-(n+1))=r from e)
       clear e;go_wp2
       go_roundg g'
       case measure=>omega
       case rel=>exact⟨n+1,by simp,by omega,HE,K5,K1,KB,by omega⟩
      ·obtain rfl:true=r:=e
       go_wp2;go_ret;exact⟨rfl,KB.out⟩
def zG.f (cs:List Int):Int:=if jC.f cs=0 then(if zE.f cs (1-cs.getD 97 0)=true then 54 else 0) else jC.f cs
theorem zG.check_calls (cs:List Int) (r:Int) (w:World) (hl:cs.length=98) (h:zG.f cs=r):
  Calls Tryz.prog 29 #[.agg (jA.pv cs)] w λe w'=>e=.returned (.int .i64 r)/\Below w.heap.size w w':=by
 unfold zG.f at h
 obtain⟨e0,he0⟩:∃e0,jC.f cs=e0:=⟨_,rfl⟩
 rw[he0] at h;have H0:=qA he0;have B1:(w.alloc (Obj.cells (jA.pv cs) 28)).heap[w.heap.size]?=some (.cells (jA.pv cs) 28 (0,0)):=zJ w _;have BB:Below w.heap.size w (w.alloc (Obj.cells (jA.pv cs) 28)):=ji (Below.refl _ _) _;have HR:=qA h;clear h;go_enter Tryz.func29,Tryz.ntmps29;go_upto_region 1 with(fail);generalize w.alloc (Obj.cells (jA.pv cs) 28)=W at *;have c97:W.cell? ⟨w.heap.size,97,none⟩=some (.int .i8 (cs.getD 97 0)):=(jB B1 97).trans (jA.pv_get cs 97 (by omega));have K1:=qA B1;have KB:=qA BB;clear B1 BB;clear c97
 by_cases h0:e0=0
 ·subst h0
  have hs:=jC.side0 cs he0;have e:=HR.out;rw[if_pos rfl] at e
  obtain⟨ic,hic⟩:∃ic,zE.f cs (1-cs.getD 97 0)=ic:=⟨_,rfl⟩
  rw[hic] at e;clear HR he0;go_upto_region 4 with(first|((with_reducible refine jG (N:=4) rfl ?_);refine jA.load rfl 28 (.tmp 1) rfl rfl K1.out Tryz.underlying28 rfl jA.infoP (by omega) ?_;rw[show(cs.drop 0).take 98=cs by rw[List.drop_zero,List.take_of_length_le (by omega)]])|(go_at_call 51;(with_reducible refine(jC.check_calls cs _ _ hl H0.out).mono ?_);rintro e_ w7 ⟨rfl,hb⟩;replace K1:=qB K1 hb;replace KB:=qS KB hb;clear hb));have c97:w7.cell? ⟨w.heap.size,97,none⟩=some (.int .i8 (cs.getD 97 0)):=(jB K1.out 97).trans (jA.pv_get cs 97 (by omega))
  have ws:wrap64 (cs.getD 97 0)=cs.getD 97 0:=by rcases hs with h|h<;>rw[h]<;>decide +kernel
  have HIC:=qA hic
  obtain⟨sd,hsd⟩:∃sd,cs.getD 97 0=sd:=⟨_,rfl⟩
  rw[hsd] at c97 hs HIC ws;have HSD:=qA (show 1-sd=0\/1-sd=1 by omega);have e1:IntKind.i64.wrap (1-sd)=1-sd:=IntWalk.i64_in _ (by omega);have HE:=qA e;clear e hs hsd hic
  cases ic
  ·obtain rfl:=HE.out
   go_wp2_with (first|((with_reducible refine jG (N:=9) rfl ?_);refine jA.load rfl 28 (.tmp 1) rfl rfl K1.out Tryz.underlying28 rfl jA.infoP (by omega) ?_;rw[show(cs.drop 0).take 98=cs by rw[List.drop_zero,List.take_of_length_le (by omega)]])|(go_at_call 52;(with_reducible refine(zE.incheck_calls cs (1-sd) _ _ hl HSD.out HIC.out).mono ?_);rintro e_ w7 ⟨rfl,hb⟩;replace K1:=qB K1 hb;replace KB:=qS KB hb;clear hb))
   go_ret;exact⟨rfl,KB.out⟩
  ·obtain rfl:=HE.out
   go_wp2_with (first|((with_reducible refine jG (N:=9) rfl ?_);refine jA.load rfl 28 (.tmp 1) rfl rfl K1.out Tryz.underlying28 rfl jA.infoP (by omega) ?_;rw[show(cs.drop 0).take 98=cs by rw[List.drop_zero,List.take_of_length_le (by omega)]])|(go_at_call 52;(with_reducible refine(zE.incheck_calls cs (1-sd) _ _ hl HSD.out HIC.out).mono ?_);rintro e_ w7 ⟨rfl,hb⟩;replace K1:=qB K1 hb;replace KB:=qS KB hb;clear hb))
   go_ret;exact⟨rfl,KB.out⟩
 ·have f0:(e0 != 0)=true:=by simpa using h0
  have e:=HR.out;rw[if_neg h0] at e;subst e
  go_wp2_with (first|((with_reducible refine jG (N:=4) rfl ?_);refine jA.load rfl 28 (.tmp 1) rfl rfl K1.out Tryz.underlying28 rfl jA.infoP (by omega) ?_;rw[show(cs.drop 0).take 98=cs by rw[List.drop_zero,List.take_of_length_le (by omega)]])|(go_at_call 51;(with_reducible refine(jC.check_calls cs _ _ hl H0.out).mono ?_);rintro e_ w7 ⟨rfl,hb⟩;replace K1:=qB K1 hb;replace KB:=qS KB hb;clear hb))
  go_ret;exact⟨rfl,KB.out⟩
def jg.l0:Nat->Int->ByteArray->Option (ByteArray)
 | 0,_,_=>none
 | k+1,x0,x3=>if x0>9 then((some (([(wrap64 (48+(Int.tmod x0 10)))%256]:List Int):List Int)).bind λy263=>(if(strOfNums y263).size+x3.size<=9223372036854775807 then(jg.l0 k (wrap64 (Int.tdiv x0 10)) ((strOfNums y263)++x3)) else(none))) else((some (([(wrap64 (48+x0))%256]:List Int):List Int)).bind λy266=>(if(strOfNums y266).size+x3.size<=9223372036854775807 then(some ((strOfNums y266)++x3)) else(none)))
def jg.f (k:Nat) (a0:Int):Option (ByteArray):=jg.l0 k a0 (⟨#[]⟩:ByteArray)
theorem jg.mono_l:∀k,(∀y0 y1,LeO (jg.l0 k y0 y1) (jg.l0 (k+1) y0 y1))
 | 0=>λ_ _ r h=>by simp [jg.l0] at h
 | k+1=>by
  have ih0:=jg.mono_l k
  ·intro y0 y1
   unfold jg.l0
   repeat' first
   | (with_reducible exact ih0 _ _)
   | (with_reducible exact LeO.refl _)
   | (with_reducible exact LeO.none _)
   | (with_reducible refine LeO.ite ?_ ?_)
   | (with_reducible refine LeO.bind ?_ (λ_=>?_))
   | exact ih0 _ _
   | exact LeO.none _
   | refine LeO.ite ?_ ?_
   | refine LeO.bind ?_ (λ_=>?_)
theorem jg.mono:∀a0 k,LeO (jg.f k a0) (jg.f (k+1) a0):=by
 intro a0 k;have ih0:=jg.mono_l k;unfold jg.f
 repeat' first
   | (with_reducible exact ih0 _ _)
   | (with_reducible exact LeO.refl _)
   | (with_reducible exact LeO.none _)
   | (with_reducible refine LeO.ite ?_ ?_)
   | (with_reducible refine LeO.bind ?_ (λ_=>?_))
   | exact ih0 _ _
   | exact LeO.none _
   | refine LeO.ite ?_ ?_
   | refine LeO.bind ?_ (λ_=>?_)
theorem jg.calls (k:Nat) (a0:Int) (r:ByteArray) (w:World) (h:jg.f k a0=some r):
  Calls Tryz.prog 32 #[.int .i64 a0] w λe w'=>e=.returned (.string r)/\Below w.heap.size w w':=by
 have HB:=qA (Below.refl w.heap.size w);have H:(jg.l0 k a0 (⟨#[]⟩:ByteArray))=some r:=h;clear h;have H':=qA H;clear H;go_enter Tryz.func32,Tryz.ntmps32;go_wp2
 go_loopg [0,3] k (λkq v0 v3 w'=>∃(x0_1:Int) (x3_1:ByteArray),v0=.int .i64 x0_1/\v3=.string x3_1/\Aside0 (jg.l0 kq x0_1 x3_1=some r)/\Aside0 (kq<=k)/\Aside0 (Below w.heap.size w w'))
 case atStart=>exact⟨(a0),((⟨#[]⟩:ByteArray)),(by first|rfl|(simp;done)|(simp [*];done)),(by first|rfl|(simp;done)|(simp [*];done)),H',⟨Nat.le_refl _⟩,⟨qH HB⟩⟩
 case round=>
  clear H';obtain⟨x0_1,x3_1,rfl,rfl,HA,HK1,HB⟩:=hrel
  cases gk with
  | zero=>exact absurd HA.out (by simp [jg.l0])
  | succ k1=>
   have H:=HA.out;clear HA;simp only[jg.l0] at H
   by_cases c2:x0_1>9
   ·rw[if_pos c2] at H
    have c2b0:decide (9<x0_1)=true:=decide_eq_true c2;clear c2
    obtain⟨y263,hy263⟩:∃y_:List Int,y_=(([(wrap64 (48+(Int.tmod x0_1 10)))%256]:List Int)):=⟨_,rfl⟩
    replace H:(if(strOfNums y263).size+x3_1.size<=9223372036854775807 then(jg.l0 k1 (wrap64 (Int.tdiv x0_1 10)) ((strOfNums y263)++x3_1)) else(none))=some r:=by first|(rw[hy263];with_reducible exact H)|(have H2_:=(Option.bind_some _ _).symm.trans H;rw[hy263];with_reducible exact H2_)|(have H2_:=(Option.bind_some _ _).symm.trans H;with_reducible exact H2_)|with_reducible exact H|(rw[hy263];exact H)|exact H
    have Ny263:=qA hy263;clear hy263
    by_cases c3:(strOfNums y263).size+x3_1.size<=9223372036854775807
    ·rw[if_pos c3] at H
     have c3b0:=eq_true c3;have c3b1:decide ((strOfNums y263).size+x3_1.size<=9223372036854775807)=true:=decide_eq_true c3
     try have c3b2:(9223372036854775807<(strOfNums y263).size+x3_1.size)=False:=eq_false (Nat.not_lt.2 c3)
     have H':=qA H;clear H
     go_wp2_with (first|((with_reducible refine jG (N:=10) rfl ?_);refine Kd.R_lit (Kd.int .u8) _ 5 ?hg (N:=10) ?hd (xs:=([(wrap64 (48+(Int.tmod x0_1 10)))%256]:List Int)) (inner:=[.int .u8 ((wrap64 (48+(Int.tmod x0_1 10)))%256)]) (ok:=λ_=>True) (okp:=λ_=>True) ?hr ?hp (λ_ hk=>hk) trivial (Below.refl _ _) (Nat.le_refl _) (by simp) ?_;(case hd=>rfl);(case hg=>rfl);(case hr=>first|(go_simp;done)|(go_simp;rfl));(case hp=>exact(Reps.one (show Kd.M (Kd.int .u8) _ _ _ ((wrap64 (48+(Int.tmod x0_1 10)))%256) [.int .u8 ((wrap64 (48+(Int.tmod x0_1 10)))%256)] from rfl) (Reps.none _ _)));intro v264 w4 ho5 hb hg_ hnew_;clear hg_ hnew_;(first|rw[<- Ny263.out] at ho5|(simp only[Int.reduceToNat] at ho5;rw[<- Ny263.out] at ho5));have n0_:=qA (Kd.R_lower ho5 (jP (qH HB)));have n1_:=qA (jX (qH HB) hb);clear HB;have HO265:=n0_;have HB:=n1_;clear n0_ n1_;clear hb ho5;have hcv6:=y9 (P:=Tryz.prog) Tryz.underlying39 Tryz.underlying5 Tryz.underlying9 (Kd.own_of_R HO265.out)))
     go_roundg k1
     case measure=>have:=HK1.out;omega
     case rel=>exact⟨(wrap64 (Int.tdiv x0_1 10)),((strOfNums y263)++x3_1),(by first|rfl|(simp;done)|(simp [*];done)),(by first|rfl|(simp;done)|(simp [*];done)),H',⟨by have:=HK1.out;omega⟩,⟨qH HB⟩⟩
    ·rw[if_neg c3] at H
     exact absurd H (by simp)
   ·rw[if_neg c2] at H
    have c2b0:decide (9<x0_1)=false:=decide_eq_false c2;clear c2
    obtain⟨y266,hy266⟩:∃y_:List Int,y_=(([(wrap64 (48+x0_1))%256]:List Int)):=⟨_,rfl⟩
    replace H:(if(strOfNums y266).size+x3_1.size<=9223372036854775807 then(some ((strOfNums y266)++x3_1)) else(none))=some r:=by first|(rw[hy266];with_reducible exact H)|(have H2_:=(Option.bind_some _ _).symm.trans H;rw[hy266];with_reducible exact H2_)|(have H2_:=(Option.bind_some _ _).symm.trans H;with_reducible exact H2_)|with_reducible exact H|(rw[hy266];exact H)|exact H
    have Ny266:=qA hy266;clear hy266
    by_cases c7:(strOfNums y266).size+x3_1.size<=9223372036854775807
    ·rw[if_pos c7] at H
     have c7b0:=eq_true c7;have c7b1:decide ((strOfNums y266).size+x3_1.size<=9223372036854775807)=true:=decide_eq_true c7
     try have c7b2:(9223372036854775807<(strOfNums y266).size+x3_1.size)=False:=eq_false (Nat.not_lt.2 c7)
     obtain rfl:=Option.some.inj H
     go_wp2_with (first|((with_reducible refine jG (N:=19) rfl ?_);refine Kd.R_lit (Kd.int .u8) _ 5 ?hg (N:=19) ?hd (xs:=([(wrap64 (48+x0_1))%256]:List Int)) (inner:=[.int .u8 ((wrap64 (48+x0_1))%256)]) (ok:=λ_=>True) (okp:=λ_=>True) ?hr ?hp (λ_ hk=>hk) trivial (Below.refl _ _) (Nat.le_refl _) (by simp) ?_;(case hd=>rfl);(case hg=>rfl);(case hr=>first|(go_simp;done)|(go_simp;rfl));(case hp=>exact(Reps.one (show Kd.M (Kd.int .u8) _ _ _ ((wrap64 (48+x0_1))%256) [.int .u8 ((wrap64 (48+x0_1))%256)] from rfl) (Reps.none _ _)));intro v267 w8 ho9 hb hg_ hnew_;clear hg_ hnew_;(first|rw[<- Ny266.out] at ho9|(simp only[Int.reduceToNat] at ho9;rw[<- Ny266.out] at ho9));have n0_:=qA (Kd.R_lower ho9 (jP (qH HB)));have n1_:=qA (jX (qH HB) hb);clear HB;have HO268:=n0_;have HB:=n1_;clear n0_ n1_;clear hb ho9;have hcv10:=y9 (P:=Tryz.prog) Tryz.underlying39 Tryz.underlying5 Tryz.underlying9 (Kd.own_of_R HO268.out)))
     go_ret;exact⟨by first|rfl|(simp [jL,jK]<;>rfl)|(simp [*,jL,jK]<;>rfl)|(simp [*,jL,jK];generalize ByteArray.toList _=q_;cases q_<;>rfl),qH HB⟩
    ·rw[if_neg c7] at H
     exact absurd H (by simp)
def yV.f  : Option (List ByteArray):=some (([(⟨#[]⟩:ByteArray),(⟨#[80]⟩:ByteArray),(⟨#[76]⟩:ByteArray),(⟨#[78]⟩:ByteArray),(⟨#[83]⟩:ByteArray),(⟨#[71]⟩:ByteArray),(⟨#[66]⟩:ByteArray),(⟨#[82]⟩:ByteArray),(⟨#[75]⟩:ByteArray),(⟨#[43,80]⟩:ByteArray),(⟨#[43,76]⟩:ByteArray),(⟨#[43,78]⟩:ByteArray),(⟨#[43,83]⟩:ByteArray),(⟨#[]⟩:ByteArray),(⟨#[43,66]⟩:ByteArray),(⟨#[43,82]⟩:ByteArray)]:List ByteArray))
theorem yV.calls  (r:List ByteArray) (w:World) (h:yV.f  = some r):
  Calls Tryz.prog 78 #[] w λe w'=>∃v0_:Value,e=.returned (v0_)/\Kd.R Kd.string 9 w' w.heap.size (λ_=>True) v0_ r/\Below w.heap.size w w':=by
 have HB:=qA (Below.refl w.heap.size w);have H:(some (([(⟨#[]⟩:ByteArray),(⟨#[80]⟩:ByteArray),(⟨#[76]⟩:ByteArray),(⟨#[78]⟩:ByteArray),(⟨#[83]⟩:ByteArray),(⟨#[71]⟩:ByteArray),(⟨#[66]⟩:ByteArray),(⟨#[82]⟩:ByteArray),(⟨#[75]⟩:ByteArray),(⟨#[43,80]⟩:ByteArray),(⟨#[43,76]⟩:ByteArray),(⟨#[43,78]⟩:ByteArray),(⟨#[43,83]⟩:ByteArray),(⟨#[]⟩:ByteArray),(⟨#[43,66]⟩:ByteArray),(⟨#[43,82]⟩:ByteArray)]:List ByteArray)))=some r:=h;clear h
 obtain⟨y269,hy269⟩:∃y_:List ByteArray,y_=(([(⟨#[]⟩:ByteArray),(⟨#[80]⟩:ByteArray),(⟨#[76]⟩:ByteArray),(⟨#[78]⟩:ByteArray),(⟨#[83]⟩:ByteArray),(⟨#[71]⟩:ByteArray),(⟨#[66]⟩:ByteArray),(⟨#[82]⟩:ByteArray),(⟨#[75]⟩:ByteArray),(⟨#[43,80]⟩:ByteArray),(⟨#[43,76]⟩:ByteArray),(⟨#[43,78]⟩:ByteArray),(⟨#[43,83]⟩:ByteArray),(⟨#[]⟩:ByteArray),(⟨#[43,66]⟩:ByteArray),(⟨#[43,82]⟩:ByteArray)]:List ByteArray)):=⟨_,rfl⟩
 replace H:(some y269)=some r:=by first|(rw[hy269];with_reducible exact H)|(have H2_:=(Option.bind_some _ _).symm.trans H;rw[hy269];with_reducible exact H2_)|(have H2_:=(Option.bind_some _ _).symm.trans H;with_reducible exact H2_)|with_reducible exact H|(rw[hy269];exact H)|exact H
 have Ny269:=qA hy269;clear hy269;obtain rfl:=Option.some.inj H;go_enter Tryz.func78,Tryz.ntmps78
 go_wp2_with (first|((with_reducible refine jG (N:=1) rfl ?_);refine Kd.R_lit Kd.string _ 9 ?hg (N:=1) ?hd (xs:=([(⟨#[]⟩:ByteArray),(⟨#[80]⟩:ByteArray),(⟨#[76]⟩:ByteArray),(⟨#[78]⟩:ByteArray),(⟨#[83]⟩:ByteArray),(⟨#[71]⟩:ByteArray),(⟨#[66]⟩:ByteArray),(⟨#[82]⟩:ByteArray),(⟨#[75]⟩:ByteArray),(⟨#[43,80]⟩:ByteArray),(⟨#[43,76]⟩:ByteArray),(⟨#[43,78]⟩:ByteArray),(⟨#[43,83]⟩:ByteArray),(⟨#[]⟩:ByteArray),(⟨#[43,66]⟩:ByteArray),(⟨#[43,82]⟩:ByteArray)]:List ByteArray)) (inner:=[.string (⟨#[]⟩:ByteArray),.string (⟨#[80]⟩:ByteArray),.string (⟨#[76]⟩:ByteArray),.string (⟨#[78]⟩:ByteArray),.string (⟨#[83]⟩:ByteArray),.string (⟨#[71]⟩:ByteArray),.string (⟨#[66]⟩:ByteArray),.string (⟨#[82]⟩:ByteArray),.string (⟨#[75]⟩:ByteArray),.string (⟨#[43,80]⟩:ByteArray),.string (⟨#[43,76]⟩:ByteArray),.string (⟨#[43,78]⟩:ByteArray),.string (⟨#[43,83]⟩:ByteArray),.string (⟨#[]⟩:ByteArray),.string (⟨#[43,66]⟩:ByteArray),.string (⟨#[43,82]⟩:ByteArray)]) (ok:=λ_=>True) (okp:=λ_=>True) ?hr ?hp (λ_ hk=>hk) trivial (Below.refl _ _) (Nat.le_refl _) (by simp) ?_;(case hd=>rfl);(case hg=>rfl);(case hr=>first|(go_simp;done)|(go_simp;rfl));(case hp=>exact(Reps.one (show Kd.M Kd.string _ _ _ (⟨#[]⟩:ByteArray) [.string (⟨#[]⟩:ByteArray)] from rfl) (Reps.one (show Kd.M Kd.string _ _ _ (⟨#[80]⟩:ByteArray) [.string (⟨#[80]⟩:ByteArray)] from rfl) (Reps.one (show Kd.M Kd.string _ _ _ (⟨#[76]⟩:ByteArray) [.string (⟨#[76]⟩:ByteArray)] from rfl) (Reps.one (show Kd.M Kd.string _ _ _ (⟨#[78]⟩:ByteArray) [.string (⟨#[78]⟩:ByteArray)] from rfl) (Reps.one (show Kd.M Kd.string _ _ _ (⟨#[83]⟩:ByteArray) [.string (⟨#[83]⟩:ByteArray)] from rfl) (Reps.one (show Kd.M Kd.string _ _ _ (⟨#[71]⟩:ByteArray) [.string (⟨#[71]⟩:ByteArray)] from rfl) (Reps.one (show Kd.M Kd.string _ _ _ (⟨#[66]⟩:ByteArray) [.string (⟨#[66]⟩:ByteArray)] from rfl) (Reps.one (show Kd.M Kd.string _ _ _ (⟨#[82]⟩:ByteArray) [.string (⟨#[82]⟩:ByteArray)] from rfl) (Reps.one (show Kd.M Kd.string _ _ _ (⟨#[75]⟩:ByteArray) [.string (⟨#[75]⟩:ByteArray)] from rfl) (Reps.one (show Kd.M Kd.string _ _ _ (⟨#[43,80]⟩:ByteArray) [.string (⟨#[43,80]⟩:ByteArray)] from rfl) (Reps.one (show Kd.M Kd.string _ _ _ (⟨#[43,76]⟩:ByteArray) [.string (⟨#[43,76]⟩:ByteArray)] from rfl) (Reps.one (show Kd.M Kd.string _ _ _ (⟨#[43,78]⟩:ByteArray) [.string (⟨#[43,78]⟩:ByteArray)] from rfl) (Reps.one (show Kd.M Kd.string _ _ _ (⟨#[43,83]⟩:ByteArray) [.string (⟨#[43,83]⟩:ByteArray)] from rfl) (Reps.one (show Kd.M Kd.string _ _ _ (⟨#[]⟩:ByteArray) [.string (⟨#[]⟩:ByteArray)] from rfl) (Reps.one (show Kd.M Kd.string _ _ _ (⟨#[43,66]⟩:ByteArray) [.string (⟨#[43,66]⟩:ByteArray)] from rfl) (Reps.one (show Kd.M Kd.string _ _ _ (⟨#[43,82]⟩:ByteArray) [.string (⟨#[43,82]⟩:ByteArray)] from rfl) (Reps.none _ _))))))))))))))))));intro v270 w1 ho2 hb hg_ hnew_;clear hg_ hnew_;(first|rw[<- Ny269.out] at ho2|(simp only[Int.reduceToNat] at ho2;rw[<- Ny269.out] at ho2));have n0_:=qA (Kd.R_lower ho2 (jP (qH HB)));have n1_:=qA (jX (qH HB) hb);clear HB;have HO271:=n0_;have HB:=n1_;clear n0_ n1_;clear hb ho2))
 go_ret;exact⟨_,by first|rfl|(simp [jL,jK]<;>rfl)|(simp [*,jL,jK]<;>rfl),by (with_reducible repeat (first|apply Kd.R_alloc|apply Kd.R_drewN|apply Kd.R_drew));exact HO271.out,qH HB⟩
def jr.l0:Nat->ByteArray->ByteArray->Int->Option (ByteArray)
 | 0,_,_,_=>none
 | k+1,x0,x3,x4=>if x4<(x0.size:Int) then(if 0<=x4 then(if(bt x0 x4)>=65 then(if(bt x0 x4)<=90 then((some (([((bt x0 x4)+32)%256]:List Int):List Int)).bind λy272=>(if x3.size+(strOfNums y272).size<=9223372036854775807 then(jr.l0 k x0 (x3++(strOfNums y272)) (wrap64 (x4+1))) else(none))) else((some (([bt x0 x4]:List Int):List Int)).bind λy275=>(if x3.size+(strOfNums y275).size<=9223372036854775807 then(jr.l0 k x0 (x3++(strOfNums y275)) (wrap64 (x4+1))) else(none)))) else((some (([bt x0 x4]:List Int):List Int)).bind λy278=>(if x3.size+(strOfNums y278).size<=9223372036854775807 then(jr.l0 k x0 (x3++(strOfNums y278)) (wrap64 (x4+1))) else(none)))) else(none)) else(some x3)
def jr.f (k:Nat) (a0:ByteArray):Option (ByteArray):=jr.l0 k a0 (⟨#[]⟩:ByteArray) 0
theorem jr.mono_l:∀k,(∀y0 y1 y2,LeO (jr.l0 k y0 y1 y2) (jr.l0 (k+1) y0 y1 y2))
 | 0=>λ_ _ _ r h=>by simp [jr.l0] at h
 | k+1=>by
  have ih0:=jr.mono_l k
  ·intro y0 y1 y2
   unfold jr.l0
   repeat' first
   | (with_reducible exact ih0 _ _ _)
   | (with_reducible exact LeO.refl _)
   | (with_reducible exact LeO.none _)
   | (with_reducible refine LeO.ite ?_ ?_)
   | (with_reducible refine LeO.bind ?_ (λ_=>?_))
   | exact ih0 _ _ _
   | exact LeO.none _
   | refine LeO.ite ?_ ?_
   | refine LeO.bind ?_ (λ_=>?_)
theorem jr.mono:∀a0 k,LeO (jr.f k a0) (jr.f (k+1) a0):=by
 intro a0 k;have ih0:=jr.mono_l k;unfold jr.f
 repeat' first
   | (with_reducible exact ih0 _ _ _)
   | (with_reducible exact LeO.refl _)
   | (with_reducible exact LeO.none _)
   | (with_reducible refine LeO.ite ?_ ?_)
   | (with_reducible refine LeO.bind ?_ (λ_=>?_))
   | exact ih0 _ _ _
   | exact LeO.none _
   | refine LeO.ite ?_ ?_
   | refine LeO.bind ?_ (λ_=>?_)
theorem jr.calls (k:Nat) (a0:ByteArray) (r:ByteArray) (w:World) (h:jr.f k a0=some r):
  Calls Tryz.prog 79 #[.string a0] w λe w'=>e=.returned (.string r)/\Below w.heap.size w w':=by
 have HB:=qA (Below.refl w.heap.size w);have H:(jr.l0 k a0 (⟨#[]⟩:ByteArray) 0)=some r:=h;clear h;have H':=qA H;clear H;go_enter Tryz.func79,Tryz.ntmps79;go_wp2
 go_loopg [3,4] k (λkq v3 v4 w'=>∃(x3_1:ByteArray) (x4_1:Int),v3=.string x3_1/\v4=.int .i64 x4_1/\Aside0 (jr.l0 kq a0 x3_1 x4_1=some r)/\Aside0 (kq<=k)/\Aside0 (Below w.heap.size w w'))
 case atStart=>exact⟨((⟨#[]⟩:ByteArray)),(0),(by first|rfl|(simp;done)|(simp [*];done)),(by first|rfl|(simp;done)|(simp [*];done)),H',⟨Nat.le_refl _⟩,⟨qH HB⟩⟩
 case round=>
  clear H';obtain⟨x3_1,x4_1,rfl,rfl,HA,HK1,HB⟩:=hrel
  cases gk with
  | zero=>exact absurd HA.out (by simp [jr.l0])
  | succ k1=>
   have H:=HA.out;clear HA;simp only[jr.l0] at H
   by_cases c2:x4_1<(a0.size:Int)
   ·rw[if_pos c2] at H
    have c2b0:decide (x4_1<(a0.size:Int))=true:=decide_eq_true c2;clear c2
    by_cases c3:0<=x4_1
    ·rw[if_pos c3] at H
     have c3b0:decide (0<=x4_1)=true:=decide_eq_true c3;clear c3
     by_cases c5:(bt a0 x4_1)>=65
     ·rw[if_pos c5] at H
      have c5b0:decide (65<=(bt a0 x4_1))=true:=decide_eq_true c5;clear c5
      by_cases c6:(bt a0 x4_1)<=90
      ·rw[if_pos c6] at H
       have c6b0:decide ((bt a0 x4_1)<=90)=true:=decide_eq_true c6;clear c6
       obtain⟨y272,hy272⟩:∃y_:List Int,y_=(([((bt a0 x4_1)+32)%256]:List Int)):=⟨_,rfl⟩
       replace H:(if x3_1.size+(strOfNums y272).size<=9223372036854775807 then(jr.l0 k1 a0 (x3_1++(strOfNums y272)) (wrap64 (x4_1+1))) else(none))=some r:=by first|(rw[hy272];with_reducible exact H)|(have H2_:=(Option.bind_some _ _).symm.trans H;rw[hy272];with_reducible exact H2_)|(have H2_:=(Option.bind_some _ _).symm.trans H;with_reducible exact H2_)|with_reducible exact H|(rw[hy272];exact H)|exact H
       have Ny272:=qA hy272;clear hy272
       by_cases c7:x3_1.size+(strOfNums y272).size<=9223372036854775807
       ·rw[if_pos c7] at H
        have c7b0:=eq_true c7;have c7b1:decide (x3_1.size+(strOfNums y272).size<=9223372036854775807)=true:=decide_eq_true c7
        try have c7b2:(9223372036854775807<x3_1.size+(strOfNums y272).size)=False:=eq_false (Nat.not_lt.2 c7)
        have H':=qA H;clear H;have p4:0<=(x4_1:Int):=of_decide_eq_true (by first|(with_reducible assumption)|assumption);have q4:x4_1<(a0.size:Int):=of_decide_eq_true (by first|(with_reducible assumption)|assumption);have hx4:=jA6 a0 x4_1;replace p4:=eq_true p4;replace q4:=eq_true q4
        go_wp2_with (first|((with_reducible refine jG (N:=25) rfl ?_);refine Kd.R_lit (Kd.int .u8) _ 5 ?hg (N:=25) ?hd (xs:=([((bt a0 x4_1)+32)%256]:List Int)) (inner:=[.int .u8 (((bt a0 x4_1)+32)%256)]) (ok:=λ_=>True) (okp:=λ_=>True) ?hr ?hp (λ_ hk=>hk) trivial (Below.refl _ _) (Nat.le_refl _) (by simp) ?_;(case hd=>rfl);(case hg=>rfl);(case hr=>first|(go_simp;done)|(go_simp;rfl));(case hp=>exact(Reps.one (show Kd.M (Kd.int .u8) _ _ _ (((bt a0 x4_1)+32)%256) [.int .u8 (((bt a0 x4_1)+32)%256)] from rfl) (Reps.none _ _)));intro v273 w8 ho9 hb hg_ hnew_;clear hg_ hnew_;(first|rw[<- Ny272.out] at ho9|(simp only[Int.reduceToNat] at ho9;rw[<- Ny272.out] at ho9));have n0_:=qA (Kd.R_lower ho9 (jP (qH HB)));have n1_:=qA (jX (qH HB) hb);clear HB;have HO274:=n0_;have HB:=n1_;clear n0_ n1_;clear hb ho9;have hcv10:=y9 (P:=Tryz.prog) Tryz.underlying39 Tryz.underlying5 Tryz.underlying9 (Kd.own_of_R HO274.out)))
        go_roundg k1
        case measure=>have:=HK1.out;omega
        case rel=>exact⟨(x3_1++(strOfNums y272)),(wrap64 (x4_1+1)),(by first|rfl|(simp;done)|(simp [*];done)),(by first|rfl|(simp;done)|(simp [*];done)),H',⟨by have:=HK1.out;omega⟩,⟨qH HB⟩⟩
       ·rw[if_neg c7] at H
        exact absurd H (by simp)
      ·rw[if_neg c6] at H
       have c6b0:decide ((bt a0 x4_1)<=90)=false:=decide_eq_false c6;clear c6
       obtain⟨y275,hy275⟩:∃y_:List Int,y_=(([bt a0 x4_1]:List Int)):=⟨_,rfl⟩
       replace H:(if x3_1.size+(strOfNums y275).size<=9223372036854775807 then(jr.l0 k1 a0 (x3_1++(strOfNums y275)) (wrap64 (x4_1+1))) else(none))=some r:=by first|(rw[hy275];with_reducible exact H)|(have H2_:=(Option.bind_some _ _).symm.trans H;rw[hy275];with_reducible exact H2_)|(have H2_:=(Option.bind_some _ _).symm.trans H;with_reducible exact H2_)|with_reducible exact H|(rw[hy275];exact H)|exact H
       have Ny275:=qA hy275;clear hy275
       by_cases c11:x3_1.size+(strOfNums y275).size<=9223372036854775807
       ·rw[if_pos c11] at H
        have c11b0:=eq_true c11;have c11b1:decide (x3_1.size+(strOfNums y275).size<=9223372036854775807)=true:=decide_eq_true c11
        try have c11b2:(9223372036854775807<x3_1.size+(strOfNums y275).size)=False:=eq_false (Nat.not_lt.2 c11)
        have H':=qA H;clear H;have p4:0<=(x4_1:Int):=of_decide_eq_true (by first|(with_reducible assumption)|assumption);have q4:x4_1<(a0.size:Int):=of_decide_eq_true (by first|(with_reducible assumption)|assumption);have hx4:=jA6 a0 x4_1;replace p4:=eq_true p4;replace q4:=eq_true q4
        go_wp2_with (first|((with_reducible refine jG (N:=25) rfl ?_);refine Kd.R_lit (Kd.int .u8) _ 5 ?hg (N:=25) ?hd (xs:=([bt a0 x4_1]:List Int)) (inner:=[.int .u8 (bt a0 x4_1)]) (ok:=λ_=>True) (okp:=λ_=>True) ?hr ?hp (λ_ hk=>hk) trivial (Below.refl _ _) (Nat.le_refl _) (by simp) ?_;(case hd=>rfl);(case hg=>rfl);(case hr=>first|(go_simp;done)|(go_simp;rfl));(case hp=>exact(Reps.one (show Kd.M (Kd.int .u8) _ _ _ (bt a0 x4_1) [.int .u8 (bt a0 x4_1)] from rfl) (Reps.none _ _)));intro v276 w12 ho13 hb hg_ hnew_;clear hg_ hnew_;(first|rw[<- Ny275.out] at ho13|(simp only[Int.reduceToNat] at ho13;rw[<- Ny275.out] at ho13));have n0_:=qA (Kd.R_lower ho13 (jP (qH HB)));have n1_:=qA (jX (qH HB) hb);clear HB;have HO277:=n0_;have HB:=n1_;clear n0_ n1_;clear hb ho13;have hcv14:=y9 (P:=Tryz.prog) Tryz.underlying39 Tryz.underlying5 Tryz.underlying9 (Kd.own_of_R HO277.out)))
        go_roundg k1
        case measure=>have:=HK1.out;omega
        case rel=>exact⟨(x3_1++(strOfNums y275)),(wrap64 (x4_1+1)),(by first|rfl|(simp;done)|(simp [*];done)),(by first|rfl|(simp;done)|(simp [*];done)),H',⟨by have:=HK1.out;omega⟩,⟨qH HB⟩⟩
       ·rw[if_neg c11] at H
        exact absurd H (by simp)
     ·rw[if_neg c5] at H
      have c5b0:decide (65<=(bt a0 x4_1))=false:=decide_eq_false c5;clear c5
      obtain⟨y278,hy278⟩:∃y_:List Int,y_=(([bt a0 x4_1]:List Int)):=⟨_,rfl⟩
      replace H:(if x3_1.size+(strOfNums y278).size<=9223372036854775807 then(jr.l0 k1 a0 (x3_1++(strOfNums y278)) (wrap64 (x4_1+1))) else(none))=some r:=by first|(rw[hy278];with_reducible exact H)|(have H2_:=(Option.bind_some _ _).symm.trans H;rw[hy278];with_reducible exact H2_)|(have H2_:=(Option.bind_some _ _).symm.trans H;with_reducible exact H2_)|with_reducible exact H|(rw[hy278];exact H)|exact H
      have Ny278:=qA hy278;clear hy278
      by_cases c15:x3_1.size+(strOfNums y278).size<=9223372036854775807
      ·rw[if_pos c15] at H
       have c15b0:=eq_true c15;have c15b1:decide (x3_1.size+(strOfNums y278).size<=9223372036854775807)=true:=decide_eq_true c15
       try have c15b2:(9223372036854775807<x3_1.size+(strOfNums y278).size)=False:=eq_false (Nat.not_lt.2 c15)
       have H':=qA H;clear H;have p4:0<=(x4_1:Int):=of_decide_eq_true (by first|(with_reducible assumption)|assumption);have q4:x4_1<(a0.size:Int):=of_decide_eq_true (by first|(with_reducible assumption)|assumption);have hx4:=jA6 a0 x4_1;replace p4:=eq_true p4;replace q4:=eq_true q4
       go_wp2_with (first|((with_reducible refine jG (N:=25) rfl ?_);refine Kd.R_lit (Kd.int .u8) _ 5 ?hg (N:=25) ?hd (xs:=([bt a0 x4_1]:List Int)) (inner:=[.int .u8 (bt a0 x4_1)]) (ok:=λ_=>True) (okp:=λ_=>True) ?hr ?hp (λ_ hk=>hk) trivial (Below.refl _ _) (Nat.le_refl _) (by simp) ?_;(case hd=>rfl);(case hg=>rfl);(case hr=>first|(go_simp;done)|(go_simp;rfl));(case hp=>exact(Reps.one (show Kd.M (Kd.int .u8) _ _ _ (bt a0 x4_1) [.int .u8 (bt a0 x4_1)] from rfl) (Reps.none _ _)));intro v279 w16 ho17 hb hg_ hnew_;clear hg_ hnew_;(first|rw[<- Ny278.out] at ho17|(simp only[Int.reduceToNat] at ho17;rw[<- Ny278.out] at ho17));have n0_:=qA (Kd.R_lower ho17 (jP (qH HB)));have n1_:=qA (jX (qH HB) hb);clear HB;have HO280:=n0_;have HB:=n1_;clear n0_ n1_;clear hb ho17;have hcv18:=y9 (P:=Tryz.prog) Tryz.underlying39 Tryz.underlying5 Tryz.underlying9 (Kd.own_of_R HO280.out)))
       go_roundg k1
       case measure=>have:=HK1.out;omega
       case rel=>exact⟨(x3_1++(strOfNums y278)),(wrap64 (x4_1+1)),(by first|rfl|(simp;done)|(simp [*];done)),(by first|rfl|(simp;done)|(simp [*];done)),H',⟨by have:=HK1.out;omega⟩,⟨qH HB⟩⟩
      ·rw[if_neg c15] at H
       exact absurd H (by simp)
    ·rw[if_neg c3] at H
     exact absurd H (by simp)
   ·rw[if_neg c2] at H
    have c2b0:decide (x4_1<(a0.size:Int))=false:=decide_eq_false c2;clear c2;obtain rfl:=Option.some.inj H;go_wp2;go_ret;exact⟨by first|rfl|(simp [jL,jK]<;>rfl)|(simp [*,jL,jK]<;>rfl)|(simp [*,jL,jK];generalize ByteArray.toList _=q_;cases q_<;>rfl),qH HB⟩
def jU.j0:Nat->Int->List ByteArray->Bool->Option (ByteArray)
 | 0,_,_,_=>none
 | k+1,x0,x3,x10=>if x10=true then(if 0<=x0 then(if x0<(x3.length:Int) then(some (rdOf ByteArray.empty x3 x0)) else(none)) else(none)) else(if x0>=17 then(if x0<=31 then(if 0<=(wrap64 (x0-16)) then(if(wrap64 (x0-16))<(x3.length:Int) then((jr.f k (rdOf ByteArray.empty x3 (wrap64 (x0-16)))).bind λt286=>(some t286)) else(none)) else(none)) else(some (⟨#[]⟩:ByteArray))) else(some (⟨#[]⟩:ByteArray)))
def jU.f (k:Nat) (a0:Int):Option (ByteArray):=(yV.f).bind λt281=>(if a0>=1 then(jU.j0 k a0 t281 (decide (a0<=15))) else(jU.j0 k a0 t281 false))
theorem jU.mono_l:∀k,(∀y0 y1 y2,LeO (jU.j0 k y0 y1 y2) (jU.j0 (k+1) y0 y1 y2))
 | 0=>λ_ _ _ r h=>by simp [jU.j0] at h
 | k+1=>by
  have ih0:=jU.mono_l k
  ·intro y0 y1 y2
   unfold jU.j0
   repeat' first
   | (with_reducible exact ih0 _ _ _)
   | (with_reducible exact jr.mono _ _)
   | (with_reducible exact LeO.refl _)
   | (with_reducible exact LeO.none _)
   | (with_reducible refine LeO.ite ?_ ?_)
   | (with_reducible refine LeO.bind ?_ (λ_=>?_))
   | exact ih0 _ _ _
   | exact jr.mono _ _
   | exact LeO.none _
   | refine LeO.ite ?_ ?_
   | refine LeO.bind ?_ (λ_=>?_)
theorem jU.mono:∀a0 k,LeO (jU.f k a0) (jU.f (k+1) a0):=by
 intro a0 k;have ih0:=jU.mono_l k;unfold jU.f
 repeat' first
   | (with_reducible exact ih0 _ _ _)
   | (with_reducible exact jr.mono _ _)
   | (with_reducible exact LeO.refl _)
   | (with_reducible exact LeO.none _)
   | (with_reducible refine LeO.ite ?_ ?_)
   | (with_reducible refine LeO.bind ?_ (λ_=>?_))
   | exact ih0 _ _ _
   | exact jr.mono _ _
   | exact LeO.none _
   | refine LeO.ite ?_ ?_
   | refine LeO.bind ?_ (λ_=>?_)
theorem jU.calls (k:Nat) (a0:Int) (r:ByteArray) (w:World) (h:jU.f k a0=some r):
  Calls Tryz.prog 53 #[.int .i64 a0] w λe w'=>e=.returned (.string r)/\Below w.heap.size w w':=by
 have HB:=qA (Below.refl w.heap.size w);have H:((yV.f).bind λt281=>(if a0>=1 then(jU.j0 k a0 t281 (decide (a0<=15))) else(jU.j0 k a0 t281 false)))=some r:=h;clear h;replace H:=Option.bind_eq_some_iff.mp H;obtain⟨t281,A20,H⟩:=H;replace H:(if a0>=1 then(jU.j0 k a0 t281 (decide (a0<=15))) else(jU.j0 k a0 t281 false))=some r:=H;have A2:=qA A20;clear A20;have HC3:=qA H;clear H;go_enter Tryz.func53,Tryz.ntmps53;go_upto_region 2 with(first|((with_reducible refine jV (f:=78) rfl ?_);refine zB (some 4) rfl rfl Tryz.func78 (by kernel_rfl) rfl #[] rfl (by (try simp only[List.map_toArray,List.map_cons,List.map_nil]);first|done|rfl|(simp only[List.length_drop,List.length_take];rfl)) ?_;(with_reducible refine(yV.calls  t281 _ A2.out).mono ?_);rintro e w4 ⟨v282,rfl,ho0,hb⟩;refine⟨_,rfl,?_⟩;have n0_:=qA (Kd.R_lower ho0 (jP (qH HB)));have n1_:=qA (jX (qH HB) hb);clear HB;have HO283:=n0_;have HB:=n1_;clear n0_ n1_;(try clear hb);(try clear hb2);(try clear hk);(try clear hi);(try clear ho0)))
 (try simp only[Act.put,List.setIfInBounds_toArray,List.set_cons_zero,List.set_cons_succ])
 go_cut [10] (λv10 wc=>∃(kq:Nat) (x10_2:Bool),v10=.bool x10_2/\Aside0 (jU.j0 kq a0 t281 x10_2=some r)/\Aside0 (kq<=k)/\Aside0 (Kd.R Kd.string 9 wc w.heap.size (λ_=>True) v282 t281)/\Aside0 (Below w.heap.size w wc))
 case first=>
  have H:=HC3.out;clear HC3
  by_cases c5:a0>=1
  ·rw[if_pos c5] at H
   have c5b0:decide (1<=a0)=true:=decide_eq_true c5;clear c5
   (first|rw[c5b0]|(simp only[zP,zd];rw[c5b0])|skip)
   have H':=qA H;clear H;go_wp2;go_meet
   case rel=>exact⟨_,(decide (a0<=15)),(by first|rfl|(simp;done)|(simp [*];done)),H',⟨by first|omega|exact Nat.le_refl _⟩,⟨by (with_reducible repeat (first|apply Kd.R_alloc|apply Kd.R_drewN|apply Kd.R_drew));exact HO283.out⟩,⟨qH HB⟩⟩
  ·rw[if_neg c5] at H
   have c5b0:decide (1<=a0)=false:=decide_eq_false c5;clear c5
   (first|rw[c5b0]|(simp only[zP,zd];rw[c5b0])|skip)
   have H':=qA H;clear H;go_wp2;go_meet
   case rel=>exact⟨_,(false),(by first|rfl|(simp;done)|(simp [*];done)),H',⟨by first|omega|exact Nat.le_refl _⟩,⟨by (with_reducible repeat (first|apply Kd.R_alloc|apply Kd.R_drewN|apply Kd.R_drew));exact HO283.out⟩,⟨qH HB⟩⟩
 case rest=>
  clear HC3
  try clear p2
  try clear c5
  try clear c5b0
  obtain⟨kq,x10_2,rfl,HA,HJ2,HO_3,HB⟩:=hcut
  cases kq with
  | zero=>exact absurd HA.out (by simp [jU.j0])
  | succ kj2=>
   have H:=HA.out;clear HA;simp only[jU.j0] at H
   by_cases c6:x10_2=true
   ·subst c6
    have H1:(if 0<=a0 then(if a0<(t281.length:Int) then(some (rdOf ByteArray.empty t281 a0)) else(none)) else(none))=some r:=by rw[if_pos rfl] at H;exact H
    clear H;have H:=H1;clear H1
    by_cases c7:0<=a0
    ·rw[if_pos c7] at H
     have c7b0:decide (0<=a0)=true:=decide_eq_true c7;clear c7
     by_cases c8:a0<(t281.length:Int)
     ·rw[if_pos c8] at H
      have c8b0:decide (a0<(t281.length:Int))=true:=decide_eq_true c8;clear c8;obtain rfl:=Option.some.inj H;obtain⟨Ao9,co9,eo9⟩:=Kd.R_slice HO_3.out;subst eo9;have p284:0<=(a0:Int):=of_decide_eq_true (by first|(with_reducible assumption)|assumption);have q284:a0<(t281.length:Int):=of_decide_eq_true (by first|(with_reducible assumption)|assumption);obtain⟨ad284,e284,hx284_0⟩:=Kd.at_string (Kd.R_reads' HO_3.out).2.2 a0 p284 q284
      cases e284
      replace p284:=eq_true p284;replace q284:=eq_true q284;go_wp2;go_ret;exact⟨by first|rfl|(simp [jL,jK]<;>rfl)|(simp [*,jL,jK]<;>rfl)|(simp [*,jL,jK];generalize ByteArray.toList _=q_;cases q_<;>rfl),qH HB⟩
     ·rw[if_neg c8] at H
      exact absurd H (by simp)
    ·rw[if_neg c7] at H
     exact absurd H (by simp)
   ·replace c6:=Bool.eq_false_iff.mpr c6
    subst c6
    have H1:(if a0>=17 then(if a0<=31 then(if 0<=(wrap64 (a0-16)) then(if(wrap64 (a0-16))<(t281.length:Int) then((jr.f kj2 (rdOf ByteArray.empty t281 (wrap64 (a0-16)))).bind λt286=>(some t286)) else(none)) else(none)) else(some (⟨#[]⟩:ByteArray))) else(some (⟨#[]⟩:ByteArray)))=some r:=by rw[if_neg (show ¬(false=true) by decide)] at H;exact H
    clear H;have H:=H1;clear H1
    by_cases c10:a0>=17
    ·rw[if_pos c10] at H
     have c10b0:decide (17<=a0)=true:=decide_eq_true c10;clear c10
     by_cases c11:a0<=31
     ·rw[if_pos c11] at H
      have c11b0:decide (a0<=31)=true:=decide_eq_true c11;clear c11
      obtain⟨ji12,hji12⟩:∃j_:Int,(wrap64 (a0-16))=j_:=⟨_,rfl⟩
      replace H:(if 0<=(ji12) then(if(ji12)<(t281.length:Int) then((jr.f kj2 (rdOf ByteArray.empty t281 (ji12))).bind λt286=>(some t286)) else(none)) else(none))=some r:=by first|(rw[hji12] at H;exact H)|(simp only[hji12] at H ⊢;exact H)
      have hji12w:(IntKind.i64.wrap (a0-16))=ji12:=(zP _).trans hji12
      by_cases c13:0<=(ji12)
      ·rw[if_pos c13] at H
       have c13b0:decide (0<=(ji12))=true:=decide_eq_true c13;clear c13
       by_cases c14:(ji12)<(t281.length:Int)
       ·rw[if_pos c14] at H
        have c14b0:decide ((ji12)<(t281.length:Int))=true:=decide_eq_true c14;clear c14;replace H:=Option.bind_eq_some_iff.mp H;obtain⟨t286,A150,H⟩:=H;replace H:(some t286)=some r:=H;have A15:=qA A150;clear A150;obtain rfl:=Option.some.inj H;obtain⟨Ao16,co16,eo16⟩:=Kd.R_slice HO_3.out;subst eo16;have p285:0<=((ji12):Int):=of_decide_eq_true (by first|(with_reducible assumption)|assumption);have q285:(ji12)<(t281.length:Int):=of_decide_eq_true (by first|(with_reducible assumption)|assumption);obtain⟨ad285,e285,hx285_0⟩:=Kd.at_string (Kd.R_reads' HO_3.out).2.2 (ji12) p285 q285
        cases e285
        replace p285:=eq_true p285;replace q285:=eq_true q285
        go_wp2_with (first|((with_reducible refine jV (f:=79) rfl ?_);refine zB (some 26) rfl rfl Tryz.func79 (by kernel_rfl) rfl #[.string (rdOf ByteArray.empty t281 (ji12))] rfl (by (try simp only[List.map_toArray,List.map_cons,List.map_nil]);first|done|(simp only[hji12];rfl)|rfl|(simp only[List.length_drop,List.length_take];rfl)) ?_;(with_reducible refine(jr.calls kj2 (rdOf ByteArray.empty t281 (ji12)) t286 _ A15.out).mono ?_);rintro e w17 ⟨rfl,hb⟩;refine⟨_,rfl,?_⟩;have n0_:=qA (Kd.R_below (by (with_reducible repeat (first|apply Kd.R_alloc|apply Kd.R_drewN|apply Kd.R_drew));exact HO_3.out) hb);have n1_:=qA (jX (qH HB) hb);clear HO_3;clear HB;have HO_3:=n0_;have HB:=n1_;clear n0_ n1_;(try clear hb);(try clear hb2);(try clear hk);(try clear hi)))
        go_ret;exact⟨by first|rfl|(simp [jL,jK]<;>rfl)|(simp only[<- hji12];first|rfl|(simp [jL,jK]<;>rfl))|(simp [*,jL,jK]<;>rfl)|(simp [*,jL,jK];generalize ByteArray.toList _=q_;cases q_<;>rfl),qH HB⟩
       ·rw[if_neg c14] at H
        exact absurd H (by simp)
      ·rw[if_neg c13] at H
       exact absurd H (by simp)
     ·rw[if_neg c11] at H
      have c11b0:decide (a0<=31)=false:=decide_eq_false c11;clear c11;obtain rfl:=Option.some.inj H;go_wp2;go_ret;exact⟨by first|rfl|(simp [jL,jK]<;>rfl)|(simp [*,jL,jK]<;>rfl)|(simp [*,jL,jK];generalize ByteArray.toList _=q_;cases q_<;>rfl),qH HB⟩
    ·rw[if_neg c10] at H
     have c10b0:decide (17<=a0)=false:=decide_eq_false c10;clear c10;obtain rfl:=Option.some.inj H;go_wp2;go_ret;exact⟨by first|rfl|(simp [jL,jK]<;>rfl)|(simp [*,jL,jK]<;>rfl)|(simp [*,jL,jK];generalize ByteArray.toList _=q_;cases q_<;>rfl),qH HB⟩
end Go.Proofs.YtigenhbmgpfffaaGreatDoor.Pa
