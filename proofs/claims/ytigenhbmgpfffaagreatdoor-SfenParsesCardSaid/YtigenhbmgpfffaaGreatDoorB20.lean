import Derived.Test.YtigenhbmgpfffaaGreatDoorB19
set_option maxRecDepth 100000
set_option maxHeartbeats 16000000
namespace Go.Proofs.YtigenhbmgpfffaaGreatDoor.Pa
open Go.RowKit Go.Proofs.YtigenhbmgpfffaaGreatDoorW.PrintWords Go.Proofs.YtigenhbmgpfffaaGreatDoorW.PrintLast Go.Proofs.YtigenhbmgpfffaaGreatDoorW.PrintMore
attribute [local go_sem] yE yC yM yL zo zn yD yB
set_option linter.unusedVariables false
set_option linter.unusedSimpArgs false
def iv (l:List Int):Array Value:=(l.map (Value.int .i64)).toArray
theorem yU (l:List Int):(iv l).size=l.length:=by simp [iv]
theorem jA4 (l:List Int) (i:Nat) (h:i<l.length):(iv l)[i]?=some (.int .i64 (l.getD i 0)):=by
 simp [iv,List.getD_eq_getElem?_getD,List.getElem?_eq_getElem h]
theorem iv_set (l:List Int) (i:Nat) (b:Int):(iv l).setIfInBounds i (.int .i64 b)=iv (l.set i b):=by
 simp [iv,List.map_set]
theorem jAO {t:TypeId} {c:Array Value} (h:(Tryz.prog.info? t).map (·.zero)=some (some (.agg c))) (w:World):(zeroValue t).run Tryz.prog w=.ok (.agg c) w:=by
 cases hi:Tryz.prog.info? t with
 | none=>rw[hi] at h;cases h
 | some i=>
  rw[hi] at h
  have hz:i.zero=some (.agg c):=by simpa using h
  simp [zeroValue,typeInfo,hi,hz]
def je.z9:List Int:=[0,0,0,0,0,0,0,0,0]
def je.z2:List Int:=[0,0]
def je.z8:List Int:=[0,0,0,0,0,0,0,0]
section
variable {ops:Array Oper} {rest:List Oper} {o:Oper} {a:Act} {Q:Exit->Act->World->Prop} {W:World} {K:Act->World->Prop}
theorem jA3 (hgd:o.guard=none) (ty:TypeId) (x:Operand) (ho:o.op=.load ty x) {g:Nat} {t:TypeId} {l:List Int} {d:TypeDesc} (hx:a.eval x=.pointer (some ⟨g,0,none⟩)) (hb:W.heap[g]?=some (.cells (iv l) t (0,0))) (hu:Tryz.prog.underlying ty=some d) (hd:d.isRow=true) (hi:(Tryz.prog.info? ty).map (·.size)=some l.length)
  (h:wpList Tryz.prog ops Q rest (a.put o.dst (.agg (iv l))) W):wpList Tryz.prog ops Q (o::rest) a W:=
 wpList_plain hgd λ_ hK=>wp_load_mid _ x ho g 0 hx (l.map (Value.int .i64)) d (λj v hj=>by
  rw[jB hb,Nat.zero_add]
  simpa [iv] using hj) hu hd (by rw[hi,List.length_map]) (hK _ _ h)
theorem iv_neq2 (hgd:o.guard=none) (p q r s:Int) (x y:Operand) (ho:o.op=.binOp .neq 85 x y 85) (hx:a.eval x=.agg (iv [p,q])) (hy:a.eval y=.agg (iv [r,s]))
  (h:wpList Tryz.prog ops Q rest (a.put o.dst (.bool (!(p==r&&q==s)))) W):wpList Tryz.prog ops Q (o::rest) a W:=
 wpList_plain hgd λ_ hK=>by
  have h1:(Tryz.prog.info? 3).isSome=true:=by kernel_rfl
  obtain⟨i,hi⟩:=Option.isSome_iff_exists.1 h1
  have hc:Tryz.prog.cellsOf 3=1:=by kernel_rfl
  have hp (u v:Int) (k:Nat) (hk:k<2):(part 3 (iv [u,v]) k).run Tryz.prog W=.ok (.int .i64 ([u,v].getD k 0)) W:=by
   exact run_part_plain W (e:=3) (by kernel_rfl) (jA4 [u,v] k hk)
  have e:(Op.equalIn 10000 85 (.agg (iv [p,q])) (.agg (iv [r,s]))).run Tryz.prog W=.ok (p==r&&q==s) W:=by
   rw[show(10000:Nat)=9999+1 from rfl,run_equalIn_array W 9999 _ _ Tryz.underlying85 hi,hc,show(9999:Nat)=9998+1 from rfl,show List.range 2=[0,1] from rfl];have e0:(Op.equalIn 9999 3 (.int .i64 p) (.int .i64 r)).run Tryz.prog W=.ok (p==r) W:=run_equalIn_int (w:=W) 9998 3 .i64 .i64 p r Tryz.underlying3;have e1:(Op.equalIn 9999 3 (.int .i64 q) (.int .i64 s)).run Tryz.prog W=.ok (q==s) W:=run_equalIn_int (w:=W) 9998 3 .i64 .i64 q s Tryz.underlying3;have q0:(part 3 (iv [p,q]) 0).run Tryz.prog W=.ok (.int .i64 p) W:=hp p q 0 (by omega);have q1:(part 3 (iv [p,q]) 1).run Tryz.prog W=.ok (.int .i64 q) W:=hp p q 1 (by omega);have q2:(part 3 (iv [r,s]) 0).run Tryz.prog W=.ok (.int .i64 r) W:=hp r s 0 (by omega);have q3:(part 3 (iv [r,s]) 1).run Tryz.prog W=.ok (.int .i64 s) W:=hp r s 1 (by omega)
   cases hb:(p==r)<;>cases hc2:(q==s)<;>simp [Op.eqItems,q0,q1,q2,q3,e0,e1,hb,hc2]
  generalize (p==r&&q==s)=b at e h;unfold Oper.wp execOp;simp only[ho,hx,hy];go_simp;exact hK _ _ h
end
def je.sq (cs:List Int):Nat->Nat->List Int->List Int->Option (Option (List Int×List Int))
 | _,0,ct,ks=>some (some (ct,ks))
 | n,d+1,ct,ks=>(jS.f 9 (cs.getD n 0)).bind λk=>if cs.getD n 0=0 then je.sq cs (n+1) d ct ks else if k=0 then some none else
   (if k=8 then(jv.f 9 (cs.getD n 0)).bind λs=>if 0<=s/\s<2 then some (ks.set s.toNat (wrap64 (ks.getD s.toNat 0+1))) else none else some ks).bind λks2=>
   (yX.f k).bind λr=>if 0<=r/\r<9 then je.sq cs (n+1) d (ct.set r.toNat (wrap64 (ct.getD r.toNat 0+1))) ks2 else none
def je.hk (l:List Int):Nat->Nat->List Int->Option (List Int)
 | _,0,ct=>some ct
 | k,d+1,ct=>if l.getD k 0<0\/(0<l.getD k 0/\k=0) then none else je.hk l (k+1) d (ct.set k (wrap64 (ct.getD k 0+wrap64 (l.getD k 0))))
def je.hs (h:List Int):Nat->Nat->List Int->Option (List Int)
 | _,0,ct=>some ct
 | s,d+1,ct=>(je.hk ((h.drop (s*8)).take 8) 0 8 ct).bind λc2=>je.hs h (s+1) d c2
def je.tot (ct:List Int):Nat->Nat->Option Bool
 | _,0=>some false
 | k,d+1=>(zK.f 20 (k:Int)).bind λt=>if t<ct.getD k 0 then some true else je.tot ct (k+1) d
def je.f (cs:List Int):Option Int:=if cs.getD 97 0≠0/\cs.getD 97 0≠1 then some 1 else(je.sq cs 0 81 je.z9 je.z2).bind λa=>match a with
 | none=>some 55
 | some (ct,ks)=>match je.hs ((cs.drop 81).take 16) 0 2 ct with
  | none=>some 55
  | some c2=>if(ks.getD 0 0==1&&ks.getD 1 0==1)=false then some 50 else(je.tot c2 1 7).bind λb=>if b=true then some 51 else zL.f cs
theorem je.check_calls (cs:List Int) (r:Int) (w:World) (hl:cs.length=98) (h:je.f cs=some r):
  Calls Tryz.prog 43 #[.agg (jA.pv cs)] w λe w'=>e=.returned (.int .i64 r)/\Below w.heap.size w w':=by
 unfold je.f at h;have B1:(w.alloc (Obj.cells (jA.pv cs) 28)).heap[w.heap.size]?=some (.cells (jA.pv cs) 28 (0,0)):=zJ w _;have BB:Below w.heap.size w (w.alloc (Obj.cells (jA.pv cs) 28)):=ji (Below.refl _ _) _
 have z0:(w.alloc (Obj.cells (jA.pv cs) 28)).heap.size=w.heap.size+1:=by simp [go_sem]
 go_enter Tryz.func43,Tryz.ntmps43;go_upto_region 1 with(fail);generalize w.alloc (Obj.cells (jA.pv cs) 28)=W at *;have K1:=qA B1;have KB:=qA BB;have Z0:=qA z0;clear B1 BB z0
 obtain⟨sd,hsd⟩:∃sd,sd=cs.getD 97 0:=⟨_,rfl⟩
 have c97:W.cell? ⟨w.heap.size,97,none⟩=some (.int .i8 sd):=(jB K1.out 97).trans (by rw[hsd];exact jA.pv_get cs 97 (by omega));rw[<- hsd] at h;clear hsd
 by_cases hS:sd≠0/\sd≠1
 ·rw[if_pos hS] at h
  have e1:=(Option.some.inj h).symm;subst e1
  have f0:(sd != 0)=true:=by simpa using hS.1
  have f1:(sd != 1)=true:=by simpa using hS.2
  clear hS h;go_wp2;go_ret;exact⟨rfl,KB.out⟩
 ·rw[if_neg hS] at h
  obtain⟨a,ha,h2⟩:=Option.bind_eq_some_iff.mp h;have HA:=qA ha;have H2:=qA h2;clear h ha h2;go_cut [20] (λs20 wx=>s20=.bool false/\Aside0 (wx.heap[w.heap.size]?=some (.cells (jA.pv cs) 28 (0,0)))/\Aside0 (Below w.heap.size w wx)/\Aside0 (wx.heap.size=w.heap.size+1))
  case first=>
   by_cases h0:sd=0
   ·have f0:(sd != 0)=false:=by rw[h0];rfl
    clear hS h0;go_wp2;go_meet;exact⟨rfl,K1,KB,Z0⟩
   ·have f0:(sd != 0)=true:=by simpa using h0
    have f1:(sd != 1)=false:=by
     have:sd=1:=by
      by_cases h1:sd=1
      ·exact h1
      ·exact absurd ⟨h0,h1⟩ hS
     rw[this];rfl
    clear hS h0;go_wp2;go_meet;exact⟨rfl,K1,KB,Z0⟩
  case rest=>
   clear c97 K1 KB Z0 hS;obtain⟨rfl,K1,KB,Z0⟩:=hcut;have ZA:=qA (jAO (t:=72) (c:=iv je.z9) (by kernel_rfl));have ZB:=qA (jAO (t:=85) (c:=iv je.z2) (by kernel_rfl));have za:=ZA.out;have zb:=ZB.out;have B3:=zJ wc (Obj.cells (iv je.z9) 72)
   have zs:(wc.alloc (Obj.cells (iv je.z9) 72)).heap.size=wc.heap.size+1:=by simp [go_sem]
   have B4:=zJ (wc.alloc (Obj.cells (iv je.z9) 72)) (Obj.cells (iv je.z2) 85);rw[zs] at B4;have B3':=jI B3 (Obj.cells (iv je.z2) 85);have B1:=jI (jI K1.out (Obj.cells (iv je.z9) 72)) (Obj.cells (iv je.z2) 85);have BB:=ji (ji KB.out (Obj.cells (iv je.z9) 72)) (Obj.cells (iv je.z2) 85);go_upto_region 5 with(fail);clear za zb zs B3 ZA ZB;generalize (wc.alloc (Obj.cells (iv je.z9) 72)).alloc (Obj.cells (iv je.z2) 85)=W2 at *
   have hg3:w.heap.size<wc.heap.size:=by rw[Z0.out];exact Nat.lt_succ_self _
   generalize wc.heap.size=g3 at *
   have HN13:Aside0 (w.heap.size≠g3):=⟨by omega⟩
   have HN14:Aside0 (w.heap.size≠g3+1):=⟨by omega⟩
   have HN34:Aside0 (g3≠g3+1):=⟨by omega⟩
   have HN43:Aside0 (g3+1≠g3):=⟨by omega⟩
   have HG3:Aside0 (w.heap.size<=g3):=⟨by omega⟩
   have HG4:Aside0 (w.heap.size<=g3+1):=⟨by omega⟩
   clear K1 KB Z0 hg3;have K1:=qA B1;have K3:=qA B3';have K4:=qA B4;have KB:=qA BB;clear B1 B3' B4 BB
   obtain⟨bs,hbs⟩:∃bs,bs=(cs.drop 0).take 81:=⟨_,rfl⟩
   have hbl:bs.length=81:=by rw[hbs];simp;omega
   have HBG:Aside0 (∀n,n<81->bs.getD n 0=cs.getD n 0):=⟨λn hn=>by rw[hbs,List.drop_zero];simp only[List.getD_eq_getElem?_getD,List.getElem?_take_of_lt hn]⟩
   have HBS:=qA hbs;clear hbs
   go_wp2_with (first|((with_reducible refine jG (N:=22) rfl ?_);refine jA.load rfl 24 (.tmp 21) rfl rfl K1.out Tryz.underlying24 rfl jA.infoB (by omega) ?_;rw[<- HBS.out]))
   clear HBS
   go_loopg [23] 82 (λgf s23 wx=>∃(n:Nat) (ct ks:List Int),s23=.int .i64 n/\n<=81/\ct.length=9/\ks.length=2/\Aside0 (je.sq cs n (81-n) ct ks=some a)/\Aside0 (wx.heap[w.heap.size]?=some (.cells (jA.pv cs) 28 (0,0)))/\Aside0 (wx.heap[g3]?=some (.cells (iv ct) 72 (0,0)))/\Aside0 (wx.heap[g3+1]?=some (.cells (iv ks) 85 (0,0)))/\Aside0 (Below w.heap.size w wx)/\82<=gf+n)
   case atStart=>exact⟨0,_,_,rfl,by omega,by decide,by decide,HA,K1,K3,K4,KB,by omega⟩
   case round=>
    clear K1 K3 K4 KB HA;obtain⟨n,ct,ks,rfl,hn,hctl,hksl,HR,K1,K3,K4,KB,hgf⟩:=hrel
    by_cases hend:n=81
    ·subst hend
     have er:some (ct,ks)=a:=Option.some.inj HR.out;subst er;clear HR;have e2:=H2.out;dsimp only at e2;clear H2
     obtain⟨h16,hh16⟩:∃h,h=(cs.drop 81).take 16:=⟨_,rfl⟩
     have HH16:=qA hh16
     have h16l:h16.length=16:=by rw[hh16];simp;omega
     rw[<- hh16] at e2;clear hh16
     obtain⟨ho,hho⟩:∃o,je.hs h16 0 2 ct=o:=⟨_,rfl⟩
     rw[hho] at e2;have HO:=qA hho;have HE2:=qA e2;clear e2 hho
     go_wp2_with (first|((with_reducible refine jG (N:=51) rfl ?_);refine jA.load rfl 26 (.tmp 50) (off:=81) rfl rfl K1.out Tryz.underlying26 rfl jA.infoH (by omega) ?_;rw[<- HH16.out]))
     clear HH16
     go_loopg [52] 3 (λgf s52 wx=>∃(s:Nat) (c:List Int),s52=.int .i64 s/\s<=2/\c.length=9/\Aside0 (je.hs h16 s (2-s) c=ho)/\Aside0 (wx.heap[w.heap.size]?=some (.cells (jA.pv cs) 28 (0,0)))/\Aside0 (wx.heap[g3]?=some (.cells (iv c) 72 (0,0)))/\Aside0 (wx.heap[g3+1]?=some (.cells (iv ks) 85 (0,0)))/\Aside0 (Below w.heap.size w wx)/\3<=gf+s)
     case atStart=>exact⟨0,ct,rfl,by omega,hctl,HO,K1,K3,K4,KB,by omega⟩
     case round=>
      clear K1 K3 K4 KB HO hctl;obtain⟨s,c,rfl,hs2,hcl,HR,K1,K3,K4,KB,hgs⟩:=hrel
      by_cases hend2:s=2
      ·subst hend2
       have er:some c=ho:=HR.out;subst er;have e2:=HE2.out;dsimp only at e2;clear HR HE2
       obtain⟨p,q,hpq⟩:∃p q,ks=[p,q]:=by
        match ks,hksl with
        | [p,q],_=>exact⟨p,q,rfl⟩
       subst hpq;rw[show([p,q]:List Int).getD 0 0=p from rfl,show([p,q]:List Int).getD 1 0=q from rfl] at e2
       have HB85:Aside0 (∀W,(Instr.build 85 #[(0,.int .i64 1),(1,.int .i64 1)]).run Tryz.prog W=.ok (.agg (iv [1,1])) W):=⟨λW=>run_build W 85 _ _ (by kernel_rfl)⟩
       obtain⟨kb,hkb⟩:∃kb,kb=(p==1&&q==1):=⟨_,rfl⟩
       rw[<- hkb] at e2;have HKB:=qA hkb;clear hkb
       cases kb with
       | false=>
        rw[if_pos rfl] at e2;have e3:=(Option.some.inj e2).symm;subst e3;clear e2
        go_wp2_with (first|((with_reducible refine jG (N:=83) rfl ?_);refine jA3 rfl 85 (.tmp 4) rfl rfl K4.out Tryz.underlying85 rfl (by kernel_rfl) ?_)|((with_reducible refine jG (N:=84) rfl ?_);refine jj.built rfl 85 #[(0,.const (.int .i64 1)),(1,.const (.int .i64 1))] rfl #[(0,.int .i64 1),(1,.int .i64 1)] (by (try simp only[List.map_toArray,List.map_cons,List.map_nil]);first|done|rfl) (HB85.out _) ?_)|((with_reducible refine jG (N:=85) rfl ?_);refine iv_neq2 rfl p q 1 1 (.tmp 83) (.tmp 84) rfl rfl rfl ?_;rw[<- HKB.out]))
        go_ret;exact⟨rfl,KB.out⟩
       | true=>
        rw[if_neg (by decide)] at e2;obtain⟨tb,h5,h6⟩:=Option.bind_eq_some_iff.mp e2;have HTB:=qA h5;have H6:=qA h6;clear e2 h5 h6
        go_wp2_with (first|((with_reducible refine jG (N:=83) rfl ?_);refine jA3 rfl 85 (.tmp 4) rfl rfl K4.out Tryz.underlying85 rfl (by kernel_rfl) ?_)|((with_reducible refine jG (N:=84) rfl ?_);refine jj.built rfl 85 #[(0,.const (.int .i64 1)),(1,.const (.int .i64 1))] rfl #[(0,.int .i64 1),(1,.int .i64 1)] (by (try simp only[List.map_toArray,List.map_cons,List.map_nil]);first|done|rfl) (HB85.out _) ?_)|((with_reducible refine jG (N:=85) rfl ?_);refine iv_neq2 rfl p q 1 1 (.tmp 83) (.tmp 84) rfl rfl rfl ?_;rw[<- HKB.out]))
        clear HB85 HKB
        go_loopg [12] 9 (λgf s12 wx=>∃(k:Nat),s12=.int .i64 k/\1<=k/\k<=8/\Aside0 (je.tot c k (8-k)=some tb)/\Aside0 (wx.heap[w.heap.size]?=some (.cells (jA.pv cs) 28 (0,0)))/\Aside0 (wx.heap[g3]?=some (.cells (iv c) 72 (0,0)))/\Aside0 (wx.heap[g3+1]?=some (.cells (iv [p,q]) 85 (0,0)))/\Aside0 (Below w.heap.size w wx)/\9<=gf+k)
        case atStart=>exact⟨1,rfl,by omega,by omega,HTB,K1,K3,K4,KB,by omega⟩
        case round=>
         clear K1 K3 K4 KB HTB;obtain⟨k,rfl,hk1,hk8,HR,K1,K3,K4,KB,hgk⟩:=hrel
         by_cases hend3:k=8
         ·subst hend3
          have er:false=tb:=Option.some.inj HR.out;subst er;have e7:=H6.out;rw[if_neg (by decide)] at e7;have HF:=qA e7;clear HR e7 H6
          go_wp2_with (first|((with_reducible refine jG (N:=96) rfl ?_);refine jA.load rfl 28 (.tmp 1) rfl rfl K1.out Tryz.underlying28 rfl jA.infoP (by omega) ?_;rw[show(cs.drop 0).take 98=cs by rw[List.drop_zero,List.take_of_length_le (by omega)]])|(go_at_call 64;refine(zL.files_calls cs r _ hl HF.out).mono ?_;rintro e w7 ⟨rfl,hb⟩;replace K1:=qB K1 hb;replace K3:=qB K3 hb;replace K4:=qB K4 hb;replace KB:=qS KB hb;clear hb))
          go_ret;exact⟨rfl,KB.out⟩
         ·obtain⟨d,hd⟩:∃d,8-k=d+1:=⟨7-k,by omega⟩
          have e:=HR.out;rw[hd] at e;unfold je.tot at e;obtain⟨tt,h7,h8⟩:=Option.bind_eq_some_iff.mp e;have HT:=qA h7
          obtain⟨z,hz⟩:∃z,z=c.getD k 0:=⟨_,rfl⟩
          have HZD:=qA hz;rw[<- hz] at h8;have b0:decide ((k:Int)<8)=true:=decide_eq_true (by omega);have b3:((k:Int)<8)=True:=eq_true (by omega);have bk:(0<=(k:Int)/\(k:Int)<9)=True:=eq_true (by omega);have bk2:((k:Int)<9)=True:=eq_true (by omega);have ewk:IntKind.i64.wrap ((k:Int)+1)=(k:Int)+1:=IntWalk.i64_in _ (by omega)
          have hd2:d=8-(k+1):=by omega
          rw[hd2] at h8
          obtain⟨g2,rfl⟩:∃g2,gk=g2+1:=⟨gk-1,by omega⟩
          have H8:=qA h8;clear e hz h7 h8 HR hd hd2
          by_cases hz2:tt<z
          ·have e9:=H8.out
           rw[if_pos hz2] at e9;have e10:=(Option.some.inj e9).symm;subst e10;have e7:=H6.out;rw[if_pos rfl] at e7;have e11:=(Option.some.inj e7).symm;subst e11;have t0:decide (tt<z)=true:=decide_eq_true hz2;have t00:(tt<z)=True:=eq_true hz2;clear e9 e7 H6 hz2;go_upto_region 32 with(fail);go_cut [95] (λs95 wx=>s95=.bool true/\Aside0 (wx.heap[w.heap.size]?=some (.cells (jA.pv cs) 28 (0,0)))/\Aside0 (wx.heap[g3]?=some (.cells (iv c) 72 (0,0)))/\Aside0 (wx.heap[g3+1]?=some (.cells (iv [p,q]) 85 (0,0)))/\Aside0 (Below w.heap.size w wx))
           case first=>
            refine wp_region_held_drew (S:=λ_=>True) (by kernel_rfl) trivial (λ_=>?_);replace K1:=qD K1;replace K3:=qD K3;replace K4:=qD K4;replace KB:=qA (zD KB.out);refine tk 0 ?_;refine tk 1 ?_;refine tk 3 ?_;refine wpAnyH_ready (rs:=[2,4]) (by kernel_rfl) (by simp) ?_;refine AllReadyH.cons rfl (λK hK=>?_) ?_
            ·show(if Region.wanted ⟨some 92,.load _ _,_,_,_,none⟩ _=true then Oper.wp _ ⟨some 92,.load _ _,_,_,_,none⟩ _ _ _ _ else _)
             have c3:=(jB K3.out k).trans ((jA4 c k (by omega)).trans (show _=some (Value.int .i64 z) by rw[HZD.out]));go_simp;clear c3;refine ko hK ?_;clear hK K;refine on1 4 (λK hK=>?_);show(if Region.wanted ⟨some 94,.call _,_,_,_,none⟩ _=true then Oper.wp _ ⟨some 94,.call _,_,_,_,none⟩ _ _ _ _ else _);go_simp;refine(zK.calls _ _ _ _ HT.out).mono ?_;rintro e w7 ⟨rfl,hd⟩;have hb:=hd.below;clear hd;replace K1:=qB K1 hb;replace K3:=qB K3 hb;replace K4:=qB K4 hb;replace KB:=qS KB hb;clear hb;refine ko hK ?_;clear hK K;refine tk 5 ?_;refine wpAnyH_done (by kernel_rfl) ?_ _;go_wp2;go_meet;exact⟨rfl,K1,K3,K4,KB⟩
            refine AllReadyH.cons rfl (λK hK=>?_) AllReadyH.nil;show(if Region.wanted ⟨some 94,.call _,_,_,_,none⟩ _=true then Oper.wp _ ⟨some 94,.call _,_,_,_,none⟩ _ _ _ _ else _);go_simp;refine(zK.calls _ _ _ _ HT.out).mono ?_;rintro e w7 ⟨rfl,hd⟩;have hb:=hd.below;clear hd;replace K1:=qB K1 hb;replace K3:=qB K3 hb;replace K4:=qB K4 hb;replace KB:=qS KB hb;clear hb;refine ko hK ?_;clear hK K;refine on1 2 (λK hK=>?_);show(if Region.wanted ⟨some 92,.load _ _,_,_,_,none⟩ _=true then Oper.wp _ ⟨some 92,.load _ _,_,_,_,none⟩ _ _ _ _ else _);have c3:=(jB K3.out k).trans ((jA4 c k (by omega)).trans (show _=some (Value.int .i64 z) by rw[HZD.out]));go_simp;clear c3;refine ko hK ?_;clear hK K;refine tk 5 ?_;refine wpAnyH_done (by kernel_rfl) ?_ _;go_wp2;go_meet;exact⟨rfl,K1,K3,K4,KB⟩
           case rest=>
            clear K1 K3 K4 KB;obtain⟨rfl,K1,K3,K4,KB⟩:=hcut;clear t0 t00;go_wp2;go_ret;exact⟨rfl,KB.out⟩
          ·have e9:=H8.out
           rw[if_neg hz2] at e9;have HE9:=qA e9;have t0:decide (tt<z)=false:=decide_eq_false hz2;have t00:(tt<z)=False:=eq_false hz2;clear e9 hz2;go_upto_region 32 with(fail);go_cut [95] (λs95 wx=>s95=.bool false/\Aside0 (wx.heap[w.heap.size]?=some (.cells (jA.pv cs) 28 (0,0)))/\Aside0 (wx.heap[g3]?=some (.cells (iv c) 72 (0,0)))/\Aside0 (wx.heap[g3+1]?=some (.cells (iv [p,q]) 85 (0,0)))/\Aside0 (Below w.heap.size w wx))
           case first=>
            refine wp_region_held_drew (S:=λ_=>True) (by kernel_rfl) trivial (λ_=>?_);replace K1:=qD K1;replace K3:=qD K3;replace K4:=qD K4;replace KB:=qA (zD KB.out);refine tk 0 ?_;refine tk 1 ?_;refine tk 3 ?_;refine wpAnyH_ready (rs:=[2,4]) (by kernel_rfl) (by simp) ?_;refine AllReadyH.cons rfl (λK hK=>?_) ?_
            ·show(if Region.wanted ⟨some 92,.load _ _,_,_,_,none⟩ _=true then Oper.wp _ ⟨some 92,.load _ _,_,_,_,none⟩ _ _ _ _ else _)
             have c3:=(jB K3.out k).trans ((jA4 c k (by omega)).trans (show _=some (Value.int .i64 z) by rw[HZD.out]));go_simp;clear c3;refine ko hK ?_;clear hK K;refine on1 4 (λK hK=>?_);show(if Region.wanted ⟨some 94,.call _,_,_,_,none⟩ _=true then Oper.wp _ ⟨some 94,.call _,_,_,_,none⟩ _ _ _ _ else _);go_simp;refine(zK.calls _ _ _ _ HT.out).mono ?_;rintro e w7 ⟨rfl,hd⟩;have hb:=hd.below;clear hd;replace K1:=qB K1 hb;replace K3:=qB K3 hb;replace K4:=qB K4 hb;replace KB:=qS KB hb;clear hb;refine ko hK ?_;clear hK K;refine tk 5 ?_;refine wpAnyH_done (by kernel_rfl) ?_ _;go_wp2;go_meet;exact⟨rfl,K1,K3,K4,KB⟩
            refine AllReadyH.cons rfl (λK hK=>?_) AllReadyH.nil;show(if Region.wanted ⟨some 94,.call _,_,_,_,none⟩ _=true then Oper.wp _ ⟨some 94,.call _,_,_,_,none⟩ _ _ _ _ else _);go_simp;refine(zK.calls _ _ _ _ HT.out).mono ?_;rintro e w7 ⟨rfl,hd⟩;have hb:=hd.below;clear hd;replace K1:=qB K1 hb;replace K3:=qB K3 hb;replace K4:=qB K4 hb;replace KB:=qS KB hb;clear hb;refine ko hK ?_;clear hK K;refine on1 2 (λK hK=>?_);show(if Region.wanted ⟨some 92,.load _ _,_,_,_,none⟩ _=true then Oper.wp _ ⟨some 92,.load _ _,_,_,_,none⟩ _ _ _ _ else _);have c3:=(jB K3.out k).trans ((jA4 c k (by omega)).trans (show _=some (Value.int .i64 z) by rw[HZD.out]));go_simp;clear c3;refine ko hK ?_;clear hK K;refine tk 5 ?_;refine wpAnyH_done (by kernel_rfl) ?_ _;go_wp2;go_meet;exact⟨rfl,K1,K3,K4,KB⟩
           case rest=>
            clear K1 K3 K4 KB;obtain⟨rfl,K1,K3,K4,KB⟩:=hcut;clear t0 t00;go_wp2
            go_roundg g2
            case measure=>omega
            case rel=>exact⟨k+1,by simp,by omega,by omega,HE9,K1,K3,K4,KB,by omega⟩
      ·obtain⟨d,hd⟩:∃d,2-s=d+1:=⟨1-s,by omega⟩
       have e:=HR.out;rw[hd] at e;unfold je.hs at e
       obtain⟨l8,hl8d⟩:∃l,l=(h16.drop (s*8)).take 8:=⟨_,rfl⟩
       have hl8:l8.length=8:=by rw[hl8d];simp;omega
       rw[<- hl8d] at e
       have hix8:∀W,(Instr.index 26 (.agg (jA.pv h16)) (.int .i64 (s:Int))).run Tryz.prog W=.ok (.agg (jA.pv l8)) W:=λW=>by rw[hl8d];exact jA.index8 s h16 W (by omega) h16l
       obtain⟨io,hio⟩:∃o,je.hk l8 0 8 c=o:=⟨_,rfl⟩
       rw[hio] at e;have HIO:=qA hio;have b0:decide ((s:Int)<2)=true:=decide_eq_true (by omega);have b3:((s:Int)<2)=True:=eq_true (by omega);have ews:IntKind.i64.wrap ((s:Int)+1)=(s:Int)+1:=IntWalk.i64_in _ (by omega)
       have hd2:d=2-(s+1):=by omega
       rw[hd2] at e;have HB:=qA e
       obtain⟨g',rfl⟩:∃g',gk=g'+1:=⟨gk-1,by omega⟩
       have hz8:=jAO (t:=25) (c:=jA.pv je.z8) (by kernel_rfl);clear e hio HR hd hd2 hl8d
       go_wp2_with (first|((with_reducible refine jW (t:=25) (p:=9) (v:=.tmp 54) rfl ?_);refine jA.store rfl 25 (.tmp 9) (.tmp 54) rfl rfl rfl (zJ _ _) (n:=8) (by rfl) hl8 jA.info8 ?_;intro W3 s1 s2 s3;have h1:=ju K1.out;have h3:=ju K3.out;have h4:=ju K4.out;have n1:=qA ((s3 _ (Nat.ne_of_lt h1)).trans (jI K1.out _));have n3:=qA ((s3 _ (Nat.ne_of_lt h3)).trans (jI K3.out _));have n4:=qA ((s3 _ (Nat.ne_of_lt h4)).trans (jI K4.out _));have K9:=qA s1;have nB:=qA (s2 w.heap.size w KB.out.size (ji KB.out _));clear K1 K3 K4 KB s1 s2 s3 h1 h3 h4;have K1:=n1;have K3:=n3;have K4:=n4;have KB:=nB;clear n1 n3 n4 nB)|((with_reducible refine jG (N:=55) rfl ?_);refine jA.load rfl 25 (.tmp 9) rfl rfl K9.out Tryz.underlying25 rfl jA.info8 (by omega) ?_;rw[show(l8.drop 0).take 8=l8 by rw[List.drop_zero,List.take_of_length_le (by omega)]]))
       clear hz8 hix8 K9
       go_loopg [56] 9 (λgf s56 wx=>∃(m:Nat) (c:List Int),s56=.int .i64 m/\m<=8/\c.length=9/\Aside0 (je.hk l8 m (8-m) c=io)/\Aside0 (wx.heap[w.heap.size]?=some (.cells (jA.pv cs) 28 (0,0)))/\Aside0 (wx.heap[g3]?=some (.cells (iv c) 72 (0,0)))/\Aside0 (wx.heap[g3+1]?=some (.cells (iv ks) 85 (0,0)))/\Aside0 (Below w.heap.size w wx)/\9<=gf+m)
       case atStart=>exact⟨0,c,rfl,by omega,hcl,HIO,K1,K3,K4,KB,by omega⟩
       case round=>
        clear K1 K3 K4 KB HIO hcl;obtain⟨m,c,rfl,hm8,hcl,HR,K1,K3,K4,KB,hgm⟩:=hrel
        by_cases hend3:m=8
        ·subst hend3
         have er:some c=io:=HR.out;subst er;have HE:=qA (show je.hs h16 (s+1) (2-(s+1)) c=ho from HB.out);clear HR HB;go_wp2
         go_roundg g'
         case measure=>omega
         case rel=>exact⟨s+1,c,by simp,by omega,hcl,HE,K1,K3,K4,KB,by omega⟩
        ·obtain⟨d,hd⟩:∃d,8-m=d+1:=⟨7-m,by omega⟩
         have e:=HR.out;rw[hd] at e;unfold je.hk at e;have hix:∀W,(Instr.index 25 (.agg (jA.pv l8)) (.int .i64 (m:Int))).run Tryz.prog W=.ok (.int .i8 (l8.getD m 0)) W:=λW=>jA.index 25 22 8 m l8 W Tryz.underlying25 (by kernel_rfl) (by kernel_rfl) (by kernel_rfl) (by omega) (by omega);generalize l8.getD m 0=v at hix e;have b0:decide ((m:Int)<8)=true:=decide_eq_true (by omega);have b3:((m:Int)<8)=True:=eq_true (by omega);have b1:(0<=(m:Int)/\(m:Int)<8)=True:=eq_true (by omega);have bk:(0<=(m:Int)/\(m:Int)<9)=True:=eq_true (by omega);have bk2:((m:Int)<9)=True:=eq_true (by omega);have ewm:IntKind.i64.wrap ((m:Int)+1)=(m:Int)+1:=IntWalk.i64_in _ (by omega);have t4:((m:Int)==8)=false:=beq_eq_false_iff_ne.2 (by omega)
         have hd2:d=8-(m+1):=by omega
         rw[hd2] at e
         obtain⟨g2,rfl⟩:∃g2,gk=g2+1:=⟨gk-1,by omega⟩
         clear HR hd hd2
         by_cases hv:v<0
         ·rw[if_pos (.inl hv)] at e
          subst e;have eo:none=ho:=HB.out;subst eo;have er:=(Option.some.inj HE2.out).symm;subst er;have t1:decide (v<0)=true:=decide_eq_true hv;have t11:(v<0)=True:=eq_true hv;clear hv HB HE2;go_wp2;go_ret;exact⟨rfl,KB.out⟩
         ·have t1:decide (v<0)=false:=decide_eq_false hv
          have t11:(v<0)=False:=eq_false hv
          by_cases hv0:0<v
          ·have t2:decide (0<v)=true:=decide_eq_true hv0
           have t22:(0<v)=True:=eq_true hv0
           by_cases hm0:m=0
           ·rw[if_pos (.inr ⟨hv0,hm0⟩)] at e
            subst e;have eo:none=ho:=HB.out;subst eo;have er:=(Option.some.inj HE2.out).symm;subst er
            have t3:((m:Int)==0)=true:=by rw[hm0];rfl
            clear hv hv0 hm0 HB HE2;go_wp2;go_ret;exact⟨rfl,KB.out⟩
           ·rw[if_neg (by omega)] at e
            have t3:((m:Int)==0)=false:=beq_eq_false_iff_ne.2 (by omega);have HE:=qA e
            obtain⟨z,hz⟩:∃z,z=c.getD m 0:=⟨_,rfl⟩
            have c3:wr.cell? ⟨g3,m,none⟩=some (.int .i64 z):=(jB K3.out m).trans ((jA4 c m (by omega)).trans (by rw[hz]));have f3:=jH K3.out m
            have HE':Aside0 (je.hk l8 (m+1) (8-(m+1)) (c.set m (wrap64 (z+wrap64 v)))=io):=⟨by rw[hz];exact HE.out⟩
            clear hz e HE hv0 hv;go_upto_region 25 with(fail);have B3:=(zQ K3.out m (.int .i64 (wrap64 (z+wrap64 v)))).trans (by rw[iv_set]);have hc:=Ch.set_of K3.out m (.int .i64 (wrap64 (z+wrap64 v)));have B1:=hc.blk HN13.out K1.out;have B4:=hc.blk HN43.out K4.out;have BB:=hc.2.1 _ _ HG3.out KB.out;generalize World.setCell _ ⟨g3,m,none⟩ (.int .i64 (wrap64 (z+wrap64 v)))=W6 at *;clear K1 K3 K4 KB c3 f3 hc;have K1:=qA B1;have K3:=qA B3;have K4:=qA B4;have KB:=qA BB;clear B1 B3 B4 BB;go_wp2
            go_roundg g2
            case measure=>omega
            case rel=>exact⟨m+1,_,by simp,by omega,by rw[List.length_set];exact hcl,HE',K1,K3,K4,KB,by omega⟩
          ·have t2:decide (0<v)=false:=decide_eq_false hv0
           have t22:(0<v)=False:=eq_false hv0;rw[if_neg (by omega)] at e;have HE:=qA e
           obtain⟨z,hz⟩:∃z,z=c.getD m 0:=⟨_,rfl⟩
           have c3:wr.cell? ⟨g3,m,none⟩=some (.int .i64 z):=(jB K3.out m).trans ((jA4 c m (by omega)).trans (by rw[hz]));have f3:=jH K3.out m
           have HE':Aside0 (je.hk l8 (m+1) (8-(m+1)) (c.set m (wrap64 (z+wrap64 v)))=io):=⟨by rw[hz];exact HE.out⟩
           clear hz e HE hv0 hv;go_upto_region 25 with(fail);have B3:=(zQ K3.out m (.int .i64 (wrap64 (z+wrap64 v)))).trans (by rw[iv_set]);have hc:=Ch.set_of K3.out m (.int .i64 (wrap64 (z+wrap64 v)));have B1:=hc.blk HN13.out K1.out;have B4:=hc.blk HN43.out K4.out;have BB:=hc.2.1 _ _ HG3.out KB.out;generalize World.setCell _ ⟨g3,m,none⟩ (.int .i64 (wrap64 (z+wrap64 v)))=W6 at *;clear K1 K3 K4 KB c3 f3 hc;have K1:=qA B1;have K3:=qA B3;have K4:=qA B4;have KB:=qA BB;clear B1 B3 B4 BB;go_wp2
           go_roundg g2
           case measure=>omega
           case rel=>exact⟨m+1,_,by simp,by omega,by rw[List.length_set];exact hcl,HE',K1,K3,K4,KB,by omega⟩
    ·obtain⟨d,hd⟩:∃d,81-n=d+1:=⟨80-n,by omega⟩
     have e:=HR.out;rw[hd] at e;unfold je.sq at e
     have hn81:n<81:=by omega
     rw[<- HBG.out n hn81] at e;have b0:decide ((n:Int)<81)=true:=decide_eq_true (by omega);have b1:(0<=(n:Int)/\(n:Int)<81)=True:=eq_true (by omega);have b3:((n:Int)<81)=True:=eq_true (by omega);have hix:∀W,(Instr.index 24 (.agg (jA.pv bs)) (.int .i64 (n:Int))).run Tryz.prog W=.ok (.int .i8 (bs.getD n 0)) W:=λW=>jA.index 24 23 81 n bs W Tryz.underlying24 (by kernel_rfl) (by kernel_rfl) (by kernel_rfl) (by omega) (by omega);generalize bs.getD n 0=x at hix e;have ew:IntKind.i64.wrap ((n:Int)+1)=(n:Int)+1:=IntWalk.i64_in _ (by omega)
     have hd2:d=81-(n+1):=by omega
     rw[hd2] at e;obtain⟨k,hk,e2⟩:=Option.bind_eq_some_iff.mp e;have HK:=qA hk
     obtain⟨g',rfl⟩:∃g',gk=g'+1:=⟨gk-1,by omega⟩
     clear e hk HR hd hd2
     by_cases h0:x=0
     ·rw[if_pos h0] at e2
      have HE:=qA e2
      have c0:(x==0)=true:=by simpa using h0
      clear e2 h0
      go_wp2_with (first|(go_at_call 24;(with_reducible refine(jS.calls _ _ _ _ HK.out).mono ?_);rintro e w7 ⟨rfl,hd⟩;have hb:=hd.below;clear hd;replace K1:=qB K1 hb;replace K3:=qB K3 hb;replace K4:=qB K4 hb;replace KB:=qS KB hb;clear hb))
      go_roundg g'
      case measure=>omega
      case rel=>exact⟨n+1,ct,ks,by simp,by omega,hctl,hksl,HE,K1,K3,K4,KB,by omega⟩
     ·rw[if_neg h0] at e2
      have c0:(x==0)=false:=by simpa using h0
      by_cases hk0:k=0
      ·rw[if_pos hk0] at e2
       have ea:=Option.some.inj e2;subst ea;have e5:=(Option.some.inj H2.out).symm;subst e5
       have ck:(k==0)=true:=by simpa using hk0
       clear e2 h0 hk0 H2
       go_wp2_with (first|(go_at_call 24;(with_reducible refine(jS.calls _ _ _ _ HK.out).mono ?_);rintro e w7 ⟨rfl,hd⟩;have hb:=hd.below;clear hd;replace K1:=qB K1 hb;replace K3:=qB K3 hb;replace K4:=qB K4 hb;replace KB:=qS KB hb;clear hb))
       go_ret;exact⟨rfl,KB.out⟩
      ·rw[if_neg hk0] at e2
       have ck:(k==0)=false:=by simpa using hk0
       obtain⟨ks2,h3,e3⟩:=Option.bind_eq_some_iff.mp e2;obtain⟨r2,h4,e4⟩:=Option.bind_eq_some_iff.mp e3
       by_cases hr9:0<=r2/\r2<9
       case neg=>rw[if_neg hr9] at e4;cases e4
       rw[if_pos hr9] at e4
       obtain⟨m,hm⟩:∃m:Nat,r2=(m:Int):=⟨r2.toNat,by omega⟩
       subst hm;rw[Int.toNat_natCast] at e4;have HR4:=qA h4;have HE:=qA e4
       have hm9:m<9:=by omega
       have bm:(0<=(m:Int)/\(m:Int)<9)=True:=eq_true (by omega);have bm2:((m:Int)<9)=True:=eq_true (by omega);clear e2 e3 e4 h4 h0 hk0 hr9
       by_cases hk8:k=8
       ·rw[if_pos hk8] at h3
        have ck8:(k==8)=true:=by simpa using hk8
        obtain⟨s,h5,h6⟩:=Option.bind_eq_some_iff.mp h3
        by_cases hs2:0<=s/\s<2
        case neg=>rw[if_neg hs2] at h6;cases h6
        rw[if_pos hs2] at h6
        obtain⟨q,hq⟩:∃q:Nat,s=(q:Int):=⟨s.toNat,by omega⟩
        subst hq;rw[Int.toNat_natCast] at h6;have hks2:=Option.some.inj h6;have HS:=qA h5
        have hq2:q<2:=by omega
        have bq:(0<=(q:Int)/\(q:Int)<2)=True:=eq_true (by omega);have bq2:((q:Int)<2)=True:=eq_true (by omega);clear h3 h5 h6 hk8 hs2
        obtain⟨y,hy⟩:∃y,y=ks.getD q 0:=⟨_,rfl⟩
        rw[<- hy] at hks2;have HYD:=qA hy;have HY:=qA hks2;clear hy hks2;go_upto_region 14 with(first|(go_at_call 24;(with_reducible refine(jS.calls _ _ _ _ HK.out).mono ?_);rintro e w7 ⟨rfl,hd⟩;have hb:=hd.below;clear hd;replace K1:=qB K1 hb;replace K3:=qB K3 hb;replace K4:=qB K4 hb;replace KB:=qS KB hb;clear hb)|(go_at_call 48;(with_reducible refine(jv.calls _ _ _ _ HS.out).mono ?_);rintro e w7 ⟨rfl,hd⟩;have hb:=hd.below;clear hd;replace K1:=qB K1 hb;replace K3:=qB K3 hb;replace K4:=qB K4 hb;replace KB:=qS KB hb;clear hb;have c4:w7.cell? ⟨g3+1,q,none⟩=some (.int .i64 y):=(jB K4.out q).trans ((jA4 ks q (by omega)).trans (by rw[HYD.out]));have f4:=jH K4.out q));have B4:=(zQ K4.out q (.int .i64 (wrap64 (y+1)))).trans (by rw[iv_set,HY.out]);have hc:=Ch.set_of K4.out q (.int .i64 (wrap64 (y+1)));have B1:=hc.blk HN14.out K1.out;have B3:=hc.blk HN34.out K3.out;have BB:=hc.2.1 _ _ HG4.out KB.out
        have hks2l:ks2.length=2:=by rw[<- HY.out,List.length_set];exact hksl
        generalize World.setCell _ ⟨g3+1,q,none⟩ (.int .i64 (wrap64 (y+1)))=W5 at *;clear K1 K3 K4 KB c4 f4 hc HY HS;have K1:=qA B1;have K3:=qA B3;have K4:=qA B4;have KB:=qA BB;clear B1 B3 B4 BB
        obtain⟨z,hz⟩:∃z,z=ct.getD m 0:=⟨_,rfl⟩
        have HZD:=qA hz;rw[<- hz] at HE;clear hz;go_upto_region 15 with(first|(go_at_call 47;(with_reducible refine(yX.calls _ _ _ HR4.out).mono ?_);rintro e w7 ⟨rfl,hd⟩;have hb:=hd.below;clear hd;replace K1:=qB K1 hb;replace K3:=qB K3 hb;replace K4:=qB K4 hb;replace KB:=qS KB hb;clear hb;have c3:w7.cell? ⟨g3,m,none⟩=some (.int .i64 z):=(jB K3.out m).trans ((jA4 ct m (by omega)).trans (by rw[HZD.out]));have f3:=jH K3.out m));have B3:=(zQ K3.out m (.int .i64 (wrap64 (z+1)))).trans (by rw[iv_set]);have hc:=Ch.set_of K3.out m (.int .i64 (wrap64 (z+1)));have B1:=hc.blk HN13.out K1.out;have B4:=hc.blk HN43.out K4.out;have BB:=hc.2.1 _ _ HG3.out KB.out;generalize World.setCell _ ⟨g3,m,none⟩ (.int .i64 (wrap64 (z+1)))=W6 at *;clear K1 K3 K4 KB c3 f3 hc;have K1:=qA B1;have K3:=qA B3;have K4:=qA B4;have KB:=qA BB;clear B1 B3 B4 BB;go_wp2
        go_roundg g'
        case measure=>omega
        case rel=>exact⟨n+1,_,_,by simp,by omega,by rw[List.length_set];exact hctl,hks2l,HE,K1,K3,K4,KB,by omega⟩
       ·rw[if_neg hk8] at h3
        have ck8:(k==8)=false:=by simpa using hk8
        have hks2:=Option.some.inj h3;subst hks2;have hks2l:=hksl;clear h3 hk8;go_upto_region 14 with(first|(go_at_call 24;(with_reducible refine(jS.calls _ _ _ _ HK.out).mono ?_);rintro e w7 ⟨rfl,hd⟩;have hb:=hd.below;clear hd;replace K1:=qB K1 hb;replace K3:=qB K3 hb;replace K4:=qB K4 hb;replace KB:=qS KB hb;clear hb))
        obtain⟨z,hz⟩:∃z,z=ct.getD m 0:=⟨_,rfl⟩
        have HZD:=qA hz;rw[<- hz] at HE;clear hz;go_upto_region 15 with(first|(go_at_call 47;(with_reducible refine(yX.calls _ _ _ HR4.out).mono ?_);rintro e w7 ⟨rfl,hd⟩;have hb:=hd.below;clear hd;replace K1:=qB K1 hb;replace K3:=qB K3 hb;replace K4:=qB K4 hb;replace KB:=qS KB hb;clear hb;have c3:w7.cell? ⟨g3,m,none⟩=some (.int .i64 z):=(jB K3.out m).trans ((jA4 ct m (by omega)).trans (by rw[HZD.out]));have f3:=jH K3.out m));have B3:=(zQ K3.out m (.int .i64 (wrap64 (z+1)))).trans (by rw[iv_set]);have hc:=Ch.set_of K3.out m (.int .i64 (wrap64 (z+1)));have B1:=hc.blk HN13.out K1.out;have B4:=hc.blk HN43.out K4.out;have BB:=hc.2.1 _ _ HG3.out KB.out;generalize World.setCell _ ⟨g3,m,none⟩ (.int .i64 (wrap64 (z+1)))=W6 at *;clear K1 K3 K4 KB c3 f3 hc;have K1:=qA B1;have K3:=qA B3;have K4:=qA B4;have KB:=qA BB;clear B1 B3 B4 BB;go_wp2
        go_roundg g'
        case measure=>omega
        case rel=>exact⟨n+1,_,_,by simp,by omega,by rw[List.length_set];exact hctl,hks2l,HE,K1,K3,K4,KB,by omega⟩
def yK.f (a0_0:Int) (a0_1:Int) (a1:Int):Option (Int×Int):=if a1=1 then(some (wrap64 (-a0_0),wrap64 (-a0_1))) else(some (a0_0,a0_1))
theorem yK.calls (a0_0:Int) (a0_1:Int) (a1:Int) (r1:Int) (r2:Int) (w:World) (h:yK.f a0_0 a0_1 a1=some (r1,r2)):
  Calls Tryz.prog 139 #[.agg #[.int .i64 a0_0,.int .i64 a0_1],.int .i64 a1] w λe w'=>e=.returned (.agg #[.int .i64 r1,.int .i64 r2])/\Below w.heap.size w w':=by
 have hu158:=Tryz.underlying158;have HB:=qA (Below.refl w.heap.size w);have H:(if a1=1 then(some (wrap64 (-a0_0),wrap64 (-a0_1))) else(some (a0_0,a0_1)))=some (r1,r2):=h;clear h
 by_cases c3:a1=1
 ·rw[if_pos c3] at H
  have c3b0:(a1==1)=true:=beq_iff_eq.mpr c3;have c3b1:(a1 != 1)=false:=bne_eq_false_iff_eq.mpr c3;clear c3;simp only[Option.some.injEq,Prod.mk.injEq] at H;obtain⟨rfl,rfl⟩:=H;go_enter Tryz.func139,Tryz.ntmps139
  go_wp2_with (first|((with_reducible refine jG (N:=2) rfl ?_);refine zI ?hg (N:=2) ?hd (cs:=#[.int .i64 a0_0,.int .i64 a0_1]) (t:=158) ?hr ?_;(case hd=>rfl);(case hg=>rfl);(case hr=>first|(go_simp;done)|(go_simp;rfl));intro gb138 hg w4 hbox hb;have n0_:=qA (jX (qH HB) hb);have n1_:=qA (hbox);have n2_:=qA ((by rw[hg];exact(jP (qH HB)):w.heap.size<=gb138));have n3_:=qA ((by rw[hg];exact(jP (qH HB)):w.heap.size<=gb138));clear HB;have HB:=n0_;have BK138:=n1_;have GW138:=n2_;have GE138:=n3_;clear n0_ n1_ n2_ n3_;clear hb hbox hg)|((with_reducible refine jG (N:=4) rfl ?_);refine zI ?hg (N:=4) ?hd (cs:=#[.int .i64 0,.int .i64 0]) (t:=158) ?hr ?_;(case hd=>rfl);(case hg=>rfl);(case hr=>first|(go_simp;done)|(go_simp;rfl));intro gb139 hg w5 hbox hb;have n0_:=qA (jd (g:=gb138) (o:=.cells #[.int .i64 a0_0,.int .i64 a0_1] 158 (0,0)) (qK BK138) hb);have n1_:=qA (jX (qH HB) hb);have n2_:=qA (hbox);have n3_:=qA ((by rw[hg];exact(jP (qH HB)):w.heap.size<=gb139));have n4_:=qA ((by rw[hg];exact(jP (qH HB)):w.heap.size<=gb139));have n5_:=qA ((by rw[hg];exact Nat.ne_of_lt (ju (g:=gb138) (o:=.cells #[.int .i64 a0_0,.int .i64 a0_1] 158 (0,0)) (qK BK138)):gb138≠gb139));have n6_:=qA ((by rw[hg];exact Nat.ne_of_gt (ju (g:=gb138) (o:=.cells #[.int .i64 a0_0,.int .i64 a0_1] 158 (0,0)) (qK BK138)):gb139≠gb138));clear BK138;clear HB;have BK138:=n0_;have HB:=n1_;have BK139:=n2_;have GW139:=n3_;have GE139:=n4_;have NB138_139:=n5_;have NB139_138:=n6_;clear n0_ n1_ n2_ n3_ n4_ n5_ n6_;clear hb hbox hg;have hnb6:=NB138_139.out;have hnc6:=NB139_138.out;have hcz7_0:w5.cell? ⟨gb138,0,none⟩=some (.int .i64 a0_0):=(jB BK138.out 0).trans rfl;have hcz7_1:w5.cell? ⟨gb138,1,none⟩=some (.int .i64 a0_1):=(jB BK138.out 1).trans rfl;have hfz7_0:=jH BK138.out 0;have hfz7_1:=jH BK138.out 1;have hcz8_0:w5.cell? ⟨gb139,0,none⟩=some (.int .i64 0):=(jB BK139.out 0).trans rfl;have hcz8_1:w5.cell? ⟨gb139,1,none⟩=some (.int .i64 0):=(jB BK139.out 1).trans rfl;have hfz8_0:=jH BK139.out 0;have hfz8_1:=jH BK139.out 1))
  refine bodyPost_ret (results_cell_row rfl _ _ gb139 158 #[.int .i64 (wrap64 (-a0_0)),.int .i64 (wrap64 (-a0_1))] (0,0) _ rfl (by (with_reducible repeat (first|refine jQ ?_ _|refine jY ?_|refine jI ?_ _));refine zS (cs:=#[.int .i64 (wrap64 (-a0_0)),.int .i64 0]) ?_ 1 _ (by first|rfl|(simp [*];done));(with_reducible repeat (first|refine jQ ?_ _|refine jY ?_|refine jI ?_ _));refine zS (cs:=#[.int .i64 0,.int .i64 0]) ?_ 0 _ (by first|rfl|(simp [*];done));(with_reducible repeat (first|refine jQ ?_ _|refine jY ?_|refine jI ?_ _));exact BK139.out) Tryz.underlying158 rfl (by kernel_rfl)) rfl ?_;exact⟨by first|rfl|(simp [jL,jK]<;>rfl)|(simp [*,jL,jK]<;>rfl)|(simp [*,jL,jK];generalize ByteArray.toList _=q_;cases q_<;>rfl),qH HB⟩
 ·rw[if_neg c3] at H
  have c3b0:(a1==1)=false:=beq_eq_false_iff_ne.mpr c3;have c3b1:(a1 != 1)=true:=bne_iff_ne.mpr c3;simp only[Option.some.injEq,Prod.mk.injEq] at H;obtain⟨rfl,rfl⟩:=H;go_enter Tryz.func139,Tryz.ntmps139
  go_wp2_with (first|((with_reducible refine jG (N:=2) rfl ?_);refine zI ?hg (N:=2) ?hd (cs:=#[.int .i64 a0_0,.int .i64 a0_1]) (t:=158) ?hr ?_;(case hd=>rfl);(case hg=>rfl);(case hr=>first|(go_simp;done)|(go_simp;rfl));intro gb138 hg w9 hbox hb;have n0_:=qA (jX (qH HB) hb);have n1_:=qA (hbox);have n2_:=qA ((by rw[hg];exact(jP (qH HB)):w.heap.size<=gb138));have n3_:=qA ((by rw[hg];exact(jP (qH HB)):w.heap.size<=gb138));clear HB;have HB:=n0_;have BK138:=n1_;have GW138:=n2_;have GE138:=n3_;clear n0_ n1_ n2_ n3_;clear hb hbox hg)|((with_reducible refine jG (N:=4) rfl ?_);refine zI ?hg (N:=4) ?hd (cs:=#[.int .i64 0,.int .i64 0]) (t:=158) ?hr ?_;(case hd=>rfl);(case hg=>rfl);(case hr=>first|(go_simp;done)|(go_simp;rfl));intro gb139 hg w10 hbox hb;have n0_:=qA (jd (g:=gb138) (o:=.cells #[.int .i64 a0_0,.int .i64 a0_1] 158 (0,0)) (qK BK138) hb);have n1_:=qA (jX (qH HB) hb);have n2_:=qA (hbox);have n3_:=qA ((by rw[hg];exact(jP (qH HB)):w.heap.size<=gb139));have n4_:=qA ((by rw[hg];exact(jP (qH HB)):w.heap.size<=gb139));have n5_:=qA ((by rw[hg];exact Nat.ne_of_lt (ju (g:=gb138) (o:=.cells #[.int .i64 a0_0,.int .i64 a0_1] 158 (0,0)) (qK BK138)):gb138≠gb139));have n6_:=qA ((by rw[hg];exact Nat.ne_of_gt (ju (g:=gb138) (o:=.cells #[.int .i64 a0_0,.int .i64 a0_1] 158 (0,0)) (qK BK138)):gb139≠gb138));clear BK138;clear HB;have BK138:=n0_;have HB:=n1_;have BK139:=n2_;have GW139:=n3_;have GE139:=n4_;have NB138_139:=n5_;have NB139_138:=n6_;clear n0_ n1_ n2_ n3_ n4_ n5_ n6_;clear hb hbox hg;have hnb11:=NB138_139.out;have hnc11:=NB139_138.out;have hcz12_0:w10.cell? ⟨gb138,0,none⟩=some (.int .i64 a0_0):=(jB BK138.out 0).trans rfl;have hcz12_1:w10.cell? ⟨gb138,1,none⟩=some (.int .i64 a0_1):=(jB BK138.out 1).trans rfl;have hfz12_0:=jH BK138.out 0;have hfz12_1:=jH BK138.out 1;have hcz13_0:w10.cell? ⟨gb139,0,none⟩=some (.int .i64 0):=(jB BK139.out 0).trans rfl;have hcz13_1:w10.cell? ⟨gb139,1,none⟩=some (.int .i64 0):=(jB BK139.out 1).trans rfl;have hfz13_0:=jH BK139.out 0;have hfz13_1:=jH BK139.out 1))
  refine bodyPost_ret (results_cell_row rfl _ _ gb139 158 #[.int .i64 a0_0,.int .i64 a0_1] (0,0) _ rfl (by (with_reducible repeat (first|refine jQ ?_ _|refine jY ?_|refine jI ?_ _));refine zS (cs:=#[.int .i64 a0_0,.int .i64 0]) ?_ 1 _ (by first|rfl|(simp [*];done));(with_reducible repeat (first|refine jQ ?_ _|refine jY ?_|refine jI ?_ _));refine zS (cs:=#[.int .i64 0,.int .i64 0]) ?_ 0 _ (by first|rfl|(simp [*];done));(with_reducible repeat (first|refine jQ ?_ _|refine jY ?_|refine jI ?_ _));exact BK139.out) Tryz.underlying158 rfl (by kernel_rfl)) rfl ?_;exact⟨by first|rfl|(simp [jL,jK]<;>rfl)|(simp [*,jL,jK]<;>rfl)|(simp [*,jL,jK];generalize ByteArray.toList _=q_;cases q_<;>rfl),qH HB⟩
end Go.Proofs.YtigenhbmgpfffaaGreatDoor.Pa
