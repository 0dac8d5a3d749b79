import Derived.Test.YtigenhbmgpfffaaGreatDoorB39
import Derived.Test.YtigenhbmgpfffaaGreatDoorB43
set_option linter.unusedVariables false
set_option linter.unusedSimpArgs false
namespace Go.Proofs.YtigenhbmgpfffaaGreatDoor.Pl
open Go.RowKit Go.Proofs.YtigenhbmgpfffaaGreatDoor.Pa Go.Proofs.YtigenhbmgpfffaaGreatDoorW.PrintWords Go.Proofs.YtigenhbmgpfffaaGreatDoorW.PrintLast Go.Proofs.YtigenhbmgpfffaaGreatDoorW.PrintMore
theorem jA0 (x:Int):yu x=((j6 x:Nat):Int):=by
 have h:jc.f x=some ((j6 x:Nat):Int):=by
  unfold jc.f j6
  repeat' split
  all_goals first|(exfalso;omega)|rfl|(rw[Int.tmod_eq_emod_of_nonneg (by omega)];congr 1;omega)
 have:=(ym x).symm.trans h;exact Option.some.inj this
theorem jB1 (x:Int):jBH x=zg x:=by
 have h:jm.f x=some (zg x):=by
  unfold jm.f;rw[ym,Option.bind_some,jA0];unfold zg
  by_cases hk:j6 x=0
  ·rw[if_pos (by omega),if_pos hk]
  ·rw[if_neg (by omega),if_neg hk]
   obtain⟨h1,h2,_⟩:=yo x hk;have h16:x≠16:=λe=>hk (by rw[e];rfl)
   congr 1
   have:wrap64 (Int.tdiv x 16)=x/16:=by
    rw[Int.tdiv_eq_ediv_of_nonneg (by omega)];unfold wrap64;omega
   rw[this]
   split<;>omega
 exact Option.some.inj ((jA2 x).symm.trans h)
theorem rraw_nat (x:Int):rraw x=if j6 x=0 then 0 else((rawT (j6 x):Nat):Int):=by
 have key:∀k:Fin 16,k.1≠13->jw.f 9 (k.1:Int)=some (if k.1=0 then 0 else((rawT k.1:Nat):Int)):=by decide +kernel
 have hr:=rraw_is x;rw[jA0] at hr;have hle:=jAM x;exact Option.some.inj (hr.symm.trans (key ⟨j6 x,by omega⟩ (kindT_13 x)))
theorem rtot_nat (k:Nat) (h1:1<=k) (h8:k<8):rtot k=totT k:=by
 have key:∀k:Fin 8,1<=k.1->rtot k.1=totT k.1:=by decide +kernel
 exact key ⟨k,h8⟩ h1
theorem rfar_nat (s:Int) (q:Nat) (hs:s = -1\/s=0\/s=1) (hq:q<81):jh.f 9 s (q:Int)=some (farT s q):=by
 have key:∀q:Fin 81,jh.f 9 (-1) (q.1:Int)=some (farT (-1) q.1)/\jh.f 9 0 (q.1:Int)=some (farT 0 q.1)/\jh.f 9 1 (q.1:Int)=some (farT 1 q.1):=by decide +kernel
 obtain⟨k1,k2,k3⟩:=key ⟨q,hq⟩
 rcases hs with h|h|h<;>rw[h]
 ·exact k1
 ·exact k2
 ·exact k3
theorem rdead_nat (x:Int) (q:Nat) (hq:q<81):rdead x q=deadT x q:=by
 have h3:zg x = -1\/zg x=0\/zg x=1:=by
  unfold zg
  repeat' split
  all_goals simp
 have h:zW.f 9 x (q:Int)=some (deadT x q):=by
  unfold zW.f;rw[jA2,jB1,Option.bind_some,rfar_nat _ q h3 hq,Option.bind_some,ym,jA0,Option.bind_some];unfold deadT;generalize farT (zg x) q=f;generalize j6 x=k
  have c:∀n:Int,(n==1)=decide (n=1):=λn=>by rw[Bool.eq_iff_iff,beq_iff_eq,decide_eq_true_eq]
  by_cases a:k=1
  ·subst a
   by_cases hf:f=0
   ·simp [hf]
   ·simp [hf]
  ·by_cases b:k=2
   ·subst b
    by_cases hf:f=0
    ·simp [hf]
    ·simp [hf]
   ·by_cases d:k=3
    ·subst d
     by_cases hf:f=0
     ·simp [hf]
     ·simp [hf,c]
    ·have e1:¬((k:Int)=1):=by omega
     have e2:¬((k:Int)=2):=by omega
     have e3:¬((k:Int)=3):=by omega
     rw[if_neg e1,if_neg e2,if_neg e3,if_neg (by omega),if_neg d]
 exact Option.some.inj ((rdead_is x q hq).symm.trans h)
theorem cntR_cntB (g:Nat->Bool) (p:Nat->Int) (f:Int->Bool) (h:∀q,g q=f (p q)):∀d n,cntR g (n+d)=cntR g n+cntB p f n d
 | 0,n=>rfl
 | d+1,n=>by
  have e:=cntR_cntB g p f h d (n+1);rw[show n+(d+1)=(n+1)+d by omega,e];rw[show cntB p f n (d+1)=(if f (p n)=true then 1 else 0)+cntB p f (n+1) d from rfl];show cntR g n+(if g n=true then 1 else 0)+_=_;rw[h n];omega
theorem cntR_file (cs:List Int) (p:Int) (f:Nat):jt.f cs p f=cntB (λq=>wrap64 (cs.getD q 0)) (λx=>x==p) (9*f) 9:=by
 unfold jt.f
 have:∀d n,cntR (jt.g cs p f) (n+d)=cntR (jt.g cs p f) n+cntB (λq=>wrap64 (cs.getD q 0)) (λx=>x==p) (9*f+n) d:=λd=>by
  induction d with
  | zero=>intro n;rfl
  | succ d ih=>
   intro n;rw[show n+(d+1)=(n+1)+d by omega,ih (n+1)];show cntR (jt.g cs p f) n+(if jt.g cs p f n=true then 1 else 0)+_=_;rw[show 9*f+(n+1)=9*f+n+1 by omega,show cntB (λq=>wrap64 (cs.getD q 0)) (λx=>x==p) (9*f+n) (d+1)=(if(wrap64 (cs.getD (9*f+n) 0)==p)=true then 1 else 0)+cntB (λq=>wrap64 (cs.getD q 0)) (λx=>x==p) (9*f+n+1) d from rfl];show _+(if(wrap64 (cs.getD (9*f+n) 0)==p)=true then 1 else 0)+_=_;omega
 have h:=this 9 0;rw[Nat.zero_add,Nat.add_zero] at h;rw[h];show 0+_=_;omega
theorem cntB_add (p:Nat->Int) (f:Int->Bool):∀d n m,cntB p f n (d+m)=cntB p f n d+cntB p f (n+d) m
 | 0,n,m=>by
  show cntB p f n (0+m)=0+cntB p f (n+0) m;rw[Nat.zero_add,Nat.zero_add,Nat.add_zero]
 | d+1,n,m=>by
  rw[show d+1+m=(d+m)+1 by omega];show _+cntB p f (n+1) (d+m)=_+cntB p f (n+1) d+_;rw[cntB_add p f d (n+1) m,show n+1+d=n+(d+1) by omega];omega
theorem all_nat (cs:List Int) (p:Int):∀n, j7.f cs p n=cntB (λq=>wrap64 (cs.getD q 0)) (λx=>x==p) 0 (9*n)
 | 0=>rfl
 | n+1=>by
  show j7.f cs p n+jt.f cs p n=_;rw[all_nat cs p n,cntR_file,show 9*(n+1)=9*n+9 by omega,cntB_add,Nat.zero_add]
theorem cntB_congr (p p':Nat->Int) (f f':Int->Bool):∀d n,(∀i,n<=i->i<n+d->f (p i)=f' (p' i))->cntB p f n d=cntB p' f' n d
 | 0,_,_=>rfl
 | d+1,n,h=>by
  unfold cntB;rw[h n (Nat.le_refl _) (by omega),cntB_congr p p' f f' d (n+1) λi h1 h2=>h i (by omega) (by omega)]
theorem king_eq (s:Nat) (hs:s<2) (x:Int):(x==((16*s+8:Nat):Int))=yN s x:=by
 unfold yN;rw[Bool.eq_iff_iff,beq_iff_eq,Bool.and_eq_true,decide_eq_true_eq,decide_eq_true_eq]
 constructor
 ·intro h
  subst h
  have:∀s:Fin 2,j6 ((16*s.1+8:Nat):Int)=8/\zg ((16*s.1+8:Nat):Int)=(s.1:Int):=by decide +kernel
  exact this ⟨s,hs⟩
 ·rintro⟨h1,h2⟩
  have hs2:zg x=if x<16 then 0 else 1:=by unfold zg;rw[if_neg (by omega)]
  rw[hs2] at h2;unfold j6 at h1
  split at h2<;>split at h1<;>(try split at h1)<;>omega
theorem anyB_or (f g:Nat->Bool):∀d n, anyB (λi=>f i||g i) n d=(anyB f n d||anyB g n d)
 | 0,_=>rfl
 | d+1,n=>by
  simp only[anyB];rw[anyB_or f g d (n+1)]
  cases f n<;>cases g n<;>cases anyB f (n+1) d<;>rfl
theorem loop_is (F:Nat->Nat->Int) (T:Nat->Bool) (c K:Int) (h0:∀n, F n 0=K) (h1:∀n d, F n (d+1)=if T n=true then c else F (n+1) d):∀d n, F n d=if anyB T n d=true then c else K
 | 0,n=>h0 n
 | d+1,n=>by
  rw[h1 n d,loop_is F T c K h0 h1 d (n+1)];have e:anyB T n (d+1)=(T n||anyB T (n+1) d):=rfl
  by_cases h:T n=true
  ·have e2:anyB T n (d+1)=true:=by rw[e,h];rfl
   rw[if_pos h,if_pos e2]
  ·have e2:anyB T n (d+1)=anyB T (n+1) d:=by rw[e,Bool.eq_false_iff.2 h];rfl
   rw[if_neg h,e2]
def subB (f:Nat) (g:Nat->Bool):Nat->Nat×Nat
 | 0=>(0,0)
 | n+1=>if g n=true then add (subB f g n) ((9*f+n:Nat):Int) else subB f g n
theorem good_subB (f:Nat) (g:Nat->Bool):∀n,Good (subB f g n)
 | 0=>good0
 | n+1=>by
  unfold subB
  split
  ·exact jBP _ _ (good_subB f g n)
  ·exact good_subB f g n
theorem has_subB (f:Nat) (hf:f<9) (g:Nat->Bool) (q:Nat) (hq:q<81):∀n,n<=9->has (subB f g n) q=(decide (9*f<=q/\q<9*f+n)&&g (q-9*f))
 | 0,_=>by
  rw[decide_eq_false (by omega),Bool.false_and];unfold has subB
  split<;>simp
 | n+1,h=>by
  have ih:=has_subB f hf g q hq n (by omega);unfold subB
  by_cases e:q=9*f+n
  ·subst e
   rw[decide_eq_true (by omega),Bool.true_and,show 9*f+n-9*f=n by omega]
   by_cases hg:g n=true
   ·rw[if_pos hg,has_add' _ _ _ (by omega) (by omega),decide_eq_true rfl,Bool.or_true,hg]
   ·rw[if_neg hg,ih,decide_eq_false (by omega),Bool.false_and,Bool.eq_false_iff.2 hg]
  ·have hd:decide (9*f<=q/\q<9*f+(n+1))=decide (9*f<=q/\q<9*f+n):=by rw[decide_eq_decide];omega
   rw[hd]
   by_cases hg:g n=true
   ·rw[if_pos hg,has_add' _ _ _ (by omega) (by omega),decide_eq_false e,Bool.or_false,ih]
   ·rw[if_neg hg,ih]
theorem ext_has {s t:Nat×Nat} (hs:Good s) (ht:Good t) (h:∀q,q<81->has s q=has t q):s=t:=by
 obtain⟨s1,s2⟩:=s;obtain⟨t1,t2⟩:=t
 have e1:s1=t1:=Nat.eq_of_testBit_eq λi=>by
  by_cases hi:i<63
  ·have:=h i (by omega)
   unfold has at this
   rwa [if_pos hi,if_pos hi] at this
  ·rw[Nat.testBit_lt_two_pow (Nat.lt_of_lt_of_le hs.1 (Nat.pow_le_pow_right (by decide) (by omega))),Nat.testBit_lt_two_pow (Nat.lt_of_lt_of_le ht.1 (Nat.pow_le_pow_right (by decide) (by omega)))]
 have e2:s2=t2:=Nat.eq_of_testBit_eq λi=>by
  by_cases hi:i<18
  ·have:=h (i+63) (by omega)
   unfold has at this
   rwa [if_neg (by omega),if_neg (by omega),Nat.add_sub_cancel] at this
  ·rw[Nat.testBit_lt_two_pow (Nat.lt_of_lt_of_le hs.2 (Nat.pow_le_pow_right (by decide) (by omega))),Nat.testBit_lt_two_pow (Nat.lt_of_lt_of_le ht.2 (Nat.pow_le_pow_right (by decide) (by omega)))]
 rw[e1,e2]
theorem has_and (s t:Nat×Nat) (q:Nat):has (andP s t) q=(has s q&&has t q):=by
 unfold has andP
 split<;>exact Nat.testBit_and _ _ _
theorem has_or (s t:Nat×Nat) (q:Nat):has (orP s t) q=(has s q||has t q):=by
 unfold has orP
 split<;>exact Nat.testBit_or _ _ _
theorem has_file (f q:Nat) (hf:f<9) (hq:q<81):has (fileS f) q=decide (9*f<=q/\q<9*f+9):=by
 have key:∀f:Fin 9,∀q:Fin 81,has (fileS f.1) q.1=decide (9*f.1<=q.1/\q.1<9*f.1+9):=by decide +kernel
 exact key ⟨f,hf⟩ ⟨q,hq⟩
theorem cnt9:∀f:Fin 9,∀b0 b1 b2 b3 b4 b5 b6 b7 b8:Bool,cntT (subB f.1 (λr=>[b0,b1,b2,b3,b4,b5,b6,b7,b8].getD r false) 9)=((cntR (λr=>[b0,b1,b2,b3,b4,b5,b6,b7,b8].getD r false) 9:Nat):Int):=by decide +kernel
theorem subB_congr (f:Nat) (g g':Nat->Bool):∀n,(∀r,r<n->g r=g' r)->subB f g n=subB f g' n
 | 0,_=>rfl
 | n+1,h=>by
  unfold subB;rw[h n (by omega),subB_congr f g g' n λr hr=>h r (by omega)]
theorem cntR_congr (g g':Nat->Bool):∀n,(∀r,r<n->g r=g' r)->cntR g n=cntR g' n
 | 0,_=>rfl
 | n+1,h=>by
  unfold cntR;rw[h n (by omega),cntR_congr g g' n λr hr=>h r (by omega)]
theorem cnt_sub (f:Nat) (hf:f<9) (g:Nat->Bool):cntT (subB f g 9)=((cntR g 9:Nat):Int):=by
 have hg:∀r,r<9->g r=[g 0,g 1,g 2,g 3,g 4,g 5,g 6,g 7,g 8].getD r false:=λr hr=>by
  obtain rfl|rfl|rfl|rfl|rfl|rfl|rfl|rfl|rfl:r=0\/r=1\/r=2\/r=3\/r=4\/r=5\/r=6\/r=7\/r=8:=by omega
  all_goals rfl
 rw[subB_congr f g _ 9 hg,cntR_congr g _ 9 hg];exact cnt9 ⟨f,hf⟩ (g 0) (g 1) (g 2) (g 3) (g 4) (g 5) (g 6) (g 7) (g 8)
theorem mem_pawn (x:Int) (s:Nat) (hs:s<2):memI x (16*s+1)=(x==((16*s+1:Nat):Int)):=by
 unfold memI
 have h3:zg x = -1\/zg x=0\/zg x=1:=by
  unfold zg
  repeat' split
  all_goals simp
 rw[decide_eq_false (show ¬zg x+32=((16*s+1:Nat):Int) by omega),Bool.or_false,Bool.eq_iff_iff,Bool.and_eq_true,decide_eq_true_eq,decide_eq_true_eq,beq_iff_eq];refine⟨λh=>h.2,λh=>⟨?_,h⟩⟩;subst h
 have:∀s:Fin 2,j6 ((16*s.1+1:Nat):Int)≠0:=by decide +kernel
 exact this ⟨s,hs⟩
theorem wrap_i8 {x:Int} (h:(Lit.int .i8 x).wf=true):wrap64 x=x:=by
 have:=bounds_i8 h;unfold wrap64;omega
theorem nifu_nat (cs:List Int) (hp:∀i,(Lit.int .i8 (cs.getD i 0)).wf=true) (f s:Nat) (hf:f<9) (hs:s<2):jBV (yI cs) f s=decide (1<((jt.f cs ((16*s+1:Nat):Int) f:Nat):Int)):=by
 unfold jBV
 have e:andP (yI cs (16*s+1)) (fileS f)=subB f (jt.g cs ((16*s+1:Nat):Int) f) 9:=by
  refine ext_has (good_and (yi _ _ 81) (file_is f hf).2) (good_subB _ _ 9) λq hq=>?_;rw[has_and,has_file f q hf hq,has_subB f hf _ q hq 9 (Nat.le_refl _)];unfold yI;rw[jBO _ _ q hq 81 (Nat.le_refl _),decide_eq_true hq,Bool.true_and,mem_pawn _ s hs]
  by_cases h:9*f<=q/\q<9*f+9
  ·rw[decide_eq_true h,Bool.and_true,Bool.true_and]
   unfold jt.g;rw[show 9*f+(q-9*f)=q by omega,wrap_i8 (hp q)]
  ·rw[decide_eq_false h,Bool.and_false,Bool.false_and]
 rw[e,cnt_sub f hf]
 rfl
theorem badh_nat (v:Int) (k:Nat):badh v k=badV v k:=by
 unfold badh badV;rw[Bool.eq_iff_iff];simp only[Bool.or_eq_true,Bool.and_eq_true,decide_eq_true_eq,bne_iff_ne];omega
theorem refboard_is (cs:List Int) (hp:∀i,(Lit.int .i8 (cs.getD i 0)).wf=true):jC.f cs=jA7 cs:=by
 have hw:∀i,wrap64 (cs.getD i 0)=cs.getD i 0:=λi=>wrap_i8 (hp i)
 have h6:jC.l6 cs 0 9=if nifuB cs=true then 53 else 0:=by
  rw[loop_is (jC.l6 cs) _ 53 0 (λ_=>rfl) (λ_ _=>rfl) 9 0]
  have:anyB (λn=>decide (1<((jt.f cs 1 n:Nat):Int))||decide (1<((jt.f cs 17 n:Nat):Int))) 0 9=nifuB cs:=yr 9 0 λf _ hf=>by
   show _=(jBV (yI cs) f 0||(jBV (yI cs) f 1||false));rw[nifu_nat cs hp f 0 (by omega) (by omega),nifu_nat cs hp f 1 (by omega) (by omega),Bool.or_false];rfl
  rw[this]
 have h5:jC.l5 cs 0 81=if deadB cs=true then 52 else if nifuB cs=true then 53 else 0:=by
  rw[loop_is (jC.l5 cs) _ 52 (jC.l6 cs 0 9) (λ_=>rfl) (λ_ _=>rfl) 81 0,h6]
  have:anyB (λn=>rdead (wrap64 (cs.getD n 0)) n) 0 81=deadB cs:=yr 81 0 λq _ hq=>by
   rw[hw q];exact rdead_nat _ q (by omega)
  rw[this]
 have h4:jC.l4 cs 1 7=if overB cs=true then 51 else if deadB cs=true then 52 else if nifuB cs=true then 53 else 0:=by
  rw[loop_is (jC.l4 cs) _ 51 (jC.l5 cs 0 81) (λ_=>rfl) (λ_ _=>rfl) 7 1,h5]
  have:anyB (λn=>decide (rtot n<zH.f cs n)) 1 7=overB cs:=yr 7 1 λk h1 h2=>by
   have e:zH.f cs k=sumT cs k:=by
    unfold zH.f sumT nB
    have hc:=cntR_cntB (zH.g cs k) (λq=>cs.getD q 0) (zx k) (λq=>by
     unfold zH.g zx;rw[hw q,rraw_nat,Bool.eq_iff_iff,beq_iff_eq,Bool.and_eq_true,decide_eq_true_eq,decide_eq_true_eq]
     by_cases hz:j6 (cs.getD q 0)=0
     ·rw[if_pos hz];omega
     ·rw[if_neg hz];omega) 81 0
    rw[Nat.zero_add] at hc;rw[hc,hw,hw];have hb1:=bounds_i8 (hp (81+k));have hb2:=bounds_i8 (hp (89+k));have hl:=cntB_le (λq=>cs.getD q 0) (zx k) 81 0;show wrap64 (wrap64 (((0+cntB (λq=>cs.getD q 0) (zx k) 0 81:Nat):Int)+_)+_)=_;rw[Nat.zero_add];generalize cntB (λq=>cs.getD q 0) (zx k) 0 81=c at hl ⊢;unfold wrap64;omega
   rw[e,rtot_nat k h1 (by omega)]
  rw[this]
 have h3:jC.l3 cs=if jBN cs=false then 50 else if overB cs=true then 51 else if deadB cs=true then 52 else if nifuB cs=true then 53 else 0:=by
  unfold jC.l3;rw[h4]
  have hk:∀s,s<2->j7.f cs ((16*s+8:Nat):Int) 9=nB cs (yN s):=λs hs=>by
   rw[all_nat]
   exact cntB_congr _ _ _ _ 81 0 λq _ _=>by
    rw[hw q,king_eq s hs]
  have k0:=hk 0 (by omega);have k1:=hk 1 (by omega);rw[show(8:Int)=((16*0+8:Nat):Int) from rfl,show(24:Int)=((16*1+8:Nat):Int) from rfl,k0,k1]
  have:((((nB cs (yN 0):Nat):Int) != 1||((nB cs (yN 1):Nat):Int) != 1)=true)↔jBN cs=false:=by
   unfold jBN;rw[Bool.or_eq_true,Bool.and_eq_false_iff,bne_iff_ne,bne_iff_ne,decide_eq_false_iff_not,decide_eq_false_iff_not];omega
  by_cases h:jBN cs=false
  ·rw[if_pos (this.2 h),if_pos h]
  ·rw[if_neg (λe=>h (this.1 e)),if_neg h]
 have h2:jC.l2 cs 0 8=if(anyB (badH (λi=>cs.getD (81+i) 0)) 0 8||anyB (badH (λi=>cs.getD (89+i) 0)) 0 8)=true then 55 else jC.l3 cs:=by
  rw[loop_is (jC.l2 cs) (λn=>badh (cs.getD (81+n) 0) n||badh (cs.getD (89+n) 0) n) 55 (jC.l3 cs) (λ_=>rfl) (λn d=>by
   show(if badh (cs.getD (81+n) 0) n=true then 55 else if badh (cs.getD (89+n) 0) n=true then 55 else jC.l2 cs (n+1) d)=_
   cases badh (cs.getD (81+n) 0) n<;>cases badh (cs.getD (89+n) 0) n<;>rfl) 8 0,<- anyB_or]
  have:anyB (λn=>badh (cs.getD (81+n) 0) n||badh (cs.getD (89+n) 0) n) 0 8=anyB (λi=>badH (λi=>cs.getD (81+i) 0) i||badH (λi=>cs.getD (89+i) 0) i) 0 8:=yr 8 0 λk _ _=>by
   rw[badh_nat,badh_nat];rfl
  rw[this]
 have h1:jC.l1 cs 0 81=if badB cs=true then 55 else jC.l3 cs:=by
  rw[loop_is (jC.l1 cs) _ 55 (jC.l2 cs 0 8) (λ_=>rfl) (λ_ _=>rfl) 81 0,h2]
  have:anyB (λn=>cs.getD n 0 != 0&&yu (wrap64 (cs.getD n 0))==0) 0 81=anyB (λq=>badX (cs.getD q 0)) 0 81:=yr 81 0 λq _ _=>by
   rw[hw q,jA0];unfold badX;rw[Bool.eq_iff_iff,Bool.and_eq_true,Bool.and_eq_true,bne_iff_ne,beq_iff_eq,decide_eq_true_eq,decide_eq_true_eq];omega
  rw[this];unfold badB
  cases anyB (λq=>badX (cs.getD q 0)) 0 81<;>rfl
 unfold jC.f jA7;rw[h1,h3]
 by_cases hs:cs.getD 97 0=0\/cs.getD 97 0=1
 ·have hn:¬(cs.getD 97 0≠0/\cs.getD 97 0≠1):=by omega
  rw[if_pos hs,if_neg hn]
 ·have hn:cs.getD 97 0≠0/\cs.getD 97 0≠1:=by omega
  rw[if_neg hs,if_pos hn]
def absI (x:Int):Int:=if x<0 then -x else x
def stepK (kind:Nat) (u v:Int) (near:Bool):Bool:=
 match kind with
 | 1=>decide (u=0)&&decide (v=1)
 | 3=>decide (u=1)&&decide (v=2)
 | 4=>near&&(decide (v=1)||(decide (u=1)&&decide (v = -1)))
 | 5|9|10|11|12=>near&&(decide (v>=0)||decide (u=0))
 | 8=>near
 | 14=>near&&(decide (u=0)||decide (v=0))
 | 15=>near&&(decide (u=1)&&decide (v≠0))
 | _=>false
def stepV (side q t:Int):Int:=if side=1 then -(q%9-t%9) else q%9-t%9
def stepB (kind:Nat) (side q t:Int):Bool:=
 if q<0\/80<q\/q=t then false
 else stepK kind (absI (t/9-q/9)) (stepV side q t) (decide (absI (t/9-q/9)<=1)&&decide (absI (stepV side q t)<=1))
theorem ref_is (p:Int):jc.f p=some ((j6 p:Nat):Int)/\jm.f p=some (zg p):=⟨by rw[ym,jA0],by rw[jA2,jB1]⟩
theorem size_is (x:Int) (h:-100<=x/\x<=100):yA.f x=some (absI x):=by
 unfold yA.f absI
 by_cases a:x<0
 ·rw[if_pos a,if_pos a,show wrap64 (-x) = -x by unfold wrap64;omega]
 ·rw[if_neg a,if_neg a]
theorem j2_is (k:Nat) (p u v:Int) (near:Bool) (kind:Nat) (hk:kind<=15) (h:jc.f p=some ((kind:Nat):Int)):jF.j2 (k+2) p u v near=some (stepK kind u v near):=by
 simp only[jF.j2,h,Option.bind_some]
 obtain rfl|rfl|rfl|rfl|rfl|rfl|rfl|rfl|rfl|rfl|rfl|rfl|rfl|rfl|rfl|rfl:kind=0\/kind=1\/kind=2\/kind=3\/kind=4\/kind=5\/kind=6\/kind=7\/kind=8\/kind=9\/kind=10\/kind=11\/kind=12\/kind=13\/kind=14\/kind=15:=by omega
 all_goals
  cases near
  all_goals
   simp [jF.j3,stepK]
   try (repeat' split)
   all_goals (try simp_all)
   all_goals (try (rw[Bool.eq_iff_iff];simp;try omega))
theorem step_ref (k:Nat) (p q t:Int) (ht0:0<=t) (ht1:t<=80):jF.f (k+4) p q t=some (stepB (j6 p) (zg p) q t):=by
 obtain⟨r1,r2⟩:=ref_is p
 have hj:jF.j0 (k+4) p q t true=some false:=by
  show jF.j0 ((k+3)+1) p q t true=_;simp only[jF.j0];rw[if_pos trivial]
 unfold jF.f stepB
 by_cases h1:q<0
 ·rw[if_pos h1,if_pos (.inl h1),hj]
 rw[if_neg h1]
 by_cases h2:q>80
 ·rw[if_pos h2,if_pos (.inr (.inl h2)),hj]
 rw[if_neg h2,if_neg (by omega),if_neg (by omega)]
 by_cases h3:q=t
 ·rw[show(q==t)=true from beq_iff_eq.2 h3,if_pos (.inr (.inr h3)),hj]
 rw[show(q==t)=false from beq_eq_false_iff_ne.2 h3,if_neg (by omega)];show jF.j0 ((k+3)+1) p q t false=_;simp only[jF.j0];rw[if_neg (by decide)]
 have e1:wrap64 (wrap64 (Int.tdiv t 9)-wrap64 (Int.tdiv q 9))=t/9-q/9:=by
  rw[Int.tdiv_eq_ediv_of_nonneg (by omega),Int.tdiv_eq_ediv_of_nonneg (by omega)]
  have a1:wrap64 (t/9)=t/9:=by unfold wrap64;omega
  have a2:wrap64 (q/9)=q/9:=by unfold wrap64;omega
  rw[a1,a2];unfold wrap64;omega
 have e2:wrap64 (Int.tmod q 9-Int.tmod t 9)=q%9-t%9:=by
  rw[Int.tmod_eq_emod_of_nonneg (by omega),Int.tmod_eq_emod_of_nonneg (by omega)];unfold wrap64;omega
 have e3:wrap64 (-(q%9-t%9)) = -(q%9-t%9):=by unfold wrap64;omega
 rw[e1,e2,e3,size_is _ (by omega),r2];simp only[Option.bind_some]
 have hv:∀v:Int,-100<=v->v<=100->jF.j1 (k+3) p (absI (t/9-q/9)) v=some (stepK (j6 p) (absI (t/9-q/9)) v (decide (absI (t/9-q/9)<=1)&&decide (absI v<=1))):=by
  intro v v0 v1;show jF.j1 ((k+2)+1) p _ v=_;simp only[jF.j1]
  by_cases g:absI (t/9-q/9)<=1
  ·rw[if_pos g,size_is v ⟨v0,v1⟩,decide_eq_true g]
   simp only[Option.bind_some,Bool.true_and];exact j2_is k p _ v _ _ (jAM p) r1
  ·rw[if_neg g,decide_eq_false g,Bool.false_and]
   exact j2_is k p _ v _ _ (jAM p) r1
 unfold stepV
 by_cases hs:zg p=1
 ·rw[if_pos hs,if_pos hs,hv _ (by omega) (by omega)]
 ·rw[if_neg hs,if_neg hs,hv _ (by omega) (by omega)]
def chk (kind:Nat) (side:Int) (q:Nat):Bool:=let s:=stepN kind side (q:Int);(List.range 81).all λt=>has s t==stepB kind side (q:Int) (t:Int)
def chkK (kind:Nat):Bool:=(List.range 81).all λq=>chk kind 0 q&&chk kind 1 q
theorem chk0:chkK 0=true:=by decide +kernel
theorem chk1:chkK 1=true:=by decide +kernel
theorem chk2:chkK 2=true:=by decide +kernel
theorem chk3:chkK 3=true:=by decide +kernel
theorem chk4:chkK 4=true:=by decide +kernel
theorem chk5:chkK 5=true:=by decide +kernel
theorem chk6:chkK 6=true:=by decide +kernel
theorem chk7:chkK 7=true:=by decide +kernel
theorem chk8:chkK 8=true:=by decide +kernel
theorem chk9:chkK 9=true:=by decide +kernel
theorem chk10:chkK 10=true:=by decide +kernel
theorem chk11:chkK 11=true:=by decide +kernel
theorem chk12:chkK 12=true:=by decide +kernel
theorem chk13:chkK 13=true:=by decide +kernel
theorem chk14:chkK 14=true:=by decide +kernel
theorem chk15:chkK 15=true:=by decide +kernel
theorem chk_all (kind:Nat) (h:kind<=15):chkK kind=true:=by
 obtain rfl|rfl|rfl|rfl|rfl|rfl|rfl|rfl|rfl|rfl|rfl|rfl|rfl|rfl|rfl|rfl:kind=0\/kind=1\/kind=2\/kind=3\/kind=4\/kind=5\/kind=6\/kind=7\/kind=8\/kind=9\/kind=10\/kind=11\/kind=12\/kind=13\/kind=14\/kind=15:=by omega
 ·exact chk0
 ·exact chk1
 ·exact chk2
 ·exact chk3
 ·exact chk4
 ·exact chk5
 ·exact chk6
 ·exact chk7
 ·exact chk8
 ·exact chk9
 ·exact chk10
 ·exact chk11
 ·exact chk12
 ·exact chk13
 ·exact chk14
 ·exact chk15
theorem has_zero (t:Nat):has (0,0) t=false:=by
 unfold has;split
 ·simp
 ·simp
theorem step_has (kind s q t:Nat) (hk:kind<=15) (hs:s<2) (hq:q<81) (ht:t<81):has (stepN kind (s:Int) (q:Int)) t=stepB kind (s:Int) (q:Int) (t:Int):=by
 have h:=List.all_eq_true.1 (chk_all kind hk) q (List.mem_range.2 hq);rw[Bool.and_eq_true] at h
 obtain rfl|rfl:s=0\/s=1:=by omega
 ·have:=List.all_eq_true.1 h.1 t (List.mem_range.2 ht)
  simpa using this
 ·have:=List.all_eq_true.1 h.2 t (List.mem_range.2 ht)
  simpa using this
theorem step_sym (kind s f q:Nat) (hs:s<2) (hf:f<81) (hq:q<81):stepB kind ((1-s:Nat):Int) (f:Int) (q:Int)=stepB kind (s:Int) (q:Int) (f:Int):=by
 unfold stepB
 have e1:((f:Int)<0\/80<(f:Int)\/(f:Int)=(q:Int))↔((q:Int)<0\/80<(q:Int)\/(q:Int)=(f:Int)):=by omega
 have e2:absI ((q:Int)/9-(f:Int)/9)=absI ((f:Int)/9-(q:Int)/9):=by
  unfold absI
  split<;>split<;>omega
 have e3:stepV ((1-s:Nat):Int) (f:Int) (q:Int)=stepV (s:Int) (q:Int) (f:Int):=by
  unfold stepV
  obtain rfl|rfl:s=0\/s=1:=by omega
  ·rw[if_pos (by rfl),if_neg (by decide)];omega
  ·rw[if_neg (by decide),if_pos (by rfl)];omega
 rw[e2,e3]
 by_cases h:(q:Int)<0\/80<(q:Int)\/(q:Int)=(f:Int)
 ·rw[if_pos (e1.2 h),if_pos h]
 ·rw[if_neg (λz=>h (e1.1 z)),if_neg h]
theorem rstep_nat (x:Int) (f q:Nat) (hf:f<81) (hq:q<81):rstep x f q=stepB (j6 x) (zg x) (f:Int) (q:Int):=
 Option.some.inj ((rstep_is x f q).symm.trans (step_ref 16 x f q (by omega) (by omega)))
def wayL:Nat->Int->Int->Int->List Nat
 | 0,_,_,_=>[]
 | n+1,q,dx,dy=>if q>=0 then q.toNat::wayL n (jAR dx dy q) dx dy else[]
def hit (o:Nat×Nat) (f:Nat):List Nat->Bool
 | []=>false
 | a::l=>(a==f)||(!(has o a)&&hit o f l)
def pre (f:Nat):List Nat->List Nat
 | []=>[]
 | a::l=>if a=f then[] else a::pre f l
theorem hit_pre (o:Nat × Nat) (f:Nat):∀l, hit o f l=(l.contains f&&(pre f l).all λj => !(has o j))
 | []=>rfl
 | a::l=>by
  unfold hit pre;rw[hit_pre o f l,List.contains_cons]
  by_cases e:a=f
  ·subst e;simp
  ·rw[if_neg e,List.all_cons,show(a==f)=false from beq_eq_false_iff_ne.2 e,show(f==a)=false from beq_eq_false_iff_ne.2 (Ne.symm e),Bool.false_or,Bool.false_or]
   cases has o a<;>cases l.contains f<;>simp
theorem from_le (dx dy q:Int):jAR dx dy q<=80:=by
 unfold jAR
 split<;>omega
theorem way_has (dx dy:Int) (o:Nat×Nat) (go:Good o) (f:Nat) (hf:f<81):∀(n:Nat) (q:Int) (s r:Nat×Nat),q<=80->wayN n q dx dy o s=some r->has r f=(has s f||hit o f (wayL n q dx dy))
 | 0,_,_,_,_,h=>by simp [wayN] at h
 | n+1,q,s,r,hq8,h=>by
  simp only[wayN] at h;unfold wayL
  by_cases hq:q>=0
  ·obtain⟨m,rfl⟩:∃m:Nat,q=m:=⟨q.toNat,by omega⟩
   have hI:hasI o (m:Int)=has o m:=by unfold hasI;rw[if_pos ⟨by omega,by omega⟩,Int.toNat_natCast]
   rw[if_pos hq,hI] at h;rw[if_pos hq,Int.toNat_natCast];unfold hit;have ha:=has_add' s m f (by omega) (by omega)
   have hsym:(m==f)=decide (f=m):=by rw[Bool.eq_iff_iff,beq_iff_eq,decide_eq_true_eq];omega
   by_cases hh:has o m=true
   ·rw[if_pos hh] at h
    obtain rfl:=Option.some.inj h;rw[ha,hh,hsym];simp
   ·rw[if_neg hh] at h
    rw[way_has dx dy o go f hf n _ _ r (from_le _ _ _) h,ha,Bool.eq_false_iff.2 hh,hsym]
    simp [Bool.or_assoc]
  ·rw[if_neg hq] at h
   rw[if_neg hq];obtain rfl:=Option.some.inj h
   simp [hit]
def wl (s q:Nat) (d:S158):List Nat:=wayL 12 (jAR (jAC (s:Int) d).1 (jAC (s:Int) d).2 (q:Int)) (jAC (s:Int) d).1 (jAC (s:Int) d).2
theorem wayP_has (s q:Nat) (o:Nat×Nat) (go:Good o) (d:S158) (hd:ok8 (d.f0,d.f1)=true) (f:Nat) (hf:f<81):has (wayP o (jAC (s:Int) d) (q:Int)) f=hit o f (wl s q d):=by
 obtain⟨h8,_⟩:=ok8_turn (s:Int) d hd;obtain⟨r,hr⟩:=wayN_some (jAC (s:Int) d).1 (jAC (s:Int) d).2 o 12 9 (jAR (jAC (s:Int) d).1 (jAC (s:Int) d).2 (q:Int)) (0,0) (by omega) (it9 _ h8 _)
 have e:wayP o (jAC (s:Int) d) (q:Int)=r:=by unfold wayP;rw[hr];rfl
 rw[e,way_has _ _ o go f hf 12 _ _ r (from_le _ _ _) hr,has_zero,Bool.false_or]
 rfl
theorem fold_has (s q:Nat) (o:Nat × Nat) (go:Good o) (f:Nat) (hf:f<81):∀(l:List S158) (t:Nat × Nat), all8 l=true->has (jBU (s:Int) (q:Int) o l t) f=(has t f||l.any λd=>hit o f (wl s q d))
 | [],t,_=>by simp [jBU]
 | d::l,t,h=>by
  unfold all8 at h;rw[List.all_cons,Bool.and_eq_true] at h;unfold jBU;rw[fold_has s q o go f hf l _ h.2,has_or,wayP_has s q o go d h.1 f hf,List.any_cons,Bool.or_assoc]
theorem ray_has (kind s q:Nat) (o:Nat×Nat) (go:Good o) (hk:kind<=15) (hs:s<2) (hq:q<81) (f:Nat) (hf:f<81):has (rayN kind (s:Int) (q:Int) o) f=(stepB kind (s:Int) (q:Int) (f:Int)||(jAL kind).any λd=>hit o f (wl s q d)):=by
 unfold rayN;rw[fold_has s q o go f hf _ _ (rdirs_ok kind hk).2,step_has kind s q f hk hs hq hf]
def dirI (d:Int×Int):Nat:=if d=(0,-1) then 0 else if d=(-1,-1) then 1 else if d=(1,-1) then 2 else if d=(-1,1) then 3 else if d=(1,1) then 4 else if d=(-1,0) then 5 else if d=(1,0) then 6 else 7
def waysLit:List (List (List Nat)):=[[[],[],[],[],[10,20,30,40,50,60,70,80],[],[9,18,27,36,45,54,63,72],[1,2,3,4,5,6,7,8]],
 [[0],[],[9],[],[11,21,31,41,51,61,71],[],[10,19,28,37,46,55,64,73],[2,3,4,5,6,7,8]],
 [[1,0],[],[10,18],[],[12,22,32,42,52,62],[],[11,20,29,38,47,56,65,74],[3,4,5,6,7,8]],
 [[2,1,0],[],[11,19,27],[],[13,23,33,43,53],[],[12,21,30,39,48,57,66,75],[4,5,6,7,8]],
 [[3,2,1,0],[],[12,20,28,36],[],[14,24,34,44],[],[13,22,31,40,49,58,67,76],[5,6,7,8]],
 [[4,3,2,1,0],[],[13,21,29,37,45],[],[15,25,35],[],[14,23,32,41,50,59,68,77],[6,7,8]],
 [[5,4,3,2,1,0],[],[14,22,30,38,46,54],[],[16,26],[],[15,24,33,42,51,60,69,78],[7,8]],
 [[6,5,4,3,2,1,0],[],[15,23,31,39,47,55,63],[],[17],[],[16,25,34,43,52,61,70,79],[8]],
 [[7,6,5,4,3,2,1,0],[],[16,24,32,40,48,56,64,72],[],[],[],[17,26,35,44,53,62,71,80],[]],
 [[],[],[],[1],[19,29,39,49,59,69,79],[0],[18,27,36,45,54,63,72],[10,11,12,13,14,15,16,17]],
 [[9],[0],[18],[2],[20,30,40,50,60,70,80],[1],[19,28,37,46,55,64,73],[11,12,13,14,15,16,17]],
 [[10,9],[1],[19,27],[3],[21,31,41,51,61,71],[2],[20,29,38,47,56,65,74],[12,13,14,15,16,17]],
 [[11,10,9],[2],[20,28,36],[4],[22,32,42,52,62],[3],[21,30,39,48,57,66,75],[13,14,15,16,17]],
 [[12,11,10,9],[3],[21,29,37,45],[5],[23,33,43,53],[4],[22,31,40,49,58,67,76],[14,15,16,17]],
 [[13,12,11,10,9],[4],[22,30,38,46,54],[6],[24,34,44],[5],[23,32,41,50,59,68,77],[15,16,17]],
 [[14,13,12,11,10,9],[5],[23,31,39,47,55,63],[7],[25,35],[6],[24,33,42,51,60,69,78],[16,17]],
 [[15,14,13,12,11,10,9],[6],[24,32,40,48,56,64,72],[8],[26],[7],[25,34,43,52,61,70,79],[17]],
 [[16,15,14,13,12,11,10,9],[7],[25,33,41,49,57,65,73],[],[],[8],[26,35,44,53,62,71,80],[]],
 [[],[],[],[10,2],[28,38,48,58,68,78],[9,0],[27,36,45,54,63,72],[19,20,21,22,23,24,25,26]],
 [[18],[9],[27],[11,3],[29,39,49,59,69,79],[10,1],[28,37,46,55,64,73],[20,21,22,23,24,25,26]],
 [[19,18],[10,0],[28,36],[12,4],[30,40,50,60,70,80],[11,2],[29,38,47,56,65,74],[21,22,23,24,25,26]],
 [[20,19,18],[11,1],[29,37,45],[13,5],[31,41,51,61,71],[12,3],[30,39,48,57,66,75],[22,23,24,25,26]],
 [[21,20,19,18],[12,2],[30,38,46,54],[14,6],[32,42,52,62],[13,4],[31,40,49,58,67,76],[23,24,25,26]],
 [[22,21,20,19,18],[13,3],[31,39,47,55,63],[15,7],[33,43,53],[14,5],[32,41,50,59,68,77],[24,25,26]],
 [[23,22,21,20,19,18],[14,4],[32,40,48,56,64,72],[16,8],[34,44],[15,6],[33,42,51,60,69,78],[25,26]],
 [[24,23,22,21,20,19,18],[15,5],[33,41,49,57,65,73],[17],[35],[16,7],[34,43,52,61,70,79],[26]],
 [[25,24,23,22,21,20,19,18],[16,6],[34,42,50,58,66,74],[],[],[17,8],[35,44,53,62,71,80],[]],
 [[],[],[],[19,11,3],[37,47,57,67,77],[18,9,0],[36,45,54,63,72],[28,29,30,31,32,33,34,35]],
 [[27],[18],[36],[20,12,4],[38,48,58,68,78],[19,10,1],[37,46,55,64,73],[29,30,31,32,33,34,35]],
 [[28,27],[19,9],[37,45],[21,13,5],[39,49,59,69,79],[20,11,2],[38,47,56,65,74],[30,31,32,33,34,35]],
 [[29,28,27],[20,10,0],[38,46,54],[22,14,6],[40,50,60,70,80],[21,12,3],[39,48,57,66,75],[31,32,33,34,35]],
 [[30,29,28,27],[21,11,1],[39,47,55,63],[23,15,7],[41,51,61,71],[22,13,4],[40,49,58,67,76],[32,33,34,35]],
 [[31,30,29,28,27],[22,12,2],[40,48,56,64,72],[24,16,8],[42,52,62],[23,14,5],[41,50,59,68,77],[33,34,35]],
 [[32,31,30,29,28,27],[23,13,3],[41,49,57,65,73],[25,17],[43,53],[24,15,6],[42,51,60,69,78],[34,35]],
 [[33,32,31,30,29,28,27],[24,14,4],[42,50,58,66,74],[26],[44],[25,16,7],[43,52,61,70,79],[35]],
 [[34,33,32,31,30,29,28,27],[25,15,5],[43,51,59,67,75],[],[],[26,17,8],[44,53,62,71,80],[]],
 [[],[],[],[28,20,12,4],[46,56,66,76],[27,18,9,0],[45,54,63,72],[37,38,39,40,41,42,43,44]],
 [[36],[27],[45],[29,21,13,5],[47,57,67,77],[28,19,10,1],[46,55,64,73],[38,39,40,41,42,43,44]],
 [[37,36],[28,18],[46,54],[30,22,14,6],[48,58,68,78],[29,20,11,2],[47,56,65,74],[39,40,41,42,43,44]],
 [[38,37,36],[29,19,9],[47,55,63],[31,23,15,7],[49,59,69,79],[30,21,12,3],[48,57,66,75],[40,41,42,43,44]],
 [[39,38,37,36],[30,20,10,0],[48,56,64,72],[32,24,16,8],[50,60,70,80],[31,22,13,4],[49,58,67,76],[41,42,43,44]],
 [[40,39,38,37,36],[31,21,11,1],[49,57,65,73],[33,25,17],[51,61,71],[32,23,14,5],[50,59,68,77],[42,43,44]],
 [[41,40,39,38,37,36],[32,22,12,2],[50,58,66,74],[34,26],[52,62],[33,24,15,6],[51,60,69,78],[43,44]],
 [[42,41,40,39,38,37,36],[33,23,13,3],[51,59,67,75],[35],[53],[34,25,16,7],[52,61,70,79],[44]],
 [[43,42,41,40,39,38,37,36],[34,24,14,4],[52,60,68,76],[],[],[35,26,17,8],[53,62,71,80],[]],
 [[],[],[],[37,29,21,13,5],[55,65,75],[36,27,18,9,0],[54,63,72],[46,47,48,49,50,51,52,53]],
 [[45],[36],[54],[38,30,22,14,6],[56,66,76],[37,28,19,10,1],[55,64,73],[47,48,49,50,51,52,53]],
 [[46,45],[37,27],[55,63],[39,31,23,15,7],[57,67,77],[38,29,20,11,2],[56,65,74],[48,49,50,51,52,53]],
 [[47,46,45],[38,28,18],[56,64,72],[40,32,24,16,8],[58,68,78],[39,30,21,12,3],[57,66,75],[49,50,51,52,53]],
 [[48,47,46,45],[39,29,19,9],[57,65,73],[41,33,25,17],[59,69,79],[40,31,22,13,4],[58,67,76],[50,51,52,53]],
 [[49,48,47,46,45],[40,30,20,10,0],[58,66,74],[42,34,26],[60,70,80],[41,32,23,14,5],[59,68,77],[51,52,53]],
 [[50,49,48,47,46,45],[41,31,21,11,1],[59,67,75],[43,35],[61,71],[42,33,24,15,6],[60,69,78],[52,53]],
 [[51,50,49,48,47,46,45],[42,32,22,12,2],[60,68,76],[44],[62],[43,34,25,16,7],[61,70,79],[53]],
 [[52,51,50,49,48,47,46,45],[43,33,23,13,3],[61,69,77],[],[],[44,35,26,17,8],[62,71,80],[]],
 [[],[],[],[46,38,30,22,14,6],[64,74],[45,36,27,18,9,0],[63,72],[55,56,57,58,59,60,61,62]],
 [[54],[45],[63],[47,39,31,23,15,7],[65,75],[46,37,28,19,10,1],[64,73],[56,57,58,59,60,61,62]],
 [[55,54],[46,36],[64,72],[48,40,32,24,16,8],[66,76],[47,38,29,20,11,2],[65,74],[57,58,59,60,61,62]],
 [[56,55,54],[47,37,27],[65,73],[49,41,33,25,17],[67,77],[48,39,30,21,12,3],[66,75],[58,59,60,61,62]],
 [[57,56,55,54],[48,38,28,18],[66,74],[50,42,34,26],[68,78],[49,40,31,22,13,4],[67,76],[59,60,61,62]],
 [[58,57,56,55,54],[49,39,29,19,9],[67,75],[51,43,35],[69,79],[50,41,32,23,14,5],[68,77],[60,61,62]],
 [[59,58,57,56,55,54],[50,40,30,20,10,0],[68,76],[52,44],[70,80],[51,42,33,24,15,6],[69,78],[61,62]],
 [[60,59,58,57,56,55,54],[51,41,31,21,11,1],[69,77],[53],[71],[52,43,34,25,16,7],[70,79],[62]],
 [[61,60,59,58,57,56,55,54],[52,42,32,22,12,2],[70,78],[],[],[53,44,35,26,17,8],[71,80],[]],
 [[],[],[],[55,47,39,31,23,15,7],[73],[54,45,36,27,18,9,0],[72],[64,65,66,67,68,69,70,71]],
 [[63],[54],[72],[56,48,40,32,24,16,8],[74],[55,46,37,28,19,10,1],[73],[65,66,67,68,69,70,71]],
 [[64,63],[55,45],[73],[57,49,41,33,25,17],[75],[56,47,38,29,20,11,2],[74],[66,67,68,69,70,71]],
 [[65,64,63],[56,46,36],[74],[58,50,42,34,26],[76],[57,48,39,30,21,12,3],[75],[67,68,69,70,71]],
 [[66,65,64,63],[57,47,37,27],[75],[59,51,43,35],[77],[58,49,40,31,22,13,4],[76],[68,69,70,71]],
 [[67,66,65,64,63],[58,48,38,28,18],[76],[60,52,44],[78],[59,50,41,32,23,14,5],[77],[69,70,71]],
 [[68,67,66,65,64,63],[59,49,39,29,19,9],[77],[61,53],[79],[60,51,42,33,24,15,6],[78],[70,71]],
 [[69,68,67,66,65,64,63],[60,50,40,30,20,10,0],[78],[62],[80],[61,52,43,34,25,16,7],[79],[71]],
 [[70,69,68,67,66,65,64,63],[61,51,41,31,21,11,1],[79],[],[],[62,53,44,35,26,17,8],[80],[]],
 [[],[],[],[64,56,48,40,32,24,16,8],[],[63,54,45,36,27,18,9,0],[],[73,74,75,76,77,78,79,80]],
 [[72],[63],[],[65,57,49,41,33,25,17],[],[64,55,46,37,28,19,10,1],[],[74,75,76,77,78,79,80]],
 [[73,72],[64,54],[],[66,58,50,42,34,26],[],[65,56,47,38,29,20,11,2],[],[75,76,77,78,79,80]],
 [[74,73,72],[65,55,45],[],[67,59,51,43,35],[],[66,57,48,39,30,21,12,3],[],[76,77,78,79,80]],
 [[75,74,73,72],[66,56,46,36],[],[68,60,52,44],[],[67,58,49,40,31,22,13,4],[],[77,78,79,80]],
 [[76,75,74,73,72],[67,57,47,37,27],[],[69,61,53],[],[68,59,50,41,32,23,14,5],[],[78,79,80]],
 [[77,76,75,74,73,72],[68,58,48,38,28,18],[],[70,62],[],[69,60,51,42,33,24,15,6],[],[79,80]],
 [[78,77,76,75,74,73,72],[69,59,49,39,29,19,9],[],[71],[],[70,61,52,43,34,25,16,7],[],[80]],
 [[79,78,77,76,75,74,73,72],[70,60,50,40,30,20,10,0],[],[],[],[71,62,53,44,35,26,17,8],[],[]]]
def wlT (s q:Nat) (d:S158):List Nat:=(waysLit.getD q []).getD (dirI (jAC (s:Int) d)) []
def dirsAll:List S158:=[⟨0,-1⟩,⟨-1,-1⟩,⟨1,-1⟩,⟨-1,1⟩,⟨1,1⟩,⟨-1,0⟩,⟨1,0⟩,⟨0,1⟩]
theorem wl_lit:((List.range 81).all λq=>dirsAll.all λd=>wl 0 q d==wlT 0 q d&&wl 1 q d==wlT 1 q d)=true:=by decide +kernel
def slK (k s f q:Nat):Bool:=jJ.sl (rline f q) ((1-s:Nat):Int) (k:Int) f q
def chkS (k s q:Nat):Bool:=(List.range 81).all λf=>match (jAL k).filter (λd=>(wlT s q d).contains f) with
 | []=>!(slK k s f q)
 | [d]=>slK k s f q&&(pre f (wlT s q d)==((jB2 f q).map Int.toNat).reverse)
 | _=>false
def chkSs (k s:Nat):Bool:=(List.range 81).all (chkS k s)
theorem sl2_0:chkSs 2 0=true:=by decide +kernel
theorem sl2_1:chkSs 2 1=true:=by decide +kernel
theorem sl6_0:chkSs 6 0=true:=by decide +kernel
theorem sl6_1:chkSs 6 1=true:=by decide +kernel
theorem sl7_0:chkSs 7 0=true:=by decide +kernel
theorem sl7_1:chkSs 7 1=true:=by decide +kernel
theorem any_wl (o:Nat × Nat) (f s q:Nat):∀l:List S158, (∀d ∈ l, wl s q d=wlT s q d)->(l.any λd=>hit o f (wl s q d))=l.any λd=>hit o f (wlT s q d)
 | [],_=>rfl
 | d::l,h=>by
  rw[List.any_cons,List.any_cons,h d (List.mem_cons_self ..),any_wl o f s q l λe he=>h e (List.mem_cons_of_mem _ he)]
theorem wl_is (s q:Nat) (hs:s<2) (hq:q<81) (d:S158) (hd:d ∈ dirsAll):wl s q d=wlT s q d:=by
 have h:=List.all_eq_true.1 (List.all_eq_true.1 wl_lit q (List.mem_range.2 hq)) d hd;rw[Bool.and_eq_true,beq_iff_eq,beq_iff_eq] at h
 obtain rfl|rfl:s=0\/s=1:=by omega
 ·exact h.1
 ·exact h.2
theorem rdirs_all (k:Nat):∀d ∈ jAL k,d ∈ dirsAll:=by
 intro d hd;unfold jAL at hd
 split at hd
 all_goals (simp only[List.mem_cons,List.not_mem_nil,or_false] at hd)
 all_goals (first|(rcases hd with rfl|rfl|rfl|rfl<;>simp [dirsAll])|(subst hd;simp [dirsAll])|exact hd.elim)
theorem slide_one (k s q f:Nat) (o:Nat×Nat) (P:Int->Bool) (hP:∀j:Nat,P (j:Int)=!(has o j)) (hs:s<2) (hq:q<81) (hf:f<81) (h:chkSs k s=true):((jAL k).any λd=>hit o f (wl s q d))=(slK k s f q&&(jB2 f q).all P):=by
 have h1:=List.all_eq_true.1 (List.all_eq_true.1 h q (List.mem_range.2 hq)) f (List.mem_range.2 hf)
 have e1:((jAL k).any λd=>hit o f (wl s q d))=((jAL k).filter λd=>(wlT s q d).contains f).any λd=>(pre f (wlT s q d)).all λj=>!(has o j):=by
  rw[any_wl o f s q _ λd hd=>wl_is s q hs hq d (rdirs_all k d hd),List.any_filter]
  congr 1
  funext d
  exact hit_pre o f _
 rw[e1]
 revert h1
 generalize (jAL k).filter (λd=>(wlT s q d).contains f)=F;intro h1
 match F,h1 with
 | [],h1=>
  have:slK k s f q=false:=by simpa using h1
  rw[this];rfl
 | [d],h1=>
  simp only[Bool.and_eq_true,beq_iff_eq] at h1;rw[h1.1,Bool.true_and,List.any_cons,List.any_nil,Bool.or_false,h1.2,List.all_reverse,List.all_map,Bool.eq_iff_iff,List.all_eq_true,List.all_eq_true];have hnn:∀x ∈ jB2 f q,0<=x:=λx hx=>((rbetw_is f q hf hq).2.1 x hx).1
  have hpx:∀x ∈ jB2 f q,P x=!(has o x.toNat):=λx hx=>by
   have:=hP x.toNat
   rwa [Int.toNat_of_nonneg (hnn x hx)] at this
  constructor
  ·intro g x hx
   rw[hpx x hx];exact g x hx
  ·intro g x hx
   have:=g x hx;rw[hpx x hx] at this;exact this
 | d::e::l,h1=>exact absurd h1 (by simp)
theorem slide_all (k s q f:Nat) (o:Nat×Nat) (P:Int->Bool) (hP:∀j:Nat,P (j:Int)=!(has o j)) (hs:s<2) (hq:q<81) (hf:f<81):((jAL k).any λd=>hit o f (wl s q d))=(slK k s f q&&(jB2 f q).all P):=by
 have h6 := slide_one 6 s q f o P hP hs hq hf (by obtain rfl | rfl : s = 0 ∨ s = 1 := by omega
                                                  ·exact sl6_0
                                                  ·exact sl6_1)
 have h7 := slide_one 7 s q f o P hP hs hq hf (by obtain rfl | rfl : s = 0 ∨ s = 1 := by omega
                                                  ·exact sl7_0
                                                  ·exact sl7_1)
 by_cases h:k=2\/k=6\/k=7\/k=14\/k=15
 ·rcases h with rfl|rfl|rfl|rfl|rfl
  ·exact slide_one 2 s q f o P hP hs hq hf (by obtain rfl | rfl : s = 0 ∨ s = 1 := by omega
                                               ·exact sl2_0
                                               ·exact sl2_1)
  ·exact h6
  ·exact h7
  ·exact h6
  ·exact h7
 ·have e1:jAL k=[]:=by
   unfold jAL
   split<;>first|rfl|(exfalso;omega)
  have e2:slK k s f q=false:=by
   unfold slK jJ.sl;rw[if_neg (by omega),if_neg (by omega),if_neg (by omega)]
  rw[e1,e2];rfl
theorem empty_has (s:Nat×Nat) (hs:Good s):emptyP s=true↔∀q,q<81->has s q=false:=by
 constructor
 ·intro h q _
  unfold emptyP at h;rw[Bool.and_eq_true,decide_eq_true_eq,decide_eq_true_eq] at h
  have e:s=(0,0):=by obtain⟨a,b⟩:=s;simp at h;rw[h.1,h.2]
  rw[e];exact has_zero q
 ·intro h
  have e:s=(0,0):=ext_has hs good0 λq hq=>by rw[h q hq,has_zero]
  rw[e];decide
theorem anyB_ex {f:Nat->Bool}:∀d n,anyB f n d=true↔∃i,n<=i/\i<n+d/\f i=true
 | 0, n => by simp only [anyB]; constructor
              ·intro h;exact absurd h (by decide)
              ·rintro⟨i,h1,h2,_⟩;omega
 | d+1,n=>by
  simp only[anyB,Bool.or_eq_true];rw[anyB_ex d (n+1)]
  constructor
  ·rintro(h|⟨i,h1,h2,h3⟩)
   ·exact⟨n,Nat.le_refl _,by omega,h⟩
   ·exact⟨i,by omega,by omega,h3⟩
  ·rintro⟨i,h1,h2,h3⟩
   by_cases e:i=n
   ·subst e;exact .inl h3
   ·exact .inr ⟨i,by omega,by omega,h3⟩
theorem on_has (S:Nat->Nat × Nat) (hG:∀i, Good (S i)) (q:Int) (side:Nat) (hs:side<2) (o:Nat × Nat) (go:Good o) (f:Nat):∀(d k:Nat) (s:Nat × Nat), k+d<=16->has (onN S q side o k d s) f=(has s f||anyB (λk=>decide (k≠13)&&(has (rayN k ((1-side:Nat):Int) q o) f&&has (S (16*side+k)) f)) k d)
 | 0,k,s,_=>by simp [onN,anyB]
 | d+1,k,s,h=>by
  simp only[onN,anyB];rw[on_has S hG q side hs o go f d (k+1) _ (by omega)]
  by_cases e:k=13
  ·rw[if_pos e,decide_eq_false (show ¬k≠13 from λz=>z e),Bool.false_and,Bool.false_or]
  ·rw[if_neg e,has_or,has_and,decide_eq_true e,Bool.true_and,Bool.or_assoc]
theorem mem_code (x:Int) (s k:Nat) (hs:s<2) (hk1:1<=k) (hk:k<=15) (h13:k≠13):memI x (16*s+k)=(decide (j6 x=k)&&decide (zg x=(s:Int))):=by
 unfold memI;obtain⟨c1,c2,_⟩:=jBK s k hs hk1 hk h13;rw[Bool.eq_iff_iff,Bool.and_eq_true,Bool.and_eq_true,Bool.or_eq_true,decide_eq_true_eq,decide_eq_true_eq,decide_eq_true_eq,decide_eq_true_eq,decide_eq_true_eq]
 constructor
 ·rintro⟨h0,h|h⟩
  ·subst h
   exact⟨c1,c2⟩
  ·obtain⟨_,_,h3⟩:=yo x h0
   exfalso
   omega
 ·rintro⟨h1,h2⟩
  refine⟨by omega,.inl ?_⟩
  have hs2:zg x=if x<16 then 0 else 1:=by unfold zg;rw[if_neg (by omega)]
  rw[hs2] at h2;unfold j6 at h1
  split at h2<;>split at h1<;>(try split at h1)<;>omega
theorem kindT_ne (x:Int):j6 x≠0->x≠0:=λh e=>h (by rw[e];rfl)
theorem king_go (cs:List Int) (hw:∀i,wrap64 (cs.getD i 0)=cs.getD i 0) (s:Nat) (hs:s<2) (k:Nat) (hk:yN s (cs.getD k 0)=true) (hu:∀q,q<81->yN s (cs.getD q 0)=true->q=k):∀d n,n<=k->k<n+d->n+d=81->zC.go cs (s:Int) n d=(k:Int)
 | 0,n,h1,h2,_=>absurd h2 (by omega)
 | d+1,n,h1,h2,h3=>by
  unfold zC.go;rw[hw n]
  have hiff:(cs.getD n 0=16*(s:Int)+8)↔yN s (cs.getD n 0)=true:=by
   rw[<- king_eq s hs,beq_iff_eq];omega
  by_cases e:yN s (cs.getD n 0)=true
  ·rw[if_pos (hiff.2 e),hu n (by omega) e]
  ·rw[if_neg λz=>e (hiff.1 z)]
   have hne:n≠k:=λz=>e (z ▸ hk);exact king_go cs hw s hs k hk hu d (n+1) (by omega) (by omega) (by omega)
theorem cntB_one (p:Nat->Int) (f:Int->Bool):∀d n,cntB p f n d=0->∀q,n<=q->q<n+d->f (p q)=false
 | 0,n,_,q,h1,h2=>absurd h2 (by omega)
 | d+1,n,h,q,h1,h2=>by
  have e:cntB p f n (d+1)=(if f (p n)=true then 1 else 0)+cntB p f (n+1) d:=rfl;rw[e] at h
  by_cases hq:q=n
  ·subst hq
   by_cases hf:f (p q)=true
   ·rw[if_pos hf] at h;omega
   ·exact Bool.eq_false_iff.2 hf
  ·exact cntB_one p f d (n+1) (by omega) q (by omega) (by omega)
theorem cntB_uni (p:Nat->Int) (f:Int->Bool):∀d n,cntB p f n d=1->∃k,n<=k/\k<n+d/\f (p k)=true/\∀q,n<=q->q<n+d->f (p q)=true->q=k
 | 0,n,h=>absurd h (by simp [cntB])
 | d+1,n,h=>by
  have e:cntB p f n (d+1)=(if f (p n)=true then 1 else 0)+cntB p f (n+1) d:=rfl;rw[e] at h
  by_cases hf:f (p n)=true
  ·rw[if_pos hf] at h
   have h0:=cntB_one p f d (n+1) (by omega);refine⟨n,Nat.le_refl _,by omega,hf,λq h1 h2 h3=>?_⟩
   by_cases hq:q=n
   ·exact hq
   ·rw[h0 q (by omega) (by omega)] at h3;exact absurd h3 (by decide)
  ·rw[if_neg hf] at h
   obtain⟨k,h1,h2,h3,h4⟩:=cntB_uni p f d (n+1) (by omega);refine⟨k,by omega,by omega,h3,λq g1 g2 g3=>?_⟩
   by_cases hq:q=n
   ·subst hq;exact absurd g3 hf
   ·exact h4 q (by omega) (by omega) g3
theorem first_one (k:Nat) (hk:k<81):jA8 (add (0,0) (k:Int))=(k:Int):=by
 have key:∀k:Fin 81,jA8 (add (0,0) (k.1:Int))=(k.1:Int):=by decide +kernel
 exact key ⟨k,hk⟩
theorem ref_go (cs:List Int) (side:Int) (k:Nat) (ts:List Bool):∀d n, zE.go cs side k ts n d=anyB (λn=>jBH (wrap64 (cs.getD n 0))==1-side&&reach (wrap64 (cs.getD n 0)) n k ts) n d
 | 0,_=>rfl
 | d+1,n=>by
  unfold zE.go;rw[ref_go cs side k ts d (n+1)];simp only[anyB]
  split
  ·rename_i h;rw[h];rfl
  ·rename_i h;rw[Bool.eq_false_iff.2 h];rfl
theorem incheck_nat (cs:List Int) (hp:∀i,(Lit.int .i8 (cs.getD i 0)).wf=true) (hb:jA7 cs=0) (s:Nat) (hs:s<2):zE.f cs (s:Int)=checkedT (yI cs) s:=by
 have hw:∀i,wrap64 (cs.getD i 0)=cs.getD i 0:=λi=>wrap_i8 (hp i);obtain⟨_,h2,h3,_,_,_⟩:=boardT0 hb
 have hking:nB cs (yN s)=1:=by
  unfold jBN at h3;rw[Bool.and_eq_true,decide_eq_true_eq,decide_eq_true_eq] at h3
  obtain rfl|rfl:s=0\/s=1:=by omega
  ·exact h3.1
  ·exact h3.2
 obtain⟨k,_,hk81,hk,hu⟩:=cntB_uni _ _ 81 0 hking;rw[Nat.zero_add] at hk81;have hu':∀q,q<81->yN s (cs.getD q 0)=true->q=k:=λq hq h=>hu q (Nat.zero_le _) (by omega) h;have hK:zC.f cs (s:Int)=(k:Int):=king_go cs hw s hs k hk hu' 81 0 (Nat.zero_le _) (by omega) rfl
 have hS:yI cs (16*s+8)=add (0,0) (k:Int):=ext_has (yi _ _ 81) (jBP _ _ good0) λq hq=>by
  unfold yI;rw[jBO _ _ q hq 81 (Nat.le_refl _),decide_eq_true hq,Bool.true_and,mem_code _ s 8 hs (by omega) (by omega) (by omega),has_add' _ _ _ (by omega) (by omega),has_zero,Bool.false_or];rw[Bool.eq_iff_iff,Bool.and_eq_true,decide_eq_true_eq,decide_eq_true_eq,decide_eq_true_eq]
  have hkk:yN s (cs.getD q 0)=true↔(j6 (cs.getD q 0)=8/\zg (cs.getD q 0)=(s:Int)):=by
   unfold yN;rw[Bool.and_eq_true,decide_eq_true_eq,decide_eq_true_eq]
  constructor
  ·intro h;exact hu' q hq (hkk.2 h)
  ·intro h;subst h;exact hkk.1 hk
 have hgo:Good (orP (yI cs 32) (yI cs 33)):=good_or (yi _ _ 81) (yi _ _ 81);unfold zE.f checkedT;rw[hK,hS,first_one k hk81,if_neg (by omega),if_neg (by omega),Int.toNat_natCast,ref_go]
 -- which squares are taken
 have hocc:∀j,j<81->(jb.f cs).getD j false=has (orP (yI cs 32) (yI cs 33)) j:=λj hj=>by
  unfold jb.f yI;rw[jb.get cs j hj 81,if_pos hj,has_or,jBO _ _ j hj 81 (Nat.le_refl _),jBO _ _ j hj 81 (Nat.le_refl _),decide_eq_true hj,Bool.true_and,Bool.true_and]
  have hbad:badX (cs.getD j 0)=false:=by
   unfold badB at h2;rw[Bool.or_eq_false_iff] at h2;exact jBA 81 0 h2.1 j (Nat.zero_le _) (by omega)
  unfold badX at hbad;unfold memI;rw[Bool.eq_iff_iff,bne_iff_ne,Bool.or_eq_true];simp only[Bool.and_eq_true,Bool.or_eq_true,decide_eq_true_eq,Bool.and_eq_false_iff,decide_eq_false_iff_not] at hbad ⊢
  constructor
  ·intro h0
   have hkn:j6 (cs.getD j 0)≠0:=by omega
   obtain⟨_,_,hsd⟩:=yo _ hkn
   rcases hsd with e|e
   ·exact .inl ⟨hkn,.inr (by omega)⟩
   ·exact .inr ⟨hkn,.inr (by omega)⟩
  ·rintro(⟨h,_⟩|⟨h,_⟩)
   ·exact kindT_ne _ h
   ·exact kindT_ne _ h
 have hP:∀j:Nat,j9.ok (jb.f cs) (j:Int)=!(has (orP (yI cs 32) (yI cs 33)) j)\/81<=j:=λj=>by
  by_cases hj:j<81
  ·left
   unfold j9.ok;rw[Int.toNat_natCast,hocc j hj]
  ·right;omega
 -- one square
 have hone:∀n,n<81->(jBH (wrap64 (cs.getD n 0))==1-(s:Int)&&reach (wrap64 (cs.getD n 0)) n k (jb.f cs))=has (onN (yI cs) (k:Int) (1-s) (orP (yI cs 32) (yI cs 33)) 1 15 (0,0)) n:=λn hn=>by
  rw[on_has (yI cs) (λi=>yi _ i 81) (k:Int) (1-s) (by omega) _ hgo n 15 1 _ (by omega),has_zero,Bool.false_or,hw n,jB1,show 1-(1-s)=s by omega];generalize hx:cs.getD n 0=x
  have hmem:∀kk,1<=kk->kk<=15->kk≠13->has (yI cs (16*(1-s)+kk)) n=(decide (j6 x=kk)&&decide (zg x=((1-s:Nat):Int))):=λkk g1 g2 g3=>by
   unfold yI;rw[jBO _ _ n hn 81 (Nat.le_refl _),decide_eq_true hn,Bool.true_and,hx,mem_code x (1-s) kk (by omega) g1 g2 g3]
  have hs1:(1:Int)-(s:Int)=((1-s:Nat):Int):=by omega
  rw[hs1]
  by_cases hside:zg x=((1-s:Nat):Int)
  ·have hk0:j6 x≠0:=λe=>by unfold zg at hside;rw[if_pos e] at hside;omega
   have hle:=jAM x
   have hreach:reach x n k (jb.f cs)=has (rayN (j6 x) (s:Int) (k:Int) (orP (yI cs 32) (yI cs 33))) n:=by
    have hr:(jB2 n k).all (j9.ok (jb.f cs))=(jB2 n k).all (λz=>!(has (orP (yI cs 32) (yI cs 33)) z.toNat)):=by
     have hbt:=(rbetw_is n k hn hk81).2.1;rw[Bool.eq_iff_iff,List.all_eq_true,List.all_eq_true]
     have hz:∀z ∈ jB2 n k,j9.ok (jb.f cs) z=!(has (orP (yI cs 32) (yI cs 33)) z.toNat):=λz hz=>by
      obtain⟨g1,g2⟩:=hbt z hz;unfold j9.ok;rw[hocc z.toNat (by omega)]
     exact⟨λg z hz'=>by rw[<- hz z hz'];exact g z hz',λg z hz'=>by rw[hz z hz'];exact g z hz'⟩
    unfold reach;rw[rstep_nat x n k hn hk81,hside,step_sym (j6 x) s n k hs hn hk81,ray_has (j6 x) s k _ hgo hle hs hk81 n hn,slide_all (j6 x) s k n _ (λz=>!(has (orP (yI cs 32) (yI cs 33)) z.toNat)) (λj=>by rw[Int.toNat_natCast]) hs hk81 hn,hr,jB1,jA0,hside]
    rfl
   rw[hreach,hside,beq_self_eq_true,Bool.true_and,Bool.eq_iff_iff,anyB_ex]
   constructor
   ·intro h
    refine⟨j6 x,by omega,by omega,?_⟩;rw[hmem (j6 x) (by omega) hle (kindT_13 x),decide_eq_true (kindT_13 x),h,decide_eq_true rfl,decide_eq_true hside];rfl
   ·rintro⟨kk,g1,g2,g3⟩
    rw[Bool.and_eq_true,decide_eq_true_eq,Bool.and_eq_true] at g3;obtain⟨g4,g5,g6⟩:=g3;rw[hmem kk g1 (by omega) g4,Bool.and_eq_true,decide_eq_true_eq] at g6;rw[g6.1];exact g5
  ·rw[show(zg x==((1-s:Nat):Int))=false from beq_eq_false_iff_ne.2 hside,Bool.false_and]
   symm
   rw[Bool.eq_false_iff];intro h;obtain⟨kk,g1,g2,g3⟩:=(anyB_ex 15 1).1 h;rw[Bool.and_eq_true,decide_eq_true_eq,Bool.and_eq_true] at g3;obtain⟨g4,_,g6⟩:=g3;rw[hmem kk g1 (by omega) g4,Bool.and_eq_true,decide_eq_true_eq,decide_eq_true_eq] at g6;exact hside g6.2
 have hgon:∀(d kk:Nat) (t:Nat×Nat),Good t->Good (onN (yI cs) (k:Int) (1-s) (orP (yI cs 32) (yI cs 33)) kk d t):=λd=>by
  induction d with
  | zero=>intro kk t ht;exact ht
  | succ d ih=>
   intro kk t ht;unfold onN;refine ih (kk+1) _ ?_
   split
   ·exact ht
   ·refine good_or ht ⟨Nat.lt_of_le_of_lt Nat.and_le_right (yi (λq=>cs.getD q 0) _ 81).1,Nat.lt_of_le_of_lt Nat.and_le_right (yi (λq=>cs.getD q 0) _ 81).2⟩
 rw[yr 81 0 λn _ hn=>hone n (by omega),Bool.eq_iff_iff,anyB_ex,Bool.not_eq_true',Bool.eq_false_iff];have hem:=empty_has _ (hgon 15 1 (0,0) good0)
 constructor
 ·rintro⟨n,_,hn,h⟩ he
  rw[hem.1 he n (by omega)] at h;exact absurd h (by decide)
 ·intro hne
  refine Classical.byContradiction λhno=>hne (hem.2 λq hq=>?_);rw[Bool.eq_false_iff];intro hq';exact hno ⟨q,Nat.zero_le _,by omega,hq'⟩
theorem refcheck_is (cs:List Int) (hp:∀i,(Lit.int .i8 (cs.getD i 0)).wf=true):zG.f cs=jAZ cs:=by
 unfold zG.f jAZ;rw[refboard_is cs hp]
 by_cases h:jA7 cs=0
 ·rw[if_pos h,if_pos h]
  have hside:=(boardT0 h).1
  have e:(1:Int)-cs.getD 97 0=((1-(cs.getD 97 0).toNat:Nat):Int):=by rcases hside with g|g<;>rw[g]<;>decide
  rw[e,incheck_nat cs hp h _ (by omega)]
 ·rw[if_neg h,if_neg h]
def okRN (x:Int):Bool:=decide (jU.f 40 x=some ⟨(nmL x).toArray⟩)
theorem rname_is (x:Int) (h:-128<=x/\x<=127):jU.f 40 x=some (yt x)/\yt x=mkB (nmL x)/\(yt x).size<=2:=by
 have hx:(Lit.int .i8 x).wf=true:=by
  have key:∀n:Fin 256,(Lit.int .i8 ((n.1:Int)-128)).wf=true:=by decide +kernel
  have:=key ⟨(x+128).toNat,by omega⟩;dsimp only at this
  rwa [show(((x+128).toNat:Nat):Int)-128=x by omega] at this
 have e:=all_i8 okRN (by decide +kernel) x hx;unfold okRN at e;rw[decide_eq_true_eq] at e
 have e2:yt x=mkB (nmL x):=by unfold yt;rw[e];rfl
 refine⟨by rw[e,e2];rfl,e2,?_⟩;rw[e2,zt];exact nmL_len x
theorem str_dig (u:Nat) (h:u<10):strOfNums [(wrap64 (48+(u:Int)))%256]=mkB [UInt8.ofNat (48+u)]:=by
 have key:∀u:Fin 10,strOfNums [(wrap64 (48+(u.1:Int)))%256]=mkB [UInt8.ofNat (48+u.1)]:=by decide +kernel
 exact key ⟨u,h⟩
theorem dig_l0:∀(k u:Nat) (s:List UInt8),u<10^(k+1)->u<100000->s.length+k<=1000->jg.l0 (k+1) (u:Int) (mkB s)=some (mkB (Lib.decDigits u++s))
 | k,u,s,hu,h5,hs=>by
  simp only[jg.l0]
  by_cases h:u<10
  ·rw[if_neg (by omega),Option.bind_some,str_dig u h,Lib.decDigits_one h,if_pos (by rw[zt,zt];simp;omega),yn]
  ·cases k with
   | zero=>exact absurd hu (by omega)
   | succ k=>
    have e1:Int.tmod (u:Int) 10=((u%10:Nat):Int):=by rw[Int.tmod_eq_emod_of_nonneg (by omega)];omega
    have e2:wrap64 (Int.tdiv (u:Int) 10)=((u/10:Nat):Int):=by
     rw[Int.tdiv_eq_ediv_of_nonneg (by omega)];unfold wrap64;omega
    rw[if_pos (by omega),e1,Option.bind_some,str_dig (u%10) (by omega),if_pos (by rw[zt,zt];simp;omega),yn]
    have hu2:u/10<10^(k+1):=by rw[Nat.pow_succ] at hu;omega
    rw[e2,dig_l0 k (u/10) _ hu2 (by omega) (by simp;omega)];rw[show Lib.decDigits u=Lib.decDigits (u/10)++[UInt8.ofNat (48+u%10)] by rw[Lib.decDigits,dif_neg h],List.append_assoc]
theorem rdig_is (n:Nat) (h:n<=9999):jg.f 20 (n:Int)=some (rdig n)/\rdig n=mkB (Lib.decDigits n)/\(rdig n).size<=4:=by
 have e:jg.f 20 (n:Int)=some (mkB (Lib.decDigits n)):=by
  have:=dig_l0 19 n [] (by omega) (by omega) (by simp);rw[List.append_nil] at this;exact this
 have e2:rdig n=mkB (Lib.decDigits n):=by unfold rdig;rw[e];rfl
 refine⟨by rw[e,e2],e2,?_⟩;rw[e2,zt];exact(dec_is 3 n (by omega)).2.1
theorem gap_is (fr:Nat) (h:fr<=9) (t:List UInt8):(if 0<fr then mkB t++rdig fr else mkB t)=mkB (t++gap fr):=by
 unfold gap
 by_cases h0:0<fr
 ·rw[if_pos h0,if_pos h0,(rdig_is fr (by omega)).2.1,Lib.decDigits_one (by omega),yn];rfl
 ·rw[if_neg h0,if_neg h0,List.append_nil]
theorem rrank_is (cs:List Int) (hp:∀i, (Lit.int .i8 (cs.getD i 0)).wf=true) (r:Nat):∀(d fr:Nat) (t:List UInt8), fr+d<=9->jx.go cs r d fr (mkB t)=mkB (t++rowT (λi=>cs.getD i 0) r d fr)
 | 0,fr,t,h=>by
  unfold jx.go rowT;exact gap_is fr (by omega) t
 | d+1,fr,t,h=>by
  unfold jx.go rowT;rw[wrap_i8 (hp (9*d+r))]
  by_cases hz:cs.getD (9*d+r) 0=0
  ·rw[if_pos hz,if_pos hz]
   exact rrank_is cs hp r d (fr+1) t (by omega)
  ·rw[if_neg hz,if_neg hz,gap_is fr (by omega) t,(rname_is _ (bounds_i8 (hp _))).2.1,yn,rrank_is cs hp r d 0 _ (by omega)]
   simp only[List.append_assoc]
theorem rrows_is (cs:List Int) (hp:∀i, (Lit.int .i8 (cs.getD i 0)).wf=true):∀(d r:Nat) (t:List UInt8), r+(d+1)=9->zA.rows cs r (d+1) (mkB t)=mkB (t++(if 0<r then[47] else[])++jAQ (λi=>cs.getD i 0) r (d+1))
 | d,r,t,h=>by
  have hstep:zA.rows cs r (d+1) (mkB t)=zA.rows cs (r+1) d (mkB (t++(if 0<r then[47] else[])++rowT (λi=>cs.getD i 0) r 9 0)):=by
   show zA.rows cs (r+1) d ((if 0<r then mkB t++⟨#[47]⟩ else mkB t)++jx.f cs r)=_
   have e1:jx.f cs r=mkB (rowT (λi=>cs.getD i 0) r 9 0):=by
    have:=rrank_is cs hp r 9 0 [] (by omega);rw[List.nil_append] at this;exact this
   have e2:(if 0<r then mkB t++⟨#[47]⟩ else mkB t)=mkB (t++(if 0<r then[47] else[])):=by
    by_cases h0:0<r
    ·rw[if_pos h0,if_pos h0];exact yn t [47]
    ·rw[if_neg h0,if_neg h0,List.append_nil]
   rw[e1,e2,yn]
  rw[hstep];have er:jAQ (λi=>cs.getD i 0) r (d+1)=rowT (λi=>cs.getD i 0) r 9 0++(if r<8 then[47] else[])++jAQ (λi=>cs.getD i 0) (r+1) d:=rfl;rw[er]
  cases d with
  | zero=>
   obtain rfl:r=8:=by omega
   show mkB _=mkB _;rw[if_neg (by omega:¬8<8)];show mkB _=mkB (_++(_++[]++[]));rw[List.append_nil,List.append_nil]
  | succ d=>
   rw[rrows_is cs hp d (r+1) _ (by omega),if_pos (by omega:0<r+1),if_pos (by omega:r<8)];simp only[List.append_assoc]
theorem rhand_in (cs:List Int) (hh:∀i, i<16->0<=cs.getD (81+i) 0/\cs.getD (81+i) 0<=18) (s:Nat) (hs:s<2):∀(d j:Nat) (t:List UInt8), j+d<=7->jR.inner cs s j d (mkB t)=mkB (t++yz (λi=>cs.getD i 0) s j d)
 | 0,j,t,_=>by
  show mkB t=mkB (t++[]);rw[List.append_nil]
 | d+1,j,t,h=>by
  have ha:jR.add cs s j (mkB t)=mkB (t++(if cs.getD (81+8*s+(7-j)) 0=0 then[] else num (cs.getD (81+8*s+(7-j)) 0)++nmL ((16*s+(7-j):Nat):Int))):=by
   unfold jR.add;have hv:=hh (8*s+(7-j)) (by omega);rw[show 81+(8*s+(7-j))=81+8*s+(7-j) by omega] at hv;have hk:rkey cs s j=cs.getD (81+8*s+(7-j)) 0:=rfl;rw[hk];generalize cs.getD (81+8*s+(7-j)) 0=v at hv ⊢
   obtain⟨n,rfl⟩:∃n:Nat,v=n:=⟨v.toNat,by omega⟩
   by_cases h0:0<(n:Int)
   ·have hz:¬((n:Int)=0):=by omega
    rw[if_pos h0,if_neg hz,(rname_is _ (by omega)).2.1];unfold num
    by_cases h1:1<(n:Int)
    ·rw[if_pos h1,if_pos h1,Int.toNat_natCast,(rdig_is n (by omega)).2.1,jBW (n:Int) (by omega) (by omega),Int.toNat_natCast,yn,yn,List.append_assoc]
    ·rw[if_neg h1,if_neg h1,yn,List.nil_append]
   ·have hz:(n:Int)=0:=by omega
    rw[if_neg h0,if_pos hz,List.append_nil]
  show jR.inner cs s (j+1) d (jR.add cs s j (mkB t))=_;rw[ha,rhand_in cs hh s hs d (j+1) _ (by omega)];have eh:yz (λi=>cs.getD i 0) s j (d+1)=(if cs.getD (81+8*s+(7-j)) 0=0 then[] else num (cs.getD (81+8*s+(7-j)) 0)++nmL ((16*s+(7-j):Nat):Int))++yz (λi=>cs.getD i 0) s (j+1) d:=rfl;rw[eh,List.append_assoc]
theorem rhand_is (cs:List Int) (hh:∀i,i<16->0<=cs.getD (81+i) 0/\cs.getD (81+i) 0<=18):jR.f cs=mkB (jAA (λi=>cs.getD i 0)):=by
 have e:jR.outer cs 0 2 ⟨#[]⟩=mkB (yz (λi=>cs.getD i 0) 0 0 7++yz (λi=>cs.getD i 0) 1 0 7):=by
  show jR.inner cs 1 0 7 (jR.inner cs 0 0 7 (mkB []))=_;rw[rhand_in cs hh 0 (by omega) 7 0 [] (by omega),rhand_in cs hh 1 (by omega) 7 0 _ (by omega),List.nil_append]
 unfold jR.f jAA;rw[e,jBE];have n0:=jB4 (λi=>cs.getD i 0) hh 0 (by omega) 7 0 rfl;have n1:=jB4 (λi=>cs.getD i 0) hh 1 (by omega) 7 0 rfl
 by_cases hz:(jAT (λi=>cs.getD i 0) 0 0 7&&jAT (λi=>cs.getD i 0) 1 0 7)=true
 ·have hz2:=hz
  rw[Bool.and_eq_true] at hz2;rw[if_pos hz,jB5 _ 0 7 0 hz2.1,jB5 _ 1 7 0 hz2.2,List.append_nil,if_pos rfl];rfl
 ·rw[if_neg hz,if_neg]
  intro hn;rw[List.append_eq_nil_iff] at hn;rw[Bool.and_eq_true] at hz
  by_cases z0:jAT (λi=>cs.getD i 0) 0 0 7=true
  ·by_cases z1:jAT (λi=>cs.getD i 0) 1 0 7=true
   ·exact hz ⟨z0,z1⟩
   ·exact n1.2 (Bool.eq_false_iff.2 z1) hn.2
  ·exact n0.2 (Bool.eq_false_iff.2 z0) hn.1
theorem rprint_is (a:List Int) (hp:∀i,(Lit.int .i8 (a.getD i 0)).wf=true) (n:Int):zA.f a n=mkB (printT a n):=by
 unfold zA.f printT;rw[refcheck_is a hp]
 by_cases h:jAZ a≠0\/n<1\/9999<n
 ·rw[if_pos h,if_pos h];rfl
 ·rw[if_neg h,if_neg h]
  have hc:jAZ a=0:=by
   by_cases e:jAZ a=0
   ·exact e
   ·exact absurd (.inl e) h
  have ho:=ok_of a hc
  obtain⟨m,rfl⟩:∃m:Nat,n=m:=⟨n.toNat,by omega⟩
  unfold zA.text textT jBR;have e0:=rrows_is a hp 8 0 [] rfl;rw[if_neg (by omega:¬0<0),List.nil_append,List.nil_append] at e0;rw[show(⟨#[]⟩:ByteArray)=mkB [] from rfl,e0,rhand_is a ho.hand,Int.toNat_natCast,(rdig_is m (by omega)).2.1,jBW (m:Int) (by omega) (by omega),Int.toNat_natCast]
  by_cases h1:a.getD 97 0=1
  ·rw[if_pos h1,if_pos h1,show(⟨#[32,119,32]⟩:ByteArray)=mkB [32,119,32] from rfl,show(⟨#[32]⟩:ByteArray)=mkB [32] from rfl,yn,yn,yn,yn]
   simp only[List.append_assoc,List.cons_append,List.nil_append]
  ·rw[if_neg h1,if_neg h1,show(⟨#[32,98,32]⟩:ByteArray)=mkB [32,98,32] from rfl,show(⟨#[32]⟩:ByteArray)=mkB [32] from rfl,yn,yn,yn,yn]
   simp only[List.append_assoc,List.cons_append,List.nil_append]
end Go.Proofs.YtigenhbmgpfffaaGreatDoor.Pl
