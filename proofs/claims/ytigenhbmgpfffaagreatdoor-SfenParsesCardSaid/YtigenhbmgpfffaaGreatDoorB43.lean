import Derived.Test.YtigenhbmgpfffaaGreatDoorB31
import Derived.Laws.Bits64b
import Derived.Laws.BitsAllLaws
import Derived.OpenShut
import Derived.Lib.AtoiTie
import Derived.Lib.Join
set_option linter.unusedVariables false
set_option linter.unusedSimpArgs false
namespace Go.Proofs.YtigenhbmgpfffaaGreatDoor.Pl
open Go.RowKit Go.Proofs.YtigenhbmgpfffaaGreatDoor.Pa Go.Proofs.YtigenhbmgpfffaaGreatDoorW.PrintWords Go.Proofs.YtigenhbmgpfffaaGreatDoorW.PrintLast Go.Proofs.YtigenhbmgpfffaaGreatDoorW.PrintMore
theorem all_i8 (P:Int->Bool) (h:(List.range 256).all (λn=>P ((n:Int)-128))=true) (a:Int) (ha:(Lit.int .i8 a).wf=true):P a=true:=by
 have hb:=bounds_i8 ha;have:=List.all_eq_true.1 h (a+128).toNat (List.mem_range.2 (by omega));rw[show(((a+128).toNat:Nat):Int)-128=a by omega] at this;exact this
def lo (q:Nat):Nat:=if q<63 then 2^q else 0
def hi (q:Nat):Nat:=if q<63 then 0 else 2^(q-63)
def add (s:Nat×Nat) (q:Int):Nat×Nat:=if 0<=q/\q<=80 then(s.1|||lo q.toNat,s.2|||hi q.toNat) else s
def has (s:Nat×Nat) (q:Nat):Bool:=if q<63 then s.1.testBit q else s.2.testBit (q-63)
def Good (s:Nat×Nat):Prop:=s.1<2^63/\s.2<2^18
theorem good0:Good (0,0):=by unfold Good;decide
theorem lo_lt (q:Nat):lo q<2^63:=by
 unfold lo;split
 ·exact Nat.pow_lt_pow_right (by omega) (by assumption)
 ·decide
theorem hi_lt (q:Nat) (h:q<=80):hi q<2^18:=by
 unfold hi;split
 ·decide
 ·exact Nat.pow_lt_pow_right (by omega) (by omega)
theorem jBP (s:Nat×Nat) (q:Int) (h:Good s):Good (add s q):=by
 unfold add;split
 ·exact⟨Nat.or_lt_two_pow h.1 (lo_lt _),Nat.or_lt_two_pow h.2 (hi_lt _ (by omega))⟩
 ·exact h
theorem shl_one (q:Nat) (h:q<64):shl .u64 1 (q:Int)=((2^q:Nat):Int):=by
 have hp:∀q,q<64->(IntKind.u64.wrap (1*2^min ((q:Nat):Int).toNat IntKind.u64.bits))=((2^q:Nat):Int):=by decide +kernel
 exact hp q h
theorem bit_in (k q:Nat) (h:q<=80):zY.f (k+1) (q:Int)=some (((lo q:Nat):Int),((hi q:Nat):Int)):=by
 unfold zY.f;rw[if_neg (by omega),show(decide ((q:Int)>=81))=false from decide_eq_false (by omega)];simp only[zY.j0];rw[if_neg (by decide)];unfold lo hi
 by_cases h63:q<63
 ·rw[if_pos (by omega),if_pos (by omega),shl_one q (by omega),if_pos h63,if_pos h63];rfl
 ·have e:wrap64 ((q:Int)-63)=((q-63:Nat):Int):=by unfold wrap64;omega
  rw[if_neg (by omega),e,if_pos (by omega),shl_one (q-63) (by omega),if_neg h63,if_neg h63];rfl
theorem bit_no (k:Nat) (q:Int) (h:q<0\/80<q):zY.f (k+1) q=some (0,0):=by
 unfold zY.f
 have hj:zY.j0 (k+1) q true=some (0,0):=by simp only[zY.j0];rw[if_pos trivial]
 by_cases a:q<0
 ·rw[if_pos a,hj]
 ·rw[if_neg a,show(decide (q>=81))=true from decide_eq_true (by omega),hj]
theorem p64 {n:Nat} (h:n<2^63):n<18446744073709551616:=Nat.lt_trans h (by decide)
theorem q64 {n:Nat} (h:n<2^18):n<18446744073709551616:=Nat.lt_trans h (by decide)
theorem with_is (k:Nat) (s:Nat×Nat) (q:Int) (h:Good s):jz.f (k+1) (s.1:Int) (s.2:Int) q=some (((add s q).1:Int),((add s q).2:Int)):=by
 unfold jz.f
 by_cases hq:0<=q/\q<=80
 ·obtain⟨n,rfl⟩:∃n:Nat,q=n:=⟨q.toNat,by omega⟩
  rw[bit_in k n (by omega)];simp only[Option.bind_some,zj.f];unfold add;rw[if_pos hq,bits_or_u64_nat _ _ (p64 h.1) (p64 (lo_lt n)),bits_or_u64_nat _ _ (q64 h.2) (q64 (hi_lt n (by omega)))]
  rfl
 ·rw[bit_no k q (by omega)]
  simp only[Option.bind_some,zj.f];unfold add;rw[if_neg hq,show(0:Int)=((0:Nat):Int) from rfl,bits_or_u64_nat _ _ (p64 h.1) (by decide),bits_or_u64_nat _ _ (q64 h.2) (by decide),Nat.or_zero,Nat.or_zero]
theorem and_pow (a q:Nat):(a&&&2^q==0)=!a.testBit q:=by
 cases h:a.testBit q
 ·have:a&&&2^q=0:=Nat.eq_of_testBit_eq λi=>by
   rw[Nat.testBit_and,Nat.testBit_two_pow,Nat.zero_testBit]
   by_cases e:q=i
   ·rw[<- e,h];rfl
   ·rw[decide_eq_false e,Bool.and_false]
  rw[this];rfl
 ·rw[Bool.not_true,beq_eq_false_iff_ne]
  intro h0;have:=congrArg (λn=>Nat.testBit n q) h0
  simp [Nat.testBit_and,Nat.testBit_two_pow_self,h] at this
theorem has_is (k:Nat) (s:Nat×Nat) (q:Nat) (h:Good s) (hq:q<=80):zy.f (k+1) (s.1:Int) (s.2:Int) (q:Int)=some (has s q):=by
 unfold zy.f;rw[bit_in k q hq];simp only[Option.bind_some,z6.f,yF.f];rw[bits_and_u64_nat _ _ (p64 h.1) (p64 (lo_lt q)),bits_and_u64_nat _ _ (q64 h.2) (q64 (hi_lt q hq))];unfold has lo hi
 have c:∀n:Nat,((n:Int)==0)=(n==0):=λn=>by rw[Bool.eq_iff_iff,beq_iff_eq,beq_iff_eq];omega
 by_cases h63:q<63
 ·rw[if_pos h63,if_pos h63,if_pos h63,Nat.and_zero,c,and_pow]
  simp
 ·rw[if_neg h63,if_neg h63,if_neg h63,Nat.and_zero,c,c,and_pow]
  simp
theorem has_no (k:Nat) (s:Nat×Nat) (q:Int) (h:Good s) (hq:q<0\/80<q):zy.f (k+1) (s.1:Int) (s.2:Int) q=some false:=by
 unfold zy.f;rw[bit_no k q hq];simp only[Option.bind_some,z6.f,yF.f];rw[show(0:Int)=((0:Nat):Int) from rfl,bits_and_u64_nat _ _ (p64 h.1) (by decide),bits_and_u64_nat _ _ (q64 h.2) (by decide),Nat.and_zero,Nat.and_zero]
 rfl
def jAR (dx dy q:Int):Int:=if(0<=q/\q<=80/\-8<=dx/\dx<=8/\-8<=dy/\dy<=8)/\0<=q/9+dx/\q/9+dx<=8/\0<=q%9+dy/\q%9+dy<=8 then 9*(q/9+dx)+(q%9+dy) else -1
theorem from_is (dx dy q:Int):zm.f dx dy q=some (jAR dx dy q):=by
 unfold zm.f jAR
 by_cases h1:q<0
 ·rw[if_pos h1,if_neg (by omega)]
 rw[if_neg h1]
 by_cases h2:q>=81
 ·rw[if_pos h2,if_neg (by omega)]
 rw[if_neg h2]
 by_cases h3:dx < -8
 ·rw[if_pos h3,if_neg (by omega)]
 rw[if_neg h3]
 by_cases h4:dx>8
 ·rw[if_pos h4,if_neg (by omega)]
 rw[if_neg h4]
 by_cases h5:dy < -8
 ·rw[if_pos h5,if_neg (by omega)]
 rw[if_neg h5]
 by_cases h6:dy>8
 ·rw[if_pos h6,if_neg (by omega)]
 rw[if_neg h6];unfold zM.f
 by_cases g1:q/9+dx<0
 ·rw[if_pos g1,if_neg (by omega)]
 rw[if_neg g1]
 by_cases g2:q/9+dx>8
 ·rw[if_pos g2,if_neg (by omega)]
 rw[if_neg g2]
 by_cases g3:q%9+dy<0
 ·rw[if_pos g3,if_neg (by omega)]
 rw[if_neg g3]
 by_cases g4:q%9+dy>8
 ·rw[if_pos g4,if_neg (by omega)]
 rw[if_neg g4,if_pos ⟨⟨by omega,by omega,by omega,by omega,by omega,by omega⟩,by omega,by omega,by omega,by omega⟩]
 have e1:wrap64 (9*(q/9+dx))=9*(q/9+dx):=by unfold wrap64;omega
 rw[e1]
 have e2:wrap64 (9*(q/9+dx)+(q%9+dy))=9*(q/9+dx)+(q%9+dy):=by unfold wrap64;omega
 rw[e2]
def jAC (side:Int) (d:S158):Int×Int:=if side=1 then(-d.f0,-d.f1) else(d.f0,d.f1)
def jBB (side q:Int):List S158->Nat×Nat->Nat×Nat
 | [],s=>s
 | d::l,s=>jBB side q l (add s (jAR (jAC side d).1 (jAC side d).2 q))
theorem fold_nil (side q:Int) (s:Nat×Nat):jBB side q [] s=s:=rfl
theorem fold_cons (side q:Int) (d:S158) (l:List S158) (s:Nat×Nat):jBB side q (d::l) s=jBB side q l (add s (jAR (jAC side d).1 (jAC side d).2 q)):=rfl
theorem good_fold (side q:Int) (l:List S158):∀s,Good s->Good (jBB side q l s):=by
 induction l with
 | nil=>intro s h;exact h
 | cons d l ih=>intro s h;exact ih _ (jBP s _ h)
def small (l:List S158):Bool:=l.all λd=>decide (-8<=d.f0)&&decide (d.f0<=8)&&decide (-8<=d.f1)&&decide (d.f1<=8)
theorem fold_is (p q side:Int) (kk:Nat) (hside:∀k,kk<=k->jv.f k p=some side) (L:List S158) (hL:L.length<=20) (hs:small L=true):∀(d k i:Nat) (s:Nat×Nat),i<=L.length->L.length-i=d->d+kk+5<k->Good s ->
  zT.l0 k p q L (L.length:Int) (i:Int) (s.1:Int) (s.2:Int)=some (((jBB side q (L.drop i) s).1:Int),((jBB side q (L.drop i) s).2:Int)):=by
 intro d
 induction d with
 | zero=>
  intro k i s h1 h2 hk hg
  obtain⟨k,rfl⟩:∃m,k=m+1:=⟨k-1,by omega⟩
  simp only[zT.l0];rw[if_neg (by omega),List.drop_eq_nil_of_le (by omega),fold_nil]
 | succ d ih=>
  intro k i s h1 h2 hk hg
  obtain⟨k,rfl⟩:∃m,k=m+1:=⟨k-1,by omega⟩
  have hi:i<L.length:=by omega
  have hrd:j8 L (i:Int)=L[i]:=by
   unfold j8;rw[Int.toNat_natCast,List.getD_eq_getElem?_getD,List.getElem?_eq_getElem hi];rfl
  have hb:=List.all_eq_true.1 hs L[i] (List.getElem_mem hi);simp only[Bool.and_eq_true,decide_eq_true_eq] at hb
  have ht:yK.f (L[i]).f0 (L[i]).f1 side=some (jAC side L[i]):=by
   unfold yK.f jAC
   by_cases h:side=1
   ·rw[if_pos h,if_pos h,show wrap64 (-(L[i]).f0) = -(L[i]).f0 by unfold wrap64;omega,show wrap64 (-(L[i]).f1) = -(L[i]).f1 by unfold wrap64;omega]
   ·rw[if_neg h,if_neg h]
  simp only[zT.l0]
  obtain⟨k',rfl⟩:∃m,k=m+1:=⟨k-1,by omega⟩
  rw[if_pos (by omega),if_pos (by omega),if_pos (by omega),hside (k'+1) (by omega)];simp only[Option.bind_some];rw[hrd,ht];simp only[Option.bind_some];rw[from_is];simp only[Option.bind_some]
  have hw:wrap64 ((i:Int)+1)=((i+1:Nat):Int):=by clear ih hside ht hrd hb hs;unfold wrap64;omega
  have hz:=ih (k'+1) (i+1) (add s (jAR (jAC side L[i]).1 (jAC side L[i]).2 q)) (by omega) (by omega) (by omega) (jBP s _ hg);rw[with_is k' s _ hg,Option.bind_some];dsimp only;rw[hw,hz,List.drop_eq_getElem_cons hi,fold_cons]
def j6 (p:Int):Nat:=if 1<=p/\p<=15/\p≠13 then p.toNat else if 17<=p/\p<=31/\p≠29 then p.toNat-16 else 0
def zg (p:Int):Int:=if j6 p=0 then -1 else if p<16 then 0 else 1
theorem jAM (p:Int):j6 p<=15:=by
 unfold j6;repeat' split
 all_goals omega
def okPiece (p:Int):Bool:=jS.f 5 p==some ((j6 p:Nat):Int)&&jv.f 5 p==some (zg p)
theorem jAS (p:Int) (hp:(Lit.int .i8 p).wf=true):(∀k,5<=k->jS.f k p=some ((j6 p:Nat):Int))/\(∀k,5<=k->jv.f k p=some (zg p)):=by
 have h:=all_i8 okPiece (by decide +kernel) p hp;unfold okPiece at h;rw[Bool.and_eq_true,beq_iff_eq,beq_iff_eq] at h;exact⟨λk hk=>at_rounds (g:=λk=>jS.f k p) (λk=>jS.mono p k) hk h.1,λk hk=>at_rounds (g:=λk=>jv.f k p) (λk=>jv.mono p k) hk h.2⟩
def dirsT (kind:Nat):List S158:=
 match kind with
 | 1=>[⟨0,-1⟩]
 | 3=>[⟨-1,-2⟩,⟨1,-2⟩]
 | 4=>[⟨-1,-1⟩,⟨0,-1⟩,⟨1,-1⟩,⟨-1,1⟩,⟨1,1⟩]
 | 5|9|10|11|12=>[⟨-1,-1⟩,⟨0,-1⟩,⟨1,-1⟩,⟨-1,0⟩,⟨1,0⟩,⟨0,1⟩]
 | 8=>[⟨-1,-1⟩,⟨0,-1⟩,⟨1,-1⟩,⟨-1,0⟩,⟨1,0⟩,⟨0,1⟩,⟨-1,1⟩,⟨1,1⟩]
 | 14=>[⟨0,-1⟩,⟨-1,0⟩,⟨1,0⟩,⟨0,1⟩]
 | 15=>[⟨-1,-1⟩,⟨1,-1⟩,⟨-1,1⟩,⟨1,1⟩]
 | _=>[]
theorem dirs_is (kind:Nat) (h:kind<=15) (k:Nat) (hk:10<=k):zF.f k (kind:Int)=some (dirsT kind):=by
 refine at_rounds (g:=λk=>zF.f k (kind:Int)) (λk=>zF.mono _ k) hk ?_
 obtain rfl|rfl|rfl|rfl|rfl|rfl|rfl|rfl|rfl|rfl|rfl|rfl|rfl|rfl|rfl|rfl:kind=0\/kind=1\/kind=2\/kind=3\/kind=4\/kind=5\/kind=6\/kind=7\/kind=8\/kind=9\/kind=10\/kind=11\/kind=12\/kind=13\/kind=14\/kind=15:=by omega
 all_goals kernel_rfl
theorem dirs_small (kind:Nat) (h:kind<=15):(dirsT kind).length<=20/\small (dirsT kind)=true:=by
 obtain rfl|rfl|rfl|rfl|rfl|rfl|rfl|rfl|rfl|rfl|rfl|rfl|rfl|rfl|rfl|rfl:kind=0\/kind=1\/kind=2\/kind=3\/kind=4\/kind=5\/kind=6\/kind=7\/kind=8\/kind=9\/kind=10\/kind=11\/kind=12\/kind=13\/kind=14\/kind=15:=by omega
 all_goals exact⟨by decide,by decide⟩
def stepN (kind:Nat) (side q:Int):Nat×Nat:=jBB side q (dirsT kind) (0,0)
theorem good_step (kind:Nat) (side q:Int):Good (stepN kind side q):=good_fold _ _ _ _ good0
theorem step_is (p q:Int) (hp:(Lit.int .i8 p).wf=true) (k:Nat) (hk:60<=k):zT.f k p q=some (((stepN (j6 p) (zg p) q).1:Int),((stepN (j6 p) (zg p) q).2:Int)):=by
 obtain⟨h1,h2⟩:=jAS p hp;obtain⟨d1,d2⟩:=dirs_small (j6 p) (jAM p);unfold zT.f;rw[h1 k (by omega)];simp only[Option.bind_some];rw[dirs_is (j6 p) (jAM p) k (by omega)];simp only[Option.bind_some];have:=fold_is p q (zg p) 5 h2 (dirsT (j6 p)) d1 d2 (dirsT (j6 p)).length k 0 (0,0) (by omega) (by omega) (by omega) good0;rw[List.drop_zero] at this;exact this
def memI (x:Int) (i:Nat):Bool:=decide (j6 x≠0)&&(decide (x=(i:Int))||decide (zg x+32=(i:Int)))
def bset (p:Nat->Int) (i:Nat):Nat->Nat×Nat
 | 0=>(0,0)
 | n+1=>if memI (p n) i=true then add (bset p i n) (n:Int) else bset p i n
theorem yi (p:Nat->Int) (i:Nat):∀n,Good (bset p i n)
 | 0=>good0
 | n+1=>by
  unfold bset
  split
  ·exact jBP _ _ (yi p i n)
  ·exact yi p i n
structure Rep (us:List Int) (S:Nat->Nat×Nat):Prop where
 len:us.length=68
 get:∀i,i<34->bget us i=(((S i).1:Int),((S i).2:Int))
theorem jAW (us:List Int) (i:Nat) (r:Int×Int):(bput us i r).length=us.length:=by simp [bput]
theorem bget_bput (us:List Int) (i j:Nat) (r:Int×Int) (hl:us.length=68) (hi:i<34) (hj:j<34):bget (bput us i r) j=if j=i then r else bget us j:=by
 unfold bget bput
 by_cases h:j=i
 ·subst h
  rw[if_pos rfl];simp only[List.getD_eq_getElem?_getD,List.getElem?_set,List.length_set,hl];simp only[if_true,if_pos (show 2*j<68 by omega),if_pos (show 2*j+1<68 by omega),if_neg (show ¬2*j+1=2*j by omega)]
  rfl
 ·rw[if_neg h]
  simp only[List.getD_eq_getElem?_getD,List.getElem?_set,List.length_set,hl];rw[if_neg (by omega),if_neg (by omega),if_neg (by omega),if_neg (by omega)]
theorem yo (x:Int) (h:j6 x≠0):0<x/\x<32/\(zg x=0\/zg x=1):=by
 have hs:zg x=if x<16 then 0 else 1:=by unfold zg;rw[if_neg h]
 refine⟨?_,?_,?_⟩
 ·unfold j6 at h
  split at h
  ·omega
  ·split at h
   ·omega
   ·omega
 ·unfold j6 at h
  split at h
  ·omega
  ·split at h
   ·omega
   ·omega
 ·rw[hs];split
  ·exact .inl rfl
  ·exact .inr rfl
theorem upd_with (n:Nat) (x:Int) (U:List Int) (S:Nat->Nat×Nat) (hR:Rep U S) (hG:∀i,Good (S i)) (hx:(Lit.int .i8 x).wf=true) (hk:j6 x≠0):
  ∃U',zf.upd (jz.f 9) (n:Int) x U=some U'/\Rep U' (λi=>if memI x i=true then add (S i) (n:Int) else S i):=by
 obtain⟨h0,h1,hs⟩:=yo x hk
 obtain⟨m,rfl⟩:∃m:Nat,x=m:=⟨x.toNat,by omega⟩
 have hm:m<32:=by omega
 obtain⟨s,hsd⟩:∃s:Nat,zg (m:Int)=s:=by
  rcases hs with h|h
  ·exact⟨0,h⟩
  ·exact⟨1,h⟩
 have hs2:s<2:=by omega
 have e1:=with_is 8 (S m) (n:Int) (hG m);have e2:=with_is 8 (S (32+s)) (n:Int) (hG _);have hR1:=hR.get m (by omega);have hR2:=hR.get (32+s) (by omega);unfold zf.upd;rw[if_pos ⟨h0,h1⟩,Int.toNat_natCast,hR1];dsimp only;rw[e1,Option.bind_some,(jAS (m:Int) hx).2 9 (by omega),Option.bind_some,hsd,if_pos (by omega),Int.toNat_natCast,bget_bput U m (32+s) _ hR.len (by omega) (by omega),if_neg (by omega),hR2];dsimp only;rw[e2,Option.bind_some];refine⟨_,rfl,by rw[jAW,jAW,hR.len],λi hi=>?_⟩;rw[bget_bput _ _ _ _ (by rw[jAW,hR.len]) (by omega) hi,bget_bput _ _ _ _ hR.len (by omega) hi]
 have hmem:memI (m:Int) i=true↔(i=m\/i=32+s):=by
  unfold memI;rw[hsd,Bool.and_eq_true,Bool.or_eq_true,decide_eq_true_eq,decide_eq_true_eq,decide_eq_true_eq]
  constructor
  ·rintro⟨_,h|h⟩
   ·left;omega
   ·right;omega
  ·rintro(h|h)
   ·exact⟨hk,.inl (by omega)⟩
   ·exact⟨hk,.inr (by omega)⟩
 by_cases a:i=32+s
 ·rw[if_pos a,if_pos (hmem.2 (.inr a)),a]
 ·rw[if_neg a]
  by_cases b:i=m
  ·rw[if_pos b,if_pos (hmem.2 (.inl b)),b]
  ·rw[if_neg b,if_neg (λh=>(hmem.1 h).elim b a),hR.get i hi]
theorem wf0:(Lit.int .i8 0).wf=true:=by decide
theorem kind0:j6 0=0:=by decide
theorem put_step (p:Nat->Int) (n:Nat) (C U:List Int) (hp:(Lit.int .i8 (p n)).wf=true) (hC:C.getD n 0=0) (hR:Rep U (λi=>bset p i n)):
  ∃U',zf.f n (p n) C U=some (C.set n (if j6 (p n)=0 then 0 else p n),U')/\Rep U' (λi=>bset p i (n+1)):=by
 unfold zf.f;rw[if_pos hC,Option.bind_some,(jAS (p n) hp).1 9 (by omega),Option.bind_some]
 by_cases hk:j6 (p n)=0
 ·rw[if_pos (by omega:((j6 (p n):Nat):Int)=0),if_pos rfl,Option.bind_some,if_pos hk]
  refine⟨U,rfl,hR.len,λi hi=>?_⟩;rw[hR.get i hi]
  have:memI (p n) i=false:=by unfold memI;rw[decide_eq_false (by simp [hk]),Bool.false_and]
  simp only[bset];rw[if_neg (by rw[this];decide)]
 ·obtain⟨h0,h1,_⟩:=yo _ hk
  rw[if_neg (by omega:¬((j6 (p n):Nat):Int)=0),if_neg (by omega),if_neg hk];obtain⟨U',hU,hR'⟩:=upd_with n (p n) U _ hR (λi=>yi p i n) hp hk;rw[hU,Option.bind_some];exact⟨U',rfl,hR'⟩
theorem new_go (cs:List Int) (hp:∀i,(Lit.int .i8 (cs.getD i 0)).wf=true):∀(d n:Nat) (C U:List Int),n+d=81->C.length=98->(∀q,n<=q->q<81->C.getD q 0=0)->Rep U (λi=>bset (λq=>cs.getD q 0) i n) ->
  ∃C' U',jj.go cs n d C U=some (C',U')/\Rep U' (λi=>bset (λq=>cs.getD q 0) i 81)
 | 0,n,C,U,h,_,_,hR=>by
  obtain rfl:n=81:=by omega
  exact⟨C,U,rfl,hR⟩
 | d+1,n,C,U,h,hl,hz,hR=>by
  obtain⟨U',hU,hR'⟩:=put_step (λq=>cs.getD q 0) n C U (hp n) (hz n (Nat.le_refl _) (by omega)) hR;simp only[jj.go];rw[hU,Option.bind_some];refine new_go cs hp d (n+1) _ U' (by omega) (by rw[List.length_set,hl]) (λq h1 h2=>?_) hR';rw[List.getD_eq_getElem?_getD,List.getElem?_set,if_neg (by omega),<- List.getD_eq_getElem?_getD];exact hz q (by omega) h2
theorem c0_zero (cs:List Int) (q:Nat) (hq:q<81):(jj.c0 cs).getD q 0=0:=by
 unfold jj.c0
 have e:jj.zc.take 81=List.replicate 81 0:=by decide +kernel
 rw[e,List.getD_eq_getElem?_getD,List.getElem?_set,if_neg (by omega),List.append_assoc,List.getElem?_append_left (by simpa using hq),List.getElem?_replicate,if_pos hq]
 rfl
theorem c0_length (cs:List Int) (hl:cs.length=98):(jj.c0 cs).length=98:=by simp [jj.c0,jj.zc,hl]
theorem zu_rep (p:Nat->Int):Rep jj.zu (λi=>bset p i 0):=⟨by decide,λi hi=>by
 have h:∀i:Fin 34,bget jj.zu i.1=(0,0):=by decide +kernel
 rw[h ⟨i,hi⟩];rfl⟩
theorem new_is (cs:List Int) (hl:cs.length=98) (hp:∀i,(Lit.int .i8 (cs.getD i 0)).wf=true):∃C U,jj.f cs=some (C,U)/\Rep U (λi=>bset (λq=>cs.getD q 0) i 81):=
 new_go cs hp 81 0 _ _ rfl (c0_length cs hl) (λq _ h=>c0_zero cs q h) (zu_rep _)
theorem has_add' (s:Nat×Nat) (q:Nat) (j:Nat) (hj:j<=80) (hq:q<=80):has (add s (q:Int)) j=(has s j||decide (j=q)):=by
 have e:add s (q:Int)=(s.1|||lo q,s.2|||hi q):=by unfold add;rw[if_pos ⟨by omega,by omega⟩,Int.toNat_natCast]
 rw[e];unfold has lo hi
 by_cases a:j<63
 ·rw[if_pos a,if_pos a]
  by_cases b:q<63
  ·rw[if_pos b]
   simp only[Nat.testBit_or,Nat.testBit_two_pow];rw[decide_eq_decide.2 (show q=j↔j=q from eq_comm)]
  ·rw[if_neg b]
   simp only[Nat.or_zero];rw[decide_eq_false (by omega),Bool.or_false]
 ·rw[if_neg a,if_neg a]
  by_cases b:q<63
  ·simp only[if_pos b,Nat.or_zero]
   rw[decide_eq_false (by omega),Bool.or_false]
  ·simp only[if_neg b,Nat.testBit_or,Nat.testBit_two_pow]
   congr 1
   rw[decide_eq_decide];omega
theorem jBO (p:Nat->Int) (i q:Nat) (hq:q<81):∀n,n<=81->has (bset p i n) q=(decide (q<n)&&memI (p q) i)
 | 0,_=>by
  rw[decide_eq_false (by omega),Bool.false_and];unfold has bset
  split<;>simp
 | n+1,h=>by
  unfold bset
  by_cases hm:memI (p n) i=true
  ·rw[if_pos hm,has_add' _ n q (by omega) (by omega),jBO p i q hq n (by omega)]
   by_cases e:q=n
   ·subst e
    rw[decide_eq_true (rfl:q=q),Bool.or_true,decide_eq_true (by omega),hm];rfl
   ·rw[decide_eq_false e,Bool.or_false]
    congr 1
    rw[decide_eq_decide];omega
  ·rw[if_neg hm,jBO p i q hq n (by omega)]
   by_cases e:q=n
   ·subst e
    rw[Bool.eq_false_iff.2 hm,Bool.and_false,Bool.and_false]
   ·congr 1
    rw[decide_eq_decide];omega
def rawT (k:Nat):Nat:=if 8<k then k-8 else k
def cntB (p:Nat->Int) (f:Int->Bool):Nat->Nat->Nat
 | _,0=>0
 | n,d+1=>(if f (p n)=true then 1 else 0)+cntB p f (n+1) d
def badX (x:Int):Bool:=decide (x≠0)&&decide (j6 x=0)
def anyB (f:Nat->Bool):Nat->Nat->Bool
 | _,0=>false
 | n,d+1=>f n||anyB f (n+1) d
def zx (r:Nat) (x:Int):Bool:=decide (j6 x≠0)&&decide (rawT (j6 x)=r)
def yN (s:Nat) (x:Int):Bool:=decide (j6 x=8)&&decide (zg x=(s:Int))
theorem raw_is (k:Nat) (h0:k≠0) (h:k<=15) (h13:k≠13):yX.f (k:Int)=some ((rawT k:Nat):Int):=by
 have:∀k:Fin 16,k.1≠0->k.1≠13->yX.f (k.1:Int)=some ((rawT k.1:Nat):Int):=by decide +kernel
 exact this ⟨k,by omega⟩ h0 h13
theorem kindT_13 (x:Int):j6 x≠13:=by unfold j6;split<;>(try split)<;>omega
theorem rawT_lt (k:Nat) (h:k<=15):rawT k<9:=by unfold rawT;split<;>omega
theorem jAU (l:List Int) (i j:Nat) (v:Int) (hi:i<l.length):(l.set i v).getD j 0=if j=i then v else l.getD j 0:=by
 rw[List.getD_eq_getElem?_getD,List.getElem?_set]
 by_cases h:j=i
 ·subst h;rw[if_pos rfl,if_pos hi,if_pos rfl];rfl
 ·rw[if_neg (λe=>h e.symm),if_neg h,List.getD_eq_getElem?_getD]
theorem sq_is (cs:List Int) (hp:∀i,(Lit.int .i8 (cs.getD i 0)).wf=true):∀(d n:Nat) (ct ks:List Int),n+d=81->ct.length=9->ks.length=2->(∀r,0<=ct.getD r 0/\ct.getD r 0<=n)->(∀s,0<=ks.getD s 0/\ks.getD s 0<=n) ->
  (anyB (λq=>badX (cs.getD q 0)) n d=true/\je.sq cs n d ct ks=some none) \/
  (anyB (λq=>badX (cs.getD q 0)) n d=false/\∃ct' ks',je.sq cs n d ct ks=some (some (ct',ks'))/\ct'.length=9/\ks'.length=2 /\
   (∀r,r<9->ct'.getD r 0=ct.getD r 0+(cntB (λq=>cs.getD q 0) (zx r) n d:Int))/\∀s,s<2->ks'.getD s 0=ks.getD s 0+(cntB (λq=>cs.getD q 0) (yN s) n d:Int))
 | 0,n,ct,ks,h,h1,h2,_,_=>.inr ⟨rfl,ct,ks,rfl,h1,h2,λr _=>by simp [cntB],λs _=>by simp [cntB]⟩
 | d+1,n,ct,ks,h,h1,h2,b1,b2=>by
  have hx:=hp n
  obtain⟨x,hxe⟩:∃x,cs.getD n 0=x:=⟨_,rfl⟩
  rw[hxe] at hx;have hK:=(jAS x hx).1 9 (by omega);have hS:=(jAS x hx).2 9 (by omega);simp only[je.sq,anyB,cntB];simp only[hxe];rw[hK,Option.bind_some]
  have mono:∀r,0<=ct.getD r 0/\ct.getD r 0<=((n+1:Nat):Int):=λr=>⟨(b1 r).1,by have:=(b1 r).2;omega⟩
  have mono2:∀r,0<=ks.getD r 0/\ks.getD r 0<=((n+1:Nat):Int):=λr=>⟨(b2 r).1,by have:=(b2 r).2;omega⟩
  by_cases hx0:x=0
  ·have hb:badX x=false:=by unfold badX;rw[decide_eq_false (by simpa using hx0)];rfl
   have hr:∀r,zx r x=false:=λr=>by unfold zx;rw[hx0,kind0];rfl
   have hk:∀r,yN r x=false:=λr=>by unfold yN;rw[hx0,kind0];rfl
   rw[if_pos hx0,hb,Bool.false_or]
   rcases sq_is cs hp d (n+1) ct ks (by omega) h1 h2 mono mono2 with⟨e1,e2⟩|⟨e1,ct',ks',e2,e3,e4,e5,e6⟩
   ·exact .inl ⟨e1,e2⟩
   ·refine .inr ⟨e1,ct',ks',e2,e3,e4,λr hr9=>?_,λs hs=>?_⟩
    ·rw[e5 r hr9,hr r,if_neg (by decide)];omega
    ·rw[e6 s hs,hk s,if_neg (by decide)];omega
  ·rw[if_neg hx0]
   by_cases hk0:j6 x=0
   ·have hb:badX x=true:=by unfold badX;rw[decide_eq_true hx0,decide_eq_true hk0];rfl
    rw[if_pos (by omega),hb,Bool.true_or];exact .inl ⟨rfl,rfl⟩
   ·have hb:badX x=false:=by unfold badX;rw[decide_eq_false hk0,Bool.and_false]
    obtain⟨_,_,hs01⟩:=yo x hk0;have hle:=jAM x;rw[if_neg (by omega),hb,Bool.false_or]
    -- the kings
    obtain⟨ks2,hks,hl2,hg2⟩:∃ks2,(if((j6 x:Nat):Int)=8 then(jv.f 9 x).bind λs=>if 0<=s/\s<2 then some (ks.set s.toNat (wrap64 (ks.getD s.toNat 0+1))) else none else some ks)=some ks2/\ks2.length=2/\∀s,s<2->ks2.getD s 0=ks.getD s 0+(if yN s x=true then 1 else 0):=by
     by_cases h8:j6 x=8
     ·rw[if_pos (by omega),hS,Option.bind_some,if_pos (by omega)]
      refine⟨_,rfl,by rw[List.length_set,h2],λs hs=>?_⟩;rw[jAU _ _ _ _ (by omega)]
      have hw:wrap64 (ks.getD (zg x).toNat 0+1)=ks.getD (zg x).toNat 0+1:=by have:=b2 (zg x).toNat;unfold wrap64;omega
      by_cases es:s=(zg x).toNat
      ·rw[if_pos es,hw,if_pos (by unfold yN;rw[decide_eq_true h8,decide_eq_true (by omega)];rfl),es]
      ·rw[if_neg es,if_neg (by unfold yN;rw[decide_eq_false (by omega:¬zg x=(s:Int)),Bool.and_false];decide)];omega
     ·rw[if_neg (by omega)]
      exact⟨ks,rfl,h2,λs hs=>by rw[if_neg (by unfold yN;rw[decide_eq_false h8,Bool.false_and];decide)];omega⟩
    have hr9:=rawT_lt _ hle;rw[hks,Option.bind_some,raw_is _ hk0 hle (kindT_13 x),Option.bind_some,if_pos (by omega),Int.toNat_natCast]
    have hw:wrap64 (ct.getD (rawT (j6 x)) 0+1)=ct.getD (rawT (j6 x)) 0+1:=by have:=b1 (rawT (j6 x));unfold wrap64;omega
    have hset:∀r,(ct.set (rawT (j6 x)) (wrap64 (ct.getD (rawT (j6 x)) 0+1))).getD r 0=ct.getD r 0+(if zx r x=true then 1 else 0):=λr=>by
     rw[jAU _ _ _ _ (by omega),hw]
     by_cases er:r=rawT (j6 x)
     ·rw[if_pos er,if_pos (by unfold zx;rw[decide_eq_true hk0,decide_eq_true er.symm];rfl),er]
     ·rw[if_neg er,if_neg (by unfold zx;rw[decide_eq_false (show ¬rawT (j6 x)=r from λe=>er e.symm),Bool.and_false];decide)];omega
    rcases sq_is cs hp d (n+1) (ct.set (rawT (j6 x)) (wrap64 (ct.getD (rawT (j6 x)) 0+1))) ks2 (by omega) (by rw[List.length_set, h1]) hl2
     (λr=>by rw[hset r];have:=b1 r;split<;>omega)
     (λs=>by
      by_cases hs:s<2
      ·rw[hg2 s hs];have:=b2 s;split<;>omega
      ·rw[List.getD_eq_getElem?_getD,List.getElem?_eq_none (by omega)];exact⟨Int.le_refl _,by show(0:Int)<=_;omega⟩) with⟨e1,e2⟩|⟨e1,ct',ks',e2,e3,e4,e5,e6⟩
    ·exact .inl ⟨e1,e2⟩
    ·refine .inr ⟨e1,ct',ks',e2,e3,e4,λr hr=>?_,λs hs=>?_⟩
     ·rw[e5 r hr,hset r];split<;>omega
     ·rw[e6 s hs,hg2 s hs];split<;>omega
def badV (v:Int) (k:Nat):Bool:=decide (v<0)||(decide (0<v)&&decide (k=0))
def badH (h:Nat->Int) (k:Nat):Bool:=badV (h k) k
theorem hk_is (l:List Int) (hl:∀i,-128<=l.getD i 0/\l.getD i 0<=127):∀(d k:Nat) (ct:List Int) (M:Int),M+128*d<=100000->k+d=8->ct.length=9->(∀r,-M<=ct.getD r 0/\ct.getD r 0<=M) ->
  (anyB (badH (λi=>l.getD i 0)) k d=true/\je.hk l k d ct=none)\/(anyB (badH (λi=>l.getD i 0)) k d=false/\∃ct',je.hk l k d ct=some ct'/\ct'.length=9/\(∀r,-(M+128*d)<=ct'.getD r 0/\ct'.getD r 0<=M+128*d)/\∀r,ct'.getD r 0=ct.getD r 0+(if k<=r/\r<8 then l.getD r 0 else 0))
 | 0,k,ct,M,hM,h,h1,b1=>.inr ⟨rfl,ct,rfl,h1,λr=>by have:=b1 r;omega,λr=>by rw[if_neg (by omega)];omega⟩
 | d+1,k,ct,M,hM,h,h1,b1=>by
  simp only[je.hk,anyB]
  by_cases hb:l.getD k 0<0\/(0<l.getD k 0/\k=0)
  ·have hbT:badH (λi=>l.getD i 0) k=true:=by
    unfold badH badV
    simpa using hb
   rw[if_pos hb,hbT,Bool.true_or];exact .inl ⟨rfl,rfl⟩
  ·have hbF:badH (λi=>l.getD i 0) k=false:=by
    rw[Bool.eq_false_iff];intro e;unfold badH badV at e;exact hb (by simpa using e)
   have hlk:=hl k
   have e1:wrap64 (l.getD k 0)=l.getD k 0:=by unfold wrap64;omega
   have e2:wrap64 (ct.getD k 0+l.getD k 0)=ct.getD k 0+l.getD k 0:=by have:=b1 k;unfold wrap64;omega
   rw[if_neg hb,hbF,Bool.false_or,e1,e2]
   have hset:∀r,(ct.set k (ct.getD k 0+l.getD k 0)).getD r 0=ct.getD r 0+(if r=k then l.getD k 0 else 0):=λr=>by
    rw[jAU _ _ _ _ (by omega)]
    split
    ·rename_i e;subst e;rfl
    ·omega
   rcases hk_is l hl d (k+1) (ct.set k (ct.getD k 0+l.getD k 0)) (M+128) (by omega) (by omega) (by rw[List.length_set,h1]) (λr=>by rw[hset r];have:=b1 r;split<;>omega) with⟨e1,e2⟩|⟨e1,ct',e2,e3,e4,e5⟩
   ·exact .inl ⟨e1,e2⟩
   ·refine .inr ⟨e1,ct',e2,e3,λr=>by have:=e4 r;omega,λr=>?_⟩
    rw[e5 r,hset r]
    by_cases a:r=k
    ·subst a;rw[if_pos rfl,if_neg (by omega),if_pos (by omega)];omega
    ·rw[if_neg a]
     by_cases b:k+1<=r/\r<8
     ·rw[if_pos b,if_pos (by omega)];omega
     ·rw[if_neg b,if_neg (by omega)];omega
theorem jB6 (h:List Int) (s i:Nat):((h.drop (s*8)).take 8).getD i 0=if i<8 then h.getD (8*s+i) 0 else 0:=by
 rw[List.getD_eq_getElem?_getD]
 by_cases a:i<8
 ·rw[if_pos a,List.getElem?_take_of_lt a,List.getElem?_drop,List.getD_eq_getElem?_getD,show s*8+i=8*s+i by omega]
 ·rw[if_neg a,List.getElem?_take,if_neg a];rfl
theorem hs_is (h:List Int) (hh:∀i,-128<=h.getD i 0/\h.getD i 0<=127) (ct:List Int) (h1:ct.length=9) (b1:∀r,-1000<=ct.getD r 0/\ct.getD r 0<=1000):
  ((anyB (badH (λi=>h.getD i 0)) 0 8||anyB (badH (λi=>h.getD (8+i) 0)) 0 8)=true/\je.hs h 0 2 ct=none)\/((anyB (badH (λi=>h.getD i 0)) 0 8||anyB (badH (λi=>h.getD (8+i) 0)) 0 8)=false/\∃ct',je.hs h 0 2 ct=some ct'/\ct'.length=9/\∀r,ct'.getD r 0=ct.getD r 0+(if r<8 then h.getD r 0+h.getD (8+r) 0 else 0)):=by
 have cg:∀(f g:Nat->Bool),(∀i,i<8->f i=g i)->∀d k,k+d=8->anyB f k d=anyB g k d:=λf g hfg=>by
  intro d
  induction d with
  | zero=>intro k _;rfl
  | succ d ih=>intro k hk;simp only[anyB];rw[hfg k (by omega),ih (k+1) (by omega)]
 have hb:∀s i,-128<=((h.drop (s*8)).take 8).getD i 0/\((h.drop (s*8)).take 8).getD i 0<=127:=λs i=>by
  rw[jB6];split
  ·exact hh _
  ·omega
 have c0:anyB (badH (λi=>((h.drop (0*8)).take 8).getD i 0)) 0 8=anyB (badH (λi=>h.getD i 0)) 0 8:=cg _ _ (λi hi=>by
  show badV (((h.drop (0*8)).take 8).getD i 0) i=badV (h.getD i 0) i
  rw[jB6,if_pos hi,show 8*0+i=i by omega]) 8 0 rfl
 have c1:anyB (badH (λi=>((h.drop (1*8)).take 8).getD i 0)) 0 8=anyB (badH (λi=>h.getD (8+i) 0)) 0 8:=cg _ _ (λi hi=>by
  show badV (((h.drop (1*8)).take 8).getD i 0) i=badV (h.getD (8+i) 0) i
  rw[jB6,if_pos hi,show 8*1+i=8+i by omega]) 8 0 rfl
 rw[<- c0,<- c1];simp only[je.hs]
 rcases hk_is _ (hb 0) 8 0 ct 1000 (by omega) rfl h1 b1 with⟨e1,e2⟩|⟨e1,a,e2,e3,e4,e5⟩
 ·rw[e1,e2];exact .inl ⟨rfl,rfl⟩
 ·rw[e1,e2,Option.bind_some,Bool.false_or]
  rcases hk_is _ (hb 1) 8 0 a (1000+128*(8:Nat)) (by omega) rfl e3 e4 with⟨g1,g2⟩|⟨g1,c,g2,g3,g4,g5⟩
  ·rw[g1,g2];exact .inl ⟨rfl,rfl⟩
  ·rw[g1,g2]
   refine .inr ⟨rfl,c,rfl,g3,λr=>?_⟩;rw[g5 r,e5 r,jB6,jB6]
   by_cases a:r<8
   ·rw[if_pos ⟨Nat.zero_le _,a⟩,if_pos a,if_pos ⟨Nat.zero_le _,a⟩,if_pos a,if_pos a,show 8*0+r=r by omega,show 8*1+r=8+r by omega];omega
   ·rw[if_neg (by omega),if_neg (by omega),if_neg a];omega
def totT (k:Nat):Int:=if k=1 then 18 else if k=2\/k=3\/k=4\/k=5 then 4 else if k=6\/k=7\/k=8 then 2 else 0
theorem tot_is (ct:List Int):je.tot ct 1 7=some (anyB (λk=>decide (totT k<ct.getD k 0)) 1 7):=by
 have ht:∀k:Fin 9,zK.f 20 (k.1:Int)=some (totT k.1):=by decide +kernel
 have:∀d k,k+d=8->je.tot ct k d=some (anyB (λk=>decide (totT k<ct.getD k 0)) k d):=λd=>by
  induction d with
  | zero=>intro k _;rfl
  | succ d ih=>
   intro k hk;simp only[je.tot,anyB];rw[ht ⟨k,by omega⟩,Option.bind_some]
   by_cases a:totT k<ct.getD k 0
   ·rw[if_pos a,decide_eq_true a,Bool.true_or]
   ·rw[if_neg a,decide_eq_false a,Bool.false_or,ih (k+1) (by omega)]
 exact this 7 1 rfl
def hasI (s:Nat×Nat) (b:Int):Bool:=if 0<=b/\b<=80 then has s b.toNat else false
theorem hasI_is (k:Nat) (s:Nat×Nat) (b:Int) (h:Good s):zy.f (k+1) (s.1:Int) (s.2:Int) b=some (hasI s b):=by
 unfold hasI
 by_cases hb:0<=b/\b<=80
 ·obtain⟨n,rfl⟩:∃n:Nat,b=n:=⟨b.toNat,by omega⟩
  rw[if_pos hb,has_is k s n h (by omega),Int.toNat_natCast]
 ·rw[if_neg hb,has_no k s b h (by omega)]
def wayN:Nat->Int->Int->Int->Nat×Nat->Nat×Nat->Option (Nat×Nat)
 | 0,_,_,_,_,_=>none
 | n+1,q,dx,dy,o,s=>if q>=0 then(if hasI o q=true then some (add s q) else wayN n (jAR dx dy q) dx dy o (add s q)) else some s
theorem way_l0 (dx dy:Int) (o:Nat×Nat) (go:Good o):∀(n k:Nat) (q:Int) (s r:Nat×Nat),n<k->Good s->wayN n q dx dy o s=some r ->
  zq.l0 (k+1) q dx dy (o.1:Int) (o.2:Int) (s.1:Int) (s.2:Int)=some ((r.1:Int),(r.2:Int))/\Good r:=by
 intro n
 induction n with
 | zero=>intro k q s r _ _ h;simp [wayN] at h
 | succ n ih=>
  intro k q s r hk hg h
  obtain⟨k,rfl⟩:∃m,k=m+1:=⟨k-1,by omega⟩
  simp only[wayN] at h;have hrec:=λhz=>ih k (jAR dx dy q) (add s q) r (by omega) (jBP s q hg) hz;clear ih;show zq.l0 ((k+1)+1) _ _ _ _ _ _ _=_/\_;rw[zq.l0]
  by_cases hq:q>=0
  ·rw[if_pos hq] at h
   rw[if_pos hq,with_is k s q hg,Option.bind_some,hasI_is k o q go,Option.bind_some]
   by_cases hh:hasI o q=true
   ·rw[if_pos hh] at h
    rw[if_pos hh];obtain rfl:=Option.some.inj h;exact⟨rfl,jBP s q hg⟩
   ·rw[if_neg hh] at h
    rw[if_neg hh,from_is,Option.bind_some];exact hrec h
  ·rw[if_neg hq] at h
   rw[if_neg hq];obtain rfl:=Option.some.inj h;exact⟨rfl,hg⟩
def itN:Nat->Int->Int->Int->Int
 | 0,_,_,q=>q
 | n+1,dx,dy,q=>itN n dx dy (jAR dx dy q)
theorem wayN_some (dx dy:Int) (o:Nat×Nat):∀(n m:Nat) (q:Int) (s:Nat×Nat),m<n->itN m dx dy q<0->∃r,wayN n q dx dy o s=some r
 | 0,_,_,_,h,_=>absurd h (Nat.not_lt_zero _)
 | n+1,m,q,s,h,hi=>by
  simp only[wayN]
  by_cases hq:q>=0
  ·rw[if_pos hq]
   by_cases hh:hasI o q=true
   ·rw[if_pos hh];exact⟨_,rfl⟩
   ·rw[if_neg hh]
    cases m with
    | zero=>exact absurd hi (by unfold itN;omega)
    | succ m=>exact wayN_some dx dy o n m _ _ (by omega) hi
  ·rw[if_neg hq];exact⟨_,rfl⟩
def ok8 (d:Int×Int):Bool:=decide (-1<=d.1)&&decide (d.1<=1)&&decide (-1<=d.2)&&decide (d.2<=1) && !(decide (d.1=0)&&decide (d.2=0))
theorem it9 (d:Int×Int) (h:ok8 d=true) (q:Int):itN 9 d.1 d.2 (jAR d.1 d.2 q)<0:=by
 have hm1:∀n,itN n d.1 d.2 (-1)<0:=λn=>by
  induction n with
  | zero=>show(-1:Int)<0;decide
  | succ n ih=>
   show itN n d.1 d.2 (jAR d.1 d.2 (-1))<0
   have:jAR d.1 d.2 (-1) = -1:=by unfold jAR;rw[if_neg (by omega)]
   rw[this];exact ih
 by_cases hq:0<=q/\q<=80
 ·have key:∀a b:Fin 3,ok8 (((a.1:Int)-1),((b.1:Int)-1))=true->∀q:Fin 81,itN 9 ((a.1:Int)-1) ((b.1:Int)-1) (jAR ((a.1:Int)-1) ((b.1:Int)-1) (q.1:Int))<0:=by decide +kernel
  have hb:=h;unfold ok8 at hb;simp only[Bool.and_eq_true,decide_eq_true_eq] at hb;obtain⟨⟨⟨⟨h1,h2⟩,h3⟩,h4⟩,_⟩:=hb
  have e1:(((d.1+1).toNat:Nat):Int)-1=d.1:=by omega
  have e2:(((d.2+1).toNat:Nat):Int)-1=d.2:=by omega
  have e3:((q.toNat:Nat):Int)=q:=by omega
  have:=key ⟨(d.1+1).toNat,by omega⟩ ⟨(d.2+1).toNat,by omega⟩ (by dsimp only;rw[e1,e2];exact h) ⟨q.toNat,by omega⟩;dsimp only at this;rw[e1,e2,e3] at this;exact this
 ·have:jAR d.1 d.2 q = -1:=by unfold jAR;rw[if_neg (by omega)]
  rw[this];exact hm1 9
def wayP (o:Nat×Nat) (d:Int×Int) (q:Int):Nat×Nat:=(wayN 12 (jAR d.1 d.2 q) d.1 d.2 o (0,0)).getD (0,0)
theorem way_is (o:Nat×Nat) (go:Good o) (d:Int×Int) (h:ok8 d=true) (q:Int) (k:Nat) (hk:20<=k):zq.f k q d.1 d.2 (o.1:Int) (o.2:Int)=some (((wayP o d q).1:Int),((wayP o d q).2:Int))/\Good (wayP o d q):=by
 obtain⟨r,hr⟩:=wayN_some d.1 d.2 o 12 9 (jAR d.1 d.2 q) (0,0) (by omega) (it9 d h q)
 have e:wayP o d q=r:=by unfold wayP;rw[hr];rfl
 rw[e]
 obtain⟨k,rfl⟩:∃m,k=m+1:=⟨k-1,by omega⟩
 obtain⟨h1,h2⟩:=way_l0 d.1 d.2 o go 12 k _ (0,0) r (by omega) good0 hr;refine⟨?_,h2⟩
 have hne:(d.1==0&&(d.2==0))=false:=by
  unfold ok8 at h;simp only[Bool.and_eq_true,Bool.not_eq_true',Bool.and_eq_false_iff,decide_eq_false_iff_not] at h;rw[Bool.and_eq_false_iff]
  rcases h.2 with a|a
  ·exact .inl (by simpa using a)
  ·exact .inr (by simpa using a)
 unfold zq.f;rw[if_neg (by rw[hne];decide),from_is,Option.bind_some];exact h1
def orP (s t:Nat×Nat):Nat×Nat:=(s.1|||t.1,s.2|||t.2)
def andP (s t:Nat×Nat):Nat×Nat:=(s.1&&&t.1,s.2&&&t.2)
theorem good_or {s t:Nat×Nat} (h:Good s) (g:Good t):Good (orP s t):=⟨Nat.or_lt_two_pow h.1 g.1,Nat.or_lt_two_pow h.2 g.2⟩
theorem good_and {s t:Nat×Nat} (h:Good s) (g:Good t):Good (andP s t):=⟨Nat.lt_of_le_of_lt Nat.and_le_left h.1,Nat.lt_of_le_of_lt Nat.and_le_left h.2⟩
theorem or_is {s t:Nat×Nat} (h:Good s) (g:Good t):zj.f (s.1:Int) (s.2:Int) (t.1:Int) (t.2:Int)=some (((orP s t).1:Int),((orP s t).2:Int)):=by
 unfold zj.f orP;rw[bits_or_u64_nat _ _ (p64 h.1) (p64 g.1),bits_or_u64_nat _ _ (q64 h.2) (q64 g.2)]
theorem and_is {s t:Nat×Nat} (h:Good s) (g:Good t):z6.f (s.1:Int) (s.2:Int) (t.1:Int) (t.2:Int)=some (((andP s t).1:Int),((andP s t).2:Int)):=by
 unfold z6.f andP;rw[bits_and_u64_nat _ _ (p64 h.1) (p64 g.1),bits_and_u64_nat _ _ (q64 h.2) (q64 g.2)]
def jAL (kind:Nat):List S158:=
 match kind with
 | 2=>[⟨0,-1⟩]
 | 6|14=>[⟨-1,-1⟩,⟨1,-1⟩,⟨-1,1⟩,⟨1,1⟩]
 | 7|15=>[⟨0,-1⟩,⟨-1,0⟩,⟨1,0⟩,⟨0,1⟩]
 | _=>[]
theorem rdirs_is (kind:Nat) (h:kind<=15):zr.f 100 (kind:Int)=some (jAL kind):=by
 obtain rfl|rfl|rfl|rfl|rfl|rfl|rfl|rfl|rfl|rfl|rfl|rfl|rfl|rfl|rfl|rfl:kind=0\/kind=1\/kind=2\/kind=3\/kind=4\/kind=5\/kind=6\/kind=7\/kind=8\/kind=9\/kind=10\/kind=11\/kind=12\/kind=13\/kind=14\/kind=15:=by omega
 all_goals kernel_rfl
def all8 (l:List S158):Bool:=l.all λd=>ok8 (d.f0,d.f1)
theorem rdirs_ok (kind:Nat) (h:kind<=15):(jAL kind).length<=20/\all8 (jAL kind)=true:=by
 obtain rfl|rfl|rfl|rfl|rfl|rfl|rfl|rfl|rfl|rfl|rfl|rfl|rfl|rfl|rfl|rfl:kind=0\/kind=1\/kind=2\/kind=3\/kind=4\/kind=5\/kind=6\/kind=7\/kind=8\/kind=9\/kind=10\/kind=11\/kind=12\/kind=13\/kind=14\/kind=15:=by omega
 all_goals exact⟨by decide,by decide⟩
theorem ok8_turn (side:Int) (d:S158) (h:ok8 (d.f0,d.f1)=true):ok8 (jAC side d)=true/\yK.f d.f0 d.f1 side=some (jAC side d):=by
 have hb:=h;unfold ok8 at hb;simp only[Bool.and_eq_true,decide_eq_true_eq,Bool.not_eq_true',Bool.and_eq_false_iff,decide_eq_false_iff_not] at hb;obtain⟨⟨⟨⟨h1,h2⟩,h3⟩,h4⟩,h5⟩:=hb;unfold yK.f jAC
 by_cases hs:side=1
 ·rw[if_pos hs,if_pos hs,show wrap64 (-d.f0) = -d.f0 by unfold wrap64;omega,show wrap64 (-d.f1) = -d.f1 by unfold wrap64;omega]
  refine⟨?_,rfl⟩;unfold ok8;simp only[Bool.and_eq_true,decide_eq_true_eq,Bool.not_eq_true',Bool.and_eq_false_iff,decide_eq_false_iff_not];exact⟨⟨⟨⟨by omega,by omega⟩,by omega⟩,by omega⟩,h5.imp (λh=>by omega) (λh=>by omega)⟩
 ·rw[if_neg hs,if_neg hs]
  exact⟨h,rfl⟩
def jBU (side q:Int) (o:Nat×Nat):List S158->Nat×Nat->Nat×Nat
 | [],s=>s
 | d::l,s=>jBU side q o l (orP s (wayP o (jAC side d) q))
theorem rfold_is (p q side:Int) (hside:∀k,5<=k->jv.f k p=some side) (o:Nat×Nat) (go:Good o) (L:List S158) (hL:L.length<=20) (hs:all8 L=true):∀(d k i:Nat) (s:Nat×Nat),i<=L.length->L.length-i=d->d+25<k->Good s ->
  zv.l0 k p q L (L.length:Int) (i:Int) (o.1:Int) (o.2:Int) (s.1:Int) (s.2:Int)=some (((jBU side q o (L.drop i) s).1:Int),((jBU side q o (L.drop i) s).2:Int))/\Good (jBU side q o (L.drop i) s):=by
 intro d
 induction d with
 | zero=>
  intro k i s h1 h2 hk hg
  obtain⟨k,rfl⟩:∃m,k=m+1:=⟨k-1,by omega⟩
  simp only[zv.l0];rw[if_neg (by omega),List.drop_eq_nil_of_le (by omega)];exact⟨rfl,hg⟩
 | succ d ih=>
  intro k i s h1 h2 hk hg
  obtain⟨k,rfl⟩:∃m,k=m+1:=⟨k-1,by omega⟩
  have hi:i<L.length:=by omega
  have hrd:j8 L (i:Int)=L[i]:=by
   unfold j8;rw[Int.toNat_natCast,List.getD_eq_getElem?_getD,List.getElem?_eq_getElem hi];rfl
  obtain⟨ht1,ht2⟩:=ok8_turn side L[i] (List.all_eq_true.1 hs L[i] (List.getElem_mem hi));obtain⟨hw1,hw2⟩:=way_is o go (jAC side L[i]) ht1 q k (by omega);have hgo:=good_or hg hw2;have hz:=ih k (i+1) (orP s (wayP o (jAC side L[i]) q)) (by omega) (by omega) (by omega) hgo
  have hw:wrap64 ((i:Int)+1)=((i+1:Nat):Int):=by clear ih hz hside hrd ht1 ht2 hw1 hw2 hs;unfold wrap64;omega
  clear ih;simp only[zv.l0];rw[if_pos (by omega),if_pos (by omega),if_pos (by omega),hside k (by omega),Option.bind_some,hrd,ht2,Option.bind_some,hw1,Option.bind_some];dsimp only;rw[or_is hg hw2,Option.bind_some];dsimp only;rw[hw,List.drop_eq_getElem_cons hi];exact hz
def rayN (kind:Nat) (side q:Int) (o:Nat×Nat):Nat×Nat:=jBU side q o (jAL kind) (stepN kind side q)
theorem ray_is (p q:Int) (hp:(Lit.int .i8 p).wf=true) (o:Nat×Nat) (go:Good o):zv.f 100 p q (o.1:Int) (o.2:Int)=some (((rayN (j6 p) (zg p) q o).1:Int),((rayN (j6 p) (zg p) q o).2:Int))/\Good (rayN (j6 p) (zg p) q o):=by
 obtain⟨h1,h2⟩:=jAS p hp;obtain⟨d1,d2⟩:=rdirs_ok (j6 p) (jAM p);have:=rfold_is p q (zg p) h2 o go (jAL (j6 p)) d1 d2 (jAL (j6 p)).length 100 0 (stepN (j6 p) (zg p) q) (by omega) (by omega) (by omega) (good_step _ _ _);rw[List.drop_zero] at this;unfold zv.f;rw[step_is p q hp 100 (by omega),Option.bind_some,h1 100 (by omega),Option.bind_some,rdirs_is _ (jAM p),Option.bind_some];exact this
theorem of_code (s k:Nat) (hs:s<2) (hk1:1<=k) (hk:k<=15):zU.f (s:Int) (k:Int)=some (if k=13 then 0 else((16*s+k:Nat):Int)):=by
 have:∀s:Fin 2,∀k:Fin 16,1<=k.1->zU.f (s.1:Int) (k.1:Int)=some (if k.1=13 then 0 else((16*s.1+k.1:Nat):Int)):=by decide +kernel
 exact this ⟨s,hs⟩ ⟨k,by omega⟩ hk1
theorem jBK (s k:Nat) (hs:s<2) (hk1:1<=k) (hk:k<=15) (h13:k≠13):j6 ((16*s+k:Nat):Int)=k/\zg ((16*s+k:Nat):Int)=(s:Int)/\(Lit.int .i8 ((16*s+k:Nat):Int)).wf=true:=by
 have:∀s:Fin 2,∀k:Fin 16,1<=k.1->k.1≠13->j6 ((16*s.1+k.1:Nat):Int)=k.1/\zg ((16*s.1+k.1:Nat):Int)=(s.1:Int)/\(Lit.int .i8 ((16*s.1+k.1:Nat):Int)).wf=true:=by decide +kernel
 exact this ⟨s,hs⟩ ⟨k,by omega⟩ hk1 h13
theorem bof_is (U:List Int) (S:Nat->Nat×Nat) (hR:Rep U S) (s k:Nat) (hs:s<2) (hk1:1<=k) (hk:k<=15) (h13:k≠13):ze.f (s:Int) (k:Int) U=some (((S (16*s+k)).1:Int),((S (16*s+k)).2:Int)):=by
 unfold ze.f;rw[of_code s k hs hk1 hk,Option.bind_some,if_neg h13,if_neg (by omega),if_pos (by omega),Int.toNat_natCast,hR.get _ (by omega)]
def onN (S:Nat->Nat×Nat) (q:Int) (side:Nat) (o:Nat×Nat):Nat->Nat->Nat×Nat->Nat×Nat
 | _,0,s=>s
 | k,d+1,s=>onN S q side o (k+1) d (if k=13 then s else orP s (andP (rayN k ((1-side:Nat):Int) q o) (S (16*side+k))))
theorem on_go (U:List Int) (S:Nat->Nat×Nat) (hR:Rep U S) (hG:∀i,Good (S i)) (q:Int) (side:Nat) (hs:side<2) (o:Nat×Nat) (go:Good o):∀(d k:Nat) (s:Nat×Nat),1<=k->k+d=16->Good s ->
  yZ.go q (side:Int) (o.1:Int) (o.2:Int) U k d (s.1:Int) (s.2:Int)=some (((onN S q side o k d s).1:Int),((onN S q side o k d s).2:Int))
 | 0,k,s,_,_,_=>rfl
 | d+1,k,s,h1,h2,hg=>by
  have hw:wrap64 (1-(side:Int))=((1-side:Nat):Int):=by unfold wrap64;omega
  simp only[yZ.go,onN];rw[hw,of_code (1-side) k (by omega) h1 (by omega),Option.bind_some]
  by_cases h13:k=13
  ·rw[if_pos h13,if_pos rfl,if_pos h13]
   exact on_go U S hR hG q side hs o go d (k+1) s (by omega) (by omega) hg
  ·obtain⟨c1,c2,c3⟩:=jBK (1-side) k (by omega) h1 (by omega) h13
   obtain⟨r1,r2⟩:=ray_is ((16*(1-side)+k:Nat):Int) q c3 o go;rw[c1,c2] at r1 r2;rw[if_neg h13,if_neg (by omega),if_neg h13,r1,Option.bind_some,bof_is U S hR side k hs h1 (by omega) h13,Option.bind_some];dsimp only;rw[and_is r2 (hG _),Option.bind_some];dsimp only;rw[or_is hg (good_and r2 (hG _)),Option.bind_some];exact on_go U S hR hG q side hs o go d (k+1) _ (by omega) (by omega) (good_or hg (good_and r2 (hG _)))
def emptyP (s:Nat×Nat):Bool:=decide (s.1=0)&&decide (s.2=0)
theorem empty_is (s:Nat×Nat):yF.f (s.1:Int) (s.2:Int)=some (emptyP s):=by
 unfold yF.f emptyP
 congr 1
 congr 1
 all_goals (rw[Bool.eq_iff_iff,beq_iff_eq,decide_eq_true_eq];omega)
def jA8 (s:Nat×Nat):Int:=(yd.f (s.1:Int) (s.2:Int)).getD 0
theorem first_is (s:Nat×Nat):yd.f (s.1:Int) (s.2:Int)=some (jA8 s):=by
 have:∃r,yd.f (s.1:Int) (s.2:Int)=some r:=by
  unfold yd.f bits_TrailingZeros64.f
  by_cases a:(s.1:Int)=0
  ·rw[if_pos a]
   by_cases b:(s.2:Int)=0
   ·rw[if_pos b];exact⟨_,rfl⟩
   ·rw[if_neg b,if_neg b];exact⟨_,rfl⟩
  ·rw[if_neg a,if_neg a];exact⟨_,rfl⟩
 obtain⟨r,hr⟩:=this;unfold jA8;rw[hr];rfl
def checkedT (S:Nat->Nat×Nat) (side:Nat):Bool:=!emptyP (if jA8 (S (16*side+8))<0\/81<=jA8 (S (16*side+8)) then(0,0) else onN S (jA8 (S (16*side+8))) (1-side) (orP (S 32) (S 33)) 1 15 (0,0))
theorem incheck_is (U:List Int) (S:Nat->Nat×Nat) (hR:Rep U S) (hG:∀i,Good (S i)) (side:Nat) (hs:side<2):yH.f (side:Int) U=some (checkedT S side):=by
 have hw:wrap64 (1-(side:Int))=((1-side:Nat):Int):=by unfold wrap64;omega
 unfold yH.f yj.f yf.f yY.f yZ.f checkedT;have hb8:ze.f (side:Int) 8 U=some (((S (16*side+8)).1:Int),((S (16*side+8)).2:Int)):=bof_is U S hR side 8 hs (by omega) (by omega) (by omega);rw[hb8,Option.bind_some];dsimp only;rw[first_is,Option.bind_some,hR.get 32 (by omega),hR.get 33 (by omega)];dsimp only;rw[or_is (hG 32) (hG 33),Option.bind_some,hw];dsimp only
 by_cases hk:jA8 (S (16*side+8))<0\/81<=jA8 (S (16*side+8))
 ·rw[if_pos hk,if_pos hk,Option.bind_some]
  exact(congrArg (λz=>Option.bind z λe=>some (!e)) (empty_is (0,0))).trans rfl
 ·rw[if_neg hk,if_neg hk]
  have:=on_go U S hR hG (jA8 (S (16*side+8))) (1-side) (by omega) (orP (S 32) (S 33)) (good_or (hG 32) (hG 33)) 15 1 (0,0) (by omega) (by omega) good0
  have e':∀z:Option (Int×Int),z=some (((onN S (jA8 (S (16*side+8))) (1-side) (orP (S 32) (S 33)) 1 15 (0,0)).1:Int),((onN S (jA8 (S (16*side+8))) (1-side) (orP (S 32) (S 33)) 1 15 (0,0)).2:Int))->(z.bind λc=>(yF.f c.1 c.2).bind λe=>some (!e))=some (!emptyP (onN S (jA8 (S (16*side+8))) (1-side) (orP (S 32) (S 33)) 1 15 (0,0))):=λz hz=>by
   rw[hz,Option.bind_some];dsimp only;rw[empty_is];rfl
  exact e' _ this
def farT (side:Int) (q:Nat):Int:=if side=0 then(q:Int)%9 else if side=1 then 8-(q:Int)%9 else -1
def deadT (x:Int) (q:Nat):Bool:=if j6 x=1\/j6 x=2 then decide (farT (zg x) q=0) else if j6 x=3 then decide (farT (zg x) q=0)||decide (farT (zg x) q=1) else false
theorem far_is (x:Int) (q:Nat) (hq:q<81):zh.f 20 (zg x) (q:Int)=some (farT (zg x) q):=by
 have h3:zg x = -1\/zg x=0\/zg x=1:=by
  unfold zg
  repeat' split
  all_goals simp
 have key:∀q:Fin 81,zh.f 20 (-1) (q.1:Int)=some (farT (-1) q.1)/\zh.f 20 0 (q.1:Int)=some (farT 0 q.1)/\zh.f 20 1 (q.1:Int)=some (farT 1 q.1):=by decide +kernel
 obtain⟨k1,k2,k3⟩:=key ⟨q,hq⟩
 rcases h3 with h|h|h<;>rw[h]
 ·exact k1
 ·exact k2
 ·exact k3
theorem dead_is (x:Int) (hx:(Lit.int .i8 x).wf=true) (q:Nat) (hq:q<81):zN.f 20 x (q:Int)=some (deadT x q):=by
 obtain⟨h1,h2⟩:=jAS x hx;unfold zN.f deadT;rw[h2 20 (by omega),Option.bind_some,far_is x q hq,Option.bind_some,h1 20 (by omega),Option.bind_some];generalize farT (zg x) q=f
 have c:∀n:Int,(n==0)=decide (n=0):=λn=>by rw[Bool.eq_iff_iff,beq_iff_eq,decide_eq_true_eq]
 have c1:∀n:Int,(n==1)=decide (n=1):=λn=>by rw[Bool.eq_iff_iff,beq_iff_eq,decide_eq_true_eq]
 by_cases a:j6 x=1
 ·rw[if_pos (by omega),if_pos (.inl a),a]
  simp [zN.j0]
  rfl
 ·rw[if_neg (by omega)]
  by_cases b:j6 x=2
  ·rw[if_pos (.inr b),b]
   simp [zN.j0]
   rfl
  ·rw[if_neg (by omega)]
   simp only[zN.j0];rw[if_neg (by rw[beq_iff_eq];omega)]
   by_cases d:j6 x=3
   ·rw[if_pos (by omega),if_pos d,c1]
    by_cases f0:f=0
    ·rw[if_pos f0,decide_eq_true f0];rfl
    ·rw[if_neg f0,decide_eq_false f0];rfl
   ·rw[if_neg (by omega),if_neg d]
theorem dead_all (cs:List Int) (hp:∀i, (Lit.int .i8 (cs.getD i 0)).wf=true):∀d n, n+d=81->zL.dead cs n d=some (anyB (λq=>deadT (cs.getD q 0) q) n d)
 | 0,_,_=>rfl
 | d+1,n,h=>by
  simp only[zL.dead,anyB];rw[dead_is _ (hp n) n (by omega),Option.bind_some]
  by_cases a:deadT (cs.getD n 0) n=true
  ·rw[if_pos a,a,Bool.true_or]
  ·rw[if_neg a,Bool.eq_false_iff.2 a,Bool.false_or,dead_all cs hp d (n+1) (by omega)]
def fileS (f:Nat):Nat×Nat:=(List.range 9).foldl (λs r=>add s ((9*f+r:Nat):Int)) (0,0)
theorem file_is (f:Nat) (hf:f<9):zX.f 30 (f:Int)=some (((fileS f).1:Int),((fileS f).2:Int))/\Good (fileS f):=by
 have key:∀f:Fin 9,zX.f 30 (f.1:Int)=some (((fileS f.1).1:Int),((fileS f.1).2:Int))/\(fileS f.1).1<2^63/\(fileS f.1).2<2^18:=by decide +kernel
 exact key ⟨f,hf⟩
def cntT (s:Nat×Nat):Int:=(ye.f (s.1:Int) (s.2:Int)).getD 0
theorem count_is (s:Nat×Nat):ye.f (s.1:Int) (s.2:Int)=some (cntT s):=by
 have:∃r,ye.f (s.1:Int) (s.2:Int)=some r:=⟨_,rfl⟩
 obtain⟨r,hr⟩:=this;unfold cntT;rw[hr];rfl
def jBV (S:Nat->Nat×Nat) (f s:Nat):Bool:=decide (1<cntT (andP (S (16*s+1)) (fileS f)))
theorem inner_is (U:List Int) (S:Nat->Nat×Nat) (hR:Rep U S) (hG:∀i,Good (S i)) (f:Nat) (hf:f<9):∀d s,s+d=2->zL.inner U f s d=some (anyB (jBV S f) s d)
 | 0,_,_=>rfl
 | d+1,s,h=>by
  obtain⟨f1,f2⟩:=file_is f hf;simp only[zL.inner,anyB];have hb1:ze.f (s:Int) 1 U=some (((S (16*s+1)).1:Int),((S (16*s+1)).2:Int)):=bof_is U S hR s 1 (by omega) (by omega) (by omega) (by omega);rw[hb1,Option.bind_some,f1,Option.bind_some];dsimp only;rw[and_is (hG _) f2,Option.bind_some];dsimp only;rw[count_is,Option.bind_some]
  by_cases a:1<cntT (andP (S (16*s+1)) (fileS f))
  ·rw[if_pos a,show jBV S f s=true from decide_eq_true a,Bool.true_or]
  ·rw[if_neg a,show jBV S f s=false from decide_eq_false a,Bool.false_or,inner_is U S hR hG f hf d (s+1) (by omega)]
theorem outer_is (U:List Int) (S:Nat->Nat × Nat) (hR:Rep U S) (hG:∀i, Good (S i)):∀d f, f+d=9->zL.outer U f d=some (anyB (λf=>anyB (jBV S f) 0 2) f d)
 | 0,_,_=>rfl
 | d+1,f,h=>by
  simp only[zL.outer,anyB];rw[inner_is U S hR hG f (by omega) 2 0 rfl,Option.bind_some]
  by_cases a:anyB (jBV S f) 0 2=true
  ·rw[if_pos a,show(jBV S f 0||(jBV S f (0+1)||false))=true from a,Bool.true_or]
  ·rw[if_neg a,show(jBV S f 0||(jBV S f (0+1)||false))=false from Bool.eq_false_iff.2 a,Bool.false_or,outer_is U S hR hG d (f+1) (by omega)];rfl
def yI (cs:List Int) (i:Nat):Nat×Nat:=bset (λq=>cs.getD q 0) i 81
def deadB (cs:List Int):Bool:=anyB (λq=>deadT (cs.getD q 0) q) 0 81
def nifuB (cs:List Int):Bool:=anyB (λf=>anyB (jBV (yI cs) f) 0 2) 0 9
theorem files_is (cs:List Int) (hl:cs.length=98) (hp:∀i,(Lit.int .i8 (cs.getD i 0)).wf=true):zL.f cs=some (if deadB cs=true then 52 else if nifuB cs=true then 53 else 0):=by
 obtain⟨C,U,hn,hR⟩:=new_is cs hl hp;unfold zL.f deadB nifuB;rw[dead_all cs hp 81 0 rfl,Option.bind_some]
 by_cases a:anyB (λq=>deadT (cs.getD q 0) q) 0 81=true
 ·rw[if_pos a,if_pos a]
 ·rw[if_neg a,if_neg a,hn,Option.bind_some]
  dsimp only;rw[outer_is U (yI cs) hR (λi=>yi _ i 81) 9 0 rfl,Option.bind_some]
def jAI (cs:List Int):List Int:=(cs.drop 81).take 16
def badB (cs:List Int):Bool:=anyB (λq=>badX (cs.getD q 0)) 0 81||(anyB (badH (λi=>cs.getD (81+i) 0)) 0 8||anyB (badH (λi=>cs.getD (89+i) 0)) 0 8)
def nB (cs:List Int) (f:Int->Bool):Nat:=cntB (λq=>cs.getD q 0) f 0 81
def jBN (cs:List Int):Bool:=decide (nB cs (yN 0)=1)&&decide (nB cs (yN 1)=1)
def sumT (cs:List Int) (k:Nat):Int:=(nB cs (zx k):Int)+(cs.getD (81+k) 0+cs.getD (89+k) 0)
def overB (cs:List Int):Bool:=anyB (λk=>decide (totT k<sumT cs k)) 1 7
def jA7 (cs:List Int):Int:=if cs.getD 97 0≠0/\cs.getD 97 0≠1 then 1 else if badB cs=true then 55 else if jBN cs=false then 50 else if overB cs=true then 51 else if deadB cs=true then 52 else if nifuB cs=true then 53 else 0
def jAZ (cs:List Int):Int:=if jA7 cs=0 then(if checkedT (yI cs) (1-(cs.getD 97 0).toNat)=true then 54 else 0) else jA7 cs
theorem jBQ (cs:List Int) (i:Nat) (hi:i<16):(jAI cs).getD i 0=cs.getD (81+i) 0:=by
 unfold jAI;rw[List.getD_eq_getElem?_getD,List.getElem?_take_of_lt hi,List.getElem?_drop,<- List.getD_eq_getElem?_getD]
theorem yr {f g:Nat->Bool}:∀d n,(∀i,n<=i->i<n+d->f i=g i)->anyB f n d=anyB g n d
 | 0,_,_=>rfl
 | d+1,n,h=>by
  simp only[anyB];rw[h n (Nat.le_refl _) (by omega),yr d (n+1) λi h1 h2=>h i (by omega) (by omega)]
theorem cntB_le (p:Nat->Int) (f:Int->Bool):∀d n,cntB p f n d<=d
 | 0,_=>Nat.le_refl _
 | d+1,n=>by
  have:=cntB_le p f d (n+1);unfold cntB
  split<;>omega
theorem board_is (cs:List Int) (hl:cs.length=98) (hp:∀i,(Lit.int .i8 (cs.getD i 0)).wf=true):je.f cs=some (jA7 cs):=by
 unfold je.f jA7
 by_cases hs:cs.getD 97 0≠0/\cs.getD 97 0≠1
 ·rw[if_pos hs,if_pos hs]
 rw[if_neg hs,if_neg hs]
 have hb8:∀i,-128<=(jAI cs).getD i 0/\(jAI cs).getD i 0<=127:=λi=>by
  by_cases hi:i<16
  ·rw[jBQ cs i hi];exact bounds_i8 (hp _)
  ·have:(jAI cs).length<=16:=by unfold jAI;rw[List.length_take];omega
   rw[List.getD_eq_getElem?_getD,List.getElem?_eq_none (by omega)];exact⟨by decide,by decide⟩
 have z9:∀r,je.z9.getD r 0=0:=λr=>by
  by_cases h:r<9
  ·have:∀r:Fin 9,je.z9.getD r.1 0=0:=by decide
   exact this ⟨r,h⟩
  ·rw[List.getD_eq_getElem?_getD,List.getElem?_eq_none (by show 9<=r;omega)];rfl
 have z2:∀r,je.z2.getD r 0=0:=λr=>by
  by_cases h:r<2
  ·have:∀r:Fin 2,je.z2.getD r.1 0=0:=by decide
   exact this ⟨r,h⟩
  ·rw[List.getD_eq_getElem?_getD,List.getElem?_eq_none (by show 2<=r;omega)];rfl
 have hh1:anyB (badH (λi=>(jAI cs).getD i 0)) 0 8=anyB (badH (λi=>cs.getD (81+i) 0)) 0 8:=yr 8 0 λi _ hi=>by
  show badV ((jAI cs).getD i 0) i=badV (cs.getD (81+i) 0) i;rw[jBQ cs i (by omega)]
 have hh2:anyB (badH (λi=>(jAI cs).getD (8+i) 0)) 0 8=anyB (badH (λi=>cs.getD (89+i) 0)) 0 8:=yr 8 0 λi _ hi=>by
  show badV ((jAI cs).getD (8+i) 0) i=badV (cs.getD (89+i) 0) i;rw[jBQ cs (8+i) (by omega),show 81+(8+i)=89+i by omega]
 rcases sq_is cs hp 81 0 je.z9 je.z2 rfl rfl rfl (λr=>by rw[z9 r];exact⟨by decide,by decide⟩) (λr=>by rw[z2 r];exact⟨by decide,by decide⟩) with⟨e1,e2⟩|⟨e1,ct,ks,e2,e3,e4,e5,e6⟩
 ·rw[e2,Option.bind_some]
  have:badB cs=true:=by unfold badB;rw[e1,Bool.true_or]
  rw[if_pos this]
 ·rw[e2,Option.bind_some]
  dsimp only
  have hct:∀r,-1000<=ct.getD r 0/\ct.getD r 0<=1000:=λr=>by
   by_cases h:r<9
   ·rw[e5 r h,z9 r]
    have:=cntB_le (λq=>cs.getD q 0) (zx r) 81 0;omega
   ·rw[List.getD_eq_getElem?_getD,List.getElem?_eq_none (by omega)];exact⟨by decide,by decide⟩
  have hbb:badB cs=(anyB (badH (λi=>(jAI cs).getD i 0)) 0 8||anyB (badH (λi=>(jAI cs).getD (8+i) 0)) 0 8):=by
   unfold badB;rw[e1,Bool.false_or,hh1,hh2]
  show(match je.hs (jAI cs) 0 2 ct with
   | none=>some 55
   | some c2=>if(ks.getD 0 0==1&&ks.getD 1 0==1)=false then some 50 else(je.tot c2 1 7).bind λb=>if b=true then some 51 else zL.f cs)=_
  rcases hs_is (jAI cs) hb8 ct e3 hct with⟨g1,g2⟩|⟨g1,c2,g2,g3,g4⟩
  ·rw[g2]
   dsimp only;rw[if_pos (hbb.trans g1)]
  ·rw[g2]
   dsimp only
   have hbF:¬badB cs=true:=by rw[hbb,g1];decide
   rw[if_neg hbF,tot_is,Option.bind_some,files_is cs hl hp]
   have c1:∀n:Nat,((n:Int)==1)=decide (n=1):=λn=>by rw[Bool.eq_iff_iff,beq_iff_eq,decide_eq_true_eq];omega
   have k0:(ks.getD 0 0==1&&ks.getD 1 0==1)=jBN cs:=by
    have q0:ks.getD 0 0=(nB cs (yN 0):Int):=by rw[e6 0 (by decide),z2 0];exact Int.zero_add _
    have q1:ks.getD 1 0=(nB cs (yN 1):Int):=by rw[e6 1 (by decide),z2 1];exact Int.zero_add _
    rw[q0,q1,c1,c1];rfl
   have o0:anyB (λk=>decide (totT k<c2.getD k 0)) 1 7=overB cs:=yr 7 1 λi h1 h2=>by
    have e:c2.getD i 0=sumT cs i:=by
     have q:ct.getD i 0=(nB cs (zx i):Int):=by rw[e5 i (by omega),z9 i];exact Int.zero_add _
     rw[g4 i,if_pos (by omega),q,jBQ cs i (by omega),jBQ cs (8+i) (by omega),show 81+(8+i)=89+i by omega];rfl
    show decide (_<_)=decide (_<_);rw[decide_eq_decide,e]
   rw[k0,o0]
   by_cases a:jBN cs=false
   ·rw[if_pos a,if_pos a]
   ·rw[if_neg a,if_neg a]
    by_cases b:overB cs=true
    ·rw[if_pos b,if_pos b]
    ·rw[if_neg b,if_neg b]
theorem check_is (cs:List Int) (hl:cs.length=98) (hp:∀i,(Lit.int .i8 (cs.getD i 0)).wf=true):zR.f cs=some (jAZ cs):=by
 unfold zR.f jAZ;rw[board_is cs hl hp,Option.bind_some]
 by_cases h:jA7 cs=0
 ·rw[if_pos h,if_pos h]
  obtain⟨C,U,hn,hR⟩:=new_is cs hl hp
  have hside:cs.getD 97 0=0\/cs.getD 97 0=1:=by
   unfold jA7 at h
   by_cases hs:cs.getD 97 0≠0/\cs.getD 97 0≠1
   ·rw[if_pos hs] at h;exact absurd h (by decide)
   ·omega
  have hw:wrap64 (1-wrap64 (cs.getD 97 0))=((1-(cs.getD 97 0).toNat:Nat):Int):=by
   rcases hside with h|h<;>rw[h]<;>decide +kernel
  rw[hn,Option.bind_some];dsimp only;rw[hw,incheck_is U (yI cs) hR (λi=>yi _ i 81) _ (by omega),Option.bind_some]
 ·rw[if_neg h,if_neg h]
structure Ok (cs:List Int):Prop where
 side:cs.getD 97 0=0\/cs.getD 97 0=1
 cell:∀q,q<81->cs.getD q 0=0\/j6 (cs.getD q 0)≠0
 hand:∀i,i<16->0<=cs.getD (81+i) 0/\cs.getD (81+i) 0<=18
 none0:cs.getD 81 0=0/\cs.getD 89 0=0
 count:(nB cs (λx=>decide (j6 x≠0)):Int)+(cs.getD 82 0+cs.getD 83 0+cs.getD 84 0+cs.getD 85 0+cs.getD 86 0+cs.getD 87 0+cs.getD 88 0)+(cs.getD 90 0+cs.getD 91 0+cs.getD 92 0+cs.getD 93 0+cs.getD 94 0+cs.getD 95 0+cs.getD 96 0)<=40
theorem jBA {f:Nat->Bool}:∀d n,anyB f n d=false->∀i,n<=i->i<n+d->f i=false
 | 0,n,_,i,h1,h2=>absurd h2 (by omega)
 | d+1,n,h,i,h1,h2=>by
  simp only[anyB,Bool.or_eq_false_iff] at h
  by_cases e:i=n
  ·subst e;exact h.1
  ·exact jBA d (n+1) h.2 i (by omega) (by omega)
theorem cnt_split (p:Nat->Int):∀d n, cntB p (λx=>decide (j6 x≠0)) n d=cntB p (zx 1) n d+cntB p (zx 2) n d+cntB p (zx 3) n d+cntB p (zx 4) n d+cntB p (zx 5) n d+cntB p (zx 6) n d+cntB p (zx 7) n d+cntB p (zx 8) n d
 | 0,_=>rfl
 | d+1,n=>by
  simp only[cntB];rw[cnt_split p d (n+1)]
  have e:(if decide (j6 (p n)≠0)=true then 1 else 0)=(if zx 1 (p n)=true then 1 else 0)+(if zx 2 (p n)=true then 1 else 0)+(if zx 3 (p n)=true then 1 else 0)+(if zx 4 (p n)=true then 1 else 0)+(if zx 5 (p n)=true then 1 else 0)+(if zx 6 (p n)=true then 1 else 0)+(if zx 7 (p n)=true then 1 else 0)+(if zx 8 (p n)=true then 1 else 0):=by
   have hle:=jAM (p n);unfold zx;generalize j6 (p n)=k at hle
   have:∀k:Fin 16,(if decide (k.1≠0)=true then 1 else 0)=(if(decide (k.1≠0)&&decide (rawT k.1=1))=true then 1 else 0)+(if(decide (k.1≠0)&&decide (rawT k.1=2))=true then 1 else 0)+(if(decide (k.1≠0)&&decide (rawT k.1=3))=true then 1 else 0)+(if(decide (k.1≠0)&&decide (rawT k.1=4))=true then 1 else 0)+(if(decide (k.1≠0)&&decide (rawT k.1=5))=true then 1 else 0)+(if(decide (k.1≠0)&&decide (rawT k.1=6))=true then 1 else 0)+(if(decide (k.1≠0)&&decide (rawT k.1=7))=true then 1 else 0)+(if(decide (k.1≠0)&&decide (rawT k.1=8))=true then 1 else 0):=by decide +kernel
   exact this ⟨k,by omega⟩
  omega
theorem cnt_kings (p:Nat->Int):∀d n,cntB p (zx 8) n d=cntB p (yN 0) n d+cntB p (yN 1) n d
 | 0,_=>rfl
 | d+1,n=>by
  simp only[cntB];rw[cnt_kings p d (n+1)]
  have e:(if zx 8 (p n)=true then 1 else 0)=(if yN 0 (p n)=true then 1 else 0)+(if yN 1 (p n)=true then 1 else 0):=by
   by_cases h:j6 (p n)=8
   ·obtain⟨_,_,hs⟩:=yo (p n) (by omega)
    unfold zx yN;rw[h]
    rcases hs with hs|hs<;>rw[hs]<;>rfl
   ·have h1:zx 8 (p n)=false:=by
     unfold zx;rw[Bool.and_eq_false_iff]
     by_cases z:j6 (p n)=0
     ·exact .inl (decide_eq_false (by simp [z]))
     ·have:=jAM (p n)
      refine .inr (decide_eq_false ?_);unfold rawT
      split<;>omega
    have h2:∀s,yN s (p n)=false:=λs=>by unfold yN;rw[decide_eq_false h,Bool.false_and]
    rw[h1,h2 0,h2 1];rfl
  omega
theorem boardT0 {cs:List Int} (h:jA7 cs=0):(cs.getD 97 0=0\/cs.getD 97 0=1)/\badB cs=false/\jBN cs=true/\overB cs=false/\deadB cs=false/\nifuB cs=false:=by
 unfold jA7 at h
 by_cases hs:cs.getD 97 0≠0/\cs.getD 97 0≠1
 ·rw[if_pos hs] at h;exact absurd h (by decide)
 rw[if_neg hs] at h
 by_cases h1:badB cs=true
 ·rw[if_pos h1] at h;exact absurd h (by decide)
 rw[if_neg h1] at h
 by_cases h2:jBN cs=false
 ·rw[if_pos h2] at h;exact absurd h (by decide)
 rw[if_neg h2] at h
 by_cases h3:overB cs=true
 ·rw[if_pos h3] at h;exact absurd h (by decide)
 rw[if_neg h3] at h
 by_cases h4:deadB cs=true
 ·rw[if_pos h4] at h;exact absurd h (by decide)
 rw[if_neg h4] at h
 by_cases h5:nifuB cs=true
 ·rw[if_pos h5] at h;exact absurd h (by decide)
 exact⟨by omega,Bool.eq_false_iff.2 h1,by simpa using h2,Bool.eq_false_iff.2 h3,Bool.eq_false_iff.2 h4,Bool.eq_false_iff.2 h5⟩
theorem jA9 {v:Int} {k:Nat} (h:badV v k=false):0<=v/\(k=0->v=0):=by
 unfold badV at h;simp only[Bool.or_eq_false_iff,decide_eq_false_iff_not,Bool.and_eq_false_iff] at h;omega
theorem ok_of (cs:List Int) (h:jAZ cs=0):Ok cs:=by
 have hb:jA7 cs=0:=by
  unfold jAZ at h
  by_cases hb:jA7 cs=0
  ·exact hb
  ·rw[if_neg hb] at h;exact h
 obtain⟨h1,h2,h3,h4,_,_⟩:=boardT0 hb;unfold badB at h2;simp only[Bool.or_eq_false_iff] at h2;obtain⟨b1,b2,b3⟩:=h2;have c1:=jBA _ _ b1;have c2:∀i,i<8->badV (cs.getD (81+i) 0) i=false:=λi hi=>jBA _ _ b2 i (by omega) (by omega);have c3:∀i,i<8->badV (cs.getD (89+i) 0) i=false:=λi hi=>jBA _ _ b3 i (by omega) (by omega)
 have d1:∀k,1<=k->k<8->sumT cs k<=totT k:=λk hk1 hk2=>by
  have:decide (totT k<sumT cs k)=false:=jBA (f:=λk=>decide (totT k<sumT cs k)) _ _ h4 k (by omega) (by omega);rw[decide_eq_false_iff_not] at this;omega
 have t18 : ∀ k, totT k ≤ 18 := fun k => by unfold totT; repeat' split
                                            all_goals omega
 unfold jBN at h3;rw[Bool.and_eq_true,decide_eq_true_eq,decide_eq_true_eq] at h3;have z1:=jA9 (c2 0 (by omega));have z2:=jA9 (c3 0 (by omega))
 have hand:∀i,i<16->0<=cs.getD (81+i) 0/\cs.getD (81+i) 0<=18:=λi hi=>by
  by_cases a:i<8
  ·have p1:=jA9 (c2 i a)
   have p2:=jA9 (c3 i a)
   by_cases e:i=0
   ·subst e;have:=z1.2 rfl;omega
   ·have:=d1 i (by omega) a
    have:=t18 i;unfold sumT at *;omega
  ·obtain⟨j,rfl⟩:∃j,i=8+j:=⟨i-8,by omega⟩
   rw[show 81+(8+j)=89+j by omega];have p1:=jA9 (c2 j (by omega));have p2:=jA9 (c3 j (by omega))
   by_cases e:j=0
   ·subst e;have:=z2.2 rfl;omega
   ·have:=d1 j (by omega) (by omega)
    have:=t18 j;unfold sumT at *;omega
 refine⟨h1,λq hq=>?_,hand,⟨z1.2 rfl,z2.2 rfl⟩,?_⟩
 ·have:badX (cs.getD q 0)=false:=c1 q (by omega) (by omega)
  unfold badX at this;rw[Bool.and_eq_false_iff,decide_eq_false_iff_not,decide_eq_false_iff_not] at this
  by_cases e:cs.getD q 0=0
  ·exact .inl e
  ·exact .inr (this.resolve_left (λf=>f e))
 ·have e1:nB cs (λx=>decide (j6 x≠0))=nB cs (zx 1)+nB cs (zx 2)+nB cs (zx 3)+nB cs (zx 4)+nB cs (zx 5)+nB cs (zx 6)+nB cs (zx 7)+nB cs (zx 8):=cnt_split _ 81 0
  have e2:nB cs (zx 8)=nB cs (yN 0)+nB cs (yN 1):=cnt_kings _ 81 0;have s1:(nB cs (zx 1):Int)+(cs.getD 82 0+cs.getD 90 0)<=18:=d1 1 (by omega) (by omega);have s2:(nB cs (zx 2):Int)+(cs.getD 83 0+cs.getD 91 0)<=4:=d1 2 (by omega) (by omega);have s3:(nB cs (zx 3):Int)+(cs.getD 84 0+cs.getD 92 0)<=4:=d1 3 (by omega) (by omega);have s4:(nB cs (zx 4):Int)+(cs.getD 85 0+cs.getD 93 0)<=4:=d1 4 (by omega) (by omega);have s5:(nB cs (zx 5):Int)+(cs.getD 86 0+cs.getD 94 0)<=4:=d1 5 (by omega) (by omega);have s6:(nB cs (zx 6):Int)+(cs.getD 87 0+cs.getD 95 0)<=2:=d1 6 (by omega) (by omega);have s7:(nB cs (zx 7):Int)+(cs.getD 88 0+cs.getD 96 0)<=2:=d1 7 (by omega) (by omega);clear c1 c2 c3 d1 t18 hand b1 b2 b3 h4 h;generalize nB cs (zx 1)=n1 at *;generalize nB cs (zx 2)=n2 at *;generalize nB cs (zx 3)=n3 at *;generalize nB cs (zx 4)=n4 at *;generalize nB cs (zx 5)=n5 at *;generalize nB cs (zx 6)=n6 at *;generalize nB cs (zx 7)=n7 at *;generalize nB cs (zx 8)=n8 at *;generalize nB cs (λx=>decide (j6 x≠0))=n at *;omega
def ltr (x:Int):UInt8:=UInt8.ofNat (([32,80,76,78,83,71,66,82,75].getD (rawT (j6 x)) 0)+(if zg x=1 then 32 else 0))
def nmL (x:Int):List UInt8:=if j6 x=0 then[] else if 8<j6 x then[43,ltr x] else[ltr x]
def okName (x:Int):Bool:=decide (yJ.f 20 x=some ⟨(nmL x).toArray⟩)&&(decide (j6 x=0)||(decide (ja.f ((ltr x).toNat:Int) (decide (8<j6 x))=some x)&&decide (65<=(ltr x).toNat)&&decide ((ltr x).toNat<128)))
theorem jB8 (x:Int) (hx:(Lit.int .i8 x).wf=true):yJ.f 20 x=some ⟨(nmL x).toArray⟩/\(j6 x≠0->ja.f ((ltr x).toNat:Int) (decide (8<j6 x))=some x/\65<=(ltr x).toNat/\(ltr x).toNat<128):=by
 have h:=all_i8 okName (by decide +kernel) x hx;unfold okName at h;rw[Bool.and_eq_true,Bool.or_eq_true,Bool.and_eq_true,Bool.and_eq_true,decide_eq_true_eq,decide_eq_true_eq,decide_eq_true_eq,decide_eq_true_eq,decide_eq_true_eq] at h
 exact⟨h.1,λhk=>by
  obtain⟨⟨a,b⟩,c⟩:=h.2.resolve_left hk
  exact⟨a,b,c⟩⟩
theorem nmL_len (x : Int) : (nmL x).length ≤ 2 := by unfold nmL; repeat' split
                                                     all_goals simp
def gap (free:Nat):List UInt8:=if 0<free then[dig free] else[]
def rowT (p:Nat->Int) (r:Nat):Nat->Nat->List UInt8
 | 0,free=>gap free
 | d+1,free=>if p (9*d+r)=0 then rowT p r d (free+1) else gap free++nmL (p (9*d+r))++rowT p r d 0
theorem row_is (cs:List Int) (hp:∀i, (Lit.int .i8 (cs.getD i 0)).wf=true) (r:Nat):∀(d free:Nat) (out:List UInt8), ∃t, jf.row cs r d free out=some t/\jf.tail r t=out++rowT (λi=>cs.getD i 0) r d free++(if r<8 then[47] else[])
 | 0,free,out=>⟨_,rfl,by
  unfold jf.tail rowT gap
  by_cases h:0<free
  ·rw[if_pos h,if_pos h]
  ·rw[if_neg h,if_neg h,List.append_nil]⟩
 | d+1,free,out=>by
  simp only[jf.row,rowT]
  by_cases h:cs.getD (9*d+r) 0=0
  ·rw[if_pos h,if_pos h]
   exact row_is cs hp r d (free+1) out
  ·rw[if_neg h,if_neg h,(jB8 _ (hp _)).1,Option.bind_some]
   obtain⟨t,h1,h2⟩:=row_is cs hp r d 0 ((if 0<free then out++[dig free] else out)++nmL (cs.getD (9*d+r) 0));refine⟨t,by rw[<- h1],?_⟩;rw[h2];unfold gap
   by_cases hf:0<free
   ·rw[if_pos hf,if_pos hf];simp only[List.append_assoc]
   ·rw[if_neg hf,if_neg hf];simp only[List.append_assoc,List.nil_append]
def jAQ (p:Nat->Int):Nat->Nat->List UInt8
 | _,0=>[]
 | r,d+1=>rowT p r 9 0++(if r<8 then[47] else[])++jAQ p (r+1) d
theorem rows_is (cs:List Int) (hp:∀i, (Lit.int .i8 (cs.getD i 0)).wf=true):∀(d r:Nat) (out:List UInt8), jf.rows cs r d out=some (out++jAQ (λi=>cs.getD i 0) r d)
 | 0,r,out=>by simp only[jf.rows,jAQ,List.append_nil]
 | d+1,r,out=>by
  obtain⟨t,h1,h2⟩:=row_is cs hp r 9 0 out;simp only[jf.rows,jAQ];rw[h1,Option.bind_some,h2,rows_is cs hp d (r+1)];simp only[List.append_assoc]
def num (n:Int):List UInt8:=if 1<n then Lib.itoa n else[]
def yz (p:Nat->Int) (s:Nat):Nat->Nat->List UInt8
 | _,0=>[]
 | j,d+1=>(if p (81+8*s+(7-j))=0 then[] else num (p (81+8*s+(7-j)))++nmL ((16*s+(7-j):Nat):Int))++yz p s (j+1) d
def jAT (p:Nat->Int) (s:Nat):Nat->Nat->Bool
 | _,0=>true
 | j,d+1=>decide (p (81+8*s+(7-j))=0)&&jAT p s (j+1) d
theorem hand_is (cs:List Int) (hp:∀i, (Lit.int .i8 (cs.getD i 0)).wf=true) (s:Nat) (hs:s<2):∀(d j:Nat) (nn:Bool) (out:List UInt8), j+d=7->jf.hand cs s j d nn out=some (nn&&jAT (λi=>cs.getD i 0) s j d, out++yz (λi=>cs.getD i 0) s j d)
 | 0,j,nn,out,_=>by simp only[jf.hand,jAT,yz,Bool.and_true,List.append_nil]
 | d+1,j,nn,out,h=>by
  simp only[jf.hand,jAT,yz];have hb:=bounds_i8 (hp (81+8*s+(7-j)))
  by_cases hz:cs.getD (81+8*s+(7-j)) 0=0
  ·rw[if_pos hz,if_pos hz,hand_is cs hp s hs d (j+1) nn out (by omega),decide_eq_true hz,Bool.true_and,List.nil_append]
  ·have hw:wrap64 (cs.getD (81+8*s+(7-j)) 0)=cs.getD (81+8*s+(7-j)) 0:=by unfold wrap64;omega
   obtain⟨c1,c2,c3⟩:=jBK s (7-j) hs (by omega) (by omega) (by omega);rw[if_neg hz,if_neg hz,of_code s (7-j) hs (by omega) (by omega),Option.bind_some,if_neg (by omega),(jB8 _ c3).1,Option.bind_some,hand_is cs hp s hs d (j+1) false _ (by omega),decide_eq_false hz,hw];unfold num
   congr 1
   rw[Prod.mk.injEq];refine⟨by simp,?_⟩
   by_cases h1:1<cs.getD (81+8*s+(7-j)) 0
   ·rw[if_pos h1,if_pos h1];simp only[List.append_assoc]
   ·rw[if_neg h1,if_neg h1];simp only[List.append_assoc,List.nil_append]
def jAA (p:Nat->Int):List UInt8:=if jAT p 0 0 7&&jAT p 1 0 7 then[45] else yz p 0 0 7++yz p 1 0 7
def jBR (p:Nat->Int):List UInt8:=if p 97=1 then[119] else[98]
def textT (p:Nat->Int) (number:Int):List UInt8:=jAQ p 0 9++[32]++jBR p++[32]++jAA p++[32]++Lib.itoa number
theorem jB5 (p:Nat->Int) (s:Nat):∀d j,jAT p s j d=true->yz p s j d=[]
 | 0,_,_=>rfl
 | d+1,j,h=>by
  simp only[jAT,Bool.and_eq_true,decide_eq_true_eq] at h;simp only[yz];rw[if_pos h.1,jB5 p s d (j+1) h.2];rfl
theorem text_is (cs:List Int) (hp:∀i,(Lit.int .i8 (cs.getD i 0)).wf=true) (number:Int):jf.text cs number=some (textT (λi=>cs.getD i 0) number):=by
 unfold jf.text;rw[rows_is cs hp,Option.bind_some];simp only[jf.hands];rw[hand_is cs hp 0 (by omega) 7 0 _ _ rfl,Option.bind_some];dsimp only;rw[hand_is cs hp (0+1) (by omega) 7 0 _ _ rfl];simp only[Option.bind_some]
 congr 1
 unfold textT jAA jBR;simp only[Bool.true_and]
 by_cases hz:(jAT (λi=>cs.getD i 0) 0 0 7&&jAT (λi=>cs.getD i 0) 1 0 7)=true
 ·have hz2:=hz
  rw[Bool.and_eq_true] at hz2;rw[if_pos hz,if_pos hz,jB5 _ 0 7 0 hz2.1,jB5 _ 1 7 0 hz2.2]
  split<;>simp
 ·rw[if_neg hz,if_neg hz]
  split<;>simp
theorem print_is (cs:List Int) (hl:cs.length=98) (hp:∀i,(Lit.int .i8 (cs.getD i 0)).wf=true) (number:Int):jf.f cs number=some (if jAZ cs≠0\/number<1\/9999<number then⟨#[]⟩ else⟨(textT (λi=>cs.getD i 0) number).toArray⟩):=by
 unfold jf.f;rw[check_is cs hl hp,Option.bind_some,text_is cs hp]
 split<;>rfl
def rg:List UInt8->Int->Int->Bool->Int->List Int->Option (List Int×Bool)
 | [],file,rank,plus,last,b=>some (jl.done file rank plus b)
 | c::l,file,rank,plus,last,b=>
   (if(c.toNat:Int)=47 then(if file≠-1\/plus=true\/rank=8 then some (b,false) else rg l 8 (rank+1) plus (c.toNat:Int) b)
   else if 49<=(c.toNat:Int)/\(c.toNat:Int)<=57 then(if plus=true\/file-((c.toNat:Int)-48) < -1\/(49<=last/\last<=57) then some (b,false) else rg l (file-((c.toNat:Int)-48)) rank plus (c.toNat:Int) b)
   else if(c.toNat:Int)=43 then(if plus=true then some (b,false) else rg l file rank true (c.toNat:Int) b)
   else(ja.f (c.toNat:Int) plus).bind λp=>if p=0\/file<0 then some (b,false) else rg l (file-1) rank false (c.toNat:Int) (b.set (9*file+rank).toNat p))
def Ascii (l:List UInt8):Prop:=∀c ∈ l,c.toNat<128
theorem dec_at (s:ByteArray) (l:List UInt8) (hl:s.data.toList=l) (ha:Ascii l) (pos:Nat) (h:pos<l.length):Utf8.decode s pos=((l[pos]'h).toNat,1)/\pos<s.size:=by
 have hsz:s.size=l.length:=by rw[<- hl];exact(Array.length_toList).symm
 have hb:s[pos]'(by omega)=l[pos]'h:=by subst hl;rfl
 refine⟨?_,by omega⟩;rw[decode_ascii s pos (by omega) (by rw[hb];exact ha _ (List.getElem_mem h)),hb]
theorem rg_is (s:ByteArray) (l:List UInt8) (hl:s.data.toList=l) (ha:Ascii l):∀(d k pos:Nat) (file rank:Int) (plus:Bool) (last:Int) (b:List Int),pos+d=l.length->d<=k ->
  jl.go s k pos file rank plus last b=rg (l.drop pos) file rank plus last b
 | 0,k,pos,file,rank,plus,last,b,h,hk=>by
  have hsz:s.size=l.length:=by rw[<- hl];exact(Array.length_toList).symm
  rw[List.drop_eq_nil_of_le (by omega)]
  cases k with
  | zero=>simp only[jl.go,rg];rw[if_neg (by omega)]
  | succ k=>simp only[jl.go,rg];rw[if_neg (by omega)]
 | d+1,k,pos,file,rank,plus,last,b,h,hk=>by
  obtain⟨k,rfl⟩:∃m,k=m+1:=⟨k-1,by omega⟩
  obtain⟨e1,e2⟩:=dec_at s l hl ha pos (by omega);have ih:=λfile rank plus last b=>rg_is s l hl ha d k (pos+1) file rank plus last b (by omega) (by omega);rw[List.drop_eq_getElem_cons (by omega)];simp only[jl.go,rg];rw[if_pos e2,e1];simp only[ih]
theorem ranks_is (s:ByteArray) (l:List UInt8) (hl:s.data.toList=l) (ha:Ascii l):jl.f s=rg l 8 0 false 32 jl.z81:=by
 have hsz:s.size=l.length:=by rw[<- hl];exact(Array.length_toList).symm
 unfold jl.f;have:=rg_is s l hl ha l.length s.size 0 8 0 false 32 jl.z81 (by omega) (by omega);rw[List.drop_zero] at this;exact this
theorem dig_is (n:Nat) (h1:1<=n) (h9:n<=9):(dig n).toNat=48+n:=by
 have:∀n:Fin 10,(dig n.1).toNat=48+n.1:=by decide +kernel
 exact this ⟨n,by omega⟩
theorem rg_gap (free:Nat) (rest:List UInt8) (f r:Int) (last:Int) (b:List Int) (h9:free<=9) (hf:-1<=f) (hlast:¬(49<=last/\last<=57)):
  ∃last',rg (gap free++rest) (f+free) r false last b=rg rest f r false last' b:=by
 unfold gap
 by_cases h:0<free
 ·rw[if_pos h]
  have hd:=dig_is free (by omega) h9;refine⟨((dig free).toNat:Int),?_⟩;rw[List.singleton_append];simp only[rg]
  rw[hd,if_neg (by omega),if_pos (by omega),if_neg (by
   rintro(h|h|h)
   ·exact absurd h (by decide)
   ·omega
   ·exact hlast h)]
  rw[show f+(free:Int)-(((48+free:Nat):Int)-48)=f by omega]
 ·rw[if_neg h,List.nil_append]
  exact⟨last,by rw[show f+(free:Int)=f by omega]⟩
theorem rg_name (x:Int) (hx:(Lit.int .i8 x).wf=true) (hk:j6 x≠0) (rest:List UInt8) (f r last:Int) (b:List Int) (hf:0<=f):
  rg (nmL x++rest) f r false last b=rg rest (f-1) r false ((ltr x).toNat:Int) (b.set (9*f+r).toNat x):=by
 obtain⟨_,h⟩:=jB8 x hx;obtain⟨h1,h2,h3⟩:=h hk;obtain⟨k1,_,_⟩:=yo x hk;unfold nmL;rw[if_neg hk]
 by_cases h8:8<j6 x
 ·rw[if_pos h8]
  rw[decide_eq_true h8] at h1;simp only[List.cons_append,List.nil_append,rg];have e43:((43:UInt8).toNat:Int)=43:=rfl;rw[e43,if_neg (by decide),if_neg (by decide),if_pos (by decide),if_neg (by decide),if_neg (by omega),if_neg (by omega),if_neg (by omega),h1,Option.bind_some,if_neg (by omega)]
 ·rw[if_neg h8]
  rw[decide_eq_false h8] at h1;simp only[List.cons_append,List.nil_append,rg];rw[if_neg (by omega),if_neg (by omega),if_neg (by omega),h1,Option.bind_some,if_neg (by omega)]
def put1 (p:Nat->Int) (r:Nat):Nat->List Int->List Int
 | 0,b=>b
 | d+1,b=>put1 p r d (if p (9*d+r)=0 then b else b.set (9*d+r) (p (9*d+r)))
theorem rg_row (p:Nat->Int) (hp:∀i,(Lit.int .i8 (p i)).wf=true) (hc:∀q,q<81->p q=0\/j6 (p q)≠0) (r:Nat) (hr:r<9) (rest:List UInt8):∀(d free:Nat) (last:Int) (b:List Int),d+free<=9->¬(49<=last/\last<=57) ->
  ∃last',rg (rowT p r d free++rest) ((d:Int)-1+free) r false last b=rg rest (-1) r false last' (put1 p r d b)
 | 0,free,last,b,h,hl=>by
  simp only[rowT,put1];have:=rg_gap free rest (-1) r last b (by omega) (by omega) hl;rw[show((0:Nat):Int)-1+(free:Int) = -1+(free:Int) by omega];exact this
 | d+1,free,last,b,h,hl=>by
  simp only[rowT,put1]
  by_cases h0:p (9*d+r)=0
  ·rw[if_pos h0,if_pos h0]
   have:=rg_row p hp hc r hr rest d (free+1) last b (by omega) hl;rw[show((d:Nat):Int)-1+((free+1:Nat):Int)=((d+1:Nat):Int)-1+(free:Int) by omega] at this;exact this
  ·rw[if_neg h0,if_neg h0]
   have hk:=(hc (9*d+r) (by omega)).resolve_left h0;obtain⟨_,hn⟩:=jB8 _ (hp (9*d+r));obtain⟨_,h2,h3⟩:=hn hk;obtain⟨l1,e1⟩:=rg_gap free (nmL (p (9*d+r))++(rowT p r d 0++rest)) d r last b (by omega) (by omega) hl;have e2:=rg_name (p (9*d+r)) (hp _) hk (rowT p r d 0++rest) d r l1 b (by omega);obtain⟨l3,e3⟩:=rg_row p hp hc r hr rest d 0 ((ltr (p (9*d+r))).toNat:Int) (b.set (9*d+r) (p (9*d+r))) (by omega) (by omega);refine⟨l3,?_⟩;rw[<- e3,show((d:Nat):Int)-1+((0:Nat):Int)=(d:Int)-1 by omega];rw[show(9*(d:Int)+(r:Int)).toNat=9*d+r by omega] at e2;rw[<- e2,<- e1,show((d+1:Nat):Int)-1+(free:Int)=(d:Int)+(free:Int) by omega];simp only[List.append_assoc]
def put9 (p:Nat->Int):Nat->Nat->List Int->List Int
 | _,0,b=>b
 | r,d+1,b=>put9 p (r+1) d (put1 p r 9 b)
theorem rg_rows (p:Nat->Int) (hp:∀i,(Lit.int .i8 (p i)).wf=true) (hc:∀q,q<81->p q=0\/j6 (p q)≠0):∀(d r:Nat) (last:Int) (b:List Int),r+(d+1)=9->¬(49<=last/\last<=57) ->
  rg (jAQ p r (d+1)) 8 r false last b=some (put9 p r (d+1) b,true)
 | 0,r,last,b,h,hl=>by
  simp only[jAQ,put9];obtain⟨l',e⟩:=rg_row p hp hc r (by omega) [] 9 0 last b (by omega) hl;rw[if_neg (by omega),List.append_nil] at *;rw[show((9:Nat):Int)-1+((0:Nat):Int)=8 by omega] at e;rw[List.append_nil,e];simp only[rg,jl.done];rw[show(r:Int)=8 by omega]
  rfl
 | d+1,r,last,b,h,hl=>by
  rw[jAQ,put9];obtain⟨l',e⟩:=rg_row p hp hc r (by omega) ([47]++jAQ p (r+1) (d+1)) 9 0 last b (by omega) hl;rw[show((9:Nat):Int)-1+((0:Nat):Int)=8 by omega] at e;rw[if_pos (by omega),List.append_assoc,e,List.singleton_append,rg];have e47:((47:UInt8).toNat:Int)=47:=rfl
  rw[e47,if_pos rfl,if_neg (by
   rintro(h|h|h)
   ·exact h rfl
   ·exact absurd h (by decide)
   ·omega),show(r:Int)+1=((r+1:Nat):Int) by omega]
  exact rg_rows p hp hc d (r+1) 47 _ (by omega) (by omega)
theorem put1_len (p:Nat->Int) (r:Nat):∀d b,(put1 p r d b).length=b.length
 | 0,_=>rfl
 | d+1,b=>by
  simp only[put1];rw[put1_len p r d]
  split
  ·rfl
  ·rw[List.length_set]
theorem put1_get (p:Nat->Int) (r:Nat) (hr:r<9):∀d b, d<=9->b.length=81->∀f s, f<9->s<9->(put1 p r d b).getD (9*f+s) 0=if s=r/\f<d/\p (9*f+s)≠0 then p (9*f+s) else b.getD (9*f+s) 0
 | 0,b,_,_,f,s,_,_=>by rw[if_neg (by omega)];rfl
 | d+1,b,hd,hb,f,s,hf,hs=>by
  simp only[put1];rw[put1_get p r hr d _ (by omega) (by split;exact hb;rw[List.length_set];exact hb) f s hf hs]
  by_cases h0:p (9*d+r)=0
  ·rw[if_pos h0]
   by_cases a:s=r/\f<d/\p (9*f+s)≠0
   ·rw[if_pos a,if_pos ⟨a.1,by omega,a.2.2⟩]
   ·rw[if_neg a,if_neg]
    rintro⟨q1,q2,q3⟩;refine a ⟨q1,?_,q3⟩
    by_cases e:f=d
    ·subst e;subst q1;exact absurd h0 q3
    ·omega
  ·rw[if_neg h0]
   by_cases a:s=r/\f<d/\p (9*f+s)≠0
   ·rw[if_pos a,if_pos ⟨a.1,by omega,a.2.2⟩]
   ·rw[if_neg a,jAU _ _ _ _ (by omega)]
    by_cases e:9*f+s=9*d+r
    ·have e1:f=d:=by omega
     have e2:s=r:=by omega
     subst e1;subst e2;rw[if_pos rfl,if_pos ⟨rfl,by omega,h0⟩]
    ·rw[if_neg e,if_neg]
     rintro⟨q1,q2,q3⟩;exact a ⟨q1,by omega,q3⟩
theorem put9_len (p:Nat->Int):∀d r b,(put9 p r d b).length=b.length
 | 0,_,_=>rfl
 | d+1,r,b=>by simp only[put9];rw[put9_len p d,put1_len]
theorem put9_get (p:Nat->Int):∀d r b, r+d=9->b.length=81->∀f s, f<9->s<9->(put9 p r d b).getD (9*f+s) 0=if r<=s/\p (9*f+s)≠0 then p (9*f+s) else b.getD (9*f+s) 0
 | 0,r,b,h,_,f,s,hf,hs=>by rw[if_neg (by omega)];rfl
 | d+1,r,b,h,hb,f,s,hf,hs=>by
  simp only[put9];rw[put9_get p d (r+1) _ (by omega) (by rw[put1_len];exact hb) f s hf hs,put1_get p r (by omega) 9 b (by omega) hb f s hf hs]
  by_cases a:r+1<=s/\p (9*f+s)≠0
  ·rw[if_pos a,if_pos ⟨by omega,a.2⟩]
  ·rw[if_neg a]
   by_cases e:s=r/\f<9/\p (9*f+s)≠0
   ·rw[if_pos e,if_pos ⟨by omega,e.2.2⟩]
   ·rw[if_neg e,if_neg]
    rintro⟨q1,q2⟩
    by_cases z:s=r
    ·exact e ⟨z,hf,q2⟩
    ·exact a ⟨by omega,q2⟩
theorem ext_getD {a b:List Int} (h1:a.length=b.length) (h2:∀i,i<a.length->a.getD i 0=b.getD i 0):a=b:=by
 apply List.ext_getElem h1
 intro i ha hb;have:=h2 i ha;rw[List.getD_eq_getElem?_getD,List.getD_eq_getElem?_getD,List.getElem?_eq_getElem ha,List.getElem?_eq_getElem hb] at this;exact this
theorem put9_all (cs:List Int) (hl:81<=cs.length):put9 (λi=>cs.getD i 0) 0 9 jl.z81=cs.take 81:=by
 apply ext_getD
 ·rw[put9_len,List.length_take]
  show 81=_;omega
 ·intro i hi
  rw[put9_len] at hi;have hi:i<81:=hi;have:=put9_get (λi=>cs.getD i 0) 9 0 jl.z81 rfl rfl (i/9) (i%9) (by omega) (by omega);rw[show 9*(i/9)+i%9=i by omega] at this;rw[this]
  have hz:jl.z81.getD i 0=0:=by
   unfold jl.z81;rw[List.getD_eq_getElem?_getD,List.getElem?_replicate,if_pos hi];rfl
  rw[hz,List.getD_eq_getElem?_getD (l:=cs.take 81),List.getElem?_take_of_lt hi,<- List.getD_eq_getElem?_getD]
  by_cases e:cs.getD i 0=0
  ·rw[if_neg (λh=>h.2 e),e]
  ·rw[if_pos ⟨Nat.zero_le _,e⟩]
def hg (ne:Bool):List UInt8->Int->Int->List Int->Option (List Int×Bool)
 | [],n,dg,b=>some (b,(dg==0)&&ne)
 | c::l,n,dg,b=>
   (if 48<=(c.toNat:Int)/\(c.toNat:Int)<=57 then
    (if dg=2\/10*n+((c.toNat:Int)-48)=0 then some (b,false) else hg ne l (10*n+((c.toNat:Int)-48)) (dg+1) b)
   else(ja.f (c.toNat:Int) false).bind λp=>(jS.f 20 p).bind λkd=>
    if kd=0\/kd=8\/(0<dg/\18<n) then some (b,false) else(jv.f 20 p).bind λsd=>if 0<=sd/\sd<2/\0<=kd/\kd<8 then
     (if b.getD (sd.toNat*8+kd.toNat) 0≠0 then some (b,false) else hg ne l 0 0 (b.set (sd.toNat*8+kd.toNat) (max 1 n))) else none)
theorem yk (s:ByteArray) (l:List UInt8) (hl:s.data.toList=l):s.toList=l:=by
 rw[<- hl];rw[ByteArray.toList_eq]
theorem hg_is (s:ByteArray) (l:List UInt8) (hl:s.data.toList=l) (ha:Ascii l):∀(d k pos:Nat) (n dg:Int) (b:List Int),pos+d=l.length->d<=k ->
  js.go s k pos n dg b=hg (!(l==[])) (l.drop pos) n dg b
 | 0,k,pos,n,dg,b,h,hk=>by
  have hsz:s.size=l.length:=by rw[<- hl];exact(Array.length_toList).symm
  rw[List.drop_eq_nil_of_le (by omega)]
  cases k with
  | zero=>simp only[js.go,hg];rw[if_neg (by omega),yk s l hl]
  | succ k=>simp only[js.go,hg];rw[if_neg (by omega),yk s l hl]
 | d+1,k,pos,n,dg,b,h,hk=>by
  obtain⟨k,rfl⟩:∃m,k=m+1:=⟨k-1,by omega⟩
  obtain⟨e1,e2⟩:=dec_at s l hl ha pos (by omega);have ih:=λn dg b=>hg_is s l hl ha d k (pos+1) n dg b (by omega) (by omega);rw[List.drop_eq_getElem_cons (by omega)];simp only[js.go,hg];rw[if_pos e2,e1];simp only[ih]
theorem hands_is (s:ByteArray) (l:List UInt8) (hl:s.data.toList=l) (ha:Ascii l):js.f s=if(l==[45])=true then some (js.z16,true) else hg (!(l==[])) l 0 0 js.z16:=by
 have hsz:s.size=l.length:=by rw[<- hl];exact(Array.length_toList).symm
 unfold js.f;have:=hg_is s l hl ha l.length s.size 0 0 0 js.z16 (by omega) (by omega);rw[List.drop_zero] at this;rw[this,yk s l hl]
theorem num_small (n:Nat) (h1:1<=n) (h:n<=18):num (n:Int)=if n=1 then[] else if n<10 then[UInt8.ofNat (48+n)] else[49,UInt8.ofNat (48+n%10)]:=by
 unfold num Lib.itoa
 by_cases e1:n=1
 ·rw[if_neg (by omega),if_pos e1]
 ·rw[if_pos (by omega),if_neg e1,if_neg (by omega),Int.toNat_natCast]
  by_cases e2:n<10
  ·rw[if_pos e2,Lib.decDigits_one e2]
  ·rw[if_neg e2,Lib.decDigits_two e2 (by omega),show n/10=1 by omega]
   rfl
theorem jB3 (m:Nat) (h:m<10):(UInt8.ofNat (48+m)).toNat=48+m:=by
 have:∀m:Fin 10,(UInt8.ofNat (48+m.1)).toNat=48+m.1:=by decide +kernel
 exact this ⟨m,h⟩
theorem hg_num (ne:Bool) (n:Nat) (h1:1<=n) (h18:n<=18) (rest:List UInt8) (b:List Int):∃m dg:Int,hg ne (num (n:Int)++rest) 0 0 b=hg ne rest m dg b/\max 1 m=(n:Int)/\¬(0<dg/\18<m):=by
 rw[num_small n h1 h18]
 by_cases e1:n=1
 ·rw[if_pos e1,List.nil_append]
  exact⟨0,0,rfl,by subst e1;rfl,by omega⟩
 ·rw[if_neg e1]
  by_cases e2:n<10
  ·rw[if_pos e2]
   have hd:=jB3 n e2;refine⟨n,1,?_,by rw[Int.max_def,if_pos (by omega)],by omega⟩;rw[List.singleton_append,hg,hd,if_pos (by omega),if_neg (by omega)];rw[show 10*(0:Int)+(((48+n:Nat):Int)-48)=n by omega];rfl
  ·rw[if_neg e2]
   have hd:=jB3 (n%10) (by omega);have h49:((49:UInt8).toNat:Int)=49:=rfl;refine⟨n,2,?_,by rw[Int.max_def,if_pos (by omega)],by omega⟩;rw[List.cons_append,List.singleton_append,hg,h49,if_pos (by decide),if_neg (by decide),hg,hd,if_pos (by omega),if_neg (by omega)];rw[show 10*(10*(0:Int)+(49-48))+(((48+n%10:Nat):Int)-48)=n by omega];rfl
theorem hg_one (ne:Bool) (s k n:Nat) (hs:s<2) (hk1:1<=k) (hk:k<=7) (h1:1<=n) (h18:n<=18) (rest:List UInt8) (b:List Int) (hb:b.getD (8*s+k) 0=0):
  hg ne (num (n:Int)++nmL ((16*s+k:Nat):Int)++rest) 0 0 b=hg ne rest 0 0 (b.set (8*s+k) (n:Int)):=by
 obtain⟨c1,c2,c3⟩:=jBK s k hs hk1 (by omega) (by omega);obtain⟨m,dg,e1,e2,e3⟩:=hg_num ne n h1 h18 (nmL ((16*s+k:Nat):Int)++rest) b;obtain⟨_,hn⟩:=jB8 _ c3;obtain⟨n1,n2,n3⟩:=hn (by omega);obtain⟨p1,p2⟩:=jAS _ c3;rw[List.append_assoc,e1];unfold nmL;rw[c1,if_neg (by omega),if_neg (by omega),List.singleton_append,hg,if_neg (by omega)];rw[c1,decide_eq_false (by omega)] at n1;rw[n1,Option.bind_some,p1 20 (by omega),Option.bind_some,c1,if_neg (by omega),p2 20 (by omega),Option.bind_some,c2,if_pos (by omega),Int.toNat_natCast,Int.toNat_natCast,show s*8+k=8*s+k by omega,if_neg (by rw[hb];decide),e2]
def putH (p:Nat->Int) (s:Nat):Nat->Nat->List Int->List Int
 | _,0,b=>b
 | j,d+1,b=>putH p s (j+1) d (if p (81+8*s+(7-j))=0 then b else b.set (8*s+(7-j)) (p (81+8*s+(7-j))))
theorem hg_hand (ne:Bool) (p:Nat->Int) (hh:∀i,i<16->0<=p (81+i)/\p (81+i)<=18) (s:Nat) (hs:s<2) (rest:List UInt8):∀(d j:Nat) (b:List Int),j+d=7->b.length=16->(∀k,1<=k->k<=7-j->b.getD (8*s+k) 0=0) ->
  hg ne (yz p s j d++rest) 0 0 b=hg ne rest 0 0 (putH p s j d b)
 | 0,_,_,_,_,_=>rfl
 | d+1,j,b,h,hb,hz=>by
  simp only[yz,putH];have hpn:=hh (8*s+(7-j)) (by omega);rw[show 81+(8*s+(7-j))=81+8*s+(7-j) by omega] at hpn
  by_cases h0:p (81+8*s+(7-j))=0
  ·rw[if_pos h0,if_pos h0,List.nil_append]
   exact hg_hand ne p hh s hs rest d (j+1) b (by omega) hb (λk h1 h2=>hz k h1 (by omega))
  ·rw[if_neg h0,if_neg h0]
   obtain⟨n,hn⟩:∃n:Nat,p (81+8*s+(7-j))=n:=⟨(p (81+8*s+(7-j))).toNat,by omega⟩
   rw[hn,List.append_assoc,hg_one ne s (7-j) n hs (by omega) (by omega) (by omega) (by omega) _ b (hz _ (by omega) (by omega))];refine hg_hand ne p hh s hs rest d (j+1) _ (by omega) (by rw[List.length_set];exact hb) (λk h1 h2=>?_);rw[jAU _ _ _ _ (by omega),if_neg (by omega)];exact hz k h1 (by omega)
theorem jBM (p:Nat->Int) (s:Nat):∀d j b,(putH p s j d b).length=b.length
 | 0,_,_=>rfl
 | d+1,j,b=>by
  simp only[putH];rw[jBM p s d]
  split
  ·rfl
  ·rw[List.length_set]
theorem putH_get (p:Nat->Int) (s:Nat) (hs:s<2):∀d j b, j+d=7->b.length=16->∀i, i<16->(putH p s j d b).getD i 0=if 8*s+1<=i/\i<=8*s+(7-j)/\p (81+i)≠0 then p (81+i) else b.getD i 0
 | 0,j,b,h,hb,i,hi=>by rw[if_neg (by omega)];rfl
 | d+1,j,b,h,hb,i,hi=>by
  simp only[putH];rw[putH_get p s hs d (j+1) _ (by omega) (by split;exact hb;rw[List.length_set];exact hb) i hi]
  by_cases a:8*s+1<=i/\i<=8*s+(7-(j+1))/\p (81+i)≠0
  ·rw[if_pos a,if_pos ⟨a.1,by omega,a.2.2⟩]
  ·rw[if_neg a]
   by_cases h0:p (81+8*s+(7-j))=0
   ·rw[if_pos h0,if_neg]
    rintro⟨q1,q2,q3⟩
    by_cases e:i=8*s+(7-j)
    ·subst e
     exact q3 (by rw[<- Nat.add_assoc];exact h0)
    ·exact a ⟨q1,by omega,q3⟩
   ·rw[if_neg h0,jAU _ _ _ _ (by omega)]
    by_cases e:i=8*s+(7-j)
    ·rw[if_pos e,if_pos]
     ·rw[e,<- Nat.add_assoc]
     ·rw[e,<- Nat.add_assoc]
      exact⟨by omega,Nat.le_refl _,h0⟩
    ·rw[if_neg e,if_neg]
     rintro⟨q1,q2,q3⟩;exact a ⟨q1,by omega,q3⟩
theorem putH_all (p:Nat->Int) (h0:p 81=0) (h8:p 89=0):putH p 1 0 7 (putH p 0 0 7 js.z16)=(List.range 16).map λi=>p (81+i):=by
 apply ext_getD
 ·rw[jBM,jBM];simp [js.z16]
 ·intro i hi
  rw[jBM,jBM] at hi;have hi:i<16:=hi;rw[putH_get p 1 (by omega) 7 0 _ rfl (by rw[jBM];rfl) i hi,putH_get p 0 (by omega) 7 0 _ rfl rfl i hi]
  have hz:js.z16.getD i 0=0:=by
   unfold js.z16;rw[List.getD_eq_getElem?_getD,List.getElem?_replicate,if_pos hi];rfl
  have hr:((List.range 16).map λi=>p (81+i)).getD i 0=p (81+i):=by
   rw[List.getD_eq_getElem?_getD,List.getElem?_map,List.getElem?_range hi];rfl
  rw[hz,hr]
  by_cases e:p (81+i)=0
  ·rw[if_neg (λh=>h.2.2 e),if_neg (λh=>h.2.2 e),e]
  ·by_cases a:8*1+1<=i/\i<=8*1+(7-0)/\p (81+i)≠0
   ·rw[if_pos a]
   ·rw[if_neg a,if_pos]
    refine⟨?_,?_,e⟩
    ·by_cases z:i=0
     ·subst z;exact absurd h0 e
     ·omega
    ·by_cases z:i=8
     ·subst z;exact absurd h8 e
     ·by_cases w:8<i
      ·exact absurd ⟨by omega,by omega,e⟩ a
      ·omega
def mkB (l:List UInt8):ByteArray:=⟨l.toArray⟩
theorem zk (l:List UInt8):(mkB l).data.toList=l:=List.toList_toArray
theorem eqB {s:ByteArray} {l:List UInt8} (h:s.data.toList=l):s=mkB l:=by
 subst h
 cases s
 simp [mkB]
theorem zt (l:List UInt8):(mkB l).size=l.length:=(Array.length_toList).symm.trans (congrArg List.length (zk l))
theorem occ_sp (l:List UInt8) (i:Nat):Lib.occAt l [32] i=decide (l[i]?=some 32):=by
 unfold Lib.occAt
 by_cases h:i<l.length
 ·rw[List.drop_eq_getElem_cons h,List.getElem?_eq_getElem h]
  simp only[List.isPrefixOf_cons_cons,List.isPrefixOf_nil_left,Bool.and_true];rw[Bool.eq_iff_iff,beq_iff_eq,decide_eq_true_eq];exact⟨λe=>by rw[e],λe=>(Option.some.inj e).symm⟩
 ·rw[List.drop_eq_nil_of_le (by omega),List.getElem?_eq_none (by omega)]
  rfl
theorem index_hit (a r:List UInt8) (ha:(32:UInt8) ∉ a):Lib.index (a++32::r) [32]=(a.length:Int):=by
 refine Lib.index_first (by rw[List.length_append];omega) ?_ λj hj=>?_
 ·rw[occ_sp,decide_eq_true_eq,List.getElem?_append_right (Nat.le_refl _),Nat.sub_self];rfl
 ·rw[occ_sp,decide_eq_false_iff_not,List.getElem?_append_left hj,List.getElem?_eq_getElem hj]
  intro e;exact ha (Option.some.inj e ▸ List.getElem_mem hj)
theorem index_miss (a:List UInt8) (ha:(32:UInt8) ∉ a):Lib.index a [32] = -1:=by
 refine Lib.index_none λj _=>?_;rw[occ_sp,decide_eq_false_iff_not];intro e;exact ha (List.mem_of_getElem? e)
theorem count_sp:∀(k:Nat) (l:List UInt8),l.length<=k->Lib.count l [32]=l.count 32
 | 0,l,h=>by
  obtain rfl:l=[]:=List.length_eq_zero_iff.1 (by omega)
  rfl
 | k+1,l,h=>by
  by_cases hm:(32:UInt8) ∈ l
  ·obtain⟨a,r,rfl,ha⟩:=List.eq_append_cons_of_mem hm
   rw[Lib.count_hit (i:=a.length) (by decide) (index_hit a r ha)]
   have e:(a++32::r).drop (a.length+[(32:UInt8)].length)=r:=by
    rw[List.drop_append,List.drop_eq_nil_of_le (by simp)]
    simp
   rw[e,count_sp k r (by simp at h;omega),List.count_append,List.count_cons_self,List.count_eq_zero_of_not_mem ha];omega
  ·rw[Lib.count_miss (index_miss l hm),List.count_eq_zero_of_not_mem hm]
theorem split_hit (k:Nat) (a r:List UInt8) (ha:(32:UInt8) ∉ a):Lib.splitB jk.sp 0 (k+1) (mkB (a++32::r))=mkB a::Lib.splitB jk.sp 0 k (mkB r):=by
 have hi:Lib.indexB (mkB (a++32::r)) jk.sp=(a.length:Int):=by
  show Lib.index (mkB (a++32::r)).data.toList [32]=_;rw[zk];exact index_hit a r ha
 rw[Lib.splitB_hit _ _ _ _ _ hi]
 congr 1
 ·refine eqB ?_
  rw[Lib.extract_from_zero,zk,Nat.add_zero,List.take_left']
  rfl
 ·congr 1
  refine eqB ?_;rw[Lib.extract_to_end,zk];show List.drop (a.length+1) _=_;rw[List.drop_append,List.drop_eq_nil_of_le (by omega),List.nil_append,show a.length+1-a.length=1 by omega]
  rfl
theorem split_end (k:Nat) (a:List UInt8) (ha:(32:UInt8) ∉ a):Lib.splitB jk.sp 0 k (mkB a)=[mkB a]:=by
 refine Lib.splitB_miss _ _ _ _ ?_;show Lib.index (mkB a).data.toList [32]=_;rw[zk];exact index_miss a ha
theorem split4 (a b h n:List UInt8) (ha:(32:UInt8) ∉ a) (hb:(32:UInt8) ∉ b) (hh:(32:UInt8) ∉ h) (hn:(32:UInt8) ∉ n):
  Lib.countB (mkB (a++32::(b++32::(h++32::n)))) jk.sp=3/\Lib.splitB jk.sp 0 3 (mkB (a++32::(b++32::(h++32::n))))=[mkB a,mkB b,mkB h,mkB n]:=by
 refine⟨?_,?_⟩
 ·show Lib.count (mkB _).data.toList [32]=3
  rw[zk,count_sp _ _ (Nat.le_refl _)];simp only[List.count_append,List.count_cons_self,List.count_eq_zero_of_not_mem ha,List.count_eq_zero_of_not_mem hb,List.count_eq_zero_of_not_mem hh,List.count_eq_zero_of_not_mem hn]
 ·rw[split_hit 2 a _ ha,split_hit 1 b _ hb,split_hit 0 h _ hh,split_end 0 n hn]
theorem parse4 (a b h n:List UInt8) (ha:(32:UInt8) ∉ a) (hb:(32:UInt8) ∉ b) (hh:(32:UInt8) ∉ h) (hn:(32:UInt8) ∉ n) (hs:(a++32::(b++32::(h++32::n))).length<=200):
  jk.f (mkB (a++32::(b++32::(h++32::n))))=(jl.f (mkB a)).bind λx=>(js.f (mkB h)).bind λy=>
   if jk.bad (mkB b) x.2 y.2=true then some (jk.zl,0,70) else
   match jAG (mkB n) with
   | none=>some (jk.zl,0,70)
   | some v=>if(!(Lib.itoa v==n))=true\/v<1\/9999<v then some (jk.zl,0,70) else
    (zR.f (x.1++y.1++[if(b==[119])=true then 1 else 0])).bind λe=>
     if e=0 then some (x.1++y.1++[if(b==[119])=true then 1 else 0],v,0) else some (jk.zl,0,e):=by
 obtain⟨e1,e2⟩:=split4 a b h n ha hb hh hn;unfold jk.f;rw[if_neg (by rw[zt];omega),if_neg (by rw[e1];decide),e2];simp only[List.getD_cons_zero,List.getD_cons_succ,yk _ _ (zk b),yk _ _ (zk n)]
 rfl
theorem parse_few (l:List UInt8) (hs:l.length<=200) (hc:l.count 32≠3):jk.f (mkB l)=some (jk.zl,0,70):=by
 unfold jk.f;rw[if_neg (by rw[zt];omega),if_pos];show Lib.count (mkB l).data.toList [32]≠3;rw[zk,count_sp _ _ (Nat.le_refl _)];exact hc
def ya (l:List UInt8):Prop:=∀c ∈ l,c.toNat<128/\c≠32
theorem ya.nil:ya []:=λc h=>by cases h
theorem ya.app {a b:List UInt8} (h1:ya a) (h2:ya b):ya (a++b):=λc h=>(List.mem_append.1 h).elim (h1 c) (h2 c)
theorem ya.one {c:UInt8} (h:c.toNat<128/\33<=c.toNat):ya [c]:=λd hd=>by
 obtain rfl:=List.mem_singleton.1 hd;exact⟨h.1,λe=>by subst e;exact absurd h.2 (by decide)⟩
theorem ya.ascii {l:List UInt8} (h:ya l):Ascii l:=λc hc=>(h c hc).1
theorem ya.no {l:List UInt8} (h:ya l):(32:UInt8) ∉ l:=λhm=>(h _ hm).2 rfl
theorem ofNat48 (u:Nat) (h:u<10):(UInt8.ofNat (48+u)).toNat=48+u:=jB3 u h
theorem decFrom_app (c:UInt8) (d:Nat) (hd:Lib.digitVal c=some d):∀(l:List UInt8) (acc m:Nat),Lib.decFrom acc l=some m->Lib.decFrom acc (l++[c])=some (m*10+d)
 | [],acc,m,h=>by
  simp only[Lib.decFrom,Option.some.injEq] at h;subst h
  simp [Lib.decFrom,hd]
 | b::r,acc,m,h=>by
  simp only[List.cons_append,Lib.decFrom] at h ⊢
  cases hb:Lib.digitVal b with
  | none=>rw[hb] at h;cases h
  | some e=>rw[hb] at h;exact decFrom_app c d hd r _ m h
theorem digitVal_48 (u:Nat) (h:u<10):Lib.digitVal (UInt8.ofNat (48+u))=some u:=by
 unfold Lib.digitVal;rw[ofNat48 u h,if_pos (by omega),show 48+u-48=u by omega]
theorem dec_is:∀(k u:Nat),u<10^(k+1)->Lib.decFrom 0 (Lib.decDigits u)=some u/\(Lib.decDigits u).length<=k+1/\(Lib.decDigits u≠[])/\∀c ∈ Lib.decDigits u,48<=c.toNat/\c.toNat<=57
 | k,u,hu=>by
  by_cases h:u<10
  ·rw[Lib.decDigits_one h]
   refine⟨?_,by simp,by simp,λc hc=>?_⟩
   ·show(match Lib.digitVal (UInt8.ofNat (48+u)) with|some d=>Lib.decFrom (0*10+d) []|none=>none)=some u
    rw[digitVal_48 u h];show some (0*10+u)=some u
    congr 1;omega
   ·obtain rfl:=List.mem_singleton.1 hc
    rw[ofNat48 u h];omega
  ·cases k with
   | zero=>omega
   | succ k=>
    obtain⟨h1,h2,h3,h4⟩:=dec_is k (u/10) (by rw[Nat.pow_succ] at hu;omega);rw[Lib.decDigits,dif_neg h];refine⟨?_,by rw[List.length_append];show _+1<=_;omega,by simp,λc hc=>?_⟩
    ·rw[decFrom_app _ (u%10) (digitVal_48 _ (by omega)) _ 0 (u/10) h1]
     congr 1;omega
    ·rcases List.mem_append.1 hc with hc|hc
     ·exact h4 c hc
     ·obtain rfl:=List.mem_singleton.1 hc
      rw[ofNat48 _ (by omega)];omega
theorem jBW (v:Int) (h0:0<=v) (h:v<100000):Lib.itoa v=Lib.decDigits v.toNat:=by unfold Lib.itoa;rw[if_neg (by omega)]
theorem itoa_plain (v:Int) (h0:0<=v) (h:v<100000):ya (Lib.itoa v):=by
 obtain⟨_,_,_,h4⟩:=dec_is 4 v.toNat (by omega);rw[jBW v h0 h]
 exact λc hc=>⟨by have:=h4 c hc;omega,λe=>by have:=h4 c hc;rw[e] at this;exact absurd this.1 (by decide)⟩
theorem itoa_len (v:Int) (h0:0<=v) (h:v<=9999):(Lib.itoa v).length<=4:=by
 rw[jBW v h0 (by omega)];exact(dec_is 3 v.toNat (by omega)).2.1
theorem atoi_short (l:List UInt8) (hl:l.length<=18):jAG (mkB l)=Lib.atoi l:=by
 unfold jAG;rw[zk,Lib.atoiAll_short l hl]
 cases Lib.atoi l<;>rfl
theorem atoi_digits (l:List UInt8) (m:Nat) (h1:Lib.decFrom 0 l=some m) (h2:l≠[]) (h3:∀c ∈ l,48<=c.toNat/\c.toNat<=57):Lib.atoi l=some (m:Int):=by
 cases l with
 | nil=>exact absurd rfl h2
 | cons b r=>
  have hb:=h3 b (List.mem_cons_self ..);unfold Lib.atoi;dsimp only;rw[if_neg (by rw[beq_iff_eq];intro e;subst e;exact absurd hb.1 (by decide)),if_neg (by rw[beq_iff_eq];intro e;subst e;exact absurd hb.1 (by decide))];unfold Lib.decNat;rw[if_neg (by simp),h1];rfl
theorem atoi_itoa (v:Int) (h0:0<=v) (h:v<100000):jAG (mkB (Lib.itoa v))=some v:=by
 obtain⟨h1,h2,h3,h4⟩:=dec_is 4 v.toNat (by omega);rw[jBW v h0 h,atoi_short _ (by omega),atoi_digits _ _ h1 h3 h4]
 congr 1;omega
theorem gap_plain (free:Nat) (h:free<=9):ya (gap free):=by
 unfold gap
 split
 ·have:=dig_is free (by omega) h
  exact ya.one (by omega)
 ·exact ya.nil
theorem name_plain (x:Int) (hx:(Lit.int .i8 x).wf=true):ya (nmL x):=by
 obtain⟨_,hn⟩:=jB8 x hx;unfold nmL
 split
 ·exact ya.nil
 ·rename_i hk
  obtain⟨_,n2,n3⟩:=hn hk
  split
  ·exact ya.app (a:=[43]) (ya.one (by decide)) (ya.one (by omega))
  ·exact ya.one (by omega)
theorem row_plain (p:Nat->Int) (hp:∀i,(Lit.int .i8 (p i)).wf=true) (r:Nat):∀d free,d+free<=9->ya (rowT p r d free)
 | 0,free,h=>gap_plain free (by omega)
 | d+1,free,h=>by
  simp only[rowT]
  split
  ·exact row_plain p hp r d (free+1) (by omega)
  ·exact((gap_plain free (by omega)).app (name_plain _ (hp _))).app (row_plain p hp r d 0 (by omega))
theorem rows_plain (p:Nat->Int) (hp:∀i,(Lit.int .i8 (p i)).wf=true):∀d r,ya (jAQ p r d)
 | 0,_=>ya.nil
 | d+1,r=>by
  simp only[jAQ];refine((row_plain p hp r 9 0 (by omega)).app ?_).app (rows_plain p hp d (r+1))
  split
  ·exact ya.one (by decide)
  ·exact ya.nil
theorem num_plain (n:Nat) (h:n<=18):ya (num (n:Int)):=by
 unfold num
 split
 ·exact itoa_plain _ (by omega) (by omega)
 ·exact ya.nil
theorem num_len (n:Nat) (h1:1<=n) (h:n<=18) (s k:Nat) (hs:s<2) (hk1:1<=k) (hk:k<=7):(num (n:Int)++nmL ((16*s+k:Nat):Int)).length<=n/\ya (num (n:Int)++nmL ((16*s+k:Nat):Int)):=by
 obtain⟨c1,c2,c3⟩:=jBK s k hs hk1 (by omega) (by omega);refine⟨?_,(num_plain n h).app (name_plain _ c3)⟩
 have hnm:nmL ((16*s+k:Nat):Int)=[ltr ((16*s+k:Nat):Int)]:=by unfold nmL;rw[c1,if_neg (by omega),if_neg (by omega)]
 rw[List.length_append,num_small n h1 h,hnm]
 split
 ·show 0+1<=n;omega
 ·split
  ·show 1+1<=n;omega
  ·show 2+1<=n;omega
def hsum (p:Nat->Int) (s:Nat):Nat->Nat->Nat
 | _,0=>0
 | j,d+1=>(p (81+8*s+(7-j))).toNat+hsum p s (j+1) d
theorem hand_len (p:Nat->Int) (hh:∀i,i<16->0<=p (81+i)/\p (81+i)<=18) (s:Nat) (hs:s<2):∀d j,j+d=7->(yz p s j d).length<=hsum p s j d/\ya (yz p s j d)
 | 0,_,_=>⟨Nat.le_refl _,ya.nil⟩
 | d+1,j,h=>by
  obtain⟨i1,i2⟩:=hand_len p hh s hs d (j+1) (by omega);have hpn:=hh (8*s+(7-j)) (by omega);rw[show 81+(8*s+(7-j))=81+8*s+(7-j) by omega] at hpn;simp only[yz,hsum]
  by_cases h0:p (81+8*s+(7-j))=0
  ·rw[if_pos h0,List.nil_append]
   exact⟨by omega,i2⟩
  ·rw[if_neg h0]
   obtain⟨n,hn⟩:∃n:Nat,p (81+8*s+(7-j))=n:=⟨(p (81+8*s+(7-j))).toNat,by omega⟩
   rw[hn];obtain⟨n1,n2⟩:=num_len n (by omega) (by omega) s (7-j) hs (by omega) (by omega);rw[List.length_append];exact⟨by omega,n2.app i2⟩
def nzr (p:Nat->Int) (r:Nat):Nat->Nat
 | 0=>0
 | d+1=>(if p (9*d+r)=0 then 0 else 1)+nzr p r d
theorem row_len (p:Nat->Int) (r:Nat):∀d free,(rowT p r d free).length<=3*nzr p r d+1
 | 0,free=>by
  simp only[rowT,gap]
  split
  ·show 1<=_;omega
  ·show 0<=_;omega
 | d+1,free=>by
  simp only[rowT,nzr]
  by_cases h:p (9*d+r)=0
  ·rw[if_pos h,if_pos h]
   have:=row_len p r d (free+1);omega
  ·rw[if_neg h,if_neg h,List.length_append,List.length_append]
   have h1:=row_len p r d 0;have h2:=nmL_len (p (9*d+r))
   have h3:(gap free).length<=1:=by unfold gap;split<;>simp
   omega
def nz9 (p:Nat->Int):Nat->Nat->Nat
 | _,0=>0
 | r,d+1=>nzr p r 9+nz9 p (r+1) d
theorem rows_len (p:Nat->Int):∀d r,r+d=9->(jAQ p r d).length<=3*nz9 p r d+2*d
 | 0,_,_=>Nat.le_refl _
 | d+1,r,h=>by
  simp only[jAQ,nz9];have h1:=row_len p r 9 0;have h2:=rows_len p d (r+1) (by omega)
  have h3:(if r<8 then[(47:UInt8)] else[]).length<=1:=by split<;>simp
  rw[List.length_append,List.length_append];omega
theorem nz9_is (p:Nat->Int) (hc:∀q,q<81->p q=0\/j6 (p q)≠0):nz9 p 0 9=cntB p (λx=>decide (j6 x≠0)) 0 81:=by
 have e:∀q,q<81->(if p q=0 then 0 else 1)=(if decide (j6 (p q)≠0)=true then 1 else 0):=λq hq=>by
  rcases hc q hq with h|h
  ·rw[if_pos h,h,kind0];rfl
  ·rw[if_neg (λe=>h (by rw[e];exact kind0)),decide_eq_true h];rfl
 have e1:∀r,r<9->∀d,d<=9->nzr p r d=((List.range d).map λj=>if decide (j6 (p (9*j+r))≠0)=true then 1 else 0).sum:=λr hr d=>by
  induction d with
  | zero=>intro _;rfl
  | succ d ih=>
   intro hd;rw[nzr,ih (by omega),e _ (by omega),List.range_succ,List.map_append,List.sum_append];simp only[List.map_cons,List.map_nil,List.sum_cons,List.sum_nil];omega
 simp only[nz9];rw[e1 0 (by omega) 9 (by omega),e1 (0+1) (by omega) 9 (by omega),e1 (0+1+1) (by omega) 9 (by omega),e1 (0+1+1+1) (by omega) 9 (by omega),e1 (0+1+1+1+1) (by omega) 9 (by omega),e1 (0+1+1+1+1+1) (by omega) 9 (by omega),e1 (0+1+1+1+1+1+1) (by omega) 9 (by omega),e1 (0+1+1+1+1+1+1+1) (by omega) 9 (by omega),e1 (0+1+1+1+1+1+1+1+1) (by omega) 9 (by omega)]
 have e2:∀d n,cntB p (λx=>decide (j6 x≠0)) n d=((List.range d).map λj=>if decide (j6 (p (n+j))≠0)=true then 1 else 0).sum:=λd=>by
  induction d with
  | zero=>intro n;rfl
  | succ d ih=>
   intro n;rw[cntB,ih,List.range_succ_eq_map,List.map_cons,List.sum_cons,List.map_map]
   congr 1
   congr 1
   refine List.map_congr_left λj _=>?_;show _=(if decide (j6 (p (n+(j+1)))≠0)=true then 1 else 0);rw[show n+1+j=n+(j+1) by omega]
 rw[e2];generalize hg:(λq=>if decide (j6 (p q)≠0)=true then 1 else 0)=g;have hg':∀q,(if decide (j6 (p q)≠0)=true then 1 else 0)=g q:=λq=>congrFun hg q;simp only[hg'];simp only[show List.range 9=[0,1,2,3,4,5,6,7,8] from rfl,show List.range 81=[0,1,2,3,4,5,6,7,8,9,10,11,12,13,14,15,16,17,18,19,20,21,22,23,24,25,26,27,28,29,30,31,32,33,34,35,36,37,38,39,40,41,42,43,44,45,46,47,48,49,50,51,52,53,54,55,56,57,58,59,60,61,62,63,64,65,66,67,68,69,70,71,72,73,74,75,76,77,78,79,80] from rfl,List.map_cons,List.map_nil,List.sum_cons,List.sum_nil,Nat.reduceMul,Nat.reduceAdd,Nat.zero_add,Nat.add_zero,Nat.mul_zero];omega
theorem text_len (cs:List Int) (ho:Ok cs):(jAQ (λi=>cs.getD i 0) 0 9).length+(jAA (λi=>cs.getD i 0)).length<=139/\ya (jAA (λi=>cs.getD i 0)):=by
 have h1:=rows_len (λi=>cs.getD i 0) 9 0 rfl;rw[nz9_is _ ho.cell] at h1;obtain⟨a1,a2⟩:=hand_len (λi=>cs.getD i 0) ho.hand 0 (by omega) 7 0 rfl;obtain⟨b1,b2⟩:=hand_len (λi=>cs.getD i 0) ho.hand 1 (by omega) 7 0 rfl;have hc:=ho.count;simp only[hsum,Nat.reduceMul,Nat.reduceAdd,Nat.reduceSub,Nat.add_zero,Nat.zero_add,Nat.mul_zero] at a1 b1;have hh:=λi hi=>(ho.hand i hi).1;have g:=hh 1 (by omega);have g2:=hh 2 (by omega);have g3:=hh 3 (by omega);have g4:=hh 4 (by omega);have g5:=hh 5 (by omega);have g6:=hh 6 (by omega);have g7:=hh 7 (by omega);have g9:=hh 9 (by omega);have g10:=hh 10 (by omega);have g11:=hh 11 (by omega);have g12:=hh 12 (by omega);have g13:=hh 13 (by omega);have g14:=hh 14 (by omega);have g15:=hh 15 (by omega);simp only[Nat.reduceAdd] at g g2 g3 g4 g5 g6 g7 g9 g10 g11 g12 g13 g14 g15;unfold nB at hc;generalize cntB (λq=>cs.getD q 0) (λx=>decide (j6 x≠0)) 0 81=z at hc h1;clear hh ho;generalize hc82:cs.getD 82 0=c82 at a1 b1 hc g;generalize hc83:cs.getD 83 0=c83 at a1 b1 hc g2;generalize hc84:cs.getD 84 0=c84 at a1 b1 hc g3;generalize hc85:cs.getD 85 0=c85 at a1 b1 hc g4;generalize hc86:cs.getD 86 0=c86 at a1 b1 hc g5;generalize hc87:cs.getD 87 0=c87 at a1 b1 hc g6;generalize hc88:cs.getD 88 0=c88 at a1 b1 hc g7;generalize hc90:cs.getD 90 0=c90 at a1 b1 hc g9;generalize hc91:cs.getD 91 0=c91 at a1 b1 hc g10;generalize hc92:cs.getD 92 0=c92 at a1 b1 hc g11
 generalize hc93:cs.getD 93 0=c93 at a1 b1 hc g12;generalize hc94:cs.getD 94 0=c94 at a1 b1 hc g13;generalize hc95:cs.getD 95 0=c95 at a1 b1 hc g14;generalize hc96:cs.getD 96 0=c96 at a1 b1 hc g15;clear hc82 hc83 hc84 hc85 hc86 hc87 hc88 hc90 hc91 hc92 hc93 hc94 hc95 hc96;obtain⟨mg,rfl⟩:=Int.eq_ofNat_of_zero_le g;obtain⟨mg2,rfl⟩:=Int.eq_ofNat_of_zero_le g2;obtain⟨mg3,rfl⟩:=Int.eq_ofNat_of_zero_le g3;obtain⟨mg4,rfl⟩:=Int.eq_ofNat_of_zero_le g4;obtain⟨mg5,rfl⟩:=Int.eq_ofNat_of_zero_le g5;obtain⟨mg6,rfl⟩:=Int.eq_ofNat_of_zero_le g6;obtain⟨mg7,rfl⟩:=Int.eq_ofNat_of_zero_le g7;obtain⟨mg9,rfl⟩:=Int.eq_ofNat_of_zero_le g9;obtain⟨mg10,rfl⟩:=Int.eq_ofNat_of_zero_le g10;obtain⟨mg11,rfl⟩:=Int.eq_ofNat_of_zero_le g11;obtain⟨mg12,rfl⟩:=Int.eq_ofNat_of_zero_le g12;obtain⟨mg13,rfl⟩:=Int.eq_ofNat_of_zero_le g13;obtain⟨mg14,rfl⟩:=Int.eq_ofNat_of_zero_le g14;obtain⟨mg15,rfl⟩:=Int.eq_ofNat_of_zero_le g15;simp only[Int.toNat_natCast] at a1 b1;generalize hx:(jAQ (λi=>cs.getD i 0) 0 9).length=x at h1 ⊢;generalize hy:(yz (λi=>cs.getD i 0) 0 0 7).length=y at a1;generalize hw:(yz (λi=>cs.getD i 0) 1 0 7).length=w at b1;unfold jAA
 split
 ·refine⟨?_,ya.one (by decide)⟩
  show x+1<=_;clear hx hy hw a2 b2;omega
 ·refine⟨?_,a2.app b2⟩
  rw[List.length_append,hy,hw];clear hx hy hw a2 b2;omega
theorem jB4 (p:Nat->Int) (hh:∀i,i<16->0<=p (81+i)/\p (81+i)<=18) (s:Nat) (hs:s<2):∀d j,j+d=7->(45:UInt8) ∉ yz p s j d/\(jAT p s j d=false->yz p s j d≠[])
 | 0,_,_=>⟨by simp [yz],by simp [jAT]⟩
 | d+1,j,h=>by
  obtain⟨i1,i2⟩:=jB4 p hh s hs d (j+1) (by omega);have hpn:=hh (8*s+(7-j)) (by omega);rw[show 81+(8*s+(7-j))=81+8*s+(7-j) by omega] at hpn;simp only[yz,jAT]
  by_cases h0:p (81+8*s+(7-j))=0
  ·rw[if_pos h0,List.nil_append,decide_eq_true h0,Bool.true_and]
   exact⟨i1,i2⟩
  ·rw[if_neg h0]
   obtain⟨n,hn⟩:∃n:Nat,p (81+8*s+(7-j))=n:=⟨(p (81+8*s+(7-j))).toNat,by omega⟩
   rw[hn];obtain⟨c1,c2,c3⟩:=jBK s (7-j) hs (by omega) (by omega) (by omega)
   have hnm:nmL ((16*s+(7-j):Nat):Int)=[ltr ((16*s+(7-j):Nat):Int)]:=by unfold nmL;rw[c1,if_neg (by omega),if_neg (by omega)]
   obtain⟨_,n2,_⟩:=(jB8 _ c3).2 (by omega);rw[hnm];refine⟨λhm=>?_,λ_=>by simp⟩
   rcases List.mem_append.1 hm with hm|hm
   ·rcases List.mem_append.1 hm with hm|hm
    ·rw[num_small n (by omega) (by omega)] at hm
     split at hm
     ·cases hm
     ·split at hm
      ·have:=List.mem_singleton.1 hm
       have h2:=jB3 n (by omega);rw[<- this] at h2;exact absurd h2 (by show ¬45=48+n;omega)
      ·rcases List.mem_cons.1 hm with hm|hm
       ·exact absurd hm (by decide)
       ·have:=List.mem_singleton.1 hm
        have h2:=jB3 (n%10) (by omega);rw[<- this] at h2;exact absurd h2 (by show ¬45=48+n%10;omega)
    ·have:=List.mem_singleton.1 hm
     rw[<- this] at n2;exact absurd n2 (by decide)
   ·exact i1 hm
theorem hands_back (cs:List Int) (ho:Ok cs):js.f (mkB (jAA (λi=>cs.getD i 0)))=some ((List.range 16).map λi=>cs.getD (81+i) 0,true):=by
 obtain⟨_,hpl⟩:=text_len cs ho;rw[hands_is _ _ (zk _) hpl.ascii];have hall:=putH_all (λi=>cs.getD i 0) ho.none0.1 ho.none0.2
 have h0:∀i:Nat,i<16->js.z16.getD i 0=0:=λi hi=>by
  unfold js.z16;rw[List.getD_eq_getElem?_getD,List.getElem?_replicate,if_pos hi];rfl
 by_cases hz:(jAT (λi=>cs.getD i 0) 0 0 7&&jAT (λi=>cs.getD i 0) 1 0 7)=true
 ·have e:jAA (λi=>cs.getD i 0)=[45]:=by unfold jAA;rw[if_pos hz]
  rw[e,if_pos (by decide),<- hall];have hz2:=hz;rw[Bool.and_eq_true] at hz2
  have pz:∀(s:Nat) d j b,jAT (λi=>cs.getD i 0) s j d=true->putH (λi=>cs.getD i 0) s j d b=b:=λs d=>by
   induction d with
   | zero=>intro j b _;rfl
   | succ d ih=>
    intro j b h;simp only[jAT,Bool.and_eq_true,decide_eq_true_eq] at h;simp only[putH];rw[if_pos h.1,ih _ _ h.2]
  rw[pz 0 7 0 _ hz2.1,pz 1 7 0 _ hz2.2]
 ·have e:jAA (λi=>cs.getD i 0)=yz (λi=>cs.getD i 0) 0 0 7++(yz (λi=>cs.getD i 0) 1 0 7++[]):=by unfold jAA;rw[if_neg hz,List.append_nil]
  obtain⟨a1,a2⟩:=jB4 (λi=>cs.getD i 0) ho.hand 0 (by omega) 7 0 rfl;obtain⟨b1,b2⟩:=jB4 (λi=>cs.getD i 0) ho.hand 1 (by omega) 7 0 rfl
  have hne:jAA (λi=>cs.getD i 0)≠[]:=by
   rw[e,List.append_nil];rw[Bool.not_eq_true,Bool.and_eq_false_iff] at hz;intro en;rw[List.append_eq_nil_iff] at en
   rcases hz with hz|hz
   ·exact a2 hz en.1
   ·exact b2 hz en.2
  have h45:¬(jAA (λi=>cs.getD i 0)==[45])=true:=by
   rw[beq_iff_eq];intro en
   have:(45:UInt8) ∈ jAA (λi=>cs.getD i 0):=by rw[en];exact List.mem_singleton.2 rfl
   rw[e,List.append_nil] at this;exact(List.mem_append.1 this).elim a1 b1
  have hb:(!(jAA (λi=>cs.getD i 0)==[]))=true:=by
   rw[Bool.not_eq_true',Bool.eq_false_iff];intro en;exact hne (beq_iff_eq.1 en)
  rw[if_neg h45,hb,e,hg_hand true _ ho.hand 0 (by omega) _ 7 0 _ rfl rfl (λk h1 h2=>h0 _ (by omega)),hg_hand true _ ho.hand 1 (by omega) _ 7 0 _ rfl (by rw[jBM];rfl) (λk h1 h2=>?_),hall]
  ·rfl
  ·rw[putH_get _ 0 (by omega) 7 0 _ rfl rfl _ (by omega),if_neg (by omega)]
   exact h0 _ (by omega)
theorem ranks_back (cs:List Int) (hl:cs.length=98) (hp:∀i,(Lit.int .i8 (cs.getD i 0)).wf=true) (ho:Ok cs):jl.f (mkB (jAQ (λi=>cs.getD i 0) 0 9))=some (cs.take 81,true):=by
 rw[ranks_is _ _ (zk _) (rows_plain _ hp 9 0).ascii];have:=rg_rows (λi=>cs.getD i 0) hp ho.cell 8 0 32 jl.z81 rfl (by omega);rw[show((0:Nat):Int)=0 from rfl,put9_all cs (by omega)] at this;exact this
theorem sideL_is (p:Nat->Int):jBR p=[98]\/jBR p=[119]:=by
 unfold jBR
 split
 ·exact .inr rfl
 ·exact .inl rfl
theorem side_back (p:Nat->Int) (h:p 97=0\/p 97=1):(if(jBR p==[119])=true then(1:Int) else 0)=p 97:=by
 unfold jBR
 rcases h with h|h<;>rw[h]<;>rfl
theorem whole (cs:List Int) (hl:cs.length=98):cs.take 81++(List.range 16).map (λi=>cs.getD (81+i) 0)++[cs.getD 97 0]=cs:=by
 apply ext_getD
 ·simp [hl]
 ·intro i hi
  simp [hl] at hi
  by_cases a:i<81
  ·rw[List.getD_eq_getElem?_getD,List.append_assoc,List.getElem?_append_left (by simp [hl];omega),List.getElem?_take_of_lt a,<- List.getD_eq_getElem?_getD]
  ·by_cases b:i<97
   ·rw[List.getD_eq_getElem?_getD,List.getElem?_append_left (by simp [hl];omega),List.getElem?_append_right (by simp [hl];omega)]
    have e:(List.take 81 cs).length=81:=by simp [hl]
    rw[e,List.getElem?_map,List.getElem?_range (by omega)];show cs.getD (81+(i-81)) 0=_;rw[show 81+(i-81)=i by omega]
   ·obtain rfl:i=97:=by omega
    rw[List.getD_eq_getElem?_getD,List.getElem?_append_right (by simp [hl])]
    have e:(List.take 81 cs++(List.range 16).map (λi=>cs.getD (81+i) 0)).length=97:=by simp [hl]
    rw[e];rfl
def front (p:Nat->Int):List UInt8:=jAQ p 0 9++32::(jBR p++32::(jAA p++[32]))
theorem text_front (p:Nat->Int) (n:Int):textT p n=front p++Lib.itoa n:=by
 unfold textT front;simp only[List.append_assoc,List.cons_append,List.nil_append]
theorem front_len (cs:List Int) (ho:Ok cs):(front (λi=>cs.getD i 0)).length<=143:=by
 obtain⟨h1,_⟩:=text_len cs ho;unfold front
 have:(jBR (λi=>cs.getD i 0)).length=1:=by rcases sideL_is (λi=>cs.getD i 0) with h|h<;>rw[h]<;>rfl
 simp only[List.length_append,List.length_cons,List.length_nil];omega
theorem parse_front (cs:List Int) (hl:cs.length=98) (hp:∀i,(Lit.int .i8 (cs.getD i 0)).wf=true) (h0:jAZ cs=0) (N:List UInt8) (hN:(32:UInt8) ∉ N) (hlen:N.length<=50):
  jk.f (mkB (front (λi=>cs.getD i 0)++N))=match jAG (mkB N) with
   | none=>some (jk.zl,0,70)
   | some v=>if(!(Lib.itoa v==N))=true\/v<1\/9999<v then some (jk.zl,0,70) else some (cs,v,0):=by
 have ho:=ok_of cs h0;have hfl:=front_len cs ho;obtain⟨_,hpl⟩:=text_len cs ho
 have e:front (λi=>cs.getD i 0)++N=jAQ (λi=>cs.getD i 0) 0 9++32::(jBR (λi=>cs.getD i 0)++32::(jAA (λi=>cs.getD i 0)++32::N)):=by
  unfold front;simp only[List.append_assoc,List.cons_append,List.nil_append]
 have hsl:(32:UInt8) ∉ jBR (λi=>cs.getD i 0):=by rcases sideL_is (λi=>cs.getD i 0) with h|h<;>rw[h]<;>decide
 have hsz:(jAQ (λi=>cs.getD i 0) 0 9++32::(jBR (λi=>cs.getD i 0)++32::(jAA (λi=>cs.getD i 0)++32::N))).length<=200:=by
  rw[<- e,List.length_append];omega
 rw[e,parse4 _ _ _ _ (rows_plain _ hp 9 0).no hsl hpl.no hN hsz,ranks_back cs hl hp ho,Option.bind_some,hands_back cs ho,Option.bind_some]
 have hbad:jk.bad (mkB (jBR (λi=>cs.getD i 0))) true true=false:=by
  unfold jk.bad;rw[yk _ _ (zk _)]
  rcases sideL_is (λi=>cs.getD i 0) with h|h<;>rw[h]<;>decide
 dsimp only;rw[if_neg (by rw[hbad];decide),side_back (λi=>cs.getD i 0) ho.side,whole cs hl]
 cases jAG (mkB N) with
 | none=>rfl
 | some v=>
  dsimp only;rw[check_is cs hl hp,Option.bind_some,if_pos h0]
theorem parse_text (cs:List Int) (hl:cs.length=98) (hp:∀i,(Lit.int .i8 (cs.getD i 0)).wf=true) (h0:jAZ cs=0) (n:Int) (h1:1<=n) (h9:n<=9999):jk.f (mkB (textT (λi=>cs.getD i 0) n))=some (cs,n,0):=by
 have hlen:=itoa_len n (by omega) h9;rw[text_front,parse_front cs hl hp h0 _ (itoa_plain n (by omega) (by omega)).no (by omega),atoi_itoa n (by omega) (by omega)];dsimp only;rw[if_neg];rintro(h|h|h)
 ·rw[beq_self_eq_true] at h;exact absurd h (by decide)
 ·omega
 ·omega
theorem wf_getD (a:List Int) (h:∀z ∈ a,(Lit.int .i8 z).wf=true) (i:Nat):(Lit.int .i8 (a.getD i 0)).wf=true:=by
 rw[List.getD_eq_getElem?_getD]
 by_cases hi:i<a.length
 ·rw[List.getElem?_eq_getElem hi]
  exact h _ (List.getElem_mem hi)
 ·rw[List.getElem?_eq_none (by omega)]
  exact wf0
def printT (a:List Int) (n:Int):List UInt8:=if jAZ a≠0\/n<1\/9999<n then[] else textT (λi=>a.getD i 0) n
theorem print_toList (a:List Int) (n:Int):(if jAZ a≠0\/n<1\/9999<n then(⟨#[]⟩:ByteArray) else⟨(textT (λi=>a.getD i 0) n).toArray⟩)=mkB (printT a n):=by
 unfold printT mkB
 split<;>rfl
theorem print_mk (a:List Int) (hl:a.length=98) (hp:∀i,(Lit.int .i8 (a.getD i 0)).wf=true) (n:Int):jf.f a n=some (mkB (printT a n)):=by rw[print_is a hl hp n,print_toList]
theorem yn (a b:List UInt8):mkB a++mkB b=mkB (a++b):=eqB (by
 rw[ByteArray.data_append,Array.toList_append,zk,zk])
theorem jBE (a:List UInt8):(mkB a).toList=a:=yk _ _ (zk a)
theorem bt_mk (l:List UInt8) (i:Nat) (h:i<l.length):bt (mkB l) (i:Int)=((l[i]'h).toNat:Int):=by
 have hs:i<(mkB l).size:=by rw[zt];exact h
 unfold bt;rw[dif_pos (by rw[Int.toNat_natCast];exact hs)]
 rfl
end Go.Proofs.YtigenhbmgpfffaaGreatDoor.Pl
