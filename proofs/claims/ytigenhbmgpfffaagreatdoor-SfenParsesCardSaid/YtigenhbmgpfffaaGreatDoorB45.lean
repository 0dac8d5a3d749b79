import Derived.Test.YtigenhbmgpfffaaGreatDoorB42
import Derived.Test.YtigenhbmgpfffaaGreatDoorB44
set_option linter.unusedVariables false
set_option linter.unusedSimpArgs false
set_option maxRecDepth 100000
namespace Go.Proofs.YtigenhbmgpfffaaGreatDoor.Pl
open Go.RowKit Go.Proofs.YtigenhbmgpfffaaGreatDoor.Pa Go.Proofs.YtigenhbmgpfffaaGreatDoorW.PrintWords Go.Proofs.YtigenhbmgpfffaaGreatDoorW.PrintLast Go.Proofs.YtigenhbmgpfffaaGreatDoorW.PrintMore
theorem number_l0 (x:ByteArray):∀(k:Nat) (n:Int) (i:Nat),x.size<=i+k->i<=x.size->x.size<=1000->∃r,jM.l0 (k+1) x n (i:Int)=some r
 | 0,n,i,h,hi,hb=>by
  simp only[jM.l0];rw[if_neg (by omega)];exact⟨_,rfl⟩
 | k+1,n,i,h,hi,hb=>by
  rw[jM.l0]
  by_cases hlt:(i:Int)<(x.size:Int)
  ·rw[if_pos hlt,if_pos (by omega)]
   repeat' split
   ·exact⟨_,rfl⟩
   ·exact⟨_,rfl⟩
   ·have e:wrap64 ((i:Int)+1)=((i+1:Nat):Int):=by unfold wrap64;omega
    rw[e];exact number_l0 x k _ (i+1) (by omega) (by omega) hb
  ·rw[if_neg hlt]
   exact⟨_,rfl⟩
theorem rnumber_is (x:ByteArray):jM.f 60 x=some (jAP x):=by
 have h:∃r,jM.f 60 x=some r:=by
  have hj:∀b,x.size<=4\/b=true->∃r,jM.j0 60 x b=some r:=λb hb=>by
   simp only[jM.j0]
   by_cases h:b=true
   ·rw[if_pos h];exact⟨_,rfl⟩
   ·rw[if_neg h]
    have h4:=hb.resolve_right h;exact number_l0 x 58 0 0 (by omega) (by omega) (by omega)
  unfold jM.f
  by_cases h1:(x.size:Int)<1
  ·rw[if_pos h1];exact hj true (.inr rfl)
  ·rw[if_neg h1]
   by_cases h2:(x.size:Int)>4
   ·rw[if_pos h2];exact hj true (.inr rfl)
   ·rw[if_neg h2,if_pos (by omega)]
    exact hj _ (.inl (by omega))
 obtain⟨r,hr⟩:=h;unfold jAP;rw[hr];rfl
theorem name_mono (x:Int) (h:∃r,jU.f 20 x=some r):∀k,20<=k->jU.f k x=jU.f 20 x:=by
 obtain⟨r,hr⟩:=h
 have:∀d,jU.f (20+d) x=some r:=λd=>by
  induction d with
  | zero=>exact hr
  | succ d ih=>exact jU.mono x (20+d) r ih
 intro k hk
 obtain⟨d,rfl⟩:∃d,k=20+d:=⟨k-20,by omega⟩
 rw[this d,hr]
theorem name_20:∀n:Fin 32,(jU.f 20 (n.1:Int)).isSome=true:=by decide +kernel
theorem name_some (n k:Nat) (hn:n<32) (hk:20<=k):jU.f k (n:Int)=some (yt (n:Int)):=by
 have h:=Option.isSome_iff_exists.1 (name_20 ⟨n,hn⟩);rw[name_mono _ h k hk];have:=name_mono _ h 40 (by omega);unfold yt;rw[this];obtain⟨r,hr⟩:=h;have hr':jU.f 20 (n:Int)=some r:=hr;rw[hr'];rfl
def yQ (x:List UInt8):Nat->Nat->Int
 | _,0=>0
 | n,d+1=>if nmL (n:Int)=x/\x≠[] then(n:Int) else yQ x (n+1) d
theorem named_l0 (x:List UInt8):∀(d k n:Nat),n+d=32->20+d<k->jZ.l0 k (mkB x) (n:Int)=some (yQ x n d)
 | 0,k,n,h,hk=>by
  obtain⟨k,rfl⟩:∃m,k=m+1:=⟨k-1,by omega⟩
  simp only[jZ.l0];rw[if_neg (by omega)];rfl
 | d+1,k,n,h,hk=>by
  obtain⟨k,rfl⟩:∃m,k=m+1:=⟨k-1,by omega⟩
  have ih:=named_l0 x d k (n+1) (by omega) (by omega)
  have ew:wrap64 ((n:Int)+1)=((n+1:Nat):Int):=by unfold wrap64;omega
  have hnm:(yt (n:Int)).toList=nmL (n:Int):=by rw[(rname_is (n:Int) (by omega)).2.1,jBE]
  simp only[jZ.l0];rw[if_pos (by omega),name_some n k (by omega) (by omega),Option.bind_some,ew,ih,hnm,jBE];rw[show yQ x n (d+1)=(if nmL (n:Int)=x/\x≠[] then(n:Int) else yQ x (n+1) d) from rfl]
  by_cases h1:nmL (n:Int)=x
  ·rw[if_pos h1]
   by_cases h2:x=[]
   ·rw[if_pos h2,if_neg (λz=>z.2 h2)]
   ·rw[if_neg h2,if_pos ⟨h1,h2⟩]
  ·rw[if_neg h1,if_neg (λz=>h1 z.1)]
theorem rnamed_mk (x:List UInt8):jZ.f 60 (mkB x)=some (yQ x 1 31):=named_l0 x 31 60 1 rfl (by omega)
theorem rnamed_is (x:ByteArray):jZ.f 60 x=some (jAE x)/\jAE x=yQ x.data.toList 1 31:=by
 have e:=rnamed_mk x.data.toList;rw[<- eqB (s:=x) rfl] at e
 have e2:jAE x=yQ x.data.toList 1 31:=by unfold jAE;rw[e];rfl
 exact⟨by rw[e,e2],e2⟩
theorem pp_high (a:Int) (b:Bool) (h:128<=a):ja.f a b=some 0:=by
 unfold ja.f ja.look;rw[if_neg (by omega),if_pos (by unfold ja.kind;repeat' rw[if_neg (by omega)])]
theorem rg_all (s:ByteArray) (l:List UInt8) (hl:s.data.toList=l):∀(d k pos:Nat) (file rank:Int) (plus:Bool) (last:Int) (b:List Int),pos+d=l.length->d<=k ->
  jl.go s k pos file rank plus last b=rg (l.drop pos) file rank plus last b
 | 0,k,pos,file,rank,plus,last,b,h,hk=>by
  have hsz:s.size=l.length:=by rw[<- hl];exact(Array.length_toList).symm
  rw[List.drop_eq_nil_of_le (by omega)]
  cases k with
  | zero=>simp only[jl.go,rg];rw[if_neg (by omega)]
  | succ k=>simp only[jl.go,rg];rw[if_neg (by omega)]
 | d+1,k,pos,file,rank,plus,last,b,h,hk=>by
  obtain⟨k,rfl⟩:∃m,k=m+1:=⟨k-1,by omega⟩
  have hsz:s.size=l.length:=by rw[<- hl];exact(Array.length_toList).symm
  have hb:s[pos]'(by omega)=l[pos]'(by omega):=by subst hl;rfl
  have ih:=λfile rank plus last b=>rg_all s l hl d k (pos+1) file rank plus last b (by omega) (by omega);rw[List.drop_eq_getElem_cons (by omega)];simp only[jl.go,rg];rw[if_pos (by omega)]
  by_cases ha:(s[pos]'(by omega)).toNat<128
  ·rw[decode_ascii s pos (by omega) ha,hb]
   simp only[ih]
  ·have hh:=(decode_high s pos (by omega) (by omega)).1
   rw[if_neg (by omega),if_neg (by omega),if_neg (by omega),pp_high _ _ (by omega),<- hb,if_neg (by omega),if_neg (by omega),if_neg (by omega),pp_high _ _ (by omega)]
   rfl
theorem ranks_all (l:List UInt8):jl.f (mkB l)=rg l 8 0 false 32 jl.z81:=by
 have h:∀n,(mkB l).size=n->jl.go (mkB l) n 0 8 0 false 32 jl.z81=rg l 8 0 false 32 jl.z81:=λn hn=>by
  have:=rg_all (mkB l) l (zk l) l.length n 0 8 0 false 32 jl.z81 (by omega) (by rw[<- hn,zt];omega);rw[List.drop_zero] at this;exact this
 exact h _ rfl
theorem jBI (x:List UInt8):∀d n,yQ x n d=0\/((n:Int)<=yQ x n d/\yQ x n d<(n+d:Nat))
 | 0,n=>.inl rfl
 | d+1,n=>by
  rw[show yQ x n (d+1)=(if nmL (n:Int)=x/\x≠[] then(n:Int) else yQ x (n+1) d) from rfl]
  split
  ·exact .inr ⟨Int.le_refl _,by omega⟩
  ·have:=jBI x d (n+1)
   omega
theorem jB7 (x:List UInt8):jAE (mkB x)=yQ x 1 31:=by rw[(rnamed_is (mkB x)).2,zk]
theorem ext1 (l:List UInt8) (i:Nat) (h:i<l.length):(mkB l).extract i (i+1)=mkB [l[i]'h]:=eqB (by
 rw[ByteArray.data_extract,Array.toList_extract,zk];simp only[List.extract_eq_take_drop]
 rw[List.drop_eq_getElem_cons h,show i+1-i=1 by omega];rfl)
theorem ext2 (l:List UInt8) (i:Nat) (h:i+1<l.length):(mkB l).extract i (i+2)=mkB [l[i]'(by omega),l[i+1]'h]:=eqB (by
 rw[ByteArray.data_extract,Array.toList_extract,zk];simp only[List.extract_eq_take_drop]
 rw[List.drop_eq_getElem_cons (by omega),List.drop_eq_getElem_cons h,show i+2-i=2 by omega];rfl)
theorem pp_low:∀c:Fin 256,ja.f (c.1:Int) false=some (yQ [UInt8.ofNat c.1] 1 31)/\ja.f (c.1:Int) true=some (yQ [43,UInt8.ofNat c.1] 1 31):=by decide +kernel
theorem pp_byte (c:UInt8):ja.f (c.toNat:Int) false=some (yQ [c] 1 31)/\ja.f (c.toNat:Int) true=some (yQ [43,c] 1 31):=by
 have h:=pp_low ⟨c.toNat,c.toNat_lt⟩
 rwa [UInt8.ofNat_toNat] at h
theorem pp_dig (c:UInt8) (b:Bool) (h:(c.toNat:Int)<58):ja.f (c.toNat:Int) b=some 0:=by
 unfold ja.f ja.look;rw[if_neg (by omega),if_pos (by unfold ja.kind;repeat' rw[if_neg (by omega)])]
theorem jBC (r:Nat) (l:List Int):∀d f x,(jD.putL r l f d x).length=x.length
 | 0,_,_=>rfl
 | d+1,f,x=>by
  simp only[jD.putL];rw[jBC r l d,List.length_set]
theorem jBL (r:Nat) (hr:r<9) (l:List Int):∀d f x, f+d<=9->x.length=98->∀q, (jD.putL r l f d x).getD q 0=if q%9=r/\f<=q/9/\q/9<f+d then IntKind.i8.wrap (l.getD (q/9) 0) else x.getD q 0
 | 0,f,x,_,_,q=>by rw[if_neg (by omega)];rfl
 | d+1,f,x,h,hx,q=>by
  simp only[jD.putL];rw[jBL r hr l d (f+1) _ (by omega) (by rw[List.length_set];exact hx) q]
  by_cases a:q%9=r/\f+1<=q/9/\q/9<f+1+d
  ·rw[if_pos a,if_pos ⟨a.1,by omega,by omega⟩]
  ·rw[if_neg a,jAU _ _ _ _ (by omega)]
   by_cases e:q=9*f+r
   ·rw[if_pos e,if_pos ⟨by omega,by omega,by omega⟩,show q/9=f by omega]
   ·rw[if_neg e,if_neg (by omega)]
theorem i8_small (v:Int) (h0:0<=v) (h:v<=31):IntKind.i8.wrap v=v:=by
 have:∀n:Fin 32,IntKind.i8.wrap (n.1:Int)=(n.1:Int):=by decide +kernel
 have:=this ⟨v.toNat,by omega⟩
 rwa [show((⟨v.toNat,by omega⟩:Fin 32).1:Int)=v by show((v.toNat:Nat):Int)=v;omega] at this
theorem take_get (x:List Int) (n q:Nat) (h:q<n):(x.take n).getD q 0=x.getD q 0:=by
 rw[List.getD_eq_getElem?_getD,List.getElem?_take_of_lt h,<- List.getD_eq_getElem?_getD]
theorem putL_set (r:Nat) (hr:r<9) (out x:List Int) (hx:x.length=98) (ho:out.length=9) (f:Nat) (hf:f<9) (v:Int) (h0:0<=v) (h31:v<=31):
  ((jD.putL r out 0 9 x).take 81).set (9*f+r) v=(jD.putL r (out.set f v) 0 9 x).take 81:=by
 apply ext_getD
 ·rw[List.length_set,List.length_take,List.length_take,jBC,jBC]
 ·intro q hq
  rw[List.length_set,List.length_take,jBC] at hq;rw[jAU _ _ _ _ (by rw[List.length_take,jBC];omega),take_get _ _ _ (by omega),take_get _ _ _ (by omega),jBL r hr _ 9 0 x (by omega) hx,jBL r hr _ 9 0 x (by omega) hx]
  by_cases e:q=9*f+r
  ·rw[if_pos e,if_pos ⟨by omega,by omega,by omega⟩,jAU _ _ _ _ (by omega),if_pos (by omega),i8_small v h0 h31]
  ·rw[if_neg e]
   by_cases a:q%9=r/\0<=q/9/\q/9<0+9
   ·rw[if_pos a,if_pos a,jAU _ _ _ _ (by omega),if_neg (by omega)]
   ·rw[if_neg a,if_neg a]
theorem row_end (rest:List UInt8) (hrest:rest=[]\/∃t,rest=47::t) (f:Int) (r:Nat) (plus:Bool) (last:Int) (b:List Int) (h:f≠-1\/plus=true):∃b',rg rest f r plus last b=some (b',false):=by
 rcases hrest with rfl|⟨t,rfl⟩
 ·refine⟨b,?_⟩
  simp only[rg,jl.done]
  rcases h with h|h
  ·rw[beq_eq_false_iff_ne.2 h];rfl
  ·rw[h]
   simp
 ·refine⟨b,?_⟩
  have e47:((47:UInt8).toNat:Int)=47:=rfl;simp only[rg]
  rw[e47,if_pos rfl,if_pos (by
   rcases h with h|h
   ·exact .inl h
   ·exact .inr (.inl h))]
theorem row_step (l:List UInt8) (h47:(47:UInt8) ∉ l) (rest:List UInt8) (hrest:rest=[]\/∃t,rest=47::t) (r:Nat) (hr:r<9) (x:List Int) (hx:x.length=98):∀(n i:Nat) (f last:Int) (out:List Int),l.length<=i+n->i<=l.length->out.length=9->-1<=f->f<=8 ->
  ((49<=last/\last<=57)↔(0<i/\49<=bt (mkB l) ((i-1:Nat):Int)/\bt (mkB l) ((i-1:Nat):Int)<=57)) ->
  ((jO.go (mkB l) n i f out).2=true->(jO.go (mkB l) n i f out).1.length=9/\∃last',rg (l.drop i++rest) f r false last ((jD.putL r out 0 9 x).take 81)=rg rest (-1) r false last' ((jD.putL r (jO.go (mkB l) n i f out).1 0 9 x).take 81)) /\
  ((jO.go (mkB l) n i f out).2=false->∃b',rg (l.drop i++rest) f r false last ((jD.putL r out 0 9 x).take 81)=some (b',false)):=by
 have hend:∀(i:Nat) (f last:Int) (out:List Int),i=l.length->out.length=9 ->
   ((f == -1)=true->out.length=9/\∃last',rg (l.drop i++rest) f r false last ((jD.putL r out 0 9 x).take 81)=rg rest (-1) r false last' ((jD.putL r out 0 9 x).take 81)) /\
   ((f == -1)=false->∃b',rg (l.drop i++rest) f r false last ((jD.putL r out 0 9 x).take 81)=some (b',false)):=λi f last out hi ho=>by
  rw[List.drop_eq_nil_of_le (by omega),List.nil_append];refine⟨λh=>⟨ho,last,by rw[beq_iff_eq.1 h]⟩,λh=>row_end rest hrest f r false last _ (.inl (beq_eq_false_iff_ne.1 h))⟩
 intro n
 induction n with
 | zero=>
  intro i f last out hn hi ho hf hf8 hlast;exact hend i f last out (by omega) ho
 | succ n ih=>
  intro i f last out hn hi ho hf hf8 hlast
  by_cases hlt:i<l.length
  ·have hb:bt (mkB l) (i:Int)=((l[i]'hlt).toNat:Int):=bt_mk l i hlt
   have hne:((l[i]'hlt).toNat:Int)≠47:=λe=>h47 (by
    rw[show(47:UInt8)=l[i]'hlt from UInt8.toNat_inj.1 (by show 47=_;omega)]
    exact List.getElem_mem hlt)
   simp only[jO.go];rw[zt,if_pos hlt,hb,List.drop_eq_getElem_cons hlt,List.cons_append];generalize hc:l[i]'hlt=c at *
   by_cases hd:49<=(c.toNat:Int)/\(c.toNat:Int)<=57
   ·rw[if_pos hd]
    simp only[rg];rw[if_neg hne,if_pos hd]
    by_cases hbad:f-((c.toNat:Int)-48) < -1\/(0<i/\49<=bt (mkB l) ((i-1:Nat):Int)/\bt (mkB l) ((i-1:Nat):Int)<=57)
    ·rw[if_pos hbad,if_pos (by
      rcases hbad with h|h
      ·exact .inr (.inl h)
      ·exact .inr (.inr (hlast.2 h)))]
     exact⟨λh=>(Bool.false_ne_true h).elim,λ_=>⟨_,rfl⟩⟩
    ·rw[if_neg hbad,if_neg (by
      rintro(h|h|h)
      ·exact absurd h (by decide)
      ·exact hbad (.inl h)
      ·exact hbad (.inr (hlast.1 h)))]
     refine ih (i+1) _ _ out (by omega) (by omega) ho (by omega) (by omega) ?_;rw[Nat.add_sub_cancel,hb];exact⟨λh=>⟨by omega,h⟩,λh=>h.2⟩
   ·rw[if_neg hd]
    by_cases h43:c=43
    ·subst h43
     have e43:((43:UInt8).toNat:Int)=43:=rfl;simp only[rg];rw[e43,if_neg (show ¬(43:Int)=47 by decide),if_neg (show ¬(49<=(43:Int)/\(43:Int)<=57) by decide),if_pos (show(43:Int)=43 from rfl),if_neg (show ¬(false=true) by decide)]
     by_cases h2:i+1<l.length
     ·have ht:jO.two (mkB l) i=1:=by unfold jO.two;rw[hb,zt,if_pos ⟨e43,h2⟩]
      have hb2:bt (mkB l) ((i+1:Nat):Int)=((l[i+1]'h2).toNat:Int):=bt_mk l (i+1) h2
      have hne2:((l[i+1]'h2).toNat:Int)≠47:=λe=>h47 (by
       rw[show(47:UInt8)=l[i+1]'h2 from UInt8.toNat_inj.1 (by show 47=_;omega)]
       exact List.getElem_mem h2)
      rw[ht,show i+1+1=i+2 from rfl,ext2 l i h2,hc,jB7,List.drop_eq_getElem_cons h2,List.cons_append];generalize hc2:l[i+1]'h2=c2 at *;have hp:=(pp_byte c2).2;simp only[rg];rw[if_neg hne2,hp,Option.bind_some];have hr31:=jBI [43,c2] 31 1
      by_cases hz:yQ [43,c2] 1 31=0\/f<0
      ·rw[if_pos hz]
       refine⟨λh=>(Bool.false_ne_true h).elim,λ_=>?_⟩
       by_cases a1:49<=(c2.toNat:Int)/\(c2.toNat:Int)<=57
       ·rw[if_pos a1,if_pos (.inl trivial)];exact⟨_,rfl⟩
       ·rw[if_neg a1]
        by_cases a2:(c2.toNat:Int)=43
        ·rw[if_pos a2,if_pos trivial];exact⟨_,rfl⟩
        ·rw[if_neg a2,if_pos hz];exact⟨_,rfl⟩
      ·have h58:¬(c2.toNat:Int)<58:=λh=>by
        have:=pp_dig c2 true h;rw[hp] at this;exact hz (.inl (Option.some.inj this))
       rw[if_neg hz,if_neg (by omega),if_neg (by omega),if_neg hz]
       have e9:(9*f+(r:Int)).toNat=9*f.toNat+r:=by omega
       rw[e9,putL_set r hr out x hx ho f.toNat (by omega) _ (by omega) (by omega)];refine ih (i+2) _ _ _ (by omega) (by omega) (by rw[List.length_set];exact ho) (by omega) (by omega) ?_;rw[show i+2-1=i+1 from rfl,hb2];omega
     ·have ht:jO.two (mkB l) i=0:=by unfold jO.two;rw[hb,zt,if_neg (λz=>h2 z.2)]
      have hp:=(pp_byte 43).1;rw[pp_dig 43 false (by decide)] at hp;rw[ht,Nat.add_zero,ext1 l i hlt,hc,jB7,if_pos (.inl (Option.some.inj hp).symm),List.drop_eq_nil_of_le (by omega),List.nil_append];exact⟨λh=>(Bool.false_ne_true h).elim,λ_=>row_end rest hrest f r true 43 _ (.inr rfl)⟩
    ·have hn43:(c.toNat:Int)≠43:=λe=>h43 (UInt8.toNat_inj.1 (by show _=43;omega))
     have ht:jO.two (mkB l) i=0:=by unfold jO.two;rw[hb,if_neg (λz=>hn43 z.1)]
     have hp:=(pp_byte c).1;have hr31:=jBI [c] 31 1;rw[ht,Nat.add_zero,Nat.add_zero,ext1 l i hlt,hc,jB7];simp only[rg];rw[if_neg hne,if_neg hd,if_neg hn43,hp,Option.bind_some]
     by_cases hz:yQ [c] 1 31=0\/f<0
     ·rw[if_pos hz,if_pos hz]
      exact⟨λh=>(Bool.false_ne_true h).elim,λ_=>⟨_,rfl⟩⟩
     ·rw[if_neg hz,if_neg hz]
      have e9:(9*f+(r:Int)).toNat=9*f.toNat+r:=by omega
      rw[e9,putL_set r hr out x hx ho f.toNat (by omega) _ (by omega) (by omega)];refine ih (i+1) _ _ _ (by omega) (by omega) (by rw[List.length_set];exact ho) (by omega) (by omega) ?_;rw[Nat.add_sub_cancel,hb];omega
  ·have e:jO.go (mkB l) (n+1) i f out=(out,f == -1):=by
    simp only[jO.go];rw[zt,if_neg hlt]
   rw[e];exact hend i f last out (by omega) ho
theorem mkB_drop (a:List UInt8) (n m:Nat) (hm:m=a.length):(mkB a).extract n m=mkB (a.drop n):=eqB (by
 have e:m=(mkB a).size:=by rw[zt,hm]
 rw[e,Lib.extract_to_end,zk])
def spl (c:UInt8):List UInt8->List UInt8->List (List UInt8)
 | cur,[]=>[cur]
 | cur,x::l=>if x=c then cur::spl c [] l else spl c (cur++[x]) l
def jn (c:UInt8):List (List UInt8)->List UInt8
 | []=>[]
 | [a]=>a
 | a::b::r=>a++c::jn c (b::r)
theorem spl_ne (c:UInt8):∀l cur,∃a r,spl c cur l=a::r
 | [],cur=>⟨cur,[],rfl⟩
 | x::l,cur=>by
  unfold spl
  split
  ·exact⟨_,_,rfl⟩
  ·exact spl_ne c l _
theorem spl_jn (c:UInt8):∀l cur,jn c (spl c cur l)=cur++l
 | [],cur=>by simp [spl,jn]
 | x::l,cur=>by
  unfold spl
  by_cases h:x=c
  ·rw[if_pos h]
   obtain⟨a,r,e⟩:=spl_ne c l [];have:=spl_jn c l [];rw[e] at this ⊢;rw[jn,this,h];rfl
  ·rw[if_neg h,spl_jn c l,List.append_assoc];rfl
theorem spl_free (c:UInt8):∀l cur,c ∉ cur->∀p ∈ spl c cur l,c ∉ p
 | [],cur,h,p,hp=>by
  obtain rfl:=List.mem_singleton.1 hp;exact h
 | x::l,cur,h,p,hp=>by
  unfold spl at hp
  by_cases e:x=c
  ·rw[if_pos e] at hp
   rcases List.mem_cons.1 hp with rfl|hp
   ·exact h
   ·exact spl_free c l [] (List.not_mem_nil) p hp
  ·rw[if_neg e] at hp
   refine spl_free c l _ ?_ p hp;intro z
   rcases List.mem_append.1 z with z|z
   ·exact h z
   ·exact e (List.mem_singleton.1 z).symm
theorem spl_count (c:UInt8):∀l cur,(spl c cur l).length=l.count c+1
 | [],cur=>rfl
 | x::l,cur=>by
  unfold spl
  by_cases e:x=c
  ·rw[if_pos e,List.length_cons,spl_count c l,e,List.count_cons_self]
  ·rw[if_neg e,spl_count c l,List.count_cons_of_ne e]
theorem jn_len (c:UInt8):∀L,∀p ∈ L,p.length<=(jn c L).length
 | [],p,h=>absurd h List.not_mem_nil
 | [a],p,h=>by
  obtain rfl:=List.mem_singleton.1 h;exact Nat.le_refl _
 | a::b::r,p,h=>by
  rw[jn,List.length_append,List.length_cons]
  rcases List.mem_cons.1 h with rfl|h
  ·omega
  ·have:=jn_len c (b::r) p h
   omega
theorem split_l0 (l:List UInt8) (c:UInt8) (h200:l.length<=200):∀(d k i st:Nat) (acc:List ByteArray),i+d=l.length->d<k->st<=i->acc.length<=st ->
  jq.l0 k (mkB l) (c.toNat:Int) acc (st:Int) (i:Int)=some (acc++(spl c ((l.drop st).take (i-st)) (l.drop i)).map mkB)
 | 0,k,i,st,acc,h,hk,hst,ha=>by
  obtain⟨k,rfl⟩:∃m,k=m+1:=⟨k-1,by omega⟩
  simp only[jq.l0];rw[zt,if_neg (by omega),if_pos (by omega),if_pos (by omega),if_pos (by omega),show l.drop i=[] from List.drop_eq_nil_of_le (by omega),Int.toNat_natCast,mkB_drop l st _ rfl];rw[spl,List.take_of_length_le (by rw[List.length_drop];omega)];rfl
 | d+1,k,i,st,acc,h,hk,hst,ha=>by
  obtain⟨k,rfl⟩:∃m,k=m+1:=⟨k-1,by omega⟩
  have hi:i<l.length:=by omega
  have ew:wrap64 ((i:Int)+1)=((i+1:Nat):Int):=by unfold wrap64;omega
  simp only[jq.l0];rw[zt,if_pos (by omega),if_pos (by omega),bt_mk l i hi,ew,List.drop_eq_getElem_cons hi,spl]
  by_cases e:l[i]'hi=c
  ·rw[if_pos (by rw[e]),if_pos (by omega),if_pos (by omega),if_pos (by omega),if_pos (by omega),split_l0 l c h200 d k (i+1) (i+1) _ (by omega) (by omega) (by omega) (by rw[List.length_append,List.length_singleton];omega),if_pos e,Nat.sub_self,List.take_zero,List.append_assoc]
   have:(mkB l).extract st i=mkB ((l.drop st).take (i-st)):=eqB (by rw[Lib.extract_data,zk]);rw[Int.toNat_natCast,Int.toNat_natCast,this];rfl
  ·rw[if_neg (λz=>e (UInt8.toNat_inj.1 (by omega))),split_l0 l c h200 d k (i+1) st acc (by omega) (by omega) (by omega) ha,if_neg e]
   congr 4
   rw[show i+1-st=(i-st)+1 by omega,List.take_add_one,List.getElem?_drop,show st+(i-st)=i by omega,List.getElem?_eq_getElem hi];rfl
theorem rsplit_mk (l:List UInt8) (c:UInt8) (h200:l.length<=200):jq.f 300 (mkB l) (c.toNat:Int)=some (yq (mkB l) (c.toNat:Int))/\yq (mkB l) (c.toNat:Int)=(spl c [] l).map mkB:=by
 have h:=split_l0 l c h200 l.length 300 0 0 [] (by omega) (by omega) (by omega) (by simp);rw[List.nil_append,Nat.sub_self,List.take_zero,List.drop_zero] at h
 have e:yq (mkB l) (c.toNat:Int)=(spl c [] l).map mkB:=by
  unfold yq;rw[show jq.f 300 (mkB l) (c.toNat:Int)=some ((spl c [] l).map mkB) from h];rfl
 exact⟨by rw[e];exact h,e⟩
theorem sg_map (L:List (List UInt8)) (i:Nat):sg (L.map mkB) i=mkB (L.getD i []):=by
 unfold sg rdOf;rw[Int.toNat_natCast,List.getD_eq_getElem?_getD,List.getD_eq_getElem?_getD,List.getElem?_map]
 cases L[i]?<;>rfl
theorem spl_small (c:UInt8) (l:List UInt8) (i:Nat):((spl c [] l).getD i []).length<=l.length:=by
 rw[List.getD_eq_getElem?_getD]
 cases h:(spl c [] l)[i]? with
 | none=>exact Nat.zero_le _
 | some p=>
  have:=jn_len c _ p (List.mem_of_getElem? h);rw[spl_jn,List.nil_append] at this;exact this
theorem split_total (x:ByteArray) (b:Int) (hx:x.size<=200) (hb:b=32\/b=47):jq.f 300 x b=some (yq x b)/\∀i,(sg (yq x b) i).size<=200:=by
 obtain⟨c,rfl⟩:∃c:UInt8,b=(c.toNat:Int):=by
  rcases hb with rfl|rfl
  ·exact⟨32,rfl⟩
  ·exact⟨47,rfl⟩
 have hl:x.data.toList.length<=200:=by rw[Array.length_toList];exact hx
 obtain⟨h1,h2⟩:=rsplit_mk x.data.toList c hl;rw[<- eqB (s:=x) rfl] at h1 h2;refine⟨h1,λi=>?_⟩;rw[h2,sg_map,zt];exact Nat.le_trans (spl_small c _ i) hl
def rowsL:List (List UInt8)->Nat->List Int->Option (List Int)
 | [],_,x=>some x
 | p::L,r,x=>if(jO.f (mkB p)).2=true then rowsL L (r+1) (jD.putL r (jO.f (mkB p)).1 0 9 x) else none
theorem rows_L (L:List (List UInt8)):∀d r x,r+d=L.length->jD.rows (L.map mkB) r d x=rowsL (L.drop r) r x
 | 0,r,x,h=>by
  rw[List.drop_eq_nil_of_le (by omega)];rfl
 | d+1,r,x,h=>by
  have hr:r<L.length:=by omega
  rw[List.drop_eq_getElem_cons hr];simp only[jD.rows,rowsL];rw[sg_map,List.getD_eq_getElem?_getD,List.getElem?_eq_getElem hr,Option.getD_some,rows_L L d (r+1) _ (by omega)]
theorem one_is (p:List UInt8):jO.f (mkB p)=jO.go (mkB p) p.length 0 8 jO.z9:=by
 have h:∀n,(mkB p).size=n->jO.go (mkB p) n 0 8 jO.z9=jO.go (mkB p) p.length 0 8 jO.z9:=λn hn=>by rw[<- hn,zt]
 exact h _ rfl
theorem putL_zero (r:Nat) (hr:r<9) (x:List Int) (hx:x.length=98) (hz:∀q,q<81->r<=q%9->x.getD q 0=0):jD.putL r jO.z9 0 9 x=x:=by
 apply ext_getD (jBC _ _ _ _ _)
 intro q hq;rw[jBL r hr _ 9 0 x (by omega) hx]
 by_cases a:q%9=r/\0<=q/9/\q/9<0+9
 ·rw[if_pos a,hz q (by omega) (by omega)]
  have:∀k:Fin 9,IntKind.i8.wrap (jO.z9.getD k.1 0)=0:=by decide +kernel
  exact this ⟨q/9,by omega⟩
 ·rw[if_neg a]
theorem rows_all:∀(L:List (List UInt8)),L≠[]->(∀p ∈ L,(47:UInt8) ∉ p)->∀(r:Nat) (x:List Int) (last:Int),r<=8->x.length=98->(∀q,q<81->r<=q%9->x.getD q 0=0)->¬(49<=last/\last<=57) ->
  (∀y,L.length+r=9->rowsL L r x=some y->rg (jn 47 L) 8 r false last (x.take 81)=some (y.take 81,true)/\y.length=98/\y.getD 97 0=x.getD 97 0) /\
  (L.length+r≠9\/rowsL L r x=none->∃b',rg (jn 47 L) 8 r false last (x.take 81)=some (b',false))
 | [],h,_,_,_,_,_,_,_,_=>absurd rfl h
 | p::L,_,hp,r,x,last,hr,hx,hz,hlast=>by
  have hp47:=hp p List.mem_cons_self
  have hiff:(49<=last/\last<=57)↔(0<0/\49<=bt (mkB p) ((0-1:Nat):Int)/\bt (mkB p) ((0-1:Nat):Int)<=57):=⟨λh=>absurd h hlast,λh=>absurd h.1 (by decide)⟩
  have hzero:=putL_zero r (by omega) x hx hz;have step:=λrest hrest=>row_step p hp47 rest hrest r (by omega) x hx p.length 0 8 last jO.z9 (by omega) (by omega) rfl (by omega) (by omega) hiff;rw[<- one_is,hzero] at step;simp only[List.drop_zero] at step
  cases L with
  | nil=>
   obtain⟨s1,s2⟩:=step [] (.inl rfl);rw[List.append_nil] at s1 s2;rw[jn];simp only[rowsL]
   by_cases ho:(jO.f (mkB p)).2=true
   ·obtain⟨l9,last',e⟩:=s1 ho
    rw[e,if_pos ho];simp only[rg,jl.done];refine⟨λy hl hy=>?_,λh=>?_⟩
    ·obtain rfl:=Option.some.inj hy
     have:r=8:=by simp at hl;omega
     subst this;refine⟨rfl,by rw[jBC];exact hx,?_⟩;rw[jBL 8 (by omega) _ 9 0 x (by omega) hx,if_neg (by omega)]
    ·have:r≠8:=by
      rcases h with h|h
      ·simp at h;omega
      ·cases h
     refine⟨(jD.putL r (jO.f (mkB p)).1 0 9 x).take 81,?_⟩;rw[beq_eq_false_iff_ne.2 (show(r:Int)≠8 by omega)];rfl
   ·rw[if_neg ho]
    exact⟨λy _ hy=>(by cases hy),λ_=>s2 (by simpa using ho)⟩
  | cons q L=>
   obtain⟨s1,s2⟩:=step (47::jn 47 (q::L)) (.inr ⟨_,rfl⟩);rw[jn];rw[rowsL]
   by_cases ho:(jO.f (mkB p)).2=true
   ·obtain⟨l9,last',e⟩:=s1 ho
    have e47:((47:UInt8).toNat:Int)=47:=rfl;rw[e,if_pos ho,rg,e47,if_pos rfl]
    by_cases h8:r=8
    ·rw[if_pos (.inr (.inr (by omega)))]
     exact⟨λy hl _=>(by simp at hl;omega),λ_=>⟨_,rfl⟩⟩
    ·rw[if_neg (by
      rintro(h|h|h)
      ·exact h rfl
      ·exact absurd h (by decide)
      ·omega),show(r:Int)+1=((r+1:Nat):Int) by omega]
     have hx':(jD.putL r (jO.f (mkB p)).1 0 9 x).length=98:=by rw[jBC];exact hx
     obtain⟨i1,i2⟩:=rows_all (q::L) (by simp) (λz hz=>hp z (List.mem_cons_of_mem _ hz)) (r+1) _ 47 (by omega) hx' (λz hz1 hz2=>by
      rw[jBL r (by omega) _ 9 0 x (by omega) hx,if_neg (by omega)]
      exact hz z hz1 (by omega)) (by omega)
     refine⟨λy hl hy=>?_,λh=>i2 (by
      rcases h with h|h
      ·left;simp only[List.length_cons] at h ⊢;omega
      ·exact .inr h)⟩
     obtain⟨j1,j2,j3⟩:=i1 y (by simp only[List.length_cons] at hl ⊢;omega) hy;refine⟨j1,j2,j3.trans ?_⟩;rw[jBL r (by omega) _ 9 0 x (by omega) hx,if_neg (by omega)]
   ·rw[if_neg ho]
    exact⟨λy _ hy=>(by cases hy),λ_=>s2 (by simpa using ho)⟩
def numT (l:List UInt8):Int:=if l.length<1\/4<l.length\/l.head?=some 48 then 0 else match Lib.decFrom 0 l with
 | some m=>(m:Int)
 | none=>0
theorem numl_is (l:List UInt8) (hl4:l.length<=4):∀(d i acc k:Nat),i+d=l.length->d<k->acc<10^i ->
  jM.l0 k (mkB l) (acc:Int) (i:Int)=some (match Lib.decFrom acc (l.drop i) with
   | some m=>(m:Int)
   | none=>0)
 | 0,i,acc,k,h,hk,_=>by
  obtain⟨k,rfl⟩:∃m,k=m+1:=⟨k-1,by omega⟩
  simp only[jM.l0];rw[zt,if_neg (by omega),List.drop_eq_nil_of_le (by omega)]
  rfl
 | d+1,i,acc,k,h,hk,ha=>by
  obtain⟨k,rfl⟩:∃m,k=m+1:=⟨k-1,by omega⟩
  have hi:i<l.length:=by omega
  simp only[jM.l0];rw[zt,if_pos (by omega),if_pos (by omega),bt_mk l i hi,List.drop_eq_getElem_cons hi];simp only[Lib.decFrom,Lib.digitVal]
  by_cases h1:(l[i]'hi).toNat<48
  ·rw[if_pos (by omega),if_neg (by omega)]
  ·rw[if_neg (by omega)]
   by_cases h2:57<(l[i]'hi).toNat
   ·rw[if_pos (by omega),if_neg (by omega)]
   ·rw[if_neg (by omega),if_pos (by omega)]
    have hp:acc<1000:=Nat.lt_of_lt_of_le ha (by
     have:10^i<=10^3:=Nat.pow_le_pow_right (by decide) (by omega)
     omega)
    have e1:wrap64 (wrap64 (10*(acc:Int))+(((l[i]'hi).toNat:Int)-48)%256)=((acc*10+((l[i]'hi).toNat-48):Nat):Int):=by
     have e0:wrap64 (10*(acc:Int))=10*(acc:Int):=by unfold wrap64;omega
     rw[e0];unfold wrap64;omega
    have e2:wrap64 ((i:Int)+1)=((i+1:Nat):Int):=by clear e1;unfold wrap64;omega
    rw[e1,e2];exact numl_is l hl4 d (i+1) _ k (by omega) (by omega) (by rw[Nat.pow_succ];omega)
theorem rnumber_mk (l:List UInt8):jAP (mkB l)=numT l:=by
 have h:=rnumber_is (mkB l)
 have h2:jM.f 60 (mkB l)=some (numT l):=by
  unfold jM.f numT;rw[zt]
  by_cases h1:l.length<1
  ·rw[if_pos (by omega),if_pos (.inl h1)];rfl
  rw[if_neg (by omega)]
  by_cases h4:4<l.length
  ·rw[if_pos (by omega),if_pos (.inr (.inl h4))];rfl
  rw[if_neg (by omega),if_pos (by omega)];have hb:bt (mkB l) 0=((l[0]'(by omega)).toNat:Int):=bt_mk l 0 (by omega)
  have hh:l.head?=some (l[0]'(by omega)):=by cases l with|nil=>exact absurd h1 (by decide)|cons c r=>rfl
  simp only[jM.j0]
  by_cases h0:l[0]'(by omega)=48
  ·rw[if_pos (by rw[hb,h0];rfl),if_pos (.inr (.inr (by rw[hh,h0])))]
  ·have hne:¬(bt (mkB l) 0==48)=true:=by
    rw[hb,beq_iff_eq];intro e;refine h0 (UInt8.toNat_inj.1 ?_);show _=48;omega
   rw[if_neg hne,if_neg (by
    rintro(h|h|h)
    ·exact h1 h
    ·exact h4 h
    ·rw[hh] at h;exact h0 (Option.some.inj h))]
   have:=numl_is l (by omega) l.length 0 0 59 (by omega) (by omega) (by decide);rw[List.drop_zero] at this;exact this
 rw[h2] at h;exact(Option.some.inj h).symm
theorem decFrom_snoc (c:UInt8):∀(l:List UInt8) (acc:Nat), Lib.decFrom acc (l++[c])=(Lib.decFrom acc l).bind λm=>(Lib.digitVal c).map λd=>m*10+d
 | [],acc=>by
  simp only[List.nil_append,Lib.decFrom,Option.bind_some]
  cases Lib.digitVal c<;>rfl
 | b::r,acc=>by
  simp only[List.cons_append,Lib.decFrom]
  cases Lib.digitVal b with
  | none=>rfl
  | some d=>exact decFrom_snoc c r _
theorem digitVal_some {c:UInt8} {d:Nat} (h:Lib.digitVal c=some d):d<10/\c=UInt8.ofNat (48+d):=by
 unfold Lib.digitVal at h
 split at h
 ·have e:=Option.some.inj h
  refine⟨by omega,UInt8.toNat_inj.1 ?_⟩;rw[ofNat48 d (by omega)];omega
 ·cases h
theorem dec_unique:∀(k:Nat) (l:List UInt8) (m:Nat),l.length<=k->l≠[]->l.head?≠some 48->Lib.decFrom 0 l=some m->1<=m/\Lib.decDigits m=l
 | 0,l,m,hk,hne,_,_=>absurd (List.length_eq_zero_iff.1 (by omega)) hne
 | k+1,l,m,hk,hne,hh,hd=>by
  rcases List.eq_nil_or_concat l with rfl|⟨r,c,rfl⟩
  ·exact absurd rfl hne
  ·rw[List.concat_eq_append] at *
   rw[decFrom_snoc] at hd;obtain⟨m',h1,h2⟩:=Option.bind_eq_some_iff.1 hd;obtain⟨d,h3,h4⟩:=Option.map_eq_some_iff.1 h2;obtain⟨hd10,hc⟩:=digitVal_some h3
   cases r with
   | nil=>
    have e0:m'=0:=(Option.some.inj h1).symm;subst e0
    have e1:m=d:=by omega
    subst e1
    have hm:1<=m:=by
     by_cases z:m=0
     ·subst z
      exact absurd (congrArg some hc) hh
     ·omega
    exact⟨hm,by rw[Lib.decDigits_one hd10,hc];rfl⟩
   | cons b r=>
    have hlen:(b::r).length<=k:=by simp at hk ⊢;omega
    obtain⟨g1,g2⟩:=dec_unique k (b::r) m' hlen (by simp) hh h1;refine⟨by omega,?_⟩;rw[Lib.decDigits,dif_neg (by omega),show m/10=m' by omega,show m%10=d by omega,g2,hc]
theorem head_dec:∀(k u:Nat),u<=k->1<=u->(Lib.decDigits u).head?≠some 48
 | 0,u,h,h1=>by omega
 | k+1,u,h,h1=>by
  by_cases h10:u<10
  ·rw[Lib.decDigits_one h10]
   intro e;have e1:=ofNat48 u h10;rw[Option.some.inj e] at e1;exact absurd e1 (by show ¬48=48+u;omega)
  ·rw[Lib.decDigits,dif_neg h10]
   have:=head_dec k (u/10) (by omega) (by omega)
   cases hq:Lib.decDigits (u/10) with
   | nil=>exact absurd hq (dec_is u (u/10) (Nat.lt_of_le_of_lt (Nat.div_le_self _ _) (Nat.lt_of_lt_of_le (Nat.lt_pow_self (by decide)) (Nat.pow_le_pow_right (by decide) (Nat.le_succ u))))).2.2.1
   | cons b r=>
    rw[hq] at this;exact this
theorem numT_itoa (v:Int) (h1:1<=v) (h9:v<=9999):numT (Lib.itoa v)=v:=by
 obtain⟨d1,d2,d3,d4⟩:=dec_is 3 v.toNat (by omega);have hh:=head_dec v.toNat v.toNat (Nat.le_refl _) (by omega);have hne:0<(Lib.decDigits v.toNat).length:=List.length_pos_iff.2 d3;rw[jBW v (by omega) (by omega)];unfold numT
 rw[if_neg (by
  rintro(h|h|h)
  ·omega
  ·omega
  ·exact hh h),d1]
 show(v.toNat:Int)=v;omega
theorem numT_pos (l:List UInt8) (h:numT l≠0):1<=numT l/\numT l<=9999/\l=Lib.itoa (numT l):=by
 have hn:=h;unfold numT at h
 by_cases hc:l.length<1\/4<l.length\/l.head?=some 48
 ·rw[if_pos hc] at h;exact absurd rfl h
 rw[if_neg hc] at h
 cases hd:Lib.decFrom 0 l with
 | none=>rw[hd] at h;exact absurd rfl h
 | some m=>
  have hne:l≠[]:=λe=>hc (.inl (by rw[e];decide));have hh:l.head?≠some 48:=λe=>hc (.inr (.inr e));obtain⟨m1,m2⟩:=dec_unique l.length l m (Nat.le_refl _) hne hh hd;have hlt:=Lib.decFrom_lt l 0 m hd;have hp:10^l.length<=10^4:=Nat.pow_le_pow_right (by decide) (by omega)
  have e:numT l=(m:Int):=by unfold numT;rw[if_neg hc,hd]
  rw[e];refine⟨by omega,by omega,?_⟩;rw[jBW _ (by omega) (by omega),Int.toNat_natCast,m2]
theorem atoi_num {α:Type} (l:List UInt8) (h18:l.length<=200) (X:α) (K:Int->α):(match jAG (mkB l) with
  | none=>X
  | some v=>if(!(Lib.itoa v==l))=true\/v<1\/9999<v then X else K v)=if numT l=0 then X else K (numT l):=by
 by_cases z:numT l=0
 ·rw[if_pos z]
  cases ha:jAG (mkB l) with
  | none=>rfl
  | some v=>
   dsimp only
   by_cases hb:(!(Lib.itoa v==l))=true\/v<1\/9999<v
   ·rw[if_pos hb]
   ·exfalso
    have e:Lib.itoa v=l:=by
     by_cases e:Lib.itoa v=l
     ·exact e
     ·exact absurd (.inl (by rw[Bool.not_eq_true',beq_eq_false_iff_ne];exact e)) hb
    have:=numT_itoa v (by omega) (by omega);rw[e,z] at this;omega
 ·obtain⟨n1,n2,n3⟩:=numT_pos l z
  have ha:jAG (mkB l)=some (numT l):=by
   have:=atoi_itoa (numT l) (by omega) (by omega);rw[<- n3] at this;exact this
  rw[ha,if_neg z];dsimp only;rw[if_neg];rintro(h|h|h)
  ·rw[<- n3,beq_self_eq_true] at h;exact absurd h (by decide)
  ·omega
  ·omega
theorem hg_all (s:ByteArray) (l:List UInt8) (hl:s.data.toList=l):∀(d k pos:Nat) (n dg:Int) (b:List Int),pos+d=l.length->d<=k ->
  js.go s k pos n dg b=hg (!(l==[])) (l.drop pos) n dg b
 | 0,k,pos,n,dg,b,h,hk=>by
  have hsz:s.size=l.length:=by rw[<- hl];exact(Array.length_toList).symm
  rw[List.drop_eq_nil_of_le (by omega)]
  cases k with
  | zero=>simp only[js.go,hg];rw[if_neg (by omega),yk s l hl]
  | succ k=>simp only[js.go,hg];rw[if_neg (by omega),yk s l hl]
 | d+1,k,pos,n,dg,b,h,hk=>by
  obtain⟨k,rfl⟩:∃m,k=m+1:=⟨k-1,by omega⟩
  have hsz:s.size=l.length:=by rw[<- hl];exact(Array.length_toList).symm
  have hb:s[pos]'(by omega)=l[pos]'(by omega):=by subst hl;rfl
  have ih:=λn dg b=>hg_all s l hl d k (pos+1) n dg b (by omega) (by omega);rw[List.drop_eq_getElem_cons (by omega)];simp only[js.go,hg];rw[if_pos (by omega)]
  by_cases ha:(s[pos]'(by omega)).toNat<128
  ·rw[decode_ascii s pos (by omega) ha,hb]
   simp only[ih]
  ·have hh:=(decode_high s pos (by omega) (by omega)).1
   have k0:jS.f 20 0=some 0:=(jAS 0 (by decide)).1 20 (by omega);rw[if_neg (by omega),pp_high _ _ (by omega),<- hb,if_neg (by omega),pp_high _ _ (by omega),Option.bind_some,Option.bind_some,k0,Option.bind_some,Option.bind_some,if_pos (.inl rfl),if_pos (.inl rfl)]
theorem hands_all (l:List UInt8):js.f (mkB l)=if l=[45] then some (js.z16,true) else hg (!(l==[])) l 0 0 js.z16:=by
 have h:∀n,(mkB l).size=n->js.go (mkB l) n 0 0 0 js.z16=hg (!(l==[])) l 0 0 js.z16:=λn hn=>by
  have:=hg_all (mkB l) l (zk l) l.length n 0 0 0 js.z16 (by omega) (by rw[<- hn,zt];omega);rw[List.drop_zero] at this;exact this
 unfold js.f;rw[h _ rfl,jBE]
 by_cases e:l=[45]
 ·rw[if_pos e,if_pos (beq_iff_eq.2 e)]
 ·rw[if_neg e,if_neg (λz=>e (beq_iff_eq.1 z))]
def isd (c:UInt8):Bool:=decide (48<=c.toNat/\c.toNat<=57)
theorem dend_is (l:List UInt8):∀d i,l.length<=i+d->i<=l.length->jE.dend (mkB l) d i=i+((l.drop i).takeWhile isd).length
 | 0,i,h,hi=>by
  rw[List.drop_eq_nil_of_le (by omega)];rfl
 | d+1,i,h,hi=>by
  rw[jE.dend,zt]
  by_cases hlt:i<l.length
  ·rw[bt_mk l i hlt,List.drop_eq_getElem_cons hlt,List.takeWhile_cons]
   by_cases hc:48<=(l[i]'hlt).toNat/\(l[i]'hlt).toNat<=57
   ·rw[if_pos ⟨hlt,by omega,by omega⟩,if_pos (by unfold isd;exact decide_eq_true hc),dend_is l d (i+1) (by omega) (by omega),List.length_cons]
    omega
   ·rw[if_neg (by omega),if_neg (by unfold isd;rw[decide_eq_false hc];decide)];rfl
  ·rw[if_neg (by omega),List.drop_eq_nil_of_le (by omega)];rfl
theorem namedT_spec (x:List UInt8):∀d n,yQ x n d=0\/nmL (yQ x n d)=x
 | 0,n=>.inl rfl
 | d+1,n=>by
  rw[show yQ x n (d+1)=(if nmL (n:Int)=x/\x≠[] then(n:Int) else yQ x (n+1) d) from rfl]
  split
  ·rename_i h
   exact .inr h.1
  ·exact namedT_spec x d (n+1)
theorem named_one (c:UInt8):j6 (yQ [c] 1 31)<=8/\(Lit.int .i8 (yQ [c] 1 31)).wf=true:=by
 refine⟨?_,?_⟩
 ·rcases namedT_spec [c] 31 1 with h|h
  ·rw[h];decide
  ·unfold nmL at h
   by_cases h8:8<j6 (yQ [c] 1 31)
   ·rw[if_neg (by omega),if_pos h8] at h
    simp at h
   ·omega
 ·have hr:=jBI [c] 31 1
  have:∀n:Fin 32,(Lit.int .i8 (n.1:Int)).wf=true:=by decide +kernel
  have h2:=this ⟨(yQ [c] 1 31).toNat,by omega⟩
  rwa [show((⟨(yQ [c] 1 31).toNat,by omega⟩:Fin 32).1:Int)=yQ [c] 1 31 by show(((yQ [c] 1 31).toNat:Nat):Int)=_;omega] at h2
theorem digs (ds:List UInt8) (hd:∀c ∈ ds,isd c=true) (rest:List UInt8) (b:List Int) : 
  (ds=[]/\hg true (ds++rest) 0 0 b=hg true rest 0 0 b) \/
  (ds≠[]/\(numT ds<1\/18<numT ds)/\∃b' , hg true (ds++rest) 0 0 b=some (b',false)) \/
  (ds≠[]/\1<=numT ds/\∃dg,0<dg/\hg true (ds++rest) 0 0 b=hg true rest (numT ds) dg b):=by
 have hdig:∀c,isd c=true->48<=c.toNat/\c.toNat<=57:=λc h=>of_decide_eq_true h
 match ds,hd with
 | [],_=>exact .inl ⟨rfl,rfl⟩
 | c1::r1,hd=>
  right
  have h1:=hdig c1 (hd c1 List.mem_cons_self)
  by_cases z:c1.toNat=48
  ·left
   have e:c1=48:=UInt8.toNat_inj.1 z;refine⟨by simp,.inl ?_,b,?_⟩
   ·unfold numT
    rw[if_pos (.inr (.inr (by rw[e];rfl)))];decide
   ·rw[List.cons_append,hg,if_pos (by omega),if_pos (.inr (by omega))]
  ·have dv1:Lib.digitVal c1=some (c1.toNat-48):=by unfold Lib.digitVal;rw[if_pos (by omega)]
   have hh1:¬(c1::r1).head?=some 48:=λh=>z (by rw[Option.some.inj h];rfl)
   match r1,hd with
   | [],_=>
    right
    have en:numT [c1]=(c1.toNat:Int)-48:=by
     unfold numT
     rw[if_neg (by
      rintro(h|h|h)
      ·simp at h
      ·simp at h
      ·exact hh1 h)]
     simp only[Lib.decFrom,dv1];omega
    refine⟨by simp,by omega,1,by decide,?_⟩;rw[List.singleton_append,hg,if_pos (by omega),if_neg (by omega),en]
    congr 1
    omega
   | c2::r2,hd=>
    have h2:=hdig c2 (hd c2 (by simp))
    have dv2:Lib.digitVal c2=some (c2.toNat-48):=by unfold Lib.digitVal;rw[if_pos (by omega)]
    match r2,hd with
    | [],_=>
     right
     have en:numT [c1,c2]=10*((c1.toNat:Int)-48)+((c2.toNat:Int)-48):=by
      unfold numT
      rw[if_neg (by
       rintro(h|h|h)
       ·simp at h
       ·simp at h
       ·exact hh1 h)]
      simp only[Lib.decFrom,dv1,dv2];omega
     refine⟨by simp,by omega,2,by decide,?_⟩;rw[List.cons_append,List.singleton_append,hg,if_pos (by omega),if_neg (by omega),hg,if_pos (by omega),if_neg (by omega),en]
     congr 1
     omega
    | c3::r3,hd=>
     left
     have h3:=hdig c3 (hd c3 (by simp));refine⟨by simp,?_,b,?_⟩
     ·by_cases hz:numT (c1::c2::c3::r3)=0
      ·left;omega
      ·right
       obtain⟨n1,n2,n3⟩:=numT_pos _ hz
       by_cases h18:18<numT (c1::c2::c3::r3)
       ·exact h18
       ·exfalso
        have:=(dec_is 1 (numT (c1::c2::c3::r3)).toNat (by omega)).2.1;rw[<- jBW _ (by omega) (by omega),<- n3] at this
        simp at this
     ·rw[List.cons_append,List.cons_append,List.cons_append,hg,if_pos (by omega),if_neg (by omega),hg,if_pos (by omega),if_neg (by omega),hg,if_pos (by omega),if_pos (.inl rfl)]
theorem hands_step (l:List UInt8):∀(n i:Nat) (out:List Int),l.length<=i+n->i<=l.length->out.length=16 ->
  ((jE.go (mkB l) n i out).2=true->(jE.go (mkB l) n i out).1.length=16/\hg true (l.drop i) 0 0 out=some ((jE.go (mkB l) n i out).1,true)) /\
  ((jE.go (mkB l) n i out).2=false->∃b',hg true (l.drop i) 0 0 out=some (b',false)):=by
 intro n
 induction n with
 | zero=>
  intro i out hn hi ho;rw[List.drop_eq_nil_of_le (by omega)];exact⟨λ_=>⟨ho,rfl⟩,λh=>(Bool.false_ne_true h.symm).elim⟩
 | succ n ih=>
  intro i out hn hi ho
  by_cases hlt:i<l.length
  ·have hdl:(l.drop i)=(l.drop i).takeWhile isd++(l.drop i).dropWhile isd:=List.takeWhile_append_dropWhile.symm
   have hde:=dend_is l l.length i (by omega) hi;have hall:∀c ∈ (l.drop i).takeWhile isd,isd c=true:=λc hc=>List.all_eq_true.1 List.all_takeWhile c hc
   have hlen:((l.drop i).takeWhile isd).length+((l.drop i).dropWhile isd).length=l.length-i:=by
    rw[<- List.length_append,<- hdl,List.length_drop]
   have hnd:∀c t,(l.drop i).dropWhile isd=c::t->isd c=false:=λc t h=>by
    have:=List.head?_dropWhile_not isd (l.drop i);rw[h] at this
    simpa using this
   generalize (l.drop i).takeWhile isd=D at *;generalize (l.drop i).dropWhile isd=R at *
   have hrest:l.drop (i+D.length)=R:=by rw[<- List.drop_drop,hdl,List.drop_left]
   have hds:(mkB l).extract i (i+D.length)=mkB D:=eqB (by rw[Lib.extract_data,zk,Nat.add_sub_cancel_left,hdl,List.take_left])
   have hnum:jE.num (mkB l) i=if D=[] then 1 else numT D:=by
    unfold jE.num;rw[zt,hde]
    by_cases e:D=[]
    ·rw[if_pos e,if_neg (by rw[e];simp)]
    ·have:=List.length_pos_iff.2 e
     rw[if_neg e,if_pos (by omega),hds,rnumber_mk]
   rw[jE.go,zt,if_pos hlt,hde,hnum,hdl];have hdg:=digs D hall R out
   by_cases hend:R=[]
   ·subst hend
    have hDl:i+D.length=l.length:=by simp at hlen;omega
    rw[if_pos (.inl hDl)];refine⟨λh=>(Bool.false_ne_true h).elim,λ_=>?_⟩
    rcases hdg with⟨h1,_⟩|⟨_,_,h⟩|⟨_,_,dg,h0,h⟩
    ·subst h1
     simp at hDl
     omega
    ·exact h
    ·rw[h]
     refine⟨out,?_⟩;simp only[hg];rw[beq_eq_false_iff_ne.2 (show dg≠0 by omega)];rfl
   ·obtain⟨c,t,rfl⟩:∃c t,R=c::t:=by
     cases R with
     | nil=>exact absurd rfl hend
     | cons c t=>exact⟨c,t,rfl⟩
    have hc:=hnd c t rfl;have hcn:¬(48<=(c.toNat:Int)/\(c.toNat:Int)<=57):=λh=>of_decide_eq_false hc ⟨by omega,by omega⟩
    have hl1:i+D.length<l.length:=by simp only[List.length_cons] at hlen;omega
    have hce:l[i+D.length]'hl1=c:=by
     have:=List.drop_eq_getElem_cons hl1;rw[hrest] at this;exact(List.cons.inj this).1.symm
    have ht:l.drop (i+D.length+1)=t:=by
     have:=List.drop_eq_getElem_cons hl1;rw[hrest] at this;exact(List.cons.inj this).2.symm
    obtain⟨nk,nw⟩:=named_one c;have hp:=(pp_byte c).1;obtain⟨pk,ps⟩:=jAS _ nw;rw[ext1 l _ hl1,hce,jB7];generalize hv:yQ [c] 1 31=v at *
    have main:∀(m dg:Int),(D=[]/\m=0/\dg=0)\/(D≠[]/\m=numT D/\1<=m/\0<dg)->hg true (D++c::t) 0 0 out=hg true (c::t) m dg out ->
      ((if i+D.length=l.length\/(if D=[] then 1 else numT D)<1\/18<(if D=[] then 1 else numT D) then(out,false) else if yu v<1\/7<yu v\/out.getD (jE.at v) 0≠0 then(out,false) else jE.go (mkB l) n (i+D.length+1) (out.set (jE.at v) (if D=[] then 1 else numT D))).2=true ->
       (if i+D.length=l.length\/(if D=[] then 1 else numT D)<1\/18<(if D=[] then 1 else numT D) then(out,false) else if yu v<1\/7<yu v\/out.getD (jE.at v) 0≠0 then(out,false) else jE.go (mkB l) n (i+D.length+1) (out.set (jE.at v) (if D=[] then 1 else numT D))).1.length=16/\hg true (D++c::t) 0 0 out=some ((if i+D.length=l.length\/(if D=[] then 1 else numT D)<1\/18<(if D=[] then 1 else numT D) then(out,false) else if yu v<1\/7<yu v\/out.getD (jE.at v) 0≠0 then(out,false) else jE.go (mkB l) n (i+D.length+1) (out.set (jE.at v) (if D=[] then 1 else numT D))).1,true)) /\
      ((if i+D.length=l.length\/(if D=[] then 1 else numT D)<1\/18<(if D=[] then 1 else numT D) then(out,false) else if yu v<1\/7<yu v\/out.getD (jE.at v) 0≠0 then(out,false) else jE.go (mkB l) n (i+D.length+1) (out.set (jE.at v) (if D=[] then 1 else numT D))).2=false->∃b',hg true (D++c::t) 0 0 out=some (b',false)):=λm dg hm he=>by
     have hN:(if D=[] then 1 else numT D)=max 1 m:=by
      rcases hm with⟨h1,h2,_⟩|⟨h1,h2,h3,_⟩
      ·rw[if_pos h1,h2];rfl
      ·rw[if_neg h1,h2,Int.max_def,if_pos (by omega)]
     have hm1:1<=max 1 m:=Int.le_max_left _ _;have hmm:max 1 m=if 1<=m then m else 1:=Int.max_def _ _;rw[hN,he];simp only[hg];rw[if_neg hcn,hp,Option.bind_some,pk 20 (by omega),Option.bind_some,jA0]
     by_cases hbad:max 1 m<1\/18<max 1 m
     ·rw[if_pos (.inr hbad),if_pos (.inr (.inr (by
       have h18:18<max 1 m:=hbad.resolve_left (by omega)
       rcases hm with⟨h1,h2,_⟩|⟨h1,h2,h3,h4⟩
       ·subst h2
        exact absurd h18 (by decide)
       ·rw[hmm,if_pos h3] at h18
        exact⟨h4,h18⟩)))]
      exact⟨λh=>(Bool.false_ne_true h).elim,λ_=>⟨_,rfl⟩⟩
     ·rw[if_neg (by
       rintro(h|h)
       ·omega
       ·exact hbad h)]
      by_cases hk:((j6 v:Nat):Int)=0\/((j6 v:Nat):Int)=8
      ·rw[if_pos (by
        rcases hk with h|h
        ·exact .inl (by omega)
        ·exact .inr (.inl (by omega))),if_pos (by
        rcases hk with h|h
        ·exact .inl h
        ·exact .inr (.inl h))]
       exact⟨λh=>(Bool.false_ne_true h).elim,λ_=>⟨_,rfl⟩⟩
      ·have hk0:j6 v≠0:=λe=>hk (.inl (by omega))
       have hs:=(yo v hk0).2.2
       have hat:jE.at v=(zg v).toNat*8+((j6 v:Nat):Int).toNat:=by
        unfold jE.at;rw[jB1,jA0];omega
       rw[if_neg (show ¬(((j6 v:Nat):Int)=0\/((j6 v:Nat):Int)=8\/(0<dg/\18<m)) by
        rintro(h|h|h)
        ·exact hk (.inl h)
        ·exact hk (.inr h)
        ·refine hbad (.inr ?_)
         rw[hmm,if_pos (by omega)]
         exact h.2),ps 20 (by omega),Option.bind_some,if_pos (show 0<=zg v/\zg v<2/\0<=((j6 v:Nat):Int)/\((j6 v:Nat):Int)<8 by omega),hat]
       by_cases ho0:out.getD ((zg v).toNat*8+((j6 v:Nat):Int).toNat) 0≠0
       ·rw[if_pos (.inr (.inr ho0)),if_pos ho0]
        exact⟨λh=>(Bool.false_ne_true h).elim,λ_=>⟨_,rfl⟩⟩
       ·rw[if_neg (by
         rintro(h|h|h)
         ·omega
         ·omega
         ·exact ho0 h),if_neg ho0]
        have:=ih (i+D.length+1) (out.set ((zg v).toNat*8+((j6 v:Nat):Int).toNat) (max 1 m)) (by omega) (by omega) (by rw[List.length_set];exact ho);rw[ht] at this;exact this
    rcases hdg with⟨h1,h2⟩|⟨h1,hb,b',h⟩|⟨h1,hb,dg,h0,h⟩
    ·exact main 0 0 (.inl ⟨h1,rfl,rfl⟩) h2
    ·rw[if_neg h1,if_pos (.inr hb),h]
     exact⟨λh=>(Bool.false_ne_true h).elim,λ_=>⟨_,rfl⟩⟩
    ·exact main (numT D) dg (.inr ⟨h1,rfl,hb,h0⟩) h
  ·have e:jE.go (mkB l) (n+1) i out=(out,true):=by
    rw[jE.go,zt,if_neg hlt]
   rw[e,List.drop_eq_nil_of_le (by omega)];exact⟨λ_=>⟨ho,rfl⟩,λh=>(Bool.false_ne_true h.symm).elim⟩
theorem hands_same (l:List UInt8):((jE.f (mkB l)).2=true->(jE.f (mkB l)).1.length=16/\js.f (mkB l)=some ((jE.f (mkB l)).1,true)) /\
  ((jE.f (mkB l)).2=false->∃b',js.f (mkB l)=some (b',false)):=by
 rw[hands_all];unfold jE.f;rw[jBE]
 by_cases e:l=[45]
 ·rw[if_pos e,if_pos e]
  exact⟨λ_=>⟨rfl,rfl⟩,λh=>(Bool.false_ne_true h.symm).elim⟩
 ·rw[if_neg e,if_neg e]
  by_cases e0:l=[]
  ·rw[if_pos e0]
   subst e0;exact⟨λh=>(Bool.false_ne_true h).elim,λ_=>⟨_,rfl⟩⟩
  ·have hb:(!(l==[]))=true:=by rw[beq_eq_false_iff_ne.2 e0];rfl
   rw[if_neg e0,hb]
   have h:∀n,(mkB l).size=n->jE.go (mkB l) n 0 jE.z16=jE.go (mkB l) l.length 0 jE.z16:=λn hn=>by rw[<- hn,zt]
   rw[h _ rfl];have:=hands_step l l.length 0 jE.z16 (by omega) (by omega) rfl;rw[List.drop_zero] at this;exact this
theorem putL_wf (r:Nat) (l:List Int):∀d f x,(∀z ∈ x,(Lit.int .i8 z).wf=true)->∀z ∈ jD.putL r l f d x,(Lit.int .i8 z).wf=true
 | 0,_,_,h=>h
 | d+1,f,x,h=>putL_wf r l d (f+1) _ (λz hz=>by
  rcases List.mem_or_eq_of_mem_set hz with hz|rfl
  ·exact h z hz
  ·exact wf_wrap _ _)
theorem rowsL_wf:∀L r x y,(∀z ∈ x,(Lit.int .i8 z).wf=true)->rowsL L r x=some y->∀z ∈ y,(Lit.int .i8 z).wf=true
 | [],_,x,y,h,e=>by
  obtain rfl:=Option.some.inj e;exact h
 | p::L,r,x,y,h,e=>by
  rw[rowsL] at e
  split at e
  ·exact rowsL_wf L (r+1) _ y (putL_wf _ _ _ _ _ h) e
  ·cases e
theorem wf_small (v:Int) (h0:0<=v) (h:v<=31):(Lit.int .i8 v).wf=true:=by
 have:=wf_wrap .i8 v
 rwa [i8_small v h0 h] at this
theorem hands_wf (s:ByteArray):∀n i out,(∀z ∈ out,(Lit.int .i8 z).wf=true)->∀z ∈ (jE.go s n i out).1,(Lit.int .i8 z).wf=true
 | 0,_,_,h=>h
 | n+1,i,out,h=>by
  rw[jE.go]
  by_cases h1:i<s.size
  ·rw[if_pos h1]
   by_cases h2:jE.dend s s.size i=s.size\/jE.num s i<1\/18<jE.num s i
   ·rw[if_pos h2];exact h
   ·rw[if_neg h2]
    split
    ·exact h
    ·refine hands_wf s n _ _ λz hz=>?_
     rcases List.mem_or_eq_of_mem_set hz with hz|rfl
     ·exact h z hz
     ·exact wf_small _ (by omega) (by omega)
  ·rw[if_neg h1];exact h
theorem handsf_wf (s:ByteArray):∀z ∈ (jE.f s).1,(Lit.int .i8 z).wf=true:=by
 have hz:∀z ∈ jE.z16,(Lit.int .i8 z).wf=true:=by decide
 unfold jE.f
 split
 ·exact hz
 ·split
  ·exact hz
  ·exact hands_wf s _ _ _ hz
theorem fin_is (y held:List Int) (w:Bool) (hy:y.length=98) (h0:y.getD 97 0=0) (hh:held.length=16):jD.fin y held w=y.take 81++held++[if w=true then 1 else 0]:=by
 have hd:y.drop 97=[0]:=by
  rw[List.drop_eq_getElem_cons (by omega),List.drop_eq_nil_of_le (by omega)];rw[List.getD_eq_getElem?_getD,List.getElem?_eq_getElem (by omega),Option.getD_some] at h0;rw[h0]
 have hl:(y.take 81++held).length=97:=by rw[List.length_append,List.length_take];omega
 unfold jD.fin;rw[hd]
 cases w with
 | false=>rfl
 | true=>
  rw[if_pos rfl,if_pos rfl,List.set_append_right _ _ (by omega),hl];rfl
theorem zl_wf:∀z ∈ jD.zl,(Lit.int .i8 z).wf=true:=λz hz=>by
 rw[List.eq_of_mem_replicate hz];decide
def PL (s:ByteArray):Prop:=∃(cs:List Int) (n e:Int),jk.f s=some (cs,n,e)/\jD.f s=(cs,n,e)/\cs.length=98/\(e=0->∃x,jf.f cs n=some x/\jk.f x=some (cs,n,0)/\zA.f cs n=x/\∀i:Nat,-128<=cs.getD i 0/\cs.getD i 0<=127)
theorem PL_bad (s:ByteArray) (e:Int) (h1:jk.f s=some (jk.zl,0,e)) (h2:jD.f s=(jD.zl,0,e)) (he:e≠0):PL s:=
 ⟨_,_,_,h1,h2,List.length_replicate,λh=>absurd h he⟩
theorem parses_law (s:ByteArray):PL s:=by
 obtain⟨l,rfl⟩:∃l,s=mkB l:=⟨_,eqB rfl⟩
 by_cases h200:200<l.length
 ·refine PL_bad _ 2 ?_ ?_ (by decide)
  ·unfold jk.f;rw[zt,if_pos h200]
  ·unfold jD.f;rw[zt,if_pos h200]
 ·have hS:yq (mkB l) 32=(spl 32 [] l).map mkB:=(rsplit_mk l 32 (by omega)).2
  have hcnt:=spl_count 32 l []
  have href:jD.f (mkB l)=if((spl 32 [] l).map mkB).length=4 then(if jD.bad ((spl 32 [] l).map mkB)=true then(jD.zl,0,70) else match jD.rows (yq (sg ((spl 32 [] l).map mkB) 0) 47) 0 9 jD.zl with|none=>(jD.zl,0,70)|some x=>jD.held ((spl 32 [] l).map mkB) x) else(jD.zl,0,70):=by
   unfold jD.f;rw[zt,if_neg h200,hS]
   rfl
  rw[List.length_map] at href
  by_cases h4:(spl 32 [] l).length=4
  ·rw[if_pos h4] at href
   have hfree:=spl_free 32 l [] List.not_mem_nil;have hjn:=spl_jn 32 l [];rw[List.nil_append] at hjn
   obtain⟨p0,p1,p2,p3,e4⟩:∃p0 p1 p2 p3,spl 32 [] l=[p0,p1,p2,p3]:=by
    match spl 32 [] l,h4 with
    | [a,b,c,d],_=>exact⟨a,b,c,d,rfl⟩
   rw[e4] at hfree hjn href;have hjn:p0++32::(p1++32::(p2++32::p3))=l:=hjn;have hsf:=parse4 p0 p1 p2 p3 (hfree _ (by simp)) (hfree _ (by simp)) (hfree _ (by simp)) (hfree _ (by simp)) (by rw[hjn];omega);rw[hjn] at hsf
   have hl0:p0.length<=200:=by rw[<- hjn] at h200;simp at h200;omega
   have hl3:p3.length<=200:=by rw[<- hjn] at h200;simp at h200;omega
   have g0:sg (List.map mkB [p0,p1,p2,p3]) 0=mkB p0:=rfl;have g1:sg (List.map mkB [p0,p1,p2,p3]) 1=mkB p1:=rfl;have g2:sg (List.map mkB [p0,p1,p2,p3]) 2=mkB p2:=rfl;have g3:sg (List.map mkB [p0,p1,p2,p3]) 3=mkB p3:=rfl;have hS0:yq (mkB p0) 47=(spl 47 [] p0).map mkB:=(rsplit_mk p0 47 hl0).2
   have hB:jD.bad (List.map mkB [p0,p1,p2,p3])=(((spl 47 [] p0).length:Int) != 9||((p1 != [98]&&p1 != [119])||numT p3==0)):=by
    unfold jD.bad;rw[g0,g1,g3,hS0,List.length_map,jBE,rnumber_mk]
   have hfp:=spl_free 47 p0 [] List.not_mem_nil
   have hne:spl 47 [] p0≠[]:=by
    obtain⟨a,r,e⟩:=spl_ne 47 p0 [];rw[e];simp
   have hj0:=spl_jn 47 p0 [];rw[List.nil_append] at hj0
   obtain⟨r1,r2⟩:=rows_all (spl 47 [] p0) hne hfp 0 jD.zl 32 (by omega) List.length_replicate (λq hq _=>by
    unfold jD.zl
    rw[List.getD_eq_getElem?_getD,List.getElem?_replicate,if_pos (by omega)];rfl) (by omega)
   rw[hj0,show jD.zl.take 81=jl.z81 from rfl] at r1 r2;have e0:((0:Nat):Int)=0:=rfl;rw[e0,<- ranks_all p0] at r1 r2;rw[hB,g0,hS0] at href;obtain⟨q1,q2⟩:=hands_same p2
   by_cases hrow:(spl 47 [] p0).length+0≠9\/rowsL (spl 47 [] p0) 0 jD.zl=none
   ·obtain⟨b',hb'⟩:=r2 hrow
    refine PL_bad _ 70 ?_ ?_ (by decide)
    ·rw[hsf,hb',Option.bind_some]
     obtain⟨y,hy⟩:∃y,js.f (mkB p2)=some y:=by
      cases h:(jE.f (mkB p2)).2 with
      | true=>exact⟨_,(q1 h).2⟩
      | false=>
       obtain⟨b,hb⟩:=q2 h;exact⟨_,hb⟩
     rw[hy,Option.bind_some,if_pos (show jk.bad (mkB p1) (b',false).2 y.2=true from rfl)]
    ·rw[href]
     by_cases h9:(spl 47 [] p0).length=9
     ·rw[rows_L (spl 47 [] p0) 9 0 _ (by omega),List.drop_zero,hrow.resolve_left (by omega)]
      split<;>rfl
     ·rw[if_pos]
      rw[Bool.or_eq_true]
      left
      rw[bne_iff_ne];omega
   ·have h9:(spl 47 [] p0).length=9:=by
     by_cases h:(spl 47 [] p0).length=9
     ·exact h
     ·exact absurd (.inl (by omega)) hrow
    obtain⟨y,hy⟩:∃y,rowsL (spl 47 [] p0) 0 jD.zl=some y:=by
     cases h:rowsL (spl 47 [] p0) 0 jD.zl with
     | none=>exact absurd (.inr h) hrow
     | some y=>exact⟨y,rfl⟩
    obtain⟨y1,y2,y3⟩:=r1 y (by omega) hy;have y3:y.getD 97 0=0:=y3;have ywf:=rowsL_wf _ _ _ y zl_wf hy;rw[rows_L (spl 47 [] p0) 9 0 _ (by omega),List.drop_zero,hy,h9] at href;rw[y1,Option.bind_some] at hsf
    have hn9:(((9:Nat):Int) != 9)=false:=by decide
    rw[hn9,Bool.false_or] at href;dsimp only at href hsf
    cases hh:(jE.f (mkB p2)).2 with
    | false=>
     obtain⟨b',hb'⟩:=q2 hh;refine PL_bad _ 70 ?_ ?_ (by decide)
     ·rw[hsf,hb',Option.bind_some,if_pos (show jk.bad (mkB p1) true (b',false).2=true from rfl)]
     ·rw[href]
      unfold jD.held;rw[g2,hh,if_neg (show ¬(false=true) by decide)]
      split<;>rfl
    | true=>
     obtain⟨q3,q4⟩:=q1 hh;have hwf:=handsf_wf (mkB p2);rw[q4,Option.bind_some] at hsf;unfold jD.held at href;rw[g2,hh,if_pos (show true=true from rfl),g1,jBE,fin_is y _ _ y2 y3 q3] at href;generalize (jE.f (mkB p2)).1=H at *
     have hbd:jk.bad (mkB p1) true true=(p1 != [98]&&p1 != [119]):=by
      unfold jk.bad;rw[jBE];rfl
     dsimp only at hsf;rw[hbd] at hsf
     by_cases h1:(p1 != [98]&&p1 != [119])=true
     ·rw[if_pos h1] at hsf
      rw[h1,Bool.true_or,if_pos rfl] at href;exact PL_bad _ 70 hsf href (by decide)
     ·rw[if_neg h1] at hsf
      replace hsf:=hsf.trans (atoi_num p3 hl3 (some (jk.zl,(0:Int),(70:Int))) λv=>(zR.f (y.take 81++H++[if(p1==[119])=true then 1 else 0])).bind λe=>if e=0 then some (y.take 81++H++[if(p1==[119])=true then 1 else 0],v,0) else some (jk.zl,0,e));rw[Bool.eq_false_iff.2 h1,Bool.false_or] at href
      by_cases h3:numT p3=0
      ·rw[if_pos h3] at hsf
       rw[if_pos (beq_iff_eq.2 h3)] at href;exact PL_bad _ 70 hsf href (by decide)
      ·obtain⟨n1,n9,_⟩:=numT_pos p3 h3
       rw[if_neg h3] at hsf;rw[if_neg (λh=>h3 (beq_iff_eq.1 h))] at href
       have hside:∀z ∈ [if(p1==[119])=true then(1:Int) else 0],(Lit.int .i8 z).wf=true:=λz hz=>by
        rw[List.mem_singleton.1 hz]
        split<;>decide
       have hSl:[if(p1==[119])=true then(1:Int) else 0].length=1:=rfl;generalize [if(p1==[119])=true then(1:Int) else 0]=S at *
       have cwf:∀z ∈ y.take 81++H++S,(Lit.int .i8 z).wf=true:=λz hz=>by
        rcases List.mem_append.1 hz with hz|hz
        ·rcases List.mem_append.1 hz with hz|hz
         ·exact ywf z (List.mem_of_mem_take hz)
         ·exact hwf z hz
        ·exact hside z hz
       have hl98:(y.take 81++H++S).length=98:=by rw[List.length_append,List.length_append,List.length_take];omega
       have hg:=wf_getD _ cwf;generalize y.take 81++H++S=cs at *;unfold jD.last at href;rw[refcheck_is cs hg,g3,rnumber_mk] at href;rw[check_is cs hl98 hg,Option.bind_some] at hsf
       by_cases hc:jAZ cs=0
       ·rw[if_pos hc] at hsf href
        have ht:printT cs (numT p3)=textT (λi=>cs.getD i 0) (numT p3):=by
         unfold printT;rw[if_neg (by omega)]
        refine⟨cs,numT p3,0,hsf,href,hl98,λ_=>⟨_,print_mk cs hl98 hg _,?_,rprint_is cs hg _,λi=>bounds_i8 (hg i)⟩⟩;rw[ht];exact parse_text cs hl98 hg hc _ n1 n9
       ·rw[if_neg hc] at hsf href
        exact PL_bad _ _ hsf href hc
  ·refine PL_bad _ 70 ?_ ?_ (by decide)
   ·exact parse_few l (by omega) (by omega)
   ·rw[href,if_neg h4]
end Go.Proofs.YtigenhbmgpfffaaGreatDoor.Pl
