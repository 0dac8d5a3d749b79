import Derived.Test.YtigenhbmgpfffaaGreatDoorB25
set_option maxRecDepth 100000
set_option maxHeartbeats 16000000
namespace Go.Proofs.YtigenhbmgpfffaaGreatDoor.Pa
open Go.RowKit Go.Proofs.YtigenhbmgpfffaaGreatDoorW.PrintWords Go.Proofs.YtigenhbmgpfffaaGreatDoorW.PrintLast Go.Proofs.YtigenhbmgpfffaaGreatDoorW.PrintMore
attribute [local go_sem] yE yC yM yL zo zn yD yB
set_option linter.unusedVariables false
set_option linter.unusedSimpArgs false
def yZ.go (q side tu tv:Int) (us:List Int):Nat->Nat->Int->Int->Option (Int×Int)
 | _,0,s1,s2=>some (s1,s2)
 | k,d+1,s1,s2=>(zU.f (wrap64 (1-side)) (k:Int)).bind λx=>if x=0 then yZ.go q side tu tv us (k+1) d s1 s2 else(zv.f 100 x q tu tv).bind λr=>(ze.f side (k:Int) us).bind λo=>(z6.f r.1 r.2 o.1 o.2).bind λa=>(zj.f s1 s2 a.1 a.2).bind λb=>yZ.go q side tu tv us (k+1) d b.1 b.2
def yZ.f (q side tu tv:Int) (us:List Int):Option (Int×Int):=if q<0\/81<=q then some (0,0) else yZ.go q side tu tv us 1 15 0 0
theorem yZ.on_calls (cs us:List Int) (q side tu tv u v:Int) (g:Nat) (w:World) (hl:cs.length=98) (hul:us.length=68) (hs:side=0\/side=1) (hb:w.heap[g]?=some (.cells (bd cs us) 93 (0,0))) (h:yZ.f q side tu tv us=some (u,v)):
  Calls Tryz.prog 95 #[.pointer (some ⟨g,0,none⟩),.int .i64 q,.int .i64 side,.agg (sv tu tv)] w λe w'=>e=.returned (.agg (sv u v))/\Below w.heap.size w w':=by
 have hz:=s2_zero;have H1:=qA h
 have K1:Aside0 ((((w.alloc (Obj.cells (sv tu tv) 88)).alloc (Obj.cells (sv 0 0) 88)).alloc (Obj.cells (sv 0 0) 88)).heap[g]?=some (.cells (bd cs us) 93 (0,0))):=⟨jI (jI (jI hb _) _) _⟩
 have z1:(w.alloc (Obj.cells (sv tu tv) 88)).heap.size=w.heap.size+1:=by simp [go_sem]
 have z2:((w.alloc (Obj.cells (sv tu tv) 88)).alloc (Obj.cells (sv 0 0) 88)).heap.size=w.heap.size+1+1:=by simp [go_sem]
 have K7:Aside0 ((((w.alloc (Obj.cells (sv tu tv) 88)).alloc (Obj.cells (sv 0 0) 88)).alloc (Obj.cells (sv 0 0) 88)).heap[w.heap.size]?=some (.cells (sv tu tv) 88 (0,0))):=⟨jI (jI (zJ w _) _) _⟩
 have K8:Aside0 ((((w.alloc (Obj.cells (sv tu tv) 88)).alloc (Obj.cells (sv 0 0) 88)).alloc (Obj.cells (sv 0 0) 88)).heap[w.heap.size+1]?=some (.cells (sv 0 0) 88 (0,0))):=⟨by rw[<- z1];exact jI (zJ _ _) _⟩
 have K9:Aside0 ((((w.alloc (Obj.cells (sv tu tv) 88)).alloc (Obj.cells (sv 0 0) 88)).alloc (Obj.cells (sv 0 0) 88)).heap[w.heap.size+1+1]?=some (.cells (sv 0 0) 88 (0,0))):=⟨by rw[<- z2];exact zJ _ _⟩
 have KB:Aside0 (Below w.heap.size w (((w.alloc (Obj.cells (sv tu tv) 88)).alloc (Obj.cells (sv 0 0) 88)).alloc (Obj.cells (sv 0 0) 88))):=⟨ji (ji (ji (Below.refl _ _) _) _) _⟩
 have hgl:=ju hb;clear hb h z1 z2;go_enter Tryz.func95,Tryz.ntmps95;go_upto_region 2 with(fail);generalize ((w.alloc (Obj.cells (sv tu tv) 88)).alloc (Obj.cells (sv 0 0) 88)).alloc (Obj.cells (sv 0 0) 88)=W at *;generalize hg8:w.heap.size+1=g8 at *
 have HN19:Aside0 (g≠(g8+1)):=⟨by omega⟩
 have HN79:Aside0 (w.heap.size≠(g8+1)):=⟨by omega⟩
 have HN89:Aside0 (g8≠(g8+1)):=⟨by omega⟩
 have HGK8:Aside0 (w.heap.size<=g8):=⟨by omega⟩
 have HGK9:Aside0 (w.heap.size<=(g8+1)):=⟨by omega⟩
 clear hg8 hgl;have e1:=H1.out;unfold yZ.f at e1;clear H1
 by_cases hq:q<0\/81<=q
 ·rw[if_pos hq] at e1
  have e3:=Option.some.inj e1;simp only[Prod.mk.injEq] at e3;obtain⟨rfl,rfl⟩:=e3;clear e1
  by_cases hq0:q<0
  ·have b0:decide (q<0)=true:=decide_eq_true hq0
   have b00:(q<0)=True:=eq_true hq0;clear hq hq0
   go_wp2_with (first|((with_reducible refine jG (N:=26) rfl ?_);refine s2_load rfl (.tmp 9) rfl rfl K9.out ?_)|((with_reducible refine jW (t:=88) (p:=8) (v:=.tmp 26) rfl ?_);refine jB0 rfl (.tmp 8) (.tmp 26) rfl rfl rfl rfl K8.out ?_;intro W3 s1 s2;replace K8:=qA s1;replace KB:=qA (s2.2.1 _ _ HGK8.out KB.out);clear K1 K7 K9 s1 s2))
   refine bodyPost_ret (jAY (p:=8) rfl rfl K8.out) rfl ?_;exact⟨rfl,KB.out⟩
  ·have b0:decide (q<0)=false:=decide_eq_false hq0
   have b00:(q<0)=False:=eq_false hq0;have b1:decide (81<=q)=true:=decide_eq_true (by omega);have b11:(81<=q)=True:=eq_true (by omega);clear hq hq0
   go_wp2_with (first|((with_reducible refine jG (N:=26) rfl ?_);refine s2_load rfl (.tmp 9) rfl rfl K9.out ?_)|((with_reducible refine jW (t:=88) (p:=8) (v:=.tmp 26) rfl ?_);refine jB0 rfl (.tmp 8) (.tmp 26) rfl rfl rfl rfl K8.out ?_;intro W3 s1 s2;replace K8:=qA s1;replace KB:=qA (s2.2.1 _ _ HGK8.out KB.out);clear K1 K7 K9 s1 s2))
   refine bodyPost_ret (jAY (p:=8) rfl rfl K8.out) rfl ?_;exact⟨rfl,KB.out⟩
 ·rw[if_neg hq] at e1
  have E1:=qA e1;have b0:decide (q<0)=false:=decide_eq_false (by omega);have b00:(q<0)=False:=eq_false (by omega);have b1:decide (81<=q)=false:=decide_eq_false (by omega);have b11:(81<=q)=False:=eq_false (by omega);clear e1 hq;have HSD:=qA hs
  rcases hs with hs|hs
  all_goals (
   first
    | (have f0:(side != 0)=false:=by rw[hs];rfl)
    | (have f0:(side != 0)=true:=by rw[hs]; rfl
       have f1:(side != 1)=false:=by rw[hs];rfl)
   clear hs;go_upto_region 4 with(fail);go_wp2
   go_loopg [10] 17 (λgf s10 wx=>∃(n:Nat) (s1 s2:Int),s10=.int .i64 n/\1<=n/\n<=16/\Aside0 (yZ.go q side tu tv us n (16-n) s1 s2=some (u,v))/\Aside0 (wx.heap[g]?=some (.cells (bd cs us) 93 (0,0)))/\Aside0 (wx.heap[w.heap.size]?=some (.cells (sv tu tv) 88 (0,0)))/\Aside0 (wx.heap[g8]?=some (.cells (sv 0 0) 88 (0,0)))/\Aside0 (wx.heap[(g8+1)]?=some (.cells (sv s1 s2) 88 (0,0)))/\Aside0 (Below w.heap.size w wx)/\17<=gf+n)
   case atStart=>exact⟨1,0,0,rfl,by omega,by omega,E1,K1,K7,K8,K9,KB,by omega⟩
   case round=>
    clear K1 K7 K8 K9 KB E1;obtain⟨n,s1,s2,rfl,hn1,hn,HR,K1,K7,K8,K9,KB,hgf⟩:=hrel
    by_cases hend:n=16
    ·subst hend
     have er:(s1,s2)=(u,v):=Option.some.inj HR.out;simp only[Prod.mk.injEq] at er;obtain⟨rfl,rfl⟩:=er;clear HR
     go_wp2_with (first|((with_reducible refine jG (N:=48) rfl ?_);refine s2_load rfl (.tmp 9) rfl rfl K9.out ?_)|((with_reducible refine jW (t:=88) (p:=8) (v:=.tmp 48) rfl ?_);refine jB0 rfl (.tmp 8) (.tmp 48) rfl rfl rfl rfl K8.out ?_;intro W3 s1 s2;replace K8:=qA s1;replace KB:=qA (s2.2.1 _ _ HGK8.out KB.out);clear K1 K7 K9 s1 s2))
     refine bodyPost_ret (jAY (p:=8) rfl rfl K8.out) rfl ?_;exact⟨rfl,KB.out⟩
    ·obtain⟨d,hd⟩:∃d,16-n=d+1:=⟨15-n,by omega⟩
     have e:=HR.out;rw[hd] at e;unfold yZ.go at e;obtain⟨x,hx,e2⟩:=Option.bind_eq_some_iff.mp e;have HX:=qA hx;have b2:decide ((n:Int)<=15)=true:=decide_eq_true (by omega);have b3:((n:Int)<=15)=True:=eq_true (by omega);have ew:IntKind.i64.wrap ((n:Int)+1)=(n:Int)+1:=IntWalk.i64_in _ (by omega)
     have hd2:d=16-(n+1):=by omega
     rw[hd2] at e2
     obtain⟨g',rfl⟩:∃g',gk=g'+1:=⟨gk-1,by omega⟩
     clear e hx HR hd hd2
     by_cases h0:x=0
     ·rw[if_pos h0] at e2
      have HE:=qA e2
      have c0:(x==0)=true:=by simpa using h0
      clear e2 h0
      go_wp2_with (first|(go_at_call 27;(with_reducible refine(zU.calls _ _ _ _ HX.out).mono ?_);rintro e w7 ⟨rfl,hd⟩;have hb:=hd.below;clear hd;replace K1:=qB K1 hb;replace K7:=qB K7 hb;replace K8:=qB K8 hb;replace K9:=qB K9 hb;replace KB:=qS KB hb;clear hb))
      go_roundg g'
      case measure=>omega
      case rel=>exact⟨n+1,s1,s2,by simp,by omega,by omega,HE,K1,K7,K8,K9,KB,by omega⟩
     ·rw[if_neg h0] at e2
      obtain⟨⟨ra,rb⟩,hA,e3⟩:=Option.bind_eq_some_iff.mp e2;obtain⟨⟨oa,ob⟩,hB,e4⟩:=Option.bind_eq_some_iff.mp e3;obtain⟨⟨aa,ab⟩,hC,e5⟩:=Option.bind_eq_some_iff.mp e4;obtain⟨⟨ba,bb⟩,hD,e6⟩:=Option.bind_eq_some_iff.mp e5;have HA:=qA hA;have HB:=qA hB;have HC:=qA hC;have HD:=qA hD;have HE:=qA e6
      have c0:(x==0)=false:=by simpa using h0
      clear e2 e3 e4 e5 e6 hA hB hC hD h0;go_upto_region 9 with(first|(go_at_call 27;(with_reducible refine(zU.calls _ _ _ _ HX.out).mono ?_);rintro e w7 ⟨rfl,hd⟩;have hb:=hd.below;clear hd;replace K1:=qB K1 hb;replace K7:=qB K7 hb;replace K8:=qB K8 hb;replace K9:=qB K9 hb;replace KB:=qS KB hb;clear hb));refine wp_region_held_drew (S:=λ_=>True) (by kernel_rfl) trivial (λ_=>?_);replace K1:=qD K1;replace K7:=qD K7;replace K8:=qD K8;replace K9:=qD K9;replace KB:=qA (zD KB.out);refine tk 1 ?_;refine tk 2 ?_;refine tk 5 ?_;refine tk 6 ?_;refine tk 7 ?_;refine wpAnyH_ready (rs:=[0,3]) (by kernel_rfl) (by simp) ?_;refine AllReadyH.cons rfl (λK hK=>?_) ?_
      ·show(if Region.wanted ⟨some 37,.load 88 (.tmp 9),_,_,_,none⟩ _=true then Oper.wp _ ⟨some 37,.load 88 (.tmp 9),_,_,_,none⟩ _ _ _ _ else _)
       rw[if_pos (by rfl)];refine jAK (.tmp 9) rfl rfl K9.out ?_;refine ko hK ?_;clear hK K;refine on1 3 (λK hK=>?_);show(if Region.wanted ⟨some 40,.load 88 (.tmp 7),_,_,_,none⟩ _=true then Oper.wp _ ⟨some 40,.load 88 (.tmp 7),_,_,_,none⟩ _ _ _ _ else _);rw[if_pos (by rfl)];refine jAK (.tmp 7) rfl rfl K7.out ?_;refine ko hK ?_;clear hK K;refine on1 4 (λK hK=>?_);show(if Region.wanted ⟨some 41,.call _,_,_,_,none⟩ _=true then Oper.wp _ ⟨some 41,.call _,_,_,_,none⟩ _ _ _ _ else _);go_simp;refine(zv.calls _ _ _ _ _ _ _ _ HA.out).mono ?_;rintro e w7 ⟨rfl,hb⟩;replace K1:=qB K1 hb;replace K7:=qB K7 hb;replace K8:=qB K8 hb;replace K9:=qB K9 hb;replace KB:=qS KB hb;clear hb;refine ko hK ?_;clear hK K;refine on1 8 (λK hK=>?_);show(if Region.wanted ⟨some 45,.call _,_,_,_,none⟩ _=true then Oper.wp _ ⟨some 45,.call _,_,_,_,none⟩ _ _ _ _ else _);go_simp;refine(ze.of_calls cs us _ _ _ _ g _ hl hul K1.out HB.out).mono ?_;rintro e w7 ⟨rfl,hb⟩;replace K1:=qB K1 hb;replace K7:=qB K7 hb;replace K8:=qB K8 hb;replace K9:=qB K9 hb;replace KB:=qS KB hb;clear hb;refine ko hK ?_;clear hK K;refine on1 9 (λK hK=>?_);show(if Region.wanted ⟨some 46,.call _,_,_,_,none⟩ _=true then Oper.wp _ ⟨some 46,.call _,_,_,_,none⟩ _ _ _ _ else _)
       go_simp;refine(z6.calls _ _ _ _ _ _ _ HC.out).mono ?_;rintro e w7 ⟨rfl,hb⟩;replace K1:=qB K1 hb;replace K7:=qB K7 hb;replace K8:=qB K8 hb;replace K9:=qB K9 hb;replace KB:=qS KB hb;clear hb;refine ko hK ?_;clear hK K;refine on1 10 (λK hK=>?_);show(if Region.wanted ⟨some 47,.call _,_,_,_,none⟩ _=true then Oper.wp _ ⟨some 47,.call _,_,_,_,none⟩ _ _ _ _ else _);go_simp;refine(zj.calls _ _ _ _ _ _ _ HD.out).mono ?_;rintro e w7 ⟨rfl,hb⟩;replace K1:=qB K1 hb;replace K7:=qB K7 hb;replace K8:=qB K8 hb;replace K9:=qB K9 hb;replace KB:=qS KB hb;clear hb;refine ko hK ?_;clear hK K;refine on1 11 (λK hK=>?_);show(if Region.wanted ⟨none,.store 88 (.tmp 9) (.tmp 47),_,_,_,none⟩ _=true then Oper.wp _ ⟨none,.store 88 (.tmp 9) (.tmp 47),_,_,_,none⟩ _ _ _ _ else _);rw[if_pos (by rfl)];refine yy (.tmp 9) (.tmp 47) rfl rfl rfl rfl K9.out ?_;intro W3 s1 s2;replace K1:=qA (s2.blk HN19.out K1.out);replace K7:=qA (s2.blk HN79.out K7.out);replace K8:=qA (s2.blk HN89.out K8.out);replace K9:=qA s1;replace KB:=qA (s2.2.1 _ _ HGK9.out KB.out);clear s1 s2;refine ko hK ?_;clear hK K;refine wpAnyH_done (by kernel_rfl) ?_ _
       go_wp2
       go_roundg g'
       case measure=>omega
       case rel=>exact⟨n+1,ba,bb,by simp,by omega,by omega,HE,K1,K7,K8,K9,KB,by omega⟩
      refine AllReadyH.cons rfl (λK hK=>?_) AllReadyH.nil;show(if Region.wanted ⟨some 40,.load 88 (.tmp 7),_,_,_,none⟩ _=true then Oper.wp _ ⟨some 40,.load 88 (.tmp 7),_,_,_,none⟩ _ _ _ _ else _);rw[if_pos (by rfl)];refine jAK (.tmp 7) rfl rfl K7.out ?_;refine ko hK ?_;clear hK K;refine wpAnyH_ready (rs:=[0,4]) (by kernel_rfl) (by simp) ?_;refine AllReadyH.cons rfl (λK hK=>?_) ?_
      ·show(if Region.wanted ⟨some 37,.load 88 (.tmp 9),_,_,_,none⟩ _=true then Oper.wp _ ⟨some 37,.load 88 (.tmp 9),_,_,_,none⟩ _ _ _ _ else _)
       rw[if_pos (by rfl)];refine jAK (.tmp 9) rfl rfl K9.out ?_;refine ko hK ?_;clear hK K;refine on1 4 (λK hK=>?_);show(if Region.wanted ⟨some 41,.call _,_,_,_,none⟩ _=true then Oper.wp _ ⟨some 41,.call _,_,_,_,none⟩ _ _ _ _ else _);go_simp;refine(zv.calls _ _ _ _ _ _ _ _ HA.out).mono ?_;rintro e w7 ⟨rfl,hb⟩;replace K1:=qB K1 hb;replace K7:=qB K7 hb;replace K8:=qB K8 hb;replace K9:=qB K9 hb;replace KB:=qS KB hb;clear hb;refine ko hK ?_;clear hK K;refine on1 8 (λK hK=>?_);show(if Region.wanted ⟨some 45,.call _,_,_,_,none⟩ _=true then Oper.wp _ ⟨some 45,.call _,_,_,_,none⟩ _ _ _ _ else _);go_simp;refine(ze.of_calls cs us _ _ _ _ g _ hl hul K1.out HB.out).mono ?_;rintro e w7 ⟨rfl,hb⟩;replace K1:=qB K1 hb;replace K7:=qB K7 hb;replace K8:=qB K8 hb;replace K9:=qB K9 hb;replace KB:=qS KB hb;clear hb;refine ko hK ?_;clear hK K;refine on1 9 (λK hK=>?_);show(if Region.wanted ⟨some 46,.call _,_,_,_,none⟩ _=true then Oper.wp _ ⟨some 46,.call _,_,_,_,none⟩ _ _ _ _ else _);go_simp;refine(z6.calls _ _ _ _ _ _ _ HC.out).mono ?_;rintro e w7 ⟨rfl,hb⟩;replace K1:=qB K1 hb;replace K7:=qB K7 hb
       replace K8:=qB K8 hb;replace K9:=qB K9 hb;replace KB:=qS KB hb;clear hb;refine ko hK ?_;clear hK K;refine on1 10 (λK hK=>?_);show(if Region.wanted ⟨some 47,.call _,_,_,_,none⟩ _=true then Oper.wp _ ⟨some 47,.call _,_,_,_,none⟩ _ _ _ _ else _);go_simp;refine(zj.calls _ _ _ _ _ _ _ HD.out).mono ?_;rintro e w7 ⟨rfl,hb⟩;replace K1:=qB K1 hb;replace K7:=qB K7 hb;replace K8:=qB K8 hb;replace K9:=qB K9 hb;replace KB:=qS KB hb;clear hb;refine ko hK ?_;clear hK K;refine on1 11 (λK hK=>?_);show(if Region.wanted ⟨none,.store 88 (.tmp 9) (.tmp 47),_,_,_,none⟩ _=true then Oper.wp _ ⟨none,.store 88 (.tmp 9) (.tmp 47),_,_,_,none⟩ _ _ _ _ else _);rw[if_pos (by rfl)];refine yy (.tmp 9) (.tmp 47) rfl rfl rfl rfl K9.out ?_;intro W3 s1 s2;replace K1:=qA (s2.blk HN19.out K1.out);replace K7:=qA (s2.blk HN79.out K7.out);replace K8:=qA (s2.blk HN89.out K8.out);replace K9:=qA s1;replace KB:=qA (s2.2.1 _ _ HGK9.out KB.out);clear s1 s2;refine ko hK ?_;clear hK K;refine wpAnyH_done (by kernel_rfl) ?_ _;go_wp2
       go_roundg g'
       case measure=>omega
       case rel=>exact⟨n+1,ba,bb,by simp,by omega,by omega,HE,K1,K7,K8,K9,KB,by omega⟩
      refine AllReadyH.cons rfl (λK hK=>?_) AllReadyH.nil;show(if Region.wanted ⟨some 41,.call _,_,_,_,none⟩ _=true then Oper.wp _ ⟨some 41,.call _,_,_,_,none⟩ _ _ _ _ else _);go_simp;refine(zv.calls _ _ _ _ _ _ _ _ HA.out).mono ?_;rintro e w7 ⟨rfl,hb⟩;replace K1:=qB K1 hb;replace K7:=qB K7 hb;replace K8:=qB K8 hb;replace K9:=qB K9 hb;replace KB:=qS KB hb;clear hb;refine ko hK ?_;clear hK K;refine wpAnyH_ready (rs:=[0,8]) (by kernel_rfl) (by simp) ?_;refine AllReadyH.cons rfl (λK hK=>?_) ?_
      ·show(if Region.wanted ⟨some 37,.load 88 (.tmp 9),_,_,_,none⟩ _=true then Oper.wp _ ⟨some 37,.load 88 (.tmp 9),_,_,_,none⟩ _ _ _ _ else _)
       rw[if_pos (by rfl)];refine jAK (.tmp 9) rfl rfl K9.out ?_;refine ko hK ?_;clear hK K;refine on1 8 (λK hK=>?_);show(if Region.wanted ⟨some 45,.call _,_,_,_,none⟩ _=true then Oper.wp _ ⟨some 45,.call _,_,_,_,none⟩ _ _ _ _ else _);go_simp;refine(ze.of_calls cs us _ _ _ _ g _ hl hul K1.out HB.out).mono ?_;rintro e w7 ⟨rfl,hb⟩;replace K1:=qB K1 hb;replace K7:=qB K7 hb;replace K8:=qB K8 hb;replace K9:=qB K9 hb;replace KB:=qS KB hb;clear hb;refine ko hK ?_;clear hK K;refine on1 9 (λK hK=>?_);show(if Region.wanted ⟨some 46,.call _,_,_,_,none⟩ _=true then Oper.wp _ ⟨some 46,.call _,_,_,_,none⟩ _ _ _ _ else _);go_simp;refine(z6.calls _ _ _ _ _ _ _ HC.out).mono ?_;rintro e w7 ⟨rfl,hb⟩;replace K1:=qB K1 hb;replace K7:=qB K7 hb;replace K8:=qB K8 hb;replace K9:=qB K9 hb;replace KB:=qS KB hb;clear hb;refine ko hK ?_;clear hK K;refine on1 10 (λK hK=>?_);show(if Region.wanted ⟨some 47,.call _,_,_,_,none⟩ _=true then Oper.wp _ ⟨some 47,.call _,_,_,_,none⟩ _ _ _ _ else _);go_simp;refine(zj.calls _ _ _ _ _ _ _ HD.out).mono ?_;rintro e w7 ⟨rfl,hb⟩;replace K1:=qB K1 hb;replace K7:=qB K7 hb
       replace K8:=qB K8 hb;replace K9:=qB K9 hb;replace KB:=qS KB hb;clear hb;refine ko hK ?_;clear hK K;refine on1 11 (λK hK=>?_);show(if Region.wanted ⟨none,.store 88 (.tmp 9) (.tmp 47),_,_,_,none⟩ _=true then Oper.wp _ ⟨none,.store 88 (.tmp 9) (.tmp 47),_,_,_,none⟩ _ _ _ _ else _);rw[if_pos (by rfl)];refine yy (.tmp 9) (.tmp 47) rfl rfl rfl rfl K9.out ?_;intro W3 s1 s2;replace K1:=qA (s2.blk HN19.out K1.out);replace K7:=qA (s2.blk HN79.out K7.out);replace K8:=qA (s2.blk HN89.out K8.out);replace K9:=qA s1;replace KB:=qA (s2.2.1 _ _ HGK9.out KB.out);clear s1 s2;refine ko hK ?_;clear hK K;refine wpAnyH_done (by kernel_rfl) ?_ _;go_wp2
       go_roundg g'
       case measure=>omega
       case rel=>exact⟨n+1,ba,bb,by simp,by omega,by omega,HE,K1,K7,K8,K9,KB,by omega⟩
      refine AllReadyH.cons rfl (λK hK=>?_) AllReadyH.nil;show(if Region.wanted ⟨some 45,.call _,_,_,_,none⟩ _=true then Oper.wp _ ⟨some 45,.call _,_,_,_,none⟩ _ _ _ _ else _);go_simp;refine(ze.of_calls cs us _ _ _ _ g _ hl hul K1.out HB.out).mono ?_;rintro e w7 ⟨rfl,hb⟩;replace K1:=qB K1 hb;replace K7:=qB K7 hb;replace K8:=qB K8 hb;replace K9:=qB K9 hb;replace KB:=qS KB hb;clear hb;refine ko hK ?_;clear hK K;refine wpAnyH_ready (rs:=[0,9]) (by kernel_rfl) (by simp) ?_;refine AllReadyH.cons rfl (λK hK=>?_) ?_
      ·show(if Region.wanted ⟨some 37,.load 88 (.tmp 9),_,_,_,none⟩ _=true then Oper.wp _ ⟨some 37,.load 88 (.tmp 9),_,_,_,none⟩ _ _ _ _ else _)
       rw[if_pos (by rfl)];refine jAK (.tmp 9) rfl rfl K9.out ?_;refine ko hK ?_;clear hK K;refine on1 9 (λK hK=>?_);show(if Region.wanted ⟨some 46,.call _,_,_,_,none⟩ _=true then Oper.wp _ ⟨some 46,.call _,_,_,_,none⟩ _ _ _ _ else _);go_simp;refine(z6.calls _ _ _ _ _ _ _ HC.out).mono ?_;rintro e w7 ⟨rfl,hb⟩;replace K1:=qB K1 hb;replace K7:=qB K7 hb;replace K8:=qB K8 hb;replace K9:=qB K9 hb;replace KB:=qS KB hb;clear hb;refine ko hK ?_;clear hK K;refine on1 10 (λK hK=>?_);show(if Region.wanted ⟨some 47,.call _,_,_,_,none⟩ _=true then Oper.wp _ ⟨some 47,.call _,_,_,_,none⟩ _ _ _ _ else _);go_simp;refine(zj.calls _ _ _ _ _ _ _ HD.out).mono ?_;rintro e w7 ⟨rfl,hb⟩;replace K1:=qB K1 hb;replace K7:=qB K7 hb;replace K8:=qB K8 hb;replace K9:=qB K9 hb;replace KB:=qS KB hb;clear hb;refine ko hK ?_;clear hK K;refine on1 11 (λK hK=>?_);show(if Region.wanted ⟨none,.store 88 (.tmp 9) (.tmp 47),_,_,_,none⟩ _=true then Oper.wp _ ⟨none,.store 88 (.tmp 9) (.tmp 47),_,_,_,none⟩ _ _ _ _ else _);rw[if_pos (by rfl)];refine yy (.tmp 9) (.tmp 47) rfl rfl rfl rfl K9.out ?_;intro W3 s1 s2;replace K1:=qA (s2.blk HN19.out K1.out)
       replace K7:=qA (s2.blk HN79.out K7.out);replace K8:=qA (s2.blk HN89.out K8.out);replace K9:=qA s1;replace KB:=qA (s2.2.1 _ _ HGK9.out KB.out);clear s1 s2;refine ko hK ?_;clear hK K;refine wpAnyH_done (by kernel_rfl) ?_ _;go_wp2
       go_roundg g'
       case measure=>omega
       case rel=>exact⟨n+1,ba,bb,by simp,by omega,by omega,HE,K1,K7,K8,K9,KB,by omega⟩
      refine AllReadyH.cons rfl (λK hK=>?_) AllReadyH.nil;show(if Region.wanted ⟨some 46,.call _,_,_,_,none⟩ _=true then Oper.wp _ ⟨some 46,.call _,_,_,_,none⟩ _ _ _ _ else _);go_simp;refine(z6.calls _ _ _ _ _ _ _ HC.out).mono ?_;rintro e w7 ⟨rfl,hb⟩;replace K1:=qB K1 hb;replace K7:=qB K7 hb;replace K8:=qB K8 hb;replace K9:=qB K9 hb;replace KB:=qS KB hb;clear hb;refine ko hK ?_;clear hK K;refine on1 0 (λK hK=>?_);show(if Region.wanted ⟨some 37,.load 88 (.tmp 9),_,_,_,none⟩ _=true then Oper.wp _ ⟨some 37,.load 88 (.tmp 9),_,_,_,none⟩ _ _ _ _ else _);rw[if_pos (by rfl)];refine jAK (.tmp 9) rfl rfl K9.out ?_;refine ko hK ?_;clear hK K;refine on1 10 (λK hK=>?_);show(if Region.wanted ⟨some 47,.call _,_,_,_,none⟩ _=true then Oper.wp _ ⟨some 47,.call _,_,_,_,none⟩ _ _ _ _ else _);go_simp;refine(zj.calls _ _ _ _ _ _ _ HD.out).mono ?_;rintro e w7 ⟨rfl,hb⟩;replace K1:=qB K1 hb;replace K7:=qB K7 hb;replace K8:=qB K8 hb;replace K9:=qB K9 hb;replace KB:=qS KB hb;clear hb;refine ko hK ?_;clear hK K;refine on1 11 (λK hK=>?_);show(if Region.wanted ⟨none,.store 88 (.tmp 9) (.tmp 47),_,_,_,none⟩ _=true then Oper.wp _ ⟨none,.store 88 (.tmp 9) (.tmp 47),_,_,_,none⟩ _ _ _ _ else _)
      rw[if_pos (by rfl)];refine yy (.tmp 9) (.tmp 47) rfl rfl rfl rfl K9.out ?_;intro W3 s1 s2;replace K1:=qA (s2.blk HN19.out K1.out);replace K7:=qA (s2.blk HN79.out K7.out);replace K8:=qA (s2.blk HN89.out K8.out);replace K9:=qA s1;replace KB:=qA (s2.2.1 _ _ HGK9.out KB.out);clear s1 s2;refine ko hK ?_;clear hK K;refine wpAnyH_done (by kernel_rfl) ?_ _;go_wp2
      go_roundg g'
      case measure=>omega
      case rel=>exact⟨n+1,ba,bb,by simp,by omega,by omega,HE,K1,K7,K8,K9,KB,by omega⟩
   )
def bits_TrailingZeros64.tab:List Int:=[0,1,56,2,57,49,28,3,61,58,42,50,38,29,17,4,62,47,59,36,45,43,51,22,53,39,33,30,24,18,12,5,63,55,48,27,60,41,37,16,46,35,44,21,52,32,23,11,54,26,40,15,34,20,31,10,25,14,19,9,13,8,7,6]
def bits_TrailingZeros64.Tab (w:World):Prop:=∀i:Nat,i<64->w.cell? ⟨6,i,none⟩=some (.int .u8 (bits_TrailingZeros64.tab.getD i 0))
theorem bits_TrailingZeros64.Tab.below {w w':World} (h:bits_TrailingZeros64.Tab w) (b:Below w.heap.size w w'):bits_TrailingZeros64.Tab w':=λi hi=>(b.cell (World.block_lt_of_cell? w _ (h i hi))).trans (h i hi)
def bits_TrailingZeros64.idx (a0:Int):Int:=IntKind.u64.wrap (bits BinOp.and IntKind.u64 a0 (IntKind.u64.wrap (-a0))*285870213051353865)/288230376151711744
theorem bits_TrailingZeros64.idx_rng (a0:Int):0<=bits_TrailingZeros64.idx a0/\bits_TrailingZeros64.idx a0<64:=by
 unfold bits_TrailingZeros64.idx;generalize bits BinOp.and IntKind.u64 a0 (IntKind.u64.wrap (-a0))*285870213051353865=y;have h:IntKind.u64.wrap y=y%18446744073709551616:=IntKind.wrap_u64 y;omega
def bits_TrailingZeros64.f (a0:Int):Option Int:=if a0=0 then some 64 else some (bits_TrailingZeros64.tab.getD (bits_TrailingZeros64.idx a0).toNat 0)
theorem bits_TrailingZeros64.tab_rng:∀i:Nat,i<64->0<=bits_TrailingZeros64.tab.getD i 0/\bits_TrailingZeros64.tab.getD i 0<64:=by decide +kernel
theorem bits_TrailingZeros64.calls (a0:Int) (r:Int) (w:World) (hT:bits_TrailingZeros64.Tab w) (h:bits_TrailingZeros64.f a0=some r):
  Calls Tryz.prog 140 #[.int .u64 a0] w λe w'=>e=.returned (.int .i64 r)/\Drawn0 w w':=by
 unfold bits_TrailingZeros64.f at h
 by_cases h0:a0=0
 ·subst h0
  rw[if_pos rfl] at h;obtain rfl:=Option.some.inj h;clear h;go_enter Tryz.func140,Tryz.ntmps140;go_wp2;go_ret;exact⟨rfl,by repeat (first|exact Drawn0.refl _|apply Drawn0.step)⟩
 ·rw[if_neg h0] at h
  have b0:(a0==0)=false:=by simpa using h0
  obtain rfl:=Option.some.inj h;clear h;have hr:=bits_TrailingZeros64.idx_rng a0;have hc:=hT (bits_TrailingZeros64.idx a0).toNat (by omega);have hv:=bits_TrailingZeros64.tab_rng (bits_TrailingZeros64.idx a0).toNat (by omega);generalize bits_TrailingZeros64.tab.getD (bits_TrailingZeros64.idx a0).toNat 0=v at *;have hw:IntKind.i64.wrap v=v:=IntWalk.i64_in _ (by omega);have hr1:(0<=bits_TrailingZeros64.idx a0/\bits_TrailingZeros64.idx a0<64)=True:=eq_true hr;obtain⟨hr2,hr3⟩:=hr;replace hr2:=eq_true hr2;replace hr3:=eq_true hr3;unfold bits_TrailingZeros64.idx at hc hr1 hr2 hr3;clear hv h0 hT;go_enter Tryz.func140,Tryz.ntmps140;go_wp2;go_ret;exact⟨rfl,by repeat (first|exact Drawn0.refl _|apply Drawn0.step)⟩
def yd.f (a0_0:Int) (a0_1:Int):Option (Int):=if a0_0=0 then(if a0_1=0 then(some (-1)) else((bits_TrailingZeros64.f a0_1).bind λt228=>(some (wrap64 (63+t228))))) else((bits_TrailingZeros64.f a0_0).bind λt229=>(some t229))
theorem yd.calls (a0_0:Int) (a0_1:Int) (r:Int) (w:World) (hT:bits_TrailingZeros64.Tab w) (h:yd.f a0_0 a0_1=some r):
  Calls Tryz.prog 121 #[.agg #[.int .u64 a0_0,.int .u64 a0_1]] w λe w'=>e=.returned (.int .i64 r)/\Below w.heap.size w w':=by
 have hu88:=Tryz.underlying88;have HB:=qA (Below.refl w.heap.size w);have H:(if a0_0=0 then(if a0_1=0 then(some (-1)) else((bits_TrailingZeros64.f a0_1).bind λt228=>(some (wrap64 (63+t228))))) else((bits_TrailingZeros64.f a0_0).bind λt229=>(some t229)))=some r:=h;clear h
 by_cases c2:a0_0=0
 ·rw[if_pos c2] at H
  have c2b0:(a0_0==0)=true:=beq_iff_eq.mpr c2;have c2b1:(a0_0 != 0)=false:=bne_eq_false_iff_eq.mpr c2;clear c2
  by_cases c3:a0_1=0
  ·rw[if_pos c3] at H
   have c3b0:(a0_1==0)=true:=beq_iff_eq.mpr c3;have c3b1:(a0_1 != 0)=false:=bne_eq_false_iff_eq.mpr c3;clear c3;obtain rfl:=Option.some.inj H;go_enter Tryz.func121,Tryz.ntmps121
   go_wp2_with (first|((with_reducible refine jG (N:=1) rfl ?_);refine zI ?hg (N:=1) ?hd (cs:=#[.int .u64 a0_0,.int .u64 a0_1]) (t:=88) ?hr ?_;(case hd=>rfl);(case hg=>rfl);(case hr=>first|(go_simp;done)|(go_simp;rfl));intro gb227 hg w4 hbox hb;have n0_:=qA (jX (qH HB) hb);have n1_:=qA (hbox);have n2_:=qA ((by rw[hg];exact(jP (qH HB)):w.heap.size<=gb227));have n3_:=qA ((by rw[hg];exact(jP (qH HB)):w.heap.size<=gb227));clear HB;have HB:=n0_;have BK227:=n1_;have GW227:=n2_;have GE227:=n3_;clear n0_ n1_ n2_ n3_;clear hb hbox hg;have hcz5_0:w4.cell? ⟨gb227,0,none⟩=some (.int .u64 a0_0):=(jB BK227.out 0).trans rfl;have hcz5_1:w4.cell? ⟨gb227,1,none⟩=some (.int .u64 a0_1):=(jB BK227.out 1).trans rfl;have hfz5_0:=jH BK227.out 0;have hfz5_1:=jH BK227.out 1))
   go_ret;exact⟨by first|rfl|(simp [jL,jK]<;>rfl)|(simp [*,jL,jK]<;>rfl)|(simp [*,jL,jK];generalize ByteArray.toList _=q_;cases q_<;>rfl),qH HB⟩
  ·rw[if_neg c3] at H
   have c3b0:(a0_1==0)=false:=beq_eq_false_iff_ne.mpr c3;have c3b1:(a0_1 != 0)=true:=bne_iff_ne.mpr c3;replace H:=Option.bind_eq_some_iff.mp H;obtain⟨t228,A60,H⟩:=H;replace H:(some (wrap64 (63+t228)))=some r:=H;have A6:=qA A60;clear A60;obtain rfl:=Option.some.inj H;go_enter Tryz.func121,Tryz.ntmps121
   go_wp2_with (first|((with_reducible refine jG (N:=1) rfl ?_);refine zI ?hg (N:=1) ?hd (cs:=#[.int .u64 a0_0,.int .u64 a0_1]) (t:=88) ?hr ?_;(case hd=>rfl);(case hg=>rfl);(case hr=>first|(go_simp;done)|(go_simp;rfl));intro gb227 hg w7 hbox hb;have n0_:=qA (jX (qH HB) hb);have n1_:=qA (hbox);have n2_:=qA ((by rw[hg];exact(jP (qH HB)):w.heap.size<=gb227));have n3_:=qA ((by rw[hg];exact(jP (qH HB)):w.heap.size<=gb227));clear HB;have HB:=n0_;have BK227:=n1_;have GW227:=n2_;have GE227:=n3_;clear n0_ n1_ n2_ n3_;clear hb hbox hg;have hcz8_0:w7.cell? ⟨gb227,0,none⟩=some (.int .u64 a0_0):=(jB BK227.out 0).trans rfl;have hcz8_1:w7.cell? ⟨gb227,1,none⟩=some (.int .u64 a0_1):=(jB BK227.out 1).trans rfl;have hfz8_0:=jH BK227.out 0;have hfz8_1:=jH BK227.out 1)|((with_reducible refine jV (f:=140) rfl ?_);refine zB (some 16) rfl rfl Tryz.func140 (by kernel_rfl) rfl #[.int .u64 a0_1] rfl (by (try simp only[List.map_toArray,List.map_cons,List.map_nil]);first|done|rfl|(simp only[List.length_drop,List.length_take];rfl)) ?_;(with_reducible refine(bits_TrailingZeros64.calls a0_1 t228 _ (by exact hT.below (qH HB)) A6.out).mono ?_);rintro e w' ⟨rfl,⟨nd,rfl⟩⟩;refine⟨_,rfl,?_⟩))
   go_ret;exact⟨by first|rfl|(simp [jL,jK]<;>rfl)|(simp [*,jL,jK]<;>rfl)|(simp [*,jL,jK];generalize ByteArray.toList _=q_;cases q_<;>rfl),qH HB⟩
 ·rw[if_neg c2] at H
  have c2b0:(a0_0==0)=false:=beq_eq_false_iff_ne.mpr c2;have c2b1:(a0_0 != 0)=true:=bne_iff_ne.mpr c2;replace H:=Option.bind_eq_some_iff.mp H;obtain⟨t229,A90,H⟩:=H;replace H:(some t229)=some r:=H;have A9:=qA A90;clear A90;obtain rfl:=Option.some.inj H;go_enter Tryz.func121,Tryz.ntmps121
  go_wp2_with (first|((with_reducible refine jG (N:=1) rfl ?_);refine zI ?hg (N:=1) ?hd (cs:=#[.int .u64 a0_0,.int .u64 a0_1]) (t:=88) ?hr ?_;(case hd=>rfl);(case hg=>rfl);(case hr=>first|(go_simp;done)|(go_simp;rfl));intro gb227 hg w10 hbox hb;have n0_:=qA (jX (qH HB) hb);have n1_:=qA (hbox);have n2_:=qA ((by rw[hg];exact(jP (qH HB)):w.heap.size<=gb227));have n3_:=qA ((by rw[hg];exact(jP (qH HB)):w.heap.size<=gb227));clear HB;have HB:=n0_;have BK227:=n1_;have GW227:=n2_;have GE227:=n3_;clear n0_ n1_ n2_ n3_;clear hb hbox hg;have hcz11_0:w10.cell? ⟨gb227,0,none⟩=some (.int .u64 a0_0):=(jB BK227.out 0).trans rfl;have hcz11_1:w10.cell? ⟨gb227,1,none⟩=some (.int .u64 a0_1):=(jB BK227.out 1).trans rfl;have hfz11_0:=jH BK227.out 0;have hfz11_1:=jH BK227.out 1)|((with_reducible refine jV (f:=140) rfl ?_);refine zB (some 9) rfl rfl Tryz.func140 (by kernel_rfl) rfl #[.int .u64 a0_0] rfl (by (try simp only[List.map_toArray,List.map_cons,List.map_nil]);first|done|rfl|(simp only[List.length_drop,List.length_take];rfl)) ?_;(with_reducible refine(bits_TrailingZeros64.calls a0_0 t229 _ (by exact hT.below (qH HB)) A9.out).mono ?_);rintro e w' ⟨rfl,⟨nd,rfl⟩⟩;refine⟨_,rfl,?_⟩))
  go_ret;exact⟨by first|rfl|(simp [jL,jK]<;>rfl)|(simp [*,jL,jK]<;>rfl)|(simp [*,jL,jK];generalize ByteArray.toList _=q_;cases q_<;>rfl),qH HB⟩
def yf.f (side:Int) (us:List Int):Option Int:=(ze.f side 8 us).bind λo=>yd.f o.1 o.2
theorem yf.king_calls (cs us:List Int) (side r:Int) (g:Nat) (w:World) (hT:bits_TrailingZeros64.Tab w) (hl:cs.length=98) (hul:us.length=68) (hb:w.heap[g]?=some (.cells (bd cs us) 93 (0,0))) (h:yf.f side us=some r):
  Calls Tryz.prog 96 #[.pointer (some ⟨g,0,none⟩),.int .i64 side] w λe w'=>e=.returned (.int .i64 r)/\Below w.heap.size w w':=by
 unfold yf.f at h;obtain⟨⟨u,v⟩,h1,h2⟩:=Option.bind_eq_some_iff.mp h;have H1:=qA h1;have H2:=qA h2;have K1:=qA hb;have KT:=qA hT;have KB:=qA (Below.refl w.heap.size w);clear h h1 h2 hb hT;go_enter Tryz.func96,Tryz.ntmps96
 go_wp2_with (first|(go_at_call 91;refine(ze.of_calls cs us side 8 u v g _ hl hul K1.out H1.out).mono ?_;rintro e w7 ⟨rfl,hb⟩;replace K1:=qB K1 hb;replace KB:=qS KB hb;replace KT:=qA (KT.out.below hb);clear hb)|(go_at_call 121;refine(yd.calls u v r _ KT.out H2.out).mono ?_;rintro e w7 ⟨rfl,hb⟩;replace K1:=qB K1 hb;replace KB:=qS KB hb;replace KT:=qA (KT.out.below hb);clear hb))
 go_ret;exact⟨rfl,KB.out⟩
end Go.Proofs.YtigenhbmgpfffaaGreatDoor.Pa
