import Derived.Test.YtigenhbmgpfffaaGreatDoorB17
set_option maxRecDepth 100000
set_option maxHeartbeats 16000000
namespace Go.Proofs.YtigenhbmgpfffaaGreatDoor.Pa
open Go.RowKit Go.Proofs.YtigenhbmgpfffaaGreatDoorW.PrintWords Go.Proofs.YtigenhbmgpfffaaGreatDoorW.PrintLast Go.Proofs.YtigenhbmgpfffaaGreatDoorW.PrintMore
attribute [local go_sem] yE yC yM yL zo zn yD yB
set_option linter.unusedVariables false
set_option linter.unusedSimpArgs false
theorem Ch.set_of {g:Nat} {w:World} {o:Obj} (h:w.heap[g]?=some o) (i:Nat) (v:Value):Ch g w (w.setCell ⟨g,i,none⟩ v):=Ch.set w i v
section
variable {ops:Array Oper} {rest:List Oper} {o:Oper} {a:Act} {W:World} {K:Act->World->Prop} {Q:Exit->Act->World->Prop}
theorem jj.wp_built (t:TypeId) (parts:Array (Nat×Operand)) (ho:o.op=.build t parts) (vs:Array (Nat×Value)) (he:(parts.map λ(i,x)=>(i,a.eval x))=vs) {cells:Array Value} (hb:(Instr.build t vs).run Tryz.prog W=.ok (.agg cells) W) (h:K (a.put o.dst (.agg cells)) W):o.wp Tryz.prog a W K Q:=by
 subst he;unfold Oper.wp execOp;simp only[ho,Sem.run_bind,hb,Result.andThen_ok];exact h
theorem jj.built (hgd:o.guard=none) (t:TypeId) (parts:Array (Nat×Operand)) (ho:o.op=.build t parts) (vs:Array (Nat×Value)) (he:(parts.map λ(i,x)=>(i,a.eval x))=vs) {cells:Array Value} (hb:(Instr.build t vs).run Tryz.prog W=.ok (.agg cells) W) (h:wpList Tryz.prog ops Q rest (a.put o.dst (.agg cells)) W):wpList Tryz.prog ops Q (o::rest) a W:=
 wpList_plain hgd λ_ hK=>jj.wp_built t parts ho vs he hb (hK _ _ h)
theorem jj.wp_store8 (ty:TypeId) (x y:Operand) (ho:o.op=.store ty x y) {g off n:Nat} {t:TypeId} {cs us l:List Int} (hx:a.eval x=.pointer (some ⟨g,off,none⟩)) (hy:a.eval y=.agg (jA.pv l)) (hc:off+n<=cs.length) (hl:l.length=n) (hi:(Tryz.prog.info? ty).map (·.size)=some n) (hb:W.heap[g]?=some (.cells (bd cs us) t (0,0)))
  (h:∀W',W'.heap[g]?=some (.cells (bd (cs.take off++l++cs.drop (off+n)) us) t (0,0))->Ch g W W'->K (a.put o.dst undef) W'):Oper.wp Tryz.prog o a W K Q:=by
 have hsz:(jA.pv l).size=n:=by rw[jA.pv_size,hl]
 refine wp_store_mid _ x y ho g off (jA.pv l) hx hy (bd_thr hb _ _ (by rw[bd_size,hsz];omega)) (by rw[hi,hsz]) (jA.pv_one l) ?_;obtain⟨cur',h1,h2,h3⟩:=yl (jA.pv l).toList off W (bd cs us) hb (by rw[Array.length_toList,hsz,bd_size];omega)
 have e:cur'=bd (cs.take off++l++cs.drop (off+n)) us:=by
  apply Array.toList_inj.1
  rw[h3];simp only[bd,bdl,jA.pv,List.length_map,List.map_append,List.map_take,List.map_drop,hl];rw[List.take_append_of_le_length (by simp;omega),List.drop_append_of_le_length (by simp;omega)];simp only[List.append_assoc]
 rw[e] at h1;exact h _ h1 ⟨λk hk _=>yT _ _ k hk,λB w0 hB hb0=>below_setCells hB _ _ W hb0,(below_setCells (Nat.zero_le g) _ _ W (Below.refl 0 W)).size⟩
end
def jj.zc:List Int:=List.replicate 98 0
def jj.zu:List Int:=List.replicate 68 0
theorem jj.zc_len:jj.zc.length=98:=by decide
theorem jj.zu_len:jj.zu.length=68:=by decide
theorem jj.zero (W:World):(Instr.build 93 #[]).run Tryz.prog W=.ok (.agg (bd jj.zc jj.zu)) W:=run_build W 93 _ _ (by kernel_rfl)
def jj.c0 (cs:List Int):List Int:=(jj.zc.take 81++(cs.drop 81).take 16++jj.zc.drop 97).set 97 (cs.getD 97 0)
theorem jj.c0_len (cs:List Int) (h:cs.length=98):(jj.c0 cs).length=98:=by simp [jj.c0,jj.zc,h]
def jj.go (p:List Int):Nat->Nat->List Int->List Int->Option (List Int×List Int)
 | _,0,C,U=>some (C,U)
 | n,d+1,C,U=>(zf.f n (p.getD n 0) C U).bind λr=>jj.go p (n+1) d r.1 r.2
def jj.f (cs:List Int):Option (List Int×List Int):=jj.go cs 0 81 (jj.c0 cs) jj.zu
theorem jj.new_calls (cs C U:List Int) (w:World) (hl:cs.length=98) (h:jj.f cs=some (C,U)):
  Calls Tryz.prog 45 #[.agg (jA.pv cs)] w λe w'=>∃g,e=.returned (.pointer (some ⟨g,0,none⟩))/\w.heap.size<=g/\w'.heap[g]?=some (.cells (bd C U) 93 (0,0))/\C.length=98/\U.length=68/\Below w.heap.size w w':=by
 have HH:=qA h;clear h;have HZ:=qA jj.zero;have B1:(w.alloc (Obj.cells (jA.pv cs) 28)).heap[w.heap.size]?=some (.cells (jA.pv cs) 28 (0,0)):=zJ w _;have BB:Below w.heap.size w (w.alloc (Obj.cells (jA.pv cs) 28)):=ji (Below.refl _ _) _;go_enter Tryz.func45,Tryz.ntmps45;go_upto_region 1 with(fail);generalize w.alloc (Obj.cells (jA.pv cs) 28)=W at *;have K1:=qA B1;have KB:=qA BB;clear B1 BB;go_upto_region 2 with(first|((with_reducible refine jG (N:=6) rfl ?_);refine jj.built rfl 93 #[] rfl #[] (by (try simp only[List.map_toArray,List.map_nil]);first|done|rfl) (HZ.out _) ?_));have B2:=zJ W (Obj.cells (bd jj.zc jj.zu) 93);have B1:=jI K1.out (Obj.cells (bd jj.zc jj.zu) 93);have BB:=ji KB.out (Obj.cells (bd jj.zc jj.zu) 93);have HG:=qA KB.out.size;have HN:=qA (Nat.ne_of_lt (ju K1.out));generalize W.heap.size=g at *;generalize W.alloc (Obj.cells (bd jj.zc jj.zu) 93)=W2 at *;clear K1 KB HZ;have K1:=qA B1;have K2:=qA B2;have KB:=qA BB;clear B1 B2 BB;generalize hzc:jj.zc=zc at *;generalize hzu:jj.zu=zu at *
 have hzl:zc.length=98:=by rw[<- hzc];exact jj.zc_len
 obtain⟨sv0,hsv⟩:∃sv0,sv0=cs.getD 97 0:=⟨_,rfl⟩
 have HSV:Aside0 (cs.getD 97 0=sv0):=⟨hsv.symm⟩
 have HC0:Aside0 (jj.c0 cs=(zc.take 81++(cs.drop 81).take 16++zc.drop 97).set 97 sv0):=⟨by rw[<- hzc,hsv];rfl⟩
 clear hsv
 have HZU:Aside0 (jj.zu=zu):=⟨hzu⟩
 clear hzc hzu;go_cut [] (λwx=>Aside0 (wx.heap[w.heap.size]?=some (.cells (jA.pv cs) 28 (0,0)))/\Aside0 (wx.heap[g]?=some (.cells (bd (jj.c0 cs) zu) 93 (0,0)))/\Aside0 (Below w.heap.size w wx))
 case first=>
  refine wp_region_held_drew (S:=λ_=>True) (by kernel_rfl) trivial (λ_=>?_);replace K1:=qD K1;replace K2:=qD K2;replace KB:=qA (zD KB.out);refine tk 0 ?_;refine tk 1 ?_;refine tk 2 ?_;refine tk 4 ?_;refine wpAnyH_ready (rs:=[3,5]) (by kernel_rfl) (by simp) ?_;refine AllReadyH.cons rfl (λK hK=>?_) ?_
  ·show(if Region.wanted ⟨some 11,.load 26 (.tmp 10),_,_,_,none⟩ _=true then Oper.wp _ ⟨some 11,.load 26 (.tmp 10),_,_,_,none⟩ _ _ _ _ else _)
   rw[if_pos (by rfl)];refine jA.wp_load 26 (.tmp 10) (off:=81) rfl rfl K1.out Tryz.underlying26 rfl jA.infoH (by omega) ?_;refine ko hK ?_;clear hK K;refine tk 6 ?_;refine tk 7 ?_;refine tk 8 ?_;refine wpAnyH_ready (rs:=[5,9]) (by kernel_rfl) (by simp) ?_;refine AllReadyH.cons rfl (λK hK=>?_) ?_
   ·show(if Region.wanted ⟨some 13,.load _ _,_,_,_,none⟩ _=true then Oper.wp _ ⟨some 13,.load _ _,_,_,_,none⟩ _ _ _ _ else _)
    have c97:=(jB K1.out 97).trans ((jA.pv_get cs 97 (by omega)).trans (by rw[HSV.out]));go_simp;clear c97;refine ko hK ?_;clear hK K;refine on1 9 (λK hK=>?_);show(if Region.wanted ⟨none,.store 26 (.tmp 16) (.tmp 11),_,_,_,none⟩ _=true then Oper.wp _ ⟨none,.store 26 (.tmp 16) (.tmp 11),_,_,_,none⟩ _ _ _ _ else _);rw[if_pos (by rfl)];refine jj.wp_store8 26 (.tmp 16) (.tmp 11) rfl (off:=81) rfl rfl (by omega) (by simp;omega) jA.infoH K2.out ?_;intro W3 s1 s2;replace K1:=qA (s2.blk HN.out K1.out);replace K2:=qA s1;replace KB:=qA (s2.2.1 _ _ HG.out KB.out);clear s1 s2;refine ko hK ?_;clear hK K;refine tk 10 ?_;refine tk 11 ?_;refine tk 12 ?_;refine on1 13 (λK hK=>?_);show(if Region.wanted ⟨none,.store _ _ _,_,_,_,none⟩ _=true then Oper.wp _ ⟨none,.store _ _ _,_,_,_,none⟩ _ _ _ _ else _)
    have hml:(zc.take 81++(cs.drop 81).take 16++zc.drop (81+16)).length=98:=by simp;omega
    have d97:=(jB K2.out 97).trans (jBX _ _ 97 (by omega));have f97:=jH K2.out 97;go_simp;have s1:=(zQ K2.out 97 (.int .i8 sv0)).trans (by rw[jCA _ _ 97 _ (by omega)]);have s2:=Ch.set_of K2.out 97 (.int .i8 sv0);clear d97 f97;generalize (World.setCell _ ⟨g,97,none⟩ (.int .i8 sv0))=W5 at *;replace K1:=qA (s2.blk HN.out K1.out);replace K2:=qA s1;replace KB:=qA (s2.2.1 _ _ HG.out KB.out);clear s1 s2;refine ko hK ?_;clear hK K;refine wpAnyH_done (by kernel_rfl) ?_ _;go_wp2;go_meet;exact⟨K1,⟨by rw[HC0.out];exact K2.out⟩,KB⟩
   refine AllReadyH.cons rfl (λK hK=>?_) AllReadyH.nil;show(if Region.wanted ⟨none,.store 26 (.tmp 16) (.tmp 11),_,_,_,none⟩ _=true then Oper.wp _ ⟨none,.store 26 (.tmp 16) (.tmp 11),_,_,_,none⟩ _ _ _ _ else _);rw[if_pos (by rfl)];refine jj.wp_store8 26 (.tmp 16) (.tmp 11) rfl (off:=81) rfl rfl (by omega) (by simp;omega) jA.infoH K2.out ?_;intro W3 s1 s2;replace K1:=qA (s2.blk HN.out K1.out);replace K2:=qA s1;replace KB:=qA (s2.2.1 _ _ HG.out KB.out);clear s1 s2;refine ko hK ?_;clear hK K;refine on1 5 (λK hK=>?_);show(if Region.wanted ⟨some 13,.load _ _,_,_,_,none⟩ _=true then Oper.wp _ ⟨some 13,.load _ _,_,_,_,none⟩ _ _ _ _ else _);have c97:=(jB K1.out 97).trans ((jA.pv_get cs 97 (by omega)).trans (by rw[HSV.out]));go_simp;clear c97;refine ko hK ?_;clear hK K;refine tk 10 ?_;refine tk 11 ?_;refine tk 12 ?_;refine on1 13 (λK hK=>?_);show(if Region.wanted ⟨none,.store _ _ _,_,_,_,none⟩ _=true then Oper.wp _ ⟨none,.store _ _ _,_,_,_,none⟩ _ _ _ _ else _)
   have hml:(zc.take 81++(cs.drop 81).take 16++zc.drop (81+16)).length=98:=by simp;omega
   have d97:=(jB K2.out 97).trans (jBX _ _ 97 (by omega));have f97:=jH K2.out 97;go_simp;have s1:=(zQ K2.out 97 (.int .i8 sv0)).trans (by rw[jCA _ _ 97 _ (by omega)]);have s2:=Ch.set_of K2.out 97 (.int .i8 sv0);clear d97 f97;generalize (World.setCell _ ⟨g,97,none⟩ (.int .i8 sv0))=W5 at *;replace K1:=qA (s2.blk HN.out K1.out);replace K2:=qA s1;replace KB:=qA (s2.2.1 _ _ HG.out KB.out);clear s1 s2;refine ko hK ?_;clear hK K;refine wpAnyH_done (by kernel_rfl) ?_ _;go_wp2;go_meet;exact⟨K1,⟨by rw[HC0.out];exact K2.out⟩,KB⟩
  refine AllReadyH.cons rfl (λK hK=>?_) AllReadyH.nil;show(if Region.wanted ⟨some 13,.load _ _,_,_,_,none⟩ _=true then Oper.wp _ ⟨some 13,.load _ _,_,_,_,none⟩ _ _ _ _ else _);have c97:=(jB K1.out 97).trans ((jA.pv_get cs 97 (by omega)).trans (by rw[HSV.out]));go_simp;clear c97;refine ko hK ?_;clear hK K;refine on1 3 (λK hK=>?_);show(if Region.wanted ⟨some 11,.load 26 (.tmp 10),_,_,_,none⟩ _=true then Oper.wp _ ⟨some 11,.load 26 (.tmp 10),_,_,_,none⟩ _ _ _ _ else _);rw[if_pos (by rfl)];refine jA.wp_load 26 (.tmp 10) (off:=81) rfl rfl K1.out Tryz.underlying26 rfl jA.infoH (by omega) ?_;refine ko hK ?_;clear hK K;refine tk 6 ?_;refine tk 7 ?_;refine tk 8 ?_;refine on1 9 (λK hK=>?_);show(if Region.wanted ⟨none,.store 26 (.tmp 16) (.tmp 11),_,_,_,none⟩ _=true then Oper.wp _ ⟨none,.store 26 (.tmp 16) (.tmp 11),_,_,_,none⟩ _ _ _ _ else _);rw[if_pos (by rfl)];refine jj.wp_store8 26 (.tmp 16) (.tmp 11) rfl (off:=81) rfl rfl (by omega) (by simp;omega) jA.infoH K2.out ?_;intro W3 s1 s2;replace K1:=qA (s2.blk HN.out K1.out);replace K2:=qA s1;replace KB:=qA (s2.2.1 _ _ HG.out KB.out);clear s1 s2;refine ko hK ?_;clear hK K;refine tk 10 ?_;refine tk 11 ?_;refine tk 12 ?_;refine on1 13 (λK hK=>?_);show(if Region.wanted ⟨none,.store _ _ _,_,_,_,none⟩ _=true then Oper.wp _ ⟨none,.store _ _ _,_,_,_,none⟩ _ _ _ _ else _)
  have hml:(zc.take 81++(cs.drop 81).take 16++zc.drop (81+16)).length=98:=by simp;omega
  have d97:=(jB K2.out 97).trans (jBX _ _ 97 (by omega));have f97:=jH K2.out 97;go_simp;have s1:=(zQ K2.out 97 (.int .i8 sv0)).trans (by rw[jCA _ _ 97 _ (by omega)]);have s2:=Ch.set_of K2.out 97 (.int .i8 sv0);clear d97 f97;generalize (World.setCell _ ⟨g,97,none⟩ (.int .i8 sv0))=W5 at *;replace K1:=qA (s2.blk HN.out K1.out);replace K2:=qA s1;replace KB:=qA (s2.2.1 _ _ HG.out KB.out);clear s1 s2;refine ko hK ?_;clear hK K;refine wpAnyH_done (by kernel_rfl) ?_ _;go_wp2;go_meet;exact⟨K1,⟨by rw[HC0.out];exact K2.out⟩,KB⟩
 case rest=>
  clear K1 K2 KB;obtain⟨K1,K2,KB⟩:=hcut;have hc0l:=jj.c0_len cs hl
  have hzul:zu.length=68:=by rw[<- HZU.out];exact jj.zu_len
  have HR0:Aside0 (jj.go cs 0 81 (jj.c0 cs) zu=some (C,U)):=⟨by rw[<- HZU.out];exact HH.out⟩
  generalize jj.c0 cs=c0 at *;clear HC0 HZU HH
  obtain⟨bs,hbs⟩:∃bs,bs=(cs.drop 0).take 81:=⟨_,rfl⟩
  have hbl:bs.length=81:=by rw[hbs];simp;omega
  have HBG:Aside0 (∀n,n<81->bs.getD n 0=cs.getD n 0):=⟨λn hn=>by rw[hbs,List.drop_zero];simp only[List.getD_eq_getElem?_getD,List.getElem?_take_of_lt hn]⟩
  have HBS:=qA hbs;clear hbs
  go_wp2_with (first|((with_reducible refine jG (N:=21) rfl ?_);refine jA.load rfl 24 (.tmp 20) rfl rfl K1.out Tryz.underlying24 rfl jA.infoB (by omega) ?_;rw[<- HBS.out]))
  clear HBS
  go_loopg [22] 82 (λgf s22 wx=>∃(n:Nat) (c u:List Int),s22=.int .i64 n/\n<=81/\c.length=98/\u.length=68/\Aside0 (jj.go cs n (81-n) c u=some (C,U))/\Aside0 (wx.heap[w.heap.size]?=some (.cells (jA.pv cs) 28 (0,0)))/\Aside0 (wx.heap[g]?=some (.cells (bd c u) 93 (0,0)))/\Aside0 (Below w.heap.size w wx)/\82<=gf+n)
  case atStart=>exact⟨0,c0,zu,rfl,by omega,hc0l,hzul,HR0,K1,K2,KB,by omega⟩
  case round=>
   clear K1 K2 KB HR0;obtain⟨n,c,u,rfl,hn,hcl,hul,HR,K1,K2,KB,hgf⟩:=hrel
   by_cases hend:n=81
   ·subst hend
    have e:=HR.out;have er:(c,u)=(C,U):=Option.some.inj e;simp only[Prod.mk.injEq] at er;obtain⟨rfl,rfl⟩:=er;clear e HR;go_wp2;go_ret;exact⟨g,rfl,HG.out,K2.out,hcl,hul,KB.out⟩
   ·obtain⟨d,hd⟩:∃d,81-n=d+1:=⟨80-n,by omega⟩
    have e:=HR.out;rw[hd] at e;unfold jj.go at e;obtain⟨⟨c2,u2⟩,hp,e2⟩:=Option.bind_eq_some_iff.mp e
    have hn81:n<81:=by omega
    rw[<- HBG.out n hn81] at hp;have HP:=qA hp;have b0:decide ((n:Int)<81)=true:=decide_eq_true (by omega);have b1:(0<=(n:Int)/\(n:Int)<81)=True:=eq_true (by omega);have b3:((n:Int)<81)=True:=eq_true (by omega);have hix:∀W,(Instr.index 24 (.agg (jA.pv bs)) (.int .i64 (n:Int))).run Tryz.prog W=.ok (.int .i8 (bs.getD n 0)) W:=λW=>jA.index 24 23 81 n bs W Tryz.underlying24 (by kernel_rfl) (by kernel_rfl) (by kernel_rfl) (by omega) (by omega)
    obtain⟨x,hx⟩:∃x,x=bs.getD n 0:=⟨_,rfl⟩
    rw[<- hx] at hix HP;have ew:IntKind.i64.wrap ((n:Int)+1)=(n:Int)+1:=IntWalk.i64_in _ (by omega)
    have hd2:d=81-(n+1):=by omega
    rw[hd2] at e2;have HE:=qA e2
    obtain⟨g',rfl⟩:∃g',gk=g'+1:=⟨gk-1,by omega⟩
    clear e hx hp HR hd hd2 e2
    go_wp2_with (first|(go_at_call 67;(with_reducible refine(zf.put_calls c u c2 u2 n g x _ hcl hul hn81 K2.out HP.out).mono ?_);rintro e w7 ⟨rfl,s1,hc2,hu2,s2⟩;have m1:=qA (s2.blk HN.out K1.out);have m2:=qA s1;have mB:=qA (s2.2.1 _ _ HG.out KB.out);clear K1 K2 KB s1 s2;have K1:=m1;have K2:=m2;have KB:=mB;clear m1 m2 mB))
    go_roundg g'
    case measure=>omega
    case rel=>exact⟨n+1,c2,u2,by simp,by omega,hc2,hu2,HE,K1,K2,KB,by omega⟩
def jAJ.f (a0:Int):Option (Int):=some (Int.tmod a0 9)
theorem jAJ.calls (a0:Int) (r:Int) (w:World) (h:jAJ.f a0=some r):
  Calls Tryz.prog 135 #[.int .i64 a0] w λe w'=>e=.returned (.int .i64 r)/\Drawn0 w w':=by
 have H:(some (Int.tmod a0 9))=some r:=h;clear h;obtain rfl:=Option.some.inj H;go_enter Tryz.func135,Tryz.ntmps135;go_wp2;go_ret;exact⟨by first|rfl|(simp;done)|(simp [*];done),by repeat (first|exact Drawn0.refl _|apply Drawn0.step)⟩
def zh.j0:Nat->Int->Int->Bool->Option (Int)
 | 0,_,_,_=>none
 | k+1,x0,x1,x5=>if x5=true then(some (-1)) else(if x0=0 then((jAJ.f x1).bind λt122=>(some t122)) else(if x0=1 then((jAJ.f x1).bind λt123=>(some (wrap64 (8-t123)))) else(some (-1))))
def zh.f (k:Nat) (a0:Int) (a1:Int):Option (Int):=if a1<0 then(zh.j0 k a0 a1 true) else(zh.j0 k a0 a1 (decide (a1>=81)))
theorem zh.mono_l:∀k,(∀y0 y1 y2,LeO (zh.j0 k y0 y1 y2) (zh.j0 (k+1) y0 y1 y2))
 | 0=>λ_ _ _ r h=>by simp [zh.j0] at h
 | k+1=>by
  have ih0:=zh.mono_l k
  ·intro y0 y1 y2
   unfold zh.j0
   repeat' first
   | (with_reducible exact ih0 _ _ _)
   | (with_reducible exact LeO.refl _)
   | (with_reducible exact LeO.none _)
   | (with_reducible refine LeO.ite ?_ ?_)
   | (with_reducible refine LeO.bind ?_ (λ_=>?_))
   | exact ih0 _ _ _
   | exact LeO.none _
   | refine LeO.ite ?_ ?_
   | refine LeO.bind ?_ (λ_=>?_)
theorem zh.mono:∀a0 a1 k,LeO (zh.f k a0 a1) (zh.f (k+1) a0 a1):=by
 intro a0 a1 k;have ih0:=zh.mono_l k;unfold zh.f
 repeat' first
   | (with_reducible exact ih0 _ _ _)
   | (with_reducible exact LeO.refl _)
   | (with_reducible exact LeO.none _)
   | (with_reducible refine LeO.ite ?_ ?_)
   | (with_reducible refine LeO.bind ?_ (λ_=>?_))
   | exact ih0 _ _ _
   | exact LeO.none _
   | refine LeO.ite ?_ ?_
   | refine LeO.bind ?_ (λ_=>?_)
theorem zh.calls (k:Nat) (a0:Int) (a1:Int) (r:Int) (w:World) (h:zh.f k a0 a1=some r):
  Calls Tryz.prog 117 #[.int .i64 a0,.int .i64 a1] w λe w'=>e=.returned (.int .i64 r)/\Drawn0 w w':=by
 have H:(if a1<0 then(zh.j0 k a0 a1 true) else(zh.j0 k a0 a1 (decide (a1>=81))))=some r:=h;clear h;have HC3:=qA H;clear H;go_enter Tryz.func117,Tryz.ntmps117;go_upto_region 1 with(fail);go_cut [5] (λv5 wc=>∃(kq:Nat) (x5_2:Bool),v5=.bool x5_2/\Aside0 (zh.j0 kq a0 a1 x5_2=some r)/\Aside0 (kq<=k)/\Drawn0 w wc)
 case first=>
  have H:=HC3.out;clear HC3
  by_cases c4:a1<0
  ·rw[if_pos c4] at H
   have c4b0:decide (a1<0)=true:=decide_eq_true c4;clear c4
   (first|rw[c4b0]|(simp only[zP,zd];rw[c4b0])|skip)
   have H':=qA H;clear H;go_wp2;go_meet
   case rel=>exact⟨_,(true),(by first|rfl|(simp;done)|(simp [*];done)),H',⟨by first|omega|exact Nat.le_refl _⟩,by repeat (first|exact Drawn0.refl _|apply Drawn0.step)⟩
  ·rw[if_neg c4] at H
   have c4b0:decide (a1<0)=false:=decide_eq_false c4;clear c4
   (first|rw[c4b0]|(simp only[zP,zd];rw[c4b0])|skip)
   have H':=qA H;clear H;go_wp2;go_meet
   case rel=>exact⟨_,(decide (a1>=81)),(by first|rfl|(simp;done)|(simp [*];done)),H',⟨by first|omega|exact Nat.le_refl _⟩,by repeat (first|exact Drawn0.refl _|apply Drawn0.step)⟩
 case rest=>
  clear HC3
  try clear c1
  try clear p2
  try clear c4
  try clear c4b0
  obtain⟨kq,x5_2,rfl,HA,HJ2,⟨mc2,rfl⟩⟩:=hcut
  cases kq with
  | zero=>exact absurd HA.out (by simp [zh.j0])
  | succ kj2=>
   have H:=HA.out;clear HA;simp only[zh.j0] at H
   by_cases c5:x5_2=true
   ·subst c5
    have H1:(some (-1))=some r:=by rw[if_pos rfl] at H;exact H
    clear H;have H:=H1;clear H1;obtain rfl:=Option.some.inj H;go_wp2;go_ret;exact⟨by first|rfl|(simp;done)|(simp [*];done),by repeat (first|exact Drawn0.refl _|apply Drawn0.step)⟩
   ·replace c5:=Bool.eq_false_iff.mpr c5
    subst c5
    have H1:(if a0=0 then((jAJ.f a1).bind λt122=>(some t122)) else(if a0=1 then((jAJ.f a1).bind λt123=>(some (wrap64 (8-t123)))) else(some (-1))))=some r:=by rw[if_neg (show ¬(false=true) by decide)] at H;exact H
    clear H;have H:=H1;clear H1
    by_cases c6:a0=0
    ·rw[if_pos c6] at H
     have c6b0:(a0==0)=true:=beq_iff_eq.mpr c6;have c6b1:(a0 != 0)=false:=bne_eq_false_iff_eq.mpr c6;clear c6;replace H:=Option.bind_eq_some_iff.mp H;obtain⟨t122,A70,H⟩:=H;replace H:(some t122)=some r:=H;have A7:=qA A70;clear A70;obtain rfl:=Option.some.inj H
     go_wp2_with (first|((with_reducible refine jV (f:=135) rfl ?_);refine zB (some 16) rfl rfl Tryz.func135 (by kernel_rfl) rfl #[.int .i64 a1] rfl (by (try simp only[List.map_toArray,List.map_cons,List.map_nil]);first|done|rfl|(simp only[List.length_drop,List.length_take];rfl)) ?_;(with_reducible refine(jAJ.calls a1 t122 _ A7.out).mono ?_);rintro e w' ⟨rfl,⟨nd,rfl⟩⟩;refine⟨_,rfl,?_⟩))
     go_ret;exact⟨by first|rfl|(simp;done)|(simp [*];done),by repeat (first|exact Drawn0.refl _|apply Drawn0.step)⟩
    ·rw[if_neg c6] at H
     have c6b0:(a0==0)=false:=beq_eq_false_iff_ne.mpr c6;have c6b1:(a0 != 0)=true:=bne_iff_ne.mpr c6
     by_cases c8:a0=1
     ·rw[if_pos c8] at H
      have c8b0:(a0==1)=true:=beq_iff_eq.mpr c8;have c8b1:(a0 != 1)=false:=bne_eq_false_iff_eq.mpr c8;clear c8;replace H:=Option.bind_eq_some_iff.mp H;obtain⟨t123,A90,H⟩:=H;replace H:(some (wrap64 (8-t123)))=some r:=H;have A9:=qA A90;clear A90;obtain rfl:=Option.some.inj H
      go_wp2_with (first|((with_reducible refine jV (f:=135) rfl ?_);refine zB (some 21) rfl rfl Tryz.func135 (by kernel_rfl) rfl #[.int .i64 a1] rfl (by (try simp only[List.map_toArray,List.map_cons,List.map_nil]);first|done|rfl|(simp only[List.length_drop,List.length_take];rfl)) ?_;(with_reducible refine(jAJ.calls a1 t123 _ A9.out).mono ?_);rintro e w' ⟨rfl,⟨nd,rfl⟩⟩;refine⟨_,rfl,?_⟩))
      go_ret;exact⟨by first|rfl|(simp;done)|(simp [*];done),by repeat (first|exact Drawn0.refl _|apply Drawn0.step)⟩
     ·rw[if_neg c8] at H
      have c8b0:(a0==1)=false:=beq_eq_false_iff_ne.mpr c8;have c8b1:(a0 != 1)=true:=bne_iff_ne.mpr c8;obtain rfl:=Option.some.inj H;go_wp2;go_ret;exact⟨by first|rfl|(simp;done)|(simp [*];done),by repeat (first|exact Drawn0.refl _|apply Drawn0.step)⟩
def zN.j0:Nat->Int->Int->Bool->Option (Bool)
 | 0,_,_,_=>none
 | k+1,x5,x11,x12=>if x12=true then(some (x5==0)) else(if x11=3 then(if x5=0 then(some true) else(some (x5==1))) else(some false))
def zN.f (k:Nat) (a0:Int) (a1:Int):Option (Bool):=(jv.f k a0).bind λt124=>((zh.f k t124 a1).bind λt125=>((jS.f k a0).bind λt126=>(if t126=1 then(zN.j0 k t125 t126 (t126==1)) else(zN.j0 k t125 t126 (t126==2)))))
theorem zN.mono_l:∀k,(∀y0 y1 y2,LeO (zN.j0 k y0 y1 y2) (zN.j0 (k+1) y0 y1 y2))
 | 0=>λ_ _ _ r h=>by simp [zN.j0] at h
 | k+1=>by
  have ih0:=zN.mono_l k
  ·intro y0 y1 y2
   unfold zN.j0
   repeat' first
   | (with_reducible exact ih0 _ _ _)
   | (with_reducible exact jS.mono _ _)
   | (with_reducible exact jv.mono _ _)
   | (with_reducible exact zh.mono _ _ _)
   | (with_reducible exact LeO.refl _)
   | (with_reducible exact LeO.none _)
   | (with_reducible refine LeO.ite ?_ ?_)
   | (with_reducible refine LeO.bind ?_ (λ_=>?_))
   | exact ih0 _ _ _
   | exact jS.mono _ _
   | exact jv.mono _ _
   | exact zh.mono _ _ _
   | exact LeO.none _
   | refine LeO.ite ?_ ?_
   | refine LeO.bind ?_ (λ_=>?_)
theorem zN.mono:∀a0 a1 k,LeO (zN.f k a0 a1) (zN.f (k+1) a0 a1):=by
 intro a0 a1 k;have ih0:=zN.mono_l k;unfold zN.f
 repeat' first
   | (with_reducible exact ih0 _ _ _)
   | (with_reducible exact jS.mono _ _)
   | (with_reducible exact jv.mono _ _)
   | (with_reducible exact zh.mono _ _ _)
   | (with_reducible exact LeO.refl _)
   | (with_reducible exact LeO.none _)
   | (with_reducible refine LeO.ite ?_ ?_)
   | (with_reducible refine LeO.bind ?_ (λ_=>?_))
   | exact ih0 _ _ _
   | exact jS.mono _ _
   | exact jv.mono _ _
   | exact zh.mono _ _ _
   | exact LeO.none _
   | refine LeO.ite ?_ ?_
   | refine LeO.bind ?_ (λ_=>?_)
theorem zN.calls (k:Nat) (a0:Int) (a1:Int) (r:Bool) (w:World) (h:zN.f k a0 a1=some r):
  Calls Tryz.prog 90 #[.int .i8 a0,.int .i64 a1] w λe w'=>e=.returned (.bool r)/\Drawn0 w w':=by
 have H:((jv.f k a0).bind λt124=>((zh.f k t124 a1).bind λt125=>((jS.f k a0).bind λt126=>(if t126=1 then(zN.j0 k t125 t126 (t126==1)) else(zN.j0 k t125 t126 (t126==2))))))=some r:=h;clear h;replace H:=Option.bind_eq_some_iff.mp H;obtain⟨t124,A30,H⟩:=H;replace H:((zh.f k t124 a1).bind λt125=>((jS.f k a0).bind λt126=>(if t126=1 then(zN.j0 k t125 t126 (t126==1)) else(zN.j0 k t125 t126 (t126==2)))))=some r:=H;have A3:=qA A30;clear A30;replace H:=Option.bind_eq_some_iff.mp H;obtain⟨t125,A40,H⟩:=H;replace H:((jS.f k a0).bind λt126=>(if t126=1 then(zN.j0 k t125 t126 (t126==1)) else(zN.j0 k t125 t126 (t126==2))))=some r:=H;have A4:=qA A40;clear A40;replace H:=Option.bind_eq_some_iff.mp H;obtain⟨t126,A50,H⟩:=H;replace H:(if t126=1 then(zN.j0 k t125 t126 (t126==1)) else(zN.j0 k t125 t126 (t126==2)))=some r:=H;have A5:=qA A50;clear A50;have HC6:=qA H;clear H;go_enter Tryz.func90,Tryz.ntmps90
 go_upto_if 12 with(first|((with_reducible refine jV (f:=48) rfl ?_);refine zB (some 7) rfl rfl Tryz.func48 (by kernel_rfl) rfl #[.int .i8 a0] rfl (by (try simp only[List.map_toArray,List.map_cons,List.map_nil]);first|done|rfl|(simp only[List.length_drop,List.length_take];rfl)) ?_;(with_reducible refine(jv.calls k a0 t124 _ A3.out).mono ?_);rintro e w' ⟨rfl,⟨nd,rfl⟩⟩;refine⟨_,rfl,?_⟩)|((with_reducible refine jV (f:=117) rfl ?_);refine zB (some 9) rfl rfl Tryz.func117 (by kernel_rfl) rfl #[.int .i64 t124,.int .i64 a1] rfl (by (try simp only[List.map_toArray,List.map_cons,List.map_nil]);first|done|rfl|(simp only[List.length_drop,List.length_take];rfl)) ?_;(with_reducible refine(zh.calls k t124 a1 t125 _ A4.out).mono ?_);rintro e w' ⟨rfl,⟨nd,rfl⟩⟩;refine⟨_,rfl,?_⟩)|((with_reducible refine jV (f:=24) rfl ?_);refine zB (some 11) rfl rfl Tryz.func24 (by kernel_rfl) rfl #[.int .i8 a0] rfl (by (try simp only[List.map_toArray,List.map_cons,List.map_nil]);first|done|rfl|(simp only[List.length_drop,List.length_take];rfl)) ?_;(with_reducible refine(jS.calls k a0 t126 _ A5.out).mono ?_);rintro e w' ⟨rfl,⟨nd,rfl⟩⟩;refine⟨_,rfl,?_⟩))
 (try simp only[Act.put,List.setIfInBounds_toArray,List.set_cons_zero,List.set_cons_succ])
 go_cut [12] (λv12 wc=>∃(kq:Nat) (x12_5:Bool),v12=.bool x12_5/\Aside0 (zN.j0 kq t125 t126 x12_5=some r)/\Aside0 (kq<=k)/\Drawn0 w wc)
 case first=>
  have H:=HC6.out;clear HC6
  by_cases c7:t126=1
  ·rw[if_pos c7] at H
   have c7b0:(t126==1)=true:=beq_iff_eq.mpr c7;have c7b1:(t126 != 1)=false:=bne_eq_false_iff_eq.mpr c7;clear c7
   (first|rw[c7b0]|(simp only[zP,zd];rw[c7b0])|skip)
   have H':=qA H;clear H;go_wp2;go_meet
   case rel=>exact⟨_,((t126==1)),(by first|rfl|(simp;done)|(simp [*];done)),H',⟨by first|omega|exact Nat.le_refl _⟩,by repeat (first|exact Drawn0.refl _|apply Drawn0.step)⟩
  ·rw[if_neg c7] at H
   have c7b0:(t126==1)=false:=beq_eq_false_iff_ne.mpr c7;have c7b1:(t126 != 1)=true:=bne_iff_ne.mpr c7
   (first|rw[c7b0]|(simp only[zP,zd];rw[c7b0])|skip)
   have H':=qA H;clear H;go_wp2;go_meet
   case rel=>exact⟨_,((t126==2)),(by first|rfl|(simp;done)|(simp [*];done)),H',⟨by first|omega|exact Nat.le_refl _⟩,by repeat (first|exact Drawn0.refl _|apply Drawn0.step)⟩
 case rest=>
  clear HC6
  try clear c1
  try clear c2
  try clear p2
  try clear c4
  try clear c7
  try clear c7b0
  try clear c7b1
  obtain⟨kq,x12_5,rfl,HA,HJ5,⟨mc5,rfl⟩⟩:=hcut
  cases kq with
  | zero=>exact absurd HA.out (by simp [zN.j0])
  | succ kj5=>
   have H:=HA.out;clear HA;simp only[zN.j0] at H
   by_cases c8:x12_5=true
   ·subst c8
    have H1:(some (t125==0))=some r:=by rw[if_pos rfl] at H;exact H
    clear H;have H:=H1;clear H1;obtain rfl:=Option.some.inj H;go_wp2;go_ret;exact⟨by first|rfl|(simp;done)|(simp [*];done),by repeat (first|exact Drawn0.refl _|apply Drawn0.step)⟩
   ·replace c8:=Bool.eq_false_iff.mpr c8
    subst c8
    have H1:(if t126=3 then(if t125=0 then(some true) else(some (t125==1))) else(some false))=some r:=by rw[if_neg (show ¬(false=true) by decide)] at H;exact H
    clear H;have H:=H1;clear H1
    by_cases c9:t126=3
    ·rw[if_pos c9] at H
     have c9b0:(t126==3)=true:=beq_iff_eq.mpr c9;have c9b1:(t126 != 3)=false:=bne_eq_false_iff_eq.mpr c9;clear c9
     by_cases c10:t125=0
     ·rw[if_pos c10] at H
      have c10b0:(t125==0)=true:=beq_iff_eq.mpr c10;have c10b1:(t125 != 0)=false:=bne_eq_false_iff_eq.mpr c10;clear c10;obtain rfl:=Option.some.inj H;go_wp2;go_ret;exact⟨by first|rfl|(simp;done)|(simp [*];done),by repeat (first|exact Drawn0.refl _|apply Drawn0.step)⟩
     ·rw[if_neg c10] at H
      have c10b0:(t125==0)=false:=beq_eq_false_iff_ne.mpr c10;have c10b1:(t125 != 0)=true:=bne_iff_ne.mpr c10;obtain rfl:=Option.some.inj H;go_wp2;go_ret;exact⟨by first|rfl|(simp;done)|(simp [*];done),by repeat (first|exact Drawn0.refl _|apply Drawn0.step)⟩
    ·rw[if_neg c9] at H
     have c9b0:(t126==3)=false:=beq_eq_false_iff_ne.mpr c9;have c9b1:(t126 != 3)=true:=bne_iff_ne.mpr c9;obtain rfl:=Option.some.inj H;go_wp2;go_ret;exact⟨by first|rfl|(simp;done)|(simp [*];done),by repeat (first|exact Drawn0.refl _|apply Drawn0.step)⟩
def sv (u v:Int):Array Value:=#[.int .u64 u,.int .u64 v]
theorem s2_zero (w:World):(zeroValue 88).run Tryz.prog w=.ok (.agg (sv 0 0)) w:=by
 have h:(Tryz.prog.info? 88).map (·.zero)=some (some (.agg (sv 0 0))):=by kernel_rfl
 cases hi:Tryz.prog.info? 88 with
 | none=>rw[hi] at h;cases h
 | some i=>
  rw[hi] at h
  have hz:i.zero=some (.agg (sv 0 0)):=by simpa using h
  simp [zeroValue,typeInfo,hi,hz]
section
variable {ops:Array Oper} {rest:List Oper} {o:Oper} {a:Act} {Q:Exit->Act->World->Prop} {W:World} {K:Act->World->Prop}
theorem s2_rng {W:World} {g:Nat} {u v:Int} {t:TypeId} (h:W.heap[g]?=some (.cells (sv u v) t (0,0))):W.rangeAt g 0 [.int .u64 u,.int .u64 v]:=λj x hj=>by
 rw[jB h]
 match j,hj with
 | 0,hj=>obtain rfl:=Option.some.inj hj;rfl
 | 1,hj=>obtain rfl:=Option.some.inj hj;rfl
 | j+2,hj=>simp at hj
theorem jAK (x:Operand) (ho:o.op=.load 88 x) {g:Nat} {t:TypeId} {u v:Int} (hx:a.eval x=.pointer (some ⟨g,0,none⟩)) (hb:W.heap[g]?=some (.cells (sv u v) t (0,0)))
  (h:K (a.put o.dst (.agg (sv u v))) W):Oper.wp Tryz.prog o a W K Q:=
 wp_load_mid _ x ho g 0 hx [.int .u64 u,.int .u64 v] _ (s2_rng hb) Tryz.underlying88 rfl bd_infoS h
theorem s2_load (hgd:o.guard=none) (x:Operand) (ho:o.op=.load 88 x) {g:Nat} {t:TypeId} {u v:Int} (hx:a.eval x=.pointer (some ⟨g,0,none⟩)) (hb:W.heap[g]?=some (.cells (sv u v) t (0,0)))
  (h:wpList Tryz.prog ops Q rest (a.put o.dst (.agg (sv u v))) W):wpList Tryz.prog ops Q (o::rest) a W:=
 wpList_plain hgd λ_ hK=>jAK x ho hx hb (hK _ _ h)
theorem yy (x y:Operand) (ho:o.op=.store 88 x y) {g:Nat} {t:TypeId} {C:Array Value} {u v:Int} (hx:a.eval x=.pointer (some ⟨g,0,none⟩)) (hy:a.eval y=.agg (sv u v)) (hC:C.size=2) (hb:W.heap[g]?=some (.cells C t (0,0)))
  (h:∀W',W'.heap[g]?=some (.cells (sv u v) t (0,0))->Ch g W W'->K (a.put o.dst undef) W'):Oper.wp Tryz.prog o a W K Q:=by
 refine wp_store_mid _ x y ho g 0 (sv u v) hx hy (bd_thr hb _ _ (by rw[hC];exact Nat.le_refl _)) bd_infoS (by simp [sv,Value.oneCell']) ?_;obtain⟨cur',h1,h2,h3⟩:=yl (sv u v).toList 0 W C hb (by rw[hC];exact Nat.le_refl _)
 have e:cur'=sv u v:=by
  apply Array.toList_inj.1
  rw[h3,List.take_zero,List.nil_append,List.drop_of_length_le (by rw[Array.length_toList,hC];exact Nat.le_refl _),List.append_nil]
 rw[e] at h1;exact h _ h1 ⟨λk hk _=>yT _ _ k hk,λB w0 hB hb0=>below_setCells hB _ _ W hb0,(below_setCells (Nat.zero_le g) _ _ W (Below.refl 0 W)).size⟩
theorem jB0 (hgd:o.guard=none) (x y:Operand) (ho:o.op=.store 88 x y) {g:Nat} {t:TypeId} {C:Array Value} {u v:Int} (hx:a.eval x=.pointer (some ⟨g,0,none⟩)) (hy:a.eval y=.agg (sv u v)) (hC:C.size=2) (hb:W.heap[g]?=some (.cells C t (0,0)))
  (h:∀W',W'.heap[g]?=some (.cells (sv u v) t (0,0))->Ch g W W'->wpList Tryz.prog ops Q rest (a.put o.dst undef) W'):wpList Tryz.prog ops Q (o::rest) a W:=
 wpList_plain hgd λ_ hK=>yy x y ho hx hy hC hb λW' s1 s2=>hK _ _ (h W' s1 s2)
theorem bd_load (hgd:o.guard=none) (x:Operand) (ho:o.op=.load 88 x) {g i:Nat} {t:TypeId} {cs us:List Int} (hx:a.eval x=.pointer (some ⟨g,98+2*i,none⟩)) (hc:cs.length=98) (hb:W.heap[g]?=some (.cells (bd cs us) t (0,0))) (hi:2*i+1<us.length)
  (h:wpList Tryz.prog ops Q rest (a.put o.dst (.agg (sv (bget us i).1 (bget us i).2))) W):wpList Tryz.prog ops Q (o::rest) a W:=
 wpList_plain hgd λ_ hK=>yh x ho hx hc hb hi (hK _ _ h)
end
theorem jAY {fn:Func} {tmps:Array Value} {W:World} {g p:Nat} {t:TypeId} {u v:Int} (h:fn.results=#[.cell p 88]) (hp:tmps.getD p undef=.pointer (some ⟨g,0,none⟩)) (hb:W.heap[g]?=some (.cells (sv u v) t (0,0))):(results fn tmps).run Tryz.prog W=.ok (.agg (sv u v)) W:=
 results_cell_row (p:=p) (ty:=88) h _ _ g t (sv u v) (0,0) _ hp hb Tryz.underlying88 rfl bd_infoS
def ze.f (side kind:Int) (us:List Int):Option (Int×Int):=(zU.f side kind).bind λx=>if x=0 then some (0,0) else if 0<x/\x<32 then some (bget us x.toNat) else none
theorem ze.of_calls (cs us:List Int) (side kind u v:Int) (g:Nat) (w:World) (hl:cs.length=98) (hul:us.length=68) (hb:w.heap[g]?=some (.cells (bd cs us) 93 (0,0))) (h:ze.f side kind us=some (u,v)):
  Calls Tryz.prog 91 #[.pointer (some ⟨g,0,none⟩),.int .i64 side,.int .i64 kind] w λe w'=>e=.returned (.agg (sv u v))/\Below w.heap.size w w':=by
 have hz:=s2_zero;unfold ze.f at h;obtain⟨x,h1,h2⟩:=Option.bind_eq_some_iff.mp h;have H1:=qA h1;have H2:=qA h2;clear h h1 h2
 have K1:Aside0 ((w.alloc (Obj.cells (sv 0 0) 88)).heap[g]?=some (.cells (bd cs us) 93 (0,0))):=⟨jI hb _⟩
 have K2:Aside0 ((w.alloc (Obj.cells (sv 0 0) 88)).heap[w.heap.size]?=some (.cells (sv 0 0) 88 (0,0))):=⟨zJ w _⟩
 have HN:=qA (Nat.ne_of_lt (ju hb))
 have KB:Aside0 (Below w.heap.size w (w.alloc (Obj.cells (sv 0 0) 88))):=⟨ji (Below.refl _ _) _⟩
 clear hb;go_enter Tryz.func91,Tryz.ntmps91;go_upto_region 1 with(fail);generalize w.alloc (Obj.cells (sv 0 0) 88)=W at *;have e2:=H2.out;clear H2
 by_cases h0:x=0
 ·rw[if_pos h0] at e2
  have e3:=Option.some.inj e2;simp only[Prod.mk.injEq] at e3;obtain⟨rfl,rfl⟩:=e3;clear e2
  have c0:(x==0)=true:=by simpa using h0
  have HZ:Aside0 (∀W,(Instr.build 88 #[]).run Tryz.prog W=.ok (.agg (sv 0 0)) W):=⟨λW=>run_build W 88 _ _ (by kernel_rfl)⟩
  go_wp2_with (first|(go_at_call 27;(with_reducible refine(zU.calls _ _ _ _ H1.out).mono ?_);rintro e w7 ⟨rfl,hd⟩;have hb:=hd.below;clear hd;replace K1:=qB K1 hb;replace K2:=qB K2 hb;replace KB:=qS KB hb;clear hb)|((with_reducible refine jG (N:=13) rfl ?_);refine jj.built rfl 88 #[] rfl #[] (by (try simp only[List.map_toArray,List.map_nil]);first|done|rfl) (HZ.out _) ?_)|((with_reducible refine jW (t:=88) (p:=6) (v:=.tmp 13) rfl ?_);refine jB0 rfl (.tmp 6) (.tmp 13) rfl rfl rfl rfl K2.out ?_;intro W3 s1 s2;replace K2:=qA s1;replace KB:=qA (s2.2.1 _ _ (Nat.le_refl _) KB.out);clear K1 s1 s2))
  refine bodyPost_ret (jAY (p:=6) rfl rfl K2.out) rfl ?_;exact⟨rfl,KB.out⟩
 ·rw[if_neg h0] at e2
  have c0:(x==0)=false:=by simpa using h0
  by_cases hx:0<x/\x<32
  case neg=>rw[if_neg hx] at e2;cases e2
  rw[if_pos hx] at e2
  obtain⟨i,hi⟩:∃i:Nat,x=(i:Int):=⟨x.toNat,by omega⟩
  subst hi;rw[Int.toNat_natCast] at e2;have e3:=qA (Option.some.inj e2);clear e2
  have hi32:i<32:=by omega
  have bi:(0<=(i:Int)/\(i:Int)<32)=True:=eq_true (by omega);have bi2:((i:Int)<32)=True:=eq_true (by omega)
  go_wp2_with (first|(go_at_call 27;(with_reducible refine(zU.calls _ _ _ _ H1.out).mono ?_);rintro e w7 ⟨rfl,hd⟩;have hb:=hd.below;clear hd;replace K1:=qB K1 hb;replace K2:=qB K2 hb;replace KB:=qS KB hb;clear hb)|((with_reducible refine jG (N:=19) rfl ?_);refine bd_load rfl (.tmp 18) rfl (i:=i) (by show Value.pointer (some ⟨g,98+i*2,none⟩)=Value.pointer (some ⟨g,98+2*i,none⟩);congr 3;omega) hl K1.out (by omega) ?_;rw[e3.out])|((with_reducible refine jW (t:=88) (p:=6) (v:=.tmp 19) rfl ?_);refine jB0 rfl (.tmp 6) (.tmp 19) rfl rfl rfl rfl K2.out ?_;intro W3 s1 s2;replace K2:=qA s1;replace KB:=qA (s2.2.1 _ _ (Nat.le_refl _) KB.out);clear K1 s1 s2))
  refine bodyPost_ret (jAY (p:=6) rfl rfl K2.out) rfl ?_;exact⟨rfl,KB.out⟩
def z6.f (a0_0:Int) (a0_1:Int) (a1_0:Int) (a1_1:Int):Option (Int×Int):=some (Go.bits .and .u64 a0_0 a1_0,Go.bits .and .u64 a0_1 a1_1)
theorem z6.calls (a0_0:Int) (a0_1:Int) (a1_0:Int) (a1_1:Int) (r1:Int) (r2:Int) (w:World) (h:z6.f a0_0 a0_1 a1_0 a1_1=some (r1,r2)):
  Calls Tryz.prog 92 #[.agg #[.int .u64 a0_0,.int .u64 a0_1],.agg #[.int .u64 a1_0,.int .u64 a1_1]] w λe w'=>e=.returned (.agg #[.int .u64 r1,.int .u64 r2])/\Below w.heap.size w w':=by
 have hu88:=Tryz.underlying88;have HB:=qA (Below.refl w.heap.size w);have H:(some (Go.bits .and .u64 a0_0 a1_0,Go.bits .and .u64 a0_1 a1_1))=some (r1,r2):=h;clear h;simp only[Option.some.injEq,Prod.mk.injEq] at H;obtain⟨rfl,rfl⟩:=H;go_enter Tryz.func92,Tryz.ntmps92
 go_wp2_with (first|((with_reducible refine jG (N:=2) rfl ?_);refine zI ?hg (N:=2) ?hd (cs:=#[.int .u64 a0_0,.int .u64 a0_1]) (t:=88) ?hr ?_;(case hd=>rfl);(case hg=>rfl);(case hr=>first|(go_simp;done)|(go_simp;rfl));intro gb127 hg w3 hbox hb;have n0_:=qA (jX (qH HB) hb);have n1_:=qA (hbox);have n2_:=qA ((by rw[hg];exact(jP (qH HB)):w.heap.size<=gb127));have n3_:=qA ((by rw[hg];exact(jP (qH HB)):w.heap.size<=gb127));clear HB;have HB:=n0_;have BK127:=n1_;have GW127:=n2_;have GE127:=n3_;clear n0_ n1_ n2_ n3_;clear hb hbox hg)|((with_reducible refine jG (N:=3) rfl ?_);refine zI ?hg (N:=3) ?hd (cs:=#[.int .u64 a1_0,.int .u64 a1_1]) (t:=88) ?hr ?_;(case hd=>rfl);(case hg=>rfl);(case hr=>first|(go_simp;done)|(go_simp;rfl));intro gb128 hg w4 hbox hb;have n0_:=qA (jd (g:=gb127) (o:=.cells #[.int .u64 a0_0,.int .u64 a0_1] 88 (0,0)) (qK BK127) hb);have n1_:=qA (jX (qH HB) hb);have n2_:=qA (hbox);have n3_:=qA ((by rw[hg];exact(jP (qH HB)):w.heap.size<=gb128));have n4_:=qA ((by rw[hg];exact(jP (qH HB)):w.heap.size<=gb128));have n5_:=qA ((by rw[hg];exact Nat.ne_of_lt (ju (g:=gb127) (o:=.cells #[.int .u64 a0_0,.int .u64 a0_1] 88 (0,0)) (qK BK127)):gb127≠gb128));have n6_:=qA ((by rw[hg];exact Nat.ne_of_gt (ju (g:=gb127) (o:=.cells #[.int .u64 a0_0,.int .u64 a0_1] 88 (0,0)) (qK BK127)):gb128≠gb127));clear BK127;clear HB;have BK127:=n0_;have HB:=n1_;have BK128:=n2_;have GW128:=n3_;have GE128:=n4_;have NB127_128:=n5_;have NB128_127:=n6_;clear n0_ n1_ n2_ n3_ n4_ n5_ n6_;clear hb hbox hg)|((with_reducible refine jG (N:=4) rfl ?_);refine zI ?hg (N:=4) ?hd (cs:=#[.int .u64 0,.int .u64 0]) (t:=88) ?hr ?_;(case hd=>rfl);(case hg=>rfl);(case hr=>first|(go_simp;done)|(go_simp;rfl));intro gb129 hg w5 hbox hb;have n0_:=qA (jd (g:=gb127) (o:=.cells #[.int .u64 a0_0,.int .u64 a0_1] 88 (0,0)) (qK BK127) hb);have n1_:=qA (jd (g:=gb128) (o:=.cells #[.int .u64 a1_0,.int .u64 a1_1] 88 (0,0)) (qK BK128) hb);have n2_:=qA (jX (qH HB) hb);have n3_:=qA (hbox);have n4_:=qA ((by rw[hg];exact(jP (qH HB)):w.heap.size<=gb129));have n5_:=qA ((by rw[hg];exact(jP (qH HB)):w.heap.size<=gb129));have n6_:=qA ((by rw[hg];exact Nat.ne_of_lt (ju (g:=gb127) (o:=.cells #[.int .u64 a0_0,.int .u64 a0_1] 88 (0,0)) (qK BK127)):gb127≠gb129));have n7_:=qA ((by rw[hg];exact Nat.ne_of_gt (ju (g:=gb127) (o:=.cells #[.int .u64 a0_0,.int .u64 a0_1] 88 (0,0)) (qK BK127)):gb129≠gb127));have n8_:=qA ((by rw[hg];exact Nat.ne_of_lt (ju (g:=gb128) (o:=.cells #[.int .u64 a1_0,.int .u64 a1_1] 88 (0,0)) (qK BK128)):gb128≠gb129));have n9_:=qA ((by rw[hg];exact Nat.ne_of_gt (ju (g:=gb128) (o:=.cells #[.int .u64 a1_0,.int .u64 a1_1] 88 (0,0)) (qK BK128)):gb129≠gb128));clear BK127;clear BK128;clear HB;have BK127:=n0_;have BK128:=n1_;have HB:=n2_;have BK129:=n3_;have GW129:=n4_;have GE129:=n5_;have NB127_129:=n6_;have NB129_127:=n7_;have NB128_129:=n8_;have NB129_128:=n9_;clear n0_ n1_ n2_ n3_ n4_ n5_ n6_ n7_ n8_ n9_;clear hb hbox hg;have hnb6:=NB127_128.out;have hnc6:=NB128_127.out;have hnb7:=NB127_129.out;have hnc7:=NB129_127.out;have hcz8_0:w5.cell? ⟨gb127,0,none⟩=some (.int .u64 a0_0):=(jB BK127.out 0).trans rfl;have hcz8_1:w5.cell? ⟨gb127,1,none⟩=some (.int .u64 a0_1):=(jB BK127.out 1).trans rfl;have hfz8_0:=jH BK127.out 0;have hfz8_1:=jH BK127.out 1;have hnb9:=NB128_129.out;have hnc9:=NB129_128.out;have hcz10_0:w5.cell? ⟨gb128,0,none⟩=some (.int .u64 a1_0):=(jB BK128.out 0).trans rfl;have hcz10_1:w5.cell? ⟨gb128,1,none⟩=some (.int .u64 a1_1):=(jB BK128.out 1).trans rfl;have hfz10_0:=jH BK128.out 0;have hfz10_1:=jH BK128.out 1;have hcz11_0:w5.cell? ⟨gb129,0,none⟩=some (.int .u64 0):=(jB BK129.out 0).trans rfl;have hcz11_1:w5.cell? ⟨gb129,1,none⟩=some (.int .u64 0):=(jB BK129.out 1).trans rfl;have hfz11_0:=jH BK129.out 0;have hfz11_1:=jH BK129.out 1))
 refine bodyPost_ret (results_cell_row rfl _ _ gb129 88 #[.int .u64 (Go.bits .and .u64 a0_0 a1_0),.int .u64 (Go.bits .and .u64 a0_1 a1_1)] (0,0) _ rfl (by (with_reducible repeat (first|refine jQ ?_ _|refine jY ?_|refine jI ?_ _));refine zS (cs:=#[.int .u64 (Go.bits .and .u64 a0_0 a1_0),.int .u64 0]) ?_ 1 _ (by first|rfl|(simp [*];done));(with_reducible repeat (first|refine jQ ?_ _|refine jY ?_|refine jI ?_ _));refine zS (cs:=#[.int .u64 0,.int .u64 0]) ?_ 0 _ (by first|rfl|(simp [*];done));(with_reducible repeat (first|refine jQ ?_ _|refine jY ?_|refine jI ?_ _));exact BK129.out) Tryz.underlying88 rfl (by kernel_rfl)) rfl ?_;exact⟨by first|rfl|(simp [jL,jK]<;>rfl)|(simp [*,jL,jK]<;>rfl)|(simp [*,jL,jK];generalize ByteArray.toList _=q_;cases q_<;>rfl),qH HB⟩
def zM.f (a0:Int) (a1:Int):Option (Int):=if a0<0 then(some (-1)) else(if a0>8 then(some (-1)) else(if a1<0 then(some (-1)) else(if a1>8 then(some (-1)) else(some (wrap64 ((wrap64 (9*a0))+a1))))))
theorem zM.calls (a0:Int) (a1:Int) (r:Int) (w:World) (h:zM.f a0 a1=some r):
  Calls Tryz.prog 20 #[.int .i64 a0,.int .i64 a1] w λe w'=>e=.returned (.int .i64 r)/\Drawn0 w w':=by
 have H:(if a0<0 then(some (-1)) else(if a0>8 then(some (-1)) else(if a1<0 then(some (-1)) else(if a1>8 then(some (-1)) else(some (wrap64 ((wrap64 (9*a0))+a1)))))))=some r:=h;clear h
 by_cases c3:a0<0
 ·rw[if_pos c3] at H
  have c3b0:decide (a0<0)=true:=decide_eq_true c3;clear c3;obtain rfl:=Option.some.inj H;go_enter Tryz.func20,Tryz.ntmps20;go_wp2;go_ret;exact⟨by first|rfl|(simp;done)|(simp [*];done),by repeat (first|exact Drawn0.refl _|apply Drawn0.step)⟩
 ·rw[if_neg c3] at H
  have c3b0:decide (a0<0)=false:=decide_eq_false c3;clear c3
  by_cases c4:a0>8
  ·rw[if_pos c4] at H
   have c4b0:decide (8<a0)=true:=decide_eq_true c4;clear c4;obtain rfl:=Option.some.inj H;go_enter Tryz.func20,Tryz.ntmps20;go_wp2;go_ret;exact⟨by first|rfl|(simp;done)|(simp [*];done),by repeat (first|exact Drawn0.refl _|apply Drawn0.step)⟩
  ·rw[if_neg c4] at H
   have c4b0:decide (8<a0)=false:=decide_eq_false c4;clear c4
   by_cases c5:a1<0
   ·rw[if_pos c5] at H
    have c5b0:decide (a1<0)=true:=decide_eq_true c5;clear c5;obtain rfl:=Option.some.inj H;go_enter Tryz.func20,Tryz.ntmps20;go_wp2;go_ret;exact⟨by first|rfl|(simp;done)|(simp [*];done),by repeat (first|exact Drawn0.refl _|apply Drawn0.step)⟩
   ·rw[if_neg c5] at H
    have c5b0:decide (a1<0)=false:=decide_eq_false c5;clear c5
    by_cases c6:a1>8
    ·rw[if_pos c6] at H
     have c6b0:decide (8<a1)=true:=decide_eq_true c6;clear c6;obtain rfl:=Option.some.inj H;go_enter Tryz.func20,Tryz.ntmps20;go_wp2;go_ret;exact⟨by first|rfl|(simp;done)|(simp [*];done),by repeat (first|exact Drawn0.refl _|apply Drawn0.step)⟩
    ·rw[if_neg c6] at H
     have c6b0:decide (8<a1)=false:=decide_eq_false c6;clear c6;obtain rfl:=Option.some.inj H;go_enter Tryz.func20,Tryz.ntmps20;go_wp2;go_ret;exact⟨by first|rfl|(simp;done)|(simp [*];done),by repeat (first|exact Drawn0.refl _|apply Drawn0.step)⟩
end Go.Proofs.YtigenhbmgpfffaaGreatDoor.Pa
