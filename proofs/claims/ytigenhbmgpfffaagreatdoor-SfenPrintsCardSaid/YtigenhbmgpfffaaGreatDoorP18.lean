import Derived.Test.YtigenhbmgpfffaaGreatDoorP15
import Derived.Test.YtigenhbmgpfffaaGreatDoorP16
import Derived.Test.YtigenhbmgpfffaaGreatDoorP17
namespace Go.Proofs.YtigenhbmgpfffaaGreatDoor.Pa
open Go.RowKit Go.Proofs.YtigenhbmgpfffaaGreatDoorW.PrintWords Go.Proofs.YtigenhbmgpfffaaGreatDoorW.PrintLast Go.Proofs.YtigenhbmgpfffaaGreatDoorW.PrintMore
attribute [local go_sem] z7 zy yJ yI zq zp z6 zx
set_option linter.unusedVariables false
set_option linter.unusedSimpArgs false
theorem Ch.set_of {g:Nat} {w:World} {o:Obj} (h:w.heap[g]?=some o) (i:Nat) (v:Value):Ch g w (w.setCell ⟨g,i,none⟩ v):=Ch.set w i v
section
variable {ops:Array Oper} {rest:List Oper} {o:Oper} {a:Act} {W:World} {K:Act→World→Prop} {Q:Exit→Act→World→Prop}
theorem jf.wp_built (t:TypeId) (parts:Array (Nat×Operand)) (ho:o.op=.build t parts) (vs:Array (Nat×Value)) (he:(parts.map fun (i,x)=>(i,a.eval x))=vs) {cells:Array Value} (hb:(Instr.build t vs).run Tryz.prog W=.ok (.agg cells) W) (h:K (a.put o.dst (.agg cells)) W):o.wp Tryz.prog a W K Q:=by
  subst he;unfold Oper.wp execOp;simp only [ho,Sem.run_bind,hb,Result.andThen_ok];exact h
theorem jf.built (hgd:o.guard=none) (t:TypeId) (parts:Array (Nat×Operand)) (ho:o.op=.build t parts) (vs:Array (Nat×Value)) (he:(parts.map fun (i,x)=>(i,a.eval x))=vs) {cells:Array Value} (hb:(Instr.build t vs).run Tryz.prog W=.ok (.agg cells) W) (h:wpList Tryz.prog ops Q rest (a.put o.dst (.agg cells)) W):wpList Tryz.prog ops Q (o :: rest) a W:=
  wpList_plain hgd fun _ hK=>jf.wp_built t parts ho vs he hb (hK _ _ h)
theorem jf.wp_store8 (ty:TypeId) (x y:Operand) (ho:o.op=.store ty x y) {g off n:Nat} {t:TypeId} {cs us l:List Int} (hx:a.eval x=.pointer (some ⟨g,off,none⟩)) (hy:a.eval y=.agg (jA.pv l)) (hc:off+n≤cs.length) (hl:l.length=n) (hi:(Tryz.prog.info? ty).map (·.size)=some n) (hb:W.heap[g]?=some (.cells (bd cs us) t (0,0)))
    (h:∀ W',W'.heap[g]?=some (.cells (bd (cs.take off ++ l ++ cs.drop (off+n)) us) t (0,0))→Ch g W W'→K (a.put o.dst undef) W'):Oper.wp Tryz.prog o a W K Q:=by
  have hsz:(jA.pv l).size=n:=by rw [jA.pv_size,hl]
  refine wp_store_mid _ x y ho g off (jA.pv l) hx hy (bd_thr hb _ _ (by rw [bd_size,hsz];omega)) (by rw [hi,hsz]) (jA.pv_one l) ?_;obtain ⟨cur',h1,h2,h3⟩:=yz (jA.pv l).toList off W (bd cs us) hb (by rw [Array.length_toList,hsz,bd_size];omega)
  have e:cur'=bd (cs.take off ++ l ++ cs.drop (off+n)) us:=by
    apply Array.toList_inj.1
    rw [h3];simp only [bd,bdl,jA.pv,List.length_map,List.map_append,List.map_take,List.map_drop,hl];rw [List.take_append_of_le_length (by simp;omega),List.drop_append_of_le_length (by simp;omega)];simp only [List.append_assoc]
  rw [e] at h1;exact h _ h1 ⟨fun k hk _=>yZ _ _ k hk,fun B w0 hB hb0=>below_setCells hB _ _ W hb0,(below_setCells (Nat.zero_le g) _ _ W (Below.refl 0 W)).size⟩
end
def jf.zc:List Int:=List.replicate 98 0
def jf.zu:List Int:=List.replicate 68 0
theorem jf.zc_len:jf.zc.length=98:=by decide
theorem jf.zu_len:jf.zu.length=68:=by decide
theorem jf.zero (W:World):(Instr.build 93 #[]).run Tryz.prog W=.ok (.agg (bd jf.zc jf.zu)) W:=run_build W 93 _ _ (by kernel_rfl)
def jf.c0 (cs:List Int):List Int:=(jf.zc.take 81 ++ (cs.drop 81).take 16 ++ jf.zc.drop 97).set 97 (cs.getD 97 0)
theorem jf.c0_len (cs:List Int) (h:cs.length=98):(jf.c0 cs).length=98:=by simp [jf.c0,jf.zc,h]
def jf.go (p:List Int):Nat→Nat→List Int→List Int→Option (List Int×List Int)
  | _,0,C,U=>some (C,U)
  | n,d+1,C,U=>(zW.f n (p.getD n 0) C U).bind fun r=>jf.go p (n+1) d r.1 r.2
def jf.f (cs:List Int):Option (List Int×List Int):=jf.go cs 0 81 (jf.c0 cs) jf.zu
set_option maxRecDepth 100000 in
set_option maxHeartbeats 16000000 in
theorem jf.new_calls (cs C U:List Int) (w:World) (hl:cs.length=98) (h:jf.f cs=some (C,U)):
    Calls Tryz.prog 45 #[.agg (jA.pv cs)] w fun e w'=>∃ g,e=.returned (.pointer (some ⟨g,0,none⟩))∧w.heap.size≤g∧w'.heap[g]?=some (.cells (bd C U) 93 (0,0))∧C.length=98∧U.length=68∧Below w.heap.size w w':=by
  have HH:=Aside0.mk h;clear h;have HZ:=Aside0.mk jf.zero;have B1:(w.alloc (Obj.cells (jA.pv cs) 28)).heap[w.heap.size]?=some (.cells (jA.pv cs) 28 (0,0)):=zG w _;have BB:Below w.heap.size w (w.alloc (Obj.cells (jA.pv cs) 28)):=jD (Below.refl _ _) _;go_enter Tryz.func45,Tryz.ntmps45;go_upto_region 1 with (fail);generalize w.alloc (Obj.cells (jA.pv cs) 28)=W at *;have K1:=Aside0.mk B1;have KB:=Aside0.mk BB;clear B1 BB;go_upto_region 2 with (first|((with_reducible refine jP (N:=6) rfl ?_);refine jf.built rfl 93 #[] rfl #[] (by (try simp only [List.map_toArray,List.map_nil]);first|done|rfl) (HZ.out _) ?_));have B2:=zG W (Obj.cells (bd jf.zc jf.zu) 93);have B1:=jG K1.out (Obj.cells (bd jf.zc jf.zu) 93);have BB:=jD KB.out (Obj.cells (bd jf.zc jf.zu) 93);have HG:=Aside0.mk KB.out.size;have HN:=Aside0.mk (Nat.ne_of_lt (jq K1.out));generalize W.heap.size=g at *;generalize W.alloc (Obj.cells (bd jf.zc jf.zu) 93)=W2 at *;clear K1 KB HZ;have K1:=Aside0.mk B1;have K2:=Aside0.mk B2;have KB:=Aside0.mk BB;clear B1 B2 BB;generalize hzc:jf.zc=zc at *;generalize hzu:jf.zu=zu at *
  have hzl:zc.length=98:=by rw [← hzc];exact jf.zc_len
  obtain ⟨sv0,hsv⟩:∃ sv0,sv0=cs.getD 97 0:=⟨_,rfl⟩
  have HSV:Aside0 (cs.getD 97 0=sv0):=⟨hsv.symm⟩
  have HC0:Aside0 (jf.c0 cs=(zc.take 81 ++ (cs.drop 81).take 16 ++ zc.drop 97).set 97 sv0):=⟨by rw [← hzc,hsv];rfl⟩
  clear hsv
  have HZU:Aside0 (jf.zu=zu):=⟨hzu⟩
  clear hzc hzu;go_cut [] (fun wx=>Aside0 (wx.heap[w.heap.size]?=some (.cells (jA.pv cs) 28 (0,0)))∧Aside0 (wx.heap[g]?=some (.cells (bd (jf.c0 cs) zu) 93 (0,0)))∧Aside0 (Below w.heap.size w wx))
  case first=>
    refine wp_region_held_drew (S:=fun _=>True) (by kernel_rfl) trivial (fun _=>?_);have n1:=Aside0.mk (jH K1.out);have n2:=Aside0.mk (jH K2.out);have nB:=Aside0.mk (zB KB.out);clear K1 K2 KB;have K1:=n1;have K2:=n2;have KB:=nB;clear n1 n2 nB;refine tk 0 ?_;refine tk 1 ?_;refine tk 2 ?_;refine tk 4 ?_;refine wpAnyH_ready (rs:=[3,5]) (by kernel_rfl) (by simp) ?_;refine AllReadyH.cons rfl (fun K hK=>?_) ?_
    · show (if Region.wanted ⟨some 11,.load 26 (.tmp 10),_,_,_,none⟩ _=true then Oper.wp _ ⟨some 11,.load 26 (.tmp 10),_,_,_,none⟩ _ _ _ _ else _)
      rw [if_pos (by rfl)];refine jA.wp_load 26 (.tmp 10) (off:=81) rfl rfl K1.out Tryz.underlying26 rfl jA.infoH (by omega) ?_;refine ko hK ?_;clear hK K;refine tk 6 ?_;refine tk 7 ?_;refine tk 8 ?_;refine wpAnyH_ready (rs:=[5,9]) (by kernel_rfl) (by simp) ?_;refine AllReadyH.cons rfl (fun K hK=>?_) ?_
      · show (if Region.wanted ⟨some 13,.load _ _,_,_,_,none⟩ _=true then Oper.wp _ ⟨some 13,.load _ _,_,_,_,none⟩ _ _ _ _ else _)
        have c97:=(jK K1.out 97).trans ((jA.pv_get cs 97 (by omega)).trans (by rw [HSV.out]));go_simp;clear c97;refine ko hK ?_;clear hK K;refine on1 9 (fun K hK=>?_);show (if Region.wanted ⟨none,.store 26 (.tmp 16) (.tmp 11),_,_,_,none⟩ _=true then Oper.wp _ ⟨none,.store 26 (.tmp 16) (.tmp 11),_,_,_,none⟩ _ _ _ _ else _);rw [if_pos (by rfl)];refine jf.wp_store8 26 (.tmp 16) (.tmp 11) rfl (off:=81) rfl rfl (by omega) (by simp;omega) jA.infoH K2.out ?_;intro W3 s1 s2;have n1:=Aside0.mk (s2.blk HN.out K1.out);have n2:=Aside0.mk s1;have nB:=Aside0.mk (s2.2.1 _ _ HG.out KB.out);clear K1 K2 KB s1 s2;have K1:=n1;have K2:=n2;have KB:=nB;clear n1 n2 nB;refine ko hK ?_;clear hK K;refine tk 10 ?_;refine tk 11 ?_;refine tk 12 ?_;refine on1 13 (fun K hK=>?_);show (if Region.wanted ⟨none,.store _ _ _,_,_,_,none⟩ _=true then Oper.wp _ ⟨none,.store _ _ _,_,_,_,none⟩ _ _ _ _ else _)
        have hml:(zc.take 81 ++ (cs.drop 81).take 16 ++ zc.drop (81+16)).length=98:=by simp;omega
        have d97:=(jK K2.out 97).trans (jA6 _ _ 97 (by omega));have f97:=jN K2.out 97;go_simp;have s1:=(zU K2.out 97 (.int .i8 sv0)).trans (by rw [jBK _ _ 97 _ (by omega)]);have s2:=Ch.set_of K2.out 97 (.int .i8 sv0);clear d97 f97;generalize (World.setCell _ ⟨g,97,none⟩ (.int .i8 sv0))=W5 at *;have n1:=Aside0.mk (s2.blk HN.out K1.out);have n2:=Aside0.mk s1;have nB:=Aside0.mk (s2.2.1 _ _ HG.out KB.out);clear K1 K2 KB s1 s2;have K1:=n1;have K2:=n2;have KB:=nB;clear n1 n2 nB;refine ko hK ?_;clear hK K;refine wpAnyH_done (by kernel_rfl) ?_ _;go_wp2;go_meet;exact ⟨K1,⟨by rw [HC0.out];exact K2.out⟩,KB⟩
      refine AllReadyH.cons rfl (fun K hK=>?_) AllReadyH.nil;show (if Region.wanted ⟨none,.store 26 (.tmp 16) (.tmp 11),_,_,_,none⟩ _=true then Oper.wp _ ⟨none,.store 26 (.tmp 16) (.tmp 11),_,_,_,none⟩ _ _ _ _ else _);rw [if_pos (by rfl)];refine jf.wp_store8 26 (.tmp 16) (.tmp 11) rfl (off:=81) rfl rfl (by omega) (by simp;omega) jA.infoH K2.out ?_;intro W3 s1 s2;have n1:=Aside0.mk (s2.blk HN.out K1.out);have n2:=Aside0.mk s1;have nB:=Aside0.mk (s2.2.1 _ _ HG.out KB.out);clear K1 K2 KB s1 s2;have K1:=n1;have K2:=n2;have KB:=nB;clear n1 n2 nB;refine ko hK ?_;clear hK K;refine on1 5 (fun K hK=>?_);show (if Region.wanted ⟨some 13,.load _ _,_,_,_,none⟩ _=true then Oper.wp _ ⟨some 13,.load _ _,_,_,_,none⟩ _ _ _ _ else _);have c97:=(jK K1.out 97).trans ((jA.pv_get cs 97 (by omega)).trans (by rw [HSV.out]));go_simp;clear c97;refine ko hK ?_;clear hK K;refine tk 10 ?_;refine tk 11 ?_;refine tk 12 ?_;refine on1 13 (fun K hK=>?_);show (if Region.wanted ⟨none,.store _ _ _,_,_,_,none⟩ _=true then Oper.wp _ ⟨none,.store _ _ _,_,_,_,none⟩ _ _ _ _ else _)
      have hml:(zc.take 81 ++ (cs.drop 81).take 16 ++ zc.drop (81+16)).length=98:=by simp;omega
      have d97:=(jK K2.out 97).trans (jA6 _ _ 97 (by omega));have f97:=jN K2.out 97;go_simp;have s1:=(zU K2.out 97 (.int .i8 sv0)).trans (by rw [jBK _ _ 97 _ (by omega)]);have s2:=Ch.set_of K2.out 97 (.int .i8 sv0);clear d97 f97;generalize (World.setCell _ ⟨g,97,none⟩ (.int .i8 sv0))=W5 at *;have n1:=Aside0.mk (s2.blk HN.out K1.out);have n2:=Aside0.mk s1;have nB:=Aside0.mk (s2.2.1 _ _ HG.out KB.out);clear K1 K2 KB s1 s2;have K1:=n1;have K2:=n2;have KB:=nB;clear n1 n2 nB;refine ko hK ?_;clear hK K;refine wpAnyH_done (by kernel_rfl) ?_ _;go_wp2;go_meet;exact ⟨K1,⟨by rw [HC0.out];exact K2.out⟩,KB⟩
    refine AllReadyH.cons rfl (fun K hK=>?_) AllReadyH.nil;show (if Region.wanted ⟨some 13,.load _ _,_,_,_,none⟩ _=true then Oper.wp _ ⟨some 13,.load _ _,_,_,_,none⟩ _ _ _ _ else _);have c97:=(jK K1.out 97).trans ((jA.pv_get cs 97 (by omega)).trans (by rw [HSV.out]));go_simp;clear c97;refine ko hK ?_;clear hK K;refine on1 3 (fun K hK=>?_);show (if Region.wanted ⟨some 11,.load 26 (.tmp 10),_,_,_,none⟩ _=true then Oper.wp _ ⟨some 11,.load 26 (.tmp 10),_,_,_,none⟩ _ _ _ _ else _);rw [if_pos (by rfl)];refine jA.wp_load 26 (.tmp 10) (off:=81) rfl rfl K1.out Tryz.underlying26 rfl jA.infoH (by omega) ?_;refine ko hK ?_;clear hK K;refine tk 6 ?_;refine tk 7 ?_;refine tk 8 ?_;refine on1 9 (fun K hK=>?_);show (if Region.wanted ⟨none,.store 26 (.tmp 16) (.tmp 11),_,_,_,none⟩ _=true then Oper.wp _ ⟨none,.store 26 (.tmp 16) (.tmp 11),_,_,_,none⟩ _ _ _ _ else _);rw [if_pos (by rfl)];refine jf.wp_store8 26 (.tmp 16) (.tmp 11) rfl (off:=81) rfl rfl (by omega) (by simp;omega) jA.infoH K2.out ?_;intro W3 s1 s2;have n1:=Aside0.mk (s2.blk HN.out K1.out);have n2:=Aside0.mk s1;have nB:=Aside0.mk (s2.2.1 _ _ HG.out KB.out);clear K1 K2 KB s1 s2;have K1:=n1;have K2:=n2;have KB:=nB;clear n1 n2 nB;refine ko hK ?_;clear hK K;refine tk 10 ?_;refine tk 11 ?_;refine tk 12 ?_;refine on1 13 (fun K hK=>?_);show (if Region.wanted ⟨none,.store _ _ _,_,_,_,none⟩ _=true then Oper.wp _ ⟨none,.store _ _ _,_,_,_,none⟩ _ _ _ _ else _)
    have hml:(zc.take 81 ++ (cs.drop 81).take 16 ++ zc.drop (81+16)).length=98:=by simp;omega
    have d97:=(jK K2.out 97).trans (jA6 _ _ 97 (by omega));have f97:=jN K2.out 97;go_simp;have s1:=(zU K2.out 97 (.int .i8 sv0)).trans (by rw [jBK _ _ 97 _ (by omega)]);have s2:=Ch.set_of K2.out 97 (.int .i8 sv0);clear d97 f97;generalize (World.setCell _ ⟨g,97,none⟩ (.int .i8 sv0))=W5 at *;have n1:=Aside0.mk (s2.blk HN.out K1.out);have n2:=Aside0.mk s1;have nB:=Aside0.mk (s2.2.1 _ _ HG.out KB.out);clear K1 K2 KB s1 s2;have K1:=n1;have K2:=n2;have KB:=nB;clear n1 n2 nB;refine ko hK ?_;clear hK K;refine wpAnyH_done (by kernel_rfl) ?_ _;go_wp2;go_meet;exact ⟨K1,⟨by rw [HC0.out];exact K2.out⟩,KB⟩
  case rest=>
    clear K1 K2 KB;obtain ⟨K1,K2,KB⟩:=hcut;have hc0l:=jf.c0_len cs hl
    have hzul:zu.length=68:=by rw [← HZU.out];exact jf.zu_len
    have HR0:Aside0 (jf.go cs 0 81 (jf.c0 cs) zu=some (C,U)):=⟨by rw [← HZU.out];exact HH.out⟩
    generalize jf.c0 cs=c0 at *;clear HC0 HZU HH
    obtain ⟨bs,hbs⟩:∃ bs,bs=(cs.drop 0).take 81:=⟨_,rfl⟩
    have hbl:bs.length=81:=by rw [hbs];simp;omega
    have HBG:Aside0 (∀ n,n < 81→bs.getD n 0=cs.getD n 0):=⟨fun n hn=>by rw [hbs,List.drop_zero];simp only [List.getD_eq_getElem?_getD,List.getElem?_take_of_lt hn]⟩
    have HBS:=Aside0.mk hbs;clear hbs
    go_wp2_with (first|((with_reducible refine jP (N:=21) rfl ?_);refine jA.load rfl 24 (.tmp 20) rfl rfl K1.out Tryz.underlying24 rfl jA.infoB (by omega) ?_;rw [← HBS.out]))
    clear HBS
    go_loopg [22] 82 (fun gf s22 wx=>∃ (n:Nat) (c u:List Int),s22=.int .i64 n∧n≤81∧c.length=98∧u.length=68∧Aside0 (jf.go cs n (81 - n) c u=some (C,U))∧Aside0 (wx.heap[w.heap.size]?=some (.cells (jA.pv cs) 28 (0,0)))∧Aside0 (wx.heap[g]?=some (.cells (bd c u) 93 (0,0)))∧Aside0 (Below w.heap.size w wx)∧82≤gf+n)
    case atStart=>exact ⟨0,c0,zu,rfl,by omega,hc0l,hzul,HR0,K1,K2,KB,by omega⟩
    case round=>
      clear K1 K2 KB HR0;obtain ⟨n,c,u,rfl,hn,hcl,hul,HR,K1,K2,KB,hgf⟩:=hrel
      by_cases hend:n=81
      · subst hend
        have e:=HR.out;have er:(c,u)=(C,U):=Option.some.inj e;simp only [Prod.mk.injEq] at er;obtain ⟨rfl,rfl⟩:=er;clear e HR;go_wp2;go_ret;exact ⟨g,rfl,HG.out,K2.out,hcl,hul,KB.out⟩
      · obtain ⟨d,hd⟩:∃ d,81 - n=d+1:=⟨80 - n,by omega⟩
        have e:=HR.out;rw [hd] at e;unfold jf.go at e;obtain ⟨⟨c2,u2⟩,hp,e2⟩:=Option.bind_eq_some_iff.mp e
        have hn81:n < 81:=by omega
        rw [← HBG.out n hn81] at hp;have HP:=Aside0.mk hp;have b0:decide ((n:Int) < 81)=true:=decide_eq_true (by omega);have b1:(0≤(n:Int)∧(n:Int) < 81)=True:=eq_true (by omega);have b3:((n:Int) < 81)=True:=eq_true (by omega);have hix:∀ W,(Instr.index 24 (.agg (jA.pv bs)) (.int .i64 (n:Int))).run Tryz.prog W=.ok (.int .i8 (bs.getD n 0)) W:=fun W=>jA.index 24 23 81 n bs W Tryz.underlying24 (by kernel_rfl) (by kernel_rfl) (by kernel_rfl) (by omega) (by omega)
        obtain ⟨x,hx⟩:∃ x,x=bs.getD n 0:=⟨_,rfl⟩
        rw [← hx] at hix HP;have ew:IntKind.i64.wrap ((n:Int)+1)=(n:Int)+1:=IntWalk.i64_in _ (by omega)
        have hd2:d=81 - (n+1):=by omega
        rw [hd2] at e2;have HE:=Aside0.mk e2
        obtain ⟨g',rfl⟩:∃ g',gk=g'+1:=⟨gk - 1,by omega⟩
        clear e hx hp HR hd hd2 e2
        go_wp2_with (first|(go_at_call 67;(with_reducible refine (zW.put_calls c u c2 u2 n g x _ hcl hul hn81 K2.out HP.out).mono ?_);rintro e w7 ⟨rfl,s1,hc2,hu2,s2⟩;have m1:=Aside0.mk (s2.blk HN.out K1.out);have m2:=Aside0.mk s1;have mB:=Aside0.mk (s2.2.1 _ _ HG.out KB.out);clear K1 K2 KB s1 s2;have K1:=m1;have K2:=m2;have KB:=mB;clear m1 m2 mB))
        go_roundg g'
        case measure=>omega
        case rel=>exact ⟨n+1,c2,u2,by simp,by omega,hc2,hu2,HE,K1,K2,KB,by omega⟩
def yt.f (a0:Int):Option (Int):=some (Int.tmod a0 9)
set_option maxHeartbeats 8000000 in
set_option maxRecDepth 100000 in
theorem yt.calls (a0:Int) (r:Int) (w:World) (h:yt.f a0=some r):
    Calls Tryz.prog 135 #[.int .i64 a0] w fun e w'=>e=.returned (.int .i64 r)∧Drawn0 w w':=by
  have H:(some (Int.tmod a0 9))=some r:=h;clear h;obtain rfl:=Option.some.inj H;go_enter Tryz.func135,Tryz.ntmps135;go_wp2;go_ret;exact ⟨by first|rfl|(simp;done)|(simp [*];done),by repeat (first|exact Drawn0.refl _|apply Drawn0.step)⟩
def zX.j0:Nat→Int→Int→Bool→Option (Int)
  | 0,_,_,_=>none
  | k+1,x0,x1,x5=>if x5=true then (some (-1)) else (if x0=0 then ((yt.f x1).bind fun t122=>(some t122)) else (if x0=1 then ((yt.f x1).bind fun t123=>(some (wrap64 (8 - t123)))) else (some (-1))))
def zX.f (k:Nat) (a0:Int) (a1:Int):Option (Int):=if a1 < 0 then (zX.j0 k a0 a1 true) else (zX.j0 k a0 a1 (decide (a1≥81)))
theorem zX.mono_l:∀ k,(∀ y0 y1 y2,LeO (zX.j0 k y0 y1 y2) (zX.j0 (k+1) y0 y1 y2))
  | 0=>fun _ _ _ r h=>by simp [zX.j0] at h
  | k+1=>by
    have ih0:=zX.mono_l k
    · intro y0 y1 y2
      unfold zX.j0
      repeat' first
      | (with_reducible exact ih0 _ _ _)
      | (with_reducible exact LeO.refl _)
      | (with_reducible exact LeO.none _)
      | (with_reducible refine LeO.ite ?_ ?_)
      | (with_reducible refine LeO.bind ?_ (fun _=>?_))
      | exact ih0 _ _ _
      | exact LeO.none _
      | refine LeO.ite ?_ ?_
      | refine LeO.bind ?_ (fun _=>?_)
theorem zX.mono:∀ a0 a1 k,LeO (zX.f k a0 a1) (zX.f (k+1) a0 a1):=by
  intro a0 a1 k;have ih0:=zX.mono_l k;unfold zX.f
  repeat' first
      | (with_reducible exact ih0 _ _ _)
      | (with_reducible exact LeO.refl _)
      | (with_reducible exact LeO.none _)
      | (with_reducible refine LeO.ite ?_ ?_)
      | (with_reducible refine LeO.bind ?_ (fun _=>?_))
      | exact ih0 _ _ _
      | exact LeO.none _
      | refine LeO.ite ?_ ?_
      | refine LeO.bind ?_ (fun _=>?_)
set_option maxHeartbeats 8000000 in
set_option maxRecDepth 100000 in
theorem zX.calls (k:Nat) (a0:Int) (a1:Int) (r:Int) (w:World) (h:zX.f k a0 a1=some r):
    Calls Tryz.prog 117 #[.int .i64 a0,.int .i64 a1] w fun e w'=>e=.returned (.int .i64 r)∧Drawn0 w w':=by
  have H:(if a1 < 0 then (zX.j0 k a0 a1 true) else (zX.j0 k a0 a1 (decide (a1≥81))))=some r:=h;clear h;have HC3:=Aside0.mk H;clear H;go_enter Tryz.func117,Tryz.ntmps117;go_upto_region 1 with (fail);go_cut [5] (fun v5 wc=>∃ (kq:Nat) (x5_2:Bool),v5=.bool x5_2∧Aside0 (zX.j0 kq a0 a1 x5_2=some r)∧Aside0 (kq≤k)∧Drawn0 w wc)
  case first=>
    have H:=HC3.out;clear HC3
    by_cases c4:a1 < 0
    · rw [if_pos c4] at H
      have c4b0:decide (a1 < 0)=true:=decide_eq_true c4;clear c4
      (first|rw [c4b0]|(simp only [zI,zV];rw [c4b0])|skip)
      have H':=Aside0.mk H;clear H;go_wp2;go_meet
      case rel=>exact ⟨_,(true),(by first|rfl|(simp;done)|(simp [*];done)),H',⟨by first|omega|exact Nat.le_refl _⟩,by repeat (first|exact Drawn0.refl _|apply Drawn0.step)⟩
    · rw [if_neg c4] at H
      have c4b0:decide (a1 < 0)=false:=decide_eq_false c4;clear c4
      (first|rw [c4b0]|(simp only [zI,zV];rw [c4b0])|skip)
      have H':=Aside0.mk H;clear H;go_wp2;go_meet
      case rel=>exact ⟨_,(decide (a1≥81)),(by first|rfl|(simp;done)|(simp [*];done)),H',⟨by first|omega|exact Nat.le_refl _⟩,by repeat (first|exact Drawn0.refl _|apply Drawn0.step)⟩
  case rest=>
    clear HC3
    try clear c1
    try clear p2
    try clear c4
    try clear c4b0
    obtain ⟨kq,x5_2,rfl,HA,HJ2,⟨mc2,rfl⟩⟩:=hcut
    cases kq with
    | zero=>exact absurd HA.out (by simp [zX.j0])
    | succ kj2=>
      have H:=HA.out;clear HA;simp only [zX.j0] at H
      by_cases c5:x5_2=true
      · subst c5
        have H1:(some (-1))=some r:=by rw [if_pos rfl] at H;exact H
        clear H;have H:=H1;clear H1;obtain rfl:=Option.some.inj H;go_wp2;go_ret;exact ⟨by first|rfl|(simp;done)|(simp [*];done),by repeat (first|exact Drawn0.refl _|apply Drawn0.step)⟩
      · replace c5:=Bool.eq_false_iff.mpr c5
        subst c5
        have H1:(if a0=0 then ((yt.f a1).bind fun t122=>(some t122)) else (if a0=1 then ((yt.f a1).bind fun t123=>(some (wrap64 (8 - t123)))) else (some (-1))))=some r:=by rw [if_neg (show ¬ (false=true) by decide)] at H;exact H
        clear H;have H:=H1;clear H1
        by_cases c6:a0=0
        · rw [if_pos c6] at H
          have c6b0:(a0==0)=true:=beq_iff_eq.mpr c6;have c6b1:(a0 != 0)=false:=bne_eq_false_iff_eq.mpr c6;clear c6;replace H:=Option.bind_eq_some_iff.mp H;obtain ⟨t122,A70,H⟩:=H;replace H:(some t122)=some r:=H;have A7:=Aside0.mk A70;clear A70;obtain rfl:=Option.some.inj H
          go_wp2_with (first|((with_reducible refine jX (f:=135) rfl ?_);refine j8 (some 16) rfl rfl Tryz.func135 (by kernel_rfl) rfl #[.int .i64 a1] rfl (by (try simp only [List.map_toArray,List.map_cons,List.map_nil]);first|done|rfl|(simp only [List.length_drop,List.length_take];rfl)) ?_;(with_reducible refine (yt.calls a1 t122 _ A7.out).mono ?_);rintro e w' ⟨rfl,⟨nd,rfl⟩⟩;refine ⟨_,rfl,?_⟩))
          go_ret;exact ⟨by first|rfl|(simp;done)|(simp [*];done),by repeat (first|exact Drawn0.refl _|apply Drawn0.step)⟩
        · rw [if_neg c6] at H
          have c6b0:(a0==0)=false:=beq_eq_false_iff_ne.mpr c6;have c6b1:(a0 != 0)=true:=bne_iff_ne.mpr c6
          by_cases c8:a0=1
          · rw [if_pos c8] at H
            have c8b0:(a0==1)=true:=beq_iff_eq.mpr c8;have c8b1:(a0 != 1)=false:=bne_eq_false_iff_eq.mpr c8;clear c8;replace H:=Option.bind_eq_some_iff.mp H;obtain ⟨t123,A90,H⟩:=H;replace H:(some (wrap64 (8 - t123)))=some r:=H;have A9:=Aside0.mk A90;clear A90;obtain rfl:=Option.some.inj H
            go_wp2_with (first|((with_reducible refine jX (f:=135) rfl ?_);refine j8 (some 21) rfl rfl Tryz.func135 (by kernel_rfl) rfl #[.int .i64 a1] rfl (by (try simp only [List.map_toArray,List.map_cons,List.map_nil]);first|done|rfl|(simp only [List.length_drop,List.length_take];rfl)) ?_;(with_reducible refine (yt.calls a1 t123 _ A9.out).mono ?_);rintro e w' ⟨rfl,⟨nd,rfl⟩⟩;refine ⟨_,rfl,?_⟩))
            go_ret;exact ⟨by first|rfl|(simp;done)|(simp [*];done),by repeat (first|exact Drawn0.refl _|apply Drawn0.step)⟩
          · rw [if_neg c8] at H
            have c8b0:(a0==1)=false:=beq_eq_false_iff_ne.mpr c8;have c8b1:(a0 != 1)=true:=bne_iff_ne.mpr c8;obtain rfl:=Option.some.inj H;go_wp2;go_ret;exact ⟨by first|rfl|(simp;done)|(simp [*];done),by repeat (first|exact Drawn0.refl _|apply Drawn0.step)⟩
def zH.j0:Nat→Int→Int→Bool→Option (Bool)
  | 0,_,_,_=>none
  | k+1,x5,x11,x12=>if x12=true then (some (x5==0)) else (if x11=3 then (if x5=0 then (some true) else (some (x5==1))) else (some false))
def zH.f (k:Nat) (a0:Int) (a1:Int):Option (Bool):=(jn.f k a0).bind fun t124=>((zX.f k t124 a1).bind fun t125=>((jW.f k a0).bind fun t126=>(if t126=1 then (zH.j0 k t125 t126 (t126==1)) else (zH.j0 k t125 t126 (t126==2)))))
theorem zH.mono_l:∀ k,(∀ y0 y1 y2,LeO (zH.j0 k y0 y1 y2) (zH.j0 (k+1) y0 y1 y2))
  | 0=>fun _ _ _ r h=>by simp [zH.j0] at h
  | k+1=>by
    have ih0:=zH.mono_l k
    · intro y0 y1 y2
      unfold zH.j0
      repeat' first
      | (with_reducible exact ih0 _ _ _)
      | (with_reducible exact jW.mono _ _)
      | (with_reducible exact jn.mono _ _)
      | (with_reducible exact zX.mono _ _ _)
      | (with_reducible exact LeO.refl _)
      | (with_reducible exact LeO.none _)
      | (with_reducible refine LeO.ite ?_ ?_)
      | (with_reducible refine LeO.bind ?_ (fun _=>?_))
      | exact ih0 _ _ _
      | exact jW.mono _ _
      | exact jn.mono _ _
      | exact zX.mono _ _ _
      | exact LeO.none _
      | refine LeO.ite ?_ ?_
      | refine LeO.bind ?_ (fun _=>?_)
theorem zH.mono:∀ a0 a1 k,LeO (zH.f k a0 a1) (zH.f (k+1) a0 a1):=by
  intro a0 a1 k;have ih0:=zH.mono_l k;unfold zH.f
  repeat' first
      | (with_reducible exact ih0 _ _ _)
      | (with_reducible exact jW.mono _ _)
      | (with_reducible exact jn.mono _ _)
      | (with_reducible exact zX.mono _ _ _)
      | (with_reducible exact LeO.refl _)
      | (with_reducible exact LeO.none _)
      | (with_reducible refine LeO.ite ?_ ?_)
      | (with_reducible refine LeO.bind ?_ (fun _=>?_))
      | exact ih0 _ _ _
      | exact jW.mono _ _
      | exact jn.mono _ _
      | exact zX.mono _ _ _
      | exact LeO.none _
      | refine LeO.ite ?_ ?_
      | refine LeO.bind ?_ (fun _=>?_)
set_option maxHeartbeats 8000000 in
set_option maxRecDepth 100000 in
theorem zH.calls (k:Nat) (a0:Int) (a1:Int) (r:Bool) (w:World) (h:zH.f k a0 a1=some r):
    Calls Tryz.prog 90 #[.int .i8 a0,.int .i64 a1] w fun e w'=>e=.returned (.bool r)∧Drawn0 w w':=by
  have H:((jn.f k a0).bind fun t124=>((zX.f k t124 a1).bind fun t125=>((jW.f k a0).bind fun t126=>(if t126=1 then (zH.j0 k t125 t126 (t126==1)) else (zH.j0 k t125 t126 (t126==2))))))=some r:=h;clear h;replace H:=Option.bind_eq_some_iff.mp H;obtain ⟨t124,A30,H⟩:=H;replace H:((zX.f k t124 a1).bind fun t125=>((jW.f k a0).bind fun t126=>(if t126=1 then (zH.j0 k t125 t126 (t126==1)) else (zH.j0 k t125 t126 (t126==2)))))=some r:=H;have A3:=Aside0.mk A30;clear A30;replace H:=Option.bind_eq_some_iff.mp H;obtain ⟨t125,A40,H⟩:=H;replace H:((jW.f k a0).bind fun t126=>(if t126=1 then (zH.j0 k t125 t126 (t126==1)) else (zH.j0 k t125 t126 (t126==2))))=some r:=H;have A4:=Aside0.mk A40;clear A40;replace H:=Option.bind_eq_some_iff.mp H;obtain ⟨t126,A50,H⟩:=H;replace H:(if t126=1 then (zH.j0 k t125 t126 (t126==1)) else (zH.j0 k t125 t126 (t126==2)))=some r:=H;have A5:=Aside0.mk A50;clear A50;have HC6:=Aside0.mk H;clear H;go_enter Tryz.func90,Tryz.ntmps90
  go_upto_if 12 with (first|((with_reducible refine jX (f:=48) rfl ?_);refine j8 (some 7) rfl rfl Tryz.func48 (by kernel_rfl) rfl #[.int .i8 a0] rfl (by (try simp only [List.map_toArray,List.map_cons,List.map_nil]);first|done|rfl|(simp only [List.length_drop,List.length_take];rfl)) ?_;(with_reducible refine (jn.calls k a0 t124 _ A3.out).mono ?_);rintro e w' ⟨rfl,⟨nd,rfl⟩⟩;refine ⟨_,rfl,?_⟩)|((with_reducible refine jX (f:=117) rfl ?_);refine j8 (some 9) rfl rfl Tryz.func117 (by kernel_rfl) rfl #[.int .i64 t124,.int .i64 a1] rfl (by (try simp only [List.map_toArray,List.map_cons,List.map_nil]);first|done|rfl|(simp only [List.length_drop,List.length_take];rfl)) ?_;(with_reducible refine (zX.calls k t124 a1 t125 _ A4.out).mono ?_);rintro e w' ⟨rfl,⟨nd,rfl⟩⟩;refine ⟨_,rfl,?_⟩)|((with_reducible refine jX (f:=24) rfl ?_);refine j8 (some 11) rfl rfl Tryz.func24 (by kernel_rfl) rfl #[.int .i8 a0] rfl (by (try simp only [List.map_toArray,List.map_cons,List.map_nil]);first|done|rfl|(simp only [List.length_drop,List.length_take];rfl)) ?_;(with_reducible refine (jW.calls k a0 t126 _ A5.out).mono ?_);rintro e w' ⟨rfl,⟨nd,rfl⟩⟩;refine ⟨_,rfl,?_⟩))
  (try simp only [Act.put,List.setIfInBounds_toArray,List.set_cons_zero,List.set_cons_succ])
  go_cut [12] (fun v12 wc=>∃ (kq:Nat) (x12_5:Bool),v12=.bool x12_5∧Aside0 (zH.j0 kq t125 t126 x12_5=some r)∧Aside0 (kq≤k)∧Drawn0 w wc)
  case first=>
    have H:=HC6.out;clear HC6
    by_cases c7:t126=1
    · rw [if_pos c7] at H
      have c7b0:(t126==1)=true:=beq_iff_eq.mpr c7;have c7b1:(t126 != 1)=false:=bne_eq_false_iff_eq.mpr c7;clear c7
      (first|rw [c7b0]|(simp only [zI,zV];rw [c7b0])|skip)
      have H':=Aside0.mk H;clear H;go_wp2;go_meet
      case rel=>exact ⟨_,((t126==1)),(by first|rfl|(simp;done)|(simp [*];done)),H',⟨by first|omega|exact Nat.le_refl _⟩,by repeat (first|exact Drawn0.refl _|apply Drawn0.step)⟩
    · rw [if_neg c7] at H
      have c7b0:(t126==1)=false:=beq_eq_false_iff_ne.mpr c7;have c7b1:(t126 != 1)=true:=bne_iff_ne.mpr c7
      (first|rw [c7b0]|(simp only [zI,zV];rw [c7b0])|skip)
      have H':=Aside0.mk H;clear H;go_wp2;go_meet
      case rel=>exact ⟨_,((t126==2)),(by first|rfl|(simp;done)|(simp [*];done)),H',⟨by first|omega|exact Nat.le_refl _⟩,by repeat (first|exact Drawn0.refl _|apply Drawn0.step)⟩
  case rest=>
    clear HC6
    try clear c1
    try clear c2
    try clear p2
    try clear c4
    try clear c7
    try clear c7b0
    try clear c7b1
    obtain ⟨kq,x12_5,rfl,HA,HJ5,⟨mc5,rfl⟩⟩:=hcut
    cases kq with
    | zero=>exact absurd HA.out (by simp [zH.j0])
    | succ kj5=>
      have H:=HA.out;clear HA;simp only [zH.j0] at H
      by_cases c8:x12_5=true
      · subst c8
        have H1:(some (t125==0))=some r:=by rw [if_pos rfl] at H;exact H
        clear H;have H:=H1;clear H1;obtain rfl:=Option.some.inj H;go_wp2;go_ret;exact ⟨by first|rfl|(simp;done)|(simp [*];done),by repeat (first|exact Drawn0.refl _|apply Drawn0.step)⟩
      · replace c8:=Bool.eq_false_iff.mpr c8
        subst c8
        have H1:(if t126=3 then (if t125=0 then (some true) else (some (t125==1))) else (some false))=some r:=by rw [if_neg (show ¬ (false=true) by decide)] at H;exact H
        clear H;have H:=H1;clear H1
        by_cases c9:t126=3
        · rw [if_pos c9] at H
          have c9b0:(t126==3)=true:=beq_iff_eq.mpr c9;have c9b1:(t126 != 3)=false:=bne_eq_false_iff_eq.mpr c9;clear c9
          by_cases c10:t125=0
          · rw [if_pos c10] at H
            have c10b0:(t125==0)=true:=beq_iff_eq.mpr c10;have c10b1:(t125 != 0)=false:=bne_eq_false_iff_eq.mpr c10;clear c10;obtain rfl:=Option.some.inj H;go_wp2;go_ret;exact ⟨by first|rfl|(simp;done)|(simp [*];done),by repeat (first|exact Drawn0.refl _|apply Drawn0.step)⟩
          · rw [if_neg c10] at H
            have c10b0:(t125==0)=false:=beq_eq_false_iff_ne.mpr c10;have c10b1:(t125 != 0)=true:=bne_iff_ne.mpr c10;obtain rfl:=Option.some.inj H;go_wp2;go_ret;exact ⟨by first|rfl|(simp;done)|(simp [*];done),by repeat (first|exact Drawn0.refl _|apply Drawn0.step)⟩
        · rw [if_neg c9] at H
          have c9b0:(t126==3)=false:=beq_eq_false_iff_ne.mpr c9;have c9b1:(t126 != 3)=true:=bne_iff_ne.mpr c9;obtain rfl:=Option.some.inj H;go_wp2;go_ret;exact ⟨by first|rfl|(simp;done)|(simp [*];done),by repeat (first|exact Drawn0.refl _|apply Drawn0.step)⟩
def sv (u v:Int):Array Value:=#[.int .u64 u,.int .u64 v]
theorem s2_zero (w:World):(zeroValue 88).run Tryz.prog w=.ok (.agg (sv 0 0)) w:=by
  have h:(Tryz.prog.info? 88).map (·.zero)=some (some (.agg (sv 0 0))):=by kernel_rfl
  cases hi:Tryz.prog.info? 88 with
  | none=>rw [hi] at h;cases h
  | some i=>
    rw [hi] at h
    have hz:i.zero=some (.agg (sv 0 0)):=by simpa using h
    simp [zeroValue,typeInfo,hi,hz]
section
variable {ops:Array Oper} {rest:List Oper} {o:Oper} {a:Act} {Q:Exit→Act→World→Prop} {W:World} {K:Act→World→Prop}
theorem s2_rng {W:World} {g:Nat} {u v:Int} {t:TypeId} (h:W.heap[g]?=some (.cells (sv u v) t (0,0))):W.rangeAt g 0 [.int .u64 u,.int .u64 v]:=fun j x hj=>by
  rw [jK h]
  match j,hj with
  | 0,hj=>obtain rfl:=Option.some.inj hj;rfl
  | 1,hj=>obtain rfl:=Option.some.inj hj;rfl
  | j+2,hj=>simp at hj
theorem yu (x:Operand) (ho:o.op=.load 88 x) {g:Nat} {t:TypeId} {u v:Int} (hx:a.eval x=.pointer (some ⟨g,0,none⟩)) (hb:W.heap[g]?=some (.cells (sv u v) t (0,0)))
    (h:K (a.put o.dst (.agg (sv u v))) W):Oper.wp Tryz.prog o a W K Q:=
  wp_load_mid _ x ho g 0 hx [.int .u64 u,.int .u64 v] _ (s2_rng hb) Tryz.underlying88 rfl bd_infoS h
theorem s2_load (hgd:o.guard=none) (x:Operand) (ho:o.op=.load 88 x) {g:Nat} {t:TypeId} {u v:Int} (hx:a.eval x=.pointer (some ⟨g,0,none⟩)) (hb:W.heap[g]?=some (.cells (sv u v) t (0,0)))
    (h:wpList Tryz.prog ops Q rest (a.put o.dst (.agg (sv u v))) W):wpList Tryz.prog ops Q (o :: rest) a W:=
  wpList_plain hgd fun _ hK=>yu x ho hx hb (hK _ _ h)
theorem yf (x y:Operand) (ho:o.op=.store 88 x y) {g:Nat} {t:TypeId} {C:Array Value} {u v:Int} (hx:a.eval x=.pointer (some ⟨g,0,none⟩)) (hy:a.eval y=.agg (sv u v)) (hC:C.size=2) (hb:W.heap[g]?=some (.cells C t (0,0)))
    (h:∀ W',W'.heap[g]?=some (.cells (sv u v) t (0,0))→Ch g W W'→K (a.put o.dst undef) W'):Oper.wp Tryz.prog o a W K Q:=by
  refine wp_store_mid _ x y ho g 0 (sv u v) hx hy (bd_thr hb _ _ (by rw [hC];exact Nat.le_refl _)) bd_infoS (by simp [sv,Value.oneCell']) ?_;obtain ⟨cur',h1,h2,h3⟩:=yz (sv u v).toList 0 W C hb (by rw [hC];exact Nat.le_refl _)
  have e:cur'=sv u v:=by
    apply Array.toList_inj.1
    rw [h3,List.take_zero,List.nil_append,List.drop_of_length_le (by rw [Array.length_toList,hC];exact Nat.le_refl _),List.append_nil]
  rw [e] at h1;exact h _ h1 ⟨fun k hk _=>yZ _ _ k hk,fun B w0 hB hb0=>below_setCells hB _ _ W hb0,(below_setCells (Nat.zero_le g) _ _ W (Below.refl 0 W)).size⟩
theorem jBA (hgd:o.guard=none) (x y:Operand) (ho:o.op=.store 88 x y) {g:Nat} {t:TypeId} {C:Array Value} {u v:Int} (hx:a.eval x=.pointer (some ⟨g,0,none⟩)) (hy:a.eval y=.agg (sv u v)) (hC:C.size=2) (hb:W.heap[g]?=some (.cells C t (0,0)))
    (h:∀ W',W'.heap[g]?=some (.cells (sv u v) t (0,0))→Ch g W W'→wpList Tryz.prog ops Q rest (a.put o.dst undef) W'):wpList Tryz.prog ops Q (o :: rest) a W:=
  wpList_plain hgd fun _ hK=>yf x y ho hx hy hC hb fun W' s1 s2=>hK _ _ (h W' s1 s2)
theorem bd_load (hgd:o.guard=none) (x:Operand) (ho:o.op=.load 88 x) {g i:Nat} {t:TypeId} {cs us:List Int} (hx:a.eval x=.pointer (some ⟨g,98+2 * i,none⟩)) (hc:cs.length=98) (hb:W.heap[g]?=some (.cells (bd cs us) t (0,0))) (hi:2 * i+1 < us.length)
    (h:wpList Tryz.prog ops Q rest (a.put o.dst (.agg (sv (bget us i).1 (bget us i).2))) W):wpList Tryz.prog ops Q (o :: rest) a W:=
  wpList_plain hgd fun _ hK=>yW x ho hx hc hb hi (hK _ _ h)
end
theorem jAF {fn:Func} {tmps:Array Value} {W:World} {g p:Nat} {t:TypeId} {u v:Int} (h:fn.results=#[.cell p 88]) (hp:tmps.getD p undef=.pointer (some ⟨g,0,none⟩)) (hb:W.heap[g]?=some (.cells (sv u v) t (0,0))):(results fn tmps).run Tryz.prog W=.ok (.agg (sv u v)) W:=
  results_cell_row (p:=p) (ty:=88) h _ _ g t (sv u v) (0,0) _ hp hb Tryz.underlying88 rfl bd_infoS
def zT.f (side kind:Int) (us:List Int):Option (Int×Int):=(zM.f side kind).bind fun x=>if x=0 then some (0,0) else if 0 < x∧x < 32 then some (bget us x.toNat) else none
set_option maxRecDepth 100000 in
set_option maxHeartbeats 16000000 in
theorem zT.of_calls (cs us:List Int) (side kind u v:Int) (g:Nat) (w:World) (hl:cs.length=98) (hul:us.length=68) (hb:w.heap[g]?=some (.cells (bd cs us) 93 (0,0))) (h:zT.f side kind us=some (u,v)):
    Calls Tryz.prog 91 #[.pointer (some ⟨g,0,none⟩),.int .i64 side,.int .i64 kind] w fun e w'=>e=.returned (.agg (sv u v))∧Below w.heap.size w w':=by
  have hz:=s2_zero;unfold zT.f at h;obtain ⟨x,h1,h2⟩:=Option.bind_eq_some_iff.mp h;have H1:=Aside0.mk h1;have H2:=Aside0.mk h2;clear h h1 h2
  have K1:Aside0 ((w.alloc (Obj.cells (sv 0 0) 88)).heap[g]?=some (.cells (bd cs us) 93 (0,0))):=⟨jG hb _⟩
  have K2:Aside0 ((w.alloc (Obj.cells (sv 0 0) 88)).heap[w.heap.size]?=some (.cells (sv 0 0) 88 (0,0))):=⟨zG w _⟩
  have HN:=Aside0.mk (Nat.ne_of_lt (jq hb))
  have KB:Aside0 (Below w.heap.size w (w.alloc (Obj.cells (sv 0 0) 88))):=⟨jD (Below.refl _ _) _⟩
  clear hb;go_enter Tryz.func91,Tryz.ntmps91;go_upto_region 1 with (fail);generalize w.alloc (Obj.cells (sv 0 0) 88)=W at *;have e2:=H2.out;clear H2
  by_cases h0:x=0
  · rw [if_pos h0] at e2
    have e3:=Option.some.inj e2;simp only [Prod.mk.injEq] at e3;obtain ⟨rfl,rfl⟩:=e3;clear e2
    have c0:(x==0)=true:=by simpa using h0
    have HZ:Aside0 (∀ W,(Instr.build 88 #[]).run Tryz.prog W=.ok (.agg (sv 0 0)) W):=⟨fun W=>run_build W 88 _ _ (by kernel_rfl)⟩
    go_wp2_with (first|(go_at_call 27;(with_reducible refine (zM.calls _ _ _ _ H1.out).mono ?_);rintro e w7 ⟨rfl,hd⟩;have hb:=hd.below;clear hd;have n1:=Aside0.mk (jB K1.out hb);have n2:=Aside0.mk (jB K2.out hb);have nB:=Aside0.mk (jE KB.out hb);clear K1 K2 KB hb;have K1:=n1;have K2:=n2;have KB:=nB;clear n1 n2 nB)|((with_reducible refine jP (N:=13) rfl ?_);refine jf.built rfl 88 #[] rfl #[] (by (try simp only [List.map_toArray,List.map_nil]);first|done|rfl) (HZ.out _) ?_)|((with_reducible refine jp (t:=88) (p:=6) (v:=.tmp 13) rfl ?_);refine jBA rfl (.tmp 6) (.tmp 13) rfl rfl rfl rfl K2.out ?_;intro W3 s1 s2;have n2:=Aside0.mk s1;have nB:=Aside0.mk (s2.2.1 _ _ (Nat.le_refl _) KB.out);clear K1 K2 KB s1 s2;have K2:=n2;have KB:=nB;clear n2 nB))
    refine bodyPost_ret (jAF (p:=6) rfl rfl K2.out) rfl ?_;exact ⟨rfl,KB.out⟩
  · rw [if_neg h0] at e2
    have c0:(x==0)=false:=by simpa using h0
    by_cases hx:0 < x∧x < 32
    case neg=>rw [if_neg hx] at e2;cases e2
    rw [if_pos hx] at e2
    obtain ⟨i,hi⟩:∃ i:Nat,x=(i:Int):=⟨x.toNat,by omega⟩
    subst hi;rw [Int.toNat_natCast] at e2;have e3:=Aside0.mk (Option.some.inj e2);clear e2
    have hi32:i < 32:=by omega
    have bi:(0≤(i:Int)∧(i:Int) < 32)=True:=eq_true (by omega);have bi2:((i:Int) < 32)=True:=eq_true (by omega)
    go_wp2_with (first|(go_at_call 27;(with_reducible refine (zM.calls _ _ _ _ H1.out).mono ?_);rintro e w7 ⟨rfl,hd⟩;have hb:=hd.below;clear hd;have n1:=Aside0.mk (jB K1.out hb);have n2:=Aside0.mk (jB K2.out hb);have nB:=Aside0.mk (jE KB.out hb);clear K1 K2 KB hb;have K1:=n1;have K2:=n2;have KB:=nB;clear n1 n2 nB)|((with_reducible refine jP (N:=19) rfl ?_);refine bd_load rfl (.tmp 18) rfl (i:=i) (by show Value.pointer (some ⟨g,98+i * 2,none⟩)=Value.pointer (some ⟨g,98+2 * i,none⟩);congr 3;omega) hl K1.out (by omega) ?_;rw [e3.out])|((with_reducible refine jp (t:=88) (p:=6) (v:=.tmp 19) rfl ?_);refine jBA rfl (.tmp 6) (.tmp 19) rfl rfl rfl rfl K2.out ?_;intro W3 s1 s2;have n2:=Aside0.mk s1;have nB:=Aside0.mk (s2.2.1 _ _ (Nat.le_refl _) KB.out);clear K1 K2 KB s1 s2;have K2:=n2;have KB:=nB;clear n2 nB))
    refine bodyPost_ret (jAF (p:=6) rfl rfl K2.out) rfl ?_;exact ⟨rfl,KB.out⟩
def zm.f (a0_0:Int) (a0_1:Int) (a1_0:Int) (a1_1:Int):Option (Int×Int):=some (Go.bits .and .u64 a0_0 a1_0,Go.bits .and .u64 a0_1 a1_1)
set_option maxHeartbeats 8000000 in
set_option maxRecDepth 100000 in
theorem zm.calls (a0_0:Int) (a0_1:Int) (a1_0:Int) (a1_1:Int) (r1:Int) (r2:Int) (w:World) (h:zm.f a0_0 a0_1 a1_0 a1_1=some (r1,r2)):
    Calls Tryz.prog 92 #[.agg #[.int .u64 a0_0,.int .u64 a0_1],.agg #[.int .u64 a1_0,.int .u64 a1_1]] w fun e w'=>e=.returned (.agg #[.int .u64 r1,.int .u64 r2])∧Below w.heap.size w w':=by
  have hu88:=Tryz.underlying88;have HB:=Aside0.mk (Below.refl w.heap.size w);have H:(some (Go.bits .and .u64 a0_0 a1_0,Go.bits .and .u64 a0_1 a1_1))=some (r1,r2):=h;clear h;simp only [Option.some.injEq,Prod.mk.injEq] at H;obtain ⟨rfl,rfl⟩:=H;go_enter Tryz.func92,Tryz.ntmps92
  go_wp2_with (first|((with_reducible refine jP (N:=2) rfl ?_);refine zC ?hg (N:=2) ?hd (cs:=#[.int .u64 a0_0,.int .u64 a0_1]) (t:=88) ?hr ?_;(case hd=>rfl);(case hg=>rfl);(case hr=>first|(go_simp;done)|(go_simp;rfl));intro gb127 hg w3 hbox hb;have n0_:=Aside0.mk (jE (by repeat (first|(with_reducible first|exact HB.out|apply jD|apply jC|apply jF)|exact HB.out)) hb);have n1_:=Aside0.mk (hbox);have n2_:=Aside0.mk ((by rw [hg];exact (jT (by repeat (first|(with_reducible first|exact HB.out|apply jD|apply jC|apply jF)|exact HB.out))):w.heap.size≤gb127));have n3_:=Aside0.mk ((by rw [hg];exact (jT (by repeat (first|(with_reducible first|exact HB.out|apply jD|apply jC|apply jF)|exact HB.out))):w.heap.size≤gb127));clear HB;have HB:=n0_;have BK127:=n1_;have GW127:=n2_;have GE127:=n3_;clear n0_ n1_ n2_ n3_;clear hb hbox hg)|((with_reducible refine jP (N:=3) rfl ?_);refine zC ?hg (N:=3) ?hd (cs:=#[.int .u64 a1_0,.int .u64 a1_1]) (t:=88) ?hr ?_;(case hd=>rfl);(case hg=>rfl);(case hr=>first|(go_simp;done)|(go_simp;rfl));intro gb128 hg w4 hbox hb;have n0_:=Aside0.mk (jB (g:=gb127) (o:=.cells #[.int .u64 a0_0,.int .u64 a0_1] 88 (0,0)) (by (with_reducible repeat (first|refine jI ?_ _|refine jH ?_|refine jG ?_ _));exact BK127.out) hb);have n1_:=Aside0.mk (jE (by repeat (first|(with_reducible first|exact HB.out|apply jD|apply jC|apply jF|refine jL ?_ GE127.out)|exact HB.out)) hb);have n2_:=Aside0.mk (hbox);have n3_:=Aside0.mk ((by rw [hg];exact (jT (by repeat (first|(with_reducible first|exact HB.out|apply jD|apply jC|apply jF|refine jL ?_ GE127.out)|exact HB.out))):w.heap.size≤gb128));have n4_:=Aside0.mk ((by rw [hg];exact (jT (by repeat (first|(with_reducible first|exact HB.out|apply jD|apply jC|apply jF|refine jL ?_ GE127.out)|exact HB.out))):w.heap.size≤gb128));have n5_:=Aside0.mk ((by rw [hg];exact Nat.ne_of_lt (jq (g:=gb127) (o:=.cells #[.int .u64 a0_0,.int .u64 a0_1] 88 (0,0)) (by (with_reducible repeat (first|refine jI ?_ _|refine jH ?_|refine jG ?_ _));exact BK127.out)):gb127≠gb128));have n6_:=Aside0.mk ((by rw [hg];exact Nat.ne_of_gt (jq (g:=gb127) (o:=.cells #[.int .u64 a0_0,.int .u64 a0_1] 88 (0,0)) (by (with_reducible repeat (first|refine jI ?_ _|refine jH ?_|refine jG ?_ _));exact BK127.out)):gb128≠gb127));clear BK127;clear HB;have BK127:=n0_;have HB:=n1_;have BK128:=n2_;have GW128:=n3_;have GE128:=n4_;have NB127_128:=n5_;have NB128_127:=n6_;clear n0_ n1_ n2_ n3_ n4_ n5_ n6_;clear hb hbox hg)|((with_reducible refine jP (N:=4) rfl ?_);refine zC ?hg (N:=4) ?hd (cs:=#[.int .u64 0,.int .u64 0]) (t:=88) ?hr ?_;(case hd=>rfl);(case hg=>rfl);(case hr=>first|(go_simp;done)|(go_simp;rfl));intro gb129 hg w5 hbox hb;have n0_:=Aside0.mk (jB (g:=gb127) (o:=.cells #[.int .u64 a0_0,.int .u64 a0_1] 88 (0,0)) (by (with_reducible repeat (first|refine jI ?_ _|refine jH ?_|refine jG ?_ _));exact BK127.out) hb);have n1_:=Aside0.mk (jB (g:=gb128) (o:=.cells #[.int .u64 a1_0,.int .u64 a1_1] 88 (0,0)) (by (with_reducible repeat (first|refine jI ?_ _|refine jH ?_|refine jG ?_ _));exact BK128.out) hb);have n2_:=Aside0.mk (jE (by repeat (first|(with_reducible first|exact HB.out|apply jD|apply jC|apply jF|refine jL ?_ GE127.out|refine jL ?_ GE128.out)|exact HB.out)) hb);have n3_:=Aside0.mk (hbox);have n4_:=Aside0.mk ((by rw [hg];exact (jT (by repeat (first|(with_reducible first|exact HB.out|apply jD|apply jC|apply jF|refine jL ?_ GE127.out|refine jL ?_ GE128.out)|exact HB.out))):w.heap.size≤gb129));have n5_:=Aside0.mk ((by rw [hg];exact (jT (by repeat (first|(with_reducible first|exact HB.out|apply jD|apply jC|apply jF|refine jL ?_ GE127.out|refine jL ?_ GE128.out)|exact HB.out))):w.heap.size≤gb129));have n6_:=Aside0.mk ((by rw [hg];exact Nat.ne_of_lt (jq (g:=gb127) (o:=.cells #[.int .u64 a0_0,.int .u64 a0_1] 88 (0,0)) (by (with_reducible repeat (first|refine jI ?_ _|refine jH ?_|refine jG ?_ _));exact BK127.out)):gb127≠gb129));have n7_:=Aside0.mk ((by rw [hg];exact Nat.ne_of_gt (jq (g:=gb127) (o:=.cells #[.int .u64 a0_0,.int .u64 a0_1] 88 (0,0)) (by (with_reducible repeat (first|refine jI ?_ _|refine jH ?_|refine jG ?_ _));exact BK127.out)):gb129≠gb127));have n8_:=Aside0.mk ((by rw [hg];exact Nat.ne_of_lt (jq (g:=gb128) (o:=.cells #[.int .u64 a1_0,.int .u64 a1_1] 88 (0,0)) (by (with_reducible repeat (first|refine jI ?_ _|refine jH ?_|refine jG ?_ _));exact BK128.out)):gb128≠gb129));have n9_:=Aside0.mk ((by rw [hg];exact Nat.ne_of_gt (jq (g:=gb128) (o:=.cells #[.int .u64 a1_0,.int .u64 a1_1] 88 (0,0)) (by (with_reducible repeat (first|refine jI ?_ _|refine jH ?_|refine jG ?_ _));exact BK128.out)):gb129≠gb128));clear BK127;clear BK128;clear HB;have BK127:=n0_;have BK128:=n1_;have HB:=n2_;have BK129:=n3_;have GW129:=n4_;have GE129:=n5_;have NB127_129:=n6_;have NB129_127:=n7_;have NB128_129:=n8_;have NB129_128:=n9_;clear n0_ n1_ n2_ n3_ n4_ n5_ n6_ n7_ n8_ n9_;clear hb hbox hg;have hnb6:=NB127_128.out;have hnc6:=NB128_127.out;have hnb7:=NB127_129.out;have hnc7:=NB129_127.out;have hcz8_0:w5.cell? ⟨gb127,0,none⟩=some (.int .u64 a0_0):=(jK BK127.out 0).trans rfl;have hcz8_1:w5.cell? ⟨gb127,1,none⟩=some (.int .u64 a0_1):=(jK BK127.out 1).trans rfl;have hfz8_0:=jN BK127.out 0;have hfz8_1:=jN BK127.out 1;have hnb9:=NB128_129.out;have hnc9:=NB129_128.out;have hcz10_0:w5.cell? ⟨gb128,0,none⟩=some (.int .u64 a1_0):=(jK BK128.out 0).trans rfl;have hcz10_1:w5.cell? ⟨gb128,1,none⟩=some (.int .u64 a1_1):=(jK BK128.out 1).trans rfl;have hfz10_0:=jN BK128.out 0;have hfz10_1:=jN BK128.out 1;have hcz11_0:w5.cell? ⟨gb129,0,none⟩=some (.int .u64 0):=(jK BK129.out 0).trans rfl;have hcz11_1:w5.cell? ⟨gb129,1,none⟩=some (.int .u64 0):=(jK BK129.out 1).trans rfl;have hfz11_0:=jN BK129.out 0;have hfz11_1:=jN BK129.out 1))
  refine bodyPost_ret (results_cell_row rfl _ _ gb129 88 #[.int .u64 (Go.bits .and .u64 a0_0 a1_0),.int .u64 (Go.bits .and .u64 a0_1 a1_1)] (0,0) _ rfl (by (with_reducible repeat (first|refine jI ?_ _|refine jH ?_|refine jG ?_ _));refine zJ (cs:=#[.int .u64 (Go.bits .and .u64 a0_0 a1_0),.int .u64 0]) ?_ 1 _ (by first|rfl|(simp [*];done));(with_reducible repeat (first|refine jI ?_ _|refine jH ?_|refine jG ?_ _));refine zJ (cs:=#[.int .u64 0,.int .u64 0]) ?_ 0 _ (by first|rfl|(simp [*];done));(with_reducible repeat (first|refine jI ?_ _|refine jH ?_|refine jG ?_ _));exact BK129.out) Tryz.underlying88 rfl (by kernel_rfl)) rfl ?_;exact ⟨by first|rfl|(simp [jR,jQ] <;> rfl)|(simp [*,jR,jQ] <;> rfl)|(simp [*,jR,jQ];generalize ByteArray.toList _=q_;cases q_ <;> rfl),by repeat (first|(with_reducible first|exact HB.out|apply jD|apply jC|apply jF|refine jL ?_ GE127.out|refine jL ?_ GE128.out|refine jL ?_ GE129.out)|exact HB.out)⟩
def zF.f (a0:Int) (a1:Int):Option (Int):=if a0 < 0 then (some (-1)) else (if a0 > 8 then (some (-1)) else (if a1 < 0 then (some (-1)) else (if a1 > 8 then (some (-1)) else (some (wrap64 ((wrap64 (9 * a0))+a1))))))
set_option maxHeartbeats 8000000 in
set_option maxRecDepth 100000 in
theorem zF.calls (a0:Int) (a1:Int) (r:Int) (w:World) (h:zF.f a0 a1=some r):
    Calls Tryz.prog 20 #[.int .i64 a0,.int .i64 a1] w fun e w'=>e=.returned (.int .i64 r)∧Drawn0 w w':=by
  have H:(if a0 < 0 then (some (-1)) else (if a0 > 8 then (some (-1)) else (if a1 < 0 then (some (-1)) else (if a1 > 8 then (some (-1)) else (some (wrap64 ((wrap64 (9 * a0))+a1)))))))=some r:=h;clear h
  by_cases c3:a0 < 0
  · rw [if_pos c3] at H
    have c3b0:decide (a0 < 0)=true:=decide_eq_true c3;clear c3;obtain rfl:=Option.some.inj H;go_enter Tryz.func20,Tryz.ntmps20;go_wp2;go_ret;exact ⟨by first|rfl|(simp;done)|(simp [*];done),by repeat (first|exact Drawn0.refl _|apply Drawn0.step)⟩
  · rw [if_neg c3] at H
    have c3b0:decide (a0 < 0)=false:=decide_eq_false c3;clear c3
    by_cases c4:a0 > 8
    · rw [if_pos c4] at H
      have c4b0:decide (8 < a0)=true:=decide_eq_true c4;clear c4;obtain rfl:=Option.some.inj H;go_enter Tryz.func20,Tryz.ntmps20;go_wp2;go_ret;exact ⟨by first|rfl|(simp;done)|(simp [*];done),by repeat (first|exact Drawn0.refl _|apply Drawn0.step)⟩
    · rw [if_neg c4] at H
      have c4b0:decide (8 < a0)=false:=decide_eq_false c4;clear c4
      by_cases c5:a1 < 0
      · rw [if_pos c5] at H
        have c5b0:decide (a1 < 0)=true:=decide_eq_true c5;clear c5;obtain rfl:=Option.some.inj H;go_enter Tryz.func20,Tryz.ntmps20;go_wp2;go_ret;exact ⟨by first|rfl|(simp;done)|(simp [*];done),by repeat (first|exact Drawn0.refl _|apply Drawn0.step)⟩
      · rw [if_neg c5] at H
        have c5b0:decide (a1 < 0)=false:=decide_eq_false c5;clear c5
        by_cases c6:a1 > 8
        · rw [if_pos c6] at H
          have c6b0:decide (8 < a1)=true:=decide_eq_true c6;clear c6;obtain rfl:=Option.some.inj H;go_enter Tryz.func20,Tryz.ntmps20;go_wp2;go_ret;exact ⟨by first|rfl|(simp;done)|(simp [*];done),by repeat (first|exact Drawn0.refl _|apply Drawn0.step)⟩
        · rw [if_neg c6] at H
          have c6b0:decide (8 < a1)=false:=decide_eq_false c6;clear c6;obtain rfl:=Option.some.inj H;go_enter Tryz.func20,Tryz.ntmps20;go_wp2;go_ret;exact ⟨by first|rfl|(simp;done)|(simp [*];done),by repeat (first|exact Drawn0.refl _|apply Drawn0.step)⟩
end Go.Proofs.YtigenhbmgpfffaaGreatDoor.Pa
