import Derived.Test.YtigenhbmgpfffaaGreatDoorB30
set_option maxRecDepth 100000
set_option maxHeartbeats 16000000
namespace Go.Proofs.YtigenhbmgpfffaaGreatDoor.Pa
open Go.RowKit Go.Proofs.YtigenhbmgpfffaaGreatDoorW.PrintWords Go.Proofs.YtigenhbmgpfffaaGreatDoorW.PrintLast Go.Proofs.YtigenhbmgpfffaaGreatDoorW.PrintMore
attribute [local go_sem] yE yC yM yL zo zn yD yB
set_option linter.unusedVariables false
set_option linter.unusedSimpArgs false
structure Env (w:World):Prop where
 tab:bits_TrailingZeros64.Tab w
 pow : Lib.TabIs Tryz.prog w "internal/strconv.uint64pow10" .u64 Lib.pow10Tab
 len:∃m,w.cell? ⟨2,0,none⟩=some (.int .i64 m)
 syn:∃ev,w.cell? ⟨0,0,none⟩=some ev/\(ev=.nilIface\/∃te pe,ev=.iface te pe)
 rng:∃ev,w.cell? ⟨1,0,none⟩=some ev/\(ev=.nilIface\/∃te pe,ev=.iface te pe)
theorem jB9 {w w':World} {p:Addr} {v:Value} (h:w.cell? p=some v) (hb:Below w.heap.size w w'):w'.cell? p=some v:=(hb.cell (World.block_lt_of_cell? w _ h)).trans h
theorem Env.below {w w':World} (h:Env w) (hb:Below w.heap.size w w'):Env w':=
 ⟨h.tab.below hb,(Lib.tabBelow_of_tabIs h.pow) w' hb,h.len.imp λ_ e=>jB9 e hb,h.syn.imp λ_ e=>⟨jB9 e.1 hb,e.2⟩,h.rng.imp λ_ e=>⟨jB9 e.1 hb,e.2⟩⟩
def jAG (s:ByteArray):Option Int:=match Lib.atoiAll s.data.toList with
 | .ok v=>some v
 | _=>none
theorem atoi_calls (s:ByteArray) (w:World) (he:Env w) (hs:s.size<=1000):
  Calls Tryz.prog 35 #[.string s] w λe w'=>(match jAG s with
   | some v=>e=.returned (.tuple #[.int .i64 v,.nilIface])
   | none=>∃v ev,e=.returned (.tuple #[.int .i64 v,ev])/\∃ty p,ev=.iface ty p)/\Below w.heap.size w w':=by
 have hbb:∀t,Below w.heap.size w (Lib.bytesWorld w 5 t):=λt=>Lib.bytesWorld_below w _ t;unfold jAG
 cases h:Lib.atoiAll s.data.toList
 ·rename_i v
  refine(Tryz.strconv_Atoi_ok s (by omega) v h w).mono ?_;rintro e w' ⟨rfl,hw⟩;refine⟨rfl,?_⟩
  rcases hw with rfl|⟨t,rfl⟩
  ·exact Below.refl _ _
  ·exact hbb t
 ·obtain⟨ev,hv,hev⟩:=he.syn
  refine(Tryz.strconv_Atoi_syntax s (by omega) h ev w hv hev).mono ?_;rintro e w' ⟨N,rfl,_,_,hb⟩;exact⟨⟨_,_,rfl,_,_,rfl⟩,hb⟩
 ·obtain⟨ev,hv,hev⟩:=he.rng
  refine(Tryz.strconv_Atoi_range s (by omega) h ev w hv hev).mono ?_;rintro e w' ⟨N,rfl,_,_,hb⟩;exact⟨⟨_,_,rfl,_,_,rfl⟩,hb⟩
theorem piece_le (sep:ByteArray):∀(k:Nat) (s p:ByteArray),p ∈ Lib.splitB sep 0 k s->p.size<=s.size
 | 0,s,p,hp=>by
  rw[Lib.splitB_zero] at hp;obtain rfl:=List.mem_singleton.1 hp;exact Nat.le_refl _
 | k+1,s,p,hp=>by
  unfold Lib.splitB at hp
  split at hp
  ·obtain rfl:=List.mem_singleton.1 hp
   exact Nat.le_refl _
  ·rcases List.mem_cons.1 hp with rfl|hp
   ·rw[ByteArray.size_extract]
    omega
   ·have:=piece_le sep k _ p hp
    rw[ByteArray.size_extract] at this;omega
theorem pv_store {ops:Array Oper} {rest:List Oper} {o:Oper} {a:Act} {Q:Exit->Act->World->Prop} {W:World} (hgd:o.guard=none) (ty:TypeId) (x y:Operand) (ho:o.op=.store ty x y) {g off n:Nat} {t:TypeId} {L l:List Int} (hx:a.eval x=.pointer (some ⟨g,off,none⟩)) (hy:a.eval y=.agg (jA.pv l)) (hc:off+n<=L.length) (hl:l.length=n) (hi:(Tryz.prog.info? ty).map (·.size)=some n) (hb:W.heap[g]?=some (.cells (jA.pv L) t (0,0)))
  (h:∀W',W'.heap[g]?=some (.cells (jA.pv (L.take off++l++L.drop (off+n))) t (0,0))->Ch g W W'->wpList Tryz.prog ops Q rest (a.put o.dst undef) W'):wpList Tryz.prog ops Q (o::rest) a W:=by
 have hsz:(jA.pv l).size=n:=by rw[jA.pv_size,hl]
 refine wpList_plain hgd λ_ hK=>wp_store_mid _ x y ho g off (jA.pv l) hx hy (bd_thr hb _ _ (by rw[jA.pv_size,jA.pv_size];omega)) (by rw[hi,hsz]) (jA.pv_one l) (hK _ _ ?_);obtain⟨cur',h1,h2,h3⟩:=yl (jA.pv l).toList off W (jA.pv L) hb (by rw[Array.length_toList,hsz,jA.pv_size];omega)
 have e:cur'=jA.pv (L.take off++l++L.drop (off+n)):=by
  apply Array.toList_inj.1
  rw[h3];simp only[jA.pv,List.length_map,List.map_append,List.map_take,List.map_drop,hl,List.append_assoc]
 rw[e] at h1;exact h _ h1 ⟨λk hk _=>yT _ _ k hk,λB w0 hB hb0=>below_setCells hB _ _ W hb0,(below_setCells (Nat.zero_le g) _ _ W (Below.refl 0 W)).size⟩
def jk.sp:ByteArray:=⟨#[32]⟩
def jk.zl:List Int:=List.replicate 98 0
def jk.bad (p1:ByteArray) (ok good:Bool):Bool:=!ok||(!good||(p1.toList != [98]&&p1.toList != [119]))
def jk.f (s:ByteArray):Option (List Int×Int×Int):=
 if 200<s.size then some (jk.zl,0,2) else if Lib.countB s jk.sp≠3 then some (jk.zl,0,70) else
 (jl.f ((Lib.splitB jk.sp 0 3 s).getD 0 ⟨#[]⟩)).bind λb=>(js.f ((Lib.splitB jk.sp 0 3 s).getD 2 ⟨#[]⟩)).bind λh=>
 if jk.bad ((Lib.splitB jk.sp 0 3 s).getD 1 ⟨#[]⟩) b.2 h.2=true then some (jk.zl,0,70) else
 match jAG ((Lib.splitB jk.sp 0 3 s).getD 3 ⟨#[]⟩) with
 | none=>some (jk.zl,0,70)
 | some v=>if(!(Lib.itoa v==((Lib.splitB jk.sp 0 3 s).getD 3 ⟨#[]⟩).toList))=true\/v<1\/9999<v then some (jk.zl,0,70) else
  (zR.f (b.1++h.1++[if(((Lib.splitB jk.sp 0 3 s).getD 1 ⟨#[]⟩).toList==[119])=true then 1 else 0])).bind λe=>
   if e=0 then some (b.1++h.1++[if(((Lib.splitB jk.sp 0 3 s).getD 1 ⟨#[]⟩).toList==[119])=true then 1 else 0],v,0) else some (jk.zl,0,e)
theorem jk.parse_calls (s:ByteArray) (cs:List Int) (number code:Int) (w:World) (henv:Env w) (hAR:∀s v,jAG s=some v->-9223372036854775808<=v/\v<=9223372036854775807) (h:jk.f s=some (cs,number,code)):
  Calls Tryz.prog 12 #[.string s] w λe w'=>e=.returned (.tuple #[.agg (jA.pv cs),.int .i64 number,.int .i64 code])/\cs.length=98/\Below w.heap.size w w':=by
 have H1:=qA h;have hz:=jAO (t:=28) (c:=jA.pv jk.zl) (by kernel_rfl)
 have HZB:Aside0 (∀W,(Instr.build 28 #[]).run Tryz.prog W=.ok (.agg (jA.pv jk.zl)) W):=⟨λW=>run_build W 28 _ _ (by kernel_rfl)⟩
 have i2:(w.alloc (Obj.cells (jA.pv jk.zl) 28)).heap[w.heap.size]?=some (.cells (jA.pv jk.zl) 28 (0,0)):=zJ w _;have i5:Below w.heap.size w (w.alloc (Obj.cells (jA.pv jk.zl) 28)):=ji (Below.refl _ _) _;have HENV:=qA henv;clear h henv;go_enter Tryz.func12,Tryz.ntmps12;go_upto_region 1 with(fail);have HZZ:=qA hz;clear hz;generalize (w.alloc (Obj.cells (jA.pv jk.zl) 28))=W at *;have K2:=qA i2;have KB:=qA i5;clear i2 i5
 have hzl:jk.zl.length=98:=by decide
 have e1:=H1.out;unfold jk.f at e1;clear H1
 have HZ97:Aside0 (jk.zl.drop 97=[0]):=⟨by decide⟩
 generalize hzle:jk.zl=zl at *;clear hzle
 by_cases h200:200<s.size
 ·rw[if_pos h200] at e1
  have er:=Option.some.inj e1;simp only[Prod.mk.injEq] at er;obtain⟨rfl,rfl,rfl⟩:=er;have t0:decide (200<(s.size:Int))=true:=decide_eq_true (by omega);have t0':(200<(s.size:Int))=True:=eq_true (by omega);have t0n:(200<s.size)=True:=eq_true h200;clear e1
  go_wp2_with (first|((with_reducible refine jG (N:=15) rfl ?_);refine jj.built rfl 28 #[] rfl #[] (by (try simp only[List.map_toArray,List.map_nil]);first|done|rfl) (HZB.out _) ?_)|((with_reducible refine jW (t:=28) (p:=2) (v:=.tmp 15) rfl ?_);refine jA.store rfl 28 (.tmp 2) (.tmp 15) rfl rfl rfl K2.out (by rw[jA.pv_size];exact hzl) hzl jA.infoP ?_;intro W4 s1 s2 s3;replace K2:=qA s1;replace KB:=qA (s2 w.heap.size w (Nat.le_refl _) KB.out);clear s1 s2 s3))
  refine bodyPost_ret (zO (p:=2) (u:=3) (v:=4) (ty:=28) rfl _ _ w.heap.size 28 (jA.pv zl) (0,0) _ rfl K2.out Tryz.underlying28 rfl (by rw[jA.infoP,jA.pv_size,hzl])) rfl ?_
  first|exact⟨rfl,hzl,KB.out⟩|exact⟨rfl,KB.out⟩
 ·rw[if_neg h200] at e1
  have t0:decide (200<(s.size:Int))=false:=decide_eq_false (by omega);have t0':(200<(s.size:Int))=False:=eq_false (by omega);have t0n:(200<s.size)=False:=eq_false h200;obtain⟨m,hm⟩:=(HENV.out.below KB.out).len
  obtain⟨N,hN⟩:∃N,N=Lib.countB s jk.sp:=⟨_,rfl⟩
  rw[<- hN] at e1;have HN:=qA hN;clear hN
  have hsl:s.size<4294967281:=by omega
  have HM:=qA hm;clear hm;go_upto_region 4 with(first|(go_at_call 16;refine(Tryz.strings_Split s ⟨#[32]⟩ m _ hsl HM.out (by decide)).mono ?_;rintro e w7 ⟨rfl,hw⟩;have hb:Below _ _ w7:=(by rw[hw];exact ji (Below.refl _ _) _);have n2:=qB K2 hb;have nB:=qS KB hb;have K5:Aside0 (w7.heap[W.heap.size]?=some (Obj.cells ((Lib.splitB ⟨#[32]⟩ 0 (Lib.countB s ⟨#[32]⟩) s).map Value.string).toArray 9)):=⟨by rw[hw];exact zJ _ _⟩;have HG5:=qA KB.out.size;clear K2 KB hb hw HM;have K2:=n2;have KB:=nB;clear n2 nB));rw[show Lib.countB s ⟨#[32]⟩=N from HN.out.symm] at K5 ⊢
  by_cases hN3:N≠3
  ·rw[if_pos hN3] at e1
   have er:=Option.some.inj e1;simp only[Prod.mk.injEq] at er;obtain⟨rfl,rfl,rfl⟩:=er;have tn:(((N+1:Nat):Int) != 4)=true:=bne_iff_ne.2 (by omega);have tn2:((N:Int)+1 != 4)=true:=bne_iff_ne.2 (by omega);clear e1
   go_wp2_with (first|((with_reducible refine jG (N:=21) rfl ?_);refine jj.built rfl 28 #[] rfl #[] (by (try simp only[List.map_toArray,List.map_nil]);first|done|rfl) (HZB.out _) ?_)|((with_reducible refine jW (t:=28) (p:=2) (v:=.tmp 21) rfl ?_);refine jA.store rfl 28 (.tmp 2) (.tmp 21) rfl rfl rfl K2.out (by rw[jA.pv_size];exact hzl) hzl jA.infoP ?_;intro W4 s1 s2 s3;replace K2:=qA s1;replace KB:=qA (s2 w.heap.size w (Nat.le_refl _) KB.out);clear s1 s2 s3))
   refine bodyPost_ret (zO (p:=2) (u:=3) (v:=4) (ty:=28) rfl _ _ w.heap.size 28 (jA.pv zl) (0,0) _ rfl K2.out Tryz.underlying28 rfl (by rw[jA.infoP,jA.pv_size,hzl])) rfl ?_
   first|exact⟨rfl,hzl,KB.out⟩|exact⟨rfl,KB.out⟩
  ·rw[if_neg hN3] at e1
   obtain rfl:N=3:=by omega
   have hlen:=Lib.splitB_all jk.sp (by decide) 0 3 s HN.out.symm;have hple:=piece_le jk.sp 3 s;have hsp:(⟨#[32]⟩:ByteArray)=jk.sp:=rfl;rw[hsp] at K5
   obtain⟨p0,p1,p2,p3,hP⟩:∃p0 p1 p2 p3,Lib.splitB jk.sp 0 3 s=[p0,p1,p2,p3]:=by
    match Lib.splitB jk.sp 0 3 s,hlen with
    | [a,b,c,d],_=>exact⟨a,b,c,d,rfl⟩
   rw[hP] at K5 e1 hple;have hp3:p3.size<=200:=Nat.le_trans (hple p3 (by simp)) (by omega);clear hple hlen hP hsp HN hN3;simp only[List.getD_cons_zero,List.getD_cons_succ] at e1;simp only[List.map_cons,List.map_nil] at K5;obtain⟨⟨b,ok⟩,hb,e2⟩:=Option.bind_eq_some_iff.mp e1;obtain⟨⟨h,good⟩,hh,e3⟩:=Option.bind_eq_some_iff.mp e2;have HBB:=qA hb;have HHH:=qA hh;have E3:=qA e3;clear e1 e2 e3 hb hh;generalize W.heap.size=g5 at *;have hz:=HZZ.out;have i2:=jI K2.out (Obj.cells (jA.pv zl) 28);have i5:=jI K5.out (Obj.cells (jA.pv zl) 28);have i6:=zJ w7 (Obj.cells (jA.pv zl) 28);have iB:=ji KB.out (Obj.cells (jA.pv zl) 28)
   have HN26:Aside0 (w.heap.size≠w7.heap.size):=⟨Nat.ne_of_lt (ju K2.out)⟩
   have HN56:Aside0 (g5≠w7.heap.size):=⟨Nat.ne_of_lt (ju K5.out)⟩
   have HG6:Aside0 (w.heap.size<=w7.heap.size):=⟨Nat.le_of_lt (ju K2.out)⟩
   go_upto_region 8 with(fail);clear hz HZZ;generalize w7.alloc (Obj.cells (jA.pv zl) 28)=W8 at *;generalize w7.heap.size=g6 at *;clear K2 K5 KB;have K2:=qA i2;have K5:=qA i5;have K6:=qA i6;have KB:=qA iB;clear i2 i5 i6 iB;have c50:W8.cell? ⟨g5,0,none⟩=some (.string p0):=jB K5.out 0;go_upto_region 9 with(first|(go_at_call 33;(with_reducible refine(jl.ranks_calls p0 b ok _ HBB.out).mono ?_);rintro e w8 ⟨rfl,hbl,hb⟩;replace K2:=qB K2 hb;replace K5:=qB K5 hb;replace K6:=qB K6 hb;replace KB:=qS KB hb;clear hb)|((with_reducible refine jW (t:=24) (p:=29) (v:=.tmp 27) rfl ?_);refine pv_store rfl 24 (.tmp 29) (.tmp 27) rfl (off:=0) rfl rfl (by omega) hbl jA.infoB K6.out ?_;intro W4 s1 s2;replace K2:=qA (s2.blk HN26.out K2.out);replace K5:=qA (s2.blk HN56.out K5.out);replace K6:=qA s1;replace KB:=qA (s2.2.1 _ _ HG6.out KB.out);clear s1 s2));clear c50
   obtain⟨L1,hL1⟩:∃L,L=zl.take 0++b++zl.drop (0+81):=⟨_,rfl⟩
   rw[<- hL1] at K6
   have hL1l:L1.length=98:=by rw[hL1];simp;omega
   have c52:W4.cell? ⟨g5,2,none⟩=some (.string p2):=jB K5.out 2;go_upto_region 10 with(first|(go_at_call 34;(with_reducible refine(js.hands_calls p2 h good _ HHH.out).mono ?_);rintro e w8 ⟨rfl,hhl,hb⟩;replace K2:=qB K2 hb;replace K5:=qB K5 hb;replace K6:=qB K6 hb;replace KB:=qS KB hb;clear hb)|((with_reducible refine jW (t:=26) (p:=37) (v:=.tmp 35) rfl ?_);refine pv_store rfl 26 (.tmp 37) (.tmp 35) rfl (off:=81) rfl rfl (by omega) hhl jA.infoH K6.out ?_;intro W4 s1 s2;replace K2:=qA (s2.blk HN26.out K2.out);replace K5:=qA (s2.blk HN56.out K5.out);replace K6:=qA s1;replace KB:=qA (s2.2.1 _ _ HG6.out KB.out);clear s1 s2));clear c52
   obtain⟨L2,hL2⟩:∃L,L=b++h++[0]:=⟨_,rfl⟩
   rw[show L1.take 81++h++L1.drop (81+16)=L2 by
    rw[hL2,hL1,<- HZ97.out,List.take_zero,List.nil_append,List.take_left' hbl,List.drop_append,hbl,List.drop_of_length_le (by omega),List.nil_append,List.drop_drop]] at K6
   have hL2l:L2.length=98:=by rw[hL2];simp;omega
   have HL2:=qA hL2;clear hL1 hL1l hL2;generalize hW5:W4=W5 at *;clear hW5;have c53:_=some (Value.string p3):=jB K5.out 3;go_upto_region 11 with(first|(go_at_call 35;refine(atoi_calls p3 _ (HENV.out.below KB.out) (by omega)).mono ?_;rintro e w8 ⟨hAT,hb⟩;obtain⟨v,ev,rfl,HEV⟩:∃v ev,e=.returned (.tuple #[.int .i64 v,ev])/\Aside0 ((∃x,jAG p3=some x/\v=x/\ev=.nilIface)\/(jAG p3=none/\∃ty p,ev=.iface ty p)):=(by cases hA:jAG p3 with|some x=>(rw[hA] at hAT;exact⟨x,.nilIface,hAT,⟨.inl ⟨x,rfl,rfl,rfl⟩⟩⟩)|none=>(rw[hA] at hAT;obtain⟨v,ev,h1,h2⟩:=hAT;exact⟨v,ev,h1,⟨.inr ⟨rfl,h2⟩⟩⟩));clear hAT;replace K2:=qB K2 hb;replace K5:=qB K5 hb;replace K6:=qB K6 hb;replace KB:=qS KB hb;clear hb));clear c53;have e3:=E3.out
   try dsimp only at e3
   unfold jk.bad at e3
   obtain⟨q1,hq1⟩:∃q,q=(p1.toList != [98]):=⟨_,rfl⟩
   obtain⟨q2,hq2⟩:∃q,q=(p1.toList != [119]):=⟨_,rfl⟩
   rw[<- hq1,<- hq2] at e3;have tq1:=hq1.symm;have tq2:=hq2.symm
   have tq1e:(p1.toList==[98])=!q1:=by rw[hq1,bne,Bool.not_not]
   have tq2e:(p1.toList==[119])=!q2:=by rw[hq2,bne,Bool.not_not]
   have HQ2:=qA hq2;clear hq1 hq2
   cases ok with
   | false=>
    rw[if_pos (by simp)] at e3;have er:=Option.some.inj e3;simp only[Prod.mk.injEq] at er;obtain⟨rfl,rfl,rfl⟩:=er;clear e3 E3
    try simp only[Bool.not_true,Bool.not_false] at tq1e
    try simp only[Bool.not_true,Bool.not_false] at tq2e
    try simp only[Bool.not_true,Bool.not_false] at tq3e
    go_cut [82] (λs82 wx=>s82=.bool true/\Aside0 (wx.heap[w.heap.size]?=some (.cells (jA.pv zl) 28 (0,0)))/\Aside0 (wx.heap[g5]?=some (.cells #[.string p0,.string p1,.string p2,.string p3] 9 (0,0)))/\Aside0 (wx.heap[g6]?=some (.cells (jA.pv L2) 28 (0,0)))/\Aside0 (Below w.heap.size w wx))
    case first=>
     refine wp_region_held_drew (S:=λ_=>True) (by kernel_rfl) trivial (λ_=>?_);replace K2:=qD K2;replace K5:=qD K5;replace K6:=qD K6;replace KB:=qA (zD KB.out);refine tk 0 ?_;refine tk 1 ?_;refine tk 2 ?_;refine tk0 3 ?_;refine tk0 4 ?_;refine tk 5 ?_;refine tk 6 ?_;refine tk0 7 ?_;refine tk0 8 ?_;refine tk0 9 ?_;refine tk0 10 ?_;refine tk0 11 ?_;refine tk0 12 ?_;refine tk0 13 ?_;refine tk0 14 ?_;refine tk0 15 ?_;refine tk0 16 ?_;refine tk 17 ?_;refine tk 18 ?_;refine tk0 19 ?_;refine tk0 20 ?_;refine tk 21 ?_;refine tk 22 ?_;refine tk0 23 ?_;refine tk0 24 ?_;refine tk0 25 ?_;refine tk0 26 ?_;refine tk0 27 ?_;refine tk0 28 ?_;refine tk 29 ?_;refine tk 30 ?_;refine tk0 31 ?_;refine tk0 32 ?_;refine tk 33 ?_;refine tk 34 ?_;refine tk0 35 ?_;refine tk0 36 ?_;refine tk 37 ?_;refine wpAnyH_done (by kernel_rfl) ?_ _
     try clear tq3p tq3e
     try clear tq1 tq1e
     try clear tq2 tq2e
     go_wp2;go_meet;exact⟨rfl,K2,K5,K6,KB⟩
    case rest=>
     clear K2 K5 K6 KB;obtain⟨rfl,K2,K5,K6,KB⟩:=hcut
     go_wp2_with (first|((with_reducible refine jG (N:=83) rfl ?_);refine jj.built rfl 28 #[] rfl #[] (by (try simp only[List.map_toArray,List.map_nil]);first|done|rfl) (HZB.out _) ?_)|((with_reducible refine jW (t:=28) (p:=2) (v:=.tmp 83) rfl ?_);refine jA.store rfl 28 (.tmp 2) (.tmp 83) rfl rfl rfl K2.out (by rw[jA.pv_size];exact hzl) hzl jA.infoP ?_;intro W4 s1 s2 s3;replace K2:=qA s1;replace KB:=qA (s2 w.heap.size w (Nat.le_refl _) KB.out);clear s1 s2 s3))
     refine bodyPost_ret (zO (p:=2) (u:=3) (v:=4) (ty:=28) rfl _ _ w.heap.size 28 (jA.pv zl) (0,0) _ rfl K2.out Tryz.underlying28 rfl (by rw[jA.infoP,jA.pv_size,hzl])) rfl ?_
     first|exact⟨rfl,hzl,KB.out⟩|exact⟨rfl,KB.out⟩
   | true=>
    cases good with
    | false=>
     rw[if_pos (by simp)] at e3;have er:=Option.some.inj e3;simp only[Prod.mk.injEq] at er;obtain⟨rfl,rfl,rfl⟩:=er;clear e3 E3
     try simp only[Bool.not_true,Bool.not_false] at tq1e
     try simp only[Bool.not_true,Bool.not_false] at tq2e
     try simp only[Bool.not_true,Bool.not_false] at tq3e
     go_cut [82] (λs82 wx=>s82=.bool true/\Aside0 (wx.heap[w.heap.size]?=some (.cells (jA.pv zl) 28 (0,0)))/\Aside0 (wx.heap[g5]?=some (.cells #[.string p0,.string p1,.string p2,.string p3] 9 (0,0)))/\Aside0 (wx.heap[g6]?=some (.cells (jA.pv L2) 28 (0,0)))/\Aside0 (Below w.heap.size w wx))
     case first=>
      refine wp_region_held_drew (S:=λ_=>True) (by kernel_rfl) trivial (λ_=>?_);replace K2:=qD K2;replace K5:=qD K5;replace K6:=qD K6;replace KB:=qA (zD KB.out);refine tk 0 ?_;refine tk 1 ?_;refine tk 2 ?_;refine tk 3 ?_;refine tk 4 ?_;refine tk 5 ?_;refine tk 6 ?_;refine tk0 7 ?_;refine tk0 8 ?_;refine tk0 9 ?_;refine tk0 10 ?_;refine tk0 11 ?_;refine tk0 12 ?_;refine tk0 13 ?_;refine tk0 14 ?_;refine tk0 15 ?_;refine tk0 16 ?_;refine tk 17 ?_;refine tk 18 ?_;refine tk0 19 ?_;refine tk0 20 ?_;refine tk 21 ?_;refine tk 22 ?_;refine tk0 23 ?_;refine tk0 24 ?_;refine tk0 25 ?_;refine tk0 26 ?_;refine tk0 27 ?_;refine tk0 28 ?_;refine tk 29 ?_;refine tk 30 ?_;refine tk0 31 ?_;refine tk0 32 ?_;refine tk 33 ?_;refine tk 34 ?_;refine tk0 35 ?_;refine tk0 36 ?_;refine tk 37 ?_;refine wpAnyH_done (by kernel_rfl) ?_ _
      try clear tq3p tq3e
      try clear tq1 tq1e
      try clear tq2 tq2e
      go_wp2;go_meet;exact⟨rfl,K2,K5,K6,KB⟩
     case rest=>
      clear K2 K5 K6 KB;obtain⟨rfl,K2,K5,K6,KB⟩:=hcut
      go_wp2_with (first|((with_reducible refine jG (N:=83) rfl ?_);refine jj.built rfl 28 #[] rfl #[] (by (try simp only[List.map_toArray,List.map_nil]);first|done|rfl) (HZB.out _) ?_)|((with_reducible refine jW (t:=28) (p:=2) (v:=.tmp 83) rfl ?_);refine jA.store rfl 28 (.tmp 2) (.tmp 83) rfl rfl rfl K2.out (by rw[jA.pv_size];exact hzl) hzl jA.infoP ?_;intro W4 s1 s2 s3;replace K2:=qA s1;replace KB:=qA (s2 w.heap.size w (Nat.le_refl _) KB.out);clear s1 s2 s3))
      refine bodyPost_ret (zO (p:=2) (u:=3) (v:=4) (ty:=28) rfl _ _ w.heap.size 28 (jA.pv zl) (0,0) _ rfl K2.out Tryz.underlying28 rfl (by rw[jA.infoP,jA.pv_size,hzl])) rfl ?_
      first|exact⟨rfl,hzl,KB.out⟩|exact⟨rfl,KB.out⟩
    | true=>
     cases q1 with
     | false=>
      rw[if_neg (by simp)] at e3;have e4:=e3;clear e3
      rcases HEV.out with⟨x,hx,hvx,rfl⟩|⟨hn,ty,pp,rfl⟩
      ·subst hvx
       obtain⟨hv1,hv2⟩:=hAR p3 v hx;have HV1:=qA hv1;have HV2:=qA hv2;rw[hx] at e4;dsimp only at e4
       obtain⟨q3,hq3⟩:∃q,q=!(Lib.itoa v==p3.toList):=⟨_,rfl⟩
       rw[<- hq3] at e4
       have tq3e:(Lib.itoa v==p3.toList)=!q3:=by rw[hq3,Bool.not_not]
       clear hq3 HEV hx
       cases q3 with
       | true=>
        have tq3p:(Lib.itoa v=p3.toList)=False:=eq_false (by simpa using tq3e);have e3:=e4;rw[if_pos (.inl rfl)] at e3;have er:=Option.some.inj e3;simp only[Prod.mk.injEq] at er;obtain⟨rfl,rfl,rfl⟩:=er;clear e3 E3
        try simp only[Bool.not_true,Bool.not_false] at tq1e
        try simp only[Bool.not_true,Bool.not_false] at tq2e
        try simp only[Bool.not_true,Bool.not_false] at tq3e
        go_cut [82] (λs82 wx=>s82=.bool true/\Aside0 (wx.heap[w.heap.size]?=some (.cells (jA.pv zl) 28 (0,0)))/\Aside0 (wx.heap[g5]?=some (.cells #[.string p0,.string p1,.string p2,.string p3] 9 (0,0)))/\Aside0 (wx.heap[g6]?=some (.cells (jA.pv L2) 28 (0,0)))/\Aside0 (Below w.heap.size w wx))
        case first=>
         refine wp_region_held_drew (S:=λ_=>True) (by kernel_rfl) trivial (λ_=>?_);replace K2:=qD K2;replace K5:=qD K5;replace K6:=qD K6;replace KB:=qA (zD KB.out);refine tk 0 ?_;refine tk 1 ?_;refine tk 2 ?_;refine tk 3 ?_;refine tk 4 ?_;refine tk 5 ?_;refine tk 6 ?_;refine tk 7 ?_;refine tk 8 ?_;refine on1 9 (λK hK=>?_);show(if Region.wanted ⟨some 54,.load _ _,_,_,_,some (6,false)⟩ _=true then Oper.wp _ ⟨some 54,.load _ _,_,_,_,some (6,false)⟩ _ _ _ _ else _);have c5:=(jB K5.out 1).trans (show _=some (Value.string p1) from rfl);go_simp;clear c5;refine ko hK ?_;clear hK K;refine tk 10 ?_;refine tk 11 ?_;refine tk0 12 ?_;refine tk0 13 ?_;refine tk0 14 ?_;refine tk0 15 ?_;refine tk 16 ?_;refine tk 17 ?_;refine tk 18 ?_;refine tk 19 ?_;refine tk 20 ?_;refine tk 21 ?_;refine tk 22 ?_;refine tk 23 ?_;refine tk 25 ?_;refine tk 26 ?_;refine wpAnyH_ready (rs:=[24,27]) (by kernel_rfl) (by simp) ?_;refine AllReadyH.cons rfl (λK hK=>?_) ?_
         ·show(if Region.wanted ⟨some 69,.call _,_,_,_,some (22,false)⟩ _=true then Oper.wp _ ⟨some 69,.call _,_,_,_,some (22,false)⟩ _ _ _ _ else _)
          go_simp;refine(Tryz.strconv_Itoa v HV1.out HV2.out _ (HENV.out.below KB.out).pow).mono ?_;rintro e w9 ⟨rfl,hex⟩;have hb:=yG hex;clear hex;replace K2:=qB K2 hb;replace K5:=qB K5 hb;replace K6:=qB K6 hb;replace KB:=qS KB hb;clear hb;refine ko hK ?_;clear hK K;refine on1 27 (λK hK=>?_);show(if Region.wanted ⟨some 72,.load _ _,_,_,_,some (22,false)⟩ _=true then Oper.wp _ ⟨some 72,.load _ _,_,_,_,some (22,false)⟩ _ _ _ _ else _);have c5:=(jB K5.out 3).trans (show _=some (Value.string p3) from rfl);go_simp;clear c5;refine ko hK ?_;clear hK K;refine tk 28 ?_;refine tk 29 ?_;refine tk 30 ?_;refine tk0 31 ?_;refine tk0 32 ?_;refine tk 33 ?_;refine tk 34 ?_;refine tk0 35 ?_;refine tk0 36 ?_;refine tk 37 ?_;refine wpAnyH_done (by kernel_rfl) ?_ _
          try clear tq3p tq3e
          try clear tq1 tq1e
          try clear tq2 tq2e
          go_wp2;go_meet;exact⟨rfl,K2,K5,K6,KB⟩
         refine AllReadyH.cons rfl (λK hK=>?_) AllReadyH.nil;show(if Region.wanted ⟨some 72,.load _ _,_,_,_,some (22,false)⟩ _=true then Oper.wp _ ⟨some 72,.load _ _,_,_,_,some (22,false)⟩ _ _ _ _ else _);have c5:=(jB K5.out 3).trans (show _=some (Value.string p3) from rfl);go_simp;clear c5;refine ko hK ?_;clear hK K;refine on1 24 (λK hK=>?_);show(if Region.wanted ⟨some 69,.call _,_,_,_,some (22,false)⟩ _=true then Oper.wp _ ⟨some 69,.call _,_,_,_,some (22,false)⟩ _ _ _ _ else _);go_simp;refine(Tryz.strconv_Itoa v HV1.out HV2.out _ (HENV.out.below KB.out).pow).mono ?_;rintro e w9 ⟨rfl,hex⟩;have hb:=yG hex;clear hex;replace K2:=qB K2 hb;replace K5:=qB K5 hb;replace K6:=qB K6 hb;replace KB:=qS KB hb;clear hb;refine ko hK ?_;clear hK K;refine tk 28 ?_;refine tk 29 ?_;refine tk 30 ?_;refine tk0 31 ?_;refine tk0 32 ?_;refine tk 33 ?_;refine tk 34 ?_;refine tk0 35 ?_;refine tk0 36 ?_;refine tk 37 ?_;refine wpAnyH_done (by kernel_rfl) ?_ _
         try clear tq3p tq3e
         try clear tq1 tq1e
         try clear tq2 tq2e
         go_wp2;go_meet;exact⟨rfl,K2,K5,K6,KB⟩
        case rest=>
         clear K2 K5 K6 KB;obtain⟨rfl,K2,K5,K6,KB⟩:=hcut
         go_wp2_with (first|((with_reducible refine jG (N:=83) rfl ?_);refine jj.built rfl 28 #[] rfl #[] (by (try simp only[List.map_toArray,List.map_nil]);first|done|rfl) (HZB.out _) ?_)|((with_reducible refine jW (t:=28) (p:=2) (v:=.tmp 83) rfl ?_);refine jA.store rfl 28 (.tmp 2) (.tmp 83) rfl rfl rfl K2.out (by rw[jA.pv_size];exact hzl) hzl jA.infoP ?_;intro W4 s1 s2 s3;replace K2:=qA s1;replace KB:=qA (s2 w.heap.size w (Nat.le_refl _) KB.out);clear s1 s2 s3))
         refine bodyPost_ret (zO (p:=2) (u:=3) (v:=4) (ty:=28) rfl _ _ w.heap.size 28 (jA.pv zl) (0,0) _ rfl K2.out Tryz.underlying28 rfl (by rw[jA.infoP,jA.pv_size,hzl])) rfl ?_
         first|exact⟨rfl,hzl,KB.out⟩|exact⟨rfl,KB.out⟩
       | false=>
        have tq3p:(Lib.itoa v=p3.toList)=True:=eq_true (by simpa using tq3e)
        by_cases hv1:v<1
        ·have e3:=e4
         rw[if_pos (.inr (.inl hv1))] at e3;have tv1:decide (v<1)=true:=decide_eq_true hv1;have tv1':(v<1)=True:=eq_true hv1;have er:=Option.some.inj e3;simp only[Prod.mk.injEq] at er;obtain⟨rfl,rfl,rfl⟩:=er;clear e3 E3
         try simp only[Bool.not_true,Bool.not_false] at tq1e
         try simp only[Bool.not_true,Bool.not_false] at tq2e
         try simp only[Bool.not_true,Bool.not_false] at tq3e
         go_cut [82] (λs82 wx=>s82=.bool true/\Aside0 (wx.heap[w.heap.size]?=some (.cells (jA.pv zl) 28 (0,0)))/\Aside0 (wx.heap[g5]?=some (.cells #[.string p0,.string p1,.string p2,.string p3] 9 (0,0)))/\Aside0 (wx.heap[g6]?=some (.cells (jA.pv L2) 28 (0,0)))/\Aside0 (Below w.heap.size w wx))
         case first=>
          refine wp_region_held_drew (S:=λ_=>True) (by kernel_rfl) trivial (λ_=>?_);replace K2:=qD K2;replace K5:=qD K5;replace K6:=qD K6;replace KB:=qA (zD KB.out);refine tk 0 ?_;refine tk 1 ?_;refine tk 2 ?_;refine tk 3 ?_;refine tk 4 ?_;refine tk 5 ?_;refine tk 6 ?_;refine tk 7 ?_;refine tk 8 ?_;refine on1 9 (λK hK=>?_);show(if Region.wanted ⟨some 54,.load _ _,_,_,_,some (6,false)⟩ _=true then Oper.wp _ ⟨some 54,.load _ _,_,_,_,some (6,false)⟩ _ _ _ _ else _);have c5:=(jB K5.out 1).trans (show _=some (Value.string p1) from rfl);go_simp;clear c5;refine ko hK ?_;clear hK K;refine tk 10 ?_;refine tk 11 ?_;refine tk0 12 ?_;refine tk0 13 ?_;refine tk0 14 ?_;refine tk0 15 ?_;refine tk 16 ?_;refine tk 17 ?_;refine tk 18 ?_;refine tk 19 ?_;refine tk 20 ?_;refine tk 21 ?_;refine tk 22 ?_;refine tk 23 ?_;refine tk 25 ?_;refine tk 26 ?_;refine wpAnyH_ready (rs:=[24,27]) (by kernel_rfl) (by simp) ?_;refine AllReadyH.cons rfl (λK hK=>?_) ?_
          ·show(if Region.wanted ⟨some 69,.call _,_,_,_,some (22,false)⟩ _=true then Oper.wp _ ⟨some 69,.call _,_,_,_,some (22,false)⟩ _ _ _ _ else _)
           go_simp;refine(Tryz.strconv_Itoa v HV1.out HV2.out _ (HENV.out.below KB.out).pow).mono ?_;rintro e w9 ⟨rfl,hex⟩;have hb:=yG hex;clear hex;replace K2:=qB K2 hb;replace K5:=qB K5 hb;replace K6:=qB K6 hb;replace KB:=qS KB hb;clear hb;refine ko hK ?_;clear hK K;refine on1 27 (λK hK=>?_);show(if Region.wanted ⟨some 72,.load _ _,_,_,_,some (22,false)⟩ _=true then Oper.wp _ ⟨some 72,.load _ _,_,_,_,some (22,false)⟩ _ _ _ _ else _);have c5:=(jB K5.out 3).trans (show _=some (Value.string p3) from rfl);go_simp;clear c5;refine ko hK ?_;clear hK K;refine tk 28 ?_;refine tk 29 ?_;refine tk 30 ?_;refine tk 31 ?_;refine tk 32 ?_;refine tk 33 ?_;refine tk 34 ?_;refine tk0 35 ?_;refine tk0 36 ?_;refine tk 37 ?_;refine wpAnyH_done (by kernel_rfl) ?_ _
           try clear tq3p tq3e
           try clear tq1 tq1e
           try clear tq2 tq2e
           go_wp2;go_meet;exact⟨rfl,K2,K5,K6,KB⟩
          refine AllReadyH.cons rfl (λK hK=>?_) AllReadyH.nil;show(if Region.wanted ⟨some 72,.load _ _,_,_,_,some (22,false)⟩ _=true then Oper.wp _ ⟨some 72,.load _ _,_,_,_,some (22,false)⟩ _ _ _ _ else _);have c5:=(jB K5.out 3).trans (show _=some (Value.string p3) from rfl);go_simp;clear c5;refine ko hK ?_;clear hK K;refine on1 24 (λK hK=>?_);show(if Region.wanted ⟨some 69,.call _,_,_,_,some (22,false)⟩ _=true then Oper.wp _ ⟨some 69,.call _,_,_,_,some (22,false)⟩ _ _ _ _ else _);go_simp;refine(Tryz.strconv_Itoa v HV1.out HV2.out _ (HENV.out.below KB.out).pow).mono ?_;rintro e w9 ⟨rfl,hex⟩;have hb:=yG hex;clear hex;replace K2:=qB K2 hb;replace K5:=qB K5 hb;replace K6:=qB K6 hb;replace KB:=qS KB hb;clear hb;refine ko hK ?_;clear hK K;refine tk 28 ?_;refine tk 29 ?_;refine tk 30 ?_;refine tk 31 ?_;refine tk 32 ?_;refine tk 33 ?_;refine tk 34 ?_;refine tk0 35 ?_;refine tk0 36 ?_;refine tk 37 ?_;refine wpAnyH_done (by kernel_rfl) ?_ _
          try clear tq3p tq3e
          try clear tq1 tq1e
          try clear tq2 tq2e
          go_wp2;go_meet;exact⟨rfl,K2,K5,K6,KB⟩
         case rest=>
          clear K2 K5 K6 KB;obtain⟨rfl,K2,K5,K6,KB⟩:=hcut
          go_wp2_with (first|((with_reducible refine jG (N:=83) rfl ?_);refine jj.built rfl 28 #[] rfl #[] (by (try simp only[List.map_toArray,List.map_nil]);first|done|rfl) (HZB.out _) ?_)|((with_reducible refine jW (t:=28) (p:=2) (v:=.tmp 83) rfl ?_);refine jA.store rfl 28 (.tmp 2) (.tmp 83) rfl rfl rfl K2.out (by rw[jA.pv_size];exact hzl) hzl jA.infoP ?_;intro W4 s1 s2 s3;replace K2:=qA s1;replace KB:=qA (s2 w.heap.size w (Nat.le_refl _) KB.out);clear s1 s2 s3))
          refine bodyPost_ret (zO (p:=2) (u:=3) (v:=4) (ty:=28) rfl _ _ w.heap.size 28 (jA.pv zl) (0,0) _ rfl K2.out Tryz.underlying28 rfl (by rw[jA.infoP,jA.pv_size,hzl])) rfl ?_
          first|exact⟨rfl,hzl,KB.out⟩|exact⟨rfl,KB.out⟩
        ·have tv1:decide (v<1)=false:=decide_eq_false hv1
         have tv1':(v<1)=False:=eq_false hv1
         by_cases hv2:9999<v
         ·have e3:=e4
          rw[if_pos (.inr (.inr hv2))] at e3;have tv2:decide (9999<v)=true:=decide_eq_true hv2;have tv2':(9999<v)=True:=eq_true hv2;have er:=Option.some.inj e3;simp only[Prod.mk.injEq] at er;obtain⟨rfl,rfl,rfl⟩:=er;clear e3 E3
          try simp only[Bool.not_true,Bool.not_false] at tq1e
          try simp only[Bool.not_true,Bool.not_false] at tq2e
          try simp only[Bool.not_true,Bool.not_false] at tq3e
          go_cut [82] (λs82 wx=>s82=.bool true/\Aside0 (wx.heap[w.heap.size]?=some (.cells (jA.pv zl) 28 (0,0)))/\Aside0 (wx.heap[g5]?=some (.cells #[.string p0,.string p1,.string p2,.string p3] 9 (0,0)))/\Aside0 (wx.heap[g6]?=some (.cells (jA.pv L2) 28 (0,0)))/\Aside0 (Below w.heap.size w wx))
          case first=>
           refine wp_region_held_drew (S:=λ_=>True) (by kernel_rfl) trivial (λ_=>?_);replace K2:=qD K2;replace K5:=qD K5;replace K6:=qD K6;replace KB:=qA (zD KB.out);refine tk 0 ?_;refine tk 1 ?_;refine tk 2 ?_;refine tk 3 ?_;refine tk 4 ?_;refine tk 5 ?_;refine tk 6 ?_;refine tk 7 ?_;refine tk 8 ?_;refine on1 9 (λK hK=>?_);show(if Region.wanted ⟨some 54,.load _ _,_,_,_,some (6,false)⟩ _=true then Oper.wp _ ⟨some 54,.load _ _,_,_,_,some (6,false)⟩ _ _ _ _ else _);have c5:=(jB K5.out 1).trans (show _=some (Value.string p1) from rfl);go_simp;clear c5;refine ko hK ?_;clear hK K;refine tk 10 ?_;refine tk 11 ?_;refine tk0 12 ?_;refine tk0 13 ?_;refine tk0 14 ?_;refine tk0 15 ?_;refine tk 16 ?_;refine tk 17 ?_;refine tk 18 ?_;refine tk 19 ?_;refine tk 20 ?_;refine tk 21 ?_;refine tk 22 ?_;refine tk 23 ?_;refine tk 25 ?_;refine tk 26 ?_;refine wpAnyH_ready (rs:=[24,27]) (by kernel_rfl) (by simp) ?_;refine AllReadyH.cons rfl (λK hK=>?_) ?_
           ·show(if Region.wanted ⟨some 69,.call _,_,_,_,some (22,false)⟩ _=true then Oper.wp _ ⟨some 69,.call _,_,_,_,some (22,false)⟩ _ _ _ _ else _)
            go_simp;refine(Tryz.strconv_Itoa v HV1.out HV2.out _ (HENV.out.below KB.out).pow).mono ?_;rintro e w9 ⟨rfl,hex⟩;have hb:=yG hex;clear hex;replace K2:=qB K2 hb;replace K5:=qB K5 hb;replace K6:=qB K6 hb;replace KB:=qS KB hb;clear hb;refine ko hK ?_;clear hK K;refine on1 27 (λK hK=>?_);show(if Region.wanted ⟨some 72,.load _ _,_,_,_,some (22,false)⟩ _=true then Oper.wp _ ⟨some 72,.load _ _,_,_,_,some (22,false)⟩ _ _ _ _ else _);have c5:=(jB K5.out 3).trans (show _=some (Value.string p3) from rfl);go_simp;clear c5;refine ko hK ?_;clear hK K;refine tk 28 ?_;refine tk 29 ?_;refine tk 30 ?_;refine tk 31 ?_;refine tk 32 ?_;refine tk 33 ?_;refine tk 34 ?_;refine tk 35 ?_;refine tk 36 ?_;refine tk 37 ?_;refine wpAnyH_done (by kernel_rfl) ?_ _
            try clear tq3p tq3e
            try clear tq1 tq1e
            try clear tq2 tq2e
            go_wp2;go_meet;exact⟨rfl,K2,K5,K6,KB⟩
           refine AllReadyH.cons rfl (λK hK=>?_) AllReadyH.nil;show(if Region.wanted ⟨some 72,.load _ _,_,_,_,some (22,false)⟩ _=true then Oper.wp _ ⟨some 72,.load _ _,_,_,_,some (22,false)⟩ _ _ _ _ else _);have c5:=(jB K5.out 3).trans (show _=some (Value.string p3) from rfl);go_simp;clear c5;refine ko hK ?_;clear hK K;refine on1 24 (λK hK=>?_);show(if Region.wanted ⟨some 69,.call _,_,_,_,some (22,false)⟩ _=true then Oper.wp _ ⟨some 69,.call _,_,_,_,some (22,false)⟩ _ _ _ _ else _);go_simp;refine(Tryz.strconv_Itoa v HV1.out HV2.out _ (HENV.out.below KB.out).pow).mono ?_;rintro e w9 ⟨rfl,hex⟩;have hb:=yG hex;clear hex;replace K2:=qB K2 hb;replace K5:=qB K5 hb;replace K6:=qB K6 hb;replace KB:=qS KB hb;clear hb;refine ko hK ?_;clear hK K;refine tk 28 ?_;refine tk 29 ?_;refine tk 30 ?_;refine tk 31 ?_;refine tk 32 ?_;refine tk 33 ?_;refine tk 34 ?_;refine tk 35 ?_;refine tk 36 ?_;refine tk 37 ?_;refine wpAnyH_done (by kernel_rfl) ?_ _
           try clear tq3p tq3e
           try clear tq1 tq1e
           try clear tq2 tq2e
           go_wp2;go_meet;exact⟨rfl,K2,K5,K6,KB⟩
          case rest=>
           clear K2 K5 K6 KB;obtain⟨rfl,K2,K5,K6,KB⟩:=hcut
           go_wp2_with (first|((with_reducible refine jG (N:=83) rfl ?_);refine jj.built rfl 28 #[] rfl #[] (by (try simp only[List.map_toArray,List.map_nil]);first|done|rfl) (HZB.out _) ?_)|((with_reducible refine jW (t:=28) (p:=2) (v:=.tmp 83) rfl ?_);refine jA.store rfl 28 (.tmp 2) (.tmp 83) rfl rfl rfl K2.out (by rw[jA.pv_size];exact hzl) hzl jA.infoP ?_;intro W4 s1 s2 s3;replace K2:=qA s1;replace KB:=qA (s2 w.heap.size w (Nat.le_refl _) KB.out);clear s1 s2 s3))
           refine bodyPost_ret (zO (p:=2) (u:=3) (v:=4) (ty:=28) rfl _ _ w.heap.size 28 (jA.pv zl) (0,0) _ rfl K2.out Tryz.underlying28 rfl (by rw[jA.infoP,jA.pv_size,hzl])) rfl ?_
           first|exact⟨rfl,hzl,KB.out⟩|exact⟨rfl,KB.out⟩
         ·have tv2:decide (9999<v)=false:=decide_eq_false hv2
          have tv2':(9999<v)=False:=eq_false hv2;rw[if_neg (by intro hh;rcases hh with h|h|h;exact absurd h (by decide);exact hv1 h;exact hv2 h)] at e4;have E4:=qA e4;clear e4 E3
          try simp only[Bool.not_true,Bool.not_false] at tq1e
          try simp only[Bool.not_true,Bool.not_false] at tq2e
          try simp only[Bool.not_true,Bool.not_false] at tq3e
          go_cut [82] (λs82 wx=>s82=.bool false/\Aside0 (wx.heap[w.heap.size]?=some (.cells (jA.pv zl) 28 (0,0)))/\Aside0 (wx.heap[g5]?=some (.cells #[.string p0,.string p1,.string p2,.string p3] 9 (0,0)))/\Aside0 (wx.heap[g6]?=some (.cells (jA.pv L2) 28 (0,0)))/\Aside0 (Below w.heap.size w wx))
          case first=>
           refine wp_region_held_drew (S:=λ_=>True) (by kernel_rfl) trivial (λ_=>?_);replace K2:=qD K2;replace K5:=qD K5;replace K6:=qD K6;replace KB:=qA (zD KB.out);refine tk 0 ?_;refine tk 1 ?_;refine tk 2 ?_;refine tk 3 ?_;refine tk 4 ?_;refine tk 5 ?_;refine tk 6 ?_;refine tk 7 ?_;refine tk 8 ?_;refine on1 9 (λK hK=>?_);show(if Region.wanted ⟨some 54,.load _ _,_,_,_,some (6,false)⟩ _=true then Oper.wp _ ⟨some 54,.load _ _,_,_,_,some (6,false)⟩ _ _ _ _ else _);have c5:=(jB K5.out 1).trans (show _=some (Value.string p1) from rfl);go_simp;clear c5;refine ko hK ?_;clear hK K;refine tk 10 ?_;refine tk 11 ?_;refine tk0 12 ?_;refine tk0 13 ?_;refine tk0 14 ?_;refine tk0 15 ?_;refine tk 16 ?_;refine tk 17 ?_;refine tk 18 ?_;refine tk 19 ?_;refine tk 20 ?_;refine tk 21 ?_;refine tk 22 ?_;refine tk 23 ?_;refine tk 25 ?_;refine tk 26 ?_;refine wpAnyH_ready (rs:=[24,27]) (by kernel_rfl) (by simp) ?_;refine AllReadyH.cons rfl (λK hK=>?_) ?_
           ·show(if Region.wanted ⟨some 69,.call _,_,_,_,some (22,false)⟩ _=true then Oper.wp _ ⟨some 69,.call _,_,_,_,some (22,false)⟩ _ _ _ _ else _)
            go_simp;refine(Tryz.strconv_Itoa v HV1.out HV2.out _ (HENV.out.below KB.out).pow).mono ?_;rintro e w9 ⟨rfl,hex⟩;have hb:=yG hex;clear hex;replace K2:=qB K2 hb;replace K5:=qB K5 hb;replace K6:=qB K6 hb;replace KB:=qS KB hb;clear hb;refine ko hK ?_;clear hK K;refine on1 27 (λK hK=>?_);show(if Region.wanted ⟨some 72,.load _ _,_,_,_,some (22,false)⟩ _=true then Oper.wp _ ⟨some 72,.load _ _,_,_,_,some (22,false)⟩ _ _ _ _ else _);have c5:=(jB K5.out 3).trans (show _=some (Value.string p3) from rfl);go_simp;clear c5;refine ko hK ?_;clear hK K;refine tk 28 ?_;refine tk 29 ?_;refine tk 30 ?_;refine tk 31 ?_;refine tk 32 ?_;refine tk 33 ?_;refine tk 34 ?_;refine tk 35 ?_;refine tk 36 ?_;refine tk 37 ?_;refine wpAnyH_done (by kernel_rfl) ?_ _
            try clear tq3p tq3e
            try clear tq1 tq1e
            try clear tq2 tq2e
            go_wp2;go_meet;exact⟨rfl,K2,K5,K6,KB⟩
           refine AllReadyH.cons rfl (λK hK=>?_) AllReadyH.nil;show(if Region.wanted ⟨some 72,.load _ _,_,_,_,some (22,false)⟩ _=true then Oper.wp _ ⟨some 72,.load _ _,_,_,_,some (22,false)⟩ _ _ _ _ else _);have c5:=(jB K5.out 3).trans (show _=some (Value.string p3) from rfl);go_simp;clear c5;refine ko hK ?_;clear hK K;refine on1 24 (λK hK=>?_);show(if Region.wanted ⟨some 69,.call _,_,_,_,some (22,false)⟩ _=true then Oper.wp _ ⟨some 69,.call _,_,_,_,some (22,false)⟩ _ _ _ _ else _);go_simp;refine(Tryz.strconv_Itoa v HV1.out HV2.out _ (HENV.out.below KB.out).pow).mono ?_;rintro e w9 ⟨rfl,hex⟩;have hb:=yG hex;clear hex;replace K2:=qB K2 hb;replace K5:=qB K5 hb;replace K6:=qB K6 hb;replace KB:=qS KB hb;clear hb;refine ko hK ?_;clear hK K;refine tk 28 ?_;refine tk 29 ?_;refine tk 30 ?_;refine tk 31 ?_;refine tk 32 ?_;refine tk 33 ?_;refine tk 34 ?_;refine tk 35 ?_;refine tk 36 ?_;refine tk 37 ?_;refine wpAnyH_done (by kernel_rfl) ?_ _
           try clear tq3p tq3e
           try clear tq1 tq1e
           try clear tq2 tq2e
           go_wp2;go_meet;exact⟨rfl,K2,K5,K6,KB⟩
          case rest=>
           clear K2 K5 K6 KB;obtain⟨rfl,K2,K5,K6,KB⟩:=hcut;have c5:=(jB K5.out 1).trans (show _=some (Value.string p1) from rfl);have e4:=E4.out;clear tq3e tq3p
           have hp1:p1.toList=[98]:=by simpa using tq1e
           have hw:(p1.toList==[119])=false:=by rw[hp1];rfl
           have hwp:(p1.toList=[119])=False:=eq_false (by rw[hp1];decide);clear tq1 tq1e tq2 tq2e hp1;rw[hw,if_neg (by decide),<- HL2.out] at e4;have hL3:=hL2l;generalize L2=L3 at *;go_upto_region 15 with(fail);clear c5 hw hwp;obtain⟨e0,hac,e5⟩:=Option.bind_eq_some_iff.mp e4;have HAC:=qA hac;clear e4 E4 hac
           by_cases he0:e0=0
           ·rw[if_pos he0] at e5
            have er:=Option.some.inj e5;simp only[Prod.mk.injEq] at er;obtain⟨rfl,rfl,rfl⟩:=er
            have te:(e0 != 0)=false:=by simpa using he0
            clear e5 he0
            go_wp2_with (first|((with_reducible refine jG (N:=89) rfl ?_);refine jA.load rfl 28 (.tmp 6) rfl rfl K6.out Tryz.underlying28 rfl jA.infoP (by omega) ?_;rw[show(L3.drop 0).take 98=L3 by rw[List.drop_zero,List.take_of_length_le (by omega)]])|(go_at_call 19;refine(zR.check_calls L3 e0 _ (HENV.out.below KB.out).tab hL3 HAC.out).mono ?_;rintro e w9 ⟨rfl,hb⟩;replace K2:=qB K2 hb;replace K5:=qB K5 hb;replace K6:=qB K6 hb;replace KB:=qS KB hb;clear hb)|((with_reducible refine jG (N:=95) rfl ?_);refine jA.load rfl 28 (.tmp 6) rfl rfl K6.out Tryz.underlying28 rfl jA.infoP (by omega) ?_;rw[show(L3.drop 0).take 98=L3 by rw[List.drop_zero,List.take_of_length_le (by omega)]])|((with_reducible refine jW (t:=28) (p:=2) (v:=.tmp 95) rfl ?_);refine jA.store rfl 28 (.tmp 2) (.tmp 95) rfl rfl rfl K2.out (by rw[jA.pv_size];exact hzl) hL3 jA.infoP ?_;intro W4 s1 s2 s3;replace K2:=qA s1;replace KB:=qA (s2 w.heap.size w (Nat.le_refl _) KB.out);clear s1 s2 s3))
            refine bodyPost_ret (zO (p:=2) (u:=3) (v:=4) (ty:=28) rfl _ _ w.heap.size 28 (jA.pv L3) (0,0) _ rfl K2.out Tryz.underlying28 rfl (by rw[jA.infoP,jA.pv_size,hL3])) rfl ?_
            first|exact⟨rfl,hL3,KB.out⟩|exact⟨rfl,KB.out⟩
           ·rw[if_neg he0] at e5
            have er:=Option.some.inj e5;simp only[Prod.mk.injEq] at er;obtain⟨rfl,rfl,rfl⟩:=er
            have te:(e0 != 0)=true:=by simpa using he0
            clear e5 he0
            go_wp2_with (first|((with_reducible refine jG (N:=89) rfl ?_);refine jA.load rfl 28 (.tmp 6) rfl rfl K6.out Tryz.underlying28 rfl jA.infoP (by omega) ?_;rw[show(L3.drop 0).take 98=L3 by rw[List.drop_zero,List.take_of_length_le (by omega)]])|(go_at_call 19;refine(zR.check_calls L3 e0 _ (HENV.out.below KB.out).tab hL3 HAC.out).mono ?_;rintro e w9 ⟨rfl,hb⟩;replace K2:=qB K2 hb;replace K5:=qB K5 hb;replace K6:=qB K6 hb;replace KB:=qS KB hb;clear hb)|((with_reducible refine jG (N:=93) rfl ?_);refine jj.built rfl 28 #[] rfl #[] (by (try simp only[List.map_toArray,List.map_nil]);first|done|rfl) (HZB.out _) ?_)|((with_reducible refine jW (t:=28) (p:=2) (v:=.tmp 93) rfl ?_);refine jA.store rfl 28 (.tmp 2) (.tmp 93) rfl rfl rfl K2.out (by rw[jA.pv_size];exact hzl) hzl jA.infoP ?_;intro W4 s1 s2 s3;replace K2:=qA s1;replace KB:=qA (s2 w.heap.size w (Nat.le_refl _) KB.out);clear s1 s2 s3))
            refine bodyPost_ret (zO (p:=2) (u:=3) (v:=4) (ty:=28) rfl _ _ w.heap.size 28 (jA.pv zl) (0,0) _ rfl K2.out Tryz.underlying28 rfl (by rw[jA.infoP,jA.pv_size,hzl])) rfl ?_
            first|exact⟨rfl,hzl,KB.out⟩|exact⟨rfl,KB.out⟩
      ·have e3:=e4
       rw[hn] at e3;dsimp only at e3;have er:=Option.some.inj e3;simp only[Prod.mk.injEq] at er;obtain⟨rfl,rfl,rfl⟩:=er;clear e3 E3
       try simp only[Bool.not_true,Bool.not_false] at tq1e
       try simp only[Bool.not_true,Bool.not_false] at tq2e
       try simp only[Bool.not_true,Bool.not_false] at tq3e
       go_cut [82] (λs82 wx=>s82=.bool true/\Aside0 (wx.heap[w.heap.size]?=some (.cells (jA.pv zl) 28 (0,0)))/\Aside0 (wx.heap[g5]?=some (.cells #[.string p0,.string p1,.string p2,.string p3] 9 (0,0)))/\Aside0 (wx.heap[g6]?=some (.cells (jA.pv L2) 28 (0,0)))/\Aside0 (Below w.heap.size w wx))
       case first=>
        refine wp_region_held_drew (S:=λ_=>True) (by kernel_rfl) trivial (λ_=>?_);replace K2:=qD K2;replace K5:=qD K5;replace K6:=qD K6;replace KB:=qA (zD KB.out);refine tk 0 ?_;refine tk 1 ?_;refine tk 2 ?_;refine tk 3 ?_;refine tk 4 ?_;refine tk 5 ?_;refine tk 6 ?_;refine tk 7 ?_;refine tk 8 ?_;refine on1 9 (λK hK=>?_);show(if Region.wanted ⟨some 54,.load _ _,_,_,_,some (6,false)⟩ _=true then Oper.wp _ ⟨some 54,.load _ _,_,_,_,some (6,false)⟩ _ _ _ _ else _);have c5:=(jB K5.out 1).trans (show _=some (Value.string p1) from rfl);go_simp;clear c5;refine ko hK ?_;clear hK K;refine tk 10 ?_;refine tk 11 ?_;refine tk0 12 ?_;refine tk0 13 ?_;refine tk0 14 ?_;refine tk0 15 ?_;refine tk 16 ?_;refine tk 17 ?_;refine tk 18 ?_;refine tk 19 ?_;refine tk 20 ?_;refine tk 21 ?_;refine tk 22 ?_;refine tk0 23 ?_;refine tk0 24 ?_;refine tk0 25 ?_;refine tk0 26 ?_;refine tk0 27 ?_;refine tk0 28 ?_;refine tk 29 ?_;refine tk 30 ?_;refine tk0 31 ?_;refine tk0 32 ?_;refine tk 33 ?_;refine tk 34 ?_;refine tk0 35 ?_;refine tk0 36 ?_;refine tk 37 ?_;refine wpAnyH_done (by kernel_rfl) ?_ _
        try clear tq3p tq3e
        try clear tq1 tq1e
        try clear tq2 tq2e
        go_wp2;go_meet;exact⟨rfl,K2,K5,K6,KB⟩
       case rest=>
        clear K2 K5 K6 KB;obtain⟨rfl,K2,K5,K6,KB⟩:=hcut
        go_wp2_with (first|((with_reducible refine jG (N:=83) rfl ?_);refine jj.built rfl 28 #[] rfl #[] (by (try simp only[List.map_toArray,List.map_nil]);first|done|rfl) (HZB.out _) ?_)|((with_reducible refine jW (t:=28) (p:=2) (v:=.tmp 83) rfl ?_);refine jA.store rfl 28 (.tmp 2) (.tmp 83) rfl rfl rfl K2.out (by rw[jA.pv_size];exact hzl) hzl jA.infoP ?_;intro W4 s1 s2 s3;replace K2:=qA s1;replace KB:=qA (s2 w.heap.size w (Nat.le_refl _) KB.out);clear s1 s2 s3))
        refine bodyPost_ret (zO (p:=2) (u:=3) (v:=4) (ty:=28) rfl _ _ w.heap.size 28 (jA.pv zl) (0,0) _ rfl K2.out Tryz.underlying28 rfl (by rw[jA.infoP,jA.pv_size,hzl])) rfl ?_
        first|exact⟨rfl,hzl,KB.out⟩|exact⟨rfl,KB.out⟩
     | true=>
      cases q2 with
      | true=>
       rw[if_pos (by simp)] at e3;have er:=Option.some.inj e3;simp only[Prod.mk.injEq] at er;obtain⟨rfl,rfl,rfl⟩:=er;clear e3 E3
       try simp only[Bool.not_true,Bool.not_false] at tq1e
       try simp only[Bool.not_true,Bool.not_false] at tq2e
       try simp only[Bool.not_true,Bool.not_false] at tq3e
       go_cut [82] (λs82 wx=>s82=.bool true/\Aside0 (wx.heap[w.heap.size]?=some (.cells (jA.pv zl) 28 (0,0)))/\Aside0 (wx.heap[g5]?=some (.cells #[.string p0,.string p1,.string p2,.string p3] 9 (0,0)))/\Aside0 (wx.heap[g6]?=some (.cells (jA.pv L2) 28 (0,0)))/\Aside0 (Below w.heap.size w wx))
       case first=>
        refine wp_region_held_drew (S:=λ_=>True) (by kernel_rfl) trivial (λ_=>?_);replace K2:=qD K2;replace K5:=qD K5;replace K6:=qD K6;replace KB:=qA (zD KB.out);refine tk 0 ?_;refine tk 1 ?_;refine tk 2 ?_;refine tk 3 ?_;refine tk 4 ?_;refine tk 5 ?_;refine tk 6 ?_;refine tk 7 ?_;refine tk 8 ?_;refine on1 9 (λK hK=>?_);show(if Region.wanted ⟨some 54,.load _ _,_,_,_,some (6,false)⟩ _=true then Oper.wp _ ⟨some 54,.load _ _,_,_,_,some (6,false)⟩ _ _ _ _ else _);have c5:=(jB K5.out 1).trans (show _=some (Value.string p1) from rfl);go_simp;clear c5;refine ko hK ?_;clear hK K;refine tk 10 ?_;refine tk 11 ?_;refine tk 12 ?_;refine tk 13 ?_;refine on1 14 (λK hK=>?_);show(if Region.wanted ⟨some 59,.load _ _,_,_,_,some (11,true)⟩ _=true then Oper.wp _ ⟨some 59,.load _ _,_,_,_,some (11,true)⟩ _ _ _ _ else _);have c5:=(jB K5.out 1).trans (show _=some (Value.string p1) from rfl);go_simp;clear c5;refine ko hK ?_;clear hK K;refine tk 15 ?_;refine tk 16 ?_;refine tk 17 ?_;refine tk 18 ?_;refine tk0 19 ?_;refine tk0 20 ?_;refine tk 21 ?_;refine tk 22 ?_;refine tk0 23 ?_;refine tk0 24 ?_;refine tk0 25 ?_;refine tk0 26 ?_;refine tk0 27 ?_;refine tk0 28 ?_;refine tk 29 ?_;refine tk 30 ?_;refine tk0 31 ?_;refine tk0 32 ?_;refine tk 33 ?_;refine tk 34 ?_;refine tk0 35 ?_;refine tk0 36 ?_
        refine tk 37 ?_;refine wpAnyH_done (by kernel_rfl) ?_ _
        try clear tq3p tq3e
        try clear tq1 tq1e
        try clear tq2 tq2e
        go_wp2;go_meet;exact⟨rfl,K2,K5,K6,KB⟩
       case rest=>
        clear K2 K5 K6 KB;obtain⟨rfl,K2,K5,K6,KB⟩:=hcut
        go_wp2_with (first|((with_reducible refine jG (N:=83) rfl ?_);refine jj.built rfl 28 #[] rfl #[] (by (try simp only[List.map_toArray,List.map_nil]);first|done|rfl) (HZB.out _) ?_)|((with_reducible refine jW (t:=28) (p:=2) (v:=.tmp 83) rfl ?_);refine jA.store rfl 28 (.tmp 2) (.tmp 83) rfl rfl rfl K2.out (by rw[jA.pv_size];exact hzl) hzl jA.infoP ?_;intro W4 s1 s2 s3;replace K2:=qA s1;replace KB:=qA (s2 w.heap.size w (Nat.le_refl _) KB.out);clear s1 s2 s3))
        refine bodyPost_ret (zO (p:=2) (u:=3) (v:=4) (ty:=28) rfl _ _ w.heap.size 28 (jA.pv zl) (0,0) _ rfl K2.out Tryz.underlying28 rfl (by rw[jA.infoP,jA.pv_size,hzl])) rfl ?_
        first|exact⟨rfl,hzl,KB.out⟩|exact⟨rfl,KB.out⟩
      | false=>
       rw[if_neg (by simp)] at e3;have e4:=e3;clear e3
       rcases HEV.out with⟨x,hx,hvx,rfl⟩|⟨hn,ty,pp,rfl⟩
       ·subst hvx
        obtain⟨hv1,hv2⟩:=hAR p3 v hx;have HV1:=qA hv1;have HV2:=qA hv2;rw[hx] at e4;dsimp only at e4
        obtain⟨q3,hq3⟩:∃q,q=!(Lib.itoa v==p3.toList):=⟨_,rfl⟩
        rw[<- hq3] at e4
        have tq3e:(Lib.itoa v==p3.toList)=!q3:=by rw[hq3,Bool.not_not]
        clear hq3 HEV hx
        cases q3 with
        | true=>
         have tq3p:(Lib.itoa v=p3.toList)=False:=eq_false (by simpa using tq3e);have e3:=e4;rw[if_pos (.inl rfl)] at e3;have er:=Option.some.inj e3;simp only[Prod.mk.injEq] at er;obtain⟨rfl,rfl,rfl⟩:=er;clear e3 E3
         try simp only[Bool.not_true,Bool.not_false] at tq1e
         try simp only[Bool.not_true,Bool.not_false] at tq2e
         try simp only[Bool.not_true,Bool.not_false] at tq3e
         go_cut [82] (λs82 wx=>s82=.bool true/\Aside0 (wx.heap[w.heap.size]?=some (.cells (jA.pv zl) 28 (0,0)))/\Aside0 (wx.heap[g5]?=some (.cells #[.string p0,.string p1,.string p2,.string p3] 9 (0,0)))/\Aside0 (wx.heap[g6]?=some (.cells (jA.pv L2) 28 (0,0)))/\Aside0 (Below w.heap.size w wx))
         case first=>
          refine wp_region_held_drew (S:=λ_=>True) (by kernel_rfl) trivial (λ_=>?_);replace K2:=qD K2;replace K5:=qD K5;replace K6:=qD K6;replace KB:=qA (zD KB.out);refine tk 0 ?_;refine tk 1 ?_;refine tk 2 ?_;refine tk 3 ?_;refine tk 4 ?_;refine tk 5 ?_;refine tk 6 ?_;refine tk 7 ?_;refine tk 8 ?_;refine on1 9 (λK hK=>?_);show(if Region.wanted ⟨some 54,.load _ _,_,_,_,some (6,false)⟩ _=true then Oper.wp _ ⟨some 54,.load _ _,_,_,_,some (6,false)⟩ _ _ _ _ else _);have c5:=(jB K5.out 1).trans (show _=some (Value.string p1) from rfl);go_simp;clear c5;refine ko hK ?_;clear hK K;refine tk 10 ?_;refine tk 11 ?_;refine tk 12 ?_;refine tk 13 ?_;refine on1 14 (λK hK=>?_);show(if Region.wanted ⟨some 59,.load _ _,_,_,_,some (11,true)⟩ _=true then Oper.wp _ ⟨some 59,.load _ _,_,_,_,some (11,true)⟩ _ _ _ _ else _);have c5:=(jB K5.out 1).trans (show _=some (Value.string p1) from rfl);go_simp;clear c5;refine ko hK ?_;clear hK K;refine tk 15 ?_;refine tk 16 ?_;refine tk 17 ?_;refine tk 18 ?_;refine tk 19 ?_;refine tk 20 ?_;refine tk 21 ?_;refine tk 22 ?_;refine tk 23 ?_;refine tk 25 ?_;refine tk 26 ?_;refine wpAnyH_ready (rs:=[24,27]) (by kernel_rfl) (by simp) ?_;refine AllReadyH.cons rfl (λK hK=>?_) ?_
          ·show(if Region.wanted ⟨some 69,.call _,_,_,_,some (22,false)⟩ _=true then Oper.wp _ ⟨some 69,.call _,_,_,_,some (22,false)⟩ _ _ _ _ else _)
           go_simp;refine(Tryz.strconv_Itoa v HV1.out HV2.out _ (HENV.out.below KB.out).pow).mono ?_;rintro e w9 ⟨rfl,hex⟩;have hb:=yG hex;clear hex;replace K2:=qB K2 hb;replace K5:=qB K5 hb;replace K6:=qB K6 hb;replace KB:=qS KB hb;clear hb;refine ko hK ?_;clear hK K;refine on1 27 (λK hK=>?_);show(if Region.wanted ⟨some 72,.load _ _,_,_,_,some (22,false)⟩ _=true then Oper.wp _ ⟨some 72,.load _ _,_,_,_,some (22,false)⟩ _ _ _ _ else _);have c5:=(jB K5.out 3).trans (show _=some (Value.string p3) from rfl);go_simp;clear c5;refine ko hK ?_;clear hK K;refine tk 28 ?_;refine tk 29 ?_;refine tk 30 ?_;refine tk0 31 ?_;refine tk0 32 ?_;refine tk 33 ?_;refine tk 34 ?_;refine tk0 35 ?_;refine tk0 36 ?_;refine tk 37 ?_;refine wpAnyH_done (by kernel_rfl) ?_ _
           try clear tq3p tq3e
           try clear tq1 tq1e
           try clear tq2 tq2e
           go_wp2;go_meet;exact⟨rfl,K2,K5,K6,KB⟩
          refine AllReadyH.cons rfl (λK hK=>?_) AllReadyH.nil;show(if Region.wanted ⟨some 72,.load _ _,_,_,_,some (22,false)⟩ _=true then Oper.wp _ ⟨some 72,.load _ _,_,_,_,some (22,false)⟩ _ _ _ _ else _);have c5:=(jB K5.out 3).trans (show _=some (Value.string p3) from rfl);go_simp;clear c5;refine ko hK ?_;clear hK K;refine on1 24 (λK hK=>?_);show(if Region.wanted ⟨some 69,.call _,_,_,_,some (22,false)⟩ _=true then Oper.wp _ ⟨some 69,.call _,_,_,_,some (22,false)⟩ _ _ _ _ else _);go_simp;refine(Tryz.strconv_Itoa v HV1.out HV2.out _ (HENV.out.below KB.out).pow).mono ?_;rintro e w9 ⟨rfl,hex⟩;have hb:=yG hex;clear hex;replace K2:=qB K2 hb;replace K5:=qB K5 hb;replace K6:=qB K6 hb;replace KB:=qS KB hb;clear hb;refine ko hK ?_;clear hK K;refine tk 28 ?_;refine tk 29 ?_;refine tk 30 ?_;refine tk0 31 ?_;refine tk0 32 ?_;refine tk 33 ?_;refine tk 34 ?_;refine tk0 35 ?_;refine tk0 36 ?_;refine tk 37 ?_;refine wpAnyH_done (by kernel_rfl) ?_ _
          try clear tq3p tq3e
          try clear tq1 tq1e
          try clear tq2 tq2e
          go_wp2;go_meet;exact⟨rfl,K2,K5,K6,KB⟩
         case rest=>
          clear K2 K5 K6 KB;obtain⟨rfl,K2,K5,K6,KB⟩:=hcut
          go_wp2_with (first|((with_reducible refine jG (N:=83) rfl ?_);refine jj.built rfl 28 #[] rfl #[] (by (try simp only[List.map_toArray,List.map_nil]);first|done|rfl) (HZB.out _) ?_)|((with_reducible refine jW (t:=28) (p:=2) (v:=.tmp 83) rfl ?_);refine jA.store rfl 28 (.tmp 2) (.tmp 83) rfl rfl rfl K2.out (by rw[jA.pv_size];exact hzl) hzl jA.infoP ?_;intro W4 s1 s2 s3;replace K2:=qA s1;replace KB:=qA (s2 w.heap.size w (Nat.le_refl _) KB.out);clear s1 s2 s3))
          refine bodyPost_ret (zO (p:=2) (u:=3) (v:=4) (ty:=28) rfl _ _ w.heap.size 28 (jA.pv zl) (0,0) _ rfl K2.out Tryz.underlying28 rfl (by rw[jA.infoP,jA.pv_size,hzl])) rfl ?_
          first|exact⟨rfl,hzl,KB.out⟩|exact⟨rfl,KB.out⟩
        | false=>
         have tq3p:(Lib.itoa v=p3.toList)=True:=eq_true (by simpa using tq3e)
         by_cases hv1:v<1
         ·have e3:=e4
          rw[if_pos (.inr (.inl hv1))] at e3;have tv1:decide (v<1)=true:=decide_eq_true hv1;have tv1':(v<1)=True:=eq_true hv1;have er:=Option.some.inj e3;simp only[Prod.mk.injEq] at er;obtain⟨rfl,rfl,rfl⟩:=er;clear e3 E3
          try simp only[Bool.not_true,Bool.not_false] at tq1e
          try simp only[Bool.not_true,Bool.not_false] at tq2e
          try simp only[Bool.not_true,Bool.not_false] at tq3e
          go_cut [82] (λs82 wx=>s82=.bool true/\Aside0 (wx.heap[w.heap.size]?=some (.cells (jA.pv zl) 28 (0,0)))/\Aside0 (wx.heap[g5]?=some (.cells #[.string p0,.string p1,.string p2,.string p3] 9 (0,0)))/\Aside0 (wx.heap[g6]?=some (.cells (jA.pv L2) 28 (0,0)))/\Aside0 (Below w.heap.size w wx))
          case first=>
           refine wp_region_held_drew (S:=λ_=>True) (by kernel_rfl) trivial (λ_=>?_);replace K2:=qD K2;replace K5:=qD K5;replace K6:=qD K6;replace KB:=qA (zD KB.out);refine tk 0 ?_;refine tk 1 ?_;refine tk 2 ?_;refine tk 3 ?_;refine tk 4 ?_;refine tk 5 ?_;refine tk 6 ?_;refine tk 7 ?_;refine tk 8 ?_;refine on1 9 (λK hK=>?_);show(if Region.wanted ⟨some 54,.load _ _,_,_,_,some (6,false)⟩ _=true then Oper.wp _ ⟨some 54,.load _ _,_,_,_,some (6,false)⟩ _ _ _ _ else _);have c5:=(jB K5.out 1).trans (show _=some (Value.string p1) from rfl);go_simp;clear c5;refine ko hK ?_;clear hK K;refine tk 10 ?_;refine tk 11 ?_;refine tk 12 ?_;refine tk 13 ?_;refine on1 14 (λK hK=>?_);show(if Region.wanted ⟨some 59,.load _ _,_,_,_,some (11,true)⟩ _=true then Oper.wp _ ⟨some 59,.load _ _,_,_,_,some (11,true)⟩ _ _ _ _ else _);have c5:=(jB K5.out 1).trans (show _=some (Value.string p1) from rfl);go_simp;clear c5;refine ko hK ?_;clear hK K;refine tk 15 ?_;refine tk 16 ?_;refine tk 17 ?_;refine tk 18 ?_;refine tk 19 ?_;refine tk 20 ?_;refine tk 21 ?_;refine tk 22 ?_;refine tk 23 ?_;refine tk 25 ?_;refine tk 26 ?_;refine wpAnyH_ready (rs:=[24,27]) (by kernel_rfl) (by simp) ?_;refine AllReadyH.cons rfl (λK hK=>?_) ?_
           ·show(if Region.wanted ⟨some 69,.call _,_,_,_,some (22,false)⟩ _=true then Oper.wp _ ⟨some 69,.call _,_,_,_,some (22,false)⟩ _ _ _ _ else _)
            go_simp;refine(Tryz.strconv_Itoa v HV1.out HV2.out _ (HENV.out.below KB.out).pow).mono ?_;rintro e w9 ⟨rfl,hex⟩;have hb:=yG hex;clear hex;replace K2:=qB K2 hb;replace K5:=qB K5 hb;replace K6:=qB K6 hb;replace KB:=qS KB hb;clear hb;refine ko hK ?_;clear hK K;refine on1 27 (λK hK=>?_);show(if Region.wanted ⟨some 72,.load _ _,_,_,_,some (22,false)⟩ _=true then Oper.wp _ ⟨some 72,.load _ _,_,_,_,some (22,false)⟩ _ _ _ _ else _);have c5:=(jB K5.out 3).trans (show _=some (Value.string p3) from rfl);go_simp;clear c5;refine ko hK ?_;clear hK K;refine tk 28 ?_;refine tk 29 ?_;refine tk 30 ?_;refine tk 31 ?_;refine tk 32 ?_;refine tk 33 ?_;refine tk 34 ?_;refine tk0 35 ?_;refine tk0 36 ?_;refine tk 37 ?_;refine wpAnyH_done (by kernel_rfl) ?_ _
            try clear tq3p tq3e
            try clear tq1 tq1e
            try clear tq2 tq2e
            go_wp2;go_meet;exact⟨rfl,K2,K5,K6,KB⟩
           refine AllReadyH.cons rfl (λK hK=>?_) AllReadyH.nil;show(if Region.wanted ⟨some 72,.load _ _,_,_,_,some (22,false)⟩ _=true then Oper.wp _ ⟨some 72,.load _ _,_,_,_,some (22,false)⟩ _ _ _ _ else _);have c5:=(jB K5.out 3).trans (show _=some (Value.string p3) from rfl);go_simp;clear c5;refine ko hK ?_;clear hK K;refine on1 24 (λK hK=>?_);show(if Region.wanted ⟨some 69,.call _,_,_,_,some (22,false)⟩ _=true then Oper.wp _ ⟨some 69,.call _,_,_,_,some (22,false)⟩ _ _ _ _ else _);go_simp;refine(Tryz.strconv_Itoa v HV1.out HV2.out _ (HENV.out.below KB.out).pow).mono ?_;rintro e w9 ⟨rfl,hex⟩;have hb:=yG hex;clear hex;replace K2:=qB K2 hb;replace K5:=qB K5 hb;replace K6:=qB K6 hb;replace KB:=qS KB hb;clear hb;refine ko hK ?_;clear hK K;refine tk 28 ?_;refine tk 29 ?_;refine tk 30 ?_;refine tk 31 ?_;refine tk 32 ?_;refine tk 33 ?_;refine tk 34 ?_;refine tk0 35 ?_;refine tk0 36 ?_;refine tk 37 ?_;refine wpAnyH_done (by kernel_rfl) ?_ _
           try clear tq3p tq3e
           try clear tq1 tq1e
           try clear tq2 tq2e
           go_wp2;go_meet;exact⟨rfl,K2,K5,K6,KB⟩
          case rest=>
           clear K2 K5 K6 KB;obtain⟨rfl,K2,K5,K6,KB⟩:=hcut
           go_wp2_with (first|((with_reducible refine jG (N:=83) rfl ?_);refine jj.built rfl 28 #[] rfl #[] (by (try simp only[List.map_toArray,List.map_nil]);first|done|rfl) (HZB.out _) ?_)|((with_reducible refine jW (t:=28) (p:=2) (v:=.tmp 83) rfl ?_);refine jA.store rfl 28 (.tmp 2) (.tmp 83) rfl rfl rfl K2.out (by rw[jA.pv_size];exact hzl) hzl jA.infoP ?_;intro W4 s1 s2 s3;replace K2:=qA s1;replace KB:=qA (s2 w.heap.size w (Nat.le_refl _) KB.out);clear s1 s2 s3))
           refine bodyPost_ret (zO (p:=2) (u:=3) (v:=4) (ty:=28) rfl _ _ w.heap.size 28 (jA.pv zl) (0,0) _ rfl K2.out Tryz.underlying28 rfl (by rw[jA.infoP,jA.pv_size,hzl])) rfl ?_
           first|exact⟨rfl,hzl,KB.out⟩|exact⟨rfl,KB.out⟩
         ·have tv1:decide (v<1)=false:=decide_eq_false hv1
          have tv1':(v<1)=False:=eq_false hv1
          by_cases hv2:9999<v
          ·have e3:=e4
           rw[if_pos (.inr (.inr hv2))] at e3;have tv2:decide (9999<v)=true:=decide_eq_true hv2;have tv2':(9999<v)=True:=eq_true hv2;have er:=Option.some.inj e3;simp only[Prod.mk.injEq] at er;obtain⟨rfl,rfl,rfl⟩:=er;clear e3 E3
           try simp only[Bool.not_true,Bool.not_false] at tq1e
           try simp only[Bool.not_true,Bool.not_false] at tq2e
           try simp only[Bool.not_true,Bool.not_false] at tq3e
           go_cut [82] (λs82 wx=>s82=.bool true/\Aside0 (wx.heap[w.heap.size]?=some (.cells (jA.pv zl) 28 (0,0)))/\Aside0 (wx.heap[g5]?=some (.cells #[.string p0,.string p1,.string p2,.string p3] 9 (0,0)))/\Aside0 (wx.heap[g6]?=some (.cells (jA.pv L2) 28 (0,0)))/\Aside0 (Below w.heap.size w wx))
           case first=>
            refine wp_region_held_drew (S:=λ_=>True) (by kernel_rfl) trivial (λ_=>?_);replace K2:=qD K2;replace K5:=qD K5;replace K6:=qD K6;replace KB:=qA (zD KB.out);refine tk 0 ?_;refine tk 1 ?_;refine tk 2 ?_;refine tk 3 ?_;refine tk 4 ?_;refine tk 5 ?_;refine tk 6 ?_;refine tk 7 ?_;refine tk 8 ?_;refine on1 9 (λK hK=>?_);show(if Region.wanted ⟨some 54,.load _ _,_,_,_,some (6,false)⟩ _=true then Oper.wp _ ⟨some 54,.load _ _,_,_,_,some (6,false)⟩ _ _ _ _ else _);have c5:=(jB K5.out 1).trans (show _=some (Value.string p1) from rfl);go_simp;clear c5;refine ko hK ?_;clear hK K;refine tk 10 ?_;refine tk 11 ?_;refine tk 12 ?_;refine tk 13 ?_;refine on1 14 (λK hK=>?_);show(if Region.wanted ⟨some 59,.load _ _,_,_,_,some (11,true)⟩ _=true then Oper.wp _ ⟨some 59,.load _ _,_,_,_,some (11,true)⟩ _ _ _ _ else _);have c5:=(jB K5.out 1).trans (show _=some (Value.string p1) from rfl);go_simp;clear c5;refine ko hK ?_;clear hK K;refine tk 15 ?_;refine tk 16 ?_;refine tk 17 ?_;refine tk 18 ?_;refine tk 19 ?_;refine tk 20 ?_;refine tk 21 ?_;refine tk 22 ?_;refine tk 23 ?_;refine tk 25 ?_;refine tk 26 ?_;refine wpAnyH_ready (rs:=[24,27]) (by kernel_rfl) (by simp) ?_;refine AllReadyH.cons rfl (λK hK=>?_) ?_
            ·show(if Region.wanted ⟨some 69,.call _,_,_,_,some (22,false)⟩ _=true then Oper.wp _ ⟨some 69,.call _,_,_,_,some (22,false)⟩ _ _ _ _ else _)
             go_simp;refine(Tryz.strconv_Itoa v HV1.out HV2.out _ (HENV.out.below KB.out).pow).mono ?_;rintro e w9 ⟨rfl,hex⟩;have hb:=yG hex;clear hex;replace K2:=qB K2 hb;replace K5:=qB K5 hb;replace K6:=qB K6 hb;replace KB:=qS KB hb;clear hb;refine ko hK ?_;clear hK K;refine on1 27 (λK hK=>?_);show(if Region.wanted ⟨some 72,.load _ _,_,_,_,some (22,false)⟩ _=true then Oper.wp _ ⟨some 72,.load _ _,_,_,_,some (22,false)⟩ _ _ _ _ else _);have c5:=(jB K5.out 3).trans (show _=some (Value.string p3) from rfl);go_simp;clear c5;refine ko hK ?_;clear hK K;refine tk 28 ?_;refine tk 29 ?_;refine tk 30 ?_;refine tk 31 ?_;refine tk 32 ?_;refine tk 33 ?_;refine tk 34 ?_;refine tk 35 ?_;refine tk 36 ?_;refine tk 37 ?_;refine wpAnyH_done (by kernel_rfl) ?_ _
             try clear tq3p tq3e
             try clear tq1 tq1e
             try clear tq2 tq2e
             go_wp2;go_meet;exact⟨rfl,K2,K5,K6,KB⟩
            refine AllReadyH.cons rfl (λK hK=>?_) AllReadyH.nil;show(if Region.wanted ⟨some 72,.load _ _,_,_,_,some (22,false)⟩ _=true then Oper.wp _ ⟨some 72,.load _ _,_,_,_,some (22,false)⟩ _ _ _ _ else _);have c5:=(jB K5.out 3).trans (show _=some (Value.string p3) from rfl);go_simp;clear c5;refine ko hK ?_;clear hK K;refine on1 24 (λK hK=>?_);show(if Region.wanted ⟨some 69,.call _,_,_,_,some (22,false)⟩ _=true then Oper.wp _ ⟨some 69,.call _,_,_,_,some (22,false)⟩ _ _ _ _ else _);go_simp;refine(Tryz.strconv_Itoa v HV1.out HV2.out _ (HENV.out.below KB.out).pow).mono ?_;rintro e w9 ⟨rfl,hex⟩;have hb:=yG hex;clear hex;replace K2:=qB K2 hb;replace K5:=qB K5 hb;replace K6:=qB K6 hb;replace KB:=qS KB hb;clear hb;refine ko hK ?_;clear hK K;refine tk 28 ?_;refine tk 29 ?_;refine tk 30 ?_;refine tk 31 ?_;refine tk 32 ?_;refine tk 33 ?_;refine tk 34 ?_;refine tk 35 ?_;refine tk 36 ?_;refine tk 37 ?_;refine wpAnyH_done (by kernel_rfl) ?_ _
            try clear tq3p tq3e
            try clear tq1 tq1e
            try clear tq2 tq2e
            go_wp2;go_meet;exact⟨rfl,K2,K5,K6,KB⟩
           case rest=>
            clear K2 K5 K6 KB;obtain⟨rfl,K2,K5,K6,KB⟩:=hcut
            go_wp2_with (first|((with_reducible refine jG (N:=83) rfl ?_);refine jj.built rfl 28 #[] rfl #[] (by (try simp only[List.map_toArray,List.map_nil]);first|done|rfl) (HZB.out _) ?_)|((with_reducible refine jW (t:=28) (p:=2) (v:=.tmp 83) rfl ?_);refine jA.store rfl 28 (.tmp 2) (.tmp 83) rfl rfl rfl K2.out (by rw[jA.pv_size];exact hzl) hzl jA.infoP ?_;intro W4 s1 s2 s3;replace K2:=qA s1;replace KB:=qA (s2 w.heap.size w (Nat.le_refl _) KB.out);clear s1 s2 s3))
            refine bodyPost_ret (zO (p:=2) (u:=3) (v:=4) (ty:=28) rfl _ _ w.heap.size 28 (jA.pv zl) (0,0) _ rfl K2.out Tryz.underlying28 rfl (by rw[jA.infoP,jA.pv_size,hzl])) rfl ?_
            first|exact⟨rfl,hzl,KB.out⟩|exact⟨rfl,KB.out⟩
          ·have tv2:decide (9999<v)=false:=decide_eq_false hv2
           have tv2':(9999<v)=False:=eq_false hv2;rw[if_neg (by intro hh;rcases hh with h|h|h;exact absurd h (by decide);exact hv1 h;exact hv2 h)] at e4;have E4:=qA e4;clear e4 E3
           try simp only[Bool.not_true,Bool.not_false] at tq1e
           try simp only[Bool.not_true,Bool.not_false] at tq2e
           try simp only[Bool.not_true,Bool.not_false] at tq3e
           go_cut [82] (λs82 wx=>s82=.bool false/\Aside0 (wx.heap[w.heap.size]?=some (.cells (jA.pv zl) 28 (0,0)))/\Aside0 (wx.heap[g5]?=some (.cells #[.string p0,.string p1,.string p2,.string p3] 9 (0,0)))/\Aside0 (wx.heap[g6]?=some (.cells (jA.pv L2) 28 (0,0)))/\Aside0 (Below w.heap.size w wx))
           case first=>
            refine wp_region_held_drew (S:=λ_=>True) (by kernel_rfl) trivial (λ_=>?_);replace K2:=qD K2;replace K5:=qD K5;replace K6:=qD K6;replace KB:=qA (zD KB.out);refine tk 0 ?_;refine tk 1 ?_;refine tk 2 ?_;refine tk 3 ?_;refine tk 4 ?_;refine tk 5 ?_;refine tk 6 ?_;refine tk 7 ?_;refine tk 8 ?_;refine on1 9 (λK hK=>?_);show(if Region.wanted ⟨some 54,.load _ _,_,_,_,some (6,false)⟩ _=true then Oper.wp _ ⟨some 54,.load _ _,_,_,_,some (6,false)⟩ _ _ _ _ else _);have c5:=(jB K5.out 1).trans (show _=some (Value.string p1) from rfl);go_simp;clear c5;refine ko hK ?_;clear hK K;refine tk 10 ?_;refine tk 11 ?_;refine tk 12 ?_;refine tk 13 ?_;refine on1 14 (λK hK=>?_);show(if Region.wanted ⟨some 59,.load _ _,_,_,_,some (11,true)⟩ _=true then Oper.wp _ ⟨some 59,.load _ _,_,_,_,some (11,true)⟩ _ _ _ _ else _);have c5:=(jB K5.out 1).trans (show _=some (Value.string p1) from rfl);go_simp;clear c5;refine ko hK ?_;clear hK K;refine tk 15 ?_;refine tk 16 ?_;refine tk 17 ?_;refine tk 18 ?_;refine tk 19 ?_;refine tk 20 ?_;refine tk 21 ?_;refine tk 22 ?_;refine tk 23 ?_;refine tk 25 ?_;refine tk 26 ?_;refine wpAnyH_ready (rs:=[24,27]) (by kernel_rfl) (by simp) ?_;refine AllReadyH.cons rfl (λK hK=>?_) ?_
            ·show(if Region.wanted ⟨some 69,.call _,_,_,_,some (22,false)⟩ _=true then Oper.wp _ ⟨some 69,.call _,_,_,_,some (22,false)⟩ _ _ _ _ else _)
             go_simp;refine(Tryz.strconv_Itoa v HV1.out HV2.out _ (HENV.out.below KB.out).pow).mono ?_;rintro e w9 ⟨rfl,hex⟩;have hb:=yG hex;clear hex;replace K2:=qB K2 hb;replace K5:=qB K5 hb;replace K6:=qB K6 hb;replace KB:=qS KB hb;clear hb;refine ko hK ?_;clear hK K;refine on1 27 (λK hK=>?_);show(if Region.wanted ⟨some 72,.load _ _,_,_,_,some (22,false)⟩ _=true then Oper.wp _ ⟨some 72,.load _ _,_,_,_,some (22,false)⟩ _ _ _ _ else _);have c5:=(jB K5.out 3).trans (show _=some (Value.string p3) from rfl);go_simp;clear c5;refine ko hK ?_;clear hK K;refine tk 28 ?_;refine tk 29 ?_;refine tk 30 ?_;refine tk 31 ?_;refine tk 32 ?_;refine tk 33 ?_;refine tk 34 ?_;refine tk 35 ?_;refine tk 36 ?_;refine tk 37 ?_;refine wpAnyH_done (by kernel_rfl) ?_ _
             try clear tq3p tq3e
             try clear tq1 tq1e
             try clear tq2 tq2e
             go_wp2;go_meet;exact⟨rfl,K2,K5,K6,KB⟩
            refine AllReadyH.cons rfl (λK hK=>?_) AllReadyH.nil;show(if Region.wanted ⟨some 72,.load _ _,_,_,_,some (22,false)⟩ _=true then Oper.wp _ ⟨some 72,.load _ _,_,_,_,some (22,false)⟩ _ _ _ _ else _);have c5:=(jB K5.out 3).trans (show _=some (Value.string p3) from rfl);go_simp;clear c5;refine ko hK ?_;clear hK K;refine on1 24 (λK hK=>?_);show(if Region.wanted ⟨some 69,.call _,_,_,_,some (22,false)⟩ _=true then Oper.wp _ ⟨some 69,.call _,_,_,_,some (22,false)⟩ _ _ _ _ else _);go_simp;refine(Tryz.strconv_Itoa v HV1.out HV2.out _ (HENV.out.below KB.out).pow).mono ?_;rintro e w9 ⟨rfl,hex⟩;have hb:=yG hex;clear hex;replace K2:=qB K2 hb;replace K5:=qB K5 hb;replace K6:=qB K6 hb;replace KB:=qS KB hb;clear hb;refine ko hK ?_;clear hK K;refine tk 28 ?_;refine tk 29 ?_;refine tk 30 ?_;refine tk 31 ?_;refine tk 32 ?_;refine tk 33 ?_;refine tk 34 ?_;refine tk 35 ?_;refine tk 36 ?_;refine tk 37 ?_;refine wpAnyH_done (by kernel_rfl) ?_ _
            try clear tq3p tq3e
            try clear tq1 tq1e
            try clear tq2 tq2e
            go_wp2;go_meet;exact⟨rfl,K2,K5,K6,KB⟩
           case rest=>
            clear K2 K5 K6 KB;obtain⟨rfl,K2,K5,K6,KB⟩:=hcut;have c5:=(jB K5.out 1).trans (show _=some (Value.string p1) from rfl);have e4:=E4.out;clear tq3e tq3p;have hw:(p1.toList==[119])=true:=tq2e;have hwp:(p1.toList=[119])=True:=eq_true (by simpa using hw);clear tq1 tq1e tq2 tq2e;rw[hw,if_pos rfl,show b++h++[1]=L2.set 97 1 by rw[HL2.out,List.set_append_right _ _ (by simp;omega)];simp [hbl,hhl]] at e4;have f97:=jH K6.out 97;have d97:=(jB K6.out 97).trans (jA.pv_get L2 97 (by omega));go_upto_region 15 with(fail);clear c5 hw hwp f97 d97;have B6:=(zQ K6.out 97 (.int .i8 1)).trans (by rw[jA.pv_set]);have hc:=Ch.set_of K6.out 97 (.int .i8 1);have B2:=hc.blk HN26.out K2.out;have B5:=hc.blk HN56.out K5.out;have BB:=hc.2.1 _ _ HG6.out KB.out;generalize World.setCell _ ⟨g6,97,none⟩ (.int .i8 1)=W9 at *;clear K2 K5 K6 KB hc;have K2:=qA B2;have K5:=qA B5;have K6:=qA B6;have KB:=qA BB;clear B2 B5 B6 BB
            have hL3:(L2.set 97 1).length=98:=by rw[List.length_set];exact hL2l
            generalize L2.set 97 1=L3 at *;obtain⟨e0,hac,e5⟩:=Option.bind_eq_some_iff.mp e4;have HAC:=qA hac;clear e4 E4 hac
            by_cases he0:e0=0
            ·rw[if_pos he0] at e5
             have er:=Option.some.inj e5;simp only[Prod.mk.injEq] at er;obtain⟨rfl,rfl,rfl⟩:=er
             have te:(e0 != 0)=false:=by simpa using he0
             clear e5 he0
             go_wp2_with (first|((with_reducible refine jG (N:=89) rfl ?_);refine jA.load rfl 28 (.tmp 6) rfl rfl K6.out Tryz.underlying28 rfl jA.infoP (by omega) ?_;rw[show(L3.drop 0).take 98=L3 by rw[List.drop_zero,List.take_of_length_le (by omega)]])|(go_at_call 19;refine(zR.check_calls L3 e0 _ (HENV.out.below KB.out).tab hL3 HAC.out).mono ?_;rintro e w9 ⟨rfl,hb⟩;replace K2:=qB K2 hb;replace K5:=qB K5 hb;replace K6:=qB K6 hb;replace KB:=qS KB hb;clear hb)|((with_reducible refine jG (N:=95) rfl ?_);refine jA.load rfl 28 (.tmp 6) rfl rfl K6.out Tryz.underlying28 rfl jA.infoP (by omega) ?_;rw[show(L3.drop 0).take 98=L3 by rw[List.drop_zero,List.take_of_length_le (by omega)]])|((with_reducible refine jW (t:=28) (p:=2) (v:=.tmp 95) rfl ?_);refine jA.store rfl 28 (.tmp 2) (.tmp 95) rfl rfl rfl K2.out (by rw[jA.pv_size];exact hzl) hL3 jA.infoP ?_;intro W4 s1 s2 s3;replace K2:=qA s1;replace KB:=qA (s2 w.heap.size w (Nat.le_refl _) KB.out);clear s1 s2 s3))
             refine bodyPost_ret (zO (p:=2) (u:=3) (v:=4) (ty:=28) rfl _ _ w.heap.size 28 (jA.pv L3) (0,0) _ rfl K2.out Tryz.underlying28 rfl (by rw[jA.infoP,jA.pv_size,hL3])) rfl ?_
             first|exact⟨rfl,hL3,KB.out⟩|exact⟨rfl,KB.out⟩
            ·rw[if_neg he0] at e5
             have er:=Option.some.inj e5;simp only[Prod.mk.injEq] at er;obtain⟨rfl,rfl,rfl⟩:=er
             have te:(e0 != 0)=true:=by simpa using he0
             clear e5 he0
             go_wp2_with (first|((with_reducible refine jG (N:=89) rfl ?_);refine jA.load rfl 28 (.tmp 6) rfl rfl K6.out Tryz.underlying28 rfl jA.infoP (by omega) ?_;rw[show(L3.drop 0).take 98=L3 by rw[List.drop_zero,List.take_of_length_le (by omega)]])|(go_at_call 19;refine(zR.check_calls L3 e0 _ (HENV.out.below KB.out).tab hL3 HAC.out).mono ?_;rintro e w9 ⟨rfl,hb⟩;replace K2:=qB K2 hb;replace K5:=qB K5 hb;replace K6:=qB K6 hb;replace KB:=qS KB hb;clear hb)|((with_reducible refine jG (N:=93) rfl ?_);refine jj.built rfl 28 #[] rfl #[] (by (try simp only[List.map_toArray,List.map_nil]);first|done|rfl) (HZB.out _) ?_)|((with_reducible refine jW (t:=28) (p:=2) (v:=.tmp 93) rfl ?_);refine jA.store rfl 28 (.tmp 2) (.tmp 93) rfl rfl rfl K2.out (by rw[jA.pv_size];exact hzl) hzl jA.infoP ?_;intro W4 s1 s2 s3;replace K2:=qA s1;replace KB:=qA (s2 w.heap.size w (Nat.le_refl _) KB.out);clear s1 s2 s3))
             refine bodyPost_ret (zO (p:=2) (u:=3) (v:=4) (ty:=28) rfl _ _ w.heap.size 28 (jA.pv zl) (0,0) _ rfl K2.out Tryz.underlying28 rfl (by rw[jA.infoP,jA.pv_size,hzl])) rfl ?_
             first|exact⟨rfl,hzl,KB.out⟩|exact⟨rfl,KB.out⟩
       ·have e3:=e4
        rw[hn] at e3;dsimp only at e3;have er:=Option.some.inj e3;simp only[Prod.mk.injEq] at er;obtain⟨rfl,rfl,rfl⟩:=er;clear e3 E3
        try simp only[Bool.not_true,Bool.not_false] at tq1e
        try simp only[Bool.not_true,Bool.not_false] at tq2e
        try simp only[Bool.not_true,Bool.not_false] at tq3e
        go_cut [82] (λs82 wx=>s82=.bool true/\Aside0 (wx.heap[w.heap.size]?=some (.cells (jA.pv zl) 28 (0,0)))/\Aside0 (wx.heap[g5]?=some (.cells #[.string p0,.string p1,.string p2,.string p3] 9 (0,0)))/\Aside0 (wx.heap[g6]?=some (.cells (jA.pv L2) 28 (0,0)))/\Aside0 (Below w.heap.size w wx))
        case first=>
         refine wp_region_held_drew (S:=λ_=>True) (by kernel_rfl) trivial (λ_=>?_);replace K2:=qD K2;replace K5:=qD K5;replace K6:=qD K6;replace KB:=qA (zD KB.out);refine tk 0 ?_;refine tk 1 ?_;refine tk 2 ?_;refine tk 3 ?_;refine tk 4 ?_;refine tk 5 ?_;refine tk 6 ?_;refine tk 7 ?_;refine tk 8 ?_;refine on1 9 (λK hK=>?_);show(if Region.wanted ⟨some 54,.load _ _,_,_,_,some (6,false)⟩ _=true then Oper.wp _ ⟨some 54,.load _ _,_,_,_,some (6,false)⟩ _ _ _ _ else _);have c5:=(jB K5.out 1).trans (show _=some (Value.string p1) from rfl);go_simp;clear c5;refine ko hK ?_;clear hK K;refine tk 10 ?_;refine tk 11 ?_;refine tk 12 ?_;refine tk 13 ?_;refine on1 14 (λK hK=>?_);show(if Region.wanted ⟨some 59,.load _ _,_,_,_,some (11,true)⟩ _=true then Oper.wp _ ⟨some 59,.load _ _,_,_,_,some (11,true)⟩ _ _ _ _ else _);have c5:=(jB K5.out 1).trans (show _=some (Value.string p1) from rfl);go_simp;clear c5;refine ko hK ?_;clear hK K;refine tk 15 ?_;refine tk 16 ?_;refine tk 17 ?_;refine tk 18 ?_;refine tk 19 ?_;refine tk 20 ?_;refine tk 21 ?_;refine tk 22 ?_;refine tk0 23 ?_;refine tk0 24 ?_;refine tk0 25 ?_;refine tk0 26 ?_;refine tk0 27 ?_;refine tk0 28 ?_;refine tk 29 ?_;refine tk 30 ?_;refine tk0 31 ?_;refine tk0 32 ?_;refine tk 33 ?_;refine tk 34 ?_;refine tk0 35 ?_;refine tk0 36 ?_
         refine tk 37 ?_;refine wpAnyH_done (by kernel_rfl) ?_ _
         try clear tq3p tq3e
         try clear tq1 tq1e
         try clear tq2 tq2e
         go_wp2;go_meet;exact⟨rfl,K2,K5,K6,KB⟩
        case rest=>
         clear K2 K5 K6 KB;obtain⟨rfl,K2,K5,K6,KB⟩:=hcut
         go_wp2_with (first|((with_reducible refine jG (N:=83) rfl ?_);refine jj.built rfl 28 #[] rfl #[] (by (try simp only[List.map_toArray,List.map_nil]);first|done|rfl) (HZB.out _) ?_)|((with_reducible refine jW (t:=28) (p:=2) (v:=.tmp 83) rfl ?_);refine jA.store rfl 28 (.tmp 2) (.tmp 83) rfl rfl rfl K2.out (by rw[jA.pv_size];exact hzl) hzl jA.infoP ?_;intro W4 s1 s2 s3;replace K2:=qA s1;replace KB:=qA (s2 w.heap.size w (Nat.le_refl _) KB.out);clear s1 s2 s3))
         refine bodyPost_ret (zO (p:=2) (u:=3) (v:=4) (ty:=28) rfl _ _ w.heap.size 28 (jA.pv zl) (0,0) _ rfl K2.out Tryz.underlying28 rfl (by rw[jA.infoP,jA.pv_size,hzl])) rfl ?_
         first|exact⟨rfl,hzl,KB.out⟩|exact⟨rfl,KB.out⟩
end Go.Proofs.YtigenhbmgpfffaaGreatDoor.Pa
