import Derived.Test.YtigenhbmgpfffaaGreatDoorB31
import Derived.Test.YtigenhbmgpfffaaGreatDoorB33
set_option maxRecDepth 100000
set_option maxHeartbeats 16000000
namespace Go.Proofs.YtigenhbmgpfffaaGreatDoor.Pa
open Go.RowKit Go.Proofs.YtigenhbmgpfffaaGreatDoorW.PrintWords Go.Proofs.YtigenhbmgpfffaaGreatDoorW.PrintLast Go.Proofs.YtigenhbmgpfffaaGreatDoorW.PrintMore
attribute [local go_sem] yE yC yM yL zo zn yD yB
set_option linter.unusedVariables false
set_option linter.unusedSimpArgs false
theorem eqi_plain (d:Nat) (a b:List Int) (W:World):∀is:List Nat, (∀i ∈ is, i<a.length/\i<b.length)->(Op.eqItems (d+1) 23 1 (jA.pv a) (jA.pv b) is).run Tryz.prog W=.ok (is.all λi=>a.getD i 0==b.getD i 0) W
 | [],_=>by simp [Op.eqItems]
 | i::is,h=>by
  obtain⟨h1,h2⟩:=h i (List.mem_cons_self ..);have ih:=eqi_plain d a b W is λj hj=>h j (List.mem_cons_of_mem _ hj);have q0:=run_part_plain W (e:=23) (P:=Tryz.prog) (by kernel_rfl) (jA.pv_get a i h1);have q1:=run_part_plain W (e:=23) (P:=Tryz.prog) (by kernel_rfl) (jA.pv_get b i h2);have e0:(Op.equalIn (d+1) 23 (.int .i8 (a.getD i 0)) (.int .i8 (b.getD i 0))).run Tryz.prog W=.ok (a.getD i 0==b.getD i 0) W:=run_equalIn_int (w:=W) d 23 .i8 .i8 _ _ Tryz.underlying23;simp only[Op.eqItems,Nat.mul_one,Sem.run_bind,q0,q1,e0,Result.andThen_ok,Sem.run_ite]
  cases hb:(a.getD i 0==b.getD i 0)
  ·simp only[Bool.not_false,if_true,Sem.run_pure,List.all_cons,hb,Bool.false_and]
  ·simp only[Bool.not_true,Bool.false_eq_true,if_false]
   rw[ih];simp only[List.all_cons,hb,Bool.true_and]
theorem eqi_plain8 (d:Nat) (a b:List Int) (W:World):∀is:List Nat, (∀i ∈ is, i<a.length/\i<b.length)->(Op.eqItems (d+1) 22 1 (jA.pv a) (jA.pv b) is).run Tryz.prog W=.ok (is.all λi=>a.getD i 0==b.getD i 0) W
 | [],_=>by simp [Op.eqItems]
 | i::is,h=>by
  obtain⟨h1,h2⟩:=h i (List.mem_cons_self ..);have ih:=eqi_plain8 d a b W is λj hj=>h j (List.mem_cons_of_mem _ hj);have q0:=run_part_plain W (e:=22) (P:=Tryz.prog) (by kernel_rfl) (jA.pv_get a i h1);have q1:=run_part_plain W (e:=22) (P:=Tryz.prog) (by kernel_rfl) (jA.pv_get b i h2);have e0:(Op.equalIn (d+1) 22 (.int .i8 (a.getD i 0)) (.int .i8 (b.getD i 0))).run Tryz.prog W=.ok (a.getD i 0==b.getD i 0) W:=run_equalIn_int (w:=W) d 22 .i8 .i8 _ _ Tryz.underlying22;simp only[Op.eqItems,Nat.mul_one,Sem.run_bind,q0,q1,e0,Result.andThen_ok,Sem.run_ite]
  cases hb:(a.getD i 0==b.getD i 0)
  ·simp only[Bool.not_false,if_true,Sem.run_pure,List.all_cons,hb,Bool.false_and]
  ·simp only[Bool.not_true,Bool.false_eq_true,if_false]
   rw[ih];simp only[List.all_cons,hb,Bool.true_and]
theorem all_eq (n:Nat) (a b:List Int) (ha:a.length=n) (hb:b.length=n):((List.range n).all λi=>a.getD i 0==b.getD i 0)=decide (a=b):=by
 rw[Bool.eq_iff_iff,decide_eq_true_eq,List.all_eq_true]
 constructor
 ·intro h
  apply List.ext_getElem (by omega)
  intro i h1 h2;have:=h i (List.mem_range.2 (by omega));rw[beq_iff_eq,List.getD_eq_getElem?_getD,List.getD_eq_getElem?_getD,List.getElem?_eq_getElem h1,List.getElem?_eq_getElem h2] at this;exact this
 ·rintro rfl i _
  exact beq_self_eq_true _
theorem part_row (t:TypeId) (n off:Nat) (l:List Int) (W:World) (hc:Tryz.prog.cellsOf t=n) (hi:(Tryz.prog.info? t).isSome=true) (ha:(isAgg t).run Tryz.prog W=.ok true W):(part t (jA.pv l) off).run Tryz.prog W=.ok (.agg (jA.pv ((l.drop off).take n))) W:=by
 obtain⟨i,hi1⟩:=Option.isSome_iff_exists.1 hi;have hs:=run_sizeOf W hi1;simp only[part,Sem.run_bind,ha,hs,Result.andThen_ok,if_true,hc,Sem.run_pure]
 have e:(jA.pv l).extract off (off+n)=jA.pv ((l.drop off).take n):=by
  apply Array.toList_inj.1
  simp [jA.pv,List.map_drop,List.map_take]
 rw[e]
theorem eq81 (d:Nat) (a b:List Int) (W:World) (ha:a.length=81) (hb:b.length=81):(Op.equalIn (d+2) 24 (.agg (jA.pv a)) (.agg (jA.pv b))).run Tryz.prog W=.ok (decide (a=b)) W:=by
 have h1:(Tryz.prog.info? 23).isSome=true:=by kernel_rfl
 obtain⟨i,hi⟩:=Option.isSome_iff_exists.1 h1
 have hc:Tryz.prog.cellsOf 23=1:=by kernel_rfl
 have e1:=run_equalIn_array W (d+1) (jA.pv a) (jA.pv b) Tryz.underlying24 hi;rw[hc] at e1;refine e1.trans ((eqi_plain d a b W (List.range 81) (λi hi=>?_)).trans ?_)
 ·have:=List.mem_range.1 hi
  omega
 ·exact congrArg (λz=>Result.ok z W) (all_eq 81 a b ha hb)
theorem eq8 (d:Nat) (a b:List Int) (W:World) (ha:a.length=8) (hb:b.length=8):(Op.equalIn (d+2) 25 (.agg (jA.pv a)) (.agg (jA.pv b))).run Tryz.prog W=.ok (decide (a=b)) W:=by
 have h1:(Tryz.prog.info? 22).isSome=true:=by kernel_rfl
 obtain⟨i,hi⟩:=Option.isSome_iff_exists.1 h1
 have hc:Tryz.prog.cellsOf 22=1:=by kernel_rfl
 rw[run_equalIn_array W (d+1) _ _ Tryz.underlying25 hi,hc,eqi_plain8 d a b W _ (λi hi=>by have:=List.mem_range.1 hi;omega),all_eq 8 a b ha hb]
theorem agg8 (W:World):(isAgg 25).run Tryz.prog W=.ok true W:=by simp only[isAgg,Sem.run_bind,run_underlying Tryz.underlying25,Result.andThen_ok,Sem.run_pure]
theorem agg81 (W:World):(isAgg 24).run Tryz.prog W=.ok true W:=by simp only[isAgg,Sem.run_bind,run_underlying Tryz.underlying24,Result.andThen_ok,Sem.run_pure]
theorem agg16 (W:World):(isAgg 26).run Tryz.prog W=.ok true W:=by simp only[isAgg,Sem.run_bind,run_underlying Tryz.underlying26,Result.andThen_ok,Sem.run_pure]
theorem eq16 (d:Nat) (a b:List Int) (W:World) (ha:a.length=16) (hb:b.length=16):(Op.equalIn (d+3) 26 (.agg (jA.pv a)) (.agg (jA.pv b))).run Tryz.prog W=.ok (decide (a=b)) W:=by
 have h1:(Tryz.prog.info? 25).isSome=true:=by kernel_rfl
 obtain⟨i,hi⟩:=Option.isSome_iff_exists.1 h1
 have hc:Tryz.prog.cellsOf 25=8:=by kernel_rfl
 rw[run_equalIn_array W (d+2) _ _ Tryz.underlying26 hi,hc,show List.range 2=[0,1] from rfl];have p (l:List Int) (o:Nat):=part_row 25 8 o l W hc h1 (agg8 W);have e0:=eq8 d ((a.drop (0*8)).take 8) ((b.drop (0*8)).take 8) W (by simp [ha]) (by simp [hb]);have e1:=eq8 d ((a.drop (1*8)).take 8) ((b.drop (1*8)).take 8) W (by simp [ha]) (by simp [hb])
 have hd:decide (a=b)=(decide ((a.drop (0*8)).take 8=(b.drop (0*8)).take 8)&&decide ((a.drop (1*8)).take 8=(b.drop (1*8)).take 8)):=by
  rw[Bool.eq_iff_iff,Bool.and_eq_true,decide_eq_true_eq,decide_eq_true_eq,decide_eq_true_eq]
  constructor
  ·rintro rfl;exact⟨rfl,rfl⟩
  ·rintro⟨h0,h1⟩
   rw[Nat.zero_mul,List.drop_zero,List.drop_zero] at h0;rw[List.take_of_length_le (by simp [ha]),List.take_of_length_le (by simp [hb])] at h1;rw[<- List.take_append_drop 8 a,<- List.take_append_drop 8 b,h0]
   congr 1
 simp only[Op.eqItems,Sem.run_bind,p,e0,e1,Result.andThen_ok,Sem.run_ite,Sem.run_pure];rw[hd]
 cases decide ((a.drop (0*8)).take 8=(b.drop (0*8)).take 8)<;>cases decide ((a.drop (1*8)).take 8=(b.drop (1*8)).take 8)<;>rfl
theorem pos_stood:Tryz.prog.stoodInHeld 28=false:=by kernel_rfl
theorem pos_under:Tryz.prog.underlying 28=some (.struct (Tryz.prog.fieldsOf 28)):=by unfold Program.fieldsOf;rw[Tryz.underlying28]
theorem pos_fields : (Tryz.prog.fieldsOf 28).toList.map (fun f => (f.name == "_", f.type, f.offset)) = [(false, 24, 0), (false, 26, 81), (false, 22, 97)] := by
 unfold Program.fieldsOf;rw[Tryz.underlying28]
 rfl
theorem pos_cut (a b:List Int) (ha:a.length=98) (hb:b.length=98):decide (a=b)=(decide ((a.drop 0).take 81=(b.drop 0).take 81)&&(decide ((a.drop 81).take 16=(b.drop 81).take 16)&&(a.getD 97 0==b.getD 97 0))):=by
 rw[Bool.eq_iff_iff,Bool.and_eq_true,Bool.and_eq_true,decide_eq_true_eq,decide_eq_true_eq,decide_eq_true_eq,beq_iff_eq]
 constructor
 ·rintro rfl;exact⟨rfl,rfl,rfl⟩
 ·rintro⟨h0,h1,h2⟩
  have f:∀l:List Int,l.length=98->(l.drop 0).take 81++((l.drop 81).take 16++[l.getD 97 0])=l:=λl hl=>by
   have g:(l.drop 81).drop 16=[l.getD 97 0]:=by
    rw[List.drop_drop,show 81+16=97 from rfl,List.drop_eq_getElem_cons (by omega),List.drop_eq_nil_of_le (by omega),List.getD_eq_getElem?_getD,List.getElem?_eq_getElem (by omega)];rfl
   rw[<- g,List.take_append_drop,List.drop_zero,List.take_append_drop]
  have h3:(a.drop 0).take 81++((a.drop 81).take 16++[a.getD 97 0])=(b.drop 0).take 81++((b.drop 81).take 16++[b.getD 97 0]):=by rw[h0,h1,h2]
  exact(f a ha).symm.trans (h3.trans (f b hb))
theorem eqF_step (d : Nat) (xs ys : Array Value) (f : Field) (fs : List Field) (W : World) (x y : Value) (r r' : Bool) (hn : f.name ≠ "_") (hx : (part f.type xs f.offset).run Tryz.prog W = .ok x W) (hy : (part f.type ys f.offset).run Tryz.prog W = .ok y W) (he : (Op.equalIn d f.type x y).run Tryz.prog W = .ok r W) (hr : (Op.eqFields d xs ys fs).run Tryz.prog W = .ok r' W) :
  (Op.eqFields d xs ys (f::fs)).run Tryz.prog W=.ok (r&&r') W:=by
 unfold Op.eqFields;rw[if_pos hn];simp only[Sem.run_bind,hx,hy,he,Result.andThen_ok]
 cases r
 ·rfl
 ·rw[if_neg (by decide)]
  exact hr
theorem eqpos_d (d:Nat) (a b:List Int) (W:World) (ha:a.length=98) (hb:b.length=98):(Op.equalIn (d+4) 28 (.agg (jA.pv a)) (.agg (jA.pv b))).run Tryz.prog W=.ok (decide (a=b)) W:=by
 rw[run_equalIn_struct W (d+3) _ _ _ pos_under pos_stood]
 have i0:(Tryz.prog.info? 24).isSome=true:=by kernel_rfl
 have i1:(Tryz.prog.info? 26).isSome=true:=by kernel_rfl
 have p0 (l:List Int):=part_row 24 81 0 l W (by kernel_rfl) i0 (agg81 W);have p1 (l:List Int):=part_row 26 16 81 l W (by kernel_rfl) i1 (agg16 W);have p2 (l:List Int) (hl:l.length=98):=run_part_plain W (e:=22) (P:=Tryz.prog) (by kernel_rfl) (jA.pv_get l 97 (by omega));have e0:(Op.equalIn (d+3) 24 (.agg (jA.pv ((a.drop 0).take 81))) (.agg (jA.pv ((b.drop 0).take 81)))).run Tryz.prog W=.ok (decide ((a.drop 0).take 81=(b.drop 0).take 81)) W:=eq81 (d+1) ((a.drop 0).take 81) ((b.drop 0).take 81) W (by simp [ha]) (by simp [hb]);have e1:(Op.equalIn (d+3) 26 (.agg (jA.pv ((a.drop 81).take 16))) (.agg (jA.pv ((b.drop 81).take 16)))).run Tryz.prog W=.ok (decide ((a.drop 81).take 16=(b.drop 81).take 16)) W:=eq16 d ((a.drop 81).take 16) ((b.drop 81).take 16) W (by simp [ha]) (by simp [hb]);have e2:(Op.equalIn (d+3) 22 (.int .i8 (a.getD 97 0)) (.int .i8 (b.getD 97 0))).run Tryz.prog W=.ok (a.getD 97 0==b.getD 97 0) W:=run_equalIn_int (w:=W) (d+2) 22 .i8 .i8 _ _ Tryz.underlying22;have hd:=pos_cut a b ha hb;have hf:=pos_fields;generalize (Tryz.prog.fieldsOf 28).toList=fs at hf ⊢
 rcases fs with _|⟨f0,_|⟨f1,_|⟨f2,_|⟨f3,fs⟩⟩⟩⟩
 ·cases hf
 ·simp at hf
 ·simp at hf
 ·simp only[List.map_cons,List.map_nil,List.cons.injEq,Prod.mk.injEq,and_true] at hf
  obtain⟨⟨n0,t0,o0⟩,⟨n1,t1,o1⟩,n2,t2,o2⟩:=hf
  have q0 : f0.name ≠ "_" := by simpa using n0
  have q1 : f1.name ≠ "_" := by simpa using n1
  have q2 : f2.name ≠ "_" := by simpa using n2
  rw[hd];refine eqF_step _ _ _ _ _ W _ _ _ _ q0 (by rw[t0,o0];exact p0 a) (by rw[t0,o0];exact p0 b) (by rw[t0];exact e0) ?_;refine eqF_step _ _ _ _ _ W _ _ _ _ q1 (by rw[t1,o1];exact p1 a) (by rw[t1,o1];exact p1 b) (by rw[t1];exact e1) ?_;rw[<- Bool.and_true (a.getD 97 0==b.getD 97 0)];refine eqF_step _ _ _ _ _ W _ _ _ _ q2 (by rw[t2,o2];exact p2 a ha) (by rw[t2,o2];exact p2 b hb) (by rw[t2];exact e2) ?_
  rfl
 ·simp at hf
theorem eqpos (a b:List Int) (W:World) (ha:a.length=98) (hb:b.length=98):(Op.equalIn 10000 28 (.agg (jA.pv a)) (.agg (jA.pv b))).run Tryz.prog W=.ok (decide (a=b)) W:=eqpos_d 9996 a b W ha hb
theorem atoi_range:∀s v,jAG s=some v->-9223372036854775808<=v/\v<=9223372036854775807:=λs v h=>by
 unfold jAG at h
 cases hq:Lib.atoiAll s.data.toList
 ·rename_i u
  rw[hq] at h;have e:u=v:=Option.some.inj h;subst e;exact Lib.atoiAll_bounds hq
 ·rw[hq] at h;cases h
 ·rw[hq] at h;cases h
theorem name_le2:∀(x:Int) (nm:ByteArray),yJ.f 20 x=some nm->nm.size<=2:=λx nm h=>by
 have h2:∀a b:Int,(strOfNums [a,b]).size=2:=λ_ _=>rfl;have h1:∀a:Int,(strOfNums [a]).size=1:=λ_=>rfl;unfold yJ.f at h;obtain⟨k,_,h⟩:=Option.bind_eq_some_iff.mp h
 split at h
 ·obtain rfl:=Option.some.inj h
  exact Nat.zero_le _
 ·obtain⟨r,_,h⟩:=Option.bind_eq_some_iff.mp h
  split at h
  ·split at h
   ·obtain⟨s,_,h⟩:=Option.bind_eq_some_iff.mp h
    split at h<;>split at h<;>obtain rfl:=Option.some.inj h
    ·rw[h2];exact Nat.le_refl _
    ·rw[h1];exact by decide
    ·rw[h2];exact Nat.le_refl _
    ·rw[h1];exact by decide
   ·cases h
  ·cases h
theorem yb.e1:jk.f ⟨#[108,110,115,103,107,103,115,110,108,47,49,114,53,98,49,47,112,112,112,112,112,112,112,112,112,47,57,47,57,47,57,47,80,80,80,80,80,80,80,80,80,47,49,66,53,82,49,47,76,78,83,71,75,71,83,78,76,32,98,32,45,32,49]⟩=some (jN.startL,1,0):=by kernel_rfl
theorem yb.e2:jf.f jN.startL 1=some ⟨#[108,110,115,103,107,103,115,110,108,47,49,114,53,98,49,47,112,112,112,112,112,112,112,112,112,47,57,47,57,47,57,47,80,80,80,80,80,80,80,80,80,47,49,66,53,82,49,47,76,78,83,71,75,71,83,78,76,32,98,32,45,32,49]⟩:=by kernel_rfl
theorem yb.calls (w:World) (henv:Env w):Calls Tryz.prog 9 #[] w λe w'=>e=.returned (.bool true)/\Below w.heap.size w w':=by
 have hz:=jN.zero
 have hll:jN.startL.length=98:=by decide +kernel
 have HZ:Aside0 ((jA.pv jN.zl).size=98):=⟨by rw[jA.pv_size,jN.zl_len]⟩
 have E1:=qA yb.e1;have E2:=qA yb.e2
 obtain⟨L,hL⟩:∃L,jN.startL=L:=⟨_,rfl⟩
 have HL:=qA hL;rw[hL] at hll E1 E2;clear hL;have heq:∀W,(Op.equalIn 10000 28 (.agg (jA.pv L)) (.agg (jA.pv L))).run Tryz.prog W=.ok true W:=λW=>(eqpos L L W hll hll).trans (by rw[decide_eq_true rfl]);have KB:=qA (Below.refl w.heap.size w);have KE:=qA henv;clear henv;go_enter Tryz.func9,Tryz.ntmps9;go_upto_region 2 with(first|(go_at_call 12;(with_reducible refine(jk.parse_calls _ L 1 0 _ KE.out atoi_range E1.out).mono ?_);rintro e w7 ⟨rfl,hlen,hb⟩;clear hlen;replace KB:=qS KB hb;replace KE:=qA (KE.out.below hb);clear hb)|((with_reducible refine jW (t:=28) (p:=1) (v:=.tmp 6) rfl ?_);refine jA.store rfl 28 (.tmp 1) (.tmp 6) rfl rfl rfl (zJ _ _) HZ.out hll jA.infoP ?_;intro W3 s1 s2 s3;have K1:=qA s1;replace KB:=qA (s2 w.heap.size w KB.out.size (ji KB.out _));replace KE:=qA (KE.out.below (s2 _ _ (Nat.le_refl _) (ji (Below.refl _ _) _)));clear s1 s2 s3));generalize w7.heap.size=g1 at *;clear hz HZ E1;go_cut [0] (λs0 wx=>s0=.bool true/\Aside0 (Below w.heap.size w wx))
 case first=>
  refine wp_region_held_drew (S:=λ_=>True) (by kernel_rfl) trivial (λ_=>?_);replace K1:=qD K1;replace KB:=qA (zD KB.out);replace KE:=qA (KE.out.below (zD (Below.refl _ _)));refine tk 0 ?_;refine tk 1 ?_;refine tk 2 ?_;refine tk 3 ?_;refine tk 4 ?_;refine tk 5 ?_;refine tk 6 ?_;refine wpAnyH_ready (rs:=[7,8]) (by kernel_rfl) (by simp) ?_;refine AllReadyH.cons rfl (λK hK=>?_) ?_
  ·show(if Region.wanted ⟨some 16,.load 28 (.tmp 1),_,_,_,some (6,true)⟩ _=true then Oper.wp _ ⟨some 16,.load 28 (.tmp 1),_,_,_,some (6,true)⟩ _ _ _ _ else _)
   rw[if_pos (by rfl)];refine jA.wp_load 28 (.tmp 1) rfl rfl K1.out Tryz.underlying28 rfl jA.infoP (by omega) ?_;rw[show(L.drop 0).take 98=L by rw[List.drop_zero,List.take_of_length_le (by omega)]];refine ko hK ?_;clear hK K;refine on1 8 (λK hK=>?_);show(if Region.wanted ⟨some 17,.call _,_,_,_,some (6,true)⟩ _=true then Oper.wp _ ⟨some 17,.call _,_,_,_,some (6,true)⟩ _ _ _ _ else _);go_simp;refine(jN.start_calls _).mono ?_;rw[HL.out];rintro e w7 ⟨rfl,hb⟩;replace K1:=qB K1 hb;replace KB:=qS KB hb;replace KE:=qA (KE.out.below hb);clear hb;refine ko hK ?_;clear hK K;refine tk 9 ?_;refine tk 10 ?_;refine tk 11 ?_;refine on1 12 (λK hK=>?_);show(if Region.wanted ⟨some 21,.load 28 (.tmp 1),_,_,_,some (11,true)⟩ _=true then Oper.wp _ ⟨some 21,.load 28 (.tmp 1),_,_,_,some (11,true)⟩ _ _ _ _ else _);rw[if_pos (by rfl)];refine jA.wp_load 28 (.tmp 1) rfl rfl K1.out Tryz.underlying28 rfl jA.infoP (by omega) ?_;rw[show(L.drop 0).take 98=L by rw[List.drop_zero,List.take_of_length_le (by omega)]];refine ko hK ?_;clear hK K;refine on1 13 (λK hK=>?_);show(if Region.wanted ⟨some 22,.call _,_,_,_,some (11,true)⟩ _=true then Oper.wp _ ⟨some 22,.call _,_,_,_,some (11,true)⟩ _ _ _ _ else _);go_simp;refine(jf.print_calls L 1 _ _ KE.out.tab KE.out.pow hll name_le2 E2.out).mono ?_;rintro e w7 ⟨rfl,hb⟩
   replace K1:=qB K1 hb;replace KB:=qS KB hb;replace KE:=qA (KE.out.below hb);clear hb;refine ko hK ?_;clear hK K;refine tk 14 ?_;refine tk 15 ?_;refine tk 16 ?_;refine tk 17 ?_;refine tk 18 ?_;refine wpAnyH_done (by kernel_rfl) ?_ _;go_wp2;go_meet;exact⟨rfl,KB⟩
  refine AllReadyH.cons rfl (λK hK=>?_) AllReadyH.nil;show(if Region.wanted ⟨some 17,.call _,_,_,_,some (6,true)⟩ _=true then Oper.wp _ ⟨some 17,.call _,_,_,_,some (6,true)⟩ _ _ _ _ else _);go_simp;refine(jN.start_calls _).mono ?_;rw[HL.out];rintro e w7 ⟨rfl,hb⟩;replace K1:=qB K1 hb;replace KB:=qS KB hb;replace KE:=qA (KE.out.below hb);clear hb;refine ko hK ?_;clear hK K;refine on1 7 (λK hK=>?_);show(if Region.wanted ⟨some 16,.load 28 (.tmp 1),_,_,_,some (6,true)⟩ _=true then Oper.wp _ ⟨some 16,.load 28 (.tmp 1),_,_,_,some (6,true)⟩ _ _ _ _ else _);rw[if_pos (by rfl)];refine jA.wp_load 28 (.tmp 1) rfl rfl K1.out Tryz.underlying28 rfl jA.infoP (by omega) ?_;rw[show(L.drop 0).take 98=L by rw[List.drop_zero,List.take_of_length_le (by omega)]];refine ko hK ?_;clear hK K;refine tk 9 ?_;refine tk 10 ?_;refine tk 11 ?_;refine on1 12 (λK hK=>?_);show(if Region.wanted ⟨some 21,.load 28 (.tmp 1),_,_,_,some (11,true)⟩ _=true then Oper.wp _ ⟨some 21,.load 28 (.tmp 1),_,_,_,some (11,true)⟩ _ _ _ _ else _);rw[if_pos (by rfl)];refine jA.wp_load 28 (.tmp 1) rfl rfl K1.out Tryz.underlying28 rfl jA.infoP (by omega) ?_;rw[show(L.drop 0).take 98=L by rw[List.drop_zero,List.take_of_length_le (by omega)]];refine ko hK ?_;clear hK K;refine on1 13 (λK hK=>?_);show(if Region.wanted ⟨some 22,.call _,_,_,_,some (11,true)⟩ _=true then Oper.wp _ ⟨some 22,.call _,_,_,_,some (11,true)⟩ _ _ _ _ else _)
  go_simp;refine(jf.print_calls L 1 _ _ KE.out.tab KE.out.pow hll name_le2 E2.out).mono ?_;rintro e w7 ⟨rfl,hb⟩;replace K1:=qB K1 hb;replace KB:=qS KB hb;replace KE:=qA (KE.out.below hb);clear hb;refine ko hK ?_;clear hK K;refine tk 14 ?_;refine tk 15 ?_;refine tk 16 ?_;refine tk 17 ?_;refine tk 18 ?_;refine wpAnyH_done (by kernel_rfl) ?_ _;go_wp2;go_meet;exact⟨rfl,KB⟩
 case rest=>
  clear K1 KB KE;obtain⟨rfl,KB⟩:=hcut;go_wp2;go_ret;exact⟨rfl,KB.out⟩
def jc.f (a0:Int):Option (Int):=if a0<1 then(some 0) else(if a0>31 then(some 0) else(if a0=13 then(some 0) else(if a0=16 then(some 0) else(if a0=29 then(some 0) else(some (Int.tmod a0 16))))))
theorem jc.calls (a0:Int) (r:Int) (w:World) (h:jc.f a0=some r):
  Calls Tryz.prog 57 #[.int .i64 a0] w λe w'=>e=.returned (.int .i64 r)/\Drawn0 w w':=by
 have H:(if a0<1 then(some 0) else(if a0>31 then(some 0) else(if a0=13 then(some 0) else(if a0=16 then(some 0) else(if a0=29 then(some 0) else(some (Int.tmod a0 16)))))))=some r:=h;clear h
 by_cases c2:a0<1
 ·rw[if_pos c2] at H
  have c2b0:decide (a0<1)=true:=decide_eq_true c2;clear c2;obtain rfl:=Option.some.inj H;go_enter Tryz.func57,Tryz.ntmps57;go_wp2;go_ret;exact⟨by first|rfl|(simp;done)|(simp [*];done),by repeat (first|exact Drawn0.refl _|apply Drawn0.step)⟩
 ·rw[if_neg c2] at H
  have c2b0:decide (a0<1)=false:=decide_eq_false c2;clear c2
  by_cases c3:a0>31
  ·rw[if_pos c3] at H
   have c3b0:decide (31<a0)=true:=decide_eq_true c3;clear c3;obtain rfl:=Option.some.inj H;go_enter Tryz.func57,Tryz.ntmps57;go_wp2;go_ret;exact⟨by first|rfl|(simp;done)|(simp [*];done),by repeat (first|exact Drawn0.refl _|apply Drawn0.step)⟩
  ·rw[if_neg c3] at H
   have c3b0:decide (31<a0)=false:=decide_eq_false c3;clear c3
   by_cases c4:a0=13
   ·rw[if_pos c4] at H
    have c4b0:(a0==13)=true:=beq_iff_eq.mpr c4;have c4b1:(a0 != 13)=false:=bne_eq_false_iff_eq.mpr c4;clear c4;obtain rfl:=Option.some.inj H;go_enter Tryz.func57,Tryz.ntmps57;go_wp2;go_ret;exact⟨by first|rfl|(simp;done)|(simp [*];done),by repeat (first|exact Drawn0.refl _|apply Drawn0.step)⟩
   ·rw[if_neg c4] at H
    have c4b0:(a0==13)=false:=beq_eq_false_iff_ne.mpr c4;have c4b1:(a0 != 13)=true:=bne_iff_ne.mpr c4
    by_cases c5:a0=16
    ·rw[if_pos c5] at H
     have c5b0:(a0==16)=true:=beq_iff_eq.mpr c5;have c5b1:(a0 != 16)=false:=bne_eq_false_iff_eq.mpr c5;clear c5;obtain rfl:=Option.some.inj H;go_enter Tryz.func57,Tryz.ntmps57;go_wp2;go_ret;exact⟨by first|rfl|(simp;done)|(simp [*];done),by repeat (first|exact Drawn0.refl _|apply Drawn0.step)⟩
    ·rw[if_neg c5] at H
     have c5b0:(a0==16)=false:=beq_eq_false_iff_ne.mpr c5;have c5b1:(a0 != 16)=true:=bne_iff_ne.mpr c5
     by_cases c6:a0=29
     ·rw[if_pos c6] at H
      have c6b0:(a0==29)=true:=beq_iff_eq.mpr c6;have c6b1:(a0 != 29)=false:=bne_eq_false_iff_eq.mpr c6;clear c6;obtain rfl:=Option.some.inj H;go_enter Tryz.func57,Tryz.ntmps57;go_wp2;go_ret;exact⟨by first|rfl|(simp;done)|(simp [*];done),by repeat (first|exact Drawn0.refl _|apply Drawn0.step)⟩
     ·rw[if_neg c6] at H
      have c6b0:(a0==29)=false:=beq_eq_false_iff_ne.mpr c6;have c6b1:(a0 != 29)=true:=bne_iff_ne.mpr c6;obtain rfl:=Option.some.inj H;go_enter Tryz.func57,Tryz.ntmps57;go_wp2;go_ret;exact⟨by first|rfl|(simp;done)|(simp [*];done),by repeat (first|exact Drawn0.refl _|apply Drawn0.step)⟩
def cntR (g:Nat->Bool):Nat->Nat
 | 0=>0
 | n+1=>cntR g n+(if g n=true then 1 else 0)
theorem cntR_le (g:Nat->Bool):∀n,cntR g n<=n
 | 0=>Nat.le_refl _
 | n+1=>by have:=cntR_le g n;unfold cntR;split<;>omega
theorem cntR_on {g:Nat->Bool} {n:Nat} (h:g n=true):cntR g (n+1)=cntR g n+1:=by
 show cntR g n+_=_;rw[if_pos h]
theorem cntR_off {g:Nat->Bool} {n:Nat} (h:g n=false):cntR g (n+1)=cntR g n:=by
 have:¬g n=true:=by rw[h];decide
 show cntR g n+_=_;rw[if_neg this];omega
def jt.g (cs:List Int) (p:Int) (f r:Nat):Bool:=wrap64 (cs.getD (9*f+r) 0)==p
def jt.f (cs:List Int) (p:Int) (f:Nat):Nat:=cntR (jt.g cs p f) 9
theorem jt.on_calls (cs:List Int) (p:Int) (f r:Nat) (w:World) (hl:cs.length=98) (hf:f<9) (h:jt.f cs p f=r):
  Calls Tryz.prog 74 #[.agg (jA.pv cs),.int .i64 p,.int .i64 (f:Int)] w λe w'=>e=.returned (.int .i64 (r:Int))/\Below w.heap.size w w':=by
 subst h
 obtain⟨m9,hm9⟩:∃m9:Nat,m9=9*f:=⟨_,rfl⟩
 have e1:IntKind.i64.wrap (9*(f:Int))=(m9:Int):=by rw[IntWalk.i64_in _ (by omega)];omega
 have B1:(w.alloc (Obj.cells (jA.pv cs) 28)).heap[w.heap.size]?=some (.cells (jA.pv cs) 28 (0,0)):=zJ w _;have BB:Below w.heap.size w (w.alloc (Obj.cells (jA.pv cs) 28)):=ji (Below.refl _ _) _;go_enter Tryz.func74,Tryz.ntmps74;go_upto_region 1 with(fail);generalize w.alloc (Obj.cells (jA.pv cs) 28)=W at *;have K1:=qA B1;have KB:=qA BB;clear B1 BB;go_wp2
 go_loopg [7,8] 10 (λgf s7 s8 wx=>∃(c:Int) (n:Nat),s7=.int .i64 c/\s8=.int .i64 n/\n<=9/\Aside0 (c=((cntR (jt.g cs p f) n:Nat):Int))/\Aside0 (wx.heap[w.heap.size]?=some (.cells (jA.pv cs) 28 (0,0)))/\Aside0 (Below w.heap.size w wx)/\10<=gf+n)
 case atStart=>exact⟨0,0,rfl,rfl,by omega,⟨rfl⟩,K1,KB,by omega⟩
 case round=>
  clear K1 KB;obtain⟨c,n,rfl,rfl,hn,HC,K1,KB,hgf⟩:=hrel
  by_cases hend:n=9
  ·subst hend
   go_wp2;go_ret;exact⟨by rw[HC.out];rfl,KB.out⟩
  ·obtain⟨q,hq⟩:∃q:Nat,q=m9+n:=⟨_,rfl⟩
   have hcb:0<=c/\c<=9:=by have:=HC.out;have:=cntR_le (jt.g cs p f) n;omega
   have e2:IntKind.i64.wrap ((m9:Int)+(n:Int))=(q:Int):=by rw[IntWalk.i64_in _ (by omega)];omega
   have e3:IntKind.i64.wrap (c+1)=c+1:=IntWalk.i64_in _ (by omega);have b0:decide ((n:Int)<9)=true:=decide_eq_true (by omega);have b1:(0<=(q:Int)/\(q:Int)<81)=True:=eq_true (by omega);have b3:((q:Int)<81)=True:=eq_true (by omega);have cN:wr.cell? ⟨w.heap.size,q,none⟩=some (.int .i8 (cs.getD q 0)):=(jB K1.out q).trans (jA.pv_get cs q (by omega))
   have hg:jt.g cs p f n=(wrap64 (cs.getD q 0)==p):=by unfold jt.g;rw[hq,hm9]
   generalize cs.getD q 0=v at cN hg;have ew:IntKind.i64.wrap ((n:Int)+1)=(n:Int)+1:=IntWalk.i64_in _ (by omega)
   obtain⟨g',rfl⟩:∃g',gk=g'+1:=⟨gk-1,by omega⟩
   have HQ:=qA hq;have HM:=qA hm9;clear hq hm9 hcb
   cases hb:(wrap64 v==p)
   ·have HG:=qA (hg.trans hb)
    clear hg;go_wp2
    go_roundg g'
    case measure=>omega
    case rel=>exact⟨_,n+1,rfl,by simp,by omega,⟨by rw[cntR_off HG.out];exact HC.out⟩,K1,KB,by omega⟩
   ·have HG:=qA (hg.trans hb)
    clear hg;go_wp2
    go_roundg g'
    case measure=>omega
    case rel=>exact⟨_,n+1,rfl,by simp,by omega,⟨by rw[cntR_on HG.out,HC.out];omega⟩,K1,KB,by omega⟩
def j7.f (cs:List Int) (p:Int):Nat->Nat
 | 0=>0
 | n+1=>j7.f cs p n+jt.f cs p n
theorem j7.le (cs:List Int) (p:Int):∀n,j7.f cs p n<=9*n
 | 0=>Nat.le_refl _
 | n+1=>by
  have:=j7.le cs p n;have:jt.f cs p n<=9:=cntR_le _ 9;unfold j7.f;omega
theorem j7.all_calls (cs:List Int) (p:Int) (r:Nat) (w:World) (hl:cs.length=98) (h:j7.f cs p 9=r):
  Calls Tryz.prog 70 #[.agg (jA.pv cs),.int .i64 p] w λe w'=>e=.returned (.int .i64 (r:Int))/\Below w.heap.size w w':=by
 subst h;have B1:(w.alloc (Obj.cells (jA.pv cs) 28)).heap[w.heap.size]?=some (.cells (jA.pv cs) 28 (0,0)):=zJ w _;have BB:Below w.heap.size w (w.alloc (Obj.cells (jA.pv cs) 28)):=ji (Below.refl _ _) _;go_enter Tryz.func70,Tryz.ntmps70;go_upto_region 1 with(fail);generalize w.alloc (Obj.cells (jA.pv cs) 28)=W at *;have K1:=qA B1;have KB:=qA BB;clear B1 BB;go_wp2
 go_loopg [5,6] 10 (λgf s5 s6 wx=>∃(c:Int) (n:Nat),s5=.int .i64 c/\s6=.int .i64 n/\n<=9/\Aside0 (c=((j7.f cs p n:Nat):Int))/\Aside0 (wx.heap[w.heap.size]?=some (.cells (jA.pv cs) 28 (0,0)))/\Aside0 (Below w.heap.size w wx)/\10<=gf+n)
 case atStart=>exact⟨0,0,rfl,rfl,by omega,⟨rfl⟩,K1,KB,by omega⟩
 case round=>
  clear K1 KB;obtain⟨c,n,rfl,rfl,hn,HC,K1,KB,hgf⟩:=hrel
  by_cases hend:n=9
  ·subst hend
   go_wp2;go_ret;exact⟨by rw[HC.out];rfl,KB.out⟩
  ·have b0:decide ((n:Int)<9)=true:=decide_eq_true (by omega)
   have ew:IntKind.i64.wrap ((n:Int)+1)=(n:Int)+1:=IntWalk.i64_in _ (by omega)
   have hn9:n<9:=by omega
   have hc1:=j7.le cs p n;have hc2:jt.f cs p n<=9:=cntR_le _ 9;have hc3:=HC.out;have hc4:j7.f cs p (n+1)=j7.f cs p n+jt.f cs p n:=rfl
   have HT:Aside0 (c+((jt.f cs p n:Nat):Int)=((j7.f cs p (n+1):Nat):Int)):=⟨by omega⟩
   have e3:IntKind.i64.wrap (c+((jt.f cs p n:Nat):Int))=c+((jt.f cs p n:Nat):Int):=IntWalk.i64_in _ (by omega);clear hc1 hc2 hc3 hc4;have HN:=qA hn9
   obtain⟨g',rfl⟩:∃g',gk=g'+1:=⟨gk-1,by omega⟩
   go_wp2_with (first|((with_reducible refine jG (N:=12) rfl ?_);refine jA.load rfl 28 (.tmp 2) rfl rfl K1.out Tryz.underlying28 rfl jA.infoP (by omega) ?_;rw[show(cs.drop 0).take 98=cs by rw[List.drop_zero,List.take_of_length_le (by omega)]])|(go_at_call 74;refine(jt.on_calls cs p n _ _ hl HN.out rfl).mono ?_;rintro e w7 ⟨rfl,hb⟩;replace K1:=qB K1 hb;replace KB:=qS KB hb;clear hb))
   go_roundg g'
   case measure=>omega
   case rel=>exact⟨_,n+1,rfl,by simp,by omega,⟨HT.out⟩,K1,KB,by omega⟩
def jw.j0:Nat->Int->Bool->Option (Int)
 | 0,_,_=>none
 | k+1,x0,x12=>if x12=true then(some 0) else(if x0>8 then(some (wrap64 (x0-8))) else(some x0))
def jw.f (k:Nat) (a0:Int):Option (Int):=if a0<1 then(jw.j0 k a0 true) else(if a0>15 then(jw.j0 k a0 true) else(jw.j0 k a0 (a0==13)))
theorem jw.mono_l:∀k,(∀y0 y1,LeO (jw.j0 k y0 y1) (jw.j0 (k+1) y0 y1))
 | 0=>λ_ _ r h=>by simp [jw.j0] at h
 | k+1=>by
  have ih0:=jw.mono_l k
  ·intro y0 y1
   unfold jw.j0
   repeat' first
   | (with_reducible exact ih0 _ _)
   | (with_reducible exact LeO.refl _)
   | (with_reducible exact LeO.none _)
   | (with_reducible refine LeO.ite ?_ ?_)
   | (with_reducible refine LeO.bind ?_ (λ_=>?_))
   | exact ih0 _ _
   | exact LeO.none _
   | refine LeO.ite ?_ ?_
   | refine LeO.bind ?_ (λ_=>?_)
theorem jw.mono:∀a0 k,LeO (jw.f k a0) (jw.f (k+1) a0):=by
 intro a0 k;have ih0:=jw.mono_l k;unfold jw.f
 repeat' first
   | (with_reducible exact ih0 _ _)
   | (with_reducible exact LeO.refl _)
   | (with_reducible exact LeO.none _)
   | (with_reducible refine LeO.ite ?_ ?_)
   | (with_reducible refine LeO.bind ?_ (λ_=>?_))
   | exact ih0 _ _
   | exact LeO.none _
   | refine LeO.ite ?_ ?_
   | refine LeO.bind ?_ (λ_=>?_)
theorem jw.calls (k:Nat) (a0:Int) (r:Int) (w:World) (h:jw.f k a0=some r):
  Calls Tryz.prog 104 #[.int .i64 a0] w λe w'=>e=.returned (.int .i64 r)/\Drawn0 w w':=by
 have H:(if a0<1 then(jw.j0 k a0 true) else(if a0>15 then(jw.j0 k a0 true) else(jw.j0 k a0 (a0==13))))=some r:=h;clear h;have HC2:=qA H;clear H;go_enter Tryz.func104,Tryz.ntmps104;go_upto_region 1 with(fail);go_cut [12] (λv12 wc=>∃(kq:Nat) (x12_1:Bool),v12=.bool x12_1/\Aside0 (jw.j0 kq a0 x12_1=some r)/\Aside0 (kq<=k)/\Drawn0 w wc)
 case first=>
  have H:=HC2.out;clear HC2
  by_cases c3:a0<1
  ·rw[if_pos c3] at H
   have c3b0:decide (a0<1)=true:=decide_eq_true c3;clear c3
   (first|rw[c3b0]|(simp only[zP,zd];rw[c3b0])|skip)
   have H':=qA H;clear H;go_wp2;go_meet
   case rel=>exact⟨_,(true),(by first|rfl|(simp;done)|(simp [*];done)),H',⟨by first|omega|exact Nat.le_refl _⟩,by repeat (first|exact Drawn0.refl _|apply Drawn0.step)⟩
  ·rw[if_neg c3] at H
   have c3b0:decide (a0<1)=false:=decide_eq_false c3;clear c3
   (first|rw[c3b0]|(simp only[zP,zd];rw[c3b0])|skip)
   by_cases c4:a0>15
   ·rw[if_pos c4] at H
    have c4b0:decide (15<a0)=true:=decide_eq_true c4;clear c4;have H':=qA H;clear H;go_wp2;go_meet
    case rel=>exact⟨_,(true),(by first|rfl|(simp;done)|(simp [*];done)),H',⟨by first|omega|exact Nat.le_refl _⟩,by repeat (first|exact Drawn0.refl _|apply Drawn0.step)⟩
   ·rw[if_neg c4] at H
    have c4b0:decide (15<a0)=false:=decide_eq_false c4;clear c4;have H':=qA H;clear H;go_wp2;go_meet
    case rel=>exact⟨_,((a0==13)),(by first|rfl|(simp;done)|(simp [*];done)),H',⟨by first|omega|exact Nat.le_refl _⟩,by repeat (first|exact Drawn0.refl _|apply Drawn0.step)⟩
 case rest=>
  clear HC2
  try clear c1
  try clear p2
  try clear c3
  try clear c3b0
  try clear c4
  try clear c4b0
  obtain⟨kq,x12_1,rfl,HA,HJ1,⟨mc1,rfl⟩⟩:=hcut
  cases kq with
  | zero=>exact absurd HA.out (by simp [jw.j0])
  | succ kj1=>
   have H:=HA.out;clear HA;simp only[jw.j0] at H
   by_cases c5:x12_1=true
   ·subst c5
    have H1:(some 0)=some r:=by rw[if_pos rfl] at H;exact H
    clear H;have H:=H1;clear H1;obtain rfl:=Option.some.inj H;go_wp2;go_ret;exact⟨by first|rfl|(simp;done)|(simp [*];done),by repeat (first|exact Drawn0.refl _|apply Drawn0.step)⟩
   ·replace c5:=Bool.eq_false_iff.mpr c5
    subst c5
    have H1:(if a0>8 then(some (wrap64 (a0-8))) else(some a0))=some r:=by rw[if_neg (show ¬(false=true) by decide)] at H;exact H
    clear H;have H:=H1;clear H1
    by_cases c6:a0>8
    ·rw[if_pos c6] at H
     have c6b0:decide (8<a0)=true:=decide_eq_true c6;clear c6;obtain rfl:=Option.some.inj H;go_wp2;go_ret;exact⟨by first|rfl|(simp;done)|(simp [*];done),by repeat (first|exact Drawn0.refl _|apply Drawn0.step)⟩
    ·rw[if_neg c6] at H
     have c6b0:decide (8<a0)=false:=decide_eq_false c6;clear c6;obtain rfl:=Option.some.inj H;go_wp2;go_ret;exact⟨by first|rfl|(simp;done)|(simp [*];done),by repeat (first|exact Drawn0.refl _|apply Drawn0.step)⟩
def yu (x:Int):Int:=(jc.f x).getD 0
theorem ym (x:Int):jc.f x=some (yu x):=by
 have h:∃r,jc.f x=some r:=by
  unfold jc.f
  repeat' split
  all_goals exact⟨_,rfl⟩
 obtain⟨r,hr⟩:=h;unfold yu;rw[hr];rfl
def rraw (x:Int):Int:=(jw.f 9 (yu x)).getD 0
theorem rraw_is (x:Int):jw.f 9 (yu x)=some (rraw x):=by
 have h:∀y:Int,∃r,jw.f 9 y=some r:=λy=>by
  simp only[jw.f,jw.j0]
  repeat' split
  all_goals exact⟨_,rfl⟩
 obtain⟨r,hr⟩:=h (yu x);unfold rraw;rw[hr];rfl
def zH.g (cs:List Int) (kd:Nat) (q:Nat):Bool:=rraw (wrap64 (cs.getD q 0))==(kd:Int)
def zH.f (cs:List Int) (kd:Nat):Int:=wrap64 (wrap64 (((cntR (zH.g cs kd) 81:Nat):Int)+wrap64 (cs.getD (81+kd) 0))+wrap64 (cs.getD (89+kd) 0))
theorem zH.count_calls (cs:List Int) (kd:Nat) (r:Int) (w:World) (hl:cs.length=98) (hkd:kd<8) (h:zH.f cs kd=r):
  Calls Tryz.prog 71 #[.agg (jA.pv cs),.int .i64 (kd:Int)] w λe w'=>e=.returned (.int .i64 r)/\Below w.heap.size w w':=by
 subst h;have B1:(w.alloc (Obj.cells (jA.pv cs) 28)).heap[w.heap.size]?=some (.cells (jA.pv cs) 28 (0,0)):=zJ w _;have BB:Below w.heap.size w (w.alloc (Obj.cells (jA.pv cs) 28)):=ji (Below.refl _ _) _;go_enter Tryz.func71,Tryz.ntmps71;go_upto_region 1 with(fail);generalize w.alloc (Obj.cells (jA.pv cs) 28)=W at *;have K1:=qA B1;have KB:=qA BB;clear B1 BB;go_wp2
 go_loopg [5,6] 82 (λgf s5 s6 wx=>∃(c:Int) (n:Nat),s5=.int .i64 c/\s6=.int .i64 n/\n<=81/\Aside0 (c=((cntR (zH.g cs kd) n:Nat):Int))/\Aside0 (wx.heap[w.heap.size]?=some (.cells (jA.pv cs) 28 (0,0)))/\Aside0 (Below w.heap.size w wx)/\82<=gf+n)
 case atStart=>exact⟨0,0,rfl,rfl,by omega,⟨rfl⟩,K1,KB,by omega⟩
 case round=>
  clear K1 KB;obtain⟨c,n,rfl,rfl,hn,HC,K1,KB,hgf⟩:=hrel
  by_cases hend:n=81
  ·subst hend
   have k0:(0<=(kd:Int)/\(kd:Int)<8)=True:=eq_true (by omega);have k1:((kd:Int)<8)=True:=eq_true (by omega);have cA:wr.cell? ⟨w.heap.size,81+kd,none⟩=some (.int .i8 (cs.getD (81+kd) 0)):=(jB K1.out (81+kd)).trans (jA.pv_get cs (81+kd) (by omega));have cB:wr.cell? ⟨w.heap.size,89+kd,none⟩=some (.int .i8 (cs.getD (89+kd) 0)):=(jB K1.out (89+kd)).trans (jA.pv_get cs (89+kd) (by omega))
   have HF:Aside0 (zH.f cs kd=wrap64 (wrap64 (c+wrap64 (cs.getD (81+kd) 0))+wrap64 (cs.getD (89+kd) 0))):=⟨by unfold zH.f;rw[HC.out]⟩
   generalize cs.getD (81+kd) 0=va at *;generalize cs.getD (89+kd) 0=vb at *;go_upto_region 7 with(fail)
   go_quiet (fail)
   go_wp2;go_ret;exact⟨by rw[HF.out];rfl,zi KB.out _⟩
  ·have b0:decide ((n:Int)<81)=true:=decide_eq_true (by omega)
   have b1:(0<=(n:Int)/\(n:Int)<81)=True:=eq_true (by omega);have b3:((n:Int)<81)=True:=eq_true (by omega);have cN:wr.cell? ⟨w.heap.size,n,none⟩=some (.int .i8 (cs.getD n 0)):=(jB K1.out n).trans (jA.pv_get cs n (by omega));have hg:zH.g cs kd n=(rraw (wrap64 (cs.getD n 0))==(kd:Int)):=rfl;generalize cs.getD n 0=v at cN hg;have HK:=qA (ym (wrap64 v));have HR:=qA (rraw_is (wrap64 v));generalize rraw (wrap64 v)=r at HR hg;generalize yu (wrap64 v)=k at HK HR
   have hcb:0<=c/\c<=81:=by have:=HC.out;have:=cntR_le (zH.g cs kd) n;omega
   have e3:IntKind.i64.wrap (c+1)=c+1:=IntWalk.i64_in _ (by omega);have ew:IntKind.i64.wrap ((n:Int)+1)=(n:Int)+1:=IntWalk.i64_in _ (by omega)
   obtain⟨g',rfl⟩:∃g',gk=g'+1:=⟨gk-1,by omega⟩
   clear hcb
   cases hb:(r==(kd:Int))
   ·have HG:=qA (hg.trans hb)
    clear hg
    go_wp2_with (first|(go_at_call 57;(with_reducible refine(jc.calls _ _ _ HK.out).mono ?_);rintro e w7 ⟨rfl,hd⟩;have hb:=hd.below;clear hd;replace K1:=qB K1 hb;replace KB:=qS KB hb;clear hb)|(go_at_call 104;(with_reducible refine(jw.calls _ _ _ _ HR.out).mono ?_);rintro e w7 ⟨rfl,hd⟩;have hb:=hd.below;clear hd;replace K1:=qB K1 hb;replace KB:=qS KB hb;clear hb))
    go_roundg g'
    case measure=>omega
    case rel=>exact⟨_,n+1,rfl,by simp,by omega,⟨by rw[cntR_off HG.out];exact HC.out⟩,⟨K1.out⟩,⟨by repeat (first|exact KB.out|apply zi)⟩,by omega⟩
   ·have HG:=qA (hg.trans hb)
    clear hg
    go_wp2_with (first|(go_at_call 57;(with_reducible refine(jc.calls _ _ _ HK.out).mono ?_);rintro e w7 ⟨rfl,hd⟩;have hb:=hd.below;clear hd;replace K1:=qB K1 hb;replace KB:=qS KB hb;clear hb)|(go_at_call 104;(with_reducible refine(jw.calls _ _ _ _ HR.out).mono ?_);rintro e w7 ⟨rfl,hd⟩;have hb:=hd.below;clear hd;replace K1:=qB K1 hb;replace KB:=qS KB hb;clear hb))
    go_roundg g'
    case measure=>omega
    case rel=>exact⟨_,n+1,rfl,by simp,by omega,⟨by rw[cntR_on HG.out,HC.out];omega⟩,⟨K1.out⟩,⟨by repeat (first|exact KB.out|apply zi)⟩,by omega⟩
def yR.f (a0:Int):Option (Int):=(some (([0,18,4,4,4,4,2,2,2]:List Int):List Int)).bind λy245=>(if a0<1 then(some 0) else(if a0>8 then(some 0) else(if 0<=a0 then(if a0<(y245.length:Int) then(some (rd y245 a0)) else(none)) else(none))))
theorem yR.calls (a0:Int) (r:Int) (w:World) (h:yR.f a0=some r):
  Calls Tryz.prog 72 #[.int .i64 a0] w λe w'=>e=.returned (.int .i64 r)/\Below w.heap.size w w':=by
 have HB:=qA (Below.refl w.heap.size w);have H:((some (([0,18,4,4,4,4,2,2,2]:List Int):List Int)).bind λy245=>(if a0<1 then(some 0) else(if a0>8 then(some 0) else(if 0<=a0 then(if a0<(y245.length:Int) then(some (rd y245 a0)) else(none)) else(none)))))=some r:=h;clear h
 obtain⟨y245,hy245⟩:∃y_:List Int,y_=(([0,18,4,4,4,4,2,2,2]:List Int)):=⟨_,rfl⟩
 replace H:(if a0<1 then(some 0) else(if a0>8 then(some 0) else(if 0<=a0 then(if a0<(y245.length:Int) then(some (rd y245 a0)) else(none)) else(none))))=some r:=by first|(rw[hy245];with_reducible exact H)|(have H2_:=(Option.bind_some _ _).symm.trans H;rw[hy245];with_reducible exact H2_)|(have H2_:=(Option.bind_some _ _).symm.trans H;with_reducible exact H2_)|with_reducible exact H|(rw[hy245];exact H)|exact H
 have Ny245:=qA hy245;clear hy245
 by_cases c2:a0<1
 ·rw[if_pos c2] at H
  have c2b0:decide (a0<1)=true:=decide_eq_true c2;clear c2;obtain rfl:=Option.some.inj H;go_enter Tryz.func72,Tryz.ntmps72
  go_wp2_with (first|((with_reducible refine jG (N:=4) rfl ?_);refine Kd.R_lit (Kd.int .i64) _ 3 ?hg (N:=4) ?hd (xs:=([0,18,4,4,4,4,2,2,2]:List Int)) (inner:=[.int .i64 0,.int .i64 18,.int .i64 4,.int .i64 4,.int .i64 4,.int .i64 4,.int .i64 2,.int .i64 2,.int .i64 2]) (ok:=λ_=>True) (okp:=λ_=>True) ?hr ?hp (λ_ hk=>hk) trivial (Below.refl _ _) (Nat.le_refl _) (by simp) ?_;(case hd=>rfl);(case hg=>rfl);(case hr=>first|(go_simp;done)|(go_simp;rfl));(case hp=>exact(Reps.one (show Kd.M (Kd.int .i64) _ _ _ 0 [.int .i64 0] from rfl) (Reps.one (show Kd.M (Kd.int .i64) _ _ _ 18 [.int .i64 18] from rfl) (Reps.one (show Kd.M (Kd.int .i64) _ _ _ 4 [.int .i64 4] from rfl) (Reps.one (show Kd.M (Kd.int .i64) _ _ _ 4 [.int .i64 4] from rfl) (Reps.one (show Kd.M (Kd.int .i64) _ _ _ 4 [.int .i64 4] from rfl) (Reps.one (show Kd.M (Kd.int .i64) _ _ _ 4 [.int .i64 4] from rfl) (Reps.one (show Kd.M (Kd.int .i64) _ _ _ 2 [.int .i64 2] from rfl) (Reps.one (show Kd.M (Kd.int .i64) _ _ _ 2 [.int .i64 2] from rfl) (Reps.one (show Kd.M (Kd.int .i64) _ _ _ 2 [.int .i64 2] from rfl) (Reps.none _ _)))))))))));intro v246 w3 ho4 hb hg_ hnew_;clear hg_ hnew_;(first|rw[<- Ny245.out] at ho4|(simp only[Int.reduceToNat] at ho4;rw[<- Ny245.out] at ho4));have n0_:=qA (Kd.R_lower ho4 (jP (qH HB)));have n1_:=qA (jX (qH HB) hb);clear HB;have HO247:=n0_;have HB:=n1_;clear n0_ n1_;clear hb ho4))
  go_ret;exact⟨by first|rfl|(simp [jL,jK]<;>rfl)|(simp [*,jL,jK]<;>rfl)|(simp [*,jL,jK];generalize ByteArray.toList _=q_;cases q_<;>rfl),qH HB⟩
 ·rw[if_neg c2] at H
  have c2b0:decide (a0<1)=false:=decide_eq_false c2;clear c2
  by_cases c5:a0>8
  ·rw[if_pos c5] at H
   have c5b0:decide (8<a0)=true:=decide_eq_true c5;clear c5;obtain rfl:=Option.some.inj H;go_enter Tryz.func72,Tryz.ntmps72
   go_wp2_with (first|((with_reducible refine jG (N:=4) rfl ?_);refine Kd.R_lit (Kd.int .i64) _ 3 ?hg (N:=4) ?hd (xs:=([0,18,4,4,4,4,2,2,2]:List Int)) (inner:=[.int .i64 0,.int .i64 18,.int .i64 4,.int .i64 4,.int .i64 4,.int .i64 4,.int .i64 2,.int .i64 2,.int .i64 2]) (ok:=λ_=>True) (okp:=λ_=>True) ?hr ?hp (λ_ hk=>hk) trivial (Below.refl _ _) (Nat.le_refl _) (by simp) ?_;(case hd=>rfl);(case hg=>rfl);(case hr=>first|(go_simp;done)|(go_simp;rfl));(case hp=>exact(Reps.one (show Kd.M (Kd.int .i64) _ _ _ 0 [.int .i64 0] from rfl) (Reps.one (show Kd.M (Kd.int .i64) _ _ _ 18 [.int .i64 18] from rfl) (Reps.one (show Kd.M (Kd.int .i64) _ _ _ 4 [.int .i64 4] from rfl) (Reps.one (show Kd.M (Kd.int .i64) _ _ _ 4 [.int .i64 4] from rfl) (Reps.one (show Kd.M (Kd.int .i64) _ _ _ 4 [.int .i64 4] from rfl) (Reps.one (show Kd.M (Kd.int .i64) _ _ _ 4 [.int .i64 4] from rfl) (Reps.one (show Kd.M (Kd.int .i64) _ _ _ 2 [.int .i64 2] from rfl) (Reps.one (show Kd.M (Kd.int .i64) _ _ _ 2 [.int .i64 2] from rfl) (Reps.one (show Kd.M (Kd.int .i64) _ _ _ 2 [.int .i64 2] from rfl) (Reps.none _ _)))))))))));intro v246 w6 ho7 hb hg_ hnew_;clear hg_ hnew_;(first|rw[<- Ny245.out] at ho7|(simp only[Int.reduceToNat] at ho7;rw[<- Ny245.out] at ho7));have n0_:=qA (Kd.R_lower ho7 (jP (qH HB)));have n1_:=qA (jX (qH HB) hb);clear HB;have HO247:=n0_;have HB:=n1_;clear n0_ n1_;clear hb ho7))
   go_ret;exact⟨by first|rfl|(simp [jL,jK]<;>rfl)|(simp [*,jL,jK]<;>rfl)|(simp [*,jL,jK];generalize ByteArray.toList _=q_;cases q_<;>rfl),qH HB⟩
  ·rw[if_neg c5] at H
   have c5b0:decide (8<a0)=false:=decide_eq_false c5;clear c5
   by_cases c8:0<=a0
   ·rw[if_pos c8] at H
    have c8b0:decide (0<=a0)=true:=decide_eq_true c8;clear c8
    by_cases c9:a0<(y245.length:Int)
    ·rw[if_pos c9] at H
     have c9b0:decide (a0<(y245.length:Int))=true:=decide_eq_true c9;clear c9;obtain rfl:=Option.some.inj H;go_enter Tryz.func72,Tryz.ntmps72
     go_wp2_with (first|((with_reducible refine jG (N:=4) rfl ?_);refine Kd.R_lit (Kd.int .i64) _ 3 ?hg (N:=4) ?hd (xs:=([0,18,4,4,4,4,2,2,2]:List Int)) (inner:=[.int .i64 0,.int .i64 18,.int .i64 4,.int .i64 4,.int .i64 4,.int .i64 4,.int .i64 2,.int .i64 2,.int .i64 2]) (ok:=λ_=>True) (okp:=λ_=>True) ?hr ?hp (λ_ hk=>hk) trivial (Below.refl _ _) (Nat.le_refl _) (by simp) ?_;(case hd=>rfl);(case hg=>rfl);(case hr=>first|(go_simp;done)|(go_simp;rfl));(case hp=>exact(Reps.one (show Kd.M (Kd.int .i64) _ _ _ 0 [.int .i64 0] from rfl) (Reps.one (show Kd.M (Kd.int .i64) _ _ _ 18 [.int .i64 18] from rfl) (Reps.one (show Kd.M (Kd.int .i64) _ _ _ 4 [.int .i64 4] from rfl) (Reps.one (show Kd.M (Kd.int .i64) _ _ _ 4 [.int .i64 4] from rfl) (Reps.one (show Kd.M (Kd.int .i64) _ _ _ 4 [.int .i64 4] from rfl) (Reps.one (show Kd.M (Kd.int .i64) _ _ _ 4 [.int .i64 4] from rfl) (Reps.one (show Kd.M (Kd.int .i64) _ _ _ 2 [.int .i64 2] from rfl) (Reps.one (show Kd.M (Kd.int .i64) _ _ _ 2 [.int .i64 2] from rfl) (Reps.one (show Kd.M (Kd.int .i64) _ _ _ 2 [.int .i64 2] from rfl) (Reps.none _ _)))))))))));intro v246 w10 ho11 hb hg_ hnew_;clear hg_ hnew_;(first|rw[<- Ny245.out] at ho11|(simp only[Int.reduceToNat] at ho11;rw[<- Ny245.out] at ho11));have n0_:=qA (Kd.R_lower ho11 (jP (qH HB)));have n1_:=qA (jX (qH HB) hb);clear HB;have HO247:=n0_;have HB:=n1_;clear n0_ n1_;clear hb ho11;obtain⟨Ao12,co12,eo12⟩:=Kd.R_slice HO247.out;subst eo12;have p248:0<=(a0:Int):=of_decide_eq_true (by first|(with_reducible assumption)|assumption);have q248:a0<(y245.length:Int):=of_decide_eq_true (by first|(with_reducible assumption)|assumption);obtain⟨ad248,e248,hx248_0⟩:=Kd.at_int (Kd.R_reads' HO247.out).2.2 a0 p248 q248;cases e248;replace p248:=eq_true p248;replace q248:=eq_true q248))
     go_ret;exact⟨by first|rfl|(simp [jL,jK]<;>rfl)|(simp [*,jL,jK]<;>rfl)|(simp [*,jL,jK];generalize ByteArray.toList _=q_;cases q_<;>rfl),qH HB⟩
    ·rw[if_neg c9] at H
     exact absurd H (by simp)
   ·rw[if_neg c8] at H
    exact absurd H (by simp)
def jm.f (a0:Int):Option (Int):=(jc.f a0).bind λt249=>(if t249=0 then(some (-1)) else(some (wrap64 (Int.tdiv a0 16))))
theorem jm.calls (a0:Int) (r:Int) (w:World) (h:jm.f a0=some r):
  Calls Tryz.prog 58 #[.int .i64 a0] w λe w'=>e=.returned (.int .i64 r)/\Drawn0 w w':=by
 have H:((jc.f a0).bind λt249=>(if t249=0 then(some (-1)) else(some (wrap64 (Int.tdiv a0 16)))))=some r:=h;clear h;replace H:=Option.bind_eq_some_iff.mp H;obtain⟨t249,A20,H⟩:=H;replace H:(if t249=0 then(some (-1)) else(some (wrap64 (Int.tdiv a0 16))))=some r:=H;have A2:=qA A20;clear A20
 by_cases c3:t249=0
 ·rw[if_pos c3] at H
  have c3b0:(t249==0)=true:=beq_iff_eq.mpr c3;have c3b1:(t249 != 0)=false:=bne_eq_false_iff_eq.mpr c3;clear c3;obtain rfl:=Option.some.inj H;go_enter Tryz.func58,Tryz.ntmps58
  go_wp2_with (first|((with_reducible refine jV (f:=57) rfl ?_);refine zB (some 4) rfl rfl Tryz.func57 (by kernel_rfl) rfl #[.int .i64 a0] rfl (by (try simp only[List.map_toArray,List.map_cons,List.map_nil]);first|done|rfl|(simp only[List.length_drop,List.length_take];rfl)) ?_;(with_reducible refine(jc.calls a0 t249 _ A2.out).mono ?_);rintro e w' ⟨rfl,⟨nd,rfl⟩⟩;refine⟨_,rfl,?_⟩))
  go_ret;exact⟨by first|rfl|(simp;done)|(simp [*];done),by repeat (first|exact Drawn0.refl _|apply Drawn0.step)⟩
 ·rw[if_neg c3] at H
  have c3b0:(t249==0)=false:=beq_eq_false_iff_ne.mpr c3;have c3b1:(t249 != 0)=true:=bne_iff_ne.mpr c3;obtain rfl:=Option.some.inj H;go_enter Tryz.func58,Tryz.ntmps58
  go_wp2_with (first|((with_reducible refine jV (f:=57) rfl ?_);refine zB (some 4) rfl rfl Tryz.func57 (by kernel_rfl) rfl #[.int .i64 a0] rfl (by (try simp only[List.map_toArray,List.map_cons,List.map_nil]);first|done|rfl|(simp only[List.length_drop,List.length_take];rfl)) ?_;(with_reducible refine(jc.calls a0 t249 _ A2.out).mono ?_);rintro e w' ⟨rfl,⟨nd,rfl⟩⟩;refine⟨_,rfl,?_⟩))
  go_ret;exact⟨by first|rfl|(simp;done)|(simp [*];done),by repeat (first|exact Drawn0.refl _|apply Drawn0.step)⟩
end Go.Proofs.YtigenhbmgpfffaaGreatDoor.Pa
