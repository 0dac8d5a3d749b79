import Derived.Test.YtigenhbmgpfffaaGreatDoorProg
import Derived.Lib.OthersKept
import Derived.Lib.Hide
import Derived.WalkSmall
import Derived.Outline
import Derived.LoopN
import Derived.Laws.Runes
import Derived.Laws.Cover4
import Derived.Lib.SlBytesConst
import Derived.IntWalk
import Derived.Lib.TrimU
import Derived.Deep.RegionWith
import Derived.Lib.LazyBuf
import Derived.Deep.MidRow
import Derived.ChangeKeysEq
import Derived.Test.YtigenhbmgpfffaaGreatDoorB8
import Derived.Test.YtigenhbmgpfffaaGreatDoorB9
import Derived.Test.YtigenhbmgpfffaaGreatDoorB10
import Derived.Test.YtigenhbmgpfffaaGreatDoorB11
import Derived.Test.YtigenhbmgpfffaaGreatDoorB12
namespace Go.Proofs.YtigenhbmgpfffaaGreatDoor.Pa
open Go.RowKit Go.Proofs.YtigenhbmgpfffaaGreatDoorW.PrintWords Go.Proofs.YtigenhbmgpfffaaGreatDoorW.PrintLast Go.Proofs.YtigenhbmgpfffaaGreatDoorW.PrintMore
set_option linter.unusedVariables false
set_option linter.unusedSimpArgs false
set_option maxRecDepth 20000
def jA.pv (l:List Int):Array Value:=(l.map (Value.int .i8)).toArray
theorem jA.pv_size (l:List Int):(jA.pv l).size=l.length:=by simp [jA.pv]
theorem jA.pv_one (l:List Int):(jA.pv l).all (·.oneCell')=true:=all_oneCell_toArray (λv hv=>by
 obtain⟨b,_,rfl⟩:=List.mem_map.1 hv
 rfl)
theorem jA.pv_get (l:List Int) (i:Nat) (h:i<l.length):(jA.pv l)[i]?=some (.int .i8 (l.getD i 0)):=by
 simp [jA.pv,List.getD_eq_getElem?_getD,List.getElem?_eq_getElem h]
theorem jA.pv_set (l:List Int) (i:Nat) (b:Int):(jA.pv l).setIfInBounds i (.int .i8 b)=jA.pv (l.set i b):=by
 simp [jA.pv,List.map_set]
theorem jA.rng {W:World} {g:Nat} {l:List Int} {t:TypeId} (h:W.heap[g]?=some (.cells (jA.pv l) t (0,0))) (o n:Nat):W.rangeAt g o (((l.drop o).take n).map (Value.int .i8)):=λj v hj=>by
 rw[jB h (o+j)];rw[List.getElem?_map] at hj;rw[List.getElem?_take] at hj
 split at hj
 ·rw[List.getElem?_drop] at hj
  simpa [jA.pv] using hj
 ·simp at hj
section
variable {ops:Array Oper} {rest:List Oper} {o:Oper} {a:Act} {Q:Exit->Act->World->Prop} {W:World} {K:Act->World->Prop}
theorem jA.wp_load (ty:TypeId) (x:Operand) (ho:o.op=.load ty x) {g off n:Nat} {t:TypeId} {l:List Int} {d:TypeDesc} (hx:a.eval x=.pointer (some ⟨g,off,none⟩)) (hb:W.heap[g]?=some (.cells (jA.pv l) t (0,0))) (hu:Tryz.prog.underlying ty=some d) (hd:d.isRow=true) (hi:(Tryz.prog.info? ty).map (·.size)=some n) (hl:off+n<=l.length)
  (h:K (a.put o.dst (.agg (jA.pv ((l.drop off).take n)))) W):Oper.wp Tryz.prog o a W K Q:=
 wp_load_mid _ x ho g off hx (((l.drop off).take n).map (Value.int .i8)) d (jA.rng hb off n) hu hd (by rw[hi];simp;omega) h
theorem jA.load (hgd:o.guard=none) (ty:TypeId) (x:Operand) (ho:o.op=.load ty x) {g off n:Nat} {t:TypeId} {l:List Int} {d:TypeDesc} (hx:a.eval x=.pointer (some ⟨g,off,none⟩)) (hb:W.heap[g]?=some (.cells (jA.pv l) t (0,0))) (hu:Tryz.prog.underlying ty=some d) (hd:d.isRow=true) (hi:(Tryz.prog.info? ty).map (·.size)=some n) (hl:off+n<=l.length)
  (h:wpList Tryz.prog ops Q rest (a.put o.dst (.agg (jA.pv ((l.drop off).take n)))) W):wpList Tryz.prog ops Q (o::rest) a W:=
 wpList_plain hgd λ_ hK=>jA.wp_load ty x ho hx hb hu hd hi hl (hK _ _ h)
end
theorem jA.index (t e:TypeId) (N n:Nat) (l:List Int) (W:World) (hu:Tryz.prog.underlying t=some (.array N e)) (he:Tryz.prog.plainKey e=true) (hi:(Tryz.prog.info? e).isSome=true) (hc:Tryz.prog.cellsOf e=1) (hn:n<N) (hl:n<l.length):(Instr.index t (.agg (jA.pv l)) (.int .i64 (n:Int))).run Tryz.prog W=.ok (.int .i8 (l.getD n 0)) W:=by
 obtain⟨i,hi1⟩:=Option.isSome_iff_exists.1 hi;have hp:=run_part_plain W he (jA.pv_get l n hl);have hs:=run_sizeOf W hi1
 have h1:(n:Int)<(N:Int):=by omega
 simp only[Instr.index,asIntOf,Sem.run_bind,run_underlying hu,hs,Sem.run_pure,Result.andThen_ok,hc,Int.toNat_natCast,Nat.mul_one];rw[if_pos ⟨by omega,h1⟩];simp only[Sem.run_bind,hs,Result.andThen_ok,hc,Nat.mul_one];exact hp
theorem jA.infoP:(Tryz.prog.info? 28).map (·.size)=some 98:=by kernel_rfl
theorem jA.infoB:(Tryz.prog.info? 24).map (·.size)=some 81:=by kernel_rfl
theorem jA.infoH:(Tryz.prog.info? 26).map (·.size)=some 16:=by kernel_rfl
theorem jA.info8:(Tryz.prog.info? 25).map (·.size)=some 8:=by kernel_rfl
theorem jA.thr {W:World} {g:Nat} {C:Array Value} {t:TypeId} (h:W.heap[g]?=some (.cells C t (0,0))) (n:Nat) (hn:n<=C.size):W.there g 0 n:=λj hj=>by
 rw[Nat.zero_add,jB h j];exact⟨by simp [show j<C.size by omega],jH h j⟩
theorem jA.store {ops:Array Oper} {rest:List Oper} {o:Oper} {a:Act} {Q:Exit->Act->World->Prop} {W:World} (hgd:o.guard=none) (ty:TypeId) (x y:Operand) (ho:o.op=.store ty x y) {g n:Nat} {t:TypeId} {l:List Int} {C:Array Value} (hx:a.eval x=.pointer (some ⟨g,0,none⟩)) (hy:a.eval y=.agg (jA.pv l)) (hb:W.heap[g]?=some (.cells C t (0,0))) (hC:C.size=n) (hl:l.length=n) (hi:(Tryz.prog.info? ty).map (·.size)=some n)
  (h:∀W',W'.heap[g]?=some (.cells (jA.pv l) t (0,0))->(∀B w0,B<=g->Below B w0 W->Below B w0 W')->(∀k,k≠g->W'.heap[k]?=W.heap[k]?)->wpList Tryz.prog ops Q rest (a.put o.dst undef) W'):wpList Tryz.prog ops Q (o::rest) a W:=by
 have hsz:(jA.pv l).size=n:=by rw[jA.pv_size,hl]
 refine wpList_plain hgd λ_ hK=>wp_store_mid _ x y ho g 0 (jA.pv l) hx hy (jA.thr hb _ (by omega)) (by rw[hi,hsz]) (jA.pv_one l) (hK _ _ ?_);obtain⟨cur',h1,h2,h3⟩:=yl (jA.pv l).toList 0 W C hb (by rw[Array.length_toList];omega)
 have e:cur'=jA.pv l:=by
  apply Array.toList_inj.1
  rw[h3];simp only[List.take_zero,List.nil_append,Nat.zero_add];rw[List.drop_of_length_le (by rw[Array.length_toList,Array.length_toList];omega),List.append_nil]
 rw[e] at h1;exact h _ h1 (λB w0 hB hb0=>below_setCells hB _ 0 W hb0) (λk hk=>yT _ 0 k hk)
theorem jA.index8 (n:Nat) (l:List Int) (W:World) (hn:n<2) (hl:l.length=16):(Instr.index 26 (.agg (jA.pv l)) (.int .i64 (n:Int))).run Tryz.prog W=.ok (.agg (jA.pv ((l.drop (n*8)).take 8))) W:=by
 have hi:(Tryz.prog.info? 25).isSome=true:=by kernel_rfl
 obtain⟨i,hi1⟩:=Option.isSome_iff_exists.1 hi
 have hc:Tryz.prog.cellsOf 25=8:=by kernel_rfl
 have hs:=run_sizeOf W hi1
 have h1:(n:Int)<((2:Nat):Int):=by omega
 simp only[Instr.index,asIntOf,Sem.run_bind,run_underlying Tryz.underlying26,Sem.run_pure,Result.andThen_ok,Int.toNat_natCast];rw[if_pos ⟨by omega,h1⟩];simp only[Sem.run_bind,hs,Result.andThen_ok,hc,part,isAgg,run_underlying Tryz.underlying25,Sem.run_pure,if_true]
 congr 2
 apply Array.toList_inj.1
 simp [jA.pv,List.map_drop,List.map_take]
def Ch (g:Nat) (w w':World):Prop:=(∀k,k≠g->k<w.heap.size->w'.heap[k]?=w.heap[k]?)/\(∀B w0,B<=g->Below B w0 w->Below B w0 w')/\w.heap.size<=w'.heap.size
theorem Ch.refl (g:Nat) (w:World):Ch g w w:=⟨λ_ _ _=>rfl,λ_ _ _ h=>h,Nat.le_refl _⟩
theorem Ch.trans {g:Nat} {a b c:World} (h:Ch g a b) (k:Ch g b c):Ch g a c:=
 ⟨λi hi hl=>(k.1 i hi (Nat.lt_of_lt_of_le hl h.2.2)).trans (h.1 i hi hl),λB w0 hB hb=>k.2.1 B w0 hB (h.2.1 B w0 hB hb),Nat.le_trans h.2.2 k.2.2⟩
theorem Ch.below {g:Nat} {a b:World} (hg:g<a.heap.size) (h:Below a.heap.size a b):Ch g a b:=
 ⟨λi _ hl=>h.block i hl,λB w0 hB hb=>below_then hb (Nat.le_trans hB (Nat.le_of_lt hg)) h,h.size⟩
theorem Ch.blk {g k:Nat} {a b:World} {o:Obj} (h:Ch g a b) (hk:k≠g) (hb:a.heap[k]?=some o):b.heap[k]?=some o:=(h.1 k hk (ju hb)).trans hb
def bdl (cs us:List Int):List Value:=cs.map (Value.int .i8)++us.map (Value.int .u64)
def bd (cs us:List Int):Array Value:=(bdl cs us).toArray
theorem bd_size (cs us:List Int):(bd cs us).size=cs.length+us.length:=by simp [bd,bdl]
theorem jBX (cs us:List Int) (i:Nat) (h:i<cs.length):(bd cs us)[i]?=some (.int .i8 (cs.getD i 0)):=by
 simp [bd,bdl,List.getElem?_append_left (show i<(cs.map (Value.int .i8)).length by simpa using h),List.getD_eq_getElem?_getD,List.getElem?_eq_getElem h]
theorem jCA (cs us:List Int) (i:Nat) (b:Int) (h:i<cs.length):(bd cs us).setIfInBounds i (.int .i8 b)=bd (cs.set i b) us:=by
 simp [bd,bdl,List.map_set,List.set_append_left _ _ (show i<(cs.map (Value.int .i8)).length by simpa using h)]
def bget (us:List Int) (i:Nat):Int×Int:=(us.getD (2*i) 0,us.getD (2*i+1) 0)
def bput (us:List Int) (i:Nat) (r:Int×Int):List Int:=(us.set (2*i) r.1).set (2*i+1) r.2
theorem jAW (us:List Int) (i:Nat) (r:Int×Int):(bput us i r).length=us.length:=by simp [bput]
theorem bd_get64 (cs us:List Int) (i:Nat) (hc:cs.length=98) (h:i<us.length):(bd cs us)[98+i]?=some (.int .u64 (us.getD i 0)):=by
 have e:(cs.map (Value.int .i8)).length=98:=by simpa using hc
 simp [bd,bdl,List.getElem?_append_right (show(cs.map (Value.int .i8)).length<=98+i by omega),hc,List.getD_eq_getElem?_getD,List.getElem?_eq_getElem h]
theorem bd_set64 (cs us:List Int) (i:Nat) (b:Int) (hc:cs.length=98):(bd cs us).setIfInBounds (98+i) (.int .u64 b)=bd cs (us.set i b):=by
 have e:(cs.map (Value.int .i8)).length=98:=by simpa using hc
 simp [bd,bdl,List.map_set,List.set_append_right _ _ (show(cs.map (Value.int .i8)).length<=98+i by omega),hc]
section
variable {ops:Array Oper} {rest:List Oper} {o:Oper} {a:Act} {Q:Exit->Act->World->Prop} {W:World} {K:Act->World->Prop}
theorem bd_rng {W:World} {g:Nat} {cs us:List Int} {t:TypeId} (hc:cs.length=98) (h:W.heap[g]?=some (.cells (bd cs us) t (0,0))) (i:Nat) (hi:2*i+1<us.length):W.rangeAt g (98+2*i) [.int .u64 (bget us i).1,.int .u64 (bget us i).2]:=λj v hj=>by
 rw[jB h]
 match j,hj with
 | 0,hj=>obtain rfl:=Option.some.inj hj;exact bd_get64 cs us (2*i) hc (by omega)
 | 1,hj=>obtain rfl:=Option.some.inj hj;exact bd_get64 cs us (2*i+1) hc hi
 | j+2,hj=>simp at hj
theorem bd_infoS:(Tryz.prog.info? 88).map (·.size)=some 2:=by kernel_rfl
theorem yh (x:Operand) (ho:o.op=.load 88 x) {g i:Nat} {t:TypeId} {cs us:List Int} (hx:a.eval x=.pointer (some ⟨g,98+2*i,none⟩)) (hc:cs.length=98) (hb:W.heap[g]?=some (.cells (bd cs us) t (0,0))) (hi:2*i+1<us.length)
  (h:K (a.put o.dst (.agg #[.int .u64 (bget us i).1,.int .u64 (bget us i).2])) W):Oper.wp Tryz.prog o a W K Q:=
 wp_load_mid _ x ho g _ hx [.int .u64 (bget us i).1,.int .u64 (bget us i).2] _ (bd_rng hc hb i hi) Tryz.underlying88 rfl bd_infoS h
theorem bd_thr {W:World} {g:Nat} {C:Array Value} {t:TypeId} (h:W.heap[g]?=some (.cells C t (0,0))) (off n:Nat) (hn:off+n<=C.size):W.there g off n:=λj hj=>by
 refine⟨by rw[jB h,Array.getElem?_eq_getElem (by omega)];rfl,jH h _⟩
theorem jA1 (x y:Operand) (ho:o.op=.store 88 x y) {g i:Nat} {t:TypeId} {cs us:List Int} {u v:Int} (hx:a.eval x=.pointer (some ⟨g,98+2*i,none⟩)) (hy:a.eval y=.agg #[.int .u64 u,.int .u64 v]) (hc:cs.length=98) (hb:W.heap[g]?=some (.cells (bd cs us) t (0,0))) (hi:2*i+1<us.length)
  (h:∀W',W'.heap[g]?=some (.cells (bd cs (bput us i (u,v))) t (0,0))->Ch g W W'->K (a.put o.dst undef) W'):Oper.wp Tryz.prog o a W K Q:=by
 refine wp_store_mid _ x y ho g _ #[.int .u64 u,.int .u64 v] hx hy (bd_thr hb _ _ (by rw[bd_size];simp;omega)) bd_infoS (by simp [Value.oneCell']) ?_;have hl:([.int .u64 u,.int .u64 v]:List Value)=[.int .u64 u,.int .u64 v]:=rfl;have e1:=zQ hb (98+2*i) (.int .u64 u);rw[bd_set64 cs us _ _ hc] at e1;have e2:=zQ e1 (98+(2*i+1)) (.int .u64 v);rw[bd_set64 cs _ _ _ hc] at e2;have es:W.setCells g (98+2*i) [.int .u64 u,.int .u64 v]=(W.setCell ⟨g,98+2*i,none⟩ (.int .u64 u)).setCell ⟨g,98+(2*i+1),none⟩ (.int .u64 v):=rfl;show K _ (W.setCells g (98+2*i) [.int .u64 u,.int .u64 v]);refine h _ (by rw[es];exact e2) ⟨λk hk _=>yT _ _ k hk,λB w0 hB hb0=>below_setCells hB _ _ W hb0,?_⟩
 have hz:∀(l:List Value) (W:World) (o:Nat),W.heap.size<=(W.setCells g o l).heap.size:=by
  intro l W o;exact(below_setCells (Nat.zero_le g) l o W (Below.refl 0 W)).size
 exact hz _ _ _
end
section
variable {P:Program} {ops:Array Oper} {Q:Exit->Act->World->Prop} {md:Region.Mode}
section
variable {P:Program} {ops:Array Oper} {Q:Exit->Act->World->Prop} {md:Region.Mode} {S:World->Prop}
theorem on1 (i:Nat) {o:Oper} {fuel:Nat} {listed:Array Bool} {a:Act} {w:World}
  (h:∀K':Act->World->Prop,Shut (∀a w,S w->(S w->wpAnyH P md ops Q S fuel (listed.setIfInBounds i true) a w)->K' a w)->if Region.wanted o (yielded ops a.tmps)=true then Oper.wp P o a w K' Q else K' (a.put o.dst undef) w)
  (hr:Region.ready md ops listed=[i]:=by kernel_rfl) (ho:ops[i]?=some o:=by rfl):wpAnyH P md ops Q S (fuel+1) listed a w:=wpAnyH_ready hr (by simp) (AllReadyH.cons ho h AllReadyH.nil)
end
theorem tk (i:Nat) {oi:Oper} {v:Value} {d:Nat} {fuel:Nat} {listed:Array Bool} {tm tm':Array Value} {df:List Deferred} {w:World}
  (h:wpAnyH P md ops Q (λ_=>True) fuel (listed.setIfInBounds i true) ⟨tm',df⟩ w)
  (hi:ops[i]?=some oi:=by rfl) (hs:Region.noSelect ops=true:=by kernel_rfl) (hf:Region.free md ops listed i=true:=by kernel_rfl) (hr:(Region.ready md ops listed).contains i=true:=by kernel_rfl)
  (hd:oi.dst=some d:=by rfl) (hw:Region.wanted oi (yielded ops tm)=true:=by rfl) (hv:∀w,True->(execOp (Act.eval ⟨tm,df⟩) oi).run P w=.ok (.value v) w:=by (intro w _;go_simp;try with_reducible rfl))
  (hQ:∀c a w,Q (.panic c) (a.put oi.dst v) w->Q (.panic c) a w:=by exact λ_ _ _ h=>h)
  (ha:tm.setIfInBounds d v=tm':=by (first|(simp only[List.setIfInBounds_toArray,List.set_cons_zero,List.set_cons_succ];done)|(simp only[List.setIfInBounds_toArray,List.set_cons_zero,List.set_cons_succ];rfl))):
  wpAnyH P md ops Q (λ_=>True) (fuel+1) listed ⟨tm,df⟩ w:=by
 refine wpAnyH_take hi hs hf hr hQ (Or.inl ⟨hw,hv⟩) trivial ?_;rw[hd];show wpAnyH P md ops Q (λ_=>True) fuel (listed.setIfInBounds i true) ⟨tm.setIfInBounds d v,df⟩ w;rw[ha];exact h
end
section
variable {P:Program} {ops:Array Oper} {Q:Exit->Act->World->Prop} {md:Region.Mode}
theorem tk0 (i:Nat) {oi:Oper} {d:Nat} {fuel:Nat} {listed:Array Bool} {tm tm':Array Value} {df:List Deferred} {w:World}
  (h:wpAnyH P md ops Q (λ_=>True) fuel (listed.setIfInBounds i true) ⟨tm',df⟩ w)
  (hi:ops[i]?=some oi:=by rfl) (hs:Region.noSelect ops=true:=by kernel_rfl) (hf:Region.free md ops listed i=true:=by kernel_rfl) (hr:(Region.ready md ops listed).contains i=true:=by kernel_rfl)
  (hd:oi.dst=some d:=by rfl) (hw:Region.wanted oi (yielded ops tm)=false:=by rfl)
  (hQ:∀c a w,Q (.panic c) (a.put oi.dst undef) w->Q (.panic c) a w:=by exact λ_ _ _ h=>h)
  (ha:tm.setIfInBounds d undef=tm':=by (first|(simp only[List.setIfInBounds_toArray,List.set_cons_zero,List.set_cons_succ];done)|(simp only[List.setIfInBounds_toArray,List.set_cons_zero,List.set_cons_succ];rfl))):
  wpAnyH P md ops Q (λ_=>True) (fuel+1) listed ⟨tm,df⟩ w:=by
 refine wpAnyH_take hi hs hf hr hQ (Or.inr ⟨hw,rfl⟩) trivial ?_;rw[hd];show wpAnyH P md ops Q (λ_=>True) fuel (listed.setIfInBounds i true) ⟨tm.setIfInBounds d undef,df⟩ w;rw[ha];exact h
end
section
variable {X K':Act->World->Prop}
theorem ko {b a':Act} {w:World} (hK:Shut (∀a w,True->(True->X a w)->K' a w)) (h:X a' w)
  (ha:b=a':=by (first|(simp only[Act.put,List.setIfInBounds_toArray,List.set_cons_zero,List.set_cons_succ];done)|(simp only[Act.put,List.setIfInBounds_toArray,List.set_cons_zero,List.set_cons_succ];rfl)|rfl)):K' b w:=by
 rw[ha];exact hK.out _ _ trivial (λ_=>h)
end
end Go.Proofs.YtigenhbmgpfffaaGreatDoor.Pa
