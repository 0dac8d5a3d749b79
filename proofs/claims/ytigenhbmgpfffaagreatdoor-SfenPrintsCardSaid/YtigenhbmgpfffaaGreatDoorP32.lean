import Derived.Test.YtigenhbmgpfffaaGreatDoorCards
import Derived.Test.YtigenhbmgpfffaaGreatDoorTie
import Derived.Test.YtigenhbmgpfffaaGreatDoorP31
import Derived.WalkKit
import Derived.ProofKit
import Derived.OpenShut
import Derived.ShutString
import Derived.ChangeOld
import Derived.Below
import Derived.SizedLaws
import Derived.Deep.Strs
import Derived.Deep.DeepHandedRow
import Derived.Lib.LaidTab
import Derived.Stop.LaidErr
import Derived.Shelf.Vars
namespace Go.Proofs.YtigenhbmgpfffaaGreatDoor.Laid
open Go.ChangeShapes Go.WideShapes Go.ChangeAt Go.RowKit
set_option linter.unusedVariables false
section
variable {P:Program}
def AllI (P:Program) (k:IntKind) (e:TypeId):Prop:=∀ (H:Type) (enc:TypeId×Value→H) (w:World) (base:Nat) (spare:Nat→Bool) (held:Bool) (fuel:Nat) (cs:List Value) (x:DataW H×List MemPlace),DataW.trod enc P w base spare held fuel e cs=some x→(∀ v ∈ cs,∃ z,v=.int k z∧(Lit.int k z).wf=true)∧x.2=[]
theorem allI_int {k:IntKind} {e:TypeId} (h:P.underlying e=some (.int k)):AllI P k e:=by
  intro H enc w base spare held fuel cs x hx;obtain ⟨n,rfl,rfl,hw⟩:=DataW.trod_int h hx;refine ⟨fun v hv=>?_,rfl⟩;obtain rfl:=List.mem_singleton.1 hv;exact ⟨n,rfl,hw⟩
theorem allI_array {k:IntKind} {t e:TypeId} {n c:Nat} (ht:P.underlying t=some (.array n e)) (hc:P.cellsOf e=c) (h0:0 < c) (hn:P.cellsOf t=n * c) (he:AllI P k e):AllI P k t:=by
  intro H enc w base spare held fuel cs x hx;obtain ⟨xs,m,_,rfl,hl,hxl,hf⟩:=DataW.trod_array ht hx
  have hg:∀ i,i < n→(∀ v ∈ (cs.drop (i * c)).take c,∃ z,v=.int k z∧(Lit.int k z).wf=true)∧∀ y,xs[i]?=some y→y.2=[]:=fun i hi=>by
    have e1:=hf i hi;rw [hc] at e1;have e2:xs[i]?=some (xs[i]'(by omega)):=List.getElem?_eq_getElem (by omega);obtain ⟨g1,g2⟩:=he _ _ _ _ _ _ _ _ _ (e1.trans e2);refine ⟨g1,fun y hy=>?_⟩;obtain rfl:=Option.some.inj (hy.symm.trans e2);exact g2
  refine ⟨fun v hv=>?_,?_⟩
  · obtain ⟨j,hj,rfl⟩:=List.mem_iff_getElem.1 hv
    have hjn:j < n * c:=by omega
    have hi:j / c < n:=by rw [Nat.div_lt_iff_lt_mul h0];exact hjn
    refine (hg (j / c) hi).1 _ ?_;have hm:j % c < c:=Nat.mod_lt _ h0
    have hd:j / c * c+j % c=j:=by rw [Nat.mul_comm];exact Nat.div_add_mod j c
    rw [List.mem_iff_getElem?];exact ⟨j % c,by rw [List.getElem?_take_of_lt hm,List.getElem?_drop,hd,List.getElem?_eq_getElem hj]⟩
  · show xs.flatMap (·.2)=[]
    rw [List.flatMap_eq_nil_iff];intro y hy;obtain ⟨i,hi,rfl⟩:=List.mem_iff_getElem.1 hy;exact (hg i (by omega)).2 _ (List.getElem?_eq_getElem hi)
theorem allI_struct3 {k:IntKind} {t:TypeId} {f0 f1 f2:Field} {c0 c1 c2:Nat} (ht:P.underlying t=some (.struct #[f0,f1,f2])) (o0:f0.offset=0) (o1:f1.offset=c0) (o2:f2.offset=c0+c1)
    (h0:P.cellsOf f0.type=c0) (h1:P.cellsOf f1.type=c1) (h2:P.cellsOf f2.type=c2) (hn:P.cellsOf t=c0+c1+c2) (e0:AllI P k f0.type) (e1:AllI P k f1.type) (e2:AllI P k f2.type):AllI P k t:=by
  intro H enc w base spare held fuel cs x hx;obtain ⟨y0,y1,y2,n,rfl,hl,r0,r1,r2⟩:=Go.Deep.trod_struct3 ht hx;rw [o0,h0] at r0;rw [o1,h1] at r1;rw [o2,h2] at r2;obtain ⟨g0,p0⟩:=e0 _ _ _ _ _ _ _ _ _ r0;obtain ⟨g1,p1⟩:=e1 _ _ _ _ _ _ _ _ _ r1;obtain ⟨g2,p2⟩:=e2 _ _ _ _ _ _ _ _ _ r2;refine ⟨fun v hv=>?_,by show y0.2 ++ (y1.2 ++ y2.2)=[];rw [p0,p1,p2];rfl⟩;obtain ⟨j,hj,rfl⟩:=List.mem_iff_getElem.1 hv
  by_cases a0:j < c0
  · refine g0 _ (List.mem_iff_getElem?.2 ⟨j,?_⟩)
    rw [List.getElem?_take_of_lt a0,List.getElem?_drop,Nat.zero_add,List.getElem?_eq_getElem hj]
  · by_cases a1:j < c0+c1
    · refine g1 _ (List.mem_iff_getElem?.2 ⟨j - c0,?_⟩)
      rw [List.getElem?_take_of_lt (by omega),List.getElem?_drop,show c0+(j - c0)=j by omega,List.getElem?_eq_getElem hj]
    · refine g2 _ (List.mem_iff_getElem?.2 ⟨j - (c0+c1),?_⟩)
      rw [List.getElem?_take_of_lt (by omega),List.getElem?_drop,show c0+c1+(j - (c0+c1))=j by omega,List.getElem?_eq_getElem hj]
def SameT (P:Program) (e:TypeId):Prop:=∀ (H:Type) (enc:TypeId×Value→H) (w w':World) (base base':Nat) (spare spare':Nat→Bool) (held held':Bool) (fuel:Nat) (cs:List Value),DataW.trod enc P w base spare held fuel e cs=DataW.trod enc P w' base' spare' held' fuel e cs
theorem same_int {k:IntKind} {e:TypeId} (h:P.underlying e=some (.int k)):SameT P e:=by
  intro H enc w w' base base' spare spare' held held' fuel cs
  cases fuel with
  | zero=>rfl
  | succ n=>
    unfold DataW.trod;rw [h]
    cases cs with
    | nil=>rfl
    | cons v cs=>cases cs <;> cases v <;> rfl
theorem same_array {t e:TypeId} {n:Nat} (ht:P.underlying t=some (.array n e)) (he:SameT P e):SameT P t:=by
  intro H enc w w' base base' spare spare' held held' fuel cs
  cases fuel with
  | zero=>rfl
  | succ m=>
    unfold DataW.trod;rw [ht];have e1:(fun i=>DataW.trod enc P w base spare held m e ((cs.drop (i * P.cellsOf e)).take (P.cellsOf e)))=fun i=>DataW.trod enc P w' base' spare' held' m e ((cs.drop (i * P.cellsOf e)).take (P.cellsOf e)):=funext fun i=>he H enc w w' base base' spare spare' held held' m _;show (if cs.length=P.cellsOf t then ((List.range n).mapM fun i=>DataW.trod enc P w base spare held m e ((cs.drop (i * P.cellsOf e)).take (P.cellsOf e))).map _ else none)=(if cs.length=P.cellsOf t then ((List.range n).mapM fun i=>DataW.trod enc P w' base' spare' held' m e ((cs.drop (i * P.cellsOf e)).take (P.cellsOf e))).map _ else none);rw [e1]
theorem same_struct3 {t:TypeId} {f0 f1 f2:Field} (ht:P.underlying t=some (.struct #[f0,f1,f2])) (e0:SameT P f0.type) (e1:SameT P f1.type) (e2:SameT P f2.type):SameT P t:=by
  intro H enc w w' base base' spare spare' held held' fuel cs
  cases fuel with
  | zero=>rfl
  | succ m=>
    unfold DataW.trod;rw [ht];show (if cs.length=P.cellsOf t then ([f0,f1,f2].mapM fun f=>DataW.trod enc P w base spare held m f.type ((cs.drop f.offset).take (P.cellsOf f.type))).map _ else none)=(if cs.length=P.cellsOf t then ([f0,f1,f2].mapM fun f=>DataW.trod enc P w' base' spare' held' m f.type ((cs.drop f.offset).take (P.cellsOf f.type))).map _ else none);simp only [List.mapM_cons,List.mapM_nil,e0 H enc w w' base base' spare spare' held held' m,e1 H enc w w' base base' spare spare' held held' m,e2 H enc w w' base base' spare spare' held held' m]
theorem ints_of {k:IntKind}:∀ (cs:List Value),(∀ v ∈ cs,∃ z,v=.int k z∧(Lit.int k z).wf=true)→∃ l:List Int,cs=l.map (Value.int k)∧∀ z ∈ l,(Lit.int k z).wf=true
  | [],_=>⟨[],rfl,fun z hz=>by cases hz⟩
  | v :: cs,h=>by
    obtain ⟨z,rfl,hw⟩:=h v (List.mem_cons_self ..);obtain ⟨l,rfl,hl⟩:=ints_of cs fun u hu=>h u (List.mem_cons_of_mem _ hu);refine ⟨z :: l,rfl,fun y hy=>?_⟩
    rcases List.mem_cons.1 hy with rfl|hy
    · exact hw
    · exact hl y hy
theorem open_ints_struct {H:Type} {enc:TypeId×Value→H} {w:World} {base b0:Nat} {spare:Nat→Bool} {held:Bool} {r:Reach} {k:IntKind} {t:TypeId} {fs:Array Field} {n:Nat} {v:Value} {d:DataW H} {p:List MemPlace} (ht:P.underlying t=some (.struct fs)) (hn:P.cellsOf t=n) (ha:AllI P k t) (hsame:SameT P t) (hv:Value.okWide P w r b0 t v) (h:DataW.Trod enc P w base spare held t v d p):
    ∃ l:List Int,v=.agg (l.map (Value.int k)).toArray∧l.length=n∧p=[]∧(∀ z ∈ l,(Lit.int k z).wf=true)∧∀ w' base' spare' held',DataW.Trod enc P w' base' spare' held' t v d []:=by
  obtain ⟨cs,rfl,hsz⟩:=okWide_struct ht hv;obtain ⟨fuel,hf⟩:=h;obtain ⟨h1,h2⟩:=ha _ _ _ _ _ _ _ _ _ hf;have h2':p=[]:=h2;subst h2';obtain ⟨l,hl,hw⟩:=ints_of _ h1
  have hcs:cs=(l.map (Value.int k)).toArray:=by
    apply Array.toList_inj.1
    rw [List.toList_toArray];exact hl
  refine ⟨l,by rw [hcs],?_,rfl,hw,fun w' base' spare' held'=>⟨fuel,(hsame H enc w' w base' base spare' spare held' held fuel _).trans hf⟩⟩;have e:=congrArg Array.size hcs
  simp at e
  omega
end
theorem pos_ints:AllI Tryz.prog .i8 28:=by
  have e8:AllI Tryz.prog .i8 25:=allI_array Tryz.underlying25 (c:=1) (by kernel_rfl) (by decide) (by kernel_rfl) (allI_int (by kernel_rfl));have e16:AllI Tryz.prog .i8 26:=allI_array Tryz.underlying26 (c:=8) (by kernel_rfl) (by decide) (by kernel_rfl) e8;have e81:AllI Tryz.prog .i8 24:=allI_array Tryz.underlying24 (c:=1) (by kernel_rfl) (by decide) (by kernel_rfl) (allI_int (by kernel_rfl));exact allI_struct3 Tryz.underlying28 (c0:=81) (c1:=16) (c2:=1) rfl rfl rfl (by kernel_rfl) (by kernel_rfl) (by kernel_rfl) (by kernel_rfl) e81 e16 (allI_int (by kernel_rfl))
theorem pos_same:SameT Tryz.prog 28:=same_struct3 Tryz.underlying28 (same_array Tryz.underlying24 (same_int (k:=.i8) (by kernel_rfl))) (same_array Tryz.underlying26 (same_array Tryz.underlying25 (same_int (k:=.i8) (by kernel_rfl)))) (same_int (k:=.i8) (by kernel_rfl))
theorem own:ownKnob Tryz.prog.godebug=none:=by kernel_rfl
def items : List (String × DataW Unit) := [("math/bits.deBruijn32tab", Rows.laid_math_bits_deBruijn32tab), ("math/bits.deBruijn64tab", Rows.laid_math_bits_deBruijn64tab), ("internal/strconv.uint64pow10", Rows.laid_internal_strconv_uint64pow10), ("unicode/utf8.acceptRanges", Rows.laid_unicode_utf8_acceptRanges), ("strconv.ErrRange", Rows.laid_strconv_ErrRange), ("strconv.ErrSyntax", Rows.laid_strconv_ErrSyntax), ("unicode/utf8.first", Rows.laid_unicode_utf8_first)]
theorem gTab : Tryz.prog.globalNamed "math/bits.deBruijn64tab" = some 6 := by kernel_rfl
theorem gTabType:(Tryz.prog.globals[6]?).map (·.type)=some 162:=by kernel_rfl
theorem cTab:Tryz.prog.cellsOf 162=64:=by kernel_rfl
theorem cU8:Tryz.prog.cellsOf 5=1:=by kernel_rfl
theorem gPow : Tryz.prog.globalNamed "internal/strconv.uint64pow10" = some 3 := by kernel_rfl
theorem gPowType:(Tryz.prog.globals[3]?).map (·.type)=some 138:=by kernel_rfl
theorem cPow:Tryz.prog.cellsOf 138=20:=by kernel_rfl
theorem cU64:Tryz.prog.cellsOf 86=1:=by kernel_rfl
theorem gSyn : Tryz.prog.globalNamed "strconv.ErrSyntax" = some 0 := by kernel_rfl
theorem gSynType:(Tryz.prog.globals[0]?).map (·.type)=some 56:=by kernel_rfl
theorem gRng : Tryz.prog.globalNamed "strconv.ErrRange" = some 1 := by kernel_rfl
theorem gRngType:(Tryz.prog.globals[1]?).map (·.type)=some 56:=by kernel_rfl
theorem star : "*" ++ "errors.errorString" = "*errors.errorString" := by decide
theorem rowE (u : TypeId) (h : Tryz.prog.typeName? 3 u = some "*errors.errorString") : u = 145 :=
  typeName_ptr_named (nm := "errors.errorString") (by rw [star]; kernel_rfl) (by kernel_rfl) (by decide) u (by rw [star]; exact h)
theorem cE:Tryz.prog.cellsOf 147=1:=by kernel_rfl
theorem cS:Tryz.prog.cellsOf 9=1:=by kernel_rfl
theorem env {W:World} (h:laidMetH Tryz.prog items W) (hsh:W.ShapedOpen Tryz.prog):Pa.Env W:=by
  have hM:laidMet Tryz.prog items W:=h;obtain ⟨m,hm⟩:=Go.Proofs.cell_of_shapedOpen_int (g:=2) (zero:=#[.int .i64 0]) (t:=3) hsh (of_decide_eq_true (by kernel_rfl)) (by kernel_rfl) rfl (by kernel_rfl) (by kernel_rfl) Tryz.underlying3;obtain ⟨a0,s0,hv0,_⟩:=laid_sentinel hM.tail.tail.tail.tail.tail gSyn gSynType Tryz.underlying56 rowE Tryz.underlying145 Tryz.underlying147 rfl rfl Tryz.underlying9 cE cS;obtain ⟨a1,s1,hv1,_⟩:=laid_sentinel hM.tail.tail.tail.tail gRng gRngType Tryz.underlying56 rowE Tryz.underlying145 Tryz.underlying147 rfl rfl Tryz.underlying9 cE cS
  have c0:W.cell? ⟨0,0,none⟩=some (.iface 145 (.pointer (some a0))):=by simpa using World.var?_cell gSyn hv0 0
  have c1:W.cell? ⟨1,0,none⟩=some (.iface 145 (.pointer (some a1))):=by simpa using World.var?_cell gRng hv1 0
  refine ⟨fun i hi=>?_,?_,⟨m,hm⟩,⟨_,c0,.inr ⟨_,_,rfl⟩⟩,⟨_,c1,.inr ⟨_,_,rfl⟩⟩⟩
  · exact (Lib.tabIs_of_head (zs:=Pa.bits_TrailingZeros64.tab) gTab gTabType Tryz.underlying162 Tryz.underlying5 cU8 cTab hM.tail).cell gTab i hi
  · exact Lib.tabIs_of_head (zs:=Lib.pow10Tab) gPow gPowType Tryz.underlying138 Tryz.underlying86 cU64 cPow hM.tail.tail
def lit1:DataW Unit→List Value
  | .lit (.int k n)=>[.int k n]
  | _=>[]
def lit2:DataW Unit→List Value
  | .agg l=>l.flatMap lit1
  | d=>lit1 d
def lit3:DataW Unit→Array Value
  | .agg l=>(l.flatMap lit2).toArray
  | d=>(lit2 d).toArray
def putRow (w : World) (g : Nat) (cs : Array Value) : World := { w with heap := w.heap.modify g fun
      | .cells _ t frozen=>.cells cs t frozen
      | o=>o }
noncomputable def low:Nat:=(World.holding Tryz.prog default ⟨#[],#[],[]⟩).heap.size
noncomputable def laidWorld (os:Os):World:=
  let w0:=World.holding Tryz.prog os ⟨#[.cells #[.string ⟨#[105,110,118,97,108,105,100,32,115,121,110,116,97,120]⟩] 147,.cells #[.string ⟨#[118,97,108,117,101,32,111,117,116,32,111,102,32,114,97,110,103,101]⟩] 147],#[],[]⟩
  let w1:=putRow w0 0 #[.iface 145 (.pointer (some ⟨low,0,none⟩))]
  let w2:=putRow w1 1 #[.iface 145 (.pointer (some ⟨low+1,0,none⟩))]
  let w3:=putRow w2 7 (lit3 Rows.laid_math_bits_deBruijn32tab)
  let w4:=putRow w3 6 (lit3 Rows.laid_math_bits_deBruijn64tab)
  let w5:=putRow w4 3 (lit3 Rows.laid_internal_strconv_uint64pow10)
  let w6:=putRow w5 5 (lit3 Rows.laid_unicode_utf8_acceptRanges)
  let w7:=putRow w6 4 (lit3 Rows.laid_unicode_utf8_first)
  w7
end Go.Proofs.YtigenhbmgpfffaaGreatDoor.Laid
