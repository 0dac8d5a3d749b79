import Derived.Test.YtigenhbmgpfffaaGreatDoorP15
import Derived.Test.YtigenhbmgpfffaaGreatDoorP16
import Derived.Test.YtigenhbmgpfffaaGreatDoorP18
import Derived.Test.YtigenhbmgpfffaaGreatDoorP20
import Derived.Test.YtigenhbmgpfffaaGreatDoorP26
import Derived.Test.YtigenhbmgpfffaaGreatDoorP27
namespace Go.Proofs.YtigenhbmgpfffaaGreatDoor.Pa
open Go.RowKit Go.Proofs.YtigenhbmgpfffaaGreatDoorW.PrintWords Go.Proofs.YtigenhbmgpfffaaGreatDoorW.PrintLast Go.Proofs.YtigenhbmgpfffaaGreatDoorW.PrintMore
attribute [local go_sem] z7 zy yJ yI zq zp z6 zx
set_option linter.unusedVariables false
set_option linter.unusedSimpArgs false
def jd.str:ByteArray:=⟨#[32,80,76,78,83,71,66,82,75]⟩
def jd.tab:List Nat:=[32,80,76,78,83,71,66,82,75]
def jd.kind (a:Int):Int:=if a=80 then 1 else if a=76 then 2 else if a=78 then 3 else if a=83 then 4 else if a=71 then 5 else if a=66 then 6 else if a=82 then 7 else if a=75 then 8 else 0
def jd.look (side a:Int) (a1:Bool):Option Int:=if jd.kind a=0 then some 0 else if a1=true then (piece_Up.f (jd.kind a)).bind fun t=>zM.f side t else zM.f side (jd.kind a)
def jd.f (a0:Int) (a1:Bool):Option Int:=if 97≤a0∧a0≤122 then jd.look 1 (a0 - 32) a1 else jd.look 0 a0 a1
theorem jd.dec:∀ j,j < 9→Utf8.decode jd.str j=(jd.tab.getD j 0,1)∧jd.tab.getD j 0 < 50000∧(j≠0→jd.kind ((jd.tab.getD j 0:Nat):Int)=(j:Int)):=by decide +kernel
theorem jd.kind_cases (a:Int):jd.kind a=0∨∃ j:Nat,1≤j∧j < 9∧a=((jd.tab.getD j 0:Nat):Int):=by
  unfold jd.kind
  repeat' split
  all_goals first
    | (left;rfl)
    | (right;first|exact ⟨1,by omega,by omega,by simp only [*];rfl⟩|exact ⟨2,by omega,by omega,by simp only [*];rfl⟩|exact ⟨3,by omega,by omega,by simp only [*];rfl⟩|exact ⟨4,by omega,by omega,by simp only [*];rfl⟩|exact ⟨5,by omega,by omega,by simp only [*];rfl⟩|exact ⟨6,by omega,by omega,by simp only [*];rfl⟩|exact ⟨7,by omega,by omega,by simp only [*];rfl⟩|exact ⟨8,by omega,by omega,by simp only [*];rfl⟩)
def jd.Post (r:Int) (w:World) (e:Ending) (w':World):Prop:=e=.returned (.int .i8 r)∧Below w.heap.size w w'
theorem jd.calls (a0:Int) (a1:Bool) (r:Int) (w:World) (h:jd.f a0 a1=some r):
    Calls Tryz.prog 25 #[.int .i32 a0,.bool a1] w fun e w'=>e=.returned (.int .i8 r)∧Below w.heap.size w w':=by
  obtain ⟨side,L,hat,hL⟩:∃ side L:Int,jd.look side L a1=some r∧((97≤a0∧a0≤122∧side=1∧L=a0 - 32)∨(¬ (97≤a0∧a0≤122)∧side=0∧L=a0)):=by
    unfold jd.f at h
    split at h
    · exact ⟨1,a0 - 32,h,.inl ⟨by omega,by omega,rfl,rfl⟩⟩
    · exact ⟨0,a0,h,.inr ⟨by assumption,rfl,rfl⟩⟩
  have HH:=Lib.hid h;clear h;have HAT:=Lib.hid hat;clear hat;show Calls Tryz.prog 25 #[.int .i32 a0,.bool a1] w (jd.Post r w)
  have hB:(decide (97≤a0)=true∧decide (a0≤122)=true∧side=1∧L=a0 - 32)∨((decide (97≤a0)=true∧decide (a0≤122)=false∨decide (97≤a0)=false)∧side=0∧L=a0):=by
    rcases hL with ⟨h1,h2,h3,h4⟩|⟨h1,h3,h4⟩
    · exact .inl ⟨decide_eq_true h1,decide_eq_true h2,h3,h4⟩
    · by_cases h2:97≤a0
      · exact .inr ⟨.inl ⟨decide_eq_true h2,decide_eq_false (by omega)⟩,h3,h4⟩
      · exact .inr ⟨.inr (decide_eq_false h2),h3,h4⟩
  clear hL
  rcases hB with ⟨b1,b2,rfl,h4⟩|⟨⟨b1,b2⟩|b1,rfl,rfl⟩
  all_goals
    try have H4:=Lib.hid (show wrap32 (a0 - 32)=L by have:=of_decide_eq_true b1;have:=of_decide_eq_true b2;unfold wrap32;omega)
    try clear h4
    go_enter Tryz.func25,Tryz.ntmps25;go_wp2
    try rw [H4.out]
    go_loopg [6] 10 (fun gf s6 wx=>∃ j:Nat,j≤9∧wx.heap[w.heap.size]?=some (.stringIter jd.str j)∧Below w.heap.size w wx∧Hid (∀ q:Nat,1≤q→q < j→L≠((jd.tab.getD q 0:Nat):Int))∧9≤j+gf)
    case atStart=>exact ⟨0,by omega,World.iter_heap w jd.str 0,(Below.refl _ w).alloc (Nat.le_refl _) _,Lib.hid (fun q _ hq=>absurd hq (by omega)),by omega⟩
    case round=>
      obtain ⟨j,hj,hit,hbw,hall,hfu⟩:=hrel
      by_cases hps:j < 9
      · obtain ⟨g',rfl⟩:∃ g',gk=g'+1:=⟨gk - 1,by omega⟩
        have hnx:∀ ty,(Instr.next (.pointer (some ⟨w.heap.size,0,none⟩)) true ty).run Tryz.prog wr=_:=fun ty=>Lib.run_next_any_at wr w.heap.size jd.str j ty hit (by show j < 9;omega);obtain ⟨hdc,hlt,hkd⟩:=jd.dec j hps;rw [hdc] at hnx;have hit2:=Lib.iterAt_heap wr w.heap.size jd.str j (j+1) hit;have hbw2:=Lib.below_iterAt hbw (k:=w.heap.size) (Nat.le_refl _) jd.str (j+1)
        obtain ⟨W,hWd⟩:∃ W,wr.iterAt w.heap.size jd.str (j+1)=W:=⟨_,rfl⟩
        rw [hWd] at hnx hit2 hbw2
        obtain ⟨R,hR⟩:∃ R,jd.tab.getD j 0=R:=⟨_,rfl⟩
        rw [hR] at hnx hkd hlt;have HR:=Lib.hid hR;clear hR;have HW:=Lib.hid hWd;clear hWd;have HD:=Lib.hid hdc;clear hdc;have HKD:=Lib.hid hkd;clear hkd
        by_cases hz:j=0
        · have b3:((j:Int)==0)=true:=by rw [beq_iff_eq];omega
          have HZ:=Lib.hid hz;clear hz;go_wp2
          go_roundg g'
          case measure=>omega
          case rel=>exact ⟨j+1,by omega,hit2,hbw2,Lib.hid (fun q h1 hq=>by have:=HZ.out;omega),by omega⟩
        · have b3:((j:Int)==0)=false:=by rw [beq_eq_false_iff_ne];omega
          have hkj:jd.kind (R:Int)=(j:Int):=HKD.out hz
          by_cases hk:L=(R:Int)
          · have b4:((R:Int) != L)=false:=by rw [bne_eq_false_iff_eq];exact hk.symm
            have hat:jd.look _ L a1=some r:=HAT.out;unfold jd.look at hat;rw [hk,hkj,if_neg (by omega)] at hat;have HK:=Lib.hid hk;clear hk;have HZ:=Lib.hid hz;clear hz;have HKJ:=Lib.hid hkj;clear hkj
            cases a1
            · rw [if_neg (by decide)] at hat;have hOf:=Lib.hid hat;clear hat
              go_wp2_with (go_at_call 27;refine (zM.calls _ _ _ _ hOf.out).mono ?_;rintro e w' ⟨rfl,⟨nd,rfl⟩⟩)
              go_ret;exact ⟨rfl,jC hbw2 _⟩
            · rw [if_pos rfl] at hat
              obtain ⟨t,hUp,hOf⟩:=Option.bind_eq_some_iff.mp hat;clear hat;have HUp:=Lib.hid hUp;clear hUp;have HOf:=Lib.hid hOf;clear hOf
              go_wp2_with (go_at_call 49;refine (piece_Up.calls _ _ _ HUp.out).mono ?_;rintro e w' ⟨rfl,⟨nd,rfl⟩⟩)
              go_wp2_with (go_at_call 27;refine (zM.calls _ _ _ _ HOf.out).mono ?_;rintro e w' ⟨rfl,⟨nd2,rfl⟩⟩)
              go_ret;exact ⟨rfl,jC hbw2 _⟩
          · have b4:((R:Int) != L)=true:=by rw [bne_iff_ne];exact fun h=>hk h.symm
            have HK:=Lib.hid hk;clear hk;have HZ:=Lib.hid hz;clear hz;have HKJ:=Lib.hid hkj;clear hkj;go_wp2
            go_roundg g'
            case measure=>omega
            case rel=>exact ⟨j+1,by omega,hit2,hbw2,Lib.hid (fun q h1 hq he=>by
              rcases Nat.lt_succ_iff_lt_or_eq.1 hq with h|h
              · exact hall.out q h1 h he
              · exact HK.out (by rw [he,h,HR.out])),by omega⟩
      · obtain rfl:j=9:=by omega
        have hnx:∀ ty,(Instr.next (.pointer (some ⟨w.heap.size,0,none⟩)) true ty).run Tryz.prog wr=_:=fun ty=>Lib.run_next_end_at wr w.heap.size jd.str 9 ty hit (by show ¬ (9 < 9);omega)
        have hr0:r=0:=by
          have hat:jd.look _ L a1=some r:=HAT.out
          rcases jd.kind_cases L with h0|⟨q,h1,h2,h3⟩
          · unfold jd.look at hat
            rw [h0,if_pos rfl] at hat;exact (Option.some.inj hat).symm
          · exact absurd h3 (hall.out q h1 h2)
        have HR0:=Lib.hid hr0;clear hr0;go_wp2;go_ret;exact ⟨by rw [HR0.out];rfl,hbw⟩
theorem yE {T e:TypeId} {B b:Nat} {bs:List Value} {W W':World} (h:Lib.IsBuilderF T e B b bs W) (hb:Below W.heap.size W W'):Lib.IsBuilderF T e B b bs W':=by
  have f:∀ p,Lib.BuilderAtF T e B b p bs W→Lib.BuilderAtF T e B b p bs W':=fun p x=>by
    have hlt:=x.lt;obtain ⟨hB,v,hv,hown,hne⟩:=x;exact ⟨hB,v,(hb.block b hlt).trans hv,hown.kept (row:=none) ⟨hb.os,hb.tape,hb.output,hb.size,fun k hk _=>hb.block k hk⟩ (Classical.em _),hne⟩
  exact h.elim (fun x=>.inl (f _ x)) (fun x=>.inr (f _ x))
theorem yo {T e:TypeId} {B b:Nat} {bs:List Value} {W:World} (h:Lib.IsBuilderF T e B b bs W):b < W.heap.size:=h.elim (fun x=>x.lt) (fun x=>x.lt)
theorem yM {B C:Nat} {a b:World} (h:Below C a b) (hBC:B≤C):Below B a b:=⟨h.os,h.tape,h.output,h.size,fun i hi=>h.block i (Nat.lt_of_lt_of_le hi hBC)⟩
theorem jBL (l:List UInt8) (s:ByteArray):Lib.byteCells l ++ Lib.strCells s=Lib.byteCells (l ++ s.data.toList):=by simp [Lib.byteCells,Lib.strCells]
theorem bc_len (l s:List UInt8) (h:l.length+s.length≤100000):(Lib.byteCells l).length+ByteArray.size ⟨s.toArray⟩≤140737488355328:=by
  rw [Lib.byteCells_length];show l.length+s.toArray.size≤_;rw [List.size_toArray];omega
theorem bc_cat (s:List UInt8):((⟨#[32]⟩:ByteArray) ++ ⟨s.toArray⟩).data.toList=[32] ++ s:=by
  simp [ByteArray.data_append]
theorem bc_len2 (l s:List UInt8) (h:l.length+s.length≤100000):(Lib.byteCells l).length+((⟨#[32]⟩:ByteArray) ++ ⟨s.toArray⟩).size≤140737488355328:=by
  have e:((⟨#[32]⟩:ByteArray) ++ ⟨s.toArray⟩).size=1+s.length:=by
    show ((⟨#[32]⟩:ByteArray) ++ ⟨s.toArray⟩).data.size=_;rw [← Array.length_toList,bc_cat]
    simp
    omega
  rw [Lib.byteCells_length,e];omega
theorem zv {W W':World} (h:∃ k os,W'=Go.Sort.grow (W.drewN k) os):Below W.heap.size W W':=by
  obtain ⟨k,os,rfl⟩:=h;exact Lib.below_grow _ _ (Nat.le_refl _) k os
def dig (n:Nat):UInt8:=UInt8.ofNat (48+n)
theorem bc_dig (l:List UInt8) (n:Nat) (h:n < 100):Lib.byteCells l ++ [Value.int .u8 (48+(n:Int))]=Lib.byteCells (l ++ [dig n]):=by
  have e:((dig n).toNat:Int)=48+(n:Int):=by
    unfold dig;rw [UInt8.toNat_ofNat'];omega
  simp [Lib.byteCells,e]
theorem bc_47 (l:List UInt8):Lib.byteCells l ++ [Value.int .u8 47]=Lib.byteCells (l ++ [47]):=by simp [Lib.byteCells]
theorem bc_45 (l:List UInt8):Lib.byteCells l ++ [Value.int .u8 45]=Lib.byteCells (l ++ [45]):=by simp [Lib.byteCells]
def je.str:ByteArray:=⟨#[82,66,71,83,78,76,80]⟩
def je.let:List Nat:=[82,66,71,83,78,76,80]
theorem je.dec:∀ j,j < 7→Utf8.decode je.str j=(je.let.getD j 0,1):=by decide +kernel
theorem je.let_is:∀ j,j < 7→∃ p,jd.f ((je.let.getD j 0:Nat):Int) false=some p∧jW.f 20 p=some ((7 - j:Nat):Int):=by
  have h:∀ j:Fin 7,((jd.f ((je.let.getD j.1 0:Nat):Int) false).bind fun p=>jW.f 20 p)=some ((7 - j.1:Nat):Int):=by decide +kernel
  intro j hj;exact Option.bind_eq_some_iff.mp (h ⟨j,hj⟩)
theorem je.sq_is (k r:Nat) (hk:k < 9) (hr:r < 9):zF.f (k:Int) (r:Int)=some ((9 * k+r:Nat):Int):=by
  have h:∀ k r:Fin 9,zF.f (k.1:Int) (r.1:Int)=some ((9 * k.1+r.1:Nat):Int):=by decide +kernel
  exact h ⟨k,hk⟩ ⟨r,hr⟩
def je.row (cs:List Int) (r:Nat):Nat→Nat→List UInt8→Option (List UInt8×Nat)
  | 0,free,out=>some (out,free)
  | d+1,free,out=>if cs.getD (9 * d+r) 0=0 then je.row cs r d (free+1) out else (yB.f 20 (cs.getD (9 * d+r) 0)).bind fun nm=>je.row cs r d 0 ((if 0 < free then out ++ [dig free] else out) ++ nm.data.toList)
def je.tail (r:Nat) (t:List UInt8×Nat):List UInt8:=(if 0 < t.2 then t.1 ++ [dig t.2] else t.1) ++ (if r < 8 then [47] else [])
def je.rows (cs:List Int):Nat→Nat→List UInt8→Option (List UInt8)
  | _,0,out=>some out
  | r,d+1,out=>(je.row cs r 9 0 out).bind fun t=>je.rows cs (r+1) d (je.tail r t)
def je.hand (cs:List Int) (s:Nat):Nat→Nat→Bool→List UInt8→Option (Bool×List UInt8)
  | _,0,nn,out=>some (nn,out)
  | j,d+1,nn,out=>if cs.getD (81+8 * s+(7 - j)) 0=0 then je.hand cs s (j+1) d nn out else (zM.f (s:Int) ((7 - j:Nat):Int)).bind fun p=>(yB.f 20 p).bind fun nm=>
      je.hand cs s (j+1) d false ((if 1 < cs.getD (81+8 * s+(7 - j)) 0 then out ++ Lib.itoa (wrap64 (cs.getD (81+8 * s+(7 - j)) 0)) else out) ++ nm.data.toList)
def je.hands (cs:List Int):Nat→Nat→Bool→List UInt8→Option (Bool×List UInt8)
  | _,0,nn,out=>some (nn,out)
  | s,d+1,nn,out=>(je.hand cs s 0 7 nn out).bind fun t=>je.hands cs (s+1) d t.1 t.2
def je.text (cs:List Int) (number:Int):Option (List UInt8):=(je.rows cs 0 9 []).bind fun o1=>(je.hands cs 0 2 true (o1 ++ (if cs.getD 97 0=1 then [32,119,32] else [32,98,32]))).bind fun t=>
  some ((if t.1=true then t.2 ++ [45] else t.2) ++ ([32] ++ Lib.itoa number))
def je.f (cs:List Int) (number:Int):Option ByteArray:=(zL.f cs).bind fun e=>if e≠0∨number < 1∨9999 < number then some ⟨#[]⟩ else (je.text cs number).bind fun l=>some ⟨l.toArray⟩
set_option maxRecDepth 100000 in
set_option maxHeartbeats 16000000 in
theorem je.print_calls (cs : List Int) (number : Int) (r : ByteArray) (w : World) (hT : bits_TrailingZeros64.Tab w) (hTab : Lib.TabIs Tryz.prog w "internal/strconv.uint64pow10" .u64 Lib.pow10Tab) (hl : cs.length = 98) (hNL : ∀ (x : Int) (nm : ByteArray), yB.f 20 x = some nm → nm.size ≤ 2) (h : je.f cs number = some r) :
    Calls Tryz.prog 10 #[.agg (jA.pv cs),.int .i64 number] w fun e w'=>e=.returned (.string r)∧Below w.heap.size w w':=by
  unfold je.f at h;obtain ⟨e0,h1,h2⟩:=Option.bind_eq_some_iff.mp h;have H1:=Aside0.mk h1;have HNL:=Aside0.mk hNL;have HTAB:=Aside0.mk (Lib.tabBelow_of_tabIs hTab);have B1:(w.alloc (Obj.cells (jA.pv cs) 28)).heap[w.heap.size]?=some (.cells (jA.pv cs) 28 (0,0)):=zG w _;have BB:Below w.heap.size w (w.alloc (Obj.cells (jA.pv cs) 28)):=jD (Below.refl _ _) _;have KT:=Aside0.mk (hT.below BB);clear h hT hNL hTab;go_enter Tryz.func10,Tryz.ntmps10;go_upto_region 1 with (fail);generalize w.alloc (Obj.cells (jA.pv cs) 28)=W at *;have K2:=Aside0.mk B1;have KB:=Aside0.mk BB;clear B1 BB
  by_cases hbad:e0≠0∨number < 1∨9999 < number
  · rw [if_pos hbad] at h2
    obtain rfl:=Option.some.inj h2;clear h2 h1
    by_cases he:e0=0
    · have f0:(e0 != 0)=false:=by rw [he];rfl
      by_cases hn:number < 1
      · have f1:decide (number < 1)=true:=decide_eq_true hn
        have f11:(number < 1)=True:=eq_true hn;clear hbad he hn
        go_wp2_with (first|((with_reducible refine jP (N:=16) rfl ?_);refine jA.load rfl 28 (.tmp 2) rfl rfl K2.out Tryz.underlying28 rfl jA.infoP (by omega) ?_;rw [show (cs.drop 0).take 98=cs by rw [List.drop_zero,List.take_of_length_le (by omega)]])|(go_at_call 19;refine (zL.check_calls cs _ _ KT.out hl H1.out).mono ?_;rintro e w7 ⟨rfl,hb⟩;have nK2:=Aside0.mk (jB K2.out hb);have nB:=Aside0.mk (jE KB.out hb);have nT:=Aside0.mk (KT.out.below hb);clear K2 KB KT hb;have K2:=nK2;have KB:=nB;have KT:=nT;clear nK2 nB nT))
        go_ret;exact ⟨rfl,KB.out⟩
      · have f1:decide (number < 1)=false:=decide_eq_false hn
        have f11:(number < 1)=False:=eq_false hn
        have hn2:9999 < number:=by omega
        have f2:decide (9999 < number)=true:=decide_eq_true hn2;have f22:(9999 < number)=True:=eq_true hn2;clear hbad he hn hn2
        go_wp2_with (first|((with_reducible refine jP (N:=16) rfl ?_);refine jA.load rfl 28 (.tmp 2) rfl rfl K2.out Tryz.underlying28 rfl jA.infoP (by omega) ?_;rw [show (cs.drop 0).take 98=cs by rw [List.drop_zero,List.take_of_length_le (by omega)]])|(go_at_call 19;refine (zL.check_calls cs _ _ KT.out hl H1.out).mono ?_;rintro e w7 ⟨rfl,hb⟩;have nK2:=Aside0.mk (jB K2.out hb);have nB:=Aside0.mk (jE KB.out hb);have nT:=Aside0.mk (KT.out.below hb);clear K2 KB KT hb;have K2:=nK2;have KB:=nB;have KT:=nT;clear nK2 nB nT))
        go_ret;exact ⟨rfl,KB.out⟩
    · have f0:(e0 != 0)=true:=by simpa using he
      clear hbad he
      go_wp2_with (first|((with_reducible refine jP (N:=16) rfl ?_);refine jA.load rfl 28 (.tmp 2) rfl rfl K2.out Tryz.underlying28 rfl jA.infoP (by omega) ?_;rw [show (cs.drop 0).take 98=cs by rw [List.drop_zero,List.take_of_length_le (by omega)]])|(go_at_call 19;refine (zL.check_calls cs _ _ KT.out hl H1.out).mono ?_;rintro e w7 ⟨rfl,hb⟩;have nK2:=Aside0.mk (jB K2.out hb);have nB:=Aside0.mk (jE KB.out hb);have nT:=Aside0.mk (KT.out.below hb);clear K2 KB KT hb;have K2:=nK2;have KB:=nB;have KT:=nT;clear nK2 nB nT))
      go_ret;exact ⟨rfl,KB.out⟩
  · rw [if_neg hbad] at h2
    obtain ⟨l,h3,h4⟩:=Option.bind_eq_some_iff.mp h2;obtain rfl:=Option.some.inj h4
    have he:e0=0:=by
      by_cases he:e0=0
      · exact he
      · exact absurd (.inl he) hbad
    subst he
    have hn1:1≤number:=by omega
    have hn2:number≤9999:=by omega
    have hside:=zL.side0 cs h1;have HSD:=Aside0.mk hside;have H3:=Aside0.mk h3;have f1:decide (number < 1)=false:=decide_eq_false (by omega);have f11:(number < 1)=False:=eq_false (by omega);have f2:decide (9999 < number)=false:=decide_eq_false (by omega);have f22:(9999 < number)=False:=eq_false (by omega);clear h1 h2 h3 h4 hbad hside;go_upto_region 3 with (first|((with_reducible refine jP (N:=16) rfl ?_);refine jA.load rfl 28 (.tmp 2) rfl rfl K2.out Tryz.underlying28 rfl jA.infoP (by omega) ?_;rw [show (cs.drop 0).take 98=cs by rw [List.drop_zero,List.take_of_length_le (by omega)]])|(go_at_call 19;refine (zL.check_calls cs _ _ KT.out hl H1.out).mono ?_;rintro e w7 ⟨rfl,hb⟩;have nK2:=Aside0.mk (jB K2.out hb);have nB:=Aside0.mk (jE KB.out hb);have nT:=Aside0.mk (KT.out.below hb);clear K2 KB KT hb;have K2:=nK2;have KB:=nB;have KT:=nT;clear nK2 nB nT));clear f1 f2 f11 f22 KT H1;have ZB:=Aside0.mk (jBI (t:=53) (c:=#[.pointer none,.slice none 0 0]) (by kernel_rfl));have zb:=ZB.out;go_upto_region 4 with (fail)
    have HBd:Aside0 (Lib.IsBuilderF 53 5 w7.heap.size w7.heap.size (Lib.byteCells []) (w7.alloc (Obj.cells #[Value.pointer none,Value.slice none 0 0] 53))):=⟨Lib.IsBuilderF.of (Lib.fresh_isBuilder 53 5 w7)⟩
    have HGlt:Aside0 (w.heap.size < w7.heap.size):=⟨jq K2.out⟩
    have B2:=jG K2.out (Obj.cells #[Value.pointer none,Value.slice none 0 0] 53);have BB:=jD KB.out (Obj.cells #[Value.pointer none,Value.slice none 0 0] 53);clear K2 KB zb ZB;generalize w7.alloc (Obj.cells #[Value.pointer none,Value.slice none 0 0] 53)=W1 at *;generalize w7.heap.size=gb at *;have K2:=Aside0.mk B2;have KB:=Aside0.mk BB;clear B2 BB;have e3:=H3.out;unfold je.text at e3;obtain ⟨o1,h5,h6⟩:=Option.bind_eq_some_iff.mp e3;obtain ⟨⟨nn,o2⟩,h7,h8⟩:=Option.bind_eq_some_iff.mp h6;have HO1:=Aside0.mk h5;have HO2:=Aside0.mk h7;have HL:=Aside0.mk (Option.some.inj h8);clear e3 h5 h6 h7 h8 H3;go_wp2
    go_loopg [27] 10 (fun gf s27 wx=>∃ (r:Nat) (out:List UInt8),s27=.int .i64 r∧r≤9∧out.length≤60 * r∧Aside0 (je.rows cs r (9 - r) out=some o1)∧Aside0 (wx.heap[w.heap.size]?=some (.cells (jA.pv cs) 28 (0,0)))∧Aside0 (Lib.IsBuilderF 53 5 gb gb (Lib.byteCells out) wx)∧Aside0 (Below w.heap.size w wx)∧10≤gf+r)
    case atStart=>exact ⟨0,[],rfl,by omega,by simp,HO1,K2,HBd,KB,by omega⟩
    case round=>
      clear K2 HBd KB HO1;obtain ⟨r,out,rfl,hr,hol,HR,K2,HBd,KB,hgf⟩:=hrel
      by_cases hend:r=9
      · subst hend
        have er:out=o1:=Option.some.inj HR.out;subst er;clear HR;go_upto_region 23 with (fail)
        obtain ⟨o3,ho3⟩:∃ o,o=out ++ (if cs.getD 97 0=1 then [32,119,32] else [32,98,32]):=⟨_,rfl⟩
        have ho3l:o3.length≤543:=by rw [ho3,List.length_append];split <;> simp <;> omega
        have HO3:Aside0 (je.hands cs 0 2 true o3=some (nn,o2)):=⟨by rw [ho3];exact HO2.out⟩
        have HO3D:=Aside0.mk ho3;clear ho3 HO2;go_cut [] (fun wx=>Aside0 (wx.heap[w.heap.size]?=some (.cells (jA.pv cs) 28 (0,0)))∧Aside0 (Lib.IsBuilderF 53 5 gb gb (Lib.byteCells o3) wx)∧Aside0 (Below w.heap.size w wx))
        case first=>
          rcases HSD.out with hs|hs
          · have ho:=HO3D.out
            rw [hs,if_neg (by decide)] at ho;subst ho;have c97:∀ o,(wr.alloc o).cell? ⟨w.heap.size,97,none⟩=some (.int .i8 0):=fun o=>(jK (jG K2.out o) 97).trans ((jA.pv_get cs 97 (by omega)).trans (by rw [hs]));have c9:(wr.alloc (Obj.cells #[.string ⟨#[32,98,32]⟩,.string ⟨#[32,119,32]⟩] 9)).cell? ⟨wr.heap.size,0,none⟩=some (.string ⟨#[32,98,32]⟩):=jK (zG wr _) 0;clear hs
            go_wp2_with (first|(go_at_call 22;(with_reducible refine (Tryz.Builder_WriteString_k' gb gb (Lib.byteCells out) ⟨#[32,98,32]⟩ _ (Lib.IsBuilderF.alloc HBd.out _) (by rw [Lib.byteCells_length,show (⟨#[32,98,32]⟩:ByteArray).size=3 by decide];omega) (Nat.le_of_lt (yo (Lib.IsBuilderF.alloc HBd.out _)))).mono ?_);rintro e w7 ⟨rfl,hA,hb,hk⟩;have he:=jBL out ⟨#[32,98,32]⟩;have nK2:=Aside0.mk ((hb.block _ HGlt.out).trans (jG K2.out _));have nB:=Aside0.mk ((jD KB.out _).trans (yM hb (Nat.le_of_lt HGlt.out)));have nH:=Aside0.mk (show Lib.IsBuilderF 53 5 gb gb (Lib.byteCells _) _ from .inr (by rw [← he];exact hA));clear K2 HBd KB hA hb hk he;have K2:=nK2;have HBd:=nH;have KB:=nB;clear nK2 nH nB))
            go_meet;exact ⟨K2,HBd,KB⟩
          · have ho:=HO3D.out
            rw [hs,if_pos rfl] at ho;subst ho;have c97:∀ o,(wr.alloc o).cell? ⟨w.heap.size,97,none⟩=some (.int .i8 1):=fun o=>(jK (jG K2.out o) 97).trans ((jA.pv_get cs 97 (by omega)).trans (by rw [hs]));have c9:(wr.alloc (Obj.cells #[.string ⟨#[32,98,32]⟩,.string ⟨#[32,119,32]⟩] 9)).cell? ⟨wr.heap.size,1,none⟩=some (.string ⟨#[32,119,32]⟩):=jK (zG wr _) 1;clear hs
            go_wp2_with (first|(go_at_call 22;(with_reducible refine (Tryz.Builder_WriteString_k' gb gb (Lib.byteCells out) ⟨#[32,119,32]⟩ _ (Lib.IsBuilderF.alloc HBd.out _) (by rw [Lib.byteCells_length,show (⟨#[32,119,32]⟩:ByteArray).size=3 by decide];omega) (Nat.le_of_lt (yo (Lib.IsBuilderF.alloc HBd.out _)))).mono ?_);rintro e w7 ⟨rfl,hA,hb,hk⟩;have he:=jBL out ⟨#[32,119,32]⟩;have nK2:=Aside0.mk ((hb.block _ HGlt.out).trans (jG K2.out _));have nB:=Aside0.mk ((jD KB.out _).trans (yM hb (Nat.le_of_lt HGlt.out)));have nH:=Aside0.mk (show Lib.IsBuilderF 53 5 gb gb (Lib.byteCells _) _ from .inr (by rw [← he];exact hA));clear K2 HBd KB hA hb hk he;have K2:=nK2;have HBd:=nH;have KB:=nB;clear nK2 nH nB))
            go_meet;exact ⟨K2,HBd,KB⟩
        case rest=>
          clear K2 HBd KB;obtain ⟨K2,HBd,KB⟩:=hcut;clear HO3D;go_wp2
          go_loopg [10,69] 3 (fun gf s10 s69 wx=>∃ (s:Nat) (nb:Bool) (ou:List UInt8),s10=.bool nb∧s69=.int .i64 s∧s≤2∧ou.length≤543+210 * s∧Aside0 (je.hands cs s (2 - s) nb ou=some (nn,o2))∧Aside0 (wx.heap[w.heap.size]?=some (.cells (jA.pv cs) 28 (0,0)))∧Aside0 (Lib.IsBuilderF 53 5 gb gb (Lib.byteCells ou) wx)∧Aside0 (Below w.heap.size w wx)∧3≤gf+s)
          case atStart=>exact ⟨0,true,o3,rfl,rfl,by omega,by omega,HO3,K2,HBd,KB,by omega⟩
          case round=>
            clear K2 HBd KB HO3 ho3l;obtain ⟨s,nb,ou,rfl,rfl,hs2,hol2,HR,K2,HBd,KB,hgs⟩:=hrel
            by_cases hend2:s=2
            · subst hend2
              have er:(nb,ou)=(nn,o2):=Option.some.inj HR.out;simp only [Prod.mk.injEq] at er;obtain ⟨rfl,rfl⟩:=er;clear HR;have hil:=Lib.itoa_length_le number (by omega) (by omega);have HL2:=HL.out
              cases nb
              · rw [if_neg (by decide)] at HL2
                go_upto_region 41 with (first|(fail))
                go_wp2_with (first|(go_at_call 26;(with_reducible refine (Tryz.strconv_Itoa number (by omega) (by omega) _ (Lib.TabBelow.here (Lib.TabBelow.on HTAB.out KB.out))).mono ?_);rintro e w7 ⟨rfl,hex⟩;have hb:=zv hex;clear hex;have nK2:=Aside0.mk (jB K2.out hb);have nH:=Aside0.mk (yE HBd.out hb);have nB:=Aside0.mk (jE KB.out hb);clear K2 HBd KB hb;have K2:=nK2;have HBd:=nH;have KB:=nB;clear nK2 nH nB)|(go_at_call 22;(with_reducible refine (Tryz.Builder_WriteString_k' gb gb (Lib.byteCells ou) (⟨#[32]⟩ ++ ⟨(Lib.itoa number).toArray⟩) _ HBd.out (bc_len2 ou (Lib.itoa number) (by (try simp only [List.length_append,List.length_cons,List.length_nil]);omega)) (Nat.le_of_lt (yo HBd.out))).mono ?_);rintro e w7 ⟨rfl,hA,hb,hk⟩;have he:=jBL ou (⟨#[32]⟩ ++ ⟨(Lib.itoa number).toArray⟩);have nK2:=Aside0.mk ((hb.block _ HGlt.out).trans K2.out);have nB:=Aside0.mk ((KB.out).trans (yM hb (Nat.le_of_lt HGlt.out)));have nH:=Aside0.mk (show Lib.IsBuilderF 53 5 gb gb (Lib.byteCells _) _ from .inr (by rw [← he];exact hA));clear K2 HBd KB hA hb hk he;have K2:=nK2;have HBd:=nH;have KB:=nB;clear nK2 nH nB)|(go_at_call 28;(with_reducible refine (Tryz.Builder_String_any_k gb gb (ou ++ ((⟨#[32]⟩:ByteArray) ++ ⟨(Lib.itoa number).toArray⟩).data.toList) _ HBd.out (Nat.le_of_lt (yo HBd.out))).mono ?_);rintro e w7 ⟨rfl,hA,hb,hk⟩;have nB:=Aside0.mk ((KB.out).trans (yM hb (Nat.le_of_lt HGlt.out)));clear K2 HBd KB hA hb hk;have KB:=nB;clear nB))
                go_ret;refine ⟨?_,KB.out⟩;rw [← HL2]
                simp
              · rw [if_pos rfl] at HL2
                go_upto_region 41 with (first|(go_at_call 21;(with_reducible refine (Tryz.Builder_WriteByte_k' gb gb (Lib.byteCells ou) 45 _ HBd.out (by rw [Lib.byteCells_length];omega) (Nat.le_of_lt (yo HBd.out))).mono ?_);rintro e w7 ⟨rfl,hA,hb,hk⟩;have he:=bc_45 ou;have nK2:=Aside0.mk ((hb.block _ HGlt.out).trans K2.out);have nB:=Aside0.mk ((KB.out).trans (yM hb (Nat.le_of_lt HGlt.out)));have nH:=Aside0.mk (show Lib.IsBuilderF 53 5 gb gb (Lib.byteCells _) _ from .inr (by rw [← he];exact hA));clear K2 HBd KB hA hb hk he;have K2:=nK2;have HBd:=nH;have KB:=nB;clear nK2 nH nB))
                go_wp2_with (first|(go_at_call 26;(with_reducible refine (Tryz.strconv_Itoa number (by omega) (by omega) _ (Lib.TabBelow.here (Lib.TabBelow.on HTAB.out KB.out))).mono ?_);rintro e w7 ⟨rfl,hex⟩;have hb:=zv hex;clear hex;have nK2:=Aside0.mk (jB K2.out hb);have nH:=Aside0.mk (yE HBd.out hb);have nB:=Aside0.mk (jE KB.out hb);clear K2 HBd KB hb;have K2:=nK2;have HBd:=nH;have KB:=nB;clear nK2 nH nB)|(go_at_call 22;(with_reducible refine (Tryz.Builder_WriteString_k' gb gb (Lib.byteCells (ou ++ [45])) (⟨#[32]⟩ ++ ⟨(Lib.itoa number).toArray⟩) _ HBd.out (bc_len2 (ou ++ [45]) (Lib.itoa number) (by (try simp only [List.length_append,List.length_cons,List.length_nil]);omega)) (Nat.le_of_lt (yo HBd.out))).mono ?_);rintro e w7 ⟨rfl,hA,hb,hk⟩;have he:=jBL (ou ++ [45]) (⟨#[32]⟩ ++ ⟨(Lib.itoa number).toArray⟩);have nK2:=Aside0.mk ((hb.block _ HGlt.out).trans K2.out);have nB:=Aside0.mk ((KB.out).trans (yM hb (Nat.le_of_lt HGlt.out)));have nH:=Aside0.mk (show Lib.IsBuilderF 53 5 gb gb (Lib.byteCells _) _ from .inr (by rw [← he];exact hA));clear K2 HBd KB hA hb hk he;have K2:=nK2;have HBd:=nH;have KB:=nB;clear nK2 nH nB)|(go_at_call 28;(with_reducible refine (Tryz.Builder_String_any_k gb gb ((ou ++ [45]) ++ ((⟨#[32]⟩:ByteArray) ++ ⟨(Lib.itoa number).toArray⟩).data.toList) _ HBd.out (Nat.le_of_lt (yo HBd.out))).mono ?_);rintro e w7 ⟨rfl,hA,hb,hk⟩;have nB:=Aside0.mk ((KB.out).trans (yM hb (Nat.le_of_lt HGlt.out)));clear K2 HBd KB hA hb hk;have KB:=nB;clear nB))
                go_ret;refine ⟨?_,KB.out⟩;rw [← HL2]
                simp
            · obtain ⟨d,hd⟩:∃ d,2 - s=d+1:=⟨1 - s,by omega⟩
              have e:=HR.out;rw [hd] at e;unfold je.hands at e;obtain ⟨⟨n2,ou2⟩,hh,e2⟩:=Option.bind_eq_some_iff.mp e;have HH:=Aside0.mk hh;have b0:decide ((s:Int) < 2)=true:=decide_eq_true (by omega);have b3:((s:Int) < 2)=True:=eq_true (by omega);have bs1:(0≤(s:Int)∧(s:Int) < 2)=True:=eq_true (by omega);have ews:IntKind.i64.wrap ((s:Int)+1)=(s:Int)+1:=IntWalk.i64_in _ (by omega)
              have hd2:d=2 - (s+1):=by omega
              rw [hd2] at e2;have HE:=Aside0.mk e2
              obtain ⟨g',rfl⟩:∃ g',gk=g'+1:=⟨gk - 1,by omega⟩
              clear e hh e2 HR hd hd2;have i1:=World.iter_heap wr je.str 0;have i2:(wr.iter je.str 0).heap[w.heap.size]?=some (.cells (jA.pv cs) 28 (0,0)):=jG K2.out _;have i3:Lib.IsBuilderF 53 5 gb gb (Lib.byteCells ou) (wr.iter je.str 0):=Lib.IsBuilderF.alloc HBd.out _;have i4:Below w.heap.size w (wr.iter je.str 0):=jD KB.out _;have i5:gb < wr.heap.size:=yo HBd.out;have i6:w.heap.size≤wr.heap.size:=KB.out.size;have I1:=Aside0.mk i1;have I2:=Aside0.mk i2;have I3:=Aside0.mk i3;have I4:=Aside0.mk i4;clear i1 i2 i3 i4 K2 HBd KB;go_wp2
              try rw [show (⟨#[82,66,71,83,78,76,80]⟩:ByteArray)=je.str from rfl]
              generalize wr.iter je.str 0=W2 at *;generalize wr.heap.size=it at *
              have HIne:Aside0 (it≠gb):=⟨by omega⟩
              have HIle:Aside0 (w.heap.size≤it):=⟨i6⟩
              have HI2:Aside0 (w.heap.size≠it):=⟨by have:=HGlt.out;omega⟩
              clear i5 i6
              go_loopg [10] 9 (fun gf s10 wx=>∃ (j:Nat) (nb:Bool) (ou:List UInt8),s10=.bool nb∧j≤7∧ou.length≤543+210 * s+30 * j∧Aside0 (je.hand cs s j (7 - j) nb ou=some (n2,ou2))∧Aside0 (wx.heap[it]?=some (.stringIter je.str j))∧Aside0 (wx.heap[w.heap.size]?=some (.cells (jA.pv cs) 28 (0,0)))∧Aside0 (Lib.IsBuilderF 53 5 gb gb (Lib.byteCells ou) wx)∧Aside0 (Below w.heap.size w wx)∧9≤gf+j)
              case atStart=>exact ⟨0,nb,ou,rfl,by omega,by omega,HH,I1,I2,I3,I4,by omega⟩
              case round=>
                clear I1 I2 I3 I4 HH hol2;obtain ⟨j,nb,ou,rfl,hj7,hol2,HR,KI,K2,HBd,KB,hgj⟩:=hrel
                by_cases hend3:j=7
                · subst hend3
                  have er:(nb,ou)=(n2,ou2):=Option.some.inj HR.out;simp only [Prod.mk.injEq] at er;obtain ⟨rfl,rfl⟩:=er;have HE2:=Aside0.mk (show je.hands cs (s+1) (2 - (s+1)) nb ou=some (nn,o2) from HE.out);have hnx:∀ ty,(Instr.next (.pointer (some ⟨it,0,none⟩)) true ty).run Tryz.prog wr=_:=fun ty=>Lib.run_next_end_at wr it je.str 7 ty KI.out (by decide);clear HR HE;go_wp2
                  go_roundg g'
                  case measure=>omega
                  case rel=>exact ⟨s+1,nb,ou,rfl,by simp,by omega,by omega,HE2,K2,HBd,KB,by omega⟩
                · obtain ⟨d,hd⟩:∃ d,7 - j=d+1:=⟨6 - j,by omega⟩
                  have e:=HR.out;rw [hd] at e;unfold je.hand at e
                  have hj:j < 7:=by omega
                  obtain ⟨pp,hpp,hkk⟩:=je.let_is j hj;have hdc:=je.dec j hj
                  obtain ⟨k,hk⟩:∃ k,k=7 - j:=⟨_,rfl⟩
                  rw [← hk] at hkk e
                  obtain ⟨L,hL⟩:∃ L,L=je.let.getD j 0:=⟨_,rfl⟩
                  rw [← hL] at hpp hdc;have HPP:=Aside0.mk hpp;have HKK:=Aside0.mk hkk
                  have hk8:k < 8:=by omega
                  have bk1:(0≤(k:Int)∧(k:Int) < 8)=True:=eq_true (by omega);have bk2:((k:Int) < 8)=True:=eq_true (by omega)
                  obtain ⟨x,hx⟩:∃ x,x=cs.getD (81+s * 8+k) 0:=⟨_,rfl⟩
                  rw [show 81+8 * s+k=81+s * 8+k by omega,← hx] at e;have HX:=Aside0.mk hx;have hnx:∀ ty,(Instr.next (.pointer (some ⟨it,0,none⟩)) true ty).run Tryz.prog wr=_:=fun ty=>Lib.run_next_any_at wr it je.str j ty KI.out (by show j < 7;exact hj);rw [hdc] at hnx;have j1:=Lib.iterAt_heap wr it je.str j (j+1) KI.out;have j2:=(Lib.iterAt_other wr it w.heap.size je.str (j+1) HI2.out).trans K2.out;have j3:=Lib.IsBuilderF.iterAt HBd.out KI.out (j+1);have j4:=Lib.below_iterAt KB.out HIle.out je.str (j+1)
                  have hd2:d=7 - (j+1):=by omega
                  rw [hd2] at e
                  obtain ⟨g2,rfl⟩:∃ g2,gk=g2+1:=⟨gk - 1,by omega⟩
                  clear KI K2 HBd KB HR hpp hkk hdc hL hd hd2
                  obtain ⟨W3,hW3⟩:∃ W3,wr.iterAt it je.str (j+1)=W3:=⟨_,rfl⟩
                  dsimp only at hnx;rw [hW3] at hnx j1 j2 j3 j4;have KI:=Aside0.mk j1;have K2:=Aside0.mk j2;have HBd:=Aside0.mk j3;have KB:=Aside0.mk j4;clear j1 j2 j3 j4 hW3 hx hk
                  by_cases hx0:x=0
                  · rw [if_pos hx0] at e
                    have HE2:=Aside0.mk e
                    have cx:(x==0)=true:=by simpa using hx0
                    clear e hx0
                    go_wp2_with (first|(go_at_call 25;(with_reducible refine (jd.calls _ _ _ _ HPP.out).mono ?_);rintro e w7 ⟨rfl,hb⟩;have nK2:=Aside0.mk (jB K2.out hb);have nKI:=Aside0.mk (jB KI.out hb);have nH:=Aside0.mk (yE HBd.out hb);have nB:=Aside0.mk (jE KB.out hb);clear K2 KI HBd KB hb;have K2:=nK2;have KI:=nKI;have HBd:=nH;have KB:=nB;clear nK2 nKI nH nB)|(go_at_call 24;(with_reducible refine (jW.calls _ _ _ _ HKK.out).mono ?_);rintro e w7 ⟨rfl,hd⟩;have hb:=hd.below;clear hd;have nK2:=Aside0.mk (jB K2.out hb);have nKI:=Aside0.mk (jB KI.out hb);have nH:=Aside0.mk (yE HBd.out hb);have nB:=Aside0.mk (jE KB.out hb);clear K2 KI HBd KB hb;have K2:=nK2;have KI:=nKI;have HBd:=nH;have KB:=nB;clear nK2 nKI nH nB;have cN:w7.cell? ⟨w.heap.size,81+s * 8+k,none⟩=some (.int .i8 x):=(jK K2.out _).trans ((jA.pv_get cs _ (by omega)).trans (by rw [HX.out]))))
                    go_roundg g2
                    case measure=>omega
                    case rel=>exact ⟨j+1,nb,ou,rfl,by omega,by omega,HE2,KI,K2,HBd,KB,by omega⟩
                  · rw [if_neg hx0] at e
                    obtain ⟨po,hpo,e2⟩:=Option.bind_eq_some_iff.mp e;obtain ⟨nm,hnm,e4⟩:=Option.bind_eq_some_iff.mp e2;have HPO:=Aside0.mk hpo;have HNM:=Aside0.mk hnm;have hnl:=HNL.out _ _ hnm
                    have hnl2:nm.data.toList.length≤2:=by rw [Array.length_toList];exact hnl
                    have hil:=Lib.itoa_length_le (wrap64 x) (by unfold wrap64;omega) (by unfold wrap64;omega)
                    have cx:(x==0)=false:=by simpa using hx0
                    clear e e2 hpo hnm hx0
                    by_cases h1x:1 < x
                    · rw [if_pos h1x] at e4
                      have HE2:=Aside0.mk e4;have t0:decide (1 < x)=true:=decide_eq_true h1x;have t00:(1 < x)=True:=eq_true h1x;clear e4 h1x;go_upto_region 36 with (first|(go_at_call 25;(with_reducible refine (jd.calls _ _ _ _ HPP.out).mono ?_);rintro e w7 ⟨rfl,hb⟩;have nK2:=Aside0.mk (jB K2.out hb);have nKI:=Aside0.mk (jB KI.out hb);have nH:=Aside0.mk (yE HBd.out hb);have nB:=Aside0.mk (jE KB.out hb);clear K2 KI HBd KB hb;have K2:=nK2;have KI:=nKI;have HBd:=nH;have KB:=nB;clear nK2 nKI nH nB)|(go_at_call 24;(with_reducible refine (jW.calls _ _ _ _ HKK.out).mono ?_);rintro e w7 ⟨rfl,hd⟩;have hb:=hd.below;clear hd;have nK2:=Aside0.mk (jB K2.out hb);have nKI:=Aside0.mk (jB KI.out hb);have nH:=Aside0.mk (yE HBd.out hb);have nB:=Aside0.mk (jE KB.out hb);clear K2 KI HBd KB hb;have K2:=nK2;have KI:=nKI;have HBd:=nH;have KB:=nB;clear nK2 nKI nH nB;have cN:w7.cell? ⟨w.heap.size,81+s * 8+k,none⟩=some (.int .i8 x):=(jK K2.out _).trans ((jA.pv_get cs _ (by omega)).trans (by rw [HX.out]))))
                      try simp only [zI]
                      go_upto_region 37 with (first|(go_at_call 26;(with_reducible refine (Tryz.strconv_Itoa (wrap64 x) (by unfold wrap64;omega) (by unfold wrap64;omega) _ (Lib.TabBelow.here (Lib.TabBelow.on HTAB.out KB.out))).mono ?_);rintro e w7 ⟨rfl,hex⟩;have hb:=zv hex;clear hex;have nK2:=Aside0.mk (jB K2.out hb);have nKI:=Aside0.mk (jB KI.out hb);have nH:=Aside0.mk (yE HBd.out hb);have nB:=Aside0.mk (jE KB.out hb);clear K2 KI HBd KB hb;have K2:=nK2;have KI:=nKI;have HBd:=nH;have KB:=nB;clear nK2 nKI nH nB)|(go_at_call 22;(with_reducible refine (Tryz.Builder_WriteString_k' gb gb (Lib.byteCells ou) ⟨(Lib.itoa (wrap64 x)).toArray⟩ _ HBd.out (bc_len ou (Lib.itoa (wrap64 x)) (by omega)) (Nat.le_of_lt (yo HBd.out))).mono ?_);rintro e w7 ⟨rfl,hA,hb,hk⟩;have he:=jBL ou ⟨(Lib.itoa (wrap64 x)).toArray⟩;have nK2:=Aside0.mk ((hb.block _ HGlt.out).trans K2.out);have nB:=Aside0.mk ((KB.out).trans (yM hb (Nat.le_of_lt HGlt.out)));have nH:=Aside0.mk (show Lib.IsBuilderF 53 5 gb gb (Lib.byteCells _) _ from .inr (by rw [← he];exact hA));have nKI:=Aside0.mk (hk.iter KI.out HIne.out);clear K2 HBd KB hA hb hk he KI;have K2:=nK2;have HBd:=nH;have KB:=nB;clear nK2 nH nB;have KI:=nKI;clear nKI))
                      go_wp2_with (first|(go_at_call 27;(with_reducible refine (zM.calls _ _ _ _ HPO.out).mono ?_);rintro e w7 ⟨rfl,hd⟩;have hb:=hd.below;clear hd;have nK2:=Aside0.mk (jB K2.out hb);have nKI:=Aside0.mk (jB KI.out hb);have nH:=Aside0.mk (yE HBd.out hb);have nB:=Aside0.mk (jE KB.out hb);clear K2 KI HBd KB hb;have K2:=nK2;have KI:=nKI;have HBd:=nH;have KB:=nB;clear nK2 nKI nH nB)|(go_at_call 23;(with_reducible refine (yB.calls _ _ _ _ HNM.out).mono ?_);rintro e w7 ⟨rfl,hb⟩;have nK2:=Aside0.mk (jB K2.out hb);have nKI:=Aside0.mk (jB KI.out hb);have nH:=Aside0.mk (yE HBd.out hb);have nB:=Aside0.mk (jE KB.out hb);clear K2 KI HBd KB hb;have K2:=nK2;have KI:=nKI;have HBd:=nH;have KB:=nB;clear nK2 nKI nH nB)|(go_at_call 22;(with_reducible refine (Tryz.Builder_WriteString_k' gb gb (Lib.byteCells (ou ++ Lib.itoa (wrap64 x))) nm _ HBd.out (by rw [Lib.byteCells_length,List.length_append];omega) (Nat.le_of_lt (yo HBd.out))).mono ?_);rintro e w7 ⟨rfl,hA,hb,hk⟩;have he:=jBL (ou ++ Lib.itoa (wrap64 x)) nm;have nK2:=Aside0.mk ((hb.block _ HGlt.out).trans K2.out);have nB:=Aside0.mk ((KB.out).trans (yM hb (Nat.le_of_lt HGlt.out)));have nH:=Aside0.mk (show Lib.IsBuilderF 53 5 gb gb (Lib.byteCells _) _ from .inr (by rw [← he];exact hA));have nKI:=Aside0.mk (hk.iter KI.out HIne.out);clear K2 HBd KB hA hb hk he KI;have K2:=nK2;have HBd:=nH;have KB:=nB;clear nK2 nH nB;have KI:=nKI;clear nKI))
                      go_roundg g2
                      case measure=>omega
                      case rel=>exact ⟨j+1,false,_,rfl,by omega,by simp only [List.length_append];omega,HE2,KI,K2,HBd,KB,by omega⟩
                    · rw [if_neg h1x] at e4
                      have HE2:=Aside0.mk e4;have t0:decide (1 < x)=false:=decide_eq_false h1x;have t00:(1 < x)=False:=eq_false h1x;clear e4 h1x
                      go_wp2_with (first|(go_at_call 25;(with_reducible refine (jd.calls _ _ _ _ HPP.out).mono ?_);rintro e w7 ⟨rfl,hb⟩;have nK2:=Aside0.mk (jB K2.out hb);have nKI:=Aside0.mk (jB KI.out hb);have nH:=Aside0.mk (yE HBd.out hb);have nB:=Aside0.mk (jE KB.out hb);clear K2 KI HBd KB hb;have K2:=nK2;have KI:=nKI;have HBd:=nH;have KB:=nB;clear nK2 nKI nH nB)|(go_at_call 24;(with_reducible refine (jW.calls _ _ _ _ HKK.out).mono ?_);rintro e w7 ⟨rfl,hd⟩;have hb:=hd.below;clear hd;have nK2:=Aside0.mk (jB K2.out hb);have nKI:=Aside0.mk (jB KI.out hb);have nH:=Aside0.mk (yE HBd.out hb);have nB:=Aside0.mk (jE KB.out hb);clear K2 KI HBd KB hb;have K2:=nK2;have KI:=nKI;have HBd:=nH;have KB:=nB;clear nK2 nKI nH nB;have cN:w7.cell? ⟨w.heap.size,81+s * 8+k,none⟩=some (.int .i8 x):=(jK K2.out _).trans ((jA.pv_get cs _ (by omega)).trans (by rw [HX.out])))|(go_at_call 27;(with_reducible refine (zM.calls _ _ _ _ HPO.out).mono ?_);rintro e w7 ⟨rfl,hd⟩;have hb:=hd.below;clear hd;have nK2:=Aside0.mk (jB K2.out hb);have nKI:=Aside0.mk (jB KI.out hb);have nH:=Aside0.mk (yE HBd.out hb);have nB:=Aside0.mk (jE KB.out hb);clear K2 KI HBd KB hb;have K2:=nK2;have KI:=nKI;have HBd:=nH;have KB:=nB;clear nK2 nKI nH nB)|(go_at_call 23;(with_reducible refine (yB.calls _ _ _ _ HNM.out).mono ?_);rintro e w7 ⟨rfl,hb⟩;have nK2:=Aside0.mk (jB K2.out hb);have nKI:=Aside0.mk (jB KI.out hb);have nH:=Aside0.mk (yE HBd.out hb);have nB:=Aside0.mk (jE KB.out hb);clear K2 KI HBd KB hb;have K2:=nK2;have KI:=nKI;have HBd:=nH;have KB:=nB;clear nK2 nKI nH nB)|(go_at_call 22;(with_reducible refine (Tryz.Builder_WriteString_k' gb gb (Lib.byteCells ou) nm _ HBd.out (by rw [Lib.byteCells_length];omega) (Nat.le_of_lt (yo HBd.out))).mono ?_);rintro e w7 ⟨rfl,hA,hb,hk⟩;have he:=jBL ou nm;have nK2:=Aside0.mk ((hb.block _ HGlt.out).trans K2.out);have nB:=Aside0.mk ((KB.out).trans (yM hb (Nat.le_of_lt HGlt.out)));have nH:=Aside0.mk (show Lib.IsBuilderF 53 5 gb gb (Lib.byteCells _) _ from .inr (by rw [← he];exact hA));have nKI:=Aside0.mk (hk.iter KI.out HIne.out);clear K2 HBd KB hA hb hk he KI;have K2:=nK2;have HBd:=nH;have KB:=nB;clear nK2 nH nB;have KI:=nKI;clear nKI))
                      go_roundg g2
                      case measure=>omega
                      case rel=>exact ⟨j+1,false,_,rfl,by omega,by simp only [List.length_append];omega,HE2,KI,K2,HBd,KB,by omega⟩
      · obtain ⟨d,hd⟩:∃ d,9 - r=d+1:=⟨8 - r,by omega⟩
        have e:=HR.out;rw [hd] at e;unfold je.rows at e;obtain ⟨⟨oo,fr⟩,hrow,e2⟩:=Option.bind_eq_some_iff.mp e;have HROW:=Aside0.mk hrow;have b0:decide ((r:Int) < 9)=true:=decide_eq_true (by omega);have b3:((r:Int) < 9)=True:=eq_true (by omega);have ewr:IntKind.i64.wrap ((r:Int)+1)=(r:Int)+1:=IntWalk.i64_in _ (by omega)
        have hd2:d=9 - (r+1):=by omega
        rw [hd2] at e2;have HE:=Aside0.mk e2
        obtain ⟨g',rfl⟩:∃ g',gk=g'+1:=⟨gk - 1,by omega⟩
        clear e hrow e2 HR hd hd2;go_wp2
        go_loopg [7,8] 11 (fun gf s7 s8 wx=>∃ (d free:Nat) (f:Int) (ou:List UInt8),s7=.int .i64 free∧s8=.int .i64 f∧f=(d:Int) - 1∧d≤9∧free+d≤9∧ou.length+3 * d≤60 * r+27∧Aside0 (je.row cs r d free ou=some (oo,fr))∧Aside0 (wx.heap[w.heap.size]?=some (.cells (jA.pv cs) 28 (0,0)))∧Aside0 (Lib.IsBuilderF 53 5 gb gb (Lib.byteCells ou) wx)∧Aside0 (Below w.heap.size w wx)∧d+2≤gf)
        case atStart=>exact ⟨9,0,8,out,rfl,rfl,by omega,by omega,by omega,by omega,HROW,K2,HBd,KB,by omega⟩
        case round=>
          clear K2 HBd KB HROW;obtain ⟨d,free,f,ou,rfl,rfl,hf,hd9,hfd,hou,HR,K2,HBd,KB,hgd⟩:=hrel
          by_cases hend2:d=0
          · subst hend2
            have er:(ou,free)=(oo,fr):=Option.some.inj HR.out;simp only [Prod.mk.injEq] at er;obtain ⟨rfl,rfl⟩:=er;have c0:decide (0≤f)=false:=decide_eq_false (by omega);have c00:(0≤f)=False:=eq_false (by omega);have e2:=HE.out;unfold je.tail at e2;dsimp only at e2;have ewc:IntKind.i64.wrap (48+(free:Int))=48+(free:Int):=IntWalk.i64_in _ (by omega)
            have ewu:IntKind.u8.wrap (48+(free:Int))=48+(free:Int):=by rw [IntKind.wrap_u8];omega
            clear HR HE
            by_cases hf0:0 < free
            · rw [if_pos hf0] at e2
              have t0:decide (0 < (free:Int))=true:=decide_eq_true (by omega);have t00:(0 < (free:Int))=True:=eq_true (by omega);have t02:(0 < free)=True:=eq_true hf0;have t03:decide (0 < free)=true:=decide_eq_true hf0
              by_cases hr8:r < 8
              · rw [if_pos hr8] at e2
                have HE2:=Aside0.mk e2;have t1:decide ((r:Int) < 8)=true:=decide_eq_true (by omega);have t11:((r:Int) < 8)=True:=eq_true (by omega);have t12:(r < 8)=True:=eq_true hr8;have t13:decide (r < 8)=true:=decide_eq_true hr8;clear e2 hf0;go_upto_region 20 with (first|(go_at_call 21;(with_reducible refine (Tryz.Builder_WriteByte_k' gb gb (Lib.byteCells ou) (48+(free:Int)) _ HBd.out (by rw [Lib.byteCells_length];omega) (Nat.le_of_lt (yo HBd.out))).mono ?_);rintro e w7 ⟨rfl,hA,hb,hk⟩;have he:=bc_dig ou free (by omega);have nK2:=Aside0.mk ((hb.block _ HGlt.out).trans K2.out);have nB:=Aside0.mk ((KB.out).trans (yM hb (Nat.le_of_lt HGlt.out)));have nH:=Aside0.mk (show Lib.IsBuilderF 53 5 gb gb (Lib.byteCells _) _ from .inr (by rw [← he];exact hA));clear K2 HBd KB hA hb hk he;have K2:=nK2;have HBd:=nH;have KB:=nB;clear nK2 nH nB))
                go_wp2_with (first|(go_at_call 21;(with_reducible refine (Tryz.Builder_WriteByte_k' gb gb (Lib.byteCells (ou ++ [dig free])) 47 _ HBd.out (by rw [Lib.byteCells_length,List.length_append];simp;omega) (Nat.le_of_lt (yo HBd.out))).mono ?_);rintro e w7 ⟨rfl,hA,hb,hk⟩;have he:=bc_47 (ou ++ [dig free]);have nK2:=Aside0.mk ((hb.block _ HGlt.out).trans K2.out);have nB:=Aside0.mk ((KB.out).trans (yM hb (Nat.le_of_lt HGlt.out)));have nH:=Aside0.mk (show Lib.IsBuilderF 53 5 gb gb (Lib.byteCells _) _ from .inr (by rw [← he];exact hA));clear K2 HBd KB hA hb hk he;have K2:=nK2;have HBd:=nH;have KB:=nB;clear nK2 nH nB))
                go_roundg g'
                case measure=>omega
                case rel=>exact ⟨r+1,_,by simp,by omega,by simp;omega,HE2,K2,HBd,KB,by omega⟩
              · rw [if_neg hr8,List.append_nil] at e2
                have HE2:=Aside0.mk e2;have t1:decide ((r:Int) < 8)=false:=decide_eq_false (by omega);have t11:((r:Int) < 8)=False:=eq_false (by omega);have t12:(r < 8)=False:=eq_false hr8;have t13:decide (r < 8)=false:=decide_eq_false hr8;clear e2 hf0
                go_wp2_with (first|(go_at_call 21;(with_reducible refine (Tryz.Builder_WriteByte_k' gb gb (Lib.byteCells ou) (48+(free:Int)) _ HBd.out (by rw [Lib.byteCells_length];omega) (Nat.le_of_lt (yo HBd.out))).mono ?_);rintro e w7 ⟨rfl,hA,hb,hk⟩;have he:=bc_dig ou free (by omega);have nK2:=Aside0.mk ((hb.block _ HGlt.out).trans K2.out);have nB:=Aside0.mk ((KB.out).trans (yM hb (Nat.le_of_lt HGlt.out)));have nH:=Aside0.mk (show Lib.IsBuilderF 53 5 gb gb (Lib.byteCells _) _ from .inr (by rw [← he];exact hA));clear K2 HBd KB hA hb hk he;have K2:=nK2;have HBd:=nH;have KB:=nB;clear nK2 nH nB))
                go_roundg g'
                case measure=>omega
                case rel=>exact ⟨r+1,_,by simp,by omega,by simp;omega,HE2,K2,HBd,KB,by omega⟩
            · rw [if_neg hf0] at e2
              have t0:decide (0 < (free:Int))=false:=decide_eq_false (by omega);have t00:(0 < (free:Int))=False:=eq_false (by omega);have t02:(0 < free)=False:=eq_false hf0;have t03:decide (0 < free)=false:=decide_eq_false hf0
              by_cases hr8:r < 8
              · rw [if_pos hr8] at e2
                have HE2:=Aside0.mk e2;have t1:decide ((r:Int) < 8)=true:=decide_eq_true (by omega);have t11:((r:Int) < 8)=True:=eq_true (by omega);have t12:(r < 8)=True:=eq_true hr8;have t13:decide (r < 8)=true:=decide_eq_true hr8;clear e2 hf0
                go_wp2_with (first|(go_at_call 21;(with_reducible refine (Tryz.Builder_WriteByte_k' gb gb (Lib.byteCells ou) 47 _ HBd.out (by rw [Lib.byteCells_length];omega) (Nat.le_of_lt (yo HBd.out))).mono ?_);rintro e w7 ⟨rfl,hA,hb,hk⟩;have he:=bc_47 ou;have nK2:=Aside0.mk ((hb.block _ HGlt.out).trans K2.out);have nB:=Aside0.mk ((KB.out).trans (yM hb (Nat.le_of_lt HGlt.out)));have nH:=Aside0.mk (show Lib.IsBuilderF 53 5 gb gb (Lib.byteCells _) _ from .inr (by rw [← he];exact hA));clear K2 HBd KB hA hb hk he;have K2:=nK2;have HBd:=nH;have KB:=nB;clear nK2 nH nB))
                go_roundg g'
                case measure=>omega
                case rel=>exact ⟨r+1,_,by simp,by omega,by simp;omega,HE2,K2,HBd,KB,by omega⟩
              · rw [if_neg hr8,List.append_nil] at e2
                have HE2:=Aside0.mk e2;have t1:decide ((r:Int) < 8)=false:=decide_eq_false (by omega);have t11:((r:Int) < 8)=False:=eq_false (by omega);have t12:(r < 8)=False:=eq_false hr8;have t13:decide (r < 8)=false:=decide_eq_false hr8;clear e2 hf0;go_wp2
                go_roundg g'
                case measure=>omega
                case rel=>exact ⟨r+1,_,by simp,by omega,by omega,HE2,K2,HBd,KB,by omega⟩
          · obtain ⟨k,rfl⟩:∃ k,d=k+1:=⟨d - 1,by omega⟩
            have hfk:f=(k:Int):=by omega
            subst hfk;have e:=HR.out;unfold je.row at e
            obtain ⟨q,hq⟩:∃ q,q=9 * k+r:=⟨_,rfl⟩
            have hsq:zF.f (k:Int) (r:Int)=some (q:Int):=by
              rw [hq];exact je.sq_is k r (by omega) (by omega)
            rw [← hq] at e;have HSQ:=Aside0.mk hsq
            have hq81:q < 81:=by omega
            have bq:(0≤(q:Int)∧(q:Int) < 81)=True:=eq_true (by omega);have bq2:((q:Int) < 81)=True:=eq_true (by omega);have c0:decide (0≤(k:Int))=true:=decide_eq_true (by omega);have c00:(0≤(k:Int))=True:=eq_true (by omega)
            obtain ⟨x,hx⟩:∃ x,x=cs.getD q 0:=⟨_,rfl⟩
            rw [← hx] at e;have HX:=Aside0.mk hx;have ewf:IntKind.i64.wrap ((free:Int)+1)=(free:Int)+1:=IntWalk.i64_in _ (by omega);have ewk:IntKind.i64.wrap ((k:Int) - 1)=(k:Int) - 1:=IntWalk.i64_in _ (by omega);have ewc:IntKind.i64.wrap (48+(free:Int))=48+(free:Int):=IntWalk.i64_in _ (by omega)
            have ewu:IntKind.u8.wrap (48+(free:Int))=48+(free:Int):=by rw [IntKind.wrap_u8];omega
            obtain ⟨g2,rfl⟩:∃ g2,gk=g2+1:=⟨gk - 1,by omega⟩
            clear hq hx hsq HR hf
            by_cases hx0:x=0
            · rw [if_pos hx0] at e
              have HE2:=Aside0.mk e
              have cx:(x==0)=true:=by simpa using hx0
              clear e hx0
              go_wp2_with (first|(go_at_call 20;(with_reducible refine (zF.calls _ _ _ _ HSQ.out).mono ?_);rintro e w7 ⟨rfl,hd⟩;have hb:=hd.below;clear hd;have nK2:=Aside0.mk (jB K2.out hb);have nH:=Aside0.mk (yE HBd.out hb);have nB:=Aside0.mk (jE KB.out hb);clear K2 HBd KB hb;have K2:=nK2;have HBd:=nH;have KB:=nB;clear nK2 nH nB;have cN:w7.cell? ⟨w.heap.size,q,none⟩=some (.int .i8 x):=(jK K2.out q).trans ((jA.pv_get cs q (by omega)).trans (by rw [HX.out]))))
              go_roundg g2
              case measure=>omega
              case rel=>exact ⟨k,free+1,_,ou,by simp,rfl,rfl,by omega,by omega,by omega,HE2,K2,HBd,KB,by omega⟩
            · rw [if_neg hx0] at e
              obtain ⟨nm,hnm,e4⟩:=Option.bind_eq_some_iff.mp e;have HNM:=Aside0.mk hnm;have hnl:=HNL.out _ _ hnm
              have hnl2:nm.data.toList.length≤2:=by rw [Array.length_toList];exact hnl
              have cx:(x==0)=false:=by simpa using hx0
              clear e hnm hx0
              by_cases hf0:0 < free
              · rw [if_pos hf0] at e4
                have HE2:=Aside0.mk e4;have t0:decide (0 < (free:Int))=true:=decide_eq_true (by omega);have t00:(0 < (free:Int))=True:=eq_true (by omega);have t02:(0 < free)=True:=eq_true hf0;have t03:decide (0 < free)=true:=decide_eq_true hf0;clear e4;go_upto_region 16 with (first|(go_at_call 20;(with_reducible refine (zF.calls _ _ _ _ HSQ.out).mono ?_);rintro e w7 ⟨rfl,hd⟩;have hb:=hd.below;clear hd;have nK2:=Aside0.mk (jB K2.out hb);have nH:=Aside0.mk (yE HBd.out hb);have nB:=Aside0.mk (jE KB.out hb);clear K2 HBd KB hb;have K2:=nK2;have HBd:=nH;have KB:=nB;clear nK2 nH nB;have cN:w7.cell? ⟨w.heap.size,q,none⟩=some (.int .i8 x):=(jK K2.out q).trans ((jA.pv_get cs q (by omega)).trans (by rw [HX.out])))|(go_at_call 21;(with_reducible refine (Tryz.Builder_WriteByte_k' gb gb (Lib.byteCells ou) (48+(free:Int)) _ HBd.out (by rw [Lib.byteCells_length];omega) (Nat.le_of_lt (yo HBd.out))).mono ?_);rintro e w7 ⟨rfl,hA,hb,hk⟩;have he:=bc_dig ou free (by omega);have nK2:=Aside0.mk ((hb.block _ HGlt.out).trans K2.out);have nB:=Aside0.mk ((KB.out).trans (yM hb (Nat.le_of_lt HGlt.out)));have nH:=Aside0.mk (show Lib.IsBuilderF 53 5 gb gb (Lib.byteCells _) _ from .inr (by rw [← he];exact hA));clear K2 HBd KB hA hb hk he;have K2:=nK2;have HBd:=nH;have KB:=nB;clear nK2 nH nB))
                go_wp2_with (first|(go_at_call 23;(with_reducible refine (yB.calls _ _ _ _ HNM.out).mono ?_);rintro e w7 ⟨rfl,hb⟩;have nK2:=Aside0.mk (jB K2.out hb);have nH:=Aside0.mk (yE HBd.out hb);have nB:=Aside0.mk (jE KB.out hb);clear K2 HBd KB hb;have K2:=nK2;have HBd:=nH;have KB:=nB;clear nK2 nH nB)|(go_at_call 22;(with_reducible refine (Tryz.Builder_WriteString_k' gb gb (Lib.byteCells (ou ++ [dig free])) nm _ HBd.out (by rw [Lib.byteCells_length,List.length_append];simp;omega) (Nat.le_of_lt (yo HBd.out))).mono ?_);rintro e w7 ⟨rfl,hA,hb,hk⟩;have he:=jBL (ou ++ [dig free]) nm;have nK2:=Aside0.mk ((hb.block _ HGlt.out).trans K2.out);have nB:=Aside0.mk ((KB.out).trans (yM hb (Nat.le_of_lt HGlt.out)));have nH:=Aside0.mk (show Lib.IsBuilderF 53 5 gb gb (Lib.byteCells _) _ from .inr (by rw [← he];exact hA));clear K2 HBd KB hA hb hk he;have K2:=nK2;have HBd:=nH;have KB:=nB;clear nK2 nH nB))
                go_roundg g2
                case measure=>omega
                case rel=>exact ⟨k,0,_,_,rfl,rfl,rfl,by omega,by omega,by simp;omega,HE2,K2,HBd,KB,by omega⟩
              · rw [if_neg hf0] at e4
                have HE2:=Aside0.mk e4;have t0:decide (0 < (free:Int))=false:=decide_eq_false (by omega);have t00:(0 < (free:Int))=False:=eq_false (by omega);have t02:(0 < free)=False:=eq_false hf0;have t03:decide (0 < free)=false:=decide_eq_false hf0;clear e4
                go_wp2_with (first|(go_at_call 20;(with_reducible refine (zF.calls _ _ _ _ HSQ.out).mono ?_);rintro e w7 ⟨rfl,hd⟩;have hb:=hd.below;clear hd;have nK2:=Aside0.mk (jB K2.out hb);have nH:=Aside0.mk (yE HBd.out hb);have nB:=Aside0.mk (jE KB.out hb);clear K2 HBd KB hb;have K2:=nK2;have HBd:=nH;have KB:=nB;clear nK2 nH nB;have cN:w7.cell? ⟨w.heap.size,q,none⟩=some (.int .i8 x):=(jK K2.out q).trans ((jA.pv_get cs q (by omega)).trans (by rw [HX.out])))|(go_at_call 23;(with_reducible refine (yB.calls _ _ _ _ HNM.out).mono ?_);rintro e w7 ⟨rfl,hb⟩;have nK2:=Aside0.mk (jB K2.out hb);have nH:=Aside0.mk (yE HBd.out hb);have nB:=Aside0.mk (jE KB.out hb);clear K2 HBd KB hb;have K2:=nK2;have HBd:=nH;have KB:=nB;clear nK2 nH nB)|(go_at_call 22;(with_reducible refine (Tryz.Builder_WriteString_k' gb gb (Lib.byteCells ou) nm _ HBd.out (by rw [Lib.byteCells_length];omega) (Nat.le_of_lt (yo HBd.out))).mono ?_);rintro e w7 ⟨rfl,hA,hb,hk⟩;have he:=jBL ou nm;have nK2:=Aside0.mk ((hb.block _ HGlt.out).trans K2.out);have nB:=Aside0.mk ((KB.out).trans (yM hb (Nat.le_of_lt HGlt.out)));have nH:=Aside0.mk (show Lib.IsBuilderF 53 5 gb gb (Lib.byteCells _) _ from .inr (by rw [← he];exact hA));clear K2 HBd KB hA hb hk he;have K2:=nK2;have HBd:=nH;have KB:=nB;clear nK2 nH nB))
                go_roundg g2
                case measure=>omega
                case rel=>exact ⟨k,0,_,_,rfl,rfl,rfl,by omega,by omega,by simp;omega,HE2,K2,HBd,KB,by omega⟩
end Go.Proofs.YtigenhbmgpfffaaGreatDoor.Pa
