import Derived.Test.YtigenhbmgpfffaaGreatDoorB27
set_option maxRecDepth 100000
set_option maxHeartbeats 16000000
namespace Go.Proofs.YtigenhbmgpfffaaGreatDoor.Pa
open Go.RowKit Go.Proofs.YtigenhbmgpfffaaGreatDoorW.PrintWords Go.Proofs.YtigenhbmgpfffaaGreatDoorW.PrintLast Go.Proofs.YtigenhbmgpfffaaGreatDoorW.PrintMore
attribute [local go_sem] yE yC yM yL zo zn yD yB
set_option linter.unusedVariables false
set_option linter.unusedSimpArgs false
def ja.str:ByteArray:=⟨#[32,80,76,78,83,71,66,82,75]⟩
def ja.tab:List Nat:=[32,80,76,78,83,71,66,82,75]
def ja.kind (a:Int):Int:=if a=80 then 1 else if a=76 then 2 else if a=78 then 3 else if a=83 then 4 else if a=71 then 5 else if a=66 then 6 else if a=82 then 7 else if a=75 then 8 else 0
def ja.look (side a:Int) (a1:Bool):Option Int:=if ja.kind a=0 then some 0 else if a1=true then(piece_Up.f (ja.kind a)).bind λt=>zU.f side t else zU.f side (ja.kind a)
def ja.f (a0:Int) (a1:Bool):Option Int:=if 97<=a0/\a0<=122 then ja.look 1 (a0-32) a1 else ja.look 0 a0 a1
theorem ja.dec:∀j,j<9->Utf8.decode ja.str j=(ja.tab.getD j 0,1)/\ja.tab.getD j 0<50000/\(j≠0->ja.kind ((ja.tab.getD j 0:Nat):Int)=(j:Int)):=by decide +kernel
theorem ja.kind_cases (a:Int):ja.kind a=0\/∃j:Nat,1<=j/\j<9/\a=((ja.tab.getD j 0:Nat):Int):=by
 unfold ja.kind
 repeat' split
 all_goals first
  | (left;rfl)
  | (right;first|exact⟨1,by omega,by omega,by simp only[*];rfl⟩|exact⟨2,by omega,by omega,by simp only[*];rfl⟩|exact⟨3,by omega,by omega,by simp only[*];rfl⟩|exact⟨4,by omega,by omega,by simp only[*];rfl⟩|exact⟨5,by omega,by omega,by simp only[*];rfl⟩|exact⟨6,by omega,by omega,by simp only[*];rfl⟩|exact⟨7,by omega,by omega,by simp only[*];rfl⟩|exact⟨8,by omega,by omega,by simp only[*];rfl⟩)
def ja.Post (r:Int) (w:World) (e:Ending) (w':World):Prop:=e=.returned (.int .i8 r)/\Below w.heap.size w w'
theorem ja.calls (a0:Int) (a1:Bool) (r:Int) (w:World) (h:ja.f a0 a1=some r):
  Calls Tryz.prog 25 #[.int .i32 a0,.bool a1] w λe w'=>e=.returned (.int .i8 r)/\Below w.heap.size w w':=by
 obtain⟨side,L,hat,hL⟩:∃side L:Int,ja.look side L a1=some r/\((97<=a0/\a0<=122/\side=1/\L=a0-32)\/(¬(97<=a0/\a0<=122)/\side=0/\L=a0)):=by
  unfold ja.f at h
  split at h
  ·exact⟨1,a0-32,h,.inl ⟨by omega,by omega,rfl,rfl⟩⟩
  ·exact⟨0,a0,h,.inr ⟨by assumption,rfl,rfl⟩⟩
 have HH:=Lib.hid h;clear h;have HAT:=Lib.hid hat;clear hat;show Calls Tryz.prog 25 #[.int .i32 a0,.bool a1] w (ja.Post r w)
 have hB:(decide (97<=a0)=true/\decide (a0<=122)=true/\side=1/\L=a0-32)\/((decide (97<=a0)=true/\decide (a0<=122)=false\/decide (97<=a0)=false)/\side=0/\L=a0):=by
  rcases hL with⟨h1,h2,h3,h4⟩|⟨h1,h3,h4⟩
  ·exact .inl ⟨decide_eq_true h1,decide_eq_true h2,h3,h4⟩
  ·by_cases h2:97<=a0
   ·exact .inr ⟨.inl ⟨decide_eq_true h2,decide_eq_false (by omega)⟩,h3,h4⟩
   ·exact .inr ⟨.inr (decide_eq_false h2),h3,h4⟩
 clear hL
 rcases hB with⟨b1,b2,rfl,h4⟩|⟨⟨b1,b2⟩|b1,rfl,rfl⟩
 all_goals
  try have H4:=Lib.hid (show wrap32 (a0-32)=L by have:=of_decide_eq_true b1;have:=of_decide_eq_true b2;unfold wrap32;omega)
  try clear h4
  go_enter Tryz.func25,Tryz.ntmps25;go_wp2
  try rw[H4.out]
  go_loopg [6] 10 (λgf s6 wx=>∃j:Nat,j<=9/\wx.heap[w.heap.size]?=some (.stringIter ja.str j)/\Below w.heap.size w wx/\Hid (∀q:Nat,1<=q->q<j->L≠((ja.tab.getD q 0:Nat):Int))/\9<=j+gf)
  case atStart=>exact⟨0,by omega,World.iter_heap w ja.str 0,(Below.refl _ w).alloc (Nat.le_refl _) _,Lib.hid (λq _ hq=>absurd hq (by omega)),by omega⟩
  case round=>
   obtain⟨j,hj,hit,hbw,hall,hfu⟩:=hrel
   by_cases hps:j<9
   ·obtain⟨g',rfl⟩:∃g',gk=g'+1:=⟨gk-1,by omega⟩
    have hnx:∀ty,(Instr.next (.pointer (some ⟨w.heap.size,0,none⟩)) true ty).run Tryz.prog wr=_:=λty=>Lib.run_next_any_at wr w.heap.size ja.str j ty hit (by show j<9;omega);obtain⟨hdc,hlt,hkd⟩:=ja.dec j hps;rw[hdc] at hnx;have hit2:=Lib.iterAt_heap wr w.heap.size ja.str j (j+1) hit;have hbw2:=Lib.below_iterAt hbw (k:=w.heap.size) (Nat.le_refl _) ja.str (j+1)
    obtain⟨W,hWd⟩:∃W,wr.iterAt w.heap.size ja.str (j+1)=W:=⟨_,rfl⟩
    rw[hWd] at hnx hit2 hbw2
    obtain⟨R,hR⟩:∃R,ja.tab.getD j 0=R:=⟨_,rfl⟩
    rw[hR] at hnx hkd hlt;have HR:=Lib.hid hR;clear hR;have HW:=Lib.hid hWd;clear hWd;have HD:=Lib.hid hdc;clear hdc;have HKD:=Lib.hid hkd;clear hkd
    by_cases hz:j=0
    ·have b3:((j:Int)==0)=true:=by rw[beq_iff_eq];omega
     have HZ:=Lib.hid hz;clear hz;go_wp2
     go_roundg g'
     case measure=>omega
     case rel=>exact⟨j+1,by omega,hit2,hbw2,Lib.hid (λq h1 hq=>by have:=HZ.out;omega),by omega⟩
    ·have b3:((j:Int)==0)=false:=by rw[beq_eq_false_iff_ne];omega
     have hkj:ja.kind (R:Int)=(j:Int):=HKD.out hz
     by_cases hk:L=(R:Int)
     ·have b4:((R:Int) != L)=false:=by rw[bne_eq_false_iff_eq];exact hk.symm
      have hat:ja.look _ L a1=some r:=HAT.out;unfold ja.look at hat;rw[hk,hkj,if_neg (by omega)] at hat;have HK:=Lib.hid hk;clear hk;have HZ:=Lib.hid hz;clear hz;have HKJ:=Lib.hid hkj;clear hkj
      cases a1
      ·rw[if_neg (by decide)] at hat;have hOf:=Lib.hid hat;clear hat
       go_wp2_with (go_at_call 27;refine(zU.calls _ _ _ _ hOf.out).mono ?_;rintro e w' ⟨rfl,⟨nd,rfl⟩⟩)
       go_ret;exact⟨rfl,zi hbw2 _⟩
      ·rw[if_pos rfl] at hat
       obtain⟨t,hUp,hOf⟩:=Option.bind_eq_some_iff.mp hat;clear hat;have HUp:=Lib.hid hUp;clear hUp;have HOf:=Lib.hid hOf;clear hOf
       go_wp2_with (go_at_call 49;refine(piece_Up.calls _ _ _ HUp.out).mono ?_;rintro e w' ⟨rfl,⟨nd,rfl⟩⟩)
       go_wp2_with (go_at_call 27;refine(zU.calls _ _ _ _ HOf.out).mono ?_;rintro e w' ⟨rfl,⟨nd2,rfl⟩⟩)
       go_ret;exact⟨rfl,zi hbw2 _⟩
     ·have b4:((R:Int) != L)=true:=by rw[bne_iff_ne];exact λh=>hk h.symm
      have HK:=Lib.hid hk;clear hk;have HZ:=Lib.hid hz;clear hz;have HKJ:=Lib.hid hkj;clear hkj;go_wp2
      go_roundg g'
      case measure=>omega
      case rel=>exact⟨j+1,by omega,hit2,hbw2,Lib.hid (λq h1 hq he=>by
       rcases Nat.lt_succ_iff_lt_or_eq.1 hq with h|h
       ·exact hall.out q h1 h he
       ·exact HK.out (by rw[he,h,HR.out])),by omega⟩
   ·obtain rfl:j=9:=by omega
    have hnx:∀ty,(Instr.next (.pointer (some ⟨w.heap.size,0,none⟩)) true ty).run Tryz.prog wr=_:=λty=>Lib.run_next_end_at wr w.heap.size ja.str 9 ty hit (by show ¬(9<9);omega)
    have hr0:r=0:=by
     have hat:ja.look _ L a1=some r:=HAT.out
     rcases ja.kind_cases L with h0|⟨q,h1,h2,h3⟩
     ·unfold ja.look at hat
      rw[h0,if_pos rfl] at hat;exact(Option.some.inj hat).symm
     ·exact absurd h3 (hall.out q h1 h2)
    have HR0:=Lib.hid hr0;clear hr0;go_wp2;go_ret;exact⟨by rw[HR0.out];rfl,hbw⟩
theorem yO {T e:TypeId} {B b:Nat} {bs:List Value} {W W':World} (h:Lib.IsBuilderF T e B b bs W) (hb:Below W.heap.size W W'):Lib.IsBuilderF T e B b bs W':=by
 have f:∀p,Lib.BuilderAtF T e B b p bs W->Lib.BuilderAtF T e B b p bs W':=λp x=>by
  have hlt:=x.lt;obtain⟨hB,v,hv,hown,hne⟩:=x;exact⟨hB,v,(hb.block b hlt).trans hv,hown.kept (row:=none) ⟨hb.os,hb.tape,hb.output,hb.size,λk hk _=>hb.block k hk⟩ (Classical.em _),hne⟩
 exact h.elim (λx=>.inl (f _ x)) (λx=>.inr (f _ x))
theorem jAF {T e:TypeId} {B b:Nat} {bs:List Value} {W:World} (h:Lib.IsBuilderF T e B b bs W):b<W.heap.size:=h.elim (λx=>x.lt) (λx=>x.lt)
theorem yW {B C:Nat} {a b:World} (h:Below C a b) (hBC:B<=C):Below B a b:=⟨h.os,h.tape,h.output,h.size,λi hi=>h.block i (Nat.lt_of_lt_of_le hi hBC)⟩
theorem jCB (l:List UInt8) (s:ByteArray):Lib.byteCells l++Lib.strCells s=Lib.byteCells (l++s.data.toList):=by simp [Lib.byteCells,Lib.strCells]
theorem bc_len (l s:List UInt8) (h:l.length+s.length<=100000):(Lib.byteCells l).length+ByteArray.size ⟨s.toArray⟩<=140737488355328:=by
 rw[Lib.byteCells_length];show l.length+s.toArray.size<=_;rw[List.size_toArray];omega
theorem bc_cat (s:List UInt8):((⟨#[32]⟩:ByteArray)++⟨s.toArray⟩).data.toList=[32]++s:=by
 simp [ByteArray.data_append]
theorem bc_len2 (l s:List UInt8) (h:l.length+s.length<=100000):(Lib.byteCells l).length+((⟨#[32]⟩:ByteArray)++⟨s.toArray⟩).size<=140737488355328:=by
 have e:((⟨#[32]⟩:ByteArray)++⟨s.toArray⟩).size=1+s.length:=by
  show((⟨#[32]⟩:ByteArray)++⟨s.toArray⟩).data.size=_;rw[<- Array.length_toList,bc_cat]
  simp
  omega
 rw[Lib.byteCells_length,e];omega
theorem yG {W W':World} (h:∃k os,W'=Go.Sort.grow (W.drewN k) os):Below W.heap.size W W':=by
 obtain⟨k,os,rfl⟩:=h;exact Lib.below_grow _ _ (Nat.le_refl _) k os
def dig (n:Nat):UInt8:=UInt8.ofNat (48+n)
theorem bc_dig (l:List UInt8) (n:Nat) (h:n<100):Lib.byteCells l++[Value.int .u8 (48+(n:Int))]=Lib.byteCells (l++[dig n]):=by
 have e:((dig n).toNat:Int)=48+(n:Int):=by
  unfold dig;rw[UInt8.toNat_ofNat'];omega
 simp [Lib.byteCells,e]
theorem bc_47 (l:List UInt8):Lib.byteCells l++[Value.int .u8 47]=Lib.byteCells (l++[47]):=by simp [Lib.byteCells]
theorem bc_45 (l:List UInt8):Lib.byteCells l++[Value.int .u8 45]=Lib.byteCells (l++[45]):=by simp [Lib.byteCells]
def jf.str:ByteArray:=⟨#[82,66,71,83,78,76,80]⟩
def jf.let:List Nat:=[82,66,71,83,78,76,80]
theorem jf.dec:∀j,j<7->Utf8.decode jf.str j=(jf.let.getD j 0,1):=by decide +kernel
theorem jf.let_is:∀j,j<7->∃p,ja.f ((jf.let.getD j 0:Nat):Int) false=some p/\jS.f 20 p=some ((7-j:Nat):Int):=by
 have h:∀j:Fin 7,((ja.f ((jf.let.getD j.1 0:Nat):Int) false).bind λp=>jS.f 20 p)=some ((7-j.1:Nat):Int):=by decide +kernel
 intro j hj;exact Option.bind_eq_some_iff.mp (h ⟨j,hj⟩)
theorem jf.sq_is (k r:Nat) (hk:k<9) (hr:r<9):zM.f (k:Int) (r:Int)=some ((9*k+r:Nat):Int):=by
 have h:∀k r:Fin 9,zM.f (k.1:Int) (r.1:Int)=some ((9*k.1+r.1:Nat):Int):=by decide +kernel
 exact h ⟨k,hk⟩ ⟨r,hr⟩
def jf.row (cs:List Int) (r:Nat):Nat->Nat->List UInt8->Option (List UInt8×Nat)
 | 0,free,out=>some (out,free)
 | d+1,free,out=>if cs.getD (9*d+r) 0=0 then jf.row cs r d (free+1) out else(yJ.f 20 (cs.getD (9*d+r) 0)).bind λnm=>jf.row cs r d 0 ((if 0<free then out++[dig free] else out)++nm.data.toList)
def jf.tail (r:Nat) (t:List UInt8×Nat):List UInt8:=(if 0<t.2 then t.1++[dig t.2] else t.1)++(if r<8 then[47] else[])
def jf.rows (cs:List Int):Nat->Nat->List UInt8->Option (List UInt8)
 | _,0,out=>some out
 | r,d+1,out=>(jf.row cs r 9 0 out).bind λt=>jf.rows cs (r+1) d (jf.tail r t)
def jf.hand (cs:List Int) (s:Nat):Nat->Nat->Bool->List UInt8->Option (Bool×List UInt8)
 | _,0,nn,out=>some (nn,out)
 | j,d+1,nn,out=>if cs.getD (81+8*s+(7-j)) 0=0 then jf.hand cs s (j+1) d nn out else(zU.f (s:Int) ((7-j:Nat):Int)).bind λp=>(yJ.f 20 p).bind λnm=>
   jf.hand cs s (j+1) d false ((if 1<cs.getD (81+8*s+(7-j)) 0 then out++Lib.itoa (wrap64 (cs.getD (81+8*s+(7-j)) 0)) else out)++nm.data.toList)
def jf.hands (cs:List Int):Nat->Nat->Bool->List UInt8->Option (Bool×List UInt8)
 | _,0,nn,out=>some (nn,out)
 | s,d+1,nn,out=>(jf.hand cs s 0 7 nn out).bind λt=>jf.hands cs (s+1) d t.1 t.2
def jf.text (cs:List Int) (number:Int):Option (List UInt8):=(jf.rows cs 0 9 []).bind λo1=>(jf.hands cs 0 2 true (o1++(if cs.getD 97 0=1 then[32,119,32] else[32,98,32]))).bind λt=>
 some ((if t.1=true then t.2++[45] else t.2)++([32]++Lib.itoa number))
def jf.f (cs:List Int) (number:Int):Option ByteArray:=(zR.f cs).bind λe=>if e≠0\/number<1\/9999<number then some ⟨#[]⟩ else(jf.text cs number).bind λl=>some ⟨l.toArray⟩
theorem jf.print_calls (cs : List Int) (number : Int) (r : ByteArray) (w : World) (hT : bits_TrailingZeros64.Tab w) (hTab : Lib.TabIs Tryz.prog w "internal/strconv.uint64pow10" .u64 Lib.pow10Tab) (hl : cs.length = 98) (hNL : ∀ (x : Int) (nm : ByteArray), yJ.f 20 x = some nm → nm.size ≤ 2) (h : jf.f cs number = some r) :
  Calls Tryz.prog 10 #[.agg (jA.pv cs),.int .i64 number] w λe w'=>e=.returned (.string r)/\Below w.heap.size w w':=by
 unfold jf.f at h;obtain⟨e0,h1,h2⟩:=Option.bind_eq_some_iff.mp h;have H1:=qA h1;have HNL:=qA hNL;have HTAB:=qA (Lib.tabBelow_of_tabIs hTab);have B1:(w.alloc (Obj.cells (jA.pv cs) 28)).heap[w.heap.size]?=some (.cells (jA.pv cs) 28 (0,0)):=zJ w _;have BB:Below w.heap.size w (w.alloc (Obj.cells (jA.pv cs) 28)):=ji (Below.refl _ _) _;have KT:=qA (hT.below BB);clear h hT hNL hTab;go_enter Tryz.func10,Tryz.ntmps10;go_upto_region 1 with(fail);generalize w.alloc (Obj.cells (jA.pv cs) 28)=W at *;have K2:=qA B1;have KB:=qA BB;clear B1 BB
 by_cases hbad:e0≠0\/number<1\/9999<number
 ·rw[if_pos hbad] at h2
  obtain rfl:=Option.some.inj h2;clear h2 h1
  by_cases he:e0=0
  ·have f0:(e0 != 0)=false:=by rw[he];rfl
   by_cases hn:number<1
   ·have f1:decide (number<1)=true:=decide_eq_true hn
    have f11:(number<1)=True:=eq_true hn;clear hbad he hn
    go_wp2_with (first|((with_reducible refine jG (N:=16) rfl ?_);refine jA.load rfl 28 (.tmp 2) rfl rfl K2.out Tryz.underlying28 rfl jA.infoP (by omega) ?_;rw[show(cs.drop 0).take 98=cs by rw[List.drop_zero,List.take_of_length_le (by omega)]])|(go_at_call 19;refine(zR.check_calls cs _ _ KT.out hl H1.out).mono ?_;rintro e w7 ⟨rfl,hb⟩;replace K2:=qB K2 hb;replace KB:=qS KB hb;replace KT:=qA (KT.out.below hb);clear hb))
    go_ret;exact⟨rfl,KB.out⟩
   ·have f1:decide (number<1)=false:=decide_eq_false hn
    have f11:(number<1)=False:=eq_false hn
    have hn2:9999<number:=by omega
    have f2:decide (9999<number)=true:=decide_eq_true hn2;have f22:(9999<number)=True:=eq_true hn2;clear hbad he hn hn2
    go_wp2_with (first|((with_reducible refine jG (N:=16) rfl ?_);refine jA.load rfl 28 (.tmp 2) rfl rfl K2.out Tryz.underlying28 rfl jA.infoP (by omega) ?_;rw[show(cs.drop 0).take 98=cs by rw[List.drop_zero,List.take_of_length_le (by omega)]])|(go_at_call 19;refine(zR.check_calls cs _ _ KT.out hl H1.out).mono ?_;rintro e w7 ⟨rfl,hb⟩;replace K2:=qB K2 hb;replace KB:=qS KB hb;replace KT:=qA (KT.out.below hb);clear hb))
    go_ret;exact⟨rfl,KB.out⟩
  ·have f0:(e0 != 0)=true:=by simpa using he
   clear hbad he
   go_wp2_with (first|((with_reducible refine jG (N:=16) rfl ?_);refine jA.load rfl 28 (.tmp 2) rfl rfl K2.out Tryz.underlying28 rfl jA.infoP (by omega) ?_;rw[show(cs.drop 0).take 98=cs by rw[List.drop_zero,List.take_of_length_le (by omega)]])|(go_at_call 19;refine(zR.check_calls cs _ _ KT.out hl H1.out).mono ?_;rintro e w7 ⟨rfl,hb⟩;replace K2:=qB K2 hb;replace KB:=qS KB hb;replace KT:=qA (KT.out.below hb);clear hb))
   go_ret;exact⟨rfl,KB.out⟩
 ·rw[if_neg hbad] at h2
  obtain⟨l,h3,h4⟩:=Option.bind_eq_some_iff.mp h2;obtain rfl:=Option.some.inj h4
  have he:e0=0:=by
   by_cases he:e0=0
   ·exact he
   ·exact absurd (.inl he) hbad
  subst he
  have hn1:1<=number:=by omega
  have hn2:number<=9999:=by omega
  have hside:=zR.side0 cs h1;have HSD:=qA hside;have H3:=qA h3;have f1:decide (number<1)=false:=decide_eq_false (by omega);have f11:(number<1)=False:=eq_false (by omega);have f2:decide (9999<number)=false:=decide_eq_false (by omega);have f22:(9999<number)=False:=eq_false (by omega);clear h1 h2 h3 h4 hbad hside;go_upto_region 3 with(first|((with_reducible refine jG (N:=16) rfl ?_);refine jA.load rfl 28 (.tmp 2) rfl rfl K2.out Tryz.underlying28 rfl jA.infoP (by omega) ?_;rw[show(cs.drop 0).take 98=cs by rw[List.drop_zero,List.take_of_length_le (by omega)]])|(go_at_call 19;refine(zR.check_calls cs _ _ KT.out hl H1.out).mono ?_;rintro e w7 ⟨rfl,hb⟩;replace K2:=qB K2 hb;replace KB:=qS KB hb;replace KT:=qA (KT.out.below hb);clear hb));clear f1 f2 f11 f22 KT H1;have ZB:=qA (jAO (t:=53) (c:=#[.pointer none,.slice none 0 0]) (by kernel_rfl));have zb:=ZB.out;go_upto_region 4 with(fail)
  have HBd:Aside0 (Lib.IsBuilderF 53 5 w7.heap.size w7.heap.size (Lib.byteCells []) (w7.alloc (Obj.cells #[Value.pointer none,Value.slice none 0 0] 53))):=⟨Lib.IsBuilderF.of (Lib.fresh_isBuilder 53 5 w7)⟩
  have HGlt:Aside0 (w.heap.size<w7.heap.size):=⟨ju K2.out⟩
  have B2:=jI K2.out (Obj.cells #[Value.pointer none,Value.slice none 0 0] 53);have BB:=ji KB.out (Obj.cells #[Value.pointer none,Value.slice none 0 0] 53);clear K2 KB zb ZB;generalize w7.alloc (Obj.cells #[Value.pointer none,Value.slice none 0 0] 53)=W1 at *;generalize w7.heap.size=gb at *;have K2:=qA B2;have KB:=qA BB;clear B2 BB;have e3:=H3.out;unfold jf.text at e3;obtain⟨o1,h5,h6⟩:=Option.bind_eq_some_iff.mp e3;obtain⟨⟨nn,o2⟩,h7,h8⟩:=Option.bind_eq_some_iff.mp h6;have HO1:=qA h5;have HO2:=qA h7;have HL:=qA (Option.some.inj h8);clear e3 h5 h6 h7 h8 H3;go_wp2
  go_loopg [27] 10 (λgf s27 wx=>∃(r:Nat) (out:List UInt8),s27=.int .i64 r/\r<=9/\out.length<=60*r/\Aside0 (jf.rows cs r (9-r) out=some o1)/\Aside0 (wx.heap[w.heap.size]?=some (.cells (jA.pv cs) 28 (0,0)))/\Aside0 (Lib.IsBuilderF 53 5 gb gb (Lib.byteCells out) wx)/\Aside0 (Below w.heap.size w wx)/\10<=gf+r)
  case atStart=>exact⟨0,[],rfl,by omega,by simp,HO1,K2,HBd,KB,by omega⟩
  case round=>
   clear K2 HBd KB HO1;obtain⟨r,out,rfl,hr,hol,HR,K2,HBd,KB,hgf⟩:=hrel
   by_cases hend:r=9
   ·subst hend
    have er:out=o1:=Option.some.inj HR.out;subst er;clear HR;go_upto_region 23 with(fail)
    obtain⟨o3,ho3⟩:∃o,o=out++(if cs.getD 97 0=1 then[32,119,32] else[32,98,32]):=⟨_,rfl⟩
    have ho3l:o3.length<=543:=by rw[ho3,List.length_append];split<;>simp<;>omega
    have HO3:Aside0 (jf.hands cs 0 2 true o3=some (nn,o2)):=⟨by rw[ho3];exact HO2.out⟩
    have HO3D:=qA ho3;clear ho3 HO2;go_cut [] (λwx=>Aside0 (wx.heap[w.heap.size]?=some (.cells (jA.pv cs) 28 (0,0)))/\Aside0 (Lib.IsBuilderF 53 5 gb gb (Lib.byteCells o3) wx)/\Aside0 (Below w.heap.size w wx))
    case first=>
     rcases HSD.out with hs|hs
     ·have ho:=HO3D.out
      rw[hs,if_neg (by decide)] at ho;subst ho;have c97:∀o,(wr.alloc o).cell? ⟨w.heap.size,97,none⟩=some (.int .i8 0):=λo=>(jB (jI K2.out o) 97).trans ((jA.pv_get cs 97 (by omega)).trans (by rw[hs]));have c9:(wr.alloc (Obj.cells #[.string ⟨#[32,98,32]⟩,.string ⟨#[32,119,32]⟩] 9)).cell? ⟨wr.heap.size,0,none⟩=some (.string ⟨#[32,98,32]⟩):=jB (zJ wr _) 0;clear hs
      go_wp2_with (first|(go_at_call 22;(with_reducible refine(Tryz.Builder_WriteString_k' gb gb (Lib.byteCells out) ⟨#[32,98,32]⟩ _ (Lib.IsBuilderF.alloc HBd.out _) (by rw[Lib.byteCells_length,show(⟨#[32,98,32]⟩:ByteArray).size=3 by decide];omega) (Nat.le_of_lt (jAF (Lib.IsBuilderF.alloc HBd.out _)))).mono ?_);rintro e w7 ⟨rfl,hA,hb,hk⟩;have he:=jCB out ⟨#[32,98,32]⟩;replace K2:=qA ((hb.block _ HGlt.out).trans (jI K2.out _));replace KB:=qA ((ji KB.out _).trans (yW hb (Nat.le_of_lt HGlt.out)));replace HBd:=qA (show Lib.IsBuilderF 53 5 gb gb (Lib.byteCells _) _ from .inr (by rw[<- he];exact hA));clear hA hb hk he))
      go_meet;exact⟨K2,HBd,KB⟩
     ·have ho:=HO3D.out
      rw[hs,if_pos rfl] at ho;subst ho;have c97:∀o,(wr.alloc o).cell? ⟨w.heap.size,97,none⟩=some (.int .i8 1):=λo=>(jB (jI K2.out o) 97).trans ((jA.pv_get cs 97 (by omega)).trans (by rw[hs]));have c9:(wr.alloc (Obj.cells #[.string ⟨#[32,98,32]⟩,.string ⟨#[32,119,32]⟩] 9)).cell? ⟨wr.heap.size,1,none⟩=some (.string ⟨#[32,119,32]⟩):=jB (zJ wr _) 1;clear hs
      go_wp2_with (first|(go_at_call 22;(with_reducible refine(Tryz.Builder_WriteString_k' gb gb (Lib.byteCells out) ⟨#[32,119,32]⟩ _ (Lib.IsBuilderF.alloc HBd.out _) (by rw[Lib.byteCells_length,show(⟨#[32,119,32]⟩:ByteArray).size=3 by decide];omega) (Nat.le_of_lt (jAF (Lib.IsBuilderF.alloc HBd.out _)))).mono ?_);rintro e w7 ⟨rfl,hA,hb,hk⟩;have he:=jCB out ⟨#[32,119,32]⟩;replace K2:=qA ((hb.block _ HGlt.out).trans (jI K2.out _));replace KB:=qA ((ji KB.out _).trans (yW hb (Nat.le_of_lt HGlt.out)));replace HBd:=qA (show Lib.IsBuilderF 53 5 gb gb (Lib.byteCells _) _ from .inr (by rw[<- he];exact hA));clear hA hb hk he))
      go_meet;exact⟨K2,HBd,KB⟩
    case rest=>
     clear K2 HBd KB;obtain⟨K2,HBd,KB⟩:=hcut;clear HO3D;go_wp2
     go_loopg [10,69] 3 (λgf s10 s69 wx=>∃(s:Nat) (nb:Bool) (ou:List UInt8),s10=.bool nb/\s69=.int .i64 s/\s<=2/\ou.length<=543+210*s/\Aside0 (jf.hands cs s (2-s) nb ou=some (nn,o2))/\Aside0 (wx.heap[w.heap.size]?=some (.cells (jA.pv cs) 28 (0,0)))/\Aside0 (Lib.IsBuilderF 53 5 gb gb (Lib.byteCells ou) wx)/\Aside0 (Below w.heap.size w wx)/\3<=gf+s)
     case atStart=>exact⟨0,true,o3,rfl,rfl,by omega,by omega,HO3,K2,HBd,KB,by omega⟩
     case round=>
      clear K2 HBd KB HO3 ho3l;obtain⟨s,nb,ou,rfl,rfl,hs2,hol2,HR,K2,HBd,KB,hgs⟩:=hrel
      by_cases hend2:s=2
      ·subst hend2
       have er:(nb,ou)=(nn,o2):=Option.some.inj HR.out;simp only[Prod.mk.injEq] at er;obtain⟨rfl,rfl⟩:=er;clear HR;have hil:=Lib.itoa_length_le number (by omega) (by omega);have HL2:=HL.out
       cases nb
       ·rw[if_neg (by decide)] at HL2
        go_upto_region 41 with(first|(fail))
        go_wp2_with (first|(go_at_call 26;(with_reducible refine(Tryz.strconv_Itoa number (by omega) (by omega) _ (Lib.TabBelow.here (Lib.TabBelow.on HTAB.out KB.out))).mono ?_);rintro e w7 ⟨rfl,hex⟩;have hb:=yG hex;clear hex;replace K2:=qB K2 hb;replace HBd:=qA (yO HBd.out hb);replace KB:=qS KB hb;clear hb)|(go_at_call 22;(with_reducible refine(Tryz.Builder_WriteString_k' gb gb (Lib.byteCells ou) (⟨#[32]⟩++⟨(Lib.itoa number).toArray⟩) _ HBd.out (bc_len2 ou (Lib.itoa number) (by (try simp only[List.length_append,List.length_cons,List.length_nil]);omega)) (Nat.le_of_lt (jAF HBd.out))).mono ?_);rintro e w7 ⟨rfl,hA,hb,hk⟩;have he:=jCB ou (⟨#[32]⟩++⟨(Lib.itoa number).toArray⟩);replace K2:=qA ((hb.block _ HGlt.out).trans K2.out);replace KB:=qA ((KB.out).trans (yW hb (Nat.le_of_lt HGlt.out)));replace HBd:=qA (show Lib.IsBuilderF 53 5 gb gb (Lib.byteCells _) _ from .inr (by rw[<- he];exact hA));clear hA hb hk he)|(go_at_call 28;(with_reducible refine(Tryz.Builder_String_any_k gb gb (ou++((⟨#[32]⟩:ByteArray)++⟨(Lib.itoa number).toArray⟩).data.toList) _ HBd.out (Nat.le_of_lt (jAF HBd.out))).mono ?_);rintro e w7 ⟨rfl,hA,hb,hk⟩;replace KB:=qA ((KB.out).trans (yW hb (Nat.le_of_lt HGlt.out)));clear K2 HBd hA hb hk))
        go_ret;refine⟨?_,KB.out⟩;rw[<- HL2]
        simp
       ·rw[if_pos rfl] at HL2
        go_upto_region 41 with(first|(go_at_call 21;(with_reducible refine(Tryz.Builder_WriteByte_k' gb gb (Lib.byteCells ou) 45 _ HBd.out (by rw[Lib.byteCells_length];omega) (Nat.le_of_lt (jAF HBd.out))).mono ?_);rintro e w7 ⟨rfl,hA,hb,hk⟩;have he:=bc_45 ou;replace K2:=qA ((hb.block _ HGlt.out).trans K2.out);replace KB:=qA ((KB.out).trans (yW hb (Nat.le_of_lt HGlt.out)));replace HBd:=qA (show Lib.IsBuilderF 53 5 gb gb (Lib.byteCells _) _ from .inr (by rw[<- he];exact hA));clear hA hb hk he))
        go_wp2_with (first|(go_at_call 26;(with_reducible refine(Tryz.strconv_Itoa number (by omega) (by omega) _ (Lib.TabBelow.here (Lib.TabBelow.on HTAB.out KB.out))).mono ?_);rintro e w7 ⟨rfl,hex⟩;have hb:=yG hex;clear hex;replace K2:=qB K2 hb;replace HBd:=qA (yO HBd.out hb);replace KB:=qS KB hb;clear hb)|(go_at_call 22;(with_reducible refine(Tryz.Builder_WriteString_k' gb gb (Lib.byteCells (ou++[45])) (⟨#[32]⟩++⟨(Lib.itoa number).toArray⟩) _ HBd.out (bc_len2 (ou++[45]) (Lib.itoa number) (by (try simp only[List.length_append,List.length_cons,List.length_nil]);omega)) (Nat.le_of_lt (jAF HBd.out))).mono ?_);rintro e w7 ⟨rfl,hA,hb,hk⟩;have he:=jCB (ou++[45]) (⟨#[32]⟩++⟨(Lib.itoa number).toArray⟩);replace K2:=qA ((hb.block _ HGlt.out).trans K2.out);replace KB:=qA ((KB.out).trans (yW hb (Nat.le_of_lt HGlt.out)));replace HBd:=qA (show Lib.IsBuilderF 53 5 gb gb (Lib.byteCells _) _ from .inr (by rw[<- he];exact hA));clear hA hb hk he)|(go_at_call 28;(with_reducible refine(Tryz.Builder_String_any_k gb gb ((ou++[45])++((⟨#[32]⟩:ByteArray)++⟨(Lib.itoa number).toArray⟩).data.toList) _ HBd.out (Nat.le_of_lt (jAF HBd.out))).mono ?_);rintro e w7 ⟨rfl,hA,hb,hk⟩;replace KB:=qA ((KB.out).trans (yW hb (Nat.le_of_lt HGlt.out)));clear K2 HBd hA hb hk))
        go_ret;refine⟨?_,KB.out⟩;rw[<- HL2]
        simp
      ·obtain⟨d,hd⟩:∃d,2-s=d+1:=⟨1-s,by omega⟩
       have e:=HR.out;rw[hd] at e;unfold jf.hands at e;obtain⟨⟨n2,ou2⟩,hh,e2⟩:=Option.bind_eq_some_iff.mp e;have HH:=qA hh;have b0:decide ((s:Int)<2)=true:=decide_eq_true (by omega);have b3:((s:Int)<2)=True:=eq_true (by omega);have bs1:(0<=(s:Int)/\(s:Int)<2)=True:=eq_true (by omega);have ews:IntKind.i64.wrap ((s:Int)+1)=(s:Int)+1:=IntWalk.i64_in _ (by omega)
       have hd2:d=2-(s+1):=by omega
       rw[hd2] at e2;have HE:=qA e2
       obtain⟨g',rfl⟩:∃g',gk=g'+1:=⟨gk-1,by omega⟩
       clear e hh e2 HR hd hd2;have i1:=World.iter_heap wr jf.str 0;have i2:(wr.iter jf.str 0).heap[w.heap.size]?=some (.cells (jA.pv cs) 28 (0,0)):=jI K2.out _;have i3:Lib.IsBuilderF 53 5 gb gb (Lib.byteCells ou) (wr.iter jf.str 0):=Lib.IsBuilderF.alloc HBd.out _;have i4:Below w.heap.size w (wr.iter jf.str 0):=ji KB.out _;have i5:gb<wr.heap.size:=jAF HBd.out;have i6:w.heap.size<=wr.heap.size:=KB.out.size;have I1:=qA i1;have I2:=qA i2;have I3:=qA i3;have I4:=qA i4;clear i1 i2 i3 i4 K2 HBd KB;go_wp2
       try rw[show(⟨#[82,66,71,83,78,76,80]⟩:ByteArray)=jf.str from rfl]
       generalize wr.iter jf.str 0=W2 at *;generalize wr.heap.size=it at *
       have HIne:Aside0 (it≠gb):=⟨by omega⟩
       have HIle:Aside0 (w.heap.size<=it):=⟨i6⟩
       have HI2:Aside0 (w.heap.size≠it):=⟨by have:=HGlt.out;omega⟩
       clear i5 i6
       go_loopg [10] 9 (λgf s10 wx=>∃(j:Nat) (nb:Bool) (ou:List UInt8),s10=.bool nb/\j<=7/\ou.length<=543+210*s+30*j/\Aside0 (jf.hand cs s j (7-j) nb ou=some (n2,ou2))/\Aside0 (wx.heap[it]?=some (.stringIter jf.str j))/\Aside0 (wx.heap[w.heap.size]?=some (.cells (jA.pv cs) 28 (0,0)))/\Aside0 (Lib.IsBuilderF 53 5 gb gb (Lib.byteCells ou) wx)/\Aside0 (Below w.heap.size w wx)/\9<=gf+j)
       case atStart=>exact⟨0,nb,ou,rfl,by omega,by omega,HH,I1,I2,I3,I4,by omega⟩
       case round=>
        clear I1 I2 I3 I4 HH hol2;obtain⟨j,nb,ou,rfl,hj7,hol2,HR,KI,K2,HBd,KB,hgj⟩:=hrel
        by_cases hend3:j=7
        ·subst hend3
         have er:(nb,ou)=(n2,ou2):=Option.some.inj HR.out;simp only[Prod.mk.injEq] at er;obtain⟨rfl,rfl⟩:=er;have HE2:=qA (show jf.hands cs (s+1) (2-(s+1)) nb ou=some (nn,o2) from HE.out);have hnx:∀ty,(Instr.next (.pointer (some ⟨it,0,none⟩)) true ty).run Tryz.prog wr=_:=λty=>Lib.run_next_end_at wr it jf.str 7 ty KI.out (by decide);clear HR HE;go_wp2
         go_roundg g'
         case measure=>omega
         case rel=>exact⟨s+1,nb,ou,rfl,by simp,by omega,by omega,HE2,K2,HBd,KB,by omega⟩
        ·obtain⟨d,hd⟩:∃d,7-j=d+1:=⟨6-j,by omega⟩
         have e:=HR.out;rw[hd] at e;unfold jf.hand at e
         have hj:j<7:=by omega
         obtain⟨pp,hpp,hkk⟩:=jf.let_is j hj;have hdc:=jf.dec j hj
         obtain⟨k,hk⟩:∃k,k=7-j:=⟨_,rfl⟩
         rw[<- hk] at hkk e
         obtain⟨L,hL⟩:∃L,L=jf.let.getD j 0:=⟨_,rfl⟩
         rw[<- hL] at hpp hdc;have HPP:=qA hpp;have HKK:=qA hkk
         have hk8:k<8:=by omega
         have bk1:(0<=(k:Int)/\(k:Int)<8)=True:=eq_true (by omega);have bk2:((k:Int)<8)=True:=eq_true (by omega)
         obtain⟨x,hx⟩:∃x,x=cs.getD (81+s*8+k) 0:=⟨_,rfl⟩
         rw[show 81+8*s+k=81+s*8+k by omega,<- hx] at e;have HX:=qA hx;have hnx:∀ty,(Instr.next (.pointer (some ⟨it,0,none⟩)) true ty).run Tryz.prog wr=_:=λty=>Lib.run_next_any_at wr it jf.str j ty KI.out (by show j<7;exact hj);rw[hdc] at hnx;have j1:=Lib.iterAt_heap wr it jf.str j (j+1) KI.out;have j2:=(Lib.iterAt_other wr it w.heap.size jf.str (j+1) HI2.out).trans K2.out;have j3:=Lib.IsBuilderF.iterAt HBd.out KI.out (j+1);have j4:=Lib.below_iterAt KB.out HIle.out jf.str (j+1)
         have hd2:d=7-(j+1):=by omega
         rw[hd2] at e
         obtain⟨g2,rfl⟩:∃g2,gk=g2+1:=⟨gk-1,by omega⟩
         clear KI K2 HBd KB HR hpp hkk hdc hL hd hd2
         obtain⟨W3,hW3⟩:∃W3,wr.iterAt it jf.str (j+1)=W3:=⟨_,rfl⟩
         dsimp only at hnx;rw[hW3] at hnx j1 j2 j3 j4;have KI:=qA j1;have K2:=qA j2;have HBd:=qA j3;have KB:=qA j4;clear j1 j2 j3 j4 hW3 hx hk
         by_cases hx0:x=0
         ·rw[if_pos hx0] at e
          have HE2:=qA e
          have cx:(x==0)=true:=by simpa using hx0
          clear e hx0
          go_wp2_with (first|(go_at_call 25;(with_reducible refine(ja.calls _ _ _ _ HPP.out).mono ?_);rintro e w7 ⟨rfl,hb⟩;replace K2:=qB K2 hb;replace KI:=qB KI hb;replace HBd:=qA (yO HBd.out hb);replace KB:=qS KB hb;clear hb)|(go_at_call 24;(with_reducible refine(jS.calls _ _ _ _ HKK.out).mono ?_);rintro e w7 ⟨rfl,hd⟩;have hb:=hd.below;clear hd;replace K2:=qB K2 hb;replace KI:=qB KI hb;replace HBd:=qA (yO HBd.out hb);replace KB:=qS KB hb;clear hb;have cN:w7.cell? ⟨w.heap.size,81+s*8+k,none⟩=some (.int .i8 x):=(jB K2.out _).trans ((jA.pv_get cs _ (by omega)).trans (by rw[HX.out]))))
          go_roundg g2
          case measure=>omega
          case rel=>exact⟨j+1,nb,ou,rfl,by omega,by omega,HE2,KI,K2,HBd,KB,by omega⟩
         ·rw[if_neg hx0] at e
          obtain⟨po,hpo,e2⟩:=Option.bind_eq_some_iff.mp e;obtain⟨nm,hnm,e4⟩:=Option.bind_eq_some_iff.mp e2;have HPO:=qA hpo;have HNM:=qA hnm;have hnl:=HNL.out _ _ hnm
          have hnl2:nm.data.toList.length<=2:=by rw[Array.length_toList];exact hnl
          have hil:=Lib.itoa_length_le (wrap64 x) (by unfold wrap64;omega) (by unfold wrap64;omega)
          have cx:(x==0)=false:=by simpa using hx0
          clear e e2 hpo hnm hx0
          by_cases h1x:1<x
          ·rw[if_pos h1x] at e4
           have HE2:=qA e4;have t0:decide (1<x)=true:=decide_eq_true h1x;have t00:(1<x)=True:=eq_true h1x;clear e4 h1x;go_upto_region 36 with(first|(go_at_call 25;(with_reducible refine(ja.calls _ _ _ _ HPP.out).mono ?_);rintro e w7 ⟨rfl,hb⟩;replace K2:=qB K2 hb;replace KI:=qB KI hb;replace HBd:=qA (yO HBd.out hb);replace KB:=qS KB hb;clear hb)|(go_at_call 24;(with_reducible refine(jS.calls _ _ _ _ HKK.out).mono ?_);rintro e w7 ⟨rfl,hd⟩;have hb:=hd.below;clear hd;replace K2:=qB K2 hb;replace KI:=qB KI hb;replace HBd:=qA (yO HBd.out hb);replace KB:=qS KB hb;clear hb;have cN:w7.cell? ⟨w.heap.size,81+s*8+k,none⟩=some (.int .i8 x):=(jB K2.out _).trans ((jA.pv_get cs _ (by omega)).trans (by rw[HX.out]))))
           try simp only[zP]
           go_upto_region 37 with(first|(go_at_call 26;(with_reducible refine(Tryz.strconv_Itoa (wrap64 x) (by unfold wrap64;omega) (by unfold wrap64;omega) _ (Lib.TabBelow.here (Lib.TabBelow.on HTAB.out KB.out))).mono ?_);rintro e w7 ⟨rfl,hex⟩;have hb:=yG hex;clear hex;replace K2:=qB K2 hb;replace KI:=qB KI hb;replace HBd:=qA (yO HBd.out hb);replace KB:=qS KB hb;clear hb)|(go_at_call 22;(with_reducible refine(Tryz.Builder_WriteString_k' gb gb (Lib.byteCells ou) ⟨(Lib.itoa (wrap64 x)).toArray⟩ _ HBd.out (bc_len ou (Lib.itoa (wrap64 x)) (by omega)) (Nat.le_of_lt (jAF HBd.out))).mono ?_);rintro e w7 ⟨rfl,hA,hb,hk⟩;have he:=jCB ou ⟨(Lib.itoa (wrap64 x)).toArray⟩;have nK2:=qA ((hb.block _ HGlt.out).trans K2.out);have nB:=qA ((KB.out).trans (yW hb (Nat.le_of_lt HGlt.out)));have nH:=qA (show Lib.IsBuilderF 53 5 gb gb (Lib.byteCells _) _ from .inr (by rw[<- he];exact hA));have nKI:=qA (hk.iter KI.out HIne.out);clear K2 HBd KB hA hb hk he KI;have K2:=nK2;have HBd:=nH;have KB:=nB;clear nK2 nH nB;have KI:=nKI;clear nKI))
           go_wp2_with (first|(go_at_call 27;(with_reducible refine(zU.calls _ _ _ _ HPO.out).mono ?_);rintro e w7 ⟨rfl,hd⟩;have hb:=hd.below;clear hd;replace K2:=qB K2 hb;replace KI:=qB KI hb;replace HBd:=qA (yO HBd.out hb);replace KB:=qS KB hb;clear hb)|(go_at_call 23;(with_reducible refine(yJ.calls _ _ _ _ HNM.out).mono ?_);rintro e w7 ⟨rfl,hb⟩;replace K2:=qB K2 hb;replace KI:=qB KI hb;replace HBd:=qA (yO HBd.out hb);replace KB:=qS KB hb;clear hb)|(go_at_call 22;(with_reducible refine(Tryz.Builder_WriteString_k' gb gb (Lib.byteCells (ou++Lib.itoa (wrap64 x))) nm _ HBd.out (by rw[Lib.byteCells_length,List.length_append];omega) (Nat.le_of_lt (jAF HBd.out))).mono ?_);rintro e w7 ⟨rfl,hA,hb,hk⟩;have he:=jCB (ou++Lib.itoa (wrap64 x)) nm;have nK2:=qA ((hb.block _ HGlt.out).trans K2.out);have nB:=qA ((KB.out).trans (yW hb (Nat.le_of_lt HGlt.out)));have nH:=qA (show Lib.IsBuilderF 53 5 gb gb (Lib.byteCells _) _ from .inr (by rw[<- he];exact hA));have nKI:=qA (hk.iter KI.out HIne.out);clear K2 HBd KB hA hb hk he KI;have K2:=nK2;have HBd:=nH;have KB:=nB;clear nK2 nH nB;have KI:=nKI;clear nKI))
           go_roundg g2
           case measure=>omega
           case rel=>exact⟨j+1,false,_,rfl,by omega,by simp only[List.length_append];omega,HE2,KI,K2,HBd,KB,by omega⟩
          ·rw[if_neg h1x] at e4
           have HE2:=qA e4;have t0:decide (1<x)=false:=decide_eq_false h1x;have t00:(1<x)=False:=eq_false h1x;clear e4 h1x
           go_wp2_with (first|(go_at_call 25;(with_reducible refine(ja.calls _ _ _ _ HPP.out).mono ?_);rintro e w7 ⟨rfl,hb⟩;replace K2:=qB K2 hb;replace KI:=qB KI hb;replace HBd:=qA (yO HBd.out hb);replace KB:=qS KB hb;clear hb)|(go_at_call 24;(with_reducible refine(jS.calls _ _ _ _ HKK.out).mono ?_);rintro e w7 ⟨rfl,hd⟩;have hb:=hd.below;clear hd;replace K2:=qB K2 hb;replace KI:=qB KI hb;replace HBd:=qA (yO HBd.out hb);replace KB:=qS KB hb;clear hb;have cN:w7.cell? ⟨w.heap.size,81+s*8+k,none⟩=some (.int .i8 x):=(jB K2.out _).trans ((jA.pv_get cs _ (by omega)).trans (by rw[HX.out])))|(go_at_call 27;(with_reducible refine(zU.calls _ _ _ _ HPO.out).mono ?_);rintro e w7 ⟨rfl,hd⟩;have hb:=hd.below;clear hd;replace K2:=qB K2 hb;replace KI:=qB KI hb;replace HBd:=qA (yO HBd.out hb);replace KB:=qS KB hb;clear hb)|(go_at_call 23;(with_reducible refine(yJ.calls _ _ _ _ HNM.out).mono ?_);rintro e w7 ⟨rfl,hb⟩;replace K2:=qB K2 hb;replace KI:=qB KI hb;replace HBd:=qA (yO HBd.out hb);replace KB:=qS KB hb;clear hb)|(go_at_call 22;(with_reducible refine(Tryz.Builder_WriteString_k' gb gb (Lib.byteCells ou) nm _ HBd.out (by rw[Lib.byteCells_length];omega) (Nat.le_of_lt (jAF HBd.out))).mono ?_);rintro e w7 ⟨rfl,hA,hb,hk⟩;have he:=jCB ou nm;have nK2:=qA ((hb.block _ HGlt.out).trans K2.out);have nB:=qA ((KB.out).trans (yW hb (Nat.le_of_lt HGlt.out)));have nH:=qA (show Lib.IsBuilderF 53 5 gb gb (Lib.byteCells _) _ from .inr (by rw[<- he];exact hA));have nKI:=qA (hk.iter KI.out HIne.out);clear K2 HBd KB hA hb hk he KI;have K2:=nK2;have HBd:=nH;have KB:=nB;clear nK2 nH nB;have KI:=nKI;clear nKI))
           go_roundg g2
           case measure=>omega
           case rel=>exact⟨j+1,false,_,rfl,by omega,by simp only[List.length_append];omega,HE2,KI,K2,HBd,KB,by omega⟩
   ·obtain⟨d,hd⟩:∃d,9-r=d+1:=⟨8-r,by omega⟩
    have e:=HR.out;rw[hd] at e;unfold jf.rows at e;obtain⟨⟨oo,fr⟩,hrow,e2⟩:=Option.bind_eq_some_iff.mp e;have HROW:=qA hrow;have b0:decide ((r:Int)<9)=true:=decide_eq_true (by omega);have b3:((r:Int)<9)=True:=eq_true (by omega);have ewr:IntKind.i64.wrap ((r:Int)+1)=(r:Int)+1:=IntWalk.i64_in _ (by omega)
    have hd2:d=9-(r+1):=by omega
    rw[hd2] at e2;have HE:=qA e2
    obtain⟨g',rfl⟩:∃g',gk=g'+1:=⟨gk-1,by omega⟩
    clear e hrow e2 HR hd hd2;go_wp2
    go_loopg [7,8] 11 (λgf s7 s8 wx=>∃(d free:Nat) (f:Int) (ou:List UInt8),s7=.int .i64 free/\s8=.int .i64 f/\f=(d:Int)-1/\d<=9/\free+d<=9/\ou.length+3*d<=60*r+27/\Aside0 (jf.row cs r d free ou=some (oo,fr))/\Aside0 (wx.heap[w.heap.size]?=some (.cells (jA.pv cs) 28 (0,0)))/\Aside0 (Lib.IsBuilderF 53 5 gb gb (Lib.byteCells ou) wx)/\Aside0 (Below w.heap.size w wx)/\d+2<=gf)
    case atStart=>exact⟨9,0,8,out,rfl,rfl,by omega,by omega,by omega,by omega,HROW,K2,HBd,KB,by omega⟩
    case round=>
     clear K2 HBd KB HROW;obtain⟨d,free,f,ou,rfl,rfl,hf,hd9,hfd,hou,HR,K2,HBd,KB,hgd⟩:=hrel
     by_cases hend2:d=0
     ·subst hend2
      have er:(ou,free)=(oo,fr):=Option.some.inj HR.out;simp only[Prod.mk.injEq] at er;obtain⟨rfl,rfl⟩:=er;have c0:decide (0<=f)=false:=decide_eq_false (by omega);have c00:(0<=f)=False:=eq_false (by omega);have e2:=HE.out;unfold jf.tail at e2;dsimp only at e2;have ewc:IntKind.i64.wrap (48+(free:Int))=48+(free:Int):=IntWalk.i64_in _ (by omega)
      have ewu:IntKind.u8.wrap (48+(free:Int))=48+(free:Int):=by rw[IntKind.wrap_u8];omega
      clear HR HE
      by_cases hf0:0<free
      ·rw[if_pos hf0] at e2
       have t0:decide (0<(free:Int))=true:=decide_eq_true (by omega);have t00:(0<(free:Int))=True:=eq_true (by omega);have t02:(0<free)=True:=eq_true hf0;have t03:decide (0<free)=true:=decide_eq_true hf0
       by_cases hr8:r<8
       ·rw[if_pos hr8] at e2
        have HE2:=qA e2;have t1:decide ((r:Int)<8)=true:=decide_eq_true (by omega);have t11:((r:Int)<8)=True:=eq_true (by omega);have t12:(r<8)=True:=eq_true hr8;have t13:decide (r<8)=true:=decide_eq_true hr8;clear e2 hf0;go_upto_region 20 with(first|(go_at_call 21;(with_reducible refine(Tryz.Builder_WriteByte_k' gb gb (Lib.byteCells ou) (48+(free:Int)) _ HBd.out (by rw[Lib.byteCells_length];omega) (Nat.le_of_lt (jAF HBd.out))).mono ?_);rintro e w7 ⟨rfl,hA,hb,hk⟩;have he:=bc_dig ou free (by omega);replace K2:=qA ((hb.block _ HGlt.out).trans K2.out);replace KB:=qA ((KB.out).trans (yW hb (Nat.le_of_lt HGlt.out)));replace HBd:=qA (show Lib.IsBuilderF 53 5 gb gb (Lib.byteCells _) _ from .inr (by rw[<- he];exact hA));clear hA hb hk he))
        go_wp2_with (first|(go_at_call 21;(with_reducible refine(Tryz.Builder_WriteByte_k' gb gb (Lib.byteCells (ou++[dig free])) 47 _ HBd.out (by rw[Lib.byteCells_length,List.length_append];simp;omega) (Nat.le_of_lt (jAF HBd.out))).mono ?_);rintro e w7 ⟨rfl,hA,hb,hk⟩;have he:=bc_47 (ou++[dig free]);replace K2:=qA ((hb.block _ HGlt.out).trans K2.out);replace KB:=qA ((KB.out).trans (yW hb (Nat.le_of_lt HGlt.out)));replace HBd:=qA (show Lib.IsBuilderF 53 5 gb gb (Lib.byteCells _) _ from .inr (by rw[<- he];exact hA));clear hA hb hk he))
        go_roundg g'
        case measure=>omega
        case rel=>exact⟨r+1,_,by simp,by omega,by simp;omega,HE2,K2,HBd,KB,by omega⟩
       ·rw[if_neg hr8,List.append_nil] at e2
        have HE2:=qA e2;have t1:decide ((r:Int)<8)=false:=decide_eq_false (by omega);have t11:((r:Int)<8)=False:=eq_false (by omega);have t12:(r<8)=False:=eq_false hr8;have t13:decide (r<8)=false:=decide_eq_false hr8;clear e2 hf0
        go_wp2_with (first|(go_at_call 21;(with_reducible refine(Tryz.Builder_WriteByte_k' gb gb (Lib.byteCells ou) (48+(free:Int)) _ HBd.out (by rw[Lib.byteCells_length];omega) (Nat.le_of_lt (jAF HBd.out))).mono ?_);rintro e w7 ⟨rfl,hA,hb,hk⟩;have he:=bc_dig ou free (by omega);replace K2:=qA ((hb.block _ HGlt.out).trans K2.out);replace KB:=qA ((KB.out).trans (yW hb (Nat.le_of_lt HGlt.out)));replace HBd:=qA (show Lib.IsBuilderF 53 5 gb gb (Lib.byteCells _) _ from .inr (by rw[<- he];exact hA));clear hA hb hk he))
        go_roundg g'
        case measure=>omega
        case rel=>exact⟨r+1,_,by simp,by omega,by simp;omega,HE2,K2,HBd,KB,by omega⟩
      ·rw[if_neg hf0] at e2
       have t0:decide (0<(free:Int))=false:=decide_eq_false (by omega);have t00:(0<(free:Int))=False:=eq_false (by omega);have t02:(0<free)=False:=eq_false hf0;have t03:decide (0<free)=false:=decide_eq_false hf0
       by_cases hr8:r<8
       ·rw[if_pos hr8] at e2
        have HE2:=qA e2;have t1:decide ((r:Int)<8)=true:=decide_eq_true (by omega);have t11:((r:Int)<8)=True:=eq_true (by omega);have t12:(r<8)=True:=eq_true hr8;have t13:decide (r<8)=true:=decide_eq_true hr8;clear e2 hf0
        go_wp2_with (first|(go_at_call 21;(with_reducible refine(Tryz.Builder_WriteByte_k' gb gb (Lib.byteCells ou) 47 _ HBd.out (by rw[Lib.byteCells_length];omega) (Nat.le_of_lt (jAF HBd.out))).mono ?_);rintro e w7 ⟨rfl,hA,hb,hk⟩;have he:=bc_47 ou;replace K2:=qA ((hb.block _ HGlt.out).trans K2.out);replace KB:=qA ((KB.out).trans (yW hb (Nat.le_of_lt HGlt.out)));replace HBd:=qA (show Lib.IsBuilderF 53 5 gb gb (Lib.byteCells _) _ from .inr (by rw[<- he];exact hA));clear hA hb hk he))
        go_roundg g'
        case measure=>omega
        case rel=>exact⟨r+1,_,by simp,by omega,by simp;omega,HE2,K2,HBd,KB,by omega⟩
       ·rw[if_neg hr8,List.append_nil] at e2
        have HE2:=qA e2;have t1:decide ((r:Int)<8)=false:=decide_eq_false (by omega);have t11:((r:Int)<8)=False:=eq_false (by omega);have t12:(r<8)=False:=eq_false hr8;have t13:decide (r<8)=false:=decide_eq_false hr8;clear e2 hf0;go_wp2
        go_roundg g'
        case measure=>omega
        case rel=>exact⟨r+1,_,by simp,by omega,by omega,HE2,K2,HBd,KB,by omega⟩
     ·obtain⟨k,rfl⟩:∃k,d=k+1:=⟨d-1,by omega⟩
      have hfk:f=(k:Int):=by omega
      subst hfk;have e:=HR.out;unfold jf.row at e
      obtain⟨q,hq⟩:∃q,q=9*k+r:=⟨_,rfl⟩
      have hsq:zM.f (k:Int) (r:Int)=some (q:Int):=by
       rw[hq];exact jf.sq_is k r (by omega) (by omega)
      rw[<- hq] at e;have HSQ:=qA hsq
      have hq81:q<81:=by omega
      have bq:(0<=(q:Int)/\(q:Int)<81)=True:=eq_true (by omega);have bq2:((q:Int)<81)=True:=eq_true (by omega);have c0:decide (0<=(k:Int))=true:=decide_eq_true (by omega);have c00:(0<=(k:Int))=True:=eq_true (by omega)
      obtain⟨x,hx⟩:∃x,x=cs.getD q 0:=⟨_,rfl⟩
      rw[<- hx] at e;have HX:=qA hx;have ewf:IntKind.i64.wrap ((free:Int)+1)=(free:Int)+1:=IntWalk.i64_in _ (by omega);have ewk:IntKind.i64.wrap ((k:Int)-1)=(k:Int)-1:=IntWalk.i64_in _ (by omega);have ewc:IntKind.i64.wrap (48+(free:Int))=48+(free:Int):=IntWalk.i64_in _ (by omega)
      have ewu:IntKind.u8.wrap (48+(free:Int))=48+(free:Int):=by rw[IntKind.wrap_u8];omega
      obtain⟨g2,rfl⟩:∃g2,gk=g2+1:=⟨gk-1,by omega⟩
      clear hq hx hsq HR hf
      by_cases hx0:x=0
      ·rw[if_pos hx0] at e
       have HE2:=qA e
       have cx:(x==0)=true:=by simpa using hx0
       clear e hx0
       go_wp2_with (first|(go_at_call 20;(with_reducible refine(zM.calls _ _ _ _ HSQ.out).mono ?_);rintro e w7 ⟨rfl,hd⟩;have hb:=hd.below;clear hd;replace K2:=qB K2 hb;replace HBd:=qA (yO HBd.out hb);replace KB:=qS KB hb;clear hb;have cN:w7.cell? ⟨w.heap.size,q,none⟩=some (.int .i8 x):=(jB K2.out q).trans ((jA.pv_get cs q (by omega)).trans (by rw[HX.out]))))
       go_roundg g2
       case measure=>omega
       case rel=>exact⟨k,free+1,_,ou,by simp,rfl,rfl,by omega,by omega,by omega,HE2,K2,HBd,KB,by omega⟩
      ·rw[if_neg hx0] at e
       obtain⟨nm,hnm,e4⟩:=Option.bind_eq_some_iff.mp e;have HNM:=qA hnm;have hnl:=HNL.out _ _ hnm
       have hnl2:nm.data.toList.length<=2:=by rw[Array.length_toList];exact hnl
       have cx:(x==0)=false:=by simpa using hx0
       clear e hnm hx0
       by_cases hf0:0<free
       ·rw[if_pos hf0] at e4
        have HE2:=qA e4;have t0:decide (0<(free:Int))=true:=decide_eq_true (by omega);have t00:(0<(free:Int))=True:=eq_true (by omega);have t02:(0<free)=True:=eq_true hf0;have t03:decide (0<free)=true:=decide_eq_true hf0;clear e4;go_upto_region 16 with(first|(go_at_call 20;(with_reducible refine(zM.calls _ _ _ _ HSQ.out).mono ?_);rintro e w7 ⟨rfl,hd⟩;have hb:=hd.below;clear hd;replace K2:=qB K2 hb;replace HBd:=qA (yO HBd.out hb);replace KB:=qS KB hb;clear hb;have cN:w7.cell? ⟨w.heap.size,q,none⟩=some (.int .i8 x):=(jB K2.out q).trans ((jA.pv_get cs q (by omega)).trans (by rw[HX.out])))|(go_at_call 21;(with_reducible refine(Tryz.Builder_WriteByte_k' gb gb (Lib.byteCells ou) (48+(free:Int)) _ HBd.out (by rw[Lib.byteCells_length];omega) (Nat.le_of_lt (jAF HBd.out))).mono ?_);rintro e w7 ⟨rfl,hA,hb,hk⟩;have he:=bc_dig ou free (by omega);replace K2:=qA ((hb.block _ HGlt.out).trans K2.out);replace KB:=qA ((KB.out).trans (yW hb (Nat.le_of_lt HGlt.out)));replace HBd:=qA (show Lib.IsBuilderF 53 5 gb gb (Lib.byteCells _) _ from .inr (by rw[<- he];exact hA));clear hA hb hk he))
        go_wp2_with (first|(go_at_call 23;(with_reducible refine(yJ.calls _ _ _ _ HNM.out).mono ?_);rintro e w7 ⟨rfl,hb⟩;replace K2:=qB K2 hb;replace HBd:=qA (yO HBd.out hb);replace KB:=qS KB hb;clear hb)|(go_at_call 22;(with_reducible refine(Tryz.Builder_WriteString_k' gb gb (Lib.byteCells (ou++[dig free])) nm _ HBd.out (by rw[Lib.byteCells_length,List.length_append];simp;omega) (Nat.le_of_lt (jAF HBd.out))).mono ?_);rintro e w7 ⟨rfl,hA,hb,hk⟩;have he:=jCB (ou++[dig free]) nm;replace K2:=qA ((hb.block _ HGlt.out).trans K2.out);replace KB:=qA ((KB.out).trans (yW hb (Nat.le_of_lt HGlt.out)));replace HBd:=qA (show Lib.IsBuilderF 53 5 gb gb (Lib.byteCells _) _ from .inr (by rw[<- he];exact hA));clear hA hb hk he))
        go_roundg g2
        case measure=>omega
        case rel=>exact⟨k,0,_,_,rfl,rfl,rfl,by omega,by omega,by simp;omega,HE2,K2,HBd,KB,by omega⟩
       ·rw[if_neg hf0] at e4
        have HE2:=qA e4;have t0:decide (0<(free:Int))=false:=decide_eq_false (by omega);have t00:(0<(free:Int))=False:=eq_false (by omega);have t02:(0<free)=False:=eq_false hf0;have t03:decide (0<free)=false:=decide_eq_false hf0;clear e4
        go_wp2_with (first|(go_at_call 20;(with_reducible refine(zM.calls _ _ _ _ HSQ.out).mono ?_);rintro e w7 ⟨rfl,hd⟩;have hb:=hd.below;clear hd;replace K2:=qB K2 hb;replace HBd:=qA (yO HBd.out hb);replace KB:=qS KB hb;clear hb;have cN:w7.cell? ⟨w.heap.size,q,none⟩=some (.int .i8 x):=(jB K2.out q).trans ((jA.pv_get cs q (by omega)).trans (by rw[HX.out])))|(go_at_call 23;(with_reducible refine(yJ.calls _ _ _ _ HNM.out).mono ?_);rintro e w7 ⟨rfl,hb⟩;replace K2:=qB K2 hb;replace HBd:=qA (yO HBd.out hb);replace KB:=qS KB hb;clear hb)|(go_at_call 22;(with_reducible refine(Tryz.Builder_WriteString_k' gb gb (Lib.byteCells ou) nm _ HBd.out (by rw[Lib.byteCells_length];omega) (Nat.le_of_lt (jAF HBd.out))).mono ?_);rintro e w7 ⟨rfl,hA,hb,hk⟩;have he:=jCB ou nm;replace K2:=qA ((hb.block _ HGlt.out).trans K2.out);replace KB:=qA ((KB.out).trans (yW hb (Nat.le_of_lt HGlt.out)));replace HBd:=qA (show Lib.IsBuilderF 53 5 gb gb (Lib.byteCells _) _ from .inr (by rw[<- he];exact hA));clear hA hb hk he))
        go_roundg g2
        case measure=>omega
        case rel=>exact⟨k,0,_,_,rfl,rfl,rfl,by omega,by omega,by simp;omega,HE2,K2,HBd,KB,by omega⟩
end Go.Proofs.YtigenhbmgpfffaaGreatDoor.Pa
