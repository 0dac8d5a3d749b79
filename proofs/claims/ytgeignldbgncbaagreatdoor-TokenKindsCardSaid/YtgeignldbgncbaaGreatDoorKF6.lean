/- What the functions compute, and that they do. -/
import Derived.Test.YtgeignldbgncbaaGreatDoorKF3
import Derived.Test.YtgeignldbgncbaaGreatDoorKF4
import Derived.Test.YtgeignldbgncbaaGreatDoorKF5
import Derived.Test.YtgeignldbgncbaaGreatDoorKL
set_option maxRecDepth 1000000
set_option linter.unusedVariables false
namespace Go.AM.T
open Go Go.AM Go.Proofs
def f_kakugyolaw22_TokenKinds_j21 (n : Nat) (n23 : Int) (w24 : ByteArray) (word25 : Bool) : Option (Bool × Unit) :=
 Br (le n23 1)
  (Br (eq n23 0)
   (Br ((seq w24 (⟨#[]⟩ : ByteArray)) == (!word25))
    (Br (word25)
     (Br (!(lt 0 n23))
      (some (seq f_token_Word_1.1 (⟨#[]⟩ : ByteArray), ()))
      (some (false, ())))
     (some (seq f_token_Word_1.1 (⟨#[]⟩ : ByteArray), ())))
    (some (false, ())))
   (Br ((seq w24 (⟨#[]⟩ : ByteArray)) == false)
    (Br (word25)
     (Br (!(lt 0 n23))
      (some (seq f_token_Word_1.1 (⟨#[]⟩ : ByteArray), ()))
      (some (false, ())))
     (some (seq f_token_Word_1.1 (⟨#[]⟩ : ByteArray), ())))
    (some (false, ()))))
  (some (false, ()))
def f_kakugyolaw22_TokenKinds_j19 (n : Nat) (n22 : Int) : Option (Bool × Unit) :=
 Br (seq f_token_Word_1.1 (⟨#[117, 115, 105]⟩ : ByteArray))
  (ob (f_kakugyolaw22_TokenKinds_j21 n n22 f_token_Word_1.1 true) fun y26 =>
  some (y26.1, ()))
  (Br (seq f_token_Word_1.1 (⟨#[105, 115, 114, 101, 97, 100, 121]⟩ : ByteArray))
   (ob (f_kakugyolaw22_TokenKinds_j21 n n22 f_token_Word_1.1 true) fun y27 =>
   some (y27.1, ()))
   (Br (seq f_token_Word_1.1 (⟨#[117, 115, 105, 110, 101, 119, 103, 97, 109, 101]⟩ : ByteArray))
    (ob (f_kakugyolaw22_TokenKinds_j21 n n22 f_token_Word_1.1 true) fun y28 =>
    some (y28.1, ()))
    (Br (seq f_token_Word_1.1 (⟨#[115, 116, 111, 112]⟩ : ByteArray))
     (ob (f_kakugyolaw22_TokenKinds_j21 n n22 f_token_Word_1.1 true) fun y29 =>
     some (y29.1, ()))
     (ob (f_kakugyolaw22_TokenKinds_j21 n n22 f_token_Word_1.1 (seq f_token_Word_1.1 (⟨#[113, 117, 105, 116]⟩ : ByteArray))) fun y30 =>
     some (y30.1, ())))))
def f_kakugyolaw22_TokenKinds_j16 (n : Nat) (n21 : Int) : Option (Bool × Unit) :=
 Br (f_token_IsOption.1.2)
  (ob (f_kakugyolaw22_TokenKinds_j19 n (wa .i64 n21 1)) fun y31 =>
  some (y31.1, ()))
  (ob (f_kakugyolaw22_TokenKinds_j19 n n21) fun y32 =>
  some (y32.1, ()))
def f_kakugyolaw22_TokenKinds_j13 (n : Nat) (n20 : Int) : Option (Bool × Unit) :=
 Br (f_token_IsMate.1.2)
  (ob (f_kakugyolaw22_TokenKinds_j16 n (wa .i64 n20 1)) fun y33 =>
  some (y33.1, ()))
  (ob (f_kakugyolaw22_TokenKinds_j16 n n20) fun y34 =>
  some (y34.1, ()))
def f_kakugyolaw22_TokenKinds_j10 (n : Nat) (n19 : Int) : Option (Bool × Unit) :=
 Br (f_token_IsGo.1.2)
  (ob (f_kakugyolaw22_TokenKinds_j13 n (wa .i64 n19 1)) fun y35 =>
  some (y35.1, ()))
  (ob (f_kakugyolaw22_TokenKinds_j13 n n19) fun y36 =>
  some (y36.1, ()))
def f_kakugyolaw22_TokenKinds_j19b (n : Nat) (c47 : ByteArray × Unit) (n48 : Int) : Option (Bool × Unit) :=
 Br (seq (f_token_Word_2 c47).1 (⟨#[117, 115, 105]⟩ : ByteArray))
  (ob (f_kakugyolaw22_TokenKinds_j21 n n48 (f_token_Word_2 c47).1 true) fun y49 =>
  some (y49.1, ()))
  (Br (seq (f_token_Word_2 c47).1 (⟨#[105, 115, 114, 101, 97, 100, 121]⟩ : ByteArray))
   (ob (f_kakugyolaw22_TokenKinds_j21 n n48 (f_token_Word_2 c47).1 true) fun y50 =>
   some (y50.1, ()))
   (Br (seq (f_token_Word_2 c47).1 (⟨#[117, 115, 105, 110, 101, 119, 103, 97, 109, 101]⟩ : ByteArray))
    (ob (f_kakugyolaw22_TokenKinds_j21 n n48 (f_token_Word_2 c47).1 true) fun y51 =>
    some (y51.1, ()))
    (Br (seq (f_token_Word_2 c47).1 (⟨#[115, 116, 111, 112]⟩ : ByteArray))
     (ob (f_kakugyolaw22_TokenKinds_j21 n n48 (f_token_Word_2 c47).1 true) fun y52 =>
     some (y52.1, ()))
     (ob (f_kakugyolaw22_TokenKinds_j21 n n48 (f_token_Word_2 c47).1 (seq (f_token_Word_2 c47).1 (⟨#[113, 117, 105, 116]⟩ : ByteArray))) fun y53 =>
     some (y53.1, ())))))
def f_kakugyolaw22_TokenKinds_j16b (n : Nat) (c45 : ByteArray × Unit) (n46 : Int) : Option (Bool × Unit) :=
 Br ((f_token_IsOption_1 c45).1.2)
  (ob (f_kakugyolaw22_TokenKinds_j19b n c45 (wa .i64 n46 1)) fun y54 =>
  some (y54.1, ()))
  (ob (f_kakugyolaw22_TokenKinds_j19b n c45 n46) fun y55 =>
  some (y55.1, ()))
def f_kakugyolaw22_TokenKinds_j13b (n : Nat) (c43 : ByteArray × Unit) (n44 : Int) : Option (Bool × Unit) :=
 Br ((f_token_IsMate_1 c43).1.2)
  (ob (f_kakugyolaw22_TokenKinds_j16b n c43 (wa .i64 n44 1)) fun y56 =>
  some (y56.1, ()))
  (ob (f_kakugyolaw22_TokenKinds_j16b n c43 n44) fun y57 =>
  some (y57.1, ()))
def f_kakugyolaw22_TokenKinds_j10b (n : Nat) (c41 : ByteArray × Unit) (n42 : Int) : Option (Bool × Unit) :=
 Br ((f_token_IsGo_1 c41).1.2)
  (ob (f_kakugyolaw22_TokenKinds_j13b n c41 (wa .i64 n42 1)) fun y58 =>
  some (y58.1, ()))
  (ob (f_kakugyolaw22_TokenKinds_j13b n c41 n42) fun y59 =>
  some (y59.1, ()))
def f_kakugyolaw22_TokenKinds_j19c (n : Nat) (c70 : ByteArray × ByteArray × Unit) (n71 : Int) : Option (Bool × Unit) :=
 Br (seq (f_token_Word_3 c70).1 (⟨#[117, 115, 105]⟩ : ByteArray))
  (ob (f_kakugyolaw22_TokenKinds_j21 n n71 (f_token_Word_3 c70).1 true) fun y72 =>
  some (y72.1, ()))
  (Br (seq (f_token_Word_3 c70).1 (⟨#[105, 115, 114, 101, 97, 100, 121]⟩ : ByteArray))
   (ob (f_kakugyolaw22_TokenKinds_j21 n n71 (f_token_Word_3 c70).1 true) fun y73 =>
   some (y73.1, ()))
   (Br (seq (f_token_Word_3 c70).1 (⟨#[117, 115, 105, 110, 101, 119, 103, 97, 109, 101]⟩ : ByteArray))
    (ob (f_kakugyolaw22_TokenKinds_j21 n n71 (f_token_Word_3 c70).1 true) fun y74 =>
    some (y74.1, ()))
    (Br (seq (f_token_Word_3 c70).1 (⟨#[115, 116, 111, 112]⟩ : ByteArray))
     (ob (f_kakugyolaw22_TokenKinds_j21 n n71 (f_token_Word_3 c70).1 true) fun y75 =>
     some (y75.1, ()))
     (ob (f_kakugyolaw22_TokenKinds_j21 n n71 (f_token_Word_3 c70).1 (seq (f_token_Word_3 c70).1 (⟨#[113, 117, 105, 116]⟩ : ByteArray))) fun y76 =>
     some (y76.1, ())))))
def f_kakugyolaw22_TokenKinds_j16c (n : Nat) (c68 : ByteArray × ByteArray × Unit) (n69 : Int) : Option (Bool × Unit) :=
 Br ((f_token_IsOption_2 c68).1.2)
  (ob (f_kakugyolaw22_TokenKinds_j19c n c68 (wa .i64 n69 1)) fun y77 =>
  some (y77.1, ()))
  (ob (f_kakugyolaw22_TokenKinds_j19c n c68 n69) fun y78 =>
  some (y78.1, ()))
def f_kakugyolaw22_TokenKinds_j13c (n : Nat) (c66 : ByteArray × ByteArray × Unit) (n67 : Int) : Option (Bool × Unit) :=
 Br ((f_token_IsMate_2 c66).1.2)
  (ob (f_kakugyolaw22_TokenKinds_j16c n c66 (wa .i64 n67 1)) fun y79 =>
  some (y79.1, ()))
  (ob (f_kakugyolaw22_TokenKinds_j16c n c66 n67) fun y80 =>
  some (y80.1, ()))
def f_kakugyolaw22_TokenKinds_j10c (n : Nat) (c64 : ByteArray × ByteArray × Unit) (n65 : Int) : Option (Bool × Unit) :=
 Br ((f_token_IsGo_2 c64).1.2)
  (ob (f_kakugyolaw22_TokenKinds_j13c n c64 (wa .i64 n65 1)) fun y81 =>
  some (y81.1, ()))
  (ob (f_kakugyolaw22_TokenKinds_j13c n c64 n65) fun y82 =>
  some (y82.1, ()))
def f_kakugyolaw22_TokenKinds_j19d (n : Nat) (c93 : List Int × Unit × Unit) (n94 : Int) : Option (Bool × Unit) :=
 Br (seq (f_token_Word_4 c93).1 (⟨#[117, 115, 105]⟩ : ByteArray))
  (ob (f_kakugyolaw22_TokenKinds_j21 n n94 (f_token_Word_4 c93).1 true) fun y95 =>
  some (y95.1, ()))
  (Br (seq (f_token_Word_4 c93).1 (⟨#[105, 115, 114, 101, 97, 100, 121]⟩ : ByteArray))
   (ob (f_kakugyolaw22_TokenKinds_j21 n n94 (f_token_Word_4 c93).1 true) fun y96 =>
   some (y96.1, ()))
   (Br (seq (f_token_Word_4 c93).1 (⟨#[117, 115, 105, 110, 101, 119, 103, 97, 109, 101]⟩ : ByteArray))
    (ob (f_kakugyolaw22_TokenKinds_j21 n n94 (f_token_Word_4 c93).1 true) fun y97 =>
    some (y97.1, ()))
    (Br (seq (f_token_Word_4 c93).1 (⟨#[115, 116, 111, 112]⟩ : ByteArray))
     (ob (f_kakugyolaw22_TokenKinds_j21 n n94 (f_token_Word_4 c93).1 true) fun y98 =>
     some (y98.1, ()))
     (ob (f_kakugyolaw22_TokenKinds_j21 n n94 (f_token_Word_4 c93).1 (seq (f_token_Word_4 c93).1 (⟨#[113, 117, 105, 116]⟩ : ByteArray))) fun y99 =>
     some (y99.1, ())))))
def f_kakugyolaw22_TokenKinds_j16d (n : Nat) (c91 : List Int × Unit × Unit) (n92 : Int) : Option (Bool × Unit) :=
 Br ((f_token_IsOption_3 c91).1.2)
  (ob (f_kakugyolaw22_TokenKinds_j19d n c91 (wa .i64 n92 1)) fun y100 =>
  some (y100.1, ()))
  (ob (f_kakugyolaw22_TokenKinds_j19d n c91 n92) fun y101 =>
  some (y101.1, ()))
def f_kakugyolaw22_TokenKinds_j13d (n : Nat) (c89 : List Int × Unit × Unit) (n90 : Int) : Option (Bool × Unit) :=
 Br ((f_token_IsMate_3 c89).1.2)
  (ob (f_kakugyolaw22_TokenKinds_j16d n c89 (wa .i64 n90 1)) fun y102 =>
  some (y102.1, ()))
  (ob (f_kakugyolaw22_TokenKinds_j16d n c89 n90) fun y103 =>
  some (y103.1, ()))
def f_kakugyolaw22_TokenKinds_j10d (n : Nat) (c87 : List Int × Unit × Unit) (n88 : Int) : Option (Bool × Unit) :=
 Br ((f_token_IsGo_3 c87).1.2)
  (ob (f_kakugyolaw22_TokenKinds_j13d n c87 (wa .i64 n88 1)) fun y104 =>
  some (y104.1, ()))
  (ob (f_kakugyolaw22_TokenKinds_j13d n c87 n88) fun y105 =>
  some (y105.1, ()))
def f_kakugyolaw22_TokenKinds_j19e (n : Nat) (c119 : List Int × Unit × Unit) (n120 : Int) (h121 : List (Int × Int × Int × Bool × Unit)) : Option (Bool × Unit) :=
 Br (seq (f_token_Word c119 h121).1 (⟨#[117, 115, 105]⟩ : ByteArray))
  (ob (f_kakugyolaw22_TokenKinds_j21 n n120 (f_token_Word c119 h121).1 true) fun y122 =>
  some (y122.1, ()))
  (Br (seq (f_token_Word c119 h121).1 (⟨#[105, 115, 114, 101, 97, 100, 121]⟩ : ByteArray))
   (ob (f_kakugyolaw22_TokenKinds_j21 n n120 (f_token_Word c119 h121).1 true) fun y123 =>
   some (y123.1, ()))
   (Br (seq (f_token_Word c119 h121).1 (⟨#[117, 115, 105, 110, 101, 119, 103, 97, 109, 101]⟩ : ByteArray))
    (ob (f_kakugyolaw22_TokenKinds_j21 n n120 (f_token_Word c119 h121).1 true) fun y124 =>
    some (y124.1, ()))
    (Br (seq (f_token_Word c119 h121).1 (⟨#[115, 116, 111, 112]⟩ : ByteArray))
     (ob (f_kakugyolaw22_TokenKinds_j21 n n120 (f_token_Word c119 h121).1 true) fun y125 =>
     some (y125.1, ()))
     (ob (f_kakugyolaw22_TokenKinds_j21 n n120 (f_token_Word c119 h121).1 (seq (f_token_Word c119 h121).1 (⟨#[113, 117, 105, 116]⟩ : ByteArray))) fun y126 =>
     some (y126.1, ())))))
def f_kakugyolaw22_TokenKinds_j16e (n : Nat) (c116 : List Int × Unit × Unit) (n117 : Int) (h118 : List (Int × Int × Int × Bool × Unit)) : Option (Bool × Unit) :=
 Br ((f_token_IsOption_4 c116 h118).1.2)
  (ob (f_kakugyolaw22_TokenKinds_j19e n c116 (wa .i64 n117 1) (f_token_IsOption_4 c116 h118).2.1) fun y127 =>
  some (y127.1, ()))
  (ob (f_kakugyolaw22_TokenKinds_j19e n c116 n117 (f_token_IsOption_4 c116 h118).2.1) fun y128 =>
  some (y128.1, ()))
def f_kakugyolaw22_TokenKinds_j13e (n : Nat) (c113 : List Int × Unit × Unit) (n114 : Int) (h115 : List (Int × Int × Int × Bool × Unit)) : Option (Bool × Unit) :=
 Br ((f_token_IsMate_4 c113 h115).1.2)
  (ob (f_kakugyolaw22_TokenKinds_j16e n c113 (wa .i64 n114 1) (f_token_IsMate_4 c113 h115).2.1) fun y129 =>
  some (y129.1, ()))
  (ob (f_kakugyolaw22_TokenKinds_j16e n c113 n114 (f_token_IsMate_4 c113 h115).2.1) fun y130 =>
  some (y130.1, ()))
def f_kakugyolaw22_TokenKinds_j10e (n : Nat) (c110 : List Int × Unit × Unit) (n111 : Int) (h112 : List (Int × Int × Int × Bool × Unit)) : Option (Bool × Unit) :=
 Br ((f_token_IsGo_4 c110 h112).1.2)
  (ob (f_kakugyolaw22_TokenKinds_j13e n c110 (wa .i64 n111 1) (f_token_IsGo_4 c110 h112).2.1) fun y131 =>
  some (y131.1, ()))
  (ob (f_kakugyolaw22_TokenKinds_j13e n c110 n111 (f_token_IsGo_4 c110 h112).2.1) fun y132 =>
  some (y132.1, ()))
def f_kakugyolaw22_TokenKinds_j19f (n : Nat) (c143 : Int × Unit) (n144 : Int) : Option (Bool × Unit) :=
 Br (seq (f_token_Word_5 c143).1 (⟨#[117, 115, 105]⟩ : ByteArray))
  (ob (f_kakugyolaw22_TokenKinds_j21 n n144 (f_token_Word_5 c143).1 true) fun y145 =>
  some (y145.1, ()))
  (Br (seq (f_token_Word_5 c143).1 (⟨#[105, 115, 114, 101, 97, 100, 121]⟩ : ByteArray))
   (ob (f_kakugyolaw22_TokenKinds_j21 n n144 (f_token_Word_5 c143).1 true) fun y146 =>
   some (y146.1, ()))
   (Br (seq (f_token_Word_5 c143).1 (⟨#[117, 115, 105, 110, 101, 119, 103, 97, 109, 101]⟩ : ByteArray))
    (ob (f_kakugyolaw22_TokenKinds_j21 n n144 (f_token_Word_5 c143).1 true) fun y147 =>
    some (y147.1, ()))
    (Br (seq (f_token_Word_5 c143).1 (⟨#[115, 116, 111, 112]⟩ : ByteArray))
     (ob (f_kakugyolaw22_TokenKinds_j21 n n144 (f_token_Word_5 c143).1 true) fun y148 =>
     some (y148.1, ()))
     (ob (f_kakugyolaw22_TokenKinds_j21 n n144 (f_token_Word_5 c143).1 (seq (f_token_Word_5 c143).1 (⟨#[113, 117, 105, 116]⟩ : ByteArray))) fun y149 =>
     some (y149.1, ())))))
def f_kakugyolaw22_TokenKinds_j16f (n : Nat) (c141 : Int × Unit) (n142 : Int) : Option (Bool × Unit) :=
 Br ((f_token_IsOption_5 c141).1.2)
  (ob (f_kakugyolaw22_TokenKinds_j19f n c141 (wa .i64 n142 1)) fun y150 =>
  some (y150.1, ()))
  (ob (f_kakugyolaw22_TokenKinds_j19f n c141 n142) fun y151 =>
  some (y151.1, ()))
def f_kakugyolaw22_TokenKinds_j13f (n : Nat) (c139 : Int × Unit) (n140 : Int) : Option (Bool × Unit) :=
 Br ((f_token_IsMate_5 c139).1.2)
  (ob (f_kakugyolaw22_TokenKinds_j16f n c139 (wa .i64 n140 1)) fun y152 =>
  some (y152.1, ()))
  (ob (f_kakugyolaw22_TokenKinds_j16f n c139 n140) fun y153 =>
  some (y153.1, ()))
def f_kakugyolaw22_TokenKinds_j10f (n : Nat) (c137 : Int × Unit) (n138 : Int) : Option (Bool × Unit) :=
 Br ((f_token_IsGo_5 c137).1.2)
  (ob (f_kakugyolaw22_TokenKinds_j13f n c137 (wa .i64 n138 1)) fun y154 =>
  some (y154.1, ()))
  (ob (f_kakugyolaw22_TokenKinds_j13f n c137 n138) fun y155 =>
  some (y155.1, ()))
def f_kakugyolaw22_TokenKinds_j19g (n : Nat) (c164 : Int × Int × Unit) (n165 : Int) : Option (Bool × Unit) :=
 Br (seq (f_token_Word_6 c164).1 (⟨#[117, 115, 105]⟩ : ByteArray))
  (ob (f_kakugyolaw22_TokenKinds_j21 n n165 (f_token_Word_6 c164).1 true) fun y166 =>
  some (y166.1, ()))
  (Br (seq (f_token_Word_6 c164).1 (⟨#[105, 115, 114, 101, 97, 100, 121]⟩ : ByteArray))
   (ob (f_kakugyolaw22_TokenKinds_j21 n n165 (f_token_Word_6 c164).1 true) fun y167 =>
   some (y167.1, ()))
   (Br (seq (f_token_Word_6 c164).1 (⟨#[117, 115, 105, 110, 101, 119, 103, 97, 109, 101]⟩ : ByteArray))
    (ob (f_kakugyolaw22_TokenKinds_j21 n n165 (f_token_Word_6 c164).1 true) fun y168 =>
    some (y168.1, ()))
    (Br (seq (f_token_Word_6 c164).1 (⟨#[115, 116, 111, 112]⟩ : ByteArray))
     (ob (f_kakugyolaw22_TokenKinds_j21 n n165 (f_token_Word_6 c164).1 true) fun y169 =>
     some (y169.1, ()))
     (ob (f_kakugyolaw22_TokenKinds_j21 n n165 (f_token_Word_6 c164).1 (seq (f_token_Word_6 c164).1 (⟨#[113, 117, 105, 116]⟩ : ByteArray))) fun y170 =>
     some (y170.1, ())))))
def f_kakugyolaw22_TokenKinds_j16g (n : Nat) (c162 : Int × Int × Unit) (n163 : Int) : Option (Bool × Unit) :=
 Br ((f_token_IsOption_6 c162).1.2)
  (ob (f_kakugyolaw22_TokenKinds_j19g n c162 (wa .i64 n163 1)) fun y171 =>
  some (y171.1, ()))
  (ob (f_kakugyolaw22_TokenKinds_j19g n c162 n163) fun y172 =>
  some (y172.1, ()))
def f_kakugyolaw22_TokenKinds_j13g (n : Nat) (c160 : Int × Int × Unit) (n161 : Int) : Option (Bool × Unit) :=
 Br ((f_token_IsMate_6 c160).1.2)
  (ob (f_kakugyolaw22_TokenKinds_j16g n c160 (wa .i64 n161 1)) fun y173 =>
  some (y173.1, ()))
  (ob (f_kakugyolaw22_TokenKinds_j16g n c160 n161) fun y174 =>
  some (y174.1, ()))
def f_kakugyolaw22_TokenKinds_j10g (n : Nat) (c158 : Int × Int × Unit) (n159 : Int) : Option (Bool × Unit) :=
 Br ((f_token_IsGo_6 c158).1.2)
  (ob (f_kakugyolaw22_TokenKinds_j13g n c158 (wa .i64 n159 1)) fun y175 =>
  some (y175.1, ()))
  (ob (f_kakugyolaw22_TokenKinds_j13g n c158 n159) fun y176 =>
  some (y176.1, ()))
def f_kakugyolaw22_TokenKinds (n : Nat) (s0 : ByteArray) : Option (Bool × Unit × Unit) :=
 ob (f_kakugyolaw22_reads n) fun y2 =>
 Br (!y2.1)
  (some (false, (), ()))
  (Br (lt 2000 (len s0))
   (some (true, (), ()))
   (ob (f_token_Parse n s0) fun y16 =>
   sm y16 (fun y17 =>
    Br (f_token_IsPosition.1.2)
     (ob (f_kakugyolaw22_TokenKinds_j10 n 1) fun y37 =>
     some (y37.1, (), ()))
     (ob (f_kakugyolaw22_TokenKinds_j10 n 0) fun y38 =>
     some (y38.1, (), ())))
    (fun y18 =>
    sm y18 (fun y39 =>
     Br ((f_token_IsPosition_1 y39.1.1).1.2)
      (ob (f_kakugyolaw22_TokenKinds_j10b n y39.1.1 1) fun y60 =>
      some (y60.1, (), ()))
      (ob (f_kakugyolaw22_TokenKinds_j10b n y39.1.1 0) fun y61 =>
      some (y61.1, (), ())))
     (fun y40 =>
     sm y40 (fun y62 =>
      Br ((f_token_IsPosition_2 y62.1.1).1.2)
       (ob (f_kakugyolaw22_TokenKinds_j10c n y62.1.1 1) fun y83 =>
       some (y83.1, (), ()))
       (ob (f_kakugyolaw22_TokenKinds_j10c n y62.1.1 0) fun y84 =>
       some (y84.1, (), ())))
      (fun y63 =>
      sm y63 (fun y85 =>
       Br ((f_token_IsPosition_3 y85.1.1).1.2)
        (ob (f_kakugyolaw22_TokenKinds_j10d n y85.1.1 1) fun y106 =>
        some (y106.1, (), ()))
        (ob (f_kakugyolaw22_TokenKinds_j10d n y85.1.1 0) fun y107 =>
        some (y107.1, (), ())))
       (fun y86 =>
       sm y86 (fun y108 =>
        Br ((f_token_IsPosition_4 y108.1.1 y108.2.2).1.2)
         (ob (f_kakugyolaw22_TokenKinds_j10e n y108.1.1 1 (f_token_IsPosition_4 y108.1.1 y108.2.2).2.1) fun y133 =>
         some (y133.1, (), ()))
         (ob (f_kakugyolaw22_TokenKinds_j10e n y108.1.1 0 (f_token_IsPosition_4 y108.1.1 y108.2.2).2.1) fun y134 =>
         some (y134.1, (), ())))
        (fun y109 =>
        sm y109 (fun y135 =>
         Br ((f_token_IsPosition_5 y135.1.1).1.2)
          (ob (f_kakugyolaw22_TokenKinds_j10f n y135.1.1 1) fun y156 =>
          some (y156.1, (), ()))
          (ob (f_kakugyolaw22_TokenKinds_j10f n y135.1.1 0) fun y157 =>
          some (y157.1, (), ())))
         (fun y136 =>
         Br ((f_token_IsPosition_6 y136.1.1).1.2)
          (ob (f_kakugyolaw22_TokenKinds_j10g n y136.1.1 1) fun y177 =>
          some (y177.1, (), ()))
          (ob (f_kakugyolaw22_TokenKinds_j10g n y136.1.1 0) fun y178 =>
          some (y178.1, (), ()))))))))))
def f_kakugyolaw22_TokenKinds_c (n : Nat) : Cf := ⟨.t (.s) [], .e, [⟨.t (.b) [], .e, .e⟩], fun x => f_kakugyolaw22_TokenKinds n x.1⟩
def f_kakugyolaw22_TokenKinds_j21_c (n : Nat) : Cs := ⟨0, [], ⟨[5, 14, 15], .c (.t (.i .i64) []) (.c (.t (.s) []) (.t (.b) [])), .e⟩, [⟨1, ⟨[2], .t (.b) [], .e⟩⟩], fun v => f_kakugyolaw22_TokenKinds_j21 n v.1.1 v.1.2.1 v.1.2.2⟩
def f_kakugyolaw22_TokenKinds_j19_c (n : Nat) : Cs := ⟨0, [], ⟨[3, 5], .c (.nf) (.t (.i .i64) []), .e⟩, [⟨1, ⟨[2], .t (.b) [], .e⟩⟩], fun v => f_kakugyolaw22_TokenKinds_j19 n v.1.2⟩
def f_kakugyolaw22_TokenKinds_j16_c (n : Nat) : Cs := ⟨0, [], ⟨[3, 5], .c (.nf) (.t (.i .i64) []), .e⟩, [⟨1, ⟨[2], .t (.b) [], .e⟩⟩], fun v => f_kakugyolaw22_TokenKinds_j16 n v.1.2⟩
def f_kakugyolaw22_TokenKinds_j13_c (n : Nat) : Cs := ⟨0, [], ⟨[3, 5], .c (.nf) (.t (.i .i64) []), .e⟩, [⟨1, ⟨[2], .t (.b) [], .e⟩⟩], fun v => f_kakugyolaw22_TokenKinds_j13 n v.1.2⟩
def f_kakugyolaw22_TokenKinds_j10_c (n : Nat) : Cs := ⟨0, [], ⟨[3, 5], .c (.nf) (.t (.i .i64) []), .e⟩, [⟨1, ⟨[2], .t (.b) [], .e⟩⟩], fun v => f_kakugyolaw22_TokenKinds_j10 n v.1.2⟩
def f_kakugyolaw22_TokenKinds_j19b_c (n : Nat) : Cs := ⟨0, [], ⟨[3, 5], .c (.fc 74 (.t (.p (.s) (.u)) [])) (.t (.i .i64) []), .e⟩, [⟨1, ⟨[2], .t (.b) [], .e⟩⟩], fun v => f_kakugyolaw22_TokenKinds_j19b n v.1.1 v.1.2⟩
def f_kakugyolaw22_TokenKinds_j16b_c (n : Nat) : Cs := ⟨0, [], ⟨[3, 5], .c (.fc 74 (.t (.p (.s) (.u)) [])) (.t (.i .i64) []), .e⟩, [⟨1, ⟨[2], .t (.b) [], .e⟩⟩], fun v => f_kakugyolaw22_TokenKinds_j16b n v.1.1 v.1.2⟩
def f_kakugyolaw22_TokenKinds_j13b_c (n : Nat) : Cs := ⟨0, [], ⟨[3, 5], .c (.fc 74 (.t (.p (.s) (.u)) [])) (.t (.i .i64) []), .e⟩, [⟨1, ⟨[2], .t (.b) [], .e⟩⟩], fun v => f_kakugyolaw22_TokenKinds_j13b n v.1.1 v.1.2⟩
def f_kakugyolaw22_TokenKinds_j10b_c (n : Nat) : Cs := ⟨0, [], ⟨[3, 5], .c (.fc 74 (.t (.p (.s) (.u)) [])) (.t (.i .i64) []), .e⟩, [⟨1, ⟨[2], .t (.b) [], .e⟩⟩], fun v => f_kakugyolaw22_TokenKinds_j10b n v.1.1 v.1.2⟩
def f_kakugyolaw22_TokenKinds_j19c_c (n : Nat) : Cs := ⟨0, [], ⟨[3, 5], .c (.fc 62 (.t (.p (.s) (.p (.s) (.u))) [])) (.t (.i .i64) []), .e⟩, [⟨1, ⟨[2], .t (.b) [], .e⟩⟩], fun v => f_kakugyolaw22_TokenKinds_j19c n v.1.1 v.1.2⟩
def f_kakugyolaw22_TokenKinds_j16c_c (n : Nat) : Cs := ⟨0, [], ⟨[3, 5], .c (.fc 62 (.t (.p (.s) (.p (.s) (.u))) [])) (.t (.i .i64) []), .e⟩, [⟨1, ⟨[2], .t (.b) [], .e⟩⟩], fun v => f_kakugyolaw22_TokenKinds_j16c n v.1.1 v.1.2⟩
def f_kakugyolaw22_TokenKinds_j13c_c (n : Nat) : Cs := ⟨0, [], ⟨[3, 5], .c (.fc 62 (.t (.p (.s) (.p (.s) (.u))) [])) (.t (.i .i64) []), .e⟩, [⟨1, ⟨[2], .t (.b) [], .e⟩⟩], fun v => f_kakugyolaw22_TokenKinds_j13c n v.1.1 v.1.2⟩
def f_kakugyolaw22_TokenKinds_j10c_c (n : Nat) : Cs := ⟨0, [], ⟨[3, 5], .c (.fc 62 (.t (.p (.s) (.p (.s) (.u))) [])) (.t (.i .i64) []), .e⟩, [⟨1, ⟨[2], .t (.b) [], .e⟩⟩], fun v => f_kakugyolaw22_TokenKinds_j10c n v.1.1 v.1.2⟩
def f_kakugyolaw22_TokenKinds_j19d_c (n : Nat) : Cs := ⟨0, [], ⟨[3, 5], .c (.fc 54 (.t (.p (.a .i8 98) (.p (.r .s) (.u))) [.ns])) (.t (.i .i64) []), .e⟩, [⟨1, ⟨[2], .t (.b) [], .e⟩⟩], fun v => f_kakugyolaw22_TokenKinds_j19d n v.1.1 v.1.2⟩
def f_kakugyolaw22_TokenKinds_j16d_c (n : Nat) : Cs := ⟨0, [], ⟨[3, 5], .c (.fc 54 (.t (.p (.a .i8 98) (.p (.r .s) (.u))) [.ns])) (.t (.i .i64) []), .e⟩, [⟨1, ⟨[2], .t (.b) [], .e⟩⟩], fun v => f_kakugyolaw22_TokenKinds_j16d n v.1.1 v.1.2⟩
def f_kakugyolaw22_TokenKinds_j13d_c (n : Nat) : Cs := ⟨0, [], ⟨[3, 5], .c (.fc 54 (.t (.p (.a .i8 98) (.p (.r .s) (.u))) [.ns])) (.t (.i .i64) []), .e⟩, [⟨1, ⟨[2], .t (.b) [], .e⟩⟩], fun v => f_kakugyolaw22_TokenKinds_j13d n v.1.1 v.1.2⟩
def f_kakugyolaw22_TokenKinds_j10d_c (n : Nat) : Cs := ⟨0, [], ⟨[3, 5], .c (.fc 54 (.t (.p (.a .i8 98) (.p (.r .s) (.u))) [.ns])) (.t (.i .i64) []), .e⟩, [⟨1, ⟨[2], .t (.b) [], .e⟩⟩], fun v => f_kakugyolaw22_TokenKinds_j10d n v.1.1 v.1.2⟩
def f_kakugyolaw22_TokenKinds_j19e_c (n : Nat) : Cs := ⟨0, [], ⟨[3, 5], .c (.fc 54 (.t (.p (.a .i8 98) (.p (.r .s) (.u))) [.w 0])) (.t (.i .i64) []), .w 82 (.p (.i .i64) (.p (.i .i64) (.p (.i .i64) (.p (.b) (.u))))) true⟩, [⟨1, ⟨[2], .t (.b) [], .e⟩⟩], fun v => f_kakugyolaw22_TokenKinds_j19e n v.1.1 v.1.2 v.2⟩
def f_kakugyolaw22_TokenKinds_j16e_c (n : Nat) : Cs := ⟨0, [], ⟨[3, 5], .c (.fc 54 (.t (.p (.a .i8 98) (.p (.r .s) (.u))) [.w 0])) (.t (.i .i64) []), .w 82 (.p (.i .i64) (.p (.i .i64) (.p (.i .i64) (.p (.b) (.u))))) true⟩, [⟨1, ⟨[2], .t (.b) [], .e⟩⟩], fun v => f_kakugyolaw22_TokenKinds_j16e n v.1.1 v.1.2 v.2⟩
def f_kakugyolaw22_TokenKinds_j13e_c (n : Nat) : Cs := ⟨0, [], ⟨[3, 5], .c (.fc 54 (.t (.p (.a .i8 98) (.p (.r .s) (.u))) [.w 0])) (.t (.i .i64) []), .w 82 (.p (.i .i64) (.p (.i .i64) (.p (.i .i64) (.p (.b) (.u))))) true⟩, [⟨1, ⟨[2], .t (.b) [], .e⟩⟩], fun v => f_kakugyolaw22_TokenKinds_j13e n v.1.1 v.1.2 v.2⟩
def f_kakugyolaw22_TokenKinds_j10e_c (n : Nat) : Cs := ⟨0, [], ⟨[3, 5], .c (.fc 54 (.t (.p (.a .i8 98) (.p (.r .s) (.u))) [.w 0])) (.t (.i .i64) []), .w 82 (.p (.i .i64) (.p (.i .i64) (.p (.i .i64) (.p (.b) (.u))))) true⟩, [⟨1, ⟨[2], .t (.b) [], .e⟩⟩], fun v => f_kakugyolaw22_TokenKinds_j10e n v.1.1 v.1.2 v.2⟩
def f_kakugyolaw22_TokenKinds_j19f_c (n : Nat) : Cs := ⟨0, [], ⟨[3, 5], .c (.fc 58 (.t (.p (.i .i64) (.u)) [])) (.t (.i .i64) []), .e⟩, [⟨1, ⟨[2], .t (.b) [], .e⟩⟩], fun v => f_kakugyolaw22_TokenKinds_j19f n v.1.1 v.1.2⟩
def f_kakugyolaw22_TokenKinds_j16f_c (n : Nat) : Cs := ⟨0, [], ⟨[3, 5], .c (.fc 58 (.t (.p (.i .i64) (.u)) [])) (.t (.i .i64) []), .e⟩, [⟨1, ⟨[2], .t (.b) [], .e⟩⟩], fun v => f_kakugyolaw22_TokenKinds_j16f n v.1.1 v.1.2⟩
def f_kakugyolaw22_TokenKinds_j13f_c (n : Nat) : Cs := ⟨0, [], ⟨[3, 5], .c (.fc 58 (.t (.p (.i .i64) (.u)) [])) (.t (.i .i64) []), .e⟩, [⟨1, ⟨[2], .t (.b) [], .e⟩⟩], fun v => f_kakugyolaw22_TokenKinds_j13f n v.1.1 v.1.2⟩
def f_kakugyolaw22_TokenKinds_j10f_c (n : Nat) : Cs := ⟨0, [], ⟨[3, 5], .c (.fc 58 (.t (.p (.i .i64) (.u)) [])) (.t (.i .i64) []), .e⟩, [⟨1, ⟨[2], .t (.b) [], .e⟩⟩], fun v => f_kakugyolaw22_TokenKinds_j10f n v.1.1 v.1.2⟩
def f_kakugyolaw22_TokenKinds_j19g_c (n : Nat) : Cs := ⟨0, [], ⟨[3, 5], .c (.fc 32 (.t (.p (.i .i64) (.p (.i .i64) (.u))) [])) (.t (.i .i64) []), .e⟩, [⟨1, ⟨[2], .t (.b) [], .e⟩⟩], fun v => f_kakugyolaw22_TokenKinds_j19g n v.1.1 v.1.2⟩
def f_kakugyolaw22_TokenKinds_j16g_c (n : Nat) : Cs := ⟨0, [], ⟨[3, 5], .c (.fc 32 (.t (.p (.i .i64) (.p (.i .i64) (.u))) [])) (.t (.i .i64) []), .e⟩, [⟨1, ⟨[2], .t (.b) [], .e⟩⟩], fun v => f_kakugyolaw22_TokenKinds_j16g n v.1.1 v.1.2⟩
def f_kakugyolaw22_TokenKinds_j13g_c (n : Nat) : Cs := ⟨0, [], ⟨[3, 5], .c (.fc 32 (.t (.p (.i .i64) (.p (.i .i64) (.u))) [])) (.t (.i .i64) []), .e⟩, [⟨1, ⟨[2], .t (.b) [], .e⟩⟩], fun v => f_kakugyolaw22_TokenKinds_j13g n v.1.1 v.1.2⟩
def f_kakugyolaw22_TokenKinds_j10g_c (n : Nat) : Cs := ⟨0, [], ⟨[3, 5], .c (.fc 32 (.t (.p (.i .i64) (.p (.i .i64) (.u))) [])) (.t (.i .i64) []), .e⟩, [⟨1, ⟨[2], .t (.b) [], .e⟩⟩], fun v => f_kakugyolaw22_TokenKinds_j10g n v.1.1 v.1.2⟩
def f_kakugyolaw22_TokenKinds_e (n : Nat) : Env := en [(8, f_kakugyolaw22_reads_c n), (11, f_token_Parse_c n), (17, f_token_IsPosition_c n), (12, f_token_IsGo_c n), (18, f_token_IsMate_c n), (19, f_token_IsOption_c n), (16, f_token_Word_1_c n), (17, f_token_IsPosition_1_c n), (12, f_token_IsGo_1_c n), (18, f_token_IsMate_1_c n), (19, f_token_IsOption_1_c n), (16, f_token_Word_2_c n), (17, f_token_IsPosition_2_c n), (12, f_token_IsGo_2_c n), (18, f_token_IsMate_2_c n), (19, f_token_IsOption_2_c n), (16, f_token_Word_3_c n), (17, f_token_IsPosition_3_c n), (12, f_token_IsGo_3_c n), (18, f_token_IsMate_3_c n), (19, f_token_IsOption_3_c n), (16, f_token_Word_4_c n), (17, f_token_IsPosition_4_c n), (12, f_token_IsGo_4_c n), (18, f_token_IsMate_4_c n), (19, f_token_IsOption_4_c n), (16, f_token_Word_c n), (17, f_token_IsPosition_5_c n), (12, f_token_IsGo_5_c n), (18, f_token_IsMate_5_c n), (19, f_token_IsOption_5_c n), (16, f_token_Word_5_c n), (17, f_token_IsPosition_6_c n), (12, f_token_IsGo_6_c n), (18, f_token_IsMate_6_c n), (19, f_token_IsOption_6_c n), (16, f_token_Word_6_c n)] [] [(21, f_kakugyolaw22_TokenKinds_j21_c n), (19, f_kakugyolaw22_TokenKinds_j19_c n), (16, f_kakugyolaw22_TokenKinds_j16_c n), (13, f_kakugyolaw22_TokenKinds_j13_c n), (10, f_kakugyolaw22_TokenKinds_j10_c n), (19, f_kakugyolaw22_TokenKinds_j19b_c n), (16, f_kakugyolaw22_TokenKinds_j16b_c n), (13, f_kakugyolaw22_TokenKinds_j13b_c n), (10, f_kakugyolaw22_TokenKinds_j10b_c n), (19, f_kakugyolaw22_TokenKinds_j19c_c n), (16, f_kakugyolaw22_TokenKinds_j16c_c n), (13, f_kakugyolaw22_TokenKinds_j13c_c n), (10, f_kakugyolaw22_TokenKinds_j10c_c n), (19, f_kakugyolaw22_TokenKinds_j19d_c n), (16, f_kakugyolaw22_TokenKinds_j16d_c n), (13, f_kakugyolaw22_TokenKinds_j13d_c n), (10, f_kakugyolaw22_TokenKinds_j10d_c n), (19, f_kakugyolaw22_TokenKinds_j19e_c n), (16, f_kakugyolaw22_TokenKinds_j16e_c n), (13, f_kakugyolaw22_TokenKinds_j13e_c n), (10, f_kakugyolaw22_TokenKinds_j10e_c n), (19, f_kakugyolaw22_TokenKinds_j19f_c n), (16, f_kakugyolaw22_TokenKinds_j16f_c n), (13, f_kakugyolaw22_TokenKinds_j13f_c n), (10, f_kakugyolaw22_TokenKinds_j10f_c n), (19, f_kakugyolaw22_TokenKinds_j19g_c n), (16, f_kakugyolaw22_TokenKinds_j16g_c n), (13, f_kakugyolaw22_TokenKinds_j13g_c n), (10, f_kakugyolaw22_TokenKinds_j10g_c n)] []
theorem f_kakugyolaw22_TokenKinds_a (X : Cx Tryz.prog K Gl) (n : Nat) : FAll Tryz.prog K Gl [(8, f_kakugyolaw22_reads_c n), (11, f_token_Parse_c n), (17, f_token_IsPosition_c n), (12, f_token_IsGo_c n), (18, f_token_IsMate_c n), (19, f_token_IsOption_c n), (16, f_token_Word_1_c n), (17, f_token_IsPosition_1_c n), (12, f_token_IsGo_1_c n), (18, f_token_IsMate_1_c n), (19, f_token_IsOption_1_c n), (16, f_token_Word_2_c n), (17, f_token_IsPosition_2_c n), (12, f_token_IsGo_2_c n), (18, f_token_IsMate_2_c n), (19, f_token_IsOption_2_c n), (16, f_token_Word_3_c n), (17, f_token_IsPosition_3_c n), (12, f_token_IsGo_3_c n), (18, f_token_IsMate_3_c n), (19, f_token_IsOption_3_c n), (16, f_token_Word_4_c n), (17, f_token_IsPosition_4_c n), (12, f_token_IsGo_4_c n), (18, f_token_IsMate_4_c n), (19, f_token_IsOption_4_c n), (16, f_token_Word_c n), (17, f_token_IsPosition_5_c n), (12, f_token_IsGo_5_c n), (18, f_token_IsMate_5_c n), (19, f_token_IsOption_5_c n), (16, f_token_Word_5_c n), (17, f_token_IsPosition_6_c n), (12, f_token_IsGo_6_c n), (18, f_token_IsMate_6_c n), (19, f_token_IsOption_6_c n), (16, f_token_Word_6_c n)] := (fcons (f_kakugyolaw22_reads_ok X n) (fcons (f_token_Parse_ok X n) (fcons (f_token_IsPosition_ok X n) (fcons (f_token_IsGo_ok X n) (fcons (f_token_IsMate_ok X n) (fcons (f_token_IsOption_ok X n) (fcons (f_token_Word_1_ok X n) (fcons (f_token_IsPosition_1_ok X n) (fcons (f_token_IsGo_1_ok X n) (fcons (f_token_IsMate_1_ok X n) (fcons (f_token_IsOption_1_ok X n) (fcons (f_token_Word_2_ok X n) (fcons (f_token_IsPosition_2_ok X n) (fcons (f_token_IsGo_2_ok X n) (fcons (f_token_IsMate_2_ok X n) (fcons (f_token_IsOption_2_ok X n) (fcons (f_token_Word_3_ok X n) (fcons (f_token_IsPosition_3_ok X n) (fcons (f_token_IsGo_3_ok X n) (fcons (f_token_IsMate_3_ok X n) (fcons (f_token_IsOption_3_ok X n) (fcons (f_token_Word_4_ok X n) (fcons (f_token_IsPosition_4_ok X n) (fcons (f_token_IsGo_4_ok X n) (fcons (f_token_IsMate_4_ok X n) (fcons (f_token_IsOption_4_ok X n) (fcons (f_token_Word_ok X n) (fcons (f_token_IsPosition_5_ok X n) (fcons (f_token_IsGo_5_ok X n) (fcons (f_token_IsMate_5_ok X n) (fcons (f_token_IsOption_5_ok X n) (fcons (f_token_Word_5_ok X n) (fcons (f_token_IsPosition_6_ok X n) (fcons (f_token_IsGo_6_ok X n) (fcons (f_token_IsMate_6_ok X n) (fcons (f_token_IsOption_6_ok X n) (fcons (f_token_Word_6_ok X n) fnil)))))))))))))))))))))))))))))))))))))
theorem f_kakugyolaw22_TokenKinds_j21_k (n : Nat) (v : (f_kakugyolaw22_TokenKinds_j21_c n).s.X) : run (f_kakugyolaw22_TokenKinds_e n) (jbody 21 (bodyOf Tryz.f6)) ((f_kakugyolaw22_TokenKinds_j21_c n).s.st Tryz.f6.ntmps v) (decS 0 (f_kakugyolaw22_TokenKinds_j21_c n).x) = (f_kakugyolaw22_TokenKinds_j21_c n).f v := by kernel_rfl
theorem f_kakugyolaw22_TokenKinds_j21_o (X : Cx Tryz.prog K Gl) (n : Nat) : SO Tryz.prog K Gl Tryz.f6.ntmps 0 (jbody 21 (bodyOf Tryz.f6)) (f_kakugyolaw22_TokenKinds_j21_c n) := join_ok (E := f_kakugyolaw22_TokenKinds_e n) (os := []) X (tok _ _ _ _) rfl (f_kakugyolaw22_TokenKinds_a X n) snil (by kernel_rfl) rfl (f_kakugyolaw22_TokenKinds_j21_k n)
theorem f_kakugyolaw22_TokenKinds_j19_k (n : Nat) (v : (f_kakugyolaw22_TokenKinds_j19_c n).s.X) : run (f_kakugyolaw22_TokenKinds_e n) (jbody 19 (bodyOf Tryz.f6)) ((f_kakugyolaw22_TokenKinds_j19_c n).s.st Tryz.f6.ntmps v) (decS 0 (f_kakugyolaw22_TokenKinds_j19_c n).x) = (f_kakugyolaw22_TokenKinds_j19_c n).f v := by kernel_rfl
theorem f_kakugyolaw22_TokenKinds_j19_o (X : Cx Tryz.prog K Gl) (n : Nat) : SO Tryz.prog K Gl Tryz.f6.ntmps 0 (jbody 19 (bodyOf Tryz.f6)) (f_kakugyolaw22_TokenKinds_j19_c n) := join_ok (E := f_kakugyolaw22_TokenKinds_e n) (os := [(jbody 21 (bodyOf Tryz.f6), f_kakugyolaw22_TokenKinds_j21_c n)]) X (tok _ _ _ _) rfl (f_kakugyolaw22_TokenKinds_a X n) (scons (f_kakugyolaw22_TokenKinds_j21_o X n) snil) (by kernel_rfl) rfl (f_kakugyolaw22_TokenKinds_j19_k n)
theorem f_kakugyolaw22_TokenKinds_j19b_k (n : Nat) (v : (f_kakugyolaw22_TokenKinds_j19b_c n).s.X) : run (f_kakugyolaw22_TokenKinds_e n) (jbody 19 (bodyOf Tryz.f6)) ((f_kakugyolaw22_TokenKinds_j19b_c n).s.st Tryz.f6.ntmps v) (decS 0 (f_kakugyolaw22_TokenKinds_j19b_c n).x) = (f_kakugyolaw22_TokenKinds_j19b_c n).f v := by kernel_rfl
theorem f_kakugyolaw22_TokenKinds_j19b_o (X : Cx Tryz.prog K Gl) (n : Nat) : SO Tryz.prog K Gl Tryz.f6.ntmps 0 (jbody 19 (bodyOf Tryz.f6)) (f_kakugyolaw22_TokenKinds_j19b_c n) := join_ok (E := f_kakugyolaw22_TokenKinds_e n) (os := [(jbody 21 (bodyOf Tryz.f6), f_kakugyolaw22_TokenKinds_j21_c n)]) X (tok _ _ _ _) rfl (f_kakugyolaw22_TokenKinds_a X n) (scons (f_kakugyolaw22_TokenKinds_j21_o X n) snil) (by kernel_rfl) rfl (f_kakugyolaw22_TokenKinds_j19b_k n)
theorem f_kakugyolaw22_TokenKinds_j19c_k (n : Nat) (v : (f_kakugyolaw22_TokenKinds_j19c_c n).s.X) : run (f_kakugyolaw22_TokenKinds_e n) (jbody 19 (bodyOf Tryz.f6)) ((f_kakugyolaw22_TokenKinds_j19c_c n).s.st Tryz.f6.ntmps v) (decS 0 (f_kakugyolaw22_TokenKinds_j19c_c n).x) = (f_kakugyolaw22_TokenKinds_j19c_c n).f v := by kernel_rfl
theorem f_kakugyolaw22_TokenKinds_j19c_o (X : Cx Tryz.prog K Gl) (n : Nat) : SO Tryz.prog K Gl Tryz.f6.ntmps 0 (jbody 19 (bodyOf Tryz.f6)) (f_kakugyolaw22_TokenKinds_j19c_c n) := join_ok (E := f_kakugyolaw22_TokenKinds_e n) (os := [(jbody 21 (bodyOf Tryz.f6), f_kakugyolaw22_TokenKinds_j21_c n)]) X (tok _ _ _ _) rfl (f_kakugyolaw22_TokenKinds_a X n) (scons (f_kakugyolaw22_TokenKinds_j21_o X n) snil) (by kernel_rfl) rfl (f_kakugyolaw22_TokenKinds_j19c_k n)
theorem f_kakugyolaw22_TokenKinds_j19d_k (n : Nat) (v : (f_kakugyolaw22_TokenKinds_j19d_c n).s.X) : run (f_kakugyolaw22_TokenKinds_e n) (jbody 19 (bodyOf Tryz.f6)) ((f_kakugyolaw22_TokenKinds_j19d_c n).s.st Tryz.f6.ntmps v) (decS 0 (f_kakugyolaw22_TokenKinds_j19d_c n).x) = (f_kakugyolaw22_TokenKinds_j19d_c n).f v := by kernel_rfl
theorem f_kakugyolaw22_TokenKinds_j19d_o (X : Cx Tryz.prog K Gl) (n : Nat) : SO Tryz.prog K Gl Tryz.f6.ntmps 0 (jbody 19 (bodyOf Tryz.f6)) (f_kakugyolaw22_TokenKinds_j19d_c n) := join_ok (E := f_kakugyolaw22_TokenKinds_e n) (os := [(jbody 21 (bodyOf Tryz.f6), f_kakugyolaw22_TokenKinds_j21_c n)]) X (tok _ _ _ _) rfl (f_kakugyolaw22_TokenKinds_a X n) (scons (f_kakugyolaw22_TokenKinds_j21_o X n) snil) (by kernel_rfl) rfl (f_kakugyolaw22_TokenKinds_j19d_k n)
theorem f_kakugyolaw22_TokenKinds_j19e_k (n : Nat) (v : (f_kakugyolaw22_TokenKinds_j19e_c n).s.X) : run (f_kakugyolaw22_TokenKinds_e n) (jbody 19 (bodyOf Tryz.f6)) ((f_kakugyolaw22_TokenKinds_j19e_c n).s.st Tryz.f6.ntmps v) (decS 0 (f_kakugyolaw22_TokenKinds_j19e_c n).x) = (f_kakugyolaw22_TokenKinds_j19e_c n).f v := by kernel_rfl
theorem f_kakugyolaw22_TokenKinds_j19e_o (X : Cx Tryz.prog K Gl) (n : Nat) : SO Tryz.prog K Gl Tryz.f6.ntmps 0 (jbody 19 (bodyOf Tryz.f6)) (f_kakugyolaw22_TokenKinds_j19e_c n) := join_ok (E := f_kakugyolaw22_TokenKinds_e n) (os := [(jbody 21 (bodyOf Tryz.f6), f_kakugyolaw22_TokenKinds_j21_c n)]) X (tok _ _ _ _) rfl (f_kakugyolaw22_TokenKinds_a X n) (scons (f_kakugyolaw22_TokenKinds_j21_o X n) snil) (by kernel_rfl) rfl (f_kakugyolaw22_TokenKinds_j19e_k n)
theorem f_kakugyolaw22_TokenKinds_j19f_k (n : Nat) (v : (f_kakugyolaw22_TokenKinds_j19f_c n).s.X) : run (f_kakugyolaw22_TokenKinds_e n) (jbody 19 (bodyOf Tryz.f6)) ((f_kakugyolaw22_TokenKinds_j19f_c n).s.st Tryz.f6.ntmps v) (decS 0 (f_kakugyolaw22_TokenKinds_j19f_c n).x) = (f_kakugyolaw22_TokenKinds_j19f_c n).f v := by kernel_rfl
theorem f_kakugyolaw22_TokenKinds_j19f_o (X : Cx Tryz.prog K Gl) (n : Nat) : SO Tryz.prog K Gl Tryz.f6.ntmps 0 (jbody 19 (bodyOf Tryz.f6)) (f_kakugyolaw22_TokenKinds_j19f_c n) := join_ok (E := f_kakugyolaw22_TokenKinds_e n) (os := [(jbody 21 (bodyOf Tryz.f6), f_kakugyolaw22_TokenKinds_j21_c n)]) X (tok _ _ _ _) rfl (f_kakugyolaw22_TokenKinds_a X n) (scons (f_kakugyolaw22_TokenKinds_j21_o X n) snil) (by kernel_rfl) rfl (f_kakugyolaw22_TokenKinds_j19f_k n)
theorem f_kakugyolaw22_TokenKinds_j19g_k (n : Nat) (v : (f_kakugyolaw22_TokenKinds_j19g_c n).s.X) : run (f_kakugyolaw22_TokenKinds_e n) (jbody 19 (bodyOf Tryz.f6)) ((f_kakugyolaw22_TokenKinds_j19g_c n).s.st Tryz.f6.ntmps v) (decS 0 (f_kakugyolaw22_TokenKinds_j19g_c n).x) = (f_kakugyolaw22_TokenKinds_j19g_c n).f v := by kernel_rfl
theorem f_kakugyolaw22_TokenKinds_j19g_o (X : Cx Tryz.prog K Gl) (n : Nat) : SO Tryz.prog K Gl Tryz.f6.ntmps 0 (jbody 19 (bodyOf Tryz.f6)) (f_kakugyolaw22_TokenKinds_j19g_c n) := join_ok (E := f_kakugyolaw22_TokenKinds_e n) (os := [(jbody 21 (bodyOf Tryz.f6), f_kakugyolaw22_TokenKinds_j21_c n)]) X (tok _ _ _ _) rfl (f_kakugyolaw22_TokenKinds_a X n) (scons (f_kakugyolaw22_TokenKinds_j21_o X n) snil) (by kernel_rfl) rfl (f_kakugyolaw22_TokenKinds_j19g_k n)
theorem f_kakugyolaw22_TokenKinds_j16_k (n : Nat) (v : (f_kakugyolaw22_TokenKinds_j16_c n).s.X) : run (f_kakugyolaw22_TokenKinds_e n) (jbody 16 (bodyOf Tryz.f6)) ((f_kakugyolaw22_TokenKinds_j16_c n).s.st Tryz.f6.ntmps v) (decS 0 (f_kakugyolaw22_TokenKinds_j16_c n).x) = (f_kakugyolaw22_TokenKinds_j16_c n).f v := by kernel_rfl
theorem f_kakugyolaw22_TokenKinds_j16_o (X : Cx Tryz.prog K Gl) (n : Nat) : SO Tryz.prog K Gl Tryz.f6.ntmps 0 (jbody 16 (bodyOf Tryz.f6)) (f_kakugyolaw22_TokenKinds_j16_c n) := join_ok (E := f_kakugyolaw22_TokenKinds_e n) (os := [(jbody 19 (bodyOf Tryz.f6), f_kakugyolaw22_TokenKinds_j19_c n), (jbody 19 (bodyOf Tryz.f6), f_kakugyolaw22_TokenKinds_j19b_c n), (jbody 19 (bodyOf Tryz.f6), f_kakugyolaw22_TokenKinds_j19c_c n), (jbody 19 (bodyOf Tryz.f6), f_kakugyolaw22_TokenKinds_j19d_c n), (jbody 19 (bodyOf Tryz.f6), f_kakugyolaw22_TokenKinds_j19e_c n), (jbody 19 (bodyOf Tryz.f6), f_kakugyolaw22_TokenKinds_j19f_c n), (jbody 19 (bodyOf Tryz.f6), f_kakugyolaw22_TokenKinds_j19g_c n)]) X (tok _ _ _ _) rfl (f_kakugyolaw22_TokenKinds_a X n) (scons (f_kakugyolaw22_TokenKinds_j19_o X n) (scons (f_kakugyolaw22_TokenKinds_j19b_o X n) (scons (f_kakugyolaw22_TokenKinds_j19c_o X n) (scons (f_kakugyolaw22_TokenKinds_j19d_o X n) (scons (f_kakugyolaw22_TokenKinds_j19e_o X n) (scons (f_kakugyolaw22_TokenKinds_j19f_o X n) (scons (f_kakugyolaw22_TokenKinds_j19g_o X n) snil))))))) (by kernel_rfl) rfl (f_kakugyolaw22_TokenKinds_j16_k n)
theorem f_kakugyolaw22_TokenKinds_j16b_k (n : Nat) (v : (f_kakugyolaw22_TokenKinds_j16b_c n).s.X) : run (f_kakugyolaw22_TokenKinds_e n) (jbody 16 (bodyOf Tryz.f6)) ((f_kakugyolaw22_TokenKinds_j16b_c n).s.st Tryz.f6.ntmps v) (decS 0 (f_kakugyolaw22_TokenKinds_j16b_c n).x) = (f_kakugyolaw22_TokenKinds_j16b_c n).f v := by kernel_rfl
theorem f_kakugyolaw22_TokenKinds_j16b_o (X : Cx Tryz.prog K Gl) (n : Nat) : SO Tryz.prog K Gl Tryz.f6.ntmps 0 (jbody 16 (bodyOf Tryz.f6)) (f_kakugyolaw22_TokenKinds_j16b_c n) := join_ok (E := f_kakugyolaw22_TokenKinds_e n) (os := [(jbody 19 (bodyOf Tryz.f6), f_kakugyolaw22_TokenKinds_j19_c n), (jbody 19 (bodyOf Tryz.f6), f_kakugyolaw22_TokenKinds_j19b_c n), (jbody 19 (bodyOf Tryz.f6), f_kakugyolaw22_TokenKinds_j19c_c n), (jbody 19 (bodyOf Tryz.f6), f_kakugyolaw22_TokenKinds_j19d_c n), (jbody 19 (bodyOf Tryz.f6), f_kakugyolaw22_TokenKinds_j19e_c n), (jbody 19 (bodyOf Tryz.f6), f_kakugyolaw22_TokenKinds_j19f_c n), (jbody 19 (bodyOf Tryz.f6), f_kakugyolaw22_TokenKinds_j19g_c n)]) X (tok _ _ _ _) rfl (f_kakugyolaw22_TokenKinds_a X n) (scons (f_kakugyolaw22_TokenKinds_j19_o X n) (scons (f_kakugyolaw22_TokenKinds_j19b_o X n) (scons (f_kakugyolaw22_TokenKinds_j19c_o X n) (scons (f_kakugyolaw22_TokenKinds_j19d_o X n) (scons (f_kakugyolaw22_TokenKinds_j19e_o X n) (scons (f_kakugyolaw22_TokenKinds_j19f_o X n) (scons (f_kakugyolaw22_TokenKinds_j19g_o X n) snil))))))) (by kernel_rfl) rfl (f_kakugyolaw22_TokenKinds_j16b_k n)
theorem f_kakugyolaw22_TokenKinds_j16c_k (n : Nat) (v : (f_kakugyolaw22_TokenKinds_j16c_c n).s.X) : run (f_kakugyolaw22_TokenKinds_e n) (jbody 16 (bodyOf Tryz.f6)) ((f_kakugyolaw22_TokenKinds_j16c_c n).s.st Tryz.f6.ntmps v) (decS 0 (f_kakugyolaw22_TokenKinds_j16c_c n).x) = (f_kakugyolaw22_TokenKinds_j16c_c n).f v := by kernel_rfl
theorem f_kakugyolaw22_TokenKinds_j16c_o (X : Cx Tryz.prog K Gl) (n : Nat) : SO Tryz.prog K Gl Tryz.f6.ntmps 0 (jbody 16 (bodyOf Tryz.f6)) (f_kakugyolaw22_TokenKinds_j16c_c n) := join_ok (E := f_kakugyolaw22_TokenKinds_e n) (os := [(jbody 19 (bodyOf Tryz.f6), f_kakugyolaw22_TokenKinds_j19_c n), (jbody 19 (bodyOf Tryz.f6), f_kakugyolaw22_TokenKinds_j19b_c n), (jbody 19 (bodyOf Tryz.f6), f_kakugyolaw22_TokenKinds_j19c_c n), (jbody 19 (bodyOf Tryz.f6), f_kakugyolaw22_TokenKinds_j19d_c n), (jbody 19 (bodyOf Tryz.f6), f_kakugyolaw22_TokenKinds_j19e_c n), (jbody 19 (bodyOf Tryz.f6), f_kakugyolaw22_TokenKinds_j19f_c n), (jbody 19 (bodyOf Tryz.f6), f_kakugyolaw22_TokenKinds_j19g_c n)]) X (tok _ _ _ _) rfl (f_kakugyolaw22_TokenKinds_a X n) (scons (f_kakugyolaw22_TokenKinds_j19_o X n) (scons (f_kakugyolaw22_TokenKinds_j19b_o X n) (scons (f_kakugyolaw22_TokenKinds_j19c_o X n) (scons (f_kakugyolaw22_TokenKinds_j19d_o X n) (scons (f_kakugyolaw22_TokenKinds_j19e_o X n) (scons (f_kakugyolaw22_TokenKinds_j19f_o X n) (scons (f_kakugyolaw22_TokenKinds_j19g_o X n) snil))))))) (by kernel_rfl) rfl (f_kakugyolaw22_TokenKinds_j16c_k n)
theorem f_kakugyolaw22_TokenKinds_j16d_k (n : Nat) (v : (f_kakugyolaw22_TokenKinds_j16d_c n).s.X) : run (f_kakugyolaw22_TokenKinds_e n) (jbody 16 (bodyOf Tryz.f6)) ((f_kakugyolaw22_TokenKinds_j16d_c n).s.st Tryz.f6.ntmps v) (decS 0 (f_kakugyolaw22_TokenKinds_j16d_c n).x) = (f_kakugyolaw22_TokenKinds_j16d_c n).f v := by kernel_rfl
theorem f_kakugyolaw22_TokenKinds_j16d_o (X : Cx Tryz.prog K Gl) (n : Nat) : SO Tryz.prog K Gl Tryz.f6.ntmps 0 (jbody 16 (bodyOf Tryz.f6)) (f_kakugyolaw22_TokenKinds_j16d_c n) := join_ok (E := f_kakugyolaw22_TokenKinds_e n) (os := [(jbody 19 (bodyOf Tryz.f6), f_kakugyolaw22_TokenKinds_j19_c n), (jbody 19 (bodyOf Tryz.f6), f_kakugyolaw22_TokenKinds_j19b_c n), (jbody 19 (bodyOf Tryz.f6), f_kakugyolaw22_TokenKinds_j19c_c n), (jbody 19 (bodyOf Tryz.f6), f_kakugyolaw22_TokenKinds_j19d_c n), (jbody 19 (bodyOf Tryz.f6), f_kakugyolaw22_TokenKinds_j19e_c n), (jbody 19 (bodyOf Tryz.f6), f_kakugyolaw22_TokenKinds_j19f_c n), (jbody 19 (bodyOf Tryz.f6), f_kakugyolaw22_TokenKinds_j19g_c n)]) X (tok _ _ _ _) rfl (f_kakugyolaw22_TokenKinds_a X n) (scons (f_kakugyolaw22_TokenKinds_j19_o X n) (scons (f_kakugyolaw22_TokenKinds_j19b_o X n) (scons (f_kakugyolaw22_TokenKinds_j19c_o X n) (scons (f_kakugyolaw22_TokenKinds_j19d_o X n) (scons (f_kakugyolaw22_TokenKinds_j19e_o X n) (scons (f_kakugyolaw22_TokenKinds_j19f_o X n) (scons (f_kakugyolaw22_TokenKinds_j19g_o X n) snil))))))) (by kernel_rfl) rfl (f_kakugyolaw22_TokenKinds_j16d_k n)
theorem f_kakugyolaw22_TokenKinds_j16e_k (n : Nat) (v : (f_kakugyolaw22_TokenKinds_j16e_c n).s.X) : run (f_kakugyolaw22_TokenKinds_e n) (jbody 16 (bodyOf Tryz.f6)) ((f_kakugyolaw22_TokenKinds_j16e_c n).s.st Tryz.f6.ntmps v) (decS 0 (f_kakugyolaw22_TokenKinds_j16e_c n).x) = (f_kakugyolaw22_TokenKinds_j16e_c n).f v := by kernel_rfl
theorem f_kakugyolaw22_TokenKinds_j16e_o (X : Cx Tryz.prog K Gl) (n : Nat) : SO Tryz.prog K Gl Tryz.f6.ntmps 0 (jbody 16 (bodyOf Tryz.f6)) (f_kakugyolaw22_TokenKinds_j16e_c n) := join_ok (E := f_kakugyolaw22_TokenKinds_e n) (os := [(jbody 19 (bodyOf Tryz.f6), f_kakugyolaw22_TokenKinds_j19_c n), (jbody 19 (bodyOf Tryz.f6), f_kakugyolaw22_TokenKinds_j19b_c n), (jbody 19 (bodyOf Tryz.f6), f_kakugyolaw22_TokenKinds_j19c_c n), (jbody 19 (bodyOf Tryz.f6), f_kakugyolaw22_TokenKinds_j19d_c n), (jbody 19 (bodyOf Tryz.f6), f_kakugyolaw22_TokenKinds_j19e_c n), (jbody 19 (bodyOf Tryz.f6), f_kakugyolaw22_TokenKinds_j19f_c n), (jbody 19 (bodyOf Tryz.f6), f_kakugyolaw22_TokenKinds_j19g_c n)]) X (tok _ _ _ _) rfl (f_kakugyolaw22_TokenKinds_a X n) (scons (f_kakugyolaw22_TokenKinds_j19_o X n) (scons (f_kakugyolaw22_TokenKinds_j19b_o X n) (scons (f_kakugyolaw22_TokenKinds_j19c_o X n) (scons (f_kakugyolaw22_TokenKinds_j19d_o X n) (scons (f_kakugyolaw22_TokenKinds_j19e_o X n) (scons (f_kakugyolaw22_TokenKinds_j19f_o X n) (scons (f_kakugyolaw22_TokenKinds_j19g_o X n) snil))))))) (by kernel_rfl) rfl (f_kakugyolaw22_TokenKinds_j16e_k n)
theorem f_kakugyolaw22_TokenKinds_j16f_k (n : Nat) (v : (f_kakugyolaw22_TokenKinds_j16f_c n).s.X) : run (f_kakugyolaw22_TokenKinds_e n) (jbody 16 (bodyOf Tryz.f6)) ((f_kakugyolaw22_TokenKinds_j16f_c n).s.st Tryz.f6.ntmps v) (decS 0 (f_kakugyolaw22_TokenKinds_j16f_c n).x) = (f_kakugyolaw22_TokenKinds_j16f_c n).f v := by kernel_rfl
theorem f_kakugyolaw22_TokenKinds_j16f_o (X : Cx Tryz.prog K Gl) (n : Nat) : SO Tryz.prog K Gl Tryz.f6.ntmps 0 (jbody 16 (bodyOf Tryz.f6)) (f_kakugyolaw22_TokenKinds_j16f_c n) := join_ok (E := f_kakugyolaw22_TokenKinds_e n) (os := [(jbody 19 (bodyOf Tryz.f6), f_kakugyolaw22_TokenKinds_j19_c n), (jbody 19 (bodyOf Tryz.f6), f_kakugyolaw22_TokenKinds_j19b_c n), (jbody 19 (bodyOf Tryz.f6), f_kakugyolaw22_TokenKinds_j19c_c n), (jbody 19 (bodyOf Tryz.f6), f_kakugyolaw22_TokenKinds_j19d_c n), (jbody 19 (bodyOf Tryz.f6), f_kakugyolaw22_TokenKinds_j19e_c n), (jbody 19 (bodyOf Tryz.f6), f_kakugyolaw22_TokenKinds_j19f_c n), (jbody 19 (bodyOf Tryz.f6), f_kakugyolaw22_TokenKinds_j19g_c n)]) X (tok _ _ _ _) rfl (f_kakugyolaw22_TokenKinds_a X n) (scons (f_kakugyolaw22_TokenKinds_j19_o X n) (scons (f_kakugyolaw22_TokenKinds_j19b_o X n) (scons (f_kakugyolaw22_TokenKinds_j19c_o X n) (scons (f_kakugyolaw22_TokenKinds_j19d_o X n) (scons (f_kakugyolaw22_TokenKinds_j19e_o X n) (scons (f_kakugyolaw22_TokenKinds_j19f_o X n) (scons (f_kakugyolaw22_TokenKinds_j19g_o X n) snil))))))) (by kernel_rfl) rfl (f_kakugyolaw22_TokenKinds_j16f_k n)
theorem f_kakugyolaw22_TokenKinds_j16g_k (n : Nat) (v : (f_kakugyolaw22_TokenKinds_j16g_c n).s.X) : run (f_kakugyolaw22_TokenKinds_e n) (jbody 16 (bodyOf Tryz.f6)) ((f_kakugyolaw22_TokenKinds_j16g_c n).s.st Tryz.f6.ntmps v) (decS 0 (f_kakugyolaw22_TokenKinds_j16g_c n).x) = (f_kakugyolaw22_TokenKinds_j16g_c n).f v := by kernel_rfl
theorem f_kakugyolaw22_TokenKinds_j16g_o (X : Cx Tryz.prog K Gl) (n : Nat) : SO Tryz.prog K Gl Tryz.f6.ntmps 0 (jbody 16 (bodyOf Tryz.f6)) (f_kakugyolaw22_TokenKinds_j16g_c n) := join_ok (E := f_kakugyolaw22_TokenKinds_e n) (os := [(jbody 19 (bodyOf Tryz.f6), f_kakugyolaw22_TokenKinds_j19_c n), (jbody 19 (bodyOf Tryz.f6), f_kakugyolaw22_TokenKinds_j19b_c n), (jbody 19 (bodyOf Tryz.f6), f_kakugyolaw22_TokenKinds_j19c_c n), (jbody 19 (bodyOf Tryz.f6), f_kakugyolaw22_TokenKinds_j19d_c n), (jbody 19 (bodyOf Tryz.f6), f_kakugyolaw22_TokenKinds_j19e_c n), (jbody 19 (bodyOf Tryz.f6), f_kakugyolaw22_TokenKinds_j19f_c n), (jbody 19 (bodyOf Tryz.f6), f_kakugyolaw22_TokenKinds_j19g_c n)]) X (tok _ _ _ _) rfl (f_kakugyolaw22_TokenKinds_a X n) (scons (f_kakugyolaw22_TokenKinds_j19_o X n) (scons (f_kakugyolaw22_TokenKinds_j19b_o X n) (scons (f_kakugyolaw22_TokenKinds_j19c_o X n) (scons (f_kakugyolaw22_TokenKinds_j19d_o X n) (scons (f_kakugyolaw22_TokenKinds_j19e_o X n) (scons (f_kakugyolaw22_TokenKinds_j19f_o X n) (scons (f_kakugyolaw22_TokenKinds_j19g_o X n) snil))))))) (by kernel_rfl) rfl (f_kakugyolaw22_TokenKinds_j16g_k n)
theorem f_kakugyolaw22_TokenKinds_j13_k (n : Nat) (v : (f_kakugyolaw22_TokenKinds_j13_c n).s.X) : run (f_kakugyolaw22_TokenKinds_e n) (jbody 13 (bodyOf Tryz.f6)) ((f_kakugyolaw22_TokenKinds_j13_c n).s.st Tryz.f6.ntmps v) (decS 0 (f_kakugyolaw22_TokenKinds_j13_c n).x) = (f_kakugyolaw22_TokenKinds_j13_c n).f v := by kernel_rfl
theorem f_kakugyolaw22_TokenKinds_j13_o (X : Cx Tryz.prog K Gl) (n : Nat) : SO Tryz.prog K Gl Tryz.f6.ntmps 0 (jbody 13 (bodyOf Tryz.f6)) (f_kakugyolaw22_TokenKinds_j13_c n) := join_ok (E := f_kakugyolaw22_TokenKinds_e n) (os := [(jbody 16 (bodyOf Tryz.f6), f_kakugyolaw22_TokenKinds_j16_c n), (jbody 16 (bodyOf Tryz.f6), f_kakugyolaw22_TokenKinds_j16b_c n), (jbody 16 (bodyOf Tryz.f6), f_kakugyolaw22_TokenKinds_j16c_c n), (jbody 16 (bodyOf Tryz.f6), f_kakugyolaw22_TokenKinds_j16d_c n), (jbody 16 (bodyOf Tryz.f6), f_kakugyolaw22_TokenKinds_j16e_c n), (jbody 16 (bodyOf Tryz.f6), f_kakugyolaw22_TokenKinds_j16f_c n), (jbody 16 (bodyOf Tryz.f6), f_kakugyolaw22_TokenKinds_j16g_c n)]) X (tok _ _ _ _) rfl (f_kakugyolaw22_TokenKinds_a X n) (scons (f_kakugyolaw22_TokenKinds_j16_o X n) (scons (f_kakugyolaw22_TokenKinds_j16b_o X n) (scons (f_kakugyolaw22_TokenKinds_j16c_o X n) (scons (f_kakugyolaw22_TokenKinds_j16d_o X n) (scons (f_kakugyolaw22_TokenKinds_j16e_o X n) (scons (f_kakugyolaw22_TokenKinds_j16f_o X n) (scons (f_kakugyolaw22_TokenKinds_j16g_o X n) snil))))))) (by kernel_rfl) rfl (f_kakugyolaw22_TokenKinds_j13_k n)
theorem f_kakugyolaw22_TokenKinds_j13b_k (n : Nat) (v : (f_kakugyolaw22_TokenKinds_j13b_c n).s.X) : run (f_kakugyolaw22_TokenKinds_e n) (jbody 13 (bodyOf Tryz.f6)) ((f_kakugyolaw22_TokenKinds_j13b_c n).s.st Tryz.f6.ntmps v) (decS 0 (f_kakugyolaw22_TokenKinds_j13b_c n).x) = (f_kakugyolaw22_TokenKinds_j13b_c n).f v := by kernel_rfl
theorem f_kakugyolaw22_TokenKinds_j13b_o (X : Cx Tryz.prog K Gl) (n : Nat) : SO Tryz.prog K Gl Tryz.f6.ntmps 0 (jbody 13 (bodyOf Tryz.f6)) (f_kakugyolaw22_TokenKinds_j13b_c n) := join_ok (E := f_kakugyolaw22_TokenKinds_e n) (os := [(jbody 16 (bodyOf Tryz.f6), f_kakugyolaw22_TokenKinds_j16_c n), (jbody 16 (bodyOf Tryz.f6), f_kakugyolaw22_TokenKinds_j16b_c n), (jbody 16 (bodyOf Tryz.f6), f_kakugyolaw22_TokenKinds_j16c_c n), (jbody 16 (bodyOf Tryz.f6), f_kakugyolaw22_TokenKinds_j16d_c n), (jbody 16 (bodyOf Tryz.f6), f_kakugyolaw22_TokenKinds_j16e_c n), (jbody 16 (bodyOf Tryz.f6), f_kakugyolaw22_TokenKinds_j16f_c n), (jbody 16 (bodyOf Tryz.f6), f_kakugyolaw22_TokenKinds_j16g_c n)]) X (tok _ _ _ _) rfl (f_kakugyolaw22_TokenKinds_a X n) (scons (f_kakugyolaw22_TokenKinds_j16_o X n) (scons (f_kakugyolaw22_TokenKinds_j16b_o X n) (scons (f_kakugyolaw22_TokenKinds_j16c_o X n) (scons (f_kakugyolaw22_TokenKinds_j16d_o X n) (scons (f_kakugyolaw22_TokenKinds_j16e_o X n) (scons (f_kakugyolaw22_TokenKinds_j16f_o X n) (scons (f_kakugyolaw22_TokenKinds_j16g_o X n) snil))))))) (by kernel_rfl) rfl (f_kakugyolaw22_TokenKinds_j13b_k n)
theorem f_kakugyolaw22_TokenKinds_j13c_k (n : Nat) (v : (f_kakugyolaw22_TokenKinds_j13c_c n).s.X) : run (f_kakugyolaw22_TokenKinds_e n) (jbody 13 (bodyOf Tryz.f6)) ((f_kakugyolaw22_TokenKinds_j13c_c n).s.st Tryz.f6.ntmps v) (decS 0 (f_kakugyolaw22_TokenKinds_j13c_c n).x) = (f_kakugyolaw22_TokenKinds_j13c_c n).f v := by kernel_rfl
theorem f_kakugyolaw22_TokenKinds_j13c_o (X : Cx Tryz.prog K Gl) (n : Nat) : SO Tryz.prog K Gl Tryz.f6.ntmps 0 (jbody 13 (bodyOf Tryz.f6)) (f_kakugyolaw22_TokenKinds_j13c_c n) := join_ok (E := f_kakugyolaw22_TokenKinds_e n) (os := [(jbody 16 (bodyOf Tryz.f6), f_kakugyolaw22_TokenKinds_j16_c n), (jbody 16 (bodyOf Tryz.f6), f_kakugyolaw22_TokenKinds_j16b_c n), (jbody 16 (bodyOf Tryz.f6), f_kakugyolaw22_TokenKinds_j16c_c n), (jbody 16 (bodyOf Tryz.f6), f_kakugyolaw22_TokenKinds_j16d_c n), (jbody 16 (bodyOf Tryz.f6), f_kakugyolaw22_TokenKinds_j16e_c n), (jbody 16 (bodyOf Tryz.f6), f_kakugyolaw22_TokenKinds_j16f_c n), (jbody 16 (bodyOf Tryz.f6), f_kakugyolaw22_TokenKinds_j16g_c n)]) X (tok _ _ _ _) rfl (f_kakugyolaw22_TokenKinds_a X n) (scons (f_kakugyolaw22_TokenKinds_j16_o X n) (scons (f_kakugyolaw22_TokenKinds_j16b_o X n) (scons (f_kakugyolaw22_TokenKinds_j16c_o X n) (scons (f_kakugyolaw22_TokenKinds_j16d_o X n) (scons (f_kakugyolaw22_TokenKinds_j16e_o X n) (scons (f_kakugyolaw22_TokenKinds_j16f_o X n) (scons (f_kakugyolaw22_TokenKinds_j16g_o X n) snil))))))) (by kernel_rfl) rfl (f_kakugyolaw22_TokenKinds_j13c_k n)
theorem f_kakugyolaw22_TokenKinds_j13d_k (n : Nat) (v : (f_kakugyolaw22_TokenKinds_j13d_c n).s.X) : run (f_kakugyolaw22_TokenKinds_e n) (jbody 13 (bodyOf Tryz.f6)) ((f_kakugyolaw22_TokenKinds_j13d_c n).s.st Tryz.f6.ntmps v) (decS 0 (f_kakugyolaw22_TokenKinds_j13d_c n).x) = (f_kakugyolaw22_TokenKinds_j13d_c n).f v := by kernel_rfl
theorem f_kakugyolaw22_TokenKinds_j13d_o (X : Cx Tryz.prog K Gl) (n : Nat) : SO Tryz.prog K Gl Tryz.f6.ntmps 0 (jbody 13 (bodyOf Tryz.f6)) (f_kakugyolaw22_TokenKinds_j13d_c n) := join_ok (E := f_kakugyolaw22_TokenKinds_e n) (os := [(jbody 16 (bodyOf Tryz.f6), f_kakugyolaw22_TokenKinds_j16_c n), (jbody 16 (bodyOf Tryz.f6), f_kakugyolaw22_TokenKinds_j16b_c n), (jbody 16 (bodyOf Tryz.f6), f_kakugyolaw22_TokenKinds_j16c_c n), (jbody 16 (bodyOf Tryz.f6), f_kakugyolaw22_TokenKinds_j16d_c n), (jbody 16 (bodyOf Tryz.f6), f_kakugyolaw22_TokenKinds_j16e_c n), (jbody 16 (bodyOf Tryz.f6), f_kakugyolaw22_TokenKinds_j16f_c n), (jbody 16 (bodyOf Tryz.f6), f_kakugyolaw22_TokenKinds_j16g_c n)]) X (tok _ _ _ _) rfl (f_kakugyolaw22_TokenKinds_a X n) (scons (f_kakugyolaw22_TokenKinds_j16_o X n) (scons (f_kakugyolaw22_TokenKinds_j16b_o X n) (scons (f_kakugyolaw22_TokenKinds_j16c_o X n) (scons (f_kakugyolaw22_TokenKinds_j16d_o X n) (scons (f_kakugyolaw22_TokenKinds_j16e_o X n) (scons (f_kakugyolaw22_TokenKinds_j16f_o X n) (scons (f_kakugyolaw22_TokenKinds_j16g_o X n) snil))))))) (by kernel_rfl) rfl (f_kakugyolaw22_TokenKinds_j13d_k n)
theorem f_kakugyolaw22_TokenKinds_j13e_k (n : Nat) (v : (f_kakugyolaw22_TokenKinds_j13e_c n).s.X) : run (f_kakugyolaw22_TokenKinds_e n) (jbody 13 (bodyOf Tryz.f6)) ((f_kakugyolaw22_TokenKinds_j13e_c n).s.st Tryz.f6.ntmps v) (decS 0 (f_kakugyolaw22_TokenKinds_j13e_c n).x) = (f_kakugyolaw22_TokenKinds_j13e_c n).f v := by kernel_rfl
theorem f_kakugyolaw22_TokenKinds_j13e_o (X : Cx Tryz.prog K Gl) (n : Nat) : SO Tryz.prog K Gl Tryz.f6.ntmps 0 (jbody 13 (bodyOf Tryz.f6)) (f_kakugyolaw22_TokenKinds_j13e_c n) := join_ok (E := f_kakugyolaw22_TokenKinds_e n) (os := [(jbody 16 (bodyOf Tryz.f6), f_kakugyolaw22_TokenKinds_j16_c n), (jbody 16 (bodyOf Tryz.f6), f_kakugyolaw22_TokenKinds_j16b_c n), (jbody 16 (bodyOf Tryz.f6), f_kakugyolaw22_TokenKinds_j16c_c n), (jbody 16 (bodyOf Tryz.f6), f_kakugyolaw22_TokenKinds_j16d_c n), (jbody 16 (bodyOf Tryz.f6), f_kakugyolaw22_TokenKinds_j16e_c n), (jbody 16 (bodyOf Tryz.f6), f_kakugyolaw22_TokenKinds_j16f_c n), (jbody 16 (bodyOf Tryz.f6), f_kakugyolaw22_TokenKinds_j16g_c n)]) X (tok _ _ _ _) rfl (f_kakugyolaw22_TokenKinds_a X n) (scons (f_kakugyolaw22_TokenKinds_j16_o X n) (scons (f_kakugyolaw22_TokenKinds_j16b_o X n) (scons (f_kakugyolaw22_TokenKinds_j16c_o X n) (scons (f_kakugyolaw22_TokenKinds_j16d_o X n) (scons (f_kakugyolaw22_TokenKinds_j16e_o X n) (scons (f_kakugyolaw22_TokenKinds_j16f_o X n) (scons (f_kakugyolaw22_TokenKinds_j16g_o X n) snil))))))) (by kernel_rfl) rfl (f_kakugyolaw22_TokenKinds_j13e_k n)
theorem f_kakugyolaw22_TokenKinds_j13f_k (n : Nat) (v : (f_kakugyolaw22_TokenKinds_j13f_c n).s.X) : run (f_kakugyolaw22_TokenKinds_e n) (jbody 13 (bodyOf Tryz.f6)) ((f_kakugyolaw22_TokenKinds_j13f_c n).s.st Tryz.f6.ntmps v) (decS 0 (f_kakugyolaw22_TokenKinds_j13f_c n).x) = (f_kakugyolaw22_TokenKinds_j13f_c n).f v := by kernel_rfl
theorem f_kakugyolaw22_TokenKinds_j13f_o (X : Cx Tryz.prog K Gl) (n : Nat) : SO Tryz.prog K Gl Tryz.f6.ntmps 0 (jbody 13 (bodyOf Tryz.f6)) (f_kakugyolaw22_TokenKinds_j13f_c n) := join_ok (E := f_kakugyolaw22_TokenKinds_e n) (os := [(jbody 16 (bodyOf Tryz.f6), f_kakugyolaw22_TokenKinds_j16_c n), (jbody 16 (bodyOf Tryz.f6), f_kakugyolaw22_TokenKinds_j16b_c n), (jbody 16 (bodyOf Tryz.f6), f_kakugyolaw22_TokenKinds_j16c_c n), (jbody 16 (bodyOf Tryz.f6), f_kakugyolaw22_TokenKinds_j16d_c n), (jbody 16 (bodyOf Tryz.f6), f_kakugyolaw22_TokenKinds_j16e_c n), (jbody 16 (bodyOf Tryz.f6), f_kakugyolaw22_TokenKinds_j16f_c n), (jbody 16 (bodyOf Tryz.f6), f_kakugyolaw22_TokenKinds_j16g_c n)]) X (tok _ _ _ _) rfl (f_kakugyolaw22_TokenKinds_a X n) (scons (f_kakugyolaw22_TokenKinds_j16_o X n) (scons (f_kakugyolaw22_TokenKinds_j16b_o X n) (scons (f_kakugyolaw22_TokenKinds_j16c_o X n) (scons (f_kakugyolaw22_TokenKinds_j16d_o X n) (scons (f_kakugyolaw22_TokenKinds_j16e_o X n) (scons (f_kakugyolaw22_TokenKinds_j16f_o X n) (scons (f_kakugyolaw22_TokenKinds_j16g_o X n) snil))))))) (by kernel_rfl) rfl (f_kakugyolaw22_TokenKinds_j13f_k n)
theorem f_kakugyolaw22_TokenKinds_j13g_k (n : Nat) (v : (f_kakugyolaw22_TokenKinds_j13g_c n).s.X) : run (f_kakugyolaw22_TokenKinds_e n) (jbody 13 (bodyOf Tryz.f6)) ((f_kakugyolaw22_TokenKinds_j13g_c n).s.st Tryz.f6.ntmps v) (decS 0 (f_kakugyolaw22_TokenKinds_j13g_c n).x) = (f_kakugyolaw22_TokenKinds_j13g_c n).f v := by kernel_rfl
theorem f_kakugyolaw22_TokenKinds_j13g_o (X : Cx Tryz.prog K Gl) (n : Nat) : SO Tryz.prog K Gl Tryz.f6.ntmps 0 (jbody 13 (bodyOf Tryz.f6)) (f_kakugyolaw22_TokenKinds_j13g_c n) := join_ok (E := f_kakugyolaw22_TokenKinds_e n) (os := [(jbody 16 (bodyOf Tryz.f6), f_kakugyolaw22_TokenKinds_j16_c n), (jbody 16 (bodyOf Tryz.f6), f_kakugyolaw22_TokenKinds_j16b_c n), (jbody 16 (bodyOf Tryz.f6), f_kakugyolaw22_TokenKinds_j16c_c n), (jbody 16 (bodyOf Tryz.f6), f_kakugyolaw22_TokenKinds_j16d_c n), (jbody 16 (bodyOf Tryz.f6), f_kakugyolaw22_TokenKinds_j16e_c n), (jbody 16 (bodyOf Tryz.f6), f_kakugyolaw22_TokenKinds_j16f_c n), (jbody 16 (bodyOf Tryz.f6), f_kakugyolaw22_TokenKinds_j16g_c n)]) X (tok _ _ _ _) rfl (f_kakugyolaw22_TokenKinds_a X n) (scons (f_kakugyolaw22_TokenKinds_j16_o X n) (scons (f_kakugyolaw22_TokenKinds_j16b_o X n) (scons (f_kakugyolaw22_TokenKinds_j16c_o X n) (scons (f_kakugyolaw22_TokenKinds_j16d_o X n) (scons (f_kakugyolaw22_TokenKinds_j16e_o X n) (scons (f_kakugyolaw22_TokenKinds_j16f_o X n) (scons (f_kakugyolaw22_TokenKinds_j16g_o X n) snil))))))) (by kernel_rfl) rfl (f_kakugyolaw22_TokenKinds_j13g_k n)
theorem f_kakugyolaw22_TokenKinds_j10_k (n : Nat) (v : (f_kakugyolaw22_TokenKinds_j10_c n).s.X) : run (f_kakugyolaw22_TokenKinds_e n) (jbody 10 (bodyOf Tryz.f6)) ((f_kakugyolaw22_TokenKinds_j10_c n).s.st Tryz.f6.ntmps v) (decS 0 (f_kakugyolaw22_TokenKinds_j10_c n).x) = (f_kakugyolaw22_TokenKinds_j10_c n).f v := by kernel_rfl
theorem f_kakugyolaw22_TokenKinds_j10_o (X : Cx Tryz.prog K Gl) (n : Nat) : SO Tryz.prog K Gl Tryz.f6.ntmps 0 (jbody 10 (bodyOf Tryz.f6)) (f_kakugyolaw22_TokenKinds_j10_c n) := join_ok (E := f_kakugyolaw22_TokenKinds_e n) (os := [(jbody 13 (bodyOf Tryz.f6), f_kakugyolaw22_TokenKinds_j13_c n), (jbody 13 (bodyOf Tryz.f6), f_kakugyolaw22_TokenKinds_j13b_c n), (jbody 13 (bodyOf Tryz.f6), f_kakugyolaw22_TokenKinds_j13c_c n), (jbody 13 (bodyOf Tryz.f6), f_kakugyolaw22_TokenKinds_j13d_c n), (jbody 13 (bodyOf Tryz.f6), f_kakugyolaw22_TokenKinds_j13e_c n), (jbody 13 (bodyOf Tryz.f6), f_kakugyolaw22_TokenKinds_j13f_c n), (jbody 13 (bodyOf Tryz.f6), f_kakugyolaw22_TokenKinds_j13g_c n)]) X (tok _ _ _ _) rfl (f_kakugyolaw22_TokenKinds_a X n) (scons (f_kakugyolaw22_TokenKinds_j13_o X n) (scons (f_kakugyolaw22_TokenKinds_j13b_o X n) (scons (f_kakugyolaw22_TokenKinds_j13c_o X n) (scons (f_kakugyolaw22_TokenKinds_j13d_o X n) (scons (f_kakugyolaw22_TokenKinds_j13e_o X n) (scons (f_kakugyolaw22_TokenKinds_j13f_o X n) (scons (f_kakugyolaw22_TokenKinds_j13g_o X n) snil))))))) (by kernel_rfl) rfl (f_kakugyolaw22_TokenKinds_j10_k n)
theorem f_kakugyolaw22_TokenKinds_j10b_k (n : Nat) (v : (f_kakugyolaw22_TokenKinds_j10b_c n).s.X) : run (f_kakugyolaw22_TokenKinds_e n) (jbody 10 (bodyOf Tryz.f6)) ((f_kakugyolaw22_TokenKinds_j10b_c n).s.st Tryz.f6.ntmps v) (decS 0 (f_kakugyolaw22_TokenKinds_j10b_c n).x) = (f_kakugyolaw22_TokenKinds_j10b_c n).f v := by kernel_rfl
theorem f_kakugyolaw22_TokenKinds_j10b_o (X : Cx Tryz.prog K Gl) (n : Nat) : SO Tryz.prog K Gl Tryz.f6.ntmps 0 (jbody 10 (bodyOf Tryz.f6)) (f_kakugyolaw22_TokenKinds_j10b_c n) := join_ok (E := f_kakugyolaw22_TokenKinds_e n) (os := [(jbody 13 (bodyOf Tryz.f6), f_kakugyolaw22_TokenKinds_j13_c n), (jbody 13 (bodyOf Tryz.f6), f_kakugyolaw22_TokenKinds_j13b_c n), (jbody 13 (bodyOf Tryz.f6), f_kakugyolaw22_TokenKinds_j13c_c n), (jbody 13 (bodyOf Tryz.f6), f_kakugyolaw22_TokenKinds_j13d_c n), (jbody 13 (bodyOf Tryz.f6), f_kakugyolaw22_TokenKinds_j13e_c n), (jbody 13 (bodyOf Tryz.f6), f_kakugyolaw22_TokenKinds_j13f_c n), (jbody 13 (bodyOf Tryz.f6), f_kakugyolaw22_TokenKinds_j13g_c n)]) X (tok _ _ _ _) rfl (f_kakugyolaw22_TokenKinds_a X n) (scons (f_kakugyolaw22_TokenKinds_j13_o X n) (scons (f_kakugyolaw22_TokenKinds_j13b_o X n) (scons (f_kakugyolaw22_TokenKinds_j13c_o X n) (scons (f_kakugyolaw22_TokenKinds_j13d_o X n) (scons (f_kakugyolaw22_TokenKinds_j13e_o X n) (scons (f_kakugyolaw22_TokenKinds_j13f_o X n) (scons (f_kakugyolaw22_TokenKinds_j13g_o X n) snil))))))) (by kernel_rfl) rfl (f_kakugyolaw22_TokenKinds_j10b_k n)
theorem f_kakugyolaw22_TokenKinds_j10c_k (n : Nat) (v : (f_kakugyolaw22_TokenKinds_j10c_c n).s.X) : run (f_kakugyolaw22_TokenKinds_e n) (jbody 10 (bodyOf Tryz.f6)) ((f_kakugyolaw22_TokenKinds_j10c_c n).s.st Tryz.f6.ntmps v) (decS 0 (f_kakugyolaw22_TokenKinds_j10c_c n).x) = (f_kakugyolaw22_TokenKinds_j10c_c n).f v := by kernel_rfl
theorem f_kakugyolaw22_TokenKinds_j10c_o (X : Cx Tryz.prog K Gl) (n : Nat) : SO Tryz.prog K Gl Tryz.f6.ntmps 0 (jbody 10 (bodyOf Tryz.f6)) (f_kakugyolaw22_TokenKinds_j10c_c n) := join_ok (E := f_kakugyolaw22_TokenKinds_e n) (os := [(jbody 13 (bodyOf Tryz.f6), f_kakugyolaw22_TokenKinds_j13_c n), (jbody 13 (bodyOf Tryz.f6), f_kakugyolaw22_TokenKinds_j13b_c n), (jbody 13 (bodyOf Tryz.f6), f_kakugyolaw22_TokenKinds_j13c_c n), (jbody 13 (bodyOf Tryz.f6), f_kakugyolaw22_TokenKinds_j13d_c n), (jbody 13 (bodyOf Tryz.f6), f_kakugyolaw22_TokenKinds_j13e_c n), (jbody 13 (bodyOf Tryz.f6), f_kakugyolaw22_TokenKinds_j13f_c n), (jbody 13 (bodyOf Tryz.f6), f_kakugyolaw22_TokenKinds_j13g_c n)]) X (tok _ _ _ _) rfl (f_kakugyolaw22_TokenKinds_a X n) (scons (f_kakugyolaw22_TokenKinds_j13_o X n) (scons (f_kakugyolaw22_TokenKinds_j13b_o X n) (scons (f_kakugyolaw22_TokenKinds_j13c_o X n) (scons (f_kakugyolaw22_TokenKinds_j13d_o X n) (scons (f_kakugyolaw22_TokenKinds_j13e_o X n) (scons (f_kakugyolaw22_TokenKinds_j13f_o X n) (scons (f_kakugyolaw22_TokenKinds_j13g_o X n) snil))))))) (by kernel_rfl) rfl (f_kakugyolaw22_TokenKinds_j10c_k n)
theorem f_kakugyolaw22_TokenKinds_j10d_k (n : Nat) (v : (f_kakugyolaw22_TokenKinds_j10d_c n).s.X) : run (f_kakugyolaw22_TokenKinds_e n) (jbody 10 (bodyOf Tryz.f6)) ((f_kakugyolaw22_TokenKinds_j10d_c n).s.st Tryz.f6.ntmps v) (decS 0 (f_kakugyolaw22_TokenKinds_j10d_c n).x) = (f_kakugyolaw22_TokenKinds_j10d_c n).f v := by kernel_rfl
theorem f_kakugyolaw22_TokenKinds_j10d_o (X : Cx Tryz.prog K Gl) (n : Nat) : SO Tryz.prog K Gl Tryz.f6.ntmps 0 (jbody 10 (bodyOf Tryz.f6)) (f_kakugyolaw22_TokenKinds_j10d_c n) := join_ok (E := f_kakugyolaw22_TokenKinds_e n) (os := [(jbody 13 (bodyOf Tryz.f6), f_kakugyolaw22_TokenKinds_j13_c n), (jbody 13 (bodyOf Tryz.f6), f_kakugyolaw22_TokenKinds_j13b_c n), (jbody 13 (bodyOf Tryz.f6), f_kakugyolaw22_TokenKinds_j13c_c n), (jbody 13 (bodyOf Tryz.f6), f_kakugyolaw22_TokenKinds_j13d_c n), (jbody 13 (bodyOf Tryz.f6), f_kakugyolaw22_TokenKinds_j13e_c n), (jbody 13 (bodyOf Tryz.f6), f_kakugyolaw22_TokenKinds_j13f_c n), (jbody 13 (bodyOf Tryz.f6), f_kakugyolaw22_TokenKinds_j13g_c n)]) X (tok _ _ _ _) rfl (f_kakugyolaw22_TokenKinds_a X n) (scons (f_kakugyolaw22_TokenKinds_j13_o X n) (scons (f_kakugyolaw22_TokenKinds_j13b_o X n) (scons (f_kakugyolaw22_TokenKinds_j13c_o X n) (scons (f_kakugyolaw22_TokenKinds_j13d_o X n) (scons (f_kakugyolaw22_TokenKinds_j13e_o X n) (scons (f_kakugyolaw22_TokenKinds_j13f_o X n) (scons (f_kakugyolaw22_TokenKinds_j13g_o X n) snil))))))) (by kernel_rfl) rfl (f_kakugyolaw22_TokenKinds_j10d_k n)
theorem f_kakugyolaw22_TokenKinds_j10e_k (n : Nat) (v : (f_kakugyolaw22_TokenKinds_j10e_c n).s.X) : run (f_kakugyolaw22_TokenKinds_e n) (jbody 10 (bodyOf Tryz.f6)) ((f_kakugyolaw22_TokenKinds_j10e_c n).s.st Tryz.f6.ntmps v) (decS 0 (f_kakugyolaw22_TokenKinds_j10e_c n).x) = (f_kakugyolaw22_TokenKinds_j10e_c n).f v := by kernel_rfl
theorem f_kakugyolaw22_TokenKinds_j10e_o (X : Cx Tryz.prog K Gl) (n : Nat) : SO Tryz.prog K Gl Tryz.f6.ntmps 0 (jbody 10 (bodyOf Tryz.f6)) (f_kakugyolaw22_TokenKinds_j10e_c n) := join_ok (E := f_kakugyolaw22_TokenKinds_e n) (os := [(jbody 13 (bodyOf Tryz.f6), f_kakugyolaw22_TokenKinds_j13_c n), (jbody 13 (bodyOf Tryz.f6), f_kakugyolaw22_TokenKinds_j13b_c n), (jbody 13 (bodyOf Tryz.f6), f_kakugyolaw22_TokenKinds_j13c_c n), (jbody 13 (bodyOf Tryz.f6), f_kakugyolaw22_TokenKinds_j13d_c n), (jbody 13 (bodyOf Tryz.f6), f_kakugyolaw22_TokenKinds_j13e_c n), (jbody 13 (bodyOf Tryz.f6), f_kakugyolaw22_TokenKinds_j13f_c n), (jbody 13 (bodyOf Tryz.f6), f_kakugyolaw22_TokenKinds_j13g_c n)]) X (tok _ _ _ _) rfl (f_kakugyolaw22_TokenKinds_a X n) (scons (f_kakugyolaw22_TokenKinds_j13_o X n) (scons (f_kakugyolaw22_TokenKinds_j13b_o X n) (scons (f_kakugyolaw22_TokenKinds_j13c_o X n) (scons (f_kakugyolaw22_TokenKinds_j13d_o X n) (scons (f_kakugyolaw22_TokenKinds_j13e_o X n) (scons (f_kakugyolaw22_TokenKinds_j13f_o X n) (scons (f_kakugyolaw22_TokenKinds_j13g_o X n) snil))))))) (by kernel_rfl) rfl (f_kakugyolaw22_TokenKinds_j10e_k n)
theorem f_kakugyolaw22_TokenKinds_j10f_k (n : Nat) (v : (f_kakugyolaw22_TokenKinds_j10f_c n).s.X) : run (f_kakugyolaw22_TokenKinds_e n) (jbody 10 (bodyOf Tryz.f6)) ((f_kakugyolaw22_TokenKinds_j10f_c n).s.st Tryz.f6.ntmps v) (decS 0 (f_kakugyolaw22_TokenKinds_j10f_c n).x) = (f_kakugyolaw22_TokenKinds_j10f_c n).f v := by kernel_rfl
theorem f_kakugyolaw22_TokenKinds_j10f_o (X : Cx Tryz.prog K Gl) (n : Nat) : SO Tryz.prog K Gl Tryz.f6.ntmps 0 (jbody 10 (bodyOf Tryz.f6)) (f_kakugyolaw22_TokenKinds_j10f_c n) := join_ok (E := f_kakugyolaw22_TokenKinds_e n) (os := [(jbody 13 (bodyOf Tryz.f6), f_kakugyolaw22_TokenKinds_j13_c n), (jbody 13 (bodyOf Tryz.f6), f_kakugyolaw22_TokenKinds_j13b_c n), (jbody 13 (bodyOf Tryz.f6), f_kakugyolaw22_TokenKinds_j13c_c n), (jbody 13 (bodyOf Tryz.f6), f_kakugyolaw22_TokenKinds_j13d_c n), (jbody 13 (bodyOf Tryz.f6), f_kakugyolaw22_TokenKinds_j13e_c n), (jbody 13 (bodyOf Tryz.f6), f_kakugyolaw22_TokenKinds_j13f_c n), (jbody 13 (bodyOf Tryz.f6), f_kakugyolaw22_TokenKinds_j13g_c n)]) X (tok _ _ _ _) rfl (f_kakugyolaw22_TokenKinds_a X n) (scons (f_kakugyolaw22_TokenKinds_j13_o X n) (scons (f_kakugyolaw22_TokenKinds_j13b_o X n) (scons (f_kakugyolaw22_TokenKinds_j13c_o X n) (scons (f_kakugyolaw22_TokenKinds_j13d_o X n) (scons (f_kakugyolaw22_TokenKinds_j13e_o X n) (scons (f_kakugyolaw22_TokenKinds_j13f_o X n) (scons (f_kakugyolaw22_TokenKinds_j13g_o X n) snil))))))) (by kernel_rfl) rfl (f_kakugyolaw22_TokenKinds_j10f_k n)
theorem f_kakugyolaw22_TokenKinds_j10g_k (n : Nat) (v : (f_kakugyolaw22_TokenKinds_j10g_c n).s.X) : run (f_kakugyolaw22_TokenKinds_e n) (jbody 10 (bodyOf Tryz.f6)) ((f_kakugyolaw22_TokenKinds_j10g_c n).s.st Tryz.f6.ntmps v) (decS 0 (f_kakugyolaw22_TokenKinds_j10g_c n).x) = (f_kakugyolaw22_TokenKinds_j10g_c n).f v := by kernel_rfl
theorem f_kakugyolaw22_TokenKinds_j10g_o (X : Cx Tryz.prog K Gl) (n : Nat) : SO Tryz.prog K Gl Tryz.f6.ntmps 0 (jbody 10 (bodyOf Tryz.f6)) (f_kakugyolaw22_TokenKinds_j10g_c n) := join_ok (E := f_kakugyolaw22_TokenKinds_e n) (os := [(jbody 13 (bodyOf Tryz.f6), f_kakugyolaw22_TokenKinds_j13_c n), (jbody 13 (bodyOf Tryz.f6), f_kakugyolaw22_TokenKinds_j13b_c n), (jbody 13 (bodyOf Tryz.f6), f_kakugyolaw22_TokenKinds_j13c_c n), (jbody 13 (bodyOf Tryz.f6), f_kakugyolaw22_TokenKinds_j13d_c n), (jbody 13 (bodyOf Tryz.f6), f_kakugyolaw22_TokenKinds_j13e_c n), (jbody 13 (bodyOf Tryz.f6), f_kakugyolaw22_TokenKinds_j13f_c n), (jbody 13 (bodyOf Tryz.f6), f_kakugyolaw22_TokenKinds_j13g_c n)]) X (tok _ _ _ _) rfl (f_kakugyolaw22_TokenKinds_a X n) (scons (f_kakugyolaw22_TokenKinds_j13_o X n) (scons (f_kakugyolaw22_TokenKinds_j13b_o X n) (scons (f_kakugyolaw22_TokenKinds_j13c_o X n) (scons (f_kakugyolaw22_TokenKinds_j13d_o X n) (scons (f_kakugyolaw22_TokenKinds_j13e_o X n) (scons (f_kakugyolaw22_TokenKinds_j13f_o X n) (scons (f_kakugyolaw22_TokenKinds_j13g_o X n) snil))))))) (by kernel_rfl) rfl (f_kakugyolaw22_TokenKinds_j10g_k n)
theorem f_kakugyolaw22_TokenKinds_k (n : Nat) (x : (f_kakugyolaw22_TokenKinds_c n).a.X × (f_kakugyolaw22_TokenKinds_c n).b.X) : run (f_kakugyolaw22_TokenKinds_e n) (bodyOf Tryz.f6) (entry Tryz.f6.ntmps ((f_kakugyolaw22_TokenKinds_c n).a.enc x.1) ((f_kakugyolaw22_TokenKinds_c n).b.enc x.2)) (kfin (f_kakugyolaw22_TokenKinds_e n) Tryz.f6 (f_kakugyolaw22_TokenKinds_c n) (f_kakugyolaw22_TokenKinds_c n).b.n) = (f_kakugyolaw22_TokenKinds_c n).f x := by kernel_rfl
theorem f_kakugyolaw22_TokenKinds_ok (X : Cx Tryz.prog K Gl) (n : Nat) : FOk Tryz.prog K Gl 6 (f_kakugyolaw22_TokenKinds_c n) := func_ok (E := f_kakugyolaw22_TokenKinds_e n) (fn := Tryz.f6) (cf := (f_kakugyolaw22_TokenKinds_c n)) (os := [(jbody 10 (bodyOf Tryz.f6), f_kakugyolaw22_TokenKinds_j10_c n), (jbody 10 (bodyOf Tryz.f6), f_kakugyolaw22_TokenKinds_j10b_c n), (jbody 10 (bodyOf Tryz.f6), f_kakugyolaw22_TokenKinds_j10c_c n), (jbody 10 (bodyOf Tryz.f6), f_kakugyolaw22_TokenKinds_j10d_c n), (jbody 10 (bodyOf Tryz.f6), f_kakugyolaw22_TokenKinds_j10e_c n), (jbody 10 (bodyOf Tryz.f6), f_kakugyolaw22_TokenKinds_j10f_c n), (jbody 10 (bodyOf Tryz.f6), f_kakugyolaw22_TokenKinds_j10g_c n)]) X (tok _ _ _ _) rfl (f_kakugyolaw22_TokenKinds_a X n) (scons (f_kakugyolaw22_TokenKinds_j10_o X n) (scons (f_kakugyolaw22_TokenKinds_j10b_o X n) (scons (f_kakugyolaw22_TokenKinds_j10c_o X n) (scons (f_kakugyolaw22_TokenKinds_j10d_o X n) (scons (f_kakugyolaw22_TokenKinds_j10e_o X n) (scons (f_kakugyolaw22_TokenKinds_j10f_o X n) (scons (f_kakugyolaw22_TokenKinds_j10g_o X n) snil))))))) (by kernel_rfl) Tryz.func6 (by kernel_rfl) (f_kakugyolaw22_TokenKinds_k n)
end Go.AM.T
