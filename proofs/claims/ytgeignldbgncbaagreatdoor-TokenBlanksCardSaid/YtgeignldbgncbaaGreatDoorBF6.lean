/- What the functions compute, and that they do. -/
import Derived.Test.YtgeignldbgncbaaGreatDoorBF3
import Derived.Test.YtgeignldbgncbaaGreatDoorBF4
import Derived.Test.YtgeignldbgncbaaGreatDoorBF5
import Derived.Test.YtgeignldbgncbaaGreatDoorKL
set_option maxRecDepth 1000000
set_option linter.unusedVariables false
namespace Go.AM.T
open Go Go.AM Go.Proofs
def f_kakugyolaw22_TokenBlanks_l0_s (n : Nat) (r : ByteArray → ByteArray → Int → Int → Option ((Bool × Unit) ⊕ ((ByteArray × ByteArray) × Unit))) (s3 : ByteArray) (more4 : ByteArray) (t5 : Int) (t6 : Int) : Option ((Bool × Unit) ⊕ ((ByteArray × ByteArray) × Unit)) :=
 Br (lt t6 t5)
  (Br (inr t6 (len more4))
   (Br (!(eq (byt more4 t6) 32))
    (Br (inr t6 (len more4))
     (Br (!(eq (byt more4 t6) 9))
      (Br (inr t6 (len more4))
       (Br (!(eq (byt more4 t6) 13))
        (some (.inl (true, ())))
        (r s3 more4 t5 (wa .i64 t6 1)))
       (none))
      (r s3 more4 t5 (wa .i64 t6 1)))
     (none))
    (r s3 more4 t5 (wa .i64 t6 1)))
   (none))
  (some (.inr ((s3, more4), ())))
def f_kakugyolaw22_TokenBlanks_l0_i (n : Nat) : Nat → ByteArray → ByteArray → Int → Int → Option ((Bool × Unit) ⊕ ((ByteArray × ByteArray) × Unit))
 | 0, _, _, _, _ => none
 | m + 1, s3, more4, t5, t6 => f_kakugyolaw22_TokenBlanks_l0_s n (f_kakugyolaw22_TokenBlanks_l0_i n m) s3 more4 t5 t6
def f_kakugyolaw22_TokenBlanks_l0 (n : Nat) := f_kakugyolaw22_TokenBlanks_l0_i n n
def f_kakugyolaw22_TokenBlanks_l2_s (n : Nat) (r : ByteArray → ByteArray → ByteArray → Int → Int → Option ((ByteArray × ByteArray × ByteArray) × Unit)) (s13 : ByteArray) (more14 : ByteArray) (wide15 : ByteArray) (t16 : Int) (t17 : Int) : Option ((ByteArray × ByteArray × ByteArray) × Unit) :=
 Br (lt t17 t16)
  (Br ((inq (wa .i64 t17 1) (len s13)) && (inq t17 (wa .i64 t17 1)))
   (Br (small ((len wide15) + (len (s13.extract t17.toNat (wa .i64 t17 1).toNat))))
    (Br (inr t17 (len s13))
     (Br (eq (byt s13 t17) 32)
      (Br (small ((len (cat wide15 (s13.extract t17.toNat (wa .i64 t17 1).toNat))) + (len more14)))
       (r s13 more14 (cat (cat wide15 (s13.extract t17.toNat (wa .i64 t17 1).toNat)) more14) t16 (wa .i64 t17 1))
       (none))
      (r s13 more14 (cat wide15 (s13.extract t17.toNat (wa .i64 t17 1).toNat)) t16 (wa .i64 t17 1)))
     (none))
    (none))
   (none))
  (some ((s13, more14, wide15), ()))
def f_kakugyolaw22_TokenBlanks_l2_i (n : Nat) : Nat → ByteArray → ByteArray → ByteArray → Int → Int → Option ((ByteArray × ByteArray × ByteArray) × Unit)
 | 0, _, _, _, _, _ => none
 | m + 1, s13, more14, wide15, t16, t17 => f_kakugyolaw22_TokenBlanks_l2_s n (f_kakugyolaw22_TokenBlanks_l2_i n m) s13 more14 wide15 t16 t17
def f_kakugyolaw22_TokenBlanks_l2 (n : Nat) := f_kakugyolaw22_TokenBlanks_l2_i n n
def f_kakugyolaw22_TokenBlanks (n : Nat) (s0 : ByteArray) (more1 : ByteArray) : Option (Bool × Unit × Unit) :=
 ob (f_kakugyolaw22_reads n) fun y2 =>
 Br (!y2.1)
  (some (false, (), ()))
  (Br (lt 1000 (len s0))
   (some (true, (), ()))
   (Br (lt 10 (len more1))
    (some (true, (), ()))
    (Br (lt (len more1) 1)
     (some (true, (), ()))
     (ob (f_kakugyolaw22_TokenBlanks_l0 n s0 more1 (len more1) 0) fun y10 =>
     sm y10 (fun y11 =>
      some (y11.1, (), ()))
      (fun y12 =>
      ob (f_kakugyolaw22_TokenBlanks_l2 n y12.1.1 y12.1.2 y12.1.2 (len y12.1.1) 0) fun y19 =>
      ob (f_token_Parse n y19.1.1) fun y33 =>
      sm y33 (fun y34 =>
       Br (small ((len y19.1.2.2) + (len y19.1.2.1)))
        (ob (f_token_Parse n (cat y19.1.2.2 y19.1.2.1)) fun y49 =>
        sm y49 (fun y50 =>
         Br (eq y34.1.2 y50.1.2)
          (ob (f_kakugyolaw22_plain) fun y52 =>
          ob (f_kakugyolaw22_plain) fun y53 =>
          ob (f_kakugyolaw22_like n y52.1 y53.1) fun y54 =>
          some (y54.1, (), ()))
          (some (false, (), ())))
         (fun y51 =>
         sm y51 (fun y55 =>
          Br (eq y34.1.2 y55.1.2)
           (ob (f_kakugyolaw22_plain) fun y57 =>
           ob (f_kakugyolaw22_plain_1 y55.1.1) fun y58 =>
           ob (f_kakugyolaw22_like n y57.1 y58.1) fun y59 =>
           some (y59.1, (), ()))
           (some (false, (), ())))
          (fun y56 =>
          sm y56 (fun y60 =>
           Br (eq y34.1.2 y60.1.2)
            (ob (f_kakugyolaw22_plain) fun y62 =>
            ob (f_kakugyolaw22_plain_2 y60.1.1) fun y63 =>
            ob (f_kakugyolaw22_like n y62.1 y63.1) fun y64 =>
            some (y64.1, (), ()))
            (some (false, (), ())))
           (fun y61 =>
           sm y61 (fun y65 =>
            Br (eq y34.1.2 y65.1.2)
             (ob (f_kakugyolaw22_plain) fun y67 =>
             ob (f_kakugyolaw22_plain_3 y65.1.1) fun y68 =>
             ob (f_kakugyolaw22_like n y67.1 y68.1) fun y69 =>
             some (y69.1, (), ()))
             (some (false, (), ())))
            (fun y66 =>
            sm y66 (fun y70 =>
             Br (eq y34.1.2 y70.1.2)
              (ob (f_kakugyolaw22_plain) fun y72 =>
              ob (f_kakugyolaw22_plain_4 y70.1.1 y70.2.2) fun y73 =>
              sm y73 (fun y74 =>
               ob (f_kakugyolaw22_like n y72.1 y74.1) fun y76 =>
               some (y76.1, (), ()))
               (fun y75 =>
               ob (f_kakugyolaw22_like_1 n y72.1 y75.1 y75.2.1) fun y77 =>
               some (y77.1, (), ())))
              (some (false, (), ())))
             (fun y71 =>
             sm y71 (fun y78 =>
              Br (eq y34.1.2 y78.1.2)
               (ob (f_kakugyolaw22_plain) fun y80 =>
               ob (f_kakugyolaw22_plain_5 y78.1.1) fun y81 =>
               ob (f_kakugyolaw22_like n y80.1 y81.1) fun y82 =>
               some (y82.1, (), ()))
               (some (false, (), ())))
              (fun y79 =>
              Br (eq y34.1.2 y79.1.2)
               (ob (f_kakugyolaw22_plain) fun y83 =>
               ob (f_kakugyolaw22_plain_6 y79.1.1) fun y84 =>
               ob (f_kakugyolaw22_like n y83.1 y84.1) fun y85 =>
               some (y85.1, (), ()))
               (some (false, (), ())))))))))
        (none))
       (fun y35 =>
       sm y35 (fun y86 =>
        Br (small ((len y19.1.2.2) + (len y19.1.2.1)))
         (ob (f_token_Parse n (cat y19.1.2.2 y19.1.2.1)) fun y101 =>
         sm y101 (fun y102 =>
          Br (eq y86.1.2 y102.1.2)
           (ob (f_kakugyolaw22_plain_1 y86.1.1) fun y104 =>
           ob (f_kakugyolaw22_plain) fun y105 =>
           ob (f_kakugyolaw22_like n y104.1 y105.1) fun y106 =>
           some (y106.1, (), ()))
           (some (false, (), ())))
          (fun y103 =>
          sm y103 (fun y107 =>
           Br (eq y86.1.2 y107.1.2)
            (ob (f_kakugyolaw22_plain_1 y86.1.1) fun y109 =>
            ob (f_kakugyolaw22_plain_1 y107.1.1) fun y110 =>
            ob (f_kakugyolaw22_like n y109.1 y110.1) fun y111 =>
            some (y111.1, (), ()))
            (some (false, (), ())))
           (fun y108 =>
           sm y108 (fun y112 =>
            Br (eq y86.1.2 y112.1.2)
             (ob (f_kakugyolaw22_plain_1 y86.1.1) fun y114 =>
             ob (f_kakugyolaw22_plain_2 y112.1.1) fun y115 =>
             ob (f_kakugyolaw22_like n y114.1 y115.1) fun y116 =>
             some (y116.1, (), ()))
             (some (false, (), ())))
            (fun y113 =>
            sm y113 (fun y117 =>
             Br (eq y86.1.2 y117.1.2)
              (ob (f_kakugyolaw22_plain_1 y86.1.1) fun y119 =>
              ob (f_kakugyolaw22_plain_3 y117.1.1) fun y120 =>
              ob (f_kakugyolaw22_like n y119.1 y120.1) fun y121 =>
              some (y121.1, (), ()))
              (some (false, (), ())))
             (fun y118 =>
             sm y118 (fun y122 =>
              Br (eq y86.1.2 y122.1.2)
               (ob (f_kakugyolaw22_plain_1 y86.1.1) fun y124 =>
               ob (f_kakugyolaw22_plain_4 y122.1.1 y122.2.2) fun y125 =>
               sm y125 (fun y126 =>
                ob (f_kakugyolaw22_like n y124.1 y126.1) fun y128 =>
                some (y128.1, (), ()))
                (fun y127 =>
                ob (f_kakugyolaw22_like_1 n y124.1 y127.1 y127.2.1) fun y129 =>
                some (y129.1, (), ())))
               (some (false, (), ())))
              (fun y123 =>
              sm y123 (fun y130 =>
               Br (eq y86.1.2 y130.1.2)
                (ob (f_kakugyolaw22_plain_1 y86.1.1) fun y132 =>
                ob (f_kakugyolaw22_plain_5 y130.1.1) fun y133 =>
                ob (f_kakugyolaw22_like n y132.1 y133.1) fun y134 =>
                some (y134.1, (), ()))
                (some (false, (), ())))
               (fun y131 =>
               Br (eq y86.1.2 y131.1.2)
                (ob (f_kakugyolaw22_plain_1 y86.1.1) fun y135 =>
                ob (f_kakugyolaw22_plain_6 y131.1.1) fun y136 =>
                ob (f_kakugyolaw22_like n y135.1 y136.1) fun y137 =>
                some (y137.1, (), ()))
                (some (false, (), ())))))))))
         (none))
        (fun y87 =>
        sm y87 (fun y138 =>
         Br (small ((len y19.1.2.2) + (len y19.1.2.1)))
          (ob (f_token_Parse n (cat y19.1.2.2 y19.1.2.1)) fun y153 =>
          sm y153 (fun y154 =>
           Br (eq y138.1.2 y154.1.2)
            (ob (f_kakugyolaw22_plain_2 y138.1.1) fun y156 =>
            ob (f_kakugyolaw22_plain) fun y157 =>
            ob (f_kakugyolaw22_like n y156.1 y157.1) fun y158 =>
            some (y158.1, (), ()))
            (some (false, (), ())))
           (fun y155 =>
           sm y155 (fun y159 =>
            Br (eq y138.1.2 y159.1.2)
             (ob (f_kakugyolaw22_plain_2 y138.1.1) fun y161 =>
             ob (f_kakugyolaw22_plain_1 y159.1.1) fun y162 =>
             ob (f_kakugyolaw22_like n y161.1 y162.1) fun y163 =>
             some (y163.1, (), ()))
             (some (false, (), ())))
            (fun y160 =>
            sm y160 (fun y164 =>
             Br (eq y138.1.2 y164.1.2)
              (ob (f_kakugyolaw22_plain_2 y138.1.1) fun y166 =>
              ob (f_kakugyolaw22_plain_2 y164.1.1) fun y167 =>
              ob (f_kakugyolaw22_like n y166.1 y167.1) fun y168 =>
              some (y168.1, (), ()))
              (some (false, (), ())))
             (fun y165 =>
             sm y165 (fun y169 =>
              Br (eq y138.1.2 y169.1.2)
               (ob (f_kakugyolaw22_plain_2 y138.1.1) fun y171 =>
               ob (f_kakugyolaw22_plain_3 y169.1.1) fun y172 =>
               ob (f_kakugyolaw22_like n y171.1 y172.1) fun y173 =>
               some (y173.1, (), ()))
               (some (false, (), ())))
              (fun y170 =>
              sm y170 (fun y174 =>
               Br (eq y138.1.2 y174.1.2)
                (ob (f_kakugyolaw22_plain_2 y138.1.1) fun y176 =>
                ob (f_kakugyolaw22_plain_4 y174.1.1 y174.2.2) fun y177 =>
                sm y177 (fun y178 =>
                 ob (f_kakugyolaw22_like n y176.1 y178.1) fun y180 =>
                 some (y180.1, (), ()))
                 (fun y179 =>
                 ob (f_kakugyolaw22_like_1 n y176.1 y179.1 y179.2.1) fun y181 =>
                 some (y181.1, (), ())))
                (some (false, (), ())))
               (fun y175 =>
               sm y175 (fun y182 =>
                Br (eq y138.1.2 y182.1.2)
                 (ob (f_kakugyolaw22_plain_2 y138.1.1) fun y184 =>
                 ob (f_kakugyolaw22_plain_5 y182.1.1) fun y185 =>
                 ob (f_kakugyolaw22_like n y184.1 y185.1) fun y186 =>
                 some (y186.1, (), ()))
                 (some (false, (), ())))
                (fun y183 =>
                Br (eq y138.1.2 y183.1.2)
                 (ob (f_kakugyolaw22_plain_2 y138.1.1) fun y187 =>
                 ob (f_kakugyolaw22_plain_6 y183.1.1) fun y188 =>
                 ob (f_kakugyolaw22_like n y187.1 y188.1) fun y189 =>
                 some (y189.1, (), ()))
                 (some (false, (), ())))))))))
          (none))
         (fun y139 =>
         sm y139 (fun y190 =>
          Br (small ((len y19.1.2.2) + (len y19.1.2.1)))
           (ob (f_token_Parse n (cat y19.1.2.2 y19.1.2.1)) fun y205 =>
           sm y205 (fun y206 =>
            Br (eq y190.1.2 y206.1.2)
             (ob (f_kakugyolaw22_plain_3 y190.1.1) fun y208 =>
             ob (f_kakugyolaw22_plain) fun y209 =>
             ob (f_kakugyolaw22_like n y208.1 y209.1) fun y210 =>
             some (y210.1, (), ()))
             (some (false, (), ())))
            (fun y207 =>
            sm y207 (fun y211 =>
             Br (eq y190.1.2 y211.1.2)
              (ob (f_kakugyolaw22_plain_3 y190.1.1) fun y213 =>
              ob (f_kakugyolaw22_plain_1 y211.1.1) fun y214 =>
              ob (f_kakugyolaw22_like n y213.1 y214.1) fun y215 =>
              some (y215.1, (), ()))
              (some (false, (), ())))
             (fun y212 =>
             sm y212 (fun y216 =>
              Br (eq y190.1.2 y216.1.2)
               (ob (f_kakugyolaw22_plain_3 y190.1.1) fun y218 =>
               ob (f_kakugyolaw22_plain_2 y216.1.1) fun y219 =>
               ob (f_kakugyolaw22_like n y218.1 y219.1) fun y220 =>
               some (y220.1, (), ()))
               (some (false, (), ())))
              (fun y217 =>
              sm y217 (fun y221 =>
               Br (eq y190.1.2 y221.1.2)
                (ob (f_kakugyolaw22_plain_3 y190.1.1) fun y223 =>
                ob (f_kakugyolaw22_plain_3 y221.1.1) fun y224 =>
                ob (f_kakugyolaw22_like n y223.1 y224.1) fun y225 =>
                some (y225.1, (), ()))
                (some (false, (), ())))
               (fun y222 =>
               sm y222 (fun y226 =>
                Br (eq y190.1.2 y226.1.2)
                 (ob (f_kakugyolaw22_plain_3 y190.1.1) fun y228 =>
                 ob (f_kakugyolaw22_plain_4 y226.1.1 y226.2.2) fun y229 =>
                 sm y229 (fun y230 =>
                  ob (f_kakugyolaw22_like n y228.1 y230.1) fun y232 =>
                  some (y232.1, (), ()))
                  (fun y231 =>
                  ob (f_kakugyolaw22_like_1 n y228.1 y231.1 y231.2.1) fun y233 =>
                  some (y233.1, (), ())))
                 (some (false, (), ())))
                (fun y227 =>
                sm y227 (fun y234 =>
                 Br (eq y190.1.2 y234.1.2)
                  (ob (f_kakugyolaw22_plain_3 y190.1.1) fun y236 =>
                  ob (f_kakugyolaw22_plain_5 y234.1.1) fun y237 =>
                  ob (f_kakugyolaw22_like n y236.1 y237.1) fun y238 =>
                  some (y238.1, (), ()))
                  (some (false, (), ())))
                 (fun y235 =>
                 Br (eq y190.1.2 y235.1.2)
                  (ob (f_kakugyolaw22_plain_3 y190.1.1) fun y239 =>
                  ob (f_kakugyolaw22_plain_6 y235.1.1) fun y240 =>
                  ob (f_kakugyolaw22_like n y239.1 y240.1) fun y241 =>
                  some (y241.1, (), ()))
                  (some (false, (), ())))))))))
           (none))
          (fun y191 =>
          sm y191 (fun y242 =>
           Br (small ((len y19.1.2.2) + (len y19.1.2.1)))
            (ob (f_token_Parse n (cat y19.1.2.2 y19.1.2.1)) fun y257 =>
            sm y257 (fun y258 =>
             Br (eq y242.1.2 y258.1.2)
              (ob (f_kakugyolaw22_plain_4 y242.1.1 y242.2.2) fun y260 =>
              sm y260 (fun y261 =>
               ob (f_kakugyolaw22_plain) fun y263 =>
               ob (f_kakugyolaw22_like n y261.1 y263.1) fun y264 =>
               some (y264.1, (), ()))
               (fun y262 =>
               ob (f_kakugyolaw22_plain) fun y265 =>
               ob (f_kakugyolaw22_like_2 n y262.1 y265.1 y262.2.1) fun y266 =>
               some (y266.1, (), ())))
              (some (false, (), ())))
             (fun y259 =>
             sm y259 (fun y267 =>
              Br (eq y242.1.2 y267.1.2)
               (ob (f_kakugyolaw22_plain_4 y242.1.1 y242.2.2) fun y269 =>
               sm y269 (fun y270 =>
                ob (f_kakugyolaw22_plain_1 y267.1.1) fun y272 =>
                ob (f_kakugyolaw22_like n y270.1 y272.1) fun y273 =>
                some (y273.1, (), ()))
                (fun y271 =>
                ob (f_kakugyolaw22_plain_1 y267.1.1) fun y274 =>
                ob (f_kakugyolaw22_like_2 n y271.1 y274.1 y271.2.1) fun y275 =>
                some (y275.1, (), ())))
               (some (false, (), ())))
              (fun y268 =>
              sm y268 (fun y276 =>
               Br (eq y242.1.2 y276.1.2)
                (ob (f_kakugyolaw22_plain_4 y242.1.1 y242.2.2) fun y278 =>
                sm y278 (fun y279 =>
                 ob (f_kakugyolaw22_plain_2 y276.1.1) fun y281 =>
                 ob (f_kakugyolaw22_like n y279.1 y281.1) fun y282 =>
                 some (y282.1, (), ()))
                 (fun y280 =>
                 ob (f_kakugyolaw22_plain_2 y276.1.1) fun y283 =>
                 ob (f_kakugyolaw22_like_2 n y280.1 y283.1 y280.2.1) fun y284 =>
                 some (y284.1, (), ())))
                (some (false, (), ())))
               (fun y277 =>
               sm y277 (fun y285 =>
                Br (eq y242.1.2 y285.1.2)
                 (ob (f_kakugyolaw22_plain_4 y242.1.1 y242.2.2) fun y287 =>
                 sm y287 (fun y288 =>
                  ob (f_kakugyolaw22_plain_3 y285.1.1) fun y290 =>
                  ob (f_kakugyolaw22_like n y288.1 y290.1) fun y291 =>
                  some (y291.1, (), ()))
                  (fun y289 =>
                  ob (f_kakugyolaw22_plain_3 y285.1.1) fun y292 =>
                  ob (f_kakugyolaw22_like_2 n y289.1 y292.1 y289.2.1) fun y293 =>
                  some (y293.1, (), ())))
                 (some (false, (), ())))
                (fun y286 =>
                sm y286 (fun y294 =>
                 Br (eq y242.1.2 y294.1.2)
                  (ob (f_kakugyolaw22_plain_4 y242.1.1 y242.2.2) fun y296 =>
                  sm y296 (fun y297 =>
                   ob (f_kakugyolaw22_plain_4 y294.1.1 y294.2.2) fun y299 =>
                   sm y299 (fun y300 =>
                    ob (f_kakugyolaw22_like n y297.1 y300.1) fun y302 =>
                    some (y302.1, (), ()))
                    (fun y301 =>
                    ob (f_kakugyolaw22_like_1 n y297.1 y301.1 y301.2.1) fun y303 =>
                    some (y303.1, (), ())))
                   (fun y298 =>
                   ob (f_kakugyolaw22_plain_4 y294.1.1 y294.2.2) fun y304 =>
                   sm y304 (fun y305 =>
                    ob (f_kakugyolaw22_like_2 n y298.1 y305.1 y298.2.1) fun y307 =>
                    some (y307.1, (), ()))
                    (fun y306 =>
                    ob (f_kakugyolaw22_like_3 n y298.1 y306.1 y298.2.1 y306.2.1) fun y308 =>
                    some (y308.1, (), ()))))
                  (some (false, (), ())))
                 (fun y295 =>
                 sm y295 (fun y309 =>
                  Br (eq y242.1.2 y309.1.2)
                   (ob (f_kakugyolaw22_plain_4 y242.1.1 y242.2.2) fun y311 =>
                   sm y311 (fun y312 =>
                    ob (f_kakugyolaw22_plain_5 y309.1.1) fun y314 =>
                    ob (f_kakugyolaw22_like n y312.1 y314.1) fun y315 =>
                    some (y315.1, (), ()))
                    (fun y313 =>
                    ob (f_kakugyolaw22_plain_5 y309.1.1) fun y316 =>
                    ob (f_kakugyolaw22_like_2 n y313.1 y316.1 y313.2.1) fun y317 =>
                    some (y317.1, (), ())))
                   (some (false, (), ())))
                  (fun y310 =>
                  Br (eq y242.1.2 y310.1.2)
                   (ob (f_kakugyolaw22_plain_4 y242.1.1 y242.2.2) fun y318 =>
                   sm y318 (fun y319 =>
                    ob (f_kakugyolaw22_plain_6 y310.1.1) fun y321 =>
                    ob (f_kakugyolaw22_like n y319.1 y321.1) fun y322 =>
                    some (y322.1, (), ()))
                    (fun y320 =>
                    ob (f_kakugyolaw22_plain_6 y310.1.1) fun y323 =>
                    ob (f_kakugyolaw22_like_2 n y320.1 y323.1 y320.2.1) fun y324 =>
                    some (y324.1, (), ())))
                   (some (false, (), ())))))))))
            (none))
           (fun y243 =>
           sm y243 (fun y325 =>
            Br (small ((len y19.1.2.2) + (len y19.1.2.1)))
             (ob (f_token_Parse n (cat y19.1.2.2 y19.1.2.1)) fun y340 =>
             sm y340 (fun y341 =>
              Br (eq y325.1.2 y341.1.2)
               (ob (f_kakugyolaw22_plain_5 y325.1.1) fun y343 =>
               ob (f_kakugyolaw22_plain) fun y344 =>
               ob (f_kakugyolaw22_like n y343.1 y344.1) fun y345 =>
               some (y345.1, (), ()))
               (some (false, (), ())))
              (fun y342 =>
              sm y342 (fun y346 =>
               Br (eq y325.1.2 y346.1.2)
                (ob (f_kakugyolaw22_plain_5 y325.1.1) fun y348 =>
                ob (f_kakugyolaw22_plain_1 y346.1.1) fun y349 =>
                ob (f_kakugyolaw22_like n y348.1 y349.1) fun y350 =>
                some (y350.1, (), ()))
                (some (false, (), ())))
               (fun y347 =>
               sm y347 (fun y351 =>
                Br (eq y325.1.2 y351.1.2)
                 (ob (f_kakugyolaw22_plain_5 y325.1.1) fun y353 =>
                 ob (f_kakugyolaw22_plain_2 y351.1.1) fun y354 =>
                 ob (f_kakugyolaw22_like n y353.1 y354.1) fun y355 =>
                 some (y355.1, (), ()))
                 (some (false, (), ())))
                (fun y352 =>
                sm y352 (fun y356 =>
                 Br (eq y325.1.2 y356.1.2)
                  (ob (f_kakugyolaw22_plain_5 y325.1.1) fun y358 =>
                  ob (f_kakugyolaw22_plain_3 y356.1.1) fun y359 =>
                  ob (f_kakugyolaw22_like n y358.1 y359.1) fun y360 =>
                  some (y360.1, (), ()))
                  (some (false, (), ())))
                 (fun y357 =>
                 sm y357 (fun y361 =>
                  Br (eq y325.1.2 y361.1.2)
                   (ob (f_kakugyolaw22_plain_5 y325.1.1) fun y363 =>
                   ob (f_kakugyolaw22_plain_4 y361.1.1 y361.2.2) fun y364 =>
                   sm y364 (fun y365 =>
                    ob (f_kakugyolaw22_like n y363.1 y365.1) fun y367 =>
                    some (y367.1, (), ()))
                    (fun y366 =>
                    ob (f_kakugyolaw22_like_1 n y363.1 y366.1 y366.2.1) fun y368 =>
                    some (y368.1, (), ())))
                   (some (false, (), ())))
                  (fun y362 =>
                  sm y362 (fun y369 =>
                   Br (eq y325.1.2 y369.1.2)
                    (ob (f_kakugyolaw22_plain_5 y325.1.1) fun y371 =>
                    ob (f_kakugyolaw22_plain_5 y369.1.1) fun y372 =>
                    ob (f_kakugyolaw22_like n y371.1 y372.1) fun y373 =>
                    some (y373.1, (), ()))
                    (some (false, (), ())))
                   (fun y370 =>
                   Br (eq y325.1.2 y370.1.2)
                    (ob (f_kakugyolaw22_plain_5 y325.1.1) fun y374 =>
                    ob (f_kakugyolaw22_plain_6 y370.1.1) fun y375 =>
                    ob (f_kakugyolaw22_like n y374.1 y375.1) fun y376 =>
                    some (y376.1, (), ()))
                    (some (false, (), ())))))))))
             (none))
            (fun y326 =>
            Br (small ((len y19.1.2.2) + (len y19.1.2.1)))
             (ob (f_token_Parse n (cat y19.1.2.2 y19.1.2.1)) fun y390 =>
             sm y390 (fun y391 =>
              Br (eq y326.1.2 y391.1.2)
               (ob (f_kakugyolaw22_plain_6 y326.1.1) fun y393 =>
               ob (f_kakugyolaw22_plain) fun y394 =>
               ob (f_kakugyolaw22_like n y393.1 y394.1) fun y395 =>
               some (y395.1, (), ()))
               (some (false, (), ())))
              (fun y392 =>
              sm y392 (fun y396 =>
               Br (eq y326.1.2 y396.1.2)
                (ob (f_kakugyolaw22_plain_6 y326.1.1) fun y398 =>
                ob (f_kakugyolaw22_plain_1 y396.1.1) fun y399 =>
                ob (f_kakugyolaw22_like n y398.1 y399.1) fun y400 =>
                some (y400.1, (), ()))
                (some (false, (), ())))
               (fun y397 =>
               sm y397 (fun y401 =>
                Br (eq y326.1.2 y401.1.2)
                 (ob (f_kakugyolaw22_plain_6 y326.1.1) fun y403 =>
                 ob (f_kakugyolaw22_plain_2 y401.1.1) fun y404 =>
                 ob (f_kakugyolaw22_like n y403.1 y404.1) fun y405 =>
                 some (y405.1, (), ()))
                 (some (false, (), ())))
                (fun y402 =>
                sm y402 (fun y406 =>
                 Br (eq y326.1.2 y406.1.2)
                  (ob (f_kakugyolaw22_plain_6 y326.1.1) fun y408 =>
                  ob (f_kakugyolaw22_plain_3 y406.1.1) fun y409 =>
                  ob (f_kakugyolaw22_like n y408.1 y409.1) fun y410 =>
                  some (y410.1, (), ()))
                  (some (false, (), ())))
                 (fun y407 =>
                 sm y407 (fun y411 =>
                  Br (eq y326.1.2 y411.1.2)
                   (ob (f_kakugyolaw22_plain_6 y326.1.1) fun y413 =>
                   ob (f_kakugyolaw22_plain_4 y411.1.1 y411.2.2) fun y414 =>
                   sm y414 (fun y415 =>
                    ob (f_kakugyolaw22_like n y413.1 y415.1) fun y417 =>
                    some (y417.1, (), ()))
                    (fun y416 =>
                    ob (f_kakugyolaw22_like_1 n y413.1 y416.1 y416.2.1) fun y418 =>
                    some (y418.1, (), ())))
                   (some (false, (), ())))
                  (fun y412 =>
                  sm y412 (fun y419 =>
                   Br (eq y326.1.2 y419.1.2)
                    (ob (f_kakugyolaw22_plain_6 y326.1.1) fun y421 =>
                    ob (f_kakugyolaw22_plain_5 y419.1.1) fun y422 =>
                    ob (f_kakugyolaw22_like n y421.1 y422.1) fun y423 =>
                    some (y423.1, (), ()))
                    (some (false, (), ())))
                   (fun y420 =>
                   Br (eq y326.1.2 y420.1.2)
                    (ob (f_kakugyolaw22_plain_6 y326.1.1) fun y424 =>
                    ob (f_kakugyolaw22_plain_6 y420.1.1) fun y425 =>
                    ob (f_kakugyolaw22_like n y424.1 y425.1) fun y426 =>
                    some (y426.1, (), ()))
                    (some (false, (), ())))))))))
             (none))))))))))))
def f_kakugyolaw22_TokenBlanks_c (n : Nat) : Cf := ⟨.c (.t (.s) []) (.t (.s) []), .e, [⟨.t (.b) [], .e, .e⟩], fun x => f_kakugyolaw22_TokenBlanks n x.1.1 x.1.2⟩
def f_kakugyolaw22_TokenBlanks_l0_c (n : Nat) : Cs := ⟨0, [], ⟨[0, 1, 28, 29], .c (.t (.s) []) (.c (.t (.s) []) (.c (.t (.i .i64) []) (.t (.i .i64) []))), .e⟩, [⟨1, ⟨[4], .t (.b) [], .e⟩⟩, ⟨0, ⟨[0, 1], .c (.t (.s) []) (.t (.s) []), .e⟩⟩], fun v => f_kakugyolaw22_TokenBlanks_l0 n v.1.1 v.1.2.1 v.1.2.2.1 v.1.2.2.2⟩
def f_kakugyolaw22_TokenBlanks_l2_c (n : Nat) : Cs := ⟨0, [], ⟨[0, 1, 6, 51, 52], .c (.t (.s) []) (.c (.t (.s) []) (.c (.t (.s) []) (.c (.t (.i .i64) []) (.t (.i .i64) [])))), .e⟩, [⟨0, ⟨[0, 1, 6], .c (.t (.s) []) (.c (.t (.s) []) (.t (.s) [])), .e⟩⟩], fun v => f_kakugyolaw22_TokenBlanks_l2 n v.1.1 v.1.2.1 v.1.2.2.1 v.1.2.2.2.1 v.1.2.2.2.2⟩
def f_kakugyolaw22_TokenBlanks_e (n : Nat) : Env := en [(8, f_kakugyolaw22_reads_c n), (11, f_token_Parse_c n), (15, f_kakugyolaw22_plain_c n), (14, f_kakugyolaw22_like_c n), (15, f_kakugyolaw22_plain_1_c n), (15, f_kakugyolaw22_plain_2_c n), (15, f_kakugyolaw22_plain_3_c n), (15, f_kakugyolaw22_plain_4_c n), (14, f_kakugyolaw22_like_1_c n), (15, f_kakugyolaw22_plain_5_c n), (15, f_kakugyolaw22_plain_6_c n), (14, f_kakugyolaw22_like_2_c n), (14, f_kakugyolaw22_like_3_c n)] [] [] [(0, f_kakugyolaw22_TokenBlanks_l0_c n), (2, f_kakugyolaw22_TokenBlanks_l2_c n)]
theorem f_kakugyolaw22_TokenBlanks_a (X : Cx Tryz.prog K Gl) (n : Nat) : FAll Tryz.prog K Gl [(8, f_kakugyolaw22_reads_c n), (11, f_token_Parse_c n), (15, f_kakugyolaw22_plain_c n), (14, f_kakugyolaw22_like_c n), (15, f_kakugyolaw22_plain_1_c n), (15, f_kakugyolaw22_plain_2_c n), (15, f_kakugyolaw22_plain_3_c n), (15, f_kakugyolaw22_plain_4_c n), (14, f_kakugyolaw22_like_1_c n), (15, f_kakugyolaw22_plain_5_c n), (15, f_kakugyolaw22_plain_6_c n), (14, f_kakugyolaw22_like_2_c n), (14, f_kakugyolaw22_like_3_c n)] := (fcons (f_kakugyolaw22_reads_ok X n) (fcons (f_token_Parse_ok X n) (fcons (f_kakugyolaw22_plain_ok X n) (fcons (f_kakugyolaw22_like_ok X n) (fcons (f_kakugyolaw22_plain_1_ok X n) (fcons (f_kakugyolaw22_plain_2_ok X n) (fcons (f_kakugyolaw22_plain_3_ok X n) (fcons (f_kakugyolaw22_plain_4_ok X n) (fcons (f_kakugyolaw22_like_1_ok X n) (fcons (f_kakugyolaw22_plain_5_ok X n) (fcons (f_kakugyolaw22_plain_6_ok X n) (fcons (f_kakugyolaw22_like_2_ok X n) (fcons (f_kakugyolaw22_like_3_ok X n) fnil)))))))))))))
theorem f_kakugyolaw22_TokenBlanks_l0_k (n : Nat) (p : Nat) (v : (f_kakugyolaw22_TokenBlanks_l0_c n).s.X) : run (f_kakugyolaw22_TokenBlanks_e n) (lbody 0 (bodyOf Tryz.f5)) ((f_kakugyolaw22_TokenBlanks_l0_c n).s.st Tryz.f5.ntmps v) (kloop 0 (f_kakugyolaw22_TokenBlanks_l0_c n) (fun v => f_kakugyolaw22_TokenBlanks_l0_i n p v.1.1 v.1.2.1 v.1.2.2.1 v.1.2.2.2)) = f_kakugyolaw22_TokenBlanks_l0_i n (p + 1) v.1.1 v.1.2.1 v.1.2.2.1 v.1.2.2.2 := by kernel_rfl
theorem f_kakugyolaw22_TokenBlanks_l0_o (X : Cx Tryz.prog K Gl) (n : Nat) : SO Tryz.prog K Gl Tryz.f5.ntmps 0 (.block 0 (.loop (lbody 0 (bodyOf Tryz.f5)))) (f_kakugyolaw22_TokenBlanks_l0_c n) := loop_ok (E := f_kakugyolaw22_TokenBlanks_e n) (os := []) (s := f_kakugyolaw22_TokenBlanks_l0_c n) (n := n) X (tok _ _ _ _) rfl (f_kakugyolaw22_TokenBlanks_a X n) snil (by kernel_rfl) rfl (fun p (v : (f_kakugyolaw22_TokenBlanks_l0_c n).s.X) => f_kakugyolaw22_TokenBlanks_l0_i n p v.1.1 v.1.2.1 v.1.2.2.1 v.1.2.2.2) (fun _ => rfl) (f_kakugyolaw22_TokenBlanks_l0_k n) (fun _ => rfl)
theorem f_kakugyolaw22_TokenBlanks_l2_k (n : Nat) (p : Nat) (v : (f_kakugyolaw22_TokenBlanks_l2_c n).s.X) : run (f_kakugyolaw22_TokenBlanks_e n) (lbody 2 (bodyOf Tryz.f5)) ((f_kakugyolaw22_TokenBlanks_l2_c n).s.st Tryz.f5.ntmps v) (kloop 2 (f_kakugyolaw22_TokenBlanks_l2_c n) (fun v => f_kakugyolaw22_TokenBlanks_l2_i n p v.1.1 v.1.2.1 v.1.2.2.1 v.1.2.2.2.1 v.1.2.2.2.2)) = f_kakugyolaw22_TokenBlanks_l2_i n (p + 1) v.1.1 v.1.2.1 v.1.2.2.1 v.1.2.2.2.1 v.1.2.2.2.2 := by kernel_rfl
theorem f_kakugyolaw22_TokenBlanks_l2_o (X : Cx Tryz.prog K Gl) (n : Nat) : SO Tryz.prog K Gl Tryz.f5.ntmps 0 (.block 2 (.loop (lbody 2 (bodyOf Tryz.f5)))) (f_kakugyolaw22_TokenBlanks_l2_c n) := loop_ok (E := f_kakugyolaw22_TokenBlanks_e n) (os := []) (s := f_kakugyolaw22_TokenBlanks_l2_c n) (n := n) X (tok _ _ _ _) rfl (f_kakugyolaw22_TokenBlanks_a X n) snil (by kernel_rfl) rfl (fun p (v : (f_kakugyolaw22_TokenBlanks_l2_c n).s.X) => f_kakugyolaw22_TokenBlanks_l2_i n p v.1.1 v.1.2.1 v.1.2.2.1 v.1.2.2.2.1 v.1.2.2.2.2) (fun _ => rfl) (f_kakugyolaw22_TokenBlanks_l2_k n) (fun _ => rfl)
theorem f_kakugyolaw22_TokenBlanks_k (n : Nat) (x : (f_kakugyolaw22_TokenBlanks_c n).a.X × (f_kakugyolaw22_TokenBlanks_c n).b.X) : run (f_kakugyolaw22_TokenBlanks_e n) (bodyOf Tryz.f5) (entry Tryz.f5.ntmps ((f_kakugyolaw22_TokenBlanks_c n).a.enc x.1) ((f_kakugyolaw22_TokenBlanks_c n).b.enc x.2)) (kfin (f_kakugyolaw22_TokenBlanks_e n) Tryz.f5 (f_kakugyolaw22_TokenBlanks_c n) (f_kakugyolaw22_TokenBlanks_c n).b.n) = (f_kakugyolaw22_TokenBlanks_c n).f x := by kernel_rfl
theorem f_kakugyolaw22_TokenBlanks_ok (X : Cx Tryz.prog K Gl) (n : Nat) : FOk Tryz.prog K Gl 5 (f_kakugyolaw22_TokenBlanks_c n) := func_ok (E := f_kakugyolaw22_TokenBlanks_e n) (fn := Tryz.f5) (cf := (f_kakugyolaw22_TokenBlanks_c n)) (os := [(.block 0 (.loop (lbody 0 (bodyOf Tryz.f5))), f_kakugyolaw22_TokenBlanks_l0_c n), (.block 2 (.loop (lbody 2 (bodyOf Tryz.f5))), f_kakugyolaw22_TokenBlanks_l2_c n)]) X (tok _ _ _ _) rfl (f_kakugyolaw22_TokenBlanks_a X n) (scons (f_kakugyolaw22_TokenBlanks_l0_o X n) (scons (f_kakugyolaw22_TokenBlanks_l2_o X n) snil)) (by kernel_rfl) Tryz.func5 (by kernel_rfl) (f_kakugyolaw22_TokenBlanks_k n)
end Go.AM.T
